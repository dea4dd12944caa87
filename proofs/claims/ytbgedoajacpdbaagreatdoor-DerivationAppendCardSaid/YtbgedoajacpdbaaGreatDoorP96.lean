/- Plain lemmas: what the functions of the program and of the reference compute. -/
import Derived.Test.YtbgedoajacpdbaaGreatDoorSfF
import Derived.Test.YtbgedoajacpdbaaGreatDoorP46
set_option linter.all false
set_option maxRecDepth 100000
namespace Go.Sf.Sc
open Go Go.Sf
def Q8(p g:d4)(m:d6):d4:=⟨m.d3.map (AA g.d3),p.d5⟩
variable{l:Fp}
theorem OJ{n x:Int}:x∈BC l n↔(0<=x/\x<n)/\x∉l:=by
 unfold BC;rw[List.mem_filter];constructor
 .grind[Int.natCast_nonneg,CL]
 .rintro⟨⟨e,f⟩,j⟩;refine⟨List.mem_map.2 ⟨x.toNat,List.mem_range.2 (by omega),Int.toNat_of_nonneg e⟩,?_⟩
  grind [hasB,CL]
theorem Lf(l:Fp)(n:Int):(BC l n).Pairwise (·<·):=by grind[BC,List.pairwise_lt_range.imp]
def EM(images jj:Fp):Fp:=(BC jj images.length).map (AA images)
theorem R9{images jj:Fp}{x:Int}:x∈EM images jj↔∃i:Int,(0<=i/\i<images.length)/\i∉jj/\AA images i=x:=by grind[EM,OJ]
def AaI(images jj:Fp):Bool:=o4 (fun a=>o4 (fun b=>decide (AA images a=AA images b)&&(!hasB jj a||!hasB jj b)) (a+1) images.length) 0 images.length
variable{a b:Int}
theorem aa{images jj:Fp}(h:AaI images jj=false)(a0:0<=a)(a1:a<images.length)(s:0<=b)(q:b<images.length)(u:a∈jj)(e:AA images a=AA images b):b∈jj:=by
 unfold AaI at h;rw[Bc]at h;by_cases j:a=b
 .exact j▸u
 by_cases w:a<b
 .have f:=h a a0 a1;rw[Bc]at f;have o:=f b (by omega) q;rw[decide_eq_true e,Bool.true_and,Bool.or_eq_false_iff]at o
  grind [CL]
 .have f:=h b s q;rw[Bc]at f;have o:=f a (by omega) a1;rw[decide_eq_true e.symm,Bool.true_and,Bool.or_eq_false_iff]at o
  grind [CL]
variable{i:Int}
theorem SB{images jj:Fp}(h:AaI images jj=false)(e:0<=i)(f:i<images.length)(j:i∈jj):AA images i∉EM images jj:=by grind[R9,aa]
def Lv(g:d4)(jj:BB)(m:d6)(i:Int):Bool:=
 !hasB m.d5 i&&(hasB (EM m.d3 jj.d3) (AA g.d5 i).ns||hasB (EM m.d3 jj.d3) (AA g.d5 i).To)
def LD(g:d4)(jj:BB)(m:d6):BB:=⟨BC (EM m.d3 jj.d3) g.d3.length,BC (EM m.d5 jj.d5) g.d5.length⟩
def Ls(l g:d4)(jj:BB)(m:d6):BB×Int:=
 if IR l g m≠0 then(⟨[],[]⟩,IR l g m)else if EN l jj≠0 then(⟨[],[]⟩,EN l jj)else
 if (AaI m.d3 jj.d3||AaI m.d5 jj.d5)=true then(⟨[],[]⟩,15)else
 if o4 (Lv g jj m) 0 g.d5.length=true then(⟨[],[]⟩,14)else(LD g jj m,0)
structure Wy(l g:d4)(jj:BB)(m:d6):Prop where
 mor:Wf l g m
 part:W6 l jj
 ei:AaI m.d3 jj.d3=false
 em:AaI m.d5 jj.d5=false
 free:∀i:Int,0<=i->i<g.d5.length->Lv g jj m i=false
variable{g:d4}
theorem gA{p:BB}(h:EN g p=0):Bk g=0/\M8 g p=0:=by grind[EN]
theorem VA{l g:d4}{jj:BB}{m:d6}(h:(Ls l g jj m).2=0):Wy l g jj m/\Ls l g jj m=(LD g jj m,0):=by
 unfold Ls at h|-;split at h
 .grind
 rename_i f;rw[az f];split at h
 .grind
 rename_i j;rw[az j];split at h
 .grind
 rename_i e;rw[az e];split at h
 .grind
 rename_i o;rw[az o];simp[not_or]at e;exact⟨⟨Sl (Classical.not_not.1 f),Ul (gA (Classical.not_not.1 j)).2,e.1,e.2,Bc.1 (by simpa using o)⟩,rfl⟩
theorem dr{l g:d4}{jj:BB}{m:d6}(h:Wy l g jj m):M8 g (LD g jj m)=0:=by
 have u:=h.mor;have G:=u.gb;have H:∀x∈(LD g jj m).d3,0<=x/\x<g.d3.length:=fun x o=>Hh o;have I:∀x∈(LD g jj m).d5,0<=x/\x<g.d5.length:=fun x o=>Hh o;have j:∀{l:Fp}{n:Int},(∀x∈l,0<=x/\x<n)->l.Pairwise (·<·)->Oe l n=0:=by
  grind [Oe,B2,AJ,Kj]
 unfold M8;rw[j H (Lf _ _),j I (Lf _ _)];simp;rw[B2.2 fun i E F=>?_]
 .rfl
 have o:=AJ E F;generalize AA (LD g jj m).d5 i=x at o;have f:(0<=x/\x<g.d5.length)/\x∉EM m.d5 jj.d5:=OJ.1 o;have hf:=G.fit _ (AJ f.1.1 f.1.2);have w:(AA g.d5 x).ns∉EM m.d3 jj.d3/\(AA g.d5 x).To∉EM m.d3 jj.d3:=by
  by_cases hi:x∈m.d5
  .obtain⟨k,z,D,e⟩:=BW hi;have q:k∈jj.d5:=by
    by_cases q:k∈jj.d5
    .exact q
    .exact absurd (R9.2 ⟨k,⟨z,D⟩,q,e⟩) f.2
   have ends:=h.part.ends k q;have he:=u.edge k z D;rw[e]at he;have y:=h.part.ei.1;have J:=y _ ends.1;have K:=y _ ends.2;have O:=u.AaH;rw[<-he.2.2.1,<-he.2.2.2];exact⟨SB h.ei J.1 (by omega) ends.1,SB h.ei K.1 (by omega) ends.2⟩
  .have hd:=h.free x f.1.1 f.1.2;unfold Lv at hd;rw[show hasB m.d5 x=false from by cases N:hasB m.d5 x with|false=>rfl|true=>exact absurd (CL.1 N) hi,Bool.not_false,Bool.true_and,Bool.or_eq_false_iff]at hd;exact⟨fun s=>by rw[CL.2 s]at hd;exact absurd hd.1 (by decide),fun s=>by rw[CL.2 s]at hd;exact absurd hd.2 (by decide)⟩
 grind [hasB,LD,AA,CL,OJ]
def Gy(n:Nat)(l:Fp):Fp:=(Ao n).map (C0 l)
variable{v:Int}
theorem VJ(h:v∉l):C0 l v=-1:=by grind[C0,B2,AJ]
theorem OR(l:Fp)(v:Int):-1<=C0 l v/\C0 l v<l.length:=by
 by_cases h:v∈l
 .have:=IP h;omega
 .rw[VJ h];omega
theorem L4:0<=C0 l v↔v∈l:=by grind[VJ,IP]
theorem Ip(n:Nat)(l:Fp):(Gy n l).length=n:=by unfold Gy;rw[ca,A3]
variable{n:Nat}
theorem Tq(e:0<=i)(f:i<n):AA (Gy n l) i=C0 l i:=HI _ e f
theorem Xh(h:l.Nodup)(e:0<=i)(f:i<l.length):C0 l (AA l i)=i:=by
 have j:=IP (AJ e f)
 grind [C0,AA,Kj]
def Og(jj into at_:Fp)(n i:Int):Int:=if hasB into i=true then AA at_ (AA jj (C0 into i))else n+(BC into i).length
def Ry(count:Nat)(jj into at_:Fp)(n:Int):Fp:=(Ao count).map (Og jj into at_ n)
theorem U9(count:Nat)(jj into at_:Fp)(n:Int):(Ry count jj into at_ n).length=count:=by unfold Ry;rw[ca,A3]
variable{count:Nat}
theorem cO{jj into at_:Fp}{n i:Int}(e:0<=i)(f:i<count):AA (Ry count jj into at_ n) i=Og jj into at_ n i:=HI _ e f
theorem JU(h:0<=i):((BC l i).length:Int)<=i:=by grind[PT]
end Go.Sf.Sc
namespace Go.Sf.Sc
open Go Go.Sf
variable{α:Type}
theorem Tn{P:List α->Prop}(e:P [])(f:∀l a,P l->P (l++[a]))(l:List α):P l:=by
 have:∀l:List α,P l.reverse:=by
  intro l
  induction l with
  |nil=>exact e|cons a l j=>rw[List.reverse_cons];exact f _ _ j
 rw [<-List.reverse_reverse l];exact this _
def N3(L:BD):BD:=L.foldl (fun m p=>m.set p.1 p.2) []
theorem Xo(L:BD)(p:(Int×Int)×Int):N3 (L++[p])=(N3 L).set p.1 p.2:=by
 unfold N3
 grind
def QK(L:BD):Prop:=∀p∈L,∀q∈L,p.1=q.1->p.2=q.2
variable{k:Int×Int}{v:Int}
theorem SC:∀{m:BD},m.look k=some v->(k,v)∈m
 |[],h=>by cases h
 |p::r,h=>by
  unfold BD.look at h;split at h
  .grind
  .exact List.mem_cons_of_mem _ (SC h)
theorem Vz:∀{m:BD},m.look k=none->∀p∈m,p.1≠k
 |[],_,p,f=>by cases f
 |q::r,h,p,f=>by
  unfold BD.look at h;split at h
  .cases h
  .rename_i e;rcases List.mem_cons.1 f with rfl|f
   .exact e
   .exact Vz h p f
theorem Zv:∀{m:BD},m.look k=none->m.set k v=m++[(k,v)]
 |[],_=>rfl|p::r,h=>by
  unfold BD.look at h;unfold BD.set;split at h
  .cases h
  .rename_i e;rw[az e,Zv h];rfl
theorem YT:∀{m:BD},m.look k=some v->m.set k v=m
 |[],h=>by cases h
 |p::r,h=>by
  unfold BD.look at h;unfold BD.set;split at h
  .grind
  .rename_i e;rw[az e,YT h]
theorem aV(V:List Fp)(p:(Int×Int)×Int):CT (CT V p) p=CT V p:=by
 unfold CT;split
 .apply List.ext_getElem?
  grind [Option.map_eq_map,Option.map_map,List.set_set]
 .rfl
theorem fS{m:BD}(hd:m.Dis){p:(Int×Int)×Int}(e:p∈m)(V:List Fp):CT (m.foldl CT V) p=m.foldl CT V:=by
 have f:m.Perm (m.erase p++[p]):=(List.perm_cons_erase e).trans (List.perm_append_singleton p (m.erase p)).symm;rw[<-UE hd f V,List.foldl_append];exact aV _ _
theorem QK.sub{L M:BD}(h:QK L)(e:∀p∈M,p∈L):QK M:=fun p f q j=>h p (e p f) q (e q j)
theorem ZZ(L:BD):QK L->(N3 L).Dis/\(∀p,p∈N3 L↔p∈L)/\∀V,(N3 L).foldl CT V=L.foldl CT V:=by
 refine Tn (P:=fun L=>QK L->(N3 L).Dis/\(∀p,p∈N3 L↔p∈L)/\∀V,(N3 L).foldl CT V=L.foldl CT V) (fun _=>⟨List.Pairwise.nil,fun p=>Iff.rfl,fun V=>rfl⟩) (fun L p f e=>?_) L;obtain⟨w,u,y⟩:=f (e.sub fun q j=>List.mem_append_left _ j);rw[Xo];cases o:(N3 L).look p.1 with
 |none=>
  grind [Zv,BD.set_dis]
 |some v=>
  have s:=SC o;have hv:v=p.2:=e (p.1,v) (List.mem_append_left _ ((u _).1 s)) p (by simp) rfl
  grind [YT,List.mem_singleton,fS]
def N9(L:BD):Bool:=o4 (fun i=>o4 (fun k=>decide ((AA L k).1=(AA L i).1)&&!decide ((AA L k).2=(AA L i).2)) 0 i) 0 L.length
variable{L:BD}
theorem Va(h:N9 L=false):QK L:=by
 intro p o q s e;obtain⟨a,a0,a1,rfl⟩:=BW o;obtain⟨b,u,w,rfl⟩:=BW s;unfold N9 at h;rw[Bc]at h;by_cases f:a=b
 .rw[f]
 by_cases y:a<b
 .have j:=h b u w;rw[Bc]at j
  grind
 .have j:=h a a0 a1;rw[Bc]at j
  grind
theorem Xa(L:BD)(V:List Fp):KD (L.foldl CT V) V:=by
 induction L generalizing V with
 |nil=>rfl|cons p r e=>exact(e (CT V p)).trans (Vf V p)
end Go.Sf.Sc
namespace Go.Sf.Sc
open Go Go.Sf
variable{t:AC}{p g:d4}{inj:Bool}
theorem Rv{m:d6}(h:F8 t p g m inj=0):Fc t p g=0/\NP t p g m=0/\VV t p g m:=by grind[XI,F8]
theorem cN{m:d6}(h:F8 t p g m inj=0):F8 t p g m false=0:=by grind[Rv,F8]
variable{α:Type}
theorem PX[Inhabited α](l:List α):(Ao l.length).map (AA l)=l:=by grind[cK,ca,A3,HI]
variable{β:Type}
theorem cj[Inhabited α](l:List α)(f:α->β):l.map f=(Ao l.length).map fun j=>f (AA l j):=by
 rw [show(fun j=>f (AA l j))=f∘AA l from rfl,<-List.map_map,PX]
theorem nd(hf:At t){m:d6}(h:F8 t p g m inj=0):D7 t p g m=some (Q8 p g m,0):=by
 obtain ⟨e,q,f⟩:=Rv h;obtain⟨_,j,w,_⟩:=Mn e;unfold D7;rw[VP hf,bs,az (by simp[e]),V5 hf e,bs,az (by simp[q])];unfold DK;have:=j.ei;have:=j.em;have:=f.AaH;rw[BE (by unfold Ad;omega),bs];rw[Q3 (by omega) (fun x o=>?_) p.d5]
 .rfl
 .obtain⟨i,s,u,rfl⟩:=BW o;exact(f.node i s u).1
theorem oE(hf:At t){m:d6}(h:F8 t p g m inj=0):IX t p g m=some (Q8 p g m,0):=by
 obtain ⟨w,z,s⟩:=Rv h;obtain⟨_,u,D,_⟩:=Mn w;have:=u.ei;have:=u.em;have y:=s.AaH;unfold IX IU;rw[VQ hf,bs,az (by simp[cN h]),BE (by unfold Ad;omega),bs,BE (by unfold Ad;omega),bs,bs];rw[Oz (fun i=>d4.mk ((Ao p.d3.length).map fun j=>if j<i then AA g.d3 (AA m.d3 j)else AA p.d3 j) p.d5) (a:=0) (b:=p.d3.length) (by omega)]
 .have e:((Ao p.d3.length).map fun j=>if j<(p.d3.length:Int)then AA g.d3 (AA m.d3 j)else AA p.d3 j)=m.d3.map (AA g.d3):=by
   grind [cj,CI]
  rw [e];rfl
 .congr 1;rw[<-PX p.d3,ca,A3]
  grind [CI,PX]
 .intro i f o;have q:=s.node i f (by omega);simp[A3];rw[ae (by simpa using o),AD f (by omega),bs,AD q.1.1 q.1.2,bs,AD f (by rw[ca,A3];exact o),bs,Gd _ f,As (by omega) (by omega)]
  grind
 grind [ca,A3]
variable{n:Nat}
theorem LX{f:Int->List α->Option (List α)}(q:Int->Bool)(F:Int->α)(h:∀i s,0<=i->i<(n:Int)->s.length<=i.toNat->f i s=some (if q i=true then s++[F i]else s)):sr f 0 n []=some (((Ao n).filter q).map F):=by
 have e:∀k:Nat,(((Ao k).filter q).map F).length<=k:=fun k=>by
  rw [ca];exact Nat.le_trans (List.length_filter_le _ _) (by rw[A3];exact bk _)
 have:=Bj (f:=f) (s:=[]) (fun i=>((Ao i.toNat).filter q).map F) (a:=0) (b:=n) (by omega) rfl (fun i j o=>by
  grind [Fa])
 grind
theorem XU{q:Int->Bool}{F:Int->α}:decide (0<((((Ao n).filter q).map F).length:Int))=o4 q 0 n:=by
 rw [Bool.eq_iff_iff,zzX,Dy,ca];constructor
 .intro h;have f:(Ao n).filter q≠[]:=fun e=>by rw[e]at h;simp at h
  obtain ⟨x,u⟩:=List.exists_mem_of_ne_nil _ f
  grind [EU]
 .rintro⟨i,j,o,s⟩;have:i∈(Ao n).filter q:=List.mem_filter.2 ⟨EU.2 ⟨j,o⟩,s⟩
  grind
theorem dA{x:Ba}(e:x.m.d3.length<=1000):C7 x=some (EM x.m.d3 x.jj.d3):=by
 unfold C7;rw[LX (fun i=>!hasB x.jj.d3 i) (AA x.m.d3)]
 .rfl
 grind [AD,Kd,hasB,Ae,Ad]
theorem Tc{images jj:Fp}(e:images.length<=1000):I1 images jj=some (EM images jj):=by
 unfold I1;rw[LX (fun i=>!hasB jj i) (AA images)]
 .rfl
 grind [Dg,hasB,Mp,AD,Ae,Ad]
theorem bC{x:Ba}(e:x.m.d3.length<=1000)(he:x.g.d5.length<=1000):Cy x=some ((Ao x.g.d5.length).filter (Lv x.g x.jj x.m)):=by
 unfold Cy;rw[dA e,bs,LX (Lv x.g x.jj x.m) id]
 .rw[bs,List.map_id]
 .intro i s f j o;rw[AD f j,bs,Kd,bs,Kd,bs,Kd,bs];unfold Lv;change (if(!hasB x.m.d5 i)=true then(if hasB (EM x.m.d3 x.jj.d3) (AA x.g.d5 i).ns=true then some true else some (hasB (EM x.m.d3 x.jj.d3) (AA x.g.d5 i).To)).bind _ else some false).bind _=_;cases hasB x.m.d5 i<;>cases hasB (EM x.m.d3 x.jj.d3) (AA x.g.d5 i).ns<;>cases hasB (EM x.m.d3 x.jj.d3) (AA x.g.d5 i).To<;>simp[Ae (show s.length+[i].length<=Ad by simp;unfold Ad;omega)]
theorem bJ{l g:d4}{jj:BB}{m:d6}(e:m.d3.length<=1000)(he:g.d5.length<=1000):IW l g jj m=some ((Ao g.d5.length).filter (Lv g jj m)):=by
 unfold IW;rw[Tc e,bs,LX (Lv g jj m) id]
 .rw[bs,List.map_id]
 .intro i s f j o;have hh:∀(l:Fp)(v:Int),Dg l v=some (hasB l v):=Mp;simp[AD f j,hh];unfold Lv;cases hasB m.d5 i<;>cases hasB (EM m.d3 jj.d3) (AA g.d5 i).ns<;>cases hasB (EM m.d3 jj.d3) (AA g.d5 i).To<;>simp[Ae (show s.length+[i].length<=Ad by simp;unfold Ad;omega)]
variable{a i:Int}
theorem O4{p:Int->Bool}(h:a<=i):o4 p a (i+1)=(o4 p a i||p i):=by
 rw [Bool.eq_iff_iff,Bool.or_eq_true,Dy,Dy]
 grind
theorem Uk{images jj:Fp}(I:images.length<=100){f:Int->Int->List F5->Option (List F5)}(hf:∀(i j:Int)s,0<=i->i<images.length->i<j->j<images.length->s.length<=20000->f i j s=some (if(decide (AA images i=AA images j)&&(!hasB jj i||!hasB jj j))=true then s++[F5.mk i j]else s)):
  ∃l,sr (fun(e:Int)(q:List F5)=>(sr (fun(o:Int)(s2:List F5)=>f e o s2) (Af (e+1)) (images.length:Int) q).bind fun s2=>some s2) 0 (images.length:Int) []=some l/\l.length<=10000/\decide (0<l.length)=AaI images jj:=by
 have key:=Qz (f:=fun(e:Int)(q:List F5)=>(sr (fun(o:Int)(s2:List F5)=>f e o s2) (Af (e+1)) (images.length:Int) q).bind fun s2=>some s2) (s:=[])
  (fun i s=>(s.length:Int)<=100*i/\decide (0<s.length)=o4 (fun a=>o4 (fun b=>decide (AA images a=AA images b)&&(!hasB jj a||!hasB jj b)) (a+1) images.length) 0 i) (a:=0) (b:=images.length) (by omega)
  (by refine⟨by simp,?_⟩;rw[Bc.2 (fun i y z=>by omega)];rfl) (fun i s e D E=>by
   have u:=Qz (f:=fun(o:Int)(s2:List F5)=>f i o s2) (s:=s)
    (fun j s'=>(s'.length:Int)<=100*i+(j-(i+1))/\decide (0<s'.length)=(decide (0<s.length)||o4 (fun b=>decide (AA images i=AA images b)&&(!hasB jj i||!hasB jj b)) (i+1) j)) (a:=i+1) (b:=images.length) (by omega)
    (by refine⟨by have:=E.1;omega,?_⟩;rw[Bc.2 (fun i y z=>by omega),Bool.or_false]) (fun j s' J F w=>by
     refine ⟨_,hf i j s' e D (by omega) F (by have:=w.1;omega),?_,?_⟩
     .grind
     .rw[O4 (by omega),<-Bool.or_assoc,<-w.2]
      grind)
   grind [As,O4])
 obtain ⟨l,G,K,H⟩:=key;exact⟨l,G,by omega,H⟩
theorem Zi{images jj:Fp}(F:images.length<=100):∃l,FG images jj=some l/\l.length<=10000/\decide (0<l.length)=AaI images jj:=by
 unfold FG;obtain⟨l,K,N⟩:=Uk (jj:=jj) F (f:=fun e o s2=>
  (idx images e).bind fun q=>
  (idx images o).bind fun u=>
  (if(decide (q=u))=true then((slices_Contains_int jj e).bind fun w=>
  (if(!w)=true then some true else((slices_Contains_int jj o).bind fun y=>
  some (!y))).bind fun z=>
  some (z))else some false).bind fun D=>
  if D=true then
  (Ag s2 [F5.mk e o]).bind fun E=>
  some E
  else
  some s2) (fun i j s e G I H J=>by
   have hh:∀(l:Fp)(v:Int),slices_Contains_int l v=some (hasB l v):=Kd;simp[AD e G,AD (show 0<=j by omega) H,hh]
   grind [AA,hasB,Ae,Ad])
 grind
theorem Zs{images jj:Fp}(F:images.length<=100):∃l,FO images jj=some l/\l.length<=10000/\decide (0<l.length)=AaI images jj:=by
 unfold FO;obtain⟨l,K,N⟩:=Uk (jj:=jj) F (f:=fun e o s2=>
  (idx images e).bind fun q=>
  (idx images o).bind fun u=>
  (if(decide (q=u))=true then((Dg jj e).bind fun w=>
  (if(!w)=true then some true else((Dg jj o).bind fun y=>
  some (!y))).bind fun z=>
  some (z))else some false).bind fun D=>
  if D=true then
  (Ag s2 [F5.mk e o]).bind fun E=>
  some E
  else
  some s2) (fun i j s e G I H J=>by
   have hh:∀(l:Fp)(v:Int),Dg l v=some (hasB l v):=Mp;simp[AD e G,AD (show 0<=j by omega) H,hh]
   grind [AA,hasB,Ae,Ad])
 grind
variable{l:Fp}
theorem YI(h:n<=1000):KM n l=some (BC l n):=by
 unfold KM;rw[SR (f:=Dg l) (by omega) (by omega) (fun i=>Mp l i)];rfl
theorem X6{images jj:Fp}(y:n<=1000)(hi:∀x∈images,0<=x/\x<n):Fw n images jj=some (BC (EM images jj) n):=by
 unfold Fw IQ;rw[ae (by omega),bs];rw[Bj (fun i=>(Ao n).map fun k=>o4 (fun j=>!hasB jj j&&decide (AA images j=k)) 0 i) (by omega)]
 .rw[bs,ca,A3,LX (fun i=>!hasB (EM images jj) i) id]
  .rw[bs,List.map_id];rfl
  .intro i s f o E;rw[AD f (by rw[ca,A3];exact o),bs,HI _ f o];have e:o4 (fun j=>!hasB jj j&&decide (AA images j=i)) 0 images.length=hasB (EM images jj) i:=by
    rw [Bool.eq_iff_iff,Dy,CL,R9];constructor
    .rintro⟨j,u,w,h⟩;rw[up,zzX]at h
     grind [CL]
    .rintro⟨j,⟨u,w⟩,G,h⟩;refine⟨j,u,w,?_⟩;rw[up,zzX]
     grind [hasB,CL]
   grind [hasB,EM,Ae,Ad]
 .refine List.ext_getElem (by simp[A3]) (fun k z D=>?_)
  grind [Int.toNat_natCast,Bc]
 .intro i f o;have q:=hi _ (AJ f o);have hh:∀(l:Fp)(v:Int),slices_Contains_int l v=some (hasB l v):=Kd;rw[AD f o,bs,hh,bs];cases F:hasB jj i
  .rw[ae (by decide),AD q.1 (by rw[ca,A3];exact q.2),bs,Gd _ q.1]
   grind [CI,O4,AA]
  grind [CI,O4]
theorem Z2{a b:Nat}(e:a<=10000)(f:b<=10000):decide (0<Af ((a:Int)+(b:Int)))=(decide (0<a)||decide (0<b)):=by
 rw [As (by omega) (by omega),Bool.eq_iff_iff,Bool.or_eq_true]
 grind
theorem nW{l g:d4}{jj:BB}{m:d6}(y:PY jj):E5 l g jj m=some (Ls l g jj m):=by
 unfold E5 CN Ls;simp only[];rw[Wm,bs,Zj y,bs];by_cases j:¬IR l g m=0
 .grind
 have j:=Classical.not_not.1 j;rw[az (by simp[j]),bs,az (show¬IR l g m≠0 by simp[j])];refine Dp fun J=>?_;have f:=Sl j;have a1:=f.ga.ei;have O:=f.ga.em;have P:=f.AaH;have Q:=f.AaQ;have S:=f.gb.ei;have U:=f.gb.em;unfold DO;obtain⟨u,z,D,E⟩:=Zi (jj:=jj.d3) (images:=m.d3) (by omega);obtain⟨v,G,H,I⟩:=Zi (jj:=jj.d5) (images:=m.d5) (by omega);simp only[];rw[z,bs,G,bs,bs];simp only[];rw[Z2 D H,E,I];refine XH fun K=>?_;rw[bC (by show m.d3.length<=1000;omega) (by show g.d5.length<=1000;omega),bs];have e:=XU (n:=g.d5.length) (q:=Lv g jj m) (F:=id);rw[List.map_id]at e;rw[e];refine XH fun N=>?_;rw[X6 (by omega) (fun x o=>?_),bs,X6 (by omega) (fun x o=>?_),bs]
 .rfl
 .obtain⟨i,s,w,rfl⟩:=BW o;exact(f.edge i s w).1
 .obtain⟨i,s,w,rfl⟩:=BW o;exact(f.node i s w).1
theorem n7{l g:d4}{jj:BB}{m:d6}(o:PY jj):Oo l g jj m=some (Ls l g jj m):=by
 unfold Oo NF Ls;rw[Wt,bs,VR o,bs];by_cases j:¬IR l g m=0
 .grind
 have j:=Classical.not_not.1 j;rw[az (by simp[j]),bs,az (show¬IR l g m≠0 by simp[j])];refine Dp fun G=>?_;have f:=Sl j;have a1:=f.ga.ei;have J:=f.ga.em;have K:=f.AaH;have N:=f.AaQ;have O:=f.gb.ei;have P:=f.gb.em;obtain⟨u,s,w,y⟩:=Zs (jj:=jj.d3) (images:=m.d3) (by omega);obtain⟨v,z,D,E⟩:=Zs (jj:=jj.d5) (images:=m.d5) (by omega);rw[s,bs,z,bs,Z2 w D,y,E];refine XH fun H=>?_;rw[bJ (by omega) (by omega),bs];have e:=XU (n:=g.d5.length) (q:=Lv g jj m) (F:=id);rw[List.map_id]at e;rw[e];refine XH fun I=>?_;rw[Tc (by omega),bs,YI (by omega),bs,Tc (by omega),bs,YI (by omega),bs];rfl
end Go.Sf.Sc
namespace Go.Sf.Sc
open Go Go.Sf
variable{α β:Type}
theorem RA[Inhabited α]{l:List α}{F:α->β}{f:Int->List β->Option (List β)}(h:∀(i:Int)s,0<=i->i<l.length->s.length<=i.toNat->f i s=some (s++[F (AA l i)])):sr f 0 l.length []=some (l.map F):=by
 have:=Bj (f:=f) (s:=[]) (fun i=>(l.take i.toNat).map F) (a:=0) (b:=l.length) (by omega) (by simp) (fun i e j=>by
  grind [ca,c7,CF])
 rwa [Int.toNat_natCast,List.take_length]at this
variable{n:Nat}{l:Fp}
theorem Zk(F:n<=1000)(w:l.length<=1000)(o:l.Pairwise (·<·)):KU n l=some (Gy n l):=by
 unfold KU IQ;rw[ae (by omega),bs,Int.toNat_natCast,List.length_replicate,Bj (fun i=>(Ao n).map fun j=>if j<i then C0 l j else 0) (by omega)]
 .rw[bs];congr 1;exact CI fun j y q=>ae q
 .refine List.ext_getElem (by simp[A3]) (fun k z G=>?_);have e:(Ao n)[k]'(by simpa[A3]using z)=(k:Int):=by simp[Ao]
  simp only[List.getElem_map,List.getElem_replicate,e];rw[az (by omega)]
 .intro i s E;rw[RJ w o,bs,AD s (by rw[ca,A3];exact E),bs];have e:∀v:Int,v=C0 l i->some (BH ((Ao n).map fun j=>if j<i then C0 l j else 0) i v)=some ((Ao n).map fun j=>if j<i+1 then C0 l j else 0):=by
   rintro v rfl;rw[Gd _ s];congr 1;refine CI fun j y q=>?_;by_cases e:j=i
   .rw[ae e,ae (by omega),e]
   .rw[az e];by_cases u:j<i
    .rw[ae u,ae (by omega)]
    .rw[az u,az (by omega)]
  cases f:hasB l i with
  |false=>
   rw [ae (by rfl)];exact e _ (VJ fun D=>by rw[CL.2 D]at f;cases f).symm
  |true=>
   rw [az (by simp)];exact e _ (TQ o (CL.1 f))
theorem YA(I:n<=1000)(J:l.length<=1000)(D:l.Nodup):KL l n=some (Gy n l):=by
 unfold KL;rw[Bj (fun k=>(Ao k.toNat).map (C0 l)) (by omega) (by rfl)]
 .rfl
 .intro k q K;have o:((Ao k.toNat).map (C0 l)).length=k.toNat:=by rw[ca,A3]
  have H:(Ao k.toNat).map (C0 l)++[-1]=(Ao (k+1).toNat).map fun j=>if j<k then C0 l j else if C0 l k<0 then C0 l k else -1:=by
   rw [Fa q,List.map_append];congr 1
   .grind[List.map_congr_left,EU]
   .rw[List.map_singleton,az (by omega)];have:=OR l k
    grind
  rw [Ae (by rw[o];simp;unfold Ad;omega),bs,H,Bj (fun i=>(Ao (k+1).toNat).map fun j=>if j<k then C0 l j else if C0 l k<i then C0 l k else -1) (by omega) rfl]
  .rw[bs];congr 1;refine List.map_congr_left fun j E=>?_;have:=EU.1 E;split
   .rfl
   .have e:j=k:=by omega
    rw [ae (OR l k).2,e]
  .intro i s u;rw[AD s u,bs];by_cases e:AA l i=k
   .have w:C0 l k=i:=by rw[<-e];exact Xh D s u
    rw [ae (by simp[e]),AD q (by rw[ca,A3];omega),bs,Gd _ q];congr 1;refine CI fun j F G=>?_;by_cases y:j=k
    .rw[ae y,az (by omega),ae (by omega),w]
    .rw[az y];by_cases f:j<k
     .rw[ae f,ae f]
     .omega
   .have w:C0 l k≠i:=fun h=>by
     have:=(IP (L4.1 (show 0<=C0 l k by omega))).2.2.1;rw[h]at this;exact e this
    rw [az (by simp[e])];congr 1;refine CI fun j F G=>?_;by_cases f:j<k
    .rw[ae f,ae f]
    .rw[az f,az f];by_cases z:C0 l k<i
     .rw[ae z,ae (by omega)]
     .rw[az z,az (by omega)]
structure Sd(count:Nat)(jj into at_:Fp):Prop where
 few:count<=1000
 nodup:into.Nodup
 len:into.length=jj.length
 inn:∀x∈into,0<=x/\x<count
 kin:∀x∈jj,0<=x/\x<at_.length
 pos:∀x∈jj,0<=AA at_ x
theorem Xq(e:l.Nodup)(h:∀x∈l,0<=x/\x<n):l.length<=n:=by
 have:=List.Nodup.length_le_of_subset (l₁:=l) (l₂:=Ao n) e (fun x f=>EU.2 (h x f))
 rwa [A3]at this
variable{i:Int}
theorem OK(h:0<=i):((BC l (i+1)).length:Int)=(BC l i).length+if i∈l then 0 else 1:=by grind[MP,cE,hasB,CL]
theorem Pt{jj into at_:Fp}{n i:Int}(h:i∈into):Og jj into at_ n i=AA at_ (AA jj (C0 into i)):=by grind[Og,CL]
theorem QS{jj into at_:Fp}{n i:Int}(h:i∉into):Og jj into at_ n i=n+(BC into i).length:=by grind[Og,CL]
variable{count:Nat}
theorem WA{jj into at_:Fp}{n:Int}(h:Sd count jj into at_)(y:0<=n)(z:n<=1000):FA jj into count at_ n=some (Ry count jj into at_ n):=by
 have D:=h.few;have s:=Xq h.nodup h.inn;have u:=h.len;unfold FA;rw[YA h.few (by omega) h.nodup,bs,Bj (fun i=>(n+((BC into i).length:Int),(Ao i.toNat).map (Og jj into at_ n))) (by omega) (by simp[BC,Ao])]
 .rfl
 .intro i f q;have E:=JU (l:=into) f;have e:((Ao i.toNat).map (Og jj into at_ n)).length=i.toNat:=by rw[ca,A3]
  rw [AD f (by rw[Ip];exact q),bs,Tq f q];by_cases hi:i∈into
  .have o:=IP hi;have w:=AJ (l:=jj) o.1 (by omega);have j:=h.kin _ w;rw[ae (by simpa using o.1),bs,AD o.1 (by omega),bs,AD j.1 j.2,bs,Ae (by rw[e];simp;unfold Ad;omega),bs,Fa f,List.map_append,OK f,ae hi,Int.add_zero,List.map_singleton,Pt hi]
  .rw[az (by rw[zzX,L4];exact hi),Ae (by rw[e];simp;unfold Ad;omega),bs,Fa f,List.map_append,OK f,az hi,List.map_singleton,QS hi,As (by omega) (by omega),Int.add_assoc]
theorem V2{jj into f o:Fp}{n:Int}(h:Sd count jj into (f.map (AA o)))(I:∀x∈f,0<=x/\x<o.length)(Q:0<=n)(S:n<=1000):Fo count jj into f o n=some (Ry count jj into (f.map (AA o)) n):=by
 have W:=h.few;have J:=Xq h.nodup h.inn;have K:=h.len;unfold Fo D1;rw[ae (by refine⟨rfl,by omega,by omega⟩),bs,Int.toNat_natCast];rw[Bj (fun i=>(Ao count).map fun k=>if 0<=C0 into k/\C0 into k<i then Og jj into (f.map (AA o)) n k else -1) (by omega)]
 .rw[bs,ca,A3,Bj (fun i=>(n+((BC into i).length:Int),(Ao count).map fun k=>if k<i\/k∈into then Og jj into (f.map (AA o)) n k else -1)) (by omega)]
  .rw[bs];congr 1;exact CI fun j F D=>ae (.inl D)
  .show _=(n,_);congr 1
   .simp[BC]
   .refine CI fun j F D=>?_;have H:=L4 (l:=into) (v:=j);have N:=OR into j;by_cases e:j∈into
    .rw[ae (.inr e),ae ⟨H.2 e,N.2⟩]
    .rw[az (by rintro(q|q);omega;exact e q),az fun q=>e (H.1 q.1)]
  .intro i u y;have X:=JU (l:=into) u;rw[AD u (by rw[ca,A3];exact y),bs,HI _ u y];by_cases hi:i∈into
   .have O:=IP hi;have G:=AJ (l:=jj) O.1 (by have:=h.len;omega);have Y:=h.pos _ G;rw[ae (show i<i\/i∈into from .inr hi),Pt hi,az (by rw[zzX];omega),OK u,ae hi,Int.add_zero];congr 2;refine CI fun j F D=>?_;by_cases e:j<i\/j∈into
    .rw[ae e,ae (e.imp (fun h=>by omega) id)]
    .rw[az e,az];rintro(q|q)
     .have:j=i:=by
       have:=fun hh=>e (.inl hh);omega
      exact e (.inr (this▸hi))
     .exact e (.inr q)
   .rw[az (show¬(i<i\/i∈into)by rintro(q|q);omega;exact hi q),ae (by decide),bs,OK u,az hi,As (by simp;omega) (by simp;omega),Gd _ u,Int.add_assoc];congr 2;refine CI fun j F D=>?_;by_cases w:j=i
    .rw[ae w,ae (.inl (by omega)),w,QS hi]
    .rw[az w];by_cases e:j<i\/j∈into
     .rw[ae e,ae (e.imp (fun h=>by omega) id)]
     .rw[az e,az];rintro(q|q)
      .exact e (.inl (by omega))
      .exact e (.inr q)
 .refine List.ext_getElem (by simp[A3]) (fun k U V=>?_);simp only[List.getElem_map,List.getElem_replicate];rw[az (by omega)];rfl
 .intro i u y;have z:=h.inn _ (AJ u y);have G:=AJ (l:=jj) u (by have:=h.len;omega);have s:=h.kin _ G;rw[ca]at s;have E:=I _ (AJ s.1 s.2);rw[AD u y,bs,AD u (by have:=h.len;omega),bs,AD s.1 s.2,bs,AD E.1 E.2,bs,AD z.1 (by rw[ca,A3];exact z.2),bs,Gd _ z.1];congr 1;refine CI fun j F D=>?_;by_cases w:j=AA into i
  .have e:=Xh h.nodup u y;rw[ae w,w,e,ae ⟨u,by omega⟩,Pt (AJ u y),e,NW s.1 s.2]
  .rw[az w];by_cases e:0<=C0 into j/\C0 into j<i
   .rw[ae e,ae ⟨e.1,by omega⟩]
   .rw[az e,az];rintro⟨q,Z⟩;have P:C0 into j=i:=by
     have:=fun hh=>e ⟨q,hh⟩;omega
    have:=(IP (L4.1 q)).2.2.1;rw[P]at this;exact w this.symm
theorem Uo{images e:Fp}(f:images.length<=1000)(j:∀x∈images,0<=x/\x<e.length):Gk images e=some (images.map (AA e)):=by
 unfold Gk
 grind [RA,AA,AJ,AD,Ae,Ad]
end Go.Sf.Sc
namespace Go.Sf.Sc
open Go Go.Sf
def Gz(h:AG)(d:BB):d6:=⟨Gy h.d4.d3.length d.d3,Gy h.d4.d5.length d.d5⟩
def uo(r:gp)(h:AG)(m:d6)(d:BB):d6:=
 ⟨Ry r.fd.d4.d3.length r.x4.d3 r.sx.d3 (m.d3.map (AA (Gz h d).d3)) d.d3.length,
 Ry r.fd.d4.d5.length r.x4.d5 r.sx.d5 (m.d5.map (AA (Gz h d).d5)) d.d5.length⟩
def fj(t:AC)(k:Int):Fp:=(Ay t k).map fun x=>x.Low
def ak(tr:Fp)(e:Bl):Bl:=⟨e.ne,AA tr e.ns,AA tr e.To⟩
def L8(r:gp)(x:AG)(i:Int):Fp:=x.d4.d3++(BC r.sx.d3 i).map (AA r.fd.d4.d3)
def L9(t:AC)(r:gp)(x:AG)(i:Int):List Fp:=x.fq++(BC r.sx.d3 i).map fun k=>fj t (AA r.fd.d4.d3 k)
def Nw(r:gp)(c:d6)(x:AG)(i:Int):List Bl:=x.d4.d5++(BC r.sx.d5 i).map fun k=>ak c.d3 (AA r.fd.d4.d5 k)
def CU(t:AC)(r:gp)(x:AG)(c:d6):AG:=⟨⟨L8 r x r.fd.d4.d3.length,Nw r c x r.fd.d4.d5.length⟩,L9 t r x r.fd.d4.d3.length⟩
def Bw(h:AG)(d:BB):AG:=⟨⟨d.d3.map (AA h.d4.d3),d.d5.map fun x=>ak (Gz h d).d3 (AA h.d4.d5 x)⟩,d.d3.map (AA h.fq)⟩
structure GA(x:AG):Prop where
 ei:x.d4.d3.length<=1000
 em:x.d4.d5.length<=1000
 vals:x.fq.length<=1000
 rows:∀v∈x.fq,v.length<=1000
structure Tw(t:AC)(r:gp)(c:d6):Prop where
 hf:At t
 hv:(Ax t).2=0
 g:Do r.fd.d4
 kind:∀n∈r.fd.d4.d3,0<=n/\n<t.d3.length
 cn:c.d3.length=r.fd.d4.d3.length
variable{t:AC}{r:gp}{c:d6}
theorem kQ(h:Tw t r c){n:Int}(e:n∈r.fd.d4.d3):(Ay t n).length<=600:=by
 have:=h.kind n e;exact GL h.hf (Int.le_refl _) (DG h.hv).par this.2
variable{x:AG}
theorem SP(h:GA x):Gr x=some x:=by
 have:=h.ei;have:=h.em;have:=h.vals;unfold Gr IU;rw[BE (by unfold Ad;omega),bs,BE (by unfold Ad;omega),bs,bs];rw[Bj (fun i=>AG.mk x.d4 (x.fq.take i.toNat)) (by omega) (by rfl)]
 .rw[Int.toNat_natCast,List.take_length];rfl
 .intro i e f;have:=h.rows _ (AJ e f)
  grind [AD,BE,Ad,Ae,CF]
theorem bB(h:GA x):JF x=some x:=by
 have:=h.ei;have:=h.em;have:=h.vals;unfold JF slices_Clone_int DK;rw[BE (by unfold Ad;omega),bs,BE (by unfold Ad;omega),bs];rw[Bj (fun i=>AG.mk x.d4 (x.fq.take i.toNat)) (by omega) (by rfl)]
 .rw[Int.toNat_natCast,List.take_length];rfl
 .intro i e f;have:=h.rows _ (AJ e f)
  grind [AD,BE,Ad,Ae,CF]
variable{α:Type}{i:Int}
theorem DC(l:Fp)(F:Int->α)(h:0<=i):(BC l (i+1)).map F=(BC l i).map F++if i∈l then[]else[F i]:=by grind[MP,hasB,CL]
theorem TC(l:Fp)(i:Int):HD l i=some (!hasB l i):=by
 unfold HD hasB;rw[BL (fun j=>decide (i=AA l j)) false,HN]
 .cases o4 (fun j=>decide (i=AA l j)) 0 l.length<;>rfl
 grind [AD,AA]
theorem oC(h:Tw t r c)(q:GA x):KO t r x c=some (CU t r x c):=by
 have H:=h.g.ei;have I:=h.g.em;have x1:=q.ei;have J:=q.em;have K:=q.vals;unfold KO;rw[Oz (fun i=>AG.mk (d4.mk (L8 r x i) x.d4.d5) (L9 t r x i)) (a:=0) (b:=r.fd.d4.d3.length) (by omega)]
 .rw[Bh,Oz (fun i=>AG.mk (d4.mk (L8 r x r.fd.d4.d3.length) (Nw r c x i)) (L9 t r x r.fd.d4.d3.length)) (a:=0) (b:=r.fd.d4.d5.length) (by omega)]
  .rfl
  .grind[Nw,BC]
  .intro i e f;have y:=JU (l:=r.sx.d5) e;have he:=h.g.fit _ (AJ e f);have z:=h.cn;rw[ae (by simpa using f),TC,bs];by_cases hi:i∈r.sx.d5
   .grind[CL,Nw,DC,As]
   .have o:hasB r.sx.d5 i=false:=by cases o:hasB r.sx.d5 i with|false=>rfl|true=>exact absurd (CL.1 o) hi
    rw [o,ae (by decide),AD e f,bs,AD he.2.1.1 (by omega),bs,AD he.2.2.1 (by omega),bs,Ae (by unfold Nw;simp;unfold Ad;omega),bs];unfold Nw;rw[DC _ _ e,az hi,As (by simp;omega) (by simp;omega),ci];rfl
  .rw[az (by simp)]
 .unfold L8 L9;simp[BC]
 .intro i e f;have y:=JU (l:=r.sx.d3) e;have u:=AJ e f;have w:=h.kind _ u;have N:=kQ h u;rw[ae (by simpa using f),TC,bs];by_cases hi:i∈r.sx.d3
  .grind[CL,L8,L9,DC,As]
  .have o:hasB r.sx.d3 i=false:=by cases o:hasB r.sx.d3 i with|false=>rfl|true=>exact absurd (CL.1 o) hi
   rw [o,az (by decide),AD e f,bs,Ae (by unfold L8;simp;unfold Ad;omega),bs,bs,QA h.hf,If h.hv w.1 w.2,bs];simp;rw[RA (F:=fun a=>a.Low) fun j s D E G=>?_]
   .rw[bs,Ae (by unfold L9;simp;unfold Ad;omega),bs];unfold L8 L9;rw[DC _ _ e,az hi,DC _ _ e,az hi,As (by omega) (by omega),ci,ci];rfl
   grind [AD,Ae,Ad]
 .rw[az (by simp)]
theorem kh(hf:At t)(hv:(Ax t).2=0){k:Int}(f:0<=k)(e:k<t.d3.length):Ho t k=some (fj t k):=by
 have:=GL hf (Int.le_refl _) (DG hv).par e;unfold Ho;rw[P8 hf,If hv f e,bs];simp;rw[RA (F:=fun a=>a.Low) fun j s o q u=>?_]
 .rfl
 grind [AD,Ae,Ad]
structure Wg(h:AG)(d:BB):Prop where
 sm:GA h
 len:h.fq.length=h.d4.d3.length
 ei:(∀x∈d.d3,0<=x/\x<h.d4.d3.length)/\d.d3.length<=1000
 em:(∀x∈d.d5,0<=x/\x<h.d4.d5.length)/\d.d5.length<=1000
 ends:∀e∈h.d4.d5,(0≤e.ns/\e.ns<h.d4.d3.length)/\0≤e.To/\e.To<h.d4.d3.length
variable{h:AG}
theorem WH{d:BB}(hd:Wg h d):GA (Bw h d):=by
 have f:=hd.ei.2;have j:=hd.em.2;refine⟨by unfold Bw;simp;omega,by unfold Bw;simp;omega,by unfold Bw;simp;omega,fun v hv=>?_⟩;obtain⟨x,e,rfl⟩:=List.mem_map.1 hv;have:=hd.ei.1 x e;exact hd.sm.rows _ (AJ this.1 (by rw[hd.len];exact this.2))
variable{R:gp}{M:AL}{C:d6}
theorem kY{d:BB}(q:Tw t R C)(hd:Wg h d)(G:C.d5.length=R.fd.d4.d5.length)
  (w:∀i:Int,0<=i->i<R.fd.d4.d3.length->(AA C.d3 i=d.d3.length+(BC R.sx.d3 i).length↔i∉R.sx.d3))
  (y:∀i:Int,0<=i->i<R.fd.d4.d5.length->(AA C.d5 i=d.d5.length+(BC R.sx.d5 i).length↔i∉R.sx.d5)):
  GU t (Ar.mk R M h (AG.mk (d4.mk [] []) []) (Gz h d) C) d=some (Ar.mk R M h (CU t R (Bw h d) C) (Gz h d) C):=by
 have H:=hd.ei.2;have I:=hd.em.2;have J:=q.g.ei;have K:=q.g.em;have E:=q.cn;unfold GU;simp only[];rw[Bj (fun i=>Ar.mk R M h (AG.mk (d4.mk ((d.d3.take i.toNat).map (AA h.d4.d3)) []) ((d.d3.take i.toNat).map (AA h.fq))) (Gz h d) C) (by omega) (by simp)]
 rotate_left
 .intro i f j;have o:=hd.ei.1 _ (AJ f j);have s:=hd.len;have z:=hd.sm.rows _ (AJ o.1 (by omega));rw[AD f j,bs,AD o.1 o.2,bs,Ae (by simp;unfold Ad;omega),bs,AD o.1 (by omega),bs,BE (by unfold Ad;omega),bs,Ae (by simp;unfold Ad;omega),bs,G9 f j,G9 f j]
 rw [bs,Int.toNat_natCast,List.take_length];rw[Bj (fun i=>Ar.mk R M h (AG.mk (d4.mk (d.d3.map (AA h.d4.d3)) ((d.d5.take i.toNat).map fun x=>ak (Gz h d).d3 (AA h.d4.d5 x))) (d.d3.map (AA h.fq))) (Gz h d) C) (by omega) (by simp)]
 rotate_left
 .intro i f j;have o:=hd.em.1 _ (AJ f j);have he:=hd.ends _ (AJ o.1 o.2);have s:(Gz h d).d3.length=h.d4.d3.length:=Ip _ _;simp only[];rw[AD f j,bs,AD o.1 o.2,bs,AD he.1.1 (by omega),bs,AD he.2.1 (by omega),bs,Ae (by simp;unfold Ad;omega),bs,G9 f j];rfl
 rw [bs,Int.toNat_natCast,List.take_length];rw[Bj (fun i=>Ar.mk R M h (AG.mk (d4.mk (L8 R (Bw h d) i) (Bw h d).d4.d5) (L9 t R (Bw h d) i)) (Gz h d) C) (by omega) (by unfold L8 L9;simp[BC,Bw])]
 rotate_left
 .intro i f j;have z:=JU (l:=R.sx.d3) f;have F:=AJ f j;have D:=q.kind _ F;have s:(L8 R (Bw h d) i).length=d.d3.length+(BC R.sx.d3 i).length:=by unfold L8 Bw;simp
  have u:(L9 t R (Bw h d) i).length=d.d3.length+(BC R.sx.d3 i).length:=by unfold L9 Bw;simp
  simp only[s];rw[AD f j,bs,AD f (by omega),bs];by_cases hi:i∈R.sx.d3
  .rw[az (by rw[zzX];push_cast;exact fun e=>(w i f j).1 e hi)];unfold L8 L9;rw[DC _ _ f,ae hi,List.append_nil,DC _ _ f,ae hi,List.append_nil]
  .rw[ae (by rw[zzX];push_cast;exact(w i f j).2 hi),Ae (by rw[s];simp;unfold Ad;omega),bs,kh q.hf q.hv D.1 D.2,bs,Ae (by rw[u];simp;unfold Ad;omega),bs];unfold L8 L9;rw[DC _ _ f,az hi,DC _ _ f,az hi,ci,ci]
 rw [bs];rw[Bj (fun i=>Ar.mk R M h (AG.mk (d4.mk (L8 R (Bw h d) R.fd.d4.d3.length) (Nw R C (Bw h d) i)) (L9 t R (Bw h d) R.fd.d4.d3.length)) (Gz h d) C) (by omega) (by unfold Nw;simp[BC,Bw])]
 rotate_left
 .intro i f j;have z:=JU (l:=R.sx.d5) f;have he:=q.g.fit _ (AJ f j);have s:(Nw R C (Bw h d) i).length=d.d5.length+(BC R.sx.d5 i).length:=by unfold Nw Bw;simp
  simp only[s];rw[AD f j,bs,AD f (by omega),bs];by_cases hi:i∈R.sx.d5
  .rw[az (by rw[zzX];push_cast;exact fun e=>(y i f j).1 e hi)];unfold Nw;rw[DC _ _ f,ae hi,List.append_nil]
  .rw[ae (by rw[zzX];push_cast;exact(y i f j).2 hi),AD he.2.1.1 (by omega),bs,AD he.2.2.1 (by omega),bs,Ae (by rw[s];simp;unfold Ad;omega),bs];unfold Nw;rw[DC _ _ f,az hi,ci];rfl
 rw [bs];rfl
theorem Y1(hf:At t){d:BB}(hh:(ID t h).2=0)(q:EN h.d4 d=0)(hd:Wg h d):JA t h d=some (Bw h d,0):=by
 have s:=hd.ei.2;unfold JA;rw[Up hf,bs,az (by simp[hh]),V9 ⟨hd.ei.2,hd.em.2⟩,az (by simp[q]),bs,az (by simp)];have e:ME h.d4 d=(Bw h d).d4:=by
  unfold ME Bw;congr 1;refine List.map_congr_left fun x f=>?_;have f:=hd.em.1 x f;have he:=hd.ends _ (AJ f.1 f.2)
  grind [ak,Gz,Tq]
 simp;rw[Oz (fun i=>AG.mk (ME h.d4 d) ((d.d3.take i.toNat).map (AA h.fq))) (a:=0) (b:=d.d3.length) (by omega) (by simp)]
 .rw[Int.toNat_natCast,List.take_length,Bh,e];rfl
 .intro i o j;have f:=hd.ei.1 _ (AJ o j);have u:=hd.len;have w:=hd.sm.rows _ (AJ f.1 (by omega));rw[ae (by simpa using j),AD o j,bs,AD f.1 (by omega),bs,BE (by unfold Ad;omega),bs,Ae (by simp;unfold Ad;omega),bs,G9 o j,As (by simp;omega) (by simp;omega)]
 .rw[az (by simp)]
end Go.Sf.Sc
namespace Go.Sf.Sc
open Go Go.Sf
def PU(c:d6)(vars:Fp)(s:CX):(Int×Int)×Int:=((AA c.d3 s.tg,s.mo),Cs s.kg vars)
def By(r:gp)(c:d6)(vars:Fp):BD:=r.fd.ff.map (PU c vars)
def Nu(t:AC)(x:AG)(p:(Int×Int)×Int):Bool:=
 decide (p.2<(AA (Ay t (AA x.d4.d3 p.1.1)) p.1.2).Low)||decide ((AA (Ay t (AA x.d4.d3 p.1.1)) p.1.2).AaD<p.2)
structure Sg(t:AC)(r:gp)(c:d6)(vars:Fp)(x:AG):Prop where
 hf:At t
 hv:(Ax t).2=0
 few:r.fd.ff.length<=1000
 fewv:vars.length<=1000
 slot:∀s∈r.fd.ff,(0<=s.tg/\s.tg<c.d3.length)/\(-1<=s.kg.Var/\s.kg.Var<vars.length)/\
  (0<=AA c.d3 s.tg/\AA c.d3 s.tg<x.d4.d3.length)/\(0<=s.mo/\s.mo<(Ay t (AA x.d4.d3 (AA c.d3 s.tg))).length)
 kind:∀n∈x.d4.d3,0<=n/\n<t.d3.length
 vlen:x.fq.length=x.d4.d3.length
 rows:∀i:Int,0<=i->i<x.d4.d3.length->(AA x.fq i).length=(Ay t (AA x.d4.d3 i)).length
variable{L:BD}{i:Int}
theorem aP(e:0<=i)(f:i<=L.length)(h:∀j,0<=j->j<i->o4 (fun k=>decide ((AA L k).1=(AA L j).1)&&!decide ((AA L k).2=(AA L j).2)) 0 j=false):QK (L.take i.toNat):=by grind[Va,N9,Bc,c7,T3,OP]
def TS(L:BD)(i:Int):Bool:=o4 (fun k=>decide ((AA L k).1=(AA L i).1)&&!decide ((AA L k).2=(AA L i).2)) 0 i
theorem fM(G:0<=i)(H:i<L.length)(u:QK (L.take i.toNat)):
  (((N3 (L.take i.toNat)).look (AA L i).1).isSome&&(!decide (((N3 (L.take i.toNat)).look (AA L i).1).getD 0=(AA L i).2)))=TS L i:=by
 obtain ⟨I,y,J⟩:=ZZ _ u;unfold TS;cases w:(N3 (L.take i.toNat)).look (AA L i).1 with
 |none=>
  rw [Option.isSome_none,Bool.false_and];refine Eq.symm (Bc.2 fun k q s=>?_);have o:AA L k∈L.take i.toNat:=by
   rw [<-OP (n:=i.toNat) (by omega)]
   grind [AJ,c7]
  rw [decide_eq_false (Vz w _ ((y _).2 o)),Bool.false_and]
 |some v=>
  have o:=(y _).1 (SC w);rw[Option.isSome_some,Bool.true_and,Option.getD_some];have f:∀k,0<=k->k<i->(AA L k).1=(AA L i).1->(AA L k).2=v:=fun k q s e=>by
   have D:AA L k∈L.take i.toNat:=by
    rw [<-OP (n:=i.toNat) (by omega)]
    grind [AJ,c7]
   exact u _ D _ o e
  obtain ⟨k,q,s,z⟩:=BW o;rw[c7]at s;rw[OP (by omega)]at z;rw[Bool.eq_iff_iff,Dy];constructor
  .intro h;refine⟨k,q,by omega,?_⟩;rw[z,decide_eq_true rfl,Bool.true_and];exact h
  .rintro⟨j,E,F,h⟩;rw[up,zzX]at h;rw[<-f j E F h.1];exact h.2
theorem Mz(r:gp)(c:d6)(vars:Fp)(e:0<=i)(f:i<r.fd.ff.length):AA (By r c vars) i=PU c vars (AA r.fd.ff i):=NW e f
theorem I2(r:gp)(c:d6)(vars:Fp):(By r c vars).length=r.fd.ff.length:=ca ..
variable{ρ:Type}
theorem XJ(L:BD)(v:ρ):fst (fun i=>if TS L i=true then some v else none) 0 L.length=if N9 L=true then some v else none:=LY
variable{t:AC}{R:gp}{M:AL}{B A:AG}{T C:d6}
theorem bA(h:Sg t R C M.hV A):HF (Ar.mk R M B A T C)=some (if N9 (By R C M.hV)=true then([],11)else(N3 (By R C M.hV),0)):=by
 unfold HF;simp only[];rw[JK (a:=0) (s:=([]:BD)) (fun i=>N3 ((By R C M.hV).take i.toNat)) (fun i=>if TS (By R C M.hV) i=true then some ([],11)else none) (by omega) rfl]
 .have:=XJ (By R C M.hV) (([],11):BD×Int);rw[I2]at this;rw[this];by_cases e:N9 (By R C M.hV)=true
  .rw[ae e,ae e];rfl
  .rw[az e,az e,<-I2 R C M.hV,Int.toNat_natCast,List.take_length];rfl
 .intro i f o z;have q:=h.slot _ (AJ f o);have D:QK ((By R C M.hV).take i.toNat):=aP f (by rw[I2];omega) fun j w y=>by
   have:=z j w y;split at this
   .cases this
   .rename_i e;exact Bool.eq_false_iff.2 e
  have u:=fM (L:=By R C M.hV) f (by rw[I2];exact o) D;rw[AD f o,bs,Xy q.2.1.1 q.2.1.2 h.fewv,bs,az (by simp),AD q.1.1 q.1.2,bs];rw[Mz R C M.hV f o]at u;simp[PU]at u;simp only[];by_cases e:TS (By R C M.hV) i=true
  .refine(ae (u.trans e)).trans ?_;rw[ae e];rfl
  .refine(az (fun h=>e (u.symm.trans h))).trans ?_;rw[az e,CF f (by rw[I2];exact o),Xo,Mz R C M.hV f o];rfl
variable{α:Type}
theorem Zd{f:α->K1}{g:α->Bool}:∀{l:List α},(∀p∈l,f p=some (g p))->AaS f l=some (l.all g)
 |[],_=>rfl|p::r,h=>by
  unfold AaS;rw[h p List.mem_cons_self,bs,Zd fun q e=>h q (List.mem_cons_of_mem _ e),bs,List.all_cons]
variable{r:gp}{c:d6}{x:AG}
theorem YQ{vars:Fp}(h:Sg t r c vars x){s:CX}(q:s∈r.fd.ff){V:List Fp}(u:KD V x.fq):
  idx V (AA c.d3 s.tg)=some (AA V (AA c.d3 s.tg))/\idx (AA V (AA c.d3 s.tg)) s.mo=some (AA (AA V (AA c.d3 s.tg)) s.mo):=by
 have f:=h.slot s q;have hv:=h.vlen;have D:=h.rows _ f.2.2.1.1 f.2.2.1.2;have w:idx x.fq (AA c.d3 s.tg)=some (AA x.fq (AA c.d3 s.tg)):=AD f.2.2.1.1 (by omega);have y:idx (AA x.fq (AA c.d3 s.tg)) s.mo=some (AA (AA x.fq (AA c.d3 s.tg)) s.mo):=AD f.2.2.2.1 (by omega);obtain⟨z,x',a,b⟩:=u.idx w y;have j:=GH a;have o:=GH b;have E:=(List.getElem?_eq_some_iff.1 j.2.2).1;have e:AA V (AA c.d3 s.tg)=z:=by
  grind [AD,Option.some.inj]
 have F:=(List.getElem?_eq_some_iff.1 o.2.2).1;refine⟨AD j.1 (by omega),?_⟩;rw[e];exact AD o.1 (by omega)
theorem fR(h:Sg t R C M.hV A){p:(Int×Int)×Int}(o:p∈By R C M.hV):L0 t (Ar.mk R M B A T C) p=some (!Nu t A p):=by
 obtain ⟨s,j,rfl⟩:=List.mem_map.1 o;have e:=h.slot s j;have f:=h.kind _ (AJ e.2.2.1.1 e.2.2.1.2);obtain⟨q,u⟩:=YQ h j (V:=A.fq) rfl;unfold L0 Lz PU Nu;simp;rw[AD e.2.2.1.1 e.2.2.1.2,bs,P8 h.hf,If h.hv f.1 f.2,bs];simp;simp[AD e.2.2.2.1 e.2.2.2.2,q,u,Su]
 grind
def Hy(t:AC)(x:AG)(L:BD):AG×Int:=
 if N9 L=true then(⟨⟨[],[]⟩,[]⟩,11)else if L.any (Nu t x)=true then(⟨⟨[],[]⟩,[]⟩,6)else(⟨x.d4,L.foldl CT x.fq⟩,0)
theorem nZ(h:Sg t R C M.hV A):Io t (Ar.mk R M B A T C)=some ((Hy t A (By R C M.hV)).2,if(Hy t A (By R C M.hV)).2=0 then Ar.mk R M B (Hy t A (By R C M.hV)).1 T C else Ar.mk R M B A T C):=by
 unfold Io Hy;rw[bA h,bs];by_cases e:N9 (By R C M.hV)=true
 .grind
 .rw[az e,az (by simp),az e];obtain⟨o,q,s⟩:=ZZ _ (Va (Bool.eq_false_iff.2 e));have j:AaS (L0 t (Ar.mk R M B A T C)) (N3 (By R C M.hV))=some (!(By R C M.hV).any (Nu t A)):=by
   rw [Zd (g:=fun p=>!Nu t A p) fun p f=>fR h ((q p).1 f)]
   grind
  rw [ae (by simpa using(show List.Pairwise (fun x y:(Int×Int)×Int=>x.1≠y.1) _ from o)),j,bs]
  grind [By,Nu,MU]
theorem r9{vars:Fp}(h:Sg t r c vars x):Ld t r x c vars=some (Hy t x (By r c vars)):=by
 unfold Ld Hy;rw[JK (a:=0) (s:=AG.mk (d4.mk [] []) []) (fun _=>AG.mk (d4.mk [] []) []) (fun i=>if TS (By r c vars) i=true then some (AG.mk (d4.mk [] []) [],(11:Int))else none) (by omega) rfl]
 .have:=XJ (By r c vars) ((AG.mk (d4.mk [] []) [],(11:Int)));rw[I2]at this;rw[this];by_cases e:N9 (By r c vars)=true
  .rw[ae e,ae e];rfl
  rw [az e,az e];show gn (some (Sum.inl _)) _ _=_;rw[Bh,JK (a:=0) (s:=(x,AG.mk (d4.mk [] []) [])) (fun i=>(AG.mk x.d4 (((By r c vars).take i.toNat).foldl CT x.fq),AG.mk (d4.mk [] []) [])) (fun i=>if Nu t x (AA (By r c vars) i)=true then some (AG.mk (d4.mk [] []) [],(6:Int))else none) (by omega) rfl]
  .have:=ZT (l:=By r c vars) (q:=Nu t x) (v:=(AG.mk (d4.mk [] []) [],(6:Int)));rw[I2]at this;rw[this];by_cases j:(By r c vars).any (Nu t x)=true
   .rw[ae j,ae j];rfl
   .rw[az j,az j];show some (AG.mk x.d4 (((By r c vars).take (r.fd.ff.length:Int).toNat).foldl CT x.fq),(0:Int))=_
    grind [I2,Int.toNat_natCast,List.take_length]
  .intro i o u _;have D:=AJ o u;have f:=h.slot _ D;have w:=h.kind _ (AJ f.2.2.1.1 f.2.2.1.2);obtain⟨F,G⟩:=YQ h D (V:=((By r c vars).take i.toNat).foldl CT x.fq) (Xa _ _);simp only[AD o u,bs];rw[Mv f.2.1.1 f.2.1.2,bs,AD f.1.1 f.1.2,bs,AD f.2.2.1.1 f.2.2.1.2,bs,QA h.hf,If h.hv w.1 w.2,bs];simp only[];rw[AD f.2.2.2.1 f.2.2.2.2,bs,bs,Su,bs,F,bs,G,bs];rw[Mz r c vars o u,CF o (by rw[I2];exact u),List.foldl_append,Mz r c vars o u];show(if(Nu t x (PU c vars (AA r.fd.ff i)))=true then _ else _)=_;by_cases j:Nu t x (PU c vars (AA r.fd.ff i))=true
   .rw[ae j,ae j];rfl
   .rw[az j,az j];have:=XS (p:=PU c vars (AA r.fd.ff i)) F G;exact congrArg (fun W=>some (Bp.next (σ:=AG×AG) (ρ:=AG×Int) (AG.mk x.d4 W,AG.mk (d4.mk [] []) []))) this
 .intro i o u _;have f:=h.slot _ (AJ o u);rw[AD o u,bs,Mv f.2.1.1 f.2.1.2,bs];rw[JK (a:=0) (s:=AG.mk (d4.mk [] []) []) (fun _=>AG.mk (d4.mk [] []) []) (fun k=>if(decide ((AA (By r c vars) k).1=(AA (By r c vars) i).1)&&!decide ((AA (By r c vars) k).2=(AA (By r c vars) i).2))=true then some (AG.mk (d4.mk [] []) [],(11:Int))else none) o rfl]
  .rw[LY];unfold TS;split<;>rfl
  .intro k y I _;have w:=h.slot _ (AJ y (show k<r.fd.ff.length by omega));simp[AD o u,AD y (show k<r.fd.ff.length by omega)];rw[Mv w.2.1.1 w.2.1.2,bs,AD w.1.1 w.1.2,bs,AD f.1.1 f.1.2,bs,Mz r c vars o u,Mz r c vars y (by omega)];simp[PU];by_cases E:AA c.d3 (AA r.fd.ff k).tg=AA c.d3 (AA r.fd.ff i).tg<;>by_cases j:(AA r.fd.ff k).mo=(AA r.fd.ff i).mo<;>by_cases z:Cs (AA r.fd.ff i).kg vars=Cs (AA r.fd.ff k).kg vars
   all_goals first|(have H:¬Cs (AA r.fd.ff k).kg vars=Cs (AA r.fd.ff i).kg vars:=fun h=>z h.symm;simp[E,j,z,H,eH];done)|(simp[E,j,z,eH];done)
end Go.Sf.Sc
namespace Go.Sf.Sc
open Go Go.Sf
variable{t:AC}{r:gp}
theorem Uw(h:FY t r=0):G6 t r.kq=0/\JE t r=0/\Lt t r.kq r.d7=0:=by grind[FY]
theorem Y5(h:JE t r=0):r.fd.hV=r.kq.hV/\r.fd.ff.length<=10/\∀i:Int,0<=i->i<r.fd.ff.length->NQ t r.fd i=0:=by
 unfold JE at h;split at h
 .omega
 split at h
 .cases h
 split at h
 .cases h
 split at h
 .cases h
 rename_i e f j o;exact⟨by omega,by omega,UL h⟩
variable{i:Int}
theorem bU{p:ec}(h:NQ t p i=0):(0<=(AA p.ff i).tg/\(AA p.ff i).tg<p.d4.d3.length)/\
  (0<=(AA p.ff i).mo/\(AA p.ff i).mo<(GE t (AA p.d4.d3 (AA p.ff i).tg)).1.length)/\-1<=(AA p.ff i).kg.Var/\(AA p.ff i).kg.Var<p.hV:=by
 unfold NQ at h;dsimp only at h;split at h
 .cases h
 split at h
 .cases h
 rename_i f e;simp[zzX]at e;omega
structure H9(t:AC)(r:gp)(h:AG)(m:AL):Prop where
 hf:At t
 fr:PZ r
 re:FY t r=0
 he:(ID t h).2=0
 at_:Tu t r.kq h m
 co:Wy (Q8 r.kq.d4 h.d4 m.d6) h.d4 r.x4 m.d6
abbrev dS(r:gp)(h:AG)(m:AL):BB:=LD h.d4 r.x4 m.d6
abbrev cS(r:gp)(h:AG)(m:AL):d6:=uo r h m.d6 (dS r h m)
variable{h:AG}{m:AL}
theorem H9.hv(s:H9 t r h m):(Ax t).2=0:=(Zu s.re).1
theorem H9.ro(s:H9 t r h m):b8 t r:=(Zu s.re).2
theorem H9.hh(s:H9 t r h m):IH t h:=(Sk s.hf s.he).2
theorem Q7(hf:At t)(hv:(Ax t).2=0)(hh:IH t h):GA h:=by
 have j:=hh.g.ei;have o:=hh.g.em;have q:=hh.len;refine⟨by omega,by omega,by omega,fun v e=>?_⟩;obtain⟨i,f,w,rfl⟩:=BW e;have s:=hh.row i f (by omega);have u:=GL hf (Int.le_refl _) (DG hv).par (hh.kind i f (by omega)).2;omega
theorem H9.rem(s:H9 t r h m):Wg h (dS r h m):=by
 have hh:=s.hh;have j:=hh.g.ei;have o:=hh.g.em;have l1:=PT (EM m.d6.d3 r.x4.d3) h.d4.d3.length;have l2:=PT (EM m.d6.d5 r.x4.d5) h.d4.d5.length;exact⟨Q7 s.hf s.hv hh,hh.len,⟨fun x f=>Hh f,by show(BC _ _).length<=1000;omega⟩,⟨fun x f=>Hh f,by show(BC _ _).length<=1000;omega⟩,fun e he=>(hh.g.fit e he).2⟩
theorem H9.part(s:H9 t r h m):EN h.d4 (dS r h m)=0:=by
 unfold EN;rw[az (by simp[s.hh.ge])];exact dr s.co
variable{count n:Nat}
theorem cP{jj into images:Fp}{A2:Fp}(few:count<=1000)(nodup:into.Nodup)(len:into.length=jj.length)(inn:∀x∈into,0<=x/\x<count)
  (kin:∀x∈jj,0<=x/\x<images.length)(j:∀x∈images,0<=x/\x<n)(hi:AaI images jj=false)(o:A2=EM images jj):
  Sd count jj into (images.map (AA (Gy n (BC A2 n))))/\(∀x∈jj,AA (images.map (AA (Gy n (BC A2 n)))) x<(BC A2 n).length)/\
  ∀x∈jj,AA (images.map (AA (Gy n (BC A2 n)))) x=C0 (BC A2 n) (AA images x)/\AA images x∈BC A2 n:=by
 have e:∀x∈jj,AA (images.map (AA (Gy n (BC A2 n)))) x=C0 (BC A2 n) (AA images x)/\AA images x∈BC A2 n:=fun x f=>by
  grind [AJ,NW,Tq,OJ,SB]
 refine ⟨⟨few,nodup,len,inn,fun x f=>by rw[ca];exact kin x f,fun x f=>?_⟩,fun x f=>?_,e⟩
 .rw[(e x f).1];exact L4.2 (e x f).2
 .rw[(e x f).1];exact(OR _ _).2
theorem H9.left(s:H9 t r h m):m.d6.d3.length=r.kq.d4.d3.length/\m.d6.d5.length=r.kq.d4.d5.length:=⟨s.at_.m.AaH,s.at_.m.AaQ⟩
theorem H9.Ab0(s:H9 t r h m):Sd r.fd.d4.d3.length r.x4.d3 r.sx.d3 (m.d6.d3.map (AA (Gz h (dS r h m)).d3))/\
  (∀x∈r.x4.d3,AA (m.d6.d3.map (AA (Gz h (dS r h m)).d3)) x<(dS r h m).d3.length)/\
  ∀x∈r.x4.d3,AA (m.d6.d3.map (AA (Gz h (dS r h m)).d3)) x=C0 (dS r h m).d3 (AA m.d6.d3 x)/\AA m.d6.d3 x∈(dS r h m).d3:=by
 have ro:=s.ro;have o:=ro.right.ei;refine cP (by omega) ro.inj.1 ?_ (fun x e=>?_) (fun x e=>?_) (fun x e=>?_) s.co.ei rfl
 .have:=ro.mor.AaH;rw[this];exact ca ..
 .obtain⟨i,f,j,rfl⟩:=BW e;exact(ro.mor.node i f j).1
 .have:=ro.part.ei.1 x e;have:=s.left.1;omega
 .obtain⟨i,f,j,rfl⟩:=BW e;exact(s.at_.m.node i f j).1
theorem H9.Ab4(s:H9 t r h m):Sd r.fd.d4.d5.length r.x4.d5 r.sx.d5 (m.d6.d5.map (AA (Gz h (dS r h m)).d5))/\
  (∀x∈r.x4.d5,AA (m.d6.d5.map (AA (Gz h (dS r h m)).d5)) x<(dS r h m).d5.length)/\
  ∀x∈r.x4.d5,AA (m.d6.d5.map (AA (Gz h (dS r h m)).d5)) x=C0 (dS r h m).d5 (AA m.d6.d5 x)/\AA m.d6.d5 x∈(dS r h m).d5:=by
 have ro:=s.ro;have o:=ro.right.em;refine cP (by omega) ro.inj.2 ?_ (fun x e=>?_) (fun x e=>?_) (fun x e=>?_) s.co.em rfl
 .have:=ro.mor.AaQ;rw[this];exact ca ..
 .obtain⟨i,f,j,rfl⟩:=BW e;exact(ro.mor.edge i f j).1
 .have:=ro.part.em.1 x e;have:=s.left.2;omega
 .obtain⟨i,f,j,rfl⟩:=BW e;exact s.at_.m.edge i f j
theorem ZK{jj into at_:Fp}(h:Sd count jj into at_)(f:∀x∈jj,AA at_ x<n)(j:0<=i)(o:i<count):AA (Ry count jj into at_ n) i=n+(BC into i).length↔i∉into:=by
 rw [cO j o];constructor
 .intro e hi;rw[Pt hi]at e;have q:=IP hi;have:=f _ (AJ (l:=jj) q.1 (by have:=h.len;omega));omega
 .exact QS
theorem H9.grow(s:H9 t r h m):Tw t r (cS r h m):=
 ⟨s.hf,s.hv,s.ro.right,(H7 s.ro.right s.ro.AbS).1,U9 _ _ _ _ _⟩
theorem TE(l:Fp)(f:0<=i):∀(k:Nat),∃s,BC l (i+k)=BC l i++s
 |0=>⟨[],by simp⟩|k+1=>by
  obtain ⟨s,e⟩:=TE l f k
  grind [MP,ci]
variable{l:Fp}
theorem gR{i n:Int}(f:0<=i)(j:i<n)(h:i∉l):AA (BC l n) (BC l i).length=i/\((BC l i).length:Int)<(BC l n).length:=by
 obtain ⟨s,e⟩:=TE l (i:=i+1) (by omega) (n-(i+1)).toNat
 rw [show i+1+((n-(i+1)).toNat:Int)=n by omega,MP l f]at e
 grind [hasB,CL,AA]
variable{α:Type}
theorem mj[Inhabited α]{l m:List α}(e:0<=i)(f:i<l.length):AA (l++m) i=AA l i:=by grind[LT]
theorem ml[Inhabited α]{l m:List α}:AA (l++m) (l.length+n:Int)=AA m n:=by grind[LT,AA,Int.toNat_natCast]
theorem H9.kindAt(s:H9 t r h m)(w:0<=i)(y:i<r.fd.d4.d3.length):
  (0<=AA (cS r h m).d3 i/\AA (cS r h m).d3 i<(CU t r (Bw h (dS r h m)) (cS r h m)).d4.d3.length)/\
  (Ay t (AA r.fd.d4.d3 i)).length<=(Ay t (AA (CU t r (Bw h (dS r h m)) (cS r h m)).d4.d3 (AA (cS r h m).d3 i))).length:=by
 obtain ⟨F,K,N⟩:=s.Ab0;have G:AA (cS r h m).d3 i=Og r.x4.d3 r.sx.d3 (m.d6.d3.map (AA (Gz h (dS r h m)).d3)) (dS r h m).d3.length i:=cO w y;have el:(CU t r (Bw h (dS r h m)) (cS r h m)).d4.d3=(dS r h m).d3.map (AA h.d4.d3)++(Hw r).map (AA r.fd.d4.d3):=rfl;rw[G,el,cE,ca,ca];by_cases hi:i∈r.sx.d3
 .have e:=IP hi;have O:=F.len;have j:=AJ (l:=r.x4.d3) e.1 (by omega);have z:=N _ j;have D:=K _ j;have q:=F.pos _ j;rw[Pt hi];refine⟨⟨q,by push_cast;omega⟩,?_⟩;rw[mj q (by rw[ca];exact D),NW q D,z.1,(IP z.2).2.2.1];have o:=s.ro.part.ei.1 _ j;have H:=s.left.1;have u:=s.at_.m.node _ o.1 (by omega);have I:=s.hh.kind _ u.1.1 u.1.2;have E:=s.ro.mor.node _ e.1 e.2.1;rw[e.2.2.1]at E;have J:AA (ME r.kq.d4 r.x4).d3 (C0 r.sx.d3 i)=AA r.kq.d4.d3 (AA r.x4.d3 (C0 r.sx.d3 i)):=NW e.1 (by omega);rw[E.2,J];exact Vx (DG s.hv) I.2 u.2
 .have o:=gR w y hi;rw[QS hi];have f:((dS r h m).d3.map (AA h.d4.d3)).length=(dS r h m).d3.length:=ca ..;refine⟨⟨by omega,?_⟩,?_⟩
  .have:((Hw r).length:Int)=(BC r.sx.d3 r.fd.d4.d3.length).length:=rfl
   push_cast
   omega
  .rw[<-f,ml,show Hw r=BC r.sx.d3 r.fd.d4.d3.length from rfl,NW (by omega) o.2];show _<=(Ay t (AA r.fd.d4.d3 (AA (BC r.sx.d3 r.fd.d4.d3.length) (BC r.sx.d3 i).length))).length;rw[o.1];exact bk _
theorem H9.rows(s:H9 t r h m):(CU t r (Bw h (dS r h m)) (cS r h m)).fq.map (fun v=>v.length)=(CU t r (Bw h (dS r h m)) (cS r h m)).d4.d3.map fun n=>(Ay t n).length:=by
 show (List.map _ (_++_))=List.map _ (_++_);rw[List.map_append,List.map_append];congr 1
 .show((dS r h m).d3.map (AA h.fq)).map _=((dS r h m).d3.map (AA h.d4.d3)).map _;rw[List.map_map,List.map_map];refine List.map_congr_left fun x e=>?_;have e:=s.rem.ei.1 x e;exact s.hh.row x e.1 e.2
 grind [List.map_map,List.map_congr_left,fj,ca]
theorem H9.put(s:H9 t r h m):Sg t r (cS r h m) m.hV (CU t r (Bw h (dS r h m)) (cS r h m)):=by
 obtain ⟨N,G,O⟩:=Uw s.re;obtain⟨hv,P,z⟩:=Y5 G;have I:=s.at_.q.vars;have D:=s.at_.len;have w:=s.rows;have y:(CU t r (Bw h (dS r h m)) (cS r h m)).fq.length=(CU t r (Bw h (dS r h m)) (cS r h m)).d4.d3.length:=by
  grind [List.length,ca]
 refine ⟨s.hf,s.hv,by omega,by omega,fun x e=>?_,fun n f=>?_,y,fun i j u=>?_⟩
 .obtain⟨i,j,u,rfl⟩:=BW e;obtain⟨o,H,Q⟩:=bU (z i j u);have E:=(H7 s.ro.right s.ro.AbS).1 _ (AJ o.1 o.2);rw[If s.hv E.1 E.2]at H;obtain⟨S,U⟩:=s.kindAt o.1 o.2;have F:(cS r h m).d3.length=r.fd.d4.d3.length:=U9 _ _ _ _ _
  grind
 .have f:n∈(dS r h m).d3.map (AA h.d4.d3)++(Hw r).map (AA r.fd.d4.d3):=f;rcases List.mem_append.1 f with f|f
  .obtain⟨x,e,rfl⟩:=List.mem_map.1 f;have e:=s.rem.ei.1 x e;exact s.hh.kind x e.1 e.2
  .obtain⟨x,e,rfl⟩:=List.mem_map.1 f;have e:=Hh e;exact(H7 s.ro.right s.ro.AbS).1 _ (AJ e.1 e.2)
 .have J:=NW (l:=(CU t r (Bw h (dS r h m)) (cS r h m)).fq) (g:=fun v=>v.length) j (by omega);have K:=NW (l:=(CU t r (Bw h (dS r h m)) (cS r h m)).d4.d3) (g:=fun n=>(Ay t n).length) j u
  grind
end Go.Sf.Sc
namespace Go.Sf.Sc
open Go Go.Sf
abbrev tz:gp:=gp.mk (⟨#[]⟩:ByteArray) (ec.mk (d4.mk [] []) [] 0 []) (ec.mk (d4.mk [] []) [] 0 []) (BB.mk [] []) (d6.mk [] []) false (d7.mk 0 [] (d6.mk [] []) (ec.mk (d4.mk [] []) [] 0 []))
abbrev zG:Ar:=Ar.mk tz (AL.mk (d6.mk [] []) []) (AG.mk (d4.mk [] []) []) (AG.mk (d4.mk [] []) []) (d6.mk [] []) (d6.mk [] [])
def Wi(t:AC)(r:gp)(h:AG)(m:AL):Ar×Int:=
 if (Hy t (CU t r (Bw h (dS r h m)) (cS r h m)) (By r (cS r h m) m.hV)).2≠0 then(zG,(Hy t (CU t r (Bw h (dS r h m)) (cS r h m)) (By r (cS r h m) m.hV)).2)else
 if 40<(Hy t (CU t r (Bw h (dS r h m)) (cS r h m)) (By r (cS r h m) m.hV)).1.d4.d3.length\/80<(Hy t (CU t r (Bw h (dS r h m)) (cS r h m)) (By r (cS r h m) m.hV)).1.d4.d5.length then(zG,3)else
 (Ar.mk r m h (Hy t (CU t r (Bw h (dS r h m)) (cS r h m)) (By r (cS r h m) m.hV)).1 (Gz h (dS r h m)) (cS r h m),0)
noncomputable def NV(t:AC)(r:gp)(h:AG)(m:AL):Ar×Int:=
 if FY t r≠0 then(zG,FY t r)else if(ID t h).2≠0 then(zG,(ID t h).2)else
 if F8 t r.kq.d4 h.d4 m.d6 r.pq≠0 then(zG,1)else
 if (FC t r.kq h m.d6).2≠0 then(zG,(FC t r.kq h m.d6).2)else if¬(FC t r.kq h m.d6).1=m.hV then(zG,11)else
 if (Ls (Q8 r.kq.d4 h.d4 m.d6) h.d4 r.x4 m.d6).2≠0 then(zG,(Ls (Q8 r.kq.d4 h.d4 m.d6) h.d4 r.x4 m.d6).2)else
 if (LO t r.kq r.d7 h m r.pq).2≠0 then(zG,(LO t r.kq r.d7 h m r.pq).2)else
 if (LO t r.kq r.d7 h m r.pq).1=false then(zG,16)else Wi t r h m
variable{t:AC}{r:gp}{h:AG}{m:AL}
theorem U8(e:FY t r=0)(f:(ID t h).2=0)(j:F8 t r.kq.d4 h.d4 m.d6 r.pq=0)(o:(FC t r.kq h m.d6).2=0)(q:(FC t r.kq h m.d6).1=m.hV):Ru t r.kq r.d7 h m r.pq=0:=by
 unfold Ru;rw[az (by simp[(Uw e).2.2]),az (by simp[f]),az (by simp[j]),az (by simp[o]),ae q]
theorem ZW{X:Option (Ar×Int)}(e:(Hy t (CU t r (Bw h (dS r h m)) (cS r h m)) (By r (cS r h m) m.hV)).2=0->X=
   if ((decide (40<((Hy t (CU t r (Bw h (dS r h m)) (cS r h m)) (By r (cS r h m) m.hV)).1.d4.d3.length:Int)))||(decide (80<((Hy t (CU t r (Bw h (dS r h m)) (cS r h m)) (By r (cS r h m) m.hV)).1.d4.d5.length:Int))))=true then some (zG,3)else
   some (Ar.mk r m h (Hy t (CU t r (Bw h (dS r h m)) (cS r h m)) (By r (cS r h m) m.hV)).1 (Gz h (dS r h m)) (cS r h m),0)):
  (if(!decide ((Hy t (CU t r (Bw h (dS r h m)) (cS r h m)) (By r (cS r h m) m.hV)).2=0))=true then some (zG,(Hy t (CU t r (Bw h (dS r h m)) (cS r h m)) (By r (cS r h m) m.hV)).2)else X)=some (Wi t r h m):=by
 unfold Wi;refine Dp fun f=>?_;rw[e f];refine Kc (by simp;omega) fun _=>rfl
theorem np(hf:At t)(fr:PZ r)(F:ER r.d7<=40)(h:AG)(m:AL):Hl t r h m=some (NV t r h m):=by
 unfold Hl Hn NV;rw[Mt hf,bs];by_cases hv:¬(Ax t).2=0
 .grind[FY,Ax]
 have hv:=Classical.not_not.1 hv;rw[az (by simp[hv]),dJ hf fr,bs,Uh hf,bs];by_cases j:¬FY t r=0
 .grind
 have j:=Classical.not_not.1 j;rw[az (by simp[j]),bs,az (show¬FY t r≠0 by simp[j])];refine Dp fun G=>?_;rw[Option.bind_fun_some];unfold Hm Gx;rw[VM hf,bs];by_cases o:¬F8 t r.kq.d4 h.d4 m.d6 r.pq=0
 .grind
 have o:=Classical.not_not.1 o;rw[az (by simp[o]),Zf hf,bs,az (show¬F8 t r.kq.d4 h.d4 m.d6 r.pq≠0 by simp[o])];by_cases w:¬(FC t r.kq h m.d6).2=0
 .grind
 have w:=Classical.not_not.1 w;rw[az (by simp[w]),jE,bs,az (show¬(FC t r.kq h m.d6).2≠0 by simp[w])];by_cases y:¬(FC t r.kq h m.d6).1=m.hV
 .grind
 have y:=Classical.not_not.1 y;rw[az (by simp[y]),bs,az (by simp),az (show¬¬(FC t r.kq h m.d6).1=m.hV by simp[y])];rw[nd hf o,bs,az (by simp),nW fr.jj,bs];refine Dp fun H=>?_;obtain⟨_,_,_,z⟩:=UA hf F (U8 j G o w y);obtain⟨co,Q⟩:=VA H;rw[Yz hf _ fr.cond F,bs,Q];refine Dp fun S=>?_;refine UB fun U=>?_;have s:H9 t r h m:=⟨hf,fr,j,G,z,co⟩;have u:=s.rem;have V:=s.hh.g.ei;have W:=s.hh.g.em;have l1:=s.left.1;have l2:=s.left.2;have X:=s.ro.left.ei;have Y:=s.ro.left.em;have J:=z.len;have K:=z.q.vars;have E:Ic m=some m:=by
  unfold Ic slices_Clone_int;rw[BE (by unfold Ad;omega),bs,BE (by unfold Ad;omega),bs,BE (by unfold Ad;omega),bs]
 simp only[];rw[E,bs,bB u.sm,bs];rw[Zk (by omega) u.ei.2 (Lf _ _),bs,Zk (by omega) u.em.2 (Lf _ _),bs];have N:Fo r.fd.d4.d3.length r.x4.d3 r.sx.d3 m.d6.d3 (Gy h.d4.d3.length (dS r h m).d3) (LD h.d4 r.x4 m.d6).d3.length=some (cS r h m).d3:=
  V2 s.Ab0.1 (fun x D=>by rw[Ip];obtain⟨i,e,f,rfl⟩:=BW D;exact(z.m.node i e f).1) (by omega) (Int.ofNat_le.2 u.ei.2)
 have O:Fo r.fd.d4.d5.length r.x4.d5 r.sx.d5 m.d6.d5 (Gy h.d4.d5.length (dS r h m).d5) (LD h.d4 r.x4 m.d6).d5.length=some (cS r h m).d5:=
  V2 s.Ab4.1 (fun x D=>by rw[Ip];obtain⟨i,e,f,rfl⟩:=BW D;exact z.m.edge i e f) (by omega) (Int.ofNat_le.2 u.em.2)
 rw [N,bs,O,bs];have P:=kY (M:=m) s.grow u (U9 _ _ _ _ _) (fun i e f=>ZK s.Ab0.1 s.Ab0.2.1 e f) (fun i e f=>ZK s.Ab4.1 s.Ab4.2.1 e f);change ((GU t (Ar.mk r m h (AG.mk (d4.mk [] []) []) (Gz h (dS r h m)) (cS r h m)) (dS r h m)).bind _)=_;rw[P,bs,nZ s.put,bs];exact ZW fun I=>by rw[ae I]
variable{inj:Bool}
theorem dU(hf:At t){p:ec}{c:d7}(e:ER c<=40)(f:Ru t p c h m inj=0):Kt t c h m inj=some (LO t p c h m inj):=by
 obtain ⟨hv,hh,j,o⟩:=UA hf e f
 grind [Kt,LO,wS,Cb,l5,ct,gG]
theorem oK(hf:At t)(fr:PZ r)(H:ER r.d7<=40)(h:AG)(m:AL):Kz t r h m=some (NV t r h m):=by
 unfold Kz NI NV;rw[df hf fr,bs,Up hf,bs];by_cases e:¬FY t r=0
 .rw[ae (by simp[e]),bs,ae (by simp[e]),ae e]
 have e:=Classical.not_not.1 e;rw[az (by simp[e]),bs,az (show¬FY t r≠0 by simp[e])];refine Dp fun z=>?_;unfold KP;rw[VQ hf,bs];by_cases f:¬F8 t r.kq.d4 h.d4 m.d6 r.pq=0
 .rw[ae (by simp[f]),bs,ae (by simp),ae f]
 have f:=Classical.not_not.1 f;rw[az (by simp[f]),kz hf,bs,az (show¬F8 t r.kq.d4 h.d4 m.d6 r.pq≠0 by simp[f])];by_cases j:¬(FC t r.kq h m.d6).2=0
 .rw[ae (by simp[j]),bs,ae (by simp[j]),ae j]
 have j:=Classical.not_not.1 j;rw[az (by simp[j]),Zm,bs,az (show¬(FC t r.kq h m.d6).2≠0 by simp[j])];by_cases u:¬(FC t r.kq h m.d6).1=m.hV
 .rw[ae (by simp[u]),bs,ae (by simp),ae u]
 have u:=Classical.not_not.1 u;rw[az (by simp[u]),az (show¬¬(FC t r.kq h m.d6).1=m.hV by simp[u])];rw[oE hf f,bs,az (by simp),n7 fr.jj,bs];by_cases o:¬(Ls (Q8 r.kq.d4 h.d4 m.d6) h.d4 r.x4 m.d6).2=0
 .rw[ae (by simp[o]),bs,ae (by simp[o]),ae o]
 have o:=Classical.not_not.1 o;rw[az (by simp[o]),az (show¬(Ls (Q8 r.kq.d4 h.d4 m.d6) h.d4 r.x4 m.d6).2≠0 by simp[o])];have y:=U8 e z f j u;obtain⟨_,_,_,E⟩:=UA hf H y;obtain⟨co,K⟩:=VA o;rw[dU hf H y,bs,K,Hx,bs,bs];by_cases q:¬(LO t r.kq r.d7 h m r.pq).2=0
 .rw[az (show¬((decide ((LO t r.kq r.d7 h m r.pq).2=0)&&!(LO t r.kq r.d7 h m r.pq).1)=true)by simp[q]),ae (by simp[q]),ae q]
 have q:=Classical.not_not.1 q;rw[az (show¬(LO t r.kq r.d7 h m r.pq).2≠0 by simp[q])];cases O:(LO t r.kq r.d7 h m r.pq).1 with
 |false=>rw[ae (show(decide ((LO t r.kq r.d7 h m r.pq).2=0)&&!false)=true by simp[q]),ae (by simp),ae rfl]|true=>
 rw [az (show¬(decide ((LO t r.kq r.d7 h m r.pq).2=0)&&!true)=true by simp),az (by simp[q]),az (by simp)];have s:H9 t r h m:=⟨hf,fr,e,z,E,co⟩;have w:=s.rem;have P:=s.hh.g.ei;have Q:=s.hh.g.em;have l1:=s.left.1;have l2:=s.left.2;have S:=s.ro.left.ei;have U:=s.ro.left.em;unfold LB J5;simp only[];rw[Y1 hf z s.part w,bs,YA (by omega) w.ei.2 ((Lf _ _).imp fun h=>by omega),bs,bs,YA (by omega) w.em.2 ((Lf _ _).imp fun h=>by omega),bs,bs,bs];simp only[];rw[Uo (by omega) (fun x D=>by rw[Ip];obtain⟨i,F,G,rfl⟩:=BW D;exact(E.m.node i F G).1),bs];rw[Uo (by omega) (fun x D=>by rw[Ip];obtain⟨i,F,G,rfl⟩:=BW D;exact E.m.edge i F G),bs];have I:FA r.x4.d3 r.sx.d3 r.fd.d4.d3.length (m.d6.d3.map (AA (Gy h.d4.d3.length (dS r h m).d3))) (LD h.d4 r.x4 m.d6).d3.length=some (cS r h m).d3:=
  WA s.Ab0.1 (by omega) (Int.ofNat_le.2 w.ei.2)
 have J:FA r.x4.d5 r.sx.d5 r.fd.d4.d5.length (m.d6.d5.map (AA (Gy h.d4.d5.length (dS r h m).d5))) (LD h.d4 r.x4 m.d6).d5.length=some (cS r h m).d5:=
  WA s.Ab4.1 (by omega) (Int.ofNat_le.2 w.em.2)
 rw [I,bs,J,bs];rw[SP (WH w),bs];change ((KO t r (Bw h (dS r h m)) (cS r h m)).bind _)=_;rw[oC s.grow (WH w),bs];change ((Ld t r (CU t r (Bw h (dS r h m)) (cS r h m)) (cS r h m) m.hV).bind _)=_;rw[r9 s.put,bs];exact ZW fun N=>rfl
end Go.Sf.Sc
namespace Go.Sf.Sc
open Go Go.Sf
instance:Inhabited gp:=⟨tz⟩
instance:Inhabited Bq:=⟨⟨0,⟨⟨[],[]⟩,[]⟩⟩⟩
instance:Inhabited Ar:=⟨zG⟩
structure Ir(rules:List gp):Prop where
 len:rules.length<=12
 each:∀r∈rules,PZ r/\ER r.d7<=40
noncomputable def Hb(t:AC)(rules:List gp)(h:AG)(m:Bq):Ar×Int:=if m.gp<0\/rules.length<=m.gp then(zG,6)else NV t (AA rules m.gp) h m.o3
variable{t:AC}{rules:List gp}
theorem dF(hf:At t)(f:Ir rules)(h:AG)(m:Bq):Cn t rules h m=some (Hb t rules h m):=by
 unfold Cn Hb;refine Kc (by simp) fun e=>?_;have j:=f.each _ (AJ (l:=rules) (i:=m.gp) (by omega) (by omega))
 grind [AD,np]
theorem dZ(hf:At t)(f:Ir rules)(h:AG)(m:Bq):KQ t rules h m=some (Hb t rules h m):=by
 unfold KQ Hb;refine Kc (by simp) fun e=>?_;have j:=f.each _ (AJ (l:=rules) (i:=m.gp) (by omega) (by omega))
 grind [AD,oK]
noncomputable def QC(t:AC)(rules:List gp):Int:=
 if (Ax t).2≠0 then(Ax t).2 else if 10<rules.length then 3 else(fst (fun i=>nz (FY t (AA rules i))) 0 rules.length).getD 0
noncomputable def OC(t:AC)(rules:List gp)(h:AG):Int:=if QC t rules≠0 then QC t rules else(ID t h).2
theorem cu{e v:Int}(h:nz e=some v):v≠0:=by grind[nz]
variable{a b v:Int}
theorem kC{c:Int->Int}(h:fst (fun i=>nz (c i)) a b=some v):v≠0:=by grind[Cz,cu]
theorem dg(hf:At t)(j:Ir rules):K4 t rules=some (QC t rules):=by
 unfold K4 QC;rw[OU hf,bs];refine DX fun o=>Kc (by simp;try omega) fun q=>?_;rw[BV (fun i=>nz (FY t (AA rules i))),CW];intro i e f _;rw[AD e f,bs,df hf (j.each _ (AJ e f)).1,bs,Kh]
theorem YE(hf:At t)(e:Ir rules)(h:AG):JT t rules h=some (OC t rules h):=by
 unfold JT OC;rw[dg hf e,bs,Up hf,bs];exact DX fun _=>rfl
theorem fx(hf:At t)(q:Ir rules)(h:AG):C9 t rules h=some (OC t rules h):=by
 unfold C9 OC QC;rw[Mt hf,bs];by_cases f:¬(Ax t).2=0
 .grind
 have f:=Classical.not_not.1 f;rw[az (by simp[f]),az (show¬(Ax t).2≠0 by simp[f])];by_cases s:10<rules.length
 .grind
 rw [az (by simp;omega),az s,BV (fun i=>nz (FY t (AA rules i))),Dk]
 .cases e:fst (fun i=>nz (FY t (AA rules i))) 0 (rules.length:Int)with
  |none=>
   grind [Uh]
  |some v=>
   have:=kC e
   grind
 .intro i j o _;rw[AD j o,bs,dJ hf (q.each _ (AJ j o)).1,bs,Kh]
noncomputable def G5(t:AC)(rules:List gp)(h0:AG)(ms:List Bq):List Ar×AG:=
 ms.foldl (fun s m=>(s.1++[(Hb t rules s.2 m).1],(Hb t rules s.2 m).1.tn)) ([],h0)
noncomputable def Rz(t:AC)(rules:List gp)(h0:AG)(ms:List Bq)(i:Int):Int:=(Hb t rules (G5 t rules h0 (ms.take i.toNat)).2 (AA ms i)).2
theorem Ov(t:AC)(rules:List gp)(e:AG)(f:List Bq)(m:Bq):G5 t rules e (f++[m])=((G5 t rules e f).1++[(Hb t rules (G5 t rules e f).2 m).1],(Hb t rules (G5 t rules e f).2 m).1.tn):=by
 unfold G5
 grind
theorem OX(t:AC)(rules:List gp)(f:AG)(e:List Bq):(G5 t rules f e).1.length=e.length:=by
 refine Tn (P:=fun e=>(G5 t rules f e).1.length=e.length) rfl (fun e m j=>?_) e
 grind [Ov,cE]
variable{α:Type}{i:Int}
theorem jv[Inhabited α]{l m:List α}(e:0<=i)(f:i<l.length):AA (l++m) i=AA l i:=by grind[LT]
theorem mn[Inhabited α](l:List α)(a:α):AA (l++[a]) l.length=a:=by
 rw [LT,az (by simp),Int.toNat_natCast,Nat.sub_self];rfl
theorem o8(t:AC)(rules:List gp)(f:AG)(e:List Bq):∀i:Int,0<=i->i<e.length->AA (G5 t rules f e).1 i=(Hb t rules (G5 t rules f (e.take i.toNat)).2 (AA e i)).1:=by
 refine Tn (P:=fun e=>∀i:Int,0<=i->i<e.length->AA (G5 t rules f e).1 i=(Hb t rules (G5 t rules f (e.take i.toNat)).2 (AA e i)).1) (fun i o j=>by simp at j;omega) (fun e m q i o j=>?_) e;rw[Ov];have s:=OX t rules f e;rw[cE,List.length_singleton]at j
 grind [jv,mn,Int.toNat_natCast,List.take_left']
noncomputable def Ot(t:AC)(rules:List gp)(d:AO):List Ar×Int×Int:=
 if OC t rules d.kp≠0 then([],0,OC t rules d.kp)else if 30<d.j4.length then([],0,3)else
 match fst (fun i=>(nz (Rz t rules d.kp d.j4 i)).map fun e=>([],i,e)) 0 d.j4.length with
 |some r=>r|none=>((G5 t rules d.kp d.j4).1,(d.j4.length:Int),0)
variable{d:AO}
theorem YM(hd:d.j4.length<=1000){f:AG->Bq->Option (Ar×Int)}(hf:∀h m,f h m=some (Hb t rules h m)):
  gn (kl (ρ:=(List Ar×Int×Int)) (fun(o:Int)(q:List Ar×AG)=>
  (idx d.j4 o).bind fun u=>
  (f q.2 u).bind fun j=>
  if (!decide (j.2=0))=true then
  some (.ret ([],o,j.2))
  else
  (Ag q.1 [j.1]).bind fun w=>
  some (.next (w,j.1.tn))) 0 (d.j4.length:Int) ([],d.kp)) (fun q=>
  some (q.1,(q.1.length:Int),(0:Int))) (fun z=>some z)=some (match fst (fun i=>(nz (Rz t rules d.kp d.j4 i)).map fun e=>([],i,e)) 0 d.j4.length with
   |some r=>r|none=>((G5 t rules d.kp d.j4).1,(d.j4.length:Int),0)):=by
 rw [JK (a:=0) (s:=(([],d.kp):List Ar×AG)) (fun i=>G5 t rules d.kp (d.j4.take i.toNat)) (fun i=>(nz (Rz t rules d.kp d.j4 i)).map fun e=>([],i,e)) (by omega) rfl]
 .cases fst (fun i=>(nz (Rz t rules d.kp d.j4 i)).map fun e=>(([],i,e):List Ar×Int×Int)) 0 (d.j4.length:Int)with
  |some r=>rfl|none=>
   show some _=some _;rw[Int.toNat_natCast,List.take_length,OX]
 .intro i o y _;have D:=OX t rules d.kp (d.j4.take i.toNat);rw[AD o y,bs,hf,bs];show(if(!decide (Rz t rules d.kp d.j4 i=0))=true then _ else _)=_;by_cases e:Rz t rules d.kp d.j4 i=0
  .rw[az (by simp[e]),Ae (by rw[D,c7];simp;unfold Ad;omega),bs,CF o y,Ov,JL.2 e];rfl
  .rw[ae (by simp[e])];unfold nz;rw[az e];rfl
theorem fz(hf:At t)(e:Ir rules)(d:AO):DJ t rules d=some (Ot t rules d):=by
 unfold DJ Ot;rw[fx hf e,bs];refine Dp fun f=>Kc (by simp;try omega) fun j=>?_;exact YM (by omega) (dF hf e)
theorem gJ(hf:At t)(e:Ir rules)(d:AO):J7 t rules d=some (Ot t rules d):=by
 unfold J7 Ot;rw[YE hf e,bs];refine Dp fun f=>Kc (by simp;try omega) fun j=>?_;exact YM (by omega) (dZ hf e)
structure Sh(t:AC)(rules:List gp)(d:AO):Prop where
 given:OC t rules d.kp=0
 few:d.j4.length<=30
 moves:∀i:Int,0<=i->i<d.j4.length->Rz t rules d.kp d.j4 i=0
theorem Uv:(Ot t rules d).2.2=0↔Sh t rules d:=by
 unfold Ot;constructor
 .intro h;split at h
  .grind
  rename_i f;split at h
  .cases h
  rename_i j;split at h
  .grind[Cz,nz,Rz,cu]
  .rename_i e;rw[B2]at e;refine⟨Classical.not_not.1 f,by omega,fun i o q=>?_⟩
   grind [LN,JL]
 .rintro⟨f,j,s⟩
  grind [B2,JL]
theorem dl(h:Sh t rules d):Ot t rules d=((G5 t rules d.kp d.j4).1,(d.j4.length:Int),0):=by
 unfold Ot;rw[az (by simp[h.given]),az (by have:=h.few;omega),B2.2 fun i e f=>by rw[JL.2 (h.moves i e f)];rfl]
structure aH(h:AG)(s:Ar):Prop where
 AaH:s.Aan.d3.length=h.d4.d3.length
 AaQ:s.Aan.d5.length=h.d4.d5.length
 node:∀x∈s.Aan.d3,-1<=x/\x<s.tn.d4.d3.length
 edge:∀x∈s.Aan.d5,-1<=x/\x<s.tn.d4.d5.length
 sm:GA s.tn
variable{x:AG}{L:BD}
theorem nx(h:(Hy t x L).2=0):Hy t x L=(⟨x.d4,L.foldl CT x.fq⟩,0)/\L.any (Nu t x)=false:=by
 unfold Hy at h|-
 grind
structure Pp(t:AC)(r:gp)(h:AG)(m:AL):Prop where
 f:H9 t r h m
 sat:LO t r.kq r.d7 h m r.pq=(true,0)
 solve:FC t r.kq h m.d6=(m.hV,0)
 chk:F8 t r.kq.d4 h.d4 m.d6 r.pq=0
 put:(Hy t (CU t r (Bw h (dS r h m)) (cS r h m)) (By r (cS r h m) m.hV)).2=0
 few:(CU t r (Bw h (dS r h m)) (cS r h m)).d4.d3.length<=40/\(CU t r (Bw h (dS r h m)) (cS r h m)).d4.d5.length<=80
def Rg(t:AC)(r:gp)(h:AG)(m:AL):AG:=⟨(CU t r (Bw h (dS r h m)) (cS r h m)).d4,(By r (cS r h m) m.hV).foldl CT (CU t r (Bw h (dS r h m)) (cS r h m)).fq⟩
def Uz(t:AC)(r:gp)(h:AG)(m:AL):Ar:=Ar.mk r m h (Rg t r h m) (Gz h (dS r h m)) (cS r h m)
variable{r:gp}{h:AG}{m:AL}
theorem fH(hf:At t)(fr:PZ r)(G:ER r.d7<=40)(e:(NV t r h m).2=0):Pp t r h m/\NV t r h m=(Uz t r h m,0):=by
 unfold NV at e|-;split at e
 .rename_i j;exact absurd e j
 rename_i j;rw[az j];split at e
 .rename_i o;exact absurd e o
 rename_i o;rw[az o];split at e
 .cases e
 rename_i z;rw[az z];split at e
 .rename_i q;exact absurd e q
 rename_i q;rw[az q];split at e
 .cases e
 rename_i D;rw[az D];split at e
 .rename_i w;exact absurd e w
 rename_i w;rw[az w];split at e
 .rename_i y;exact absurd e y
 rename_i y;rw[az y];split at e
 .cases e
 rename_i E;rw[az E];have j:=Classical.not_not.1 j;have o:=Classical.not_not.1 o;have z:=Classical.not_not.1 z;have q:=Classical.not_not.1 q;have D:=Classical.not_not.1 D;have w:=Classical.not_not.1 w;have y:=Classical.not_not.1 y;obtain⟨_,_,_,H⟩:=UA hf G (U8 j o z q D);have s:H9 t r h m:=⟨hf,fr,j,o,H,(VA w).1⟩;unfold Wi at e|-;split at e
 .rename_i u;exact absurd e u
 rename_i u;rw[az u];have u:=Classical.not_not.1 u;obtain⟨F,I⟩:=nx u;split at e
 .cases e
 rename_i f;rw[az f];rw[F]at f;refine⟨⟨s,?_,?_,z,u,?_⟩,?_⟩
 .exact Prod.ext (by simpa using E) y
 .exact Prod.ext D q
 .simp[not_or]at f;exact f
 .rw[F];rfl
theorem Pp.trk(s:Pp t r h m):aH h (Uz t r h m):=by
 have D:=s.f.rem;have j:=s.f.put;have E:((CU t r (Bw h (dS r h m)) (cS r h m)).d4.d3.length)=(dS r h m).d3.length+(Hw r).length:=by
  show (List.length (_++_))=_;rw[cE,ca];show((dS r h m).d3.map _).length+_=_;rw[ca];rfl
 have he:((CU t r (Bw h (dS r h m)) (cS r h m)).d4.d5.length)=(dS r h m).d5.length+(Mj r).length:=by
  show (List.length (_++_))=_;rw[cE,ca];show((dS r h m).d5.map _).length+_=_;rw[ca];rfl
 have u:KD (Rg t r h m).fq (CU t r (Bw h (dS r h m)) (cS r h m)).fq:=Xa _ _;have y:(Rg t r h m).fq.length=(CU t r (Bw h (dS r h m)) (cS r h m)).d4.d3.length:=by
  have:=congrArg List.length u;rw[ca,ca]at this;rw[this,j.vlen]
 refine ⟨Ip _ _,Ip _ _,fun x o=>?_,fun x o=>?_,⟨?_,?_,?_,fun v hv=>?_⟩⟩
 .obtain⟨i,hi,rfl⟩:=List.mem_map.1 o;have:=OR (dS r h m).d3 i;have z:(Uz t r h m).tn.d4.d3.length=(CU t r (Bw h (dS r h m)) (cS r h m)).d4.d3.length:=rfl
  grind
 .obtain⟨i,hi,rfl⟩:=List.mem_map.1 o;have:=OR (dS r h m).d5 i;have z:(Uz t r h m).tn.d4.d5.length=(CU t r (Bw h (dS r h m)) (cS r h m)).d4.d5.length:=rfl
  grind
 .have:=s.few.1;show(CU t r (Bw h (dS r h m)) (cS r h m)).d4.d3.length<=1000;omega
 .have:=s.few.2;show(CU t r (Bw h (dS r h m)) (cS r h m)).d4.d5.length<=1000;omega
 .have:=s.few.1;show(Rg t r h m).fq.length<=1000;omega
 .have w:v.length∈(Rg t r h m).fq.map List.length:=List.mem_map.2 ⟨v,hv,rfl⟩;rw[u,s.f.rows]at w;obtain⟨n,q,e⟩:=List.mem_map.1 w;have:=GL j.hf (Int.le_refl _) (DG j.hv).par (j.kind n q).2;omega
end Go.Sf.Sc
namespace Go.Sf.Sc
open Go Go.Sf
def Pq(l by':Fp):Fp:=l.map fun x=>if x<0 then -1 else AA by' x
def bj(m tr:d6):d6:=⟨Pq m.d3 tr.d3,Pq m.d5 tr.d5⟩
def VG(m:d6)(l:List Ar):d6:=l.foldl (fun m s=>bj m s.Aan) m
def Vu(g:d4):d6:=⟨Ao g.d3.length,Ao g.d5.length⟩
variable{l by':Fp}
theorem Zg(s:l.length<=1000)(h:∀x∈l,-1<=x/\x<by'.length):FI l by'=some (Pq l by'):=by
 unfold FI slices_Clone_int;rw[BE (by unfold Ad;omega),bs,Bj (fun i=>(Ao l.length).map fun j=>if j<i then(if AA l j<0 then -1 else AA by' (AA l j))else AA l j) (by omega)]
 .grind[Pq,cj,CI]
 .conv=>rhs;rw[<-PX l]
  grind [CI]
 .intro i f o;have q:=h _ (AJ f o);rw[AD f (by rw[ca,A3];exact o),bs,HI _ f o,az (show¬i<i by omega)];by_cases e:0<=AA l i
  .rw[ae (by simpa using e),AD e q.2,bs,bs,Gd _ f]
   grind
  grind
theorem Zo(q:l.length<=1000)(h:∀x∈l,-1<=x/\x<by'.length):JS l by'=some (Pq l by'):=by
 unfold JS;rw[RA (F:=fun x=>if x<0 then -1 else AA by' x) fun i s f j u=>?_]
 .rfl
 .have o:=h _ (AJ f j);rw[AD f j,bs];by_cases e:AA l i<0
  .rw[ae (by simpa using e),Ae (by simp;unfold Ad;omega),bs,ae e]
  .rw[az (by simpa using e),bs,AD (by omega) o.2,bs,Ae (by simp;unfold Ad;omega),bs,az e]
variable{n:Nat}
theorem V4(h:n<=1000):FM n=some (Ao n):=by
 unfold FM IQ;rw[ae (by omega),bs,Int.toNat_natCast,List.length_replicate,Bj (fun i=>(Ao n).map fun j=>if j<i then j else 0) (by omega)]
 .rw[bs];congr 1
  conv=>rhs;rw[<-List.map_id' (Ao n)]
  exact CI fun j u o=>ae o
 .refine List.ext_getElem (by simp[A3]) (fun k w z=>?_);have e:(Ao n)[k]'(by simpa[A3]using w)=(k:Int):=by simp[Ao]
  simp only[List.getElem_map,List.getElem_replicate,e];rw[az (by omega)]
 .intro i q y;rw[AD q (by rw[ca,A3];exact y),bs,Gd _ q];congr 1;refine CI fun j u o=>?_;by_cases f:j=i
  .rw[ae f,ae (by omega),f]
  .rw[az f];by_cases s:j<i
   .rw[ae s,ae (show j<i+1 by omega)]
   .rw[az s,az (show¬j<i+1 by omega)]
variable{g:d4}
theorem bE(h:Bk g=0):Cw g=some (Vu g):=by
 have e:=Cp h;have:=e.ei;have:=e.em;unfold Cw D0;rw[KI,bs,az (by simp[h]),V4 (by omega),bs,V4 (by omega),bs,bs];rfl
theorem YD(h:n<=1000):IS n=some (Ao n):=by
 unfold IS;rw[LX (fun _=>true) id]
 .rw[bs,List.map_id,List.filter_eq_self.2 fun _ _=>rfl]
 .intro i s e f j;rw[Ae (by simp;unfold Ad;omega),bs,ae rfl];rfl
theorem uQ(h:Bk g=0):On g=some (Vu g):=by
 have e:=Cp h;have:=e.ei;have:=e.em;unfold On;rw[YD (by omega),bs,YD (by omega),bs];rfl
structure bw(m:d6)(g:d4):Prop where
 AaH:m.d3.length<=1000
 AaQ:m.d5.length<=1000
 node:∀x∈m.d3,-1<=x/\x<g.d3.length
 edge:∀x∈m.d5,-1<=x/\x<g.d5.length
theorem rO(h:Bk g=0):bw (Vu g) g:=by
 have f:=Cp h;have:=f.ei;have:=f.em;refine⟨by show(Ao _).length<=1000;rw[A3];omega,by show(Ao _).length<=1000;rw[A3];omega,fun x e=>?_,fun x e=>?_⟩
 .have:=EU.1 e;omega
 .have:=EU.1 e;omega
theorem XB(f:∀x∈l,-1<=x/\x<by'.length)(j:∀x∈by',-1<=x/\x<n):∀x∈Pq l by',-1<=x/\x<n:=by
 intro x e;obtain⟨y,o,rfl⟩:=List.mem_map.1 e
 grind [AJ]
variable{h:AG}
theorem lz{m:d6}{s:Ar}(e:bw m h.d4)(f:aH h s):bw (bj m s.Aan) s.tn.d4:=by
 refine ⟨by show(List.map _ _).length<=1000;rw[ca];exact e.AaH,by show(List.map _ _).length<=1000;rw[ca];exact e.AaQ,?_,?_⟩
 .exact XB (fun x j=>by have:=e.node x j;rw[f.AaH];exact this) f.node
 .exact XB (fun x j=>by have:=e.edge x j;rw[f.AaQ];exact this) f.edge
variable{t:AC}{rules:List gp}
theorem P6(hf:At t)(j:Ir rules){m:Bq}(e:(Hb t rules h m).2=0):
  (0<=m.gp/\m.gp<rules.length)/\Pp t (AA rules m.gp) h m.o3/\Hb t rules h m=(Uz t (AA rules m.gp) h m.o3,0):=by
 unfold Hb at e|-;split at e
 .cases e
 rename_i o;rw[az o];have f:=j.each _ (AJ (l:=rules) (i:=m.gp) (by omega) (by omega));exact⟨by omega,fH hf f.1 f.2 e⟩
theorem Sj(hf:At t)(e:OC t rules h=0):QC t rules=0/\(ID t h).2=0/\(Ax t).2=0/\IH t h:=by grind[OC,Sk]
variable{d:AO}
theorem PS(hf:At t)(j:Ir rules)(h:Sh t rules d):∀n:Nat,n<=d.j4.length ->
  GA (G5 t rules d.kp (d.j4.take n)).2/\bw (VG (Vu d.kp.d4) (G5 t rules d.kp (d.j4.take n)).1) (G5 t rules d.kp (d.j4.take n)).2.d4
 |0,_=>by
  obtain ⟨_,q,f,o⟩:=Sj hf h.given;exact⟨Q7 hf f o,rO o.ge⟩
 |n+1,w=>by
  obtain ⟨q,f⟩:=PS hf j h n (by omega);have he:=h.moves n (by omega) (by omega);have e:=CF (l:=d.j4) (i:=(n:Int)) (by omega) (by omega);rw[show((n:Int)+1).toNat=n+1 by omega,Int.toNat_natCast]at e;unfold Rz at he;rw[Int.toNat_natCast]at he;obtain⟨_,s,u⟩:=P6 hf j he;rw[e,Ov,u];refine⟨s.trk.sm,?_⟩;unfold VG at f|-;rw[List.foldl_append];exact lz f s.trk
noncomputable def Pk(t:AC)(rules:List gp)(d:AO):AG×d6×Int:=
 if (Ot t rules d).2.2≠0 then(⟨⟨[],[]⟩,[]⟩,⟨[],[]⟩,(Ot t rules d).2.2)else((G5 t rules d.kp d.j4).2,VG (Vu d.kp.d4) (G5 t rules d.kp d.j4).1,0)
variable{x:AG}
theorem V3(h:GA x):Dz x=some x:=by
 have:=h.ei;have:=h.em;have:=h.vals;unfold Dz slices_Clone_int DK;rw[BE (by unfold Ad;omega),bs,BE (by unfold Ad;omega),bs];rw[Bj (fun i=>AG.mk x.d4 (x.fq.take i.toNat)) (by omega) (by rfl)]
 .rw[Int.toNat_natCast,List.take_length];rfl
 .intro i e f;have:=h.rows _ (AJ e f)
  grind [AD,BE,Ad,Ae,CF]
theorem XW(hf:At t)(q:Ir rules)(h:Sh t rules d){f:Int->AG×d6->Option (AG×d6)}
  (w:∀(i:Int)(s:AG×d6),0<=i->i<d.j4.length->bw s.2 s.1.d4->aH s.1 (AA (G5 t rules d.kp d.j4).1 i)->f i s=some ((AA (G5 t rules d.kp d.j4).1 i).tn,bj s.2 (AA (G5 t rules d.kp d.j4).1 i).Aan)):
  sr f 0 ((G5 t rules d.kp d.j4).1.length:Int) (d.kp,Vu d.kp.d4)=some ((G5 t rules d.kp d.j4).2,VG (Vu d.kp.d4) (G5 t rules d.kp d.j4).1):=by
 rw [OX,Bj (fun i=>((G5 t rules d.kp (d.j4.take i.toNat)).2,VG (Vu d.kp.d4) (G5 t rules d.kp (d.j4.take i.toNat)).1)) (by omega) (by rfl)]
 .rw[Int.toNat_natCast,List.take_length]
 .intro i e j;obtain⟨z,y⟩:=PS hf q h i.toNat (by omega);have he:=h.moves i e j;unfold Rz at he;obtain⟨_,s,u⟩:=P6 hf q he;have o:=o8 t rules d.kp d.j4 i e j;rw[u]at o;rw[w i _ e j y (by rw[o];exact s.trk),CF e j,Ov,u,o];unfold VG;rw[List.foldl_append];rfl
theorem kc(hf:At t)(f:Ir rules)(d:AO):C8 t rules d=some (Pk t rules d):=by
 unfold C8 Pk;rw[fz hf f,bs];refine Dp fun q=>?_;have h:=Uv.1 q;obtain⟨_,_,_,hh⟩:=Sj hf h.given;rw[bE hh.ge,bs,dl h];simp;rw[XW hf f h fun i s u w e o=>?_]
 .have:=(PS hf f h d.j4.length (bk _)).1
  grind [List.take_length,V3]
 .rw[AD u (by rw[OX];exact w),bs,Zg e.AaH (fun x j=>by rw[o.AaH];exact e.node x j),bs,Zg e.AaQ (fun x j=>by rw[o.AaQ];exact e.edge x j),bs];rfl
theorem lC(hf:At t)(f:Ir rules)(d:AO):K0 t rules d=some (Pk t rules d):=by
 unfold K0 Pk;rw[gJ hf f,bs];refine Dp fun q=>?_;have h:=Uv.1 q;obtain⟨_,_,_,hh⟩:=Sj hf h.given;rw[uQ hh.ge,bs,dl h];simp;rw[XW hf f h fun i s u w e o=>?_]
 .have:=(PS hf f h d.j4.length (bk _)).1;rw[List.take_length]at this;rw[bs,SP this];rfl
 .simp[AD u (show i<(G5 t rules d.kp d.j4).1.length by rw[OX];exact w)];rw[Zo e.AaH (fun x j=>by rw[o.AaH];exact e.node x j),bs,Zo e.AaQ (fun x j=>by rw[o.AaQ];exact e.edge x j),bs];rfl
structure Po(m:AL):Prop where
 ei:m.d6.d3.length<=1000
 em:m.d6.d5.length<=1000
 vars:m.hV.length<=1000
structure Rf(d:AO):Prop where
 start:GA d.kp
 len:d.j4.length<=1000
 moves:∀m∈d.j4,Po m.o3
variable{r:gp}{m:AL}
theorem Pp.small(s:Pp t r h m):Po m:=by
 have j:=s.f.left;have e:=s.f.ro.left;have o:=s.f.at_.len;have u:=s.f.at_.q.vars;have:=e.ei;have:=e.em;exact⟨by omega,by omega,by omega⟩
theorem Sh.small(hf:At t)(e:Ir rules)(h:Sh t rules d):Rf d:=by
 obtain ⟨_,_,j,o⟩:=Sj hf h.given;refine⟨Q7 hf j o,by have:=h.few;omega,fun m f=>?_⟩;obtain⟨i,q,s,rfl⟩:=BW f;have he:=h.moves i q s;unfold Rz at he;exact(P6 hf e he).2.1.small
theorem dI(h:Po m):FJ m=some m:=by
 have:=h.ei;have:=h.em;have:=h.vars;unfold FJ slices_Clone_int;rw[BE (by unfold Ad;omega),bs,BE (by unfold Ad;omega),bs,BE (by unfold Ad;omega),bs]
theorem dc(h:Po m):H5 m=some m:=by
 have:=h.ei;have:=h.em;have:=h.vars;unfold H5;rw[BE (by unfold Ad;omega),bs,BE (by unfold Ad;omega),bs,BE (by unfold Ad;omega),bs]
variable{α:Type}
theorem Xx[Inhabited α]{σ:Type}{l:List α}(e:l.length<=1000)(g:List α->σ){f:Int->σ->Option σ}(h:∀(i:Int)s,0<=i->i<l.length->s.length<=1000->f i (g s)=some (g (s++[AA l i]))):sr f 0 l.length (g [])=some (g l):=by
 have:=Bj (f:=f) (s:=g []) (fun i=>g (l.take i.toNat)) (a:=0) (b:=l.length) (by omega) rfl (fun i j o=>by
  grind [c7,CF])
 rwa [Int.toNat_natCast,List.take_length]at this
theorem nj(h:Rf d):De d=some d:=by
 unfold De;rw[V3 h.start,bs];have:=Xx (l:=d.j4) h.len (fun l=>AO.mk d.kp l) (f:=fun(j:Int)(u:AO)=>
  (idx d.j4 j).bind fun e=>
  (FJ e.o3).bind fun o=>
  (Ag u.j4 [Bq.mk e.gp o]).bind fun q=>
  some (AO.mk u.kp q)) (fun i s j w y=>by
   rw [AD j w,bs,dI (h.moves _ (AJ j w)),bs,Ae (by simp;unfold Ad;omega),bs])
 rw [this];rfl
theorem db(h:Rf d):Ib d=some d:=by
 unfold Ib;rw[SP h.start,bs];have:=Xx (l:=d.j4) h.len (fun l=>AO.mk d.kp l) (f:=fun(e:Int)(w:AO)=>
  (idx d.j4 e).bind fun j=>
  (idx d.j4 e).bind fun o=>
  (H5 o.o3).bind fun q=>
  (Ag w.j4 [Bq.mk j.gp q]).bind fun u=>
  some (AO.mk w.kp u)) (fun i s e y z=>by
   rw [AD e y,bs,bs,dc (h.moves _ (AJ e y)),bs,Ae (by simp;unfold Ad;omega),bs])
 rw [this];rfl
abbrev zD:AO:=AO.mk (AG.mk (d4.mk [] []) []) []
noncomputable def U5(t:AC)(rules:List gp)(d:AO)(m:Bq):AO×Int:=
 if (Pk t rules d).2.2≠0 then(zD,(Pk t rules d).2.2)else if d.j4.length=30 then(zD,17)else
 if (Hb t rules (Pk t rules d).1 m).2≠0 then(zD,(Hb t rules (Pk t rules d).1 m).2)else(⟨d.kp,d.j4++[m]⟩,0)
theorem ZQ:(Pk t rules d).2.2=(Ot t rules d).2.2:=by grind[Pk]
theorem fu(hf:At t)(e:Ir rules)(d:AO)(m:Bq):GG t rules d m=some (U5 t rules d m):=by
 unfold GG U5;rw[kc hf e,bs];refine Dp fun f=>Kc (by simp;try omega) fun o=>?_;rw[dF hf e,bs];refine Dp fun j=>?_;rw[ZQ]at f;have h:=(Uv.1 f).small hf e;have:=h.len;rw[nj h,bs,dI (P6 hf e j).2.1.small,bs,Ae (by simp;unfold Ad;omega),bs]
theorem gE(hf:At t)(e:Ir rules)(d:AO)(m:Bq):J6 t rules d m=some (U5 t rules d m):=by
 unfold J6 U5;rw[lC hf e,bs];refine Dp fun f=>Kc (by simp;try omega) fun o=>?_;rw[dZ hf e,bs];refine Dp fun j=>?_;rw[ZQ]at f;have h:=(Uv.1 f).small hf e;have:=h.len;rw[db h,bs,dc (P6 hf e j).2.1.small,bs,Ae (by simp;unfold Ad;omega),bs]
end Go.Sf.Sc
namespace Go.Sf.Sc
open Go Go.Sf
end Go.Sf.Sc
namespace Go.Sf.Sc
open Go Go.Sf
end Go.Sf.Sc
namespace Go.Sf.Sc
open Go Go.Sf
variable{ρ:Type}
theorem pU{f:Int×Int->Option (Bp (Int×Int) ρ)}(I:Int->Int->Prop)(b:Int){s a:Int}(u:I a s)
  (step:∀i s,a<=i->I i s->(i<b/\∃s',f (s,i)=some (.next (s',i+1))/\I (i+1) s')\/f (s,i)=some (.brk (s,i))):∃i s',a<=i/\I i s'/\ES f (s,a)=some (.inl (s',i)):=by
 have key:∀(n:Nat)(i s:Int),a<=i->I i s->b-i<=n->∃j s',i<=j/\I j s'/\LJ f (s,i) (.inl (s',j)):=by
  intro n
  induction n with
  |zero=>
   intro i s hi e w;rcases step i s hi e with⟨h,_⟩|h
   .omega
   .exact⟨i,s,Int.le_refl _,e,.brk h⟩
  |succ n E=>
   intro i s hi e w;rcases step i s hi e with⟨_,s',o,q⟩|h
   .obtain⟨j,s2,F,y,z⟩:=E (i+1) s' (by omega) q (by omega);exact⟨j,s2,by omega,y,.next o z⟩
   .exact⟨i,s,Int.le_refl _,e,.brk h⟩
 obtain ⟨j,s',o,q,D⟩:=key (b-a).toNat a s (Int.le_refl _) u (by omega);exact⟨j,s',o,q,D.eq⟩
theorem WT{q w k:Int}(c:Int)(H:q<=1000)(y:0<=k)(o:k<=1000)(u:1<=c/\c<=80)(z:1<=w/\w<=400000):∃w' D,(1<=w'/\w'<=400000)/\ES (ρ:=ρ) (fun(j:Int×Int)=>
  if ((decide (j.2<q))&&(decide (j.1<=5000)))=true then
  some (.next (Af (j.1*c),Af (j.2+1)))
  else
  some (.brk (j.1,j.2))) (w,k)=some (.inl (w',D)):=by
 obtain ⟨i,s',K,F,G⟩:=pU (ρ:=ρ) (f:=fun(j:Int×Int)=>
  if ((decide (j.2<q))&&(decide (j.1<=5000)))=true then
  some (.next (Af (j.1*c),Af (j.2+1)))
  else
  some (.brk (j.1,j.2))) (fun i s=>(1<=s/\s<=400000)/\0<=i/\i<=1000) q (s:=w) (a:=k) ⟨z,y,o⟩ (fun i s hi E=>by
   by_cases e:i<q/\s<=5000
   .left;have I:1*1<=s*c:=Int.mul_le_mul E.1.1 u.1 (by omega) (by omega);have J:s*c<=5000*80:=Int.mul_le_mul e.2 u.2 (by omega) (by omega)
    grind [As]
   grind)
 exact ⟨s',i,F.1,G⟩
theorem Zw:∀(N:Nat)(c:d7)(p:ec)(w:Int),SizeOf.sizeOf c<=N->DV c->Mf p->ER c<=1000->1<=w->w<=5000->∃b,∀n,N<=n->C2 n p c w=some b
 |0,c,_,_,h,_,_,_,_,_=>by have:=D8 c;omega|N+1,c,p,w,h,U,O,hk,w0,w1=>by
  have key:∀q:ec,Mf q->∃b,∀n,N<=n->gn (ES (ρ:=Bool) (fun(f:Int×Int)=>
    if ((decide (f.2<(q.d4.d3.length:Int)))&&(decide (f.1<=5000)))=true then
    some (.next (Af (f.1*40),Af (f.2+1)))
    else
    some (.brk (f.1,f.2))) (w,(p.d4.d3.length:Int))) (fun f=>
    gn (ES (ρ:=Bool) (fun(s2:Int×Int)=>
    if ((decide (s2.2<(q.d4.d5.length:Int)))&&(decide (s2.1<=5000)))=true then
    some (.next (Af (s2.1*80),Af (s2.2+1)))
    else
    some (.brk (s2.1,s2.2))) (f.1,(p.d4.d5.length:Int))) (fun s2=>
    gn (ES (ρ:=Bool) (fun(o:Int)=>
    if ((decide (o<(c.hT.length:Int)))&&(decide (s2.1<=5000)))=true then
    (idx c.hT o).bind fun y=>
    (C2 n q y s2.1).bind fun z=>
    if (!z)=true then
    some (.ret false)
    else
    some (.next (Af (o+1)))
    else
    some (.brk o)) 0) (fun o=>
    some (decide (s2.1<=5000))) (fun V=>some V)) (fun W=>some W)) (fun X=>some X)=some b:=by
   intro q s;have q1:=s.ei;have q2:=s.em;have p1:=O.ei;have p2:=O.em;obtain⟨a,k,Z,S⟩:=WT (ρ:=Bool) (q:=q.d4.d3.length) (w:=w) (k:=p.d4.d3.length) 40 (by omega) (by omega) (by omega) (by omega) (by omega);obtain⟨a',k',I,u⟩:=WT (ρ:=Bool) (q:=q.d4.d5.length) (w:=a) (k:=p.d4.d5.length) 80 (by omega) (by omega) (by omega) (by omega) Z;have Y:c.hT.length<=1000:=by have:=Rw c.hT;have:=Rx c;omega
   by_cases H:a'<=5000
   .have kids:∀x∈c.hT,∃b,∀n,N<=n->C2 n q x a'=some b:=fun x D=>by
     have E:=E1 D;have F:=TP D;have h3:=Rx c;exact Zw N x q a' (by omega) (U.k x D) s (by omega) I.1 H
    have j:∀i:Int,∃b:Bool,0<=i->i<c.hT.length->∀n,N<=n->C2 n q (AA c.hT i) a'=some b:=fun i=>by
     by_cases e:0<=i/\i<c.hT.length
     .obtain⟨b,J⟩:=kids _ (AJ e.1 e.2);exact⟨b,fun _ _=>J⟩
     .exact⟨true,fun E F=>absurd ⟨E,F⟩ e⟩
    obtain ⟨g,hg⟩:=Classical.axiomOfChoice j;refine⟨(fst (fun i=>if g i=true then none else some (Sum.inr false:Int ⊕ Bool)) 0 c.hT.length).isNone,fun n G=>?_⟩;rw[S,Bh];simp only[];rw[u,Bh];simp only[];rw[Li (fun i=>if g i=true then none else some (.inr false)) (b:=c.hT.length) (by omega)]
    .cases e:fst (fun i=>if g i=true then none else some (Sum.inr false:Int ⊕ Bool)) 0 (c.hT.length:Int)with
     |none=>
      show some (decide (a'<=5000))=some true;rw[decide_eq_true H]
     |some r=>
      obtain ⟨i,_,_,K,_⟩:=Cz e;split at K
      .cases K
      .cases K;rfl
    .intro i P Q _;rw[ae (by simp;omega),AD P Q,bs,hg i P Q n G,bs,As (by omega) (by omega)];cases g i<;>rfl
    .rw[az (by simp)]
   .refine⟨false,fun n G=>?_⟩;rw[S,Bh];simp only[];rw[u,Bh];simp only[];rw[Li (fun _=>none) (b:=0) (by omega) (fun i E F _=>by omega) (by rw[az (by simp;omega)])];rw[cc (by omega)];show some _=some _;rw[decide_eq_false H]
  have s:Mf (if c.og=5 then c.ec else p):=by split;exact U.q;exact O
  obtain ⟨b,J⟩:=key _ s;refine⟨b,fun n G=>?_⟩;obtain⟨n,rfl⟩:∃k,n=k+1:=⟨n-1,by omega⟩;rw[C2,show(if decide (c.og=5)=true then some c.ec else some p)=some (if c.og=5 then c.ec else p)by by_cases e:c.og=5<;>simp[e],bs];exact J n (by omega)
end Go.Sf.Sc
namespace Go.Sf.Sc
open Go Go.Sf
variable{r:gp}
theorem YR(e:(Bx r).Sm):(AK r.d7).Sm:=by
 have f:TV.Sms [_,_,_,_,_,_,_,_,_,_,_,_,_,_,_,_,_,_,_,_,_,_,_,_,_]:=e;obtain⟨_,_,_,_,_,_,_,_,_,_,_,z,D,E,F,_,j,o,q,s,c5,u,w,y,c9,_⟩:=f;exact⟨j,o,q,s,c5,u,w,y,c9,trivial⟩
variable{t:AC}
theorem kO(hf:At t)(st:(AQ t).Sm)(e:(Bx r).Sm)(h:AG):∃b,JR t r h=some b/\(b=true->PZ r/\ER r.d7<=40):=by
 obtain ⟨f,j,_⟩:=R1 st;obtain⟨o,q,s⟩:=fQ e;obtain⟨u,w,y⟩:=dW hf st r.kq (YR e) h;unfold JR
 grind
variable{rules:List gp}
theorem kP(st:(AQ t).Sm)(V:∀r∈rules,(Bx r).Sm)(h:AG):∃b,K3 t rules h=some b/\(b=true->At t/\Ir rules):=by
 obtain ⟨b1,e1,f1⟩:=R1 st;obtain⟨b2,e2⟩:=XQ h;unfold K3;by_cases Q:(((decide (4<(rules.length:Int)))&&(decide ((rules.length:Int)<=10)))||(decide (12<(rules.length:Int))))=true
 .rw[ae Q,bs,ae rfl,bs,ae rfl];exact⟨false,rfl,fun h=>by cases h⟩
 rw [az Q,e1,bs,bs];cases b1 with
 |false=>exact⟨false,rfl,fun h=>by cases h⟩
 |true=>
 rw [az (by decide),e2,bs,bs];cases b2 with
 |false=>exact⟨false,rfl,fun h=>by cases h⟩
 |true=>
 rw [az (by decide)];have hf:=f1 rfl;have Y:rules.length<=12:=by
  simp only[Bool.or_eq_true,up,zzX,not_or]at Q;omega
 rcases Q0 (f:=fun(o:Int)(W:Bool)=>
  (idx rules o).bind fun y=>
  (JR t y h).bind fun z=>
  if (!z)=true then
  some (.ret false)
  else
  (if W=true then((idx rules o).bind fun D=>
  some (decide ((D.kq.d4.d3.length:Int)<=3)))else some false).bind fun E=>
  (if E=true then((idx rules o).bind fun F=>
  some (decide ((F.kq.d4.d5.length:Int)<=2)))else some false).bind fun G=>
  (if G=true then((idx rules o).bind fun H=>
  some (decide ((H.fd.d4.d3.length:Int)<=5)))else some false).bind fun I=>
  (if I=true then((idx rules o).bind fun J=>
  (idx rules o).bind fun K=>
  (LC J.kq K.d7 1).bind fun N=>
  some (N))else some false).bind fun O=>
  some (.next O)) (fun i _=>∀j:Int,0<=j->j<i->PZ (AA rules j)/\ER (AA rules j).d7<=40) (fun _=>False) (fun r=>r=false) (a:=0) (b:=rules.length) (s:=true) (by omega) (fun j h1 h2=>by omega) (fun i s o u P=>by
   have Z:=AJ o u;obtain⟨b3,q,f3⟩:=kO hf st (V _ Z) h;simp only[AD o u,bs];rw[q,bs];cases b3 with
   |false=>exact .inr (.inr ⟨false,rfl,rfl⟩)|true=>
    obtain ⟨S,k2⟩:=f3 rfl;obtain⟨U,e4⟩:=Zw _ (AA rules i).d7 (AA rules i).kq 1 (bk _) S.cond S.left (by omega) (by decide) (by decide);have e5:LC (AA rules i).kq (AA rules i).d7 1=some U:=EG _ e4;left;refine⟨(((s&&decide (((AA rules i).kq.d4.d3.length:Int)<=3))&&decide (((AA rules i).kq.d4.d5.length:Int)<=2))&&decide (((AA rules i).fd.d4.d3.length:Int)<=5))&&U,?_,fun j X j1=>?_⟩
    .rw[az (by decide),e5];cases s<;>cases decide (((AA rules i).kq.d4.d3.length:Int)<=3)<;>cases decide (((AA rules i).kq.d4.d5.length:Int)<=2)<;>cases decide (((AA rules i).fd.d4.d3.length:Int)<=5)<;>rfl
    .by_cases e:j=i
     .rw[e];exact⟨S,k2⟩
     .exact P j X (by omega))with⟨s',q,h3⟩|⟨r,q,h3⟩
 .rw[q,Bh];have P:=h3.resolve_right id;have w:Ir rules:=⟨Y,fun r w=>by
   obtain ⟨i,o,u,rfl⟩:=BW w;exact P i o u⟩
  rw [YE hf w,bs];exact⟨_,rfl,fun _=>⟨hf,w⟩⟩
 .rw[q,PV,h3];exact⟨false,rfl,fun h=>by cases h⟩
variable{h:AG}
theorem cU:∃b,GZ h=some b/\(b=true->GA h):=by
 unfold GZ Hd;rw[bs];by_cases f:((!((decide ((h.d4.d3.length:Int)<=45))&&(decide ((h.d4.d5.length:Int)<=90))))||(decide (45<(h.fq.length:Int))))=true
 .rw[ae f];exact⟨false,rfl,fun h=>by cases h⟩
 rw [az f,BL (fun i=>decide (12<((AA h.fq i).length:Int))) false]
 .cases e:o4 (fun i=>decide (12<((AA h.fq i).length:Int))) 0 h.fq.length with
  |true=>exact⟨false,rfl,fun h=>by cases h⟩
  |false=>
   refine ⟨true,rfl,fun _=>?_⟩;rw[Bc]at e;simp only[Bool.or_eq_true,Bool.not_eq_true',Bool.and_eq_false_iff,decide_eq_false_iff_not,zzX,not_or]at f;refine⟨by omega,by omega,by omega,fun v hv=>?_⟩
   grind [BW]
 .intro i j o _;rw[AD j o,bs,Hx]
variable{m:AL}
theorem Ve(e:(m.d6.d3.length:Int)<=140737488351232)(f:(m.d6.d5.length:Int)<=140737488351232):∃b,FP m 140=some b/\(b=true->Po m):=by
 unfold FP Jz;rw[bs];refine⟨_,rfl,fun h=>?_⟩;rw[VF (by omega) e (by omega) f]at h;simp only[up,zzX]at h;exact⟨by omega,by omega,by omega⟩
theorem Zb{m:Bq}(h:(DA m).Sm):(m.o3.d6.d3.length:Int)<=140737488351232/\(m.o3.d6.d5.length:Int)<=140737488351232:=by
 have f:TV.Sms [_,_,_,_]:=h;exact⟨(G8 (e:=eI) f.2.1).1,(G8 (e:=eI) f.2.2.1).1⟩
variable{d:AO}
theorem kA(D:∀m∈d.j4,(DA m).Sm){tl:Int}(H:tl<=100):∃b,Np d tl=some b/\(b=true->Rf d):=by
 obtain ⟨E,F,G⟩:=cU (h:=d.kp);unfold Np;rw[F,bs];by_cases q:((!E)||(decide (tl<(d.j4.length:Int))))=true
 .grind
 rw [az q];simp only[Bool.or_eq_true,Bool.not_eq_true',zzX,not_or,Bool.not_eq_false]at q;rcases Q0 (f:=fun(o:Int)(_:Unit)=>
  (idx d.j4 o).bind fun u=>
  (FP u.o3 140).bind fun w=>
  if (!w)=true then
  some (.ret false)
  else
  some (.next ())) (fun i _=>∀j:Int,0<=j->j<i->Po (AA d.j4 j).o3) (fun _=>False) (fun r=>r=false) (a:=0) (b:=d.j4.length) (s:=()) (by omega) (fun j q I=>by omega) (fun i s o z hi=>by
   have y:=Zb (D _ (AJ o z));obtain⟨b,e,f⟩:=Ve y.1 y.2;rw[AD o z,bs,e,bs];cases b with
   |false=>exact .inr (.inr ⟨false,rfl,rfl⟩)|true=>
    refine .inl ⟨(),rfl,fun j J K=>?_⟩
    grind)with⟨s',e3,h3⟩|⟨r,e3,h3⟩
 .rw[e3,Bh];have N:=h3.resolve_right id;refine⟨true,rfl,fun _=>⟨G q.1,by omega,fun m y=>?_⟩⟩
  grind [BW]
 grind [PV]
theorem gC(g:d4):MH g g=some true:=by
 unfold MH;rw[Zn,bs,az (by simp),BL (fun _=>false) false]
 .rw[show o4 (fun _=>false) 0 (g.d5.length:Int)=false from Bc.2 fun _ _ _=>rfl];rfl
 grind [AD]
variable{l:Fp}
theorem dN(j:l.length<=1000):JB l l=some 0:=by
 unfold JB;rw[Li (fun _=>none) (b:=l.length) (by omega)]
 .rw[show fst (fun _=>(none:Option (Int ⊕ Int))) 0 (l.length:Int)=none from B2.2 fun _ _ _=>rfl];show some (Af ((l.length:Int)-l.length))=some 0;rw[As (by omega) (by omega),Int.sub_self]
 .intro i f e _;rw[ae (by simp[e]),AD f e,bs,bs,az (by simp),As (by omega) (by omega)];rfl
 .rw[az (by simp)]
theorem ny(j:GA h):MI h h=some true:=by
 unfold MI;rw[gC,bs,az (by simp),BL (fun _=>false) false]
 .rw[show o4 (fun _=>false) 0 (h.fq.length:Int)=false from Bc.2 fun _ _ _=>rfl];rfl
 .intro i e f _;rw[AD e f,bs,bs,dN (j.rows _ (AJ e f)),bs];simp
theorem kw(l:List Bq):Hf l l=some true:=by
 unfold Hf;rw[az (by simp),BL (fun _=>false) false]
 .rw[show o4 (fun _=>false) 0 (l.length:Int)=false from Bc.2 fun _ _ _=>rfl];rfl
 .intro i e f _;simp only[AD e f,bs];unfold OG;simp only[Zm,Zn,bs];simp
theorem rz(h:GA d.kp):MO d d=some true:=by grind[MO,ny,kw]
theorem Ym(h:Ir rules):GJ rules=some rules:=by
 have:=h.len
 grind [GJ,BE,Ad]
end Go.Sf.Sc
