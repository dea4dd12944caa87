/- Plain lemmas: what the functions of the program and of the reference compute. -/
import Derived.Test.YtdnblcjdhbadaaaGreatSfF
import Derived.Test.YtdnblcjdhbadaaaGreatP46
import Derived.Test.YtdnblcjdhbadaaaGreatP1
set_option linter.all false
set_option maxRecDepth 100000
namespace Go.Sf.Sc
open Go Go.Sf
def RQ(p g:d6)(m:d7):d6:=⟨m.d4.map (AA g.d4),p.d5⟩
variable{l:Fp}
theorem O1{n x:Int}:x∈BF l n↔(0<=x/\x<n)/\x∉l:=by
 unfold BF;rw[List.mem_filter];constructor
 .grind[Int.natCast_nonneg,Bk]
 .rintro⟨⟨b,e⟩,f⟩;refine⟨List.mem_map.2 ⟨x.toNat,List.mem_range.2 (by omega),Int.toNat_of_nonneg b⟩,?_⟩
  grind [hasB,Bk]
theorem MB(l:Fp)(n:Int):(BF l n).Pairwise (·<·):=by grind[BF,List.pairwise_lt_range.imp]
def D5(images hV:Fp):Fp:=(BF hV images.length).map (AA images)
theorem S6{images hV:Fp}{x:Int}:x∈D5 images hV↔∃i:Int,(0<=i/\i<images.length)/\i∉hV/\AA images i=x:=by grind[D5,O1]
def Aav(images hV:Fp):Bool:=ns (fun a=>ns (fun b=>decide (AA images a=AA images b)&&(!hasB hV a||!hasB hV b)) (a+1) images.length) 0 images.length
theorem cZ{images hV:Fp}(h:Aav images hV=false){a b:Int}(a0:0<=a)(a1:a<images.length)(u:0<=b)(q:b<images.length)(w:a∈hV)(e:AA images a=AA images b):b∈hV:=by
 unfold Aav at h;rw[Bp]at h;by_cases j:a=b
 .exact j▸w
 by_cases y:a<b
 .have f:=h a a0 a1;rw[Bp]at f;have o:=f b (by omega) q;rw[decide_eq_true e,Bool.true_and,Bool.or_eq_false_iff]at o
  grind [Bk]
 .have f:=h b u q;rw[Bp]at f;have o:=f a (by omega) a1;rw[decide_eq_true e.symm,Bool.true_and,Bool.or_eq_false_iff]at o
  grind [Bk]
variable{i:Int}
theorem S8{images hV:Fp}(h:Aav images hV=false)(b:0<=i)(e:i<images.length)(f:i∈hV):AA images i∉D5 images hV:=by grind[S6,cZ]
def MR(g:d6)(hV:Ak)(m:d7)(i:Int):Bool:=
 !hasB m.d5 i&&(hasB (D5 m.d4 hV.d4) (AA g.d5 i).kq||hasB (D5 m.d4 hV.d4) (AA g.d5 i).To)
def Ld(g:d6)(hV:Ak)(m:d7):Ak:=⟨BF (D5 m.d4 hV.d4) g.d4.length,BF (D5 m.d5 hV.d5) g.d5.length⟩
def MP(l g:d6)(hV:Ak)(m:d7):Ak×Int:=
 if IK l g m≠0 then(⟨[],[]⟩,IK l g m)else if D7 l hV≠0 then(⟨[],[]⟩,D7 l hV)else
 if (Aav m.d4 hV.d4||Aav m.d5 hV.d5)=true then(⟨[],[]⟩,15)else
 if ns (MR g hV m) 0 g.d5.length=true then(⟨[],[]⟩,14)else(Ld g hV m,0)
structure X6(l g:d6)(hV:Ak)(m:d7):Prop where
 mor:Xn l g m
 part:YA l hV
 ej:Aav m.d4 hV.d4=false
 fd:Aav m.d5 hV.d5=false
 free:∀i:Int,0<=i->i<g.d5.length->MR g hV m i=false
variable{g:d6}
theorem iu{p:Ak}(h:D7 g p=0):Bn g=0/\Ni g p=0:=by grind[D7]
theorem V3{l g:d6}{hV:Ak}{m:d7}(h:(MP l g hV m).2=0):X6 l g hV m/\MP l g hV m=(Ld g hV m,0):=by
 unfold MP at h|-;split at h
 .grind
 rename_i e;rw[ae e];split at h
 .grind
 rename_i f;rw[ae f];split at h
 .grind
 rename_i b;rw[ae b];split at h
 .grind
 rename_i j;rw[ae j];simp only[Bool.or_eq_true,not_or,Bool.not_eq_true]at b;exact⟨⟨Tu (Classical.not_not.1 e),Vg (iu (Classical.not_not.1 f)).2,b.1,b.2,Bp.1 (by simpa using j)⟩,rfl⟩
theorem fo{l g:d6}{hV:Ak}{m:d7}(h:X6 l g hV m):Ni g (Ld g hV m)=0:=by
 have u:=h.mor;have G:=u.gb;have H:∀x∈(Ld g hV m).d4,0<=x/\x<g.d4.length:=fun x j=>GO j;have I:∀x∈(Ld g hV m).d5,0<=x/\x<g.d5.length:=fun x j=>GO j;have f:∀{l:Fp}{n:Int},(∀x∈l,0<=x/\x<n)->l.Pairwise (·<·)->PX l n=0:=by
  grind [PX,CH,AI,JX]
 unfold Ni;rw[f H (MB _ _),f I (MB _ _)];simp only[ne_eq,not_true_eq_false,if_false];rw[CH.2 fun i E F=>?_]
 .rfl
 have j:=AI E F;generalize AA (Ld g hV m).d5 i=x at j;have b:(0<=x/\x<g.d5.length)/\x∉D5 m.d5 hV.d5:=O1.1 j;have hf:=G.fit _ (AI b.1.1 b.1.2);have w:(AA g.d5 x).kq∉D5 m.d4 hV.d4/\(AA g.d5 x).To∉D5 m.d4 hV.d4:=by
  by_cases hi:x∈m.d5
  .obtain⟨k,z,D,e⟩:=BZ hi;have o:k∈hV.d5:=by
    by_cases o:k∈hV.d5
    .exact o
    .exact absurd (S6.2 ⟨k,⟨z,D⟩,o,e⟩) b.2
   have ends:=h.part.ends k o;have he:=u.edge k z D;rw[e]at he;have y:=h.part.ej.1;have J:=y _ ends.1;have K:=y _ ends.2;have O:=u.Aas;rw[<-he.2.2.1,<-he.2.2.2];exact⟨S8 h.ej J.1 (by omega) ends.1,S8 h.ej K.1 (by omega) ends.2⟩
  .have hd:=h.free x b.1.1 b.1.2;unfold MR at hd;rw[show hasB m.d5 x=false from by cases N:hasB m.d5 x with|false=>rfl|true=>exact absurd (Bk.1 N) hi,Bool.not_false,Bool.true_and,Bool.or_eq_false_iff]at hd;exact⟨fun q=>by rw[Bk.2 q]at hd;exact absurd hd.1 (by decide),fun q=>by rw[Bk.2 q]at hd;exact absurd hd.2 (by decide)⟩
 grind [hasB,Ld,AA,Bk,O1]
def Gl(n:Nat)(l:Fp):Fp:=(Az n).map (Br l)
variable{v:Int}
theorem V9(h:v∉l):Br l v=-1:=by grind[Br,CH,AI]
theorem L3(l:Fp)(v:Int):-1<=Br l v/\Br l v<l.length:=by
 by_cases h:v∈l
 .have:=G0 h;omega
 .rw[V9 h];omega
theorem Iy:0<=Br l v↔v∈l:=by grind[V9,G0]
theorem Il(n:Nat)(l:Fp):(Gl n l).length=n:=by unfold Gl;rw[ci,BN]
variable{n:Nat}
theorem Ur(b:0<=i)(e:i<n):AA (Gl n l) i=Br l i:=Ib _ b e
theorem Yl(h:l.Nodup)(b:0<=i)(e:i<l.length):Br l (AA l i)=i:=by
 have f:=G0 (AI b e)
 grind [Br,AA,JX]
def PZ(hV into at_:Fp)(n i:Int):Int:=if hasB into i=true then AA at_ (AA hV (Br into i))else n+(BF into i).length
def Sw(count:Nat)(hV into at_:Fp)(n:Int):Fp:=(Az count).map (PZ hV into at_ n)
theorem Qg(count:Nat)(hV into at_:Fp)(n:Int):(Sw count hV into at_ n).length=count:=by unfold Sw;rw[ci,BN]
variable{count:Nat}
theorem eH{hV into at_:Fp}{n i:Int}(b:0<=i)(e:i<count):AA (Sw count hV into at_ n) i=PZ hV into at_ n i:=Ib _ b e
theorem Jd(h:0<=i):((BF l i).length:Int)<=i:=by grind[QS]
end Go.Sf.Sc
namespace Go.Sf.Sc
open Go Go.Sf
variable{α:Type}
theorem jX{P:List α->Prop}(b:P [])(e:∀l a,P l->P (l++[a]))(l:List α):P l:=by
 have:∀l:List α,P l.reverse:=by
  intro l
  induction l with
  |nil=>exact b|cons a l f=>rw[List.reverse_cons];exact e _ _ f
 rw [<-List.reverse_reverse l];exact this _
def Of(L:BJ):BJ:=L.foldl (fun m p=>m.set p.1 p.2) []
theorem Ys(L:BJ)(p:(Int×Int)×Int):Of (L++[p])=(Of L).set p.1 p.2:=by
 unfold Of
 grind
def Q0(L:BJ):Prop:=∀p∈L,∀q∈L,p.1=q.1->p.2=q.2
variable{k:Int×Int}{v:Int}
theorem S9:∀{m:BJ},m.look k=some v->(k,v)∈m
 |[],h=>by cases h
 |p::r,h=>by
  unfold BJ.look at h;split at h
  .grind
  .exact List.mem_cons_of_mem _ (S9 h)
theorem W7:∀{m:BJ},m.look k=none->∀p∈m,p.1≠k
 |[],_,p,b=>by cases b
 |q::r,h,p,b=>by
  unfold BJ.look at h;split at h
  .cases h
  .rename_i e;rcases List.mem_cons.1 b with rfl|b
   .exact e
   .exact W7 h p b
theorem bd:∀{m:BJ},m.look k=none->m.set k v=m++[(k,v)]
 |[],_=>rfl|p::r,h=>by
  unfold BJ.look at h;unfold BJ.set;split at h
  .cases h
  .rename_i e;rw[ae e,bd h];rfl
theorem Zf:∀{m:BJ},m.look k=some v->m.set k v=m
 |[],h=>by cases h
 |p::r,h=>by
  unfold BJ.look at h;unfold BJ.set;split at h
  .grind
  .rename_i e;rw[ae e,Zf h]
theorem cT(V:List Fp)(p:(Int×Int)×Int):CN (CN V p) p=CN V p:=by
 unfold CN;split
 .apply List.ext_getElem?
  grind [Option.map_eq_map,Option.map_map,List.set_set]
 .rfl
theorem iM{m:BJ}(hd:m.Dis){p:(Int×Int)×Int}(b:p∈m)(V:List Fp):CN (m.foldl CN V) p=m.foldl CN V:=by
 have e:m.Perm (m.erase p++[p]):=(List.perm_cons_erase b).trans (List.perm_append_singleton p (m.erase p)).symm;rw[<-VB hd e V,List.foldl_append];exact cT _ _
theorem Q0.sub{L M:BJ}(h:Q0 L)(b:∀p∈M,p∈L):Q0 M:=fun p e q f=>h p (b p e) q (b q f)
theorem bH(L:BJ):Q0 L->(Of L).Dis/\(∀p,p∈Of L↔p∈L)/\∀V,(Of L).foldl CN V=L.foldl CN V:=by
 refine jX (P:=fun L=>Q0 L->(Of L).Dis/\(∀p,p∈Of L↔p∈L)/\∀V,(Of L).foldl CN V=L.foldl CN V) (fun _=>⟨List.Pairwise.nil,fun p=>Iff.rfl,fun V=>rfl⟩) (fun L p e b=>?_) L;obtain⟨w,u,y⟩:=e (b.sub fun q f=>List.mem_append_left _ f);rw[Ys];cases j:(Of L).look p.1 with
 |none=>
  grind [bd,BJ.set_dis]
 |some v=>
  have o:=S9 j;have hv:v=p.2:=b (p.1,v) (List.mem_append_left _ ((u _).1 o)) p (by simp) rfl
  grind [Zf,List.mem_singleton,iM]
def Ol(L:BJ):Bool:=ns (fun i=>ns (fun k=>decide ((AA L k).1=(AA L i).1)&&!decide ((AA L k).2=(AA L i).2)) 0 i) 0 L.length
variable{L:BJ}
theorem Wb(h:Ol L=false):Q0 L:=by
 intro p o q u e;obtain⟨a,a0,a1,rfl⟩:=BZ o;obtain⟨b,w,y,rfl⟩:=BZ u;unfold Ol at h;rw[Bp]at h;by_cases f:a=b
 .rw[f]
 by_cases z:a<b
 .have j:=h b w y;rw[Bp]at j
  grind
 .have j:=h a a0 a1;rw[Bp]at j
  grind
theorem Ye(L:BJ)(V:List Fp):KT (L.foldl CN V) V:=by
 induction L generalizing V with
 |nil=>rfl|cons p r b=>exact(b (CN V p)).trans (Wh V p)
end Go.Sf.Sc
namespace Go.Sf.Sc
open Go Go.Sf
variable{t:AC}{p g:d6}{inj:Bool}
theorem Sv{m:d7}(h:Fr t p g m inj=0):FN t p g=0/\N0 t p g m=0/\WU t p g m:=by grind[YM,Fr]
theorem eG{m:d7}(h:Fr t p g m inj=0):Fr t p g m false=0:=by grind[Sv,Fr]
variable{α:Type}
theorem Td[Inhabited α](l:List α):(Az l.length).map (AA l)=l:=by grind[YH,ci,BN,Ib]
variable{β:Type}
theorem pC[Inhabited α](l:List α)(f:α->β):l.map f=(Az l.length).map fun j=>f (AA l j):=by
 rw [show(fun j=>f (AA l j))=f∘AA l from rfl,<-List.map_map,Td]
theorem pP(hf:Au t){m:d7}(h:Fr t p g m inj=0):Hl t p g m=some (RQ p g m,0):=by
 obtain ⟨b,o,e⟩:=Sv h;obtain⟨_,f,w,_⟩:=NO b;unfold Hl;rw[WH hf,bs,ae (by simp[b]),XD hf b,bs,ae (by simp[o])];unfold Cq;have:=f.ej;have:=f.fd;have:=e.Aas;rw[BI (by unfold AW;omega),bs];rw[Oq (by omega) (fun x j=>?_) p.d5]
 .rfl
 .obtain⟨i,q,u,rfl⟩:=BZ j;exact(e.node i q u).1
theorem pv(hf:Au t){m:d7}(h:Fr t p g m inj=0):IN t p g m=some (RQ p g m,0):=by
 obtain ⟨y,D,u⟩:=Sv h;obtain⟨_,w,E,_⟩:=NO y;have:=w.ej;have:=w.fd;have z:=u.Aas;unfold IN Dx;rw[WK hf,bs,ae (by simp[eG h]),BI (by unfold AW;omega),bs,BI (by unfold AW;omega),bs,bs];rw[Pu (fun i=>d6.mk ((Az p.d4.length).map fun j=>if j<i then AA g.d4 (AA m.d4 j)else AA p.d4 j) p.d5) (a:=0) (b:=p.d4.length) (by omega)]
 .have e:((Az p.d4.length).map fun j=>if j<(p.d4.length:Int)then AA g.d4 (AA m.d4 j)else AA p.d4 j)=m.d4.map (AA g.d4):=by
   grind [pC,Cr]
  rw [e];rfl
 .congr 1;rw[<-Td p.d4,ci,BN]
  grind [Cr,Td]
 .intro i f o;have q:=u.node i f (by omega);simp only[ci,BN];rw[a6 (by simpa using o),AD f (by omega),bs,AD q.1.1 q.1.2,bs,AD f (by rw[ci,BN];exact o),bs,Ik _ f,Ap (by omega) (by omega)]
  grind
 grind [ci,BN]
variable{n:Nat}
theorem OA{f:Int->List α->Option (List α)}(q:Int->Bool)(F:Int->α)(h:∀i s,0<=i->i<(n:Int)->s.length<=i.toNat->f i s=some (if q i=true then s++[F i]else s)):A9 f 0 n []=some (((Az n).filter q).map F):=by
 have e:∀k:Nat,(((Az k).filter q).map F).length<=k:=fun k=>by
  rw [ci];exact Nat.le_trans (List.length_filter_le _ _) (by rw[BN];exact az _)
 have:=BM (f:=f) (s:=[]) (fun i=>((Az i.toNat).filter q).map F) (a:=0) (b:=n) (by omega) rfl (fun i j o=>by
  grind [FL])
 grind
theorem Ya{q:Int->Bool}{F:Int->α}:decide (0<((((Az n).filter q).map F).length:Int))=ns q 0 n:=by
 rw [Bool.eq_iff_iff,x7,Dj,ci];constructor
 .intro h;have b:(Az n).filter q≠[]:=fun e=>by rw[e]at h;simp at h
  obtain ⟨x,u⟩:=List.exists_mem_of_ne_nil _ b
  grind [FD]
 .rintro⟨i,f,j,o⟩;have:i∈(Az n).filter q:=List.mem_filter.2 ⟨FD.2 ⟨f,j⟩,o⟩
  grind
theorem ez{x:Bm}(b:x.m.d4.length<=1000):Cz x=some (D5 x.m.d4 x.hV.d4):=by
 unfold Cz;rw[OA (fun i=>!hasB x.hV.d4 i) (AA x.m.d4)]
 .rfl
 grind [AD,J0,hasB,AT,AW]
theorem Uh{images hV:Fp}(b:images.length<=1000):I1 images hV=some (D5 images hV):=by
 unfold I1;rw[OA (fun i=>!hasB hV i) (AA images)]
 .rfl
 grind [DT,hasB,NP,AD,AT,AW]
theorem dE{x:Bm}(b:x.m.d4.length<=1000)(he:x.g.d5.length<=1000):Cu x=some ((Az x.g.d5.length).filter (MR x.g x.hV x.m)):=by
 unfold Cu;rw[ez b,bs,OA (MR x.g x.hV x.m) id]
 .rw[bs,List.map_id]
 .intro i s e f j;rw[AD e f,bs,J0,bs,J0,bs,J0,bs];unfold MR;change (if(!hasB x.m.d5 i)=true then(if hasB (D5 x.m.d4 x.hV.d4) (AA x.g.d5 i).kq=true then some true else some (hasB (D5 x.m.d4 x.hV.d4) (AA x.g.d5 i).To)).bind _ else some false).bind _=_;cases hasB x.m.d5 i<;>cases hasB (D5 x.m.d4 x.hV.d4) (AA x.g.d5 i).kq<;>cases hasB (D5 x.m.d4 x.hV.d4) (AA x.g.d5 i).To<;>simp[AT (show s.length+[i].length<=AW by simp;unfold AW;omega)]
theorem dH{l g:d6}{hV:Ak}{m:d7}(b:m.d4.length<=1000)(he:g.d5.length<=1000):IM l g hV m=some ((Az g.d5.length).filter (MR g hV m)):=by
 unfold IM;rw[Uh b,bs,OA (MR g hV m) id]
 .rw[bs,List.map_id]
 .intro i s e f j;have hh:∀(l:Fp)(v:Int),DT l v=some (hasB l v):=NP;simp only[AD e f,bs,hh];unfold MR;cases hasB m.d5 i<;>cases hasB (D5 m.d4 hV.d4) (AA g.d5 i).kq<;>cases hasB (D5 m.d4 hV.d4) (AA g.d5 i).To<;>simp[AT (show s.length+[i].length<=AW by simp;unfold AW;omega)]
variable{a i:Int}
theorem Pz{p:Int->Bool}(h:a<=i):ns p a (i+1)=(ns p a i||p i):=by
 rw [Bool.eq_iff_iff,Bool.or_eq_true,Dj,Dj]
 grind
theorem Vf{images hV:Fp}(I:images.length<=100){f:Int->Int->List Fk->Option (List Fk)}(hf:∀(i j:Int)s,0<=i->i<images.length->i<j->j<images.length->s.length<=20000->f i j s=some (if(decide (AA images i=AA images j)&&(!hasB hV i||!hasB hV j))=true then s++[Fk.mk i j]else s)):
  ∃l,A9 (fun(e:Int)(q:List Fk)=>(A9 (fun(o:Int)(s2:List Fk)=>f e o s2) (Al (e+1)) (images.length:Int) q).bind fun s2=>some s2) 0 (images.length:Int) []=some l/\l.length<=10000/\decide (0<l.length)=Aav images hV:=by
 have key:=Pd (f:=fun(e:Int)(q:List Fk)=>(A9 (fun(o:Int)(s2:List Fk)=>f e o s2) (Al (e+1)) (images.length:Int) q).bind fun s2=>some s2) (s:=[])
  (fun i s=>(s.length:Int)<=100*i/\decide (0<s.length)=ns (fun a=>ns (fun b=>decide (AA images a=AA images b)&&(!hasB hV a||!hasB hV b)) (a+1) images.length) 0 i) (a:=0) (b:=images.length) (by omega)
  (by refine⟨by simp,?_⟩;rw[Bp.2 (fun i y z=>by omega)];rfl) (fun i s e D E=>by
   have u:=Pd (f:=fun(o:Int)(s2:List Fk)=>f i o s2) (s:=s)
    (fun j s'=>(s'.length:Int)<=100*i+(j-(i+1))/\decide (0<s'.length)=(decide (0<s.length)||ns (fun b=>decide (AA images i=AA images b)&&(!hasB hV i||!hasB hV b)) (i+1) j)) (a:=i+1) (b:=images.length) (by omega)
    (by refine⟨by have:=E.1;omega,?_⟩;rw[Bp.2 (fun i y z=>by omega),Bool.or_false]) (fun j s' J F w=>by
     refine ⟨_,hf i j s' e D (by omega) F (by have:=w.1;omega),?_,?_⟩
     .grind
     .rw[Pz (by omega),<-Bool.or_assoc,<-w.2]
      grind)
   grind [Ap,Pz])
 obtain ⟨l,G,K,H⟩:=key;exact⟨l,G,by omega,H⟩
theorem bN{images hV:Fp}(E:images.length<=100):∃l,E3 images hV=some l/\l.length<=10000/\decide (0<l.length)=Aav images hV:=by
 unfold E3;obtain⟨l,J,K⟩:=Vf (hV:=hV) E (f:=fun b e s2=>
  (idx images b).bind fun o=>
  (idx images e).bind fun q=>
  (if(decide (o=q))=true then((slices_Contains_int hV b).bind fun u=>
  (if(!u)=true then some true else((slices_Contains_int hV e).bind fun w=>
  some (!w))).bind fun y=>
  some (y))else some false).bind fun z=>
  if z=true then
  (Aj s2 [Fk.mk b e]).bind fun D=>
  some D
  else
  some s2) (fun i j s b F H G I=>by
   have hh:∀(l:Fp)(v:Int),slices_Contains_int l v=some (hasB l v):=J0;simp only[AD b F,AD (show 0<=j by omega) G,bs,hh]
   grind [AA,hasB,AT,AW])
 grind
theorem bX{images hV:Fp}(E:images.length<=100):∃l,E9 images hV=some l/\l.length<=10000/\decide (0<l.length)=Aav images hV:=by
 unfold E9;obtain⟨l,J,K⟩:=Vf (hV:=hV) E (f:=fun b e s2=>
  (idx images b).bind fun o=>
  (idx images e).bind fun q=>
  (if(decide (o=q))=true then((DT hV b).bind fun u=>
  (if(!u)=true then some true else((DT hV e).bind fun w=>
  some (!w))).bind fun y=>
  some (y))else some false).bind fun z=>
  if z=true then
  (Aj s2 [Fk.mk b e]).bind fun D=>
  some D
  else
  some s2) (fun i j s b F H G I=>by
   have hh:∀(l:Fp)(v:Int),DT l v=some (hasB l v):=NP;simp only[AD b F,AD (show 0<=j by omega) G,bs,hh]
   grind [AA,hasB,AT,AW])
 grind
variable{l:Fp}
theorem ZT(h:n<=1000):Kc n l=some (BF l n):=by
 unfold Kc;rw[TO (f:=DT l) (by omega) (by omega) (fun i=>NP l i)];rfl
theorem ZA{images hV:Fp}(w:n<=1000)(hi:∀x∈images,0<=x/\x<n):FZ n images hV=some (BF (D5 images hV) n):=by
 unfold FZ JL;rw[a6 (by omega),bs];rw[BM (fun i=>(Az n).map fun k=>ns (fun j=>!hasB hV j&&decide (AA images j=k)) 0 i) (by omega)]
 .rw[bs,ci,BN,OA (fun i=>!hasB (D5 images hV) i) id]
  .rw[bs,List.map_id];rfl
  .intro i s b f D;rw[AD b (by rw[ci,BN];exact f),bs,Ib _ b f];have e:ns (fun j=>!hasB hV j&&decide (AA images j=i)) 0 images.length=hasB (D5 images hV) i:=by
    rw [Bool.eq_iff_iff,Dj,Bk,S6];constructor
    .rintro⟨j,q,u,h⟩;rw[pc,x7]at h
     grind [Bk]
    .rintro⟨j,⟨q,u⟩,F,h⟩;refine⟨j,q,u,?_⟩;rw[pc,x7]
     grind [hasB,Bk]
   grind [hasB,D5,AT,AW]
 .refine List.ext_getElem (by simp[BN]) (fun k y z=>?_)
  grind [Int.toNat_natCast,Bp]
 .intro i b f;have o:=hi _ (AI b f);have hh:∀(l:Fp)(v:Int),slices_Contains_int l v=some (hasB l v):=J0;rw[AD b f,bs,hh,bs];cases E:hasB hV i
  .rw[a6 (by decide),AD o.1 (by rw[ci,BN];exact o.2),bs,Ik _ o.1]
   grind [Cr,Pz,AA]
  grind [Cr,Pz]
theorem bm{a b:Nat}(e:a<=10000)(f:b<=10000):decide (0<Al ((a:Int)+(b:Int)))=(decide (0<a)||decide (0<b)):=by
 rw [Ap (by omega) (by omega),Bool.eq_iff_iff,Bool.or_eq_true]
 grind
theorem pJ{l g:d6}{hV:Ak}{m:d7}(y:QV hV):JI l g hV m=some (MP l g hV m):=by
 unfold JI EP MP;simp only[];rw[Xs,bs,bO y,bs];by_cases f:¬IK l g m=0
 .grind
 have f:=Classical.not_not.1 f;rw[ae (by simp[f]),bs,ae (show¬IK l g m≠0 by simp[f])];refine Dt fun J=>?_;have b:=Tu f;have a1:=b.ga.ej;have O:=b.ga.fd;have P:=b.Aas;have Q:=b.Aaz;have S:=b.gb.ej;have U:=b.gb.fd;unfold DK;obtain⟨u,z,D,E⟩:=bN (hV:=hV.d4) (images:=m.d4) (by omega);obtain⟨v,G,H,I⟩:=bN (hV:=hV.d5) (images:=m.d5) (by omega);simp only[];rw[z,bs,G,bs,bs];simp only[];rw[bm D H,E,I];refine WZ fun K=>?_;rw[dE (by show m.d4.length<=1000;omega) (by show g.d5.length<=1000;omega),bs];have e:=Ya (n:=g.d5.length) (q:=MR g hV m) (F:=id);rw[List.map_id]at e;rw[e];refine WZ fun N=>?_;rw[ZA (by omega) (fun x j=>?_),bs,ZA (by omega) (fun x j=>?_),bs]
 .rfl
 .obtain⟨i,o,w,rfl⟩:=BZ j;exact(b.edge i o w).1
 .obtain⟨i,o,w,rfl⟩:=BZ j;exact(b.node i o w).1
theorem pZ{l g:d6}{hV:Ak}{m:d7}(j:QV hV):Pm l g hV m=some (MP l g hV m):=by
 unfold Pm Ns MP;rw[Xz,bs,WL j,bs];by_cases f:¬IK l g m=0
 .grind
 have f:=Classical.not_not.1 f;rw[ae (by simp[f]),bs,ae (show¬IK l g m≠0 by simp[f])];refine Dt fun G=>?_;have b:=Tu f;have a1:=b.ga.ej;have J:=b.ga.fd;have K:=b.Aas;have N:=b.Aaz;have O:=b.gb.ej;have P:=b.gb.fd;obtain⟨u,o,w,y⟩:=bX (hV:=hV.d4) (images:=m.d4) (by omega);obtain⟨v,z,D,E⟩:=bX (hV:=hV.d5) (images:=m.d5) (by omega);rw[o,bs,z,bs,bm w D,y,E];refine WZ fun H=>?_;rw[dH (by omega) (by omega),bs];have e:=Ya (n:=g.d5.length) (q:=MR g hV m) (F:=id);rw[List.map_id]at e;rw[e];refine WZ fun I=>?_;rw[Uh (by omega),bs,ZT (by omega),bs,Uh (by omega),bs,ZT (by omega),bs];rfl
end Go.Sf.Sc
namespace Go.Sf.Sc
open Go Go.Sf
variable{α β:Type}
theorem Pf[Inhabited α]{l:List α}{F:α->β}{f:Int->List β->Option (List β)}(h:∀(i:Int)s,0<=i->i<l.length->s.length<=i.toNat->f i s=some (s++[F (AA l i)])):A9 f 0 l.length []=some (l.map F):=by
 have:=BM (f:=f) (s:=[]) (fun i=>(l.take i.toNat).map F) (a:=0) (b:=l.length) (by omega) (by simp) (fun i e j=>by
  grind [ci,cE,CJ])
 rwa [Int.toNat_natCast,List.take_length]at this
variable{n:Nat}{l:Fp}
theorem bP(F:n<=1000)(w:l.length<=1000)(f:l.Pairwise (·<·)):Kq n l=some (Gl n l):=by
 unfold Kq JL;rw[a6 (by omega),bs,Int.toNat_natCast,List.length_replicate,BM (fun i=>(Az n).map fun j=>if j<i then Br l j else 0) (by omega)]
 .rw[bs];congr 1;exact Cr fun j y o=>a6 o
 .refine List.ext_getElem (by simp[BN]) (fun k z G=>?_);have e:(Az n)[k]'(by simpa[BN]using z)=(k:Int):=by simp[Az]
  simp only[List.getElem_map,List.getElem_replicate,e];rw[ae (by omega)]
 .intro i q E;rw[Rd w f,bs,AD q (by rw[ci,BN];exact E),bs];have e:∀v:Int,v=Br l i->some (BP ((Az n).map fun j=>if j<i then Br l j else 0) i v)=some ((Az n).map fun j=>if j<i+1 then Br l j else 0):=by
   rintro v rfl;rw[Ik _ q];congr 1;refine Cr fun j y o=>?_;by_cases e:j=i
   .rw[a6 e,a6 (by omega),e]
   .rw[ae e];by_cases u:j<i
    .rw[a6 u,a6 (by omega)]
    .rw[ae u,ae (by omega)]
  cases b:hasB l i with
  |false=>
   rw [a6 (by rfl)];exact e _ (V9 fun D=>by rw[Bk.2 D]at b;cases b).symm
  |true=>
   rw [ae (by simp)];exact e _ (UX f (Bk.1 b))
theorem ZJ(H:n<=1000)(I:l.length<=1000)(D:l.Nodup):Kb l n=some (Gl n l):=by
 unfold Kb;rw[BM (fun k=>(Az k.toNat).map (Br l)) (by omega) (by rfl)]
 .rfl
 .intro k o J;have f:((Az k.toNat).map (Br l)).length=k.toNat:=by rw[ci,BN]
  have e0:(Az k.toNat).map (Br l)++[-1]=(Az (k+1).toNat).map fun j=>if j<k then Br l j else if Br l k<0 then Br l k else -1:=by
   rw [FL o,List.map_append];congr 1
   .grind[List.map_congr_left,FD]
   .rw[List.map_singleton,ae (by omega)];have:=L3 l k
    grind
  rw [AT (by rw[f];simp;unfold AW;omega),bs,e0,BM (fun i=>(Az (k+1).toNat).map fun j=>if j<k then Br l j else if Br l k<i then Br l k else -1) (by omega) rfl]
  .rw[bs];congr 1;refine List.map_congr_left fun j E=>?_;have:=FD.1 E;split
   .rfl
   .have e:j=k:=by omega
    rw [a6 (L3 l k).2,e]
  .intro i q u;rw[AD q u,bs];by_cases e:AA l i=k
   .have w:Br l k=i:=by rw[<-e];exact Yl D q u
    rw [a6 (by simp[e]),AD o (by rw[ci,BN];omega),bs,Ik _ o];congr 1;refine Cr fun j F G=>?_;by_cases y:j=k
    .rw[a6 y,ae (by omega),a6 (by omega),w]
    .rw[ae y];by_cases b:j<k
     .rw[a6 b,a6 b]
     .omega
   .have w:Br l k≠i:=fun h=>by
     have:=(G0 (Iy.1 (show 0<=Br l k by omega))).2.2.1;rw[h]at this;exact e this
    rw [ae (by simp[e])];congr 1;refine Cr fun j F G=>?_;by_cases b:j<k
    .rw[a6 b,a6 b]
    .rw[ae b,ae b];by_cases z:Br l k<i
     .rw[a6 z,a6 (by omega)]
     .rw[ae z,ae (by omega)]
structure Tj(count:Nat)(hV into at_:Fp):Prop where
 few:count<=1000
 nodup:into.Nodup
 len:into.length=hV.length
 inn:∀x∈into,0<=x/\x<count
 kin:∀x∈hV,0<=x/\x<at_.length
 pos:∀x∈hV,0<=AA at_ x
theorem Yt(b:l.Nodup)(h:∀x∈l,0<=x/\x<n):l.length<=n:=by
 have:=List.Nodup.length_le_of_subset (l₁:=l) (l₂:=Az n) b (fun x e=>FD.2 (h x e))
 rwa [BN]at this
variable{i:Int}
theorem O2(h:0<=i):((BF l (i+1)).length:Int)=(BF l i).length+if i∈l then 0 else 1:=by grind[Mr,bk,hasB,Bk]
theorem Qf{hV into at_:Fp}{n i:Int}(h:i∈into):PZ hV into at_ n i=AA at_ (AA hV (Br into i)):=by grind[PZ,Bk]
theorem RC{hV into at_:Fp}{n i:Int}(h:i∉into):PZ hV into at_ n i=n+(BF into i).length:=by grind[PZ,Bk]
variable{count:Nat}
theorem XJ{hV into at_:Fp}{n:Int}(h:Tj count hV into at_)(y:0<=n)(z:n<=1000):Ey hV into count at_ n=some (Sw count hV into at_ n):=by
 have D:=h.few;have q:=Yt h.nodup h.inn;have u:=h.len;unfold Ey;rw[ZJ h.few (by omega) h.nodup,bs,BM (fun i=>(n+((BF into i).length:Int),(Az i.toNat).map (PZ hV into at_ n))) (by omega) (by simp[BF,Az])]
 .rfl
 .intro i e o;have E:=Jd (l:=into) e;have b:((Az i.toNat).map (PZ hV into at_ n)).length=i.toNat:=by rw[ci,BN]
  rw [AD e (by rw[Il];exact o),bs,Ur e o];by_cases hi:i∈into
  .have j:=G0 hi;have w:=AI (l:=hV) j.1 (by omega);have f:=h.kin _ w;rw[a6 (by simpa using j.1),bs,AD j.1 (by omega),bs,AD f.1 f.2,bs,AT (by rw[b];simp;unfold AW;omega),bs,FL e,List.map_append,O2 e,a6 hi,Int.add_zero,List.map_singleton,Qf hi]
  .rw[ae (by rw[x7,Iy];exact hi),AT (by rw[b];simp;unfold AW;omega),bs,FL e,List.map_append,O2 e,ae hi,List.map_singleton,RC hi,Ap (by omega) (by omega),Int.add_assoc]
theorem XC{hV into b f:Fp}{n:Int}(h:Tj count hV into (b.map (AA f)))(I:∀x∈b,0<=x/\x<f.length)(Q:0<=n)(S:n<=1000):FV count hV into b f n=some (Sw count hV into (b.map (AA f)) n):=by
 have X:=h.few;have J:=Yt h.nodup h.inn;have K:=h.len;unfold FV Dk;rw[a6 (by refine⟨rfl,by omega,by omega⟩),bs,Int.toNat_natCast];rw[BM (fun i=>(Az count).map fun k=>if 0<=Br into k/\Br into k<i then PZ hV into (b.map (AA f)) n k else -1) (by omega)]
 .rw[bs,ci,BN,BM (fun i=>(n+((BF into i).length:Int),(Az count).map fun k=>if k<i\/k∈into then PZ hV into (b.map (AA f)) n k else -1)) (by omega)]
  .rw[bs];congr 1;exact Cr fun j F D=>a6 (.inl D)
  .show _=(n,_);congr 1
   .simp[BF]
   .refine Cr fun j F D=>?_;have H:=Iy (l:=into) (v:=j);have N:=L3 into j;by_cases e:j∈into
    .rw[a6 (.inr e),a6 ⟨H.2 e,N.2⟩]
    .rw[ae (by rintro(o|o);omega;exact e o),ae fun o=>e (H.1 o.1)]
  .intro i u y;have Y:=Jd (l:=into) u;rw[AD u (by rw[ci,BN];exact y),bs,Ib _ u y];by_cases hi:i∈into
   .have O:=G0 hi;have G:=AI (l:=hV) O.1 (by have:=h.len;omega);have Z:=h.pos _ G;rw[a6 (show i<i\/i∈into from .inr hi),Qf hi,ae (by rw[x7];omega),O2 u,a6 hi,Int.add_zero];congr 2;refine Cr fun j F D=>?_;by_cases e:j<i\/j∈into
    .rw[a6 e,a6 (e.imp (fun h=>by omega) id)]
    .rw[ae e,ae];rintro(o|o)
     .have:j=i:=by
       have:=fun hh=>e (.inl hh);omega
      exact e (.inr (this▸hi))
     .exact e (.inr o)
   .rw[ae (show¬(i<i\/i∈into)by rintro(o|o);omega;exact hi o),a6 (by decide),bs,O2 u,ae hi,Ap (by simp only[];omega) (by simp only[];omega),Ik _ u,Int.add_assoc];congr 2;refine Cr fun j F D=>?_;by_cases w:j=i
    .rw[a6 w,a6 (.inl (by omega)),w,RC hi]
    .rw[ae w];by_cases e:j<i\/j∈into
     .rw[a6 e,a6 (e.imp (fun h=>by omega) id)]
     .rw[ae e,ae];rintro(o|o)
      .exact e (.inl (by omega))
      .exact e (.inr o)
 .refine List.ext_getElem (by simp[BN]) (fun k U W=>?_);simp only[List.getElem_map,List.getElem_replicate];rw[ae (by omega)];rfl
 .intro i u y;have z:=h.inn _ (AI u y);have G:=AI (l:=hV) u (by have:=h.len;omega);have q:=h.kin _ G;rw[ci]at q;have E:=I _ (AI q.1 q.2);rw[AD u y,bs,AD u (by have:=h.len;omega),bs,AD q.1 q.2,bs,AD E.1 E.2,bs,AD z.1 (by rw[ci,BN];exact z.2),bs,Ik _ z.1];congr 1;refine Cr fun j F D=>?_;by_cases w:j=AA into i
  .have e:=Yl h.nodup u y;rw[a6 w,w,e,a6 ⟨u,by omega⟩,Qf (AI u y),e,N8 q.1 q.2]
  .rw[ae w];by_cases e:0<=Br into j/\Br into j<i
   .rw[a6 e,a6 ⟨e.1,by omega⟩]
   .rw[ae e,ae];rintro⟨o,h2⟩;have P:Br into j=i:=by
     have:=fun hh=>e ⟨o,hh⟩;omega
    have:=(G0 (Iy.1 o)).2.2.1;rw[P]at this;exact w this.symm
theorem Vj{images b:Fp}(e:images.length<=1000)(f:∀x∈images,0<=x/\x<b.length):GT images b=some (images.map (AA b)):=by
 unfold GT
 grind [Pf,AA,AI,AD,AT,AW]
end Go.Sf.Sc
namespace Go.Sf.Sc
open Go Go.Sf
def Gq(h:AG)(d:Ak):d7:=⟨Gl h.d6.d4.length d.d4,Gl h.d6.d5.length d.d5⟩
def wH(r:em)(h:AG)(m:d7)(d:Ak):d7:=
 ⟨Sw r.ek.d6.d4.length r.sr.d4 r.kl.d4 (m.d4.map (AA (Gq h d).d4)) d.d4.length,
 Sw r.ek.d6.d5.length r.sr.d5 r.kl.d5 (m.d5.map (AA (Gq h d).d5)) d.d5.length⟩
def cf(t:AC)(k:Int):Fp:=(Ax t k).map fun x=>x.Low
def cj(tr:Fp)(e:BY):BY:=⟨e.kg,AA tr e.kq,AA tr e.To⟩
def MZ(r:em)(x:AG)(i:Int):Fp:=x.d6.d4++(BF r.kl.d4 i).map (AA r.ek.d6.d4)
def Ln(t:AC)(r:em)(x:AG)(i:Int):List Fp:=x.hT++(BF r.kl.d4 i).map fun k=>cf t (AA r.ek.d6.d4 k)
def OZ(r:em)(c:d7)(x:AG)(i:Int):List BY:=x.d6.d5++(BF r.kl.d5 i).map fun k=>cj c.d4 (AA r.ek.d6.d5 k)
def CR(t:AC)(r:em)(x:AG)(c:d7):AG:=⟨⟨MZ r x r.ek.d6.d4.length,OZ r c x r.ek.d6.d5.length⟩,Ln t r x r.ek.d6.d4.length⟩
def Bw(h:AG)(d:Ak):AG:=⟨⟨d.d4.map (AA h.d6.d4),d.d5.map fun x=>cj (Gq h d).d4 (AA h.d6.d5 x)⟩,d.d4.map (AA h.hT)⟩
structure MG(x:AG):Prop where
 ej:x.d6.d4.length<=1000
 fd:x.d6.d5.length<=1000
 vals:x.hT.length<=1000
 rows:∀v∈x.hT,v.length<=1000
structure Uw(t:AC)(r:em)(c:d7):Prop where
 hf:Au t
 hv:(A1 t).2=0
 g:Cc r.ek.d6
 kind:∀n∈r.ek.d6.d4,0<=n/\n<t.d4.length
 cn:c.d4.length=r.ek.d6.d4.length
variable{t:AC}{r:em}{c:d7}
theorem mF(h:Uw t r c){n:Int}(b:n∈r.ek.d6.d4):(Ax t n).length<=600:=by
 have:=h.kind n b;exact GA h.hf (Int.le_refl _) (Cd h.hv).par this.2
variable{x:AG}
theorem fR(h:MG x):KC x=some x:=by
 have:=h.ej;have:=h.fd;have:=h.vals;unfold KC Dx;rw[BI (by unfold AW;omega),bs,BI (by unfold AW;omega),bs,bs];rw[BM (fun i=>AG.mk x.d6 (x.hT.take i.toNat)) (by omega) (by rfl)]
 .rw[Int.toNat_natCast,List.take_length];rfl
 .intro i b e;have:=h.rows _ (AI b e)
  grind [AD,BI,AW,AT,CJ]
theorem dB(h:MG x):JR x=some x:=by
 have:=h.ej;have:=h.fd;have:=h.vals;unfold JR slices_Clone_int Cq;rw[BI (by unfold AW;omega),bs,BI (by unfold AW;omega),bs];rw[BM (fun i=>AG.mk x.d6 (x.hT.take i.toNat)) (by omega) (by rfl)]
 .rw[Int.toNat_natCast,List.take_length];rfl
 .intro i b e;have:=h.rows _ (AI b e)
  grind [AD,BI,AW,AT,CJ]
variable{α:Type}{i:Int}
theorem C9(l:Fp)(F:Int->α)(h:0<=i):(BF l (i+1)).map F=(BF l i).map F++if i∈l then[]else[F i]:=by grind[Mr,hasB,Bk]
theorem UK(l:Fp)(i:Int):G4 l i=some (!hasB l i):=by
 unfold G4 hasB;rw[BE (fun j=>decide (i=AA l j)) false,FM]
 .cases ns (fun j=>decide (i=AA l j)) 0 l.length<;>rfl
 grind [AD,AA]
theorem pk(h:Uw t r c)(q:MG x):Kg t r x c=some (CR t r x c):=by
 have H:=h.g.ej;have I:=h.g.fd;have x1:=q.ej;have J:=q.fd;have K:=q.vals;unfold Kg;rw[Pu (fun i=>AG.mk (d6.mk (MZ r x i) x.d6.d5) (Ln t r x i)) (a:=0) (b:=r.ek.d6.d4.length) (by omega)]
 .rw[Bc,Pu (fun i=>AG.mk (d6.mk (MZ r x r.ek.d6.d4.length) (OZ r c x i)) (Ln t r x r.ek.d6.d4.length)) (a:=0) (b:=r.ek.d6.d5.length) (by omega)]
  .rfl
  .grind[OZ,BF]
  .intro i e f;have y:=Jd (l:=r.kl.d5) e;have he:=h.g.fit _ (AI e f);have z:=h.cn;rw[a6 (by simpa using f),UK,bs];by_cases hi:i∈r.kl.d5
   .grind[Bk,OZ,C9,Ap]
   .have o:hasB r.kl.d5 i=false:=by cases o:hasB r.kl.d5 i with|false=>rfl|true=>exact absurd (Bk.1 o) hi
    rw [o,a6 (by decide),AD e f,bs,AD he.2.1.1 (by omega),bs,AD he.2.2.1 (by omega),bs,AT (by unfold OZ;simp;unfold AW;omega),bs];unfold OZ;rw[C9 _ _ e,ae hi,Ap (by simp only[];omega) (by simp only[];omega),d3];rfl
  .rw[ae (by simp)]
 .unfold MZ Ln;simp[BF]
 .intro i e f;have y:=Jd (l:=r.kl.d4) e;have u:=AI e f;have w:=h.kind _ u;have N:=mF h u;rw[a6 (by simpa using f),UK,bs];by_cases hi:i∈r.kl.d4
  .grind[Bk,MZ,Ln,C9,Ap]
  .have o:hasB r.kl.d4 i=false:=by cases o:hasB r.kl.d4 i with|false=>rfl|true=>exact absurd (Bk.1 o) hi
   rw [o,ae (by decide),AD e f,bs,AT (by unfold MZ;simp;unfold AW;omega),bs,bs,Qo h.hf,Ie h.hv w.1 w.2,bs];simp only[];rw[Pf (F:=fun a=>a.Low) fun j s D E G=>?_]
   .rw[bs,AT (by unfold Ln;simp;unfold AW;omega),bs];unfold MZ Ln;rw[C9 _ _ e,ae hi,C9 _ _ e,ae hi,Ap (by omega) (by omega),d3,d3];rfl
   grind [AD,AT,AW]
 .rw[ae (by simp)]
theorem mS(hf:Au t)(hv:(A1 t).2=0){k:Int}(e:0<=k)(b:k<t.d4.length):M1 t k=some (cf t k):=by
 have:=GA hf (Int.le_refl _) (Cd hv).par b;unfold M1;rw[Qn hf,Ie hv e b,bs];simp only[];rw[Pf (F:=fun a=>a.Low) fun j s f o q=>?_]
 .rfl
 grind [AD,AT,AW]
structure Xo(h:AG)(d:Ak):Prop where
 sm:MG h
 len:h.hT.length=h.d6.d4.length
 ej:(∀x∈d.d4,0<=x/\x<h.d6.d4.length)/\d.d4.length<=1000
 fd:(∀x∈d.d5,0<=x/\x<h.d6.d5.length)/\d.d5.length<=1000
 ends:∀e∈h.d6.d5,(0≤e.kq/\e.kq<h.d6.d4.length)/\0≤e.To/\e.To<h.d6.d4.length
variable{h:AG}{d:Ak}
theorem XQ(hd:Xo h d):MG (Bw h d):=by
 have e:=hd.ej.2;have f:=hd.fd.2;refine⟨by unfold Bw;simp;omega,by unfold Bw;simp;omega,by unfold Bw;simp;omega,fun v hv=>?_⟩;obtain⟨x,b,rfl⟩:=List.mem_map.1 hv;have:=hd.ej.1 x b;exact hd.sm.rows _ (AI this.1 (by rw[hd.len];exact this.2))
variable{R:em}{M:AJ}{C:d7}
theorem mO(o:Uw t R C)(hd:Xo h d)(G:C.d5.length=R.ek.d6.d5.length)
  (w:∀i:Int,0<=i->i<R.ek.d6.d4.length->(AA C.d4 i=d.d4.length+(BF R.kl.d4 i).length↔i∉R.kl.d4))
  (y:∀i:Int,0<=i->i<R.ek.d6.d5.length->(AA C.d5 i=d.d5.length+(BF R.kl.d5 i).length↔i∉R.kl.d5)):
  Ko t (Ai.mk R M h (AG.mk (d6.mk [] []) []) (Gq h d) C) d=some (Ai.mk R M h (CR t R (Bw h d) C) (Gq h d) C):=by
 have H:=hd.ej.2;have I:=hd.fd.2;have J:=o.g.ej;have K:=o.g.fd;have E:=o.cn;unfold Ko;simp only[];rw[BM (fun i=>Ai.mk R M h (AG.mk (d6.mk ((d.d4.take i.toNat).map (AA h.d6.d4)) []) ((d.d4.take i.toNat).map (AA h.hT))) (Gq h d) C) (by omega) (by simp)]
 rotate_left
 .intro i b f;have j:=hd.ej.1 _ (AI b f);have q:=hd.len;have z:=hd.sm.rows _ (AI j.1 (by omega));rw[AD b f,bs,AD j.1 j.2,bs,AT (by simp;unfold AW;omega),bs,AD j.1 (by omega),bs,BI (by unfold AW;omega),bs,AT (by simp;unfold AW;omega),bs,DY b f,DY b f]
 rw [bs,Int.toNat_natCast,List.take_length];rw[BM (fun i=>Ai.mk R M h (AG.mk (d6.mk (d.d4.map (AA h.d6.d4)) ((d.d5.take i.toNat).map fun x=>cj (Gq h d).d4 (AA h.d6.d5 x))) (d.d4.map (AA h.hT))) (Gq h d) C) (by omega) (by simp)]
 rotate_left
 .intro i b f;have j:=hd.fd.1 _ (AI b f);have he:=hd.ends _ (AI j.1 j.2);have q:(Gq h d).d4.length=h.d6.d4.length:=Il _ _;simp only[];rw[AD b f,bs,AD j.1 j.2,bs,AD he.1.1 (by omega),bs,AD he.2.1 (by omega),bs,AT (by simp;unfold AW;omega),bs,DY b f];rfl
 rw [bs,Int.toNat_natCast,List.take_length];rw[BM (fun i=>Ai.mk R M h (AG.mk (d6.mk (MZ R (Bw h d) i) (Bw h d).d6.d5) (Ln t R (Bw h d) i)) (Gq h d) C) (by omega) (by unfold MZ Ln;simp[BF,Bw])]
 rotate_left
 .intro i b f;have z:=Jd (l:=R.kl.d4) b;have F:=AI b f;have D:=o.kind _ F;have q:(MZ R (Bw h d) i).length=d.d4.length+(BF R.kl.d4 i).length:=by unfold MZ Bw;simp
  have u:(Ln t R (Bw h d) i).length=d.d4.length+(BF R.kl.d4 i).length:=by unfold Ln Bw;simp
  simp only[q];rw[AD b f,bs,AD b (by omega),bs];by_cases hi:i∈R.kl.d4
  .rw[ae (by rw[x7];push_cast;exact fun e=>(w i b f).1 e hi)];unfold MZ Ln;rw[C9 _ _ b,a6 hi,List.append_nil,C9 _ _ b,a6 hi,List.append_nil]
  .rw[a6 (by rw[x7];push_cast;exact(w i b f).2 hi),AT (by rw[q];simp;unfold AW;omega),bs,mS o.hf o.hv D.1 D.2,bs,AT (by rw[u];simp;unfold AW;omega),bs];unfold MZ Ln;rw[C9 _ _ b,ae hi,C9 _ _ b,ae hi,d3,d3]
 rw [bs];rw[BM (fun i=>Ai.mk R M h (AG.mk (d6.mk (MZ R (Bw h d) R.ek.d6.d4.length) (OZ R C (Bw h d) i)) (Ln t R (Bw h d) R.ek.d6.d4.length)) (Gq h d) C) (by omega) (by unfold OZ;simp[BF,Bw])]
 rotate_left
 .intro i b f;have z:=Jd (l:=R.kl.d5) b;have he:=o.g.fit _ (AI b f);have q:(OZ R C (Bw h d) i).length=d.d5.length+(BF R.kl.d5 i).length:=by unfold OZ Bw;simp
  simp only[q];rw[AD b f,bs,AD b (by omega),bs];by_cases hi:i∈R.kl.d5
  .rw[ae (by rw[x7];push_cast;exact fun e=>(y i b f).1 e hi)];unfold OZ;rw[C9 _ _ b,a6 hi,List.append_nil]
  .rw[a6 (by rw[x7];push_cast;exact(y i b f).2 hi),AD he.2.1.1 (by omega),bs,AD he.2.2.1 (by omega),bs,AT (by rw[q];simp;unfold AW;omega),bs];unfold OZ;rw[C9 _ _ b,ae hi,d3];rfl
 rw [bs];rfl
theorem aB(hf:Au t)(hh:(Iw t h).2=0)(q:D7 h.d6 d=0)(hd:Xo h d):JM t h d=some (Bw h d,0):=by
 have u:=hd.ej.2;unfold JM;rw[ZN hf,bs,ae (by simp[hh]),XI ⟨hd.ej.2,hd.fd.2⟩,ae (by simp[q]),bs,ae (by simp)];have e:Ef h.d6 d=(Bw h d).d6:=by
  unfold Ef Bw;congr 1;refine List.map_congr_left fun x f=>?_;have f:=hd.fd.1 x f;have he:=hd.ends _ (AI f.1 f.2)
  grind [cj,Gq,Ur]
 simp only[];rw[Pu (fun i=>AG.mk (Ef h.d6 d) ((d.d4.take i.toNat).map (AA h.hT))) (a:=0) (b:=d.d4.length) (by omega) (by simp)]
 .rw[Int.toNat_natCast,List.take_length,Bc,e];rfl
 .intro i o j;have f:=hd.ej.1 _ (AI o j);have w:=hd.len;have y:=hd.sm.rows _ (AI f.1 (by omega));rw[a6 (by simpa using j),AD o j,bs,AD f.1 (by omega),bs,BI (by unfold AW;omega),bs,AT (by simp;unfold AW;omega),bs,DY o j,Ap (by simp only[];omega) (by simp only[];omega)]
 .rw[ae (by simp)]
end Go.Sf.Sc
namespace Go.Sf.Sc
open Go Go.Sf
def O5(c:d7)(vars:Fp)(s:CI):(Int×Int)×Int:=((AA c.d4 s.sx,s.mo),Cm s.j4 vars)
def B2(r:em)(c:d7)(vars:Fp):BJ:=r.ek.ff.map (O5 c vars)
def NF(t:AC)(x:AG)(p:(Int×Int)×Int):Bool:=
 decide (p.2<(AA (Ax t (AA x.d6.d4 p.1.1)) p.1.2).Low)||decide ((AA (Ax t (AA x.d6.d4 p.1.1)) p.1.2).Aao<p.2)
structure Tl(t:AC)(r:em)(c:d7)(vars:Fp)(x:AG):Prop where
 hf:Au t
 hv:(A1 t).2=0
 few:r.ek.ff.length<=1000
 fewv:vars.length<=1000
 slot:∀s∈r.ek.ff,(0<=s.sx/\s.sx<c.d4.length)/\(-1<=s.j4.Var/\s.j4.Var<vars.length)/\
  (0<=AA c.d4 s.sx/\AA c.d4 s.sx<x.d6.d4.length)/\(0<=s.mo/\s.mo<(Ax t (AA x.d6.d4 (AA c.d4 s.sx))).length)
 kind:∀n∈x.d6.d4,0<=n/\n<t.d4.length
 vlen:x.hT.length=x.d6.d4.length
 rows:∀i:Int,0<=i->i<x.d6.d4.length->(AA x.hT i).length=(Ax t (AA x.d6.d4 i)).length
variable{L:BJ}{i:Int}
theorem cM(b:0<=i)(e:i<=L.length)(h:∀j,0<=j->j<i->ns (fun k=>decide ((AA L k).1=(AA L j).1)&&!decide ((AA L k).2=(AA L j).2)) 0 j=false):Q0 (L.take i.toNat):=by grind[Wb,Ol,Bp,cE,U1,PE]
def UZ(L:BJ)(i:Int):Bool:=ns (fun k=>decide ((AA L k).1=(AA L i).1)&&!decide ((AA L k).2=(AA L i).2)) 0 i
theorem iD(G:0<=i)(H:i<L.length)(u:Q0 (L.take i.toNat)):
  (((Of (L.take i.toNat)).look (AA L i).1).isSome&&(!decide (((Of (L.take i.toNat)).look (AA L i).1).getD 0=(AA L i).2)))=UZ L i:=by
 obtain ⟨I,y,J⟩:=bH _ u;unfold UZ;cases w:(Of (L.take i.toNat)).look (AA L i).1 with
 |none=>
  rw [Option.isSome_none,Bool.false_and];refine Eq.symm (Bp.2 fun k o q=>?_);have f:AA L k∈L.take i.toNat:=by
   rw [<-PE (n:=i.toNat) (by omega)]
   grind [AI,cE]
  rw [decide_eq_false (W7 w _ ((y _).2 f)),Bool.false_and]
 |some v=>
  have f:=(y _).1 (S9 w);rw[Option.isSome_some,Bool.true_and,Option.getD_some];have b:∀k,0<=k->k<i->(AA L k).1=(AA L i).1->(AA L k).2=v:=fun k o q e=>by
   have D:AA L k∈L.take i.toNat:=by
    rw [<-PE (n:=i.toNat) (by omega)]
    grind [AI,cE]
   exact u _ D _ f e
  obtain ⟨k,o,q,z⟩:=BZ f;rw[cE]at q;rw[PE (by omega)]at z;rw[Bool.eq_iff_iff,Dj];constructor
  .intro h;refine⟨k,o,by omega,?_⟩;rw[z,decide_eq_true rfl,Bool.true_and];exact h
  .rintro⟨j,E,F,h⟩;rw[pc,x7]at h;rw[<-b j E F h.1];exact h.2
theorem Na(r:em)(c:d7)(vars:Fp)(b:0<=i)(e:i<r.ek.ff.length):AA (B2 r c vars) i=O5 c vars (AA r.ek.ff i):=N8 b e
theorem I6(r:em)(c:d7)(vars:Fp):(B2 r c vars).length=r.ek.ff.length:=ci ..
theorem YP(L:BJ){ρ:Type}(v:ρ):fst (fun i=>if UZ L i=true then some v else none) 0 L.length=if Ol L=true then some v else none:=Lx
variable{t:AC}{R:em}{M:AJ}{B A:AG}{T C:d7}
theorem dA(h:Tl t R C M.gn A):G7 (Ai.mk R M B A T C)=some (if Ol (B2 R C M.gn)=true then([],11)else(Of (B2 R C M.gn),0)):=by
 unfold G7;simp only[];rw[KW (a:=0) (s:=([]:BJ)) (fun i=>Of ((B2 R C M.gn).take i.toNat)) (fun i=>if UZ (B2 R C M.gn) i=true then some ([],11)else none) (by omega) rfl]
 .have:=YP (B2 R C M.gn) (([],11):BJ×Int);rw[I6]at this;rw[this];by_cases e:Ol (B2 R C M.gn)=true
  .rw[a6 e,a6 e];rfl
  .rw[ae e,ae e,<-I6 R C M.gn,Int.toNat_natCast,List.take_length];rfl
 .intro i b f y;have o:=h.slot _ (AI b f);have z:Q0 ((B2 R C M.gn).take i.toNat):=cM b (by rw[I6];omega) fun j u w=>by
   have:=y j u w;split at this
   .cases this
   .rename_i e;exact Bool.eq_false_iff.2 e
  have q:=iD (L:=B2 R C M.gn) b (by rw[I6];exact f) z;rw[AD b f,bs,Y2 o.2.1.1 o.2.1.2 h.fewv,bs,ae (by simp),AD o.1.1 o.1.2,bs];rw[Na R C M.gn b f]at q;simp only[O5]at q;simp only[];by_cases e:UZ (B2 R C M.gn) i=true
  .refine(a6 (q.trans e)).trans ?_;rw[a6 e];rfl
  .refine(ae (fun h=>e (q.symm.trans h))).trans ?_;rw[ae e,CJ b (by rw[I6];exact f),Ys,Na R C M.gn b f];rfl
variable{α:Type}
theorem bJ{f:α->K1}{g:α->Bool}:∀{l:List α},(∀p∈l,f p=some (g p))->RU f l=some (l.all g)
 |[],_=>rfl|p::r,h=>by
  unfold RU;rw[h p List.mem_cons_self,bs,bJ fun q b=>h q (List.mem_cons_of_mem _ b),bs,List.all_cons]
variable{r:em}{c:d7}{x:AG}{V:List Fp}
theorem Zc{vars:Fp}(h:Tl t r c vars x){s:CI}(q:s∈r.ek.ff)(u:KT V x.hT):
  idx V (AA c.d4 s.sx)=some (AA V (AA c.d4 s.sx))/\idx (AA V (AA c.d4 s.sx)) s.mo=some (AA (AA V (AA c.d4 s.sx)) s.mo):=by
 have f:=h.slot s q;have hv:=h.vlen;have D:=h.rows _ f.2.2.1.1 f.2.2.1.2;have w:idx x.hT (AA c.d4 s.sx)=some (AA x.hT (AA c.d4 s.sx)):=AD f.2.2.1.1 (by omega);have y:idx (AA x.hT (AA c.d4 s.sx)) s.mo=some (AA (AA x.hT (AA c.d4 s.sx)) s.mo):=AD f.2.2.2.1 (by omega);obtain⟨z,x',a,b⟩:=u.idx w y;have j:=F2 a;have o:=F2 b;have E:=(List.getElem?_eq_some_iff.1 j.2.2).1;have e:AA V (AA c.d4 s.sx)=z:=by
  grind [AD,Option.some.inj]
 have F:=(List.getElem?_eq_some_iff.1 o.2.2).1;refine⟨AD j.1 (by omega),?_⟩;rw[e];exact AD o.1 (by omega)
theorem iL(h:Tl t R C M.gn A){p:(Int×Int)×Int}(j:p∈B2 R C M.gn):P5 t (Ai.mk R M B A T C) p=some (!NF t A p):=by
 obtain ⟨s,f,rfl⟩:=List.mem_map.1 j;have b:=h.slot s f;have e:=h.kind _ (AI b.2.2.1.1 b.2.2.1.2);obtain⟨o,q⟩:=Zc h f (V:=A.hT) rfl;unfold P5 P4 O5 NF;simp only[];rw[AD b.2.2.1.1 b.2.2.1.2,bs,Qn h.hf,Ie h.hv e.1 e.2,bs];simp only[];simp only[AD b.2.2.2.1 b.2.2.2.2,o,q,bs,T1]
 grind
def Hu(t:AC)(x:AG)(L:BJ):AG×Int:=
 if Ol L=true then(⟨⟨[],[]⟩,[]⟩,11)else if L.any (NF t x)=true then(⟨⟨[],[]⟩,[]⟩,6)else(⟨x.d6,L.foldl CN x.hT⟩,0)
theorem pM(h:Tl t R C M.gn A):OU t (Ai.mk R M B A T C)=some ((Hu t A (B2 R C M.gn)).2,if(Hu t A (B2 R C M.gn)).2=0 then Ai.mk R M B (Hu t A (B2 R C M.gn)).1 T C else Ai.mk R M B A T C):=by
 unfold OU Hu;rw[dA h,bs];by_cases e:Ol (B2 R C M.gn)=true
 .grind
 .rw[ae e,ae (by simp),ae e];obtain⟨j,o,q⟩:=bH _ (Wb (Bool.eq_false_iff.2 e));have f:RU (P5 t (Ai.mk R M B A T C)) (Of (B2 R C M.gn))=some (!(B2 R C M.gn).any (NF t A)):=by
   rw [bJ (g:=fun p=>!NF t A p) fun p b=>iL h ((o p).1 b)]
   grind
  rw [a6 (by simpa using(show List.Pairwise (fun x y:(Int×Int)×Int=>x.1≠y.1) _ from j)),f,bs]
  grind [B2,NF,Mz]
theorem tO{vars:Fp}(h:Tl t r c vars x):MA t r x c vars=some (Hu t x (B2 r c vars)):=by
 unfold MA Hu;rw[KW (a:=0) (s:=AG.mk (d6.mk [] []) []) (fun _=>AG.mk (d6.mk [] []) []) (fun i=>if UZ (B2 r c vars) i=true then some (AG.mk (d6.mk [] []) [],(11:Int))else none) (by omega) rfl]
 .have:=YP (B2 r c vars) ((AG.mk (d6.mk [] []) [],(11:Int)));rw[I6]at this;rw[this];by_cases e:Ol (B2 r c vars)=true
  .rw[a6 e,a6 e];rfl
  rw [ae e,ae e];show AM (some (Sum.inl _)) _ _=_;rw[Bc,KW (a:=0) (s:=(x,AG.mk (d6.mk [] []) [])) (fun i=>(AG.mk x.d6 (((B2 r c vars).take i.toNat).foldl CN x.hT),AG.mk (d6.mk [] []) [])) (fun i=>if NF t x (AA (B2 r c vars) i)=true then some (AG.mk (d6.mk [] []) [],(6:Int))else none) (by omega) rfl]
  .have:=ax (l:=B2 r c vars) (q:=NF t x) (v:=(AG.mk (d6.mk [] []) [],(6:Int)));rw[I6]at this;rw[this];by_cases f:(B2 r c vars).any (NF t x)=true
   .rw[a6 f,a6 f];rfl
   .rw[ae f,ae f];show some (AG.mk x.d6 (((B2 r c vars).take (r.ek.ff.length:Int).toNat).foldl CN x.hT),(0:Int))=_
    grind [I6,Int.toNat_natCast,List.take_length]
  .intro i j o _;have z:=AI j o;have b:=h.slot _ z;have u:=h.kind _ (AI b.2.2.1.1 b.2.2.1.2);obtain⟨E,F⟩:=Zc h z (V:=((B2 r c vars).take i.toNat).foldl CN x.hT) (Ye _ _);simp only[AD j o,bs];rw[NX b.2.1.1 b.2.1.2,bs,AD b.1.1 b.1.2,bs,AD b.2.2.1.1 b.2.2.1.2,bs,Qo h.hf,Ie h.hv u.1 u.2,bs];simp only[];rw[AD b.2.2.2.1 b.2.2.2.2,bs,bs,T1,bs,E,bs,F,bs];rw[Na r c vars j o,CJ j (by rw[I6];exact o),List.foldl_append,Na r c vars j o];show(if(NF t x (O5 c vars (AA r.ek.ff i)))=true then _ else _)=_;by_cases f:NF t x (O5 c vars (AA r.ek.ff i))=true
   .rw[a6 f,a6 f];rfl
   .rw[ae f,ae f];have:=YY (p:=O5 c vars (AA r.ek.ff i)) E F;exact congrArg (fun W=>some (B0.next (σ:=AG×AG) (ρ:=AG×Int) (AG.mk x.d6 W,AG.mk (d6.mk [] []) []))) this
 .intro i j o _;have b:=h.slot _ (AI j o);rw[AD j o,bs,NX b.2.1.1 b.2.1.2,bs];rw[KW (a:=0) (s:=AG.mk (d6.mk [] []) []) (fun _=>AG.mk (d6.mk [] []) []) (fun k=>if(decide ((AA (B2 r c vars) k).1=(AA (B2 r c vars) i).1)&&!decide ((AA (B2 r c vars) k).2=(AA (B2 r c vars) i).2))=true then some (AG.mk (d6.mk [] []) [],(11:Int))else none) j rfl]
  .rw[Lx];unfold UZ;split<;>rfl
  .intro k w H _;have u:=h.slot _ (AI w (show k<r.ek.ff.length by omega));simp only[AD j o,AD w (show k<r.ek.ff.length by omega),bs];rw[NX u.2.1.1 u.2.1.2,bs,AD u.1.1 u.1.2,bs,AD b.1.1 b.1.2,bs,Na r c vars j o,Na r c vars w (by omega)];simp only[O5,Prod.mk.injEq];by_cases D:AA c.d4 (AA r.ek.ff k).sx=AA c.d4 (AA r.ek.ff i).sx<;>by_cases f:(AA r.ek.ff k).mo=(AA r.ek.ff i).mo<;>by_cases y:Cm (AA r.ek.ff i).j4 vars=Cm (AA r.ek.ff k).j4 vars
   all_goals first|(have G:¬Cm (AA r.ek.ff k).j4 vars=Cm (AA r.ek.ff i).j4 vars:=fun h=>y h.symm;simp[D,f,y,G,gJ];done)|(simp[D,f,y,gJ];done)
end Go.Sf.Sc
namespace Go.Sf.Sc
open Go Go.Sf
variable{t:AC}{r:em}
theorem Vq(h:GF t r=0):Gy t r.f0=0/\JP t r=0/\MQ t r.f0 r.ea=0:=by grind[GF]
theorem aF(h:JP t r=0):r.ek.gn=r.f0.gn/\r.ek.ff.length<=10/\∀i:Int,0<=i->i<r.ek.ff.length->N1 t r.ek i=0:=by
 unfold JP at h;split at h
 .omega
 split at h
 .cases h
 split at h
 .cases h
 split at h
 .cases h
 rename_i b e f j;exact⟨by omega,by omega,VK h⟩
variable{i:Int}
theorem dR{p:ec}(h:N1 t p i=0):(0<=(AA p.ff i).sx/\(AA p.ff i).sx<p.d6.d4.length)/\
  (0<=(AA p.ff i).mo/\(AA p.ff i).mo<(Fx t (AA p.d6.d4 (AA p.ff i).sx)).1.length)/\-1<=(AA p.ff i).j4.Var/\(AA p.ff i).j4.Var<p.gn:=by
 unfold N1 at h;dsimp only at h;split at h
 .cases h
 split at h
 .cases h
 rename_i e b;simp only[Bool.or_eq_true,x7]at b;omega
structure H6(t:AC)(r:em)(h:AG)(m:AJ):Prop where
 hf:Au t
 fr:Ez r
 re:GF t r=0
 he:(Iw t h).2=0
 at_:Uu t r.f0 h m
 co:X6 (RQ r.f0.d6 h.d6 m.d7) h.d6 r.sr m.d7
abbrev dS(r:em)(h:AG)(m:AJ):Ak:=Ld h.d6 r.sr m.d7
abbrev cS(r:em)(h:AG)(m:AJ):d7:=wH r h m.d7 (dS r h m)
variable{h:AG}{m:AJ}
theorem H6.hv(s:H6 t r h m):(A1 t).2=0:=(PM s.re).1
theorem H6.ro(s:H6 t r h m):Sb t r:=(PM s.re).2
theorem H6.hh(s:H6 t r h m):JH t h:=(Ts s.hf s.he).2
theorem VN(hf:Au t)(hv:(A1 t).2=0)(hh:JH t h):MG h:=by
 have f:=hh.g.ej;have j:=hh.g.fd;have o:=hh.len;refine⟨by omega,by omega,by omega,fun v b=>?_⟩;obtain⟨i,e,w,rfl⟩:=BZ b;have q:=hh.row i e (by omega);have u:=GA hf (Int.le_refl _) (Cd hv).par (hh.kind i e (by omega)).2;omega
theorem H6.rem(s:H6 t r h m):Xo h (dS r h m):=by
 have hh:=s.hh;have f:=hh.g.ej;have j:=hh.g.fd;have l1:=QS (D5 m.d7.d4 r.sr.d4) h.d6.d4.length;have l2:=QS (D5 m.d7.d5 r.sr.d5) h.d6.d5.length;exact⟨VN s.hf s.hv hh,hh.len,⟨fun x b=>GO b,by show(BF _ _).length<=1000;omega⟩,⟨fun x b=>GO b,by show(BF _ _).length<=1000;omega⟩,fun e he=>(hh.g.fit e he).2⟩
theorem H6.part(s:H6 t r h m):D7 h.d6 (dS r h m)=0:=by
 unfold D7;rw[ae (by simp[s.hh.ge])];exact fo s.co
variable{count n:Nat}
theorem eJ{hV into images:Fp}{A2:Fp}(few:count<=1000)(nodup:into.Nodup)(len:into.length=hV.length)(inn:∀x∈into,0<=x/\x<count)
  (kin:∀x∈hV,0<=x/\x<images.length)(f:∀x∈images,0<=x/\x<n)(hi:Aav images hV=false)(j:A2=D5 images hV):
  Tj count hV into (images.map (AA (Gl n (BF A2 n))))/\(∀x∈hV,AA (images.map (AA (Gl n (BF A2 n)))) x<(BF A2 n).length)/\
  ∀x∈hV,AA (images.map (AA (Gl n (BF A2 n)))) x=Br (BF A2 n) (AA images x)/\AA images x∈BF A2 n:=by
 have e:∀x∈hV,AA (images.map (AA (Gl n (BF A2 n)))) x=Br (BF A2 n) (AA images x)/\AA images x∈BF A2 n:=fun x b=>by
  grind [AI,N8,Ur,O1,S8]
 refine ⟨⟨few,nodup,len,inn,fun x b=>by rw[ci];exact kin x b,fun x b=>?_⟩,fun x b=>?_,e⟩
 .rw[(e x b).1];exact Iy.2 (e x b).2
 .rw[(e x b).1];exact(L3 _ _).2
theorem H6.left(s:H6 t r h m):m.d7.d4.length=r.f0.d6.d4.length/\m.d7.d5.length=r.f0.d6.d5.length:=⟨s.at_.m.Aas,s.at_.m.Aaz⟩
theorem H6.AbN(s:H6 t r h m):Tj r.ek.d6.d4.length r.sr.d4 r.kl.d4 (m.d7.d4.map (AA (Gq h (dS r h m)).d4))/\
  (∀x∈r.sr.d4,AA (m.d7.d4.map (AA (Gq h (dS r h m)).d4)) x<(dS r h m).d4.length)/\
  ∀x∈r.sr.d4,AA (m.d7.d4.map (AA (Gq h (dS r h m)).d4)) x=Br (dS r h m).d4 (AA m.d7.d4 x)/\AA m.d7.d4 x∈(dS r h m).d4:=by
 have ro:=s.ro;have j:=ro.right.ej;refine eJ (by omega) ro.inj.1 ?_ (fun x b=>?_) (fun x b=>?_) (fun x b=>?_) s.co.ej rfl
 .have:=ro.mor.Aas;rw[this];exact ci ..
 .obtain⟨i,e,f,rfl⟩:=BZ b;exact(ro.mor.node i e f).1
 .have:=ro.part.ej.1 x b;have:=s.left.1;omega
 .obtain⟨i,e,f,rfl⟩:=BZ b;exact(s.at_.m.node i e f).1
theorem H6.AbT(s:H6 t r h m):Tj r.ek.d6.d5.length r.sr.d5 r.kl.d5 (m.d7.d5.map (AA (Gq h (dS r h m)).d5))/\
  (∀x∈r.sr.d5,AA (m.d7.d5.map (AA (Gq h (dS r h m)).d5)) x<(dS r h m).d5.length)/\
  ∀x∈r.sr.d5,AA (m.d7.d5.map (AA (Gq h (dS r h m)).d5)) x=Br (dS r h m).d5 (AA m.d7.d5 x)/\AA m.d7.d5 x∈(dS r h m).d5:=by
 have ro:=s.ro;have j:=ro.right.fd;refine eJ (by omega) ro.inj.2 ?_ (fun x b=>?_) (fun x b=>?_) (fun x b=>?_) s.co.fd rfl
 .have:=ro.mor.Aaz;rw[this];exact ci ..
 .obtain⟨i,e,f,rfl⟩:=BZ b;exact(ro.mor.edge i e f).1
 .have:=ro.part.fd.1 x b;have:=s.left.2;omega
 .obtain⟨i,e,f,rfl⟩:=BZ b;exact s.at_.m.edge i e f
theorem aW{hV into at_:Fp}(h:Tj count hV into at_)(b:∀x∈hV,AA at_ x<n)(f:0<=i)(j:i<count):AA (Sw count hV into at_ n) i=n+(BF into i).length↔i∉into:=by
 rw [eH f j];constructor
 .intro e hi;rw[Qf hi]at e;have o:=G0 hi;have:=b _ (AI (l:=hV) o.1 (by have:=h.len;omega));omega
 .exact RC
theorem H6.grow(s:H6 t r h m):Uw t r (cS r h m):=
 ⟨s.hf,s.hv,s.ro.right,(Gr s.ro.right s.ro.AaF).1,Qg _ _ _ _ _⟩
theorem UM(l:Fp)(b:0<=i):∀(k:Nat),∃s,BF l (i+k)=BF l i++s
 |0=>⟨[],by simp⟩|k+1=>by
  obtain ⟨s,e⟩:=UM l b k
  grind [Mr,d3]
variable{l:Fp}
theorem jK{i n:Int}(b:0<=i)(f:i<n)(h:i∉l):AA (BF l n) (BF l i).length=i/\((BF l i).length:Int)<(BF l n).length:=by
 obtain ⟨s,e⟩:=UM l (i:=i+1) (by omega) (n-(i+1)).toNat
 rw [show i+1+((n-(i+1)).toNat:Int)=n by omega,Mr l b]at e
 grind [hasB,Bk,AA]
variable{α:Type}
theorem oX[Inhabited α]{l m:List α}(b:0<=i)(e:i<l.length):AA (l++m) i=AA l i:=by grind[Lv]
theorem oY[Inhabited α]{l m:List α}:AA (l++m) (l.length+n:Int)=AA m n:=by grind[Lv,AA,Int.toNat_natCast]
theorem H6.kindAt(s:H6 t r h m)(u:0<=i)(w:i<r.ek.d6.d4.length):
  (0<=AA (cS r h m).d4 i/\AA (cS r h m).d4 i<(CR t r (Bw h (dS r h m)) (cS r h m)).d6.d4.length)/\
  (Ax t (AA r.ek.d6.d4 i)).length<=(Ax t (AA (CR t r (Bw h (dS r h m)) (cS r h m)).d6.d4 (AA (cS r h m).d4 i))).length:=by
 obtain ⟨E,J,c3⟩:=s.AbN;have F:AA (cS r h m).d4 i=PZ r.sr.d4 r.kl.d4 (m.d7.d4.map (AA (Gq h (dS r h m)).d4)) (dS r h m).d4.length i:=eH u w;have el:(CR t r (Bw h (dS r h m)) (cS r h m)).d6.d4=(dS r h m).d4.map (AA h.d6.d4)++(Ht r).map (AA r.ek.d6.d4):=rfl;rw[F,el,bk,ci,ci];by_cases hi:i∈r.kl.d4
 .have b:=G0 hi;have K:=E.len;have f:=AI (l:=r.sr.d4) b.1 (by omega);have y:=c3 _ f;have z:=J _ f;have o:=E.pos _ f;rw[Qf hi];refine⟨⟨o,by push_cast;omega⟩,?_⟩;rw[oX o (by rw[ci];exact z),N8 o z,y.1,(G0 y.2).2.2.1];have j:=s.ro.part.ej.1 _ f;have G:=s.left.1;have q:=s.at_.m.node _ j.1 (by omega);have H:=s.hh.kind _ q.1.1 q.1.2;have D:=s.ro.mor.node _ b.1 b.2.1;rw[b.2.2.1]at D;have I:AA (Ef r.f0.d6 r.sr).d4 (Br r.kl.d4 i)=AA r.f0.d6.d4 (AA r.sr.d4 (Br r.kl.d4 i)):=N8 b.1 (by omega);rw[D.2,I];exact W4 (Cd s.hv) H.2 q.2
 .have j:=jK u w hi;rw[RC hi];have e:((dS r h m).d4.map (AA h.d6.d4)).length=(dS r h m).d4.length:=ci ..;refine⟨⟨by omega,?_⟩,?_⟩
  .have:((Ht r).length:Int)=(BF r.kl.d4 r.ek.d6.d4.length).length:=rfl
   push_cast
   omega
  .rw[<-e,oY,show Ht r=BF r.kl.d4 r.ek.d6.d4.length from rfl,N8 (by omega) j.2];show _<=(Ax t (AA r.ek.d6.d4 (AA (BF r.kl.d4 r.ek.d6.d4.length) (BF r.kl.d4 i).length))).length;rw[j.1];exact az _
theorem H6.rows(s:H6 t r h m):(CR t r (Bw h (dS r h m)) (cS r h m)).hT.map (fun v=>v.length)=(CR t r (Bw h (dS r h m)) (cS r h m)).d6.d4.map fun n=>(Ax t n).length:=by
 show (List.map _ (_++_))=List.map _ (_++_);rw[List.map_append,List.map_append];congr 1
 .show((dS r h m).d4.map (AA h.hT)).map _=((dS r h m).d4.map (AA h.d6.d4)).map _;rw[List.map_map,List.map_map];refine List.map_congr_left fun x b=>?_;have b:=s.rem.ej.1 x b;exact s.hh.row x b.1 b.2
 grind [List.map_map,List.map_congr_left,cf,ci]
theorem H6.put(s:H6 t r h m):Tl t r (cS r h m) m.gn (CR t r (Bw h (dS r h m)) (cS r h m)):=by
 obtain ⟨K,F,N⟩:=Vq s.re;obtain⟨hv,O,y⟩:=aF F;have H:=s.at_.q.vars;have z:=s.at_.len;have u:=s.rows;have w:(CR t r (Bw h (dS r h m)) (cS r h m)).hT.length=(CR t r (Bw h (dS r h m)) (cS r h m)).d6.d4.length:=by
  grind [List.length,ci]
 refine ⟨s.hf,s.hv,by omega,by omega,fun x b=>?_,fun n e=>?_,w,fun i f o=>?_⟩
 .obtain⟨i,f,o,rfl⟩:=BZ b;obtain⟨j,G,P⟩:=dR (y i f o);have D:=(Gr s.ro.right s.ro.AaF).1 _ (AI j.1 j.2);rw[Ie s.hv D.1 D.2]at G;obtain⟨Q,S⟩:=s.kindAt j.1 j.2;have E:(cS r h m).d4.length=r.ek.d6.d4.length:=Qg _ _ _ _ _
  grind
 .have e:n∈(dS r h m).d4.map (AA h.d6.d4)++(Ht r).map (AA r.ek.d6.d4):=e;rcases List.mem_append.1 e with e|e
  .obtain⟨x,b,rfl⟩:=List.mem_map.1 e;have b:=s.rem.ej.1 x b;exact s.hh.kind x b.1 b.2
  .obtain⟨x,b,rfl⟩:=List.mem_map.1 e;have b:=GO b;exact(Gr s.ro.right s.ro.AaF).1 _ (AI b.1 b.2)
 .have I:=N8 (l:=(CR t r (Bw h (dS r h m)) (cS r h m)).hT) (g:=fun v=>v.length) f (by omega);have J:=N8 (l:=(CR t r (Bw h (dS r h m)) (cS r h m)).d6.d4) (g:=fun n=>(Ax t n).length) f o
  grind
end Go.Sf.Sc
namespace Go.Sf.Sc
open Go Go.Sf
abbrev u7:em:=em.mk (⟨#[]⟩:ByteArray) (ec.mk (d6.mk [] []) [] 0 []) (ec.mk (d6.mk [] []) [] 0 []) (Ak.mk [] []) (d7.mk [] []) false (ea.mk 0 [] (d7.mk [] []) (ec.mk (d6.mk [] []) [] 0 []))
abbrev zG:Ai:=Ai.mk u7 (AJ.mk (d7.mk [] []) []) (AG.mk (d6.mk [] []) []) (AG.mk (d6.mk [] []) []) (d7.mk [] []) (d7.mk [] [])
def Xq(t:AC)(r:em)(h:AG)(m:AJ):Ai×Int:=
 if (Hu t (CR t r (Bw h (dS r h m)) (cS r h m)) (B2 r (cS r h m) m.gn)).2≠0 then(zG,(Hu t (CR t r (Bw h (dS r h m)) (cS r h m)) (B2 r (cS r h m) m.gn)).2)else
 if 40<(Hu t (CR t r (Bw h (dS r h m)) (cS r h m)) (B2 r (cS r h m) m.gn)).1.d6.d4.length\/80<(Hu t (CR t r (Bw h (dS r h m)) (cS r h m)) (B2 r (cS r h m) m.gn)).1.d6.d5.length then(zG,3)else
 (Ai.mk r m h (Hu t (CR t r (Bw h (dS r h m)) (cS r h m)) (B2 r (cS r h m) m.gn)).1 (Gq h (dS r h m)) (cS r h m),0)
noncomputable def Cf(t:AC)(r:em)(h:AG)(m:AJ):Ai×Int:=
 if GF t r≠0 then(zG,GF t r)else if(Iw t h).2≠0 then(zG,(Iw t h).2)else
 if Fr t r.f0.d6 h.d6 m.d7 r.le≠0 then(zG,1)else
 if (E0 t r.f0 h m.d7).2≠0 then(zG,(E0 t r.f0 h m.d7).2)else if¬(E0 t r.f0 h m.d7).1=m.gn then(zG,11)else
 if (MP (RQ r.f0.d6 h.d6 m.d7) h.d6 r.sr m.d7).2≠0 then(zG,(MP (RQ r.f0.d6 h.d6 m.d7) h.d6 r.sr m.d7).2)else
 if (Lp t r.f0 r.ea h m r.le).2≠0 then(zG,(Lp t r.f0 r.ea h m r.le).2)else
 if (Lp t r.f0 r.ea h m r.le).1=false then(zG,16)else Xq t r h m
variable{t:AC}{r:em}{h:AG}{m:AJ}
theorem V2(b:GF t r=0)(e:(Iw t h).2=0)(f:Fr t r.f0.d6 h.d6 m.d7 r.le=0)(j:(E0 t r.f0 h m.d7).2=0)(o:(E0 t r.f0 h m.d7).1=m.gn):St t r.f0 r.ea h m r.le=0:=by
 unfold St;rw[ae (by simp[(Vq b).2.2]),ae (by simp[e]),ae (by simp[f]),ae (by simp[j]),a6 o]
theorem bE{X:Option (Ai×Int)}(b:(Hu t (CR t r (Bw h (dS r h m)) (cS r h m)) (B2 r (cS r h m) m.gn)).2=0->X=
   if ((decide (40<((Hu t (CR t r (Bw h (dS r h m)) (cS r h m)) (B2 r (cS r h m) m.gn)).1.d6.d4.length:Int)))||(decide (80<((Hu t (CR t r (Bw h (dS r h m)) (cS r h m)) (B2 r (cS r h m) m.gn)).1.d6.d5.length:Int))))=true then some (zG,3)else
   some (Ai.mk r m h (Hu t (CR t r (Bw h (dS r h m)) (cS r h m)) (B2 r (cS r h m) m.gn)).1 (Gq h (dS r h m)) (cS r h m),0)):
  (if(!decide ((Hu t (CR t r (Bw h (dS r h m)) (cS r h m)) (B2 r (cS r h m) m.gn)).2=0))=true then some (zG,(Hu t (CR t r (Bw h (dS r h m)) (cS r h m)) (B2 r (cS r h m) m.gn)).2)else X)=some (Xq t r h m):=by
 unfold Xq;refine Dt fun e=>?_;rw[b e];refine N9 (by simp;omega) fun _=>rfl
theorem ZC(hf:Au t)(fr:Ez r)(E:C7 r.ea<=40)(h:AG)(m:AJ):I7 t r h m=some (Cf t r h m):=by
 unfold I7 O9 Cf;rw[NV hf,bs];by_cases hv:¬(A1 t).2=0
 .grind[GF,A1]
 have hv:=Classical.not_not.1 hv;rw[ae (by simp[hv]),fE hf fr,bs,Y5 hf,bs];by_cases f:¬GF t r=0
 .grind
 have f:=Classical.not_not.1 f;rw[ae (by simp[f]),bs,ae (show¬GF t r≠0 by simp[f])];refine Dt fun F=>?_;rw[Option.bind_fun_some];unfold O8 M2;rw[WC hf,bs];by_cases j:¬Fr t r.f0.d6 h.d6 m.d7 r.le=0
 .grind
 have j:=Classical.not_not.1 j;rw[ae (by simp[j]),bL hf,bs,ae (show¬Fr t r.f0.d6 h.d6 m.d7 r.le≠0 by simp[j])];by_cases u:¬(E0 t r.f0 h m.d7).2=0
 .grind
 have u:=Classical.not_not.1 u;rw[ae (by simp[u]),Nk,bs,ae (show¬(E0 t r.f0 h m.d7).2≠0 by simp[u])];by_cases w:¬(E0 t r.f0 h m.d7).1=m.gn
 .grind
 have w:=Classical.not_not.1 w;rw[ae (by simp[w]),bs,ae (by simp),ae (show¬¬(E0 t r.f0 h m.d7).1=m.gn by simp[w])];rw[pP hf j,bs,ae (by simp),pJ fr.hV,bs];refine Dt fun G=>?_;obtain⟨_,_,_,y⟩:=U7 hf E (V2 f F j u w);obtain⟨co,P⟩:=V3 G;rw[Z9 hf _ fr.cond E,bs,P];refine Dt fun Q=>?_;refine Su fun S=>?_;have s:H6 t r h m:=⟨hf,fr,f,F,y,co⟩;have o:=s.rem;have U:=s.hh.g.ej;have W:=s.hh.g.fd;have l1:=s.left.1;have l2:=s.left.2;have X:=s.ro.left.ej;have Y:=s.ro.left.fd;have I:=y.len;have J:=y.q.vars;have D:IZ m=some m:=by
  unfold IZ slices_Clone_int;rw[BI (by unfold AW;omega),bs,BI (by unfold AW;omega),bs,BI (by unfold AW;omega),bs]
 simp only[];rw[D,bs,dB o.sm,bs];rw[bP (by omega) o.ej.2 (MB _ _),bs,bP (by omega) o.fd.2 (MB _ _),bs];have K:FV r.ek.d6.d4.length r.sr.d4 r.kl.d4 m.d7.d4 (Gl h.d6.d4.length (dS r h m).d4) (Ld h.d6 r.sr m.d7).d4.length=some (cS r h m).d4:=
  XC s.AbN.1 (fun x z=>by rw[Il];obtain⟨i,b,e,rfl⟩:=BZ z;exact(y.m.node i b e).1) (by omega) (Int.ofNat_le.2 o.ej.2)
 have N:FV r.ek.d6.d5.length r.sr.d5 r.kl.d5 m.d7.d5 (Gl h.d6.d5.length (dS r h m).d5) (Ld h.d6 r.sr m.d7).d5.length=some (cS r h m).d5:=
  XC s.AbT.1 (fun x z=>by rw[Il];obtain⟨i,b,e,rfl⟩:=BZ z;exact y.m.edge i b e) (by omega) (Int.ofNat_le.2 o.fd.2)
 rw [K,bs,N,bs];have O:=mO (M:=m) s.grow o (Qg _ _ _ _ _) (fun i b e=>aW s.AbN.1 s.AbN.2.1 b e) (fun i b e=>aW s.AbT.1 s.AbT.2.1 b e);change ((Ko t (Ai.mk r m h (AG.mk (d6.mk [] []) []) (Gq h (dS r h m)) (cS r h m)) (dS r h m)).bind _)=_;rw[O,bs,pM s.put,bs];exact bE fun H=>by rw[a6 H]
variable{inj:Bool}
theorem fU(hf:Au t){p:ec}{c:ea}(b:C7 c<=40)(e:St t p c h m inj=0):LD t c h m inj=some (Lp t p c h m inj):=by
 obtain ⟨hv,hh,f,j⟩:=U7 hf b e
 grind [LD,Lp,wS,Ca,nf,eo,jB]
theorem ZU(hf:Au t)(fr:Ez r)(G:C7 r.ea<=40)(h:AG)(m:AJ):H2 t r h m=some (Cf t r h m):=by
 unfold H2 Nu Cf;rw[fc hf fr,bs,ZN hf,bs];by_cases b:¬GF t r=0
 .rw[a6 (by simp[b]),bs,a6 (by simp[b]),a6 b]
 have b:=Classical.not_not.1 b;rw[ae (by simp[b]),bs,ae (show¬GF t r≠0 by simp[b])];refine Dt fun y=>?_;unfold Kh;rw[WK hf,bs];by_cases e:¬Fr t r.f0.d6 h.d6 m.d7 r.le=0
 .rw[a6 (by simp[e]),bs,a6 (by simp),a6 e]
 have e:=Classical.not_not.1 e;rw[ae (by simp[e]),mf hf,bs,ae (show¬Fr t r.f0.d6 h.d6 m.d7 r.le≠0 by simp[e])];by_cases f:¬(E0 t r.f0 h m.d7).2=0
 .rw[a6 (by simp[f]),bs,a6 (by simp[f]),a6 f]
 have f:=Classical.not_not.1 f;rw[ae (by simp[f]),WI,bs,ae (show¬(E0 t r.f0 h m.d7).2≠0 by simp[f])];by_cases q:¬(E0 t r.f0 h m.d7).1=m.gn
 .rw[a6 (by simp[q]),bs,a6 (by simp),a6 q]
 have q:=Classical.not_not.1 q;rw[ae (by simp[q]),ae (show¬¬(E0 t r.f0 h m.d7).1=m.gn by simp[q])];rw[pv hf e,bs,ae (by simp),pZ fr.hV,bs];by_cases j:¬(MP (RQ r.f0.d6 h.d6 m.d7) h.d6 r.sr m.d7).2=0
 .rw[a6 (by simp[j]),bs,a6 (by simp[j]),a6 j]
 have j:=Classical.not_not.1 j;rw[ae (by simp[j]),ae (show¬(MP (RQ r.f0.d6 h.d6 m.d7) h.d6 r.sr m.d7).2≠0 by simp[j])];have w:=V2 b y e f q;obtain⟨_,_,_,D⟩:=U7 hf G w;obtain⟨co,J⟩:=V3 j;rw[fU hf G w,bs,J,FO,bs,bs];by_cases o:¬(Lp t r.f0 r.ea h m r.le).2=0
 .rw[ae (show¬((decide ((Lp t r.f0 r.ea h m r.le).2=0)&&!(Lp t r.f0 r.ea h m r.le).1)=true)by simp[o]),a6 (by simp[o]),a6 o]
 have o:=Classical.not_not.1 o;rw[ae (show¬(Lp t r.f0 r.ea h m r.le).2≠0 by simp[o])];cases N:(Lp t r.f0 r.ea h m r.le).1 with
 |false=>rw[a6 (show(decide ((Lp t r.f0 r.ea h m r.le).2=0)&&!false)=true by simp[o]),a6 (by simp),a6 rfl]|true=>
 rw [ae (show¬(decide ((Lp t r.f0 r.ea h m r.le).2=0)&&!true)=true by simp),ae (by simp[o]),ae (by simp)];have s:H6 t r h m:=⟨hf,fr,b,y,D,co⟩;have u:=s.rem;have O:=s.hh.g.ej;have P:=s.hh.g.fd;have l1:=s.left.1;have l2:=s.left.2;have Q:=s.ro.left.ej;have S:=s.ro.left.fd;unfold Lb KI;simp only[];rw[aB hf y s.part u,bs,ZJ (by omega) u.ej.2 ((MB _ _).imp fun h=>by omega),bs,bs,ZJ (by omega) u.fd.2 ((MB _ _).imp fun h=>by omega),bs,bs,bs];simp only[];rw[Vj (by omega) (fun x z=>by rw[Il];obtain⟨i,E,F,rfl⟩:=BZ z;exact(D.m.node i E F).1),bs];rw[Vj (by omega) (fun x z=>by rw[Il];obtain⟨i,E,F,rfl⟩:=BZ z;exact D.m.edge i E F),bs];have H:Ey r.sr.d4 r.kl.d4 r.ek.d6.d4.length (m.d7.d4.map (AA (Gl h.d6.d4.length (dS r h m).d4))) (Ld h.d6 r.sr m.d7).d4.length=some (cS r h m).d4:=
  XJ s.AbN.1 (by omega) (Int.ofNat_le.2 u.ej.2)
 have I:Ey r.sr.d5 r.kl.d5 r.ek.d6.d5.length (m.d7.d5.map (AA (Gl h.d6.d5.length (dS r h m).d5))) (Ld h.d6 r.sr m.d7).d5.length=some (cS r h m).d5:=
  XJ s.AbT.1 (by omega) (Int.ofNat_le.2 u.fd.2)
 rw [H,bs,I,bs];rw[fR (XQ u),bs];change ((Kg t r (Bw h (dS r h m)) (cS r h m)).bind _)=_;rw[pk s.grow (XQ u),bs];change ((MA t r (CR t r (Bw h (dS r h m)) (cS r h m)) (cS r h m) m.gn).bind _)=_;rw[tO s.put,bs];exact bE fun K=>rfl
end Go.Sf.Sc
namespace Go.Sf.Sc
open Go Go.Sf
instance:Inhabited em:=⟨u7⟩
instance:Inhabited Ai:=⟨zG⟩
structure wL(rules:List em):Prop where
 len:rules.length<=12
 each:∀r∈rules,Ez r/\C7 r.ea<=40
structure rC(h:AG)(s:Ai):Prop where
 Aas:s.tc.d4.length=h.d6.d4.length
 Aaz:s.tc.d5.length=h.d6.d5.length
 node:∀x∈s.tc.d4,-1<=x/\x<s.q0.d6.d4.length
 edge:∀x∈s.tc.d5,-1<=x/\x<s.q0.d6.d5.length
 sm:MG s.q0
variable{t:AC}{x:AG}{L:BJ}
theorem fL(h:(Hu t x L).2=0):Hu t x L=(⟨x.d6,L.foldl CN x.hT⟩,0)/\L.any (NF t x)=false:=by
 unfold Hu at h|-
 grind
structure MH(t:AC)(r:em)(h:AG)(m:AJ):Prop where
 f:H6 t r h m
 sat:Lp t r.f0 r.ea h m r.le=(true,0)
 solve:E0 t r.f0 h m.d7=(m.gn,0)
 chk:Fr t r.f0.d6 h.d6 m.d7 r.le=0
 put:(Hu t (CR t r (Bw h (dS r h m)) (cS r h m)) (B2 r (cS r h m) m.gn)).2=0
 few:(CR t r (Bw h (dS r h m)) (cS r h m)).d6.d4.length<=40/\(CR t r (Bw h (dS r h m)) (cS r h m)).d6.d5.length<=80
def Sd(t:AC)(r:em)(h:AG)(m:AJ):AG:=⟨(CR t r (Bw h (dS r h m)) (cS r h m)).d6,(B2 r (cS r h m) m.gn).foldl CN (CR t r (Bw h (dS r h m)) (cS r h m)).hT⟩
def Vt(t:AC)(r:em)(h:AG)(m:AJ):Ai:=Ai.mk r m h (Sd t r h m) (Gq h (dS r h m)) (cS r h m)
variable{r:em}{h:AG}{m:AJ}
theorem Q3(hf:Au t)(fr:Ez r)(F:C7 r.ea<=40)(e:(Cf t r h m).2=0):MH t r h m/\Cf t r h m=(Vt t r h m,0):=by
 unfold Cf at e|-;split at e
 .rename_i f;exact absurd e f
 rename_i f;rw[ae f];split at e
 .rename_i j;exact absurd e j
 rename_i j;rw[ae j];split at e
 .cases e
 rename_i y;rw[ae y];split at e
 .rename_i o;exact absurd e o
 rename_i o;rw[ae o];split at e
 .cases e
 rename_i z;rw[ae z];split at e
 .rename_i u;exact absurd e u
 rename_i u;rw[ae u];split at e
 .rename_i w;exact absurd e w
 rename_i w;rw[ae w];split at e
 .cases e
 rename_i D;rw[ae D];have f:=Classical.not_not.1 f;have j:=Classical.not_not.1 j;have y:=Classical.not_not.1 y;have o:=Classical.not_not.1 o;have z:=Classical.not_not.1 z;have u:=Classical.not_not.1 u;have w:=Classical.not_not.1 w;obtain⟨_,_,_,G⟩:=U7 hf F (V2 f j y o z);have s:H6 t r h m:=⟨hf,fr,f,j,G,(V3 u).1⟩;unfold Xq at e|-;split at e
 .rename_i q;exact absurd e q
 rename_i q;rw[ae q];have q:=Classical.not_not.1 q;obtain⟨E,H⟩:=fL q;split at e
 .cases e
 rename_i b;rw[ae b];rw[E]at b;refine⟨⟨s,?_,?_,y,q,?_⟩,?_⟩
 .exact Prod.ext (by simpa using D) w
 .exact Prod.ext z o
 .simp only[not_or,Nat.not_lt]at b;exact b
 .rw[E];rfl
theorem MH.trk(s:MH t r h m):rC h (Vt t r h m):=by
 have z:=s.f.rem;have b:=s.f.put;have D:((CR t r (Bw h (dS r h m)) (cS r h m)).d6.d4.length)=(dS r h m).d4.length+(Ht r).length:=by
  show (List.length (_++_))=_;rw[bk,ci];show((dS r h m).d4.map _).length+_=_;rw[ci];rfl
 have he:((CR t r (Bw h (dS r h m)) (cS r h m)).d6.d5.length)=(dS r h m).d5.length+(NI r).length:=by
  show (List.length (_++_))=_;rw[bk,ci];show((dS r h m).d5.map _).length+_=_;rw[ci];rfl
 have q:KT (Sd t r h m).hT (CR t r (Bw h (dS r h m)) (cS r h m)).hT:=Ye _ _;have w:(Sd t r h m).hT.length=(CR t r (Bw h (dS r h m)) (cS r h m)).d6.d4.length:=by
  have:=congrArg List.length q;rw[ci,ci]at this;rw[this,b.vlen]
 refine ⟨Il _ _,Il _ _,fun x j=>?_,fun x j=>?_,⟨?_,?_,?_,fun v hv=>?_⟩⟩
 .obtain⟨i,hi,rfl⟩:=List.mem_map.1 j;have:=L3 (dS r h m).d4 i;have y:(Vt t r h m).q0.d6.d4.length=(CR t r (Bw h (dS r h m)) (cS r h m)).d6.d4.length:=rfl
  grind
 .obtain⟨i,hi,rfl⟩:=List.mem_map.1 j;have:=L3 (dS r h m).d5 i;have y:(Vt t r h m).q0.d6.d5.length=(CR t r (Bw h (dS r h m)) (cS r h m)).d6.d5.length:=rfl
  grind
 .have:=s.few.1;show(CR t r (Bw h (dS r h m)) (cS r h m)).d6.d4.length<=1000;omega
 .have:=s.few.2;show(CR t r (Bw h (dS r h m)) (cS r h m)).d6.d5.length<=1000;omega
 .have:=s.few.1;show(Sd t r h m).hT.length<=1000;omega
 .have u:v.length∈(Sd t r h m).hT.map List.length:=List.mem_map.2 ⟨v,hv,rfl⟩;rw[q,s.f.rows]at u;obtain⟨n,o,e⟩:=List.mem_map.1 u;have:=GA b.hf (Int.le_refl _) (Cd b.hv).par (b.kind n o).2;omega
end Go.Sf.Sc
namespace Go.Sf.Sc
open Go Go.Sf
structure InM(m:d7)(g:d6):Prop where
 Aas:m.d4.length<=1000
 Aaz:m.d5.length<=1000
 node:∀x∈m.d4,-1<=x/\x<g.d4.length
 edge:∀x∈m.d5,-1<=x/\x<g.d5.length
structure nq(m:AJ):Prop where
 ej:m.d7.d4.length<=1000
 fd:m.d7.d5.length<=1000
 vars:m.gn.length<=1000
variable{t:AC}{r:em}{h:AG}{m:AJ}
theorem MH.small(s:MH t r h m):nq m:=by
 have e:=s.f.left;have b:=s.f.ro.left;have j:=s.f.at_.len;have o:=s.f.at_.q.vars;have:=b.ej;have:=b.fd;exact⟨by omega,by omega,by omega⟩
end Go.Sf.Sc
namespace Go.Sf.Sc
open Go Go.Sf
end Go.Sf.Sc
namespace Go.Sf.Sc
open Go Go.Sf
end Go.Sf.Sc
namespace Go.Sf.Sc
open Go Go.Sf
end Go.Sf.Sc
namespace Go.Sf.Sc
open Go Go.Sf
variable{r:em}
theorem Zd(b:(Bq r).Sm):(AH r.ea).Sm:=by
 have e:TV.Sms [_,_,_,_,_,_,_,_,_,_,_,_,_,_,_,_,_,_,_,_,_,_,_,_,_]:=b;obtain⟨_,_,_,_,_,_,_,_,_,_,_,q,u,w,y,_,f,j,c3,o,c5,c6,c7,c8,c9,_⟩:=e;exact⟨f,j,c3,o,c5,c6,c7,c8,c9,trivial⟩
variable{t:AC}
theorem mE(hf:Au t)(st:(AO t).Sm)(e:(Bq r).Sm)(h:AG):∃b,H3 t r h=some b/\(b=true->Ez r/\C7 r.ea<=40):=by
 obtain ⟨f,j,_⟩:=Sz st;obtain⟨o,q,u⟩:=iK e;obtain⟨w,y,z⟩:=fW hf st r.f0 (Zd e) h;unfold H3
 grind
variable{h:AG}
theorem eP:∃b,Hf h=some b/\(b=true->MG h):=by
 unfold Hf Hb;rw[bs];by_cases f:((!((decide ((h.d6.d4.length:Int)<=45))&&(decide ((h.d6.d5.length:Int)<=90))))||(decide (45<(h.hT.length:Int))))=true
 .rw[a6 f];exact⟨false,rfl,fun h=>by cases h⟩
 rw [ae f,BE (fun i=>decide (12<((AA h.hT i).length:Int))) false]
 .cases e:ns (fun i=>decide (12<((AA h.hT i).length:Int))) 0 h.hT.length with
  |true=>exact⟨false,rfl,fun h=>by cases h⟩
  |false=>
   refine ⟨true,rfl,fun _=>?_⟩;rw[Bp]at e;simp only[Bool.or_eq_true,Bool.not_eq_true',Bool.and_eq_false_iff,decide_eq_false_iff_not,x7,not_or]at f;refine⟨by omega,by omega,by omega,fun v hv=>?_⟩
   grind [BZ]
 .intro i j o _;rw[AD j o,bs,FO]
end Go.Sf.Sc
namespace Go.Sf.Sc
open Go Go.Sf
def Pv(x:Int):Prop:=-9223372036854775808<=x/\x<=9223372036854775807
theorem nd{x y:Int}(b:Pv x)(e:Pv y):Al (x-y)=0↔x=y:=by
 unfold Pv at b e;rw[Zq];split<;>omega
theorem fP{l m:Fp}(w:l.length<=1000)(y:m.length<=1000)(q:∀x∈l,Pv x)(u:∀x∈m,Pv x):∃v,JN l m=some v/\(v=0↔l=m):=by
 unfold JN;rw[PP (fun i=>if AA l i=AA m i then none else some (.inr (Al (AA l i-AA m i)))) (b:=min (l.length:Int) m.length) (by omega)]
 .cases e:fst (fun i=>if AA l i=AA m i then(none:Option (Int ⊕ Int))else some (.inr (Al (AA l i-AA m i)))) 0 (min (l.length:Int) m.length)with
  |none=>
   refine ⟨_,rfl,?_⟩;rw[Ap (by omega) (by omega)];rw[CH]at e;constructor
   .intro h;refine YH (by omega) fun i f o=>?_;have:=e i f (by omega)
    grind
   .rintro rfl;omega
  |some x=>
   obtain ⟨i,f,o,j,_⟩:=C4 e;by_cases h:AA l i=AA m i
   .rw[a6 h]at j;cases j
   .rw[ae h]at j;cases j;refine⟨_,rfl,?_⟩;rw[nd (q _ (AI f (by omega))) (u _ (AI f (by omega)))];exact⟨fun k=>absurd k h,fun k=>by rw[k]⟩
 .intro i f o _;rw[a6 (by simp;omega),AD f (by omega),bs,AD f (by omega),bs];by_cases h:AA l i=AA m i
  .rw[ae (by simp[h]),a6 h,Ap (by omega) (by omega)];rfl
  .rw[a6 (by simp[h]),ae h,bs,bs];rfl
 .rw[ae (by simp;omega)]
structure Px(h:AG):Prop where
 s:MG h
 w:∀v∈h.hT,∀x∈v,Pv x
theorem il(l m:List Fp):Ek l m slices_Equal_int=some (decide (l=m)):=by
 unfold Ek;simp only[Nk,bs];exact NN l m
theorem mW(a b:AG):Ly a b=some (decide (a=b)):=by
 unfold Ly;rw[Nk,bs,ZG,bs,il,bs];obtain⟨⟨n,e⟩,v⟩:=a;obtain⟨⟨q,u⟩,w⟩:=b;by_cases f:n=q<;>by_cases j:e=u<;>by_cases o:v=w<;>simp[f,j,o]
theorem bZ{a b:AG}(q:Px a)(u:Px b):Kd a b=some (decide (a=b)):=by
 unfold Kd;rw[bY,bs];obtain⟨g,v⟩:=a;obtain⟨G,e⟩:=b;simp only[];by_cases j:g=G
 .subst j;by_cases o:v.length=e.length
  .rw[ae (by simp[o]),BE (fun i=>!decide (AA v i=AA e i)) false]
   .have:=WR (fun x y:Fp=>decide (x=y)) (l:=v) (m:=e) (fun _ _ _ _=>decide_eq_true_iff) o;by_cases h:v=e
    .rw[this.2 h,ae (by simp),Bc];simp[h]
    .cases F:ns (fun i=>!decide (AA v i=AA e i)) 0 v.length
     .exact absurd (this.1 F) h
     .rw[a6 rfl,TY];simp[h]
   .intro i f z _;have D:=AI f z;have E:=AI (l:=e) f (by omega);obtain⟨x,H,I⟩:=fP (q.s.rows _ D) (u.s.rows _ E) (q.w _ D) (u.w _ E);rw[AD f z,bs,AD f (by omega),bs,H,bs];by_cases h:AA v i=AA e i<;>simp[h,I]
  .rw[a6 (by simp;omega)];have:v≠e:=fun h=>o (by rw[h]);simp[this]
 .rw[a6 (by simp[j])];simp[j]
theorem fG(a b:ec):FA a b=some (decide (a=b)):=by
 unfold FA Oo;simp only[Nk,ZG,fM,fN,bs];obtain⟨⟨n,e⟩,s,v,t⟩:=a;obtain⟨⟨w,y⟩,s',z,D⟩:=b;by_cases f:n=w<;>by_cases j:e=y<;>by_cases o:s=s'<;>by_cases q:v=z<;>by_cases u:t=D<;>simp[f,j,o,q,u]
noncomputable def We(a b:em):Bool:=@decide (a=b) (Classical.propDecidable _)
noncomputable def ac(a b:Ai):Bool:=@decide (a=b) (Classical.propDecidable _)
theorem ah{a b:em}:We a b=true↔a=b:=by unfold We;exact@decide_eq_true_iff _ (Classical.propDecidable _)
theorem V6{a b:Ai}:ac a b=true↔a=b:=by unfold ac;exact@decide_eq_true_iff _ (Classical.propDecidable _)
theorem bc(a b:em):We a b=(decide (a.og=b.og)&&decide (a.le=b.le)&&decide (a.f0=b.f0)&&decide (a.ek=b.ek)&&decide (a.sr=b.sr)&&decide (a.kl=b.kl)&&R3 a.ea b.ea):=by
 rw [Bool.eq_iff_iff,ah];simp only[pc,x7,V5];obtain⟨n,l,r,k,i,j,c⟩:=a;obtain⟨e,f,o,q,u,w,c'⟩:=b;simp only[em.mk.injEq]
 grind
theorem bg(a b:Ai):ac a b=(We a.em b.em&&decide (a.kp=b.kp)&&decide (a.o3=b.o3)&&decide (a.q0=b.q0)&&decide (a.tc=b.tc)&&decide (a.pq=b.pq)):=by
 rw [Bool.eq_iff_iff,V6];simp only[pc,x7,ah];obtain⟨r,m,j,o,t,c⟩:=a;obtain⟨q,m',e,f,u,c'⟩:=b;simp only[Ai.mk.injEq]
 grind
theorem YF{b c:Bool}{o:K1}(h:o=some c):(if b=true then o else some false)=some (b&&c):=by
 subst h;cases b<;>rfl
theorem mX(a b:em):OP a b=some (We a b):=by
 unfold OP;simp only[fG,Nk,T4,mV,bs];rw[bc];obtain⟨n,l,r,⟨E,F⟩,i,j,c⟩:=a;obtain⟨G,H,I,⟨e,f⟩,J,K,c'⟩:=b;simp only[];by_cases o:n=G<;>by_cases q:j=K<;>by_cases u:l=H<;>by_cases w:r=I<;>simp[o,q,u,w];by_cases y:E=e<;>by_cases z:F=f<;>by_cases D:i=J<;>simp[y,z,D]
theorem fg(a b:em):Mm a b=some (We a b):=by
 unfold Mm Oy;simp only[ba,WJ,WM,mw,bs];rw[bc];obtain⟨n,l,r,⟨E,F⟩,i,j,c⟩:=a;obtain⟨G,H,I,⟨e,f⟩,J,K,c'⟩:=b;simp only[];by_cases o:n=G<;>by_cases q:j=K<;>by_cases u:l=H<;>by_cases w:r=I<;>simp[o,q,u,w];by_cases y:E=e<;>by_cases z:F=f<;>by_cases D:i=J<;>simp[y,z,D]
theorem ip(a b:AJ):Ia a b=some (decide (a=b)):=by
 unfold Ia;simp only[T4,Nk,bs];obtain⟨m,v⟩:=a;obtain⟨m',j⟩:=b;by_cases e:m=m'<;>by_cases f:v=j<;>simp[e,f]
theorem jE(a b:AJ):Hg a b=some (decide (a=b)):=by
 unfold Hg;simp only[WJ,bs];obtain⟨⟨m1,u⟩,v⟩:=a;obtain⟨⟨e,f⟩,w⟩:=b;by_cases j:m1=e<;>by_cases o:u=f<;>by_cases q:v=w<;>simp[j,q,o]
theorem mY(a b:Ai):OT a b=some (ac a b):=by
 unfold OT;simp only[mX,ip,mW,T4,bs,bg];cases We a.em b.em<;>by_cases e:a.kp=b.kp<;>by_cases f:a.o3=b.o3<;>by_cases j:a.q0=b.q0<;>by_cases o:a.tc=b.tc<;>simp[e,f,j,o]
structure Q2(s:Ai):Prop where
 b:Px s.o3
 a:Px s.q0
theorem WN{a b:Ai}(e:Q2 a)(f:Q2 b):I3 a b=some (ac a b):=by
 unfold I3;simp only[fg,jE,bZ e.b f.b,bZ e.a f.a,WM,bs,bg];cases We a.em b.em<;>by_cases j:a.kp=b.kp<;>by_cases o:a.o3=b.o3<;>by_cases q:a.q0=b.q0<;>by_cases u:a.tc=b.tc<;>simp[j,o,q,u]
variable{V:List Fp}
theorem Wn(h:∀v∈V,∀x∈v,Pv x):∀{L:BJ},(∀p∈L,Pv p.2)->∀{V:List Fp},(∀v∈V,∀x∈v,Pv x)->∀v∈L.foldl CN V,∀x∈v,Pv x
 |[],_,_,k=>k|p::L,e,V,k=>by
  rw [List.foldl_cons];refine Wn h (L:=L) (fun q f=>e q (List.mem_cons_of_mem _ f)) ?_;unfold CN;split
  .intro v hv x b;obtain⟨n,j,rfl⟩:=List.mem_iff_getElem.1 hv;rw[List.getElem_modify]at b;split at b
   .rcases List.mem_or_eq_of_mem_set b with b|rfl
    .exact k _ (List.getElem_mem _) _ b
    .exact e p (List.mem_cons_self ..)
   .exact k _ (List.getElem_mem _) _ b
  .exact k
variable{t:AC}{h:AG}
theorem gl(hf:Au t)(e:(Iw t h).2=0):Px h:=by
 obtain ⟨hv,hh⟩:=Ts hf e;refine⟨VN hf hv hh,fun v b x f=>?_⟩;obtain⟨i,j,o,rfl⟩:=BZ b;have:=hh.low i j (by have:=hh.len;omega) x f;unfold Pv;omega
variable{r:em}{m:AJ}
theorem Xc(s:MH t r h m):Q2 (Vt t r h m):=by
 have hh:=s.f.hh;have u:=gl s.f.hf s.f.he;have y:=s.f.put;have q:=Cd s.f.hv;refine⟨u,s.trk.sm,?_⟩;have z:=(fL s.put).2;refine Wn (V:=[]) (by simp) (fun p b=>?_) ?_
 .obtain⟨sl,F,rfl⟩:=List.mem_map.1 b;have k:=y.slot sl F;rw[List.any_eq_false]at z;have e:=z _ b;unfold NF at e;have D:=y.kind _ (AI k.2.2.1.1 k.2.2.1.2);have G:=Q8 s.f.hf q D.1 D.2 _ (AI k.2.2.2.1 k.2.2.2.2);simp only[Bool.or_eq_true,x7,not_or]at e;unfold Pv;unfold O5 at e|-;dsimp only at e|-;omega
 .intro v hv x o;unfold CR Ln at hv;rcases List.mem_append.1 hv with hv|hv
  .unfold Bw at hv;obtain⟨i,hi,rfl⟩:=List.mem_map.1 hv;have:=s.f.rem.ej.1 i hi;exact u.w _ (AI this.1 (by have:=hh.len;omega)) x o
  .obtain⟨i,hi,rfl⟩:=List.mem_map.1 hv;unfold cf at o;obtain⟨a,E,rfl⟩:=List.mem_map.1 o;have j:=GO hi;have k:=s.f.grow.kind _ (AI (l:=r.ek.d6.d4) j.1 j.2);have H:=Q8 s.f.hf q k.1 k.2 a E;have e:=eD s.f.hf q k.1 k.2 a E;unfold Pv;omega
end Go.Sf.Sc
namespace Go.Sf.Sc
open Go Go.Sf
noncomputable def RB(t:AC)(st:Ai):Bool:=decide ((Cf t st.em st.o3 st.kp).2=0)&&ac (Cf t st.em st.o3 st.kp).1 st
variable{t:AC}{st:Ai}
theorem ii(hf:Au t)(fr:Ez st.em)(b:C7 st.em.ea<=40):M0 t st=some (RB t st):=by
 unfold M0 RB;rw[ZC hf fr b,bs];by_cases e:(Cf t st.em st.o3 st.kp).2=0
 .rw[a6 (by simp[e]),mY,bs,bs];simp[e]
 .rw[ae (by simp[e]),bs];simp[e]
theorem i7(hf:Au t)(fr:Ez st.em)(f:C7 st.em.ea<=40)(w:Px st.q0):LJ t st=some (RB t st):=by
 unfold LJ RB;rw[ZU hf fr f,bs];by_cases e:(Cf t st.em st.o3 st.kp).2=0
 .obtain⟨s,o⟩:=Q3 hf fr f e;have j:=Xc s;rw[a6 (by simp[e]),o,WN j (b:=st) ⟨j.b,w⟩,bs,bs];simp
 .rw[ae (by simp[e]),bs];simp[e]
theorem Rc{l a:Fp}(h:∀x∈a,0<=x/\x<l.length)(f:a.length<=1000):DF l a=some (a.map (AA l)):=by
 unfold DF;rw[Pf (F:=AA l) fun i s b e j=>?_]
 .rfl
 .have:=h _ (AI b e);rw[AD b e,bs,AD this.1 this.2,bs,AT (by simp;unfold AW;omega),bs]
theorem QL{l a:Fp}(h:∀x∈a,0<=x/\x<l.length)(f:a.length<=1000):Eu a l=some (a.map (AA l)):=by
 unfold Eu;rw[Pf (F:=AA l) fun i s b e j=>?_]
 .rfl
 .have:=h _ (AI b e);rw[AD b e,bs,AD this.1 this.2,bs,AT (by simp;unfold AW;omega),bs]
variable{s:Ao}{g:d6}
theorem ZB(h:Sorted s g):FW g s=some ⟨Ef g (A7 s g 1),(A7 s g 1).d4,(A7 s g 1).d5⟩:=WG h 1
variable{r:em}
theorem QT(b:Ez r)(ho:Sb t r):Ez (C5 s r 1)/\C7 (C5 s r 1).ea<=40:=by
 have e:=ho.left.ej;have f:=ho.left.fd;have j:=ho.right.ej;have o:=ho.right.fd;have a1:=DJ (GD s r.f0.d6 1) r.f0.d6.d4.length;have q:=DJ (Jj s r.f0.d6 1) r.f0.d6.d5.length;have u:=DJ (GD s r.ek.d6 1) r.ek.d6.d4.length;have w:=DJ (Jj s r.ek.d6 1) r.ek.d6.d5.length;refine⟨⟨b.name,⟨?_,?_,Nat.zero_le _,Nat.zero_le _⟩,⟨?_,?_,Nat.zero_le _,Nat.zero_le _⟩,⟨?_,?_⟩,⟨?_,?_⟩,RH 1⟩,by show C7 (Qi 1)<=40;decide⟩<;>
  simp only[C5,Ny,Ef,A7,FH,J8,ci]<;>omega
theorem TX(ho:Sb t r)(l:Fp):(r.kl.d4++Eh s r l).length<=r.ek.d6.d4.length/\(r.kl.d5++I4 s r l).length<=r.ek.d6.d5.length:=by
 have u:=ho.mor;constructor
 .have j:(r.kl.d4++Eh s r l).Nodup:=XA ho.inj.1 (XU _ _) fun x e f=>by
   have:=(PH.1 e).2;unfold J7 at this;simp[Bk.2 f]at this
  have:=XB (b:=Ft r.ek.d6.d4.length) j fun x e=>by
   have:0<=x/\x<r.ek.d6.d4.length:=by
    rcases List.mem_append.1 e with e|e
    .obtain⟨i,o,q,rfl⟩:=BZ e;exact(u.node i o q).1
    .exact H4 e
   unfold Ft;exact List.mem_map.2 ⟨x.toNat,List.mem_range.2 (by omega),Int.toNat_of_nonneg this.1⟩
  rw [J8]at this;omega
 .have j:(r.kl.d5++I4 s r l).Nodup:=XA ho.inj.2 (XU _ _) fun x e f=>by
   have:=(PH.1 e).2;unfold J6 at this;simp[Bk.2 f]at this
  have:=XB (b:=Ft r.ek.d6.d5.length) j fun x e=>by
   have:0<=x/\x<r.ek.d6.d5.length:=by
    rcases List.mem_append.1 e with e|e
    .obtain⟨i,o,q,rfl⟩:=BZ e;exact(u.edge i o q).1
    .exact H4 e
   unfold Ft;exact List.mem_map.2 ⟨x.toNat,List.mem_range.2 (by omega),Int.toNat_of_nonneg this.1⟩
  rw [J8]at this;omega
theorem Rs(b:Ez r)(h:EA t s r=0)(l:Fp):Ez (Cj s r l)/\C7 (Cj s r l).ea<=40:=by
 obtain ⟨_,ho,l1,l2⟩:=Ks h;have f:=ho.left.ej;have j:=ho.left.fd;have o:=ho.right.ej;have q:=ho.right.fd;obtain⟨a1,e⟩:=TX (s:=s) ho l;rw[bk]at a1 e;refine⟨⟨b.name,⟨?_,?_,Nat.zero_le _,Nat.zero_le _⟩,⟨?_,?_,Nat.zero_le _,Nat.zero_le _⟩,⟨?_,?_⟩,⟨?_,?_⟩,RH 1⟩,by show C7 (Qi 1)<=40;decide⟩<;>
  simp only[Cj,Ny,M3,J8,ci,bk]<;>omega
def My(s:Ao)(st:Ai):AJ:=⟨⟨(A7 s st.em.f0.d6 1).d4.map (AA st.kp.d7.d4),(A7 s st.em.f0.d6 1).d5.map (AA st.kp.d7.d5)⟩,[]⟩
def gI(s:Ao)(st f:Ai):AJ:=
 ⟨⟨st.kp.d7.d4.map (AA f.tc.d4)++(Eh s st.em [1]).map fun i=>AA f.pq.d4 (Br (A7 s st.em.ek.d6 1).d4 i),
  st.kp.d7.d5.map (AA f.tc.d5)++(I4 s st.em [1]).map fun i=>AA f.pq.d5 (Br (A7 s st.em.ek.d6 1).d5 i)⟩,[]⟩
noncomputable def Pr(t:AC)(s:Ao)(st:Ai):Ai×Ai×Int:=
 if EA t s st.em≠0 then(zG,zG,EA t s st.em)else
 if RB t st=false then(zG,zG,1)else
 if (Cf t (C5 s st.em 1) st.o3 (My s st)).2≠0 then(zG,zG,(Cf t (C5 s st.em 1) st.o3 (My s st)).2)else
 if (Cf t (Cj s st.em [1]) (Cf t (C5 s st.em 1) st.o3 (My s st)).1.q0 (gI s st (Cf t (C5 s st.em 1) st.o3 (My s st)).1)).2≠0 then
  (zG,zG,(Cf t (Cj s st.em [1]) (Cf t (C5 s st.em 1) st.o3 (My s st)).1.q0 (gI s st (Cf t (C5 s st.em 1) st.o3 (My s st)).1)).2)else
 ((Cf t (C5 s st.em 1) st.o3 (My s st)).1,(Cf t (Cj s st.em [1]) (Cf t (C5 s st.em 1) st.o3 (My s st)).1.q0 (gI s st (Cf t (C5 s st.em 1) st.o3 (My s st)).1)).1,0)
structure wG(t:AC)(s:Ao)(st f:Ai):Prop where
 left:st.kp.d7.d4.length=st.em.f0.d6.d4.length/\st.kp.d7.d5.length=st.em.f0.d6.d5.length
 tn:∀x∈st.kp.d7.d4,0<=x/\x<f.tc.d4.length
 te:∀x∈st.kp.d7.d5,0<=x/\x<f.tc.d5.length
 cn:∀i∈Eh s st.em [1],0<=Br (A7 s st.em.ek.d6 1).d4 i/\Br (A7 s st.em.ek.d6 1).d4 i<f.pq.d4.length
 ce:∀i∈I4 s st.em [1],0<=Br (A7 s st.em.ek.d6 1).d5 i/\Br (A7 s st.em.ek.d6 1).d5 i<f.pq.d5.length
theorem aV(hf:Au t)(fr:Ez st.em)(b:C7 st.em.ea<=40)(h:RB t st=true):MH t st.em st.o3 st.kp:=by
 unfold RB at h;simp only[pc,x7]at h;exact(Q3 hf fr b h.1).1
theorem bf(k:MH t st.em st.o3 st.kp):(∀x∈(A7 s st.em.f0.d6 1).d4,0<=x/\x<st.kp.d7.d4.length)/\∀x∈(A7 s st.em.f0.d6 1).d5,0<=x/\x<st.kp.d7.d5.length:=by
 obtain ⟨e,j⟩:=k.f.left;exact⟨fun x b=>by rw[e];exact H4 b,fun x b=>by rw[j];exact H4 b⟩
theorem lO(hf:Au t)(fr:Ez st.em)(D:EA t s st.em=0)(k:MH t st.em st.o3 st.kp)(e:(Cf t (C5 s st.em 1) st.o3 (My s st)).2=0):
  wG t s st (Cf t (C5 s st.em 1) st.o3 (My s st)).1:=by
 obtain ⟨_,ho,l1,l2⟩:=Ks D;obtain⟨H,I⟩:=QT (s:=s) fr ho;obtain⟨J,K⟩:=Q3 hf H I e;rw[K];have y:=J.trk;have z:=k.f.at_.m;refine⟨k.f.left,fun x o=>?_,fun x o=>?_,fun i hi=>?_,fun i hi=>?_⟩
 .rw[y.Aas];obtain⟨j,u,w,rfl⟩:=BZ o;exact(z.node j u w).1
 .rw[y.Aaz];obtain⟨j,u,w,rfl⟩:=BZ o;exact z.edge j u w
 .have b:=PH.1 hi;have q:i∈(A7 s st.em.ek.d6 1).d4:=by
   refine PH.2 ⟨b.1,?_⟩;have:=b.2;unfold J7 at this;simp only[pc,Bk,List.mem_singleton]at this;unfold GD;simpa using this.2
  refine ⟨Iy.2 q,?_⟩;have E:=(L3 (A7 s st.em.ek.d6 1).d4 i).2;have F:(cS (C5 s st.em 1) st.o3 (My s st)).d4.length=(C5 s st.em 1).ek.d6.d4.length:=Qg ..;have G:(C5 s st.em 1).ek.d6.d4.length=(A7 s st.em.ek.d6 1).d4.length:=by simp[C5,Ny,Ef]
  show _<((cS (C5 s st.em 1) st.o3 (My s st)).d4.length:Int);omega
 .have b:=PH.1 hi;have q:i∈(A7 s st.em.ek.d6 1).d5:=by
   refine PH.2 ⟨b.1,?_⟩;have:=b.2;unfold J6 at this;simp only[pc,Bk,List.mem_singleton]at this;unfold Jj;simpa using this.2
  refine ⟨Iy.2 q,?_⟩;have E:=(L3 (A7 s st.em.ek.d6 1).d5 i).2;have F:(cS (C5 s st.em 1) st.o3 (My s st)).d5.length=(C5 s st.em 1).ek.d6.d5.length:=Qg ..;have G:(C5 s st.em 1).ek.d6.d5.length=(A7 s st.em.ek.d6 1).d5.length:=by simp[C5,Ny,Ef]
  show _<((cS (C5 s st.em 1) st.o3 (My s st)).d5.length:Int);omega
theorem iq(hf:Au t)(fr:Ez st.em)(u:C7 st.em.ea<=40):Gm t s st=some (Pr t s st):=by
 unfold Gm Ep EN Pr;rw[bR hf fr 1,bs,bs];by_cases b:EA t s st.em=0
 .have e0:(if EA t s st.em≠0 then(X5,EA t s st.em)else(C5 s st.em 1,0))=(C5 s st.em 1,0):=ae (fun h=>h b);rw[e0];dsimp only;rw[ae (show¬(!decide ((0:Int)=0))=true by simp),ii hf fr u,bs,ae (show¬EA t s st.em≠0 from fun h=>h b)];cases D:RB t st with
  |false=>rfl|true=>
  rw [ae (by decide),ae (by decide)];obtain⟨y,ho,l1,l2⟩:=Ks b;have k:=aV hf fr u D;have w:=Pq (s:=s) ho.left 1;have sl:=bf (s:=s) k;rw[ZB (GP y ho.left ho.Abs),bs,ZB (GP y ho.right ho.AaF),bs];obtain⟨J,K⟩:=QT (s:=s) fr ho;obtain⟨N,O⟩:=Rs fr b [1];have E:(AJ.mk (d7.mk ((A7 s st.em.f0.d6 1).d4.map (AA st.kp.d7.d4)) ((A7 s st.em.f0.d6 1).d5.map (AA st.kp.d7.d5))) [])=My s st:=rfl;rw[Rc sl.1 w.1,bs,Rc sl.2 w.2,bs,E,ZC hf J K,bs];refine Dt fun z=>?_;have o:=lO hf fr b k z;have m1:=k.small;have:=m1.ej;have:=m1.fd;have F:(if EA t s st.em≠0 then(X5,(⟨[],[]⟩:Ak),EA t s st.em)else(Cj s st.em [1],TZ s st.em [1],0))=(Cj s st.em [1],TZ s st.em [1],0):=ae (fun h=>h b);rw[bQ hf fr [1],bs,F,bs];dsimp only;rw[ae (show¬(!decide ((0:Int)=0))=true by simp),Rc o.tn (by omega),bs,Rc o.te (by omega),bs];obtain⟨P,Q⟩:=TX (s:=s) ho [1];rw[bk]at P Q;have S:=ho.right.ej;have U:=ho.right.fd;generalize (Cf t (C5 s st.em 1) st.o3 (My s st)).1=f at o|-;have G:slc (Cj s st.em [1]).kl.d4 (st.em.f0.d6.d4.length:Int) ((Cj s st.em [1]).kl.d4.length:Int)=some (Eh s st.em [1]):=by
   rw [show(Cj s st.em [1]).kl.d4=st.em.kl.d4++Eh s st.em [1]from rfl,Zh (by omega) (by rw[bk];omega),Int.toNat_natCast,<-l1,List.drop_left]
  have H:slc (Cj s st.em [1]).kl.d5 (st.em.f0.d6.d5.length:Int) ((Cj s st.em [1]).kl.d5.length:Int)=some (I4 s st.em [1]):=by
   rw [show(Cj s st.em [1]).kl.d5=st.em.kl.d5++I4 s st.em [1]from rfl,Zh (by omega) (by rw[bk];omega),Int.toNat_natCast,<-l2,List.drop_left]
  rw [G,bs,BM (fun i=>AJ.mk ⟨st.kp.d7.d4.map (AA f.tc.d4)++((Eh s st.em [1]).take i.toNat).map fun i=>AA f.pq.d4 (Br (A7 s st.em.ek.d6 1).d4 i),st.kp.d7.d5.map (AA f.tc.d5)⟩ []) (by omega) (by simp),bs,H,bs,
   BM (fun i=>AJ.mk ⟨st.kp.d7.d4.map (AA f.tc.d4)++(Eh s st.em [1]).map fun i=>AA f.pq.d4 (Br (A7 s st.em.ek.d6 1).d4 i),st.kp.d7.d5.map (AA f.tc.d5)++((I4 s st.em [1]).take i.toNat).map fun i=>AA f.pq.d5 (Br (A7 s st.em.ek.d6 1).d5 i)⟩ []) (by omega) (by simp),bs]
  .rw[Int.toNat_natCast,List.take_length];have I:(AJ.mk ⟨st.kp.d7.d4.map (AA f.tc.d4)++(Eh s st.em [1]).map fun i=>AA f.pq.d4 (Br (A7 s st.em.ek.d6 1).d4 i),st.kp.d7.d5.map (AA f.tc.d5)++(I4 s st.em [1]).map fun i=>AA f.pq.d5 (Br (A7 s st.em.ek.d6 1).d5 i)⟩ [])=gI s st f:=rfl;rw[I,ZC hf N O,bs];exact Dt fun _=>rfl
  .intro i e j;have q:=o.ce _ (AI e j);rw[AD e j,bs,PG,bs,AD q.1 q.2,bs,AT (by simp;unfold AW;omega),bs,CJ e j,List.map_append,<-d3];rfl
  .intro i e j;have q:=o.cn _ (AI e j);rw[AD e j,bs,PG,bs,AD q.1 q.2,bs,AT (by simp;unfold AW;omega),bs,CJ e j,List.map_append,<-d3];rfl
 .rw[a6 b,a6 (by simp[b]),a6 b]
theorem jF(hf:Au t)(fr:Ez st.em)(z:C7 st.em.ea<=40)(w:Px st.q0):LL t s st=some (Pr t s st):=by
 unfold LL Pr;rw[p6 hf fr,bs];by_cases e:EA t s st.em=0
 .rw[ae (by simp[e]),i7 hf fr z w,bs,ae (show¬EA t s st.em≠0 from fun h=>h e)];cases H:RB t st with
  |false=>rfl|true=>
  rw [ae (by decide),ae (by decide)];obtain⟨E,ho,l1,l2⟩:=Ks e;have k:=aV hf fr z H;have D:=Pq (s:=s) ho.left 1;have sl:=bf (s:=s) k;rw[Vk (GP E ho.left ho.Abs),bs];obtain⟨O,P⟩:=QT (s:=s) fr ho;obtain⟨Q,S⟩:=Rs fr e [1];have I:(AJ.mk (d7.mk ((A7 s st.em.f0.d6 1).d4.map (AA st.kp.d7.d4)) ((A7 s st.em.f0.d6 1).d5.map (AA st.kp.d7.d5))) [])=My s st:=rfl;rw[QL sl.1 D.1,bs,QL sl.2 D.2,bs,nA e,bs,I,ZU hf O P,bs];refine Dt fun F=>?_;have o:=lO hf fr e k F;have m1:=k.small;have:=m1.ej;have:=m1.fd;rw[Vk (GP E ho.right ho.AaF),bs,m9 e [1] true false vc,bs,QL o.tn (by omega),bs,QL o.te (by omega),bs];obtain⟨U,W⟩:=TX (s:=s) ho [1];rw[bk]at U W;have X:=ho.right.ej;have Y:=ho.right.fd;generalize (Cf t (C5 s st.em 1) st.o3 (My s st)).1=f at o|-;have J:(Cj s st.em [1]).f0.d6.d4.length=st.em.f0.d6.d4.length+(Eh s st.em [1]).length:=by simp[Cj,Ny]
  have K:(Cj s st.em [1]).f0.d6.d5.length=st.em.f0.d6.d5.length+(I4 s st.em [1]).length:=by simp[Cj,Ny]
  simp only[];rw[R0 (fun i=>AJ.mk ⟨st.kp.d7.d4.map (AA f.tc.d4)++((Eh s st.em [1]).take (i-st.em.f0.d6.d4.length).toNat).map fun i=>AA f.pq.d4 (Br (A7 s st.em.ek.d6 1).d4 i),st.kp.d7.d5.map (AA f.tc.d5)⟩ []) (b:=((Cj s st.em [1]).f0.d6.d4.length:Int)) (by omega) (by simp),Bc,
   R0 (fun i=>AJ.mk ⟨st.kp.d7.d4.map (AA f.tc.d4)++(Eh s st.em [1]).map fun i=>AA f.pq.d4 (Br (A7 s st.em.ek.d6 1).d4 i),st.kp.d7.d5.map (AA f.tc.d5)++((I4 s st.em [1]).take (i-st.em.f0.d6.d5.length).toNat).map fun i=>AA f.pq.d5 (Br (A7 s st.em.ek.d6 1).d5 i)⟩ []) (b:=((Cj s st.em [1]).f0.d6.d5.length:Int)) (by omega) (by rw[J];simp[show((st.em.f0.d6.d4.length:Int)+(Eh s st.em [1]).length-st.em.f0.d6.d4.length).toNat=(Eh s st.em [1]).length by omega]),Bc]
  .have N:(AJ.mk ⟨st.kp.d7.d4.map (AA f.tc.d4)++(Eh s st.em [1]).map fun i=>AA f.pq.d4 (Br (A7 s st.em.ek.d6 1).d4 i),st.kp.d7.d5.map (AA f.tc.d5)++((I4 s st.em [1]).take (((Cj s st.em [1]).f0.d6.d5.length:Int)-st.em.f0.d6.d5.length).toNat).map fun i=>AA f.pq.d5 (Br (A7 s st.em.ek.d6 1).d5 i)⟩ [])=gI s st f:=by
    rw [K,show(((st.em.f0.d6.d5.length+(I4 s st.em [1]).length:Nat):Int)-st.em.f0.d6.d5.length).toNat=(I4 s st.em [1]).length by omega,List.take_length];rfl
   simp only[N];rw[ZU hf Q S,bs];exact Dt fun _=>rfl
  .intro i G u;have j:0<=i-st.em.f0.d6.d5.length/\i-st.em.f0.d6.d5.length<(I4 s st.em [1]).length:=by omega
   have q:=o.ce _ (AI j.1 j.2);have y:idx (Cj s st.em [1]).kl.d5 i=some (AA (I4 s st.em [1]) (i-st.em.f0.d6.d5.length)):=by
    rw [show(Cj s st.em [1]).kl.d5=st.em.kl.d5++I4 s st.em [1]from rfl,AD (by omega) (by rw[bk];omega),Lv,ae (by omega)];unfold AA;rw[show i.toNat-st.em.kl.d5.length=(i-st.em.f0.d6.d5.length).toNat by omega]
   rw [a6 (by simpa using u),y,bs,Mf,bs,AD q.1 q.2,bs,AT (by simp;unfold AW;omega),bs,Ap (by omega) (by omega),
    show i+1-(st.em.f0.d6.d5.length:Int)=(i-st.em.f0.d6.d5.length)+1 by omega,CJ j.1 j.2,List.map_append,<-d3]
   rfl
  .rw[ae (by simp)]
  .intro i G u;have j:0<=i-st.em.f0.d6.d4.length/\i-st.em.f0.d6.d4.length<(Eh s st.em [1]).length:=by omega
   have q:=o.cn _ (AI j.1 j.2);have y:idx (Cj s st.em [1]).kl.d4 i=some (AA (Eh s st.em [1]) (i-st.em.f0.d6.d4.length)):=by
    rw [show(Cj s st.em [1]).kl.d4=st.em.kl.d4++Eh s st.em [1]from rfl,AD (by omega) (by rw[bk];omega),Lv,ae (by omega)];unfold AA;rw[show i.toNat-st.em.kl.d4.length=(i-st.em.f0.d6.d4.length).toNat by omega]
   rw [a6 (by simpa using u),y,bs,Mf,bs,AD q.1 q.2,bs,AT (by simp;unfold AW;omega),bs,Ap (by omega) (by omega),
    show i+1-(st.em.f0.d6.d4.length:Int)=(i-st.em.f0.d6.d4.length)+1 by omega,CJ j.1 j.2,List.map_append,<-d3]
   rfl
  .rw[ae (by simp)]
 .rw[a6 (by simp[e]),a6 e]
end Go.Sf.Sc
namespace Go.Sf.Sc
open Go Go.Sf
variable{α:Type}
theorem BS{e:α->TV}:∀{l:List α},TV.up (l.map e)->∀x∈l,(e x).WF
 |y::l,h,x,b=>by
  rcases List.mem_cons.1 b with rfl|b
  .exact h.1
  .exact BS h.2 x b
theorem dh{s:Ai}(J:(C1 s).Sm)(K:(C1 s).WF):(Bq s.em).Sm/\∀v∈s.q0.hT,∀x∈v,Pv x:=by
 have O:TV.Sms [_,_,_,_,_,_,_,_,_,_,_,_,_,_,_,_,_,_,_,_,_,_,_,_,_,_,_,_,_,_,_,_,_,_,_,_,_,_]:=J;obtain⟨a1,U,W,X,Y,Z,a7,a8,a9,b,e,f,j,o,q,u,w,y,z,D,E,F,G,H,I,a26,a27,a28,a29,a30,a31,a32,a33,a34,a35,a36,a37,a38,_⟩:=O;have w':TV.up [_,_,_,_,_,_,_,_,_,_,_,_,_,_,_,_,_,_,_,_,_,_,_,_,_,_,_,_,_,_,_,_,_,_,_,_,_,_]:=K;refine⟨⟨a1,U,W,X,Y,Z,a7,a8,a9,b,e,f,j,o,q,u,w,y,z,D,E,F,G,H,I,trivial⟩,fun v hv x N=>?_⟩;have P:=w'.2.2.2.2.2.2.2.2.2.2.2.2.2.2.2.2.2.2.2.2.2.2.2.2.2.2.2.2.2.2.2.2.2.1;have Q:(TV.list 1 (s.q0.hT.map (eL 1 eI))).WF:=P;have S:(TV.list 1 (v.map eI)).WF:=BS Q.2 v hv;exact BS S.2 x N
variable{t:AC}
theorem cd(st:(AO t).Sm){s:Ai}(o:(C1 s).Sm)(q:(C1 s).WF):∃b,Hh t s=some b/\(b=true->Au t/\Ez s.em/\C7 s.em.ea<=40/\Px s.q0):=by
 obtain ⟨y,w⟩:=dh o q;obtain⟨z,D,j⟩:=Sz st;obtain⟨E,F,G⟩:=eP (h:=s.q0);have u:∃b,H3 t s.em s.o3=some b/\(b=true->Au t/\Ez s.em/\C7 s.em.ea<=40):=by
  cases z with
  |false=>exact⟨false,by unfold H3;rw[D];rfl,fun h=>by cases h⟩
  |true=>
   obtain ⟨b,e,f⟩:=mE (j rfl) st y s.o3;exact⟨b,e,fun h=>⟨j rfl,f h⟩⟩
 obtain ⟨H,I,J⟩:=u;unfold Hh Kf Hc;rw[I,bs];cases H with
 |false=>exact⟨false,rfl,fun h=>by cases h⟩
 |true=>
 obtain ⟨K,N,O⟩:=J rfl;rw[a6 rfl,F,bs,bs];cases E with
 |false=>exact⟨false,rfl,fun h=>by cases h⟩
 |true=>
 refine ⟨_,by simp only[bs,if_true];rw[YF rfl,bs,YF rfl,bs],fun _=>⟨K,N,O,G rfl,w⟩⟩
theorem OV:Q2 zG:=⟨⟨⟨by simp,by simp,by simp,by simp⟩,by simp⟩,⟨⟨by simp,by simp,by simp,by simp⟩,by simp⟩⟩
variable{r:em}{h:AG}{m:AJ}
theorem Vw(hf:Au t)(fr:Ez r)(b:C7 r.ea<=40)(e:(Cf t r h m).2=0):Q2 (Cf t r h m).1:=by
 obtain ⟨s,f⟩:=Q3 hf fr b e;rw[f];exact Xc s
variable{s:Ao}{st:Ai}
theorem dV(hf:Au t)(fr:Ez st.em):Q2 (Pr t s st).1/\Q2 (Pr t s st).2.1:=by
 unfold Pr;split
 .exact⟨OV,OV⟩
 rename_i b;have b:=Classical.not_not.1 b;split
 .exact⟨OV,OV⟩
 split
 .exact⟨OV,OV⟩
 rename_i e;split
 .exact⟨OV,OV⟩
 rename_i f;obtain⟨_,ho,_⟩:=Ks b;obtain⟨j,o⟩:=QT (s:=s) fr ho;obtain⟨q,u⟩:=Rs fr b [1];exact⟨Vw hf j o (Classical.not_not.1 e),Vw hf q u (Classical.not_not.1 f)⟩
theorem Rf(c:Ou)(st:Ai)(y:(Kz c).Sm)(z:(C1 st).Sm)(D:(C1 st).WF):Fc c st=some true:=by
 have j:TV.Sms [_,_,_,_]:=y;obtain⟨b,e,f⟩:=cd (t:=c.T) ⟨j.1,j.2.1,trivial⟩ z D;unfold Fc QO;rw[rg,bs,ae (by decide),bs,bs];by_cases h:(!decide (Al ((c.S.d4.length:Int)+(c.S.d5.length:Int))<=50))=true
 .rw[a6 h,bs,a6 rfl];rfl
 rw [ae h,e,bs,bs];cases b with
 |false=>rfl|true=>
 obtain ⟨hf,fr,o,w⟩:=f rfl;obtain⟨q,u⟩:=dV hf (s:=c.S) fr;rw[ae (by decide),iq hf fr o,bs,jF hf fr o w,bs,a6 (by simp),WN q q,bs,bs,V6.2 rfl,a6 rfl,WN u u,bs,V6.2 rfl];rfl
end Go.Sf.Sc
