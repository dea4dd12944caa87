/- Plain lemmas: what the functions of the program and of the reference compute. -/
import Derived.Test.YtbgedoajacpdbaaGreatDoorSfF
import Derived.Test.YtbgedoajacpdbaaGreatDoorP46
set_option linter.all false
set_option maxRecDepth 100000
namespace Go.Sf.Sc
open Go Go.Sf
def QX(p g:d5)(m:d6):d5:=⟨m.d3.map (AA g.d3),p.d4⟩
variable{l:Fp}
theorem OE{n x:Int}:x∈BC l n↔(0<=x/\x<n)/\x∉l:=by
 unfold BC;rw[List.mem_filter];constructor
 .grind[Int.natCast_nonneg,CI]
 .rintro⟨⟨e,f⟩,j⟩;refine⟨List.mem_map.2 ⟨x.toNat,List.mem_range.2 (by omega),Int.toNat_of_nonneg e⟩,?_⟩
  grind [hasB,CI]
theorem LV(l:Fp)(n:Int):(BC l n).Pairwise (·<·):=by grind[BC,List.pairwise_lt_range.imp]
def EI(images jj:Fp):Fp:=(BC jj images.length).map (AA images)
theorem Rz{images jj:Fp}{x:Int}:x∈EI images jj↔∃i:Int,(0<=i/\i<images.length)/\i∉jj/\AA images i=x:=by grind[EI,OE]
def AaH(images jj:Fp):Bool:=og (fun a=>og (fun b=>decide (AA images a=AA images b)&&(!hasB jj a||!hasB jj b)) (a+1) images.length) 0 images.length
variable{a b:Int}
theorem aO{images jj:Fp}(h:AaH images jj=false)(a0:0<=a)(a1:a<images.length)(s:0<=b)(q:b<images.length)(u:a∈jj)(e:AA images a=AA images b):b∈jj:=by
 unfold AaH at h;rw[Bi]at h;by_cases j:a=b
 .exact j▸u
 by_cases w:a<b
 .have f:=h a a0 a1;rw[Bi]at f;have o:=f b (by omega) q;rw[decide_eq_true e,Bool.true_and,Bool.or_eq_false_iff]at o
  grind [CI]
 .have f:=h b s q;rw[Bi]at f;have o:=f a (by omega) a1;rw[decide_eq_true e.symm,Bool.true_and,Bool.or_eq_false_iff]at o
  grind [CI]
variable{i:Int}
theorem R1{images jj:Fp}(h:AaH images jj=false)(e:0<=i)(f:i<images.length)(j:i∈jj):AA images i∉EI images jj:=by grind[Rz,aO]
def Lo(g:d5)(jj:BB)(m:d6)(i:Int):Bool:=
 !hasB m.d4 i&&(hasB (EI m.d3 jj.d3) (AA g.d4 i).ne||hasB (EI m.d3 jj.d3) (AA g.d4 i).To)
def K6(g:d5)(jj:BB)(m:d6):BB:=⟨BC (EI m.d3 jj.d3) g.d3.length,BC (EI m.d4 jj.d4) g.d4.length⟩
def Lk(l g:d5)(jj:BB)(m:d6):BB×Int:=
 if IK l g m≠0 then(⟨[],[]⟩,IK l g m)else if EJ l jj≠0 then(⟨[],[]⟩,EJ l jj)else
 if (AaH m.d3 jj.d3||AaH m.d4 jj.d4)=true then(⟨[],[]⟩,15)else
 if og (Lo g jj m) 0 g.d4.length=true then(⟨[],[]⟩,14)else(K6 g jj m,0)
structure Wm(l g:d5)(jj:BB)(m:d6):Prop where
 mor:WT l g m
 part:Wp l jj
 ei:AaH m.d3 jj.d3=false
 em:AaH m.d4 jj.d4=false
 free:∀i:Int,0<=i->i<g.d4.length->Lo g jj m i=false
variable{g:d5}
theorem fg{p:BB}(h:EJ g p=0):Bl g=0/\M3 g p=0:=by grind[EJ]
theorem Uy{l g:d5}{jj:BB}{m:d6}(h:(Lk l g jj m).2=0):Wm l g jj m/\Lk l g jj m=(K6 g jj m,0):=by
 unfold Lk at h|-;split at h
 .grind
 rename_i f;rw[az f];split at h
 .grind
 rename_i j;rw[az j];split at h
 .grind
 rename_i e;rw[az e];split at h
 .grind
 rename_i o;rw[az o];simp only[Bool.or_eq_true,not_or,Bool.not_eq_true]at e;exact⟨⟨SY (Classical.not_not.1 f),Ub (fg (Classical.not_not.1 j)).2,e.1,e.2,Bi.1 (by simpa using o)⟩,rfl⟩
theorem dY{l g:d5}{jj:BB}{m:d6}(h:Wm l g jj m):M3 g (K6 g jj m)=0:=by
 have u:=h.mor;have G:=u.gb;have H:∀x∈(K6 g jj m).d3,0<=x/\x<g.d3.length:=fun x o=>Hc o;have I:∀x∈(K6 g jj m).d4,0<=x/\x<g.d4.length:=fun x o=>Hc o;have j:∀{l:Fp}{n:Int},(∀x∈l,0<=x/\x<n)->l.Pairwise (·<·)->OZ l n=0:=by
  grind [OZ,B0,AK,Kc]
 unfold M3;rw[j H (LV _ _),j I (LV _ _)];simp only[ne_eq,not_true_eq_false,if_false];rw[B0.2 fun i E F=>?_]
 .rfl
 have o:=AK E F;generalize AA (K6 g jj m).d4 i=x at o;have f:(0<=x/\x<g.d4.length)/\x∉EI m.d4 jj.d4:=OE.1 o;have hf:=G.fit _ (AK f.1.1 f.1.2);have w:(AA g.d4 x).ne∉EI m.d3 jj.d3/\(AA g.d4 x).To∉EI m.d3 jj.d3:=by
  by_cases hi:x∈m.d4
  .obtain⟨k,z,D,e⟩:=BV hi;have q:k∈jj.d4:=by
    by_cases q:k∈jj.d4
    .exact q
    .exact absurd (Rz.2 ⟨k,⟨z,D⟩,q,e⟩) f.2
   have ends:=h.part.ends k q;have he:=u.edge k z D;rw[e]at he;have y:=h.part.ei.1;have J:=y _ ends.1;have K:=y _ ends.2;have O:=u.AaG;rw[<-he.2.2.1,<-he.2.2.2];exact⟨R1 h.ei J.1 (by omega) ends.1,R1 h.ei K.1 (by omega) ends.2⟩
  .have hd:=h.free x f.1.1 f.1.2;unfold Lo at hd;rw[show hasB m.d4 x=false from by cases N:hasB m.d4 x with|false=>rfl|true=>exact absurd (CI.1 N) hi,Bool.not_false,Bool.true_and,Bool.or_eq_false_iff]at hd;exact⟨fun s=>by rw[CI.2 s]at hd;exact absurd hd.1 (by decide),fun s=>by rw[CI.2 s]at hd;exact absurd hd.2 (by decide)⟩
 grind [hasB,K6,AA,CI,OE]
def Gu(n:Nat)(l:Fp):Fp:=(Ao n).map (Cx l)
variable{v:Int}
theorem U7(h:v∉l):Cx l v=-1:=by grind[Cx,B0,AK]
theorem OM(l:Fp)(v:Int):-1<=Cx l v/\Cx l v<l.length:=by
 by_cases h:v∈l
 .have:=II h;omega
 .rw[U7 h];omega
theorem Lw:0<=Cx l v↔v∈l:=by grind[U7,II]
theorem Ig(n:Nat)(l:Fp):(Gu n l).length=n:=by unfold Gu;rw[ca,A3]
variable{n:Nat}
theorem Te(e:0<=i)(f:i<n):AA (Gu n l) i=Cx l i:=HD _ e f
theorem XU(h:l.Nodup)(e:0<=i)(f:i<l.length):Cx l (AA l i)=i:=by
 have j:=II (AK e f)
 grind [Cx,AA,Kc]
def Ob(jj into at_:Fp)(n i:Int):Int:=if hasB into i=true then AA at_ (AA jj (Cx into i))else n+(BC into i).length
def Rj(count:Nat)(jj into at_:Fp)(n:Int):Fp:=(Ao count).map (Ob jj into at_ n)
theorem Ux(count:Nat)(jj into at_:Fp)(n:Int):(Rj count jj into at_ n).length=count:=by unfold Rj;rw[ca,A3]
variable{count:Nat}
theorem b8{jj into at_:Fp}{n i:Int}(e:0<=i)(f:i<count):AA (Rj count jj into at_ n) i=Ob jj into at_ n i:=HD _ e f
theorem JN(h:0<=i):((BC l i).length:Int)<=i:=by grind[PJ]
end Go.Sf.Sc
namespace Go.Sf.Sc
open Go Go.Sf
variable{α:Type}
theorem Tc{P:List α->Prop}(e:P [])(f:∀l a,P l->P (l++[a]))(l:List α):P l:=by
 have:∀l:List α,P l.reverse:=by
  intro l
  induction l with
  |nil=>exact e|cons a l j=>rw[List.reverse_cons];exact f _ _ j
 rw [<-List.reverse_reverse l];exact this _
def Nz(L:BD):BD:=L.foldl (fun m p=>m.set p.1 p.2) []
theorem Xc(L:BD)(p:(Int×Int)×Int):Nz (L++[p])=(Nz L).set p.1 p.2:=by
 unfold Nz
 grind
def P2(L:BD):Prop:=∀p∈L,∀q∈L,p.1=q.1->p.2=q.2
variable{k:Int×Int}{v:Int}
theorem R2:∀{m:BD},m.look k=some v->(k,v)∈m
 |[],h=>by cases h
 |p::r,h=>by
  unfold BD.look at h;split at h
  .grind
  .exact List.mem_cons_of_mem _ (R2 h)
theorem Vo:∀{m:BD},m.look k=none->∀p∈m,p.1≠k
 |[],_,p,f=>by cases f
 |q::r,h,p,f=>by
  unfold BD.look at h;split at h
  .cases h
  .rename_i e;rcases List.mem_cons.1 f with rfl|f
   .exact e
   .exact Vo h p f
theorem Zj:∀{m:BD},m.look k=none->m.set k v=m++[(k,v)]
 |[],_=>rfl|p::r,h=>by
  unfold BD.look at h;unfold BD.set;split at h
  .cases h
  .rename_i e;rw[az e,Zj h];rfl
theorem YI:∀{m:BD},m.look k=some v->m.set k v=m
 |[],h=>by cases h
 |p::r,h=>by
  unfold BD.look at h;unfold BD.set;split at h
  .grind
  .rename_i e;rw[az e,YI h]
theorem aJ(V:List Fp)(p:(Int×Int)×Int):CR (CR V p) p=CR V p:=by
 unfold CR;split
 .apply List.ext_getElem?
  grind [Option.map_eq_map,Option.map_map,List.set_set]
 .rfl
theorem fD{m:BD}(hd:m.Dis){p:(Int×Int)×Int}(e:p∈m)(V:List Fp):CR (m.foldl CR V) p=m.foldl CR V:=by
 have f:m.Perm (m.erase p++[p]):=(List.perm_cons_erase e).trans (List.perm_append_singleton p (m.erase p)).symm;rw[<-T4 hd f V,List.foldl_append];exact aJ _ _
theorem P2.sub{L M:BD}(h:P2 L)(e:∀p∈M,p∈L):P2 M:=fun p f q j=>h p (e p f) q (e q j)
theorem ZO(L:BD):P2 L->(Nz L).Dis/\(∀p,p∈Nz L↔p∈L)/\∀V,(Nz L).foldl CR V=L.foldl CR V:=by
 refine Tc (P:=fun L=>P2 L->(Nz L).Dis/\(∀p,p∈Nz L↔p∈L)/\∀V,(Nz L).foldl CR V=L.foldl CR V) (fun _=>⟨List.Pairwise.nil,fun p=>Iff.rfl,fun V=>rfl⟩) (fun L p f e=>?_) L;obtain⟨w,u,y⟩:=f (e.sub fun q j=>List.mem_append_left _ j);rw[Xc];cases o:(Nz L).look p.1 with
 |none=>
  grind [Zj,BD.set_dis]
 |some v=>
  have s:=R2 o;have hv:v=p.2:=e (p.1,v) (List.mem_append_left _ ((u _).1 s)) p (by simp) rfl
  grind [YI,List.mem_singleton,fD]
def N5(L:BD):Bool:=og (fun i=>og (fun k=>decide ((AA L k).1=(AA L i).1)&&!decide ((AA L k).2=(AA L i).2)) 0 i) 0 L.length
variable{L:BD}
theorem VQ(h:N5 L=false):P2 L:=by
 intro p o q s e;obtain⟨a,a0,a1,rfl⟩:=BV o;obtain⟨b,u,w,rfl⟩:=BV s;unfold N5 at h;rw[Bi]at h;by_cases f:a=b
 .rw[f]
 by_cases y:a<b
 .have j:=h b u w;rw[Bi]at j
  grind
 .have j:=h a a0 a1;rw[Bi]at j
  grind
theorem XN(L:BD)(V:List Fp):J7 (L.foldl CR V) V:=by
 induction L generalizing V with
 |nil=>rfl|cons p r e=>exact(e (CR V p)).trans (VU V p)
end Go.Sf.Sc
namespace Go.Sf.Sc
open Go Go.Sf
variable{t:AC}{p g:d5}{inj:Bool}
theorem Rg{m:d6}(h:F5 t p g m inj=0):FW t p g=0/\NI t p g m=0/\VL t p g m:=by grind[W6,F5]
theorem b7{m:d6}(h:F5 t p g m inj=0):F5 t p g m false=0:=by grind[Rg,F5]
variable{α:Type}
theorem PO[Inhabited α](l:List α):(Ao l.length).map (AA l)=l:=by grind[bw,ca,A3,HD]
variable{β:Type}
theorem cU[Inhabited α](l:List α)(f:α->β):l.map f=(Ao l.length).map fun j=>f (AA l j):=by
 rw [show(fun j=>f (AA l j))=f∘AA l from rfl,<-List.map_map,PO]
theorem nM(hf:At t){m:d6}(h:F5 t p g m inj=0):D3 t p g m=some (QX p g m,0):=by
 obtain ⟨e,q,f⟩:=Rg h;obtain⟨_,j,w,_⟩:=Mh e;unfold D3;rw[VE hf,bs,az (by simp[e]),Vt hf e,bs,az (by simp[q])];unfold DJ;have:=j.ei;have:=j.em;have:=f.AaG;rw[BO (by unfold Ad;omega),bs];rw[QS (by omega) (fun x o=>?_) p.d4]
 .rfl
 .obtain⟨i,s,u,rfl⟩:=BV o;exact(f.node i s u).1
theorem nk(hf:At t){m:d6}(h:F5 t p g m inj=0):IQ t p g m=some (QX p g m,0):=by
 obtain ⟨w,z,s⟩:=Rg h;obtain⟨_,u,D,_⟩:=Mh w;have:=u.ei;have:=u.em;have y:=s.AaG;unfold IQ IN;rw[VF hf,bs,az (by simp[b7 h]),BO (by unfold Ad;omega),bs,BO (by unfold Ad;omega),bs,bs];rw[Ot (fun i=>d5.mk ((Ao p.d3.length).map fun j=>if j<i then AA g.d3 (AA m.d3 j)else AA p.d3 j) p.d4) (a:=0) (b:=p.d3.length) (by omega)]
 .have e:((Ao p.d3.length).map fun j=>if j<(p.d3.length:Int)then AA g.d3 (AA m.d3 j)else AA p.d3 j)=m.d3.map (AA g.d3):=by
   grind [cU,CG]
  rw [e];rfl
 .congr 1;rw[<-PO p.d3,ca,A3]
  grind [CG,PO]
 .intro i f o;have q:=s.node i f (by omega);simp only[ca,A3];rw[ae (by simpa using o),AD f (by omega),bs,AD q.1.1 q.1.2,bs,AD f (by rw[ca,A3];exact o),bs,GY _ f,As (by omega) (by omega)]
  grind
 grind [ca,A3]
variable{n:Nat}
theorem LO{f:Int->List α->Option (List α)}(q:Int->Bool)(F:Int->α)(h:∀i s,0<=i->i<(n:Int)->s.length<=i.toNat->f i s=some (if q i=true then s++[F i]else s)):sr f 0 n []=some (((Ao n).filter q).map F):=by
 have e:∀k:Nat,(((Ao k).filter q).map F).length<=k:=fun k=>by
  rw [ca];exact Nat.le_trans (List.length_filter_le _ _) (by rw[A3];exact bk _)
 have:=Bk (f:=f) (s:=[]) (fun i=>((Ao i.toNat).filter q).map F) (a:=0) (b:=n) (by omega) rfl (fun i j o=>by
  grind [FV])
 grind
theorem XI{q:Int->Bool}{F:Int->α}:decide (0<((((Ao n).filter q).map F).length:Int))=og q 0 n:=by
 rw [Bool.eq_iff_iff,zzX,Dv,ca];constructor
 .intro h;have f:(Ao n).filter q≠[]:=fun e=>by rw[e]at h;simp at h
  obtain ⟨x,u⟩:=List.exists_mem_of_ne_nil _ f
  grind [EQ]
 .rintro⟨i,j,o,s⟩;have:i∈(Ao n).filter q:=List.mem_filter.2 ⟨EQ.2 ⟨j,o⟩,s⟩
  grind
theorem cp{x:Ba}(e:x.m.d3.length<=1000):C6 x=some (EI x.m.d3 x.jj.d3):=by
 unfold C6;rw[LO (fun i=>!hasB x.jj.d3 i) (AA x.m.d3)]
 .rfl
 grind [AD,KW,hasB,Af,Ad]
theorem TQ{images jj:Fp}(e:images.length<=1000):It images jj=some (EI images jj):=by
 unfold It;rw[LO (fun i=>!hasB jj i) (AA images)]
 .rfl
 grind [De,hasB,Mi,AD,Af,Ad]
theorem am{x:Ba}(e:x.m.d3.length<=1000)(he:x.g.d4.length<=1000):Cv x=some ((Ao x.g.d4.length).filter (Lo x.g x.jj x.m)):=by
 unfold Cv;rw[cp e,bs,LO (Lo x.g x.jj x.m) id]
 .rw[bs,List.map_id]
 .intro i s f j o;rw[AD f j,bs,KW,bs,KW,bs,KW,bs];unfold Lo;change (if(!hasB x.m.d4 i)=true then(if hasB (EI x.m.d3 x.jj.d3) (AA x.g.d4 i).ne=true then some true else some (hasB (EI x.m.d3 x.jj.d3) (AA x.g.d4 i).To)).bind _ else some false).bind _=_;cases hasB x.m.d4 i<;>cases hasB (EI x.m.d3 x.jj.d3) (AA x.g.d4 i).ne<;>cases hasB (EI x.m.d3 x.jj.d3) (AA x.g.d4 i).To<;>simp[Af (show s.length+[i].length<=Ad by simp;unfold Ad;omega)]
theorem ax{l g:d5}{jj:BB}{m:d6}(e:m.d3.length<=1000)(he:g.d4.length<=1000):IP l g jj m=some ((Ao g.d4.length).filter (Lo g jj m)):=by
 unfold IP;rw[TQ e,bs,LO (Lo g jj m) id]
 .rw[bs,List.map_id]
 .intro i s f j o;have hh:∀(l:Fp)(v:Int),De l v=some (hasB l v):=Mi;simp only[AD f j,bs,hh];unfold Lo;cases hasB m.d4 i<;>cases hasB (EI m.d3 jj.d3) (AA g.d4 i).ne<;>cases hasB (EI m.d3 jj.d3) (AA g.d4 i).To<;>simp[Af (show s.length+[i].length<=Ad by simp;unfold Ad;omega)]
variable{a i:Int}
theorem Ox{p:Int->Bool}(h:a<=i):og p a (i+1)=(og p a i||p i):=by
 rw [Bool.eq_iff_iff,Bool.or_eq_true,Dv,Dv]
 grind
theorem Ua{images jj:Fp}(I:images.length<=100){f:Int->Int->List F2->Option (List F2)}(hf:∀(i j:Int)s,0<=i->i<images.length->i<j->j<images.length->s.length<=20000->f i j s=some (if(decide (AA images i=AA images j)&&(!hasB jj i||!hasB jj j))=true then s++[F2.mk i j]else s)):
  ∃l,sr (fun(e:Int)(q:List F2)=>(sr (fun(o:Int)(s2:List F2)=>f e o s2) (Ae (e+1)) (images.length:Int) q).bind fun s2=>some s2) 0 (images.length:Int) []=some l/\l.length<=10000/\decide (0<l.length)=AaH images jj:=by
 have key:=QN (f:=fun(e:Int)(q:List F2)=>(sr (fun(o:Int)(s2:List F2)=>f e o s2) (Ae (e+1)) (images.length:Int) q).bind fun s2=>some s2) (s:=[])
  (fun i s=>(s.length:Int)<=100*i/\decide (0<s.length)=og (fun a=>og (fun b=>decide (AA images a=AA images b)&&(!hasB jj a||!hasB jj b)) (a+1) images.length) 0 i) (a:=0) (b:=images.length) (by omega)
  (by refine⟨by simp,?_⟩;rw[Bi.2 (fun i y z=>by omega)];rfl) (fun i s e D E=>by
   have u:=QN (f:=fun(o:Int)(s2:List F2)=>f i o s2) (s:=s)
    (fun j s'=>(s'.length:Int)<=100*i+(j-(i+1))/\decide (0<s'.length)=(decide (0<s.length)||og (fun b=>decide (AA images i=AA images b)&&(!hasB jj i||!hasB jj b)) (i+1) j)) (a:=i+1) (b:=images.length) (by omega)
    (by refine⟨by have:=E.1;omega,?_⟩;rw[Bi.2 (fun i y z=>by omega),Bool.or_false]) (fun j s' J F w=>by
     refine ⟨_,hf i j s' e D (by omega) F (by have:=w.1;omega),?_,?_⟩
     .grind
     .rw[Ox (by omega),<-Bool.or_assoc,<-w.2]
      grind)
   grind [As,Ox])
 obtain ⟨l,G,K,H⟩:=key;exact⟨l,G,by omega,H⟩
theorem ZW{images jj:Fp}(F:images.length<=100):∃l,FD images jj=some l/\l.length<=10000/\decide (0<l.length)=AaH images jj:=by
 unfold FD;obtain⟨l,K,N⟩:=Ua (jj:=jj) F (f:=fun e o s2=>
  (idx images e).bind fun q=>
  (idx images o).bind fun u=>
  (if(decide (q=u))=true then((slices_Contains_int jj e).bind fun w=>
  (if(!w)=true then some true else((slices_Contains_int jj o).bind fun y=>
  some (!y))).bind fun z=>
  some (z))else some false).bind fun D=>
  if D=true then
  (Ah s2 [F2.mk e o]).bind fun E=>
  some E
  else
  some s2) (fun i j s e G I H J=>by
   have hh:∀(l:Fp)(v:Int),slices_Contains_int l v=some (hasB l v):=KW;simp only[AD e G,AD (show 0<=j by omega) H,bs,hh]
   grind [AA,hasB,Af,Ad])
 grind
theorem Zg{images jj:Fp}(F:images.length<=100):∃l,FL images jj=some l/\l.length<=10000/\decide (0<l.length)=AaH images jj:=by
 unfold FL;obtain⟨l,K,N⟩:=Ua (jj:=jj) F (f:=fun e o s2=>
  (idx images e).bind fun q=>
  (idx images o).bind fun u=>
  (if(decide (q=u))=true then((De jj e).bind fun w=>
  (if(!w)=true then some true else((De jj o).bind fun y=>
  some (!y))).bind fun z=>
  some (z))else some false).bind fun D=>
  if D=true then
  (Ah s2 [F2.mk e o]).bind fun E=>
  some E
  else
  some s2) (fun i j s e G I H J=>by
   have hh:∀(l:Fp)(v:Int),De l v=some (hasB l v):=Mi;simp only[AD e G,AD (show 0<=j by omega) H,bs,hh]
   grind [AA,hasB,Af,Ad])
 grind
variable{l:Fp}
theorem X5(h:n<=1000):KH n l=some (BC l n):=by
 unfold KH;rw[SG (f:=De l) (by omega) (by omega) (fun i=>Mi l i)];rfl
theorem Xs{images jj:Fp}(y:n<=1000)(hi:∀x∈images,0<=x/\x<n):Fo n images jj=some (BC (EI images jj) n):=by
 unfold Fo IJ;rw[ae (by omega),bs];rw[Bk (fun i=>(Ao n).map fun k=>og (fun j=>!hasB jj j&&decide (AA images j=k)) 0 i) (by omega)]
 .rw[bs,ca,A3,LO (fun i=>!hasB (EI images jj) i) id]
  .rw[bs,List.map_id];rfl
  .intro i s f o E;rw[AD f (by rw[ca,A3];exact o),bs,HD _ f o];have e:og (fun j=>!hasB jj j&&decide (AA images j=i)) 0 images.length=hasB (EI images jj) i:=by
    rw [Bool.eq_iff_iff,Dv,CI,Rz];constructor
    .rintro⟨j,u,w,h⟩;rw[tg,zzX]at h
     grind [CI]
    .rintro⟨j,⟨u,w⟩,G,h⟩;refine⟨j,u,w,?_⟩;rw[tg,zzX]
     grind [hasB,CI]
   grind [hasB,EI,Af,Ad]
 .refine List.ext_getElem (by simp[A3]) (fun k z D=>?_)
  grind [Int.toNat_natCast,Bi]
 .intro i f o;have q:=hi _ (AK f o);have hh:∀(l:Fp)(v:Int),slices_Contains_int l v=some (hasB l v):=KW;rw[AD f o,bs,hh,bs];cases F:hasB jj i
  .rw[ae (by decide),AD q.1 (by rw[ca,A3];exact q.2),bs,GY _ q.1]
   grind [CG,Ox,AA]
  grind [CG,Ox]
theorem Zq{a b:Nat}(e:a<=10000)(f:b<=10000):decide (0<Ae ((a:Int)+(b:Int)))=(decide (0<a)||decide (0<b)):=by
 rw [As (by omega) (by omega),Bool.eq_iff_iff,Bool.or_eq_true]
 grind
theorem nG{l g:d5}{jj:BB}{m:d6}(y:PP jj):E3 l g jj m=some (Lk l g jj m):=by
 unfold E3 CL Lk;simp only[];rw[WZ,bs,ZX y,bs];by_cases j:¬IK l g m=0
 .grind
 have j:=Classical.not_not.1 j;rw[az (by simp[j]),bs,az (show¬IK l g m≠0 by simp[j])];refine Ee fun J=>?_;have f:=SY j;have a1:=f.ga.ei;have O:=f.ga.em;have P:=f.AaG;have Q:=f.AaP;have S:=f.gb.ei;have U:=f.gb.em;unfold DN;obtain⟨u,z,D,E⟩:=ZW (jj:=jj.d3) (images:=m.d3) (by omega);obtain⟨v,G,H,I⟩:=ZW (jj:=jj.d4) (images:=m.d4) (by omega);simp only[];rw[z,bs,G,bs,bs];simp only[];rw[Zq D H,E,I];refine W5 fun K=>?_;rw[am (by show m.d3.length<=1000;omega) (by show g.d4.length<=1000;omega),bs];have e:=XI (n:=g.d4.length) (q:=Lo g jj m) (F:=id);rw[List.map_id]at e;rw[e];refine W5 fun N=>?_;rw[Xs (by omega) (fun x o=>?_),bs,Xs (by omega) (fun x o=>?_),bs]
 .rfl
 .obtain⟨i,s,w,rfl⟩:=BV o;exact(f.edge i s w).1
 .obtain⟨i,s,w,rfl⟩:=BV o;exact(f.node i s w).1
theorem na{l g:d5}{jj:BB}{m:d6}(o:PP jj):Oj l g jj m=some (Lk l g jj m):=by
 unfold Oj NA Lk;rw[Wg,bs,VG o,bs];by_cases j:¬IK l g m=0
 .grind
 have j:=Classical.not_not.1 j;rw[az (by simp[j]),bs,az (show¬IK l g m≠0 by simp[j])];refine Ee fun G=>?_;have f:=SY j;have a1:=f.ga.ei;have J:=f.ga.em;have K:=f.AaG;have N:=f.AaP;have O:=f.gb.ei;have P:=f.gb.em;obtain⟨u,s,w,y⟩:=Zg (jj:=jj.d3) (images:=m.d3) (by omega);obtain⟨v,z,D,E⟩:=Zg (jj:=jj.d4) (images:=m.d4) (by omega);rw[s,bs,z,bs,Zq w D,y,E];refine W5 fun H=>?_;rw[ax (by omega) (by omega),bs];have e:=XI (n:=g.d4.length) (q:=Lo g jj m) (F:=id);rw[List.map_id]at e;rw[e];refine W5 fun I=>?_;rw[TQ (by omega),bs,X5 (by omega),bs,TQ (by omega),bs,X5 (by omega),bs];rfl
end Go.Sf.Sc
namespace Go.Sf.Sc
open Go Go.Sf
variable{α β:Type}
theorem QZ[Inhabited α]{l:List α}{F:α->β}{f:Int->List β->Option (List β)}(h:∀(i:Int)s,0<=i->i<l.length->s.length<=i.toNat->f i s=some (s++[F (AA l i)])):sr f 0 l.length []=some (l.map F):=by
 have:=Bk (f:=f) (s:=[]) (fun i=>(l.take i.toNat).map F) (a:=0) (b:=l.length) (by omega) (by simp) (fun i e j=>by
  grind [ca,c7,CD])
 rwa [Int.toNat_natCast,List.take_length]at this
variable{n:Nat}{l:Fp}
theorem ZY(F:n<=1000)(w:l.length<=1000)(o:l.Pairwise (·<·)):KN n l=some (Gu n l):=by
 unfold KN IJ;rw[ae (by omega),bs,Int.toNat_natCast,List.length_replicate,Bk (fun i=>(Ao n).map fun j=>if j<i then Cx l j else 0) (by omega)]
 .rw[bs];congr 1;exact CG fun j y q=>ae q
 .refine List.ext_getElem (by simp[A3]) (fun k z G=>?_);have e:(Ao n)[k]'(by simpa[A3]using z)=(k:Int):=by simp[Ao]
  simp only[List.getElem_map,List.getElem_replicate,e];rw[az (by omega)]
 .intro i s E;rw[Qi w o,bs,AD s (by rw[ca,A3];exact E),bs];have e:∀v:Int,v=Cx l i->some (BG ((Ao n).map fun j=>if j<i then Cx l j else 0) i v)=some ((Ao n).map fun j=>if j<i+1 then Cx l j else 0):=by
   rintro v rfl;rw[GY _ s];congr 1;refine CG fun j y q=>?_;by_cases e:j=i
   .rw[ae e,ae (by omega),e]
   .rw[az e];by_cases u:j<i
    .rw[ae u,ae (by omega)]
    .rw[az u,az (by omega)]
  cases f:hasB l i with
  |false=>
   rw [ae (by rfl)];exact e _ (U7 fun D=>by rw[CI.2 D]at f;cases f).symm
  |true=>
   rw [az (by simp)];exact e _ (TF o (CI.1 f))
theorem Xw(I:n<=1000)(J:l.length<=1000)(D:l.Nodup):KG l n=some (Gu n l):=by
 unfold KG;rw[Bk (fun k=>(Ao k.toNat).map (Cx l)) (by omega) (by rfl)]
 .rfl
 .intro k q K;have o:((Ao k.toNat).map (Cx l)).length=k.toNat:=by rw[ca,A3]
  have H:(Ao k.toNat).map (Cx l)++[-1]=(Ao (k+1).toNat).map fun j=>if j<k then Cx l j else if Cx l k<0 then Cx l k else -1:=by
   rw [FV q,List.map_append];congr 1
   .grind[List.map_congr_left,EQ]
   .rw[List.map_singleton,az (by omega)];have:=OM l k
    grind
  rw [Af (by rw[o];simp;unfold Ad;omega),bs,H,Bk (fun i=>(Ao (k+1).toNat).map fun j=>if j<k then Cx l j else if Cx l k<i then Cx l k else -1) (by omega) rfl]
  .rw[bs];congr 1;refine List.map_congr_left fun j E=>?_;have:=EQ.1 E;split
   .rfl
   .have e:j=k:=by omega
    rw [ae (OM l k).2,e]
  .intro i s u;rw[AD s u,bs];by_cases e:AA l i=k
   .have w:Cx l k=i:=by rw[<-e];exact XU D s u
    rw [ae (by simp[e]),AD q (by rw[ca,A3];omega),bs,GY _ q];congr 1;refine CG fun j F G=>?_;by_cases y:j=k
    .rw[ae y,az (by omega),ae (by omega),w]
    .rw[az y];by_cases f:j<k
     .rw[ae f,ae f]
     .omega
   .have w:Cx l k≠i:=fun h=>by
     have:=(II (Lw.1 (show 0<=Cx l k by omega))).2.2.1;rw[h]at this;exact e this
    rw [az (by simp[e])];congr 1;refine CG fun j F G=>?_;by_cases f:j<k
    .rw[ae f,ae f]
    .rw[az f,az f];by_cases z:Cx l k<i
     .rw[ae z,ae (by omega)]
     .rw[az z,az (by omega)]
structure SR(count:Nat)(jj into at_:Fp):Prop where
 few:count<=1000
 nodup:into.Nodup
 len:into.length=jj.length
 inn:∀x∈into,0<=x/\x<count
 kin:∀x∈jj,0<=x/\x<at_.length
 pos:∀x∈jj,0<=AA at_ x
theorem Xe(e:l.Nodup)(h:∀x∈l,0<=x/\x<n):l.length<=n:=by
 have:=List.Nodup.length_le_of_subset (l₁:=l) (l₂:=Ao n) e (fun x f=>EQ.2 (h x f))
 rwa [A3]at this
variable{i:Int}
theorem OF(h:0<=i):((BC l (i+1)).length:Int)=(BC l i).length+if i∈l then 0 else 1:=by grind[MK,cE,hasB,CI]
theorem Pe{jj into at_:Fp}{n i:Int}(h:i∈into):Ob jj into at_ n i=AA at_ (AA jj (Cx into i)):=by grind[Ob,CI]
theorem P9{jj into at_:Fp}{n i:Int}(h:i∉into):Ob jj into at_ n i=n+(BC into i).length:=by grind[Ob,CI]
variable{count:Nat}
theorem Vy{jj into at_:Fp}{n:Int}(h:SR count jj into at_)(y:0<=n)(z:n<=1000):E8 jj into count at_ n=some (Rj count jj into at_ n):=by
 have D:=h.few;have s:=Xe h.nodup h.inn;have u:=h.len;unfold E8;rw[Xw h.few (by omega) h.nodup,bs,Bk (fun i=>(n+((BC into i).length:Int),(Ao i.toNat).map (Ob jj into at_ n))) (by omega) (by simp[BC,Ao])]
 .rfl
 .intro i f q;have E:=JN (l:=into) f;have e:((Ao i.toNat).map (Ob jj into at_ n)).length=i.toNat:=by rw[ca,A3]
  rw [AD f (by rw[Ig];exact q),bs,Te f q];by_cases hi:i∈into
  .have o:=II hi;have w:=AK (l:=jj) o.1 (by omega);have j:=h.kin _ w;rw[ae (by simpa using o.1),bs,AD o.1 (by omega),bs,AD j.1 j.2,bs,Af (by rw[e];simp;unfold Ad;omega),bs,FV f,List.map_append,OF f,ae hi,Int.add_zero,List.map_singleton,Pe hi]
  .rw[az (by rw[zzX,Lw];exact hi),Af (by rw[e];simp;unfold Ad;omega),bs,FV f,List.map_append,OF f,az hi,List.map_singleton,P9 hi,As (by omega) (by omega),Int.add_assoc]
theorem Vr{jj into f o:Fp}{n:Int}(h:SR count jj into (f.map (AA o)))(I:∀x∈f,0<=x/\x<o.length)(Q:0<=n)(S:n<=1000):Ff count jj into f o n=some (Rj count jj into (f.map (AA o)) n):=by
 have W:=h.few;have J:=Xe h.nodup h.inn;have K:=h.len;unfold Ff Dx;rw[ae (by refine⟨rfl,by omega,by omega⟩),bs,Int.toNat_natCast];rw[Bk (fun i=>(Ao count).map fun k=>if 0<=Cx into k/\Cx into k<i then Ob jj into (f.map (AA o)) n k else -1) (by omega)]
 .rw[bs,ca,A3,Bk (fun i=>(n+((BC into i).length:Int),(Ao count).map fun k=>if k<i\/k∈into then Ob jj into (f.map (AA o)) n k else -1)) (by omega)]
  .rw[bs];congr 1;exact CG fun j F D=>ae (.inl D)
  .show _=(n,_);congr 1
   .simp[BC]
   .refine CG fun j F D=>?_;have H:=Lw (l:=into) (v:=j);have N:=OM into j;by_cases e:j∈into
    .rw[ae (.inr e),ae ⟨H.2 e,N.2⟩]
    .rw[az (by rintro(q|q);omega;exact e q),az fun q=>e (H.1 q.1)]
  .intro i u y;have X:=JN (l:=into) u;rw[AD u (by rw[ca,A3];exact y),bs,HD _ u y];by_cases hi:i∈into
   .have O:=II hi;have G:=AK (l:=jj) O.1 (by have:=h.len;omega);have Y:=h.pos _ G;rw[ae (show i<i\/i∈into from .inr hi),Pe hi,az (by rw[zzX];omega),OF u,ae hi,Int.add_zero];congr 2;refine CG fun j F D=>?_;by_cases e:j<i\/j∈into
    .rw[ae e,ae (e.imp (fun h=>by omega) id)]
    .rw[az e,az];rintro(q|q)
     .have:j=i:=by
       have:=fun hh=>e (.inl hh);omega
      exact e (.inr (this▸hi))
     .exact e (.inr q)
   .rw[az (show¬(i<i\/i∈into)by rintro(q|q);omega;exact hi q),ae (by decide),bs,OF u,az hi,As (by simp only[];omega) (by simp only[];omega),GY _ u,Int.add_assoc];congr 2;refine CG fun j F D=>?_;by_cases w:j=i
    .rw[ae w,ae (.inl (by omega)),w,P9 hi]
    .rw[az w];by_cases e:j<i\/j∈into
     .rw[ae e,ae (e.imp (fun h=>by omega) id)]
     .rw[az e,az];rintro(q|q)
      .exact e (.inl (by omega))
      .exact e (.inr q)
 .refine List.ext_getElem (by simp[A3]) (fun k U V=>?_);simp only[List.getElem_map,List.getElem_replicate];rw[az (by omega)];rfl
 .intro i u y;have z:=h.inn _ (AK u y);have G:=AK (l:=jj) u (by have:=h.len;omega);have s:=h.kin _ G;rw[ca]at s;have E:=I _ (AK s.1 s.2);rw[AD u y,bs,AD u (by have:=h.len;omega),bs,AD s.1 s.2,bs,AD E.1 E.2,bs,AD z.1 (by rw[ca,A3];exact z.2),bs,GY _ z.1];congr 1;refine CG fun j F D=>?_;by_cases w:j=AA into i
  .have e:=XU h.nodup u y;rw[ae w,w,e,ae ⟨u,by omega⟩,Pe (AK u y),e,NQ s.1 s.2]
  .rw[az w];by_cases e:0<=Cx into j/\Cx into j<i
   .rw[ae e,ae ⟨e.1,by omega⟩]
   .rw[az e,az];rintro⟨q,Z⟩;have P:Cx into j=i:=by
     have:=fun hh=>e ⟨q,hh⟩;omega
    have:=(II (Lw.1 q)).2.2.1;rw[P]at this;exact w this.symm
theorem Ue{images e:Fp}(f:images.length<=1000)(j:∀x∈images,0<=x/\x<e.length):Gf images e=some (images.map (AA e)):=by
 unfold Gf
 grind [QZ,AA,AK,AD,Af,Ad]
end Go.Sf.Sc
namespace Go.Sf.Sc
open Go Go.Sf
def Gv(h:AG)(d:BB):d6:=⟨Gu h.d5.d3.length d.d3,Gu h.d5.d4.length d.d4⟩
def uZ(r:hT)(h:AG)(m:d6)(d:BB):d6:=
 ⟨Rj r.fd.d5.d3.length r.x4.d3 r.sx.d3 (m.d3.map (AA (Gv h d).d3)) d.d3.length,
 Rj r.fd.d5.d4.length r.x4.d4 r.sx.d4 (m.d4.map (AA (Gv h d).d4)) d.d4.length⟩
def fS(t:AC)(k:Int):Fp:=(Ay t k).map fun x=>x.Low
def aU(tr:Fp)(e:Bf):Bf:=⟨e.mo,AA tr e.ne,AA tr e.To⟩
def L0(r:hT)(x:AG)(i:Int):Fp:=x.d5.d3++(BC r.sx.d3 i).map (AA r.fd.d5.d3)
def L3(t:AC)(r:hT)(x:AG)(i:Int):List Fp:=x.gn++(BC r.sx.d3 i).map fun k=>fS t (AA r.fd.d5.d3 k)
def Ns(r:hT)(c:d6)(x:AG)(i:Int):List Bf:=x.d5.d4++(BC r.sx.d4 i).map fun k=>aU c.d3 (AA r.fd.d5.d4 k)
def CS(t:AC)(r:hT)(x:AG)(c:d6):AG:=⟨⟨L0 r x r.fd.d5.d3.length,Ns r c x r.fd.d5.d4.length⟩,L3 t r x r.fd.d5.d3.length⟩
def Bv(h:AG)(d:BB):AG:=⟨⟨d.d3.map (AA h.d5.d3),d.d4.map fun x=>aU (Gv h d).d3 (AA h.d5.d4 x)⟩,d.d3.map (AA h.gn)⟩
structure HH(x:AG):Prop where
 ei:x.d5.d3.length<=1000
 em:x.d5.d4.length<=1000
 vals:x.gn.length<=1000
 rows:∀v∈x.gn,v.length<=1000
structure Tk(t:AC)(r:hT)(c:d6):Prop where
 hf:At t
 hv:(Ax t).2=0
 g:Dm r.fd.d5
 kind:∀n∈r.fd.d5.d3,0<=n/\n<t.d3.length
 cn:c.d3.length=r.fd.d5.d3.length
variable{t:AC}{r:hT}{c:d6}
theorem j9(h:Tk t r c){n:Int}(e:n∈r.fd.d5.d3):(Ay t n).length<=600:=by
 have:=h.kind n e;exact GG h.hf (Int.le_refl _) (DF h.hv).par this.2
variable{x:AG}
theorem SF(h:HH x):Gm x=some x:=by
 have:=h.ei;have:=h.em;have:=h.vals;unfold Gm IN;rw[BO (by unfold Ad;omega),bs,BO (by unfold Ad;omega),bs,bs];rw[Bk (fun i=>AG.mk x.d5 (x.gn.take i.toNat)) (by omega) (by rfl)]
 .rw[Int.toNat_natCast,List.take_length];rfl
 .intro i e f;have:=h.rows _ (AK e f)
  grind [AD,BO,Ad,Af,CD]
theorem al(h:HH x):I6 x=some x:=by
 have:=h.ei;have:=h.em;have:=h.vals;unfold I6 slices_Clone_int DJ;rw[BO (by unfold Ad;omega),bs,BO (by unfold Ad;omega),bs];rw[Bk (fun i=>AG.mk x.d5 (x.gn.take i.toNat)) (by omega) (by rfl)]
 .rw[Int.toNat_natCast,List.take_length];rfl
 .intro i e f;have:=h.rows _ (AK e f)
  grind [AD,BO,Ad,Af,CD]
variable{α:Type}{i:Int}
theorem DB(l:Fp)(F:Int->α)(h:0<=i):(BC l (i+1)).map F=(BC l i).map F++if i∈l then[]else[F i]:=by grind[MK,hasB,CI]
theorem S1(l:Fp)(i:Int):G7 l i=some (!hasB l i):=by
 unfold G7 hasB;rw[BP (fun j=>decide (i=AA l j)) false,HK]
 .cases og (fun j=>decide (i=AA l j)) 0 l.length<;>rfl
 grind [AD,AA]
theorem ni(h:Tk t r c)(q:HH x):KJ t r x c=some (CS t r x c):=by
 have H:=h.g.ei;have I:=h.g.em;have x1:=q.ei;have J:=q.em;have K:=q.vals;unfold KJ;rw[Ot (fun i=>AG.mk (d5.mk (L0 r x i) x.d5.d4) (L3 t r x i)) (a:=0) (b:=r.fd.d5.d3.length) (by omega)]
 .rw[Bh,Ot (fun i=>AG.mk (d5.mk (L0 r x r.fd.d5.d3.length) (Ns r c x i)) (L3 t r x r.fd.d5.d3.length)) (a:=0) (b:=r.fd.d5.d4.length) (by omega)]
  .rfl
  .grind[Ns,BC]
  .intro i e f;have y:=JN (l:=r.sx.d4) e;have he:=h.g.fit _ (AK e f);have z:=h.cn;rw[ae (by simpa using f),S1,bs];by_cases hi:i∈r.sx.d4
   .grind[CI,Ns,DB,As]
   .have o:hasB r.sx.d4 i=false:=by cases o:hasB r.sx.d4 i with|false=>rfl|true=>exact absurd (CI.1 o) hi
    rw [o,ae (by decide),AD e f,bs,AD he.2.1.1 (by omega),bs,AD he.2.2.1 (by omega),bs,Af (by unfold Ns;simp;unfold Ad;omega),bs];unfold Ns;rw[DB _ _ e,az hi,As (by simp only[];omega) (by simp only[];omega),ci];rfl
  .rw[az (by simp)]
 .unfold L0 L3;simp[BC]
 .intro i e f;have y:=JN (l:=r.sx.d3) e;have u:=AK e f;have w:=h.kind _ u;have N:=j9 h u;rw[ae (by simpa using f),S1,bs];by_cases hi:i∈r.sx.d3
  .grind[CI,L0,L3,DB,As]
  .have o:hasB r.sx.d3 i=false:=by cases o:hasB r.sx.d3 i with|false=>rfl|true=>exact absurd (CI.1 o) hi
   rw [o,az (by decide),AD e f,bs,Af (by unfold L0;simp;unfold Ad;omega),bs,bs,Ps h.hf,IW h.hv w.1 w.2,bs];simp only[];rw[QZ (F:=fun a=>a.Low) fun j s D E G=>?_]
   .rw[bs,Af (by unfold L3;simp;unfold Ad;omega),bs];unfold L0 L3;rw[DB _ _ e,az hi,DB _ _ e,az hi,As (by omega) (by omega),ci,ci];rfl
   grind [AD,Af,Ad]
 .rw[az (by simp)]
theorem kN(hf:At t)(hv:(Ax t).2=0){k:Int}(f:0<=k)(e:k<t.d3.length):Hj t k=some (fS t k):=by
 have:=GG hf (Int.le_refl _) (DF hv).par e;unfold Hj;rw[Pr hf,IW hv f e,bs];simp only[];rw[QZ (F:=fun a=>a.Low) fun j s o q u=>?_]
 .rfl
 grind [AD,Af,Ad]
structure WU(h:AG)(d:BB):Prop where
 sm:HH h
 len:h.gn.length=h.d5.d3.length
 ei:(∀x∈d.d3,0<=x/\x<h.d5.d3.length)/\d.d3.length<=1000
 em:(∀x∈d.d4,0<=x/\x<h.d5.d4.length)/\d.d4.length<=1000
 ends:∀e∈h.d5.d4,(0≤e.ne/\e.ne<h.d5.d3.length)/\0≤e.To/\e.To<h.d5.d3.length
variable{h:AG}
theorem V4{d:BB}(hd:WU h d):HH (Bv h d):=by
 have f:=hd.ei.2;have j:=hd.em.2;refine⟨by unfold Bv;simp;omega,by unfold Bv;simp;omega,by unfold Bv;simp;omega,fun v hv=>?_⟩;obtain⟨x,e,rfl⟩:=List.mem_map.1 hv;have:=hd.ei.1 x e;exact hd.sm.rows _ (AK this.1 (by rw[hd.len];exact this.2))
variable{R:hT}{M:AM}{C:d6}
theorem kI{d:BB}(q:Tk t R C)(hd:WU h d)(G:C.d4.length=R.fd.d5.d4.length)
  (w:∀i:Int,0<=i->i<R.fd.d5.d3.length->(AA C.d3 i=d.d3.length+(BC R.sx.d3 i).length↔i∉R.sx.d3))
  (y:∀i:Int,0<=i->i<R.fd.d5.d4.length->(AA C.d4 i=d.d4.length+(BC R.sx.d4 i).length↔i∉R.sx.d4)):
  GO t (Ar.mk R M h (AG.mk (d5.mk [] []) []) (Gv h d) C) d=some (Ar.mk R M h (CS t R (Bv h d) C) (Gv h d) C):=by
 have H:=hd.ei.2;have I:=hd.em.2;have J:=q.g.ei;have K:=q.g.em;have E:=q.cn;unfold GO;simp only[];rw[Bk (fun i=>Ar.mk R M h (AG.mk (d5.mk ((d.d3.take i.toNat).map (AA h.d5.d3)) []) ((d.d3.take i.toNat).map (AA h.gn))) (Gv h d) C) (by omega) (by simp)]
 rotate_left
 .intro i f j;have o:=hd.ei.1 _ (AK f j);have s:=hd.len;have z:=hd.sm.rows _ (AK o.1 (by omega));rw[AD f j,bs,AD o.1 o.2,bs,Af (by simp;unfold Ad;omega),bs,AD o.1 (by omega),bs,BO (by unfold Ad;omega),bs,Af (by simp;unfold Ad;omega),bs,G5 f j,G5 f j]
 rw [bs,Int.toNat_natCast,List.take_length];rw[Bk (fun i=>Ar.mk R M h (AG.mk (d5.mk (d.d3.map (AA h.d5.d3)) ((d.d4.take i.toNat).map fun x=>aU (Gv h d).d3 (AA h.d5.d4 x))) (d.d3.map (AA h.gn))) (Gv h d) C) (by omega) (by simp)]
 rotate_left
 .intro i f j;have o:=hd.em.1 _ (AK f j);have he:=hd.ends _ (AK o.1 o.2);have s:(Gv h d).d3.length=h.d5.d3.length:=Ig _ _;simp only[];rw[AD f j,bs,AD o.1 o.2,bs,AD he.1.1 (by omega),bs,AD he.2.1 (by omega),bs,Af (by simp;unfold Ad;omega),bs,G5 f j];rfl
 rw [bs,Int.toNat_natCast,List.take_length];rw[Bk (fun i=>Ar.mk R M h (AG.mk (d5.mk (L0 R (Bv h d) i) (Bv h d).d5.d4) (L3 t R (Bv h d) i)) (Gv h d) C) (by omega) (by unfold L0 L3;simp[BC,Bv])]
 rotate_left
 .intro i f j;have z:=JN (l:=R.sx.d3) f;have F:=AK f j;have D:=q.kind _ F;have s:(L0 R (Bv h d) i).length=d.d3.length+(BC R.sx.d3 i).length:=by unfold L0 Bv;simp
  have u:(L3 t R (Bv h d) i).length=d.d3.length+(BC R.sx.d3 i).length:=by unfold L3 Bv;simp
  simp only[s];rw[AD f j,bs,AD f (by omega),bs];by_cases hi:i∈R.sx.d3
  .rw[az (by rw[zzX];push_cast;exact fun e=>(w i f j).1 e hi)];unfold L0 L3;rw[DB _ _ f,ae hi,List.append_nil,DB _ _ f,ae hi,List.append_nil]
  .rw[ae (by rw[zzX];push_cast;exact(w i f j).2 hi),Af (by rw[s];simp;unfold Ad;omega),bs,kN q.hf q.hv D.1 D.2,bs,Af (by rw[u];simp;unfold Ad;omega),bs];unfold L0 L3;rw[DB _ _ f,az hi,DB _ _ f,az hi,ci,ci]
 rw [bs];rw[Bk (fun i=>Ar.mk R M h (AG.mk (d5.mk (L0 R (Bv h d) R.fd.d5.d3.length) (Ns R C (Bv h d) i)) (L3 t R (Bv h d) R.fd.d5.d3.length)) (Gv h d) C) (by omega) (by unfold Ns;simp[BC,Bv])]
 rotate_left
 .intro i f j;have z:=JN (l:=R.sx.d4) f;have he:=q.g.fit _ (AK f j);have s:(Ns R C (Bv h d) i).length=d.d4.length+(BC R.sx.d4 i).length:=by unfold Ns Bv;simp
  simp only[s];rw[AD f j,bs,AD f (by omega),bs];by_cases hi:i∈R.sx.d4
  .rw[az (by rw[zzX];push_cast;exact fun e=>(y i f j).1 e hi)];unfold Ns;rw[DB _ _ f,ae hi,List.append_nil]
  .rw[ae (by rw[zzX];push_cast;exact(y i f j).2 hi),AD he.2.1.1 (by omega),bs,AD he.2.2.1 (by omega),bs,Af (by rw[s];simp;unfold Ad;omega),bs];unfold Ns;rw[DB _ _ f,az hi,ci];rfl
 rw [bs];rfl
theorem Yr(hf:At t){d:BB}(hh:(H7 t h).2=0)(q:EJ h.d5 d=0)(hd:WU h d):I2 t h d=some (Bv h d,0):=by
 have s:=hd.ei.2;unfold I2;rw[Uf hf,bs,az (by simp[hh]),Vx ⟨hd.ei.2,hd.em.2⟩,az (by simp[q]),bs,az (by simp)];have e:L8 h.d5 d=(Bv h d).d5:=by
  unfold L8 Bv;congr 1;refine List.map_congr_left fun x f=>?_;have f:=hd.em.1 x f;have he:=hd.ends _ (AK f.1 f.2)
  grind [aU,Gv,Te]
 simp only[];rw[Ot (fun i=>AG.mk (L8 h.d5 d) ((d.d3.take i.toNat).map (AA h.gn))) (a:=0) (b:=d.d3.length) (by omega) (by simp)]
 .rw[Int.toNat_natCast,List.take_length,Bh,e];rfl
 .intro i o j;have f:=hd.ei.1 _ (AK o j);have u:=hd.len;have w:=hd.sm.rows _ (AK f.1 (by omega));rw[ae (by simpa using j),AD o j,bs,AD f.1 (by omega),bs,BO (by unfold Ad;omega),bs,Af (by simp;unfold Ad;omega),bs,G5 o j,As (by simp only[];omega) (by simp only[];omega)]
 .rw[az (by simp)]
end Go.Sf.Sc
namespace Go.Sf.Sc
open Go Go.Sf
def PK(c:d6)(vars:Fp)(s:CU):(Int×Int)×Int:=((AA c.d3 s.tl,s.kq),Cp s.j4 vars)
def Bw(r:hT)(c:d6)(vars:Fp):BD:=r.fd.ff.map (PK c vars)
def Nq(t:AC)(x:AG)(p:(Int×Int)×Int):Bool:=
 decide (p.2<(AA (Ay t (AA x.d5.d3 p.1.1)) p.1.2).Low)||decide ((AA (Ay t (AA x.d5.d3 p.1.1)) p.1.2).AaE<p.2)
structure ST(t:AC)(r:hT)(c:d6)(vars:Fp)(x:AG):Prop where
 hf:At t
 hv:(Ax t).2=0
 few:r.fd.ff.length<=1000
 fewv:vars.length<=1000
 slot:∀s∈r.fd.ff,(0<=s.tl/\s.tl<c.d3.length)/\(-1<=s.j4.Var/\s.j4.Var<vars.length)/\
  (0<=AA c.d3 s.tl/\AA c.d3 s.tl<x.d5.d3.length)/\(0<=s.kq/\s.kq<(Ay t (AA x.d5.d3 (AA c.d3 s.tl))).length)
 kind:∀n∈x.d5.d3,0<=n/\n<t.d3.length
 vlen:x.gn.length=x.d5.d3.length
 rows:∀i:Int,0<=i->i<x.d5.d3.length->(AA x.gn i).length=(Ay t (AA x.d5.d3 i)).length
variable{L:BD}{i:Int}
theorem aD(e:0<=i)(f:i<=L.length)(h:∀j,0<=j->j<i->og (fun k=>decide ((AA L k).1=(AA L j).1)&&!decide ((AA L k).2=(AA L j).2)) 0 j=false):P2 (L.take i.toNat):=by grind[VQ,N5,Bi,c7,Tr,OK]
def TH(L:BD)(i:Int):Bool:=og (fun k=>decide ((AA L k).1=(AA L i).1)&&!decide ((AA L k).2=(AA L i).2)) 0 i
theorem ey(G:0<=i)(H:i<L.length)(u:P2 (L.take i.toNat)):
  (((Nz (L.take i.toNat)).look (AA L i).1).isSome&&(!decide (((Nz (L.take i.toNat)).look (AA L i).1).getD 0=(AA L i).2)))=TH L i:=by
 obtain ⟨I,y,J⟩:=ZO _ u;unfold TH;cases w:(Nz (L.take i.toNat)).look (AA L i).1 with
 |none=>
  rw [Option.isSome_none,Bool.false_and];refine Eq.symm (Bi.2 fun k q s=>?_);have o:AA L k∈L.take i.toNat:=by
   rw [<-OK (n:=i.toNat) (by omega)]
   grind [AK,c7]
  rw [decide_eq_false (Vo w _ ((y _).2 o)),Bool.false_and]
 |some v=>
  have o:=(y _).1 (R2 w);rw[Option.isSome_some,Bool.true_and,Option.getD_some];have f:∀k,0<=k->k<i->(AA L k).1=(AA L i).1->(AA L k).2=v:=fun k q s e=>by
   have D:AA L k∈L.take i.toNat:=by
    rw [<-OK (n:=i.toNat) (by omega)]
    grind [AK,c7]
   exact u _ D _ o e
  obtain ⟨k,q,s,z⟩:=BV o;rw[c7]at s;rw[OK (by omega)]at z;rw[Bool.eq_iff_iff,Dv];constructor
  .intro h;refine⟨k,q,by omega,?_⟩;rw[z,decide_eq_true rfl,Bool.true_and];exact h
  .rintro⟨j,E,F,h⟩;rw[tg,zzX]at h;rw[<-f j E F h.1];exact h.2
theorem Mu(r:hT)(c:d6)(vars:Fp)(e:0<=i)(f:i<r.fd.ff.length):AA (Bw r c vars) i=PK c vars (AA r.fd.ff i):=NQ e f
theorem Iu(r:hT)(c:d6)(vars:Fp):(Bw r c vars).length=r.fd.ff.length:=ca ..
variable{ρ:Type}
theorem W7(L:BD)(v:ρ):fst (fun i=>if TH L i=true then some v else none) 0 L.length=if N5 L=true then some v else none:=LP
variable{t:AC}{R:hT}{M:AM}{B A:AG}{T C:d6}
theorem ak(h:ST t R C M.hV A):G9 (Ar.mk R M B A T C)=some (if N5 (Bw R C M.hV)=true then([],11)else(Nz (Bw R C M.hV),0)):=by
 unfold G9;simp only[];rw[JB (a:=0) (s:=([]:BD)) (fun i=>Nz ((Bw R C M.hV).take i.toNat)) (fun i=>if TH (Bw R C M.hV) i=true then some ([],11)else none) (by omega) rfl]
 .have:=W7 (Bw R C M.hV) (([],11):BD×Int);rw[Iu]at this;rw[this];by_cases e:N5 (Bw R C M.hV)=true
  .rw[ae e,ae e];rfl
  .rw[az e,az e,<-Iu R C M.hV,Int.toNat_natCast,List.take_length];rfl
 .intro i f o z;have q:=h.slot _ (AK f o);have D:P2 ((Bw R C M.hV).take i.toNat):=aD f (by rw[Iu];omega) fun j w y=>by
   have:=z j w y;split at this
   .cases this
   .rename_i e;exact Bool.eq_false_iff.2 e
  have u:=ey (L:=Bw R C M.hV) f (by rw[Iu];exact o) D;rw[AD f o,bs,Xl q.2.1.1 q.2.1.2 h.fewv,bs,az (by simp),AD q.1.1 q.1.2,bs];rw[Mu R C M.hV f o]at u;simp only[PK]at u;simp only[];by_cases e:TH (Bw R C M.hV) i=true
  .refine(ae (u.trans e)).trans ?_;rw[ae e];rfl
  .refine(az (fun h=>e (u.symm.trans h))).trans ?_;rw[az e,CD f (by rw[Iu];exact o),Xc,Mu R C M.hV f o];rfl
variable{α:Type}
theorem ZR{f:α->K1}{g:α->Bool}:∀{l:List α},(∀p∈l,f p=some (g p))->AaS f l=some (l.all g)
 |[],_=>rfl|p::r,h=>by
  unfold AaS;rw[h p List.mem_cons_self,bs,ZR fun q e=>h q (List.mem_cons_of_mem _ e),bs,List.all_cons]
variable{r:hT}{c:d6}{x:AG}
theorem YE{vars:Fp}(h:ST t r c vars x){s:CU}(q:s∈r.fd.ff){V:List Fp}(u:J7 V x.gn):
  idx V (AA c.d3 s.tl)=some (AA V (AA c.d3 s.tl))/\idx (AA V (AA c.d3 s.tl)) s.kq=some (AA (AA V (AA c.d3 s.tl)) s.kq):=by
 have f:=h.slot s q;have hv:=h.vlen;have D:=h.rows _ f.2.2.1.1 f.2.2.1.2;have w:idx x.gn (AA c.d3 s.tl)=some (AA x.gn (AA c.d3 s.tl)):=AD f.2.2.1.1 (by omega);have y:idx (AA x.gn (AA c.d3 s.tl)) s.kq=some (AA (AA x.gn (AA c.d3 s.tl)) s.kq):=AD f.2.2.2.1 (by omega);obtain⟨z,x',a,b⟩:=u.idx w y;have j:=GB a;have o:=GB b;have E:=(List.getElem?_eq_some_iff.1 j.2.2).1;have e:AA V (AA c.d3 s.tl)=z:=by
  grind [AD,Option.some.inj]
 have F:=(List.getElem?_eq_some_iff.1 o.2.2).1;refine⟨AD j.1 (by omega),?_⟩;rw[e];exact AD o.1 (by omega)
theorem fC(h:ST t R C M.hV A){p:(Int×Int)×Int}(o:p∈Bw R C M.hV):Lu t (Ar.mk R M B A T C) p=some (!Nq t A p):=by
 obtain ⟨s,j,rfl⟩:=List.mem_map.1 o;have e:=h.slot s j;have f:=h.kind _ (AK e.2.2.1.1 e.2.2.1.2);obtain⟨q,u⟩:=YE h j (V:=A.gn) rfl;unfold Lu Lt PK Nq;simp only[];rw[AD e.2.2.1.1 e.2.2.1.2,bs,Pr h.hf,IW h.hv f.1 f.2,bs];simp only[];simp only[AD e.2.2.2.1 e.2.2.2.2,q,u,bs,Sh]
 grind
def Ht(t:AC)(x:AG)(L:BD):AG×Int:=
 if N5 L=true then(⟨⟨[],[]⟩,[]⟩,11)else if L.any (Nq t x)=true then(⟨⟨[],[]⟩,[]⟩,6)else(⟨x.d5,L.foldl CR x.gn⟩,0)
theorem nJ(h:ST t R C M.hV A):If t (Ar.mk R M B A T C)=some ((Ht t A (Bw R C M.hV)).2,if(Ht t A (Bw R C M.hV)).2=0 then Ar.mk R M B (Ht t A (Bw R C M.hV)).1 T C else Ar.mk R M B A T C):=by
 unfold If Ht;rw[ak h,bs];by_cases e:N5 (Bw R C M.hV)=true
 .grind
 .rw[az e,az (by simp),az e];obtain⟨o,q,s⟩:=ZO _ (VQ (Bool.eq_false_iff.2 e));have j:AaS (Lu t (Ar.mk R M B A T C)) (Nz (Bw R C M.hV))=some (!(Bw R C M.hV).any (Nq t A)):=by
   rw [ZR (g:=fun p=>!Nq t A p) fun p f=>fC h ((q p).1 f)]
   grind
  rw [ae (by simpa using(show List.Pairwise (fun x y:(Int×Int)×Int=>x.1≠y.1) _ from o)),j,bs]
  grind [Bw,Nq,MP]
theorem rk{vars:Fp}(h:ST t r c vars x):LU t r x c vars=some (Ht t x (Bw r c vars)):=by
 unfold LU Ht;rw[JB (a:=0) (s:=AG.mk (d5.mk [] []) []) (fun _=>AG.mk (d5.mk [] []) []) (fun i=>if TH (Bw r c vars) i=true then some (AG.mk (d5.mk [] []) [],(11:Int))else none) (by omega) rfl]
 .have:=W7 (Bw r c vars) ((AG.mk (d5.mk [] []) [],(11:Int)));rw[Iu]at this;rw[this];by_cases e:N5 (Bw r c vars)=true
  .rw[ae e,ae e];rfl
  rw [az e,az e];show fq (some (Sum.inl _)) _ _=_;rw[Bh,JB (a:=0) (s:=(x,AG.mk (d5.mk [] []) [])) (fun i=>(AG.mk x.d5 (((Bw r c vars).take i.toNat).foldl CR x.gn),AG.mk (d5.mk [] []) [])) (fun i=>if Nq t x (AA (Bw r c vars) i)=true then some (AG.mk (d5.mk [] []) [],(6:Int))else none) (by omega) rfl]
  .have:=ZI (l:=Bw r c vars) (q:=Nq t x) (v:=(AG.mk (d5.mk [] []) [],(6:Int)));rw[Iu]at this;rw[this];by_cases j:(Bw r c vars).any (Nq t x)=true
   .rw[ae j,ae j];rfl
   .rw[az j,az j];show some (AG.mk x.d5 (((Bw r c vars).take (r.fd.ff.length:Int).toNat).foldl CR x.gn),(0:Int))=_
    grind [Iu,Int.toNat_natCast,List.take_length]
  .intro i o u _;have D:=AK o u;have f:=h.slot _ D;have w:=h.kind _ (AK f.2.2.1.1 f.2.2.1.2);obtain⟨F,G⟩:=YE h D (V:=((Bw r c vars).take i.toNat).foldl CR x.gn) (XN _ _);simp only[AD o u,bs];rw[Mq f.2.1.1 f.2.1.2,bs,AD f.1.1 f.1.2,bs,AD f.2.2.1.1 f.2.2.1.2,bs,Ps h.hf,IW h.hv w.1 w.2,bs];simp only[];rw[AD f.2.2.2.1 f.2.2.2.2,bs,bs,Sh,bs,F,bs,G,bs];rw[Mu r c vars o u,CD o (by rw[Iu];exact u),List.foldl_append,Mu r c vars o u];show(if(Nq t x (PK c vars (AA r.fd.ff i)))=true then _ else _)=_;by_cases j:Nq t x (PK c vars (AA r.fd.ff i))=true
   .rw[ae j,ae j];rfl
   .rw[az j,az j];have:=XG (p:=PK c vars (AA r.fd.ff i)) F G;exact congrArg (fun W=>some (Bp.next (σ:=AG×AG) (ρ:=AG×Int) (AG.mk x.d5 W,AG.mk (d5.mk [] []) []))) this
 .intro i o u _;have f:=h.slot _ (AK o u);rw[AD o u,bs,Mq f.2.1.1 f.2.1.2,bs];rw[JB (a:=0) (s:=AG.mk (d5.mk [] []) []) (fun _=>AG.mk (d5.mk [] []) []) (fun k=>if(decide ((AA (Bw r c vars) k).1=(AA (Bw r c vars) i).1)&&!decide ((AA (Bw r c vars) k).2=(AA (Bw r c vars) i).2))=true then some (AG.mk (d5.mk [] []) [],(11:Int))else none) o rfl]
  .rw[LP];unfold TH;split<;>rfl
  .intro k y I _;have w:=h.slot _ (AK y (show k<r.fd.ff.length by omega));simp only[AD o u,AD y (show k<r.fd.ff.length by omega),bs];rw[Mq w.2.1.1 w.2.1.2,bs,AD w.1.1 w.1.2,bs,AD f.1.1 f.1.2,bs,Mu r c vars o u,Mu r c vars y (by omega)];simp only[PK,Prod.mk.injEq];by_cases E:AA c.d3 (AA r.fd.ff k).tl=AA c.d3 (AA r.fd.ff i).tl<;>by_cases j:(AA r.fd.ff k).kq=(AA r.fd.ff i).kq<;>by_cases z:Cp (AA r.fd.ff i).j4 vars=Cp (AA r.fd.ff k).j4 vars
   all_goals first|(have H:¬Cp (AA r.fd.ff k).j4 vars=Cp (AA r.fd.ff i).j4 vars:=fun h=>z h.symm;simp[E,j,z,H,dr];done)|(simp[E,j,z,dr];done)
end Go.Sf.Sc
namespace Go.Sf.Sc
open Go Go.Sf
variable{t:AC}{r:hT}
theorem Ul(h:FT t r=0):G2 t r.kp=0/\I5 t r=0/\Ll t r.kp r.d7=0:=by grind[FT]
theorem Yv(h:I5 t r=0):r.fd.hV=r.kp.hV/\r.fd.ff.length<=10/\∀i:Int,0<=i->i<r.fd.ff.length->NJ t r.fd i=0:=by
 unfold I5 at h;split at h
 .omega
 split at h
 .cases h
 split at h
 .cases h
 split at h
 .cases h
 rename_i e f j o;exact⟨by omega,by omega,UB h⟩
variable{i:Int}
theorem bH{p:ec}(h:NJ t p i=0):(0<=(AA p.ff i).tl/\(AA p.ff i).tl<p.d5.d3.length)/\
  (0<=(AA p.ff i).kq/\(AA p.ff i).kq<(F9 t (AA p.d5.d3 (AA p.ff i).tl)).1.length)/\-1<=(AA p.ff i).j4.Var/\(AA p.ff i).j4.Var<p.hV:=by
 unfold NJ at h;dsimp only at h;split at h
 .cases h
 split at h
 .cases h
 rename_i f e;simp only[Bool.or_eq_true,zzX]at e;omega
structure H3(t:AC)(r:hT)(h:AG)(m:AM):Prop where
 hf:At t
 fr:PQ r
 re:FT t r=0
 he:(H7 t h).2=0
 at_:Ti t r.kp h m
 co:Wm (QX r.kp.d5 h.d5 m.d6) h.d5 r.x4 m.d6
abbrev dS(r:hT)(h:AG)(m:AM):BB:=K6 h.d5 r.x4 m.d6
abbrev cS(r:hT)(h:AG)(m:AM):d6:=uZ r h m.d6 (dS r h m)
variable{h:AG}{m:AM}
theorem H3.hv(s:H3 t r h m):(Ax t).2=0:=(Zi s.re).1
theorem H3.ro(s:H3 t r h m):bi t r:=(Zi s.re).2
theorem H3.hh(s:H3 t r h m):IB t h:=(SX s.hf s.he).2
theorem QW(hf:At t)(hv:(Ax t).2=0)(hh:IB t h):HH h:=by
 have j:=hh.g.ei;have o:=hh.g.em;have q:=hh.len;refine⟨by omega,by omega,by omega,fun v e=>?_⟩;obtain⟨i,f,w,rfl⟩:=BV e;have s:=hh.row i f (by omega);have u:=GG hf (Int.le_refl _) (DF hv).par (hh.kind i f (by omega)).2;omega
theorem H3.rem(s:H3 t r h m):WU h (dS r h m):=by
 have hh:=s.hh;have j:=hh.g.ei;have o:=hh.g.em;have l1:=PJ (EI m.d6.d3 r.x4.d3) h.d5.d3.length;have l2:=PJ (EI m.d6.d4 r.x4.d4) h.d5.d4.length;exact⟨QW s.hf s.hv hh,hh.len,⟨fun x f=>Hc f,by show(BC _ _).length<=1000;omega⟩,⟨fun x f=>Hc f,by show(BC _ _).length<=1000;omega⟩,fun e he=>(hh.g.fit e he).2⟩
theorem H3.part(s:H3 t r h m):EJ h.d5 (dS r h m)=0:=by
 unfold EJ;rw[az (by simp[s.hh.ge])];exact dY s.co
variable{count n:Nat}
theorem b9{jj into images:Fp}{A2:Fp}(few:count<=1000)(nodup:into.Nodup)(len:into.length=jj.length)(inn:∀x∈into,0<=x/\x<count)
  (kin:∀x∈jj,0<=x/\x<images.length)(j:∀x∈images,0<=x/\x<n)(hi:AaH images jj=false)(o:A2=EI images jj):
  SR count jj into (images.map (AA (Gu n (BC A2 n))))/\(∀x∈jj,AA (images.map (AA (Gu n (BC A2 n)))) x<(BC A2 n).length)/\
  ∀x∈jj,AA (images.map (AA (Gu n (BC A2 n)))) x=Cx (BC A2 n) (AA images x)/\AA images x∈BC A2 n:=by
 have e:∀x∈jj,AA (images.map (AA (Gu n (BC A2 n)))) x=Cx (BC A2 n) (AA images x)/\AA images x∈BC A2 n:=fun x f=>by
  grind [AK,NQ,Te,OE,R1]
 refine ⟨⟨few,nodup,len,inn,fun x f=>by rw[ca];exact kin x f,fun x f=>?_⟩,fun x f=>?_,e⟩
 .rw[(e x f).1];exact Lw.2 (e x f).2
 .rw[(e x f).1];exact(OM _ _).2
theorem H3.left(s:H3 t r h m):m.d6.d3.length=r.kp.d5.d3.length/\m.d6.d4.length=r.kp.d5.d4.length:=⟨s.at_.m.AaG,s.at_.m.AaP⟩
theorem H3.Ab0(s:H3 t r h m):SR r.fd.d5.d3.length r.x4.d3 r.sx.d3 (m.d6.d3.map (AA (Gv h (dS r h m)).d3))/\
  (∀x∈r.x4.d3,AA (m.d6.d3.map (AA (Gv h (dS r h m)).d3)) x<(dS r h m).d3.length)/\
  ∀x∈r.x4.d3,AA (m.d6.d3.map (AA (Gv h (dS r h m)).d3)) x=Cx (dS r h m).d3 (AA m.d6.d3 x)/\AA m.d6.d3 x∈(dS r h m).d3:=by
 have ro:=s.ro;have o:=ro.right.ei;refine b9 (by omega) ro.inj.1 ?_ (fun x e=>?_) (fun x e=>?_) (fun x e=>?_) s.co.ei rfl
 .have:=ro.mor.AaG;rw[this];exact ca ..
 .obtain⟨i,f,j,rfl⟩:=BV e;exact(ro.mor.node i f j).1
 .have:=ro.part.ei.1 x e;have:=s.left.1;omega
 .obtain⟨i,f,j,rfl⟩:=BV e;exact(s.at_.m.node i f j).1
theorem H3.Ab4(s:H3 t r h m):SR r.fd.d5.d4.length r.x4.d4 r.sx.d4 (m.d6.d4.map (AA (Gv h (dS r h m)).d4))/\
  (∀x∈r.x4.d4,AA (m.d6.d4.map (AA (Gv h (dS r h m)).d4)) x<(dS r h m).d4.length)/\
  ∀x∈r.x4.d4,AA (m.d6.d4.map (AA (Gv h (dS r h m)).d4)) x=Cx (dS r h m).d4 (AA m.d6.d4 x)/\AA m.d6.d4 x∈(dS r h m).d4:=by
 have ro:=s.ro;have o:=ro.right.em;refine b9 (by omega) ro.inj.2 ?_ (fun x e=>?_) (fun x e=>?_) (fun x e=>?_) s.co.em rfl
 .have:=ro.mor.AaP;rw[this];exact ca ..
 .obtain⟨i,f,j,rfl⟩:=BV e;exact(ro.mor.edge i f j).1
 .have:=ro.part.em.1 x e;have:=s.left.2;omega
 .obtain⟨i,f,j,rfl⟩:=BV e;exact s.at_.m.edge i f j
theorem Y9{jj into at_:Fp}(h:SR count jj into at_)(f:∀x∈jj,AA at_ x<n)(j:0<=i)(o:i<count):AA (Rj count jj into at_ n) i=n+(BC into i).length↔i∉into:=by
 rw [b8 j o];constructor
 .intro e hi;rw[Pe hi]at e;have q:=II hi;have:=f _ (AK (l:=jj) q.1 (by have:=h.len;omega));omega
 .exact P9
theorem H3.grow(s:H3 t r h m):Tk t r (cS r h m):=
 ⟨s.hf,s.hv,s.ro.right,(H1 s.ro.right s.ro.AbN).1,Ux _ _ _ _ _⟩
theorem S3(l:Fp)(f:0<=i):∀(k:Nat),∃s,BC l (i+k)=BC l i++s
 |0=>⟨[],by simp⟩|k+1=>by
  obtain ⟨s,e⟩:=S3 l f k
  grind [MK,ci]
variable{l:Fp}
theorem gB{i n:Int}(f:0<=i)(j:i<n)(h:i∉l):AA (BC l n) (BC l i).length=i/\((BC l i).length:Int)<(BC l n).length:=by
 obtain ⟨s,e⟩:=S3 l (i:=i+1) (by omega) (n-(i+1)).toNat
 rw [show i+1+((n-(i+1)).toNat:Int)=n by omega,MK l f]at e
 grind [hasB,CI,AA]
variable{α:Type}
theorem mS[Inhabited α]{l m:List α}(e:0<=i)(f:i<l.length):AA (l++m) i=AA l i:=by grind[LM]
theorem mT[Inhabited α]{l m:List α}:AA (l++m) (l.length+n:Int)=AA m n:=by grind[LM,AA,Int.toNat_natCast]
theorem H3.kindAt(s:H3 t r h m)(w:0<=i)(y:i<r.fd.d5.d3.length):
  (0<=AA (cS r h m).d3 i/\AA (cS r h m).d3 i<(CS t r (Bv h (dS r h m)) (cS r h m)).d5.d3.length)/\
  (Ay t (AA r.fd.d5.d3 i)).length<=(Ay t (AA (CS t r (Bv h (dS r h m)) (cS r h m)).d5.d3 (AA (cS r h m).d3 i))).length:=by
 obtain ⟨F,K,c3⟩:=s.Ab0;have G:AA (cS r h m).d3 i=Ob r.x4.d3 r.sx.d3 (m.d6.d3.map (AA (Gv h (dS r h m)).d3)) (dS r h m).d3.length i:=b8 w y;have el:(CS t r (Bv h (dS r h m)) (cS r h m)).d5.d3=(dS r h m).d3.map (AA h.d5.d3)++(Hr r).map (AA r.fd.d5.d3):=rfl;rw[G,el,cE,ca,ca];by_cases hi:i∈r.sx.d3
 .have e:=II hi;have N:=F.len;have j:=AK (l:=r.x4.d3) e.1 (by omega);have z:=c3 _ j;have D:=K _ j;have q:=F.pos _ j;rw[Pe hi];refine⟨⟨q,by push_cast;omega⟩,?_⟩;rw[mS q (by rw[ca];exact D),NQ q D,z.1,(II z.2).2.2.1];have o:=s.ro.part.ei.1 _ j;have H:=s.left.1;have u:=s.at_.m.node _ o.1 (by omega);have I:=s.hh.kind _ u.1.1 u.1.2;have E:=s.ro.mor.node _ e.1 e.2.1;rw[e.2.2.1]at E;have J:AA (L8 r.kp.d5 r.x4).d3 (Cx r.sx.d3 i)=AA r.kp.d5.d3 (AA r.x4.d3 (Cx r.sx.d3 i)):=NQ e.1 (by omega);rw[E.2,J];exact Vm (DF s.hv) I.2 u.2
 .have o:=gB w y hi;rw[P9 hi];have f:((dS r h m).d3.map (AA h.d5.d3)).length=(dS r h m).d3.length:=ca ..;refine⟨⟨by omega,?_⟩,?_⟩
  .have:((Hr r).length:Int)=(BC r.sx.d3 r.fd.d5.d3.length).length:=rfl
   push_cast
   omega
  .rw[<-f,mT,show Hr r=BC r.sx.d3 r.fd.d5.d3.length from rfl,NQ (by omega) o.2];show _<=(Ay t (AA r.fd.d5.d3 (AA (BC r.sx.d3 r.fd.d5.d3.length) (BC r.sx.d3 i).length))).length;rw[o.1];exact bk _
theorem H3.rows(s:H3 t r h m):(CS t r (Bv h (dS r h m)) (cS r h m)).gn.map (fun v=>v.length)=(CS t r (Bv h (dS r h m)) (cS r h m)).d5.d3.map fun n=>(Ay t n).length:=by
 show (List.map _ (_++_))=List.map _ (_++_);rw[List.map_append,List.map_append];congr 1
 .show((dS r h m).d3.map (AA h.gn)).map _=((dS r h m).d3.map (AA h.d5.d3)).map _;rw[List.map_map,List.map_map];refine List.map_congr_left fun x e=>?_;have e:=s.rem.ei.1 x e;exact s.hh.row x e.1 e.2
 grind [List.map_map,List.map_congr_left,fS,ca]
theorem H3.put(s:H3 t r h m):ST t r (cS r h m) m.hV (CS t r (Bv h (dS r h m)) (cS r h m)):=by
 obtain ⟨N,G,O⟩:=Ul s.re;obtain⟨hv,P,z⟩:=Yv G;have I:=s.at_.q.vars;have D:=s.at_.len;have w:=s.rows;have y:(CS t r (Bv h (dS r h m)) (cS r h m)).gn.length=(CS t r (Bv h (dS r h m)) (cS r h m)).d5.d3.length:=by
  grind [List.length,ca]
 refine ⟨s.hf,s.hv,by omega,by omega,fun x e=>?_,fun n f=>?_,y,fun i j u=>?_⟩
 .obtain⟨i,j,u,rfl⟩:=BV e;obtain⟨o,H,Q⟩:=bH (z i j u);have E:=(H1 s.ro.right s.ro.AbN).1 _ (AK o.1 o.2);rw[IW s.hv E.1 E.2]at H;obtain⟨S,U⟩:=s.kindAt o.1 o.2;have F:(cS r h m).d3.length=r.fd.d5.d3.length:=Ux _ _ _ _ _
  grind
 .have f:n∈(dS r h m).d3.map (AA h.d5.d3)++(Hr r).map (AA r.fd.d5.d3):=f;rcases List.mem_append.1 f with f|f
  .obtain⟨x,e,rfl⟩:=List.mem_map.1 f;have e:=s.rem.ei.1 x e;exact s.hh.kind x e.1 e.2
  .obtain⟨x,e,rfl⟩:=List.mem_map.1 f;have e:=Hc e;exact(H1 s.ro.right s.ro.AbN).1 _ (AK e.1 e.2)
 .have J:=NQ (l:=(CS t r (Bv h (dS r h m)) (cS r h m)).gn) (g:=fun v=>v.length) j (by omega);have K:=NQ (l:=(CS t r (Bv h (dS r h m)) (cS r h m)).d5.d3) (g:=fun n=>(Ay t n).length) j u
  grind
end Go.Sf.Sc
namespace Go.Sf.Sc
open Go Go.Sf
abbrev tU:hT:=hT.mk (⟨#[]⟩:ByteArray) (ec.mk (d5.mk [] []) [] 0 []) (ec.mk (d5.mk [] []) [] 0 []) (BB.mk [] []) (d6.mk [] []) false (d7.mk 0 [] (d6.mk [] []) (ec.mk (d5.mk [] []) [] 0 []))
abbrev zG:Ar:=Ar.mk tU (AM.mk (d6.mk [] []) []) (AG.mk (d5.mk [] []) []) (AG.mk (d5.mk [] []) []) (d6.mk [] []) (d6.mk [] [])
def WW(t:AC)(r:hT)(h:AG)(m:AM):Ar×Int:=
 if (Ht t (CS t r (Bv h (dS r h m)) (cS r h m)) (Bw r (cS r h m) m.hV)).2≠0 then(zG,(Ht t (CS t r (Bv h (dS r h m)) (cS r h m)) (Bw r (cS r h m) m.hV)).2)else
 if 40<(Ht t (CS t r (Bv h (dS r h m)) (cS r h m)) (Bw r (cS r h m) m.hV)).1.d5.d3.length\/80<(Ht t (CS t r (Bv h (dS r h m)) (cS r h m)) (Bw r (cS r h m) m.hV)).1.d5.d4.length then(zG,3)else
 (Ar.mk r m h (Ht t (CS t r (Bv h (dS r h m)) (cS r h m)) (Bw r (cS r h m) m.hV)).1 (Gv h (dS r h m)) (cS r h m),0)
noncomputable def NP(t:AC)(r:hT)(h:AG)(m:AM):Ar×Int:=
 if FT t r≠0 then(zG,FT t r)else if(H7 t h).2≠0 then(zG,(H7 t h).2)else
 if F5 t r.kp.d5 h.d5 m.d6 r.pq≠0 then(zG,1)else
 if (FA t r.kp h m.d6).2≠0 then(zG,(FA t r.kp h m.d6).2)else if¬(FA t r.kp h m.d6).1=m.hV then(zG,11)else
 if (Lk (QX r.kp.d5 h.d5 m.d6) h.d5 r.x4 m.d6).2≠0 then(zG,(Lk (QX r.kp.d5 h.d5 m.d6) h.d5 r.x4 m.d6).2)else
 if (LG t r.kp r.d7 h m r.pq).2≠0 then(zG,(LG t r.kp r.d7 h m r.pq).2)else
 if (LG t r.kp r.d7 h m r.pq).1=false then(zG,16)else WW t r h m
variable{t:AC}{r:hT}{h:AG}{m:AM}
theorem Uw(e:FT t r=0)(f:(H7 t h).2=0)(j:F5 t r.kp.d5 h.d5 m.d6 r.pq=0)(o:(FA t r.kp h m.d6).2=0)(q:(FA t r.kp h m.d6).1=m.hV):Rf t r.kp r.d7 h m r.pq=0:=by
 unfold Rf;rw[az (by simp[(Ul e).2.2]),az (by simp[f]),az (by simp[j]),az (by simp[o]),ae q]
theorem ZL{X:Option (Ar×Int)}(e:(Ht t (CS t r (Bv h (dS r h m)) (cS r h m)) (Bw r (cS r h m) m.hV)).2=0->X=
   if ((decide (40<((Ht t (CS t r (Bv h (dS r h m)) (cS r h m)) (Bw r (cS r h m) m.hV)).1.d5.d3.length:Int)))||(decide (80<((Ht t (CS t r (Bv h (dS r h m)) (cS r h m)) (Bw r (cS r h m) m.hV)).1.d5.d4.length:Int))))=true then some (zG,3)else
   some (Ar.mk r m h (Ht t (CS t r (Bv h (dS r h m)) (cS r h m)) (Bw r (cS r h m) m.hV)).1 (Gv h (dS r h m)) (cS r h m),0)):
  (if(!decide ((Ht t (CS t r (Bv h (dS r h m)) (cS r h m)) (Bw r (cS r h m) m.hV)).2=0))=true then some (zG,(Ht t (CS t r (Bv h (dS r h m)) (cS r h m)) (Bw r (cS r h m) m.hV)).2)else X)=some (WW t r h m):=by
 unfold WW;refine Ee fun f=>?_;rw[e f];refine Lh (by simp;omega) fun _=>rfl
theorem nT(hf:At t)(fr:PQ r)(F:EN r.d7<=40)(h:AG)(m:AM):Hg t r h m=some (NP t r h m):=by
 unfold Hg Hi NP;rw[Mn hf,bs];by_cases hv:¬(Ax t).2=0
 .grind[FT,Ax]
 have hv:=Classical.not_not.1 hv;rw[az (by simp[hv]),cv hf fr,bs,UX hf,bs];by_cases j:¬FT t r=0
 .grind
 have j:=Classical.not_not.1 j;rw[az (by simp[j]),bs,az (show¬FT t r≠0 by simp[j])];refine Ee fun G=>?_;rw[Option.bind_fun_some];unfold Hh Gt;rw[VB hf,bs];by_cases o:¬F5 t r.kp.d5 h.d5 m.d6 r.pq=0
 .grind
 have o:=Classical.not_not.1 o;rw[az (by simp[o]),ZT hf,bs,az (show¬F5 t r.kp.d5 h.d5 m.d6 r.pq≠0 by simp[o])];by_cases w:¬(FA t r.kp h m.d6).2=0
 .grind
 have w:=Classical.not_not.1 w;rw[az (by simp[w]),il,bs,az (show¬(FA t r.kp h m.d6).2≠0 by simp[w])];by_cases y:¬(FA t r.kp h m.d6).1=m.hV
 .grind
 have y:=Classical.not_not.1 y;rw[az (by simp[y]),bs,az (by simp),az (show¬¬(FA t r.kp h m.d6).1=m.hV by simp[y])];rw[nM hf o,bs,az (by simp),nG fr.jj,bs];refine Ee fun H=>?_;obtain⟨_,_,_,z⟩:=Ty hf F (Uw j G o w y);obtain⟨co,Q⟩:=Uy H;rw[Yp hf _ fr.cond F,bs,Q];refine Ee fun S=>?_;refine Tz fun U=>?_;have s:H3 t r h m:=⟨hf,fr,j,G,z,co⟩;have u:=s.rem;have V:=s.hh.g.ei;have W:=s.hh.g.em;have l1:=s.left.1;have l2:=s.left.2;have X:=s.ro.left.ei;have Y:=s.ro.left.em;have J:=z.len;have K:=z.q.vars;have E:IU m=some m:=by
  unfold IU slices_Clone_int;rw[BO (by unfold Ad;omega),bs,BO (by unfold Ad;omega),bs,BO (by unfold Ad;omega),bs]
 simp only[];rw[E,bs,al u.sm,bs];rw[ZY (by omega) u.ei.2 (LV _ _),bs,ZY (by omega) u.em.2 (LV _ _),bs];have N:Ff r.fd.d5.d3.length r.x4.d3 r.sx.d3 m.d6.d3 (Gu h.d5.d3.length (dS r h m).d3) (K6 h.d5 r.x4 m.d6).d3.length=some (cS r h m).d3:=
  Vr s.Ab0.1 (fun x D=>by rw[Ig];obtain⟨i,e,f,rfl⟩:=BV D;exact(z.m.node i e f).1) (by omega) (Int.ofNat_le.2 u.ei.2)
 have O:Ff r.fd.d5.d4.length r.x4.d4 r.sx.d4 m.d6.d4 (Gu h.d5.d4.length (dS r h m).d4) (K6 h.d5 r.x4 m.d6).d4.length=some (cS r h m).d4:=
  Vr s.Ab4.1 (fun x D=>by rw[Ig];obtain⟨i,e,f,rfl⟩:=BV D;exact z.m.edge i e f) (by omega) (Int.ofNat_le.2 u.em.2)
 rw [N,bs,O,bs];have P:=kI (M:=m) s.grow u (Ux _ _ _ _ _) (fun i e f=>Y9 s.Ab0.1 s.Ab0.2.1 e f) (fun i e f=>Y9 s.Ab4.1 s.Ab4.2.1 e f);change ((GO t (Ar.mk r m h (AG.mk (d5.mk [] []) []) (Gv h (dS r h m)) (cS r h m)) (dS r h m)).bind _)=_;rw[P,bs,nJ s.put,bs];exact ZL fun I=>by rw[ae I]
variable{inj:Bool}
theorem dH(hf:At t){p:ec}{c:d7}(e:EN c<=40)(f:Rf t p c h m inj=0):Kl t c h m inj=some (LG t p c h m inj):=by
 obtain ⟨hv,hh,j,o⟩:=Ty hf e f
 grind [Kl,LG,wS,CZ,lh,cc,fl]
theorem n7(hf:At t)(fr:PQ r)(H:EN r.d7<=40)(h:AG)(m:AM):Ks t r h m=some (NP t r h m):=by
 unfold Ks NC NP;rw[dO hf fr,bs,Uf hf,bs];by_cases e:¬FT t r=0
 .rw[ae (by simp[e]),bs,ae (by simp[e]),ae e]
 have e:=Classical.not_not.1 e;rw[az (by simp[e]),bs,az (show¬FT t r≠0 by simp[e])];refine Ee fun z=>?_;unfold KK;rw[VF hf,bs];by_cases f:¬F5 t r.kp.d5 h.d5 m.d6 r.pq=0
 .rw[ae (by simp[f]),bs,ae (by simp),ae f]
 have f:=Classical.not_not.1 f;rw[az (by simp[f]),kV hf,bs,az (show¬F5 t r.kp.d5 h.d5 m.d6 r.pq≠0 by simp[f])];by_cases j:¬(FA t r.kp h m.d6).2=0
 .rw[ae (by simp[j]),bs,ae (by simp[j]),ae j]
 have j:=Classical.not_not.1 j;rw[az (by simp[j]),Za,bs,az (show¬(FA t r.kp h m.d6).2≠0 by simp[j])];by_cases u:¬(FA t r.kp h m.d6).1=m.hV
 .rw[ae (by simp[u]),bs,ae (by simp),ae u]
 have u:=Classical.not_not.1 u;rw[az (by simp[u]),az (show¬¬(FA t r.kp h m.d6).1=m.hV by simp[u])];rw[nk hf f,bs,az (by simp),na fr.jj,bs];by_cases o:¬(Lk (QX r.kp.d5 h.d5 m.d6) h.d5 r.x4 m.d6).2=0
 .rw[ae (by simp[o]),bs,ae (by simp[o]),ae o]
 have o:=Classical.not_not.1 o;rw[az (by simp[o]),az (show¬(Lk (QX r.kp.d5 h.d5 m.d6) h.d5 r.x4 m.d6).2≠0 by simp[o])];have y:=Uw e z f j u;obtain⟨_,_,_,E⟩:=Ty hf H y;obtain⟨co,K⟩:=Uy o;rw[dH hf H y,bs,K,Hs,bs,bs];by_cases q:¬(LG t r.kp r.d7 h m r.pq).2=0
 .rw[az (show¬((decide ((LG t r.kp r.d7 h m r.pq).2=0)&&!(LG t r.kp r.d7 h m r.pq).1)=true)by simp[q]),ae (by simp[q]),ae q]
 have q:=Classical.not_not.1 q;rw[az (show¬(LG t r.kp r.d7 h m r.pq).2≠0 by simp[q])];cases O:(LG t r.kp r.d7 h m r.pq).1 with
 |false=>rw[ae (show(decide ((LG t r.kp r.d7 h m r.pq).2=0)&&!false)=true by simp[q]),ae (by simp),ae rfl]|true=>
 rw [az (show¬(decide ((LG t r.kp r.d7 h m r.pq).2=0)&&!true)=true by simp),az (by simp[q]),az (by simp)];have s:H3 t r h m:=⟨hf,fr,e,z,E,co⟩;have w:=s.rem;have P:=s.hh.g.ei;have Q:=s.hh.g.em;have l1:=s.left.1;have l2:=s.left.2;have S:=s.ro.left.ei;have U:=s.ro.left.em;unfold K4 Jz;simp only[];rw[Yr hf z s.part w,bs,Xw (by omega) w.ei.2 ((LV _ _).imp fun h=>by omega),bs,bs,Xw (by omega) w.em.2 ((LV _ _).imp fun h=>by omega),bs,bs,bs];simp only[];rw[Ue (by omega) (fun x D=>by rw[Ig];obtain⟨i,F,G,rfl⟩:=BV D;exact(E.m.node i F G).1),bs];rw[Ue (by omega) (fun x D=>by rw[Ig];obtain⟨i,F,G,rfl⟩:=BV D;exact E.m.edge i F G),bs];have I:E8 r.x4.d3 r.sx.d3 r.fd.d5.d3.length (m.d6.d3.map (AA (Gu h.d5.d3.length (dS r h m).d3))) (K6 h.d5 r.x4 m.d6).d3.length=some (cS r h m).d3:=
  Vy s.Ab0.1 (by omega) (Int.ofNat_le.2 w.ei.2)
 have J:E8 r.x4.d4 r.sx.d4 r.fd.d5.d4.length (m.d6.d4.map (AA (Gu h.d5.d4.length (dS r h m).d4))) (K6 h.d5 r.x4 m.d6).d4.length=some (cS r h m).d4:=
  Vy s.Ab4.1 (by omega) (Int.ofNat_le.2 w.em.2)
 rw [I,bs,J,bs];rw[SF (V4 w),bs];change ((KJ t r (Bv h (dS r h m)) (cS r h m)).bind _)=_;rw[ni s.grow (V4 w),bs];change ((LU t r (CS t r (Bv h (dS r h m)) (cS r h m)) (cS r h m) m.hV).bind _)=_;rw[rk s.put,bs];exact ZL fun N=>rfl
end Go.Sf.Sc
namespace Go.Sf.Sc
open Go Go.Sf
instance:Inhabited hT:=⟨tU⟩
instance:Inhabited C4:=⟨⟨0,⟨⟨[],[]⟩,[]⟩⟩⟩
instance:Inhabited Ar:=⟨zG⟩
structure JR(rules:List hT):Prop where
 len:rules.length<=12
 each:∀r∈rules,PQ r/\EN r.d7<=40
noncomputable def Ir(t:AC)(rules:List hT)(h:AG)(m:C4):Ar×Int:=if m.hT<0\/rules.length<=m.hT then(zG,6)else NP t (AA rules m.hT) h m.pc
variable{t:AC}{rules:List hT}
theorem nO(hf:At t)(f:JR rules)(h:AG)(m:C4):C8 t rules h m=some (Ir t rules h m):=by
 unfold C8 Ir;refine Lh (by simp) fun e=>?_;have j:=f.each _ (AK (l:=rules) (i:=m.hT) (by omega) (by omega))
 grind [AD,nT]
theorem np(hf:At t)(f:JR rules)(h:AG)(m:C4):MJ t rules h m=some (Ir t rules h m):=by
 unfold MJ Ir;refine Lh (by simp) fun e=>?_;have j:=f.each _ (AK (l:=rules) (i:=m.hT) (by omega) (by omega))
 grind [AD,n7]
noncomputable def Pu(t:AC)(rules:List hT):Int:=
 if (Ax t).2≠0 then(Ax t).2 else if 10<rules.length then 3 else(fst (fun i=>nz (FT t (AA rules i))) 0 rules.length).getD 0
noncomputable def N8(t:AC)(rules:List hT)(h:AG):Int:=if Pu t rules≠0 then Pu t rules else(H7 t h).2
theorem cd{e v:Int}(h:nz e=some v):v≠0:=by grind[nz]
variable{a b v:Int}
theorem jq{c:Int->Int}(h:fst (fun i=>nz (c i)) a b=some v):v≠0:=by grind[Cw,cd]
theorem dP(hf:At t)(j:JR rules):Kv t rules=some (Pu t rules):=by
 unfold Kv Pu;rw[OP hf,bs];refine DW fun o=>Lh (by simp;try omega) fun q=>?_;rw[BU (fun i=>nz (FT t (AA rules i))),CT];intro i e f _;rw[AD e f,bs,dO hf (j.each _ (AK e f)).1,bs,Ka]
theorem X0(hf:At t)(e:JR rules)(h:AG):JL t rules h=some (N8 t rules h):=by
 unfold JL N8;rw[dP hf e,bs,Uf hf,bs];exact DW fun _=>rfl
theorem fb(hf:At t)(q:JR rules)(h:AG):C9 t rules h=some (N8 t rules h):=by
 unfold C9 N8 Pu;rw[Mn hf,bs];by_cases f:¬(Ax t).2=0
 .grind
 have f:=Classical.not_not.1 f;rw[az (by simp[f]),az (show¬(Ax t).2≠0 by simp[f])];by_cases s:10<rules.length
 .grind
 rw [az (by simp;omega),az s,BU (fun i=>nz (FT t (AA rules i))),Di]
 .cases e:fst (fun i=>nz (FT t (AA rules i))) 0 (rules.length:Int)with
  |none=>
   grind [UX]
  |some v=>
   have:=jq e
   grind
 .intro i j o _;rw[AD j o,bs,cv hf (q.each _ (AK j o)).1,bs,Ka]
noncomputable def G0(t:AC)(rules:List hT)(h0:AG)(ms:List C4):List Ar×AG:=
 ms.foldl (fun s m=>(s.1++[(Ir t rules s.2 m).1],(Ir t rules s.2 m).1.tn)) ([],h0)
noncomputable def Ro(t:AC)(rules:List hT)(h0:AG)(ms:List C4)(i:Int):Int:=(Ir t rules (G0 t rules h0 (ms.take i.toNat)).2 (AA ms i)).2
theorem Om(t:AC)(rules:List hT)(e:AG)(f:List C4)(m:C4):G0 t rules e (f++[m])=((G0 t rules e f).1++[(Ir t rules (G0 t rules e f).2 m).1],(Ir t rules (G0 t rules e f).2 m).1.tn):=by
 unfold G0
 grind
theorem OS(t:AC)(rules:List hT)(f:AG)(e:List C4):(G0 t rules f e).1.length=e.length:=by
 refine Tc (P:=fun e=>(G0 t rules f e).1.length=e.length) rfl (fun e m j=>?_) e
 grind [Om,cE]
variable{α:Type}{i:Int}
theorem ja[Inhabited α]{l m:List α}(e:0<=i)(f:i<l.length):AA (l++m) i=AA l i:=by grind[LM]
theorem mU[Inhabited α](l:List α)(a:α):AA (l++[a]) l.length=a:=by
 rw [LM,az (by simp),Int.toNat_natCast,Nat.sub_self];rfl
theorem oi(t:AC)(rules:List hT)(f:AG)(e:List C4):∀i:Int,0<=i->i<e.length->AA (G0 t rules f e).1 i=(Ir t rules (G0 t rules f (e.take i.toNat)).2 (AA e i)).1:=by
 refine Tc (P:=fun e=>∀i:Int,0<=i->i<e.length->AA (G0 t rules f e).1 i=(Ir t rules (G0 t rules f (e.take i.toNat)).2 (AA e i)).1) (fun i o j=>by simp at j;omega) (fun e m q i o j=>?_) e;rw[Om];have s:=OS t rules f e;rw[cE,List.length_singleton]at j
 grind [ja,mU,Int.toNat_natCast,List.take_left']
noncomputable def PY(t:AC)(rules:List hT)(d:AY):List Ar×Int×Int:=
 if N8 t rules d.o3≠0 then([],0,N8 t rules d.o3)else if 30<d.kg.length then([],0,3)else
 match fst (fun i=>(nz (Ro t rules d.o3 d.kg i)).map fun e=>([],i,e)) 0 d.kg.length with
 |some r=>r|none=>((G0 t rules d.o3 d.kg).1,(d.kg.length:Int),0)
variable{d:AY}
theorem YA(hd:d.kg.length<=1000){f:AG->C4->Option (Ar×Int)}(hf:∀h m,f h m=some (Ir t rules h m)):
  fq (kl (ρ:=(List Ar×Int×Int)) (fun(o:Int)(q:List Ar×AG)=>
  (idx d.kg o).bind fun u=>
  (f q.2 u).bind fun j=>
  if (!decide (j.2=0))=true then
  some (.ret ([],o,j.2))
  else
  (Ah q.1 [j.1]).bind fun w=>
  some (.next (w,j.1.tn))) 0 (d.kg.length:Int) ([],d.o3)) (fun q=>
  some (q.1,(q.1.length:Int),(0:Int))) (fun z=>some z)=some (match fst (fun i=>(nz (Ro t rules d.o3 d.kg i)).map fun e=>([],i,e)) 0 d.kg.length with
   |some r=>r|none=>((G0 t rules d.o3 d.kg).1,(d.kg.length:Int),0)):=by
 rw [JB (a:=0) (s:=(([],d.o3):List Ar×AG)) (fun i=>G0 t rules d.o3 (d.kg.take i.toNat)) (fun i=>(nz (Ro t rules d.o3 d.kg i)).map fun e=>([],i,e)) (by omega) rfl]
 .cases fst (fun i=>(nz (Ro t rules d.o3 d.kg i)).map fun e=>(([],i,e):List Ar×Int×Int)) 0 (d.kg.length:Int)with
  |some r=>rfl|none=>
   show some _=some _;rw[Int.toNat_natCast,List.take_length,OS]
 .intro i o y _;have D:=OS t rules d.o3 (d.kg.take i.toNat);rw[AD o y,bs,hf,bs];show(if(!decide (Ro t rules d.o3 d.kg i=0))=true then _ else _)=_;by_cases e:Ro t rules d.o3 d.kg i=0
  .rw[az (by simp[e]),Af (by rw[D,c7];simp;unfold Ad;omega),bs,CD o y,Om,JC.2 e];rfl
  .rw[ae (by simp[e])];unfold nz;rw[az e];rfl
theorem fe(hf:At t)(e:JR rules)(d:AY):DI t rules d=some (PY t rules d):=by
 unfold DI PY;rw[fb hf e,bs];refine Ee fun f=>Lh (by simp;try omega) fun j=>?_;exact YA (by omega) (nO hf e)
theorem ft(hf:At t)(e:JR rules)(d:AY):J1 t rules d=some (PY t rules d):=by
 unfold J1 PY;rw[X0 hf e,bs];refine Ee fun f=>Lh (by simp;try omega) fun j=>?_;exact YA (by omega) (np hf e)
structure SU(t:AC)(rules:List hT)(d:AY):Prop where
 given:N8 t rules d.o3=0
 few:d.kg.length<=30
 moves:∀i:Int,0<=i->i<d.kg.length->Ro t rules d.o3 d.kg i=0
theorem YF:(PY t rules d).2.2=0↔SU t rules d:=by
 unfold PY;constructor
 .intro h;split at h
  .grind
  rename_i f;split at h
  .cases h
  rename_i j;split at h
  .grind[Cw,nz,Ro,cd]
  .rename_i e;rw[B0]at e;refine⟨Classical.not_not.1 f,by omega,fun i o q=>?_⟩
   grind [LF,JC]
 .rintro⟨f,j,s⟩
  grind [B0,JC]
theorem dV(h:SU t rules d):PY t rules d=((G0 t rules d.o3 d.kg).1,(d.kg.length:Int),0):=by
 unfold PY;rw[az (by simp[h.given]),az (by have:=h.few;omega),B0.2 fun i e f=>by rw[JC.2 (h.moves i e f)];rfl]
structure Z5(h:AG)(s:Ar):Prop where
 AaG:s.Aan.d3.length=h.d5.d3.length
 AaP:s.Aan.d4.length=h.d5.d4.length
 node:∀x∈s.Aan.d3,-1<=x/\x<s.tn.d5.d3.length
 edge:∀x∈s.Aan.d4,-1<=x/\x<s.tn.d5.d4.length
 sm:HH s.tn
variable{x:AG}{L:BD}
theorem nY(h:(Ht t x L).2=0):Ht t x L=(⟨x.d5,L.foldl CR x.gn⟩,0)/\L.any (Nq t x)=false:=by
 unfold Ht at h|-
 grind
structure Pa(t:AC)(r:hT)(h:AG)(m:AM):Prop where
 f:H3 t r h m
 sat:LG t r.kp r.d7 h m r.pq=(true,0)
 solve:FA t r.kp h m.d6=(m.hV,0)
 chk:F5 t r.kp.d5 h.d5 m.d6 r.pq=0
 put:(Ht t (CS t r (Bv h (dS r h m)) (cS r h m)) (Bw r (cS r h m) m.hV)).2=0
 few:(CS t r (Bv h (dS r h m)) (cS r h m)).d5.d3.length<=40/\(CS t r (Bv h (dS r h m)) (cS r h m)).d5.d4.length<=80
def RS(t:AC)(r:hT)(h:AG)(m:AM):AG:=⟨(CS t r (Bv h (dS r h m)) (cS r h m)).d5,(Bw r (cS r h m) m.hV).foldl CR (CS t r (Bv h (dS r h m)) (cS r h m)).gn⟩
def Uo(t:AC)(r:hT)(h:AG)(m:AM):Ar:=Ar.mk r m h (RS t r h m) (Gv h (dS r h m)) (cS r h m)
variable{r:hT}{h:AG}{m:AM}
theorem en(hf:At t)(fr:PQ r)(G:EN r.d7<=40)(e:(NP t r h m).2=0):Pa t r h m/\NP t r h m=(Uo t r h m,0):=by
 unfold NP at e|-;split at e
 .rename_i j;exact absurd e j
 rename_i j;rw[az j];split at e
 .rename_i o;exact absurd e o
 rename_i o;rw[az o];split at e
 .cases e
 rename_i z;rw[az z];split at e
 .rename_i q;exact absurd e q
 rename_i q;rw[az q];split at e
 .cases e
 rename_i D;rw[az D];split at e
 .rename_i w;exact absurd e w
 rename_i w;rw[az w];split at e
 .rename_i y;exact absurd e y
 rename_i y;rw[az y];split at e
 .cases e
 rename_i E;rw[az E];have j:=Classical.not_not.1 j;have o:=Classical.not_not.1 o;have z:=Classical.not_not.1 z;have q:=Classical.not_not.1 q;have D:=Classical.not_not.1 D;have w:=Classical.not_not.1 w;have y:=Classical.not_not.1 y;obtain⟨_,_,_,H⟩:=Ty hf G (Uw j o z q D);have s:H3 t r h m:=⟨hf,fr,j,o,H,(Uy w).1⟩;unfold WW at e|-;split at e
 .rename_i u;exact absurd e u
 rename_i u;rw[az u];have u:=Classical.not_not.1 u;obtain⟨F,I⟩:=nY u;split at e
 .cases e
 rename_i f;rw[az f];rw[F]at f;refine⟨⟨s,?_,?_,z,u,?_⟩,?_⟩
 .exact Prod.ext (by simpa using E) y
 .exact Prod.ext D q
 .simp only[not_or,Nat.not_lt]at f;exact f
 .rw[F];rfl
theorem Pa.trk(s:Pa t r h m):Z5 h (Uo t r h m):=by
 have D:=s.f.rem;have j:=s.f.put;have E:((CS t r (Bv h (dS r h m)) (cS r h m)).d5.d3.length)=(dS r h m).d3.length+(Hr r).length:=by
  show (List.length (_++_))=_;rw[cE,ca];show((dS r h m).d3.map _).length+_=_;rw[ca];rfl
 have he:((CS t r (Bv h (dS r h m)) (cS r h m)).d5.d4.length)=(dS r h m).d4.length+(Me r).length:=by
  show (List.length (_++_))=_;rw[cE,ca];show((dS r h m).d4.map _).length+_=_;rw[ca];rfl
 have u:J7 (RS t r h m).gn (CS t r (Bv h (dS r h m)) (cS r h m)).gn:=XN _ _;have y:(RS t r h m).gn.length=(CS t r (Bv h (dS r h m)) (cS r h m)).d5.d3.length:=by
  have:=congrArg List.length u;rw[ca,ca]at this;rw[this,j.vlen]
 refine ⟨Ig _ _,Ig _ _,fun x o=>?_,fun x o=>?_,⟨?_,?_,?_,fun v hv=>?_⟩⟩
 .obtain⟨i,hi,rfl⟩:=List.mem_map.1 o;have:=OM (dS r h m).d3 i;have z:(Uo t r h m).tn.d5.d3.length=(CS t r (Bv h (dS r h m)) (cS r h m)).d5.d3.length:=rfl
  grind
 .obtain⟨i,hi,rfl⟩:=List.mem_map.1 o;have:=OM (dS r h m).d4 i;have z:(Uo t r h m).tn.d5.d4.length=(CS t r (Bv h (dS r h m)) (cS r h m)).d5.d4.length:=rfl
  grind
 .have:=s.few.1;show(CS t r (Bv h (dS r h m)) (cS r h m)).d5.d3.length<=1000;omega
 .have:=s.few.2;show(CS t r (Bv h (dS r h m)) (cS r h m)).d5.d4.length<=1000;omega
 .have:=s.few.1;show(RS t r h m).gn.length<=1000;omega
 .have w:v.length∈(RS t r h m).gn.map List.length:=List.mem_map.2 ⟨v,hv,rfl⟩;rw[u,s.f.rows]at w;obtain⟨n,q,e⟩:=List.mem_map.1 w;have:=GG j.hf (Int.le_refl _) (DF j.hv).par (j.kind n q).2;omega
end Go.Sf.Sc
namespace Go.Sf.Sc
open Go Go.Sf
def Pb(l by':Fp):Fp:=l.map fun x=>if x<0 then -1 else AA by' x
def bW(m tr:d6):d6:=⟨Pb m.d3 tr.d3,Pb m.d4 tr.d4⟩
def U4(m:d6)(l:List Ar):d6:=l.foldl (fun m s=>bW m s.Aan) m
def Vj(g:d5):d6:=⟨Ao g.d3.length,Ao g.d4.length⟩
variable{l by':Fp}
theorem ZU(s:l.length<=1000)(h:∀x∈l,-1<=x/\x<by'.length):FG l by'=some (Pb l by'):=by
 unfold FG slices_Clone_int;rw[BO (by unfold Ad;omega),bs,Bk (fun i=>(Ao l.length).map fun j=>if j<i then(if AA l j<0 then -1 else AA by' (AA l j))else AA l j) (by omega)]
 .grind[Pb,cU,CG]
 .conv=>rhs;rw[<-PO l]
  grind [CG]
 .intro i f o;have q:=h _ (AK f o);rw[AD f (by rw[ca,A3];exact o),bs,HD _ f o,az (show¬i<i by omega)];by_cases e:0<=AA l i
  .rw[ae (by simpa using e),AD e q.2,bs,bs,GY _ f]
   grind
  grind
theorem Zc(q:l.length<=1000)(h:∀x∈l,-1<=x/\x<by'.length):JK l by'=some (Pb l by'):=by
 unfold JK;rw[QZ (F:=fun x=>if x<0 then -1 else AA by' x) fun i s f j u=>?_]
 .rfl
 .have o:=h _ (AK f j);rw[AD f j,bs];by_cases e:AA l i<0
  .rw[ae (by simpa using e),Af (by simp;unfold Ad;omega),bs,ae e]
  .rw[az (by simpa using e),bs,AD (by omega) o.2,bs,Af (by simp;unfold Ad;omega),bs,az e]
variable{n:Nat}
theorem Vs(h:n<=1000):FJ n=some (Ao n):=by
 unfold FJ IJ;rw[ae (by omega),bs,Int.toNat_natCast,List.length_replicate,Bk (fun i=>(Ao n).map fun j=>if j<i then j else 0) (by omega)]
 .rw[bs];congr 1
  conv=>rhs;rw[<-List.map_id' (Ao n)]
  exact CG fun j u o=>ae o
 .refine List.ext_getElem (by simp[A3]) (fun k w z=>?_);have e:(Ao n)[k]'(by simpa[A3]using w)=(k:Int):=by simp[Ao]
  simp only[List.getElem_map,List.getElem_replicate,e];rw[az (by omega)]
 .intro i q y;rw[AD q (by rw[ca,A3];exact y),bs,GY _ q];congr 1;refine CG fun j u o=>?_;by_cases f:j=i
  .rw[ae f,ae (by omega),f]
  .rw[az f];by_cases s:j<i
   .rw[ae s,ae (show j<i+1 by omega)]
   .rw[az s,az (show¬j<i+1 by omega)]
variable{g:d5}
theorem ap(h:Bl g=0):Cs g=some (Vj g):=by
 have e:=Cm h;have:=e.ei;have:=e.em;unfold Cs Dw;rw[KC,bs,az (by simp[h]),Vs (by omega),bs,Vs (by omega),bs,bs];rfl
theorem Xz(h:n<=1000):IL n=some (Ao n):=by
 unfold IL;rw[LO (fun _=>true) id]
 .rw[bs,List.map_id,List.filter_eq_self.2 fun _ _=>rfl]
 .intro i s e f j;rw[Af (by simp;unfold Ad;omega),bs,ae rfl];rfl
theorem uB(h:Bl g=0):Oi g=some (Vj g):=by
 have e:=Cm h;have:=e.ei;have:=e.em;unfold Oi;rw[Xz (by omega),bs,Xz (by omega),bs];rfl
structure be(m:d6)(g:d5):Prop where
 AaG:m.d3.length<=1000
 AaP:m.d4.length<=1000
 node:∀x∈m.d3,-1<=x/\x<g.d3.length
 edge:∀x∈m.d4,-1<=x/\x<g.d4.length
theorem rA(h:Bl g=0):be (Vj g) g:=by
 have f:=Cm h;have:=f.ei;have:=f.em;refine⟨by show(Ao _).length<=1000;rw[A3];omega,by show(Ao _).length<=1000;rw[A3];omega,fun x e=>?_,fun x e=>?_⟩
 .have:=EQ.1 e;omega
 .have:=EQ.1 e;omega
theorem Wu(f:∀x∈l,-1<=x/\x<by'.length)(j:∀x∈by',-1<=x/\x<n):∀x∈Pb l by',-1<=x/\x<n:=by
 intro x e;obtain⟨y,o,rfl⟩:=List.mem_map.1 e
 grind [AK]
variable{h:AG}
theorem lc{m:d6}{s:Ar}(e:be m h.d5)(f:Z5 h s):be (bW m s.Aan) s.tn.d5:=by
 refine ⟨by show(List.map _ _).length<=1000;rw[ca];exact e.AaG,by show(List.map _ _).length<=1000;rw[ca];exact e.AaP,?_,?_⟩
 .exact Wu (fun x j=>by have:=e.node x j;rw[f.AaG];exact this) f.node
 .exact Wu (fun x j=>by have:=e.edge x j;rw[f.AaP];exact this) f.edge
variable{t:AC}{rules:List hT}
theorem U8(hf:At t)(j:JR rules){m:C4}(e:(Ir t rules h m).2=0):
  (0<=m.hT/\m.hT<rules.length)/\Pa t (AA rules m.hT) h m.pc/\Ir t rules h m=(Uo t (AA rules m.hT) h m.pc,0):=by
 unfold Ir at e|-;split at e
 .cases e
 rename_i o;rw[az o];have f:=j.each _ (AK (l:=rules) (i:=m.hT) (by omega) (by omega));exact⟨by omega,en hf f.1 f.2 e⟩
theorem SW(hf:At t)(e:N8 t rules h=0):Pu t rules=0/\(H7 t h).2=0/\(Ax t).2=0/\IB t h:=by grind[N8,SX]
variable{d:AY}
theorem Nj(hf:At t)(j:JR rules)(h:SU t rules d):∀n:Nat,n<=d.kg.length ->
  HH (G0 t rules d.o3 (d.kg.take n)).2/\be (U4 (Vj d.o3.d5) (G0 t rules d.o3 (d.kg.take n)).1) (G0 t rules d.o3 (d.kg.take n)).2.d5
 |0,_=>by
  obtain ⟨_,q,f,o⟩:=SW hf h.given;exact⟨QW hf f o,rA o.ge⟩
 |n+1,w=>by
  obtain ⟨q,f⟩:=Nj hf j h n (by omega);have he:=h.moves n (by omega) (by omega);have e:=CD (l:=d.kg) (i:=(n:Int)) (by omega) (by omega);rw[show((n:Int)+1).toNat=n+1 by omega,Int.toNat_natCast]at e;unfold Ro at he;rw[Int.toNat_natCast]at he;obtain⟨_,s,u⟩:=U8 hf j he;rw[e,Om,u];refine⟨s.trk.sm,?_⟩;unfold U4 at f|-;rw[List.foldl_append];exact lc f s.trk
noncomputable def U5(t:AC)(rules:List hT)(d:AY):AG×d6×Int:=
 if (PY t rules d).2.2≠0 then(⟨⟨[],[]⟩,[]⟩,⟨[],[]⟩,(PY t rules d).2.2)else((G0 t rules d.o3 d.kg).2,U4 (Vj d.o3.d5) (G0 t rules d.o3 d.kg).1,0)
variable{x:AG}
theorem cl(h:HH x):E2 x=some x:=by
 have:=h.ei;have:=h.em;have:=h.vals;unfold E2 slices_Clone_int DJ;rw[BO (by unfold Ad;omega),bs,BO (by unfold Ad;omega),bs];rw[Bk (fun i=>AG.mk x.d5 (x.gn.take i.toNat)) (by omega) (by rfl)]
 .rw[Int.toNat_natCast,List.take_length];rfl
 .intro i e f;have:=h.rows _ (AK e f)
  grind [AD,BO,Ad,Af,CD]
theorem XJ(hf:At t)(q:JR rules)(h:SU t rules d){f:Int->AG×d6->Option (AG×d6)}
  (w:∀(i:Int)(s:AG×d6),0<=i->i<d.kg.length->be s.2 s.1.d5->Z5 s.1 (AA (G0 t rules d.o3 d.kg).1 i)->f i s=some ((AA (G0 t rules d.o3 d.kg).1 i).tn,bW s.2 (AA (G0 t rules d.o3 d.kg).1 i).Aan)):
  sr f 0 ((G0 t rules d.o3 d.kg).1.length:Int) (d.o3,Vj d.o3.d5)=some ((G0 t rules d.o3 d.kg).2,U4 (Vj d.o3.d5) (G0 t rules d.o3 d.kg).1):=by
 rw [OS,Bk (fun i=>((G0 t rules d.o3 (d.kg.take i.toNat)).2,U4 (Vj d.o3.d5) (G0 t rules d.o3 (d.kg.take i.toNat)).1)) (by omega) (by rfl)]
 .rw[Int.toNat_natCast,List.take_length]
 .intro i e j;obtain⟨z,y⟩:=Nj hf q h i.toNat (by omega);have he:=h.moves i e j;unfold Ro at he;obtain⟨_,s,u⟩:=U8 hf q he;have o:=oi t rules d.o3 d.kg i e j;rw[u]at o;rw[w i _ e j y (by rw[o];exact s.trk),CD e j,Om,u,o];unfold U4;rw[List.foldl_append];rfl
theorem kK(hf:At t)(f:JR rules)(d:AY):C7 t rules d=some (U5 t rules d):=by
 unfold C7 U5;rw[fe hf f,bs];refine Ee fun q=>?_;have h:=YF.1 q;obtain⟨_,_,_,hh⟩:=SW hf h.given;rw[ap hh.ge,bs,dV h];simp only[];rw[XJ hf f h fun i s u w e o=>?_]
 .have:=(Nj hf f h d.kg.length (bk _)).1
  grind [List.take_length,cl]
 .rw[AD u (by rw[OS];exact w),bs,ZU e.AaG (fun x j=>by rw[o.AaG];exact e.node x j),bs,ZU e.AaP (fun x j=>by rw[o.AaP];exact e.edge x j),bs];rfl
theorem kZ(hf:At t)(f:JR rules)(d:AY):Kt t rules d=some (U5 t rules d):=by
 unfold Kt U5;rw[ft hf f,bs];refine Ee fun q=>?_;have h:=YF.1 q;obtain⟨_,_,_,hh⟩:=SW hf h.given;rw[uB hh.ge,bs,dV h];simp only[];rw[XJ hf f h fun i s u w e o=>?_]
 .have:=(Nj hf f h d.kg.length (bk _)).1;rw[List.take_length]at this;rw[bs,SF this];rfl
 .simp only[AD u (show i<(G0 t rules d.o3 d.kg).1.length by rw[OS];exact w),bs];rw[Zc e.AaG (fun x j=>by rw[o.AaG];exact e.node x j),bs,Zc e.AaP (fun x j=>by rw[o.AaP];exact e.edge x j),bs];rfl
structure RR(m:AM):Prop where
 ei:m.d6.d3.length<=1000
 em:m.d6.d4.length<=1000
 vars:m.hV.length<=1000
structure Tp(d:AY):Prop where
 start:HH d.o3
 len:d.kg.length<=1000
 moves:∀m∈d.kg,RR m.pc
variable{r:hT}{m:AM}
theorem Pa.small(s:Pa t r h m):RR m:=by
 have j:=s.f.left;have e:=s.f.ro.left;have o:=s.f.at_.len;have u:=s.f.at_.q.vars;have:=e.ei;have:=e.em;exact⟨by omega,by omega,by omega⟩
theorem SU.small(hf:At t)(e:JR rules)(h:SU t rules d):Tp d:=by
 obtain ⟨_,_,j,o⟩:=SW hf h.given;refine⟨QW hf j o,by have:=h.few;omega,fun m f=>?_⟩;obtain⟨i,q,s,rfl⟩:=BV f;have he:=h.moves i q s;unfold Ro at he;exact(U8 hf e he).2.1.small
theorem nv(h:RR m):JM m=some m:=by
 have:=h.ei;have:=h.em;have:=h.vars;unfold JM;rw[BO (by unfold Ad;omega),bs,BO (by unfold Ad;omega),bs,BO (by unfold Ad;omega),bs]
variable{α:Type}
theorem fY[Inhabited α]{σ:Type}{l:List α}(e:l.length<=1000)(g:List α->σ){f:Int->σ->Option σ}(h:∀(i:Int)s,0<=i->i<l.length->s.length<=1000->f i (g s)=some (g (s++[AA l i]))):sr f 0 l.length (g [])=some (g l):=by
 have:=Bk (f:=f) (s:=g []) (fun i=>g (l.take i.toNat)) (a:=0) (b:=l.length) (by omega) rfl (fun i j o=>by
  grind [c7,CD])
 rwa [Int.toNat_natCast,List.take_length]at this
theorem nu(h:Tp d):J0 d=some d:=by
 unfold J0;rw[SF h.start,bs];have:=fY (l:=d.kg) h.len (fun l=>AY.mk d.o3 l) (f:=fun(e:Int)(w:AY)=>
  (idx d.kg e).bind fun j=>
  (idx d.kg e).bind fun o=>
  (JM o.pc).bind fun q=>
  (Ah w.kg [C4.mk j.hT q]).bind fun u=>
  some (AY.mk w.o3 u)) (fun i s e y z=>by
   rw [AD e y,bs,bs,nv (h.moves _ (AK e y)),bs,Af (by simp;unfold Ad;omega),bs])
 rw [this];rfl
end Go.Sf.Sc
namespace Go.Sf.Sc
open Go Go.Sf
end Go.Sf.Sc
namespace Go.Sf.Sc
open Go Go.Sf
end Go.Sf.Sc
namespace Go.Sf.Sc
open Go Go.Sf
variable{ρ:Type}
theorem pG{f:Int×Int->Option (Bp (Int×Int) ρ)}(I:Int->Int->Prop)(b:Int){s a:Int}(u:I a s)
  (step:∀i s,a<=i->I i s->(i<b/\∃s',f (s,i)=some (.next (s',i+1))/\I (i+1) s')\/f (s,i)=some (.brk (s,i))):∃i s',a<=i/\I i s'/\EO f (s,a)=some (.inl (s',i)):=by
 have key:∀(n:Nat)(i s:Int),a<=i->I i s->b-i<=n->∃j s',i<=j/\I j s'/\LC f (s,i) (.inl (s',j)):=by
  intro n
  induction n with
  |zero=>
   intro i s hi e w;rcases step i s hi e with⟨h,_⟩|h
   .omega
   .exact⟨i,s,Int.le_refl _,e,.brk h⟩
  |succ n E=>
   intro i s hi e w;rcases step i s hi e with⟨_,s',o,q⟩|h
   .obtain⟨j,s2,F,y,z⟩:=E (i+1) s' (by omega) q (by omega);exact⟨j,s2,by omega,y,.next o z⟩
   .exact⟨i,s,Int.le_refl _,e,.brk h⟩
 obtain ⟨j,s',o,q,D⟩:=key (b-a).toNat a s (Int.le_refl _) u (by omega);exact⟨j,s',o,q,D.eq⟩
theorem WE{q w k:Int}(c:Int)(H:q<=1000)(y:0<=k)(o:k<=1000)(u:1<=c/\c<=80)(z:1<=w/\w<=400000):∃w' D,(1<=w'/\w'<=400000)/\EO (ρ:=ρ) (fun(j:Int×Int)=>
  if ((decide (j.2<q))&&(decide (j.1<=5000)))=true then
  some (.next (Ae (j.1*c),Ae (j.2+1)))
  else
  some (.brk (j.1,j.2))) (w,k)=some (.inl (w',D)):=by
 obtain ⟨i,s',K,F,G⟩:=pG (ρ:=ρ) (f:=fun(j:Int×Int)=>
  if ((decide (j.2<q))&&(decide (j.1<=5000)))=true then
  some (.next (Ae (j.1*c),Ae (j.2+1)))
  else
  some (.brk (j.1,j.2))) (fun i s=>(1<=s/\s<=400000)/\0<=i/\i<=1000) q (s:=w) (a:=k) ⟨z,y,o⟩ (fun i s hi E=>by
   by_cases e:i<q/\s<=5000
   .left;have I:1*1<=s*c:=Int.mul_le_mul E.1.1 u.1 (by omega) (by omega);have J:s*c<=5000*80:=Int.mul_le_mul e.2 u.2 (by omega) (by omega)
    grind [As]
   grind)
 exact ⟨s',i,F.1,G⟩
theorem Zk:∀(N:Nat)(c:d7)(p:ec)(w:Int),SizeOf.sizeOf c<=N->DU c->Ma p->EN c<=1000->1<=w->w<=5000->∃b,∀n,N<=n->Cz n p c w=some b
 |0,c,_,_,h,_,_,_,_,_=>by have:=D4 c;omega|N+1,c,p,w,h,U,O,hk,w0,w1=>by
  have key:∀q:ec,Ma q->∃b,∀n,N<=n->fq (EO (ρ:=Bool) (fun(f:Int×Int)=>
    if ((decide (f.2<(q.d5.d3.length:Int)))&&(decide (f.1<=5000)))=true then
    some (.next (Ae (f.1*40),Ae (f.2+1)))
    else
    some (.brk (f.1,f.2))) (w,(p.d5.d3.length:Int))) (fun f=>
    fq (EO (ρ:=Bool) (fun(s2:Int×Int)=>
    if ((decide (s2.2<(q.d5.d4.length:Int)))&&(decide (s2.1<=5000)))=true then
    some (.next (Ae (s2.1*80),Ae (s2.2+1)))
    else
    some (.brk (s2.1,s2.2))) (f.1,(p.d5.d4.length:Int))) (fun s2=>
    fq (EO (ρ:=Bool) (fun(o:Int)=>
    if ((decide (o<(c.gt.length:Int)))&&(decide (s2.1<=5000)))=true then
    (idx c.gt o).bind fun y=>
    (Cz n q y s2.1).bind fun z=>
    if (!z)=true then
    some (.ret false)
    else
    some (.next (Ae (o+1)))
    else
    some (.brk o)) 0) (fun o=>
    some (decide (s2.1<=5000))) (fun V=>some V)) (fun W=>some W)) (fun X=>some X)=some b:=by
   intro q s;have q1:=s.ei;have q2:=s.em;have p1:=O.ei;have p2:=O.em;obtain⟨a,k,Z,S⟩:=WE (ρ:=Bool) (q:=q.d5.d3.length) (w:=w) (k:=p.d5.d3.length) 40 (by omega) (by omega) (by omega) (by omega) (by omega);obtain⟨a',k',I,u⟩:=WE (ρ:=Bool) (q:=q.d5.d4.length) (w:=a) (k:=p.d5.d4.length) 80 (by omega) (by omega) (by omega) (by omega) Z;have Y:c.gt.length<=1000:=by have:=Rh c.gt;have:=Ri c;omega
   by_cases H:a'<=5000
   .have kids:∀x∈c.gt,∃b,∀n,N<=n->Cz n q x a'=some b:=fun x D=>by
     have E:=Ey D;have F:=TE D;have h3:=Ri c;exact Zk N x q a' (by omega) (U.k x D) s (by omega) I.1 H
    have j:∀i:Int,∃b:Bool,0<=i->i<c.gt.length->∀n,N<=n->Cz n q (AA c.gt i) a'=some b:=fun i=>by
     by_cases e:0<=i/\i<c.gt.length
     .obtain⟨b,J⟩:=kids _ (AK e.1 e.2);exact⟨b,fun _ _=>J⟩
     .exact⟨true,fun E F=>absurd ⟨E,F⟩ e⟩
    obtain ⟨g,hg⟩:=Classical.axiomOfChoice j;refine⟨(fst (fun i=>if g i=true then none else some (Sum.inr false:Int ⊕ Bool)) 0 c.gt.length).isNone,fun n G=>?_⟩;rw[S,Bh];simp only[];rw[u,Bh];simp only[];rw[LZ (fun i=>if g i=true then none else some (.inr false)) (b:=c.gt.length) (by omega)]
    .cases e:fst (fun i=>if g i=true then none else some (Sum.inr false:Int ⊕ Bool)) 0 (c.gt.length:Int)with
     |none=>
      show some (decide (a'<=5000))=some true;rw[decide_eq_true H]
     |some r=>
      obtain ⟨i,_,_,K,_⟩:=Cw e;split at K
      .cases K
      .cases K;rfl
    .intro i P Q _;rw[ae (by simp;omega),AD P Q,bs,hg i P Q n G,bs,As (by omega) (by omega)];cases g i<;>rfl
    .rw[az (by simp)]
   .refine⟨false,fun n G=>?_⟩;rw[S,Bh];simp only[];rw[u,Bh];simp only[];rw[LZ (fun _=>none) (b:=0) (by omega) (fun i E F _=>by omega) (by rw[az (by simp;omega)])];rw[cO (by omega)];show some _=some _;rw[decide_eq_false H]
  have s:Ma (if c.ns=5 then c.ec else p):=by split;exact U.q;exact O
  obtain ⟨b,J⟩:=key _ s;refine⟨b,fun n G=>?_⟩;obtain⟨n,rfl⟩:∃k,n=k+1:=⟨n-1,by omega⟩;rw[Cz,show(if decide (c.ns=5)=true then some c.ec else some p)=some (if c.ns=5 then c.ec else p)by by_cases e:c.ns=5<;>simp[e],bs];exact J n (by omega)
end Go.Sf.Sc
namespace Go.Sf.Sc
open Go Go.Sf
variable{r:hT}
theorem YG(e:(B3 r).Sm):(AJ r.d7).Sm:=by
 have f:TV.Sms [_,_,_,_,_,_,_,_,_,_,_,_,_,_,_,_,_,_,_,_,_,_,_,_,_]:=e;obtain⟨_,_,_,_,_,_,_,_,_,_,_,z,D,E,F,_,j,o,c3,q,s,u,w,y,c9,_⟩:=f;exact⟨j,o,c3,q,s,u,w,y,c9,trivial⟩
variable{t:AC}
theorem j7(hf:At t)(st:(AQ t).Sm)(e:(B3 r).Sm)(h:AG):∃b,JJ t r h=some b/\(b=true->PQ r/\EN r.d7<=40):=by
 obtain ⟨f,j,_⟩:=Rr st;obtain⟨o,q,s⟩:=fB e;obtain⟨u,w,y⟩:=dJ hf st r.kp (YG e) h;unfold JJ
 grind
variable{rules:List hT}
theorem j8(st:(AQ t).Sm)(V:∀r∈rules,(B3 r).Sm)(h:AG):∃b,Ku t rules h=some b/\(b=true->At t/\JR rules):=by
 obtain ⟨b1,e1,f1⟩:=Rr st;obtain⟨b2,e2⟩:=XE h;unfold Ku;by_cases Q:(((decide (4<(rules.length:Int)))&&(decide ((rules.length:Int)<=10)))||(decide (12<(rules.length:Int))))=true
 .rw[ae Q,bs,ae rfl,bs,ae rfl];exact⟨false,rfl,fun h=>by cases h⟩
 rw [az Q,e1,bs,bs];cases b1 with
 |false=>exact⟨false,rfl,fun h=>by cases h⟩
 |true=>
 rw [az (by decide),e2,bs,bs];cases b2 with
 |false=>exact⟨false,rfl,fun h=>by cases h⟩
 |true=>
 rw [az (by decide)];have hf:=f1 rfl;have Y:rules.length<=12:=by
  simp only[Bool.or_eq_true,tg,zzX,not_or]at Q;omega
 rcases QO (f:=fun(o:Int)(W:Bool)=>
  (idx rules o).bind fun y=>
  (JJ t y h).bind fun z=>
  if (!z)=true then
  some (.ret false)
  else
  (if W=true then((idx rules o).bind fun D=>
  some (decide ((D.kp.d5.d3.length:Int)<=3)))else some false).bind fun E=>
  (if E=true then((idx rules o).bind fun F=>
  some (decide ((F.kp.d5.d4.length:Int)<=2)))else some false).bind fun G=>
  (if G=true then((idx rules o).bind fun H=>
  some (decide ((H.fd.d5.d3.length:Int)<=5)))else some false).bind fun I=>
  (if I=true then((idx rules o).bind fun J=>
  (idx rules o).bind fun K=>
  (K5 J.kp K.d7 1).bind fun N=>
  some (N))else some false).bind fun O=>
  some (.next O)) (fun i _=>∀j:Int,0<=j->j<i->PQ (AA rules j)/\EN (AA rules j).d7<=40) (fun _=>False) (fun r=>r=false) (a:=0) (b:=rules.length) (s:=true) (by omega) (fun j h1 h2=>by omega) (fun i s o u P=>by
   have Z:=AK o u;obtain⟨b3,q,f3⟩:=j7 hf st (V _ Z) h;simp only[AD o u,bs];rw[q,bs];cases b3 with
   |false=>exact .inr (.inr ⟨false,rfl,rfl⟩)|true=>
    obtain ⟨S,k2⟩:=f3 rfl;obtain⟨U,e4⟩:=Zk _ (AA rules i).d7 (AA rules i).kp 1 (bk _) S.cond S.left (by omega) (by decide) (by decide);have e5:K5 (AA rules i).kp (AA rules i).d7 1=some U:=EC _ e4;left;refine⟨(((s&&decide (((AA rules i).kp.d5.d3.length:Int)<=3))&&decide (((AA rules i).kp.d5.d4.length:Int)<=2))&&decide (((AA rules i).fd.d5.d3.length:Int)<=5))&&U,?_,fun j X j1=>?_⟩
    .rw[az (by decide),e5];cases s<;>cases decide (((AA rules i).kp.d5.d3.length:Int)<=3)<;>cases decide (((AA rules i).kp.d5.d4.length:Int)<=2)<;>cases decide (((AA rules i).fd.d5.d3.length:Int)<=5)<;>rfl
    .by_cases e:j=i
     .rw[e];exact⟨S,k2⟩
     .exact P j X (by omega))with⟨s',q,h3⟩|⟨r,q,h3⟩
 .rw[q,Bh];have P:=h3.resolve_right id;have w:JR rules:=⟨Y,fun r w=>by
   obtain ⟨i,o,u,rfl⟩:=BV w;exact P i o u⟩
  rw [X0 hf w,bs];exact⟨_,rfl,fun _=>⟨hf,w⟩⟩
 .rw[q,PM,h3];exact⟨false,rfl,fun h=>by cases h⟩
variable{h:AG}
theorem cG:∃b,GU h=some b/\(b=true->HH h):=by
 unfold GU HZ;rw[bs];by_cases f:((!((decide ((h.d5.d3.length:Int)<=45))&&(decide ((h.d5.d4.length:Int)<=90))))||(decide (45<(h.gn.length:Int))))=true
 .rw[ae f];exact⟨false,rfl,fun h=>by cases h⟩
 rw [az f,BP (fun i=>decide (12<((AA h.gn i).length:Int))) false]
 .cases e:og (fun i=>decide (12<((AA h.gn i).length:Int))) 0 h.gn.length with
  |true=>exact⟨false,rfl,fun h=>by cases h⟩
  |false=>
   refine ⟨true,rfl,fun _=>?_⟩;rw[Bi]at e;simp only[Bool.or_eq_true,Bool.not_eq_true',Bool.and_eq_false_iff,decide_eq_false_iff_not,zzX,not_or]at f;refine⟨by omega,by omega,by omega,fun v hv=>?_⟩
   grind [BV]
 .intro i j o _;rw[AD j o,bs,Hs]
variable{m:AM}
theorem cH(e:(m.d6.d3.length:Int)<=140737488351232)(f:(m.d6.d4.length:Int)<=140737488351232):∃b,Ge m 140=some b/\(b=true->RR m):=by
 unfold Ge Jt;rw[bs];refine⟨_,rfl,fun h=>?_⟩;rw[U3 (by omega) e (by omega) f]at h;simp only[tg,zzX]at h;exact⟨by omega,by omega,by omega⟩
theorem kA{m:C4}(h:(Ft m).Sm):(m.pc.d6.d3.length:Int)<=140737488351232/\(m.pc.d6.d4.length:Int)<=140737488351232:=by
 have f:TV.Sms [_,_,_,_]:=h;exact⟨(G4 (e:=eI) f.2.1).1,(G4 (e:=eI) f.2.2.1).1⟩
variable{d:AY}
theorem jo(D:∀m∈d.kg,(Ft m).Sm){up:Int}(H:up<=100):∃b,Ni d up=some b/\(b=true->Tp d):=by
 obtain ⟨E,F,G⟩:=cG (h:=d.o3);unfold Ni;rw[F,bs];by_cases q:((!E)||(decide (up<(d.kg.length:Int))))=true
 .grind
 rw [az q];simp only[Bool.or_eq_true,Bool.not_eq_true',zzX,not_or,Bool.not_eq_false]at q;rcases QO (f:=fun(o:Int)(_:Unit)=>
  (idx d.kg o).bind fun u=>
  (Ge u.pc 140).bind fun w=>
  if (!w)=true then
  some (.ret false)
  else
  some (.next ())) (fun i _=>∀j:Int,0<=j->j<i->RR (AA d.kg j).pc) (fun _=>False) (fun r=>r=false) (a:=0) (b:=d.kg.length) (s:=()) (by omega) (fun j q I=>by omega) (fun i s o z hi=>by
   have y:=kA (D _ (AK o z));obtain⟨b,e,f⟩:=cH y.1 y.2;rw[AD o z,bs,e,bs];cases b with
   |false=>exact .inr (.inr ⟨false,rfl,rfl⟩)|true=>
    refine .inl ⟨(),rfl,fun j J K=>?_⟩
    grind)with⟨s',e3,h3⟩|⟨r,e3,h3⟩
 .rw[e3,Bh];have N:=h3.resolve_right id;refine⟨true,rfl,fun _=>⟨G q.1,by omega,fun m y=>?_⟩⟩
  grind [BV]
 grind [PM]
theorem fi(g:d5):MB g g=some true:=by
 unfold MB;rw[Zb,bs,az (by simp),BP (fun _=>false) false]
 .rw[show og (fun _=>false) 0 (g.d4.length:Int)=false from Bi.2 fun _ _ _=>rfl];rfl
 grind [AD]
variable{l:Fp}
theorem cz(j:l.length<=1000):I3 l l=some 0:=by
 unfold I3;rw[LZ (fun _=>none) (b:=l.length) (by omega)]
 .rw[show fst (fun _=>(none:Option (Int ⊕ Int))) 0 (l.length:Int)=none from B0.2 fun _ _ _=>rfl];show some (Ae ((l.length:Int)-l.length))=some 0;rw[As (by omega) (by omega),Int.sub_self]
 .intro i f e _;rw[ae (by simp[e]),AD f e,bs,bs,az (by simp),As (by omega) (by omega)];rfl
 .rw[az (by simp)]
theorem nZ(j:HH h):MD h h=some true:=by
 unfold MD;rw[fi,bs,az (by simp),BP (fun _=>false) false]
 .rw[show og (fun _=>false) 0 (h.gn.length:Int)=false from Bi.2 fun _ _ _=>rfl];rfl
 .intro i e f _;rw[AD e f,bs,bs,cz (j.rows _ (AK e f)),bs];simp
theorem Yc(h:JR rules):GE rules=some rules:=by
 have:=h.len
 grind [GE,BO,Ad]
end Go.Sf.Sc
