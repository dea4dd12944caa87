/- Plain lemmas: what the functions of the program and of the reference compute. -/
import Derived.Test.YtbgedoajacpdbaaGreatDoorSfF
import Derived.Test.YtbgedoajacpdbaaGreatDoorP46
set_option linter.all false
set_option maxRecDepth 100000
namespace Go.Sf.Sc
open Go Go.Sf
def Q3(p g:d5)(m:d6):d5:=⟨m.d3.map (AA g.d3),p.d4⟩
variable{l:Fp}
theorem OP{n x:Int}:x∈BB l n↔(0<=x/\x<n)/\x∉l:=by
 unfold BB;rw[List.mem_filter];constructor
 .grind[Int.natCast_nonneg,CG]
 .rintro⟨⟨e,j⟩,o⟩;refine⟨List.mem_map.2 ⟨x.toNat,List.mem_range.2 (by omega),Int.toNat_of_nonneg e⟩,?_⟩
  grind [hasB,CG]
theorem Li(l:Fp)(n:Int):(BB l n).Pairwise (·<·):=by grind[BB,List.pairwise_lt_range.imp]
def EO(images hV:Fp):Fp:=(BB hV images.length).map (AA images)
theorem R2{images hV:Fp}{x:Int}:x∈EO images hV↔∃i:Int,(0<=i/\i<images.length)/\i∉hV/\AA images i=x:=by grind[EO,OP]
def AaG(images hV:Fp):Bool:=ne (fun a=>ne (fun b=>decide (AA images a=AA images b)&&(!hasB hV a||!hasB hV b)) (a+1) images.length) 0 images.length
variable{a b:Int}
theorem aW{images hV:Fp}(h:AaG images hV=false)(a0:0<=a)(a1:a<images.length)(w:0<=b)(u:b<images.length)(y:a∈hV)(e:AA images a=AA images b):b∈hV:=by
 unfold AaG at h;rw[Bf]at h;by_cases o:a=b
 .exact o▸y
 by_cases z:a<b
 .have j:=h a a0 a1;rw[Bf]at j;have s:=j b (by omega) u;rw[decide_eq_true e,Bool.true_and,Bool.or_eq_false_iff]at s
  grind [CG]
 .have j:=h b w u;rw[Bf]at j;have s:=j a (by omega) a1;rw[decide_eq_true e.symm,Bool.true_and,Bool.or_eq_false_iff]at s
  grind [CG]
variable{i:Int}
theorem R4{images hV:Fp}(h:AaG images hV=false)(e:0<=i)(j:i<images.length)(o:i∈hV):AA images i∉EO images hV:=by grind[R2,aW]
def L3(g:d5)(hV:BA)(m:d6)(i:Int):Bool:=
 !hasB m.d4 i&&(hasB (EO m.d3 hV.d3) (AA g.d4 i).kq||hasB (EO m.d3 hV.d3) (AA g.d4 i).To)
def LC(g:d5)(hV:BA)(m:d6):BA:=⟨BB (EO m.d3 hV.d3) g.d3.length,BB (EO m.d4 hV.d4) g.d4.length⟩
def Ly(l g:d5)(hV:BA)(m:d6):BA×Int:=
 if IP l g m≠0 then(⟨[],[]⟩,IP l g m)else if EP l hV≠0 then(⟨[],[]⟩,EP l hV)else
 if (AaG m.d3 hV.d3||AaG m.d4 hV.d4)=true then(⟨[],[]⟩,15)else
 if ne (L3 g hV m) 0 g.d4.length=true then(⟨[],[]⟩,14)else(LC g hV m,0)
structure Wu(l g:d5)(hV:BA)(m:d6):Prop where
 mor:Wb l g m
 part:Wx l hV
 ei:AaG m.d3 hV.d3=false
 em:AaG m.d4 hV.d4=false
 free:∀i:Int,0<=i->i<g.d4.length->L3 g hV m i=false
variable{g:d5}
theorem fo{p:BA}(h:EP g p=0):Bt g=0/\ND g p=0:=by grind[EP]
theorem U6{l g:d5}{hV:BA}{m:d6}(h:(Ly l g hV m).2=0):Wu l g hV m/\Ly l g hV m=(LC g hV m,0):=by
 unfold Ly at h|-;split at h
 .grind
 rename_i j;rw[az j];split at h
 .grind
 rename_i o;rw[az o];split at h
 .grind
 rename_i e;rw[az e];split at h
 .grind
 rename_i s;rw[az s];simp[not_or]at e;exact⟨⟨Sh (Classical.not_not.1 j),Uk (fo (Classical.not_not.1 o)).2,e.1,e.2,Bf.1 (by simpa using s)⟩,rfl⟩
theorem db{l g:d5}{hV:BA}{m:d6}(h:Wu l g hV m):ND g (LC g hV m)=0:=by
 have y:=h.mor;have I:=y.gb;have J:∀x∈(LC g hV m).d3,0<=x/\x<g.d3.length:=fun x s=>Hl s;have K:∀x∈(LC g hV m).d4,0<=x/\x<g.d4.length:=fun x s=>Hl s;have o:∀{l:Fp}{n:Int},(∀x∈l,0<=x/\x<n)->l.Pairwise (·<·)->Oi l n=0:=by
  grind [Oi,B3,AJ,Kl]
 unfold ND;rw[o J (Li _ _),o K (Li _ _)];simp;rw[B3.2 fun i G H=>?_]
 .rfl
 have s:=AJ G H;generalize AA (LC g hV m).d4 i=x at s;have j:(0<=x/\x<g.d4.length)/\x∉EO m.d4 hV.d4:=OP.1 s;have hf:=I.fit _ (AJ j.1.1 j.1.2);have z:(AA g.d4 x).kq∉EO m.d3 hV.d3/\(AA g.d4 x).To∉EO m.d3 hV.d3:=by
  by_cases hi:x∈m.d4
  .obtain⟨k,E,F,e⟩:=BW hi;have u:k∈hV.d4:=by
    by_cases u:k∈hV.d4
    .exact u
    .exact absurd (R2.2 ⟨k,⟨E,F⟩,u,e⟩) j.2
   have ends:=h.part.ends k u;have he:=y.edge k E F;rw[e]at he;have D:=h.part.ei.1;have N:=D _ ends.1;have O:=D _ ends.2;have Q:=y.AaQ;rw[<-he.2.2.1,<-he.2.2.2];exact⟨R4 h.ei N.1 (by omega) ends.1,R4 h.ei O.1 (by omega) ends.2⟩
  .have hd:=h.free x j.1.1 j.1.2;unfold L3 at hd;rw[show hasB m.d4 x=false from by cases P:hasB m.d4 x with|false=>rfl|true=>exact absurd (CG.1 P) hi,Bool.not_false,Bool.true_and,Bool.or_eq_false_iff]at hd;exact⟨fun w=>by rw[CG.2 w]at hd;exact absurd hd.1 (by decide),fun w=>by rw[CG.2 w]at hd;exact absurd hd.2 (by decide)⟩
 grind [hasB,LC,AA,CG,OP]
def G0(n:Nat)(l:Fp):Fp:=(Aw n).map (Cw l)
variable{v:Int}
theorem VE(h:v∉l):Cw l v=-1:=by grind[Cw,B3,AJ]
theorem Sg(l:Fp)(v:Int):-1<=Cw l v/\Cw l v<l.length:=by
 by_cases h:v∈l
 .have:=IN h;omega
 .rw[VE h];omega
theorem L9:0<=Cw l v↔v∈l:=by grind[VE,IN]
theorem Lo(n:Nat)(l:Fp):(G0 n l).length=n:=by unfold G0;rw[ca,BE]
variable{n:Nat}
theorem Tm(e:0<=i)(j:i<n):AA (G0 n l) i=Cw l i:=Ia _ e j
theorem Xf(h:l.Nodup)(e:0<=i)(j:i<l.length):Cw l (AA l i)=i:=by
 have o:=IN (AJ e j)
 grind [Cw,AA,Kl]
def Ok(hV into at_:Fp)(n i:Int):Int:=if hasB into i=true then AA at_ (AA hV (Cw into i))else n+(BB into i).length
def Rr(count:Nat)(hV into at_:Fp)(n:Int):Fp:=(Aw count).map (Ok hV into at_ n)
theorem U5(count:Nat)(hV into at_:Fp)(n:Int):(Rr count hV into at_ n).length=count:=by unfold Rr;rw[ca,BE]
variable{count:Nat}
theorem cI{hV into at_:Fp}{n i:Int}(e:0<=i)(j:i<count):AA (Rr count hV into at_ n) i=Ok hV into at_ n i:=Ia _ e j
theorem JU(h:0<=i):((BB l i).length:Int)<=i:=by grind[PX]
end Go.Sf.Sc
namespace Go.Sf.Sc
open Go Go.Sf
variable{α:Type}
theorem gc{P:List α->Prop}(e:P [])(j:∀l a,P l->P (l++[a]))(l:List α):P l:=by
 have:∀l:List α,P l.reverse:=by
  intro l
  induction l with
  |nil=>exact e|cons a l o=>rw[List.reverse_cons];exact j _ _ o
 rw [<-List.reverse_reverse l];exact this _
def N8(L:BD):BD:=L.foldl (fun m p=>m.set p.1 p.2) []
theorem Xl(L:BD)(p:(Int×Int)×Int):N8 (L++[p])=(N8 L).set p.1 p.2:=by
 unfold N8
 grind
def QH(L:BD):Prop:=∀p∈L,∀q∈L,p.1=q.1->p.2=q.2
variable{k:Int×Int}{v:Int}
theorem R5:∀{m:BD},m.look k=some v->(k,v)∈m
 |[],h=>by cases h
 |p::r,h=>by
  unfold BD.look at h;split at h
  .grind
  .exact List.mem_cons_of_mem _ (R5 h)
theorem Vu:∀{m:BD},m.look k=none->∀p∈m,p.1≠k
 |[],_,p,j=>by cases j
 |q::r,h,p,j=>by
  unfold BD.look at h;split at h
  .cases h
  .rename_i e;rcases List.mem_cons.1 j with rfl|j
   .exact e
   .exact Vu h p j
theorem Zt:∀{m:BD},m.look k=none->m.set k v=m++[(k,v)]
 |[],_=>rfl|p::r,h=>by
  unfold BD.look at h;unfold BD.set;split at h
  .cases h
  .rename_i e;rw[az e,Zt h];rfl
theorem YS:∀{m:BD},m.look k=some v->m.set k v=m
 |[],h=>by cases h
 |p::r,h=>by
  unfold BD.look at h;unfold BD.set;split at h
  .grind
  .rename_i e;rw[az e,YS h]
theorem aS(V:List Fp)(p:(Int×Int)×Int):CR (CR V p) p=CR V p:=by
 unfold CR;split
 .apply List.ext_getElem?
  grind [Option.map_eq_map,Option.map_map,List.set_set]
 .rfl
theorem fI{m:BD}(hd:m.Dis){p:(Int×Int)×Int}(e:p∈m)(V:List Fp):CR (m.foldl CR V) p=m.foldl CR V:=by
 have j:m.Perm (m.erase p++[p]):=(List.perm_cons_erase e).trans (List.perm_append_singleton p (m.erase p)).symm;rw[<-UE hd j V,List.foldl_append];exact aS _ _
theorem QH.sub{L M:BD}(h:QH L)(e:∀p∈M,p∈L):QH M:=fun p j q o=>h p (e p j) q (e q o)
theorem ZX(L:BD):QH L->(N8 L).Dis/\(∀p,p∈N8 L↔p∈L)/\∀V,(N8 L).foldl CR V=L.foldl CR V:=by
 refine gc (P:=fun L=>QH L->(N8 L).Dis/\(∀p,p∈N8 L↔p∈L)/\∀V,(N8 L).foldl CR V=L.foldl CR V) (fun _=>⟨List.Pairwise.nil,fun p=>Iff.rfl,fun V=>rfl⟩) (fun L p j e=>?_) L;obtain⟨y,w,z⟩:=j (e.sub fun q o=>List.mem_append_left _ o);rw[Xl];cases s:(N8 L).look p.1 with
 |none=>
  grind [Zt,BD.set_dis]
 |some v=>
  have u:=R5 s;have hv:v=p.2:=e (p.1,v) (List.mem_append_left _ ((w _).1 u)) p (by simp) rfl
  grind [YS,List.mem_singleton,fI]
def OE(L:BD):Bool:=ne (fun i=>ne (fun k=>decide ((AA L k).1=(AA L i).1)&&!decide ((AA L k).2=(AA L i).2)) 0 i) 0 L.length
variable{L:BD}
theorem VW(h:OE L=false):QH L:=by
 intro p s q u e;obtain⟨a,a0,a1,rfl⟩:=BW s;obtain⟨b,w,y,rfl⟩:=BW u;unfold OE at h;rw[Bf]at h;by_cases j:a=b
 .rw[j]
 by_cases z:a<b
 .have o:=h b w y;rw[Bf]at o
  grind
 .have o:=h a a0 a1;rw[Bf]at o
  grind
theorem fK(L:BD)(V:List Fp):LT (L.foldl CR V) V:=by
 induction L generalizing V with
 |nil=>rfl|cons p r e=>exact(e (CR V p)).trans (Va V p)
end Go.Sf.Sc
namespace Go.Sf.Sc
open Go Go.Sf
variable{t:AC}{p g:d5}
theorem Rm{m:d6}{inj:Bool}(h:FK t p g m inj=0):Ed t p g=0/\LE t p g m=0/\VR t p g m:=by grind[XI,FK]
theorem cG{m:d6}{inj:Bool}(h:FK t p g m inj=0):FK t p g m false=0:=by grind[Rm,FK]
variable{α:Type}
theorem SU[Inhabited α](l:List α):(Aw l.length).map (AA l)=l:=by grind[b9,ca,BE,Ia]
variable{β:Type}
theorem nN[Inhabited α](l:List α)(f:α->β):l.map f=(Aw l.length).map fun j=>f (AA l j):=by
 rw [show(fun j=>f (AA l j))=f∘AA l from rfl,<-List.map_map,SU]
theorem nd(hf:Ap t){m:d6}{inj:Bool}(h:FK t p g m inj=0):D6 t p g m=some (Q3 p g m,0):=by
 obtain ⟨e,u,j⟩:=Rm h;obtain⟨_,o,z,_⟩:=LN e;unfold D6;rw[Ss hf,bs,az (by simp[e]),Vz hf e,bs,az (by simp[u])];unfold DJ;have:=o.ei;have:=o.em;have:=j.AaQ;rw[BY (by unfold Ae;omega),bs];rw[Qz (by omega) (fun x s=>?_) p.d4]
 .rfl
 .obtain⟨i,w,y,rfl⟩:=BW s;exact(j.node i w y).1
theorem oG(hf:Ap t){m:d6}{inj:Bool}(h:FK t p g m inj=0):IU t p g m=some (Q3 p g m,0):=by
 obtain ⟨z,E,w⟩:=Rm h;obtain⟨_,y,F,_⟩:=LN z;have:=y.ei;have:=y.em;have D:=w.AaQ;unfold IU IR;rw[VM hf,bs,az (by simp[cG h]),BY (by unfold Ae;omega),bs,BY (by unfold Ae;omega),bs,bs];rw[Mg (fun i=>d5.mk ((Aw p.d3.length).map fun j=>if j<i then AA g.d3 (AA m.d3 j)else AA p.d3 j) p.d4) (a:=0) (b:=p.d3.length) (by omega)]
 .have e:((Aw p.d3.length).map fun j=>if j<(p.d3.length:Int)then AA g.d3 (AA m.d3 j)else AA p.d3 j)=m.d3.map (AA g.d3):=by
   grind [nN,Cu]
  rw [e];rfl
 .congr 1;rw[<-SU p.d3,ca,BE]
  grind [Cu,SU]
 .intro i o s;have u:=w.node i o (by omega);simp[BE];rw[ae (by simpa using s),AD o (by omega),bs,AD u.1.1 u.1.2,bs,AD o (by rw[ca,BE];exact s),bs,Il _ o,Am (by omega) (by omega)]
  grind
 grind [ca,BE]
variable{n:Nat}{f:Int->List α->Option (List α)}
theorem Nd(q:Int->Bool)(F:Int->α)(h:∀i s,0<=i->i<(n:Int)->s.length<=i.toNat->f i s=some (if q i=true then s++[F i]else s)):pr f 0 n []=some (((Aw n).filter q).map F):=by
 have e:∀k:Nat,(((Aw k).filter q).map F).length<=k:=fun k=>by
  rw [ca];exact Nat.le_trans (List.length_filter_le _ _) (by rw[BE];exact bk _)
 have:=Bo (f:=f) (s:=[]) (fun i=>((Aw i.toNat).filter q).map F) (a:=0) (b:=n) (by omega) rfl (fun i j o=>by
  grind [Fh])
 grind
theorem XT{q:Int->Bool}{F:Int->α}:decide (0<((((Aw n).filter q).map F).length:Int))=ne q 0 n:=by
 rw [Bool.eq_iff_iff,zzX,Dy,ca];constructor
 .intro h;have j:(Aw n).filter q≠[]:=fun e=>by rw[e]at h;simp at h
  obtain ⟨x,w⟩:=List.exists_mem_of_ne_nil _ j
  grind [FY]
 .rintro⟨i,o,s,u⟩;have:i∈(Aw n).filter q:=List.mem_filter.2 ⟨FY.2 ⟨o,s⟩,u⟩
  grind
theorem cv{x:Bc}(e:x.m.d3.length<=1000):C4 x=some (EO x.m.d3 x.hV.d3):=by
 unfold C4;rw[Nd (fun i=>!hasB x.hV.d3 i) (AA x.m.d3)]
 .rfl
 grind [AD,Kf,hasB,Af,Ae]
theorem Tc{images hV:Fp}(e:images.length<=1000):I1 images hV=some (EO images hV):=by
 unfold I1;rw[Nd (fun i=>!hasB hV i) (AA images)]
 .rfl
 grind [Dg,hasB,Mt,AD,Af,Ae]
theorem a7{x:Bc}(e:x.m.d3.length<=1000)(he:x.g.d4.length<=1000):Cv x=some ((Aw x.g.d4.length).filter (L3 x.g x.hV x.m)):=by
 unfold Cv;rw[cv e,bs,Nd (L3 x.g x.hV x.m) id]
 .rw[bs,List.map_id]
 .intro i s j o u;rw[AD j o,bs,Kf,bs,Kf,bs,Kf,bs];unfold L3;change (if(!hasB x.m.d4 i)=true then(if hasB (EO x.m.d3 x.hV.d3) (AA x.g.d4 i).kq=true then some true else some (hasB (EO x.m.d3 x.hV.d3) (AA x.g.d4 i).To)).bind _ else some false).bind _=_;cases hasB x.m.d4 i<;>cases hasB (EO x.m.d3 x.hV.d3) (AA x.g.d4 i).kq<;>cases hasB (EO x.m.d3 x.hV.d3) (AA x.g.d4 i).To<;>simp[Af (show s.length+[i].length<=Ae by simp;unfold Ae;omega)]
theorem bF{l g:d5}{hV:BA}{m:d6}(e:m.d3.length<=1000)(he:g.d4.length<=1000):IT l g hV m=some ((Aw g.d4.length).filter (L3 g hV m)):=by
 unfold IT;rw[Tc e,bs,Nd (L3 g hV m) id]
 .rw[bs,List.map_id]
 .intro i s j o u;have hh:∀(l:Fp)(v:Int),Dg l v=some (hasB l v):=Mt;simp[AD j o,hh];unfold L3;cases hasB m.d4 i<;>cases hasB (EO m.d3 hV.d3) (AA g.d4 i).kq<;>cases hasB (EO m.d3 hV.d3) (AA g.d4 i).To<;>simp[Af (show s.length+[i].length<=Ae by simp;unfold Ae;omega)]
variable{a i:Int}
theorem O8{p:Int->Bool}(h:a<=i):ne p a (i+1)=(ne p a i||p i):=by
 rw [Bool.eq_iff_iff,Bool.or_eq_true,Dy,Dy]
 grind
theorem Uj{images hV:Fp}(J:images.length<=100){f:Int->Int->List F7->Option (List F7)}(hf:∀(i j:Int)s,0<=i->i<images.length->i<j->j<images.length->s.length<=20000->f i j s=some (if(decide (AA images i=AA images j)&&(!hasB hV i||!hasB hV j))=true then s++[F7.mk i j]else s)):
  ∃l,pr (fun(e:Int)(u:List F7)=>(pr (fun(o:Int)(s2:List F7)=>f e o s2) (Ad (e+1)) (images.length:Int) u).bind fun s2=>some s2) 0 (images.length:Int) []=some l/\l.length<=10000/\decide (0<l.length)=AaG images hV:=by
 have key:=Qv (f:=fun(e:Int)(u:List F7)=>(pr (fun(o:Int)(s2:List F7)=>f e o s2) (Ad (e+1)) (images.length:Int) u).bind fun s2=>some s2) (s:=[])
  (fun i s=>(s.length:Int)<=100*i/\decide (0<s.length)=ne (fun a=>ne (fun b=>decide (AA images a=AA images b)&&(!hasB hV a||!hasB hV b)) (a+1) images.length) 0 i) (a:=0) (b:=images.length) (by omega)
  (by refine⟨by simp,?_⟩;rw[Bf.2 (fun i z D=>by omega)];rfl) (fun i s e E F=>by
   have w:=Qv (f:=fun(o:Int)(s2:List F7)=>f i o s2) (s:=s)
    (fun j s'=>(s'.length:Int)<=100*i+(j-(i+1))/\decide (0<s'.length)=(decide (0<s.length)||ne (fun b=>decide (AA images i=AA images b)&&(!hasB hV i||!hasB hV b)) (i+1) j)) (a:=i+1) (b:=images.length) (by omega)
    (by refine⟨by have:=F.1;omega,?_⟩;rw[Bf.2 (fun i z D=>by omega),Bool.or_false]) (fun j s' K G y=>by
     refine ⟨_,hf i j s' e E (by omega) G (by have:=y.1;omega),?_,?_⟩
     .grind
     .rw[O8 (by omega),<-Bool.or_assoc,<-y.2]
      grind)
   grind [Am,O8])
 obtain ⟨l,H,N,I⟩:=key;exact⟨l,H,by omega,I⟩
theorem Zf{images hV:Fp}(G:images.length<=100):∃l,FO images hV=some l/\l.length<=10000/\decide (0<l.length)=AaG images hV:=by
 unfold FO;obtain⟨l,N,O⟩:=Uj (hV:=hV) G (f:=fun e o s2=>
  (idx images e).bind fun u=>
  (idx images o).bind fun w=>
  (if(decide (u=w))=true then((slices_Contains_int hV e).bind fun y=>
  (if(!y)=true then some true else((slices_Contains_int hV o).bind fun z=>
  some (!z))).bind fun D=>
  some (D))else some false).bind fun E=>
  if E=true then
  (Ah s2 [F7.mk e o]).bind fun F=>
  some F
  else
  some s2) (fun i j s e H J I K=>by
   have hh:∀(l:Fp)(v:Int),slices_Contains_int l v=some (hasB l v):=Kf;simp[AD e H,AD (show 0<=j by omega) I,hh]
   grind [AA,hasB,Af,Ae])
 grind
theorem Zq{images hV:Fp}(G:images.length<=100):∃l,FV images hV=some l/\l.length<=10000/\decide (0<l.length)=AaG images hV:=by
 unfold FV;obtain⟨l,N,O⟩:=Uj (hV:=hV) G (f:=fun e o s2=>
  (idx images e).bind fun u=>
  (idx images o).bind fun w=>
  (if(decide (u=w))=true then((Dg hV e).bind fun y=>
  (if(!y)=true then some true else((Dg hV o).bind fun z=>
  some (!z))).bind fun D=>
  some (D))else some false).bind fun E=>
  if E=true then
  (Ah s2 [F7.mk e o]).bind fun F=>
  some F
  else
  some s2) (fun i j s e H J I K=>by
   have hh:∀(l:Fp)(v:Int),Dg l v=some (hasB l v):=Mt;simp[AD e H,AD (show 0<=j by omega) I,hh]
   grind [AA,hasB,Af,Ae])
 grind
variable{l:Fp}
theorem YE(h:n<=1000):KO n l=some (BB l n):=by
 unfold KO;rw[SN (f:=Dg l) (by omega) (by omega) (fun i=>Mt l i)];rfl
theorem X2{images hV:Fp}(D:n<=1000)(hi:∀x∈images,0<=x/\x<n):F2 n images hV=some (BB (EO images hV) n):=by
 unfold F2 GW;rw[ae (by omega),bs];rw[Bo (fun i=>(Aw n).map fun k=>ne (fun j=>!hasB hV j&&decide (AA images j=k)) 0 i) (by omega)]
 .rw[bs,ca,BE,Nd (fun i=>!hasB (EO images hV) i) id]
  .rw[bs,List.map_id];rfl
  .intro i s o u G;rw[AD o (by rw[ca,BE];exact u),bs,Ia _ o u];have e:ne (fun j=>!hasB hV j&&decide (AA images j=i)) 0 images.length=hasB (EO images hV) i:=by
    rw [Bool.eq_iff_iff,Dy,CG,R2];constructor
    .rintro⟨j,y,z,h⟩;rw[tg,zzX]at h
     grind [CG]
    .rintro⟨j,⟨y,z⟩,I,h⟩;refine⟨j,y,z,?_⟩;rw[tg,zzX]
     grind [hasB,CG]
   grind [hasB,EO,Af,Ae]
 .refine List.ext_getElem (by simp[BE]) (fun k E F=>?_)
  grind [Int.toNat_natCast,Bf]
 .intro i o u;have w:=hi _ (AJ o u);have hh:∀(l:Fp)(v:Int),slices_Contains_int l v=some (hasB l v):=Kf;rw[AD o u,bs,hh,bs];cases H:hasB hV i
  .rw[ae (by decide),AD w.1 (by rw[ca,BE];exact w.2),bs,Il _ w.1]
   grind [Cu,O8,AA]
  grind [Cu,O8]
theorem Z0{a b:Nat}(e:a<=10000)(j:b<=10000):decide (0<Ad ((a:Int)+(b:Int)))=(decide (0<a)||decide (0<b)):=by
 rw [Am (by omega) (by omega),Bool.eq_iff_iff,Bool.or_eq_true]
 grind
theorem nX{l g:d5}{hV:BA}{m:d6}(z:Pa hV):FB l g hV m=some (Ly l g hV m):=by
 unfold FB CJ Ly;simp only[];rw[Wh,bs,Zg z,bs];by_cases o:¬IP l g m=0
 .grind
 have o:=Classical.not_not.1 o;rw[az (by simp[o]),bs,az (show¬IP l g m≠0 by simp[o])];refine C8 fun K=>?_;have j:=Sh o;have a1:=j.ga.ei;have P:=j.ga.em;have Q:=j.AaQ;have S:=j.Aa7;have U:=j.gb.ei;have V:=j.gb.em;unfold DN;obtain⟨u,D,E,G⟩:=Zf (hV:=hV.d3) (images:=m.d3) (by omega);obtain⟨v,H,I,J⟩:=Zf (hV:=hV.d4) (images:=m.d4) (by omega);simp only[];rw[D,bs,H,bs,bs];simp only[];rw[Z0 E I,G,J];refine XH fun N=>?_;rw[a7 (by show m.d3.length<=1000;omega) (by show g.d4.length<=1000;omega),bs];have e:=XT (n:=g.d4.length) (q:=L3 g hV m) (F:=id);rw[List.map_id]at e;rw[e];refine XH fun O=>?_;rw[X2 (by omega) (fun x s=>?_),bs,X2 (by omega) (fun x s=>?_),bs]
 .rfl
 .obtain⟨i,w,y,rfl⟩:=BW s;exact(j.edge i w y).1
 .obtain⟨i,w,y,rfl⟩:=BW s;exact(j.node i w y).1
theorem n9{l g:d5}{hV:BA}{m:d6}(s:Pa hV):Oz l g hV m=some (Ly l g hV m):=by
 unfold Oz NO Ly;rw[Wp,bs,VN s,bs];by_cases o:¬IP l g m=0
 .grind
 have o:=Classical.not_not.1 o;rw[az (by simp[o]),bs,az (show¬IP l g m≠0 by simp[o])];refine C8 fun H=>?_;have j:=Sh o;have a1:=j.ga.ei;have K:=j.ga.em;have N:=j.AaQ;have O:=j.Aa7;have P:=j.gb.ei;have Q:=j.gb.em;obtain⟨u,w,y,z⟩:=Zq (hV:=hV.d3) (images:=m.d3) (by omega);obtain⟨v,D,E,G⟩:=Zq (hV:=hV.d4) (images:=m.d4) (by omega);rw[w,bs,D,bs,Z0 y E,z,G];refine XH fun I=>?_;rw[bF (by omega) (by omega),bs];have e:=XT (n:=g.d4.length) (q:=L3 g hV m) (F:=id);rw[List.map_id]at e;rw[e];refine XH fun J=>?_;rw[Tc (by omega),bs,YE (by omega),bs,Tc (by omega),bs,YE (by omega),bs];rfl
end Go.Sf.Sc
namespace Go.Sf.Sc
open Go Go.Sf
variable{α β:Type}
theorem TW[Inhabited α]{l:List α}{F:α->β}{f:Int->List β->Option (List β)}(h:∀(i:Int)s,0<=i->i<l.length->s.length<=i.toNat->f i s=some (s++[F (AA l i)])):pr f 0 l.length []=some (l.map F):=by
 have:=Bo (f:=f) (s:=[]) (fun i=>(l.take i.toNat).map F) (a:=0) (b:=l.length) (by omega) (by simp) (fun i e j=>by
  grind [ca,c7,CQ])
 rwa [Int.toNat_natCast,List.take_length]at this
variable{n:Nat}{l:Fp}
theorem Zi(H:n<=1000)(z:l.length<=1000)(s:l.Pairwise (·<·)):KV n l=some (G0 n l):=by
 unfold KV GW;rw[ae (by omega),bs,Int.toNat_natCast,List.length_replicate,Bo (fun i=>(Aw n).map fun j=>if j<i then Cw l j else 0) (by omega)]
 .rw[bs];congr 1;exact Cu fun j D u=>ae u
 .refine List.ext_getElem (by simp[BE]) (fun k E I=>?_);have e:(Aw n)[k]'(by simpa[BE]using E)=(k:Int):=by simp[Aw]
  simp only[List.getElem_map,List.getElem_replicate,e];rw[az (by omega)]
 .intro i w G;rw[RD z s,bs,AD w (by rw[ca,BE];exact G),bs];have e:∀v:Int,v=Cw l i->some (BC ((Aw n).map fun j=>if j<i then Cw l j else 0) i v)=some ((Aw n).map fun j=>if j<i+1 then Cw l j else 0):=by
   rintro v rfl;rw[Il _ w];congr 1;refine Cu fun j D u=>?_;by_cases e:j=i
   .rw[ae e,ae (by omega),e]
   .rw[az e];by_cases y:j<i
    .rw[ae y,ae (by omega)]
    .rw[az y,az (by omega)]
  cases o:hasB l i with
  |false=>
   rw [ae (by rfl)];exact e _ (VE fun F=>by rw[CG.2 F]at o;cases o).symm
  |true=>
   rw [az (by simp)];exact e _ (TO s (CG.1 o))
theorem X7(K:n<=1000)(N:l.length<=1000)(F:l.Nodup):KN l n=some (G0 n l):=by
 unfold KN;rw[Bo (fun k=>(Aw k.toNat).map (Cw l)) (by omega) (by rfl)]
 .rfl
 .intro k u O;have s:((Aw k.toNat).map (Cw l)).length=k.toNat:=by rw[ca,BE]
  have J:(Aw k.toNat).map (Cw l)++[-1]=(Aw (k+1).toNat).map fun j=>if j<k then Cw l j else if Cw l k<0 then Cw l k else -1:=by
   rw [Fh u,List.map_append];congr 1
   .grind[List.map_congr_left,FY]
   .rw[List.map_singleton,az (by omega)];have:=Sg l k
    grind
  rw [Af (by rw[s];simp;unfold Ae;omega),bs,J,Bo (fun i=>(Aw (k+1).toNat).map fun j=>if j<k then Cw l j else if Cw l k<i then Cw l k else -1) (by omega) rfl]
  .rw[bs];congr 1;refine List.map_congr_left fun j G=>?_;have:=FY.1 G;split
   .rfl
   .have e:j=k:=by omega
    rw [ae (Sg l k).2,e]
  .intro i w y;rw[AD w y,bs];by_cases e:AA l i=k
   .have z:Cw l k=i:=by rw[<-e];exact Xf F w y
    rw [ae (by simp[e]),AD u (by rw[ca,BE];omega),bs,Il _ u];congr 1;refine Cu fun j H I=>?_;by_cases D:j=k
    .rw[ae D,az (by omega),ae (by omega),z]
    .rw[az D];by_cases o:j<k
     .rw[ae o,ae o]
     .omega
   .have z:Cw l k≠i:=fun h=>by
     have:=(IN (L9.1 (show 0<=Cw l k by omega))).2.2.1;rw[h]at this;exact e this
    rw [az (by simp[e])];congr 1;refine Cu fun j H I=>?_;by_cases o:j<k
    .rw[ae o,ae o]
    .rw[az o,az o];by_cases E:Cw l k<i
     .rw[ae E,ae (by omega)]
     .rw[az E,az (by omega)]
structure SZ(count:Nat)(hV into at_:Fp):Prop where
 few:count<=1000
 nodup:into.Nodup
 len:into.length=hV.length
 inn:∀x∈into,0<=x/\x<count
 kin:∀x∈hV,0<=x/\x<at_.length
 pos:∀x∈hV,0<=AA at_ x
theorem Xn(e:l.Nodup)(h:∀x∈l,0<=x/\x<n):l.length<=n:=by
 have:=List.Nodup.length_le_of_subset (l₁:=l) (l₂:=Aw n) e (fun x j=>FY.2 (h x j))
 rwa [BE]at this
variable{i:Int}
theorem OQ(h:0<=i):((BB l (i+1)).length:Int)=(BB l i).length+if i∈l then 0 else 1:=by grind[MV,cE,hasB,CG]
theorem Pr{hV into at_:Fp}{n i:Int}(h:i∈into):Ok hV into at_ n i=AA at_ (AA hV (Cw into i)):=by grind[Ok,CG]
theorem QO{hV into at_:Fp}{n i:Int}(h:i∉into):Ok hV into at_ n i=n+(BB into i).length:=by grind[Ok,CG]
variable{count:Nat}
theorem V4{hV into at_:Fp}{n:Int}(h:SZ count hV into at_)(D:0<=n)(E:n<=1000):FH hV into count at_ n=some (Rr count hV into at_ n):=by
 have F:=h.few;have w:=Xn h.nodup h.inn;have y:=h.len;unfold FH;rw[X7 h.few (by omega) h.nodup,bs,Bo (fun i=>(n+((BB into i).length:Int),(Aw i.toNat).map (Ok hV into at_ n))) (by omega) (by simp[BB,Aw])]
 .rfl
 .intro i j u;have G:=JU (l:=into) j;have e:((Aw i.toNat).map (Ok hV into at_ n)).length=i.toNat:=by rw[ca,BE]
  rw [AD j (by rw[Lo];exact u),bs,Tm j u];by_cases hi:i∈into
  .have s:=IN hi;have z:=AJ (l:=hV) s.1 (by omega);have o:=h.kin _ z;rw[ae (by simpa using s.1),bs,AD s.1 (by omega),bs,AD o.1 o.2,bs,Af (by rw[e];simp;unfold Ae;omega),bs,Fh j,List.map_append,OQ j,ae hi,Int.add_zero,List.map_singleton,Pr hi]
  .rw[az (by rw[zzX,L9];exact hi),Af (by rw[e];simp;unfold Ae;omega),bs,Fh j,List.map_append,OQ j,az hi,List.map_singleton,QO hi,Am (by omega) (by omega),Int.add_assoc]
theorem Vx{hV into o s:Fp}{n:Int}(h:SZ count hV into (o.map (AA s)))(K:∀x∈o,0<=x/\x<s.length)(U:0<=n)(V:n<=1000):Fw count hV into o s n=some (Rr count hV into (o.map (AA s)) n):=by
 have Y:=h.few;have N:=Xn h.nodup h.inn;have O:=h.len;unfold Fw Dz;rw[ae (by refine⟨rfl,by omega,by omega⟩),bs,Int.toNat_natCast];rw[Bo (fun i=>(Aw count).map fun k=>if 0<=Cw into k/\Cw into k<i then Ok hV into (o.map (AA s)) n k else -1) (by omega)]
 .rw[bs,ca,BE,Bo (fun i=>(n+((BB into i).length:Int),(Aw count).map fun k=>if k<i\/k∈into then Ok hV into (o.map (AA s)) n k else -1)) (by omega)]
  .rw[bs];congr 1;exact Cu fun j H F=>ae (.inl F)
  .show _=(n,_);congr 1
   .simp[BB]
   .refine Cu fun j H F=>?_;have J:=L9 (l:=into) (v:=j);have P:=Sg into j;by_cases e:j∈into
    .rw[ae (.inr e),ae ⟨J.2 e,P.2⟩]
    .rw[az (by rintro(u|u);omega;exact e u),az fun u=>e (J.1 u.1)]
  .intro i y D;have Z:=JU (l:=into) y;rw[AD y (by rw[ca,BE];exact D),bs,Ia _ y D];by_cases hi:i∈into
   .have Q:=IN hi;have I:=AJ (l:=hV) Q.1 (by have:=h.len;omega);have hp:=h.pos _ I;rw[ae (show i<i\/i∈into from .inr hi),Pr hi,az (by rw[zzX];omega),OQ y,ae hi,Int.add_zero];congr 2;refine Cu fun j H F=>?_;by_cases e:j<i\/j∈into
    .rw[ae e,ae (e.imp (fun h=>by omega) id)]
    .rw[az e,az];rintro(u|u)
     .have:j=i:=by
       have:=fun hh=>e (.inl hh);omega
      exact e (.inr (this▸hi))
     .exact e (.inr u)
   .rw[az (show¬(i<i\/i∈into)by rintro(u|u);omega;exact hi u),ae (by decide),bs,OQ y,az hi,Am (by simp;omega) (by simp;omega),Il _ y,Int.add_assoc];congr 2;refine Cu fun j H F=>?_;by_cases z:j=i
    .rw[ae z,ae (.inl (by omega)),z,QO hi]
    .rw[az z];by_cases e:j<i\/j∈into
     .rw[ae e,ae (e.imp (fun h=>by omega) id)]
     .rw[az e,az];rintro(u|u)
      .exact e (.inl (by omega))
      .exact e (.inr u)
 .refine List.ext_getElem (by simp[BE]) (fun k W X=>?_);simp only[List.getElem_map,List.getElem_replicate];rw[az (by omega)];rfl
 .intro i y D;have E:=h.inn _ (AJ y D);have I:=AJ (l:=hV) y (by have:=h.len;omega);have w:=h.kin _ I;rw[ca]at w;have G:=K _ (AJ w.1 w.2);rw[AD y D,bs,AD y (by have:=h.len;omega),bs,AD w.1 w.2,bs,AD G.1 G.2,bs,AD E.1 (by rw[ca,BE];exact E.2),bs,Il _ E.1];congr 1;refine Cu fun j H F=>?_;by_cases z:j=AA into i
  .have e:=Xf h.nodup y D;rw[ae z,z,e,ae ⟨y,by omega⟩,Pr (AJ y D),e,Na w.1 w.2]
  .rw[az z];by_cases e:0<=Cw into j/\Cw into j<i
   .rw[ae e,ae ⟨e.1,by omega⟩]
   .rw[az e,az];rintro⟨u,h2⟩;have S:Cw into j=i:=by
     have:=fun hh=>e ⟨u,hh⟩;omega
    have:=(IN (L9.1 u)).2.2.1;rw[S]at this;exact z this.symm
theorem Un{images e:Fp}(j:images.length<=1000)(o:∀x∈images,0<=x/\x<e.length):Gk images e=some (images.map (AA e)):=by
 unfold Gk
 grind [TW,AA,AJ,AD,Af,Ae]
end Go.Sf.Sc
namespace Go.Sf.Sc
open Go Go.Sf
def G2(h:AG)(d:BA):d6:=⟨G0 h.d5.d3.length d.d3,G0 h.d5.d4.length d.d4⟩
def uo(r:gt)(h:AG)(m:d6)(d:BA):d6:=
 ⟨Rr r.fd.d5.d3.length r.x3.d3 r.sc.d3 (m.d3.map (AA (G2 h d).d3)) d.d3.length,
 Rr r.fd.d5.d4.length r.x3.d4 r.sc.d4 (m.d4.map (AA (G2 h d).d4)) d.d4.length⟩
def fX(t:AC)(k:Int):Fp:=(Ax t k).map fun x=>x.Low
def af(tr:Fp)(e:Bj):Bj:=⟨e.kp,AA tr e.kq,AA tr e.To⟩
def MD(r:gt)(x:AG)(i:Int):Fp:=x.d5.d3++(BB r.sc.d3 i).map (AA r.fd.d5.d3)
def ME(t:AC)(r:gt)(x:AG)(i:Int):List Fp:=x.gn++(BB r.sc.d3 i).map fun k=>fX t (AA r.fd.d5.d3 k)
def N1(r:gt)(c:d6)(x:AG)(i:Int):List Bj:=x.d5.d4++(BB r.sc.d4 i).map fun k=>af c.d3 (AA r.fd.d5.d4 k)
def DT(t:AC)(r:gt)(x:AG)(c:d6):AG:=⟨⟨MD r x r.fd.d5.d3.length,N1 r c x r.fd.d5.d4.length⟩,ME t r x r.fd.d5.d3.length⟩
def CH(h:AG)(d:BA):AG:=⟨⟨d.d3.map (AA h.d5.d3),d.d4.map fun x=>af (G2 h d).d3 (AA h.d5.d4 x)⟩,d.d3.map (AA h.gn)⟩
structure HN(x:AG):Prop where
 ei:x.d5.d3.length<=1000
 em:x.d5.d4.length<=1000
 vals:x.gn.length<=1000
 rows:∀v∈x.gn,v.length<=1000
structure Tu(t:AC)(r:gt)(c:d6):Prop where
 hf:Ap t
 hv:(Au t).2=0
 g:Do r.fd.d5
 kind:∀n∈r.fd.d5.d3,0<=n/\n<t.d3.length
 cn:c.d3.length=r.fd.d5.d3.length
variable{t:AC}{r:gt}{c:d6}
theorem kO(h:Tu t r c){n:Int}(e:n∈r.fd.d5.d3):(Ax t n).length<=600:=by
 have:=h.kind n e;exact HQ h.hf (Int.le_refl _) (Cz h.hv).par this.2
variable{x:AG}
theorem SK(h:HN x):Gr x=some x:=by
 have:=h.ei;have:=h.em;have:=h.vals;unfold Gr IR;rw[BY (by unfold Ae;omega),bs,BY (by unfold Ae;omega),bs,bs];rw[Bo (fun i=>AG.mk x.d5 (x.gn.take i.toNat)) (by omega) (by rfl)]
 .rw[Int.toNat_natCast,List.take_length];rfl
 .intro i e j;have:=h.rows _ (AJ e j)
  grind [AD,BY,Ae,Af,CQ]
theorem ay(h:HN x):JG x=some x:=by
 have:=h.ei;have:=h.em;have:=h.vals;unfold JG slices_Clone_int DJ;rw[BY (by unfold Ae;omega),bs,BY (by unfold Ae;omega),bs];rw[Bo (fun i=>AG.mk x.d5 (x.gn.take i.toNat)) (by omega) (by rfl)]
 .rw[Int.toNat_natCast,List.take_length];rfl
 .intro i e j;have:=h.rows _ (AJ e j)
  grind [AD,BY,Ae,Af,CQ]
variable{α:Type}{i:Int}
theorem DA(l:Fp)(F:Int->α)(h:0<=i):(BB l (i+1)).map F=(BB l i).map F++if i∈l then[]else[F i]:=by grind[MV,hasB,CG]
theorem TA(l:Fp)(i:Int):HF l i=some (!hasB l i):=by
 unfold HF hasB;rw[BJ (fun j=>decide (i=AA l j)) false,HP]
 .cases ne (fun j=>decide (i=AA l j)) 0 l.length<;>rfl
 grind [AD,AA]
theorem oE(h:Tu t r c)(w:HN x):KQ t r x c=some (DT t r x c):=by
 have J:=h.g.ei;have K:=h.g.em;have x1:=w.ei;have N:=w.em;have O:=w.vals;unfold KQ;rw[Mg (fun i=>AG.mk (d5.mk (MD r x i) x.d5.d4) (ME t r x i)) (a:=0) (b:=r.fd.d5.d3.length) (by omega)]
 .rw[BT,Mg (fun i=>AG.mk (d5.mk (MD r x r.fd.d5.d3.length) (N1 r c x i)) (ME t r x r.fd.d5.d3.length)) (a:=0) (b:=r.fd.d5.d4.length) (by omega)]
  .rfl
  .grind[N1,BB]
  .intro i e o;have D:=JU (l:=r.sc.d4) e;have he:=h.g.fit _ (AJ e o);have E:=h.cn;rw[ae (by simpa using o),TA,bs];by_cases hi:i∈r.sc.d4
   .grind[CG,N1,DA,Am]
   .have u:hasB r.sc.d4 i=false:=by cases u:hasB r.sc.d4 i with|false=>rfl|true=>exact absurd (CG.1 u) hi
    rw [u,ae (by decide),AD e o,bs,AD he.2.1.1 (by omega),bs,AD he.2.2.1 (by omega),bs,Af (by unfold N1;simp;unfold Ae;omega),bs];unfold N1;rw[DA _ _ e,az hi,Am (by simp;omega) (by simp;omega),ci];rfl
  .rw[az (by simp)]
 .unfold MD ME;simp[BB]
 .intro i e o;have D:=JU (l:=r.sc.d3) e;have y:=AJ e o;have z:=h.kind _ y;have P:=kO h y;rw[ae (by simpa using o),TA,bs];by_cases hi:i∈r.sc.d3
  .grind[CG,MD,ME,DA,Am]
  .have u:hasB r.sc.d3 i=false:=by cases u:hasB r.sc.d3 i with|false=>rfl|true=>exact absurd (CG.1 u) hi
   rw [u,az (by decide),AD e o,bs,Af (by unfold MD;simp;unfold Ae;omega),bs,bs,P7 h.hf,Ic h.hv z.1 z.2,bs];simp;rw[TW (F:=fun a=>a.Low) fun j s G H I=>?_]
   .rw[bs,Af (by unfold ME;simp;unfold Ae;omega),bs];unfold MD ME;rw[DA _ _ e,az hi,DA _ _ e,az hi,Am (by omega) (by omega),ci,ci];rfl
   grind [AD,Af,Ae]
 .rw[az (by simp)]
theorem kf(hf:Ap t)(hv:(Au t).2=0){k:Int}(o:0<=k)(e:k<t.d3.length):Hp t k=some (fX t k):=by
 have:=HQ hf (Int.le_refl _) (Cz hv).par e;unfold Hp;rw[P5 hf,Ic hv o e,bs];simp;rw[TW (F:=fun a=>a.Low) fun j s u w y=>?_]
 .rfl
 grind [AD,Af,Ae]
structure Wc(h:AG)(d:BA):Prop where
 sm:HN h
 len:h.gn.length=h.d5.d3.length
 ei:(∀x∈d.d3,0<=x/\x<h.d5.d3.length)/\d.d3.length<=1000
 em:(∀x∈d.d4,0<=x/\x<h.d5.d4.length)/\d.d4.length<=1000
 ends:∀e∈h.d5.d4,(0≤e.kq/\e.kq<h.d5.d3.length)/\0≤e.To/\e.To<h.d5.d3.length
variable{h:AG}{d:BA}
theorem WB(hd:Wc h d):HN (CH h d):=by
 have j:=hd.ei.2;have o:=hd.em.2;refine⟨by unfold CH;simp;omega,by unfold CH;simp;omega,by unfold CH;simp;omega,fun v hv=>?_⟩;obtain⟨x,e,rfl⟩:=List.mem_map.1 hv;have:=hd.ei.1 x e;exact hd.sm.rows _ (AJ this.1 (by rw[hd.len];exact this.2))
variable{R:gt}{M:AL}{C:d6}
theorem kY(u:Tu t R C)(hd:Wc h d)(I:C.d4.length=R.fd.d5.d4.length)
  (z:∀i:Int,0<=i->i<R.fd.d5.d3.length->(AA C.d3 i=d.d3.length+(BB R.sc.d3 i).length↔i∉R.sc.d3))
  (D:∀i:Int,0<=i->i<R.fd.d5.d4.length->(AA C.d4 i=d.d4.length+(BB R.sc.d4 i).length↔i∉R.sc.d4)):
  GT t (A2.mk R M h (AG.mk (d5.mk [] []) []) (G2 h d) C) d=some (A2.mk R M h (DT t R (CH h d) C) (G2 h d) C):=by
 have J:=hd.ei.2;have K:=hd.em.2;have N:=u.g.ei;have O:=u.g.em;have G:=u.cn;unfold GT;simp only[];rw[Bo (fun i=>A2.mk R M h (AG.mk (d5.mk ((d.d3.take i.toNat).map (AA h.d5.d3)) []) ((d.d3.take i.toNat).map (AA h.gn))) (G2 h d) C) (by omega) (by simp)]
 rotate_left
 .intro i j o;have s:=hd.ei.1 _ (AJ j o);have w:=hd.len;have E:=hd.sm.rows _ (AJ s.1 (by omega));rw[AD j o,bs,AD s.1 s.2,bs,Af (by simp;unfold Ae;omega),bs,AD s.1 (by omega),bs,BY (by unfold Ae;omega),bs,Af (by simp;unfold Ae;omega),bs,HD j o,HD j o]
 rw [bs,Int.toNat_natCast,List.take_length];rw[Bo (fun i=>A2.mk R M h (AG.mk (d5.mk (d.d3.map (AA h.d5.d3)) ((d.d4.take i.toNat).map fun x=>af (G2 h d).d3 (AA h.d5.d4 x))) (d.d3.map (AA h.gn))) (G2 h d) C) (by omega) (by simp)]
 rotate_left
 .intro i j o;have s:=hd.em.1 _ (AJ j o);have he:=hd.ends _ (AJ s.1 s.2);have w:(G2 h d).d3.length=h.d5.d3.length:=Lo _ _;simp only[];rw[AD j o,bs,AD s.1 s.2,bs,AD he.1.1 (by omega),bs,AD he.2.1 (by omega),bs,Af (by simp;unfold Ae;omega),bs,HD j o];rfl
 rw [bs,Int.toNat_natCast,List.take_length];rw[Bo (fun i=>A2.mk R M h (AG.mk (d5.mk (MD R (CH h d) i) (CH h d).d5.d4) (ME t R (CH h d) i)) (G2 h d) C) (by omega) (by unfold MD ME;simp[BB,CH])]
 rotate_left
 .intro i j o;have E:=JU (l:=R.sc.d3) j;have H:=AJ j o;have F:=u.kind _ H;have w:(MD R (CH h d) i).length=d.d3.length+(BB R.sc.d3 i).length:=by unfold MD CH;simp
  have y:(ME t R (CH h d) i).length=d.d3.length+(BB R.sc.d3 i).length:=by unfold ME CH;simp
  simp only[w];rw[AD j o,bs,AD j (by omega),bs];by_cases hi:i∈R.sc.d3
  .rw[az (by rw[zzX];push_cast;exact fun e=>(z i j o).1 e hi)];unfold MD ME;rw[DA _ _ j,ae hi,List.append_nil,DA _ _ j,ae hi,List.append_nil]
  .rw[ae (by rw[zzX];push_cast;exact(z i j o).2 hi),Af (by rw[w];simp;unfold Ae;omega),bs,kf u.hf u.hv F.1 F.2,bs,Af (by rw[y];simp;unfold Ae;omega),bs];unfold MD ME;rw[DA _ _ j,az hi,DA _ _ j,az hi,ci,ci]
 rw [bs];rw[Bo (fun i=>A2.mk R M h (AG.mk (d5.mk (MD R (CH h d) R.fd.d5.d3.length) (N1 R C (CH h d) i)) (ME t R (CH h d) R.fd.d5.d3.length)) (G2 h d) C) (by omega) (by unfold N1;simp[BB,CH])]
 rotate_left
 .intro i j o;have E:=JU (l:=R.sc.d4) j;have he:=u.g.fit _ (AJ j o);have w:(N1 R C (CH h d) i).length=d.d4.length+(BB R.sc.d4 i).length:=by unfold N1 CH;simp
  simp only[w];rw[AD j o,bs,AD j (by omega),bs];by_cases hi:i∈R.sc.d4
  .rw[az (by rw[zzX];push_cast;exact fun e=>(D i j o).1 e hi)];unfold N1;rw[DA _ _ j,ae hi,List.append_nil]
  .rw[ae (by rw[zzX];push_cast;exact(D i j o).2 hi),AD he.2.1.1 (by omega),bs,AD he.2.2.1 (by omega),bs,Af (by rw[w];simp;unfold Ae;omega),bs];unfold N1;rw[DA _ _ j,az hi,ci];rfl
 rw [bs];rfl
theorem Y0(hf:Ap t)(hh:(Hc t h).2=0)(u:EP h.d5 d=0)(hd:Wc h d):JA t h d=some (CH h d,0):=by
 have w:=hd.ei.2;unfold JA;rw[SL hf,bs,az (by simp[hh]),V3 ⟨hd.ei.2,hd.em.2⟩,az (by simp[u]),bs,az (by simp)];have e:MJ h.d5 d=(CH h d).d5:=by
  unfold MJ CH;congr 1;refine List.map_congr_left fun x j=>?_;have j:=hd.em.1 x j;have he:=hd.ends _ (AJ j.1 j.2)
  grind [af,G2,Tm]
 simp;rw[Mg (fun i=>AG.mk (MJ h.d5 d) ((d.d3.take i.toNat).map (AA h.gn))) (a:=0) (b:=d.d3.length) (by omega) (by simp)]
 .rw[Int.toNat_natCast,List.take_length,BT,e];rfl
 .intro i s o;have j:=hd.ei.1 _ (AJ s o);have y:=hd.len;have z:=hd.sm.rows _ (AJ j.1 (by omega));rw[ae (by simpa using o),AD s o,bs,AD j.1 (by omega),bs,BY (by unfold Ae;omega),bs,Af (by simp;unfold Ae;omega),bs,HD s o,Am (by simp;omega) (by simp;omega)]
 .rw[az (by simp)]
end Go.Sf.Sc
namespace Go.Sf.Sc
open Go Go.Sf
def PY(c:d6)(vars:Fp)(s:CT):(Int×Int)×Int:=((AA c.d3 s.sx,s.kl),Cn s.j0 vars)
def Bx(r:gt)(c:d6)(vars:Fp):BD:=r.fd.fq.map (PY c vars)
def Nz(t:AC)(x:AG)(p:(Int×Int)×Int):Bool:=
 decide (p.2<(AA (Ax t (AA x.d5.d3 p.1.1)) p.1.2).Low)||decide ((AA (Ax t (AA x.d5.d3 p.1.1)) p.1.2).AaD<p.2)
structure Sb(t:AC)(r:gt)(c:d6)(vars:Fp)(x:AG):Prop where
 hf:Ap t
 hv:(Au t).2=0
 few:r.fd.fq.length<=1000
 fewv:vars.length<=1000
 slot:∀s∈r.fd.fq,(0<=s.sx/\s.sx<c.d3.length)/\(-1<=s.j0.Var/\s.j0.Var<vars.length)/\
  (0<=AA c.d3 s.sx/\AA c.d3 s.sx<x.d5.d3.length)/\(0<=s.kl/\s.kl<(Ax t (AA x.d5.d3 (AA c.d3 s.sx))).length)
 kind:∀n∈x.d5.d3,0<=n/\n<t.d3.length
 vlen:x.gn.length=x.d5.d3.length
 rows:∀i:Int,0<=i->i<x.d5.d3.length->(AA x.gn i).length=(Ax t (AA x.d5.d3 i)).length
variable{L:BD}{i:Int}
theorem aM(e:0<=i)(o:i<=L.length)(h:∀j,0<=j->j<i->ne (fun k=>decide ((AA L k).1=(AA L j).1)&&!decide ((AA L k).2=(AA L j).2)) 0 j=false):QH (L.take i.toNat):=by grind[VW,OE,Bf,c7,T3,OV]
def TQ(L:BD)(i:Int):Bool:=ne (fun k=>decide ((AA L k).1=(AA L i).1)&&!decide ((AA L k).2=(AA L i).2)) 0 i
theorem fC(I:0<=i)(J:i<L.length)(y:QH (L.take i.toNat)):
  (((N8 (L.take i.toNat)).look (AA L i).1).isSome&&(!decide (((N8 (L.take i.toNat)).look (AA L i).1).getD 0=(AA L i).2)))=TQ L i:=by
 obtain ⟨K,D,N⟩:=ZX _ y;unfold TQ;cases z:(N8 (L.take i.toNat)).look (AA L i).1 with
 |none=>
  rw [Option.isSome_none,Bool.false_and];refine Eq.symm (Bf.2 fun k u w=>?_);have s:AA L k∈L.take i.toNat:=by
   rw [<-OV (n:=i.toNat) (by omega)]
   grind [AJ,c7]
  rw [decide_eq_false (Vu z _ ((D _).2 s)),Bool.false_and]
 |some v=>
  have s:=(D _).1 (R5 z);rw[Option.isSome_some,Bool.true_and,Option.getD_some];have o:∀k,0<=k->k<i->(AA L k).1=(AA L i).1->(AA L k).2=v:=fun k u w e=>by
   have F:AA L k∈L.take i.toNat:=by
    rw [<-OV (n:=i.toNat) (by omega)]
    grind [AJ,c7]
   exact y _ F _ s e
  obtain ⟨k,u,w,E⟩:=BW s;rw[c7]at w;rw[OV (by omega)]at E;rw[Bool.eq_iff_iff,Dy];constructor
  .intro h;refine⟨k,u,by omega,?_⟩;rw[E,decide_eq_true rfl,Bool.true_and];exact h
  .rintro⟨j,G,H,h⟩;rw[tg,zzX]at h;rw[<-o j G H h.1];exact h.2
theorem M3(r:gt)(c:d6)(vars:Fp)(e:0<=i)(j:i<r.fd.fq.length):AA (Bx r c vars) i=PY c vars (AA r.fd.fq i):=Na e j
theorem I3(r:gt)(c:d6)(vars:Fp):(Bx r c vars).length=r.fd.fq.length:=ca ..
variable{ρ:Type}
theorem XJ(L:BD)(v:ρ):fst (fun i=>if TQ L i=true then some v else none) 0 L.length=if OE L=true then some v else none:=LY
variable{t:AC}{R:gt}{M:AL}{B A:AG}{T C:d6}
theorem ax(h:Sb t R C M.hT A):HI (A2.mk R M B A T C)=some (if OE (Bx R C M.hT)=true then([],11)else(N8 (Bx R C M.hT),0)):=by
 unfold HI;simp only[];rw[KG (a:=0) (s:=([]:BD)) (fun i=>N8 ((Bx R C M.hT).take i.toNat)) (fun i=>if TQ (Bx R C M.hT) i=true then some ([],11)else none) (by omega) rfl]
 .have:=XJ (Bx R C M.hT) (([],11):BD×Int);rw[I3]at this;rw[this];by_cases e:OE (Bx R C M.hT)=true
  .rw[ae e,ae e];rfl
  .rw[az e,az e,<-I3 R C M.hT,Int.toNat_natCast,List.take_length];rfl
 .intro i o u E;have w:=h.slot _ (AJ o u);have F:QH ((Bx R C M.hT).take i.toNat):=aM o (by rw[I3];omega) fun j z D=>by
   have:=E j z D;split at this
   .cases this
   .rename_i e;exact Bool.eq_false_iff.2 e
  have y:=fC (L:=Bx R C M.hT) o (by rw[I3];exact u) F;rw[AD o u,bs,Xu w.2.1.1 w.2.1.2 h.fewv,bs,az (by simp),AD w.1.1 w.1.2,bs];rw[M3 R C M.hT o u]at y;simp[PY]at y;simp only[];by_cases e:TQ (Bx R C M.hT) i=true
  .refine(ae (y.trans e)).trans ?_;rw[ae e];rfl
  .refine(az (fun h=>e (y.symm.trans h))).trans ?_;rw[az e,CQ o (by rw[I3];exact u),Xl,M3 R C M.hT o u];rfl
variable{α:Type}
theorem Za{f:α->K1}{g:α->Bool}:∀{l:List α},(∀p∈l,f p=some (g p))->AaP f l=some (l.all g)
 |[],_=>rfl|p::r,h=>by
  unfold AaP;rw[h p List.mem_cons_self,bs,Za fun q e=>h q (List.mem_cons_of_mem _ e),bs,List.all_cons]
variable{r:gt}{c:d6}{x:AG}
theorem YO{vars:Fp}(h:Sb t r c vars x){s:CT}(w:s∈r.fd.fq){V:List Fp}(y:LT V x.gn):
  idx V (AA c.d3 s.sx)=some (AA V (AA c.d3 s.sx))/\idx (AA V (AA c.d3 s.sx)) s.kl=some (AA (AA V (AA c.d3 s.sx)) s.kl):=by
 have j:=h.slot s w;have hv:=h.vlen;have F:=h.rows _ j.2.2.1.1 j.2.2.1.2;have z:idx x.gn (AA c.d3 s.sx)=some (AA x.gn (AA c.d3 s.sx)):=AD j.2.2.1.1 (by omega);have D:idx (AA x.gn (AA c.d3 s.sx)) s.kl=some (AA (AA x.gn (AA c.d3 s.sx)) s.kl):=AD j.2.2.2.1 (by omega);obtain⟨E,x',a,b⟩:=y.idx z D;have o:=GF a;have u:=GF b;have G:=(List.getElem?_eq_some_iff.1 o.2.2).1;have e:AA V (AA c.d3 s.sx)=E:=by
  grind [AD,Option.some.inj]
 have H:=(List.getElem?_eq_some_iff.1 u.2.2).1;refine⟨AD o.1 (by omega),?_⟩;rw[e];exact AD u.1 (by omega)
theorem fH(h:Sb t R C M.hT A){p:(Int×Int)×Int}(u:p∈Bx R C M.hT):L7 t (A2.mk R M B A T C) p=some (!Nz t A p):=by
 obtain ⟨s,o,rfl⟩:=List.mem_map.1 u;have e:=h.slot s o;have j:=h.kind _ (AJ e.2.2.1.1 e.2.2.1.2);obtain⟨w,y⟩:=YO h o (V:=A.gn) rfl;unfold L7 L6 PY Nz;simp;rw[AD e.2.2.1.1 e.2.2.1.2,bs,P5 h.hf,Ic h.hv j.1 j.2,bs];simp;simp[AD e.2.2.2.1 e.2.2.2.2,w,y,Sp]
 grind
def Hx(t:AC)(x:AG)(L:BD):AG×Int:=
 if OE L=true then(⟨⟨[],[]⟩,[]⟩,11)else if L.any (Nz t x)=true then(⟨⟨[],[]⟩,[]⟩,6)else(⟨x.d5,L.foldl CR x.gn⟩,0)
theorem na(h:Sb t R C M.hT A):Im t (A2.mk R M B A T C)=some ((Hx t A (Bx R C M.hT)).2,if(Hx t A (Bx R C M.hT)).2=0 then A2.mk R M B (Hx t A (Bx R C M.hT)).1 T C else A2.mk R M B A T C):=by
 unfold Im Hx;rw[ax h,bs];by_cases e:OE (Bx R C M.hT)=true
 .grind
 .rw[az e,az (by simp),az e];obtain⟨s,u,w⟩:=ZX _ (VW (Bool.eq_false_iff.2 e));have o:AaP (L7 t (A2.mk R M B A T C)) (N8 (Bx R C M.hT))=some (!(Bx R C M.hT).any (Nz t A)):=by
   rw [Za (g:=fun p=>!Nz t A p) fun p j=>fH h ((u p).1 j)]
   grind
  rw [ae (by simpa using(show List.Pairwise (fun x y:(Int×Int)×Int=>x.1≠y.1) _ from s)),o,bs]
  grind [Bx,Nz,Ma]
theorem r9{vars:Fp}(h:Sb t r c vars x):Lh t r x c vars=some (Hx t x (Bx r c vars)):=by
 unfold Lh Hx;rw[KG (a:=0) (s:=AG.mk (d5.mk [] []) []) (fun _=>AG.mk (d5.mk [] []) []) (fun i=>if TQ (Bx r c vars) i=true then some (AG.mk (d5.mk [] []) [],(11:Int))else none) (by omega) rfl]
 .have:=XJ (Bx r c vars) ((AG.mk (d5.mk [] []) [],(11:Int)));rw[I3]at this;rw[this];by_cases e:OE (Bx r c vars)=true
  .rw[ae e,ae e];rfl
  rw [az e,az e];show ff (some (Sum.inl _)) _ _=_;rw[BT,KG (a:=0) (s:=(x,AG.mk (d5.mk [] []) [])) (fun i=>(AG.mk x.d5 (((Bx r c vars).take i.toNat).foldl CR x.gn),AG.mk (d5.mk [] []) [])) (fun i=>if Nz t x (AA (Bx r c vars) i)=true then some (AG.mk (d5.mk [] []) [],(6:Int))else none) (by omega) rfl]
  .have:=ZR (l:=Bx r c vars) (q:=Nz t x) (v:=(AG.mk (d5.mk [] []) [],(6:Int)));rw[I3]at this;rw[this];by_cases o:(Bx r c vars).any (Nz t x)=true
   .rw[ae o,ae o];rfl
   .rw[az o,az o];show some (AG.mk x.d5 (((Bx r c vars).take (r.fd.fq.length:Int).toNat).foldl CR x.gn),(0:Int))=_
    grind [I3,Int.toNat_natCast,List.take_length]
  .intro i u w _;have E:=AJ u w;have j:=h.slot _ E;have y:=h.kind _ (AJ j.2.2.1.1 j.2.2.1.2);obtain⟨G,H⟩:=YO h E (V:=((Bx r c vars).take i.toNat).foldl CR x.gn) (fK _ _);simp only[AD u w,bs];rw[Mz j.2.1.1 j.2.1.2,bs,AD j.1.1 j.1.2,bs,AD j.2.2.1.1 j.2.2.1.2,bs,P7 h.hf,Ic h.hv y.1 y.2,bs];simp only[];rw[AD j.2.2.2.1 j.2.2.2.2,bs,bs,Sp,bs,G,bs,H,bs];rw[M3 r c vars u w,CQ u (by rw[I3];exact w),List.foldl_append,M3 r c vars u w];show(if(Nz t x (PY c vars (AA r.fd.fq i)))=true then _ else _)=_;by_cases o:Nz t x (PY c vars (AA r.fd.fq i))=true
   .rw[ae o,ae o];rfl
   .rw[az o,az o];have:=XR (p:=PY c vars (AA r.fd.fq i)) G H;exact congrArg (fun W=>some (Bk.next (σ:=AG×AG) (ρ:=AG×Int) (AG.mk x.d5 W,AG.mk (d5.mk [] []) []))) this
 .intro i u w _;have j:=h.slot _ (AJ u w);rw[AD u w,bs,Mz j.2.1.1 j.2.1.2,bs];rw[KG (a:=0) (s:=AG.mk (d5.mk [] []) []) (fun _=>AG.mk (d5.mk [] []) []) (fun k=>if(decide ((AA (Bx r c vars) k).1=(AA (Bx r c vars) i).1)&&!decide ((AA (Bx r c vars) k).2=(AA (Bx r c vars) i).2))=true then some (AG.mk (d5.mk [] []) [],(11:Int))else none) u rfl]
  .rw[LY];unfold TQ;split<;>rfl
  .intro k z J _;have y:=h.slot _ (AJ z (show k<r.fd.fq.length by omega));simp[AD u w,AD z (show k<r.fd.fq.length by omega)];rw[Mz y.2.1.1 y.2.1.2,bs,AD y.1.1 y.1.2,bs,AD j.1.1 j.1.2,bs,M3 r c vars u w,M3 r c vars z (by omega)];simp[PY];by_cases F:AA c.d3 (AA r.fd.fq k).sx=AA c.d3 (AA r.fd.fq i).sx<;>by_cases o:(AA r.fd.fq k).kl=(AA r.fd.fq i).kl<;>by_cases D:Cn (AA r.fd.fq i).j0 vars=Cn (AA r.fd.fq k).j0 vars
   all_goals first|(have I:¬Cn (AA r.fd.fq k).j0 vars=Cn (AA r.fd.fq i).j0 vars:=fun h=>D h.symm;simp[F,o,D,I,dw];done)|(simp[F,o,D,dw];done)
end Go.Sf.Sc
namespace Go.Sf.Sc
open Go Go.Sf
variable{t:AC}{r:gt}
theorem Uu(h:El t r=0):G8 t r.kg=0/\JF t r=0/\Lz t r.kg r.d7=0:=by grind[El]
theorem Y4(h:JF t r=0):r.fd.hT=r.kg.hT/\r.fd.fq.length<=10/\∀i:Int,0<=i->i<r.fd.fq.length->NV t r.fd i=0:=by
 unfold JF at h;split at h
 .omega
 split at h
 .cases h
 split at h
 .cases h
 split at h
 .cases h
 rename_i e j o s;exact⟨by omega,by omega,UL h⟩
variable{i:Int}
theorem bP{p:ec}(h:NV t p i=0):(0<=(AA p.fq i).sx/\(AA p.fq i).sx<p.d5.d3.length)/\
  (0<=(AA p.fq i).kl/\(AA p.fq i).kl<(GD t (AA p.d5.d3 (AA p.fq i).sx)).1.length)/\-1<=(AA p.fq i).j0.Var/\(AA p.fq i).j0.Var<p.hT:=by
 unfold NV at h;dsimp only at h;split at h
 .cases h
 split at h
 .cases h
 rename_i j e;simp[zzX]at e;omega
structure H8(t:AC)(r:gt)(h:AG)(m:AL):Prop where
 hf:Ap t
 fr:LJ r
 re:El t r=0
 he:(Hc t h).2=0
 at_:Tr t r.kg h m
 co:Wu (Q3 r.kg.d5 h.d5 m.d6) h.d5 r.x3 m.d6
abbrev dS(r:gt)(h:AG)(m:AL):BA:=LC h.d5 r.x3 m.d6
abbrev cS(r:gt)(h:AG)(m:AL):d6:=uo r h m.d6 (dS r h m)
variable{h:AG}{m:AL}
theorem H8.hv(s:H8 t r h m):(Au t).2=0:=(Zs s.re).1
theorem H8.ro(s:H8 t r h m):bu t r:=(Zs s.re).2
theorem H8.hh(s:H8 t r h m):IF t h:=(Se s.hf s.he).2
theorem OI(hf:Ap t)(hv:(Au t).2=0)(hh:IF t h):HN h:=by
 have o:=hh.g.ei;have s:=hh.g.em;have u:=hh.len;refine⟨by omega,by omega,by omega,fun v e=>?_⟩;obtain⟨i,j,z,rfl⟩:=BW e;have w:=hh.row i j (by omega);have y:=HQ hf (Int.le_refl _) (Cz hv).par (hh.kind i j (by omega)).2;omega
theorem H8.rem(s:H8 t r h m):Wc h (dS r h m):=by
 have hh:=s.hh;have o:=hh.g.ei;have u:=hh.g.em;have l1:=PX (EO m.d6.d3 r.x3.d3) h.d5.d3.length;have l2:=PX (EO m.d6.d4 r.x3.d4) h.d5.d4.length;exact⟨OI s.hf s.hv hh,hh.len,⟨fun x j=>Hl j,by show(BB _ _).length<=1000;omega⟩,⟨fun x j=>Hl j,by show(BB _ _).length<=1000;omega⟩,fun e he=>(hh.g.fit e he).2⟩
theorem H8.part(s:H8 t r h m):EP h.d5 (dS r h m)=0:=by
 unfold EP;rw[az (by simp[s.hh.ge])];exact db s.co
variable{count n:Nat}
theorem cJ{hV into images:Fp}{A1:Fp}(few:count<=1000)(nodup:into.Nodup)(len:into.length=hV.length)(inn:∀x∈into,0<=x/\x<count)
  (kin:∀x∈hV,0<=x/\x<images.length)(o:∀x∈images,0<=x/\x<n)(hi:AaG images hV=false)(s:A1=EO images hV):
  SZ count hV into (images.map (AA (G0 n (BB A1 n))))/\(∀x∈hV,AA (images.map (AA (G0 n (BB A1 n)))) x<(BB A1 n).length)/\
  ∀x∈hV,AA (images.map (AA (G0 n (BB A1 n)))) x=Cw (BB A1 n) (AA images x)/\AA images x∈BB A1 n:=by
 have e:∀x∈hV,AA (images.map (AA (G0 n (BB A1 n)))) x=Cw (BB A1 n) (AA images x)/\AA images x∈BB A1 n:=fun x j=>by
  grind [AJ,Na,Tm,OP,R4]
 refine ⟨⟨few,nodup,len,inn,fun x j=>by rw[ca];exact kin x j,fun x j=>?_⟩,fun x j=>?_,e⟩
 .rw[(e x j).1];exact L9.2 (e x j).2
 .rw[(e x j).1];exact(Sg _ _).2
theorem H8.left(s:H8 t r h m):m.d6.d3.length=r.kg.d5.d3.length/\m.d6.d4.length=r.kg.d5.d4.length:=⟨s.at_.m.AaQ,s.at_.m.Aa7⟩
theorem H8.AbW(s:H8 t r h m):SZ r.fd.d5.d3.length r.x3.d3 r.sc.d3 (m.d6.d3.map (AA (G2 h (dS r h m)).d3))/\
  (∀x∈r.x3.d3,AA (m.d6.d3.map (AA (G2 h (dS r h m)).d3)) x<(dS r h m).d3.length)/\
  ∀x∈r.x3.d3,AA (m.d6.d3.map (AA (G2 h (dS r h m)).d3)) x=Cw (dS r h m).d3 (AA m.d6.d3 x)/\AA m.d6.d3 x∈(dS r h m).d3:=by
 have ro:=s.ro;have u:=ro.right.ei;refine cJ (by omega) ro.inj.1 ?_ (fun x e=>?_) (fun x e=>?_) (fun x e=>?_) s.co.ei rfl
 .have:=ro.mor.AaQ;rw[this];exact ca ..
 .obtain⟨i,j,o,rfl⟩:=BW e;exact(ro.mor.node i j o).1
 .have:=ro.part.ei.1 x e;have:=s.left.1;omega
 .obtain⟨i,j,o,rfl⟩:=BW e;exact(s.at_.m.node i j o).1
theorem H8.Ab5(s:H8 t r h m):SZ r.fd.d5.d4.length r.x3.d4 r.sc.d4 (m.d6.d4.map (AA (G2 h (dS r h m)).d4))/\
  (∀x∈r.x3.d4,AA (m.d6.d4.map (AA (G2 h (dS r h m)).d4)) x<(dS r h m).d4.length)/\
  ∀x∈r.x3.d4,AA (m.d6.d4.map (AA (G2 h (dS r h m)).d4)) x=Cw (dS r h m).d4 (AA m.d6.d4 x)/\AA m.d6.d4 x∈(dS r h m).d4:=by
 have ro:=s.ro;have u:=ro.right.em;refine cJ (by omega) ro.inj.2 ?_ (fun x e=>?_) (fun x e=>?_) (fun x e=>?_) s.co.em rfl
 .have:=ro.mor.Aa7;rw[this];exact ca ..
 .obtain⟨i,j,o,rfl⟩:=BW e;exact(ro.mor.edge i j o).1
 .have:=ro.part.em.1 x e;have:=s.left.2;omega
 .obtain⟨i,j,o,rfl⟩:=BW e;exact s.at_.m.edge i j o
theorem ZJ{hV into at_:Fp}(h:SZ count hV into at_)(j:∀x∈hV,AA at_ x<n)(o:0<=i)(s:i<count):AA (Rr count hV into at_ n) i=n+(BB into i).length↔i∉into:=by
 rw [cI o s];constructor
 .intro e hi;rw[Pr hi]at e;have u:=IN hi;have:=j _ (AJ (l:=hV) u.1 (by have:=h.len;omega));omega
 .exact QO
theorem H8.grow(s:H8 t r h m):Tu t r (cS r h m):=
 ⟨s.hf,s.hv,s.ro.right,(H6 s.ro.right s.ro.AbR).1,U5 _ _ _ _ _⟩
theorem TC(l:Fp)(j:0<=i):∀(k:Nat),∃s,BB l (i+k)=BB l i++s
 |0=>⟨[],by simp⟩|k+1=>by
  obtain ⟨s,e⟩:=TC l j k
  grind [MV,ci]
variable{l:Fp}
theorem gM{i n:Int}(j:0<=i)(o:i<n)(h:i∉l):AA (BB l n) (BB l i).length=i/\((BB l i).length:Int)<(BB l n).length:=by
 obtain ⟨s,e⟩:=TC l (i:=i+1) (by omega) (n-(i+1)).toNat
 rw [show i+1+((n-(i+1)).toNat:Int)=n by omega,MV l j]at e
 grind [hasB,CG,AA]
variable{α:Type}
theorem mf[Inhabited α]{l m:List α}(e:0<=i)(j:i<l.length):AA (l++m) i=AA l i:=by grind[O9]
theorem mg[Inhabited α]{l m:List α}:AA (l++m) (l.length+n:Int)=AA m n:=by grind[O9,AA,Int.toNat_natCast]
theorem H8.kindAt(s:H8 t r h m)(z:0<=i)(D:i<r.fd.d5.d3.length):
  (0<=AA (cS r h m).d3 i/\AA (cS r h m).d3 i<(DT t r (CH h (dS r h m)) (cS r h m)).d5.d3.length)/\
  (Ax t (AA r.fd.d5.d3 i)).length<=(Ax t (AA (DT t r (CH h (dS r h m)) (cS r h m)).d5.d3 (AA (cS r h m).d3 i))).length:=by
 obtain ⟨H,O,P⟩:=s.AbW;have I:AA (cS r h m).d3 i=Ok r.x3.d3 r.sc.d3 (m.d6.d3.map (AA (G2 h (dS r h m)).d3)) (dS r h m).d3.length i:=cI z D;have el:(DT t r (CH h (dS r h m)) (cS r h m)).d5.d3=(dS r h m).d3.map (AA h.d5.d3)++(Iv r).map (AA r.fd.d5.d3):=rfl;rw[I,el,cE,ca,ca];by_cases hi:i∈r.sc.d3
 .have e:=IN hi;have Q:=H.len;have o:=AJ (l:=r.x3.d3) e.1 (by omega);have E:=P _ o;have F:=O _ o;have w:=H.pos _ o;rw[Pr hi];refine⟨⟨w,by push_cast;omega⟩,?_⟩;rw[mf w (by rw[ca];exact F),Na w F,E.1,(IN E.2).2.2.1];have u:=s.ro.part.ei.1 _ o;have J:=s.left.1;have y:=s.at_.m.node _ u.1 (by omega);have K:=s.hh.kind _ y.1.1 y.1.2;have G:=s.ro.mor.node _ e.1 e.2.1;rw[e.2.2.1]at G;have N:AA (MJ r.kg.d5 r.x3).d3 (Cw r.sc.d3 i)=AA r.kg.d5.d3 (AA r.x3.d3 (Cw r.sc.d3 i)):=Na e.1 (by omega);rw[G.2,N];exact Vr (Cz s.hv) K.2 y.2
 .have u:=gM z D hi;rw[QO hi];have j:((dS r h m).d3.map (AA h.d5.d3)).length=(dS r h m).d3.length:=ca ..;refine⟨⟨by omega,?_⟩,?_⟩
  .have:((Iv r).length:Int)=(BB r.sc.d3 r.fd.d5.d3.length).length:=rfl
   push_cast
   omega
  .rw[<-j,mg,show Iv r=BB r.sc.d3 r.fd.d5.d3.length from rfl,Na (by omega) u.2];show _<=(Ax t (AA r.fd.d5.d3 (AA (BB r.sc.d3 r.fd.d5.d3.length) (BB r.sc.d3 i).length))).length;rw[u.1];exact bk _
theorem H8.rows(s:H8 t r h m):(DT t r (CH h (dS r h m)) (cS r h m)).gn.map (fun v=>v.length)=(DT t r (CH h (dS r h m)) (cS r h m)).d5.d3.map fun n=>(Ax t n).length:=by
 show (List.map _ (_++_))=List.map _ (_++_);rw[List.map_append,List.map_append];congr 1
 .show((dS r h m).d3.map (AA h.gn)).map _=((dS r h m).d3.map (AA h.d5.d3)).map _;rw[List.map_map,List.map_map];refine List.map_congr_left fun x e=>?_;have e:=s.rem.ei.1 x e;exact s.hh.row x e.1 e.2
 grind [List.map_map,List.map_congr_left,fX,ca]
theorem H8.put(s:H8 t r h m):Sb t r (cS r h m) m.hT (DT t r (CH h (dS r h m)) (cS r h m)):=by
 obtain ⟨O,H,P⟩:=Uu s.re;obtain⟨hv,Q,D⟩:=Y4 H;have J:=s.at_.q.vars;have E:=s.at_.len;have y:=s.rows;have z:(DT t r (CH h (dS r h m)) (cS r h m)).gn.length=(DT t r (CH h (dS r h m)) (cS r h m)).d5.d3.length:=by
  grind [List.length,ca]
 refine ⟨s.hf,s.hv,by omega,by omega,fun x e=>?_,fun n j=>?_,z,fun i o w=>?_⟩
 .obtain⟨i,o,w,rfl⟩:=BW e;obtain⟨u,I,S⟩:=bP (D i o w);have F:=(H6 s.ro.right s.ro.AbR).1 _ (AJ u.1 u.2);rw[Ic s.hv F.1 F.2]at I;obtain⟨U,V⟩:=s.kindAt u.1 u.2;have G:(cS r h m).d3.length=r.fd.d5.d3.length:=U5 _ _ _ _ _
  grind
 .have j:n∈(dS r h m).d3.map (AA h.d5.d3)++(Iv r).map (AA r.fd.d5.d3):=j;rcases List.mem_append.1 j with j|j
  .obtain⟨x,e,rfl⟩:=List.mem_map.1 j;have e:=s.rem.ei.1 x e;exact s.hh.kind x e.1 e.2
  .obtain⟨x,e,rfl⟩:=List.mem_map.1 j;have e:=Hl e;exact(H6 s.ro.right s.ro.AbR).1 _ (AJ e.1 e.2)
 .have K:=Na (l:=(DT t r (CH h (dS r h m)) (cS r h m)).gn) (g:=fun v=>v.length) o (by omega);have N:=Na (l:=(DT t r (CH h (dS r h m)) (cS r h m)).d5.d3) (g:=fun n=>(Ax t n).length) o w
  grind
end Go.Sf.Sc
namespace Go.Sf.Sc
open Go Go.Sf
abbrev tz:gt:=gt.mk (⟨#[]⟩:ByteArray) (ec.mk (d5.mk [] []) [] 0 []) (ec.mk (d5.mk [] []) [] 0 []) (BA.mk [] []) (d6.mk [] []) false (d7.mk 0 [] (d6.mk [] []) (ec.mk (d5.mk [] []) [] 0 []))
abbrev zG:A2:=A2.mk tz (AL.mk (d6.mk [] []) []) (AG.mk (d5.mk [] []) []) (AG.mk (d5.mk [] []) []) (d6.mk [] []) (d6.mk [] [])
def We(t:AC)(r:gt)(h:AG)(m:AL):A2×Int:=
 if (Hx t (DT t r (CH h (dS r h m)) (cS r h m)) (Bx r (cS r h m) m.hT)).2≠0 then(zG,(Hx t (DT t r (CH h (dS r h m)) (cS r h m)) (Bx r (cS r h m) m.hT)).2)else
 if 40<(Hx t (DT t r (CH h (dS r h m)) (cS r h m)) (Bx r (cS r h m) m.hT)).1.d5.d3.length\/80<(Hx t (DT t r (CH h (dS r h m)) (cS r h m)) (Bx r (cS r h m) m.hT)).1.d5.d4.length then(zG,3)else
 (A2.mk r m h (Hx t (DT t r (CH h (dS r h m)) (cS r h m)) (Bx r (cS r h m) m.hT)).1 (G2 h (dS r h m)) (cS r h m),0)
noncomputable def Gm(t:AC)(r:gt)(h:AG)(m:AL):A2×Int:=
 if El t r≠0 then(zG,El t r)else if(Hc t h).2≠0 then(zG,(Hc t h).2)else
 if FK t r.kg.d5 h.d5 m.d6 r.ns≠0 then(zG,1)else
 if (FL t r.kg h m.d6).2≠0 then(zG,(FL t r.kg h m.d6).2)else if¬(FL t r.kg h m.d6).1=m.hT then(zG,11)else
 if (Ly (Q3 r.kg.d5 h.d5 m.d6) h.d5 r.x3 m.d6).2≠0 then(zG,(Ly (Q3 r.kg.d5 h.d5 m.d6) h.d5 r.x3 m.d6).2)else
 if (LP t r.kg r.d7 h m r.ns).2≠0 then(zG,(LP t r.kg r.d7 h m r.ns).2)else
 if (LP t r.kg r.d7 h m r.ns).1=false then(zG,16)else We t r h m
variable{t:AC}{r:gt}{h:AG}{m:AL}
theorem U4(e:El t r=0)(j:(Hc t h).2=0)(o:FK t r.kg.d5 h.d5 m.d6 r.ns=0)(s:(FL t r.kg h m.d6).2=0)(u:(FL t r.kg h m.d6).1=m.hT):Rl t r.kg r.d7 h m r.ns=0:=by
 unfold Rl;rw[az (by simp[(Uu e).2.2]),az (by simp[j]),az (by simp[o]),az (by simp[s]),ae u]
theorem ZU{X:Option (A2×Int)}(e:(Hx t (DT t r (CH h (dS r h m)) (cS r h m)) (Bx r (cS r h m) m.hT)).2=0->X=
   if ((decide (40<((Hx t (DT t r (CH h (dS r h m)) (cS r h m)) (Bx r (cS r h m) m.hT)).1.d5.d3.length:Int)))||(decide (80<((Hx t (DT t r (CH h (dS r h m)) (cS r h m)) (Bx r (cS r h m) m.hT)).1.d5.d4.length:Int))))=true then some (zG,3)else
   some (A2.mk r m h (Hx t (DT t r (CH h (dS r h m)) (cS r h m)) (Bx r (cS r h m) m.hT)).1 (G2 h (dS r h m)) (cS r h m),0)):
  (if(!decide ((Hx t (DT t r (CH h (dS r h m)) (cS r h m)) (Bx r (cS r h m) m.hT)).2=0))=true then some (zG,(Hx t (DT t r (CH h (dS r h m)) (cS r h m)) (Bx r (cS r h m) m.hT)).2)else X)=some (We t r h m):=by
 unfold We;refine C8 fun j=>?_;rw[e j];refine Nb (by simp;omega) fun _=>rfl
theorem dB(hf:Ap t)(fr:LJ r)(G:Dv r.d7<=40)(h:AG)(m:AL):GR t r h m=some (Gm t r h m):=by
 unfold GR Fg Gm;rw[Ld hf,bs];by_cases hv:¬(Au t).2=0
 .grind[El,Au]
 have hv:=Classical.not_not.1 hv;rw[az (by simp[hv]),X3 hf fr,bs,SF hf,bs];by_cases o:¬El t r=0
 .grind
 have o:=Classical.not_not.1 o;rw[az (by simp[o]),bs,az (show¬El t r≠0 by simp[o])];refine C8 fun H=>?_;rw[Option.bind_fun_some];unfold Ff Gz;rw[VH hf,bs];by_cases u:¬FK t r.kg.d5 h.d5 m.d6 r.ns=0
 .grind
 have u:=Classical.not_not.1 u;rw[az (by simp[u]),Zc hf,bs,az (show¬FK t r.kg.d5 h.d5 m.d6 r.ns≠0 by simp[u])];by_cases y:¬(FL t r.kg h m.d6).2=0
 .grind
 have y:=Classical.not_not.1 y;rw[az (by simp[y]),jA,bs,az (show¬(FL t r.kg h m.d6).2≠0 by simp[y])];by_cases z:¬(FL t r.kg h m.d6).1=m.hT
 .grind
 have z:=Classical.not_not.1 z;rw[az (by simp[z]),bs,az (by simp),az (show¬¬(FL t r.kg h m.d6).1=m.hT by simp[z])];rw[nd hf u,bs,az (by simp),nX fr.hV,bs];refine C8 fun I=>?_;obtain⟨_,_,_,D⟩:=UA hf G (U4 o H u y z);obtain⟨co,S⟩:=U6 I;rw[Yy hf _ fr.cond G,bs,S];refine C8 fun U=>?_;refine UB fun V=>?_;have s:H8 t r h m:=⟨hf,fr,o,H,D,co⟩;have w:=s.rem;have W:=s.hh.g.ei;have X:=s.hh.g.em;have l1:=s.left.1;have l2:=s.left.2;have Y:=s.ro.left.ei;have Z:=s.ro.left.em;have K:=D.len;have N:=D.q.vars;have F:IZ m=some m:=by
  unfold IZ slices_Clone_int;rw[BY (by unfold Ae;omega),bs,BY (by unfold Ae;omega),bs,BY (by unfold Ae;omega),bs]
 simp only[];rw[F,bs,ay w.sm,bs];rw[Zi (by omega) w.ei.2 (Li _ _),bs,Zi (by omega) w.em.2 (Li _ _),bs];have O:Fw r.fd.d5.d3.length r.x3.d3 r.sc.d3 m.d6.d3 (G0 h.d5.d3.length (dS r h m).d3) (LC h.d5 r.x3 m.d6).d3.length=some (cS r h m).d3:=
  Vx s.AbW.1 (fun x E=>by rw[Lo];obtain⟨i,e,j,rfl⟩:=BW E;exact(D.m.node i e j).1) (by omega) (Int.ofNat_le.2 w.ei.2)
 have P:Fw r.fd.d5.d4.length r.x3.d4 r.sc.d4 m.d6.d4 (G0 h.d5.d4.length (dS r h m).d4) (LC h.d5 r.x3 m.d6).d4.length=some (cS r h m).d4:=
  Vx s.Ab5.1 (fun x E=>by rw[Lo];obtain⟨i,e,j,rfl⟩:=BW E;exact D.m.edge i e j) (by omega) (Int.ofNat_le.2 w.em.2)
 rw [O,bs,P,bs];have Q:=kY (M:=m) s.grow w (U5 _ _ _ _ _) (fun i e j=>ZJ s.AbW.1 s.AbW.2.1 e j) (fun i e j=>ZJ s.Ab5.1 s.Ab5.2.1 e j);change ((GT t (A2.mk r m h (AG.mk (d5.mk [] []) []) (G2 h (dS r h m)) (cS r h m)) (dS r h m)).bind _)=_;rw[Q,bs,na s.put,bs];exact ZU fun J=>by rw[ae J]
theorem dL(hf:Ap t){p:ec}{c:d7}(e:Dv c<=40){inj:Bool}(j:Rl t p c h m inj=0):Ku t c h m inj=some (LP t p c h m inj):=by
 obtain ⟨hv,hh,o,s⟩:=UA hf e j
 grind [Ku,LP,wS,CY,ly,cl,gA]
theorem dU(hf:Ap t)(fr:LJ r)(J:Dv r.d7<=40)(h:AG)(m:AL):JR t r h m=some (Gm t r h m):=by
 unfold JR H3 Gm;rw[YF hf fr,bs,SL hf,bs];by_cases e:¬El t r=0
 .rw[ae (by simp[e]),bs,ae (by simp[e]),ae e]
 have e:=Classical.not_not.1 e;rw[az (by simp[e]),bs,az (show¬El t r≠0 by simp[e])];refine C8 fun E=>?_;unfold KS;rw[VM hf,bs];by_cases j:¬FK t r.kg.d5 h.d5 m.d6 r.ns=0
 .rw[ae (by simp[j]),bs,ae (by simp),ae j]
 have j:=Classical.not_not.1 j;rw[az (by simp[j]),kv hf,bs,az (show¬FK t r.kg.d5 h.d5 m.d6 r.ns≠0 by simp[j])];by_cases o:¬(FL t r.kg h m.d6).2=0
 .rw[ae (by simp[o]),bs,ae (by simp[o]),ae o]
 have o:=Classical.not_not.1 o;rw[az (by simp[o]),Zl,bs,az (show¬(FL t r.kg h m.d6).2≠0 by simp[o])];by_cases y:¬(FL t r.kg h m.d6).1=m.hT
 .rw[ae (by simp[y]),bs,ae (by simp),ae y]
 have y:=Classical.not_not.1 y;rw[az (by simp[y]),az (show¬¬(FL t r.kg h m.d6).1=m.hT by simp[y])];rw[oG hf j,bs,az (by simp),n9 fr.hV,bs];by_cases u:¬(Ly (Q3 r.kg.d5 h.d5 m.d6) h.d5 r.x3 m.d6).2=0
 .rw[ae (by simp[u]),bs,ae (by simp[u]),ae u]
 have u:=Classical.not_not.1 u;rw[az (by simp[u]),az (show¬(Ly (Q3 r.kg.d5 h.d5 m.d6) h.d5 r.x3 m.d6).2≠0 by simp[u])];have D:=U4 e E j o y;obtain⟨_,_,_,G⟩:=UA hf J D;obtain⟨co,O⟩:=U6 u;rw[dL hf J D,bs,O,Hw,bs,bs];by_cases w:¬(LP t r.kg r.d7 h m r.ns).2=0
 .rw[az (show¬((decide ((LP t r.kg r.d7 h m r.ns).2=0)&&!(LP t r.kg r.d7 h m r.ns).1)=true)by simp[w]),ae (by simp[w]),ae w]
 have w:=Classical.not_not.1 w;rw[az (show¬(LP t r.kg r.d7 h m r.ns).2≠0 by simp[w])];cases Q:(LP t r.kg r.d7 h m r.ns).1 with
 |false=>rw[ae (show(decide ((LP t r.kg r.d7 h m r.ns).2=0)&&!false)=true by simp[w]),ae (by simp),ae rfl]|true=>
 rw [az (show¬(decide ((LP t r.kg r.d7 h m r.ns).2=0)&&!true)=true by simp),az (by simp[w]),az (by simp)];have s:H8 t r h m:=⟨hf,fr,e,E,G,co⟩;have z:=s.rem;have S:=s.hh.g.ei;have U:=s.hh.g.em;have l1:=s.left.1;have l2:=s.left.2;have V:=s.ro.left.ei;have W:=s.ro.left.em;unfold LA J7;simp only[];rw[Y0 hf E s.part z,bs,X7 (by omega) z.ei.2 ((Li _ _).imp fun h=>by omega),bs,bs,X7 (by omega) z.em.2 ((Li _ _).imp fun h=>by omega),bs,bs,bs];simp only[];rw[Un (by omega) (fun x F=>by rw[Lo];obtain⟨i,H,I,rfl⟩:=BW F;exact(G.m.node i H I).1),bs];rw[Un (by omega) (fun x F=>by rw[Lo];obtain⟨i,H,I,rfl⟩:=BW F;exact G.m.edge i H I),bs];have K:FH r.x3.d3 r.sc.d3 r.fd.d5.d3.length (m.d6.d3.map (AA (G0 h.d5.d3.length (dS r h m).d3))) (LC h.d5 r.x3 m.d6).d3.length=some (cS r h m).d3:=
  V4 s.AbW.1 (by omega) (Int.ofNat_le.2 z.ei.2)
 have N:FH r.x3.d4 r.sc.d4 r.fd.d5.d4.length (m.d6.d4.map (AA (G0 h.d5.d4.length (dS r h m).d4))) (LC h.d5 r.x3 m.d6).d4.length=some (cS r h m).d4:=
  V4 s.Ab5.1 (by omega) (Int.ofNat_le.2 z.em.2)
 rw [K,bs,N,bs];rw[SK (WB z),bs];change ((KQ t r (CH h (dS r h m)) (cS r h m)).bind _)=_;rw[oE s.grow (WB z),bs];change ((Lh t r (DT t r (CH h (dS r h m)) (cS r h m)) (cS r h m) m.hT).bind _)=_;rw[r9 s.put,bs];exact ZU fun P=>rfl
end Go.Sf.Sc
namespace Go.Sf.Sc
open Go Go.Sf
instance:Inhabited gt:=⟨tz⟩
instance:Inhabited Bq:=⟨⟨0,⟨⟨[],[]⟩,[]⟩⟩⟩
instance:Inhabited A2:=⟨zG⟩
structure Jo(rules:List gt):Prop where
 len:rules.length<=12
 each:∀r∈rules,LJ r/\Dv r.d7<=40
noncomputable def Jj(t:AC)(rules:List gt)(h:AG)(m:Bq):A2×Int:=if m.gt<0\/rules.length<=m.gt then(zG,6)else Gm t (AA rules m.gt) h m.og
variable{t:AC}{rules:List gt}
theorem ng(hf:Ap t)(j:Jo rules)(h:AG)(m:Bq):C5 t rules h m=some (Jj t rules h m):=by
 unfold C5 Jj;refine Nb (by simp) fun e=>?_;have o:=j.each _ (AJ (l:=rules) (i:=m.gt) (by omega) (by omega))
 grind [AD,dB]
theorem oI(hf:Ap t)(j:Jo rules)(h:AG)(m:Bq):KT t rules h m=some (Jj t rules h m):=by
 unfold KT Jj;refine Nb (by simp) fun e=>?_;have o:=j.each _ (AJ (l:=rules) (i:=m.gt) (by omega) (by omega))
 grind [AD,dU]
noncomputable def P9(t:AC)(rules:List gt):Int:=
 if (Au t).2≠0 then(Au t).2 else if 10<rules.length then 3 else(fst (fun i=>nz (El t (AA rules i))) 0 rules.length).getD 0
noncomputable def KI(t:AC)(rules:List gt)(h:AG):Int:=if P9 t rules≠0 then P9 t rules else(Hc t h).2
theorem nQ{e v:Int}(h:nz e=some v):v≠0:=by grind[nz]
variable{a b v:Int}
theorem kA{c:Int->Int}(h:fst (fun i=>nz (c i)) a b=some v):v≠0:=by grind[C7,nQ]
theorem dT(hf:Ap t)(o:Jo rules):K3 t rules=some (P9 t rules):=by
 unfold K3 P9;rw[Ob hf,bs];refine DY fun s=>Nb (by simp;try omega) fun u=>?_;rw[BV (fun i=>nz (El t (AA rules i))),CS];intro i e j _;rw[AD e j,bs,YF hf (o.each _ (AJ e j)).1,bs,Kj]
theorem YA(hf:Ap t)(e:Jo rules)(h:AG):JT t rules h=some (KI t rules h):=by
 unfold JT KI;rw[dT hf e,bs,SL hf,bs];exact DY fun _=>rfl
theorem fk(hf:Ap t)(u:Jo rules)(h:AG):C6 t rules h=some (KI t rules h):=by
 unfold C6 KI P9;rw[Ld hf,bs];by_cases j:¬(Au t).2=0
 .grind
 have j:=Classical.not_not.1 j;rw[az (by simp[j]),az (show¬(Au t).2≠0 by simp[j])];by_cases w:10<rules.length
 .grind
 rw [az (by simp;omega),az w,BV (fun i=>nz (El t (AA rules i))),Dk]
 .cases e:fst (fun i=>nz (El t (AA rules i))) 0 (rules.length:Int)with
  |none=>
   grind [SF]
  |some v=>
   have:=kA e
   grind
 .intro i o s _;rw[AD o s,bs,X3 hf (u.each _ (AJ o s)).1,bs,Kj]
noncomputable def uu(t:AC)(rules:List gt)(h0:AG)(ms:List Bq):List A2×AG:=
 ms.foldl (fun s m=>(s.1++[(Jj t rules s.2 m).1],(Jj t rules s.2 m).1.wi)) ([],h0)
noncomputable def tj(t:AC)(rules:List gt)(h0:AG)(ms:List Bq)(i:Int):Int:=(Jj t rules (uu t rules h0 (ms.take i.toNat)).2 (AA ms i)).2
structure ig(t:AC)(rules:List gt)(d:AZ):Prop where
 given:KI t rules d.tl=0
 few:d.qo.length<=30
 moves:∀i:Int,0<=i->i<d.qo.length->tj t rules d.tl d.qo i=0
structure uv(h:AG)(s:A2):Prop where
 AaQ:s.AaA.d3.length=h.d5.d3.length
 Aa7:s.AaA.d4.length=h.d5.d4.length
 node:∀x∈s.AaA.d3,-1<=x/\x<s.wi.d5.d3.length
 edge:∀x∈s.AaA.d4,-1<=x/\x<s.wi.d5.d4.length
 sm:HN s.wi
variable{x:AG}{L:BD}
theorem nx(h:(Hx t x L).2=0):Hx t x L=(⟨x.d5,L.foldl CR x.gn⟩,0)/\L.any (Nz t x)=false:=by
 unfold Hx at h|-
 grind
structure T1(t:AC)(r:gt)(h:AG)(m:AL):Prop where
 f:H8 t r h m
 sat:LP t r.kg r.d7 h m r.ns=(true,0)
 solve:FL t r.kg h m.d6=(m.hT,0)
 chk:FK t r.kg.d5 h.d5 m.d6 r.ns=0
 put:(Hx t (DT t r (CH h (dS r h m)) (cS r h m)) (Bx r (cS r h m) m.hT)).2=0
 few:(DT t r (CH h (dS r h m)) (cS r h m)).d5.d3.length<=40/\(DT t r (CH h (dS r h m)) (cS r h m)).d5.d4.length<=80
def md(t:AC)(r:gt)(h:AG)(m:AL):AG:=⟨(DT t r (CH h (dS r h m)) (cS r h m)).d5,(Bx r (cS r h m) m.hT).foldl CR (DT t r (CH h (dS r h m)) (cS r h m)).gn⟩
def jV(t:AC)(r:gt)(h:AG)(m:AL):A2:=A2.mk r m h (md t r h m) (G2 h (dS r h m)) (cS r h m)
variable{r:gt}{h:AG}{m:AL}
theorem ey(hf:Ap t)(fr:LJ r)(I:Dv r.d7<=40)(e:(Gm t r h m).2=0):T1 t r h m/\Gm t r h m=(jV t r h m,0):=by
 unfold Gm at e|-;split at e
 .rename_i o;exact absurd e o
 rename_i o;rw[az o];split at e
 .rename_i u;exact absurd e u
 rename_i u;rw[az u];split at e
 .cases e
 rename_i E;rw[az E];split at e
 .rename_i w;exact absurd e w
 rename_i w;rw[az w];split at e
 .cases e
 rename_i F;rw[az F];split at e
 .rename_i z;exact absurd e z
 rename_i z;rw[az z];split at e
 .rename_i D;exact absurd e D
 rename_i D;rw[az D];split at e
 .cases e
 rename_i G;rw[az G];have o:=Classical.not_not.1 o;have u:=Classical.not_not.1 u;have E:=Classical.not_not.1 E;have w:=Classical.not_not.1 w;have F:=Classical.not_not.1 F;have z:=Classical.not_not.1 z;have D:=Classical.not_not.1 D;obtain⟨_,_,_,J⟩:=UA hf I (U4 o u E w F);have s:H8 t r h m:=⟨hf,fr,o,u,J,(U6 z).1⟩;unfold We at e|-;split at e
 .rename_i y;exact absurd e y
 rename_i y;rw[az y];have y:=Classical.not_not.1 y;obtain⟨H,K⟩:=nx y;split at e
 .cases e
 rename_i j;rw[az j];rw[H]at j;refine⟨⟨s,?_,?_,E,y,?_⟩,?_⟩
 .exact Prod.ext (by simpa using G) D
 .exact Prod.ext F w
 .simp[not_or]at j;exact j
 .rw[H];rfl
end Go.Sf.Sc
namespace Go.Sf.Sc
open Go Go.Sf
structure InM(m:d6)(g:d5):Prop where
 AaQ:m.d3.length<=1000
 Aa7:m.d4.length<=1000
 node:∀x∈m.d3,-1<=x/\x<g.d3.length
 edge:∀x∈m.d4,-1<=x/\x<g.d4.length
variable{t:AC}{rules:List gt}{h:AG}
theorem kP(hf:Ap t)(o:Jo rules){m:Bq}(e:(Jj t rules h m).2=0):
  (0<=m.gt/\m.gt<rules.length)/\T1 t (AA rules m.gt) h m.og/\Jj t rules h m=(jV t (AA rules m.gt) h m.og,0):=by
 unfold Jj at e|-;split at e
 .cases e
 rename_i s;rw[az s];have j:=o.each _ (AJ (l:=rules) (i:=m.gt) (by omega) (by omega));exact⟨by omega,ey hf j.1 j.2 e⟩
theorem VD(hf:Ap t)(e:KI t rules h=0):P9 t rules=0/\(Hc t h).2=0/\(Au t).2=0/\IF t h:=by grind[KI,Se]
variable{x:AG}
theorem ct(h:HN x):E9 x=some x:=by
 have:=h.ei;have:=h.em;have:=h.vals;unfold E9 slices_Clone_int DJ;rw[BY (by unfold Ae;omega),bs,BY (by unfold Ae;omega),bs];rw[Bo (fun i=>AG.mk x.d5 (x.gn.take i.toNat)) (by omega) (by rfl)]
 .rw[Int.toNat_natCast,List.take_length];rfl
 .intro i e j;have:=h.rows _ (AJ e j)
  grind [AD,BY,Ae,Af,CQ]
structure Ty(m:AL):Prop where
 ei:m.d6.d3.length<=1000
 em:m.d6.d4.length<=1000
 vars:m.hT.length<=1000
structure Wy(d:AZ):Prop where
 start:HN d.tl
 len:d.qo.length<=1000
 moves:∀m∈d.qo,Ty m.og
variable{r:gt}{m:AL}
theorem T1.small(s:T1 t r h m):Ty m:=by
 have j:=s.f.left;have e:=s.f.ro.left;have o:=s.f.at_.len;have u:=s.f.at_.q.vars;have:=e.ei;have:=e.em;exact⟨by omega,by omega,by omega⟩
theorem ig.small(hf:Ap t)(e:Jo rules){d:AZ}(h:ig t rules d):Wy d:=by
 obtain ⟨_,_,o,s⟩:=VD hf h.given;refine⟨OI hf o s,by have:=h.few;omega,fun m j=>?_⟩;obtain⟨i,u,w,rfl⟩:=BW j;have he:=h.moves i u w;unfold tj at he;exact(kP hf e he).2.1.small
abbrev zD:AZ:=AZ.mk (AG.mk (d5.mk [] []) []) []
end Go.Sf.Sc
namespace Go.Sf.Sc
open Go Go.Sf
end Go.Sf.Sc
namespace Go.Sf.Sc
open Go Go.Sf
end Go.Sf.Sc
namespace Go.Sf.Sc
open Go Go.Sf
variable{ρ:Type}
theorem pV{f:Int×Int->Option (Bk (Int×Int) ρ)}(I:Int->Int->Prop)(b:Int){s a:Int}(w:I a s)
  (step:∀i s,a<=i->I i s->(i<b/\∃s',f (s,i)=some (.next (s',i+1))/\I (i+1) s')\/f (s,i)=some (.brk (s,i))):∃i s',a<=i/\I i s'/\EA f (s,a)=some (.inl (s',i)):=by
 have key:∀(n:Nat)(i s:Int),a<=i->I i s->b-i<=n->∃j s',i<=j/\I j s'/\LK f (s,i) (.inl (s',j)):=by
  intro n
  induction n with
  |zero=>
   intro i s hi e y;rcases step i s hi e with⟨h,_⟩|h
   .omega
   .exact⟨i,s,Int.le_refl _,e,.brk h⟩
  |succ n F=>
   intro i s hi e y;rcases step i s hi e with⟨_,s',o,u⟩|h
   .obtain⟨j,s2,G,z,D⟩:=F (i+1) s' (by omega) u (by omega);exact⟨j,s2,by omega,z,.next o D⟩
   .exact⟨i,s,Int.le_refl _,e,.brk h⟩
 obtain ⟨j,s',o,u,E⟩:=key (b-a).toNat a s (Int.le_refl _) w (by omega);exact⟨j,s',o,u,E.eq⟩
theorem WM{q w k:Int}(c:Int)(H:q<=1000)(y:0<=k)(o:k<=1000)(u:1<=c/\c<=80)(z:1<=w/\w<=400000):∃w' D,(1<=w'/\w'<=400000)/\EA (ρ:=ρ) (fun(j:Int×Int)=>
  if ((decide (j.2<q))&&(decide (j.1<=5000)))=true then
  some (.next (Ad (j.1*c),Ad (j.2+1)))
  else
  some (.brk (j.1,j.2))) (w,k)=some (.inl (w',D)):=by
 obtain ⟨i,s',K,F,G⟩:=pV (ρ:=ρ) (f:=fun(j:Int×Int)=>
  if ((decide (j.2<q))&&(decide (j.1<=5000)))=true then
  some (.next (Ad (j.1*c),Ad (j.2+1)))
  else
  some (.brk (j.1,j.2))) (fun i s=>(1<=s/\s<=400000)/\0<=i/\i<=1000) q (s:=w) (a:=k) ⟨z,y,o⟩ (fun i s hi E=>by
   by_cases e:i<q/\s<=5000
   .left;have I:1*1<=s*c:=Int.mul_le_mul E.1.1 u.1 (by omega) (by omega);have J:s*c<=5000*80:=Int.mul_le_mul e.2 u.2 (by omega) (by omega)
    grind [Am]
   grind)
 exact ⟨s',i,F.1,G⟩
theorem Zu:∀(N:Nat)(c:d7)(p:ec)(w:Int),SizeOf.sizeOf c<=N->DV c->Mm p->Dv c<=1000->1<=w->w<=5000->∃b,∀n,N<=n->Cy n p c w=some b
 |0,c,_,_,h,_,_,_,_,_=>by have:=D7 c;omega|N+1,c,p,w,h,V,P,hk,w0,w1=>by
  have key:∀q:ec,Mm q->∃b,∀n,N<=n->ff (EA (ρ:=Bool) (fun(j:Int×Int)=>
    if ((decide (j.2<(q.d5.d3.length:Int)))&&(decide (j.1<=5000)))=true then
    some (.next (Ad (j.1*40),Ad (j.2+1)))
    else
    some (.brk (j.1,j.2))) (w,(p.d5.d3.length:Int))) (fun j=>
    ff (EA (ρ:=Bool) (fun(s2:Int×Int)=>
    if ((decide (s2.2<(q.d5.d4.length:Int)))&&(decide (s2.1<=5000)))=true then
    some (.next (Ad (s2.1*80),Ad (s2.2+1)))
    else
    some (.brk (s2.1,s2.2))) (j.1,(p.d5.d4.length:Int))) (fun s2=>
    ff (EA (ρ:=Bool) (fun(s:Int)=>
    if ((decide (s<(c.gp.length:Int)))&&(decide (s2.1<=5000)))=true then
    (idx c.gp s).bind fun z=>
    (Cy n q z s2.1).bind fun D=>
    if (!D)=true then
    some (.ret false)
    else
    some (.next (Ad (s+1)))
    else
    some (.brk s)) 0) (fun s=>
    some (decide (s2.1<=5000))) (fun W=>some W)) (fun X=>some X)) (fun Y=>some Y)=some b:=by
   intro q u;have q1:=u.ei;have q2:=u.em;have p1:=P.ei;have p2:=P.em;obtain⟨a,k,ha,U⟩:=WM (ρ:=Bool) (q:=q.d5.d3.length) (w:=w) (k:=p.d5.d3.length) 40 (by omega) (by omega) (by omega) (by omega) (by omega);obtain⟨a',k',J,y⟩:=WM (ρ:=Bool) (q:=q.d5.d4.length) (w:=a) (k:=p.d5.d4.length) 80 (by omega) (by omega) (by omega) (by omega) ha;have Z:c.gp.length<=1000:=by have:=Ro c.gp;have:=Rp c;omega
   by_cases I:a'<=5000
   .have kids:∀x∈c.gp,∃b,∀n,N<=n->Cy n q x a'=some b:=fun x E=>by
     have F:=E5 E;have G:=TN E;have h3:=Rp c;exact Zu N x q a' (by omega) (V.k x E) u (by omega) J.1 I
    have o:∀i:Int,∃b:Bool,0<=i->i<c.gp.length->∀n,N<=n->Cy n q (AA c.gp i) a'=some b:=fun i=>by
     by_cases e:0<=i/\i<c.gp.length
     .obtain⟨b,K⟩:=kids _ (AJ e.1 e.2);exact⟨b,fun _ _=>K⟩
     .exact⟨true,fun F G=>absurd ⟨F,G⟩ e⟩
    obtain ⟨g,hg⟩:=Classical.axiomOfChoice o;refine⟨(fst (fun i=>if g i=true then none else some (Sum.inr false:Int ⊕ Bool)) 0 c.gp.length).isNone,fun n H=>?_⟩;rw[U,BT];simp only[];rw[y,BT];simp only[];rw[Lp (fun i=>if g i=true then none else some (.inr false)) (b:=c.gp.length) (by omega)]
    .cases e:fst (fun i=>if g i=true then none else some (Sum.inr false:Int ⊕ Bool)) 0 (c.gp.length:Int)with
     |none=>
      show some (decide (a'<=5000))=some true;rw[decide_eq_true I]
     |some r=>
      obtain ⟨i,_,_,O,_⟩:=C7 e;split at O
      .cases O
      .cases O;rfl
    .intro i Q S _;rw[ae (by simp;omega),AD Q S,bs,hg i Q S n H,bs,Am (by omega) (by omega)];cases g i<;>rfl
    .rw[az (by simp)]
   .refine⟨false,fun n H=>?_⟩;rw[U,BT];simp only[];rw[y,BT];simp only[];rw[Lp (fun _=>none) (b:=0) (by omega) (fun i F G _=>by omega) (by rw[az (by simp;omega)])];rw[cX (by omega)];show some _=some _;rw[decide_eq_false I]
  have u:Mm (if c.mo=5 then c.ec else p):=by split;exact V.q;exact P
  obtain ⟨b,K⟩:=key _ u;refine⟨b,fun n H=>?_⟩;obtain⟨n,rfl⟩:∃k,n=k+1:=⟨n-1,by omega⟩;rw[Cy,show(if decide (c.mo=5)=true then some c.ec else some p)=some (if c.mo=5 then c.ec else p)by by_cases e:c.mo=5<;>simp[e],bs];exact K n (by omega)
end Go.Sf.Sc
namespace Go.Sf.Sc
open Go Go.Sf
variable{r:gt}
theorem YP(e:(B1 r).Sm):(AK r.d7).Sm:=by
 have j:TV.Sms [_,_,_,_,_,_,_,_,_,_,_,_,_,_,_,_,_,_,_,_,_,_,_,_,_]:=e;obtain⟨_,_,_,_,_,_,_,_,_,_,_,E,F,G,H,_,o,s,u,c4,w,y,z,D,c9,_⟩:=j;exact⟨o,s,u,c4,w,y,z,D,c9,trivial⟩
variable{t:AC}
theorem kM(hf:Ap t)(st:(AP t).Sm)(e:(B1 r).Sm)(h:AG):∃b,JS t r h=some b/\(b=true->LJ r/\Dv r.d7<=40):=by
 obtain ⟨j,o,_⟩:=Rt st;obtain⟨s,u,w⟩:=fG e;obtain⟨y,z,D⟩:=dN hf st r.kg (YP e) h;unfold JS
 grind
variable{rules:List gt}
theorem kN(st:(AP t).Sm)(W:∀r∈rules,(B1 r).Sm)(h:AG):∃b,K0 t rules h=some b/\(b=true->Ap t/\Jo rules):=by
 obtain ⟨b1,e1,f1⟩:=Rt st;obtain⟨b2,e2⟩:=XP h;unfold K0;by_cases S:(((decide (4<(rules.length:Int)))&&(decide ((rules.length:Int)<=10)))||(decide (12<(rules.length:Int))))=true
 .rw[ae S,bs,ae rfl,bs,ae rfl];exact⟨false,rfl,fun h=>by cases h⟩
 rw [az S,e1,bs,bs];cases b1 with
 |false=>exact⟨false,rfl,fun h=>by cases h⟩
 |true=>
 rw [az (by decide),e2,bs,bs];cases b2 with
 |false=>exact⟨false,rfl,fun h=>by cases h⟩
 |true=>
 rw [az (by decide)];have hf:=f1 rfl;have Z:rules.length<=12:=by
  simp only[Bool.or_eq_true,tg,zzX,not_or]at S;omega
 rcases Ms (f:=fun(o:Int)(X:Bool)=>
  (idx rules o).bind fun z=>
  (JS t z h).bind fun D=>
  if (!D)=true then
  some (.ret false)
  else
  (if X=true then((idx rules o).bind fun E=>
  some (decide ((E.kg.d5.d3.length:Int)<=3)))else some false).bind fun F=>
  (if F=true then((idx rules o).bind fun G=>
  some (decide ((G.kg.d5.d4.length:Int)<=2)))else some false).bind fun H=>
  (if H=true then((idx rules o).bind fun I=>
  some (decide ((I.fd.d5.d3.length:Int)<=5)))else some false).bind fun J=>
  (if J=true then((idx rules o).bind fun K=>
  (idx rules o).bind fun N=>
  (LB K.kg N.d7 1).bind fun O=>
  some (O))else some false).bind fun P=>
  some (.next P)) (fun i _=>∀j:Int,0<=j->j<i->LJ (AA rules j)/\Dv (AA rules j).d7<=40) (fun _=>False) (fun r=>r=false) (a:=0) (b:=rules.length) (s:=true) (by omega) (fun j h1 h2=>by omega) (fun i s o w Q=>by
   have hm:=AJ o w;obtain⟨b3,u,f3⟩:=kM hf st (W _ hm) h;simp only[AD o w,bs];rw[u,bs];cases b3 with
   |false=>exact .inr (.inr ⟨false,rfl,rfl⟩)|true=>
    obtain ⟨U,k2⟩:=f3 rfl;obtain⟨V,e4⟩:=Zu _ (AA rules i).d7 (AA rules i).kg 1 (bk _) U.cond U.left (by omega) (by decide) (by decide);have e5:LB (AA rules i).kg (AA rules i).d7 1=some V:=EG _ e4;left;refine⟨(((s&&decide (((AA rules i).kg.d5.d3.length:Int)<=3))&&decide (((AA rules i).kg.d5.d4.length:Int)<=2))&&decide (((AA rules i).fd.d5.d3.length:Int)<=5))&&V,?_,fun j Y j1=>?_⟩
    .rw[az (by decide),e5];cases s<;>cases decide (((AA rules i).kg.d5.d3.length:Int)<=3)<;>cases decide (((AA rules i).kg.d5.d4.length:Int)<=2)<;>cases decide (((AA rules i).fd.d5.d3.length:Int)<=5)<;>rfl
    .by_cases e:j=i
     .rw[e];exact⟨U,k2⟩
     .exact Q j Y (by omega))with⟨s',u,h3⟩|⟨r,u,h3⟩
 .rw[u,BT];have Q:=h3.resolve_right id;have y:Jo rules:=⟨Z,fun r y=>by
   obtain ⟨i,o,w,rfl⟩:=BW y;exact Q i o w⟩
  rw [YA hf y,bs];exact⟨_,rfl,fun _=>⟨hf,y⟩⟩
 .rw[u,Ln,h3];exact⟨false,rfl,fun h=>by cases h⟩
variable{h:AG}
theorem cN:∃b,GZ h=some b/\(b=true->HN h):=by
 unfold GZ Hh;rw[bs];by_cases j:((!((decide ((h.d5.d3.length:Int)<=45))&&(decide ((h.d5.d4.length:Int)<=90))))||(decide (45<(h.gn.length:Int))))=true
 .rw[ae j];exact⟨false,rfl,fun h=>by cases h⟩
 rw [az j,BJ (fun i=>decide (12<((AA h.gn i).length:Int))) false]
 .cases e:ne (fun i=>decide (12<((AA h.gn i).length:Int))) 0 h.gn.length with
  |true=>exact⟨false,rfl,fun h=>by cases h⟩
  |false=>
   refine ⟨true,rfl,fun _=>?_⟩;rw[Bf]at e;simp only[Bool.or_eq_true,Bool.not_eq_true',Bool.and_eq_false_iff,decide_eq_false_iff_not,zzX,not_or]at j;refine⟨by omega,by omega,by omega,fun v hv=>?_⟩
   grind [BW]
 .intro i o s _;rw[AD o s,bs,Hw]
variable{m:AL}
theorem cO(e:(m.d6.d3.length:Int)<=140737488351232)(j:(m.d6.d4.length:Int)<=140737488351232):∃b,Gi m 140=some b/\(b=true->Ty m):=by
 unfold Gi J2;rw[bs];refine⟨_,rfl,fun h=>?_⟩;rw[VB (by omega) e (by omega) j]at h;simp only[tg,zzX]at h;exact⟨by omega,by omega,by omega⟩
theorem kQ{m:Bq}(h:(D4 m).Sm):(m.og.d6.d3.length:Int)<=140737488351232/\(m.og.d6.d4.length:Int)<=140737488351232:=by
 have j:TV.Sms [_,_,_,_]:=h;exact⟨(HC (e:=eI) j.2.1).1,(HC (e:=eI) j.2.2.1).1⟩
theorem j8{d:AZ}(E:∀m∈d.qo,(D4 m).Sm){tc:Int}(I:tc<=100):∃b,Nu d tc=some b/\(b=true->Wy d):=by
 obtain ⟨F,G,H⟩:=cN (h:=d.tl);unfold Nu;rw[G,bs];by_cases u:((!F)||(decide (tc<(d.qo.length:Int))))=true
 .grind
 rw [az u];simp only[Bool.or_eq_true,Bool.not_eq_true',zzX,not_or,Bool.not_eq_false]at u;rcases Ms (f:=fun(o:Int)(_:Unit)=>
  (idx d.qo o).bind fun w=>
  (Gi w.og 140).bind fun y=>
  if (!y)=true then
  some (.ret false)
  else
  some (.next ())) (fun i _=>∀j:Int,0<=j->j<i->Ty (AA d.qo j).og) (fun _=>False) (fun r=>r=false) (a:=0) (b:=d.qo.length) (s:=()) (by omega) (fun j u J=>by omega) (fun i s o D hi=>by
   have z:=kQ (E _ (AJ o D));obtain⟨b,e,f⟩:=cO z.1 z.2;rw[AD o D,bs,e,bs];cases b with
   |false=>exact .inr (.inr ⟨false,rfl,rfl⟩)|true=>
    refine .inl ⟨(),rfl,fun j K N=>?_⟩
    grind)with⟨s',e3,h3⟩|⟨r,e3,h3⟩
 .rw[e3,BT];have O:=h3.resolve_right id;refine⟨true,rfl,fun _=>⟨H u.1,by omega,fun m z=>?_⟩⟩
  grind [BW]
 grind [Ln]
theorem fw(g:d5):MM g g=some true:=by
 unfold MM;rw[Zm,bs,az (by simp),BJ (fun _=>false) false]
 .rw[show ne (fun _=>false) 0 (g.d4.length:Int)=false from Bf.2 fun _ _ _=>rfl];rfl
 grind [AD]
variable{l:Fp}
theorem dG(o:l.length<=1000):JB l l=some 0:=by
 unfold JB;rw[Lp (fun _=>none) (b:=l.length) (by omega)]
 .rw[show fst (fun _=>(none:Option (Int ⊕ Int))) 0 (l.length:Int)=none from B3.2 fun _ _ _=>rfl];show some (Ad ((l.length:Int)-l.length))=some 0;rw[Am (by omega) (by omega),Int.sub_self]
 .intro i j e _;rw[ae (by simp[e]),AD j e,bs,bs,az (by simp),Am (by omega) (by omega)];rfl
 .rw[az (by simp)]
theorem ny(o:HN h):MN h h=some true:=by
 unfold MN;rw[fw,bs,az (by simp),BJ (fun _=>false) false]
 .rw[show ne (fun _=>false) 0 (h.gn.length:Int)=false from Bf.2 fun _ _ _=>rfl];rfl
 .intro i e j _;rw[AD e j,bs,bs,dG (o.rows _ (AJ e j)),bs];simp
theorem ku(l:List Bq):Hj l l=some true:=by
 unfold Hj;rw[az (by simp),BJ (fun _=>false) false]
 .rw[show ne (fun _=>false) 0 (l.length:Int)=false from Bf.2 fun _ _ _=>rfl];rfl
 .intro i e j _;simp only[AD e j,bs];unfold OM;simp only[Zl,Zm,bs];simp
theorem rz{d:AZ}(h:HN d.tl):MU d d=some true:=by grind[MU,ny,ku]
theorem Yl(h:Jo rules):GH rules=some rules:=by
 have:=h.len
 grind [GH,BY,Ae]
end Go.Sf.Sc
namespace Go.Sf.Sc
open Go Go.Sf
theorem ut{c:He}(h:(GV c).Sm):(AP c.T).Sm/\(∀r∈c.AbB,(B1 r).Sm)/\∀m∈c.D.qo,(D4 m).Sm:=by
 have j:TV.Sms [_,_,_,_,_,_,_]:=h;exact⟨⟨j.1,j.2.1,trivial⟩,(HC (e:=B1) j.2.2.1).2,(HC (e:=D4) j.2.2.2.2.2.2.1).2⟩
theorem rL{c:He}(h:(GV c).Sm):∃b,Nh c=some b/\(b=true->Ap c.T/\Jo c.AbB/\Wy c.D):=by
 obtain ⟨e,s2,j⟩:=ut h;obtain⟨o,s,u⟩:=kN e s2 c.D.tl;obtain⟨w,y,z⟩:=j8 (d:=c.D) j (tc:=33) (by decide);unfold Nh
 grind
theorem gZ:HN ⟨⟨[],[]⟩,[]⟩:=⟨by simp,by simp,by simp,fun v hv=>by cases hv⟩
end Go.Sf.Sc
namespace Go.Sf.Sc
open Go Go.Sf
variable{q:Ka}
theorem W5:∀(n:Nat)(f:AH),f.em.length+n=f.p.d4.length->(∀i:Int,0<=i->i<f.p.d4.length->PL.at_ f.fu.d4 i=PL.at_ q.d4 i)->DW n f=DW n {f with fu:=q}
 |0,_,_,_=>rfl|n+1,f,j,h=>by
  rw [DW,DW];refine congrArg (fun F=>(Aw f.g.d4.length).flatMap F) (funext fun k=>?_);have e:Ou f k=Ou {f with fu:=q} k:=by
   grind [Ou,I2]
  rw [e,W5 n {f with em:=f.em++[k]} (by simp;omega) h]
theorem W9:∀(n:Nat)(f:AH),f.ei.length+n=f.p.d3.length->f.em=[]->(∀i:Int,0<=i->i<f.p.d3.length->PL.at_ f.fu.d3 i=PL.at_ q.d3 i)->(∀i:Int,0<=i->i<f.p.d4.length->PL.at_ f.fu.d4 i=PL.at_ q.d4 i)->ET n f=ET n {f with fu:=q}
 |0,f,_,he,_,h=>W5 f.p.d4.length f (by rw[he];simp) h|n+1,f,o,he,j,h=>by
  rw [ET,ET];refine congrArg (fun F=>(Aw f.g.d3.length).flatMap F) (funext fun k=>?_);have e:Ov f k=Ov {f with fu:=q} k:=by
   grind [Ov]
  rw [e,W9 n {f with ei:=f.ei++[k]} (by simp;omega) he j h]
variable{n:Nat}{i v:Int}
theorem cA(e:0<=i)(j:i<n):AA (List.replicate n v) i=v:=by
 unfold AA
 grind
def F0(t:AC)(p g:d5)(inj:Bool):AH:=⟨p,g,H4 t,⟨none,none⟩,inj,5001,[],[],[]⟩
variable{t:AC}{p g:d5}
theorem ew{inj:Bool}:ET p.d3.length (F0 t p g inj)=ET p.d3.length (FF t p g (KK p) inj):=
 W9 (q:=Ka.of (KK p)) p.d3.length (F0 t p g inj) (by show 0+p.d3.length=p.d3.length;omega) rfl (fun i e j=>(cA e j).symm) (fun i e j=>(cA e j).symm)
theorem fj{inj:Bool}(s:Ap t)(hv:(Au t).2=0)(o:KY (FF t p g (KK p) inj)):EK t p g ⟨none,none⟩ inj 5001=some (Ha t p g (KK p) inj):=by
 unfold EK;rw[bB s (Cz hv) hv,bs];have j:KY (F0 t p g inj):=⟨trivial,trivial,o.ends,o.kinds,o.small⟩;have h:=cw (f:=F0 t p g inj) j ⟨by show(0:Int)<=5001;omega,by show(5001:Int)<=10000;omega,by show((0:Nat):Int)<=5001;omega⟩ rfl rfl;rw[W6 _ _ j rfl,show(F0 t p g inj).p.d3.length=p.d3.length from rfl,ew]at h;have e:AH.mk p g (H4 t) ⟨none,none⟩ inj 5001 [] [] []=F0 t p g inj:=rfl;rw[e,h];rfl
def Jr(t:AC)(p g:d5)(inj:Bool):List d6×Int:=
 if Ed t p g≠0 then([],Ed t p g)else if 5000<(Ha t p g (KK p) inj).length then([],3)else(Ha t p g (KK p) inj,0)
theorem nU(hf:Ap t)(p g:d5)(inj:Bool):Ho t p g inj=some (Jr t p g inj):=by
 unfold Ho Jr;rw[Ss hf,bs];refine C8 fun e=>?_
 grind [TR,KK,GQ,fj,bs,Ha]
theorem n7(hf:Ap t)(p g:d5)(inj:Bool):Ns t p g inj=some (Jr t p g inj):=by
 unfold Ns Jr;rw[RF hf,bs];refine C8 fun e=>?_;obtain⟨hv,o⟩:=TR (inj:=inj) (pa:=KK p) e (by simp[KK]) (by simp[KK]);have j:=(LN e).2.1;have:=j.ei;have:=j.em
 grind [gD,bs,jF,Ha,KK]
end Go.Sf.Sc
namespace Go.Sf.Sc
open Go Go.Sf
variable{α:Type}{f:Int->List α->Option (List α)}
theorem Vs[Inhabited α]{x:List α}{p:α->Bool}(w:x.length<=5000)
  (hf:∀(i:Int)(s:List α),0<=i->i<x.length->s.length<=5000->f i s=some (if p (AA x i)=true then s++[AA x i]else s)):
  pr f 0 (x.length:Int) []=some (x.filter p):=by
 rw [Bo (a:=0) (b:=x.length) (s:=[]) (fun i=>(x.take i.toNat).filter p) (by omega) rfl,Int.toNat_natCast,List.take_length];intro i e j;have o:((x.take i.toNat).filter p).length<=5000:=by grind
 rw [hf i _ e j o,CQ e j,List.filter_append];cases u:p (AA x i)<;>simp[u]
def Jw(t:AC)(p:ec)(h:AG)(inj:Bool):List AL×Int:=
 if NE t p h≠0 then([],NE t p h)else if(Jr t p.d5 h.d5 inj).2≠0 then([],(Jr t p.d5 h.d5 inj).2)else
 (((Jr t p.d5 h.d5 inj).1.filter fun y=>decide ((E7 p h y).2=0)).map fun y=>⟨y,(E7 p h y).1⟩,0)
variable{t:AC}{p g:d5}
theorem XA{inj:Bool}(h:(Jr t p g inj).2=0):(Jr t p g inj).1.length<=5000/\∀m∈(Jr t p g inj).1,FK t p g m inj=0:=by grind[Jr,cU]
theorem fm(hf:Ap t)(p:ec)(h:AG)(inj:Bool):DG t p h inj=some (Jw t p h inj):=by
 unfold DG Jw;rw[Vy hf,bs];refine C8 fun w=>?_;rw[nU hf,bs];refine C8 fun z=>?_;obtain⟨G,H⟩:=XA z;rw[M9 (F:=fun y=>((E7 p h y).1,decide ((E7 p h y).2=0))) G,bs];intro i s D E j;have o:Ey p h (AA (Jr t p.d5 h.d5 inj).1 i)=some (E7 p h (AA (Jr t p.d5 h.d5 inj).1 i)):=by
  obtain ⟨hv,u,hh,e⟩:=NX hf w (H _ (AJ D E));exact Zh u (fun s j=>Lk (Cz hv) u hh e j)
 grind [AD,bs,E7,AA,Jr,Af,Ae]
theorem gB(hf:Ap t)(p:ec)(h:AG)(inj:Bool):JC t p h inj=some (Jw t p h inj):=by
 unfold JC Jw;rw[V5 hf,bs];refine C8 fun w=>?_;rw[n7 hf,bs];refine C8 fun z=>?_;obtain⟨G,H⟩:=XA z;rw[M9 (F:=fun y=>((E7 p h y).1,decide ((E7 p h y).2=0))) G,bs];intro i s D E j;have o:Gs p h (AA (Jr t p.d5 h.d5 inj).1 i)=some (E7 p h (AA (Jr t p.d5 h.d5 inj).1 i)):=by
  obtain ⟨hv,u,hh,e⟩:=NX hf w (H _ (AJ D E));exact Zr u (fun s j=>Lk (Cz hv) u hh e j)
 grind [AD,bs,E7,AA,Jr,Af,Ae]
variable{h:AG}
theorem R6{p:ec}{inj:Bool}:(Jw t p h inj).1.length<=5000:=by grind[Jw,XA,ca,Nat.le_trans,List.length_filter_le]
noncomputable def Qy(t:AC)(r:gt)(h:AG):Int:=if El t r≠0 then El t r else(Hc t h).2
variable{r:gt}
theorem Ze(hf:Ap t)(fr:LJ r)(h:AG):Fg t r h=some (Qy t r h):=by
 unfold Fg Qy;rw[Ld hf,bs];by_cases hv:¬(Au t).2=0
 .grind[El,Au]
 have hv:=Classical.not_not.1 hv;rw[az (by simp[hv]),X3 hf fr,bs,SF hf];exact C8 fun _=>rfl
theorem k8(hf:Ap t)(fr:LJ r)(h:AG):H3 t r h=some (Qy t r h):=by
 unfold H3 Qy;rw[YF hf fr,bs,SL hf];exact C8 fun _=>rfl
theorem fe(hf:Ap t)(fr:LJ r)(j:Dv r.d7<=40)(e:Qy t r h=0)(m:AL):Ff t r h m=some (Gm t r h m):=by
 have:=dB hf fr j h m;unfold GR at this;rw[Ze hf fr,bs,az (by simp[e])]at this;cases k:Ff t r h m with
 |none=>rw[k]at this;cases this
 |some x=>rw[k]at this;exact this
noncomputable def Jt(t:AC)(r:gt)(h:AG):List AL×Int:=
 if Qy t r h≠0 then([],Qy t r h)else if(Jw t r.kg h r.ns).2≠0 then([],(Jw t r.kg h r.ns).2)else
 ((Jw t r.kg h r.ns).1.filter fun m=>decide ((Gm t r h m).2=0),0)
theorem nW(hf:Ap t)(fr:LJ r)(e:Dv r.d7<=40)(h:AG):D8 t r h=some (Jt t r h):=by
 unfold D8 Jt;rw[Ze hf fr,bs];refine C8 fun j=>?_;rw[fm hf,bs];refine C8 fun o=>?_;rw[Vs (p:=fun m=>decide ((Gm t r h m).2=0)) R6,bs]
 grind [AD,bs,fe,Gm,AA,Jw,Af,Ae]
theorem n8(hf:Ap t)(fr:LJ r)(e:Dv r.d7<=40)(h:AG):Gv t r h=some (Jt t r h):=by
 unfold Gv Jt;rw[k8 hf fr,bs];refine C8 fun j=>?_;rw[gB hf,bs];refine C8 fun o=>?_;rw[Vs (p:=fun m=>decide ((Gm t r h m).2=0)) R6,bs]
 grind [AD,bs,dU,Gm,AA,Jw,Af,Ae]
theorem jv:(Jt t r h).1.length<=5000:=by grind[Jt,Nat.le_trans,List.length_filter_le,R6]
variable{m:AL}
theorem mq(e:m∈(Jt t r h).1):(Gm t r h m).2=0:=by
 unfold Jt at e
 grind
end Go.Sf.Sc
namespace Go.Sf
variable{σ ρ:Type}
theorem S4{f g:Int->σ->Option (Bk σ ρ)}:∀(n:Nat)(i:Int)(s:σ),(∀j s,i<=j->j<i+n->f j s=g j s)->Aac f n i s=Aac g n i s
 |0,_,_,_=>rfl|n+1,i,s,h=>by
  rw [EN,EN,h i s (by omega) (by omega)];cases g i s with
  |none=>rfl|some c=>
   cases c with
   |next s'=>exact S4 n (i+1) s' fun j t e o=>h j t (by omega) (by omega)|brk _=>rfl|ret _=>rfl
variable{a b:Int}
theorem OH{f g:Int->σ->Option (Bk σ ρ)}{s:σ}(h:∀j s,a<=j->j<b->f j s=g j s):j4 f a b s=j4 g a b s:=S4 _ _ _ fun j t e o=>h j t e (by omega)
end Go.Sf
namespace Go.Sf.Sc
open Go Go.Sf
instance:Inhabited Bq:=⟨⟨0,default⟩⟩
noncomputable def RE(t:AC)(rules:List gt)(h:AG):Option (List Bq×Int):=
 ff (j4 (ρ:=(List Bq×Int)) (fun(i0:Int)(s0:List Bq)=>
 (idx rules i0).bind fun x20=>
 if (!decide ((Jt t x20 h).2=0))=true then
 some (.ret ([],(Jt t x20 h).2))
 else
 (pr (fun(i2:Int)(s2:List Bq)=>
 (idx (Jt t x20 h).1 i2).bind fun x36=>
 (Ah s2 [Bq.mk i0 x36]).bind fun x43=>
 some x43) 0 ((Jt t x20 h).1.length:Int) s0).bind fun s2=>
 some (.next s2)) 0 (rules.length:Int) []) (fun s0=>
 some (s0,0)) (fun v0=>some v0)
variable{t:AC}{rules:List gt}
theorem nm(hf:Ap t)(e:Jo rules)(h:AG):Cq t rules h=RE t rules h:=by
 unfold Cq RE;congr 1;refine OH fun j s o u=>?_;have:=e.each _ (AJ o u)
 grind [AD,bs,nW]
theorem oK(hf:Ap t)(e:Jo rules)(h:AG):IY t rules h=RE t rules h:=by
 unfold IY RE;congr 1;refine OH fun j s o u=>?_;have:=e.each _ (AJ o u)
 grind [AD,bs,n8]
variable{i:Int}
theorem eo{L:List AL}{s:List Bq}(z:s.length+L.length<=100000):pr (fun(y:Int)(s2:List Bq)=>
 (idx L y).bind fun e=>
 (Ah s2 [Bq.mk i e]).bind fun o=>
 some o) 0 (L.length:Int) s=some (s++L.map (Bq.mk i)):=by
 rw [Bo (fun j=>s++(L.take j.toNat).map (Bq.mk i)) (by omega) (by simp),Int.toNat_natCast,List.take_length];intro j u w;rw[AD u w,bs,Af (by simp;unfold Ae;omega),bs,CQ u w,List.map_append,<-ci];rfl
theorem VL(E:Jo rules)(h:AG):∃v,RE t rules h=some v/\v.1.length<=60000/\∀m∈v.1,(Jj t rules h m).2=0:=by
 unfold RE;have z:=E.len;rcases Ms (f:=fun(u:Int)(F:List Bq)=>
  (idx rules u).bind fun j=>
  if (!decide ((Jt t j h).2=0))=true then
  some (.ret ([],(Jt t j h).2))
  else
  (pr (fun(G:Int)(s2:List Bq)=>
  (idx (Jt t j h).1 G).bind fun w=>
  (Ah s2 [Bq.mk u w]).bind fun y=>
  some y) 0 ((Jt t j h).1.length:Int) F).bind fun s2=>
  some (.next s2)) (fun i s=>(s.length:Int)<=5000*i/\∀m∈s,(Jj t rules h m).2=0) (fun _=>False) (fun v=>v.1=[]) (a:=0) (b:=rules.length) (s:=[]) (by omega) ⟨by simp,by simp⟩ (fun i s u H hi=>by
   have J:=jv (t:=t) (r:=AA rules i) (h:=h);rw[AD u H,bs];by_cases e:(Jt t (AA rules i) h).2=0
   .left;rw[az (by simp[e]),eo (by omega),bs];refine⟨_,rfl,by rw[cE,ca];omega,fun m o=>?_⟩;rcases List.mem_append.1 o with o|o
    .exact hi.2 m o
    .obtain⟨x,I,rfl⟩:=List.mem_map.1 o;unfold Jj;rw[az (by dsimp only;omega)];exact mq I
   .right;right;rw[ae (by simp[e])];exact⟨_,rfl,rfl⟩)with⟨s',e,h1⟩|⟨v,e,h1⟩
 .rw[e,BT];have D:=h1.resolve_right id;exact⟨_,rfl,by have:=D.1;dsimp only;omega,D.2⟩
 .rw[e,Ln];exact⟨_,rfl,by rw[h1];simp,by rw[h1];simp⟩
def PS(c n:Int):Int:=if c.tmod n<0 then c.tmod n+n else c.tmod n
theorem Sx{c n:Int}(h:0<n):-n<c.tmod n/\c.tmod n<n:=⟨Int.lt_tmod_of_pos c h,Int.tmod_lt_of_pos c h⟩
theorem Zk{c n:Int}(h:0<n):0<=PS c n/\PS c n<n:=by
 have:=Sx (c:=c) h
 grind [PS]
theorem ft{c n:Int}(h:0<n):(c.tmod n+n).tmod n=PS c n:=by
 have:=Sx (c:=c) h;unfold PS;rw[Int.tmod_eq_emod_of_nonneg (by omega)];split
 .exact Int.emod_eq_of_lt (by omega) (by omega)
 .rw[Int.add_emod_right];exact Int.emod_eq_of_lt (by omega) (by omega)
noncomputable def Pq(t:AC)(rules:List gt)(choices:Fp)(i0:Int)(s0:AG×AZ×AZ):Option (Bk (AG×AZ×AZ) (AZ×Int)):=
 (RE t rules s0.1).bind fun x44=>
 if (!decide (x44.2=0))=true then
 some (.ret (zD,x44.2))
 else
 if (decide ((x44.1.length:Int)=0))=true then
 some (.brk (s0.1,s0.2.1,s0.2.2))
 else
 (Ah s0.2.2.qo [AA x44.1 (PS (AA choices i0) x44.1.length)]).bind fun x81=>
 some (.next ((Jj t rules s0.1 (AA x44.1 (PS (AA choices i0) x44.1.length))).1.wi,s0.2.1,AZ.mk s0.2.2.tl x81))
noncomputable def OW(t:AC)(rules:List gt)(h:AG)(choices:Fp):Option (AZ×Int):=
 if KI t rules h≠0 then some (zD,KI t rules h)else if 30<choices.length then some (zD,3)else
 ff (j4 (ρ:=(AZ×Int)) (Pq t rules choices) 0 (choices.length:Int) (h,zD,AZ.mk h [])) (fun s0=>some (s0.2.2,0)) (fun v0=>some v0)
theorem fh(hf:Ap t)(u:Jo rules)(h:AG)(o:Fp):Cs t rules h o=OW t rules h o:=by
 unfold Cs OW;rw[fk hf u,bs];by_cases w:KI t rules h=0
 .rw[az (by simp[w]),az (show¬KI t rules h≠0 from fun k=>k w)];by_cases F:30<o.length
  .grind
  rw [az (by simp;omega),az F];obtain⟨_,N,_,J⟩:=VD hf w;rw[ct (OI hf (by assumption) J),bs];congr 1;refine OH fun j s D E=>?_;unfold Pq;obtain⟨v,e,O,P⟩:=VL (t:=t) u s.1;rw[AD D E,bs,nm hf u,e,bs,bs];by_cases G:v.2=0
  .have y:¬(!decide (v.2=0))=true:=by simp[G]
   rw [az y,az y];by_cases H:(v.1.length:Int)=0
   .grind
   have z:¬decide ((v.1.length:Int)=0)=true:=by rw[decide_eq_true_iff];exact H
   rw [az z,az z];have I:0<(v.1.length:Int):=by omega
   have K:=Sx (c:=AA o j) I
   grind [Zk,AA,Ut,bs,Am,ft,AD,ng,AJ]
  grind
 grind
theorem fy(hf:Ap t)(u:Jo rules)(h:AG)(o:Fp):J8 t rules h o=OW t rules h o:=by
 unfold J8 OW;rw[YA hf u,bs];by_cases w:KI t rules h=0
 .rw[az (by simp[w]),az (show¬KI t rules h≠0 from fun k=>k w)];by_cases F:30<o.length
  .grind
  rw [az (by simp;omega),az F];obtain⟨_,N,_,J⟩:=VD hf w;rw[SK (OI hf (by assumption) J),bs];congr 1;refine OH fun j s D E=>?_;unfold Pq;obtain⟨v,e,O,P⟩:=VL (t:=t) u s.1;rw[oK hf u,e,bs,bs];by_cases G:v.2=0
  .have y:¬(!decide (v.2=0))=true:=by simp[G]
   rw [az y,az y];by_cases H:(v.1.length:Int)=0
   .grind
   have z:¬decide ((v.1.length:Int)=0)=true:=by rw[decide_eq_true_iff];exact H
   rw [az z,az z,AD D E,bs];have I:0<(v.1.length:Int):=by omega
   have K:=Sx (c:=AA o j) I
   grind [Zk,AA,Ut,bs,PS,Am,AD,oI]
  grind
 grind
theorem cH(o:Jo rules)(h:AG)(j:Fp):∃v,OW t rules h j=some v/\(v.1.tl=h\/v.1.tl=⟨⟨[],[]⟩,[]⟩):=by
 unfold OW;split
 .grind
 split
 .grind
 rename_i y;rcases Ms (f:=Pq t rules j) (fun i s=>s.2.2.tl=h/\(s.2.2.qo.length:Int)<=i) (fun s=>s.2.2.tl=h) (fun v=>v.1.tl=⟨⟨[],[]⟩,[]⟩) (a:=0) (b:=j.length) (s:=(h,zD,AZ.mk h [])) (by omega) ⟨rfl,by simp⟩ (fun i s u w hi=>by
   unfold Pq;obtain⟨v,e,z,D⟩:=VL (t:=t) o s.1
   grind [bs,Af,Ae])with⟨s',e,h1⟩|⟨v,e,h1⟩
 .rw[e,BT]
  grind
 grind [Ln]
theorem P6(c:He)(j:Fp)(w:(GV c).Sm):Fa c j=some true:=by
 obtain ⟨b,e,f⟩:=rL w;unfold Fa;rw[ez,bs,az (by decide),e,bs,bs];by_cases s:(((!b)||((decide (4<(j.length:Int)))&&(decide ((j.length:Int)<=30))))||(decide (33<(j.length:Int))))=true
 .grind
 rw [az s];simp[Bool.not_eq_true',zzX,not_or]at s;obtain⟨hf,o,u⟩:=f s.1.1;unfold slices_Clone_int;obtain⟨v,ev,hv⟩:=cH (t:=c.T) o c.D.tl j;have y:HN v.1.tl:=by
  rcases hv with hv|hv<;>rw[hv]
  .exact u.start
  .exact gZ
 rw [Yl o,bs,SK u.start,bs,BY (by unfold Ae;omega),bs,fh hf o,fy hf o,ev,bs,bs,ae (by simp),rz y];rfl
end Go.Sf.Sc
