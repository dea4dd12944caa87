/- Plain lemmas: what the functions of the program and of the reference compute. -/
import Derived.Test.YtmbomnkcdolalaaGreatSfF
import Derived.Test.YtmbomnkcdolalaaGreatP46
set_option linter.all false
set_option maxRecDepth 100000
namespace Go.Sf.Sc
open Go Go.Sf
def Rv(p g:d4)(m:d6):d4:=⟨m.d3.map (AA g.d3),p.d5⟩
variable{l:Fp}
theorem Oz{n x:Int}:x∈BI l n↔(0<=x/\x<n)/\x∉l:=by
 unfold BI;rw[List.mem_filter];constructor
 .grind[Int.natCast_nonneg,CR]
 .rintro⟨⟨f,j⟩,o⟩;refine⟨List.mem_map.2 ⟨x.toNat,List.mem_range.2 (by omega),Int.toNat_of_nonneg f⟩,?_⟩
  grind [hasB,CR]
theorem MD(l:Fp)(n:Int):(BI l n).Pairwise (·<·):=by grind[BI,List.pairwise_lt_range.imp]
def Eh(images jj:Fp):Fp:=(BI jj images.length).map (AA images)
theorem TE{images jj:Fp}{x:Int}:x∈Eh images jj↔∃i:Int,(0<=i/\i<images.length)/\i∉jj/\AA images i=x:=by grind[Eh,Oz]
def AaI(images jj:Fp):Bool:=pc (fun a=>pc (fun b=>decide (AA images a=AA images b)&&(!hasB jj a||!hasB jj b)) (a+1) images.length) 0 images.length
variable{a b:Int}
theorem eV{images jj:Fp}(h:AaI images jj=false)(a0:0<=a)(a1:a<images.length)(u:0<=b)(q:b<images.length)(w:a∈jj)(e:AA images a=AA images b):b∈jj:=by
 unfold AaI at h;rw[Bk]at h;by_cases j:a=b
 .exact j▸w
 by_cases y:a<b
 .have f:=h a a0 a1;rw[Bk]at f;have o:=f b (by omega) q;rw[decide_eq_true e,Bool.true_and,Bool.or_eq_false_iff]at o
  grind [CR]
 .have f:=h b u q;rw[Bk]at f;have o:=f a (by omega) a1;rw[decide_eq_true e.symm,Bool.true_and,Bool.or_eq_false_iff]at o
  grind [CR]
variable{i:Int}
theorem TG{images jj:Fp}(h:AaI images jj=false)(f:0<=i)(j:i<images.length)(o:i∈jj):AA images i∉Eh images jj:=by grind[TE,eV]
def MS(g:d4)(jj:BH)(m:d6)(i:Int):Bool:=
 !hasB m.d5 i&&(hasB (Eh m.d3 jj.d3) (AA g.d5 i).o4||hasB (Eh m.d3 jj.d3) (AA g.d5 i).To)
def Lo(g:d4)(jj:BH)(m:d6):BH:=⟨BI (Eh m.d3 jj.d3) g.d3.length,BI (Eh m.d5 jj.d5) g.d5.length⟩
def MP(l g:d4)(jj:BH)(m:d6):BH×Int:=
 if It l g m≠0 then(⟨[],[]⟩,It l g m)else if Ej l jj≠0 then(⟨[],[]⟩,Ej l jj)else
 if (AaI m.d3 jj.d3||AaI m.d5 jj.d5)=true then(⟨[],[]⟩,15)else
 if pc (MS g jj m) 0 g.d5.length=true then(⟨[],[]⟩,14)else(Lo g jj m,0)
structure ZO(l g:d4)(jj:BH)(m:d6):Prop where
 mor:Y5 l g m
 part:ZR l jj
 ei:AaI m.d3 jj.d3=false
 ek:AaI m.d5 jj.d5=false
 free:∀i:Int,0<=i->i<g.d5.length->MS g jj m i=false
variable{g:d4}
theorem kS{p:BH}(h:Ej g p=0):Bu g=0/\Np g p=0:=by grind[Ej]
theorem XX{l g:d4}{jj:BH}{m:d6}(h:(MP l g jj m).2=0):ZO l g jj m/\MP l g jj m=(Lo g jj m,0):=by
 unfold MP at h|-;split at h
 .grind
 rename_i j;rw[ae j];split at h
 .grind
 rename_i o;rw[ae o];split at h
 .grind
 rename_i f;rw[ae f];split at h
 .grind
 rename_i q;rw[ae q];simp only[Bool.or_eq_true,not_or,Bool.not_eq_true]at f;exact⟨⟨UT (Classical.not_not.1 j),Wv (kS (Classical.not_not.1 o)).2,f.1,f.2,Bk.1 (by simpa using q)⟩,rfl⟩
theorem ii{l g:d4}{jj:BH}{m:d6}(h:ZO l g jj m):Np g (Lo g jj m)=0:=by
 have w:=h.mor;have H:=w.gb;have I:∀x∈(Lo g jj m).d3,0<=x/\x<g.d3.length:=fun x o=>H5 o;have J:∀x∈(Lo g jj m).d5,0<=x/\x<g.d5.length:=fun x o=>H5 o;have j:∀{l:Fp}{n:Int},(∀x∈l,0<=x/\x<n)->l.Pairwise (·<·)->PP l n=0:=by
  grind [PP,Bz,AM,LH]
 unfold Np;rw[j I (MD _ _),j J (MD _ _)];simp only[ne_eq,not_true_eq_false,if_false];rw[Bz.2 fun i F G=>?_]
 .rfl
 have o:=AM F G;generalize AA (Lo g jj m).d5 i=x at o;have f:(0<=x/\x<g.d5.length)/\x∉Eh m.d5 jj.d5:=Oz.1 o;have hf:=H.fit _ (AM f.1.1 f.1.2);have y:(AA g.d5 x).o4∉Eh m.d3 jj.d3/\(AA g.d5 x).To∉Eh m.d3 jj.d3:=by
  by_cases hi:x∈m.d5
  .obtain⟨k,D,E,e⟩:=Be hi;have q:k∈jj.d5:=by
    by_cases q:k∈jj.d5
    .exact q
    .exact absurd (TE.2 ⟨k,⟨D,E⟩,q,e⟩) f.2
   have ends:=h.part.ends k q;have he:=w.edge k D E;rw[e]at he;have z:=h.part.ei.1;have K:=z _ ends.1;have N:=z _ ends.2;have P:=w.AaF;rw[<-he.2.2.1,<-he.2.2.2];exact⟨TG h.ei K.1 (by omega) ends.1,TG h.ei N.1 (by omega) ends.2⟩
  .have hd:=h.free x f.1.1 f.1.2;unfold MS at hd;rw[show hasB m.d5 x=false from by cases O:hasB m.d5 x with|false=>rfl|true=>exact absurd (CR.1 O) hi,Bool.not_false,Bool.true_and,Bool.or_eq_false_iff]at hd;exact⟨fun u=>by rw[CR.2 u]at hd;exact absurd hd.1 (by decide),fun u=>by rw[CR.2 u]at hd;exact absurd hd.2 (by decide)⟩
 grind [hasB,Lo,AA,CR,Oz]
def HL(n:Nat)(l:Fp):Fp:=(Av n).map (DC l)
variable{v:Int}
theorem Xf(h:v∉l):DC l v=-1:=by grind[DC,Bz,AM]
theorem PB(l:Fp)(v:Int):-1<=DC l v/\DC l v<l.length:=by
 by_cases h:v∈l
 .have:=Iq h;omega
 .rw[Xf h];omega
theorem Ma:0<=DC l v↔v∈l:=by grind[Xf,Iq]
theorem JI(n:Nat)(l:Fp):(HL n l).length=n:=by unfold HL;rw[ca,BA]
variable{n:Nat}
theorem Vu(f:0<=i)(j:i<n):AA (HL n l) i=DC l i:=Hi _ f j
theorem Z2(h:l.Nodup)(f:0<=i)(j:i<l.length):DC l (AA l i)=i:=by
 have o:=Iq (AM f j)
 grind [DC,AA,LH]
def PS(jj into at_:Fp)(n i:Int):Int:=if hasB into i=true then AA at_ (AA jj (DC into i))else n+(BI into i).length
def S1(count:Nat)(jj into at_:Fp)(n:Int):Fp:=(Av count).map (PS jj into at_ n)
theorem XW(count:Nat)(jj into at_:Fp)(n:Int):(S1 count jj into at_ n).length=count:=by unfold S1;rw[ca,BA]
variable{count:Nat}
theorem gJ{jj into at_:Fp}{n i:Int}(f:0<=i)(j:i<count):AA (S1 count jj into at_ n) i=PS jj into at_ n i:=Hi _ f j
theorem Jz(h:0<=i):((BI l i).length:Int)<=i:=by grind[Qn]
end Go.Sf.Sc
namespace Go.Sf.Sc
open Go Go.Sf
variable{α:Type}
theorem Vt{P:List α->Prop}(f:P [])(j:∀l a,P l->P (l++[a]))(l:List α):P l:=by
 have:∀l:List α,P l.reverse:=by
  intro l
  induction l with
  |nil=>exact f|cons a l o=>rw[List.reverse_cons];exact j _ _ o
 rw [<-List.reverse_reverse l];exact this _
def Og(L:BM):BM:=L.foldl (fun m p=>m.set p.1 p.2) []
theorem Z9(L:BM)(p:(Int×Int)×Int):Og (L++[p])=(Og L).set p.1 p.2:=by
 unfold Og
 grind
def RW(L:BM):Prop:=∀p∈L,∀q∈L,p.1=q.1->p.2=q.2
variable{k:Int×Int}{v:Int}
theorem TI:∀{m:BM},m.look k=some v->(k,v)∈m
 |[],h=>by cases h
 |p::r,h=>by
  unfold BM.look at h;split at h
  .grind
  .exact List.mem_cons_of_mem _ (TI h)
theorem YP:∀{m:BM},m.look k=none->∀p∈m,p.1≠k
 |[],_,p,f=>by cases f
 |q::r,h,p,f=>by
  unfold BM.look at h;split at h
  .cases h
  .rename_i e;rcases List.mem_cons.1 f with rfl|f
   .exact e
   .exact YP h p f
theorem dV:∀{m:BM},m.look k=none->m.set k v=m++[(k,v)]
 |[],_=>rfl|p::r,h=>by
  unfold BM.look at h;unfold BM.set;split at h
  .cases h
  .rename_i e;rw[ae e,dV h];rfl
theorem bU:∀{m:BM},m.look k=some v->m.set k v=m
 |[],h=>by cases h
 |p::r,h=>by
  unfold BM.look at h;unfold BM.set;split at h
  .grind
  .rename_i e;rw[ae e,bU h]
theorem eP(V:List Fp)(p:(Int×Int)×Int):Cd (Cd V p) p=Cd V p:=by
 unfold Cd;split
 .apply List.ext_getElem?
  grind [Option.map_eq_map,Option.map_map,List.set_set]
 .rfl
theorem jz{m:BM}(hd:m.Dis){p:(Int×Int)×Int}(f:p∈m)(V:List Fp):Cd (m.foldl Cd V) p=m.foldl Cd V:=by
 have j:m.Perm (m.erase p++[p]):=(List.perm_cons_erase f).trans (List.perm_append_singleton p (m.erase p)).symm;rw[<-WM hd j V,List.foldl_append];exact eP _ _
theorem RW.sub{L M:BM}(h:RW L)(f:∀p∈M,p∈L):RW M:=fun p j q o=>h p (f p j) q (f q o)
theorem cw(L:BM):RW L->(Og L).Dis/\(∀p,p∈Og L↔p∈L)/\∀V,(Og L).foldl Cd V=L.foldl Cd V:=by
 refine Vt (P:=fun L=>RW L->(Og L).Dis/\(∀p,p∈Og L↔p∈L)/\∀V,(Og L).foldl Cd V=L.foldl Cd V) (fun _=>⟨List.Pairwise.nil,fun p=>Iff.rfl,fun V=>rfl⟩) (fun L p j f=>?_) L;obtain⟨z,y,D⟩:=j (f.sub fun q o=>List.mem_append_left _ o);rw[Z9];cases u:(Og L).look p.1 with
 |none=>
  grind [dV,BM.set_dis]
 |some v=>
  have w:=TI u;have hv:v=p.2:=f (p.1,v) (List.mem_append_left _ ((y _).1 w)) p (by simp) rfl
  grind [bU,List.mem_singleton,jz]
def Om(L:BM):Bool:=pc (fun i=>pc (fun k=>decide ((AA L k).1=(AA L i).1)&&!decide ((AA L k).2=(AA L i).2)) 0 i) 0 L.length
variable{L:BM}
theorem X0(h:Om L=false):RW L:=by
 intro p o q u e;obtain⟨a,a0,a1,rfl⟩:=Be o;obtain⟨b,w,y,rfl⟩:=Be u;unfold Om at h;rw[Bk]at h;by_cases f:a=b
 .rw[f]
 by_cases z:a<b
 .have j:=h b w y;rw[Bk]at j
  grind
 .have j:=h a a0 a1;rw[Bk]at j
  grind
theorem Zw(L:BM)(V:List Fp):Kk (L.foldl Cd V) V:=by
 induction L generalizing V with
 |nil=>rfl|cons p r f=>exact(f (Cd V p)).trans (X5 V p)
end Go.Sf.Sc
namespace Go.Sf.Sc
open Go Go.Sf
variable{t:AC}{p g:d4}{inj:Bool}
theorem Sx{m:d6}(h:GT t p g m inj=0):F2 t p g=0/\N3 t p g m=0/\Xv t p g m:=by grind[Zd,GT]
theorem gI{m:d6}(h:GT t p g m inj=0):GT t p g m false=0:=by grind[Sx,GT]
variable{α:Type}
theorem Qr[Inhabited α](l:List α):(Av l.length).map (AA l)=l:=by grind[gE,ca,BA,Hi]
variable{β:Type}
theorem gZ[Inhabited α](l:List α)(f:α->β):l.map f=(Av l.length).map fun j=>f (AA l j):=by
 rw [show(fun j=>f (AA l j))=f∘AA l from rfl,<-List.map_map,Qr]
theorem qy(hf:An t){m:d6}(h:GT t p g m inj=0):EP t p g m=some (Rv p g m,0):=by
 obtain ⟨f,u,j⟩:=Sx h;obtain⟨_,o,z,_⟩:=NP f;unfold EP;rw[Xm hf,bs,ae (by simp[f]),YW hf f,bs,ae (by simp[u])];unfold Ck;have:=o.ei;have:=o.ek;have:=j.AaF;rw[A1 (by unfold Ah;omega),bs];rw[Rp (by omega) (fun x q=>?_) p.d5]
 .rfl
 .obtain⟨i,w,y,rfl⟩:=Be q;exact(j.node i w y).1
theorem rT(hf:An t){m:d6}(h:GT t p g m inj=0):Iz t p g m=some (Rv p g m,0):=by
 obtain ⟨y,D,u⟩:=Sx h;obtain⟨_,w,E,_⟩:=NP y;have:=w.ei;have:=w.ek;have z:=u.AaF;unfold Iz Ix;rw[Xo hf,bs,ae (by simp[gI h]),A1 (by unfold Ah;omega),bs,A1 (by unfold Ah;omega),bs,bs];rw[Pv (fun i=>d4.mk ((Av p.d3.length).map fun j=>if j<i then AA g.d3 (AA m.d3 j)else AA p.d3 j) p.d5) (a:=0) (b:=p.d3.length) (by omega)]
 .have e:((Av p.d3.length).map fun j=>if j<(p.d3.length:Int)then AA g.d3 (AA m.d3 j)else AA p.d3 j)=m.d3.map (AA g.d3):=by
   grind [gZ,CO]
  rw [e];rfl
 .congr 1;rw[<-Qr p.d3,ca,BA]
  grind [CO,Qr]
 .intro i f o;have q:=u.node i f (by omega);simp only[ca,BA];rw[a6 (by simpa using o),AE f (by omega),bs,AE q.1.1 q.1.2,bs,AE f (by rw[ca,BA];exact o),bs,Gt _ f,Ar (by omega) (by omega)]
  grind
 grind [ca,BA]
variable{n:Nat}
theorem L6{f:Int->List α->Option (List α)}(q:Int->Bool)(F:Int->α)(h:∀i s,0<=i->i<(n:Int)->s.length<=i.toNat->f i s=some (if q i=true then s++[F i]else s)):tc f 0 n []=some (((Av n).filter q).map F):=by
 have j:∀k:Nat,(((Av k).filter q).map F).length<=k:=fun k=>by
  rw [ca];exact Nat.le_trans (List.length_filter_le _ _) (by rw[BA];exact az _)
 have:=Bt (f:=f) (s:=[]) (fun i=>((Av i.toNat).filter q).map F) (a:=0) (b:=n) (by omega) rfl (fun i o u=>by
  grind [Fy])
 grind
theorem Zr{q:Int->Bool}{F:Int->α}:decide (0<((((Av n).filter q).map F).length:Int))=pc q 0 n:=by
 rw [Bool.eq_iff_iff,zzX,EE,ca];constructor
 .intro h;have f:(Av n).filter q≠[]:=fun e=>by rw[e]at h;simp at h
  obtain ⟨x,w⟩:=List.exists_mem_of_ne_nil _ f
  grind [Es]
 .rintro⟨i,j,o,u⟩;have:i∈(Av n).filter q:=List.mem_filter.2 ⟨Es.2 ⟨j,o⟩,u⟩
  grind
theorem g8{x:Bj}(f:x.m.d3.length<=1000):DJ x=some (Eh x.m.d3 x.jj.d3):=by
 unfold DJ;rw[L6 (fun i=>!hasB x.jj.d3 i) (AA x.m.d3)]
 .rfl
 grind [AE,LB,hasB,Ai,Ah]
theorem Vi{images jj:Fp}(f:images.length<=1000):JT images jj=some (Eh images jj):=by
 unfold JT;rw[L6 (fun i=>!hasB jj i) (AA images)]
 .rfl
 grind [Dw,hasB,NQ,AE,Ai,Ah]
theorem e8{x:Bj}(f:x.m.d3.length<=1000)(he:x.g.d5.length<=1000):DB x=some ((Av x.g.d5.length).filter (MS x.g x.jj x.m)):=by
 unfold DB;rw[g8 f,bs,L6 (MS x.g x.jj x.m) id]
 .rw[bs,List.map_id]
 .intro i s j o q;rw[AE j o,bs,LB,bs,LB,bs,LB,bs];unfold MS;change (if(!hasB x.m.d5 i)=true then(if hasB (Eh x.m.d3 x.jj.d3) (AA x.g.d5 i).o4=true then some true else some (hasB (Eh x.m.d3 x.jj.d3) (AA x.g.d5 i).To)).bind _ else some false).bind _=_;cases hasB x.m.d5 i<;>cases hasB (Eh x.m.d3 x.jj.d3) (AA x.g.d5 i).o4<;>cases hasB (Eh x.m.d3 x.jj.d3) (AA x.g.d5 i).To<;>simp[Ai (show s.length+[i].length<=Ah by simp;unfold Ah;omega)]
theorem fG{l g:d4}{jj:BH}{m:d6}(f:m.d3.length<=1000)(he:g.d5.length<=1000):Iy l g jj m=some ((Av g.d5.length).filter (MS g jj m)):=by
 unfold Iy;rw[Vi f,bs,L6 (MS g jj m) id]
 .rw[bs,List.map_id]
 .intro i s j o q;have hh:∀(l:Fp)(v:Int),Dw l v=some (hasB l v):=NQ;simp only[AE j o,bs,hh];unfold MS;cases hasB m.d5 i<;>cases hasB (Eh m.d3 jj.d3) (AA g.d5 i).o4<;>cases hasB (Eh m.d3 jj.d3) (AA g.d5 i).To<;>simp[Ai (show s.length+[i].length<=Ah by simp;unfold Ah;omega)]
variable{a i:Int}
theorem QO{p:Int->Bool}(h:a<=i):pc p a (i+1)=(pc p a i||p i):=by
 rw [Bool.eq_iff_iff,Bool.or_eq_true,EE,EE]
 grind
theorem Wu{images jj:Fp}(J:images.length<=100){f:Int->Int->List GP->Option (List GP)}(hf:∀(i j:Int)s,0<=i->i<images.length->i<j->j<images.length->s.length<=20000->f i j s=some (if(decide (AA images i=AA images j)&&(!hasB jj i||!hasB jj j))=true then s++[GP.mk i j]else s)):
  ∃l,tc (fun(o:Int)(u:List GP)=>(tc (fun(q:Int)(s2:List GP)=>f o q s2) (Aj (o+1)) (images.length:Int) u).bind fun s2=>some s2) 0 (images.length:Int) []=some l/\l.length<=10000/\decide (0<l.length)=AaI images jj:=by
 have key:=Rk (f:=fun(o:Int)(u:List GP)=>(tc (fun(q:Int)(s2:List GP)=>f o q s2) (Aj (o+1)) (images.length:Int) u).bind fun s2=>some s2) (s:=[])
  (fun i s=>(s.length:Int)<=100*i/\decide (0<s.length)=pc (fun a=>pc (fun b=>decide (AA images a=AA images b)&&(!hasB jj a||!hasB jj b)) (a+1) images.length) 0 i) (a:=0) (b:=images.length) (by omega)
  (by refine⟨by simp,?_⟩;rw[Bk.2 (fun i z D=>by omega)];rfl) (fun i s o E F=>by
   have w:=Rk (f:=fun(q:Int)(s2:List GP)=>f i q s2) (s:=s)
    (fun j s'=>(s'.length:Int)<=100*i+(j-(i+1))/\decide (0<s'.length)=(decide (0<s.length)||pc (fun b=>decide (AA images i=AA images b)&&(!hasB jj i||!hasB jj b)) (i+1) j)) (a:=i+1) (b:=images.length) (by omega)
    (by refine⟨by have:=F.1;omega,?_⟩;rw[Bk.2 (fun i z D=>by omega),Bool.or_false]) (fun j s' K G y=>by
     refine ⟨_,hf i j s' o E (by omega) G (by have:=y.1;omega),?_,?_⟩
     .grind
     .rw[QO (by omega),<-Bool.or_assoc,<-y.2]
      grind)
   grind [Ar,QO])
 obtain ⟨l,H,N,I⟩:=key;exact⟨l,H,by omega,I⟩
theorem dI{images jj:Fp}(G:images.length<=100):∃l,FZ images jj=some l/\l.length<=10000/\decide (0<l.length)=AaI images jj:=by
 unfold FZ;obtain⟨l,N,O⟩:=Wu (jj:=jj) G (f:=fun o q s2=>
  (idx images o).bind fun u=>
  (idx images q).bind fun w=>
  (if(decide (u=w))=true then((slices_Contains_int jj o).bind fun y=>
  (if(!y)=true then some true else((slices_Contains_int jj q).bind fun z=>
  some (!z))).bind fun D=>
  some (D))else some false).bind fun E=>
  if E=true then
  (Ak s2 [GP.mk o q]).bind fun F=>
  some F
  else
  some s2) (fun i j s o H J I K=>by
   have hh:∀(l:Fp)(v:Int),slices_Contains_int l v=some (hasB l v):=LB;simp only[AE o H,AE (show 0<=j by omega) I,bs,hh]
   grind [AA,hasB,Ai,Ah])
 grind
theorem dR{images jj:Fp}(G:images.length<=100):∃l,Fk images jj=some l/\l.length<=10000/\decide (0<l.length)=AaI images jj:=by
 unfold Fk;obtain⟨l,N,O⟩:=Wu (jj:=jj) G (f:=fun o q s2=>
  (idx images o).bind fun u=>
  (idx images q).bind fun w=>
  (if(decide (u=w))=true then((Dw jj o).bind fun y=>
  (if(!y)=true then some true else((Dw jj q).bind fun z=>
  some (!z))).bind fun D=>
  some (D))else some false).bind fun E=>
  if E=true then
  (Ak s2 [GP.mk o q]).bind fun F=>
  some F
  else
  some s2) (fun i j s o H J I K=>by
   have hh:∀(l:Fp)(v:Int),Dw l v=some (hasB l v):=NQ;simp only[AE o H,AE (show 0<=j by omega) I,bs,hh]
   grind [AA,hasB,Ai,Ah])
 grind
variable{l:Fp}
theorem ak(h:n<=1000):Ku n l=some (BI l n):=by
 unfold Ku;rw[Tc (f:=Dw l) (by omega) (by omega) (fun i=>NQ l i)];rfl
theorem aS{images jj:Fp}(y:n<=1000)(hi:∀x∈images,0<=x/\x<n):GH n images jj=some (BI (Eh images jj) n):=by
 unfold GH Is;rw[a6 (by omega),bs];rw[Bt (fun i=>(Av n).map fun k=>pc (fun j=>!hasB jj j&&decide (AA images j=k)) 0 i) (by omega)]
 .rw[bs,ca,BA,L6 (fun i=>!hasB (Eh images jj) i) id]
  .rw[bs,List.map_id];rfl
  .intro i s f o E;rw[AE f (by rw[ca,BA];exact o),bs,Hi _ f o];have e:pc (fun j=>!hasB jj j&&decide (AA images j=i)) 0 images.length=hasB (Eh images jj) i:=by
    rw [Bool.eq_iff_iff,EE,CR,TE];constructor
    .rintro⟨j,u,w,h⟩;rw[pq,zzX]at h
     grind [CR]
    .rintro⟨j,⟨u,w⟩,G,h⟩;refine⟨j,u,w,?_⟩;rw[pq,zzX]
     grind [hasB,CR]
   grind [hasB,Eh,Ai,Ah]
 .refine List.ext_getElem (by simp[BA]) (fun k z D=>?_)
  grind [Int.toNat_natCast,Bk]
 .intro i f o;have q:=hi _ (AM f o);have hh:∀(l:Fp)(v:Int),slices_Contains_int l v=some (hasB l v):=LB;rw[AE f o,bs,hh,bs];cases F:hasB jj i
  .rw[a6 (by decide),AE q.1 (by rw[ca,BA];exact q.2),bs,Gt _ q.1]
   grind [CO,QO,AA]
  grind [CO,QO]
theorem de{a b:Nat}(f:a<=10000)(j:b<=10000):decide (0<Aj ((a:Int)+(b:Int)))=(decide (0<a)||decide (0<b)):=by
 rw [Ar (by omega) (by omega),Bool.eq_iff_iff,Bool.or_eq_true]
 grind
theorem qr{l g:d4}{jj:BH}{m:d6}(z:Qs jj):FQ l g jj m=some (MP l g jj m):=by
 unfold FQ CU MP;simp only[];rw[ZB,bs,dJ z,bs];by_cases j:¬It l g m=0
 .grind
 have j:=Classical.not_not.1 j;rw[ae (by simp[j]),bs,ae (show¬It l g m≠0 by simp[j])];refine Cg fun K=>?_;have f:=UT j;have a1:=f.ga.ei;have P:=f.ga.ek;have Q:=f.AaF;have S:=f.AaP;have U:=f.gb.ei;have V:=f.gb.ek;unfold Dc;obtain⟨u,D,E,G⟩:=dI (jj:=jj.d3) (images:=m.d3) (by omega);obtain⟨v,H,I,J⟩:=dI (jj:=jj.d5) (images:=m.d5) (by omega);simp only[];rw[D,bs,H,bs,bs];simp only[];rw[de E I,G,J];refine Zc fun N=>?_;rw[e8 (by show m.d3.length<=1000;omega) (by show g.d5.length<=1000;omega),bs];have e:=Zr (n:=g.d5.length) (q:=MS g jj m) (F:=id);rw[List.map_id]at e;rw[e];refine Zc fun O=>?_;rw[aS (by omega) (fun x o=>?_),bs,aS (by omega) (fun x o=>?_),bs]
 .rfl
 .obtain⟨i,w,y,rfl⟩:=Be o;exact(f.edge i w y).1
 .obtain⟨i,w,y,rfl⟩:=Be o;exact(f.node i w y).1
theorem rM{l g:d4}{jj:BH}{m:d6}(o:Qs jj):Ph l g jj m=some (MP l g jj m):=by
 unfold Ph Nw MP;rw[ZJ,bs,Xp o,bs];by_cases j:¬It l g m=0
 .grind
 have j:=Classical.not_not.1 j;rw[ae (by simp[j]),bs,ae (show¬It l g m≠0 by simp[j])];refine Cg fun H=>?_;have f:=UT j;have a1:=f.ga.ei;have K:=f.ga.ek;have N:=f.AaF;have O:=f.AaP;have P:=f.gb.ei;have Q:=f.gb.ek;obtain⟨u,w,y,z⟩:=dR (jj:=jj.d3) (images:=m.d3) (by omega);obtain⟨v,D,E,G⟩:=dR (jj:=jj.d5) (images:=m.d5) (by omega);rw[w,bs,D,bs,de y E,z,G];refine Zc fun I=>?_;rw[fG (by omega) (by omega),bs];have e:=Zr (n:=g.d5.length) (q:=MS g jj m) (F:=id);rw[List.map_id]at e;rw[e];refine Zc fun J=>?_;rw[Vi (by omega),bs,ak (by omega),bs,Vi (by omega),bs,ak (by omega),bs];rfl
end Go.Sf.Sc
namespace Go.Sf.Sc
open Go Go.Sf
variable{α β:Type}
theorem Rx[Inhabited α]{l:List α}{F:α->β}{f:Int->List β->Option (List β)}(h:∀(i:Int)s,0<=i->i<l.length->s.length<=i.toNat->f i s=some (s++[F (AA l i)])):tc f 0 l.length []=some (l.map F):=by
 have:=Bt (f:=f) (s:=[]) (fun i=>(l.take i.toNat).map F) (a:=0) (b:=l.length) (by omega) (by simp) (fun i j o=>by
  grind [ca,cE,Bx])
 rwa [Int.toNat_natCast,List.take_length]at this
variable{n:Nat}{l:Fp}
theorem dK(G:n<=1000)(y:l.length<=1000)(o:l.Pairwise (·<·)):K0 n l=some (HL n l):=by
 unfold K0 Is;rw[a6 (by omega),bs,Int.toNat_natCast,List.length_replicate,Bt (fun i=>(Av n).map fun j=>if j<i then DC l j else 0) (by omega)]
 .rw[bs];congr 1;exact CO fun j z q=>a6 q
 .refine List.ext_getElem (by simp[BA]) (fun k D H=>?_);have e:(Av n)[k]'(by simpa[BA]using D)=(k:Int):=by simp[Av]
  simp only[List.getElem_map,List.getElem_replicate,e];rw[ae (by omega)]
 .intro i u F;rw[R7 y o,bs,AE u (by rw[ca,BA];exact F),bs];have e:∀v:Int,v=DC l i->some (BP ((Av n).map fun j=>if j<i then DC l j else 0) i v)=some ((Av n).map fun j=>if j<i+1 then DC l j else 0):=by
   rintro v rfl;rw[Gt _ u];congr 1;refine CO fun j z q=>?_;by_cases e:j=i
   .rw[a6 e,a6 (by omega),e]
   .rw[ae e];by_cases w:j<i
    .rw[a6 w,a6 (by omega)]
    .rw[ae w,ae (by omega)]
  cases f:hasB l i with
  |false=>
   rw [a6 (by rfl)];exact e _ (Xf fun E=>by rw[CR.2 E]at f;cases f).symm
  |true=>
   rw [ae (by simp)];exact e _ (VY o (CR.1 f))
theorem aX(J:n<=1000)(K:l.length<=1000)(E:l.Nodup):Kt l n=some (HL n l):=by
 unfold Kt;rw[Bt (fun k=>(Av k.toNat).map (DC l)) (by omega) (by rfl)]
 .rfl
 .intro k q N;have o:((Av k.toNat).map (DC l)).length=k.toNat:=by rw[ca,BA]
  have I:(Av k.toNat).map (DC l)++[-1]=(Av (k+1).toNat).map fun j=>if j<k then DC l j else if DC l k<0 then DC l k else -1:=by
   rw [Fy q,List.map_append];congr 1
   .grind[List.map_congr_left,Es]
   .rw[List.map_singleton,ae (by omega)];have:=PB l k
    grind
  rw [Ai (by rw[o];simp;unfold Ah;omega),bs,I,Bt (fun i=>(Av (k+1).toNat).map fun j=>if j<k then DC l j else if DC l k<i then DC l k else -1) (by omega) rfl]
  .rw[bs];congr 1;refine List.map_congr_left fun j F=>?_;have:=Es.1 F;split
   .rfl
   .have e:j=k:=by omega
    rw [a6 (PB l k).2,e]
  .intro i u w;rw[AE u w,bs];by_cases e:AA l i=k
   .have y:DC l k=i:=by rw[<-e];exact Z2 E u w
    rw [a6 (by simp[e]),AE q (by rw[ca,BA];omega),bs,Gt _ q];congr 1;refine CO fun j G H=>?_;by_cases z:j=k
    .rw[a6 z,ae (by omega),a6 (by omega),y]
    .rw[ae z];by_cases f:j<k
     .rw[a6 f,a6 f]
     .omega
   .have y:DC l k≠i:=fun h=>by
     have:=(Iq (Ma.1 (show 0<=DC l k by omega))).2.2.1;rw[h]at this;exact e this
    rw [ae (by simp[e])];congr 1;refine CO fun j G H=>?_;by_cases f:j<k
    .rw[a6 f,a6 f]
    .rw[ae f,ae f];by_cases D:DC l k<i
     .rw[a6 D,a6 (by omega)]
     .rw[ae D,ae (by omega)]
structure UN(count:Nat)(jj into at_:Fp):Prop where
 few:count<=1000
 nodup:into.Nodup
 len:into.length=jj.length
 inn:∀x∈into,0<=x/\x<count
 kin:∀x∈jj,0<=x/\x<at_.length
 pos:∀x∈jj,0<=AA at_ x
theorem aA(f:l.Nodup)(h:∀x∈l,0<=x/\x<n):l.length<=n:=by
 have:=List.Nodup.length_le_of_subset (l₁:=l) (l₂:=Av n) f (fun x j=>Es.2 (h x j))
 rwa [BA]at this
variable{i:Int}
theorem O0(h:0<=i):((BI l (i+1)).length:Int)=(BI l i).length+if i∈l then 0 else 1:=by grind[M0,bk,hasB,CR]
theorem RB{jj into at_:Fp}{n i:Int}(h:i∈into):PS jj into at_ n i=AA at_ (AA jj (DC into i)):=by grind[PS,CR]
theorem Rd{jj into at_:Fp}{n i:Int}(h:i∉into):PS jj into at_ n i=n+(BI into i).length:=by grind[PS,CR]
variable{count:Nat}
theorem Yb{jj into at_:Fp}{n:Int}(h:UN count jj into at_)(D:0<=n)(E:n<=1000):FV jj into count at_ n=some (S1 count jj into at_ n):=by
 have F:=h.few;have w:=aA h.nodup h.inn;have y:=h.len;unfold FV;rw[aX h.few (by omega) h.nodup,bs,Bt (fun i=>(n+((BI into i).length:Int),(Av i.toNat).map (PS jj into at_ n))) (by omega) (by simp[BI,Av])]
 .rfl
 .intro i j u;have G:=Jz (l:=into) j;have f:((Av i.toNat).map (PS jj into at_ n)).length=i.toNat:=by rw[ca,BA]
  rw [AE j (by rw[JI];exact u),bs,Vu j u];by_cases hi:i∈into
  .have q:=Iq hi;have z:=AM (l:=jj) q.1 (by omega);have o:=h.kin _ z;rw[a6 (by simpa using q.1),bs,AE q.1 (by omega),bs,AE o.1 o.2,bs,Ai (by rw[f];simp;unfold Ah;omega),bs,Fy j,List.map_append,O0 j,a6 hi,Int.add_zero,List.map_singleton,RB hi]
  .rw[ae (by rw[zzX,Ma];exact hi),Ai (by rw[f];simp;unfold Ah;omega),bs,Fy j,List.map_append,O0 j,ae hi,List.map_singleton,Rd hi,Ar (by omega) (by omega),Int.add_assoc]
theorem YT{jj into f o:Fp}{n:Int}(h:UN count jj into (f.map (AA o)))(J:∀x∈f,0<=x/\x<o.length)(S:0<=n)(U:n<=1000):GB count jj into f o n=some (S1 count jj into (f.map (AA o)) n):=by
 have X:=h.few;have K:=aA h.nodup h.inn;have N:=h.len;unfold GB EH;rw[a6 (by refine⟨rfl,by omega,by omega⟩),bs,Int.toNat_natCast];rw[Bt (fun i=>(Av count).map fun k=>if 0<=DC into k/\DC into k<i then PS jj into (f.map (AA o)) n k else -1) (by omega)]
 .rw[bs,ca,BA,Bt (fun i=>(n+((BI into i).length:Int),(Av count).map fun k=>if k<i\/k∈into then PS jj into (f.map (AA o)) n k else -1)) (by omega)]
  .rw[bs];congr 1;exact CO fun j G E=>a6 (.inl E)
  .show _=(n,_);congr 1
   .simp[BI]
   .refine CO fun j G E=>?_;have I:=Ma (l:=into) (v:=j);have O:=PB into j;by_cases e:j∈into
    .rw[a6 (.inr e),a6 ⟨I.2 e,O.2⟩]
    .rw[ae (by rintro(q|q);omega;exact e q),ae fun q=>e (I.1 q.1)]
  .intro i w z;have Y:=Jz (l:=into) w;rw[AE w (by rw[ca,BA];exact z),bs,Hi _ w z];by_cases hi:i∈into
   .have P:=Iq hi;have H:=AM (l:=jj) P.1 (by have:=h.len;omega);have Z:=h.pos _ H;rw[a6 (show i<i\/i∈into from .inr hi),RB hi,ae (by rw[zzX];omega),O0 w,a6 hi,Int.add_zero];congr 2;refine CO fun j G E=>?_;by_cases e:j<i\/j∈into
    .rw[a6 e,a6 (e.imp (fun h=>by omega) id)]
    .rw[ae e,ae];rintro(q|q)
     .have:j=i:=by
       have:=fun hh=>e (.inl hh);omega
      exact e (.inr (this▸hi))
     .exact e (.inr q)
   .rw[ae (show¬(i<i\/i∈into)by rintro(q|q);omega;exact hi q),a6 (by decide),bs,O0 w,ae hi,Ar (by simp only[];omega) (by simp only[];omega),Gt _ w,Int.add_assoc];congr 2;refine CO fun j G E=>?_;by_cases y:j=i
    .rw[a6 y,a6 (.inl (by omega)),y,Rd hi]
    .rw[ae y];by_cases e:j<i\/j∈into
     .rw[a6 e,a6 (e.imp (fun h=>by omega) id)]
     .rw[ae e,ae];rintro(q|q)
      .exact e (.inl (by omega))
      .exact e (.inr q)
 .refine List.ext_getElem (by simp[BA]) (fun k V W=>?_);simp only[List.getElem_map,List.getElem_replicate];rw[ae (by omega)];rfl
 .intro i w z;have D:=h.inn _ (AM w z);have H:=AM (l:=jj) w (by have:=h.len;omega);have u:=h.kin _ H;rw[ca]at u;have F:=J _ (AM u.1 u.2);rw[AE w z,bs,AE w (by have:=h.len;omega),bs,AE u.1 u.2,bs,AE F.1 F.2,bs,AE D.1 (by rw[ca,BA];exact D.2),bs,Gt _ D.1];congr 1;refine CO fun j G E=>?_;by_cases y:j=AA into i
  .have e:=Z2 h.nodup w z;rw[a6 y,y,e,a6 ⟨w,by omega⟩,RB (AM w z),e,N9 u.1 u.2]
  .rw[ae y];by_cases e:0<=DC into j/\DC into j<i
   .rw[a6 e,a6 ⟨e.1,by omega⟩]
   .rw[ae e,ae];rintro⟨q,h2⟩;have Q:DC into j=i:=by
     have:=fun hh=>e ⟨q,hh⟩;omega
    have:=(Iq (Ma.1 q)).2.2.1;rw[Q]at this;exact y this.symm
theorem Wy{images f:Fp}(j:images.length<=1000)(o:∀x∈images,0<=x/\x<f.length):G0 images f=some (images.map (AA f)):=by
 unfold G0
 grind [Rx,AA,AM,AE,Ai,Ah]
end Go.Sf.Sc
namespace Go.Sf.Sc
open Go Go.Sf
def HM(h:AH)(d:BH):d6:=⟨HL h.d4.d3.length d.d3,HL h.d4.d5.length d.d5⟩
def w9(r:f0)(h:AH)(m:d6)(d:BH):d6:=
 ⟨S1 r.fq.d4.d3.length r.x5.d3 r.tl.d3 (m.d3.map (AA (HM h d).d3)) d.d3.length,
 S1 r.fq.d4.d5.length r.x5.d5 r.tl.d5 (m.d5.map (AA (HM h d).d5)) d.d5.length⟩
def kG(t:AC)(k:Int):Fp:=(A4 t k).map fun x=>x.Low
def eZ(tr:Fp)(e:Bo):Bo:=⟨e.og,AA tr e.o4,AA tr e.To⟩
def Mf(r:f0)(x:AH)(i:Int):Fp:=x.d4.d3++(BI r.tl.d3 i).map (AA r.fq.d4.d3)
def Mg(t:AC)(r:f0)(x:AH)(i:Int):List Fp:=x.fd++(BI r.tl.d3 i).map fun k=>kG t (AA r.fq.d4.d3 k)
def OY(r:f0)(c:d6)(x:AH)(i:Int):List Bo:=x.d4.d5++(BI r.tl.d5 i).map fun k=>eZ c.d3 (AA r.fq.d4.d5 k)
def Ce(t:AC)(r:f0)(x:AH)(c:d6):AH:=⟨⟨Mf r x r.fq.d4.d3.length,OY r c x r.fq.d4.d5.length⟩,Mg t r x r.fq.d4.d3.length⟩
def B4(h:AH)(d:BH):AH:=⟨⟨d.d3.map (AA h.d4.d3),d.d5.map fun x=>eZ (HM h d).d3 (AA h.d4.d5 x)⟩,d.d3.map (AA h.fd)⟩
structure Ii(x:AH):Prop where
 ei:x.d4.d3.length<=1000
 ek:x.d4.d5.length<=1000
 vals:x.fd.length<=1000
 rows:∀v∈x.fd,v.length<=1000
structure V4(t:AC)(r:f0)(c:d6):Prop where
 hf:An t
 hv:(A2 t).2=0
 g:D3 r.fq.d4
 kind:∀n∈r.fq.d4.d3,0<=n/\n<t.d3.length
 cn:c.d3.length=r.fq.d4.d3.length
variable{t:AC}{r:f0}{c:d6}
theorem nt(h:V4 t r c){n:Int}(f:n∈r.fq.d4.d3):(A4 t n).length<=600:=by
 have:=h.kind n f;exact Gd h.hf (Int.le_refl _) (DU h.hv).par this.2
variable{x:AH}
theorem TX(h:Ii x):G9 x=some x:=by
 have:=h.ei;have:=h.ek;have:=h.vals;unfold G9 Ix;rw[A1 (by unfold Ah;omega),bs,A1 (by unfold Ah;omega),bs,bs];rw[Bt (fun i=>AH.mk x.d4 (x.fd.take i.toNat)) (by omega) (by rfl)]
 .rw[Int.toNat_natCast,List.take_length];rfl
 .intro i f j;have:=h.rows _ (AM f j)
  grind [AE,A1,Ah,Ai,Bx]
theorem ez(h:Ii x):Jl x=some x:=by
 have:=h.ei;have:=h.ek;have:=h.vals;unfold Jl slices_Clone_int Ck;rw[A1 (by unfold Ah;omega),bs,A1 (by unfold Ah;omega),bs];rw[Bt (fun i=>AH.mk x.d4 (x.fd.take i.toNat)) (by omega) (by rfl)]
 .rw[Int.toNat_natCast,List.take_length];rfl
 .intro i f j;have:=h.rows _ (AM f j)
  grind [AE,A1,Ah,Ai,Bx]
variable{α:Type}{i:Int}
theorem DO(l:Fp)(F:Int->α)(h:0<=i):(BI l (i+1)).map F=(BI l i).map F++if i∈l then[]else[F i]:=by grind[M0,hasB,CR]
theorem VJ(l:Fp)(i:Int):He l i=some (!hasB l i):=by
 unfold He hasB;rw[BS (fun j=>decide (i=AA l j)) false,Hp]
 .cases pc (fun j=>decide (i=AA l j)) 0 l.length<;>rfl
 grind [AE,AA]
theorem rR(h:V4 t r c)(u:Ii x):Kw t r x c=some (Ce t r x c):=by
 have I:=h.g.ei;have J:=h.g.ek;have x1:=u.ei;have K:=u.ek;have N:=u.vals;unfold Kw;rw[Pv (fun i=>AH.mk (d4.mk (Mf r x i) x.d4.d5) (Mg t r x i)) (a:=0) (b:=r.fq.d4.d3.length) (by omega)]
 .rw[Br,Pv (fun i=>AH.mk (d4.mk (Mf r x r.fq.d4.d3.length) (OY r c x i)) (Mg t r x r.fq.d4.d3.length)) (a:=0) (b:=r.fq.d4.d5.length) (by omega)]
  .rfl
  .grind[OY,BI]
  .intro i f o;have z:=Jz (l:=r.tl.d5) f;have he:=h.g.fit _ (AM f o);have D:=h.cn;rw[a6 (by simpa using o),VJ,bs];by_cases hi:i∈r.tl.d5
   .grind[CR,OY,DO,Ar]
   .have q:hasB r.tl.d5 i=false:=by cases q:hasB r.tl.d5 i with|false=>rfl|true=>exact absurd (CR.1 q) hi
    rw [q,a6 (by decide),AE f o,bs,AE he.2.1.1 (by omega),bs,AE he.2.2.1 (by omega),bs,Ai (by unfold OY;simp;unfold Ah;omega),bs];unfold OY;rw[DO _ _ f,ae hi,Ar (by simp only[];omega) (by simp only[];omega),ci];rfl
  .rw[ae (by simp)]
 .unfold Mf Mg;simp[BI]
 .intro i f o;have z:=Jz (l:=r.tl.d3) f;have w:=AM f o;have y:=h.kind _ w;have O:=nt h w;rw[a6 (by simpa using o),VJ,bs];by_cases hi:i∈r.tl.d3
  .grind[CR,Mf,Mg,DO,Ar]
  .have q:hasB r.tl.d3 i=false:=by cases q:hasB r.tl.d3 i with|false=>rfl|true=>exact absurd (CR.1 q) hi
   rw [q,ae (by decide),AE f o,bs,Ai (by unfold Mf;simp;unfold Ah;omega),bs,bs,RL h.hf,I8 h.hv y.1 y.2,bs];simp only[];rw[Rx (F:=fun a=>a.Low) fun j s E G H=>?_]
   .rw[bs,Ai (by unfold Mg;simp;unfold Ah;omega),bs];unfold Mf Mg;rw[DO _ _ f,ae hi,DO _ _ f,ae hi,Ar (by omega) (by omega),ci,ci];rfl
   grind [AE,Ai,Ah]
 .rw[ae (by simp)]
theorem oD(hf:An t)(hv:(A2 t).2=0){k:Int}(o:0<=k)(f:k<t.d3.length):H9 t k=some (kG t k):=by
 have:=Gd hf (Int.le_refl _) (DU hv).par f;unfold H9;rw[RK hf,I8 hv o f,bs];simp only[];rw[Rx (F:=fun a=>a.Low) fun j s q u w=>?_]
 .rfl
 grind [AE,Ai,Ah]
structure Y6(h:AH)(d:BH):Prop where
 sm:Ii h
 len:h.fd.length=h.d4.d3.length
 ei:(∀x∈d.d3,0<=x/\x<h.d4.d3.length)/\d.d3.length<=1000
 ek:(∀x∈d.d5,0<=x/\x<h.d4.d5.length)/\d.d5.length<=1000
 ends:∀e∈h.d4.d5,(0≤e.o4/\e.o4<h.d4.d3.length)/\0≤e.To/\e.To<h.d4.d3.length
variable{h:AH}
theorem Yi{d:BH}(hd:Y6 h d):Ii (B4 h d):=by
 have j:=hd.ei.2;have o:=hd.ek.2;refine⟨by unfold B4;simp;omega,by unfold B4;simp;omega,by unfold B4;simp;omega,fun v hv=>?_⟩;obtain⟨x,f,rfl⟩:=List.mem_map.1 hv;have:=hd.ei.1 x f;exact hd.sm.rows _ (AM this.1 (by rw[hd.len];exact this.2))
variable{R:f0}{M:AO}{C:d6}
theorem n8{d:BH}(q:V4 t R C)(hd:Y6 h d)(H:C.d5.length=R.fq.d4.d5.length)
  (y:∀i:Int,0<=i->i<R.fq.d4.d3.length->(AA C.d3 i=d.d3.length+(BI R.tl.d3 i).length↔i∉R.tl.d3))
  (z:∀i:Int,0<=i->i<R.fq.d4.d5.length->(AA C.d5 i=d.d5.length+(BI R.tl.d5 i).length↔i∉R.tl.d5)):
  Gk t (Ax.mk R M h (AH.mk (d4.mk [] []) []) (HM h d) C) d=some (Ax.mk R M h (Ce t R (B4 h d) C) (HM h d) C):=by
 have I:=hd.ei.2;have J:=hd.ek.2;have K:=q.g.ei;have N:=q.g.ek;have F:=q.cn;unfold Gk;simp only[];rw[Bt (fun i=>Ax.mk R M h (AH.mk (d4.mk ((d.d3.take i.toNat).map (AA h.d4.d3)) []) ((d.d3.take i.toNat).map (AA h.fd))) (HM h d) C) (by omega) (by simp)]
 rotate_left
 .intro i f j;have o:=hd.ei.1 _ (AM f j);have u:=hd.len;have D:=hd.sm.rows _ (AM o.1 (by omega));rw[AE f j,bs,AE o.1 o.2,bs,Ai (by simp;unfold Ah;omega),bs,AE o.1 (by omega),bs,A1 (by unfold Ah;omega),bs,Ai (by simp;unfold Ah;omega),bs,Hc f j,Hc f j]
 rw [bs,Int.toNat_natCast,List.take_length];rw[Bt (fun i=>Ax.mk R M h (AH.mk (d4.mk (d.d3.map (AA h.d4.d3)) ((d.d5.take i.toNat).map fun x=>eZ (HM h d).d3 (AA h.d4.d5 x))) (d.d3.map (AA h.fd))) (HM h d) C) (by omega) (by simp)]
 rotate_left
 .intro i f j;have o:=hd.ek.1 _ (AM f j);have he:=hd.ends _ (AM o.1 o.2);have u:(HM h d).d3.length=h.d4.d3.length:=JI _ _;simp only[];rw[AE f j,bs,AE o.1 o.2,bs,AE he.1.1 (by omega),bs,AE he.2.1 (by omega),bs,Ai (by simp;unfold Ah;omega),bs,Hc f j];rfl
 rw [bs,Int.toNat_natCast,List.take_length];rw[Bt (fun i=>Ax.mk R M h (AH.mk (d4.mk (Mf R (B4 h d) i) (B4 h d).d4.d5) (Mg t R (B4 h d) i)) (HM h d) C) (by omega) (by unfold Mf Mg;simp[BI,B4])]
 rotate_left
 .intro i f j;have D:=Jz (l:=R.tl.d3) f;have G:=AM f j;have E:=q.kind _ G;have u:(Mf R (B4 h d) i).length=d.d3.length+(BI R.tl.d3 i).length:=by unfold Mf B4;simp
  have w:(Mg t R (B4 h d) i).length=d.d3.length+(BI R.tl.d3 i).length:=by unfold Mg B4;simp
  simp only[u];rw[AE f j,bs,AE f (by omega),bs];by_cases hi:i∈R.tl.d3
  .rw[ae (by rw[zzX];push_cast;exact fun e=>(y i f j).1 e hi)];unfold Mf Mg;rw[DO _ _ f,a6 hi,List.append_nil,DO _ _ f,a6 hi,List.append_nil]
  .rw[a6 (by rw[zzX];push_cast;exact(y i f j).2 hi),Ai (by rw[u];simp;unfold Ah;omega),bs,oD q.hf q.hv E.1 E.2,bs,Ai (by rw[w];simp;unfold Ah;omega),bs];unfold Mf Mg;rw[DO _ _ f,ae hi,DO _ _ f,ae hi,ci,ci]
 rw [bs];rw[Bt (fun i=>Ax.mk R M h (AH.mk (d4.mk (Mf R (B4 h d) R.fq.d4.d3.length) (OY R C (B4 h d) i)) (Mg t R (B4 h d) R.fq.d4.d3.length)) (HM h d) C) (by omega) (by unfold OY;simp[BI,B4])]
 rotate_left
 .intro i f j;have D:=Jz (l:=R.tl.d5) f;have he:=q.g.fit _ (AM f j);have u:(OY R C (B4 h d) i).length=d.d5.length+(BI R.tl.d5 i).length:=by unfold OY B4;simp
  simp only[u];rw[AE f j,bs,AE f (by omega),bs];by_cases hi:i∈R.tl.d5
  .rw[ae (by rw[zzX];push_cast;exact fun e=>(z i f j).1 e hi)];unfold OY;rw[DO _ _ f,a6 hi,List.append_nil]
  .rw[a6 (by rw[zzX];push_cast;exact(z i f j).2 hi),AE he.2.1.1 (by omega),bs,AE he.2.2.1 (by omega),bs,Ai (by rw[u];simp;unfold Ah;omega),bs];unfold OY;rw[DO _ _ f,ae hi,ci];rfl
 rw [bs];rfl
theorem cG(hf:An t){d:BH}(hh:(Ia t h).2=0)(q:Ej h.d4 d=0)(hd:Y6 h d):Jh t h d=some (B4 h d,0):=by
 have u:=hd.ei.2;unfold Jh;rw[Wz hf,bs,ae (by simp[hh]),Ya ⟨hd.ei.2,hd.ek.2⟩,ae (by simp[q]),bs,ae (by simp)];have e:Mm h.d4 d=(B4 h d).d4:=by
  unfold Mm B4;congr 1;refine List.map_congr_left fun x f=>?_;have f:=hd.ek.1 x f;have he:=hd.ends _ (AM f.1 f.2)
  grind [eZ,HM,Vu]
 simp only[];rw[Pv (fun i=>AH.mk (Mm h.d4 d) ((d.d3.take i.toNat).map (AA h.fd))) (a:=0) (b:=d.d3.length) (by omega) (by simp)]
 .rw[Int.toNat_natCast,List.take_length,Br,e];rfl
 .intro i o j;have f:=hd.ei.1 _ (AM o j);have w:=hd.len;have y:=hd.sm.rows _ (AM f.1 (by omega));rw[a6 (by simpa using j),AE o j,bs,AE f.1 (by omega),bs,A1 (by unfold Ah;omega),bs,Ai (by simp;unfold Ah;omega),bs,Hc o j,Ar (by simp only[];omega) (by simp only[];omega)]
 .rw[ae (by simp)]
end Go.Sf.Sc
namespace Go.Sf.Sc
open Go Go.Sf
def Qo(c:d6)(vars:Fp)(s:Cf):(Int×Int)×Int:=((AA c.d3 s.t5,s.ns),C5 s.kp vars)
def B5(r:f0)(c:d6)(vars:Fp):BM:=r.fq.gn.map (Qo c vars)
def OW(t:AC)(x:AH)(p:(Int×Int)×Int):Bool:=
 decide (p.2<(AA (A4 t (AA x.d4.d3 p.1.1)) p.1.2).Low)||decide ((AA (A4 t (AA x.d4.d3 p.1.1)) p.1.2).AaD<p.2)
structure UP(t:AC)(r:f0)(c:d6)(vars:Fp)(x:AH):Prop where
 hf:An t
 hv:(A2 t).2=0
 few:r.fq.gn.length<=1000
 fewv:vars.length<=1000
 slot:∀s∈r.fq.gn,(0<=s.t5/\s.t5<c.d3.length)/\(-1<=s.kp.Var/\s.kp.Var<vars.length)/\
  (0<=AA c.d3 s.t5/\AA c.d3 s.t5<x.d4.d3.length)/\(0<=s.ns/\s.ns<(A4 t (AA x.d4.d3 (AA c.d3 s.t5))).length)
 kind:∀n∈x.d4.d3,0<=n/\n<t.d3.length
 vlen:x.fd.length=x.d4.d3.length
 rows:∀i:Int,0<=i->i<x.d4.d3.length->(AA x.fd i).length=(A4 t (AA x.d4.d3 i)).length
variable{L:BM}{i:Int}
theorem eF(f:0<=i)(o:i<=L.length)(h:∀j,0<=j->j<i->pc (fun k=>decide ((AA L k).1=(AA L j).1)&&!decide ((AA L k).2=(AA L j).2)) 0 j=false):RW (L.take i.toNat):=by grind[X0,Om,Bk,cE,V9,Jq]
def Va(L:BM)(i:Int):Bool:=pc (fun k=>decide ((AA L k).1=(AA L i).1)&&!decide ((AA L k).2=(AA L i).2)) 0 i
theorem jt(H:0<=i)(I:i<L.length)(w:RW (L.take i.toNat)):
  (((Og (L.take i.toNat)).look (AA L i).1).isSome&&(!decide (((Og (L.take i.toNat)).look (AA L i).1).getD 0=(AA L i).2)))=Va L i:=by
 obtain ⟨J,z,K⟩:=cw _ w;unfold Va;cases y:(Og (L.take i.toNat)).look (AA L i).1 with
 |none=>
  rw [Option.isSome_none,Bool.false_and];refine Eq.symm (Bk.2 fun k q u=>?_);have o:AA L k∈L.take i.toNat:=by
   rw [<-Jq (n:=i.toNat) (by omega)]
   grind [AM,cE]
  rw [decide_eq_false (YP y _ ((z _).2 o)),Bool.false_and]
 |some v=>
  have o:=(z _).1 (TI y);rw[Option.isSome_some,Bool.true_and,Option.getD_some];have f:∀k,0<=k->k<i->(AA L k).1=(AA L i).1->(AA L k).2=v:=fun k q u e=>by
   have E:AA L k∈L.take i.toNat:=by
    rw [<-Jq (n:=i.toNat) (by omega)]
    grind [AM,cE]
   exact w _ E _ o e
  obtain ⟨k,q,u,D⟩:=Be o;rw[cE]at u;rw[Jq (by omega)]at D;rw[Bool.eq_iff_iff,EE];constructor
  .intro h;refine⟨k,q,by omega,?_⟩;rw[D,decide_eq_true rfl,Bool.true_and];exact h
  .rintro⟨j,F,G,h⟩;rw[pq,zzX]at h;rw[<-f j F G h.1];exact h.2
theorem Nc(r:f0)(c:d6)(vars:Fp)(f:0<=i)(j:i<r.fq.gn.length):AA (B5 r c vars) i=Qo c vars (AA r.fq.gn i):=N9 f j
theorem JW(r:f0)(c:d6)(vars:Fp):(B5 r c vars).length=r.fq.gn.length:=ca ..
variable{ρ:Type}
theorem Ze(L:BM)(v:ρ):fst (fun i=>if Va L i=true then some v else none) 0 L.length=if Om L=true then some v else none:=L7
variable{t:AC}{R:f0}{M:AO}{B A:AH}{T C:d6}
theorem ey(h:UP t R C M.hV A):Hg (Ax.mk R M B A T C)=some (if Om (B5 R C M.hV)=true then([],11)else(Og (B5 R C M.hV),0)):=by
 unfold Hg;simp only[];rw[Hb (a:=0) (s:=([]:BM)) (fun i=>Og ((B5 R C M.hV).take i.toNat)) (fun i=>if Va (B5 R C M.hV) i=true then some ([],11)else none) (by omega) rfl]
 .have:=Ze (B5 R C M.hV) (([],11):BM×Int);rw[JW]at this;rw[this];by_cases e:Om (B5 R C M.hV)=true
  .rw[a6 e,a6 e];rfl
  .rw[ae e,ae e,<-JW R C M.hV,Int.toNat_natCast,List.take_length];rfl
 .intro i f o z;have q:=h.slot _ (AM f o);have D:RW ((B5 R C M.hV).take i.toNat):=eF f (by rw[JW];omega) fun j w y=>by
   have:=z j w y;split at this
   .cases this
   .rename_i e;exact Bool.eq_false_iff.2 e
  have u:=jt (L:=B5 R C M.hV) f (by rw[JW];exact o) D;rw[AE f o,bs,aK q.2.1.1 q.2.1.2 h.fewv,bs,ae (by simp),AE q.1.1 q.1.2,bs];rw[Nc R C M.hV f o]at u;simp only[Qo]at u;simp only[];by_cases e:Va (B5 R C M.hV) i=true
  .refine(a6 (u.trans e)).trans ?_;rw[a6 e];rfl
  .refine(ae (fun h=>e (u.symm.trans h))).trans ?_;rw[ae e,Bx f (by rw[JW];exact o),Z9,Nc R C M.hV f o];rfl
variable{α:Type}
theorem cz{f:α->K1}{g:α->Bool}:∀{l:List α},(∀p∈l,f p=some (g p))->AaS f l=some (l.all g)
 |[],_=>rfl|p::r,h=>by
  unfold AaS;rw[h p List.mem_cons_self,bs,cz fun q j=>h q (List.mem_cons_of_mem _ j),bs,List.all_cons]
variable{r:f0}{c:d6}{x:AH}
theorem bP{vars:Fp}(h:UP t r c vars x){s:Cf}(q:s∈r.fq.gn){V:List Fp}(u:Kk V x.fd):
  idx V (AA c.d3 s.t5)=some (AA V (AA c.d3 s.t5))/\idx (AA V (AA c.d3 s.t5)) s.ns=some (AA (AA V (AA c.d3 s.t5)) s.ns):=by
 have f:=h.slot s q;have hv:=h.vlen;have D:=h.rows _ f.2.2.1.1 f.2.2.1.2;have w:idx x.fd (AA c.d3 s.t5)=some (AA x.fd (AA c.d3 s.t5)):=AE f.2.2.1.1 (by omega);have y:idx (AA x.fd (AA c.d3 s.t5)) s.ns=some (AA (AA x.fd (AA c.d3 s.t5)) s.ns):=AE f.2.2.2.1 (by omega);obtain⟨z,x',a,b⟩:=u.idx w y;have j:=GZ a;have o:=GZ b;have E:=(List.getElem?_eq_some_iff.1 j.2.2).1;have e:AA V (AA c.d3 s.t5)=z:=by
  grind [AE,Option.some.inj]
 have F:=(List.getElem?_eq_some_iff.1 o.2.2).1;refine⟨AE j.1 (by omega),?_⟩;rw[e];exact AE o.1 (by omega)
theorem jy(h:UP t R C M.hV A){p:(Int×Int)×Int}(q:p∈B5 R C M.hV):MY t (Ax.mk R M B A T C) p=some (!OW t A p):=by
 obtain ⟨s,o,rfl⟩:=List.mem_map.1 q;have f:=h.slot s o;have j:=h.kind _ (AM f.2.2.1.1 f.2.2.1.2);obtain⟨u,w⟩:=bP h o (V:=A.fd) rfl;unfold MY MW Qo OW;simp only[];rw[AE f.2.2.1.1 f.2.2.1.2,bs,RK h.hf,I8 h.hv j.1 j.2,bs];simp only[];simp only[AE f.2.2.2.1 f.2.2.2.2,u,w,bs,RJ]
 grind
def IJ(t:AC)(x:AH)(L:BM):AH×Int:=
 if Om L=true then(⟨⟨[],[]⟩,[]⟩,11)else if L.any (OW t x)=true then(⟨⟨[],[]⟩,[]⟩,6)else(⟨x.d4,L.foldl Cd x.fd⟩,0)
theorem qv(h:UP t R C M.hV A):JH t (Ax.mk R M B A T C)=some ((IJ t A (B5 R C M.hV)).2,if(IJ t A (B5 R C M.hV)).2=0 then Ax.mk R M B (IJ t A (B5 R C M.hV)).1 T C else Ax.mk R M B A T C):=by
 unfold JH IJ;rw[ey h,bs];by_cases e:Om (B5 R C M.hV)=true
 .grind
 .rw[ae e,ae (by simp),ae e];obtain⟨o,q,u⟩:=cw _ (X0 (Bool.eq_false_iff.2 e));have j:AaS (MY t (Ax.mk R M B A T C)) (Og (B5 R C M.hV))=some (!(B5 R C M.hV).any (OW t A)):=by
   rw [cz (g:=fun p=>!OW t A p) fun p f=>jy h ((q p).1 f)]
   grind
  rw [a6 (by simpa using(show List.Pairwise (fun x y:(Int×Int)×Int=>x.1≠y.1) _ from o)),j,bs]
  grind [B5,OW,M6]
theorem vH{vars:Fp}(h:UP t r c vars x):MC t r x c vars=some (IJ t x (B5 r c vars)):=by
 unfold MC IJ;rw[Hb (a:=0) (s:=AH.mk (d4.mk [] []) []) (fun _=>AH.mk (d4.mk [] []) []) (fun i=>if Va (B5 r c vars) i=true then some (AH.mk (d4.mk [] []) [],(11:Int))else none) (by omega) rfl]
 .have:=Ze (B5 r c vars) ((AH.mk (d4.mk [] []) [],(11:Int)));rw[JW]at this;rw[this];by_cases e:Om (B5 r c vars)=true
  .rw[a6 e,a6 e];rfl
  rw [ae e,ae e];show gp (some (Sum.inl _)) _ _=_;rw[Br,Hb (a:=0) (s:=(x,AH.mk (d4.mk [] []) [])) (fun i=>(AH.mk x.d4 (((B5 r c vars).take i.toNat).foldl Cd x.fd),AH.mk (d4.mk [] []) [])) (fun i=>if OW t x (AA (B5 r c vars) i)=true then some (AH.mk (d4.mk [] []) [],(6:Int))else none) (by omega) rfl]
  .have:=cp (l:=B5 r c vars) (q:=OW t x) (v:=(AH.mk (d4.mk [] []) [],(6:Int)));rw[JW]at this;rw[this];by_cases j:(B5 r c vars).any (OW t x)=true
   .rw[a6 j,a6 j];rfl
   .rw[ae j,ae j];show some (AH.mk x.d4 (((B5 r c vars).take (r.fq.gn.length:Int).toNat).foldl Cd x.fd),(0:Int))=_
    grind [JW,Int.toNat_natCast,List.take_length]
  .intro i o u _;have D:=AM o u;have f:=h.slot _ D;have w:=h.kind _ (AM f.2.2.1.1 f.2.2.1.2);obtain⟨F,G⟩:=bP h D (V:=((B5 r c vars).take i.toNat).foldl Cd x.fd) (Zw _ _);simp only[AE o u,bs];rw[NX f.2.1.1 f.2.1.2,bs,AE f.1.1 f.1.2,bs,AE f.2.2.1.1 f.2.2.1.2,bs,RL h.hf,I8 h.hv w.1 w.2,bs];simp only[];rw[AE f.2.2.2.1 f.2.2.2.2,bs,bs,RJ,bs,F,bs,G,bs];rw[Nc r c vars o u,Bx o (by rw[JW];exact u),List.foldl_append,Nc r c vars o u];show(if(OW t x (Qo c vars (AA r.fq.gn i)))=true then _ else _)=_;by_cases j:OW t x (Qo c vars (AA r.fq.gn i))=true
   .rw[a6 j,a6 j];rfl
   .rw[ae j,ae j];have:=Zp (p:=Qo c vars (AA r.fq.gn i)) F G;exact congrArg (fun W=>some (Bv.next (σ:=AH×AH) (ρ:=AH×Int) (AH.mk x.d4 W,AH.mk (d4.mk [] []) []))) this
 .intro i o u _;have f:=h.slot _ (AM o u);rw[AE o u,bs,NX f.2.1.1 f.2.1.2,bs];rw[Hb (a:=0) (s:=AH.mk (d4.mk [] []) []) (fun _=>AH.mk (d4.mk [] []) []) (fun k=>if(decide ((AA (B5 r c vars) k).1=(AA (B5 r c vars) i).1)&&!decide ((AA (B5 r c vars) k).2=(AA (B5 r c vars) i).2))=true then some (AH.mk (d4.mk [] []) [],(11:Int))else none) o rfl]
  .rw[L7];unfold Va;split<;>rfl
  .intro k y I _;have w:=h.slot _ (AM y (show k<r.fq.gn.length by omega));simp only[AE o u,AE y (show k<r.fq.gn.length by omega),bs];rw[NX w.2.1.1 w.2.1.2,bs,AE w.1.1 w.1.2,bs,AE f.1.1 f.1.2,bs,Nc r c vars o u,Nc r c vars y (by omega)];simp only[Qo,Prod.mk.injEq];by_cases E:AA c.d3 (AA r.fq.gn k).t5=AA c.d3 (AA r.fq.gn i).t5<;>by_cases j:(AA r.fq.gn k).ns=(AA r.fq.gn i).ns<;>by_cases z:C5 (AA r.fq.gn i).kp vars=C5 (AA r.fq.gn k).kp vars
   all_goals first|(have H:¬C5 (AA r.fq.gn k).kp vars=C5 (AA r.fq.gn i).kp vars:=fun h=>z h.symm;simp[E,j,z,H,jC];done)|(simp[E,j,z,jC];done)
end Go.Sf.Sc
namespace Go.Sf.Sc
open Go Go.Sf
variable{t:AC}{r:f0}
theorem XI(h:Fw t r=0):HV t r.ne=0/\Jk t r=0/\MQ t r.ne r.d7=0:=by grind[Fw]
theorem cK(h:Jk t r=0):r.fq.hV=r.ne.hV/\r.fq.gn.length<=10/\∀i:Int,0<=i->i<r.fq.gn.length->N4 t r.fq i=0:=by
 unfold Jk at h;split at h
 .omega
 split at h
 .cases h
 split at h
 .cases h
 split at h
 .cases h
 rename_i f j o q;exact⟨by omega,by omega,WV h⟩
variable{i:Int}
theorem fO{p:ec}(h:N4 t p i=0):(0<=(AA p.gn i).t5/\(AA p.gn i).t5<p.d4.d3.length)/\
  (0<=(AA p.gn i).ns/\(AA p.gn i).ns<(GX t (AA p.d4.d3 (AA p.gn i).t5)).1.length)/\-1<=(AA p.gn i).kp.Var/\(AA p.gn i).kp.Var<p.hV:=by
 unfold N4 at h;dsimp only at h;split at h
 .cases h
 split at h
 .cases h
 rename_i j f;simp only[Bool.or_eq_true,zzX]at f;omega
structure IX(t:AC)(r:f0)(h:AH)(m:AO):Prop where
 hf:An t
 fr:Qt r
 re:Fw t r=0
 he:(Ia t h).2=0
 at_:V1 t r.ne h m
 co:ZO (Rv r.ne.d4 h.d4 m.d6) h.d4 r.x5 m.d6
abbrev dS(r:f0)(h:AH)(m:AO):BH:=Lo h.d4 r.x5 m.d6
abbrev cS(r:f0)(h:AH)(m:AO):d6:=w9 r h m.d6 (dS r h m)
variable{h:AH}{m:AO}
theorem IX.hv(s:IX t r h m):(A2 t).2=0:=(dU s.re).1
theorem IX.ro(s:IX t r h m):fu t r:=(dU s.re).2
theorem IX.hh(s:IX t r h m):If t h:=(US s.hf s.he).2
theorem Ru(hf:An t)(hv:(A2 t).2=0)(hh:If t h):Ii h:=by
 have o:=hh.g.ei;have q:=hh.g.ek;have u:=hh.len;refine⟨by omega,by omega,by omega,fun v f=>?_⟩;obtain⟨i,j,z,rfl⟩:=Be f;have w:=hh.row i j (by omega);have y:=Gd hf (Int.le_refl _) (DU hv).par (hh.kind i j (by omega)).2;omega
theorem IX.rem(s:IX t r h m):Y6 h (dS r h m):=by
 have hh:=s.hh;have j:=hh.g.ei;have o:=hh.g.ek;have l1:=Qn (Eh m.d6.d3 r.x5.d3) h.d4.d3.length;have l2:=Qn (Eh m.d6.d5 r.x5.d5) h.d4.d5.length;exact⟨Ru s.hf s.hv hh,hh.len,⟨fun x f=>H5 f,by show(BI _ _).length<=1000;omega⟩,⟨fun x f=>H5 f,by show(BI _ _).length<=1000;omega⟩,fun e he=>(hh.g.fit e he).2⟩
theorem IX.part(s:IX t r h m):Ej h.d4 (dS r h m)=0:=by
 unfold Ej;rw[ae (by simp[s.hh.ge])];exact ii s.co
variable{count n:Nat}
theorem gK{jj into images:Fp}{A9:Fp}(few:count<=1000)(nodup:into.Nodup)(len:into.length=jj.length)(inn:∀x∈into,0<=x/\x<count)
  (kin:∀x∈jj,0<=x/\x<images.length)(j:∀x∈images,0<=x/\x<n)(hi:AaI images jj=false)(o:A9=Eh images jj):
  UN count jj into (images.map (AA (HL n (BI A9 n))))/\(∀x∈jj,AA (images.map (AA (HL n (BI A9 n)))) x<(BI A9 n).length)/\
  ∀x∈jj,AA (images.map (AA (HL n (BI A9 n)))) x=DC (BI A9 n) (AA images x)/\AA images x∈BI A9 n:=by
 have e:∀x∈jj,AA (images.map (AA (HL n (BI A9 n)))) x=DC (BI A9 n) (AA images x)/\AA images x∈BI A9 n:=fun x f=>by
  grind [AM,N9,Vu,Oz,TG]
 refine ⟨⟨few,nodup,len,inn,fun x f=>by rw[ca];exact kin x f,fun x f=>?_⟩,fun x f=>?_,e⟩
 .rw[(e x f).1];exact Ma.2 (e x f).2
 .rw[(e x f).1];exact(PB _ _).2
theorem IX.left(s:IX t r h m):m.d6.d3.length=r.ne.d4.d3.length/\m.d6.d5.length=r.ne.d4.d5.length:=⟨s.at_.m.AaF,s.at_.m.AaP⟩
theorem IX.AbY(s:IX t r h m):UN r.fq.d4.d3.length r.x5.d3 r.tl.d3 (m.d6.d3.map (AA (HM h (dS r h m)).d3))/\
  (∀x∈r.x5.d3,AA (m.d6.d3.map (AA (HM h (dS r h m)).d3)) x<(dS r h m).d3.length)/\
  ∀x∈r.x5.d3,AA (m.d6.d3.map (AA (HM h (dS r h m)).d3)) x=DC (dS r h m).d3 (AA m.d6.d3 x)/\AA m.d6.d3 x∈(dS r h m).d3:=by
 have ro:=s.ro;have q:=ro.right.ei;refine gK (by omega) ro.inj.1 ?_ (fun x f=>?_) (fun x f=>?_) (fun x f=>?_) s.co.ei rfl
 .have:=ro.mor.AaF;rw[this];exact ca ..
 .obtain⟨i,j,o,rfl⟩:=Be f;exact(ro.mor.node i j o).1
 .have:=ro.part.ei.1 x f;have:=s.left.1;omega
 .obtain⟨i,j,o,rfl⟩:=Be f;exact(s.at_.m.node i j o).1
theorem IX.Ab5(s:IX t r h m):UN r.fq.d4.d5.length r.x5.d5 r.tl.d5 (m.d6.d5.map (AA (HM h (dS r h m)).d5))/\
  (∀x∈r.x5.d5,AA (m.d6.d5.map (AA (HM h (dS r h m)).d5)) x<(dS r h m).d5.length)/\
  ∀x∈r.x5.d5,AA (m.d6.d5.map (AA (HM h (dS r h m)).d5)) x=DC (dS r h m).d5 (AA m.d6.d5 x)/\AA m.d6.d5 x∈(dS r h m).d5:=by
 have ro:=s.ro;have q:=ro.right.ek;refine gK (by omega) ro.inj.2 ?_ (fun x f=>?_) (fun x f=>?_) (fun x f=>?_) s.co.ek rfl
 .have:=ro.mor.AaP;rw[this];exact ca ..
 .obtain⟨i,j,o,rfl⟩:=Be f;exact(ro.mor.edge i j o).1
 .have:=ro.part.ek.1 x f;have:=s.left.2;omega
 .obtain⟨i,j,o,rfl⟩:=Be f;exact s.at_.m.edge i j o
theorem cb{jj into at_:Fp}(h:UN count jj into at_)(f:∀x∈jj,AA at_ x<n)(j:0<=i)(o:i<count):AA (S1 count jj into at_ n) i=n+(BI into i).length↔i∉into:=by
 rw [gJ j o];constructor
 .intro e hi;rw[RB hi]at e;have q:=Iq hi;have:=f _ (AM (l:=jj) q.1 (by have:=h.len;omega));omega
 .exact Rd
theorem IX.grow(s:IX t r h m):V4 t r (cS r h m):=
 ⟨s.hf,s.hv,s.ro.right,(IV s.ro.right s.ro.AbP).1,XW _ _ _ _ _⟩
theorem VL(l:Fp)(f:0<=i):∀(k:Nat),∃s,BI l (i+k)=BI l i++s
 |0=>⟨[],by simp⟩|k+1=>by
  obtain ⟨s,e⟩:=VL l f k
  grind [M0,ci]
variable{l:Fp}
theorem kj{i n:Int}(f:0<=i)(j:i<n)(h:i∉l):AA (BI l n) (BI l i).length=i/\((BI l i).length:Int)<(BI l n).length:=by
 obtain ⟨s,e⟩:=VL l (i:=i+1) (by omega) (n-(i+1)).toNat
 rw [show i+1+((n-(i+1)).toNat:Int)=n by omega,M0 l f]at e
 grind [hasB,CR,AA]
variable{α:Type}
theorem qC[Inhabited α]{l m:List α}(f:0<=i)(j:i<l.length):AA (l++m) i=AA l i:=by grind[L4]
theorem qE[Inhabited α]{l m:List α}:AA (l++m) (l.length+n:Int)=AA m n:=by grind[L4,AA,Int.toNat_natCast]
theorem IX.kindAt(s:IX t r h m)(y:0<=i)(z:i<r.fq.d4.d3.length):
  (0<=AA (cS r h m).d3 i/\AA (cS r h m).d3 i<(Ce t r (B4 h (dS r h m)) (cS r h m)).d4.d3.length)/\
  (A4 t (AA r.fq.d4.d3 i)).length<=(A4 t (AA (Ce t r (B4 h (dS r h m)) (cS r h m)).d4.d3 (AA (cS r h m).d3 i))).length:=by
 obtain ⟨G,N,O⟩:=s.AbY;have H:AA (cS r h m).d3 i=PS r.x5.d3 r.tl.d3 (m.d6.d3.map (AA (HM h (dS r h m)).d3)) (dS r h m).d3.length i:=gJ y z;have el:(Ce t r (B4 h (dS r h m)) (cS r h m)).d4.d3=(dS r h m).d3.map (AA h.d4.d3)++(IH r).map (AA r.fq.d4.d3):=rfl;rw[H,el,bk,ca,ca];by_cases hi:i∈r.tl.d3
 .have f:=Iq hi;have P:=G.len;have o:=AM (l:=r.x5.d3) f.1 (by omega);have D:=O _ o;have E:=N _ o;have u:=G.pos _ o;rw[RB hi];refine⟨⟨u,by push_cast;omega⟩,?_⟩;rw[qC u (by rw[ca];exact E),N9 u E,D.1,(Iq D.2).2.2.1];have q:=s.ro.part.ei.1 _ o;have I:=s.left.1;have w:=s.at_.m.node _ q.1 (by omega);have J:=s.hh.kind _ w.1.1 w.1.2;have F:=s.ro.mor.node _ f.1 f.2.1;rw[f.2.2.1]at F;have K:AA (Mm r.ne.d4 r.x5).d3 (DC r.tl.d3 i)=AA r.ne.d4.d3 (AA r.x5.d3 (DC r.tl.d3 i)):=N9 f.1 (by omega);rw[F.2,K];exact YN (DU s.hv) J.2 w.2
 .have q:=kj y z hi;rw[Rd hi];have j:((dS r h m).d3.map (AA h.d4.d3)).length=(dS r h m).d3.length:=ca ..;refine⟨⟨by omega,?_⟩,?_⟩
  .have:((IH r).length:Int)=(BI r.tl.d3 r.fq.d4.d3.length).length:=rfl
   push_cast
   omega
  .rw[<-j,qE,show IH r=BI r.tl.d3 r.fq.d4.d3.length from rfl,N9 (by omega) q.2];show _<=(A4 t (AA r.fq.d4.d3 (AA (BI r.tl.d3 r.fq.d4.d3.length) (BI r.tl.d3 i).length))).length;rw[q.1];exact az _
theorem IX.rows(s:IX t r h m):(Ce t r (B4 h (dS r h m)) (cS r h m)).fd.map (fun v=>v.length)=(Ce t r (B4 h (dS r h m)) (cS r h m)).d4.d3.map fun n=>(A4 t n).length:=by
 show (List.map _ (_++_))=List.map _ (_++_);rw[List.map_append,List.map_append];congr 1
 .show((dS r h m).d3.map (AA h.fd)).map _=((dS r h m).d3.map (AA h.d4.d3)).map _;rw[List.map_map,List.map_map];refine List.map_congr_left fun x f=>?_;have f:=s.rem.ei.1 x f;exact s.hh.row x f.1 f.2
 grind [List.map_map,List.map_congr_left,kG,ca]
theorem IX.put(s:IX t r h m):UP t r (cS r h m) m.hV (Ce t r (B4 h (dS r h m)) (cS r h m)):=by
 obtain ⟨O,H,P⟩:=XI s.re;obtain⟨hv,Q,D⟩:=cK H;have J:=s.at_.q.vars;have E:=s.at_.len;have y:=s.rows;have z:(Ce t r (B4 h (dS r h m)) (cS r h m)).fd.length=(Ce t r (B4 h (dS r h m)) (cS r h m)).d4.d3.length:=by
  grind [List.length,ca]
 refine ⟨s.hf,s.hv,by omega,by omega,fun x f=>?_,fun n j=>?_,z,fun i o w=>?_⟩
 .obtain⟨i,o,w,rfl⟩:=Be f;obtain⟨u,I,S⟩:=fO (D i o w);have F:=(IV s.ro.right s.ro.AbP).1 _ (AM u.1 u.2);rw[I8 s.hv F.1 F.2]at I;obtain⟨U,V⟩:=s.kindAt u.1 u.2;have G:(cS r h m).d3.length=r.fq.d4.d3.length:=XW _ _ _ _ _
  grind
 .have j:n∈(dS r h m).d3.map (AA h.d4.d3)++(IH r).map (AA r.fq.d4.d3):=j;rcases List.mem_append.1 j with j|j
  .obtain⟨x,f,rfl⟩:=List.mem_map.1 j;have f:=s.rem.ei.1 x f;exact s.hh.kind x f.1 f.2
  .obtain⟨x,f,rfl⟩:=List.mem_map.1 j;have f:=H5 f;exact(IV s.ro.right s.ro.AbP).1 _ (AM f.1 f.2)
 .have K:=N9 (l:=(Ce t r (B4 h (dS r h m)) (cS r h m)).fd) (g:=fun v=>v.length) o (by omega);have N:=N9 (l:=(Ce t r (B4 h (dS r h m)) (cS r h m)).d4.d3) (g:=fun n=>(A4 t n).length) o w
  grind
end Go.Sf.Sc
namespace Go.Sf.Sc
open Go Go.Sf
abbrev wZ:f0:=f0.mk (⟨#[]⟩:ByteArray) (ec.mk (d4.mk [] []) [] 0 []) (ec.mk (d4.mk [] []) [] 0 []) (BH.mk [] []) (d6.mk [] []) false (d7.mk 0 [] (d6.mk [] []) (ec.mk (d4.mk [] []) [] 0 []))
abbrev zG:Ax:=Ax.mk wZ (AO.mk (d6.mk [] []) []) (AH.mk (d4.mk [] []) []) (AH.mk (d4.mk [] []) []) (d6.mk [] []) (d6.mk [] [])
def Y8(t:AC)(r:f0)(h:AH)(m:AO):Ax×Int:=
 if (IJ t (Ce t r (B4 h (dS r h m)) (cS r h m)) (B5 r (cS r h m) m.hV)).2≠0 then(zG,(IJ t (Ce t r (B4 h (dS r h m)) (cS r h m)) (B5 r (cS r h m) m.hV)).2)else
 if 40<(IJ t (Ce t r (B4 h (dS r h m)) (cS r h m)) (B5 r (cS r h m) m.hV)).1.d4.d3.length\/80<(IJ t (Ce t r (B4 h (dS r h m)) (cS r h m)) (B5 r (cS r h m) m.hV)).1.d4.d5.length then(zG,3)else
 (Ax.mk r m h (IJ t (Ce t r (B4 h (dS r h m)) (cS r h m)) (B5 r (cS r h m) m.hV)).1 (HM h (dS r h m)) (cS r h m),0)
noncomputable def N8(t:AC)(r:f0)(h:AH)(m:AO):Ax×Int:=
 if Fw t r≠0 then(zG,Fw t r)else if(Ia t h).2≠0 then(zG,(Ia t h).2)else
 if GT t r.ne.d4 h.d4 m.d6 r.sr≠0 then(zG,1)else
 if (FX t r.ne h m.d6).2≠0 then(zG,(FX t r.ne h m.d6).2)else if¬(FX t r.ne h m.d6).1=m.hV then(zG,11)else
 if (MP (Rv r.ne.d4 h.d4 m.d6) h.d4 r.x5 m.d6).2≠0 then(zG,(MP (Rv r.ne.d4 h.d4 m.d6) h.d4 r.x5 m.d6).2)else
 if (Lx t r.ne r.d7 h m r.sr).2≠0 then(zG,(Lx t r.ne r.d7 h m r.sr).2)else
 if (Lx t r.ne r.d7 h m r.sr).1=false then(zG,16)else Y8 t r h m
variable{t:AC}{r:f0}{h:AH}{m:AO}
theorem XU(f:Fw t r=0)(j:(Ia t h).2=0)(o:GT t r.ne.d4 h.d4 m.d6 r.sr=0)(q:(FX t r.ne h m.d6).2=0)(u:(FX t r.ne h m.d6).1=m.hV):Sw t r.ne r.d7 h m r.sr=0:=by
 unfold Sw;rw[ae (by simp[(XI f).2.2]),ae (by simp[j]),ae (by simp[o]),ae (by simp[q]),a6 u]
theorem ct{X:Option (Ax×Int)}(f:(IJ t (Ce t r (B4 h (dS r h m)) (cS r h m)) (B5 r (cS r h m) m.hV)).2=0->X=
   if ((decide (40<((IJ t (Ce t r (B4 h (dS r h m)) (cS r h m)) (B5 r (cS r h m) m.hV)).1.d4.d3.length:Int)))||(decide (80<((IJ t (Ce t r (B4 h (dS r h m)) (cS r h m)) (B5 r (cS r h m) m.hV)).1.d4.d5.length:Int))))=true then some (zG,3)else
   some (Ax.mk r m h (IJ t (Ce t r (B4 h (dS r h m)) (cS r h m)) (B5 r (cS r h m) m.hV)).1 (HM h (dS r h m)) (cS r h m),0)):
  (if(!decide ((IJ t (Ce t r (B4 h (dS r h m)) (cS r h m)) (B5 r (cS r h m) m.hV)).2=0))=true then some (zG,(IJ t (Ce t r (B4 h (dS r h m)) (cS r h m)) (B5 r (cS r h m) m.hV)).2)else X)=some (Y8 t r h m):=by
 unfold Y8;refine Cg fun j=>?_;rw[f j];refine F1 (by simp;omega) fun _=>rfl
theorem rE(hf:An t)(fr:Qt r)(G:Eo r.d7<=40)(h:AH)(m:AO):H8 t r h m=some (N8 t r h m):=by
 unfold H8 JY N8;rw[NV hf,bs];by_cases hv:¬(A2 t).2=0
 .grind[Fw,A2]
 have hv:=Classical.not_not.1 hv;rw[ae (by simp[hv]),iD hf fr,bs,Wq hf,bs];by_cases o:¬Fw t r=0
 .grind
 have o:=Classical.not_not.1 o;rw[ae (by simp[o]),bs,ae (show¬Fw t r≠0 by simp[o])];refine Cg fun H=>?_;rw[Option.bind_fun_some];unfold JX HK;rw[Xi hf,bs];by_cases u:¬GT t r.ne.d4 h.d4 m.d6 r.sr=0
 .grind
 have u:=Classical.not_not.1 u;rw[ae (by simp[u]),dB hf,bs,ae (show¬GT t r.ne.d4 h.d4 m.d6 r.sr≠0 by simp[u])];by_cases y:¬(FX t r.ne h m.d6).2=0
 .grind
 have y:=Classical.not_not.1 y;rw[ae (by simp[y]),mX,bs,ae (show¬(FX t r.ne h m.d6).2≠0 by simp[y])];by_cases z:¬(FX t r.ne h m.d6).1=m.hV
 .grind
 have z:=Classical.not_not.1 z;rw[ae (by simp[z]),bs,ae (by simp),ae (show¬¬(FX t r.ne h m.d6).1=m.hV by simp[z])];rw[qy hf u,bs,ae (by simp),qr fr.jj,bs];refine Cg fun I=>?_;obtain⟨_,_,_,D⟩:=WI hf G (XU o H u y z);obtain⟨co,S⟩:=XX I;rw[cD hf _ fr.cond G,bs,S];refine Cg fun U=>?_;refine WJ fun V=>?_;have s:IX t r h m:=⟨hf,fr,o,H,D,co⟩;have w:=s.rem;have W:=s.hh.g.ei;have X:=s.hh.g.ek;have l1:=s.left.1;have l2:=s.left.2;have Y:=s.ro.left.ei;have Z:=s.ro.left.ek;have K:=D.len;have N:=D.q.vars;have F:I5 m=some m:=by
  unfold I5 slices_Clone_int;rw[A1 (by unfold Ah;omega),bs,A1 (by unfold Ah;omega),bs,A1 (by unfold Ah;omega),bs]
 simp only[];rw[F,bs,ez w.sm,bs];rw[dK (by omega) w.ei.2 (MD _ _),bs,dK (by omega) w.ek.2 (MD _ _),bs];have O:GB r.fq.d4.d3.length r.x5.d3 r.tl.d3 m.d6.d3 (HL h.d4.d3.length (dS r h m).d3) (Lo h.d4 r.x5 m.d6).d3.length=some (cS r h m).d3:=
  YT s.AbY.1 (fun x E=>by rw[JI];obtain⟨i,f,j,rfl⟩:=Be E;exact(D.m.node i f j).1) (by omega) (Int.ofNat_le.2 w.ei.2)
 have P:GB r.fq.d4.d5.length r.x5.d5 r.tl.d5 m.d6.d5 (HL h.d4.d5.length (dS r h m).d5) (Lo h.d4 r.x5 m.d6).d5.length=some (cS r h m).d5:=
  YT s.Ab5.1 (fun x E=>by rw[JI];obtain⟨i,f,j,rfl⟩:=Be E;exact D.m.edge i f j) (by omega) (Int.ofNat_le.2 w.ek.2)
 rw [O,bs,P,bs];have Q:=n8 (M:=m) s.grow w (XW _ _ _ _ _) (fun i f j=>cb s.AbY.1 s.AbY.2.1 f j) (fun i f j=>cb s.Ab5.1 s.Ab5.2.1 f j);change ((Gk t (Ax.mk r m h (AH.mk (d4.mk [] []) []) (HM h (dS r h m)) (cS r h m)) (dS r h m)).bind _)=_;rw[Q,bs,qv s.put,bs];exact ct fun J=>by rw[a6 J]
variable{inj:Bool}
theorem iO(hf:An t){p:ec}{c:d7}(f:Eo c<=40)(j:Sw t p c h m inj=0):LQ t c h m inj=some (Lx t p c h m inj):=by
 obtain ⟨hv,hh,o,q⟩:=WI hf f j
 grind [LQ,Lx,wS,Cm,pH,gm,kZ]
theorem ra(hf:An t)(fr:Qt r)(I:Eo r.d7<=40)(h:AH)(m:AO):LX t r h m=some (N8 t r h m):=by
 unfold LX Ny N8;rw[iY hf fr,bs,Wz hf,bs];by_cases f:¬Fw t r=0
 .rw[a6 (by simp[f]),bs,a6 (by simp[f]),a6 f]
 have f:=Classical.not_not.1 f;rw[ae (by simp[f]),bs,ae (show¬Fw t r≠0 by simp[f])];refine Cg fun D=>?_;unfold Kx;rw[Xo hf,bs];by_cases j:¬GT t r.ne.d4 h.d4 m.d6 r.sr=0
 .rw[a6 (by simp[j]),bs,a6 (by simp),a6 j]
 have j:=Classical.not_not.1 j;rw[ae (by simp[j]),oM hf,bs,ae (show¬GT t r.ne.d4 h.d4 m.d6 r.sr≠0 by simp[j])];by_cases o:¬(FX t r.ne h m.d6).2=0
 .rw[a6 (by simp[o]),bs,a6 (by simp[o]),a6 o]
 have o:=Classical.not_not.1 o;rw[ae (by simp[o]),dM,bs,ae (show¬(FX t r.ne h m.d6).2≠0 by simp[o])];by_cases w:¬(FX t r.ne h m.d6).1=m.hV
 .rw[a6 (by simp[w]),bs,a6 (by simp),a6 w]
 have w:=Classical.not_not.1 w;rw[ae (by simp[w]),ae (show¬¬(FX t r.ne h m.d6).1=m.hV by simp[w])];rw[rT hf j,bs,ae (by simp),rM fr.jj,bs];by_cases q:¬(MP (Rv r.ne.d4 h.d4 m.d6) h.d4 r.x5 m.d6).2=0
 .rw[a6 (by simp[q]),bs,a6 (by simp[q]),a6 q]
 have q:=Classical.not_not.1 q;rw[ae (by simp[q]),ae (show¬(MP (Rv r.ne.d4 h.d4 m.d6) h.d4 r.x5 m.d6).2≠0 by simp[q])];have z:=XU f D j o w;obtain⟨_,_,_,F⟩:=WI hf I z;obtain⟨co,N⟩:=XX q;rw[iO hf I z,bs,N,II,bs,bs];by_cases u:¬(Lx t r.ne r.d7 h m r.sr).2=0
 .rw[ae (show¬((decide ((Lx t r.ne r.d7 h m r.sr).2=0)&&!(Lx t r.ne r.d7 h m r.sr).1)=true)by simp[u]),a6 (by simp[u]),a6 u]
 have u:=Classical.not_not.1 u;rw[ae (show¬(Lx t r.ne r.d7 h m r.sr).2≠0 by simp[u])];cases P:(Lx t r.ne r.d7 h m r.sr).1 with
 |false=>rw[a6 (show(decide ((Lx t r.ne r.d7 h m r.sr).2=0)&&!false)=true by simp[u]),a6 (by simp),a6 rfl]|true=>
 rw [ae (show¬(decide ((Lx t r.ne r.d7 h m r.sr).2=0)&&!true)=true by simp),ae (by simp[u]),ae (by simp)];have s:IX t r h m:=⟨hf,fr,f,D,F,co⟩;have y:=s.rem;have Q:=s.hh.g.ei;have S:=s.hh.g.ek;have l1:=s.left.1;have l2:=s.left.2;have U:=s.ro.left.ei;have V:=s.ro.left.ek;unfold Ll Kd;simp only[];rw[cG hf D s.part y,bs,aX (by omega) y.ei.2 ((MD _ _).imp fun h=>by omega),bs,bs,aX (by omega) y.ek.2 ((MD _ _).imp fun h=>by omega),bs,bs,bs];simp only[];rw[Wy (by omega) (fun x E=>by rw[JI];obtain⟨i,G,H,rfl⟩:=Be E;exact(F.m.node i G H).1),bs];rw[Wy (by omega) (fun x E=>by rw[JI];obtain⟨i,G,H,rfl⟩:=Be E;exact F.m.edge i G H),bs];have J:FV r.x5.d3 r.tl.d3 r.fq.d4.d3.length (m.d6.d3.map (AA (HL h.d4.d3.length (dS r h m).d3))) (Lo h.d4 r.x5 m.d6).d3.length=some (cS r h m).d3:=
  Yb s.AbY.1 (by omega) (Int.ofNat_le.2 y.ei.2)
 have K:FV r.x5.d5 r.tl.d5 r.fq.d4.d5.length (m.d6.d5.map (AA (HL h.d4.d5.length (dS r h m).d5))) (Lo h.d4 r.x5 m.d6).d5.length=some (cS r h m).d5:=
  Yb s.Ab5.1 (by omega) (Int.ofNat_le.2 y.ek.2)
 rw [J,bs,K,bs];rw[TX (Yi y),bs];change ((Kw t r (B4 h (dS r h m)) (cS r h m)).bind _)=_;rw[rR s.grow (Yi y),bs];change ((MC t r (Ce t r (B4 h (dS r h m)) (cS r h m)) (cS r h m) m.hV).bind _)=_;rw[vH s.put,bs];exact ct fun O=>rfl
end Go.Sf.Sc
namespace Go.Sf.Sc
open Go Go.Sf
instance:Inhabited f0:=⟨wZ⟩
instance:Inhabited tg:=⟨⟨0,⟨⟨[],[]⟩,[]⟩⟩⟩
instance:Inhabited Ax:=⟨zG⟩
structure ET(rules:List f0):Prop where
 len:rules.length<=12
 each:∀r∈rules,Qt r/\Eo r.d7<=40
noncomputable def Gf(t:AC)(rules:List f0)(h:AH)(m:tg):Ax×Int:=if m.f0<0\/rules.length<=m.f0 then(zG,6)else N8 t (AA rules m.f0) h m.o3
variable{t:AC}{rules:List f0}
theorem hU(hf:An t)(f:ET rules)(h:AH)(m:tg):DL t rules h m=some (Gf t rules h m):=by
 unfold DL Gf;refine F1 (by simp) fun e=>?_;have j:=f.each _ (AM (l:=rules) (i:=m.f0) (by omega) (by omega))
 grind [AE,rE]
theorem iT(hf:An t)(f:ET rules)(h:AH)(m:tg):Ky t rules h m=some (Gf t rules h m):=by
 unfold Ky Gf;refine F1 (by simp) fun e=>?_;have j:=f.each _ (AM (l:=rules) (i:=m.f0) (by omega) (by omega))
 grind [AE,ra]
noncomputable def RN(t:AC)(rules:List f0):Int:=
 if (A2 t).2≠0 then(A2 t).2 else if 10<rules.length then 3 else(fst (fun i=>nz (Fw t (AA rules i))) 0 rules.length).getD 0
noncomputable def Oo(t:AC)(rules:List f0)(h:AH):Int:=if RN t rules≠0 then RN t rules else(Ia t h).2
variable{e v:Int}
theorem gq(h:nz e=some v):v≠0:=by grind[nz]
variable{a b:Int}
theorem nZ{c:Int->Int}(h:fst (fun i=>nz (c i)) a b=some v):v≠0:=by grind[Cz,gq]
theorem iZ(hf:An t)(o:ET rules):La t rules=some (RN t rules):=by
 unfold La RN;rw[PF hf,bs];refine DV fun q=>F1 (by simp;try omega) fun u=>?_;rw[BX (fun i=>nz (Fw t (AA rules i))),CN];intro i f j _;rw[AE f j,bs,iY hf (o.each _ (AM f j)).1,bs,LF]
theorem ac(hf:An t)(f:ET rules)(h:AH):Jy t rules h=some (Oo t rules h):=by
 unfold Jy Oo;rw[iZ hf f,bs,Wz hf,bs];exact DV fun _=>rfl
theorem kQ(hf:An t)(q:ET rules)(h:AH):Dt t rules h=some (Oo t rules h):=by
 unfold Dt Oo RN;rw[NV hf,bs];by_cases f:¬(A2 t).2=0
 .grind
 have f:=Classical.not_not.1 f;rw[ae (by simp[f]),ae (show¬(A2 t).2≠0 by simp[f])];by_cases u:10<rules.length
 .grind
 rw [ae (by simp;omega),ae u,BX (fun i=>nz (Fw t (AA rules i))),D0]
 .cases e:fst (fun i=>nz (Fw t (AA rules i))) 0 (rules.length:Int)with
  |none=>
   grind [Wq]
  |some v=>
   have:=nZ e
   grind
 .intro i j o _;rw[AE j o,bs,iD hf (q.each _ (AM j o)).1,bs,LF]
noncomputable def Gb(t:AC)(rules:List f0)(h0:AH)(ms:List tg):List Ax×AH:=
 ms.foldl (fun s m=>(s.1++[(Gf t rules s.2 m).1],(Gf t rules s.2 m).1.wi)) ([],h0)
noncomputable def OA(t:AC)(rules:List f0)(h0:AH)(ms:List tg)(i:Int):Int:=(Gf t rules (Gb t rules h0 (ms.take i.toNat)).2 (AA ms i)).2
theorem Pm(t:AC)(rules:List f0)(f:AH)(j:List tg)(m:tg):Gb t rules f (j++[m])=((Gb t rules f j).1++[(Gf t rules (Gb t rules f j).2 m).1],(Gf t rules (Gb t rules f j).2 m).1.wi):=by
 unfold Gb
 grind
theorem PI(t:AC)(rules:List f0)(j:AH)(f:List tg):(Gb t rules j f).1.length=f.length:=by
 refine Vt (P:=fun f=>(Gb t rules j f).1.length=f.length) rfl (fun f m o=>?_) f
 grind [Pm,bk]
variable{α:Type}{i:Int}
theorem O8[Inhabited α]{l m:List α}(f:0<=i)(j:i<l.length):AA (l++m) i=AA l i:=by grind[L4]
theorem WA[Inhabited α](l:List α)(a:α):AA (l++[a]) l.length=a:=by
 rw [L4,ae (by simp),Int.toNat_natCast,Nat.sub_self];rfl
theorem sI(t:AC)(rules:List f0)(j:AH)(f:List tg):∀i:Int,0<=i->i<f.length->AA (Gb t rules j f).1 i=(Gf t rules (Gb t rules j (f.take i.toNat)).2 (AA f i)).1:=by
 refine Vt (P:=fun f=>∀i:Int,0<=i->i<f.length->AA (Gb t rules j f).1 i=(Gf t rules (Gb t rules j (f.take i.toNat)).2 (AA f i)).1) (fun i q o=>by simp at o;omega) (fun f m u i q o=>?_) f;rw[Pm];have w:=PI t rules j f;rw[bk,List.length_singleton]at o
 grind [O8,WA,Int.toNat_natCast,List.take_left']
theorem Zj{f:AH}{a b:List tg}(j:0<=i)(o:i<a.length):OA t rules f (a++b) i=OA t rules f a i:=by grind[OA,O8]
noncomputable def Na(t:AC)(rules:List f0)(d:AR):List Ax×Int×Int:=
 if Oo t rules d.kg≠0 then([],0,Oo t rules d.kg)else if 30<d.j4.length then([],0,3)else
 match fst (fun i=>(nz (OA t rules d.kg d.j4 i)).map fun e=>([],i,e)) 0 d.j4.length with
 |some r=>r|none=>((Gb t rules d.kg d.j4).1,(d.j4.length:Int),0)
variable{d:AR}
theorem bL(hd:d.j4.length<=1000){f:AH->tg->Option (Ax×Int)}(hf:∀h m,f h m=some (Gf t rules h m)):
  gp (kq (ρ:=(List Ax×Int×Int)) (fun(o:Int)(q:List Ax×AH)=>
  (idx d.j4 o).bind fun u=>
  (f q.2 u).bind fun j=>
  if (!decide (j.2=0))=true then
  some (.ret ([],o,j.2))
  else
  (Ak q.1 [j.1]).bind fun w=>
  some (.next (w,j.1.wi))) 0 (d.j4.length:Int) ([],d.kg)) (fun q=>
  some (q.1,(q.1.length:Int),(0:Int))) (fun z=>some z)=some (match fst (fun i=>(nz (OA t rules d.kg d.j4 i)).map fun e=>([],i,e)) 0 d.j4.length with
   |some r=>r|none=>((Gb t rules d.kg d.j4).1,(d.j4.length:Int),0)):=by
 rw [Hb (a:=0) (s:=(([],d.kg):List Ax×AH)) (fun i=>Gb t rules d.kg (d.j4.take i.toNat)) (fun i=>(nz (OA t rules d.kg d.j4 i)).map fun e=>([],i,e)) (by omega) rfl]
 .cases fst (fun i=>(nz (OA t rules d.kg d.j4 i)).map fun e=>(([],i,e):List Ax×Int×Int)) 0 (d.j4.length:Int)with
  |some r=>rfl|none=>
   show some _=some _;rw[Int.toNat_natCast,List.take_length,PI]
 .intro i o y _;have D:=PI t rules d.kg (d.j4.take i.toNat);rw[AE o y,bs,hf,bs];show(if(!decide (OA t rules d.kg d.j4 i=0))=true then _ else _)=_;by_cases e:OA t rules d.kg d.j4 i=0
  .rw[ae (by simp[e]),Ai (by rw[D,cE];simp;unfold Ah;omega),bs,Bx o y,Pm,Iu.2 e];rfl
  .rw[a6 (by simp[e])];unfold nz;rw[ae e];rfl
theorem aR(hf:An t)(f:ET rules)(d:AR):C9 t rules d=some (Na t rules d):=by
 unfold C9 Na;rw[kQ hf f,bs];refine Cg fun j=>F1 (by simp;try omega) fun o=>?_;exact bL (by omega) (hU hf f)
theorem aj(hf:An t)(f:ET rules)(d:AR):I4 t rules d=some (Na t rules d):=by
 unfold I4 Na;rw[ac hf f,bs];refine Cg fun j=>F1 (by simp;try omega) fun o=>?_;exact bL (by omega) (iT hf f)
structure Lf(t:AC)(rules:List f0)(d:AR):Prop where
 given:Oo t rules d.kg=0
 few:d.j4.length<=30
 moves:∀i:Int,0<=i->i<d.j4.length->OA t rules d.kg d.j4 i=0
theorem Pk:(Na t rules d).2.2=0↔Lf t rules d:=by
 unfold Na;constructor
 .intro h;split at h
  .grind
  rename_i f;split at h
  .cases h
  rename_i j;split at h
  .grind[Cz,nz,OA,gq]
  .rename_i e;rw[Bz]at e;refine⟨Classical.not_not.1 f,by omega,fun i o q=>?_⟩
   grind [KP,Iu]
 .rintro⟨f,j,u⟩
  grind [Bz,Iu]
theorem ib(h:Lf t rules d):Na t rules d=((Gb t rules d.kg d.j4).1,(d.j4.length:Int),0):=by
 unfold Na;rw[ae (by simp[h.given]),ae (by have:=h.few;omega),Bz.2 fun i f j=>by rw[Iu.2 (h.moves i f j)];rfl]
structure dy(h:AH)(s:Ax):Prop where
 AaF:s.Aam.d3.length=h.d4.d3.length
 AaP:s.Aam.d5.length=h.d4.d5.length
 node:∀x∈s.Aam.d3,-1<=x/\x<s.wi.d4.d3.length
 edge:∀x∈s.Aam.d5,-1<=x/\x<s.wi.d4.d5.length
 sm:Ii s.wi
variable{x:AH}{L:BM}
theorem rJ(h:(IJ t x L).2=0):IJ t x L=(⟨x.d4,L.foldl Cd x.fd⟩,0)/\L.any (OW t x)=false:=by
 unfold IJ at h|-
 grind
structure Q6(t:AC)(r:f0)(h:AH)(m:AO):Prop where
 f:IX t r h m
 sat:Lx t r.ne r.d7 h m r.sr=(true,0)
 solve:FX t r.ne h m.d6=(m.hV,0)
 chk:GT t r.ne.d4 h.d4 m.d6 r.sr=0
 put:(IJ t (Ce t r (B4 h (dS r h m)) (cS r h m)) (B5 r (cS r h m) m.hV)).2=0
 few:(Ce t r (B4 h (dS r h m)) (cS r h m)).d4.d3.length<=40/\(Ce t r (B4 h (dS r h m)) (cS r h m)).d4.d5.length<=80
def Si(t:AC)(r:f0)(h:AH)(m:AO):AH:=⟨(Ce t r (B4 h (dS r h m)) (cS r h m)).d4,(B5 r (cS r h m) m.hV).foldl Cd (Ce t r (B4 h (dS r h m)) (cS r h m)).fd⟩
def XM(t:AC)(r:f0)(h:AH)(m:AO):Ax:=Ax.mk r m h (Si t r h m) (HM h (dS r h m)) (cS r h m)
variable{r:f0}{h:AH}{m:AO}
theorem jo(hf:An t)(fr:Qt r)(G:Eo r.d7<=40)(e:(N8 t r h m).2=0):Q6 t r h m/\N8 t r h m=(XM t r h m,0):=by
 unfold N8 at e|-;split at e
 .rename_i j;exact absurd e j
 rename_i j;rw[ae j];split at e
 .rename_i o;exact absurd e o
 rename_i o;rw[ae o];split at e
 .cases e
 rename_i z;rw[ae z];split at e
 .rename_i q;exact absurd e q
 rename_i q;rw[ae q];split at e
 .cases e
 rename_i D;rw[ae D];split at e
 .rename_i w;exact absurd e w
 rename_i w;rw[ae w];split at e
 .rename_i y;exact absurd e y
 rename_i y;rw[ae y];split at e
 .cases e
 rename_i E;rw[ae E];have j:=Classical.not_not.1 j;have o:=Classical.not_not.1 o;have z:=Classical.not_not.1 z;have q:=Classical.not_not.1 q;have D:=Classical.not_not.1 D;have w:=Classical.not_not.1 w;have y:=Classical.not_not.1 y;obtain⟨_,_,_,H⟩:=WI hf G (XU j o z q D);have s:IX t r h m:=⟨hf,fr,j,o,H,(XX w).1⟩;unfold Y8 at e|-;split at e
 .rename_i u;exact absurd e u
 rename_i u;rw[ae u];have u:=Classical.not_not.1 u;obtain⟨F,I⟩:=rJ u;split at e
 .cases e
 rename_i f;rw[ae f];rw[F]at f;refine⟨⟨s,?_,?_,z,u,?_⟩,?_⟩
 .exact Prod.ext (by simpa using E) y
 .exact Prod.ext D q
 .simp only[not_or,Nat.not_lt]at f;exact f
 .rw[F];rfl
theorem Q6.trk(s:Q6 t r h m):dy h (XM t r h m):=by
 have D:=s.f.rem;have j:=s.f.put;have E:((Ce t r (B4 h (dS r h m)) (cS r h m)).d4.d3.length)=(dS r h m).d3.length+(IH r).length:=by
  show (List.length (_++_))=_;rw[bk,ca];show((dS r h m).d3.map _).length+_=_;rw[ca];rfl
 have he:((Ce t r (B4 h (dS r h m)) (cS r h m)).d4.d5.length)=(dS r h m).d5.length+(NM r).length:=by
  show (List.length (_++_))=_;rw[bk,ca];show((dS r h m).d5.map _).length+_=_;rw[ca];rfl
 have u:Kk (Si t r h m).fd (Ce t r (B4 h (dS r h m)) (cS r h m)).fd:=Zw _ _;have y:(Si t r h m).fd.length=(Ce t r (B4 h (dS r h m)) (cS r h m)).d4.d3.length:=by
  have:=congrArg List.length u;rw[ca,ca]at this;rw[this,j.vlen]
 refine ⟨JI _ _,JI _ _,fun x o=>?_,fun x o=>?_,⟨?_,?_,?_,fun v hv=>?_⟩⟩
 .obtain⟨i,hi,rfl⟩:=List.mem_map.1 o;have:=PB (dS r h m).d3 i;have z:(XM t r h m).wi.d4.d3.length=(Ce t r (B4 h (dS r h m)) (cS r h m)).d4.d3.length:=rfl
  grind
 .obtain⟨i,hi,rfl⟩:=List.mem_map.1 o;have:=PB (dS r h m).d5 i;have z:(XM t r h m).wi.d4.d5.length=(Ce t r (B4 h (dS r h m)) (cS r h m)).d4.d5.length:=rfl
  grind
 .have:=s.few.1;show(Ce t r (B4 h (dS r h m)) (cS r h m)).d4.d3.length<=1000;omega
 .have:=s.few.2;show(Ce t r (B4 h (dS r h m)) (cS r h m)).d4.d5.length<=1000;omega
 .have:=s.few.1;show(Si t r h m).fd.length<=1000;omega
 .have w:v.length∈(Si t r h m).fd.map List.length:=List.mem_map.2 ⟨v,hv,rfl⟩;rw[u,s.f.rows]at w;obtain⟨n,q,e⟩:=List.mem_map.1 w;have:=Gd j.hf (Int.le_refl _) (DU j.hv).par (j.kind n q).2;omega
end Go.Sf.Sc
namespace Go.Sf.Sc
open Go Go.Sf
def Q7(l by':Fp):Fp:=l.map fun x=>if x<0 then -1 else AA by' x
def fc(m tr:d6):d6:=⟨Q7 m.d3 tr.d3,Q7 m.d5 tr.d5⟩
def Xc(m:d6)(l:List Ax):d6:=l.foldl (fun m s=>fc m s.Aam) m
def YK(g:d4):d6:=⟨Av g.d3.length,Av g.d5.length⟩
variable{l by':Fp}
theorem dE(u:l.length<=1000)(h:∀x∈l,-1<=x/\x<by'.length):Fc l by'=some (Q7 l by'):=by
 unfold Fc slices_Clone_int;rw[A1 (by unfold Ah;omega),bs,Bt (fun i=>(Av l.length).map fun j=>if j<i then(if AA l j<0 then -1 else AA by' (AA l j))else AA l j) (by omega)]
 .grind[Q7,gZ,CO]
 .conv=>rhs;rw[<-Qr l]
  grind [CO]
 .intro i f o;have q:=h _ (AM f o);rw[AE f (by rw[ca,BA];exact o),bs,Hi _ f o,ae (show¬i<i by omega)];by_cases e:0<=AA l i
  .rw[a6 (by simpa using e),AE e q.2,bs,bs,Gt _ f]
   grind
  grind
theorem dN(q:l.length<=1000)(h:∀x∈l,-1<=x/\x<by'.length):Jx l by'=some (Q7 l by'):=by
 unfold Jx;rw[Rx (F:=fun x=>if x<0 then -1 else AA by' x) fun i s f j u=>?_]
 .rfl
 .have o:=h _ (AM f j);rw[AE f j,bs];by_cases e:AA l i<0
  .rw[a6 (by simpa using e),Ai (by simp;unfold Ah;omega),bs,a6 e]
  .rw[ae (by simpa using e),bs,AE (by omega) o.2,bs,Ai (by simp;unfold Ah;omega),bs,ae e]
variable{n:Nat}
theorem YV(h:n<=1000):Fg n=some (Av n):=by
 unfold Fg Is;rw[a6 (by omega),bs,Int.toNat_natCast,List.length_replicate,Bt (fun i=>(Av n).map fun j=>if j<i then j else 0) (by omega)]
 .rw[bs];congr 1
  conv=>rhs;rw[<-List.map_id' (Av n)]
  exact CO fun j w o=>a6 o
 .refine List.ext_getElem (by simp[BA]) (fun k y D=>?_);have e:(Av n)[k]'(by simpa[BA]using y)=(k:Int):=by simp[Av]
  simp only[List.getElem_map,List.getElem_replicate,e];rw[ae (by omega)]
 .intro i q z;rw[AE q (by rw[ca,BA];exact z),bs,Gt _ q];congr 1;refine CO fun j w o=>?_;by_cases f:j=i
  .rw[a6 f,a6 (by omega),f]
  .rw[ae f];by_cases u:j<i
   .rw[a6 u,a6 (show j<i+1 by omega)]
   .rw[ae u,ae (show¬j<i+1 by omega)]
variable{g:d4}
theorem fA(h:Bu g=0):C7 g=some (YK g):=by
 have f:=C2 h;have:=f.ei;have:=f.ek;unfold C7 EF;rw[Kq,bs,ae (by simp[h]),YV (by omega),bs,YV (by omega),bs,bs];rfl
theorem aa(h:n<=1000):Iv n=some (Av n):=by
 unfold Iv;rw[L6 (fun _=>true) id]
 .rw[bs,List.map_id,List.filter_eq_self.2 fun _ _=>rfl]
 .intro i s f j o;rw[Ai (by simp;unfold Ah;omega),bs,a6 rfl];rfl
theorem wy(h:Bu g=0):Pg g=some (YK g):=by
 have f:=C2 h;have:=f.ei;have:=f.ek;unfold Pg;rw[aa (by omega),bs,aa (by omega),bs];rfl
structure fl(m:d6)(g:d4):Prop where
 AaF:m.d3.length<=1000
 AaP:m.d5.length<=1000
 node:∀x∈m.d3,-1<=x/\x<g.d3.length
 edge:∀x∈m.d5,-1<=x/\x<g.d5.length
theorem uY(h:Bu g=0):fl (YK g) g:=by
 have j:=C2 h;have:=j.ei;have:=j.ek;refine⟨by show(Av _).length<=1000;rw[BA];omega,by show(Av _).length<=1000;rw[BA];omega,fun x f=>?_,fun x f=>?_⟩
 .have:=Es.1 f;omega
 .have:=Es.1 f;omega
theorem ZW(j:∀x∈l,-1<=x/\x<by'.length)(o:∀x∈by',-1<=x/\x<n):∀x∈Q7 l by',-1<=x/\x<n:=by
 intro x f;obtain⟨y,q,rfl⟩:=List.mem_map.1 f
 grind [AM]
variable{h:AH}
theorem pE{m:d6}{s:Ax}(f:fl m h.d4)(j:dy h s):fl (fc m s.Aam) s.wi.d4:=by
 refine ⟨by show(List.map _ _).length<=1000;rw[ca];exact f.AaF,by show(List.map _ _).length<=1000;rw[ca];exact f.AaP,?_,?_⟩
 .exact ZW (fun x o=>by have:=f.node x o;rw[j.AaF];exact this) j.node
 .exact ZW (fun x o=>by have:=f.edge x o;rw[j.AaP];exact this) j.edge
variable{t:AC}{rules:List f0}
theorem RH(hf:An t)(j:ET rules){m:tg}(e:(Gf t rules h m).2=0):
  (0<=m.f0/\m.f0<rules.length)/\Q6 t (AA rules m.f0) h m.o3/\Gf t rules h m=(XM t (AA rules m.f0) h m.o3,0):=by
 unfold Gf at e|-;split at e
 .cases e
 rename_i o;rw[ae o];have f:=j.each _ (AM (l:=rules) (i:=m.f0) (by omega) (by omega));exact⟨by omega,jo hf f.1 f.2 e⟩
theorem UR(hf:An t)(e:Oo t rules h=0):RN t rules=0/\(Ia t h).2=0/\(A2 t).2=0/\If t h:=by grind[Oo,US]
variable{d:AR}
theorem Qm(hf:An t)(j:ET rules)(h:Lf t rules d):∀n:Nat,n<=d.j4.length ->
  Ii (Gb t rules d.kg (d.j4.take n)).2/\fl (Xc (YK d.kg.d4) (Gb t rules d.kg (d.j4.take n)).1) (Gb t rules d.kg (d.j4.take n)).2.d4
 |0,_=>by
  obtain ⟨_,q,f,o⟩:=UR hf h.given;exact⟨Ru hf f o,uY o.ge⟩
 |n+1,w=>by
  obtain ⟨q,f⟩:=Qm hf j h n (by omega);have he:=h.moves n (by omega) (by omega);have e:=Bx (l:=d.j4) (i:=(n:Int)) (by omega) (by omega);rw[show((n:Int)+1).toNat=n+1 by omega,Int.toNat_natCast]at e;unfold OA at he;rw[Int.toNat_natCast]at he;obtain⟨_,s,u⟩:=RH hf j he;rw[e,Pm,u];refine⟨s.trk.sm,?_⟩;unfold Xc at f|-;rw[List.foldl_append];exact pE f s.trk
noncomputable def PU(t:AC)(rules:List f0)(d:AR):AH×d6×Int:=
 if (Na t rules d).2.2≠0 then(⟨⟨[],[]⟩,[]⟩,⟨[],[]⟩,(Na t rules d).2.2)else((Gb t rules d.kg d.j4).2,Xc (YK d.kg.d4) (Gb t rules d.kg d.j4).1,0)
variable{x:AH}
theorem YU(h:Ii x):FP x=some x:=by
 have:=h.ei;have:=h.ek;have:=h.vals;unfold FP slices_Clone_int Ck;rw[A1 (by unfold Ah;omega),bs,A1 (by unfold Ah;omega),bs];rw[Bt (fun i=>AH.mk x.d4 (x.fd.take i.toNat)) (by omega) (by rfl)]
 .rw[Int.toNat_natCast,List.take_length];rfl
 .intro i f j;have:=h.rows _ (AM f j)
  grind [AE,A1,Ah,Ai,Bx]
theorem Zs(hf:An t)(u:ET rules)(h:Lf t rules d){f:Int->AH×d6->Option (AH×d6)}
  (y:∀(i:Int)(s:AH×d6),0<=i->i<d.j4.length->fl s.2 s.1.d4->dy s.1 (AA (Gb t rules d.kg d.j4).1 i)->f i s=some ((AA (Gb t rules d.kg d.j4).1 i).wi,fc s.2 (AA (Gb t rules d.kg d.j4).1 i).Aam)):
  tc f 0 ((Gb t rules d.kg d.j4).1.length:Int) (d.kg,YK d.kg.d4)=some ((Gb t rules d.kg d.j4).2,Xc (YK d.kg.d4) (Gb t rules d.kg d.j4).1):=by
 rw [PI,Bt (fun i=>((Gb t rules d.kg (d.j4.take i.toNat)).2,Xc (YK d.kg.d4) (Gb t rules d.kg (d.j4.take i.toNat)).1)) (by omega) (by rfl)]
 .rw[Int.toNat_natCast,List.take_length]
 .intro i j o;obtain⟨D,z⟩:=Qm hf u h i.toNat (by omega);have he:=h.moves i j o;unfold OA at he;obtain⟨_,s,w⟩:=RH hf u he;have q:=sI t rules d.kg d.j4 i j o;rw[w]at q;rw[y i _ j o z (by rw[q];exact s.trk),Bx j o,Pm,w,q];unfold Xc;rw[List.foldl_append];rfl
theorem oA(hf:An t)(j:ET rules)(d:AR):Ds t rules d=some (PU t rules d):=by
 unfold Ds PU;rw[aR hf j,bs];refine Cg fun u=>?_;have h:=Pk.1 u;obtain⟨_,_,_,hh⟩:=UR hf h.given;rw[fA hh.ge,bs,ib h];simp only[];rw[Zs hf j h fun i s w y f q=>?_]
 .have:=(Qm hf j h d.j4.length (az _)).1
  grind [List.take_length,YU]
 .rw[AE w (by rw[PI];exact y),bs,dE f.AaF (fun x o=>by rw[q.AaF];exact f.node x o),bs,dE f.AaP (fun x o=>by rw[q.AaP];exact f.edge x o),bs];rfl
theorem oS(hf:An t)(j:ET rules)(d:AR):LY t rules d=some (PU t rules d):=by
 unfold LY PU;rw[aj hf j,bs];refine Cg fun u=>?_;have h:=Pk.1 u;obtain⟨_,_,_,hh⟩:=UR hf h.given;rw[wy hh.ge,bs,ib h];simp only[];rw[Zs hf j h fun i s w y f q=>?_]
 .have:=(Qm hf j h d.j4.length (az _)).1;rw[List.take_length]at this;rw[bs,TX this];rfl
 .simp only[AE w (show i<(Gb t rules d.kg d.j4).1.length by rw[PI];exact y),bs];rw[dN f.AaF (fun x o=>by rw[q.AaF];exact f.node x o),bs,dN f.AaP (fun x o=>by rw[q.AaP];exact f.edge x o),bs];rfl
structure Q5(m:AO):Prop where
 ei:m.d6.d3.length<=1000
 ek:m.d6.d5.length<=1000
 vars:m.hV.length<=1000
structure Sh(d:AR):Prop where
 start:Ii d.kg
 len:d.j4.length<=1000
 moves:∀m∈d.j4,Q5 m.o3
variable{r:f0}{m:AO}
theorem Q6.small(s:Q6 t r h m):Q5 m:=by
 have o:=s.f.left;have j:=s.f.ro.left;have u:=s.f.at_.len;have w:=s.f.at_.q.vars;have:=j.ei;have:=j.ek;exact⟨by omega,by omega,by omega⟩
theorem Lf.small(hf:An t)(f:ET rules)(h:Lf t rules d):Sh d:=by
 obtain ⟨_,_,o,q⟩:=UR hf h.given;refine⟨Ru hf o q,by have:=h.few;omega,fun m j=>?_⟩;obtain⟨i,u,w,rfl⟩:=Be j;have he:=h.moves i u w;unfold OA at he;exact(RH hf f he).2.1.small
theorem iC(h:Q5 m):Fd m=some m:=by
 have:=h.ei;have:=h.ek;have:=h.vars;unfold Fd slices_Clone_int;rw[A1 (by unfold Ah;omega),bs,A1 (by unfold Ah;omega),bs,A1 (by unfold Ah;omega),bs]
theorem iW(h:Q5 m):IR m=some m:=by
 have:=h.ei;have:=h.ek;have:=h.vars;unfold IR;rw[A1 (by unfold Ah;omega),bs,A1 (by unfold Ah;omega),bs,A1 (by unfold Ah;omega),bs]
variable{α:Type}
theorem R6[Inhabited α]{σ:Type}{l:List α}(j:l.length<=1000)(g:List α->σ){f:Int->σ->Option σ}(h:∀(i:Int)s,0<=i->i<l.length->s.length<=1000->f i (g s)=some (g (s++[AA l i]))):tc f 0 l.length (g [])=some (g l):=by
 have:=Bt (f:=f) (s:=g []) (fun i=>g (l.take i.toNat)) (a:=0) (b:=l.length) (by omega) rfl (fun i o q=>by
  grind [cE,Bx])
 rwa [Int.toNat_natCast,List.take_length]at this
theorem rA(h:Sh d):Du d=some d:=by
 unfold Du;rw[YU h.start,bs];have:=R6 (l:=d.j4) h.len (fun l=>AR.mk d.kg l) (f:=fun(o:Int)(w:AR)=>
  (idx d.j4 o).bind fun j=>
  (Fd j.o3).bind fun q=>
  (Ak w.j4 [tg.mk j.f0 q]).bind fun u=>
  some (AR.mk w.kg u)) (fun i s o y z=>by
   rw [AE o y,bs,iC (h.moves _ (AM o y)),bs,Ai (by simp;unfold Ah;omega),bs])
 rw [this];rfl
theorem iV(h:Sh d):I3 d=some d:=by
 unfold I3;rw[TX h.start,bs];have:=R6 (l:=d.j4) h.len (fun l=>AR.mk d.kg l) (f:=fun(j:Int)(y:AR)=>
  (idx d.j4 j).bind fun o=>
  (idx d.j4 j).bind fun q=>
  (IR q.o3).bind fun u=>
  (Ak y.j4 [tg.mk o.f0 u]).bind fun w=>
  some (AR.mk y.kg w)) (fun i s j z D=>by
   rw [AE j z,bs,bs,iW (h.moves _ (AM j z)),bs,Ai (by simp;unfold Ah;omega),bs])
 rw [this];rfl
abbrev zD:AR:=AR.mk (AH.mk (d4.mk [] []) []) []
noncomputable def Qu(t:AC)(rules:List f0)(d:AR)(m:tg):AR×Int:=
 if (PU t rules d).2.2≠0 then(zD,(PU t rules d).2.2)else if d.j4.length=30 then(zD,17)else
 if (Gf t rules (PU t rules d).1 m).2≠0 then(zD,(Gf t rules (PU t rules d).1 m).2)else(⟨d.kg,d.j4++[m]⟩,0)
theorem Xd:(PU t rules d).2.2=(Na t rules d).2.2:=by grind[PU]
theorem kM(hf:An t)(f:ET rules)(d:AR)(m:tg):DY t rules d m=some (Qu t rules d m):=by
 unfold DY Qu;rw[oA hf f,bs];refine Cg fun j=>F1 (by simp;try omega) fun q=>?_;rw[hU hf f,bs];refine Cg fun o=>?_;rw[Xd]at j;have h:=(Pk.1 j).small hf f;have:=h.len;rw[rA h,bs,iC (RH hf f o).2.1.small,bs,Ai (by simp;unfold Ah;omega),bs]
theorem kW(hf:An t)(f:ET rules)(d:AR)(m:tg):Ke t rules d m=some (Qu t rules d m):=by
 unfold Ke Qu;rw[oS hf f,bs];refine Cg fun j=>F1 (by simp;try omega) fun q=>?_;rw[iT hf f,bs];refine Cg fun o=>?_;rw[Xd]at j;have h:=(Pk.1 j).small hf f;have:=h.len;rw[iV h,bs,iW (RH hf f o).2.1.small,bs,Ai (by simp;unfold Ah;omega),bs]
theorem qB{m:tg}(e:(Qu t rules d m).2=0):Lf t rules d/\d.j4.length<30/\(Gf t rules (Gb t rules d.kg d.j4).2 m).2=0/\Qu t rules d m=(⟨d.kg,d.j4++[m]⟩,0):=by
 unfold Qu at e|-;split at e
 .grind
 rename_i f;rw[ae f];split at e
 .cases e
 rename_i j;rw[ae j];split at e
 .grind
 rename_i o;rw[ae o];have f:=Classical.not_not.1 f;have q:=f;rw[Xd]at f;have h:=Pk.1 f;have:=h.few
 grind [PU,Gb]
theorem nO{m:tg}(h:Lf t rules d)(o:d.j4.length<30)(e:(Gf t rules (Gb t rules d.kg d.j4).2 m).2=0):Lf t rules ⟨d.kg,d.j4++[m]⟩:=by
 refine ⟨h.given,by simp;omega,fun i f j=>?_⟩;simp only[bk,List.length_singleton]at j;show OA t rules d.kg (d.j4++[m]) i=0;by_cases hi:i<d.j4.length
 .rw[Zj f hi];exact h.moves i f hi
 grind [OA,WA,Int.toNat_natCast,List.take_left']
theorem l8(h:Lf t rules d)(n:Nat):Lf t rules ⟨d.kg,d.j4.take n⟩:=by
 have:=h.few;refine⟨h.given,by simp;omega,fun i j f=>?_⟩;show OA t rules d.kg (d.j4.take n) i=0;have f:i<(d.j4.take n).length:=f;rw[cE]at f;have:=h.moves i j (by omega)
 grind [List.take_append_drop,Zj,cE]
end Go.Sf.Sc
namespace Go.Sf.Sc
open Go Go.Sf
instance:Inhabited BJ:=⟨⟨0,default⟩⟩
def Ot(s:AI)(i:Int):QQ:=if AA s.kl i<0\/s.ff.j4.length<AA s.kl i then some 6 else if 0<i/\AA s.kl i<AA s.kl (i-1)then some 12 else none
def KQ(s:AI):Int:=if 20<s.kl.length then 3 else(fst (Ot s) 0 s.kl.length).getD 0
variable{s:AI}{i:Int}
theorem YR(w:0<=i)(y:i<s.kl.length)(z:s.kl.length<=20):(if((decide (AA s.kl i<0))||(decide ((s.ff.j4.length:Int)<AA s.kl i)))=true then
  some (Bv.ret 6)else(if(decide (0<i))=true then((idx s.kl (Aj (i-1))).bind fun q=>some (decide (AA s.kl i<q)))else some false).bind fun u=>
  if u=true then some (Bv.ret 12)else some (Bv.next ()))=some (PN (Ot s i)):=by
 unfold Ot;by_cases f:AA s.kl i<0\/(s.ff.j4.length:Int)<AA s.kl i
 .rw[a6 (by simpa using f),a6 f];rfl
 rw [ae (by simpa using f),ae f];by_cases j:0<i
 .rw[a6 (by simpa using j),Ar (by omega) (by omega),AE (by omega) (by omega),bs,bs];by_cases o:AA s.kl i<AA s.kl (i-1)
  .rw[a6 (by simpa using o),a6 ⟨j,o⟩];rfl
  .rw[ae (by simpa using o),ae (by simp[o])];rfl
 .rw[ae (by simpa using j),bs,ae (by decide),ae (by simp[j])];rfl
theorem Xl(s:AI):EI s=some (KQ s):=by
 unfold EI KQ;refine F1 (by simp;try omega) fun f=>?_
 grind [BX,Ot,CN,AE,YR]
theorem TY(s:AI):IT s=some (KQ s):=by
 unfold IT KQ;refine F1 (by simp;try omega) fun f=>?_
 grind [BX,Ot,CN,YR,AE,RJ]
structure Ig(s:AI):Prop where
 few:s.kl.length<=20
 inn:∀i:Int,0<=i->i<s.kl.length->0<=AA s.kl i/\AA s.kl i<=s.ff.j4.length
 asc:∀i:Int,0<i->i<s.kl.length->AA s.kl (i-1)<=AA s.kl i
theorem gf:KQ s=0↔Ig s:=by
 unfold KQ;constructor
 .intro h;split at h
  .cases h
  rename_i q;have u:∀i:Int,0<=i->i<s.kl.length->Ot s i=none:=OD (fun i e=>by
   grind [Ot]) h
  have o:∀i:Int,0<=i->i<s.kl.length->(0<=AA s.kl i/\AA s.kl i<=s.ff.j4.length)/\(0<i->AA s.kl (i-1)<=AA s.kl i):=fun i f j=>by
   grind [Ot]
  exact ⟨by omega,fun i f j=>(o i f j).1,fun i f j=>(o i (by omega) j).2 f⟩
 .rintro⟨q,u,o⟩
  grind [Bz,Ot]
noncomputable def Of(t:AC)(rules:List f0)(s:AI):Int:=if(Na t rules s.ff).2.2≠0 then(Na t rules s.ff).2.2 else KQ s
variable{t:AC}{rules:List f0}
theorem aT(hf:An t)(f:ET rules)(s:AI):Cl t rules s=some (Of t rules s):=by
 unfold Cl Of;rw[aR hf f,bs,Xl];exact DV fun _=>rfl
theorem al(hf:An t)(f:ET rules)(s:AI):IS t rules s=some (Of t rules s):=by
 unfold IS Of;rw[aj hf f,bs,TY];exact DV fun _=>rfl
structure Ni(t:AC)(rules:List f0)(s:AI):Prop where
 rep:Lf t rules s.ff
 marks:Ig s
theorem Ld:Of t rules s=0↔Ni t rules s:=by
 unfold Of;constructor
 .intro h;split at h
  .grind
  rename_i f;exact⟨Pk.1 (Classical.not_not.1 f),gf.1 h⟩
 .rintro⟨f,j⟩
  grind [Pk,gf]
structure G4(s:AI):Prop where
 d:Sh s.ff
 marks:s.kl.length<=1000
theorem Ni.small(hf:An t)(f:ET rules)(h:Ni t rules s):G4 s:=⟨h.rep.small hf f,by have:=h.marks.few;omega⟩
theorem Wr(h:G4 s):Dh s=some s:=by
 have w:=h.d.start;have:=w.ei;have:=w.ek;have:=w.vals;have:=h.marks;unfold Dh;simp only[slices_Clone_int,Ck];rw[A1 (by unfold Ah;omega),bs,A1 (by unfold Ah;omega),bs,A1 (by unfold Ah;omega),bs];have O:=R6 (l:=s.ff.kg.fd) w.vals (fun l=>AI.mk (AR.mk (AH.mk s.ff.kg.d4 l) []) s.kl) (f:=fun(q:Int)(y:AI)=>
  (idx s.ff.kg.fd q).bind fun z=>
  (Ak [] z).bind fun D=>
  (Ak y.ff.kg.fd [D]).bind fun E=>
  some (AI.mk (AR.mk (AH.mk y.ff.kg.d4 E) y.ff.j4) y.kl)) (fun i x q u N=>by
   have:=w.rows _ (AM q u);rw[AE q u,bs,A1 (by unfold Ah;omega),bs,Ai (by simp;unfold Ah;omega),bs])
 have P:=R6 (l:=s.ff.j4) h.d.len (fun l=>AI.mk (AR.mk s.ff.kg l) s.kl) (f:=fun(K:Int)(s2:AI)=>
  (idx s.ff.j4 K).bind fun j=>
  (Ak [] j.o3.d6.d3).bind fun F=>
  (Ak [] j.o3.d6.d5).bind fun G=>
  (Ak [] j.o3.hV).bind fun H=>
  (Ak s2.ff.j4 [tg.mk j.f0 (AO.mk (d6.mk F G) H)]).bind fun I=>
  some (AI.mk (AR.mk s2.ff.kg I) s2.kl)) (fun i x q u N=>by
   have J:=h.d.moves _ (AM q u);have:=J.ei;have:=J.ek;have:=J.vars;rw[AE q u,bs,A1 (by unfold Ah;omega),bs,A1 (by unfold Ah;omega),bs,A1 (by unfold Ah;omega),bs,Ai (by simp;unfold Ah;omega),bs])
 refine Eq.trans (congrArg (fun o=>Option.bind o _) O) ?_;rw[bs];refine Eq.trans (congrArg (fun o=>Option.bind o _) P) ?_;rfl
theorem Pc(h:G4 s):Dy s=some s:=by
 have:=h.marks;unfold Dy;rw[iV h.d,bs,A1 (by unfold Ah;omega),bs]
abbrev zS:AI:=AI.mk zD []
def Q8(s:AI):AI×Int:=if KQ s≠0 then(zS,KQ s)else if s.kl.length=20 then(zS,17)else(AI.mk s.ff (s.kl++[(s.ff.j4.length:Int)]),0)
theorem kN(h:G4 s):Gc s=some (Q8 s):=by
 have:=h.marks;unfold Gc Q8;rw[Xl,bs];refine Cg fun f=>F1 (by simp;try omega) fun j=>?_
 grind [Wr,Ai,Ah]
theorem kX(h:G4 s):Lb s=some (Q8 s):=by
 have:=h.marks;unfold Lb Q8;rw[TY,bs];refine Cg fun f=>F1 (by simp;try omega) fun j=>?_;rw[Pc h,bs,Ai (by simp;unfold Ah;omega),bs]
def O9(s:AI):AI×Int:=if KQ s≠0 then(zS,KQ s)else if s.kl.length=0 then(zS,8)else(AI.mk s.ff (s.kl.take (s.kl.length-1)),0)
theorem gx(h:G4 s):GE s=some (O9 s):=by
 have:=h.marks;unfold GE O9;rw[Xl,bs];refine Cg fun f=>F1 (by simp) fun j=>?_
 grind [Wr,Ar,GU]
theorem iK(h:G4 s):Kf s=some (O9 s):=by
 have:=h.marks;unfold Kf O9;rw[TY,bs];refine Cg fun f=>F1 (by simp) fun j=>?_;rw[Pc h,bs,Ar (by omega) (by omega),GU (by omega) (by omega),bs,show((s.kl.length:Int)-1).toNat=s.kl.length-1 by omega]
def QP(s:AI):AI×Int:=if s.kl.length=0 then(zS,8)else(AI.mk (AR.mk s.ff.kg (s.ff.j4.take (AA s.kl ((s.kl.length:Int)-1)).toNat)) (s.kl.take (s.kl.length-1)),0)
theorem dG(h:G4 s)(f:Ig s):EB s=some (QP s):=by
 have:=h.marks;unfold EB QP;refine F1 (by simp) fun j=>?_;have hi:=f.inn ((s.kl.length:Int)-1) (by omega) (by omega)
 grind [Wr,Ar,AE,GU]
noncomputable def SB(t:AC)(rules:List f0)(s:AI):AI×Int:=if Of t rules s≠0 then(zS,Of t rules s)else QP s
theorem oG(hf:An t)(f:ET rules)(s:AI):CX t rules s=some (SB t rules s):=by
 unfold CX SB;rw[aT hf f,bs];refine Cg fun o=>?_;have j:=Ld.1 o;rw[dG (j.small hf f) j.marks,bs]
theorem dT(hf:An t)(f:ET rules)(s:AI):G2 t rules s=some (SB t rules s):=by
 unfold G2 SB;rw[al hf f,bs];refine Cg fun o=>?_;have j:=Ld.1 o;have h:=j.small hf f;have:=h.marks;unfold QP;refine F1 (by simp) fun q=>?_;have hi:=j.marks.inn ((s.kl.length:Int)-1) (by omega) (by omega);rw[Pc h,bs,Ar (by omega) (by omega),AE (by omega) (by omega),bs,GU hi.1 hi.2,bs,GU (by omega) (by omega),bs,show((s.kl.length:Int)-1).toNat=s.kl.length-1 by omega]
noncomputable def Md(t:AC)(rules:List f0)(s:AI)(m:tg):AI×Int:=if(Qu t rules s.ff m).2≠0 then(zS,(Qu t rules s.ff m).2)else(AI.mk (Qu t rules s.ff m).1 s.kl,0)
theorem dH(hf:An t)(f:ET rules)(h:Ig s)(m:tg):EA t rules s m=some (Md t rules s m):=by
 have:=h.few;unfold EA Md slices_Clone_int;rw[kM hf f,bs];refine Cg fun j=>?_
 grind [A1,Ah]
noncomputable def Zh(t:AC)(rules:List f0)(s:AI)(m:tg):AI×Int:=if Of t rules s≠0 then(zS,Of t rules s)else Md t rules s m
theorem u7(hf:An t)(f:ET rules)(s:AI)(m:tg):I6 t rules s m=some (Zh t rules s m):=by
 unfold I6 Zh;rw[aT hf f,bs];refine Cg fun j=>?_;rw[dH hf f (Ld.1 j).marks,bs]
theorem ma(hf:An t)(f:ET rules)(s:AI)(m:tg):NZ t rules s m=some (Zh t rules s m):=by
 unfold NZ Zh Md;rw[al hf f,bs];refine Cg fun j=>?_;have:=(Ld.1 j).marks.few;rw[kW hf f,bs];refine Cg fun o=>?_;rw[A1 (by unfold Ah;omega),bs]
noncomputable def K7(t:AC)(rules:List f0)(s:AI)(a:BJ):AI×Int:=
 if a.mo=1 then Md t rules s a.tg else if a.mo=2 then Q8 s else if a.mo=3 then O9 s else if a.mo=4 then QP s else(zS,1)
variable{α β:Type}
theorem S3(x:α×β):(some x).bind (fun y=>some (y.1,y.2))=some x:=rfl
theorem qn(hf:An t)(j:ET rules)(h:Ni t rules s)(a:BJ):ER t rules s a=some (K7 t rules s a):=by
 have f:=h.small hf j;unfold ER K7;rw[dH hf j h.marks,kN f,gx f,dG f h.marks,S3,S3,S3,S3]
 grind
theorem rL(hf:An t)(f:ET rules)(h:Ni t rules s)(a:BJ):OR t rules s a=some (K7 t rules s a):=by
 have j:=h.small hf f;unfold OR K7;rw[ma hf f,kX j,iK j,dT hf f,S3,S3,S3,S3];have o:Zh t rules s a.tg=Md t rules s a.tg:=ae (by simp[Ld.2 h]);have q:SB t rules s=QP s:=ae (by simp[Ld.2 h]);rw[o,q];exact F1 (by simp) fun _=>F1 (by simp) fun _=>F1 (by simp) fun _=>F1 (by simp) fun _=>rfl
end Go.Sf.Sc
namespace Go.Sf.Sc
open Go Go.Sf
variable{s:AI}
theorem gc(h:Ig s)(o:s.kl.length<20):Ig (AI.mk s.ff (s.kl++[(s.ff.j4.length:Int)])):=by
 refine ⟨by simp;omega,fun i f j=>?_,fun i f j=>?_⟩
 .simp only[bk,List.length_singleton]at j;show 0<=AA (s.kl++[(s.ff.j4.length:Int)]) i/\AA (s.kl++[(s.ff.j4.length:Int)]) i<=_;by_cases e:i<s.kl.length
  .rw[O8 f e];exact h.inn i f e
  .have e:i=(s.kl.length:Int):=by omega
   rw [e,WA];exact⟨by omega,Int.le_refl _⟩
 .simp only[bk,List.length_singleton]at j;show AA (s.kl++[(s.ff.j4.length:Int)]) (i-1)<=AA (s.kl++[(s.ff.j4.length:Int)]) i;by_cases e:i<s.kl.length
  .rw[O8 (by omega) e,O8 (by omega) (by omega)];exact h.asc i f e
  .have e:i=(s.kl.length:Int):=by omega
   rw [e,WA,O8 (by omega) (by omega)];exact(h.inn _ (by omega) (by omega)).2
theorem Wg(h:Ig s)(n:Nat):Ig (AI.mk s.ff (s.kl.take n)):=by
 have hf:=h.few;refine⟨by simp;omega,fun i j f=>?_,fun i j f=>?_⟩
 .have f:i<(s.kl.take n).length:=f;rw[cE]at f;show 0<=AA (s.kl.take n) i/\AA (s.kl.take n) i<=_;rw[Jq (by omega)];exact h.inn i j (by omega)
 .have f:i<(s.kl.take n).length:=f;rw[cE]at f;show AA (s.kl.take n) (i-1)<=AA (s.kl.take n) i;rw[Jq (by omega),Jq (by omega)];exact h.asc i j (by omega)
theorem Z8(h:Ig s):∀(k:Nat)(i:Int),0<=i->i+k<s.kl.length->AA s.kl i<=AA s.kl (i+k)
 |0,i,_,_=>by rw[show i+((0:Nat):Int)=i by omega];exact Int.le_refl _|k+1,i,f,q=>by
  have j:=Z8 h k i f (by omega);have o:=h.asc (i+k+1) (by omega) (by omega)
  grind
variable{d:AR}
theorem bz{m:Fp}(h:Ig (AI.mk d m))(x:tg):Ig (AI.mk ⟨d.kg,d.j4++[x]⟩ m):=by
 refine ⟨h.few,fun i f j=>?_,h.asc⟩;have o:=h.inn i f j
 grind
variable{t:AC}{rules:List f0}
theorem gA(h:Ni t rules s){a:BJ}(e:(K7 t rules s a).2=0):Ni t rules (K7 t rules s a).1:=by
 unfold K7 at e|-;split at e
 .rename_i j;rw[a6 j];unfold Md at e|-;split at e
  .rename_i f;exact absurd e f
  rename_i f;rw[ae f];obtain⟨o,D,w,F⟩:=qB (Classical.not_not.1 f);rw[F];exact⟨nO o D w,bz h.marks a.tg⟩
 rename_i j;rw[ae j];split at e
 .rename_i j;rw[a6 j];unfold Q8 at e|-;split at e
  .rename_i f;exact absurd e f
  rename_i f;rw[ae f];split at e
  .cases e
  rename_i o;rw[ae o];have:=h.marks.few;exact⟨h.rep,gc h.marks (by omega)⟩
 rename_i j;rw[ae j];split at e
 .rename_i j;rw[a6 j];unfold O9 at e|-;split at e
  .rename_i f;exact absurd e f
  rename_i f;rw[ae f];split at e
  .cases e
  rename_i o;rw[ae o];exact⟨h.rep,Wg h.marks _⟩
 rename_i j;rw[ae j];split at e
 .rename_i j;rw[a6 j];unfold QP at e|-;split at e
  .cases e
  rename_i o;rw[ae o];refine⟨l8 h.rep _,?_⟩;have q:=h.marks;have u:=Wg q (s.kl.length-1);refine⟨u.few,fun i y z=>?_,u.asc⟩;have E:i<(s.kl.take (s.kl.length-1)).length:=z;rw[cE]at E;have f:=u.inn i y z;refine⟨f.1,?_⟩;show AA (s.kl.take (s.kl.length-1)) i<=((s.ff.j4.take _).length:Int);rw[Jq (by omega),cE];have D:=q.inn ((s.kl.length:Int)-1) (by omega) (by omega);have w:=Z8 q (s.kl.length-1-i.toNat) i y (by omega);rw[show i+((s.kl.length-1-i.toNat:Nat):Int)=(s.kl.length:Int)-1 by omega]at w;omega
 .cases e
noncomputable def M4(t:AC)(rules:List f0)(s:AI)(l:List BJ):AI:=l.foldl (fun s a=>(K7 t rules s a).1) s
noncomputable def S2(t:AC)(rules:List f0)(s:AI)(l:List BJ)(i:Int):Int:=(K7 t rules (M4 t rules s (l.take i.toNat)) (AA l i)).2
theorem Ti(t:AC)(rules:List f0)(s:AI)(l:List BJ)(a:BJ):M4 t rules s (l++[a])=(K7 t rules (M4 t rules s l) a).1:=by
 unfold M4
 grind
theorem XK(h:Ni t rules s){l:List BJ}:∀n:Nat,n<=l.length->(∀j:Int,0<=j->j<n->S2 t rules s l j=0)->Ni t rules (M4 t rules s (l.take n))
 |0,_,_=>h|n+1,u,he=>by
  have q:=XK h n (by omega) fun j f o=>he j f (by omega)
  grind [Bx,Int.toNat_natCast,Ti,S2,gA]
noncomputable def Xs(t:AC)(rules:List f0)(s:AI)(l:List BJ):AI×Int×Int:=
 if Of t rules s≠0 then(zS,0,Of t rules s)else if 100<l.length then(zS,0,3)else
 match fst (fun i=>(nz (S2 t rules s l i)).map fun e=>(zS,i,e)) 0 l.length with
 |some r=>r|none=>(M4 t rules s l,(l.length:Int),0)
variable{ρ:Type}{e:Int}
theorem aD{g:Int->ρ}:(nz e).map g=if e=0 then none else some (g e):=by unfold nz;split<;>rfl
variable{i:Int}
theorem bS{l:List BJ}(h:∀j,0<=j->j<i->(nz (S2 t rules s l j)).map (fun e=>(zS,j,e))=none):∀j:Int,0<=j->j<i.toNat->S2 t rules s l j=0:=by grind[KP,Iu]
theorem rC(hf:An t)(f:ET rules)(s:AI)(l:List BJ):Dg t rules s l=some (Xs t rules s l):=by
 unfold Dg Xs;rw[aT hf f,bs];refine Cg fun q=>F1 (by simp;try omega) fun y=>?_;have h:=Ld.1 q;rw[Wr (h.small hf f),bs,Hb (a:=0) (s:=(zS,s)) (fun i=>(zS,M4 t rules s (l.take i.toNat))) (fun i=>(nz (S2 t rules s l i)).map fun e=>(zS,i,e)) (by omega) rfl]
 .cases fst (fun i=>(nz (S2 t rules s l i)).map fun e=>(zS,i,e)) 0 (l.length:Int)with
  |some r=>rfl|none=>
   show some _=some _;rw[Int.toNat_natCast,List.take_length]
 .intro i j o u;have w:=XK h (l:=l) i.toNat (by omega) (bS u);rw[AE j o,bs,qn hf f w,bs,aD];by_cases e:S2 t rules s l i=0
  .rw[ae (show¬(!decide ((K7 t rules (M4 t rules s (l.take i.toNat)) (AA l i)).2=0))=true by rw[show(K7 t rules (M4 t rules s (l.take i.toNat)) (AA l i)).2=0 from e];decide),a6 e,Bx j o,Ti];rfl
  .rw[a6 (show(!decide ((K7 t rules (M4 t rules s (l.take i.toNat)) (AA l i)).2=0))=true by rw[Bool.not_eq_true'];exact decide_eq_false e),ae e];rfl
theorem rX(hf:An t)(f:ET rules)(s:AI)(l:List BJ):OQ t rules s l=some (Xs t rules s l):=by
 unfold OQ Xs;rw[al hf f,bs];refine Cg fun q=>F1 (by simp;try omega) fun y=>?_;have h:=Ld.1 q;rw[Pc (h.small hf f),bs,Hb (a:=0) (s:=(s,zS)) (fun i=>(M4 t rules s (l.take i.toNat),zS)) (fun i=>(nz (S2 t rules s l i)).map fun e=>(zS,i,e)) (by omega) rfl]
 .cases fst (fun i=>(nz (S2 t rules s l i)).map fun e=>(zS,i,e)) 0 (l.length:Int)with
  |some r=>rfl|none=>
   show some _=some _;rw[Int.toNat_natCast,List.take_length]
 .intro i j o u;have w:=XK h (l:=l) i.toNat (by omega) (bS u);rw[AE j o,bs,rL hf f w,bs,aD];by_cases e:S2 t rules s l i=0
  .rw[ae (show¬(!decide ((K7 t rules (M4 t rules s (l.take i.toNat)) (AA l i)).2=0))=true by rw[show(K7 t rules (M4 t rules s (l.take i.toNat)) (AA l i)).2=0 from e];decide),a6 e,Bx j o,Ti];rfl
  .rw[a6 (show(!decide ((K7 t rules (M4 t rules s (l.take i.toNat)) (AA l i)).2=0))=true by rw[Bool.not_eq_true'];exact decide_eq_false e),ae e];rfl
theorem il(hf:An t)(o:ET rules){l:List BJ}:G4 (Xs t rules s l).1:=by
 have f:G4 zS:=⟨⟨⟨by simp,by simp,by simp,fun v hv=>by cases hv⟩,by simp,fun m q=>by cases q⟩,by simp⟩;unfold Xs;split
 .exact f
 rename_i y;split
 .exact f
 split
 .grind[Cz,aD]
 .rename_i e;rw[Bz]at e;have h:=Ld.1 (Classical.not_not.1 y);have:=XK h (l:=l) l.length (az _) (bS (i:=l.length) fun j u w=>e j u w);rw[List.take_length]at this;exact this.small hf o
end Go.Sf.Sc
namespace Go.Sf.Sc
open Go Go.Sf
variable{ρ:Type}
theorem sd{f:Int×Int->Option (Bv (Int×Int) ρ)}(I:Int->Int->Prop)(b:Int){s a:Int}(w:I a s)
  (step:∀i s,a<=i->I i s->(i<b/\∃s',f (s,i)=some (.next (s',i+1))/\I (i+1) s')\/f (s,i)=some (.brk (s,i))):∃i s',a<=i/\I i s'/\Ep f (s,a)=some (.inl (s',i)):=by
 have key:∀(n:Nat)(i s:Int),a<=i->I i s->b-i<=n->∃j s',i<=j/\I j s'/\Lu f (s,i) (.inl (s',j)):=by
  intro n
  induction n with
  |zero=>
   intro i s hi o y;rcases step i s hi o with⟨h,_⟩|h
   .omega
   .exact⟨i,s,Int.le_refl _,o,.brk h⟩
  |succ n F=>
   intro i s hi o y;rcases step i s hi o with⟨_,s',q,u⟩|h
   .obtain⟨j,s2,G,z,D⟩:=F (i+1) s' (by omega) u (by omega);exact⟨j,s2,by omega,z,.next q D⟩
   .exact⟨i,s,Int.le_refl _,o,.brk h⟩
 obtain ⟨j,s',q,u,E⟩:=key (b-a).toNat a s (Int.le_refl _) w (by omega);exact⟨j,s',q,u,E.eq⟩
theorem Ys{q w k:Int}(c:Int)(H:q<=1000)(y:0<=k)(o:k<=1000)(u:1<=c/\c<=80)(z:1<=w/\w<=400000):∃w' D,(1<=w'/\w'<=400000)/\Ep (ρ:=ρ) (fun(j:Int×Int)=>
  if ((decide (j.2<q))&&(decide (j.1<=5000)))=true then
  some (.next (Aj (j.1*c),Aj (j.2+1)))
  else
  some (.brk (j.1,j.2))) (w,k)=some (.inl (w',D)):=by
 obtain ⟨i,s',K,F,G⟩:=sd (ρ:=ρ) (f:=fun(j:Int×Int)=>
  if ((decide (j.2<q))&&(decide (j.1<=5000)))=true then
  some (.next (Aj (j.1*c),Aj (j.2+1)))
  else
  some (.brk (j.1,j.2))) (fun i s=>(1<=s/\s<=400000)/\0<=i/\i<=1000) q (s:=w) (a:=k) ⟨z,y,o⟩ (fun i s hi E=>by
   by_cases e:i<q/\s<=5000
   .left;have I:1*1<=s*c:=Int.mul_le_mul E.1.1 u.1 (by omega) (by omega);have J:s*c<=5000*80:=Int.mul_le_mul e.2 u.2 (by omega) (by omega)
    grind [Ar]
   grind)
 exact ⟨s',i,F.1,G⟩
theorem dW:∀(N:Nat)(c:d7)(p:ec)(w:Int),SizeOf.sizeOf c<=N->Di c->NG p->Eo c<=1000->1<=w->w<=5000->∃b,∀n,N<=n->DE n p c w=some b
 |0,c,_,_,h,_,_,_,_,_=>by have:=EQ c;omega|N+1,c,p,w,h,V,P,hk,w0,w1=>by
  have key:∀q:ec,NG q->∃b,∀n,N<=n->gp (Ep (ρ:=Bool) (fun(f:Int×Int)=>
    if ((decide (f.2<(q.d4.d3.length:Int)))&&(decide (f.1<=5000)))=true then
    some (.next (Aj (f.1*40),Aj (f.2+1)))
    else
    some (.brk (f.1,f.2))) (w,(p.d4.d3.length:Int))) (fun f=>
    gp (Ep (ρ:=Bool) (fun(s2:Int×Int)=>
    if ((decide (s2.2<(q.d4.d5.length:Int)))&&(decide (s2.1<=5000)))=true then
    some (.next (Aj (s2.1*80),Aj (s2.2+1)))
    else
    some (.brk (s2.1,s2.2))) (f.1,(p.d4.d5.length:Int))) (fun s2=>
    gp (Ep (ρ:=Bool) (fun(o:Int)=>
    if ((decide (o<(c.hT.length:Int)))&&(decide (s2.1<=5000)))=true then
    (idx c.hT o).bind fun z=>
    (DE n q z s2.1).bind fun D=>
    if (!D)=true then
    some (.ret false)
    else
    some (.next (Aj (o+1)))
    else
    some (.brk o)) 0) (fun o=>
    some (decide (s2.1<=5000))) (fun W=>some W)) (fun X=>some X)) (fun Y=>some Y)=some b:=by
   intro q u;have q1:=u.ei;have q2:=u.ek;have p1:=P.ei;have p2:=P.ek;obtain⟨a,k,ha,U⟩:=Ys (ρ:=Bool) (q:=q.d4.d3.length) (w:=w) (k:=p.d4.d3.length) 40 (by omega) (by omega) (by omega) (by omega) (by omega);obtain⟨a',k',J,y⟩:=Ys (ρ:=Bool) (q:=q.d4.d5.length) (w:=a) (k:=p.d4.d5.length) 80 (by omega) (by omega) (by omega) (by omega) ha;have Z:c.hT.length<=1000:=by have:=Sz c.hT;have:=S0 c;omega
   by_cases I:a'<=5000
   .have kids:∀x∈c.hT,∃b,∀n,N<=n->DE n q x a'=some b:=fun x E=>by
     have F:=FN E;have G:=VX E;have h3:=S0 c;exact dW N x q a' (by omega) (V.k x E) u (by omega) J.1 I
    have j:∀i:Int,∃b:Bool,0<=i->i<c.hT.length->∀n,N<=n->DE n q (AA c.hT i) a'=some b:=fun i=>by
     by_cases e:0<=i/\i<c.hT.length
     .obtain⟨b,K⟩:=kids _ (AM e.1 e.2);exact⟨b,fun _ _=>K⟩
     .exact⟨true,fun F G=>absurd ⟨F,G⟩ e⟩
    obtain ⟨g,hg⟩:=Classical.axiomOfChoice j;refine⟨(fst (fun i=>if g i=true then none else some (Sum.inr false:Int ⊕ Bool)) 0 c.hT.length).isNone,fun n H=>?_⟩;rw[U,Br];simp only[];rw[y,Br];simp only[];rw[MG (fun i=>if g i=true then none else some (.inr false)) (b:=c.hT.length) (by omega)]
    .cases e:fst (fun i=>if g i=true then none else some (Sum.inr false:Int ⊕ Bool)) 0 (c.hT.length:Int)with
     |none=>
      show some (decide (a'<=5000))=some true;rw[decide_eq_true I]
     |some r=>
      obtain ⟨i,_,_,O,_⟩:=Cz e;split at O
      .cases O
      .cases O;rfl
    .intro i Q S _;rw[a6 (by simp;omega),AE Q S,bs,hg i Q S n H,bs,Ar (by omega) (by omega)];cases g i<;>rfl
    .rw[ae (by simp)]
   .refine⟨false,fun n H=>?_⟩;rw[U,Br];simp only[];rw[y,Br];simp only[];rw[MG (fun _=>none) (b:=0) (by omega) (fun i F G _=>by omega) (by rw[ae (by simp;omega)])];rw[gU (by omega)];show some _=some _;rw[decide_eq_false I]
  have u:NG (if c.mo=5 then c.ec else p):=by split;exact V.q;exact P
  obtain ⟨b,K⟩:=key _ u;refine⟨b,fun n H=>?_⟩;obtain⟨n,rfl⟩:∃k,n=k+1:=⟨n-1,by omega⟩;rw[DE,show(if decide (c.mo=5)=true then some c.ec else some p)=some (if c.mo=5 then c.ec else p)by by_cases e:c.mo=5<;>simp[e],bs];exact K n (by omega)
end Go.Sf.Sc
namespace Go.Sf.Sc
open Go Go.Sf
variable{r:f0}
theorem bQ(f:(Bc r).Sm):(AK r.d7).Sm:=by
 have j:TV.Sms [_,_,_,_,_,_,_,_,_,_,_,_,_,_,_,_,_,_,_,_,_,_,_,_,_]:=f;obtain⟨_,_,_,_,_,_,_,_,_,_,_,z,D,E,F,_,o,q,u,c4,c5,w,y,c8,c9,_⟩:=j;exact⟨o,q,u,c4,c5,w,y,c8,c9,trivial⟩
variable{t:AC}
theorem np(hf:An t)(st:(AQ t).Sm)(f:(Bc r).Sm)(h:AH):∃b,Jw t r h=some b/\(b=true->Qt r/\Eo r.d7<=40):=by
 obtain ⟨j,o,_⟩:=S6 st;obtain⟨q,u,w⟩:=jx f;obtain⟨y,z,D⟩:=iQ hf st r.ne (bQ f) h;unfold Jw
 grind
variable{rules:List f0}
theorem nq(st:(AQ t).Sm)(V:∀r∈rules,(Bc r).Sm)(h:AH):∃b,LZ t rules h=some b/\(b=true->An t/\ET rules):=by
 obtain ⟨b1,e1,f1⟩:=S6 st;obtain⟨b2,e2⟩:=Zn h;unfold LZ;by_cases Q:(((decide (4<(rules.length:Int)))&&(decide ((rules.length:Int)<=10)))||(decide (12<(rules.length:Int))))=true
 .rw[a6 Q,bs,a6 rfl,bs,a6 rfl];exact⟨false,rfl,fun h=>by cases h⟩
 rw [ae Q,e1,bs,bs];cases b1 with
 |false=>exact⟨false,rfl,fun h=>by cases h⟩
 |true=>
 rw [ae (by decide),e2,bs,bs];cases b2 with
 |false=>exact⟨false,rfl,fun h=>by cases h⟩
 |true=>
 rw [ae (by decide)];have hf:=f1 rfl;have Y:rules.length<=12:=by
  simp only[Bool.or_eq_true,pq,zzX,not_or]at Q;omega
 rcases Rl (f:=fun(o:Int)(W:Bool)=>
  (idx rules o).bind fun y=>
  (Jw t y h).bind fun z=>
  if (!z)=true then
  some (.ret false)
  else
  (if W=true then((idx rules o).bind fun D=>
  some (decide ((D.ne.d4.d3.length:Int)<=3)))else some false).bind fun E=>
  (if E=true then((idx rules o).bind fun F=>
  some (decide ((F.ne.d4.d5.length:Int)<=2)))else some false).bind fun G=>
  (if G=true then((idx rules o).bind fun H=>
  some (decide ((H.fq.d4.d3.length:Int)<=5)))else some false).bind fun I=>
  (if I=true then((idx rules o).bind fun J=>
  (idx rules o).bind fun K=>
  (Ln J.ne K.d7 1).bind fun N=>
  some (N))else some false).bind fun O=>
  some (.next O)) (fun i _=>∀j:Int,0<=j->j<i->Qt (AA rules j)/\Eo (AA rules j).d7<=40) (fun _=>False) (fun r=>r=false) (a:=0) (b:=rules.length) (s:=true) (by omega) (fun j h1 h2=>by omega) (fun i s o u P=>by
   have Z:=AM o u;obtain⟨b3,q,f3⟩:=np hf st (V _ Z) h;simp only[AE o u,bs];rw[q,bs];cases b3 with
   |false=>exact .inr (.inr ⟨false,rfl,rfl⟩)|true=>
    obtain ⟨S,k2⟩:=f3 rfl;obtain⟨U,e4⟩:=dW _ (AA rules i).d7 (AA rules i).ne 1 (az _) S.cond S.left (by omega) (by decide) (by decide);have e5:Ln (AA rules i).ne (AA rules i).d7 1=some U:=EZ _ e4;left;refine⟨(((s&&decide (((AA rules i).ne.d4.d3.length:Int)<=3))&&decide (((AA rules i).ne.d4.d5.length:Int)<=2))&&decide (((AA rules i).fq.d4.d3.length:Int)<=5))&&U,?_,fun j X j1=>?_⟩
    .rw[ae (by decide),e5];cases s<;>cases decide (((AA rules i).ne.d4.d3.length:Int)<=3)<;>cases decide (((AA rules i).ne.d4.d5.length:Int)<=2)<;>cases decide (((AA rules i).fq.d4.d3.length:Int)<=5)<;>rfl
    .by_cases e:j=i
     .rw[e];exact⟨S,k2⟩
     .exact P j X (by omega))with⟨s',q,h3⟩|⟨r,q,h3⟩
 .rw[q,Br];have P:=h3.resolve_right id;have w:ET rules:=⟨Y,fun r w=>by
   obtain ⟨i,o,u,rfl⟩:=Be w;exact P i o u⟩
  rw [ac hf w,bs];exact⟨_,rfl,fun _=>⟨hf,w⟩⟩
 .rw[q,Qp,h3];exact⟨false,rfl,fun h=>by cases h⟩
variable{h:AH}
theorem gO:∃b,Gp h=some b/\(b=true->Ii h):=by
 unfold Gp H1;rw[bs];by_cases f:((!((decide ((h.d4.d3.length:Int)<=45))&&(decide ((h.d4.d5.length:Int)<=90))))||(decide (45<(h.fd.length:Int))))=true
 .rw[a6 f];exact⟨false,rfl,fun h=>by cases h⟩
 rw [ae f,BS (fun i=>decide (12<((AA h.fd i).length:Int))) false]
 .cases e:pc (fun i=>decide (12<((AA h.fd i).length:Int))) 0 h.fd.length with
  |true=>exact⟨false,rfl,fun h=>by cases h⟩
  |false=>
   refine ⟨true,rfl,fun _=>?_⟩;rw[Bk]at e;simp only[Bool.or_eq_true,Bool.not_eq_true',Bool.and_eq_false_iff,decide_eq_false_iff_not,zzX,not_or]at f;refine⟨by omega,by omega,by omega,fun v hv=>?_⟩
   grind [Be]
 .intro i j o _;rw[AE j o,bs,II]
variable{m:AO}
theorem S5(f:(m.d6.d3.length:Int)<=140737488351232)(j:(m.d6.d5.length:Int)<=140737488351232):∃b,E3 m 140=some b/\(b=true->Q5 m):=by
 unfold E3 KX;rw[bs];refine⟨_,rfl,fun h=>?_⟩;rw[Xb (by omega) f (by omega) j]at h;simp only[pq,zzX]at h;exact⟨by omega,by omega,by omega⟩
theorem cy{m:tg}(h:(CZ m).Sm):(m.o3.d6.d3.length:Int)<=140737488351232/\(m.o3.d6.d5.length:Int)<=140737488351232:=by
 have f:TV.Sms [_,_,_,_]:=h;exact⟨(GJ (e:=eI) f.2.1).1,(GJ (e:=eI) f.2.2.1).1⟩
variable{d:AR}
theorem nX(D:∀m∈d.j4,(CZ m).Sm){up:Int}(H:up<=100):∃b,OP d up=some b/\(b=true->Sh d):=by
 obtain ⟨E,F,G⟩:=gO (h:=d.kg);unfold OP;rw[F,bs];by_cases q:((!E)||(decide (up<(d.j4.length:Int))))=true
 .grind
 rw [ae q];simp only[Bool.or_eq_true,Bool.not_eq_true',zzX,not_or,Bool.not_eq_false]at q;rcases Rl (f:=fun(o:Int)(_:Unit)=>
  (idx d.j4 o).bind fun u=>
  (E3 u.o3 140).bind fun w=>
  if (!w)=true then
  some (.ret false)
  else
  some (.next ())) (fun i _=>∀j:Int,0<=j->j<i->Q5 (AA d.j4 j).o3) (fun _=>False) (fun r=>r=false) (a:=0) (b:=d.j4.length) (s:=()) (by omega) (fun j q I=>by omega) (fun i s o z hi=>by
   have y:=cy (D _ (AM o z));obtain⟨b,e,f⟩:=S5 y.1 y.2;rw[AE o z,bs,e,bs];cases b with
   |false=>exact .inr (.inr ⟨false,rfl,rfl⟩)|true=>
    refine .inl ⟨(),rfl,fun j J K=>?_⟩
    grind)with⟨s',e3,h3⟩|⟨r,e3,h3⟩
 .rw[e3,Br];have N:=h3.resolve_right id;refine⟨true,rfl,fun _=>⟨G q.1,by omega,fun m y=>?_⟩⟩
  grind [Be]
 grind [Qp]
structure w8(c:DM):Prop where
 t:(AQ c.T).Sm
 r:∀r∈c.AaH,(Bc r).Sm
 m:∀m∈c.S.ff.j4,(CZ m).Sm
theorem xC{c:DM}(h:(CP c).Sm):w8 c:=by
 have f:TV.Sms [_,_,_,_,_,_,_,_]:=h;exact⟨⟨f.1,f.2.1,trivial⟩,(GJ (e:=Bc) f.2.2.1).2,(GJ (e:=CZ) f.2.2.2.2.2.2.1).2⟩
theorem eJ{c:DM}(h:(CP c).Sm):∃b,KN c=some b/\(b=true->An c.T/\ET c.AaH/\G4 c.S):=by
 have f:=xC h;obtain⟨o,q,u⟩:=nq f.t f.r c.S.ff.kg;obtain⟨E,w,y⟩:=nX (d:=c.S.ff) f.m (up:=33) (by decide);unfold KN Qj;rw[q,bs];cases o with
 |false=>exact⟨false,rfl,fun h=>by cases h⟩
 |true=>
 obtain ⟨z,D⟩:=u rfl;rw[a6 rfl,Il w,bs,bs,bs];refine⟨_,rfl,fun j=>?_⟩;simp only[pq,zzX]at j;exact⟨z,D,y j.1.2,by omega⟩
theorem kU(g:d4):Ms g g=some true:=by
 unfold Ms;rw[Xn,bs,ae (by simp),BS (fun _=>false) false]
 .rw[show pc (fun _=>false) 0 (g.d5.length:Int)=false from Bk.2 fun _ _ _=>rfl];rfl
 grind [AE]
variable{l:Fp}
theorem iH(o:l.length<=1000):Ji l l=some 0:=by
 unfold Ji;rw[MG (fun _=>none) (b:=l.length) (by omega)]
 .rw[show fst (fun _=>(none:Option (Int ⊕ Int))) 0 (l.length:Int)=none from Bz.2 fun _ _ _=>rfl];show some (Aj ((l.length:Int)-l.length))=some 0;rw[Ar (by omega) (by omega),Int.sub_self]
 .intro i j f _;rw[a6 (by simp[f]),AE j f,bs,bs,ae (by simp),Ar (by omega) (by omega)];rfl
 .rw[ae (by simp)]
theorem rK(o:Ii h):Mt h h=some true:=by
 unfold Mt;rw[kU,bs,ae (by simp),BS (fun _=>false) false]
 .rw[show pc (fun _=>false) 0 (h.fd.length:Int)=false from Bk.2 fun _ _ _=>rfl];rfl
 .intro i f j _;rw[AE f j,bs,bs,iH (o.rows _ (AM f j)),bs];simp
theorem oL(l:List tg):H3 l l=some true:=by
 unfold H3;rw[ae (by simp),BS (fun _=>false) false]
 .rw[show pc (fun _=>false) 0 (l.length:Int)=false from Bk.2 fun _ _ _=>rfl];rfl
 .intro i f j _;simp only[AE f j,bs];unfold Ow;simp only[dM,Xn,bs];simp
theorem vC(h:Ii d.kg):Mz d d=some true:=by grind[Mz,rK,oL]
variable{s:AI}
theorem fF(h:G4 s):JU s s=some true:=by
 unfold JU;rw[vC h.d.start,bs,a6 rfl,Xn];simp
theorem Qv(h:ET rules):EG rules=some rules:=by
 have:=h.len
 grind [EG,A1,Ah]
theorem Uc:G4 zS:=⟨⟨⟨by simp,by simp,by simp,fun v hv=>by cases hv⟩,by simp,fun m f=>by cases f⟩,by simp⟩
theorem Pa(c:DM)(u:(CP c).Sm):E5 c=some true:=by
 obtain ⟨b,e,f⟩:=eJ u;unfold E5;rw[VT,bs,ae (by decide),e,bs,bs];cases b with
 |false=>rfl|true=>
 obtain ⟨hf,o,j⟩:=f rfl;rw[ae (by decide),Qv o,bs,Pc j,bs,oG hf o,bs,dT hf o,bs,a6 (by simp)];have q:G4 (SB c.T c.AaH c.S).1:=by
  unfold SB;split
  .exact Uc
  unfold QP;split
  .exact Uc
  .have y:=j.d.len;have q:=j.marks;exact⟨⟨j.d.start,by show(List.take _ _).length<=1000;rw[cE];omega,fun m w=>j.d.moves m (List.mem_of_mem_take w)⟩,by show(List.take _ _).length<=1000;rw[cE];omega⟩
 rw [fF q];rfl
theorem TT(c:DM)(m:tg)(y:(CP c).Sm)(sm:(CZ m).Sm):HQ c m=some true:=by
 obtain ⟨b,e,f⟩:=eJ y;have w:=cy sm;obtain⟨E,F,_⟩:=S5 w.1 w.2;unfold HQ;rw[VT,bs,ae (by decide),e,bs,bs];cases b with
 |false=>rfl|true=>
 rw [ae (by decide),F,bs,bs];cases E with
 |false=>rfl|true=>
 obtain ⟨hf,o,G⟩:=f rfl;rw[ae (by decide),Qv o,bs,Pc G,bs,u7 hf o,bs,ma hf o,bs,a6 (by simp)];have D:G4 (Zh c.T c.AaH c.S m).1:=by
  unfold Zh;split
  .exact Uc
  rename_i q;have q:=Ld.1 (Classical.not_not.1 q);by_cases j:(Md c.T c.AaH c.S m).2=0
  .have u:=gA q (a:=⟨1,m⟩) j;exact Ni.small hf o (s:=(Md c.T c.AaH c.S m).1) u
  .have u:(Md c.T c.AaH c.S m).1=zS:=by
    unfold Md at j|-;split at j
    .rename_i z;rw[a6 z]
    .exact absurd rfl j
   rw [u];exact Uc
 rw [fF D];rfl
theorem gH{l:List BJ}{f:BJ->K1}{p:BJ->Bool}(h:∀x∈l,f x=some (p x)):DP l f=some (l.any p):=EW h
theorem gB{a:BJ}(h:(Dk a).Sm):(a.tg.o3.d6.d3.length:Int)<=140737488351232/\(a.tg.o3.d6.d5.length:Int)<=140737488351232:=by
 have f:TV.Sms [_,_,_,_,_]:=h;exact⟨(GJ (e:=eI) f.2.2.1).1,(GJ (e:=eI) f.2.2.2.1).1⟩
theorem ST(c:DM)(l:List BJ)(y:(CP c).Sm)(sl:∀a∈l,(Dk a).Sm):Ge c l=some true:=by
 obtain ⟨b,e,f⟩:=eJ y;unfold Ge;rw[VT,bs,ae (by decide),e,bs,bs];cases b with
 |false=>rfl|true=>
 obtain ⟨hf,j,D⟩:=f rfl;have z:∀a∈l,∃b,CY a=some b:=fun a o=>by
  have w:=gB (sl a o);obtain⟨H,E,_⟩:=S5 w.1 w.2;unfold CY;rw[E];exact⟨_,rfl⟩
 have q:DP l CY=some (l.any fun a=>(CY a).getD false):=gH fun a o=>by
  obtain ⟨b,F⟩:=z a o;rw[F];rfl
 by_cases u:(((!true||((decide (5<(l.length:Int)))&&(decide ((l.length:Int)<=100))))||(decide (110<(l.length:Int)))))=true
 .rw[a6 u,bs,a6 rfl];rfl
 rw [ae u,q,bs,bs];cases l.any fun a=>(CY a).getD false with
 |true=>rfl|false=>
 have G:l.length<=110:=by
  simp only[Bool.or_eq_true,pq,zzX,not_or]at u;omega
 unfold HT;rw[ae (by decide),Qv j,bs,Pc D,bs,A1 (by unfold Ah;omega),bs,rC hf j,bs,rX hf j,bs,a6 (by simp),fF (il hf j)];rfl
end Go.Sf.Sc
