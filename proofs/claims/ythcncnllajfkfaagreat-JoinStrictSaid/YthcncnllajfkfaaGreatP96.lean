/- Plain lemmas: what the functions of the program and of the reference compute. -/
import Derived.Test.YthcncnllajfkfaaGreatP46
set_option linter.all false
set_option maxRecDepth 100000
open Option renaming some->Y,none->W
open Bool renaming true->X,false->T
open List renaming mem_filter->v1,mem_map->v5,mem_cons_of_mem->v6,mem_cons->v_,foldl_append->v!,mem_append_left->v?,map_map->w_,length_filter_le->w!,map_id->w?,ext_getElem->x_,take_length->x!,length_replicate->x?,getElem_map->y_,getElem_replicate->y!,map_append->y?,map_congr_left->z_,map_singleton->z!,append_nil->z?,mem_cons_self->A_,getElem?_eq_some_iff->A',map->A!,length->A?,mem_append->B_,take_left'->B',map_id'->B!,getElem_mem->B?
open Bool renaming true_and->C_,or_eq_false_iff->C',eq_iff_iff->C!,or_eq_true->C?,false_and->D_,eq_false_iff->D'
open Classical renaming not_not->D!,propDecidable->D?
open Int renaming toNat_natCast->E_,add_zero->E',add_assoc->E!,le_refl->E?,ofNat_le->F_,mul_le_mul->F!
namespace Go.Sf.Sc
open Go Go.Sf
def UG(p g:dr)(m:d4):dr:=⟨m.dl.map (AA g.dl),p.d3⟩
variable{l:Fp}
theorem Rl{n x:Int}:x∈Bc l n↔(0<=x/\x<n)/\x∉l:=by
 unfold Bc;rw[v1];constructor
 .grind[Int.natCast_nonneg,CQ]
 .rintro⟨⟨e,j⟩,o⟩;refine⟨v5.2 ⟨x.toNat,List.mem_range.2 U,Int.toNat_of_nonneg e⟩,?_⟩
  grind [hasB,CQ]
theorem O0(l:Fp)(n:Int):(Bc l n).Pairwise (·<·):=by grind[Bc,List.pairwise_lt_range.imp]
def Fh(fd fq:Fp):Fp:=(Bc fq fd.length).map (AA fd)
theorem VK{fd fq:Fp}{x:Int}:x∈Fh fd fq↔∃i:Int,(0<=i/\i<fd.length)/\i∉fq/\AA fd i=x:=by grind[Fh,Rl]
def Aak(fd fq:Fp):Bool:=kg (λa=>kg (λb=>decide (AA fd a=AA fd b)&&(!hasB fq a||!hasB fq b)) (a+1) fd.length) 0 fd.length
variable{a b:Int}
theorem l5{fd fq:Fp}(h:Aak fd fq=T)(a0:0<=a)(a1:a<fd.length)(w:0<=b)(u:b<fd.length)(ha:a∈fq)(e:AA fd a=AA fd b):b∈fq:=by
 unfold Aak at h;rw[B6]at h;by_cases o:a=b
 .exact o▸ha
 by_cases y:a<b
 .have j:=h a a0 a1;rw[B6]at j;have s:=j b U u;rw[decide_eq_true e,C_,C']at s
  grind [CQ]
 .have j:=h b w u;rw[B6]at j;have s:=j a U a1;rw[decide_eq_true e.symm,C_,C']at s
  grind [CQ]
variable{i:Int}
theorem VO{fd fq:Fp}(h:Aak fd fq=T)(e:0<=i)(i1:i<fd.length)(j:i∈fq):AA fd i∉Fh fd fq:=by grind[VK,l5]
def PN(g:dr)(fq:BN)(m:d4)(i:Int):Bool:=
 !hasB m.d3 i&&(hasB (Fh m.dl fq.dl) (AA g.d3 i).hV||hasB (Fh m.dl fq.dl) (AA g.d3 i).To)
def OV(g:dr)(fq:BN)(m:d4):BN:=⟨Bc (Fh m.dl fq.dl) g.dl.length,Bc (Fh m.d3 fq.d3) g.d3.length⟩
def PJ(l g:dr)(fq:BN)(m:d4):BN×Int:=
 if Ko l g m≠0 then(⟨[],[]⟩,Ko l g m)else if Fo l fq≠0 then(⟨[],[]⟩,Fo l fq)else
 if (Aak m.dl fq.dl||Aak m.d3 fq.d3)=X then(⟨[],[]⟩,15)else
 if kg (PN g fq m) 0 g.d3.length=X then(⟨[],[]⟩,14)else(OV g fq m,0)
structure dM(l g:dr)(fq:BN)(m:d4):Prop where
 mor:cg l g m
 part:dQ l fq
 ea:Aak m.dl fq.dl=T
 eg:Aak m.d3 fq.d3=T
 free:∀i:Int,0<=i->i<g.d3.length->PN g fq m i=T
variable{g:dr}
theorem gL{p:BN}(h:Fo g p=0):CL g=0/\Qa g p=0:=by grind[Fo]
theorem ZJ{l g:dr}{fq:BN}{m:d4}(h:(PJ l g fq m).2=0):dM l g fq m/\PJ l g fq m=(OV g fq m,0):=by
 unfold PJ at h|-;split at h
 .grind
 rename_i j;rw[ac j];split at h
 .grind
 rename_i o;rw[ac o];split at h
 .grind
 rename_i e;rw[ac e];split at h
 .grind
 rename_i s;rw[ac s];simp[not_or]at e;exact⟨⟨V8 (D!.1 j),Vd (gL (D!.1 o)).2,e.1,e.2,B6.1 (by simpa using s)⟩,rfl⟩
theorem pK{l g:dr}{fq:BN}{m:d4}(h:dM l g fq m):Qa g (OV g fq m)=0:=by
 have y:=h.mor;have G:=y.gb;have H:∀x∈(OV g fq m).dl,0<=x/\x<g.dl.length:=λx s=>Gu s;have I:∀x∈(OV g fq m).d3,0<=x/\x<g.d3.length:=λx s=>Gu s;have o:∀{l:Fp}{n:Int},(∀x∈l,0<=x/\x<n)->l.Pairwise (·<·)->R7 l n=0:=by
  grind [R7,Bf,AI,N4]
 unfold Qa;rw[o H (O0 _ _),o I (O0 _ _)];simp;rw[Bf.2 λi F i1=>?_]
 .rfl
 have s:=AI F i1;generalize AA (OV g fq m).d3 i=x at s;have j:(0<=x/\x<g.d3.length)/\x∉Fh m.d3 fq.d3:=Rl.1 s;have hf:=G.fit _ (AI j.1.1 j.1.2);have z:(AA g.d3 x).hV∉Fh m.dl fq.dl/\(AA g.d3 x).To∉Fh m.dl fq.dl:=by
  by_cases hi:x∈m.d3
  .obtain⟨k,D,E,e⟩:=Bh hi;have u:k∈fq.d3:=by
    by_cases u:k∈fq.d3
    .exact u
    .exact absurd (VK.2 ⟨k,⟨D,E⟩,u,e⟩) j.2
   have ends:=h.part.ends k u;have he:=y.edge k D E;rw[e]at he;have hr:=h.part.ea.1;have J:=hr _ ends.1;have K:=hr _ ends.2;have N:=y.t2;rw[<-he.2.2.1,<-he.2.2.2];exact⟨VO h.ea J.1 U ends.1,VO h.ea K.1 U ends.2⟩
  .have hd:=h.free x j.1.1 j.1.2;unfold PN at hd;rw[show hasB m.d3 x=T from by cases hb:hasB m.d3 x with|false=>rfl|true=>exact absurd (CQ.1 hb) hi,Bool.not_false,C_,C']at hd;exact⟨λw=>by rw[CQ.2 w]at hd;exact absurd hd.1 a!,λw=>by rw[CQ.2 w]at hd;exact absurd hd.2 a!⟩
 grind [hasB,OV,AA,CQ,Rl]
def JE(n:Nat)(l:Fp):Fp:=(A3 n).map (Di l)
variable{v:Int}
theorem ZR(h:v∉l):Di l v=-1:=by grind[Di,Bf,AI]
theorem Rv(l:Fp)(v:Int):-1<=Di l v/\Di l v<l.length:=by
 by_cases h:v∈l
 .have:=JR h;omega
 .rw[ZR h];omega
theorem PW:0<=Di l v↔v∈l:=by grind[ZR,JR]
theorem LC(n:Nat)(l:Fp):(JE n l).length=n:=by unfold JE;rw[c9,A4]
variable{n:Nat}
theorem Uk(e:0<=i)(j:i<n):AA (JE n l) i=Di l i:=Iw _ e j
theorem ef(h:l.Nodup)(e:0<=i)(i1:i<l.length):Di l (AA l i)=i:=by
 have j:=JR (AI e i1)
 grind [Di,AA,N4]
def SA(fq into at_:Fp)(n i:Int):Int:=if hasB into i=X then AA at_ (AA fq (Di into i))else n+(Bc into i).length
def U9(count:Nat)(fq into at_:Fp)(n:Int):Fp:=(A3 count).map (SA fq into at_ n)
theorem ZI(count:Nat)(fq into at_:Fp)(n:Int):(U9 count fq into at_ n).length=count:=by unfold U9;rw[c9,A4]
variable{count:Nat}
theorem ng{fq into at_:Fp}{n i:Int}(e:0<=i)(j:i<count):AA (U9 count fq into at_ n) i=SA fq into at_ n i:=Iw _ e j
theorem ME(h:0<=i):((Bc l i).length:Int)<=i:=by grind[S3]
end Go.Sf.Sc
namespace Go.Sf.Sc
open Go Go.Sf
variable{α:Type}
theorem Xe{P:List α->Prop}(e:P [])(j:∀l a,P l->P (l++[a]))(l:List α):P l:=by
 have:∀l:List α,P l.reverse:=by
  intro l
  induction l with
  |nil=>exact e|cons a l o=>rw[List.reverse_cons];exact j _ _ o
 rw [<-List.reverse_reverse l];exact this _
def RJ(L:Bq):Bq:=L.foldl (λm p=>m.set p.1 p.2) []
theorem fY(L:Bq)(p:(Int×Int)×Int):RJ (L++[p])=(RJ L).set p.1 p.2:=by
 unfold RJ
 grind
def Tk(L:Bq):Prop:=∀p∈L,∀q∈L,p.1=q.1->p.2=q.2
variable{k:Int×Int}{v:Int}
theorem VP:∀{m:Bq},m.look k=Y v->(k,v)∈m
 |[],h=>c_
 |p::r,h=>by
  unfold Bq.look at h;split at h
  .grind
  .exact v6 _ (VP h)
theorem bI:∀{m:Bq},m.look k=W->∀p∈m,p.1≠k
 |[],_,p,j=>by cases j
 |q::r,h,p,j=>by
  unfold Bq.look at h;split at h
  .cases h
  .rename_i e;rcases v_.1 j with rfl|j
   .exact e
   .exact bI h p j
theorem kf:∀{m:Bq},m.look k=W->m.set k v=m++[(k,v)]
 |[],_=>rfl|p::r,h=>by
  unfold Bq.look at h;unfold Bq.set;split at h
  .cases h
  next e=>rw[ac e,kf h];rfl
theorem iI:∀{m:Bq},m.look k=Y v->m.set k v=m
 |[],h=>c_
 |p::r,h=>by
  unfold Bq.look at h;unfold Bq.set;split at h
  .grind
  next e=>rw[ac e,iI h]
theorem lq(κ:List Fp)(p:(Int×Int)×Int):Cl (Cl κ p) p=Cl κ p:=by
 unfold Cl;split
 .apply List.ext_getElem?
  grind [Option.map_eq_map,Option.map_map,List.set_set]
 .rfl
theorem qe{m:Bq}(hd:m.Dis){p:(Int×Int)×Int}(e:p∈m)(κ:List Fp):Cl (m.foldl Cl κ) p=m.foldl Cl κ:=by
 have j:m.Perm (m.erase p++[p]):=(List.perm_cons_erase e).trans (List.perm_append_singleton p (m.erase p)).symm;rw[<-X7 hd j κ,v!];exact lq _ _
theorem Tk.sub{L M:Bq}(h:Tk L)(e:∀p∈M,p∈L):Tk M:=λp j q o=>h p (e p j) q (e q o)
theorem j9(L:Bq):Tk L->(RJ L).Dis/\(∀p,p∈RJ L↔p∈L)/\∀κ,(RJ L).foldl Cl κ=L.foldl Cl κ:=by
 refine Xe (P:=λL=>Tk L->(RJ L).Dis/\(∀p,p∈RJ L↔p∈L)/\∀κ,(RJ L).foldl Cl κ=L.foldl Cl κ) (λ_=>⟨List.Pairwise.nil,λp=>Iff.rfl,λκ=>rfl⟩) (λL p j e=>?_) L;obtain⟨y,w,z⟩:=j (e.sub λq o=>v? _ o);rw[fY];cases s:(RJ L).look p.1 with
 |none=>
  grind [kf,Bq.set_dis]
 |some v=>
  have u:=VP s;have hv:v=p.2:=e (p.1,v) (v? _ ((w _).1 u)) p V rfl
  grind [iI,List.mem_singleton,qe]
def RS(L:Bq):Bool:=kg (λi=>kg (λk=>decide ((AA L k).1=(AA L i).1)&&!decide ((AA L k).2=(AA L i).2)) 0 i) 0 L.length
variable{L:Bq}
theorem aM(h:RS L=T):Tk L:=by
 intro p s q u e;obtain⟨a,a0,a1,rfl⟩:=Bh s;obtain⟨b,w,y,rfl⟩:=Bh u;unfold RS at h;rw[B6]at h;by_cases j:a=b
 .rw[j]
 by_cases z:a<b
 .have o:=h b w y;rw[B6]at o
  grind
 .have o:=h a a0 a1;rw[B6]at o
  grind
theorem eQ(L:Bq)(κ:List Fp):NE (L.foldl Cl κ) κ:=by
 induction L generalizing κ with
 |nil=>rfl|cons p r e=>exact(e (Cl κ p)).trans (aU κ p)
end Go.Sf.Sc
namespace Go.Sf.Sc
open Go Go.Sf
variable{t:AC}{p g:dr}
theorem U6{m:d4}{inj:Bool}(h:Gx t p g m inj=0):E5 t p g=0/\OX t p g m=0/\aC t p g m:=by grind[dm,Gx]
theorem nf{m:d4}{inj:Bool}(h:Gx t p g m inj=0):Gx t p g m T=0:=by grind[U6,Gx]
variable{α:Type}
theorem Q7[Inhabited α](l:List α):(A3 l.length).map (AA l)=l:=by grind[Xv,c9,A4,Iw]
variable{β:Type}
theorem Yb[Inhabited α](l:List α)(f:α->β):l.map f=(A3 l.length).map λj=>f (AA l j):=by
 rw [show(λj=>f (AA l j))=f∘AA l from rfl,<-w_,Q7]
theorem yM(hf:A0 t){m:d4}{inj:Bool}(h:Gx t p g m inj=0):Ge t p g m=Y (UG p g m,0):=by
 obtain ⟨e,u,j⟩:=U6 h;obtain⟨_,o,y,_⟩:=Of e;unfold Ge;rw[WI hf,bs,ac b?,bS hf e,bs,ac k?];unfold DL;have:=o.ea;have:=o.eg;have:=j.t2;rw[Be a?,bs];rw[UB U (λx s=>?_) p.d3]
 .rfl
 .obtain⟨i,w,i1,rfl⟩:=Bh s;exact(j.node i w i1).1
theorem yi(hf:A0 t){m:d4}{inj:Bool}(h:Gx t p g m inj=0):HM t p g m=Y (UG p g m,0):=by
 obtain ⟨y,D,u⟩:=U6 h;obtain⟨_,w,E,_⟩:=Of y;have:=w.ea;have:=w.eg;have z:=u.t2;unfold HM Kr;rw[Z2 hf,bs,ac (by simp[nf h]),Be a?,bs,Be a?,bs,bs];rw[P1 (λi=>dr.mk ((A3 p.dl.length).map λj=>if j<i then AA g.dl (AA m.dl j)else AA p.dl j) p.d3) (a:=0) (b:=p.dl.length) U]
 .have e:((A3 p.dl.length).map λj=>if j<(p.dl.length:Int)then AA g.dl (AA m.dl j)else AA p.dl j)=m.dl.map (AA g.dl):=by
   grind [Yb,Cu]
  rw [e];rfl
 .congr 1;rw[<-Q7 p.dl,c9,A4]
  grind [Cu,Q7]
 .intro i o i1;have s:=u.node i o U;simp[A4];rw[a6 d!,AD o U,bs,AD s.1.1 s.1.2,bs,AD o m_,bs,Io _ o,A1 U U]
  grind
 grind [c9,A4]
variable{n:Nat}{f:Int->List α->Option (List α)}
theorem Oq(q:Int->Bool)(F:Int->α)(h:∀i s,0<=i->i<(n:Int)->s.length<=i.toNat->f i s=Y (if q i=X then s++[F i]else s)):ls f 0 n []=Y (((A3 n).filter q).map F):=by
 have e:∀k:Nat,(((A3 k).filter q).map F).length<=k:=λk=>by
  rw [c9];exact Nat.le_trans (w! _ _) (by rw[A4];exact ae _)
 have:=By (f:=f) (s:=[]) (λi=>((A3 i.toNat).filter q).map F) (a:=0) (b:=n) U rfl (λi j i1=>by
  grind [Hh])
 grind
theorem eE{q:Int->Bool}{F:Int->α}:decide (0<((((A3 n).filter q).map F).length:Int))=kg q 0 n:=by
 rw [C!,sA,Ee,c9];constructor
 .intro h;have j:(A3 n).filter q≠[]:=λe=>by rw[e]at h;simp at h
  obtain ⟨x,u⟩:=List.exists_mem_of_ne_nil _ j
  grind [Dx]
 .rintro⟨i,o,i1,s⟩;have:i∈(A3 n).filter q:=v1.2 ⟨Dx.2 ⟨o,i1⟩,s⟩
  grind
theorem oX{x:DJ}(e:x.m.dl.length<=1000):D3 x=Y (Fh x.m.dl x.fq.dl):=by
 unfold D3;rw[Oq (λi=>!hasB x.fq.dl i) (AA x.m.dl)]
 .rfl
 grind [AD,Mm,hasB,AV,AY]
theorem XS{fd fq:Fp}(e:fd.length<=1000):LU fd fq=Y (Fh fd fq):=by
 unfold LU;rw[Oq (λi=>!hasB fq i) (AA fd)]
 .rfl
 grind [Ek,hasB,LP,AD,AV,AY]
theorem mN{x:DJ}(e:x.m.dl.length<=1000)(he:x.g.d3.length<=1000):Dn x=Y ((A3 x.g.d3.length).filter (PN x.g x.fq x.m)):=by
 unfold Dn;rw[oX e,bs,Oq (PN x.g x.fq x.m) id]
 .rw[bs,w?]
 .intro i s j i1 o;rw[AD j i1,bs,Mm,bs,Mm,bs,Mm,bs];unfold PN;change (if(!hasB x.m.d3 i)=X then(if hasB (Fh x.m.dl x.fq.dl) (AA x.g.d3 i).hV=X then Y X else Y (hasB (Fh x.m.dl x.fq.dl) (AA x.g.d3 i).To)).bind _ else Y T).bind _=_;cases hasB x.m.d3 i<;>cases hasB (Fh x.m.dl x.fq.dl) (AA x.g.d3 i).hV<;>cases hasB (Fh x.m.dl x.fq.dl) (AA x.g.d3 i).To<;>simp[AV (show s.length+[i].length<=AY by simp;unfold AY;omega)]
theorem mT{l g:dr}{fq:BN}{m:d4}(e:m.dl.length<=1000)(he:g.d3.length<=1000):Ks l g fq m=Y ((A3 g.d3.length).filter (PN g fq m)):=by
 unfold Ks;rw[XS e,bs,Oq (PN g fq m) id]
 .rw[bs,w?]
 .intro i s j i1 o;have hh:∀(l:Fp)(v:Int),Ek l v=Y (hasB l v):=LP;simp[AD j i1,hh];unfold PN;cases hasB m.d3 i<;>cases hasB (Fh m.dl fq.dl) (AA g.d3 i).hV<;>cases hasB (Fh m.dl fq.dl) (AA g.d3 i).To<;>simp[AV (show s.length+[i].length<=AY by simp;unfold AY;omega)]
variable{a i:Int}
theorem Sa{p:Int->Bool}(h:a<=i):kg p a (i+1)=(kg p a i||p i):=by
 rw [C!,C?,Ee,Ee]
 grind
theorem Yq{fd fq:Fp}(H:fd.length<=100){f:Int->Int->List J6->Option (List J6)}(hf:∀(i j:Int)s,0<=i->i<fd.length->i<j->j<fd.length->s.length<=20000->f i j s=Y (if(decide (AA fd i=AA fd j)&&(!hasB fq i||!hasB fq j))=X then s++[J6.mk i j]else s)):
  ∃l,ls (λ(e:Int)(o:List J6)=>(ls (λ(i2:Int)(s2:List J6)=>f e i2 s2) (At (e+1)) (fd.length:Int) o).bind λs2=>Y s2) 0 (fd.length:Int) []=Y l/\l.length<=10000/\decide (0<l.length)=Aak fd fq:=by
 have key:=SB (f:=λ(e:Int)(o:List J6)=>(ls (λ(i2:Int)(s2:List J6)=>f e i2 s2) (At (e+1)) (fd.length:Int) o).bind λs2=>Y s2) (s:=[])
  (λi s=>(s.length:Int)<=100*i/\decide (0<s.length)=kg (λa=>kg (λb=>decide (AA fd a=AA fd b)&&(!hasB fq a||!hasB fq b)) (a+1) fd.length) 0 i) (a:=0) (b:=fd.length) U
  (by refine⟨V,?_⟩;rw[B6.2 (λi y z=>U)];rfl) (λi s e i1 D=>by
   have u:=SB (f:=λ(i2:Int)(s2:List J6)=>f i i2 s2) (s:=s)
    (λj s'=>(s'.length:Int)<=100*i+(j-(i+1))/\decide (0<s'.length)=(decide (0<s.length)||kg (λb=>decide (AA fd i=AA fd b)&&(!hasB fq i||!hasB fq b)) (i+1) j)) (a:=i+1) (b:=fd.length) U
    (by refine⟨by have:=D.1;omega,?_⟩;rw[B6.2 (λi y z=>U),Bool.or_false]) (λj s' I E w=>by
     refine ⟨_,hf i j s' e i1 U E (by have:=w.1;omega),?_,?_⟩
     .grind
     .rw[Sa U,<-Bool.or_assoc,<-w.2]
      grind)
   grind [A1,Sa])
 obtain ⟨l,F,J,G⟩:=key;exact⟨l,F,U,G⟩
theorem kK{fd fq:Fp}(F:fd.length<=100):∃l,HC fd fq=Y l/\l.length<=10000/\decide (0<l.length)=Aak fd fq:=by
 unfold HC;obtain⟨l,J,K⟩:=Yq (fq:=fq) F (f:=λe i2 s2=>
  (idx fd e).bind λo=>
  (idx fd i2).bind λu=>
  (if(decide (o=u))=X then((slices_Contains_int fq e).bind λw=>
  (if(!w)=X then Y X else((slices_Contains_int fq i2).bind λy=>
  Y (!y))).bind λz=>
  Y (z))else Y T).bind λD=>
  if D=X then
  (Aw s2 [J6.mk e i2]).bind λE=>
  Y E
  else
  Y s2) (λi j s e i1 H G I=>by
   have hh:∀(l:Fp)(v:Int),slices_Contains_int l v=Y (hasB l v):=Mm;simp[AD e i1,AD (show 0<=j by omega) G,hh]
   grind [AA,hasB,AV,AY])
 grind
theorem kV{fd fq:Fp}(F:fd.length<=100):∃l,HL fd fq=Y l/\l.length<=10000/\decide (0<l.length)=Aak fd fq:=by
 unfold HL;obtain⟨l,J,K⟩:=Yq (fq:=fq) F (f:=λe i2 s2=>
  (idx fd e).bind λo=>
  (idx fd i2).bind λu=>
  (if(decide (o=u))=X then((Ek fq e).bind λw=>
  (if(!w)=X then Y X else((Ek fq i2).bind λy=>
  Y (!y))).bind λz=>
  Y (z))else Y T).bind λD=>
  if D=X then
  (Aw s2 [J6.mk e i2]).bind λE=>
  Y E
  else
  Y s2) (λi j s e i1 H G I=>by
   have hh:∀(l:Fp)(v:Int),Ek l v=Y (hasB l v):=LP;simp[AD e i1,AD (show 0<=j by omega) G,hh]
   grind [AA,hasB,AV,AY])
 grind
variable{l:Fp}
theorem gh(h:n<=1000):Na n l=Y (Bc l n):=by
 unfold Na;rw[Vk (f:=Ek l) U U (λi=>LP l i)];rfl
theorem gH{fd fq:Fp}(z:n<=1000)(hi:∀x∈fd,0<=x/\x<n):Ht n fd fq=Y (Bc (Fh fd fq) n):=by
 unfold Ht Hv;rw[a6 U,bs];rw[By (λi=>(A3 n).map λk=>kg (λj=>!hasB fq j&&decide (AA fd j=k)) 0 i) U]
 .rw[bs,c9,A4,Oq (λi=>!hasB (Fh fd fq) i) id]
  .rw[bs,w?];rfl
  .intro i s o i1 F;rw[AD o m_,bs,Iw _ o i1];have e:kg (λj=>!hasB fq j&&decide (AA fd j=i)) 0 fd.length=hasB (Fh fd fq) i:=by
    rw [C!,Ee,CQ,VK];constructor
    .rintro⟨j,w,y,h⟩;rw[ne,sA]at h
     grind [CQ]
    .rintro⟨j,⟨w,y⟩,G,h⟩;refine⟨j,w,y,?_⟩;rw[ne,sA]
     grind [hasB,CQ]
   grind [hasB,Fh,AV,AY]
 .refine x_ (by simp[A4]) (λk D E=>?_)
  grind [E_,B6]
 .intro i o i1;have u:=hi _ (AI o i1);have hh:∀(l:Fp)(v:Int),slices_Contains_int l v=Y (hasB l v):=Mm;rw[AD o i1,bs,hh,bs];cases hb:hasB fq i
  .rw[a6 a!,AD u.1 (by rw[c9,A4];exact u.2),bs,Io _ u.1]
   grind [Cu,Sa,AA]
  grind [Cu,Sa]
theorem kw{a b:Nat}(ha:a<=10000)(hb:b<=10000):decide (0<At ((a:Int)+(b:Int)))=(decide (0<a)||decide (0<b)):=by
 rw [A1 U U,C!,C?]
 grind
theorem yH{l g:dr}{fq:BN}{m:d4}(y:S6 fq):H5 l g fq m=Y (PJ l g fq m):=by
 unfold H5 Dc PJ;simp only[];rw[ct,bs,kL y,bs];by_cases o:¬Ko l g m=0
 .grind
 have o:=D!.1 o;rw[ac p?,bs,ac (show¬Ko l g m≠0 by simp[o])];refine D2 λJ=>?_;have j:=V8 o;have a1:=j.ga.ea;have O:=j.ga.eg;have P:=j.t2;have Q:=j.wi;have S:=j.gb.ea;have ε:=j.gb.eg;unfold EN;obtain⟨u,z,D,E⟩:=kK (fq:=fq.dl) (fd:=m.dl) U;obtain⟨v,G,H,I⟩:=kK (fq:=fq.d3) (fd:=m.d3) U;simp only[];rw[z,bs,G,bs,bs];simp only[];rw[kw D H,E,I];refine dk λK=>?_;rw[mN (by show m.dl.length<=1000;omega) (by show g.d3.length<=1000;omega),bs];have e:=eE (n:=g.d3.length) (q:=PN g fq m) (F:=id);rw[w?]at e;rw[e];refine dk λN=>?_;rw[gH U (λx s=>?_),bs,gH U (λx s=>?_),bs]
 .rfl
 .obtain⟨i,w,i1,rfl⟩:=Bh s;exact(j.edge i w i1).1
 .obtain⟨i,w,i1,rfl⟩:=Bh s;exact(j.node i w i1).1
theorem ya{l g:dr}{fq:BN}{m:d4}(s:S6 fq):SP l g fq m=Y (PJ l g fq m):=by
 unfold SP Qf PJ;rw[dH,bs,Z3 s,bs];by_cases o:¬Ko l g m=0
 .grind
 have o:=D!.1 o;rw[ac p?,bs,ac (show¬Ko l g m≠0 by simp[o])];refine D2 λH=>?_;have j:=V8 o;have a1:=j.ga.ea;have K:=j.ga.eg;have N:=j.t2;have O:=j.wi;have P:=j.gb.ea;have Q:=j.gb.eg;obtain⟨u,w,y,z⟩:=kV (fq:=fq.dl) (fd:=m.dl) U;obtain⟨v,D,E,G⟩:=kV (fq:=fq.d3) (fd:=m.d3) U;rw[w,bs,D,bs,kw y E,z,G];refine dk λI=>?_;rw[mT U U,bs];have e:=eE (n:=g.d3.length) (q:=PN g fq m) (F:=id);rw[w?]at e;rw[e];refine dk λJ=>?_;rw[XS U,bs,gh U,bs,XS U,bs,gh U,bs];rfl
end Go.Sf.Sc
namespace Go.Sf.Sc
open Go Go.Sf
variable{α β:Type}
theorem SG[Inhabited α]{l:List α}{F:α->β}{f:Int->List β->Option (List β)}(h:∀(i:Int)s,0<=i->i<l.length->s.length<=i.toNat->f i s=Y (s++[F (AA l i)])):ls f 0 l.length []=Y (l.map F):=by
 have:=By (f:=f) (s:=[]) (λi=>(l.take i.toNat).map F) (a:=0) (b:=l.length) U V (λi e i1=>by
  grind [c9,bk,BU])
 rwa [E_,x!]at this
variable{n:Nat}{l:Fp}
theorem kO(F:n<=1000)(y:l.length<=1000)(o:l.Pairwise (·<·)):Nj n l=Y (JE n l):=by
 unfold Nj Hv;rw[a6 U,bs,E_,x?,By (λi=>(A3 n).map λj=>if j<i then Di l j else 0) U]
 .rw[bs];congr 1;exact Cu λj z s=>a6 s
 .refine x_ (by simp[A4]) (λk D G=>?_);have e:(A3 n)[k]'(by simpa[A4]using D)=(k:Int):=by simp[A3]
  simp only[y_,y!,e];rw[ac U]
 .intro i u i1;rw[UT y o,bs,AD u m_,bs];have e:∀v:Int,v=Di l i->Y (BR ((A3 n).map λj=>if j<i then Di l j else 0) i v)=Y ((A3 n).map λj=>if j<i+1 then Di l j else 0):=by
   rintro v rfl;rw[Io _ u];congr 1;refine Cu λj z s=>?_;by_cases e:j=i
   .rw[a6 e,a6 U,e]
   .rw[ac e];by_cases w:j<i
    .rw[a6 w,a6 U]
    .rw[ac w,ac U]
  cases hb:hasB l i with
  |false=>
   rw [a6 q?];exact e _ (ZR λE=>by rw[CQ.2 E]at hb;cases hb).symm
  |true=>
   rw [ac V];exact e _ (W4 o (CQ.1 hb))
theorem gQ(J:n<=1000)(K:l.length<=1000)(E:l.Nodup):NZ l n=Y (JE n l):=by
 unfold NZ;rw[By (λk=>(A3 k.toNat).map (Di l)) U q?]
 .rfl
 .intro k u N;have s:((A3 k.toNat).map (Di l)).length=k.toNat:=by rw[c9,A4]
  have I:(A3 k.toNat).map (Di l)++[-1]=(A3 (k+1).toNat).map λj=>if j<k then Di l j else if Di l k<0 then Di l k else -1:=by
   rw [Hh u,y?];congr 1
   .grind[z_,Dx]
   .rw[z!,ac U];have:=Rv l k
    grind
  rw [AV (by rw[s];simp;unfold AY;omega),bs,I,By (λi=>(A3 (k+1).toNat).map λj=>if j<k then Di l j else if Di l k<i then Di l k else -1) U rfl]
  .rw[bs];congr 1;refine z_ λj F=>?_;have:=Dx.1 F;split
   .rfl
   .have e:j=k:=U
    rw [a6 (Rv l k).2,e]
  .intro i w i1;rw[AD w i1,bs];by_cases e:AA l i=k
   .have y:Di l k=i:=by rw[<-e];exact ef E w i1
    rw [a6 b?,AD u (by rw[c9,A4];omega),bs,Io _ u];congr 1;refine Cu λj G H=>?_;by_cases z:j=k
    .rw[a6 z,ac U,a6 U,y]
    .rw[ac z];by_cases o:j<k
     .rw[a6 o,a6 o]
     .omega
   .have y:Di l k≠i:=λh=>by
     have:=(JR (PW.1 (show 0<=Di l k by omega))).2.2.1;rw[h]at this;exact e this
    rw [ac b?];congr 1;refine Cu λj G H=>?_;by_cases o:j<k
    .rw[a6 o,a6 o]
    .rw[ac o,ac o];by_cases D:Di l k<i
     .rw[a6 D,a6 U]
     .rw[ac D,ac U]
structure Vw(count:Nat)(fq into at_:Fp):Prop where
 few:count<=1000
 nodup:into.Nodup
 len:into.length=fq.length
 inn:∀x∈into,0<=x/\x<count
 kin:∀x∈fq,0<=x/\x<at_.length
 pos:∀x∈fq,0<=AA at_ x
theorem XK(e:l.Nodup)(h:∀x∈l,0<=x/\x<n):l.length<=n:=by
 have:=List.Nodup.length_le_of_subset (l₁:=l) (l₂:=A3 n) e (λx j=>Dx.2 (h x j))
 rwa [A4]at this
variable{i:Int}
theorem Rm(h:0<=i):((Bc l (i+1)).length:Int)=(Bc l i).length+if i∈l then 0 else 1:=by grind[Pp,az,hasB,CQ]
theorem TL{fq into at_:Fp}{n i:Int}(h:i∈into):SA fq into at_ n i=AA at_ (AA fq (Di into i)):=by grind[SA,CQ]
theorem Tx{fq into at_:Fp}{n i:Int}(h:i∉into):SA fq into at_ n i=n+(Bc into i).length:=by grind[SA,CQ]
variable{count:Nat}
theorem bY{fq into at_:Fp}{n:Int}(h:Vw count fq into at_)(z:0<=n)(D:n<=1000):Gt fq into count at_ n=Y (U9 count fq into at_ n):=by
 have E:=h.few;have u:=XK h.nodup h.inn;have w:=h.len;unfold Gt;rw[gQ h.few U h.nodup,bs,By (λi=>(n+((Bc into i).length:Int),(A3 i.toNat).map (SA fq into at_ n))) U (by simp[Bc,A3])]
 .rfl
 .intro i j i1;have hr:=ME (l:=into) j;have e:((A3 i.toNat).map (SA fq into at_ n)).length=i.toNat:=by rw[c9,A4]
  rw [AD j (by rw[LC];exact i1),bs,Uk j i1];by_cases hi:i∈into
  .have s:=JR hi;have y:=AI (l:=fq) s.1 U;have o:=h.kin _ y;rw[a6 (by simpa using s.1),bs,AD s.1 U,bs,AD o.1 o.2,bs,AV (by rw[e];simp;unfold AY;omega),bs,Hh j,y?,Rm j,a6 hi,E',z!,TL hi]
  .rw[ac (by rw[sA,PW];exact hi),AV (by rw[e];simp;unfold AY;omega),bs,Hh j,y?,Rm j,ac hi,z!,Tx hi,A1 U U,E!]
theorem bN{fq into o s:Fp}{n:Int}(h:Vw count fq into (o.map (AA s)))(J:∀x∈o,0<=x/\x<s.length)(S:0<=n)(ε:n<=1000):Hp count fq into o s n=Y (U9 count fq into (o.map (AA s)) n):=by
 have δ:=h.few;have K:=XK h.nodup h.inn;have N:=h.len;unfold Hp DM;rw[a6 (by refine⟨rfl,U,U⟩),bs,E_];rw[By (λi=>(A3 count).map λk=>if 0<=Di into k/\Di into k<i then SA fq into (o.map (AA s)) n k else -1) U]
 .rw[bs,c9,A4,By (λi=>(n+((Bc into i).length:Int),(A3 count).map λk=>if k<i\/k∈into then SA fq into (o.map (AA s)) n k else -1)) U]
  .rw[bs];congr 1;exact Cu λj G E=>a6 (.inl E)
  .show _=(n,_);congr 1
   .simp[Bc]
   .refine Cu λj G E=>?_;have I:=PW (l:=into) (v:=j);have O:=Rv into j;by_cases e:j∈into
    .rw[a6 (.inr e),a6 ⟨I.2 e,O.2⟩]
    .rw[ac (by rintro(u|u);omega;exact e u),ac λu=>e (I.1 u.1)]
  .intro i y i1;have hr:=ME (l:=into) y;rw[AD y m_,bs,Iw _ y i1];by_cases hi:i∈into
   .have P:=JR hi;have H:=AI (l:=fq) P.1 u!;have Z:=h.pos _ H;rw[a6 (show i<i\/i∈into from .inr hi),TL hi,ac (by rw[sA];omega),Rm y,a6 hi,E'];congr 2;refine Cu λj G E=>?_;by_cases e:j<i\/j∈into
    .rw[a6 e,a6 (e.imp (λh=>U) id)]
    .rw[ac e,ac];rintro(u|u)
     .have:j=i:=by
       have:=λhh=>e (.inl hh);omega
      exact e (.inr (this▸hi))
     .exact e (.inr u)
   .rw[ac (show¬(i<i\/i∈into)by rintro(u|u);omega;exact hi u),a6 a!,bs,Rm y,ac hi,A1 a_ a_,Io _ y,E!];congr 2;refine Cu λj G E=>?_;by_cases z:j=i
    .rw[a6 z,a6 (.inl U),z,Tx hi]
    .rw[ac z];by_cases e:j<i\/j∈into
     .rw[a6 e,a6 (e.imp (λh=>U) id)]
     .rw[ac e,ac];rintro(u|u)
      .exact e (.inl U)
      .exact e (.inr u)
 .refine x_ (by simp[A4]) (λk η ζ=>?_);simp only[y_,y!];rw[ac U];rfl
 .intro i y i1;have D:=h.inn _ (AI y i1);have H:=AI (l:=fq) y u!;have w:=h.kin _ H;rw[c9]at w;have F:=J _ (AI w.1 w.2);rw[AD y i1,bs,AD y u!,bs,AD w.1 w.2,bs,AD F.1 F.2,bs,AD D.1 (by rw[c9,A4];exact D.2),bs,Io _ D.1];congr 1;refine Cu λj G E=>?_;by_cases z:j=AA into i
  .have e:=ef h.nodup y i1;rw[a6 z,z,e,a6 ⟨y,U⟩,TL (AI y i1),e,D8 w.1 w.2]
  .rw[ac z];by_cases e:0<=Di into j/\Di into j<i
   .rw[a6 e,a6 ⟨e.1,U⟩]
   .rw[ac e,ac];rintro⟨u,h2⟩;have Q:Di into j=i:=by
     have:=λhh=>e ⟨u,hh⟩;omega
    have:=(JR (PW.1 u)).2.2.1;rw[Q]at this;exact z this.symm
theorem Yv{fd e:Fp}(j:fd.length<=1000)(o:∀x∈fd,0<=x/\x<e.length):Is fd e=Y (fd.map (AA e)):=by
 unfold Is
 grind [SG,AA,AI,AD,AV,AY]
end Go.Sf.Sc
namespace Go.Sf.Sc
open Go Go.Sf
def Gz(h:AF)(d:BN):d4:=⟨JE h.dr.dl.length d.dl,JE h.dr.d3.length d.d3⟩
def cmS(r:eh)(h:AF)(m:d4)(d:BN):d4:=
 ⟨U9 r.ec.dr.dl.length r.o3.dl r.mo.dl (m.dl.map (AA (Gz h d).dl)) d.dl.length,
 U9 r.ec.dr.d3.length r.o3.d3 r.mo.d3 (m.d3.map (AA (Gz h d).d3)) d.d3.length⟩
def VQ(t:AC)(k:Int):Fp:=(BL t k).map λx=>x.Low
def XJ(tr:Fp)(e:CN):CN:=⟨e.ia,AA tr e.hV,AA tr e.To⟩
def Pb(r:eh)(x:AF)(i:Int):Fp:=x.dr.dl++(Bc r.mo.dl i).map (AA r.ec.dr.dl)
def Oi(t:AC)(r:eh)(x:AF)(i:Int):List Fp:=x.eb++(Bc r.mo.dl i).map λk=>VQ t (AA r.ec.dr.dl k)
def RC(r:eh)(c:d4)(x:AF)(i:Int):List CN:=x.dr.d3++(Bc r.mo.d3 i).map λk=>XJ c.dl (AA r.ec.dr.d3 k)
def C3(t:AC)(r:eh)(x:AF)(c:d4):AF:=⟨⟨Pb r x r.ec.dr.dl.length,RC r c x r.ec.dr.d3.length⟩,Oi t r x r.ec.dr.dl.length⟩
def CY(h:AF)(d:BN):AF:=⟨⟨d.dl.map (AA h.dr.dl),d.d3.map λx=>XJ (Gz h d).dl (AA h.dr.d3 x)⟩,d.dl.map (AA h.eb)⟩
structure DN(x:AF):Prop where
 ea:x.dr.dl.length<=1000
 eg:x.dr.d3.length<=1000
 vals:x.eb.length<=1000
 rows:∀v∈x.eb,v.length<=1000
structure Xp(t:AC)(r:eh)(c:d4):Prop where
 hf:A0 t
 hv:(BF t).2=0
 g:D6 r.ec.dr
 kind:∀n∈r.ec.dr.dl,0<=n/\n<t.dl.length
 cn:c.dl.length=r.ec.dr.dl.length
variable{t:AC}{r:eh}{c:d4}
theorem vD(h:Xp t r c){n:Int}(e:n∈r.ec.dr.dl):(BL t n).length<=600:=by
 have:=h.kind n e;exact IP h.hf (E? _) (C6 h.hv).par this.2
variable{x:AF}
theorem Vh(h:DN x):I4 x=Y x:=by
 have:=h.ea;have:=h.eg;have:=h.vals;unfold I4 Kr;rw[Be a?,bs,Be a?,bs,bs];rw[By (λi=>AF.mk x.dr (x.eb.take i.toNat)) U q?]
 .rw[E_,x!];rfl
 .intro i e i1;have:=h.rows _ (AI e i1)
  grind [AD,Be,AY,AV,BU]
theorem mM(h:DN x):Ly x=Y x:=by
 have:=h.ea;have:=h.eg;have:=h.vals;unfold Ly slices_Clone_int DL;rw[Be a?,bs,Be a?,bs];rw[By (λi=>AF.mk x.dr (x.eb.take i.toNat)) U q?]
 .rw[E_,x!];rfl
 .intro i e i1;have:=h.rows _ (AI e i1)
  grind [AD,Be,AY,AV,BU]
variable{α:Type}{i:Int}
theorem EB(l:Fp)(F:Int->α)(h:0<=i):(Bc l (i+1)).map F=(Bc l i).map F++if i∈l then[]else[F i]:=by grind[Pp,hasB,CQ]
theorem Wl(l:Fp)(i:Int):JU l i=Y (!hasB l i):=by
 unfold JU hasB;rw[Bk (λj=>decide (i=AA l j)) T,Iz]
 .cases kg (λj=>decide (i=AA l j)) 0 l.length<;>rfl
 grind [AD,AA]
theorem yg(h:Xp t r c)(o:DN x):Jw t r x c=Y (C3 t r x c):=by
 have G:=h.g.ea;have H:=h.g.eg;have x1:=o.ea;have I:=o.eg;have J:=o.vals;unfold Jw;rw[P1 (λi=>AF.mk (dr.mk (Pb r x i) x.dr.d3) (Oi t r x i)) (a:=0) (b:=r.ec.dr.dl.length) U]
 .rw[B1,P1 (λi=>AF.mk (dr.mk (Pb r x r.ec.dr.dl.length) (RC r c x i)) (Oi t r x r.ec.dr.dl.length)) (a:=0) (b:=r.ec.dr.d3.length) U]
  .rfl
  .grind[RC,Bc]
  .intro i e i1;have hr:=ME (l:=r.mo.d3) e;have he:=h.g.fit _ (AI e i1);have y:=h.cn;rw[a6 d!,Wl,bs];by_cases hi:i∈r.mo.d3
   .grind[CQ,RC,EB,A1]
   .have hb:hasB r.mo.d3 i=T:=by cases hb:hasB r.mo.d3 i with|false=>rfl|true=>exact absurd (CQ.1 hb) hi
    rw [hb,a6 a!,AD e i1,bs,AD he.2.1.1 U,bs,AD he.2.2.1 U,bs,AV (by unfold RC;simp;unfold AY;omega),bs];unfold RC;rw[EB _ _ e,ac hi,A1 a_ a_,ci];rfl
  .rw[ac V]
 .unfold Pb Oi;simp[Bc]
 .intro i e i1;have hr:=ME (l:=r.mo.dl) e;have u:=AI e i1;have w:=h.kind _ u;have K:=vD h u;rw[a6 d!,Wl,bs];by_cases hi:i∈r.mo.dl
  .grind[CQ,Pb,Oi,EB,A1]
  .have hb:hasB r.mo.dl i=T:=by cases hb:hasB r.mo.dl i with|false=>rfl|true=>exact absurd (CQ.1 hb) hi
   rw [hb,ac a!,AD e i1,bs,AV (by unfold Pb;simp;unfold AY;omega),bs,bs,TW h.hf,K4 h.hv w.1 w.2,bs];simp;rw[SG (F:=λa=>a.Low) λj s z D E=>?_]
   .rw[bs,AV (by unfold Oi;simp;unfold AY;omega),bs];unfold Pb Oi;rw[EB _ _ e,ac hi,EB _ _ e,ac hi,A1 U U,ci,ci];rfl
   grind [AD,AV,AY]
 .rw[ac V]
theorem vQ(hf:A0 t)(hv:(BF t).2=0){k:Int}(o:0<=k)(e:k<t.dl.length):Li t k=Y (VQ t k):=by
 have:=IP hf (E? _) (C6 hv).par e;unfold Li;rw[TU hf,K4 hv o e,bs];simp;rw[SG (F:=λa=>a.Low) λj s u w y=>?_]
 .rfl
 grind [AD,AV,AY]
structure cl(h:AF)(d:BN):Prop where
 sm:DN h
 len:h.eb.length=h.dr.dl.length
 ea:(∀x∈d.dl,0<=x/\x<h.dr.dl.length)/\d.dl.length<=1000
 eg:(∀x∈d.d3,0<=x/\x<h.dr.d3.length)/\d.d3.length<=1000
 ends:∀e∈h.dr.d3,(0≤e.hV/\e.hV<h.dr.dl.length)/\0≤e.To/\e.To<h.dr.dl.length
variable{h:AF}
theorem bj{d:BN}(hd:cl h d):DN (CY h d):=by
 have j:=hd.ea.2;have o:=hd.eg.2;refine⟨by unfold CY;simp;omega,by unfold CY;simp;omega,by unfold CY;simp;omega,λv hv=>?_⟩;obtain⟨x,e,rfl⟩:=v5.1 hv;have:=hd.ea.1 x e;exact hd.sm.rows _ (AI this.1 (by rw[hd.len];exact this.2))
variable{R:eh}{M:AP}{C:d4}
theorem vL{d:BN}(s:Xp t R C)(hd:cl h d)(G:C.d3.length=R.ec.dr.d3.length)
  (y:∀i:Int,0<=i->i<R.ec.dr.dl.length->(AA C.dl i=d.dl.length+(Bc R.mo.dl i).length↔i∉R.mo.dl))
  (z:∀i:Int,0<=i->i<R.ec.dr.d3.length->(AA C.d3 i=d.d3.length+(Bc R.mo.d3 i).length↔i∉R.mo.d3)):
  J2 t (AR.mk R M h (AF.mk (dr.mk [] []) []) (Gz h d) C) d=Y (AR.mk R M h (C3 t R (CY h d) C) (Gz h d) C):=by
 have H:=hd.ea.2;have I:=hd.eg.2;have J:=s.g.ea;have K:=s.g.eg;have E:=s.cn;unfold J2;simp only[];rw[By (λi=>AR.mk R M h (AF.mk (dr.mk ((d.dl.take i.toNat).map (AA h.dr.dl)) []) ((d.dl.take i.toNat).map (AA h.eb))) (Gz h d) C) U V]
 rotate_left
 .intro i j i1;have o:=hd.ea.1 _ (AI j i1);have u:=hd.len;have hr:=hd.sm.rows _ (AI o.1 U);rw[AD j i1,bs,AD o.1 o.2,bs,AV b_,bs,AD o.1 U,bs,Be a?,bs,AV b_,bs,JS j i1,JS j i1]
 rw [bs,E_,x!];rw[By (λi=>AR.mk R M h (AF.mk (dr.mk (d.dl.map (AA h.dr.dl)) ((d.d3.take i.toNat).map λx=>XJ (Gz h d).dl (AA h.dr.d3 x))) (d.dl.map (AA h.eb))) (Gz h d) C) U V]
 rotate_left
 .intro i j i1;have o:=hd.eg.1 _ (AI j i1);have he:=hd.ends _ (AI o.1 o.2);have u:(Gz h d).dl.length=h.dr.dl.length:=LC _ _;simp only[];rw[AD j i1,bs,AD o.1 o.2,bs,AD he.1.1 U,bs,AD he.2.1 U,bs,AV b_,bs,JS j i1];rfl
 rw [bs,E_,x!];rw[By (λi=>AR.mk R M h (AF.mk (dr.mk (Pb R (CY h d) i) (CY h d).dr.d3) (Oi t R (CY h d) i)) (Gz h d) C) U (by unfold Pb Oi;simp[Bc,CY])]
 rotate_left
 .intro i j i1;have hr:=ME (l:=R.mo.dl) j;have F:=AI j i1;have D:=s.kind _ F;have u:(Pb R (CY h d) i).length=d.dl.length+(Bc R.mo.dl i).length:=by unfold Pb CY;simp
  have w:(Oi t R (CY h d) i).length=d.dl.length+(Bc R.mo.dl i).length:=by unfold Oi CY;simp
  simp only[u];rw[AD j i1,bs,AD j U,bs];by_cases hi:i∈R.mo.dl
  .rw[ac (by rw[sA];push_cast;exact λe=>(y i j i1).1 e hi)];unfold Pb Oi;rw[EB _ _ j,a6 hi,z?,EB _ _ j,a6 hi,z?]
  .rw[a6 (by rw[sA];push_cast;exact(y i j i1).2 hi),AV (by rw[u];simp;unfold AY;omega),bs,vQ s.hf s.hv D.1 D.2,bs,AV (by rw[w];simp;unfold AY;omega),bs];unfold Pb Oi;rw[EB _ _ j,ac hi,EB _ _ j,ac hi,ci,ci]
 rw [bs];rw[By (λi=>AR.mk R M h (AF.mk (dr.mk (Pb R (CY h d) R.ec.dr.dl.length) (RC R C (CY h d) i)) (Oi t R (CY h d) R.ec.dr.dl.length)) (Gz h d) C) U (by unfold RC;simp[Bc,CY])]
 rotate_left
 .intro i j i1;have hr:=ME (l:=R.mo.d3) j;have he:=s.g.fit _ (AI j i1);have u:(RC R C (CY h d) i).length=d.d3.length+(Bc R.mo.d3 i).length:=by unfold RC CY;simp
  simp only[u];rw[AD j i1,bs,AD j U,bs];by_cases hi:i∈R.mo.d3
  .rw[ac (by rw[sA];push_cast;exact λe=>(z i j i1).1 e hi)];unfold RC;rw[EB _ _ j,a6 hi,z?]
  .rw[a6 (by rw[sA];push_cast;exact(z i j i1).2 hi),AD he.2.1.1 U,bs,AD he.2.2.1 U,bs,AV (by rw[u];simp;unfold AY;omega),bs];unfold RC;rw[EB _ _ j,ac hi,ci];rfl
 rw [bs];rfl
theorem jH(hf:A0 t){d:BN}(hh:(ER t h).2=0)(s:Fo h.dr d=0)(hd:cl h d):H6 t h d=Y (CY h d,0):=by
 have u:=hd.ea.2;unfold H6;rw[Vi hf,bs,ac (by simp[hh]),bX ⟨hd.ea.2,hd.eg.2⟩,ac (by simp[s]),bs,ac V];have e:Pj h.dr d=(CY h d).dr:=by
  unfold Pj CY;congr 1;refine z_ λx j=>?_;have j:=hd.eg.1 x j;have he:=hd.ends _ (AI j.1 j.2)
  grind [XJ,Gz,Uk]
 simp;rw[P1 (λi=>AF.mk (Pj h.dr d) ((d.dl.take i.toNat).map (AA h.eb))) (a:=0) (b:=d.dl.length) U V]
 .rw[E_,x!,B1,e];rfl
 .intro i o i1;have j:=hd.ea.1 _ (AI o i1);have w:=hd.len;have hr:=hd.sm.rows _ (AI j.1 U);rw[a6 d!,AD o i1,bs,AD j.1 U,bs,Be a?,bs,AV b_,bs,JS o i1,A1 a_ a_]
 .rw[ac V]
end Go.Sf.Sc
namespace Go.Sf.Sc
open Go Go.Sf
def Rp(c:d4)(vars:Fp)(s:C4):(Int×Int)×Int:=((AA c.dl s.o4,s.ke),Df s.gl vars)
def CZ(r:eh)(c:d4)(vars:Fp):Bq:=r.ec.ek.map (Rp c vars)
def Nt(t:AC)(x:AF)(p:(Int×Int)×Int):Bool:=
 decide (p.2<(AA (BL t (AA x.dr.dl p.1.1)) p.1.2).Low)||decide ((AA (BL t (AA x.dr.dl p.1.1)) p.1.2).Aab<p.2)
structure Vy(t:AC)(r:eh)(c:d4)(vars:Fp)(x:AF):Prop where
 hf:A0 t
 hv:(BF t).2=0
 few:r.ec.ek.length<=1000
 fewv:vars.length<=1000
 slot:∀s∈r.ec.ek,(0<=s.o4/\s.o4<c.dl.length)/\(-1<=s.gl.Var/\s.gl.Var<vars.length)/\
  (0<=AA c.dl s.o4/\AA c.dl s.o4<x.dr.dl.length)/\(0<=s.ke/\s.ke<(BL t (AA x.dr.dl (AA c.dl s.o4))).length)
 kind:∀n∈x.dr.dl,0<=n/\n<t.dl.length
 AbM:x.eb.length=x.dr.dl.length
 rows:∀i:Int,0<=i->i<x.dr.dl.length->(AA x.eb i).length=(BL t (AA x.dr.dl i)).length
variable{L:Bq}{i:Int}
theorem lc(e:0<=i)(i1:i<=L.length)(h:∀j,0<=j->j<i->kg (λk=>decide ((AA L k).1=(AA L j).1)&&!decide ((AA L k).2=(AA L j).2)) 0 j=T):Tk (L.take i.toNat):=by grind[aM,RS,B6,bk,Tm,t5]
def W7(L:Bq)(i:Int):Bool:=kg (λk=>decide ((AA L k).1=(AA L i).1)&&!decide ((AA L k).2=(AA L i).2)) 0 i
theorem qT(I:0<=i)(i1:i<L.length)(y:Tk (L.take i.toNat)):
  (((RJ (L.take i.toNat)).look (AA L i).1).isSome&&(!decide (((RJ (L.take i.toNat)).look (AA L i).1).getD 0=(AA L i).2)))=W7 L i:=by
 obtain ⟨J,D,K⟩:=j9 _ y;unfold W7;cases z:(RJ (L.take i.toNat)).look (AA L i).1 with
 |none=>
  rw [Option.isSome_none,D_];refine Eq.symm (B6.2 λk u w=>?_);have s:AA L k∈L.take i.toNat:=by
   rw [<-t5 (n:=i.toNat) U]
   grind [AI,bk]
  rw [decide_eq_false (bI z _ ((D _).2 s)),D_]
 |some v=>
  have s:=(D _).1 (VP z);rw[Option.isSome_some,C_,Option.getD_some];have o:∀k,0<=k->k<i->(AA L k).1=(AA L i).1->(AA L k).2=v:=λk u w e=>by
   have F:AA L k∈L.take i.toNat:=by
    rw [<-t5 (n:=i.toNat) U]
    grind [AI,bk]
   exact y _ F _ s e
  obtain ⟨k,u,w,E⟩:=Bh s;rw[bk]at w;rw[t5 U]at E;rw[C!,Ee];constructor
  .intro h;refine⟨k,u,U,?_⟩;rw[E,decide_eq_true rfl,C_];exact h
  .rintro⟨j,G,H,h⟩;rw[ne,sA]at h;rw[<-o j G H h.1];exact h.2
theorem QL(r:eh)(c:d4)(vars:Fp)(e:0<=i)(i1:i<r.ec.ek.length):AA (CZ r c vars) i=Rp c vars (AA r.ec.ek i):=D8 e i1
theorem Lh(r:eh)(c:d4)(vars:Fp):(CZ r c vars).length=r.ec.ek.length:=c9 ..
variable{ρ:Type}
theorem dn(L:Bq)(v:ρ):fst (λi=>if W7 L i=X then Y v else W) 0 L.length=if RS L=X then Y v else W:=Ot
variable{t:AC}{R:eh}{M:AP}{B A:AF}{θ C:d4}
theorem mL(h:Vy t R C M.ey A):JX (AR.mk R M B A θ C)=Y (if RS (CZ R C M.ey)=X then([],11)else(RJ (CZ R C M.ey),0)):=by
 unfold JX;simp only[];rw[EY (a:=0) (s:=([]:Bq)) (λi=>RJ ((CZ R C M.ey).take i.toNat)) (λi=>if W7 (CZ R C M.ey) i=X then Y ([],11)else W) U rfl]
 .have:=dn (CZ R C M.ey) (([],11):Bq×Int);rw[Lh]at this;rw[this];by_cases e:RS (CZ R C M.ey)=X
  .rw[a6 e,a6 e];rfl
  .rw[ac e,ac e,<-Lh R C M.ey,E_,x!];rfl
 .intro i o i1 hb;have u:=h.slot _ (AI o i1);have D:Tk ((CZ R C M.ey).take i.toNat):=lc o (by rw[Lh];omega) λj y z=>by
   have:=hb j y z;split at this
   .cases this
   next e=>exact D'.2 e
  have w:=qT (L:=CZ R C M.ey) o (by rw[Lh];exact i1) D;rw[AD o i1,bs,fj u.2.1.1 u.2.1.2 h.fewv,bs,ac V,AD u.1.1 u.1.2,bs];rw[QL R C M.ey o i1]at w;simp[Rp]at w;simp only[];by_cases e:W7 (CZ R C M.ey) i=X
  .refine(a6 (w.trans e)).trans ?_;rw[a6 e];rfl
  .refine(ac (λh=>e (w.symm.trans h))).trans ?_;rw[ac e,BU o (by rw[Lh];exact i1),fY,QL R C M.ey o i1];rfl
variable{α:Type}
theorem kB{f:α->K1}{g:α->Bool}:∀{l:List α},(∀p∈l,f p=Y (g p))->Aat f l=Y (l.all g)
 |[],_=>rfl|p::r,h=>by
  unfold Aat;rw[h p A_,bs,kB λq e=>h q (v6 _ e),bs,List.all_cons]
variable{r:eh}{c:d4}{x:AF}{κ:List Fp}
theorem iE{vars:Fp}(h:Vy t r c vars x){s:C4}(w:s∈r.ec.ek)(y:NE κ x.eb):
  idx κ (AA c.dl s.o4)=Y (AA κ (AA c.dl s.o4))/\idx (AA κ (AA c.dl s.o4)) s.ke=Y (AA (AA κ (AA c.dl s.o4)) s.ke):=by
 have j:=h.slot s w;have hv:=h.AbM;have hr:=h.rows _ j.2.2.1.1 j.2.2.1.2;have z:idx x.eb (AA c.dl s.o4)=Y (AA x.eb (AA c.dl s.o4)):=AD j.2.2.1.1 U;have D:idx (AA x.eb (AA c.dl s.o4)) s.ke=Y (AA (AA x.eb (AA c.dl s.o4)) s.ke):=AD j.2.2.2.1 U;obtain⟨E,x',a,b⟩:=y.idx z D;have o:=II a;have u:=II b;have F:=(A'.1 o.2.2).1;have e:AA κ (AA c.dl s.o4)=E:=by
  grind [AD,Option.some.inj]
 have G:=(A'.1 u.2.2).1;refine⟨AD o.1 U,?_⟩;rw[e];exact AD u.1 U
theorem qc(h:Vy t R C M.ey A){p:(Int×Int)×Int}(u:p∈CZ R C M.ey):QV t (AR.mk R M B A θ C) p=Y (!Nt t A p):=by
 obtain ⟨s,o,rfl⟩:=v5.1 u;have e:=h.slot s o;have j:=h.kind _ (AI e.2.2.1.1 e.2.2.1.2);obtain⟨w,y⟩:=iE h o (κ:=A.eb) rfl;unfold QV QU Rp Nt;simp;rw[AD e.2.2.1.1 e.2.2.1.2,bs,TU h.hf,K4 h.hv j.1 j.2,bs];simp;simp[AD e.2.2.2.1 e.2.2.2.2,w,y,WE]
 grind
def KE(t:AC)(x:AF)(L:Bq):AF×Int:=
 if RS L=X then(⟨⟨[],[]⟩,[]⟩,11)else if L.any (Nt t x)=X then(⟨⟨[],[]⟩,[]⟩,6)else(⟨x.dr,L.foldl Cl x.eb⟩,0)
theorem yK(h:Vy t R C M.ey A):M9 t (AR.mk R M B A θ C)=Y ((KE t A (CZ R C M.ey)).2,if(KE t A (CZ R C M.ey)).2=0 then AR.mk R M B (KE t A (CZ R C M.ey)).1 θ C else AR.mk R M B A θ C):=by
 unfold M9 KE;rw[mL h,bs];by_cases e:RS (CZ R C M.ey)=X
 .grind
 .rw[ac e,ac V,ac e];obtain⟨o,s,u⟩:=j9 _ (aM (D'.2 e));have ha:Aat (QV t (AR.mk R M B A θ C)) (RJ (CZ R C M.ey))=Y (!(CZ R C M.ey).any (Nt t A)):=by
   rw [kB (g:=λp=>!Nt t A p) λp j=>qc h ((s p).1 j)]
   grind
  rw [a6 (by simpa using(show List.Pairwise (λx y:(Int×Int)×Int=>x.1≠y.1) _ from o)),ha,bs]
  grind [CZ,Nt,Pu]
theorem ABp{vars:Fp}(h:Vy t r c vars x):LB t r x c vars=Y (KE t x (CZ r c vars)):=by
 unfold LB KE;rw[EY (a:=0) (s:=AF.mk (dr.mk [] []) []) (λ_=>AF.mk (dr.mk [] []) []) (λi=>if W7 (CZ r c vars) i=X then Y (AF.mk (dr.mk [] []) [],(11:Int))else W) U rfl]
 .have:=dn (CZ r c vars) ((AF.mk (dr.mk [] []) [],(11:Int)));rw[Lh]at this;rw[this];by_cases e:RS (CZ r c vars)=X
  .rw[a6 e,a6 e];rfl
  rw [ac e,ac e];show ei (Y (Sum.inl _)) _ _=_;rw[B1,EY (a:=0) (s:=(x,AF.mk (dr.mk [] []) [])) (λi=>(AF.mk x.dr (((CZ r c vars).take i.toNat).foldl Cl x.eb),AF.mk (dr.mk [] []) [])) (λi=>if Nt t x (AA (CZ r c vars) i)=X then Y (AF.mk (dr.mk [] []) [],(6:Int))else W) U rfl]
  .have:=jv (l:=CZ r c vars) (q:=Nt t x) (v:=(AF.mk (dr.mk [] []) [],(6:Int)));rw[Lh]at this;rw[this];by_cases o:(CZ r c vars).any (Nt t x)=X
   .rw[a6 o,a6 o];rfl
   .rw[ac o,ac o];show Y (AF.mk x.dr (((CZ r c vars).take (r.ec.ek.length:Int).toNat).foldl Cl x.eb),(0:Int))=_
    grind [Lh,E_,x!]
  .intro i u i1 _;have D:=AI u i1;have j:=h.slot _ D;have w:=h.kind _ (AI j.2.2.1.1 j.2.2.1.2);obtain⟨F,G⟩:=iE h D (κ:=((CZ r c vars).take i.toNat).foldl Cl x.eb) (eQ _ _);simp only[AD u i1,bs];rw[QJ j.2.1.1 j.2.1.2,bs,AD j.1.1 j.1.2,bs,AD j.2.2.1.1 j.2.2.1.2,bs,TW h.hf,K4 h.hv w.1 w.2,bs];simp only[];rw[AD j.2.2.2.1 j.2.2.2.2,bs,bs,WE,bs,F,bs,G,bs];rw[QL r c vars u i1,BU u (by rw[Lh];exact i1),v!,QL r c vars u i1];show(if(Nt t x (Rp c vars (AA r.ec.ek i)))=X then _ else _)=_;by_cases o:Nt t x (Rp c vars (AA r.ec.ek i))=X
   .rw[a6 o,a6 o];rfl
   .rw[ac o,ac o];have:=eC (p:=Rp c vars (AA r.ec.ek i)) F G;exact congrArg (λη=>Y (CF.next (σ:=AF×AF) (ρ:=AF×Int) (AF.mk x.dr η,AF.mk (dr.mk [] []) []))) this
 .intro i u i1 _;have j:=h.slot _ (AI u i1);rw[AD u i1,bs,QJ j.2.1.1 j.2.1.2,bs];rw[EY (a:=0) (s:=AF.mk (dr.mk [] []) []) (λ_=>AF.mk (dr.mk [] []) []) (λk=>if(decide ((AA (CZ r c vars) k).1=(AA (CZ r c vars) i).1)&&!decide ((AA (CZ r c vars) k).2=(AA (CZ r c vars) i).2))=X then Y (AF.mk (dr.mk [] []) [],(11:Int))else W) u rfl]
  .rw[Ot];unfold W7;split<;>rfl
  .intro k y I _;have w:=h.slot _ (AI y (show k<r.ec.ek.length by omega));simp[AD u i1,AD y (show k<r.ec.ek.length by omega)];rw[QJ w.2.1.1 w.2.1.2,bs,AD w.1.1 w.1.2,bs,AD j.1.1 j.1.2,bs,QL r c vars u i1,QL r c vars y U];simp[Rp];by_cases E:AA c.dl (AA r.ec.ek k).o4=AA c.dl (AA r.ec.ek i).o4<;>by_cases o:(AA r.ec.ek k).ke=(AA r.ec.ek i).ke<;>by_cases z:Df (AA r.ec.ek i).gl vars=Df (AA r.ec.ek k).gl vars
   all_goals first|(have H:¬Df (AA r.ec.ek k).gl vars=Df (AA r.ec.ek i).gl vars:=λh=>z h.symm;simp[E,o,z,H,Y5];done)|(simp[E,o,z,Y5];done)
end Go.Sf.Sc
namespace Go.Sf.Sc
open Go Go.Sf
variable{t:AC}{r:eh}
theorem Uf(h:ES t r=0):JP t r.fu=0/\Lx t r=0/\PK t r.fu r.d5=0:=by grind[ES]
theorem jL(h:Lx t r=0):r.ec.ey=r.fu.ey/\r.ec.ek.length<=10/\∀i:Int,0<=i->i<r.ec.ek.length->Qm t r.ec i=0:=by
 unfold Lx at h;split at h
 .omega
 split at h
 .cases h
 split at h
 .cases h
 split at h
 .cases h
 rename_i e j o s;exact⟨U,U,VG h⟩
variable{i:Int}
theorem mt{p:d7}(h:Qm t p i=0):(0<=(AA p.ek i).o4/\(AA p.ek i).o4<p.dr.dl.length)/\
  (0<=(AA p.ek i).ke/\(AA p.ek i).ke<(IF t (AA p.dr.dl (AA p.ek i).o4)).1.length)/\-1<=(AA p.ek i).gl.Var/\(AA p.ek i).gl.Var<p.ey:=by
 unfold Qm at h;dsimp only at h;split at h
 .cases h
 split at h
 .cases h
 rename_i j e;simp[sA]at e;omega
structure IZ(t:AC)(r:eh)(h:AF)(m:AP):Prop where
 hf:A0 t
 fr:H0 r
 re:ES t r=0
 he:(ER t h).2=0
 at_:Xl t r.fu h m
 co:dM (UG r.fu.dr h.dr m.d4) h.dr r.o3 m.d4
abbrev dS(r:eh)(h:AF)(m:AP):BN:=OV h.dr r.o3 m.d4
abbrev cS(r:eh)(h:AF)(m:AP):d4:=cmS r h m.d4 (dS r h m)
variable{h:AF}{m:AP}
theorem IZ.hv(s:IZ t r h m):(BF t).2=0:=(kc s.re).1
theorem IZ.ro(s:IZ t r h m):nP t r:=(kc s.re).2
theorem IZ.hh(s:IZ t r h m):Ix t h:=(Ou s.hf s.he).2
theorem RZ(hf:A0 t)(hv:(BF t).2=0)(hh:Ix t h):DN h:=by
 have o:=hh.g.ea;have s:=hh.g.eg;have u:=hh.len;refine⟨U,U,U,λv e=>?_⟩;obtain⟨i,j,i1,rfl⟩:=Bh e;have w:=hh.row i j U;have y:=IP hf (E? _) (C6 hv).par (hh.kind i j U).2;omega
theorem IZ.rem(s:IZ t r h m):cl h (dS r h m):=by
 have hh:=s.hh;have o:=hh.g.ea;have u:=hh.g.eg;have l1:=S3 (Fh m.d4.dl r.o3.dl) h.dr.dl.length;have l2:=S3 (Fh m.d4.d3 r.o3.d3) h.dr.d3.length;exact⟨RZ s.hf s.hv hh,hh.len,⟨λx j=>Gu j,by show(Bc _ _).length<=1000;omega⟩,⟨λx j=>Gu j,by show(Bc _ _).length<=1000;omega⟩,λe he=>(hh.g.fit e he).2⟩
theorem IZ.part(s:IZ t r h m):Fo h.dr (dS r h m)=0:=by
 unfold Fo;rw[ac (by simp[s.hh.ge])];exact pK s.co
variable{count n:Nat}
theorem ni{fq into fd:Fp}{BT:Fp}(few:count<=1000)(nodup:into.Nodup)(len:into.length=fq.length)(inn:∀x∈into,0<=x/\x<count)
  (kin:∀x∈fq,0<=x/\x<fd.length)(o:∀x∈fd,0<=x/\x<n)(hi:Aak fd fq=T)(s:BT=Fh fd fq):
  Vw count fq into (fd.map (AA (JE n (Bc BT n))))/\(∀x∈fq,AA (fd.map (AA (JE n (Bc BT n)))) x<(Bc BT n).length)/\
  ∀x∈fq,AA (fd.map (AA (JE n (Bc BT n)))) x=Di (Bc BT n) (AA fd x)/\AA fd x∈Bc BT n:=by
 have e:∀x∈fq,AA (fd.map (AA (JE n (Bc BT n)))) x=Di (Bc BT n) (AA fd x)/\AA fd x∈Bc BT n:=λx j=>by
  grind [AI,D8,Uk,Rl,VO]
 refine ⟨⟨few,nodup,len,inn,λx j=>by rw[c9];exact kin x j,λx j=>?_⟩,λx j=>?_,e⟩
 .rw[(e x j).1];exact PW.2 (e x j).2
 .rw[(e x j).1];exact(Rv _ _).2
theorem IZ.left(s:IZ t r h m):m.d4.dl.length=r.fu.dr.dl.length/\m.d4.d3.length=r.fu.dr.d3.length:=⟨s.at_.m.t2,s.at_.m.wi⟩
theorem IZ.AbE(s:IZ t r h m):Vw r.ec.dr.dl.length r.o3.dl r.mo.dl (m.d4.dl.map (AA (Gz h (dS r h m)).dl))/\
  (∀x∈r.o3.dl,AA (m.d4.dl.map (AA (Gz h (dS r h m)).dl)) x<(dS r h m).dl.length)/\
  ∀x∈r.o3.dl,AA (m.d4.dl.map (AA (Gz h (dS r h m)).dl)) x=Di (dS r h m).dl (AA m.d4.dl x)/\AA m.d4.dl x∈(dS r h m).dl:=by
 have ro:=s.ro;have o:=ro.right.ea;refine ni U ro.inj.1 ?_ (λx e=>?_) (λx e=>?_) (λx e=>?_) s.co.ea rfl
 .have:=ro.mor.t2;rw[this];exact c9 ..
 .obtain⟨i,j,i1,rfl⟩:=Bh e;exact(ro.mor.node i j i1).1
 .have:=ro.part.ea.1 x e;have:=s.left.1;omega
 .obtain⟨i,j,i1,rfl⟩:=Bh e;exact(s.at_.m.node i j i1).1
theorem IZ.AbK(s:IZ t r h m):Vw r.ec.dr.d3.length r.o3.d3 r.mo.d3 (m.d4.d3.map (AA (Gz h (dS r h m)).d3))/\
  (∀x∈r.o3.d3,AA (m.d4.d3.map (AA (Gz h (dS r h m)).d3)) x<(dS r h m).d3.length)/\
  ∀x∈r.o3.d3,AA (m.d4.d3.map (AA (Gz h (dS r h m)).d3)) x=Di (dS r h m).d3 (AA m.d4.d3 x)/\AA m.d4.d3 x∈(dS r h m).d3:=by
 have ro:=s.ro;have o:=ro.right.eg;refine ni U ro.inj.2 ?_ (λx e=>?_) (λx e=>?_) (λx e=>?_) s.co.eg rfl
 .have:=ro.mor.wi;rw[this];exact c9 ..
 .obtain⟨i,j,i1,rfl⟩:=Bh e;exact(ro.mor.edge i j i1).1
 .have:=ro.part.eg.1 x e;have:=s.left.2;omega
 .obtain⟨i,j,i1,rfl⟩:=Bh e;exact s.at_.m.edge i j i1
theorem je{fq into at_:Fp}(h:Vw count fq into at_)(j:∀x∈fq,AA at_ x<n)(o:0<=i)(i1:i<count):AA (U9 count fq into at_ n) i=n+(Bc into i).length↔i∉into:=by
 rw [ng o i1];constructor
 .intro e hi;rw[TL hi]at e;have s:=JR hi;have:=j _ (AI (l:=fq) s.1 u!);omega
 .exact Tx
theorem IZ.grow(s:IZ t r h m):Xp t r (cS r h m):=
 ⟨s.hf,s.hv,s.ro.right,(IA s.ro.right s.ro.Aa5).1,ZI _ _ _ _ _⟩
theorem Wn(l:Fp)(j:0<=i):∀(k:Nat),∃s,Bc l (i+k)=Bc l i++s
 |0=>⟨[],V⟩|k+1=>by
  obtain ⟨s,e⟩:=Wn l j k
  grind [Pp,ci]
variable{l:Fp}
theorem sC{i n:Int}(j:0<=i)(i1:i<n)(h:i∉l):AA (Bc l n) (Bc l i).length=i/\((Bc l i).length:Int)<(Bc l n).length:=by
 obtain ⟨s,e⟩:=Wn l (i:=i+1) U (n-(i+1)).toNat
 rw [show i+1+((n-(i+1)).toNat:Int)=n by omega,Pp l j]at e
 grind [hasB,CQ,AA]
variable{α:Type}
theorem nW[Inhabited α]{l m:List α}(e:0<=i)(j:i<l.length):AA (l++m) i=AA l i:=by grind[On]
theorem nX[Inhabited α]{l m:List α}:AA (l++m) (l.length+n:Int)=AA m n:=by grind[On,AA,E_]
variable{a:Int}
theorem qt(h:0<=a):HP t a a=X:=by
 unfold HP;rw[show(a+1).toNat=a.toNat+1 by omega,Kz,ac U];simp
theorem IZ.Abv(s:IZ t r h m)(u:0<=i)(i1:i<r.ec.dr.dl.length):
  (0<=AA (cS r h m).dl i/\AA (cS r h m).dl i<(C3 t r (CY h (dS r h m)) (cS r h m)).dr.dl.length)/\
  AA (C3 t r (CY h (dS r h m)) (cS r h m)).dr.dl (AA (cS r h m).dl i)<t.dl.length/\HP t (AA (C3 t r (CY h (dS r h m)) (cS r h m)).dr.dl (AA (cS r h m).dl i)) (AA r.ec.dr.dl i)=X:=by
 obtain ⟨F,K,c3⟩:=s.AbE;have G:AA (cS r h m).dl i=SA r.o3.dl r.mo.dl (m.d4.dl.map (AA (Gz h (dS r h m)).dl)) (dS r h m).dl.length i:=ng u i1;have el:(C3 t r (CY h (dS r h m)) (cS r h m)).dr.dl=(dS r h m).dl.map (AA h.dr.dl)++(FE r).map (AA r.ec.dr.dl):=rfl;rw[G,el,az,c9,c9];by_cases hi:i∈r.mo.dl
 .have e:=JR hi;have N:=F.len;have o:=AI (l:=r.o3.dl) e.1 U;have z:=c3 _ o;have D:=K _ o;have w:=F.pos _ o;rw[TL hi];refine⟨⟨w,by push_cast;omega⟩,?_⟩;rw[nW w (by rw[c9];exact D),D8 w D,z.1,(JR z.2).2.2.1];have hr:=s.ro.part.ea.1 _ o;have H:=s.left.1;have y:=s.at_.m.node _ hr.1 U;have I:=s.hh.kind _ y.1.1 y.1.2;have E:=s.ro.mor.node _ e.1 e.2.1;rw[e.2.2.1]at E;have J:AA (Pj r.fu.dr r.o3).dl (Di r.mo.dl i)=AA r.fu.dr.dl (AA r.o3.dl (Di r.mo.dl i)):=D8 e.1 U;rw[E.2,J];exact⟨I.2,y.2⟩
 .have hr:=sC u i1 hi;rw[Tx hi];have j:((dS r h m).dl.map (AA h.dr.dl)).length=(dS r h m).dl.length:=c9 ..;refine⟨⟨U,?_⟩,?_⟩
  .have:((FE r).length:Int)=(Bc r.mo.dl r.ec.dr.dl.length).length:=rfl
   push_cast
   omega
  .rw[<-j,nX,show FE r=Bc r.mo.dl r.ec.dr.dl.length from rfl,D8 U hr.2];show AA r.ec.dr.dl (AA (Bc r.mo.dl r.ec.dr.dl.length) (Bc r.mo.dl i).length)<(t.dl.length:Int)/\HP t (AA r.ec.dr.dl (AA (Bc r.mo.dl r.ec.dr.dl.length) (Bc r.mo.dl i).length)) _=X;rw[hr.1];have:=(IA s.ro.right s.ro.Aa5).1 _ (AI u i1);exact⟨this.2,qt this.1⟩
theorem IZ.rows(s:IZ t r h m):(C3 t r (CY h (dS r h m)) (cS r h m)).eb.map (λv=>v.length)=(C3 t r (CY h (dS r h m)) (cS r h m)).dr.dl.map λn=>(BL t n).length:=by
 show (A! _ (_++_))=A! _ (_++_);rw[y?,y?];congr 1
 .show((dS r h m).dl.map (AA h.eb)).map _=((dS r h m).dl.map (AA h.dr.dl)).map _;rw[w_,w_];refine z_ λx e=>?_;have e:=s.rem.ea.1 x e;exact s.hh.row x e.1 e.2
 grind [w_,z_,VQ,c9]
theorem IZ.put(s:IZ t r h m):Vy t r (cS r h m) m.ey (C3 t r (CY h (dS r h m)) (cS r h m)):=by
 obtain ⟨O,hr,P⟩:=Uf s.re;obtain⟨hv,Q,z⟩:=jL hr;have J:=s.at_.q.vars;have D:=s.at_.len;have w:=s.rows;have y:(C3 t r (CY h (dS r h m)) (cS r h m)).eb.length=(C3 t r (CY h (dS r h m)) (cS r h m)).dr.dl.length:=by
  grind [A?,c9]
 refine ⟨s.hf,s.hv,U,U,λx e=>?_,λn j=>?_,y,λi o i1=>?_⟩
 .obtain⟨i,o,i1,rfl⟩:=Bh e;obtain⟨u,H,S⟩:=mt (z i o i1);have E:=(IA s.ro.right s.ro.Aa5).1 _ (AI u.1 u.2);rw[K4 s.hv E.1 E.2]at H;obtain⟨ε,I,F⟩:=s.Abv u.1 u.2;replace F:=bA (C6 s.hv) I F;have G:(cS r h m).dl.length=r.ec.dr.dl.length:=ZI _ _ _ _ _
  grind
 .have j:n∈(dS r h m).dl.map (AA h.dr.dl)++(FE r).map (AA r.ec.dr.dl):=j;rcases B_.1 j with j|j
  .obtain⟨x,e,rfl⟩:=v5.1 j;have e:=s.rem.ea.1 x e;exact s.hh.kind x e.1 e.2
  .obtain⟨x,e,rfl⟩:=v5.1 j;have e:=Gu e;exact(IA s.ro.right s.ro.Aa5).1 _ (AI e.1 e.2)
 .have K:=D8 (l:=(C3 t r (CY h (dS r h m)) (cS r h m)).eb) (g:=λv=>v.length) o U;have N:=D8 (l:=(C3 t r (CY h (dS r h m)) (cS r h m)).dr.dl) (g:=λn=>(BL t n).length) o i1
  grind
end Go.Sf.Sc
namespace Go.Sf.Sc
open Go Go.Sf
abbrev zRu:eh:=eh.mk (⟨#[]⟩:ByteArray) (d7.mk (dr.mk [] []) [] 0 []) (d7.mk (dr.mk [] []) [] 0 []) (BN.mk [] []) (d4.mk [] []) T (d5.mk 0 [] (d4.mk [] []) (d7.mk (dr.mk [] []) [] 0 []))
abbrev zG:AR:=AR.mk zRu (AP.mk (d4.mk [] []) []) (AF.mk (dr.mk [] []) []) (AF.mk (dr.mk [] []) []) (d4.mk [] []) (d4.mk [] [])
def cp(t:AC)(r:eh)(h:AF)(m:AP):AR×Int:=
 if (KE t (C3 t r (CY h (dS r h m)) (cS r h m)) (CZ r (cS r h m) m.ey)).2≠0 then(zG,(KE t (C3 t r (CY h (dS r h m)) (cS r h m)) (CZ r (cS r h m) m.ey)).2)else
 if 40<(KE t (C3 t r (CY h (dS r h m)) (cS r h m)) (CZ r (cS r h m) m.ey)).1.dr.dl.length\/80<(KE t (C3 t r (CY h (dS r h m)) (cS r h m)) (CZ r (cS r h m) m.ey)).1.dr.d3.length then(zG,3)else
 (AR.mk r m h (KE t (C3 t r (CY h (dS r h m)) (cS r h m)) (CZ r (cS r h m) m.ey)).1 (Gz h (dS r h m)) (cS r h m),0)
noncomputable def Ef(t:AC)(r:eh)(h:AF)(m:AP):AR×Int:=
 if ES t r≠0 then(zG,ES t r)else if(ER t h).2≠0 then(zG,(ER t h).2)else
 if Gx t r.fu.dr h.dr m.d4 r.ij≠0 then(zG,1)else
 if (G4 t r.fu h m.d4).2≠0 then(zG,(G4 t r.fu h m.d4).2)else if¬(G4 t r.fu h m.d4).1=m.ey then(zG,11)else
 if (PJ (UG r.fu.dr h.dr m.d4) h.dr r.o3 m.d4).2≠0 then(zG,(PJ (UG r.fu.dr h.dr m.d4) h.dr r.o3 m.d4).2)else
 if (Ok t r.fu r.d5 h m r.ij).2≠0 then(zG,(Ok t r.fu r.d5 h m r.ij).2)else
 if (Ok t r.fu r.d5 h m r.ij).1=T then(zG,16)else cp t r h m
variable{t:AC}{r:eh}{h:AF}{m:AP}
theorem ZH(e:ES t r=0)(j:(ER t h).2=0)(o:Gx t r.fu.dr h.dr m.d4 r.ij=0)(s:(G4 t r.fu h m.d4).2=0)(u:(G4 t r.fu h m.d4).1=m.ey):U5 t r.fu r.d5 h m r.ij=0:=by
 unfold U5;rw[ac (by simp[(Uf e).2.2]),ac (by simp[j]),ac p?,ac (by simp[s]),a6 u]
theorem jz{ζ:Option (AR×Int)}(hX:(KE t (C3 t r (CY h (dS r h m)) (cS r h m)) (CZ r (cS r h m) m.ey)).2=0->ζ=
   if ((decide (40<((KE t (C3 t r (CY h (dS r h m)) (cS r h m)) (CZ r (cS r h m) m.ey)).1.dr.dl.length:Int)))||(decide (80<((KE t (C3 t r (CY h (dS r h m)) (cS r h m)) (CZ r (cS r h m) m.ey)).1.dr.d3.length:Int))))=X then Y (zG,3)else
   Y (AR.mk r m h (KE t (C3 t r (CY h (dS r h m)) (cS r h m)) (CZ r (cS r h m) m.ey)).1 (Gz h (dS r h m)) (cS r h m),0)):
  (if(!decide ((KE t (C3 t r (CY h (dS r h m)) (cS r h m)) (CZ r (cS r h m) m.ey)).2=0))=X then Y (zG,(KE t (C3 t r (CY h (dS r h m)) (cS r h m)) (CZ r (cS r h m) m.ey)).2)else ζ)=Y (cp t r h m):=by
 unfold cp;refine D2 λe=>?_;rw[hX e];refine Qt a_ λ_=>rfl
theorem Yn(hf:A0 t)(fr:H0 r)(D:Do r.d5<=40)(h:AF)(m:AP):Fv t r h m=Y (Ef t r h m):=by
 unfold Fv IX Ef;rw[Oy hf,bs];by_cases hv:¬(BF t).2=0
 .grind[ES,BF]
 have hv:=D!.1 hv;rw[ac l!,gI hf fr,bs,Vb hf,bs];by_cases j:¬ES t r=0
 .grind
 have j:=D!.1 j;rw[ac (by simp[j]),bs,ac (show¬ES t r≠0 by simp[j])];refine D2 λE=>?_;rw[Option.bind_fun_some];unfold IW Kx;rw[Zy hf,bs];by_cases o:¬Gx t r.fu.dr h.dr m.d4 r.ij=0
 .grind
 have o:=D!.1 o;rw[ac p?,kD hf,bs,ac (show¬Gx t r.fu.dr h.dr m.d4 r.ij≠0 by simp[o])];by_cases u:¬(G4 t r.fu h m.d4).2=0
 .grind
 have u:=D!.1 u;rw[ac k?,Kb,bs,ac (show¬(G4 t r.fu h m.d4).2≠0 by simp[u])];by_cases w:¬(G4 t r.fu h m.d4).1=m.ey
 .grind
 have w:=D!.1 w;rw[ac (by simp[w]),bs,ac V,ac (show¬¬(G4 t r.fu h m.d4).1=m.ey by simp[w])];rw[yM hf o,bs,ac V,yH fr.fq,bs];refine D2 λF=>?_;obtain⟨_,_,_,ha⟩:=X3 hf D (ZH j E o u w);obtain⟨co,N⟩:=ZJ F;rw[jF hf _ fr.cond D,bs,N];refine D2 λO=>?_;refine X4 λP=>?_;have s:IZ t r h m:=⟨hf,fr,j,E,ha,co⟩;have hr:=s.rem;have Q:=s.hh.g.ea;have S:=s.hh.g.eg;have l1:=s.left.1;have l2:=s.left.2;have ε:=s.ro.left.ea;have η:=s.ro.left.eg;have H:=ha.len;have I:=ha.q.vars;have z:Kw m=Y m:=by
  unfold Kw slices_Clone_int;rw[Be a?,bs,Be a?,bs,Be a?,bs]
 simp only[];rw[z,bs,mM hr.sm,bs];rw[kO U hr.ea.2 (O0 _ _),bs,kO U hr.eg.2 (O0 _ _),bs];have J:Hp r.ec.dr.dl.length r.o3.dl r.mo.dl m.d4.dl (JE h.dr.dl.length (dS r h m).dl) (OV h.dr r.o3 m.d4).dl.length=Y (cS r h m).dl:=
  bN s.AbE.1 (λx y=>by rw[LC];obtain⟨i,e,i1,rfl⟩:=Bh y;exact(ha.m.node i e i1).1) U (F_.2 hr.ea.2)
 have K:Hp r.ec.dr.d3.length r.o3.d3 r.mo.d3 m.d4.d3 (JE h.dr.d3.length (dS r h m).d3) (OV h.dr r.o3 m.d4).d3.length=Y (cS r h m).d3:=
  bN s.AbK.1 (λx y=>by rw[LC];obtain⟨i,e,i1,rfl⟩:=Bh y;exact ha.m.edge i e i1) U (F_.2 hr.eg.2)
 rw [J,bs,K,bs];have hb:=vL (M:=m) s.grow hr (ZI _ _ _ _ _) (λi e i1=>je s.AbE.1 s.AbE.2.1 e i1) (λi e i1=>je s.AbK.1 s.AbK.2.1 e i1);change ((J2 t (AR.mk r m h (AF.mk (dr.mk [] []) []) (Gz h (dS r h m)) (cS r h m)) (dS r h m)).bind _)=_;rw[hb,bs,yK s.put,bs];exact jz λG=>by rw[a6 G]
theorem o0(hf:A0 t){p:d7}{c:d5}(e:Do c<=40){inj:Bool}(j:U5 t p c h m inj=0):KM t c h m inj=Y (Ok t p c h m inj):=by
 obtain ⟨hv,hh,o,ha⟩:=X3 hf e j
 grind [KM,Ok,wS,DQ,wW,oM,rb]
theorem gm(hf:A0 t)(fr:H0 r)(G:Do r.d5<=40)(h:AF)(m:AP):Et t r h m=Y (Ef t r h m):=by
 unfold Et He Ef;rw[gi hf fr,bs,Vi hf,bs];by_cases e:¬ES t r=0
 .rw[a6 b?,bs,a6 b?,a6 e]
 have e:=D!.1 e;rw[ac b?,bs,ac (show¬ES t r≠0 by simp[e])];refine D2 λD=>?_;unfold It;rw[Z2 hf,bs];by_cases j:¬Gx t r.fu.dr h.dr m.d4 r.ij=0
 .rw[a6 (by simp[j]),bs,a6 V,a6 j]
 have j:=D!.1 j;rw[ac (by simp[j]),ve hf,bs,ac (show¬Gx t r.fu.dr h.dr m.d4 r.ij≠0 by simp[j])];by_cases o:¬(G4 t r.fu h m.d4).2=0
 .rw[a6 p?,bs,a6 p?,a6 o]
 have o:=D!.1 o;rw[ac p?,Z1,bs,ac (show¬(G4 t r.fu h m.d4).2≠0 by simp[o])];by_cases y:¬(G4 t r.fu h m.d4).1=m.ey
 .rw[a6 (by simp[y]),bs,a6 V,a6 y]
 have y:=D!.1 y;rw[ac (by simp[y]),ac (show¬¬(G4 t r.fu h m.d4).1=m.ey by simp[y])];rw[yi hf j,bs,ac V,ya fr.fq,bs];by_cases u:¬(PJ (UG r.fu.dr h.dr m.d4) h.dr r.o3 m.d4).2=0
 .rw[a6 k?,bs,a6 k?,a6 u]
 have u:=D!.1 u;rw[ac k?,ac (show¬(PJ (UG r.fu.dr h.dr m.d4) h.dr r.o3 m.d4).2≠0 by simp[u])];have z:=ZH e D j o y;obtain⟨_,_,_,ha⟩:=X3 hf G z;obtain⟨co,J⟩:=ZJ u;rw[o0 hf G z,bs,J,JO,bs,bs];by_cases w:¬(Ok t r.fu r.d5 h m r.ij).2=0
 .rw[ac (show¬((decide ((Ok t r.fu r.d5 h m r.ij).2=0)&&!(Ok t r.fu r.d5 h m r.ij).1)=X)by simp[w]),a6 (by simp[w]),a6 w]
 have w:=D!.1 w;rw[ac (show¬(Ok t r.fu r.d5 h m r.ij).2≠0 by simp[w])];cases N:(Ok t r.fu r.d5 h m r.ij).1 with
 |false=>rw[a6 (show(decide ((Ok t r.fu r.d5 h m r.ij).2=0)&&!T)=X by simp[w]),a6 V,a6 rfl]|true=>
 rw [ac (show¬(decide ((Ok t r.fu r.d5 h m r.ij).2=0)&&!X)=X by simp),ac (by simp[w]),ac V];have s:IZ t r h m:=⟨hf,fr,e,D,ha,co⟩;have hr:=s.rem;have O:=s.hh.g.ea;have P:=s.hh.g.eg;have l1:=s.left.1;have l2:=s.left.2;have Q:=s.ro.left.ea;have S:=s.ro.left.eg;unfold JV M0;simp only[];rw[jH hf D s.part hr,bs,gQ U hr.ea.2 ((O0 _ _).imp λh=>U),bs,bs,gQ U hr.eg.2 ((O0 _ _).imp λh=>U),bs,bs,bs];simp only[];rw[Yv U (λx E=>by rw[LC];obtain⟨i,F,i1,rfl⟩:=Bh E;exact(ha.m.node i F i1).1),bs];rw[Yv U (λx E=>by rw[LC];obtain⟨i,F,i1,rfl⟩:=Bh E;exact ha.m.edge i F i1),bs];have H:Gt r.o3.dl r.mo.dl r.ec.dr.dl.length (m.d4.dl.map (AA (JE h.dr.dl.length (dS r h m).dl))) (OV h.dr r.o3 m.d4).dl.length=Y (cS r h m).dl:=
  bY s.AbE.1 U (F_.2 hr.ea.2)
 have I:Gt r.o3.d3 r.mo.d3 r.ec.dr.d3.length (m.d4.d3.map (AA (JE h.dr.d3.length (dS r h m).d3))) (OV h.dr r.o3 m.d4).d3.length=Y (cS r h m).d3:=
  bY s.AbK.1 U (F_.2 hr.eg.2)
 rw [H,bs,I,bs];rw[Vh (bj hr),bs];change ((Jw t r (CY h (dS r h m)) (cS r h m)).bind _)=_;rw[yg s.grow (bj hr),bs];change ((LB t r (C3 t r (CY h (dS r h m)) (cS r h m)) (cS r h m) m.ey).bind _)=_;rw[ABp s.put,bs];exact jz λK=>rfl
end Go.Sf.Sc
namespace Go.Sf.Sc
open Go Go.Sf
instance:Inhabited eh:=⟨zRu⟩
instance:Inhabited DA:=⟨⟨0,⟨⟨[],[]⟩,[]⟩⟩⟩
instance:Inhabited AR:=⟨zG⟩
structure Eu(rules:List eh):Prop where
 len:rules.length<=12
 each:∀r∈rules,H0 r/\Do r.d5<=40
noncomputable def Ez(t:AC)(rules:List eh)(h:AF)(m:DA):AR×Int:=if m.eh<0\/rules.length<=m.eh then(zG,6)else Ef t (AA rules m.eh) h m.j0
variable{t:AC}
theorem yP(hf:A0 t){rules:List eh}(hr:Eu rules)(h:AF)(m:DA):Fx t rules h m=Y (Ez t rules h m):=by
 unfold Fx Ez;refine Qt V λe=>?_;have j:=hr.each _ (AI (l:=rules) (i:=m.eh) U U)
 grind [AD,Yn]
noncomputable def Du(t:AC)(rules:List eh):Int:=
 if (BF t).2≠0 then(BF t).2 else if 10<rules.length then 3 else(fst (λi=>nz (ES t (AA rules i))) 0 rules.length).getD 0
noncomputable def G3(t:AC)(rules:List eh)(h:AF):Int:=if Du t rules≠0 then Du t rules else(ER t h).2
theorem oN{e v:Int}(h:nz e=Y v):v≠0:=by grind[nz]
variable{a b v:Int}
theorem uq{c:Int->Int}(h:fst (λi=>nz (c i)) a b=Y v):v≠0:=by grind[Cc,oN]
theorem bc(hf:A0 t){rules:List eh}(hr:Eu rules):MB t rules=Y (Du t rules):=by
 unfold MB Du;rw[R0 hf,bs];refine EX λj=>Qt i! λo=>?_;rw[B9 (λi=>nz (ES t (AA rules i))),DI];intro i e i1 _;rw[AD e i1,bs,gi hf (hr.each _ (AI e i1)).1,bs,N2]
theorem rc(hf:A0 t){rules:List eh}(hr:Eu rules)(h:AF):OC t rules h=Y (G3 t rules h):=by
 unfold OC G3;rw[bc hf hr,bs,Vi hf,bs];exact EX λ_=>rfl
theorem rQ(hf:A0 t){rules:List eh}(hr:Eu rules)(h:AF):Fy t rules h=Y (G3 t rules h):=by
 unfold Fy G3 Du;rw[Oy hf,bs];by_cases j:¬(BF t).2=0
 .grind
 have j:=D!.1 j;rw[ac (by simp[j]),ac (show¬(BF t).2≠0 by simp[j])];by_cases s:10<rules.length
 .grind
 rw [ac a_,ac s,B9 (λi=>nz (ES t (AA rules i))),Eo]
 .cases e:fst (λi=>nz (ES t (AA rules i))) 0 (rules.length:Int)with
  |none=>
   grind [Vb]
  |some v=>
   have:=uq e
   grind
 .intro i o i1 _;rw[AD o i1,bs,gI hf (hr.each _ (AI o i1)).1,bs,N2]
noncomputable def Em(t:AC)(rules:List eh)(h0:AF)(ms:List DA):List AR×AF:=
 ms.foldl (λs m=>(s.1++[(Ez t rules s.2 m).1],(Ez t rules s.2 m).1.ex)) ([],h0)
noncomputable def Qu(t:AC)(rules:List eh)(h0:AF)(ms:List DA)(i:Int):Int:=(Ez t rules (Em t rules h0 (ms.take i.toNat)).2 (AA ms i)).2
theorem Ol(t:AC)(rules:List eh)(e:AF)(j:List DA)(m:DA):Em t rules e (j++[m])=((Em t rules e j).1++[(Ez t rules (Em t rules e j).2 m).1],(Ez t rules (Em t rules e j).2 m).1.ex):=by
 unfold Em
 grind
theorem Td(t:AC)(rules:List eh)(j:AF)(e:List DA):(Em t rules j e).1.length=e.length:=by
 refine Xe (P:=λe=>(Em t rules j e).1.length=e.length) rfl (λe m o=>?_) e
 grind [Ol,az]
variable{α:Type}{i:Int}
theorem Ru[Inhabited α]{l m:List α}(e:0<=i)(j:i<l.length):AA (l++m) i=AA l i:=by grind[On]
theorem nY[Inhabited α](l:List α)(a:α):AA (l++[a]) l.length=a:=by
 rw [On,ac V,E_,Nat.sub_self];rfl
theorem zA(t:AC)(rules:List eh)(j:AF)(e:List DA):∀i:Int,0<=i->i<e.length->AA (Em t rules j e).1 i=(Ez t rules (Em t rules j (e.take i.toNat)).2 (AA e i)).1:=by
 refine Xe (P:=λe=>∀i:Int,0<=i->i<e.length->AA (Em t rules j e).1 i=(Ez t rules (Em t rules j (e.take i.toNat)).2 (AA e i)).1) (λi o i1=>k!) (λe m s i o i1=>?_) e;rw[Ol];have u:=Td t rules j e;rw[az,List.length_singleton]at i1
 grind [Ru,nY,E_,B']
theorem qX{rules:List eh}{e:AF}{a b:List DA}(j:0<=i)(i1:i<a.length):Qu t rules e (a++b) i=Qu t rules e a i:=by grind[Qu,Ru]
noncomputable def SS(t:AC)(rules:List eh)(d:Bi):List AR×Int×Int:=
 if G3 t rules d.gp≠0 then([],0,G3 t rules d.gp)else if 30<d.ib.length then([],0,3)else
 match fst (λi=>(nz (Qu t rules d.gp d.ib i)).map λe=>([],i,e)) 0 d.ib.length with
 |some r=>r|none=>((Em t rules d.gp d.ib).1,(d.ib.length:Int),0)
variable{d:Bi}
theorem r9{rules:List eh}(hd:d.ib.length<=1000){f:AF->DA->Option (AR×Int)}(hf:∀h m,f h m=Y (Ez t rules h m)):
  ei (gt (ρ:=(List AR×Int×Int)) (λ(o:Int)(u:List AR×AF)=>
  (idx d.ib o).bind λw=>
  (f u.2 w).bind λj=>
  if (!decide (j.2=0))=X then
  Y (.ret ([],o,j.2))
  else
  (Aw u.1 [j.1]).bind λy=>
  Y (.next (y,j.1.ex))) 0 (d.ib.length:Int) ([],d.gp)) (λu=>
  Y (u.1,(u.1.length:Int),(0:Int))) (λz=>Y z)=Y (match fst (λi=>(nz (Qu t rules d.gp d.ib i)).map λe=>([],i,e)) 0 d.ib.length with
   |some r=>r|none=>((Em t rules d.gp d.ib).1,(d.ib.length:Int),0)):=by
 rw [EY (a:=0) (s:=(([],d.gp):List AR×AF)) (λi=>Em t rules d.gp (d.ib.take i.toNat)) (λi=>(nz (Qu t rules d.gp d.ib i)).map λe=>([],i,e)) U rfl]
 .cases fst (λi=>(nz (Qu t rules d.gp d.ib i)).map λe=>(([],i,e):List AR×Int×Int)) 0 (d.ib.length:Int)with
  |some r=>rfl|none=>
   show Y _=Y _;rw[E_,x!,Td]
 .intro i o i1 _;have D:=Td t rules d.gp (d.ib.take i.toNat);rw[AD o i1,bs,hf,bs];show(if(!decide (Qu t rules d.gp d.ib i=0))=X then _ else _)=_;by_cases e:Qu t rules d.gp d.ib i=0
  .rw[ac b?,AV (by rw[D,bk];simp;unfold AY;omega),bs,BU o i1,Ol,L5.2 e];rfl
  .rw[a6 b?];unfold nz;rw[ac e];rfl
theorem gG(hf:A0 t){rules:List eh}(hr:Eu rules)(d:Bi):EH t rules d=Y (SS t rules d):=by
 unfold EH SS;rw[rQ hf hr,bs];refine D2 λe=>Qt i! λj=>?_;exact r9 U (yP hf hr)
structure O7(t:AC)(rules:List eh)(d:Bi):Prop where
 given:G3 t rules d.gp=0
 few:d.ib.length<=30
 gx:∀i:Int,0<=i->i<d.ib.length->Qu t rules d.gp d.ib i=0
theorem Y2{rules:List eh}:(SS t rules d).2.2=0↔O7 t rules d:=by
 unfold SS;constructor
 .intro h;split at h
  .grind
  rename_i j;split at h
  .cases h
  rename_i o;split at h
  .grind[Cc,nz,Qu,oN]
  .rename_i e;rw[Bf]at e;refine⟨D!.1 j,U,λi s i1=>?_⟩
   grind [Oh,L5]
 .rintro⟨j,o,u⟩
  grind [Bf,L5]
theorem pH{rules:List eh}(h:O7 t rules d):SS t rules d=((Em t rules d.gp d.ib).1,(d.ib.length:Int),0):=by
 unfold SS;rw[ac (by simp[h.given]),ac (by have:=h.few;omega),Bf.2 λi e i1=>by rw[L5.2 (h.gx i e i1)];rfl]
structure JI(h:AF)(s:AR):Prop where
 t2:s.kl.dl.length=h.dr.dl.length
 wi:s.kl.d3.length=h.dr.d3.length
 node:∀x∈s.kl.dl,-1<=x/\x<s.ex.dr.dl.length
 edge:∀x∈s.kl.d3,-1<=x/\x<s.ex.dr.d3.length
 sm:DN s.ex
variable{x:AF}{L:Bq}
theorem gN(h:(KE t x L).2=0):KE t x L=(⟨x.dr,L.foldl Cl x.eb⟩,0)/\L.any (Nt t x)=T:=by
 unfold KE at h|-
 grind
structure Qs(t:AC)(r:eh)(h:AF)(m:AP):Prop where
 f:IZ t r h m
 sat:Ok t r.fu r.d5 h m r.ij=(X,0)
 solve:G4 t r.fu h m.d4=(m.ey,0)
 chk:Gx t r.fu.dr h.dr m.d4 r.ij=0
 put:(KE t (C3 t r (CY h (dS r h m)) (cS r h m)) (CZ r (cS r h m) m.ey)).2=0
 few:(C3 t r (CY h (dS r h m)) (cS r h m)).dr.dl.length<=40/\(C3 t r (CY h (dS r h m)) (cS r h m)).dr.d3.length<=80
def PB(t:AC)(r:eh)(h:AF)(m:AP):AF:=⟨(C3 t r (CY h (dS r h m)) (cS r h m)).dr,(CZ r (cS r h m) m.ey).foldl Cl (C3 t r (CY h (dS r h m)) (cS r h m)).eb⟩
def Ui(t:AC)(r:eh)(h:AF)(m:AP):AR:=AR.mk r m h (PB t r h m) (Gz h (dS r h m)) (cS r h m)
variable{r:eh}{h:AF}{m:AP}
theorem Tn(hf:A0 t)(fr:H0 r)(I:Do r.d5<=40)(e:(Ef t r h m).2=0):Qs t r h m/\Ef t r h m=(Ui t r h m,0):=by
 unfold Ef at e|-;split at e
 next o=>exact absurd e o
 rename_i o;rw[ac o];split at e
 next u=>exact absurd e u
 rename_i u;rw[ac u];split at e
 .cases e
 rename_i E;rw[ac E];split at e
 next w=>exact absurd e w
 rename_i w;rw[ac w];split at e
 .cases e
 rename_i F;rw[ac F];split at e
 next z=>exact absurd e z
 rename_i z;rw[ac z];split at e
 next D=>exact absurd e D
 rename_i D;rw[ac D];split at e
 .cases e
 rename_i G;rw[ac G];have o:=D!.1 o;have u:=D!.1 u;have E:=D!.1 E;have w:=D!.1 w;have F:=D!.1 F;have z:=D!.1 z;have D:=D!.1 D;obtain⟨_,_,_,ha⟩:=X3 hf I (ZH o u E w F);have s:IZ t r h m:=⟨hf,fr,o,u,ha,(ZJ z).1⟩;unfold cp at e|-;split at e
 next y=>exact absurd e y
 rename_i y;rw[ac y];have y:=D!.1 y;obtain⟨H,J⟩:=gN y;split at e
 .cases e
 rename_i j;rw[ac j];rw[H]at j;refine⟨⟨s,?_,?_,E,y,?_⟩,?_⟩
 .exact Prod.ext (by simpa using G) D
 .exact Prod.ext F w
 .simp[not_or]at j;exact j
 .rw[H];rfl
theorem Qs.trk(s:Qs t r h m):JI h (Ui t r h m):=by
 have hr:=s.f.rem;have j:=s.f.put;have E:((C3 t r (CY h (dS r h m)) (cS r h m)).dr.dl.length)=(dS r h m).dl.length+(FE r).length:=by
  show (A? (_++_))=_;rw[az,c9];show((dS r h m).dl.map _).length+_=_;rw[c9];rfl
 have he:((C3 t r (CY h (dS r h m)) (cS r h m)).dr.d3.length)=(dS r h m).d3.length+(LJ r).length:=by
  show (A? (_++_))=_;rw[az,c9];show((dS r h m).d3.map _).length+_=_;rw[c9];rfl
 have w:NE (PB t r h m).eb (C3 t r (CY h (dS r h m)) (cS r h m)).eb:=eQ _ _;have z:(PB t r h m).eb.length=(C3 t r (CY h (dS r h m)) (cS r h m)).dr.dl.length:=by
  have:=congrArg A? w;rw[c9,c9]at this;rw[this,j.AbM]
 refine ⟨LC _ _,LC _ _,λx o=>?_,λx o=>?_,⟨?_,?_,?_,λv hv=>?_⟩⟩
 .obtain⟨i,hi,rfl⟩:=v5.1 o;have:=Rv (dS r h m).dl i;have D:(Ui t r h m).ex.dr.dl.length=(C3 t r (CY h (dS r h m)) (cS r h m)).dr.dl.length:=rfl
  grind
 .obtain⟨i,hi,rfl⟩:=v5.1 o;have:=Rv (dS r h m).d3 i;have D:(Ui t r h m).ex.dr.d3.length=(C3 t r (CY h (dS r h m)) (cS r h m)).dr.d3.length:=rfl
  grind
 .have:=s.few.1;show(C3 t r (CY h (dS r h m)) (cS r h m)).dr.dl.length<=1000;omega
 .have:=s.few.2;show(C3 t r (CY h (dS r h m)) (cS r h m)).dr.d3.length<=1000;omega
 .have:=s.few.1;show(PB t r h m).eb.length<=1000;omega
 .have y:v.length∈(PB t r h m).eb.map A?:=v5.2 ⟨v,hv,rfl⟩;rw[w,s.f.rows]at y;obtain⟨n,u,e⟩:=v5.1 y;have:=IP j.hf (E? _) (C6 j.hv).par (j.kind n u).2;omega
end Go.Sf.Sc
namespace Go.Sf.Sc
open Go Go.Sf
def Cf(l by':Fp):Fp:=l.map λx=>if x<0 then -1 else AA by' x
def DE(m tr:d4):d4:=⟨Cf m.dl tr.dl,Cf m.d3 tr.d3⟩
def MN(m:d4)(l:List AR):d4:=l.foldl (λm s=>DE m s.kl) m
def P5(g:dr):d4:=⟨A3 g.dl.length,A3 g.d3.length⟩
variable{l by':Fp}
theorem kE(u:l.length<=1000)(h:∀x∈l,-1<=x/\x<by'.length):HE l by'=Y (Cf l by'):=by
 unfold HE slices_Clone_int;rw[Be a?,bs,By (λi=>(A3 l.length).map λj=>if j<i then(if AA l j<0 then -1 else AA by' (AA l j))else AA l j) U]
 .grind[Cf,Yb,Cu]
 .conv=>rhs;rw[<-Q7 l]
  grind [Cu]
 .intro i o i1;have s:=h _ (AI o i1);rw[AD o m_,bs,Iw _ o i1,ac (show¬i<i by omega)];by_cases e:0<=AA l i
  .rw[a6 d_,AD e s.2,bs,bs,Io _ o]
   grind
  grind
variable{i:Int}
theorem QN(n:Nat)(e:0<=i)(i1:i<n):AA (A3 n) i=i:=by
 have:=Iw (n:=n) (λx=>x) e i1
 rwa [B!]at this
variable{n:Nat}
theorem bR(h:n<=1000):HI n=Y (A3 n):=by
 unfold HI Hv;rw[a6 U,bs,E_,x?,By (λi=>(A3 n).map λj=>if j<i then j else 0) U]
 .rw[bs];congr 1
  conv=>rhs;rw[<-B! (A3 n)]
  exact Cu λj y s=>a6 s
 .refine x_ (by simp[A4]) (λk z D=>?_);have e:(A3 n)[k]'(by simpa[A4]using z)=(k:Int):=by simp[A3]
  simp only[y_,y!,e];rw[ac U]
 .intro i u i1;rw[AD u m_,bs,Io _ u];congr 1;refine Cu λj y s=>?_;by_cases o:j=i
  .rw[a6 o,a6 U,o]
  .rw[ac o];by_cases w:j<i
   .rw[a6 w,a6 (show j<i+1 by omega)]
   .rw[ac w,ac (show¬j<i+1 by omega)]
variable{g:dr}
theorem mO(h:CL g=0):EL g=Y (P5 g):=by
 have e:=Dp h;have:=e.ea;have:=e.eg;unfold EL Gm;rw[NV,bs,ac q_,bR U,bs,bR U,bs,bs];rfl
structure IY(m:d4)(g:dr):Prop where
 t2:m.dl.length<=1000
 wi:m.d3.length<=1000
 node:∀x∈m.dl,-1<=x/\x<g.dl.length
 edge:∀x∈m.d3,-1<=x/\x<g.d3.length
theorem ABG(h:CL g=0):IY (P5 g) g:=by
 have j:=Dp h;have:=j.ea;have:=j.eg;refine⟨by show(A3 _).length<=1000;rw[A4];omega,by show(A3 _).length<=1000;rw[A4];omega,λx e=>?_,λx e=>?_⟩
 .have:=Dx.1 e;omega
 .have:=Dx.1 e;omega
theorem Mj(j:∀x∈l,-1<=x/\x<by'.length)(hb:∀x∈by',-1<=x/\x<n):∀x∈Cf l by',-1<=x/\x<n:=by
 intro x e;obtain⟨y,o,rfl⟩:=v5.1 e
 grind [AI]
variable{h:AF}
theorem wO{m:d4}{s:AR}(e:IY m h.dr)(j:JI h s):IY (DE m s.kl) s.ex.dr:=by
 refine ⟨by show(A! _ _).length<=1000;rw[c9];exact e.t2,by show(A! _ _).length<=1000;rw[c9];exact e.wi,?_,?_⟩
 .exact Mj (λx o=>by have:=e.node x o;rw[j.t2];exact this) j.node
 .exact Mj (λx o=>by have:=e.edge x o;rw[j.wi];exact this) j.edge
variable{t:AC}
theorem Rw(hf:A0 t){rules:List eh}(hr:Eu rules){m:DA}(e:(Ez t rules h m).2=0):
  (0<=m.eh/\m.eh<rules.length)/\Qs t (AA rules m.eh) h m.j0/\Ez t rules h m=(Ui t (AA rules m.eh) h m.j0,0):=by
 unfold Ez at e|-;split at e
 .cases e
 rename_i o;rw[ac o];have j:=hr.each _ (AI (l:=rules) (i:=m.eh) U U);exact⟨U,Tn hf j.1 j.2 e⟩
theorem V5(hf:A0 t){rules:List eh}(e:G3 t rules h=0):Du t rules=0/\(ER t h).2=0/\(BF t).2=0/\Ix t h:=by grind[G3,Ou]
variable{d:Bi}
theorem Q4(hf:A0 t){rules:List eh}(hr:Eu rules)(h:O7 t rules d):∀n:Nat,n<=d.ib.length ->
  DN (Em t rules d.gp (d.ib.take n)).2/\IY (MN (P5 d.gp.dr) (Em t rules d.gp (d.ib.take n)).1) (Em t rules d.gp (d.ib.take n)).2.dr
 |0,_=>by
  obtain ⟨_,u,j,o⟩:=V5 hf h.given;exact⟨RZ hf j o,ABG o.ge⟩
 |n+1,y=>by
  obtain ⟨u,j⟩:=Q4 hf hr h n U;have he:=h.gx n U U;have e:=BU (l:=d.ib) (i:=(n:Int)) U U;rw[show((n:Int)+1).toNat=n+1 by omega,E_]at e;unfold Qu at he;rw[E_]at he;obtain⟨_,s,w⟩:=Rw hf hr he;rw[e,Ol,w];refine⟨s.trk.sm,?_⟩;unfold MN at j|-;rw[v!];exact wO j s.trk
noncomputable def JN(t:AC)(rules:List eh)(d:Bi):AF×d4×Int:=
 if (SS t rules d).2.2≠0 then(⟨⟨[],[]⟩,[]⟩,⟨[],[]⟩,(SS t rules d).2.2)else((Em t rules d.gp d.ib).2,MN (P5 d.gp.dr) (Em t rules d.gp d.ib).1,0)
variable{x:AF}
theorem oU(h:DN x):IG x=Y x:=by
 have:=h.ea;have:=h.eg;have:=h.vals;unfold IG slices_Clone_int DL;rw[Be a?,bs,Be a?,bs];rw[By (λi=>AF.mk x.dr (x.eb.take i.toNat)) U q?]
 .rw[E_,x!];rfl
 .intro i e i1;have:=h.rows _ (AI e i1)
  grind [AD,Be,AY,AV,BU]
theorem qf(hf:A0 t){rules:List eh}(hr:Eu rules)(h:O7 t rules d){f:Int->AF×d4->Option (AF×d4)}
  (u:∀(i:Int)(s:AF×d4),0<=i->i<d.ib.length->IY s.2 s.1.dr->JI s.1 (AA (Em t rules d.gp d.ib).1 i)->f i s=Y ((AA (Em t rules d.gp d.ib).1 i).ex,DE s.2 (AA (Em t rules d.gp d.ib).1 i).kl)):
  ls f 0 ((Em t rules d.gp d.ib).1.length:Int) (d.gp,P5 d.gp.dr)=Y ((Em t rules d.gp d.ib).2,MN (P5 d.gp.dr) (Em t rules d.gp d.ib).1):=by
 rw [Td,By (λi=>((Em t rules d.gp (d.ib.take i.toNat)).2,MN (P5 d.gp.dr) (Em t rules d.gp (d.ib.take i.toNat)).1)) U q?]
 .rw[E_,x!]
 .intro i e i1;obtain⟨y,w⟩:=Q4 hf hr h i.toNat U;have he:=h.gx i e i1;unfold Qu at he;obtain⟨_,s,o⟩:=Rw hf hr he;have j:=zA t rules d.gp d.ib i e i1;rw[o]at j;rw[u i _ e i1 w (by rw[j];exact s.trk),BU e i1,Ol,o,j];unfold MN;rw[v!];rfl
theorem kG(hf:A0 t){rules:List eh}(hr:Eu rules)(d:Bi):Eg t rules d=Y (JN t rules d):=by
 unfold Eg JN;rw[gG hf hr,bs];refine D2 λu=>?_;have h:=Y2.1 u;obtain⟨_,_,_,hh⟩:=V5 hf h.given;rw[mO hh.ge,bs,pH h];simp;rw[qf hf hr h λi s w i1 e o=>?_]
 .have:=(Q4 hf hr h d.ib.length (ae _)).1
  grind [x!,oU]
 .rw[AD w (by rw[Td];exact i1),bs,kE e.t2 (λx j=>by rw[o.t2];exact e.node x j),bs,kE e.wi (λx j=>by rw[o.wi];exact e.edge x j),bs];rfl
structure nQ(m:AP):Prop where
 ea:m.d4.dl.length<=1000
 eg:m.d4.d3.length<=1000
 vars:m.ey.length<=1000
structure wj(d:Bi):Prop where
 start:DN d.gp
 len:d.ib.length<=1000
 gx:∀m∈d.ib,nQ m.j0
variable{r:eh}{m:AP}
theorem Qs.small(s:Qs t r h m):nQ m:=by
 have j:=s.f.left;have e:=s.f.ro.left;have o:=s.f.at_.len;have u:=s.f.at_.q.vars;have:=e.ea;have:=e.eg;exact⟨U,U,U⟩
theorem O7.small(hf:A0 t){rules:List eh}(hr:Eu rules)(h:O7 t rules d):wj d:=by
 obtain ⟨_,_,j,o⟩:=V5 hf h.given;refine⟨RZ hf j o,by have:=h.few;omega,λm e=>?_⟩;obtain⟨i,s,i1,rfl⟩:=Bh e;have he:=h.gx i s i1;unfold Qu at he;exact(Rw hf hr he).2.1.small
theorem ul{rules:List eh}:(JN t rules d).2.2=(SS t rules d).2.2:=by grind[JN]
theorem uZ{rules:List eh}{m:DA}(h:O7 t rules d)(o:d.ib.length<30)(e:(Ez t rules (Em t rules d.gp d.ib).2 m).2=0):O7 t rules ⟨d.gp,d.ib++[m]⟩:=by
 refine ⟨h.given,a_,λi j i1=>?_⟩;simp at i1;show Qu t rules d.gp (d.ib++[m]) i=0;by_cases hi:i<d.ib.length
 .rw[qX j hi];exact h.gx i j hi
 grind [Qu,nY,E_,B']
variable{α:Type}
theorem jV[Inhabited α]{l:List α}(v:α)(e:0<=i)(j:i<l.length):AA (BR l i v) i=v:=by grind[AA,BR]
theorem jW[Inhabited α]{l:List α}{i j:Int}(v:α)(e:0<=i)(o:0<=j)(h:j≠i):AA (BR l i v) j=AA l j:=by grind[AA,BR]
end Go.Sf.Sc
namespace Go.Sf.Sc
open Go Go.Sf
end Go.Sf.Sc
namespace Go.Sf.Sc
open Go Go.Sf
end Go.Sf.Sc
namespace Go.Sf.Sc
open Go Go.Sf
variable{ρ:Type}
theorem zX{f:Int×Int->Option (CF (Int×Int) ρ)}(I:Int->Int->Prop)(b:Int){s a:Int}(w:I a s)
  (step:∀i s,a<=i->I i s->(i<b/\∃s',f (s,i)=Y (.next (s',i+1))/\I (i+1) s')\/f (s,i)=Y (.brk (s,i))):∃i s',a<=i/\I i s'/\D5 f (s,a)=Y (.inl (s',i)):=by
 have key:∀(n:Nat)(i s:Int),a<=i->I i s->b-i<=n->∃j s',i<=j/\I j s'/\MJ f (s,i) (.inl (s',j)):=by
  intro n
  induction n with
  |zero=>
   intro i s hi e hb;rcases step i s hi e with⟨h,_⟩|h
   .omega
   .exact⟨i,s,E? _,e,.brk h⟩
  |succ n E=>
   intro i s hi e hb;rcases step i s hi e with⟨_,s',o,u⟩|h
   .obtain⟨j,s2,F,y,z⟩:=E (i+1) s' U u U;exact⟨j,s2,U,y,.next o z⟩
   .exact⟨i,s,E? _,e,.brk h⟩
 obtain ⟨j,s',o,u,D⟩:=key (b-a).toNat a s (E? _) w U;exact⟨j,s',o,u,D.eq⟩
theorem b8{q w k:Int}(c:Int)(H:q<=1000)(y:0<=k)(o:k<=1000)(u:1<=c/\c<=80)(z:1<=w/\w<=400000):∃w' D,(1<=w'/\w'<=400000)/\D5 (ρ:=ρ) (λ(j:Int×Int)=>
  if ((decide (j.2<q))&&(decide (j.1<=5000)))=X then
  Y (.next (At (j.1*c),At (j.2+1)))
  else
  Y (.brk (j.1,j.2))) (w,k)=Y (.inl (w',D)):=by
 obtain ⟨i,s',K,F,G⟩:=zX (ρ:=ρ) (f:=λ(j:Int×Int)=>
  if ((decide (j.2<q))&&(decide (j.1<=5000)))=X then
  Y (.next (At (j.1*c),At (j.2+1)))
  else
  Y (.brk (j.1,j.2))) (λi s=>(1<=s/\s<=400000)/\0<=i/\i<=1000) q (s:=w) (a:=k) ⟨z,y,o⟩ (λi s hi E=>by
   by_cases e:i<q/\s<=5000
   .left;have I:1*1<=s*c:=F! E.1.1 u.1 U U;have J:s*c<=5000*80:=F! e.2 u.2 U U
    grind [A1]
   grind)
 exact ⟨s',i,F.1,G⟩
theorem kh:∀(N:Nat)(c:d5)(p:d7)(w:Int),SizeOf.sizeOf c<=N->ET c->P7 p->Do c<=1000->1<=w->w<=5000->∃b,∀n,N<=n->Dt n p c w=Y b
 |0,c,_,_,h,_,_,_,_,_=>by have:=EI c;omega|N+1,c,p,w,h,S,O,hk,w0,w1=>by
  have key:∀q:d7,P7 q->∃b,∀n,N<=n->ei (D5 (ρ:=Bool) (λ(j:Int×Int)=>
    if ((decide (j.2<(q.dr.dl.length:Int)))&&(decide (j.1<=5000)))=X then
    Y (.next (At (j.1*40),At (j.2+1)))
    else
    Y (.brk (j.1,j.2))) (w,(p.dr.dl.length:Int))) (λj=>
    ei (D5 (ρ:=Bool) (λ(s2:Int×Int)=>
    if ((decide (s2.2<(q.dr.d3.length:Int)))&&(decide (s2.1<=5000)))=X then
    Y (.next (At (s2.1*80),At (s2.2+1)))
    else
    Y (.brk (s2.1,s2.2))) (j.1,(p.dr.d3.length:Int))) (λs2=>
    ei (D5 (ρ:=Bool) (λ(s:Int)=>
    if ((decide (s<(c.em.length:Int)))&&(decide (s2.1<=5000)))=X then
    (idx c.em s).bind λz=>
    (Dt n q z s2.1).bind λD=>
    if (!D)=X then
    Y (.ret T)
    else
    Y (.next (At (s+1)))
    else
    Y (.brk s)) 0) (λs=>
    Y (decide (s2.1<=5000))) (λε=>Y ε)) (λη=>Y η)) (λζ=>Y ζ)=Y b:=by
   intro q u;have q1:=u.ea;have q2:=u.eg;have p1:=O.ea;have p2:=O.eg;obtain⟨a,k,ha,Q⟩:=b8 (ρ:=Bool) (q:=q.dr.dl.length) (w:=w) (k:=p.dr.dl.length) 40 U U U U U;obtain⟨a',k',J,y⟩:=b8 (ρ:=Bool) (q:=q.dr.d3.length) (w:=a) (k:=p.dr.d3.length) 80 U U U U ha;have δ:c.em.length<=1000:=by have:=U7 c.em;have:=U8 c;omega
   by_cases I:a'<=5000
   .have kids:∀x∈c.em,∃b,∀n,N<=n->Dt n q x a'=Y b:=λx E=>by
     have F:=FG E;have G:=Wz E;have h3:=U8 c;exact kh N x q a' U (S.k x E) u U J.1 I
    have o:∀i:Int,∃b:Bool,0<=i->i<c.em.length->∀n,N<=n->Dt n q (AA c.em i) a'=Y b:=λi=>by
     by_cases e:0<=i/\i<c.em.length
     .obtain⟨b,hb⟩:=kids _ (AI e.1 e.2);exact⟨b,λ_ _=>hb⟩
     .exact⟨X,λF G=>absurd ⟨F,G⟩ e⟩
    obtain ⟨g,Z⟩:=Classical.axiomOfChoice o;refine⟨(fst (λi=>if g i=X then W else Y (Sum.inr T:Int ⊕ Bool)) 0 c.em.length).isNone,λn H=>?_⟩;rw[Q,B1];simp only[];rw[y,B1];simp only[];rw[O4 (λi=>if g i=X then W else Y (.inr T)) (b:=c.em.length) U]
    .cases e:fst (λi=>if g i=X then W else Y (Sum.inr T:Int ⊕ Bool)) 0 (c.em.length:Int)with
     |none=>
      show Y (decide (a'<=5000))=Y X;rw[decide_eq_true I]
     |some r=>
      obtain ⟨i,_,_,K,_⟩:=Cc e;split at K
      .cases K
      .cases K;rfl
    .intro i P i1 _;rw[a6 a_,AD P i1,bs,Z i P i1 n H,bs,A1 U U];cases g i<;>rfl
    .rw[ac V]
   .refine⟨T,λn H=>?_⟩;rw[Q,B1];simp only[];rw[y,B1];simp only[];rw[O4 (λ_=>W) (b:=0) U (λi F G _=>U) (by rw[ac a_])];rw[n9 U];show Y _=Y _;rw[decide_eq_false I]
  have u:P7 (if c.jj=5 then c.d7 else p):=by split;exact S.q;exact O
  obtain ⟨b,hb⟩:=key _ u;refine⟨b,λn H=>?_⟩;obtain⟨n,rfl⟩:∃k,n=k+1:=⟨n-1,U⟩;rw[Dt,show(if decide (c.jj=5)=X then Y c.d7 else Y p)=Y (if c.jj=5 then c.d7 else p)by by_cases e:c.jj=5<;>simp[e],bs];exact hb n U
end Go.Sf.Sc
namespace Go.Sf.Sc
open Go Go.Sf
variable{r:eh}
theorem iF(e:(B3 r).Sm):(AJ r.d5).Sm:=by
 have j:TV.Sms [_,_,_,_,_,_,_,_,_,_,_,_,_,_,_,_,_,_,_,_,_,_,_,_,_]:=e;obtain⟨_,_,_,_,_,_,_,_,_,_,_,D,E,i1,i2,_,o,s,c3,c4,u,w,y,c8,z,_⟩:=j;exact⟨o,s,c3,c4,u,w,y,c8,z,trivial⟩
variable{t:AC}
theorem j5(hf:A0 t)(st:(AK t).Sm)(e:(B3 r).Sm)(h:AF):∃b,Hd t r h=Y b/\(b=X->H0 r/\Do r.d5<=40):=by
 obtain ⟨j,o,_⟩:=Se st;obtain⟨s,u,w⟩:=qa e;obtain⟨y,z,D⟩:=o7 hf st r.fu (iF e) h;unfold Hd
 grind
theorem vB(st:(AK t).Sm){rules:List eh}(ε:∀r∈rules,(B3 r).Sm)(h:AF):∃b,MA t rules h=Y b/\(b=X->A0 t/\Eu rules):=by
 obtain ⟨b1,e1,f1⟩:=Se st;obtain⟨b2,e2⟩:=d9 h;unfold MA;by_cases P:(((decide (4<(rules.length:Int)))&&(decide ((rules.length:Int)<=10)))||(decide (12<(rules.length:Int))))=X
 .rw[a6 P,bs,a6 rfl,bs,a6 rfl];exact⟨T,rfl,λh=>c_⟩
 rw [ac P,e1,bs,bs];cases b1 with
 |false=>exact⟨T,rfl,λh=>c_⟩
 |true=>
 rw [ac a!,e2,bs,bs];cases b2 with
 |false=>exact⟨T,rfl,λh=>c_⟩
 |true=>
 rw [ac a!];have hf:=f1 rfl;have δ:rules.length<=12:=by
  simp only[C?,ne,sA,not_or]at P;omega
 rcases XB (f:=λ(o:Int)(η:Bool)=>
  (idx rules o).bind λw=>
  (Hd t w h).bind λy=>
  if (!y)=X then
  Y (.ret T)
  else
  (if η=X then((idx rules o).bind λz=>
  Y (decide ((z.fu.dr.dl.length:Int)<=3)))else Y T).bind λD=>
  (if D=X then((idx rules o).bind λE=>
  Y (decide ((E.fu.dr.d3.length:Int)<=2)))else Y T).bind λF=>
  (if F=X then((idx rules o).bind λG=>
  Y (decide ((G.ec.dr.dl.length:Int)<=5)))else Y T).bind λH=>
  (if H=X then((idx rules o).bind λI=>
  (idx rules o).bind λJ=>
  (OT I.fu J.d5 1).bind λK=>
  Y (K))else Y T).bind λN=>
  Y (.next N)) (λi _=>∀j:Int,0<=j->j<i->H0 (AA rules j)/\Do (AA rules j).d5<=40) (λ_=>False) (λr=>r=T) (a:=0) (b:=rules.length) (s:=X) U (λj h1 h2=>U) (λi s o i1 O=>by
   have Z:=AI o i1;obtain⟨b3,u,f3⟩:=j5 hf st (ε _ Z) h;simp only[AD o i1,bs];rw[u,bs];cases b3 with
   |false=>exact .inr (.inr ⟨T,rfl,rfl⟩)|true=>
    obtain ⟨Q,k2⟩:=f3 rfl;obtain⟨S,e4⟩:=kh _ (AA rules i).d5 (AA rules i).fu 1 (ae _) Q.cond Q.left U a! a!;have e5:OT (AA rules i).fu (AA rules i).d5 1=Y S:=DV _ e4;left;refine⟨(((s&&decide (((AA rules i).fu.dr.dl.length:Int)<=3))&&decide (((AA rules i).fu.dr.d3.length:Int)<=2))&&decide (((AA rules i).ec.dr.dl.length:Int)<=5))&&S,?_,λj ζ j1=>?_⟩
    .rw[ac a!,e5];cases s<;>cases decide (((AA rules i).fu.dr.dl.length:Int)<=3)<;>cases decide (((AA rules i).fu.dr.d3.length:Int)<=2)<;>cases decide (((AA rules i).ec.dr.dl.length:Int)<=5)<;>rfl
    .by_cases e:j=i
     .rw[e];exact⟨Q,k2⟩
     .exact O j ζ U)with⟨s',u,h3⟩|⟨r,u,h3⟩
 .rw[u,B1];have O:=h3.resolve_right id;have hr:Eu rules:=⟨δ,λr hr=>by
   obtain ⟨i,o,i1,rfl⟩:=Bh hr;exact O i o i1⟩
  rw [rc hf hr,bs];exact⟨_,rfl,λ_=>⟨hf,hr⟩⟩
 .rw[u,S4,h3];exact⟨T,rfl,λh=>c_⟩
variable{h:AF}
theorem np:∃b,If h=Y b/\(b=X->DN h):=by
 unfold If Jt;rw[bs];by_cases j:((!((decide ((h.dr.dl.length:Int)<=45))&&(decide ((h.dr.d3.length:Int)<=90))))||(decide (45<(h.eb.length:Int))))=X
 .rw[a6 j];exact⟨T,rfl,λh=>c_⟩
 rw [ac j,Bk (λi=>decide (12<((AA h.eb i).length:Int))) T]
 .cases e:kg (λi=>decide (12<((AA h.eb i).length:Int))) 0 h.eb.length with
  |true=>exact⟨T,rfl,λh=>c_⟩
  |false=>
   refine ⟨X,rfl,λ_=>?_⟩;rw[B6]at e;simp only[C?,Bool.not_eq_true',Bool.and_eq_false_iff,decide_eq_false_iff_not,sA,not_or]at j;refine⟨U,U,U,λv hv=>?_⟩
   grind [Bh]
 .intro i o i1 _;rw[AD o i1,bs,JO]
end Go.Sf.Sc
namespace Go.Sf.Sc
open Go Go.Sf
end Go.Sf.Sc
namespace Go.Sf.Sc
open Go Go.Sf
def SX(x:Int):Prop:=-9223372036854775808<=x/\x<=9223372036854775807
theorem wV{x y:Int}(e:SX x)(j:SX y):At (x-y)=0↔x=y:=by
 unfold SX at e j;rw[iU];split<;>omega
theorem ox{l m:Fp}(w:l.length<=1000)(y:m.length<=1000)(s:∀x∈l,SX x)(u:∀x∈m,SX x):∃v,Lv l m=Y v/\(v=0↔l=m):=by
 unfold Lv;rw[O4 (λi=>if AA l i=AA m i then W else Y (.inr (At (AA l i-AA m i)))) (b:=min (l.length:Int) m.length) U]
 .cases e:fst (λi=>if AA l i=AA m i then(W:Option (Int ⊕ Int))else Y (.inr (At (AA l i-AA m i)))) 0 (min (l.length:Int) m.length)with
  |none=>
   refine ⟨_,rfl,?_⟩;rw[A1 U U];rw[Bf]at e;constructor
   .intro h;refine Xv U λi j i1=>?_;have:=e i j U
    grind
   .rintro rfl;omega
  |some x=>
   obtain ⟨i,j,i1,o,_⟩:=Cc e;by_cases h:AA l i=AA m i
   .rw[a6 h]at o;cases o
   .rw[ac h]at o;cases o;refine⟨_,rfl,?_⟩;rw[wV (s _ (AI j U)) (u _ (AI j U))];exact⟨λk=>absurd k h,λk=>by rw[k]⟩
 .intro i j i1 _;rw[a6 a_,AD j U,bs,AD j U,bs];by_cases h:AA l i=AA m i
  .rw[ac q_,a6 h,A1 U U];rfl
  .rw[a6 q_,ac h,bs,bs];rfl
 .rw[ac a_]
structure G0(h:AF):Prop where
 s:DN h
 w:∀v∈h.eb,∀x∈v,SX x
theorem rM(l m:List Fp):DY l m slices_Equal_int=Y (decide (l=m)):=by
 unfold DY;simp only[Kb,bs];exact QE l m
theorem Ry(a b:AF):Gp a b=Y (decide (a=b)):=by
 unfold Gp;rw[Kb,bs,gO,bs,rM,bs];obtain⟨⟨n,e⟩,v⟩:=a;obtain⟨⟨u,w⟩,y⟩:=b;by_cases j:n=u<;>by_cases o:e=w<;>by_cases s:v=y<;>simp[j,o,s]
theorem TY{a b:AF}(ha:G0 a)(hb:G0 b):IU a b=Y (decide (a=b)):=by
 unfold IU;rw[kW,bs];obtain⟨g,v⟩:=a;obtain⟨F,e⟩:=b;simp only[];by_cases o:g=F
 .subst o;by_cases u:v.length=e.length
  .rw[ac k?,Bk (λi=>!decide (AA v i=AA e i)) T]
   .have:=Z6 (λx y:Fp=>decide (x=y)) (l:=v) (m:=e) (λ_ _ _ _=>decide_eq_true_iff) u;by_cases h:v=e
    .rw[this.2 h,ac V,B1];simp[h]
    .cases E:kg (λi=>!decide (AA v i=AA e i)) 0 v.length
     .exact absurd (this.1 E) h
     .rw[a6 rfl,S4];simp[h]
   .intro i j i1 _;have z:=AI j i1;have D:=AI (l:=e) j U;obtain⟨x,G,H⟩:=ox (ha.s.rows _ z) (hb.s.rows _ D) (ha.w _ z) (hb.w _ D);rw[AD j i1,bs,AD j U,bs,G,bs];by_cases h:AA v i=AA e i<;>simp[h,H]
  .rw[a6 a_];have:v≠e:=λh=>u (by rw[h]);simp[this]
 .rw[a6 p?];simp[o]
theorem od(a b:d7):HN a b=Y (decide (a=b)):=by
 unfold HN RY;simp only[Kb,gO,om,oo,bs];obtain⟨⟨n,e⟩,s,v,t⟩:=a;obtain⟨⟨z,D⟩,s',E,F⟩:=b;by_cases j:n=z<;>by_cases o:e=D<;>by_cases u:s=s'<;>by_cases w:v=E<;>by_cases y:t=F<;>simp[j,o,u,w,y]
noncomputable def aQ(a b:eh):Bool:=@decide (a=b) (D? _)
noncomputable def jk(a b:AR):Bool:=@decide (a=b) (D? _)
theorem jn{a b:eh}:aQ a b=X↔a=b:=by unfold aQ;exact@decide_eq_true_iff _ (D? _)
theorem ZM{a b:AR}:jk a b=X↔a=b:=by unfold jk;exact@decide_eq_true_iff _ (D? _)
theorem kZ(a b:eh):aQ a b=(decide (a.kq=b.kq)&&decide (a.ij=b.ij)&&decide (a.fu=b.fu)&&decide (a.ec=b.ec)&&decide (a.o3=b.o3)&&decide (a.mo=b.mo)&&Ur a.d5 b.d5):=by
 rw [C!,jn];simp only[ne,sA,ZL];obtain⟨n,l,r,k,i,j,c⟩:=a;obtain⟨e,o,s,u,w,y,c'⟩:=b;simp only[eh.mk.injEq]
 grind
theorem kj(a b:AR):jk a b=(aQ a.eh b.eh&&decide (a.j0=b.j0)&&decide (a.fl=b.fl)&&decide (a.ex=b.ex)&&decide (a.kl=b.kl)&&decide (a.pq=b.pq)):=by
 rw [C!,ZM];simp only[ne,sA,jn];obtain⟨r,m,o,s,t,c⟩:=a;obtain⟨u,m',e,j,w,c'⟩:=b;simp only[AR.mk.injEq]
 grind
theorem db{b c:Bool}{o:K1}(h:o=Y c):(if b=X then o else Y T)=Y (b&&c):=by
 subst h;cases b<;>rfl
theorem vX(a b:eh):M3 a b=Y (aQ a b):=by
 unfold M3;simp only[od,Kb,WH,vW,bs];rw[kZ];obtain⟨n,l,r,⟨F,G⟩,i,j,c⟩:=a;obtain⟨H,I,J,⟨e,o⟩,K,N,c'⟩:=b;simp only[];by_cases s:n=H<;>by_cases u:j=N<;>by_cases w:l=I<;>by_cases y:r=J<;>simp[s,u,w,y];by_cases z:F=e<;>by_cases D:G=o<;>by_cases E:i=K<;>simp[z,D,E]
theorem pE(a b:eh):Pl a b=Y (aQ a b):=by
 unfold Pl Rh;simp only[kX,WK,WM,vt,bs];rw[kZ];obtain⟨n,l,r,⟨F,G⟩,i,j,c⟩:=a;obtain⟨H,I,J,⟨e,o⟩,K,N,c'⟩:=b;simp only[];by_cases s:n=H<;>by_cases u:j=N<;>by_cases w:l=I<;>by_cases y:r=J<;>simp[s,u,w,y];by_cases z:F=e<;>by_cases D:G=o<;>by_cases E:i=K<;>simp[z,D,E]
theorem rV(a b:AP):Ky a b=Y (decide (a=b)):=by
 unfold Ky;simp only[WH,Kb,bs];obtain⟨m,v⟩:=a;obtain⟨m',o⟩:=b;by_cases e:m=m'<;>by_cases j:v=o<;>simp[e,j]
theorem gj(a b:AP):Hz a b=Y (decide (a=b)):=by
 unfold Hz;simp only[WK,bs];obtain⟨⟨m1,w⟩,v⟩:=a;obtain⟨⟨e,j⟩,y⟩:=b;by_cases o:m1=e<;>by_cases s:w=j<;>by_cases u:v=y<;>simp[o,u,s]
theorem vY(a b:AR):M8 a b=Y (jk a b):=by
 unfold M8;simp only[vX,rV,Ry,WH,bs,kj];cases aQ a.eh b.eh<;>by_cases e:a.j0=b.j0<;>by_cases j:a.fl=b.fl<;>by_cases o:a.ex=b.ex<;>by_cases s:a.kl=b.kl<;>simp[e,j,o,s]
structure lQ(s:AR):Prop where
 b:G0 s.fl
 a:G0 s.ex
theorem vu{a b:AR}(ha:lQ a)(hb:lQ b):Pn a b=Y (jk a b):=by
 unfold Pn;simp only[pE,gj,TY ha.b hb.b,TY ha.a hb.a,WM,bs,kj];cases aQ a.eh b.eh<;>by_cases e:a.j0=b.j0<;>by_cases j:a.fl=b.fl<;>by_cases o:a.ex=b.ex<;>by_cases s:a.kl=b.kl<;>simp[e,j,o,s]
variable{κ:List Fp}
theorem aZ(h:∀v∈κ,∀x∈v,SX x):∀{L:Bq},(∀p∈L,SX p.2)->∀{κ:List Fp},(∀v∈κ,∀x∈v,SX x)->∀v∈L.foldl Cl κ,∀x∈v,SX x
 |[],_,_,k=>k|p::L,j,κ,k=>by
  rw [List.foldl_cons];refine aZ h (L:=L) (λq o=>j q (v6 _ o)) ?_;unfold Cl;split
  .intro v hv x e;obtain⟨n,s,rfl⟩:=List.mem_iff_getElem.1 hv;rw[List.getElem_modify]at e;split at e
   .rcases List.mem_or_eq_of_mem_set e with e|rfl
    .exact k _ (B? _) _ e
    .exact j p (A_ ..)
   .exact k _ (B? _) _ e
  .exact k
variable{t:AC}{h:AF}
theorem qC(hf:A0 t)(e:(ER t h).2=0):G0 h:=by
 obtain ⟨hv,hh⟩:=Ou hf e;refine⟨RZ hf hv hh,λv j x o=>?_⟩;obtain⟨i,s,i1,rfl⟩:=Bh j;have:=hh.low i s (by have:=hh.len;omega) x o;unfold SX;omega
variable{r:eh}{m:AP}
theorem cD(s:Qs t r h m):lQ (Ui t r h m):=by
 have hh:=s.f.hh;have y:=qC s.f.hf s.f.he;have z:=s.f.put;have hT:=C6 s.f.hv;refine⟨y,s.trk.sm,?_⟩;have hb:=(gN s.put).2;refine aZ (κ:=[]) V (λp e=>?_) ?_
 .obtain⟨sl,E,rfl⟩:=v5.1 e;have k:=z.slot sl E;rw[List.any_eq_false]at hb;have j:=hb _ e;unfold Nt at j;have D:=z.kind _ (AI k.2.2.1.1 k.2.2.1.2);have F:=Tt s.f.hf hT D.1 D.2 _ (AI k.2.2.2.1 k.2.2.2.2);simp only[C?,sA,not_or]at j;unfold SX;unfold Rp at j|-;dsimp only at j|-;omega
 .intro v hv x u;unfold C3 Oi at hv;rcases B_.1 hv with hv|hv
  .unfold CY at hv;obtain⟨i,hi,rfl⟩:=v5.1 hv;have:=s.f.rem.ea.1 i hi;exact y.w _ (AI this.1 (by have:=hh.len;omega)) x u
  .obtain⟨i,hi,rfl⟩:=v5.1 hv;unfold VQ at u;obtain⟨a,ha,rfl⟩:=v5.1 u;have o:=Gu hi;have k:=s.f.grow.kind _ (AI (l:=r.ec.dr.dl) o.1 o.2);have G:=Tt s.f.hf hT k.1 k.2 a ha;have j:=aH s.f.hf hT k.1 k.2 a ha;unfold SX;omega
end Go.Sf.Sc
namespace Go.Sf.Sc
open Go Go.Sf
variable{q:P8}
theorem dU:∀(n:Nat)(f:AM),f.eg.length+n=f.p.d3.length->(∀i:Int,0<=i->i<f.p.d3.length->PL.at_ f.ff.d3 i=PL.at_ q.d3 i)->EU n f=EU n {f with ff:=q}
 |0,_,_,_=>rfl|n+1,f,j,h=>by
  rw [EU,EU];refine congrArg (λF=>(A3 f.g.d3.length).flatMap F) (funext λk=>?_);have e:SI f k=SI {f with ff:=q} k:=by
   grind [SI,Lg]
  rw [e,dU n {f with eg:=f.eg++[k]} a_ h]
theorem dY:∀(n:Nat)(f:AM),f.ea.length+n=f.p.dl.length->f.eg=[]->(∀i:Int,0<=i->i<f.p.dl.length->PL.at_ f.ff.dl i=PL.at_ q.dl i)->(∀i:Int,0<=i->i<f.p.d3.length->PL.at_ f.ff.d3 i=PL.at_ q.d3 i)->Fw n f=Fw n {f with ff:=q}
 |0,f,_,he,_,h=>dU f.p.d3.length f (by rw[he];simp) h|n+1,f,o,he,j,h=>by
  rw [Fw,Fw];refine congrArg (λF=>(A3 f.g.dl.length).flatMap F) (funext λk=>?_);have e:SJ f k=SJ {f with ff:=q} k:=by
   grind [SJ]
  rw [e,dY n {f with ea:=f.ea++[k]} a_ he j h]
variable{n:Nat}{i v:Int}
theorem nZ(e:0<=i)(j:i<n):AA (List.replicate n v) i=v:=by
 unfold AA
 grind
def F0(t:AC)(p g:dr)(inj:Bool):AM:=⟨p,g,KT t,P8.mk W W,inj,5001,[],[],[]⟩
variable{t:AC}{p g:dr}
theorem qM{inj:Bool}:Fw p.dl.length (F0 t p g inj)=Fw p.dl.length (FF t p g (NU p) inj):=
 dY (q:=P8.of (NU p)) p.dl.length (F0 t p g inj) p_ rfl (λi e i1=>(nZ e i1).symm) (λi e i1=>(nZ e i1).symm)
theorem rP{inj:Bool}(s:A0 t)(hv:(BF t).2=0)(o:Np (FF t p g (NU p) inj)):Gf t p g ⟨W,W⟩ inj 5001=Y (Jk t p g (NU p) inj):=by
 unfold Gf;rw[mR s (C6 hv) hv,bs];have j:Np (F0 t p g inj):=⟨trivial,trivial,o.ends,o.kinds,o.small⟩;have h:=oY (f:=F0 t p g inj) j ⟨by show(0:Int)<=5001;omega,by show(5001:Int)<=10000;omega,by show((0:Nat):Int)<=5001;omega⟩ rfl rfl;rw[dV _ _ j rfl,show(F0 t p g inj).p.dl.length=p.dl.length from rfl,qM]at h;have e:AM.mk p g (KT t) ⟨W,W⟩ inj 5001 [] [] []=F0 t p g inj:=rfl;rw[e,h];rfl
def MK(t:AC)(p g:dr)(inj:Bool):List d4×Int:=
 if E5 t p g≠0 then([],E5 t p g)else if 5000<(Jk t p g (NU p) inj).length then([],3)else(Jk t p g (NU p) inj,0)
theorem yE(hf:A0 t)(p g:dr)(inj:Bool):Lf t p g inj=Y (MK t p g inj):=by
 unfold Lf MK;rw[WI hf,bs];refine D2 λe=>?_
 grind [W8,NU,Jz,rP,bs,Jk]
theorem yY(hf:A0 t)(p g:dr)(inj:Bool):Mx t p g inj=Y (MK t p g inj):=by
 unfold Mx MK;rw[UV hf,bs];refine D2 λe=>?_;obtain⟨hv,o⟩:=W8 (inj:=inj) (pa:=NU p) e (by simp[NU]) (by simp[NU]);have j:=(Of e).2.1;have:=j.ea;have:=j.eg
 grind [rg,bs,uI,Jk,NU]
end Go.Sf.Sc
namespace Go.Sf.Sc
open Go Go.Sf
variable{α:Type}{f:Int->List α->Option (List α)}
theorem bE[Inhabited α]{x:List α}{p:α->Bool}(u:x.length<=5000)
  (hf:∀(i:Int)(s:List α),0<=i->i<x.length->s.length<=5000->f i s=Y (if p (AA x i)=X then s++[AA x i]else s)):
  ls f 0 (x.length:Int) []=Y (x.filter p):=by
 rw [By (a:=0) (b:=x.length) (s:=[]) (λi=>(x.take i.toNat).filter p) U rfl,E_,x!];intro i e i1;have j:((x.take i.toNat).filter p).length<=5000:=l?
 rw [hf i _ e i1 j,BU e i1,List.filter_append];cases o:p (AA x i)<;>simp[o]
def Lu(t:AC)(p:d7)(h:AF)(inj:Bool):List AP×Int:=
 if OP t p h≠0 then([],OP t p h)else if(MK t p.dr h.dr inj).2≠0 then([],(MK t p.dr h.dr inj).2)else
 (((MK t p.dr h.dr inj).1.filter λy=>decide ((Gh p h y).2=0)).map λy=>⟨y,(Gh p h y).1⟩,0)
variable{t:AC}{p g:dr}
theorem dZ{inj:Bool}(h:(MK t p g inj).2=0):(MK t p g inj).1.length<=5000/\∀m∈(MK t p g inj).1,Gx t p g m inj=0:=by grind[MK,n8]
theorem rU(hf:A0 t)(p:d7)(h:AF)(inj:Bool):FA t p h inj=Y (Lu t p h inj):=by
 unfold FA Lu;rw[bP hf,bs];refine D2 λw=>?_;rw[yE hf,bs];refine D2 λz=>?_;obtain⟨E,G⟩:=dZ z;rw[QW (F:=λy=>((Gh p h y).1,decide ((Gh p h y).2=0))) E,bs];intro i s D i1 j;have o:GU p h (AA (MK t p.dr h.dr inj).1 i)=Y (Gh p h (AA (MK t p.dr h.dr inj).1 i)):=by
  obtain ⟨hv,u,hh,e⟩:=Qo hf w (G _ (AI D i1));exact kN u (λs j=>O2 (C6 hv) u hh e j)
 grind [AD,bs,Gh,AA,MK,AV,AY]
theorem rd(hf:A0 t)(p:d7)(h:AF)(inj:Bool):H7 t p h inj=Y (Lu t p h inj):=by
 unfold H7 Lu;rw[bZ hf,bs];refine D2 λw=>?_;rw[yY hf,bs];refine D2 λz=>?_;obtain⟨E,G⟩:=dZ z;rw[QW (F:=λy=>((Gh p h y).1,decide ((Gh p h y).2=0))) E,bs];intro i s D i1 j;have o:I6 p h (AA (MK t p.dr h.dr inj).1 i)=Y (Gh p h (AA (MK t p.dr h.dr inj).1 i)):=by
  obtain ⟨hv,u,hh,e⟩:=Qo hf w (G _ (AI D i1));exact kY u (λs j=>O2 (C6 hv) u hh e j)
 grind [AD,bs,Gh,AA,MK,AV,AY]
variable{h:AF}
theorem VR{p:d7}{inj:Bool}:(Lu t p h inj).1.length<=5000:=by grind[Lu,dZ,c9,Nat.le_trans,w!]
noncomputable def RW(t:AC)(r:eh)(h:AF):Int:=if ES t r≠0 then ES t r else(ER t h).2
variable{r:eh}
theorem kI(hf:A0 t)(fr:H0 r)(h:AF):IX t r h=Y (RW t r h):=by
 unfold IX RW;rw[Oy hf,bs];by_cases hv:¬(BF t).2=0
 .grind[ES,BF]
 have hv:=D!.1 hv;rw[ac l!,gI hf fr,bs,Vb hf];exact D2 λ_=>rfl
theorem vj(hf:A0 t)(fr:H0 r)(h:AF):He t r h=Y (RW t r h):=by
 unfold He RW;rw[gi hf fr,bs,Vi hf];exact D2 λ_=>rfl
theorem rJ(hf:A0 t)(fr:H0 r)(j:Do r.d5<=40)(e:RW t r h=0)(m:AP):IW t r h m=Y (Ef t r h m):=by
 have:=Yn hf fr j h m;unfold Fv at this;rw[kI hf fr,bs,ac b?]at this;cases k:IW t r h m with
 |none=>rw[k]at this;cases this
 |some x=>rw[k]at this;exact this
noncomputable def GV(t:AC)(r:eh)(h:AF):List AP×Int:=
 if RW t r h≠0 then([],RW t r h)else if(Lu t r.fu h r.ij).2≠0 then([],(Lu t r.fu h r.ij).2)else
 ((Lu t r.fu h r.ij).1.filter λm=>decide ((Ef t r h m).2=0),0)
theorem yG(hf:A0 t)(fr:H0 r)(e:Do r.d5<=40)(h:AF):FR t r h=Y (GV t r h):=by
 unfold FR GV;rw[kI hf fr,bs];refine D2 λj=>?_;rw[rU hf,bs];refine D2 λo=>?_;rw[bE (p:=λm=>decide ((Ef t r h m).2=0)) VR,bs]
 grind [AD,bs,rJ,Ef,AA,Lu,AV,AY]
theorem yZ(hf:A0 t)(fr:H0 r)(e:Do r.d5<=40)(h:AF):El t r h=Y (GV t r h):=by
 unfold El GV;rw[vj hf fr,bs];refine D2 λj=>?_;rw[rd hf,bs];refine D2 λo=>?_;rw[bE (p:=λm=>decide ((Ef t r h m).2=0)) VR,bs]
 grind [AD,bs,gm,Ef,AA,Lu,AV,AY]
theorem ue:(GV t r h).1.length<=5000:=by grind[GV,Nat.le_trans,w!,VR]
variable{m:AP}
theorem xR(e:m∈(GV t r h).1):(Ef t r h m).2=0:=by
 unfold GV at e
 grind
end Go.Sf.Sc
namespace Go.Sf
variable{σ ρ:Type}
theorem Wb{f g:Int->σ->Option (CF σ ρ)}:∀(n:Nat)(i:Int)(s:σ),(∀j s,i<=j->j<i+n->f j s=g j s)->tl f n i s=tl g n i s
 |0,_,_,_=>rfl|n+1,i,s,h=>by
  rw [Ew,Ew,h i s U U];cases g i s with
  |none=>rfl|some c=>
   cases c with
   |next s'=>exact Wb n (i+1) s' λj t e o=>h j t U U|brk _=>rfl|ret _=>rfl
variable{a b:Int}
theorem lv{f g:Int->σ->Option (CF σ ρ)}{s:σ}(h:∀j s,a<=j->j<b->f j s=g j s):gt f a b s=gt g a b s:=Wb _ _ _ λj t e o=>h j t e U
end Go.Sf
namespace Go.Sf.Sc
open Go Go.Sf
instance:Inhabited DA:=⟨⟨0,default⟩⟩
noncomputable def dF(t:AC)(rules:List eh)(h:AF):Option (List DA×Int):=
 ei (gt (ρ:=(List DA×Int)) (λ(i0:Int)(s0:List DA)=>
 (idx rules i0).bind λx20=>
 if (!decide ((GV t x20 h).2=0))=X then
 Y (.ret ([],(GV t x20 h).2))
 else
 (ls (λ(i2:Int)(s2:List DA)=>
 (idx (GV t x20 h).1 i2).bind λx36=>
 (Aw s2 [DA.mk i0 x36]).bind λx43=>
 Y x43) 0 ((GV t x20 h).1.length:Int) s0).bind λs2=>
 Y (.next s2)) 0 (rules.length:Int) []) (λs0=>
 Y (s0,0)) (λv0=>Y v0)
variable{t:AC}
theorem yl(hf:A0 t){rules:List eh}(hr:Eu rules)(h:AF):Iu t rules h=dF t rules h:=by
 unfold Iu dF;congr 1;refine lv λj s e o=>?_;have:=hr.each _ (AI e o)
 grind [AD,bs,yZ]
variable{i:Int}
theorem qK{L:List AP}{s:List DA}(y:s.length+L.length<=100000):ls (λ(i2:Int)(s2:List DA)=>
 (idx L i2).bind λe=>
 (Aw s2 [DA.mk i e]).bind λo=>
 Y o) 0 (L.length:Int) s=Y (s++L.map (DA.mk i)):=by
 rw [By (λj=>s++(L.take j.toNat).map (DA.mk i)) U V,E_,x!];intro j u w;rw[AD u w,bs,AV b_,bs,BU u w,y?,<-ci];rfl
end Go.Sf.Sc
namespace Go.Sf.Sc
open Go Go.Sf
variable{α:Type}
theorem Xi{e:α->TV}:∀{l:List α},TV.p0 (l.map e)->∀x∈l,(e x).WF
 |y::l,h,x,j=>by
  rcases v_.1 j with rfl|j
  .exact h.1
  .exact Xi h.2 x j
structure WU(h:AF)(p:BN):Prop where
 t2:p.dl.length<=1000
 wi:p.d3.length<=1000
 node:∀x∈p.dl,0<=x/\x<h.dr.dl.length
 edge:∀x∈p.d3,0<=x/\x<h.dr.d3.length
end Go.Sf.Sc
