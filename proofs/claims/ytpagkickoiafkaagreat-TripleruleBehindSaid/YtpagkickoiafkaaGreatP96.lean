/- Plain lemmas: what the functions of the program and of the reference compute. -/
import Derived.Test.YtpagkickoiafkaaGreatP46
set_option linter.all false
set_option maxRecDepth 100000
open Option renaming some->Y,none->W
open Bool renaming true->X,false->T
open List renaming mem_filter->v?,mem_map->w_,mem_range->w!,mem_cons_of_mem->w?,foldl_append->x_,mem_append_left->x!,mem_singleton->x?,map_map->y_,length_filter_le->y!,map_id->y?,ext_getElem->z_,take_length->z!,getElem_map->z?,getElem_replicate->A_,map_append->A',map_congr_left->A!,map_singleton->A?,append_nil->B_,mem_cons_self->B',getElem?_eq_some_iff->B!,length->B?,mem_append->C_,getElem_mem->C',drop_left->C!
open Int renaming toNat_of_nonneg->C?,toNat_natCast->D_,add_zero->D',add_assoc->D!,le_refl->D?,ofNat_le->E_
open Bool renaming true_and->E',or_eq_false_iff->E!,eq_iff_iff->E?,or_eq_true->F_,false_and->F!,eq_false_iff->F?
open Classical renaming not_not->G_,propDecidable->G!
open Nat renaming le_trans->G?,zero_le->H_
namespace Go.Sf.Sc
open Go Go.Sf
def Ib(p g:ci)(m:cE):ci:=⟨m.bq.map (AA g.bq),p.ca⟩
variable{l:Fp}
theorem OE{n x:Int}:x∈AX l n↔(0<=x/\x<n)/\x∉l:=by
 unfold AX;rw[v?];constructor
 .grind[Int.natCast_nonneg,Aq]
 .rintro⟨⟨b,e⟩,j⟩;refine⟨w_.2 ⟨x.toNat,w!.2 U,C? b⟩,?_⟩
  grind [hasB,Aq]
theorem NU(l:Fp)(n:Int):(AX l n).Pairwise (·<·):=by grind[AX,List.pairwise_lt_range.imp]
def D8(images em:Fp):Fp:=(AX em images.length).map (AA images)
theorem Ut{images em:Fp}{x:Int}:x∈D8 images em↔∃i:Int,(0<=i/\i<images.length)/\i∉em/\AA images i=x:=by grind[D8,OE]
def wl(images em:Fp):Bool:=gp (λa=>gp (λb=>decide (AA images a=AA images b)&&(!hasB em a||!hasB em b)) (a+1) images.length) 0 images.length
theorem jF{images em:Fp}(h:wl images em=T){a b:Int}(a0:0<=a)(a1:a<images.length)(w:0<=b)(u:b<images.length)(y:a∈em)(e:AA images a=AA images b):b∈em:=by
 unfold wl at h;rw[BY]at h;by_cases o:a=b
 .exact o▸y
 by_cases z:a<b
 .have j:=h a a0 a1;rw[BY]at j;have q:=j b U u;rw[decide_eq_true e,E',E!]at q
  grind [Aq]
 .have j:=h b w u;rw[BY]at j;have q:=j a U a1;rw[decide_eq_true e.symm,E',E!]at q
  grind [Aq]
variable{i:Int}
theorem Ux{images em:Fp}(h:wl images em=T)(b:0<=i)(e:i<images.length)(j:i∈em):AA images i∉D8 images em:=by grind[Ut,jF]
def Mo(g:ci)(em:A3)(m:cE)(i:Int):Bool:=
 !hasB m.ca i&&(hasB (D8 m.bq em.bq) (AA g.ca i).fd||hasB (D8 m.bq em.bq) (AA g.ca i).To)
def J9(g:ci)(em:A3)(m:cE):A3:=⟨AX (D8 m.bq em.bq) g.bq.length,AX (D8 m.ca em.ca) g.ca.length⟩
def Ln(l g:ci)(em:A3)(m:cE):A3×Int:=
 if Gp l g m≠0 then(⟨[],[]⟩,Gp l g m)else if DU l em≠0 then(⟨[],[]⟩,DU l em)else
 if (wl m.bq em.bq||wl m.ca em.ca)=X then(⟨[],[]⟩,15)else
 if gp (Mo g em m) 0 g.ca.length=X then(⟨[],[]⟩,14)else(J9 g em m,0)
structure bG(l g:ci)(em:A3)(m:cE):Prop where
 mor:ai l g m
 part:bJ l em
 d6:wl m.bq em.bq=T
 d7:wl m.ca em.ca=T
 free:∀i:Int,0<=i->i<g.ca.length->Mo g em m i=T
variable{g:ci}
theorem cx{p:A3}(h:DU g p=0):Bt g=0/\Ms g p=0:=by grind[DU]
theorem YX{l g:ci}{em:A3}{m:cE}(h:(Ln l g em m).2=0):bG l g em m/\Ln l g em m=(J9 g em m,0):=by
 unfold Ln at h|-;split at h
 .grind
 rename_i e;rw[aE e];split at h
 .grind
 rename_i j;rw[aE j];split at h
 .grind
 rename_i b;rw[aE b];split at h
 .grind
 rename_i o;rw[aE o];simp[not_or]at b;exact⟨⟨Vn (G_.1 e),VA (cx (G_.1 j)).2,b.1,b.2,BY.1 f?⟩,rfl⟩
theorem mY{l g:ci}{em:A3}{m:cE}(h:bG l g em m):Ms g (J9 g em m)=0:=by
 have w:=h.mor;have H:=w.gb;have I:∀x∈(J9 g em m).bq,0<=x/\x<g.bq.length:=λx o=>Db o;have J:∀x∈(J9 g em m).ca,0<=x/\x<g.ca.length:=λx o=>Db o;have j:∀{l:Fp}{n:Int},(∀x∈l,0<=x/\x<n)->l.Pairwise (·<·)->M1 l n=0:=by
  grind [M1,BQ,AG,HL]
 unfold Ms;rw[j I (NU _ _),j J (NU _ _)];simp;rw[BQ.2 λi F G=>?_]
 .rfl
 have o:=AG F G;generalize AA (J9 g em m).ca i=x at o;have b:(0<=x/\x<g.ca.length)/\x∉D8 m.ca em.ca:=OE.1 o;have hf:=H.fit _ (AG b.1.1 b.1.2);have y:(AA g.ca x).fd∉D8 m.bq em.bq/\(AA g.ca x).To∉D8 m.bq em.bq:=by
  by_cases hi:x∈m.ca
  .obtain⟨k,D,E,e⟩:=A9 hi;have q:k∈em.ca:=by
    by_cases q:k∈em.ca
    .exact q
    .exact absurd (Ut.2 ⟨k,⟨D,E⟩,q,e⟩) b.2
   have ends:=h.part.ends k q;have he:=w.edge k D E;rw[e]at he;have z:=h.part.d6.1;have K:=z _ ends.1;have N:=z _ ends.2;have P:=w.pr;rw[<-he.2.2.1,<-he.2.2.2];exact⟨Ux h.d6 K.1 U ends.1,Ux h.d6 N.1 U ends.2⟩
  .have hd:=h.free x b.1.1 b.1.2;unfold Mo at hd;rw[show hasB m.ca x=T from by cases O:hasB m.ca x with|false=>rfl|true=>exact absurd (Aq.1 O) hi,Bool.not_false,E',E!]at hd;exact⟨λu=>by rw[Aq.2 u]at hd;exact absurd hd.1 a_,λu=>by rw[Aq.2 u]at hd;exact absurd hd.2 a_⟩
 grind [hasB,J9,AA,Aq,OE]
def E9(n:Nat)(l:Fp):Fp:=(Ak n).map (Ao l)
variable{v:Int}
theorem Yi(h:v∉l):Ao l v=-1:=by grind[Ao,BQ,AG]
theorem NG(l:Fp)(v:Int):-1<=Ao l v/\Ao l v<l.length:=by
 by_cases h:v∈l
 .have:=BH h;omega
 .rw[Yi h];omega
theorem J2:0<=Ao l v↔v∈l:=by grind[Yi,BH]
theorem Jq(n:Nat)(l:Fp):(E9 n l).length=n:=by unfold E9;rw[az,Az]
variable{n:Nat}
theorem KE(b:0<=i)(e:i<n):AA (E9 n l) i=Ao l i:=GH _ b e
theorem Df(h:l.Nodup)(b:0<=i)(e:i<l.length):Ao l (AA l i)=i:=by
 have j:=BH (AG b e)
 grind [Ao,AA,HL]
def M2(em into at_:Fp)(n i:Int):Int:=if hasB into i=X then AA at_ (AA em (Ao into i))else n+(AX into i).length
def Uk(count:Nat)(em into at_:Fp)(n:Int):Fp:=(Ak count).map (M2 em into at_ n)
theorem SX(count:Nat)(em into at_:Fp)(n:Int):(Uk count em into at_ n).length=count:=by unfold Uk;rw[az,Az]
variable{count:Nat}
theorem XO{em into at_:Fp}{n i:Int}(b:0<=i)(e:i<count):AA (Uk count em into at_ n) i=M2 em into at_ n i:=GH _ b e
theorem Kl(h:0<=i):((AX l i).length:Int)<=i:=by grind[Jm]
end Go.Sf.Sc
namespace Go.Sf.Sc
open Go Go.Sf
variable{α:Type}
theorem pX{P:List α->Prop}(b:P [])(e:∀l a,P l->P (l++[a]))(l:List α):P l:=by
 have:∀l:List α,P l.reverse:=by
  intro l
  induction l with
  |nil=>exact b|cons a l j=>rw[List.reverse_cons];exact e _ _ j
 rw [<-List.reverse_reverse l];exact this _
def QH(L:BZ):BZ:=L.foldl (λm p=>m.set p.1 p.2) []
theorem cQ(L:BZ)(p:(Int×Int)×Int):QH (L++[p])=(QH L).set p.1 p.2:=by
 unfold QH
 grind
def S7(L:BZ):Prop:=∀p∈L,∀q∈L,p.1=q.1->p.2=q.2
variable{k:Int×Int}{v:Int}
theorem Uy:∀{m:BZ},m.look k=Y v->(k,v)∈m
 |[],h=>d!
 |p::r,h=>by
  unfold BZ.look at h;split at h
  .grind
  .exact w? _ (Uy h)
theorem Zo:∀{m:BZ},m.look k=W->∀p∈m,p.1≠k
 |[],_,p,b=>by cases b
 |q::r,h,p,b=>by
  unfold BZ.look at h;split at h
  .cases h
  .rename_i e;rcases List.mem_cons.1 b with rfl|b
   .exact e
   .exact Zo h p b
theorem gw:∀{m:BZ},m.look k=W->m.set k v=m++[(k,v)]
 |[],_=>rfl|p::r,h=>by
  unfold BZ.look at h;unfold BZ.set;split at h
  .cases h
  next e=>rw[aE e,gw h];rfl
theorem da:∀{m:BZ},m.look k=Y v->m.set k v=m
 |[],h=>d!
 |p::r,h=>by
  unfold BZ.look at h;unfold BZ.set;split at h
  .grind
  next e=>rw[aE e,da h]
theorem i7(κ:List Fp)(p:(Int×Int)×Int):CJ (CJ κ p) p=CJ κ p:=by
 unfold CJ;split
 .apply List.ext_getElem?
  grind [Option.map_eq_map,Option.map_map,List.set_set]
 .rfl
theorem oB{m:BZ}(hd:m.Dis){p:(Int×Int)×Int}(b:p∈m)(κ:List Fp):CJ (m.foldl CJ κ) p=m.foldl CJ κ:=by
 have e:m.Perm (m.erase p++[p]):=(List.perm_cons_erase b).trans (List.perm_append_singleton p (m.erase p)).symm;rw[<-XQ hd e κ,x_];exact i7 _ _
theorem S7.sub{L M:BZ}(h:S7 L)(b:∀p∈M,p∈L):S7 M:=λp e q j=>h p (b p e) q (b q j)
theorem fz(L:BZ):S7 L->(QH L).Dis/\(∀p,p∈QH L↔p∈L)/\∀κ,(QH L).foldl CJ κ=L.foldl CJ κ:=by
 refine pX (P:=λL=>S7 L->(QH L).Dis/\(∀p,p∈QH L↔p∈L)/\∀κ,(QH L).foldl CJ κ=L.foldl CJ κ) (λ_=>⟨List.Pairwise.nil,λp=>Iff.rfl,λκ=>rfl⟩) (λL p e b=>?_) L;obtain⟨y,w,z⟩:=e (b.sub λq j=>x! _ j);rw[cQ];cases o:(QH L).look p.1 with
 |none=>
  grind [gw,BZ.set_dis]
 |some v=>
  have u:=Uy o;have hv:v=p.2:=b (p.1,v) (x! _ ((w _).1 u)) p V rfl
  grind [da,x?,oB]
def O9(L:BZ):Bool:=gp (λi=>gp (λk=>decide ((AA L k).1=(AA L i).1)&&!decide ((AA L k).2=(AA L i).2)) 0 i) 0 L.length
variable{L:BZ}
theorem ZE(h:O9 L=T):S7 L:=by
 intro p u q w e;obtain⟨a,a0,a1,rfl⟩:=A9 u;obtain⟨b,y,z,rfl⟩:=A9 w;unfold O9 at h;rw[BY]at h;by_cases j:a=b
 .rw[j]
 by_cases D:a<b
 .have o:=h b y z;rw[BY]at o
  grind
 .have o:=h a a0 a1;rw[BY]at o
  grind
theorem b7(L:BZ)(κ:List Fp):Lk (L.foldl CJ κ) κ:=by
 induction L generalizing κ with
 |nil=>rfl|cons p r b=>exact(b (CJ κ p)).trans (ZO κ p)
end Go.Sf.Sc
namespace Go.Sf.Sc
open Go Go.Sf
variable{t:AC}{p g:ci}
theorem Rc{m:cE}{inj:Bool}(h:EN t p g m inj=0):EF t p g=0/\JC t p g m=0/\Y4 t p g m:=by grind[bZ,EN]
theorem kU{m:cE}{inj:Bool}(h:EN t p g m inj=0):EN t p g m T=0:=by grind[Rc,EN]
variable{α:Type}
theorem P7[Inhabited α](l:List α):(Ak l.length).map (AA l)=l:=by grind[Uh,az,Az,GH]
variable{β:Type}
theorem vW[Inhabited α](l:List α)(f:α->β):l.map f=(Ak l.length).map λj=>f (AA l j):=by
 rw [show(λj=>f (AA l j))=f∘AA l from rfl,<-y_,P7]
theorem vk(hf:Ay t){m:cE}{inj:Bool}(h:EN t p g m inj=0):Iq t p g m=Y (Ib p g m,0):=by
 obtain ⟨b,q,e⟩:=Rc h;obtain⟨_,j,y,_⟩:=LF b;unfold Iq;rw[Yq hf,bs,aE (by simp[b]),Zy hf b,bs,aE (by simp[q])];unfold DA;have:=j.d6;have:=j.d7;have:=e.pr;rw[BO a?,bs];rw[TP U (λx o=>?_) p.ca]
 .rfl
 .obtain⟨i,u,w,rfl⟩:=A9 o;exact(e.node i u w).1
theorem wJ(hf:Ay t){m:cE}{inj:Bool}(h:EN t p g m inj=0):JU t p g m=Y (Ib p g m,0):=by
 obtain ⟨y,D,u⟩:=Rc h;obtain⟨_,w,E,_⟩:=LF y;have:=w.d6;have:=w.d7;have z:=u.pr;unfold JU FW;rw[Yu hf,bs,aE (by simp[kU h]),BO a?,bs,BO a?,bs,bs];rw[OX (λi=>ci.mk ((Ak p.bq.length).map λj=>if j<i then AA g.bq (AA m.bq j)else AA p.bq j) p.ca) (a:=0) (b:=p.bq.length) U]
 .have e:((Ak p.bq.length).map λj=>if j<(p.bq.length:Int)then AA g.bq (AA m.bq j)else AA p.bq j)=m.bq.map (AA g.bq):=by
   grind [vW,DB]
  rw [e];rfl
 .congr 1;rw[<-P7 p.bq,az,Az]
  grind [DB,P7]
 .intro i o q;have hn:=u.node i o U;simp[Az];rw[QQ (by simpa using q),AD o U,bs,AD hn.1.1 hn.1.2,bs,AD o (by rw[az,Az];exact q),bs,Jp _ o,Ar U U]
  grind
 grind [az,Az]
variable{n:Nat}{f:Int->List α->Option (List α)}
theorem Pg(q:Int->Bool)(F:Int->α)(h:∀i s,0<=i->i<(n:Int)->s.length<=i.toNat->f i s=Y (if q i=X then s++[F i]else s)):BB f 0 n []=Y (((Ak n).filter q).map F):=by
 have e:∀k:Nat,(((Ak k).filter q).map F).length<=k:=λk=>by
  rw [az];exact G? (y! _ _) (by rw[Az];exact aN _)
 have:=BR (f:=f) (s:=[]) (λi=>((Ak i.toNat).filter q).map F) (a:=0) (b:=n) U rfl (λi j o=>by
  grind [Fd])
 grind
theorem bu{q:Int->Bool}{F:Int->α}:decide (0<((((Ak n).filter q).map F).length:Int))=gp q 0 n:=by
 rw [E?,ml,C3,az];constructor
 .intro h;have b:(Ak n).filter q≠[]:=λe=>by rw[e]at h;simp at h
  obtain ⟨x,w⟩:=List.exists_mem_of_ne_nil _ b
  grind [CB]
 .rintro⟨i,j,o,u⟩;have:i∈(Ak n).filter q:=v?.2 ⟨CB.2 ⟨j,o⟩,u⟩
  grind
theorem lg{x:Cu}(b:x.m.bq.length<=1000):DL x=Y (D8 x.m.bq x.em.bq):=by
 unfold DL;rw[Pg (λi=>!hasB x.em.bq i) (AA x.m.bq)]
 .rfl
 grind [AD,LD,hasB,AU,AY]
theorem Wo{images em:Fp}(b:images.length<=1000):J6 images em=Y (D8 images em):=by
 unfold J6;rw[Pg (λi=>!hasB em i) (AA images)]
 .rfl
 grind [Dw,hasB,Ol,AD,AU,AY]
theorem jY{x:Cu}(b:x.m.bq.length<=1000)(he:x.g.ca.length<=1000):DE x=Y ((Ak x.g.ca.length).filter (Mo x.g x.em x.m)):=by
 unfold DE;rw[lg b,bs,Pg (Mo x.g x.em x.m) id]
 .rw[bs,y?]
 .intro i s e j o;rw[AD e j,bs,LD,bs,LD,bs,LD,bs];unfold Mo;change (if(!hasB x.m.ca i)=X then(if hasB (D8 x.m.bq x.em.bq) (AA x.g.ca i).fd=X then Y X else Y (hasB (D8 x.m.bq x.em.bq) (AA x.g.ca i).To)).bind _ else Y T).bind _=_;cases hasB x.m.ca i<;>cases hasB (D8 x.m.bq x.em.bq) (AA x.g.ca i).fd<;>cases hasB (D8 x.m.bq x.em.bq) (AA x.g.ca i).To<;>simp[AU (show s.length+[i].length<=AY by simp;unfold AY;omega)]
theorem jg{l g:ci}{em:A3}{m:cE}(b:m.bq.length<=1000)(he:g.ca.length<=1000):JS l g em m=Y ((Ak g.ca.length).filter (Mo g em m)):=by
 unfold JS;rw[Wo b,bs,Pg (Mo g em m) id]
 .rw[bs,y?]
 .intro i s e j o;have hh:∀(l:Fp)(v:Int),Dw l v=Y (hasB l v):=Ol;simp[AD e j,hh];unfold Mo;cases hasB m.ca i<;>cases hasB (D8 m.bq em.bq) (AA g.ca i).fd<;>cases hasB (D8 m.bq em.bq) (AA g.ca i).To<;>simp[AU (show s.length+[i].length<=AY by simp;unfold AY;omega)]
variable{a i:Int}
theorem Rb{p:Int->Bool}(h:a<=i):gp p a (i+1)=(gp p a i||p i):=by
 rw [E?,F_,C3,C3]
 grind
theorem X2{images em:Fp}(I:images.length<=100){f:Int->Int->List Iw->Option (List Iw)}(hf:∀(i j:Int)s,0<=i->i<images.length->i<j->j<images.length->s.length<=20000->f i j s=Y (if(decide (AA images i=AA images j)&&(!hasB em i||!hasB em j))=X then s++[Iw.mk i j]else s)):
  ∃l,BB (λ(e:Int)(q:List Iw)=>(BB (λ(o:Int)(s2:List Iw)=>f e o s2) (Ag (e+1)) (images.length:Int) q).bind λs2=>Y s2) 0 (images.length:Int) []=Y l/\l.length<=10000/\decide (0<l.length)=wl images em:=by
 have key:=Ok (f:=λ(e:Int)(q:List Iw)=>(BB (λ(o:Int)(s2:List Iw)=>f e o s2) (Ag (e+1)) (images.length:Int) q).bind λs2=>Y s2) (s:=[])
  (λi s=>(s.length:Int)<=100*i/\decide (0<s.length)=gp (λa=>gp (λb=>decide (AA images a=AA images b)&&(!hasB em a||!hasB em b)) (a+1) images.length) 0 i) (a:=0) (b:=images.length) U
  (by refine⟨V,?_⟩;rw[BY.2 (λi y z=>U)];rfl) (λi s e D E=>by
   have u:=Ok (f:=λ(o:Int)(s2:List Iw)=>f i o s2) (s:=s)
    (λj s'=>(s'.length:Int)<=100*i+(j-(i+1))/\decide (0<s'.length)=(decide (0<s.length)||gp (λb=>decide (AA images i=AA images b)&&(!hasB em i||!hasB em b)) (i+1) j)) (a:=i+1) (b:=images.length) U
    (by refine⟨by have:=E.1;omega,?_⟩;rw[BY.2 (λi y z=>U),Bool.or_false]) (λj s' J F w=>by
     refine ⟨_,hf i j s' e D U F (by have:=w.1;omega),?_,?_⟩
     .grind
     .rw[Rb U,<-Bool.or_assoc,<-w.2]
      grind)
   grind [Ar,Rb])
 obtain ⟨l,G,K,H⟩:=key;exact⟨l,G,U,H⟩
theorem gM{images em:Fp}(E:images.length<=100):∃l,F5 images em=Y l/\l.length<=10000/\decide (0<l.length)=wl images em:=by
 unfold F5;obtain⟨l,J,K⟩:=X2 (em:=em) E (f:=λb e s2=>
  (idx images b).bind λo=>
  (idx images e).bind λq=>
  (if(decide (o=q))=X then((slices_Contains_int em b).bind λu=>
  (if(!u)=X then Y X else((slices_Contains_int em e).bind λw=>
  Y (!w))).bind λy=>
  Y (y))else Y T).bind λz=>
  if z=X then
  (Al s2 [Iw.mk b e]).bind λD=>
  Y D
  else
  Y s2) (λi j s b F H G I=>by
   have hh:∀(l:Fp)(v:Int),slices_Contains_int l v=Y (hasB l v):=LD;simp[AD b F,AD (show 0<=j by omega) G,hh]
   grind [AA,hasB,AU,AY])
 grind
theorem gc{images em:Fp}(E:images.length<=100):∃l,GB images em=Y l/\l.length<=10000/\decide (0<l.length)=wl images em:=by
 unfold GB;obtain⟨l,J,K⟩:=X2 (em:=em) E (f:=λb e s2=>
  (idx images b).bind λo=>
  (idx images e).bind λq=>
  (if(decide (o=q))=X then((Dw em b).bind λu=>
  (if(!u)=X then Y X else((Dw em e).bind λw=>
  Y (!w))).bind λy=>
  Y (y))else Y T).bind λz=>
  if z=X then
  (Al s2 [Iw.mk b e]).bind λD=>
  Y D
  else
  Y s2) (λi j s b F H G I=>by
   have hh:∀(l:Fp)(v:Int),Dw l v=Y (hasB l v):=Ol;simp[AD b F,AD (show 0<=j by omega) G,hh]
   grind [AA,hasB,AU,AY])
 grind
variable{l:Fp}
theorem dL(h:n<=1000):L5 n l=Y (AX l n):=by
 unfold L5;rw[VH (f:=Dw l) U U (λi=>Ol l i)];rfl
theorem ct{images em:Fp}(hn:n<=1000)(hi:∀x∈images,0<=x/\x<n):Gf n images em=Y (AX (D8 images em) n):=by
 unfold Gf GV;rw[QQ U,bs];rw[BR (λi=>(Ak n).map λk=>gp (λj=>!hasB em j&&decide (AA images j=k)) 0 i) U]
 .rw[bs,az,Az,Pg (λi=>!hasB (D8 images em) i) id]
  .rw[bs,y?];rfl
  .intro i s b o D;rw[AD b (by rw[az,Az];exact o),bs,GH _ b o];have e:gp (λj=>!hasB em j&&decide (AA images j=i)) 0 images.length=hasB (D8 images em) i:=by
    rw [E?,C3,Aq,Ut];constructor
    .rintro⟨j,u,w,h⟩;rw[gN,ml]at h
     grind [Aq]
    .rintro⟨j,⟨u,w⟩,F,h⟩;refine⟨j,u,w,?_⟩;rw[gN,ml]
     grind [hasB,Aq]
   grind [hasB,D8,AU,AY]
 .refine z_ u! (λk y z=>?_)
  grind [D_,BY]
 .intro i b o;have q:=hi _ (AG b o);have hh:∀(l:Fp)(v:Int),slices_Contains_int l v=Y (hasB l v):=LD;rw[AD b o,bs,hh,bs];cases E:hasB em i
  .rw[QQ a_,AD q.1 (by rw[az,Az];exact q.2),bs,Jp _ q.1]
   grind [DB,Rb,AA]
  grind [DB,Rb]
theorem iB{a b:Nat}(e:a<=10000)(j:b<=10000):decide (0<Ag ((a:Int)+(b:Int)))=(decide (0<a)||decide (0<b)):=by
 rw [Ar U U,E?,F_]
 grind
theorem vd{l g:ci}{em:A3}{m:cE}(z:R9 em):KO l g em m=Y (Ln l g em m):=by
 unfold KO FD Ln;simp only[];rw[ar,bs,gO z,bs];by_cases j:¬Gp l g m=0
 .grind
 have j:=G_.1 j;rw[aE j_,bs,aE (show¬Gp l g m≠0 by simp[j])];refine Do λK=>?_;have b:=Vn j;have a1:=b.ga.d6;have a2:=b.ga.d7;have P:=b.pr;have Q:=b.sr;have S:=b.gb.d6;have ε:=b.gb.d7;unfold Dh;obtain⟨u,D,E,G⟩:=gM (em:=em.bq) (images:=m.bq) U;obtain⟨v,H,I,J⟩:=gM (em:=em.ca) (images:=m.ca) U;simp only[];rw[D,bs,H,bs,bs];simp only[];rw[iB E I,G,J];refine ZC λN=>?_;rw[jY (by show m.bq.length<=1000;omega) (by show g.ca.length<=1000;omega),bs];have e:=bu (n:=g.ca.length) (q:=Mo g em m) (F:=id);rw[y?]at e;rw[e];refine ZC λO=>?_;rw[ct U (λx o=>?_),bs,ct U (λx o=>?_),bs]
 .rfl
 .obtain⟨i,w,y,rfl⟩:=A9 o;exact(b.edge i w y).1
 .obtain⟨i,w,y,rfl⟩:=A9 o;exact(b.node i w y).1
theorem wC{l g:ci}{em:A3}{m:cE}(o:R9 em):RP l g em m=Y (Ln l g em m):=by
 unfold RP PO Ln;rw[bA,bs,Yv o,bs];by_cases j:¬Gp l g m=0
 .grind
 have j:=G_.1 j;rw[aE j_,bs,aE (show¬Gp l g m≠0 by simp[j])];refine Do λH=>?_;have b:=Vn j;have a1:=b.ga.d6;have a2:=b.ga.d7;have K:=b.pr;have N:=b.sr;have O:=b.gb.d6;have P:=b.gb.d7;obtain⟨u,w,y,z⟩:=gc (em:=em.bq) (images:=m.bq) U;obtain⟨v,D,E,G⟩:=gc (em:=em.ca) (images:=m.ca) U;rw[w,bs,D,bs,iB y E,z,G];refine ZC λI=>?_;rw[jg U U,bs];have e:=bu (n:=g.ca.length) (q:=Mo g em m) (F:=id);rw[y?]at e;rw[e];refine ZC λJ=>?_;rw[Wo U,bs,dL U,bs,Wo U,bs,dL U,bs];rfl
end Go.Sf.Sc
namespace Go.Sf.Sc
open Go Go.Sf
variable{α β:Type}
theorem TX[Inhabited α]{l:List α}{F:α->β}{f:Int->List β->Option (List β)}(h:∀(i:Int)s,0<=i->i<l.length->s.length<=i.toNat->f i s=Y (s++[F (AA l i)])):BB f 0 l.length []=Y (l.map F):=by
 have:=BR (f:=f) (s:=[]) (λi=>(l.take i.toNat).map F) (a:=0) (b:=l.length) U V (λi e j=>by
  grind [az,a6,Cb])
 rwa [D_,z!]at this
variable{n:Nat}{l:Fp}
theorem gP(hn:n<=1000)(y:l.length<=1000)(o:l.Pairwise (·<·)):MF n l=Y (E9 n l):=by
 unfold MF GV;rw[QQ U,bs,D_,List.length_replicate,BR (λi=>(Ak n).map λj=>if j<i then Ao l j else 0) U]
 .rw[bs];congr 1;exact DB λj z q=>QQ q
 .refine z_ u! (λk D G=>?_);have e:(Ak n)[k]'(by simpa[Az]using D)=(k:Int):=by simp[Ak]
  simp only[z?,A_,e];rw[aE U]
 .intro i u F;rw[Th y o,bs,AD u (by rw[az,Az];exact F),bs];have e:∀v:Int,v=Ao l i->Y (BM ((Ak n).map λj=>if j<i then Ao l j else 0) i v)=Y ((Ak n).map λj=>if j<i+1 then Ao l j else 0):=by
   rintro v rfl;rw[Jp _ u];congr 1;refine DB λj z q=>?_;by_cases e:j=i
   .rw[QQ e,QQ U,e]
   .rw[aE e];by_cases w:j<i
    .rw[QQ w,QQ U]
    .rw[aE w,aE U]
  cases b:hasB l i with
  |false=>
   rw [QQ l?];exact e _ (Yi λE=>by rw[Aq.2 E]at b;cases b).symm
  |true=>
   rw [aE V];exact e _ (WX o (Aq.1 b))
theorem dE(hn:n<=1000)(I:l.length<=1000)(E:l.Nodup):L0 l n=Y (E9 n l):=by
 unfold L0;rw[BR (λk=>(Ak k.toNat).map (Ao l)) U l?]
 .rfl
 .intro k q J;have o:((Ak k.toNat).map (Ao l)).length=k.toNat:=by rw[az,Az]
  have e0:(Ak k.toNat).map (Ao l)++[-1]=(Ak (k+1).toNat).map λj=>if j<k then Ao l j else if Ao l k<0 then Ao l k else -1:=by
   rw [Fd q,A'];congr 1
   .grind[A!,CB]
   .rw[A?,aE U];have:=NG l k
    grind
  rw [AU (by rw[o];simp;unfold AY;omega),bs,e0,BR (λi=>(Ak (k+1).toNat).map λj=>if j<k then Ao l j else if Ao l k<i then Ao l k else -1) U rfl]
  .rw[bs];congr 1;refine A! λj F=>?_;have:=CB.1 F;split
   .rfl
   .have e:j=k:=U
    rw [QQ (NG l k).2,e]
  .intro i u w;rw[AD u w,bs];by_cases e:AA l i=k
   .have y:Ao l k=i:=by rw[<-e];exact Df E u w
    rw [QQ c!,AD q (by rw[az,Az];omega),bs,Jp _ q];congr 1;refine DB λj G H=>?_;by_cases z:j=k
    .rw[QQ z,aE U,QQ U,y]
    .rw[aE z];by_cases b:j<k
     .rw[QQ b,QQ b]
     .omega
   .have y:Ao l k≠i:=λh=>by
     have:=(BH (J2.1 (show 0<=Ao l k by omega))).2.2.1;rw[h]at this;exact e this
    rw [aE c!];congr 1;refine DB λj G H=>?_;by_cases b:j<k
    .rw[QQ b,QQ b]
    .rw[aE b,aE b];by_cases D:Ao l k<i
     .rw[QQ D,QQ U]
     .rw[aE D,aE U]
structure VY(count:Nat)(em into at_:Fp):Prop where
 few:count<=1000
 nodup:into.Nodup
 len:into.length=em.length
 inn:∀x∈into,0<=x/\x<count
 kin:∀x∈em,0<=x/\x<at_.length
 pos:∀x∈em,0<=AA at_ x
theorem RG(b:l.Nodup)(h:∀x∈l,0<=x/\x<n):l.length<=n:=by
 have:=List.Nodup.length_le_of_subset (l₁:=l) (l₂:=Ak n) b (λx e=>CB.2 (h x e))
 rwa [Az]at this
variable{i:Int}
theorem Qf(h:0<=i):((AX l (i+1)).length:Int)=(AX l i).length+if i∈l then 0 else 1:=by grind[Io,a5,hasB,Aq]
theorem SW{em into at_:Fp}{n i:Int}(h:i∈into):M2 em into at_ n i=AA at_ (AA em (Ao into i)):=by grind[M2,Aq]
theorem TG{em into at_:Fp}{n i:Int}(h:i∉into):M2 em into at_ n i=n+(AX into i).length:=by grind[M2,Aq]
variable{count:Nat}
theorem Z5{em into at_:Fp}{n:Int}(h:VY count em into at_)(z:0<=n)(D:n<=1000):Fu em into count at_ n=Y (Uk count em into at_ n):=by
 have E:=h.few;have u:=RG h.nodup h.inn;have w:=h.len;unfold Fu;rw[dE h.few U h.nodup,bs,BR (λi=>(n+((AX into i).length:Int),(Ak i.toNat).map (M2 em into at_ n))) U (by simp[AX,Ak])]
 .rfl
 .intro i e q;have F:=Kl (l:=into) e;have b:((Ak i.toNat).map (M2 em into at_ n)).length=i.toNat:=by rw[az,Az]
  rw [AD e (by rw[Jq];exact q),bs,KE e q];by_cases hi:i∈into
  .have o:=BH hi;have y:=AG (l:=em) o.1 U;have j:=h.kin _ y;rw[QQ (by simpa using o.1),bs,AD o.1 U,bs,AD j.1 j.2,bs,AU (by rw[b];simp;unfold AY;omega),bs,Fd e,A',Qf e,QQ hi,D',A?,SW hi]
  .rw[aE (by rw[ml,J2];exact hi),AU (by rw[b];simp;unfold AY;omega),bs,Fd e,A',Qf e,aE hi,A?,TG hi,Ar U U,D!]
theorem Zx{em into b o:Fp}{n:Int}(h:VY count em into (b.map (AA o)))(J:∀x∈b,0<=x/\x<o.length)(S:0<=n)(ε:n<=1000):Ga count em into b o n=Y (Uk count em into (b.map (AA o)) n):=by
 have δ:=h.few;have K:=RG h.nodup h.inn;have N:=h.len;unfold Ga EO;rw[QQ (by refine⟨rfl,U,U⟩),bs,D_];rw[BR (λi=>(Ak count).map λk=>if 0<=Ao into k/\Ao into k<i then M2 em into (b.map (AA o)) n k else -1) U]
 .rw[bs,az,Az,BR (λi=>(n+((AX into i).length:Int),(Ak count).map λk=>if k<i\/k∈into then M2 em into (b.map (AA o)) n k else -1)) U]
  .rw[bs];congr 1;exact DB λj G E=>QQ (.inl E)
  .show _=(n,_);congr 1
   .simp[AX]
   .refine DB λj G E=>?_;have I:=J2 (l:=into) (v:=j);have O:=NG into j;by_cases e:j∈into
    .rw[QQ (.inr e),QQ ⟨I.2 e,O.2⟩]
    .rw[aE (by rintro(q|q);omega;exact e q),aE λq=>e (I.1 q.1)]
  .intro i w z;have Z:=Kl (l:=into) w;rw[AD w (by rw[az,Az];exact z),bs,GH _ w z];by_cases hi:i∈into
   .have P:=BH hi;have H:=AG (l:=em) P.1 o!;have hp:=h.pos _ H;rw[QQ (show i<i\/i∈into from .inr hi),SW hi,aE (by rw[ml];omega),Qf w,QQ hi,D'];congr 2;refine DB λj G E=>?_;by_cases e:j<i\/j∈into
    .rw[QQ e,QQ (e.imp (λh=>U) id)]
    .rw[aE e,aE];rintro(q|q)
     .have:j=i:=by
       have:=λhh=>e (.inl hh);omega
      exact e (.inr (this▸hi))
     .exact e (.inr q)
   .rw[aE (show¬(i<i\/i∈into)by rintro(q|q);omega;exact hi q),QQ a_,bs,Qf w,aE hi,Ar an an,Jp _ w,D!];congr 2;refine DB λj G E=>?_;by_cases y:j=i
    .rw[QQ y,QQ (.inl U),y,TG hi]
    .rw[aE y];by_cases e:j<i\/j∈into
     .rw[QQ e,QQ (e.imp (λh=>U) id)]
     .rw[aE e,aE];rintro(q|q)
      .exact e (.inl U)
      .exact e (.inr q)
 .refine z_ u! (λk η ζ=>?_);simp only[z?,A_];rw[aE U];rfl
 .intro i w z;have D:=h.inn _ (AG w z);have H:=AG (l:=em) w o!;have u:=h.kin _ H;rw[az]at u;have F:=J _ (AG u.1 u.2);rw[AD w z,bs,AD w o!,bs,AD u.1 u.2,bs,AD F.1 F.2,bs,AD D.1 (by rw[az,Az];exact D.2),bs,Jp _ D.1];congr 1;refine DB λj G E=>?_;by_cases y:j=AA into i
  .have e:=Df h.nodup w z;rw[QQ y,y,e,QQ ⟨w,U⟩,SW (AG w z),e,Nd u.1 u.2]
  .rw[aE y];by_cases e:0<=Ao into j/\Ao into j<i
   .rw[QQ e,QQ ⟨e.1,U⟩]
   .rw[aE e,aE];rintro⟨q,h2⟩;have Q:Ao into j=i:=by
     have:=λhh=>e ⟨q,hh⟩;omega
    have:=(BH (J2.1 q)).2.2.1;rw[Q]at this;exact y this.symm
theorem X6{images b:Fp}(e:images.length<=1000)(j:∀x∈images,0<=x/\x<b.length):HZ images b=Y (images.map (AA b)):=by
 unfold HZ
 grind [TX,AA,AG,AD,AU,AY]
end Go.Sf.Sc
namespace Go.Sf.Sc
open Go Go.Sf
def EE(h:AH)(d:A3):cE:=⟨E9 h.ci.bq.length d.bq,E9 h.ci.ca.length d.ca⟩
def cmS(r:ec)(h:AH)(m:cE)(d:A3):cE:=
 ⟨Uk r.d5.ci.bq.length r.im.bq r.eE.bq (m.bq.map (AA (EE h d).bq)) d.bq.length,
 Uk r.d5.ci.ca.length r.im.ca r.eE.ca (m.ca.map (AA (EE h d).ca)) d.ca.length⟩
def Uz(t:AC)(k:Int):Fp:=(A4 t k).map λx=>x.Low
def RF(tr:Fp)(e:Bu):Bu:=⟨e.fa,AA tr e.fd,AA tr e.To⟩
def M4(r:ec)(x:AH)(i:Int):Fp:=x.ci.bq++(AX r.eE.bq i).map (AA r.d5.ci.bq)
def M5(t:AC)(r:ec)(x:AH)(i:Int):List Fp:=x.eg++(AX r.eE.bq i).map λk=>Uz t (AA r.d5.ci.bq k)
def Oo(r:ec)(c:cE)(x:AH)(i:Int):List Bu:=x.ci.ca++(AX r.eE.ca i).map λk=>RF c.bq (AA r.d5.ci.ca k)
def CL(t:AC)(r:ec)(x:AH)(c:cE):AH:=⟨⟨M4 r x r.d5.ci.bq.length,Oo r c x r.d5.ci.ca.length⟩,M5 t r x r.d5.ci.bq.length⟩
def Bw(h:AH)(d:A3):AH:=⟨⟨d.bq.map (AA h.ci.bq),d.ca.map λx=>RF (EE h d).bq (AA h.ci.ca x)⟩,d.bq.map (AA h.eg)⟩
structure Pd(x:AH):Prop where
 d6:x.ci.bq.length<=1000
 d7:x.ci.ca.length<=1000
 vals:x.eg.length<=1000
 rows:∀v∈x.eg,v.length<=1000
structure W6(t:AC)(r:ec)(c:cE):Prop where
 hf:Ay t
 hv:(A8 t).2=0
 g:BW r.d5.ci
 kind:∀n∈r.d5.ci.bq,0<=n/\n<t.bq.length
 cn:c.bq.length=r.d5.ci.bq.length
variable{t:AC}{r:ec}{c:cE}
theorem sQ(h:W6 t r c){n:Int}(hn:n∈r.d5.ci.bq):(A4 t n).length<=600:=by
 have:=h.kind n hn;exact G5 h.hf (D? _) (CY h.hv).par this.2
variable{x:AH}
theorem mE(h:Pd x):LO x=Y x:=by
 have:=h.d6;have:=h.d7;have:=h.vals;unfold LO FW;rw[BO a?,bs,BO a?,bs,bs];rw[BR (λi=>AH.mk x.ci (x.eg.take i.toNat)) U l?]
 .rw[D_,z!];rfl
 .intro i b e;have:=h.rows _ (AG b e)
  grind [AD,BO,AY,AU,Cb]
theorem jX(h:Pd x):KY x=Y x:=by
 have:=h.d6;have:=h.d7;have:=h.vals;unfold KY slices_Clone_int DA;rw[BO a?,bs,BO a?,bs];rw[BR (λi=>AH.mk x.ci (x.eg.take i.toNat)) U l?]
 .rw[D_,z!];rfl
 .intro i b e;have:=h.rows _ (AG b e)
  grind [AD,BO,AY,AU,Cb]
variable{α:Type}{i:Int}
theorem DY(l:Fp)(F:Int->α)(h:0<=i):(AX l (i+1)).map F=(AX l i).map F++if i∈l then[]else[F i]:=by grind[Io,hasB,Aq]
theorem WG(l:Fp)(i:Int):IB l i=Y (!hasB l i):=by
 unfold IB hasB;rw[BT (λj=>decide (i=AA l j)) T,He]
 .cases gp (λj=>decide (i=AA l j)) 0 l.length<;>rfl
 grind [AD,AA]
theorem wH(h:W6 t r c)(u:Pd x):L7 t r x c=Y (CL t r x c):=by
 have I:=h.g.d6;have J:=h.g.d7;have x1:=u.d6;have K:=u.d7;have N:=u.vals;unfold L7;rw[OX (λi=>AH.mk (ci.mk (M4 r x i) x.ci.ca) (M5 t r x i)) (a:=0) (b:=r.d5.ci.bq.length) U]
 .rw[Bj,OX (λi=>AH.mk (ci.mk (M4 r x r.d5.ci.bq.length) (Oo r c x i)) (M5 t r x r.d5.ci.bq.length)) (a:=0) (b:=r.d5.ci.ca.length) U]
  .rfl
  .grind[Oo,AX]
  .intro i e o;have z:=Kl (l:=r.eE.ca) e;have he:=h.g.fit _ (AG e o);have D:=h.cn;rw[QQ f?,WG,bs];by_cases hi:i∈r.eE.ca
   .grind[Aq,Oo,DY,Ar]
   .have q:hasB r.eE.ca i=T:=by cases q:hasB r.eE.ca i with|false=>rfl|true=>exact absurd (Aq.1 q) hi
    rw [q,QQ a_,AD e o,bs,AD he.2.1.1 U,bs,AD he.2.2.1 U,bs,AU (by unfold Oo;simp;unfold AY;omega),bs];unfold Oo;rw[DY _ _ e,aE hi,Ar an an,bk];rfl
  .rw[aE V]
 .unfold M4 M5;simp[AX]
 .intro i e o;have z:=Kl (l:=r.eE.bq) e;have w:=AG e o;have y:=h.kind _ w;have O:=sQ h w;rw[QQ f?,WG,bs];by_cases hi:i∈r.eE.bq
  .grind[Aq,M4,M5,DY,Ar]
  .have q:hasB r.eE.bq i=T:=by cases q:hasB r.eE.bq i with|false=>rfl|true=>exact absurd (Aq.1 q) hi
   rw [q,aE a_,AD e o,bs,AU (by unfold M4;simp;unfold AY;omega),bs,bs,Qy h.hf,IR h.hv y.1 y.2,bs];simp;rw[TX (F:=λa=>a.Low) λj s E G H=>?_]
   .rw[bs,AU (by unfold M5;simp;unfold AY;omega),bs];unfold M4 M5;rw[DY _ _ e,aE hi,DY _ _ e,aE hi,Ar U U,bk,bk];rfl
   grind [AD,AU,AY]
 .rw[aE V]
theorem sd(hf:Ay t)(hv:(A8 t).2=0){k:Int}(e:0<=k)(b:k<t.bq.length):ON t k=Y (Uz t k):=by
 have:=G5 hf (D? _) (CY hv).par b;unfold ON;rw[Sj hf,IR hv e b,bs];simp;rw[TX (F:=λa=>a.Low) λj s o q u=>?_]
 .rfl
 grind [AD,AU,AY]
structure aj(h:AH)(d:A3):Prop where
 sm:Pd h
 len:h.eg.length=h.ci.bq.length
 d6:(∀x∈d.bq,0<=x/\x<h.ci.bq.length)/\d.bq.length<=1000
 d7:(∀x∈d.ca,0<=x/\x<h.ci.ca.length)/\d.ca.length<=1000
 ends:∀e∈h.ci.ca,(0≤e.fd/\e.fd<h.ci.bq.length)/\0≤e.To/\e.To<h.ci.bq.length
variable{h:AH}{d:A3}
theorem aD(hd:aj h d):Pd (Bw h d):=by
 have e:=hd.d6.2;have j:=hd.d7.2;refine⟨by unfold Bw;simp;omega,by unfold Bw;simp;omega,by unfold Bw;simp;omega,λv hv=>?_⟩;obtain⟨x,b,rfl⟩:=w_.1 hv;have:=hd.d6.1 x b;exact hd.sm.rows _ (AG this.1 (by rw[hd.len];exact this.2))
variable{R:ec}{M:AN}{C:cE}
theorem sY(q:W6 t R C)(hd:aj h d)(H:C.ca.length=R.d5.ci.ca.length)
  (y:∀i:Int,0<=i->i<R.d5.ci.bq.length->(AA C.bq i=d.bq.length+(AX R.eE.bq i).length↔i∉R.eE.bq))
  (z:∀i:Int,0<=i->i<R.d5.ci.ca.length->(AA C.ca i=d.ca.length+(AX R.eE.ca i).length↔i∉R.eE.ca)):
  ME t (Au.mk R M h (AH.mk (ci.mk [] []) []) (EE h d) C) d=Y (Au.mk R M h (CL t R (Bw h d) C) (EE h d) C):=by
 have I:=hd.d6.2;have J:=hd.d7.2;have K:=q.g.d6;have N:=q.g.d7;have F:=q.cn;unfold ME;simp only[];rw[BR (λi=>Au.mk R M h (AH.mk (ci.mk ((d.bq.take i.toNat).map (AA h.ci.bq)) []) ((d.bq.take i.toNat).map (AA h.eg))) (EE h d) C) U V]
 rotate_left
 .intro i b j;have o:=hd.d6.1 _ (AG b j);have u:=hd.len;have D:=hd.sm.rows _ (AG o.1 U);rw[AD b j,bs,AD o.1 o.2,bs,AU a!,bs,AD o.1 U,bs,BO a?,bs,AU a!,bs,Fm b j,Fm b j]
 rw [bs,D_,z!];rw[BR (λi=>Au.mk R M h (AH.mk (ci.mk (d.bq.map (AA h.ci.bq)) ((d.ca.take i.toNat).map λx=>RF (EE h d).bq (AA h.ci.ca x))) (d.bq.map (AA h.eg))) (EE h d) C) U V]
 rotate_left
 .intro i b j;have o:=hd.d7.1 _ (AG b j);have he:=hd.ends _ (AG o.1 o.2);have u:(EE h d).bq.length=h.ci.bq.length:=Jq _ _;simp only[];rw[AD b j,bs,AD o.1 o.2,bs,AD he.1.1 U,bs,AD he.2.1 U,bs,AU a!,bs,Fm b j];rfl
 rw [bs,D_,z!];rw[BR (λi=>Au.mk R M h (AH.mk (ci.mk (M4 R (Bw h d) i) (Bw h d).ci.ca) (M5 t R (Bw h d) i)) (EE h d) C) U (by unfold M4 M5;simp[AX,Bw])]
 rotate_left
 .intro i b j;have D:=Kl (l:=R.eE.bq) b;have G:=AG b j;have E:=q.kind _ G;have u:(M4 R (Bw h d) i).length=d.bq.length+(AX R.eE.bq i).length:=by unfold M4 Bw;simp
  have w:(M5 t R (Bw h d) i).length=d.bq.length+(AX R.eE.bq i).length:=by unfold M5 Bw;simp
  simp only[u];rw[AD b j,bs,AD b U,bs];by_cases hi:i∈R.eE.bq
  .rw[aE (by rw[ml];push_cast;exact λe=>(y i b j).1 e hi)];unfold M4 M5;rw[DY _ _ b,QQ hi,B_,DY _ _ b,QQ hi,B_]
  .rw[QQ (by rw[ml];push_cast;exact(y i b j).2 hi),AU (by rw[u];simp;unfold AY;omega),bs,sd q.hf q.hv E.1 E.2,bs,AU (by rw[w];simp;unfold AY;omega),bs];unfold M4 M5;rw[DY _ _ b,aE hi,DY _ _ b,aE hi,bk,bk]
 rw [bs];rw[BR (λi=>Au.mk R M h (AH.mk (ci.mk (M4 R (Bw h d) R.d5.ci.bq.length) (Oo R C (Bw h d) i)) (M5 t R (Bw h d) R.d5.ci.bq.length)) (EE h d) C) U (by unfold Oo;simp[AX,Bw])]
 rotate_left
 .intro i b j;have D:=Kl (l:=R.eE.ca) b;have he:=q.g.fit _ (AG b j);have u:(Oo R C (Bw h d) i).length=d.ca.length+(AX R.eE.ca i).length:=by unfold Oo Bw;simp
  simp only[u];rw[AD b j,bs,AD b U,bs];by_cases hi:i∈R.eE.ca
  .rw[aE (by rw[ml];push_cast;exact λe=>(z i b j).1 e hi)];unfold Oo;rw[DY _ _ b,QQ hi,B_]
  .rw[QQ (by rw[ml];push_cast;exact(z i b j).2 hi),AD he.2.1.1 U,bs,AD he.2.2.1 U,bs,AU (by rw[u];simp;unfold AY;omega),bs];unfold Oo;rw[DY _ _ b,aE hi,bk];rfl
 rw [bs];rfl
theorem ef(hf:Ay t)(hh:(Cy t h).2=0)(u:DU h.ci d=0)(hd:aj h d):KU t h d=Y (Bw h d,0):=by
 have w:=hd.d6.2;unfold KU;rw[Sp hf,bs,aE (by simp[hh]),Z3 ⟨hd.d6.2,hd.d7.2⟩,aE o?,bs,aE V];have e:CQ h.ci d=(Bw h d).ci:=by
  unfold CQ Bw;congr 1;refine A! λx j=>?_;have j:=hd.d7.1 x j;have he:=hd.ends _ (AG j.1 j.2)
  grind [RF,EE,KE]
 simp;rw[OX (λi=>AH.mk (CQ h.ci d) ((d.bq.take i.toNat).map (AA h.eg))) (a:=0) (b:=d.bq.length) U V]
 .rw[D_,z!,Bj,e];rfl
 .intro i q o;have j:=hd.d6.1 _ (AG q o);have y:=hd.len;have z:=hd.sm.rows _ (AG j.1 U);rw[QQ f?,AD q o,bs,AD j.1 U,bs,BO a?,bs,AU a!,bs,Fm q o,Ar an an]
 .rw[aE V]
end Go.Sf.Sc
namespace Go.Sf.Sc
open Go Go.Sf
def Qk(c:cE)(vars:Fp)(s:Cz):(Int×Int)×Int:=((AA c.bq s.j0,s.gt),C5 s.fb vars)
def Bz(r:ec)(c:cE)(vars:Fp):BZ:=r.d5.ed.map (Qk c vars)
def MI(t:AC)(x:AH)(p:(Int×Int)×Int):Bool:=
 decide (p.2<(AA (A4 t (AA x.ci.bq p.1.1)) p.1.2).Low)||decide ((AA (A4 t (AA x.ci.bq p.1.1)) p.1.2).vB<p.2)
structure Vb(t:AC)(r:ec)(c:cE)(vars:Fp)(x:AH):Prop where
 hf:Ay t
 hv:(A8 t).2=0
 few:r.d5.ed.length<=1000
 fewv:vars.length<=1000
 slot:∀s∈r.d5.ed,(0<=s.j0/\s.j0<c.bq.length)/\(-1<=s.fb.Var/\s.fb.Var<vars.length)/\
  (0<=AA c.bq s.j0/\AA c.bq s.j0<x.ci.bq.length)/\(0<=s.gt/\s.gt<(A4 t (AA x.ci.bq (AA c.bq s.j0))).length)
 kind:∀n∈x.ci.bq,0<=n/\n<t.bq.length
 AbD:x.eg.length=x.ci.bq.length
 rows:∀i:Int,0<=i->i<x.ci.bq.length->(AA x.eg i).length=(A4 t (AA x.ci.bq i)).length
variable{L:BZ}{i:Int}
theorem il(b:0<=i)(e:i<=L.length)(h:∀j,0<=j->j<i->gp (λk=>decide ((AA L k).1=(AA L j).1)&&!decide ((AA L k).2=(AA L j).2)) 0 j=T):S7 (L.take i.toNat):=by grind[ZE,O9,BY,a6,XC,Qr]
def Wa(L:BZ)(i:Int):Bool:=gp (λk=>decide ((AA L k).1=(AA L i).1)&&!decide ((AA L k).2=(AA L i).2)) 0 i
theorem nq(H:0<=i)(I:i<L.length)(w:S7 (L.take i.toNat)):
  (((QH (L.take i.toNat)).look (AA L i).1).isSome&&(!decide (((QH (L.take i.toNat)).look (AA L i).1).getD 0=(AA L i).2)))=Wa L i:=by
 obtain ⟨J,z,K⟩:=fz _ w;unfold Wa;cases y:(QH (L.take i.toNat)).look (AA L i).1 with
 |none=>
  rw [Option.isSome_none,F!];refine Eq.symm (BY.2 λk q u=>?_);have o:AA L k∈L.take i.toNat:=by
   rw [<-Qr (n:=i.toNat) U]
   grind [AG,a6]
  rw [decide_eq_false (Zo y _ ((z _).2 o)),F!]
 |some v=>
  have o:=(z _).1 (Uy y);rw[Option.isSome_some,E',Option.getD_some];have b:∀k,0<=k->k<i->(AA L k).1=(AA L i).1->(AA L k).2=v:=λk q u e=>by
   have E:AA L k∈L.take i.toNat:=by
    rw [<-Qr (n:=i.toNat) U]
    grind [AG,a6]
   exact w _ E _ o e
  obtain ⟨k,q,u,D⟩:=A9 o;rw[a6]at u;rw[Qr U]at D;rw[E?,C3];constructor
  .intro h;refine⟨k,q,U,?_⟩;rw[D,decide_eq_true rfl,E'];exact h
  .rintro⟨j,F,G,h⟩;rw[gN,ml]at h;rw[<-b j F G h.1];exact h.2
theorem O3(r:ec)(c:cE)(vars:Fp)(b:0<=i)(e:i<r.d5.ed.length):AA (Bz r c vars) i=Qk c vars (AA r.d5.ed i):=Nd b e
theorem KB(r:ec)(c:cE)(vars:Fp):(Bz r c vars).length=r.d5.ed.length:=az ..
theorem bc(L:BZ){ρ:Type}(v:ρ):fst (λi=>if Wa L i=X then Y v else W) 0 L.length=if O9 L=X then Y v else W:=NC
variable{t:AC}{R:ec}{M:AN}{B A:AH}{θ C:cE}
theorem jW(h:Vb t R C M.ek A):IF (Au.mk R M B A θ C)=Y (if O9 (Bz R C M.ek)=X then([],11)else(QH (Bz R C M.ek),0)):=by
 unfold IF;simp only[];rw[Lt (a:=0) (s:=([]:BZ)) (λi=>QH ((Bz R C M.ek).take i.toNat)) (λi=>if Wa (Bz R C M.ek) i=X then Y ([],11)else W) U rfl]
 .have:=bc (Bz R C M.ek) (([],11):BZ×Int);rw[KB]at this;rw[this];by_cases e:O9 (Bz R C M.ek)=X
  .rw[QQ e,QQ e];rfl
  .rw[aE e,aE e,<-KB R C M.ek,D_,z!];rfl
 .intro i b o z;have q:=h.slot _ (AG b o);have D:S7 ((Bz R C M.ek).take i.toNat):=il b (by rw[KB];omega) λj w y=>by
   have:=z j w y;split at this
   .cases this
   next e=>exact F?.2 e
  have u:=nq (L:=Bz R C M.ek) b (by rw[KB];exact o) D;rw[AD b o,bs,cf q.2.1.1 q.2.1.2 h.fewv,bs,aE V,AD q.1.1 q.1.2,bs];rw[O3 R C M.ek b o]at u;simp[Qk]at u;simp only[];by_cases e:Wa (Bz R C M.ek) i=X
  .refine(QQ (u.trans e)).trans ?_;rw[QQ e];rfl
  .refine(aE (λh=>e (u.symm.trans h))).trans ?_;rw[aE e,Cb b (by rw[KB];exact o),cQ,O3 R C M.ek b o];rfl
variable{α:Type}
theorem gI{f:α->I1}{g:α->Bool}:∀{l:List α},(∀p∈l,f p=Y (g p))->Ta f l=Y (l.all g)
 |[],_=>rfl|p::r,h=>by
  unfold Ta;rw[h p B',bs,gI λq b=>h q (w? _ b),bs,List.all_cons]
variable{r:ec}{c:cE}{x:AH}{κ:List Fp}
theorem dV{vars:Fp}(h:Vb t r c vars x){s:Cz}(u:s∈r.d5.ed)(w:Lk κ x.eg):
  idx κ (AA c.bq s.j0)=Y (AA κ (AA c.bq s.j0))/\idx (AA κ (AA c.bq s.j0)) s.gt=Y (AA (AA κ (AA c.bq s.j0)) s.gt):=by
 have j:=h.slot s u;have hv:=h.AbD;have E:=h.rows _ j.2.2.1.1 j.2.2.1.2;have y:idx x.eg (AA c.bq s.j0)=Y (AA x.eg (AA c.bq s.j0)):=AD j.2.2.1.1 U;have z:idx (AA x.eg (AA c.bq s.j0)) s.gt=Y (AA (AA x.eg (AA c.bq s.j0)) s.gt):=AD j.2.2.2.1 U;obtain⟨D,x',a,b⟩:=w.idx y z;have o:=F2 a;have q:=F2 b;have F:=(B!.1 o.2.2).1;have e:AA κ (AA c.bq s.j0)=D:=by
  grind [AD,Option.some.inj]
 have G:=(B!.1 q.2.2).1;refine⟨AD o.1 U,?_⟩;rw[e];exact AD q.1 U
theorem oA(h:Vb t R C M.ek A){p:(Int×Int)×Int}(o:p∈Bz R C M.ek):Rm t (Au.mk R M B A θ C) p=Y (!MI t A p):=by
 obtain ⟨s,j,rfl⟩:=w_.1 o;have b:=h.slot s j;have e:=h.kind _ (AG b.2.2.1.1 b.2.2.1.2);obtain⟨q,u⟩:=dV h j (κ:=A.eg) rfl;unfold Rm Rl Qk MI;simp;rw[AD b.2.2.1.1 b.2.2.1.2,bs,Sj h.hf,IR h.hv e.1 e.2,bs];simp;simp[AD b.2.2.2.1 b.2.2.2.2,q,u,Vu]
 grind
def HD(t:AC)(x:AH)(L:BZ):AH×Int:=
 if O9 L=X then(⟨⟨[],[]⟩,[]⟩,11)else if L.any (MI t x)=X then(⟨⟨[],[]⟩,[]⟩,6)else(⟨x.ci,L.foldl CJ x.eg⟩,0)
theorem vg(h:Vb t R C M.ek A):P6 t (Au.mk R M B A θ C)=Y ((HD t A (Bz R C M.ek)).2,if(HD t A (Bz R C M.ek)).2=0 then Au.mk R M B (HD t A (Bz R C M.ek)).1 θ C else Au.mk R M B A θ C):=by
 unfold P6 HD;rw[jW h,bs];by_cases e:O9 (Bz R C M.ek)=X
 .grind
 .rw[aE e,aE V,aE e];obtain⟨o,q,u⟩:=fz _ (ZE (F?.2 e));have j:Ta (Rm t (Au.mk R M B A θ C)) (QH (Bz R C M.ek))=Y (!(Bz R C M.ek).any (MI t A)):=by
   rw [gI (g:=λp=>!MI t A p) λp b=>oA h ((q p).1 b)]
   grind
  rw [QQ (by simpa using(show List.Pairwise (λx y:(Int×Int)×Int=>x.1≠y.1) _ from o)),j,bs]
  grind [Bz,MI,OL]
theorem zO{vars:Fp}(h:Vb t r c vars x):NS t r x c vars=Y (HD t x (Bz r c vars)):=by
 unfold NS HD;rw[Lt (a:=0) (s:=AH.mk (ci.mk [] []) []) (λ_=>AH.mk (ci.mk [] []) []) (λi=>if Wa (Bz r c vars) i=X then Y (AH.mk (ci.mk [] []) [],(11:Int))else W) U rfl]
 .have:=bc (Bz r c vars) ((AH.mk (ci.mk [] []) [],(11:Int)));rw[KB]at this;rw[this];by_cases e:O9 (Bz r c vars)=X
  .rw[QQ e,QQ e];rfl
  rw [aE e,aE e];show AL (Y (Sum.inl _)) _ _=_;rw[Bj,Lt (a:=0) (s:=(x,AH.mk (ci.mk [] []) [])) (λi=>(AH.mk x.ci (((Bz r c vars).take i.toNat).foldl CJ x.eg),AH.mk (ci.mk [] []) [])) (λi=>if MI t x (AA (Bz r c vars) i)=X then Y (AH.mk (ci.mk [] []) [],(6:Int))else W) U rfl]
  .have:=fi (l:=Bz r c vars) (q:=MI t x) (v:=(AH.mk (ci.mk [] []) [],(6:Int)));rw[KB]at this;rw[this];by_cases j:(Bz r c vars).any (MI t x)=X
   .rw[QQ j,QQ j];rfl
   .rw[aE j,aE j];show Y (AH.mk x.ci (((Bz r c vars).take (r.d5.ed.length:Int).toNat).foldl CJ x.eg),(0:Int))=_
    grind [KB,D_,z!]
  .intro i o u _;have D:=AG o u;have b:=h.slot _ D;have w:=h.kind _ (AG b.2.2.1.1 b.2.2.1.2);obtain⟨F,G⟩:=dV h D (κ:=((Bz r c vars).take i.toNat).foldl CJ x.eg) (b7 _ _);simp only[AD o u,bs];rw[Oy b.2.1.1 b.2.1.2,bs,AD b.1.1 b.1.2,bs,AD b.2.2.1.1 b.2.2.1.2,bs,Qy h.hf,IR h.hv w.1 w.2,bs];simp only[];rw[AD b.2.2.2.1 b.2.2.2.2,bs,bs,Vu,bs,F,bs,G,bs];rw[O3 r c vars o u,Cb o (by rw[KB];exact u),x_,O3 r c vars o u];show(if(MI t x (Qk c vars (AA r.d5.ed i)))=X then _ else _)=_;by_cases j:MI t x (Qk c vars (AA r.d5.ed i))=X
   .rw[QQ j,QQ j];rfl
   .rw[aE j,aE j];have:=bn (p:=Qk c vars (AA r.d5.ed i)) F G;exact congrArg (λη=>Y (B3.next (σ:=AH×AH) (ρ:=AH×Int) (AH.mk x.ci η,AH.mk (ci.mk [] []) []))) this
 .intro i o u _;have b:=h.slot _ (AG o u);rw[AD o u,bs,Oy b.2.1.1 b.2.1.2,bs];rw[Lt (a:=0) (s:=AH.mk (ci.mk [] []) []) (λ_=>AH.mk (ci.mk [] []) []) (λk=>if(decide ((AA (Bz r c vars) k).1=(AA (Bz r c vars) i).1)&&!decide ((AA (Bz r c vars) k).2=(AA (Bz r c vars) i).2))=X then Y (AH.mk (ci.mk [] []) [],(11:Int))else W) o rfl]
  .rw[NC];unfold Wa;split<;>rfl
  .intro k y I _;have w:=h.slot _ (AG y (show k<r.d5.ed.length by omega));simp[AD o u,AD y (show k<r.d5.ed.length by omega)];rw[Oy w.2.1.1 w.2.1.2,bs,AD w.1.1 w.1.2,bs,AD b.1.1 b.1.2,bs,O3 r c vars o u,O3 r c vars y U];simp[Qk];by_cases E:AA c.bq (AA r.d5.ed k).j0=AA c.bq (AA r.d5.ed i).j0<;>by_cases j:(AA r.d5.ed k).gt=(AA r.d5.ed i).gt<;>by_cases z:C5 (AA r.d5.ed i).fb vars=C5 (AA r.d5.ed k).fb vars
   all_goals first|(have H:¬C5 (AA r.d5.ed k).fb vars=C5 (AA r.d5.ed i).fb vars:=λh=>z h.symm;simp[E,j,z,H,mn];done)|(simp[E,j,z,mn];done)
end Go.Sf.Sc
namespace Go.Sf.Sc
open Go Go.Sf
variable{t:AC}{r:ec}
theorem Qi(h:Ds t r=0):GW t r.eh=0/\Ip t r=0/\Lp t r.eh r.c9=0:=by grind[Ds]
theorem ey(h:Ip t r=0):r.d5.ek=r.eh.ek/\r.d5.ed.length<=10/\∀i:Int,0<=i->i<r.d5.ed.length->PV t r.d5 i=0:=by
 unfold Ip at h;split at h
 .omega
 split at h
 .cases h
 split at h
 .cases h
 split at h
 .cases h
 rename_i b e j o;exact⟨U,U,Uq h⟩
variable{i:Int}
theorem jr{p:d4}(h:PV t p i=0):(0<=(AA p.ed i).j0/\(AA p.ed i).j0<p.ci.bq.length)/\
  (0<=(AA p.ed i).gt/\(AA p.ed i).gt<(GR t (AA p.ci.bq (AA p.ed i).j0)).1.length)/\-1<=(AA p.ed i).fb.Var/\(AA p.ed i).fb.Var<p.ek:=by
 unfold PV at h;dsimp only at h;split at h
 .cases h
 split at h
 .cases h
 rename_i e b;simp[ml]at b;omega
structure HH(t:AC)(r:ec)(h:AH)(m:AN):Prop where
 hf:Ay t
 fr:EK r
 re:Ds t r=0
 he:(Cy t h).2=0
 at_:W4 t r.eh h m
 co:bG (Ib r.eh.ci h.ci m.cE) h.ci r.im m.cE
abbrev dS(r:ec)(h:AH)(m:AN):A3:=J9 h.ci r.im m.cE
abbrev cS(r:ec)(h:AH)(m:AN):cE:=cmS r h m.cE (dS r h m)
variable{h:AH}{m:AN}
theorem HH.hv(s:HH t r h m):(A8 t).2=0:=(Sr s.re).1
theorem HH.ro(s:HH t r h m):Pc t r:=(Sr s.re).2
theorem HH.hh(s:HH t r h m):KM t h:=(NE s.hf s.he).2
theorem Xf(hf:Ay t)(hv:(A8 t).2=0)(hh:KM t h):Pd h:=by
 have j:=hh.g.d6;have o:=hh.g.d7;have q:=hh.len;refine⟨U,U,U,λv b=>?_⟩;obtain⟨i,e,y,rfl⟩:=A9 b;have u:=hh.row i e U;have w:=G5 hf (D? _) (CY hv).par (hh.kind i e U).2;omega
theorem HH.rem(s:HH t r h m):aj h (dS r h m):=by
 have hh:=s.hh;have j:=hh.g.d6;have o:=hh.g.d7;have l1:=Jm (D8 m.cE.bq r.im.bq) h.ci.bq.length;have l2:=Jm (D8 m.cE.ca r.im.ca) h.ci.ca.length;exact⟨Xf s.hf s.hv hh,hh.len,⟨λx b=>Db b,by show(AX _ _).length<=1000;omega⟩,⟨λx b=>Db b,by show(AX _ _).length<=1000;omega⟩,λe he=>(hh.g.fit e he).2⟩
theorem HH.part(s:HH t r h m):DU h.ci (dS r h m)=0:=by
 unfold DU;rw[aE (by simp[s.hh.ge])];exact mY s.co
variable{count n:Nat}
theorem kV{em into images:Fp}{BF:Fp}(few:count<=1000)(nodup:into.Nodup)(len:into.length=em.length)(inn:∀x∈into,0<=x/\x<count)
  (kin:∀x∈em,0<=x/\x<images.length)(j:∀x∈images,0<=x/\x<n)(hi:wl images em=T)(o:BF=D8 images em):
  VY count em into (images.map (AA (E9 n (AX BF n))))/\(∀x∈em,AA (images.map (AA (E9 n (AX BF n)))) x<(AX BF n).length)/\
  ∀x∈em,AA (images.map (AA (E9 n (AX BF n)))) x=Ao (AX BF n) (AA images x)/\AA images x∈AX BF n:=by
 have e:∀x∈em,AA (images.map (AA (E9 n (AX BF n)))) x=Ao (AX BF n) (AA images x)/\AA images x∈AX BF n:=λx b=>by
  grind [AG,Nd,KE,OE,Ux]
 refine ⟨⟨few,nodup,len,inn,λx b=>by rw[az];exact kin x b,λx b=>?_⟩,λx b=>?_,e⟩
 .rw[(e x b).1];exact J2.2 (e x b).2
 .rw[(e x b).1];exact(NG _ _).2
theorem HH.left(s:HH t r h m):m.cE.bq.length=r.eh.ci.bq.length/\m.cE.ca.length=r.eh.ci.ca.length:=⟨s.at_.m.pr,s.at_.m.sr⟩
theorem HH.Abw(s:HH t r h m):VY r.d5.ci.bq.length r.im.bq r.eE.bq (m.cE.bq.map (AA (EE h (dS r h m)).bq))/\
  (∀x∈r.im.bq,AA (m.cE.bq.map (AA (EE h (dS r h m)).bq)) x<(dS r h m).bq.length)/\
  ∀x∈r.im.bq,AA (m.cE.bq.map (AA (EE h (dS r h m)).bq)) x=Ao (dS r h m).bq (AA m.cE.bq x)/\AA m.cE.bq x∈(dS r h m).bq:=by
 have ro:=s.ro;have o:=ro.right.d6;refine kV U ro.inj.1 ?_ (λx b=>?_) (λx b=>?_) (λx b=>?_) s.co.d6 rfl
 .have:=ro.mor.pr;rw[this];exact az ..
 .obtain⟨i,e,j,rfl⟩:=A9 b;exact(ro.mor.node i e j).1
 .have:=ro.part.d6.1 x b;have:=s.left.1;omega
 .obtain⟨i,e,j,rfl⟩:=A9 b;exact(s.at_.m.node i e j).1
theorem HH.AbE(s:HH t r h m):VY r.d5.ci.ca.length r.im.ca r.eE.ca (m.cE.ca.map (AA (EE h (dS r h m)).ca))/\
  (∀x∈r.im.ca,AA (m.cE.ca.map (AA (EE h (dS r h m)).ca)) x<(dS r h m).ca.length)/\
  ∀x∈r.im.ca,AA (m.cE.ca.map (AA (EE h (dS r h m)).ca)) x=Ao (dS r h m).ca (AA m.cE.ca x)/\AA m.cE.ca x∈(dS r h m).ca:=by
 have ro:=s.ro;have o:=ro.right.d7;refine kV U ro.inj.2 ?_ (λx b=>?_) (λx b=>?_) (λx b=>?_) s.co.d7 rfl
 .have:=ro.mor.sr;rw[this];exact az ..
 .obtain⟨i,e,j,rfl⟩:=A9 b;exact(ro.mor.edge i e j).1
 .have:=ro.part.d7.1 x b;have:=s.left.2;omega
 .obtain⟨i,e,j,rfl⟩:=A9 b;exact s.at_.m.edge i e j
theorem fN{em into at_:Fp}(h:VY count em into at_)(b:∀x∈em,AA at_ x<n)(j:0<=i)(o:i<count):AA (Uk count em into at_ n) i=n+(AX into i).length↔i∉into:=by
 rw [XO j o];constructor
 .intro e hi;rw[SW hi]at e;have q:=BH hi;have:=b _ (AG (l:=em) q.1 o!);omega
 .exact TG
theorem HH.grow(s:HH t r h m):W6 t r (cS r h m):=
 ⟨s.hf,s.hv,s.ro.right,(Ez s.ro.right s.ro.Aah).1,SX _ _ _ _ _⟩
theorem WJ(l:Fp)(b:0<=i):∀(k:Nat),∃s,AX l (i+k)=AX l i++s
 |0=>⟨[],V⟩|k+1=>by
  obtain ⟨s,e⟩:=WJ l b k
  grind [Io,bk]
variable{l:Fp}
theorem LU{i n:Int}(b:0<=i)(j:i<n)(h:i∉l):AA (AX l n) (AX l i).length=i/\((AX l i).length:Int)<(AX l n).length:=by
 obtain ⟨s,e⟩:=WJ l (i:=i+1) U (n-(i+1)).toNat
 rw [show i+1+((n-(i+1)).toNat:Int)=n by omega,Io l b]at e
 grind [hasB,Aq,AA]
variable{α:Type}
theorem DV[Inhabited α]{l m:List α}(b:0<=i)(e:i<l.length):AA (l++m) i=AA l i:=by grind[IN]
theorem JJ[Inhabited α]{l m:List α}:AA (l++m) (l.length+n:Int)=AA m n:=by grind[IN,AA,D_]
variable{a:Int}
theorem cH(h:0<=a):x9 t a a=X:=by
 unfold x9;rw[show(a+1).toNat=a.toNat+1 by omega,F3,aE U];simp
theorem HH.Abm(s:HH t r h m)(q:0<=i)(u:i<r.d5.ci.bq.length):
  (0<=AA (cS r h m).bq i/\AA (cS r h m).bq i<(CL t r (Bw h (dS r h m)) (cS r h m)).ci.bq.length)/\
  AA (CL t r (Bw h (dS r h m)) (cS r h m)).ci.bq (AA (cS r h m).bq i)<t.bq.length/\x9 t (AA (CL t r (Bw h (dS r h m)) (cS r h m)).ci.bq (AA (cS r h m).bq i)) (AA r.d5.ci.bq i)=X:=by
 obtain ⟨E,J,c3⟩:=s.Abw;have F:AA (cS r h m).bq i=M2 r.im.bq r.eE.bq (m.cE.bq.map (AA (EE h (dS r h m)).bq)) (dS r h m).bq.length i:=XO q u;have el:(CL t r (Bw h (dS r h m)) (cS r h m)).ci.bq=(dS r h m).bq.map (AA h.ci.bq)++(DT r).map (AA r.d5.ci.bq):=rfl;rw[F,el,a5,az,az];by_cases hi:i∈r.eE.bq
 .have b:=BH hi;have K:=E.len;have j:=AG (l:=r.im.bq) b.1 U;have z:=c3 _ j;have D:=J _ j;have w:=E.pos _ j;rw[SW hi];refine⟨⟨w,by push_cast;omega⟩,?_⟩;rw[DV w (by rw[az];exact D),Nd w D,z.1,(BH z.2).2.2.1];have o:=s.ro.part.d6.1 _ j;have G:=s.left.1;have y:=s.at_.m.node _ o.1 U;have H:=s.hh.kind _ y.1.1 y.1.2;have hn:=s.ro.mor.node _ b.1 b.2.1;rw[b.2.2.1]at hn;have I:AA (CQ r.eh.ci r.im).bq (Ao r.eE.bq i)=AA r.eh.ci.bq (AA r.im.bq (Ao r.eE.bq i)):=Nd b.1 U;rw[hn.2,I];exact⟨H.2,y.2⟩
 .have o:=LU q u hi;rw[TG hi];have e:((dS r h m).bq.map (AA h.ci.bq)).length=(dS r h m).bq.length:=az ..;refine⟨⟨U,?_⟩,?_⟩
  .have:((DT r).length:Int)=(AX r.eE.bq r.d5.ci.bq.length).length:=rfl
   push_cast
   omega
  .rw[<-e,JJ,show DT r=AX r.eE.bq r.d5.ci.bq.length from rfl,Nd U o.2];show AA r.d5.ci.bq (AA (AX r.eE.bq r.d5.ci.bq.length) (AX r.eE.bq i).length)<(t.bq.length:Int)/\x9 t (AA r.d5.ci.bq (AA (AX r.eE.bq r.d5.ci.bq.length) (AX r.eE.bq i).length)) _=X;rw[o.1];have:=(Ez s.ro.right s.ro.Aah).1 _ (AG q u);exact⟨this.2,cH this.1⟩
theorem HH.rows(s:HH t r h m):(CL t r (Bw h (dS r h m)) (cS r h m)).eg.map (λv=>v.length)=(CL t r (Bw h (dS r h m)) (cS r h m)).ci.bq.map λn=>(A4 t n).length:=by
 show (List.map _ (_++_))=List.map _ (_++_);rw[A',A'];congr 1
 .show((dS r h m).bq.map (AA h.eg)).map _=((dS r h m).bq.map (AA h.ci.bq)).map _;rw[y_,y_];refine A! λx b=>?_;have b:=s.rem.d6.1 x b;exact s.hh.row x b.1 b.2
 grind [y_,A!,Uz,az]
theorem HH.put(s:HH t r h m):Vb t r (cS r h m) m.ek (CL t r (Bw h (dS r h m)) (cS r h m)):=by
 obtain ⟨O,G,P⟩:=Qi s.re;obtain⟨hv,Q,y⟩:=ey G;have J:=s.at_.q.vars;have z:=s.at_.len;have u:=s.rows;have w:(CL t r (Bw h (dS r h m)) (cS r h m)).eg.length=(CL t r (Bw h (dS r h m)) (cS r h m)).ci.bq.length:=by
  grind [B?,az]
 refine ⟨s.hf,s.hv,U,U,λx b=>?_,λn hn=>?_,w,λi e o=>?_⟩
 .obtain⟨i,e,o,rfl⟩:=A9 b;obtain⟨j,H,S⟩:=jr (y i e o);have D:=(Ez s.ro.right s.ro.Aah).1 _ (AG j.1 j.2);rw[IR s.hv D.1 D.2]at H;obtain⟨ε,I,E⟩:=s.Abm j.1 j.2;replace E:=Zk (CY s.hv) I E;have F:(cS r h m).bq.length=r.d5.ci.bq.length:=SX _ _ _ _ _
  grind
 .have hn:n∈(dS r h m).bq.map (AA h.ci.bq)++(DT r).map (AA r.d5.ci.bq):=hn;rcases C_.1 hn with hn|hn
  .obtain⟨x,b,rfl⟩:=w_.1 hn;have b:=s.rem.d6.1 x b;exact s.hh.kind x b.1 b.2
  .obtain⟨x,b,rfl⟩:=w_.1 hn;have b:=Db b;exact(Ez s.ro.right s.ro.Aah).1 _ (AG b.1 b.2)
 .have K:=Nd (l:=(CL t r (Bw h (dS r h m)) (cS r h m)).eg) (g:=λv=>v.length) e U;have N:=Nd (l:=(CL t r (Bw h (dS r h m)) (cS r h m)).ci.bq) (g:=λn=>(A4 t n).length) e o
  grind
end Go.Sf.Sc
namespace Go.Sf.Sc
open Go Go.Sf
abbrev zRu:ec:=ec.mk (⟨#[]⟩:ByteArray) (d4.mk (ci.mk [] []) [] 0 []) (d4.mk (ci.mk [] []) [] 0 []) (A3.mk [] []) (cE.mk [] []) T (c9.mk 0 [] (cE.mk [] []) (d4.mk (ci.mk [] []) [] 0 []))
abbrev zG:Au:=Au.mk zRu (AN.mk (cE.mk [] []) []) (AH.mk (ci.mk [] []) []) (AH.mk (ci.mk [] []) []) (cE.mk [] []) (cE.mk [] [])
def Vm(t:AC)(r:ec)(h:AH)(m:AN):Au×Int:=
 if (HD t (CL t r (Bw h (dS r h m)) (cS r h m)) (Bz r (cS r h m) m.ek)).2≠0 then(zG,(HD t (CL t r (Bw h (dS r h m)) (cS r h m)) (Bz r (cS r h m) m.ek)).2)else
 if 40<(HD t (CL t r (Bw h (dS r h m)) (cS r h m)) (Bz r (cS r h m) m.ek)).1.ci.bq.length\/80<(HD t (CL t r (Bw h (dS r h m)) (cS r h m)) (Bz r (cS r h m) m.ek)).1.ci.ca.length then(zG,3)else
 (Au.mk r m h (HD t (CL t r (Bw h (dS r h m)) (cS r h m)) (Bz r (cS r h m) m.ek)).1 (EE h (dS r h m)) (cS r h m),0)
noncomputable def Bh(t:AC)(r:ec)(h:AH)(m:AN):Au×Int:=
 if Ds t r≠0 then(zG,Ds t r)else if(Cy t h).2≠0 then(zG,(Cy t h).2)else
 if EN t r.eh.ci h.ci m.cE r.ff≠0 then(zG,1)else
 if (FI t r.eh h m.cE).2≠0 then(zG,(FI t r.eh h m.cE).2)else if¬(FI t r.eh h m.cE).1=m.ek then(zG,11)else
 if (Ln (Ib r.eh.ci h.ci m.cE) h.ci r.im m.cE).2≠0 then(zG,(Ln (Ib r.eh.ci h.ci m.cE) h.ci r.im m.cE).2)else
 if (LY t r.eh r.c9 h m r.ff).2≠0 then(zG,(LY t r.eh r.c9 h m r.ff).2)else
 if (LY t r.eh r.c9 h m r.ff).1=T then(zG,16)else Vm t r h m
variable{t:AC}{r:ec}{h:AH}{m:AN}
theorem Vf(b:Ds t r=0)(e:(Cy t h).2=0)(j:EN t r.eh.ci h.ci m.cE r.ff=0)(o:(FI t r.eh h m.cE).2=0)(q:(FI t r.eh h m.cE).1=m.ek):SV t r.eh r.c9 h m r.ff=0:=by
 unfold SV;rw[aE (by simp[(Qi b).2.2]),aE c!,aE j_,aE r?,QQ q]
theorem fo{ζ:Option (Au×Int)}(hX:(HD t (CL t r (Bw h (dS r h m)) (cS r h m)) (Bz r (cS r h m) m.ek)).2=0->ζ=
   if ((decide (40<((HD t (CL t r (Bw h (dS r h m)) (cS r h m)) (Bz r (cS r h m) m.ek)).1.ci.bq.length:Int)))||(decide (80<((HD t (CL t r (Bw h (dS r h m)) (cS r h m)) (Bz r (cS r h m) m.ek)).1.ci.ca.length:Int))))=X then Y (zG,3)else
   Y (Au.mk r m h (HD t (CL t r (Bw h (dS r h m)) (cS r h m)) (Bz r (cS r h m) m.ek)).1 (EE h (dS r h m)) (cS r h m),0)):
  (if(!decide ((HD t (CL t r (Bw h (dS r h m)) (cS r h m)) (Bz r (cS r h m) m.ek)).2=0))=X then Y (zG,(HD t (CL t r (Bw h (dS r h m)) (cS r h m)) (Bz r (cS r h m) m.ek)).2)else ζ)=Y (Vm t r h m):=by
 unfold Vm;refine Do λb=>?_;rw[hX b];refine QG an λ_=>rfl
theorem cv(hf:Ay t)(fr:EK r)(F:DM r.c9<=40)(h:AH)(m:AN):KC t r h m=Y (Bh t r h m):=by
 unfold KC Qn Bh;rw[Ov hf,bs];by_cases hv:¬(A8 t).2=0
 .grind[Ds,A8]
 have hv:=G_.1 hv;rw[aE u?,lr hf fr,bs,cl hf,bs];by_cases j:¬Ds t r=0
 .grind
 have j:=G_.1 j;rw[aE j_,bs,aE (show¬Ds t r≠0 by simp[j])];refine Do λG=>?_;rw[Option.bind_fun_some];unfold Qm OO;rw[Ym hf,bs];by_cases o:¬EN t r.eh.ci h.ci m.cE r.ff=0
 .grind
 have o:=G_.1 o;rw[aE r?,gK hf,bs,aE (show¬EN t r.eh.ci h.ci m.cE r.ff≠0 by simp[o])];by_cases w:¬(FI t r.eh h m.cE).2=0
 .grind
 have w:=G_.1 w;rw[aE (by simp[w]),PH,bs,aE (show¬(FI t r.eh h m.cE).2≠0 by simp[w])];by_cases y:¬(FI t r.eh h m.cE).1=m.ek
 .grind
 have y:=G_.1 y;rw[aE (by simp[y]),bs,aE V,aE (show¬¬(FI t r.eh h m.cE).1=m.ek by simp[y])];rw[vk hf o,bs,aE V,vd fr.em,bs];refine Do λH=>?_;obtain⟨_,_,_,z⟩:=XM hf F (Vf j G o w y);obtain⟨co,Q⟩:=YX H;rw[eZ hf _ fr.cond F,bs,Q];refine Do λS=>?_;refine V7 λε=>?_;have s:HH t r h m:=⟨hf,fr,j,G,z,co⟩;have u:=s.rem;have η:=s.hh.g.d6;have ζ:=s.hh.g.d7;have l1:=s.left.1;have l2:=s.left.2;have δ:=s.ro.left.d6;have Z:=s.ro.left.d7;have J:=z.len;have K:=z.q.vars;have E:Jf m=Y m:=by
  unfold Jf slices_Clone_int;rw[BO a?,bs,BO a?,bs,BO a?,bs]
 simp only[];rw[E,bs,jX u.sm,bs];rw[gP U u.d6.2 (NU _ _),bs,gP U u.d7.2 (NU _ _),bs];have N:Ga r.d5.ci.bq.length r.im.bq r.eE.bq m.cE.bq (E9 h.ci.bq.length (dS r h m).bq) (J9 h.ci r.im m.cE).bq.length=Y (cS r h m).bq:=
  Zx s.Abw.1 (λx D=>by rw[Jq];obtain⟨i,b,e,rfl⟩:=A9 D;exact(z.m.node i b e).1) U (E_.2 u.d6.2)
 have O:Ga r.d5.ci.ca.length r.im.ca r.eE.ca m.cE.ca (E9 h.ci.ca.length (dS r h m).ca) (J9 h.ci r.im m.cE).ca.length=Y (cS r h m).ca:=
  Zx s.AbE.1 (λx D=>by rw[Jq];obtain⟨i,b,e,rfl⟩:=A9 D;exact z.m.edge i b e) U (E_.2 u.d7.2)
 rw [N,bs,O,bs];have P:=sY (M:=m) s.grow u (SX _ _ _ _ _) (λi b e=>fN s.Abw.1 s.Abw.2.1 b e) (λi b e=>fN s.AbE.1 s.AbE.2.1 b e);change ((ME t (Au.mk r m h (AH.mk (ci.mk [] []) []) (EE h (dS r h m)) (cS r h m)) (dS r h m)).bind _)=_;rw[P,bs,vg s.put,bs];exact fo λI=>by rw[QQ I]
theorem mH(hf:Ay t){p:d4}{c:c9}(b:DM c<=40){inj:Bool}(e:SV t p c h m inj=0):MW t c h m inj=Y (LY t p c h m inj):=by
 obtain ⟨hv,hh,j,o⟩:=XM hf b e
 grind [MW,LY,wS,C0,t6,lV,o6]
theorem dM(hf:Ay t)(fr:EK r)(H:DM r.c9<=40)(h:AH)(m:AN):I5 t r h m=Y (Bh t r h m):=by
 unfold I5 I6 Bh;rw[mO hf fr,bs,Sp hf,bs];by_cases b:¬Ds t r=0
 .rw[QQ (by simp[b]),bs,QQ (by simp[b]),QQ b]
 have b:=G_.1 b;rw[aE (by simp[b]),bs,aE (show¬Ds t r≠0 by simp[b])];refine Do λz=>?_;unfold L8;rw[Yu hf,bs];by_cases e:¬EN t r.eh.ci h.ci m.cE r.ff=0
 .rw[QQ c!,bs,QQ V,QQ e]
 have e:=G_.1 e;rw[aE c!,s9 hf,bs,aE (show¬EN t r.eh.ci h.ci m.cE r.ff≠0 by simp[e])];by_cases j:¬(FI t r.eh h m.cE).2=0
 .rw[QQ j_,bs,QQ j_,QQ j]
 have j:=G_.1 j;rw[aE j_,Yr,bs,aE (show¬(FI t r.eh h m.cE).2≠0 by simp[j])];by_cases u:¬(FI t r.eh h m.cE).1=m.ek
 .rw[QQ o?,bs,QQ V,QQ u]
 have u:=G_.1 u;rw[aE o?,aE (show¬¬(FI t r.eh h m.cE).1=m.ek by simp[u])];rw[wJ hf e,bs,aE V,wC fr.em,bs];by_cases o:¬(Ln (Ib r.eh.ci h.ci m.cE) h.ci r.im m.cE).2=0
 .rw[QQ r?,bs,QQ r?,QQ o]
 have o:=G_.1 o;rw[aE r?,aE (show¬(Ln (Ib r.eh.ci h.ci m.cE) h.ci r.im m.cE).2≠0 by simp[o])];have y:=Vf b z e j u;obtain⟨_,_,_,E⟩:=XM hf H y;obtain⟨co,K⟩:=YX o;rw[mH hf H y,bs,K,Hk,bs,bs];by_cases q:¬(LY t r.eh r.c9 h m r.ff).2=0
 .rw[aE (show¬((decide ((LY t r.eh r.c9 h m r.ff).2=0)&&!(LY t r.eh r.c9 h m r.ff).1)=X)by simp[q]),QQ (by simp[q]),QQ q]
 have q:=G_.1 q;rw[aE (show¬(LY t r.eh r.c9 h m r.ff).2≠0 by simp[q])];cases O:(LY t r.eh r.c9 h m r.ff).1 with
 |false=>rw[QQ (show(decide ((LY t r.eh r.c9 h m r.ff).2=0)&&!T)=X by simp[q]),QQ V,QQ rfl]|true=>
 rw [aE (show¬(decide ((LY t r.eh r.c9 h m r.ff).2=0)&&!X)=X by simp),aE (by simp[q]),aE V];have s:HH t r h m:=⟨hf,fr,b,z,E,co⟩;have w:=s.rem;have P:=s.hh.g.d6;have Q:=s.hh.g.d7;have l1:=s.left.1;have l2:=s.left.2;have S:=s.ro.left.d6;have ε:=s.ro.left.d7;unfold Mu LT;simp only[];rw[ef hf z s.part w,bs,dE U w.d6.2 ((NU _ _).imp λh=>U),bs,bs,dE U w.d7.2 ((NU _ _).imp λh=>U),bs,bs,bs];simp only[];rw[X6 U (λx D=>by rw[Jq];obtain⟨i,F,G,rfl⟩:=A9 D;exact(E.m.node i F G).1),bs];rw[X6 U (λx D=>by rw[Jq];obtain⟨i,F,G,rfl⟩:=A9 D;exact E.m.edge i F G),bs];have I:Fu r.im.bq r.eE.bq r.d5.ci.bq.length (m.cE.bq.map (AA (E9 h.ci.bq.length (dS r h m).bq))) (J9 h.ci r.im m.cE).bq.length=Y (cS r h m).bq:=
  Z5 s.Abw.1 U (E_.2 w.d6.2)
 have J:Fu r.im.ca r.eE.ca r.d5.ci.ca.length (m.cE.ca.map (AA (E9 h.ci.ca.length (dS r h m).ca))) (J9 h.ci r.im m.cE).ca.length=Y (cS r h m).ca:=
  Z5 s.AbE.1 U (E_.2 w.d7.2)
 rw [I,bs,J,bs];rw[mE (aD w),bs];change ((L7 t r (Bw h (dS r h m)) (cS r h m)).bind _)=_;rw[wH s.grow (aD w),bs];change ((NS t r (CL t r (Bw h (dS r h m)) (cS r h m)) (cS r h m) m.ek).bind _)=_;rw[zO s.put,bs];exact fo λN=>rfl
end Go.Sf.Sc
namespace Go.Sf.Sc
open Go Go.Sf
instance:Inhabited ec:=⟨zRu⟩
instance:Inhabited Au:=⟨zG⟩
structure AA1(rules:List ec):Prop where
 len:rules.length<=12
 each:∀r∈rules,EK r/\DM r.c9<=40
structure xK(h:AH)(s:Au):Prop where
 pr:s.ll.bq.length=h.ci.bq.length
 sr:s.ll.ca.length=h.ci.ca.length
 node:∀x∈s.ll.bq,-1<=x/\x<s.fq.ci.bq.length
 edge:∀x∈s.ll.ca,-1<=x/\x<s.fq.ci.ca.length
 sm:Pd s.fq
variable{t:AC}{x:AH}{L:BZ}
theorem cz(h:(HD t x L).2=0):HD t x L=(⟨x.ci,L.foldl CJ x.eg⟩,0)/\L.any (MI t x)=T:=by
 unfold HD at h|-
 grind
structure IL(t:AC)(r:ec)(h:AH)(m:AN):Prop where
 f:HH t r h m
 sat:LY t r.eh r.c9 h m r.ff=(X,0)
 solve:FI t r.eh h m.cE=(m.ek,0)
 chk:EN t r.eh.ci h.ci m.cE r.ff=0
 put:(HD t (CL t r (Bw h (dS r h m)) (cS r h m)) (Bz r (cS r h m) m.ek)).2=0
 few:(CL t r (Bw h (dS r h m)) (cS r h m)).ci.bq.length<=40/\(CL t r (Bw h (dS r h m)) (cS r h m)).ci.ca.length<=80
def MM(t:AC)(r:ec)(h:AH)(m:AN):AH:=⟨(CL t r (Bw h (dS r h m)) (cS r h m)).ci,(Bz r (cS r h m) m.ek).foldl CJ (CL t r (Bw h (dS r h m)) (cS r h m)).eg⟩
def CA(t:AC)(r:ec)(h:AH)(m:AN):Au:=Au.mk r m h (MM t r h m) (EE h (dS r h m)) (cS r h m)
variable{r:ec}{h:AH}{m:AN}
theorem Oe(hf:Ay t)(fr:EK r)(G:DM r.c9<=40)(e:(Bh t r h m).2=0):IL t r h m/\Bh t r h m=(CA t r h m,0):=by
 unfold Bh at e|-;split at e
 next j=>exact absurd e j
 rename_i j;rw[aE j];split at e
 next o=>exact absurd e o
 rename_i o;rw[aE o];split at e
 .cases e
 rename_i z;rw[aE z];split at e
 next q=>exact absurd e q
 rename_i q;rw[aE q];split at e
 .cases e
 rename_i D;rw[aE D];split at e
 next w=>exact absurd e w
 rename_i w;rw[aE w];split at e
 next y=>exact absurd e y
 rename_i y;rw[aE y];split at e
 .cases e
 rename_i E;rw[aE E];have j:=G_.1 j;have o:=G_.1 o;have z:=G_.1 z;have q:=G_.1 q;have D:=G_.1 D;have w:=G_.1 w;have y:=G_.1 y;obtain⟨_,_,_,H⟩:=XM hf G (Vf j o z q D);have s:HH t r h m:=⟨hf,fr,j,o,H,(YX w).1⟩;unfold Vm at e|-;split at e
 next u=>exact absurd e u
 rename_i u;rw[aE u];have u:=G_.1 u;obtain⟨F,I⟩:=cz u;split at e
 .cases e
 rename_i b;rw[aE b];rw[F]at b;refine⟨⟨s,?_,?_,z,u,?_⟩,?_⟩
 .exact Prod.ext (by simpa using E) y
 .exact Prod.ext D q
 .simp[not_or]at b;exact b
 .rw[F];rfl
theorem IL.trk(s:IL t r h m):xK h (CA t r h m):=by
 have z:=s.f.rem;have b:=s.f.put;have hn:((CL t r (Bw h (dS r h m)) (cS r h m)).ci.bq.length)=(dS r h m).bq.length+(DT r).length:=by
  show (B? (_++_))=_;rw[a5,az];show((dS r h m).bq.map _).length+_=_;rw[az];rfl
 have he:((CL t r (Bw h (dS r h m)) (cS r h m)).ci.ca.length)=(dS r h m).ca.length+(F7 r).length:=by
  show (B? (_++_))=_;rw[a5,az];show((dS r h m).ca.map _).length+_=_;rw[az];rfl
 have q:Lk (MM t r h m).eg (CL t r (Bw h (dS r h m)) (cS r h m)).eg:=b7 _ _;have w:(MM t r h m).eg.length=(CL t r (Bw h (dS r h m)) (cS r h m)).ci.bq.length:=by
  have:=congrArg B? q;rw[az,az]at this;rw[this,b.AbD]
 refine ⟨Jq _ _,Jq _ _,λx j=>?_,λx j=>?_,⟨?_,?_,?_,λv hv=>?_⟩⟩
 .obtain⟨i,hi,rfl⟩:=w_.1 j;have:=NG (dS r h m).bq i;have y:(CA t r h m).fq.ci.bq.length=(CL t r (Bw h (dS r h m)) (cS r h m)).ci.bq.length:=rfl
  grind
 .obtain⟨i,hi,rfl⟩:=w_.1 j;have:=NG (dS r h m).ca i;have y:(CA t r h m).fq.ci.ca.length=(CL t r (Bw h (dS r h m)) (cS r h m)).ci.ca.length:=rfl
  grind
 .have:=s.few.1;show(CL t r (Bw h (dS r h m)) (cS r h m)).ci.bq.length<=1000;omega
 .have:=s.few.2;show(CL t r (Bw h (dS r h m)) (cS r h m)).ci.ca.length<=1000;omega
 .have:=s.few.1;show(MM t r h m).eg.length<=1000;omega
 .have u:v.length∈(MM t r h m).eg.map B?:=w_.2 ⟨v,hv,rfl⟩;rw[q,s.f.rows]at u;obtain⟨n,o,e⟩:=w_.1 u;have:=G5 b.hf (D? _) (CY b.hv).par (b.kind n o).2;omega
end Go.Sf.Sc
namespace Go.Sf.Sc
open Go Go.Sf
structure InM(m:cE)(g:ci):Prop where
 pr:m.bq.length<=1000
 sr:m.ca.length<=1000
 node:∀x∈m.bq,-1<=x/\x<g.bq.length
 edge:∀x∈m.ca,-1<=x/\x<g.ca.length
structure uG(m:AN):Prop where
 d6:m.cE.bq.length<=1000
 d7:m.cE.ca.length<=1000
 vars:m.ek.length<=1000
variable{t:AC}{r:ec}{h:AH}{m:AN}
theorem IL.small(s:IL t r h m):uG m:=by
 have e:=s.f.left;have b:=s.f.ro.left;have j:=s.f.at_.len;have o:=s.f.at_.q.vars;have:=b.d6;have:=b.d7;exact⟨U,U,U⟩
variable{α:Type}{i:Int}
theorem ri[Inhabited α]{l:List α}(v:α)(b:0<=i)(e:i<l.length):AA (BM l i v) i=v:=by grind[AA,BM]
theorem rj[Inhabited α]{l:List α}{i j:Int}(v:α)(b:0<=i)(e:0<=j)(h:j≠i):AA (BM l i v) j=AA l j:=by grind[AA,BM]
end Go.Sf.Sc
namespace Go.Sf.Sc
open Go Go.Sf
end Go.Sf.Sc
namespace Go.Sf.Sc
open Go Go.Sf
end Go.Sf.Sc
namespace Go.Sf.Sc
open Go Go.Sf
end Go.Sf.Sc
namespace Go.Sf.Sc
open Go Go.Sf
variable{r:ec}
theorem dW(b:(CE r).Sm):(AI r.c9).Sm:=by
 have e:TV.Sms [_,_,_,_,_,_,_,_,_,_,_,_,_,_,_,_,_,_,_,_,_,_,_,_,_]:=b;obtain⟨_,_,_,_,_,_,_,_,_,_,_,z,D,E,F,_,j,o,c3,c4,q,c6,u,w,y,_⟩:=e;exact⟨j,o,c3,c4,q,c6,u,w,y,trivial⟩
variable{t:AC}
theorem sO(hf:Ay t)(st:(AO t).Sm)(e:(CE r).Sm)(h:AH):∃b,Me t r h=Y b/\(b=X->EK r/\DM r.c9<=40):=by
 obtain ⟨j,o,_⟩:=ZN st;obtain⟨q,u,w⟩:=n9 e;obtain⟨y,z,D⟩:=mJ hf st r.eh (dW e) h;unfold Me
 grind
end Go.Sf.Sc
namespace Go.Sf.Sc
open Go Go.Sf
end Go.Sf.Sc
namespace Go.Sf.Sc
open Go Go.Sf
def Q3(x:Int):Prop:=-9223372036854775808<=x/\x<=9223372036854775807
theorem tz{x y:Int}(b:Q3 x)(e:Q3 y):Ag (x-y)=0↔x=y:=by
 unfold Q3 at b e;rw[dt];split<;>omega
theorem R0{l m:Fp}(y:l.length<=1000)(z:m.length<=1000)(u:∀x∈l,Q3 x)(w:∀x∈m,Q3 x):∃v,Er l m=Y v/\(v=0↔l=m):=by
 unfold Er;rw[Q1 (λi=>if AA l i=AA m i then W else Y (.inr (Ag (AA l i-AA m i)))) (b:=min (l.length:Int) m.length) U]
 .cases e:fst (λi=>if AA l i=AA m i then(W:Option (Int ⊕ Int))else Y (.inr (Ag (AA l i-AA m i)))) 0 (min (l.length:Int) m.length)with
  |none=>
   refine ⟨_,rfl,?_⟩;rw[Ar U U];rw[BQ]at e;constructor
   .intro h;refine Uh U λi j q=>?_;have:=e i j U
    grind
   .rintro rfl;omega
  |some x=>
   obtain ⟨i,j,q,o,_⟩:=DG e;by_cases h:AA l i=AA m i
   .rw[QQ h]at o;cases o
   .rw[aE h]at o;cases o;refine⟨_,rfl,?_⟩;rw[tz (u _ (AG j U)) (w _ (AG j U))];exact⟨λk=>absurd k h,λk=>by rw[k]⟩
 .intro i j q _;rw[QQ an,AD j U,bs,AD j U,bs];by_cases h:AA l i=AA m i
  .rw[aE (by simp[h]),QQ h,Ar U U];rfl
  .rw[QQ (by simp[h]),aE h,bs,bs];rfl
 .rw[aE an]
structure Vc(h:AH):Prop where
 s:Pd h
 w:∀v∈h.eg,∀x∈v,Q3 x
theorem oh(l m:List Fp):Fa l m slices_Equal_int=Y (decide (l=m)):=by
 unfold Fa;simp only[PH,bs];exact Oj l m
theorem si(a b:AH):ND a b=Y (decide (a=b)):=by
 unfold ND;rw[PH,bs,dA,bs,oh,bs];obtain⟨⟨n,e⟩,v⟩:=a;obtain⟨⟨u,w⟩,y⟩:=b;by_cases j:n=u<;>by_cases o:e=w<;>by_cases q:v=y<;>simp[j,o,q]
theorem Vy{a b:AH}(u:Vc a)(z:Vc b):Ij a b=Y (decide (a=b)):=by
 unfold Ij;rw[gf,bs];obtain⟨g,v⟩:=a;obtain⟨H,e⟩:=b;simp only[];by_cases o:g=H
 .subst o;by_cases q:v.length=e.length
  .rw[aE (by simp[q]),BT (λi=>!decide (AA v i=AA e i)) T]
   .have:=Yz (λx y:Fp=>decide (x=y)) (l:=v) (m:=e) (λ_ _ _ _=>decide_eq_true_iff) q;by_cases h:v=e
    .rw[this.2 h,aE V,Bj];simp[h]
    .cases G:gp (λi=>!decide (AA v i=AA e i)) 0 v.length
     .exact absurd (this.1 G) h
     .rw[QQ rfl,R6];simp[h]
   .intro i j D _;have E:=AG j D;have F:=AG (l:=e) j U;obtain⟨x,I,J⟩:=R0 (u.s.rows _ E) (z.s.rows _ F) (u.w _ E) (z.w _ F);rw[AD j D,bs,AD j U,bs,I,bs];by_cases h:AA v i=AA e i<;>simp[h,J]
  .rw[QQ an];have:v≠e:=λh=>q (by rw[h]);simp[this]
 .rw[QQ r?];simp[o]
theorem lw(a b:d4):GD a b=Y (decide (a=b)):=by
 unfold GD QV;simp only[PH,dA,l8,l9,bs];obtain⟨⟨n,e⟩,s,v,t⟩:=a;obtain⟨⟨y,z⟩,s',D,E⟩:=b;by_cases j:n=y<;>by_cases o:e=z<;>by_cases q:s=s'<;>by_cases u:v=D<;>by_cases w:t=E<;>simp[j,o,q,u,w]
noncomputable def ZJ(a b:ec):Bool:=@decide (a=b) (G! _)
noncomputable def bg(a b:Au):Bool:=@decide (a=b) (G! _)
theorem fW{a b:ec}:ZJ a b=X↔a=b:=by unfold ZJ;exact@decide_eq_true_iff _ (G! _)
theorem fU{a b:Au}:bg a b=X↔a=b:=by unfold bg;exact@decide_eq_true_iff _ (G! _)
theorem gu(a b:ec):ZJ a b=(decide (a.gi=b.gi)&&decide (a.ff=b.ff)&&decide (a.eh=b.eh)&&decide (a.d5=b.d5)&&decide (a.im=b.im)&&decide (a.eE=b.eE)&&US a.c9 b.c9):=by
 rw [E?,fW];simp only[gN,ml,YZ];obtain⟨n,l,r,k,i,j,c⟩:=a;obtain⟨e,o,q,u,w,y,c'⟩:=b;simp only[ec.mk.injEq]
 grind
theorem g6(a b:Au):bg a b=(ZJ a.ec b.ec&&decide (a.gh=b.gh)&&decide (a.gA=b.gA)&&decide (a.fq=b.fq)&&decide (a.ll=b.ll)&&decide (a.iT=b.iT)):=by
 rw [E?,fU];simp only[gN,ml,fW];obtain⟨r,m,o,q,t,c⟩:=a;obtain⟨u,m',e,j,w,c'⟩:=b;simp only[Au.mk.injEq]
 grind
theorem sj(a b:ec):P0 a b=Y (ZJ a b):=by
 unfold P0;simp only[lw,PH,Vw,sg,bs];rw[gu];obtain⟨n,l,r,⟨F,G⟩,i,j,c⟩:=a;obtain⟨H,I,J,⟨e,o⟩,K,N,c'⟩:=b;simp only[];by_cases q:n=H<;>by_cases u:j=N<;>by_cases w:l=I<;>by_cases y:r=J<;>simp[q,u,w,y];by_cases z:F=e<;>by_cases D:G=o<;>by_cases E:i=K<;>simp[z,D,E]
theorem mQ(a b:ec):N9 a b=Y (ZJ a b):=by
 unfold N9 Qc;simp only[gj,Ys,Yw,tL,bs];rw[gu];obtain⟨n,l,r,⟨F,G⟩,i,j,c⟩:=a;obtain⟨H,I,J,⟨e,o⟩,K,N,c'⟩:=b;simp only[];by_cases q:n=H<;>by_cases u:j=N<;>by_cases w:l=I<;>by_cases y:r=J<;>simp[q,u,w,y];by_cases z:F=e<;>by_cases D:G=o<;>by_cases E:i=K<;>simp[z,D,E]
theorem ol(a b:AN):Jg a b=Y (decide (a=b)):=by
 unfold Jg;simp only[Vw,PH,bs];obtain⟨m,v⟩:=a;obtain⟨m',o⟩:=b;by_cases e:m=m'<;>by_cases j:v=o<;>simp[e,j]
theorem pB(a b:AN):Ik a b=Y (decide (a=b)):=by
 unfold Ik;simp only[Ys,bs];obtain⟨⟨m1,w⟩,v⟩:=a;obtain⟨⟨e,j⟩,y⟩:=b;by_cases o:m1=e<;>by_cases q:w=j<;>by_cases u:v=y<;>simp[o,u,q]
theorem sq(a b:Au):P5 a b=Y (bg a b):=by
 unfold P5;simp only[sj,ol,si,Vw,bs,g6];cases ZJ a.ec b.ec<;>by_cases e:a.gh=b.gh<;>by_cases j:a.gA=b.gA<;>by_cases o:a.fq=b.fq<;>by_cases q:a.ll=b.ll<;>simp[e,j,o,q]
structure iY(s:Au):Prop where
 b:Vc s.gA
 a:Vc s.fq
theorem tM{a b:Au}(e:iY a)(j:iY b):OC a b=Y (bg a b):=by
 unfold OC;simp only[mQ,pB,Vy e.b j.b,Vy e.a j.a,Yw,bs,g6];cases ZJ a.ec b.ec<;>by_cases o:a.gh=b.gh<;>by_cases q:a.gA=b.gA<;>by_cases u:a.fq=b.fq<;>by_cases w:a.ll=b.ll<;>simp[o,q,u,w]
variable{κ:List Fp}
theorem ZT(h:∀v∈κ,∀x∈v,Q3 x):∀{L:BZ},(∀p∈L,Q3 p.2)->∀{κ:List Fp},(∀v∈κ,∀x∈v,Q3 x)->∀v∈L.foldl CJ κ,∀x∈v,Q3 x
 |[],_,_,k=>k|p::L,e,κ,k=>by
  rw [List.foldl_cons];refine ZT h (L:=L) (λq j=>e q (w? _ j)) ?_;unfold CJ;split
  .intro v hv x b;obtain⟨n,hn,rfl⟩:=List.mem_iff_getElem.1 hv;rw[List.getElem_modify]at b;split at b
   .rcases List.mem_or_eq_of_mem_set b with b|rfl
    .exact k _ (C' _) _ b
    .exact e p (B' ..)
   .exact k _ (C' _) _ b
  .exact k
variable{t:AC}{h:AH}
theorem R8(hf:Ay t)(e:(Cy t h).2=0):Vc h:=by
 obtain ⟨hv,hh⟩:=NE hf e;refine⟨Xf hf hv hh,λv b x j=>?_⟩;obtain⟨i,o,q,rfl⟩:=A9 b;have:=hh.low i o (by have:=hh.len;omega) x j;unfold Q3;omega
variable{r:ec}{m:AN}
theorem nQ(s:IL t r h m):iY (CA t r h m):=by
 have hh:=s.f.hh;have q:=R8 s.f.hf s.f.he;have u:=s.f.put;have hT:=CY s.f.hv;refine⟨q,s.trk.sm,?_⟩;have y:=(cz s.put).2;refine ZT (κ:=[]) V (λp b=>?_) ?_
 .obtain⟨sl,E,rfl⟩:=w_.1 b;have k:=u.slot sl E;rw[List.any_eq_false]at y;have e:=y _ b;unfold MI at e;have z:=u.kind _ (AG k.2.2.1.1 k.2.2.1.2);have F:=TD s.f.hf hT z.1 z.2 _ (AG k.2.2.2.1 k.2.2.2.2);simp only[F_,ml,not_or]at e;unfold Q3;unfold Qk at e|-;dsimp only at e|-;omega
 .intro v hv x o;unfold CL M5 at hv;rcases C_.1 hv with hv|hv
  .unfold Bw at hv;obtain⟨i,hi,rfl⟩:=w_.1 hv;have:=s.f.rem.d6.1 i hi;exact q.w _ (AG this.1 (by have:=hh.len;omega)) x o
  .obtain⟨i,hi,rfl⟩:=w_.1 hv;unfold Uz at o;obtain⟨a,D,rfl⟩:=w_.1 o;have j:=Db hi;have k:=s.f.grow.kind _ (AG (l:=r.d5.ci.bq) j.1 j.2);have G:=TD s.f.hf hT k.1 k.2 a D;have e:=Y8 s.f.hf hT k.1 k.2 a D;unfold Q3;omega
end Go.Sf.Sc
namespace Go.Sf.Sc
open Go Go.Sf
noncomputable def Og(t:AC)(st:Au):Bool:=decide ((Bh t st.ec st.gA st.gh).2=0)&&bg (Bh t st.ec st.gA st.gh).1 st
variable{t:AC}
theorem od(hf:Ay t){st:Au}(fr:EK st.ec)(b:DM st.ec.c9<=40):OM t st=Y (Og t st):=by
 unfold OM Og;rw[cv hf fr b,bs];by_cases e:(Bh t st.ec st.gA st.gh).2=0
 .rw[QQ c!,sq,bs,bs];simp[e]
 .rw[aE c!,bs];simp[e]
theorem dH(hf:Ay t){st:Au}(fr:EK st.ec)(j:DM st.ec.c9<=40)(w:Vc st.fq):Kk t st=Y (Og t st):=by
 unfold Kk Og;rw[dM hf fr j,bs];by_cases e:(Bh t st.ec st.gA st.gh).2=0
 .obtain⟨s,q⟩:=Oe hf fr j e;have o:=nQ s;rw[QQ c!,q,tM o (b:=st) ⟨o.b,w⟩,bs,bs];simp
 .rw[aE c!,bs];simp[e]
theorem Tg{l a:Fp}(h:∀x∈a,0<=x/\x<l.length)(j:a.length<=1000):Dd l a=Y (a.map (AA l)):=by
 unfold Dd;rw[TX (F:=AA l) λi s b e o=>?_]
 .rfl
 .have:=h _ (AG b e);rw[AD b e,bs,AD this.1 this.2,bs,AU a!,bs]
variable{s:A5}{g:ci}
theorem cu(h:Sorted s g):Gb g s=Y ⟨CQ g (AS s g 1),(AS s g 1).bq,(AS s g 1).ca⟩:=Yp h 1
variable{r:ec}
theorem aJ(b:EK r)(ho:Pc t r):EK (Ci s r 1)/\DM (Ci s r 1).c9<=40:=by
 have e:=ho.left.d6;have j:=ho.left.d7;have o:=ho.right.d6;have q:=ho.right.d7;have a1:=GF (G9 s r.eh.ci 1) r.eh.ci.bq.length;have a2:=GF (Jy s r.eh.ci 1) r.eh.ci.ca.length;have u:=GF (G9 s r.d5.ci 1) r.d5.ci.bq.length;have w:=GF (Jy s r.d5.ci 1) r.d5.ci.ca.length;refine⟨⟨b.name,⟨?_,?_,H_ _,H_ _⟩,⟨?_,?_,H_ _,H_ _⟩,⟨?_,?_⟩,⟨?_,?_⟩,QS 1⟩,by show DM (Nl 1)<=40;decide⟩<;>
  simp only[Ci,Cf,CQ,AS,FH,CM,az]<;>omega
theorem aP(ho:Pc t r)(l:Fp):(r.eE.bq++C8 s r l).length<=r.d5.ci.bq.length/\(r.eE.ca++Ch s r l).length<=r.d5.ci.ca.length:=by
 have w:=ho.mor;constructor
 .have o:(r.eE.bq++C8 s r l).Nodup:=LJ ho.inj.1 (Dc _ _) λx e j=>by
   have:=(Gh.1 e).2;unfold Nv at this;simp[Aq.2 j]at this
  have:=Rw (b:=Bm r.d5.ci.bq.length) o λx e=>by
   have:0<=x/\x<r.d5.ci.bq.length:=by
    rcases C_.1 e with e|e
    .obtain⟨i,q,u,rfl⟩:=A9 e;exact(w.node i q u).1
    .exact O1 e
   unfold Bm;exact w_.2 ⟨x.toNat,w!.2 U,C? this.1⟩
  rw [CM]at this;omega
 .have o:(r.eE.ca++Ch s r l).Nodup:=LJ ho.inj.2 (Dc _ _) λx e j=>by
   have:=(Gh.1 e).2;unfold Nu at this;simp[Aq.2 j]at this
  have:=Rw (b:=Bm r.d5.ci.ca.length) o λx e=>by
   have:0<=x/\x<r.d5.ci.ca.length:=by
    rcases C_.1 e with e|e
    .obtain⟨i,q,u,rfl⟩:=A9 e;exact(w.edge i q u).1
    .exact O1 e
   unfold Bm;exact w_.2 ⟨x.toNat,w!.2 U,C? this.1⟩
  rw [CM]at this;omega
theorem kE(b:EK r)(h:CW t s r=0)(l:Fp):EK (By s r l)/\DM (By s r l).c9<=40:=by
 obtain ⟨_,ho,l1,l2⟩:=FA h;have e:=ho.left.d6;have j:=ho.left.d7;have o:=ho.right.d6;have q:=ho.right.d7;obtain⟨a1,a2⟩:=aP (s:=s) ho l;rw[a5]at a1 a2;refine⟨⟨b.name,⟨?_,?_,H_ _,H_ _⟩,⟨?_,?_,H_ _,H_ _⟩,⟨?_,?_⟩,⟨?_,?_⟩,QS 1⟩,by show DM (Nl 1)<=40;decide⟩<;>
  simp only[By,Cf,A0,CM,az,a5]<;>omega
def Ob(s:A5)(st:Au):AN:=⟨⟨(AS s st.ec.eh.ci 1).bq.map (AA st.gh.cE.bq),(AS s st.ec.eh.ci 1).ca.map (AA st.gh.cE.ca)⟩,[]⟩
def df(s:A5)(st f:Au):AN:=
 ⟨⟨st.gh.cE.bq.map (AA f.ll.bq)++(C8 s st.ec [1]).map λi=>AA f.iT.bq (Ao (AS s st.ec.d5.ci 1).bq i),
  st.gh.cE.ca.map (AA f.ll.ca)++(Ch s st.ec [1]).map λi=>AA f.iT.ca (Ao (AS s st.ec.d5.ci 1).ca i)⟩,[]⟩
noncomputable def YH(t:AC)(s:A5)(st:Au):Au×Au×Int:=
 if CW t s st.ec≠0 then(zG,zG,CW t s st.ec)else
 if Og t st=T then(zG,zG,1)else
 if (Bh t (Ci s st.ec 1) st.gA (Ob s st)).2≠0 then(zG,zG,(Bh t (Ci s st.ec 1) st.gA (Ob s st)).2)else
 if (Bh t (By s st.ec [1]) (Bh t (Ci s st.ec 1) st.gA (Ob s st)).1.fq (df s st (Bh t (Ci s st.ec 1) st.gA (Ob s st)).1)).2≠0 then
  (zG,zG,(Bh t (By s st.ec [1]) (Bh t (Ci s st.ec 1) st.gA (Ob s st)).1.fq (df s st (Bh t (Ci s st.ec 1) st.gA (Ob s st)).1)).2)else
 ((Bh t (Ci s st.ec 1) st.gA (Ob s st)).1,(Bh t (By s st.ec [1]) (Bh t (Ci s st.ec 1) st.gA (Ob s st)).1.fq (df s st (Bh t (Ci s st.ec 1) st.gA (Ob s st)).1)).1,0)
structure SpF(t:AC)(s:A5)(st f:Au):Prop where
 left:st.gh.cE.bq.length=st.ec.eh.ci.bq.length/\st.gh.cE.ca.length=st.ec.eh.ci.ca.length
 tn:∀x∈st.gh.cE.bq,0<=x/\x<f.ll.bq.length
 te:∀x∈st.gh.cE.ca,0<=x/\x<f.ll.ca.length
 cn:∀i∈C8 s st.ec [1],0<=Ao (AS s st.ec.d5.ci 1).bq i/\Ao (AS s st.ec.d5.ci 1).bq i<f.iT.bq.length
 ce:∀i∈Ch s st.ec [1],0<=Ao (AS s st.ec.d5.ci 1).ca i/\Ao (AS s st.ec.d5.ci 1).ca i<f.iT.ca.length
theorem rq(hf:Ay t){st:Au}(fr:EK st.ec)(b:DM st.ec.c9<=40)(h:Og t st=X):IL t st.ec st.gA st.gh:=by
 unfold Og at h;simp only[gN,ml]at h;exact(Oe hf fr b h.1).1
theorem th{st:Au}(k:IL t st.ec st.gA st.gh):(∀x∈(AS s st.ec.eh.ci 1).bq,0<=x/\x<st.gh.cE.bq.length)/\∀x∈(AS s st.ec.eh.ci 1).ca,0<=x/\x<st.gh.cE.ca.length:=by
 obtain ⟨e,j⟩:=k.f.left;exact⟨λx b=>by rw[e];exact O1 b,λx b=>by rw[j];exact O1 b⟩
theorem zm(hf:Ay t){st:Au}(fr:EK st.ec)(D:CW t s st.ec=0)(k:IL t st.ec st.gA st.gh)(e:(Bh t (Ci s st.ec 1) st.gA (Ob s st)).2=0):
  SpF t s st (Bh t (Ci s st.ec 1) st.gA (Ob s st)).1:=by
 obtain ⟨_,ho,l1,l2⟩:=FA D;obtain⟨H,I⟩:=aJ (s:=s) fr ho;obtain⟨J,K⟩:=Oe hf H I e;rw[K];have y:=J.trk;have z:=k.f.at_.m;refine⟨k.f.left,λx o=>?_,λx o=>?_,λi hi=>?_,λi hi=>?_⟩
 .rw[y.pr];obtain⟨j,u,w,rfl⟩:=A9 o;exact(z.node j u w).1
 .rw[y.sr];obtain⟨j,u,w,rfl⟩:=A9 o;exact z.edge j u w
 .have b:=Gh.1 hi;have q:i∈(AS s st.ec.d5.ci 1).bq:=by
   refine Gh.2 ⟨b.1,?_⟩;have:=b.2;unfold Nv at this;simp only[gN,Aq,x?]at this;unfold G9;simpa using this.2
  refine ⟨J2.2 q,?_⟩;have E:=(NG (AS s st.ec.d5.ci 1).bq i).2;have F:(cS (Ci s st.ec 1) st.gA (Ob s st)).bq.length=(Ci s st.ec 1).d5.ci.bq.length:=SX ..;have G:(Ci s st.ec 1).d5.ci.bq.length=(AS s st.ec.d5.ci 1).bq.length:=k?
  show _<((cS (Ci s st.ec 1) st.gA (Ob s st)).bq.length:Int);omega
 .have b:=Gh.1 hi;have q:i∈(AS s st.ec.d5.ci 1).ca:=by
   refine Gh.2 ⟨b.1,?_⟩;have:=b.2;unfold Nu at this;simp only[gN,Aq,x?]at this;unfold Jy;simpa using this.2
  refine ⟨J2.2 q,?_⟩;have E:=(NG (AS s st.ec.d5.ci 1).ca i).2;have F:(cS (Ci s st.ec 1) st.gA (Ob s st)).ca.length=(Ci s st.ec 1).d5.ci.ca.length:=SX ..;have G:(Ci s st.ec 1).d5.ci.ca.length=(AS s st.ec.d5.ci 1).ca.length:=k?
  show _<((cS (Ci s st.ec 1) st.gA (Ob s st)).ca.length:Int);omega
theorem om(hf:Ay t){st:Au}(fr:EK st.ec)(u:DM st.ec.c9<=40):Hv t s st=Y (YH t s st):=by
 unfold Hv Fg FB YH;rw[gR hf fr 1,bs,bs];by_cases b:CW t s st.ec=0
 .have e0:(if CW t s st.ec≠0 then(bF,CW t s st.ec)else(Ci s st.ec 1,0))=(Ci s st.ec 1,0):=aE (λh=>h b);rw[e0];dsimp only;rw[aE (show¬(!decide ((0:Int)=0))=X by simp),od hf fr u,bs,aE (show¬CW t s st.ec≠0 from λh=>h b)];cases D:Og t st with
  |false=>rfl|true=>
  rw [aE a_,aE a_];obtain⟨y,ho,l1,l2⟩:=FA b;have k:=rq hf fr u D;have w:=db (s:=s) ho.left 1;have sl:=th (s:=s) k;rw[cu (P4 y ho.left ho.Abp),bs,cu (P4 y ho.right ho.Aah),bs];obtain⟨J,K⟩:=aJ (s:=s) fr ho;obtain⟨N,O⟩:=kE fr b [1];have E:(AN.mk (cE.mk ((AS s st.ec.eh.ci 1).bq.map (AA st.gh.cE.bq)) ((AS s st.ec.eh.ci 1).ca.map (AA st.gh.cE.ca))) [])=Ob s st:=rfl;rw[Tg sl.1 w.1,bs,Tg sl.2 w.2,bs,E,cv hf J K,bs];refine Do λz=>?_;have o:=zm hf fr b k z;have m1:=k.small;have:=m1.d6;have:=m1.d7;have F:(if CW t s st.ec≠0 then(bF,(⟨[],[]⟩:A3),CW t s st.ec)else(By s st.ec [1],YK s st.ec [1],0))=(By s st.ec [1],YK s st.ec [1],0):=aE (λh=>h b);rw[gQ hf fr [1],bs,F,bs];dsimp only;rw[aE (show¬(!decide ((0:Int)=0))=X by simp),Tg o.tn U,bs,Tg o.te U,bs];obtain⟨P,Q⟩:=aP (s:=s) ho [1];rw[a5]at P Q;have S:=ho.right.d6;have ε:=ho.right.d7;generalize (Bh t (Ci s st.ec 1) st.gA (Ob s st)).1=f at o|-;have G:slc (By s st.ec [1]).eE.bq (st.ec.eh.ci.bq.length:Int) ((By s st.ec [1]).eE.bq.length:Int)=Y (C8 s st.ec [1]):=by
   rw [show(By s st.ec [1]).eE.bq=st.ec.eE.bq++C8 s st.ec [1]from rfl,Ww U l',D_,<-l1,C!]
  have H:slc (By s st.ec [1]).eE.ca (st.ec.eh.ci.ca.length:Int) ((By s st.ec [1]).eE.ca.length:Int)=Y (Ch s st.ec [1]):=by
   rw [show(By s st.ec [1]).eE.ca=st.ec.eE.ca++Ch s st.ec [1]from rfl,Ww U l',D_,<-l2,C!]
  rw [G,bs,BR (λi=>AN.mk ⟨st.gh.cE.bq.map (AA f.ll.bq)++((C8 s st.ec [1]).take i.toNat).map λi=>AA f.iT.bq (Ao (AS s st.ec.d5.ci 1).bq i),st.gh.cE.ca.map (AA f.ll.ca)⟩ []) U V,bs,H,bs,
   BR (λi=>AN.mk ⟨st.gh.cE.bq.map (AA f.ll.bq)++(C8 s st.ec [1]).map λi=>AA f.iT.bq (Ao (AS s st.ec.d5.ci 1).bq i),st.gh.cE.ca.map (AA f.ll.ca)++((Ch s st.ec [1]).take i.toNat).map λi=>AA f.iT.ca (Ao (AS s st.ec.d5.ci 1).ca i)⟩ []) U V,bs]
  .rw[D_,z!];have I:(AN.mk ⟨st.gh.cE.bq.map (AA f.ll.bq)++(C8 s st.ec [1]).map λi=>AA f.iT.bq (Ao (AS s st.ec.d5.ci 1).bq i),st.gh.cE.ca.map (AA f.ll.ca)++(Ch s st.ec [1]).map λi=>AA f.iT.ca (Ao (AS s st.ec.d5.ci 1).ca i)⟩ [])=df s st f:=rfl;rw[I,cv hf N O,bs];exact Do λ_=>rfl
  .intro i e j;have q:=o.ce _ (AG e j);rw[AD e j,bs,Qt,bs,AD q.1 q.2,bs,AU a!,bs,Cb e j,A',<-bk];rfl
  .intro i e j;have q:=o.cn _ (AG e j);rw[AD e j,bs,Qt,bs,AD q.1 q.2,bs,AU a!,bs,Cb e j,A',<-bk];rfl
 .rw[QQ b,QQ (by simp[b]),QQ b]
end Go.Sf.Sc
namespace Go.Sf.Sc
open Go Go.Sf
def QA(t:AC)(p g:ci)(inj:Bool):List cE×Int:=
 if EF t p g≠0 then([],EF t p g)else if 5000<(KQ t p g (Ry p) inj).length then([],3)else(KQ t p g (Ry p) inj,0)
variable{t:AC}
theorem v8(hf:Ay t)(p g:ci)(inj:Bool):Px t p g inj=Y (QA t p g inj):=by
 unfold Px QA;rw[Ti hf,bs];refine Do λb=>?_;obtain⟨hv,j⟩:=Yb (inj:=inj) (pa:=Ry p) b (by simp[Ry]) (by simp[Ry]);have e:=(LF b).2.1;have:=e.d6;have:=e.d7
 grind [o9,bs,rJ,KQ,Ry]
end Go.Sf.Sc
namespace Go.Sf.Sc
open Go Go.Sf
variable{α:Type}{f:Int->List α->Option (List α)}
theorem lK[Inhabited α]{x:List α}{p:α->Bool}(u:x.length<=5000)
  (hf:∀(i:Int)(s:List α),0<=i->i<x.length->s.length<=5000->f i s=Y (if p (AA x i)=X then s++[AA x i]else s)):
  BB f 0 (x.length:Int) []=Y (x.filter p):=by
 rw [BR (a:=0) (b:=x.length) (s:=[]) (λi=>(x.take i.toNat).filter p) U rfl,D_,z!];intro i e j;have o:((x.take i.toNat).filter p).length<=5000:=m_
 rw [hf i _ e j o,Cb e j,List.filter_append];cases q:p (AA x i)<;>simp[q]
def Pm(t:AC)(p:d4)(h:AH)(inj:Bool):List AN×Int:=
 if N1 t p h≠0 then([],N1 t p h)else if(QA t p.ci h.ci inj).2≠0 then([],(QA t p.ci h.ci inj).2)else
 (((QA t p.ci h.ci inj).1.filter λy=>decide ((G2 p h y).2=0)).map λy=>⟨y,(G2 p h y).1⟩,0)
variable{t:AC}{p g:ci}
theorem kP{inj:Bool}(h:(QA t p g inj).2=0):(QA t p g inj).1.length<=5000/\∀m∈(QA t p g inj).1,EN t p g m inj=0:=by grind[QA,ko]
theorem o7(hf:Ay t)(p:d4)(h:AH)(inj:Bool):KV t p h inj=Y (Pm t p h inj):=by
 unfold KV Pm;rw[Z6 hf,bs];refine Do λq=>?_;rw[v8 hf,bs];refine Do λu=>?_;obtain⟨D,E⟩:=kP u;rw[SI (F:=λy=>((G2 p h y).1,decide ((G2 p h y).2=0))) D,bs];intro i s w z e;have j:Hm p h (AA (QA t p.ci h.ci inj).1 i)=Y (G2 p h (AA (QA t p.ci h.ci inj).1 i)):=by
  obtain ⟨hv,o,hh,b⟩:=SO hf q (E _ (AG w z));exact gk o (λs e=>O2 (CY hv) o hh b e)
 grind [AD,bs,G2,AA,QA,AU,AY]
variable{h:AH}
theorem Zt{p:d4}{inj:Bool}:(Pm t p h inj).1.length<=5000:=by grind[Pm,kP,az,G?,y!]
noncomputable def am(t:AC)(r:ec)(h:AH):Int:=if Ds t r≠0 then Ds t r else(Cy t h).2
variable{r:ec}
theorem tE(hf:Ay t)(fr:EK r)(h:AH):I6 t r h=Y (am t r h):=by
 unfold I6 am;rw[mO hf fr,bs,Sp hf];exact Do λ_=>rfl
noncomputable def WV(t:AC)(r:ec)(h:AH):List AN×Int:=
 if am t r h≠0 then([],am t r h)else if(Pm t r.eh h r.ff).2≠0 then([],(Pm t r.eh h r.ff).2)else
 ((Pm t r.eh h r.ff).1.filter λm=>decide ((Bh t r h m).2=0),0)
theorem wB(hf:Ay t)(fr:EK r)(b:DM r.c9<=40)(h:AH):Hp t r h=Y (WV t r h):=by
 unfold Hp WV;rw[tE hf fr,bs];refine Do λe=>?_;rw[o7 hf,bs];refine Do λj=>?_;rw[lK (p:=λm=>decide ((Bh t r h m).2=0)) Zt,bs]
 grind [AD,bs,dM,Bh,AA,Pm,AU,AY]
theorem rl:(WV t r h).1.length<=5000:=by grind[WV,G?,y!,Zt]
variable{m:AN}
theorem ur(b:m∈(WV t r h).1):(Bh t r h m).2=0:=by
 unfold WV at b
 grind
end Go.Sf.Sc
