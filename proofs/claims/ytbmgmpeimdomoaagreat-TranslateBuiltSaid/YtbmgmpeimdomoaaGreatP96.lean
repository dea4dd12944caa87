/- Plain lemmas: what the functions of the program and of the reference compute. -/
import Derived.Test.YtbmgmpeimdomoaaGreatP46
set_option linter.all false
set_option maxRecDepth 100000
open Option renaming some->Y,none->W
open Bool renaming true->X,false->T
open List renaming mem_filter->w!,mem_map->w?,mem_cons_of_mem->x_,foldl_append->x!,mem_append_left->x?,map_map->y_,length_filter_le->y!,map_id->y?,ext_getElem->z_,take_length->z!,getElem_map->z?,getElem_replicate->A_,map_append->A',map_congr_left->A!,map_singleton->A?,append_nil->B_,getElem?_eq_some_iff->B'
open Bool renaming true_and->B!,or_eq_false_iff->B?,eq_iff_iff->C_,or_eq_true->C',false_and->C!,eq_false_iff->C?
open Classical renaming not_not->D_
open Int renaming toNat_natCast->D',add_zero->D!,add_assoc->D?,le_refl->E_,ofNat_le->E'
namespace Go.Sf.Sc
open Go Go.Sf
def I5(p g:bi)(m:bk):bi:=⟨m.az.map (AA g.az),p.be⟩
variable{l:Fp}
theorem Ol{n x:Int}:x∈AJ l n↔(0<=x/\x<n)/\x∉l:=by
 unfold AJ;rw[w!];constructor
 .grind[Int.natCast_nonneg,Aj]
 .rintro⟨⟨b,e⟩,j⟩;refine⟨w?.2 ⟨x.toNat,List.mem_range.2 U,Int.toNat_of_nonneg b⟩,?_⟩
  grind [hasB,Aj]
theorem N1(l:Fp)(n:Int):(AJ l n).Pairwise (·<·):=by grind[AJ,List.pairwise_lt_range.imp]
def EW(images ei:Fp):Fp:=(AJ ei images.length).map (AA images)
theorem Ub{images ei:Fp}{x:Int}:x∈EW images ei↔∃i:Int,(0<=i/\i<images.length)/\i∉ei/\AA images i=x:=by grind[EW,Ol]
def Aag(images ei:Fp):Bool:=fu (λa=>fu (λb=>decide (AA images a=AA images b)&&(!hasB ei a||!hasB ei b)) (a+1) images.length) 0 images.length
theorem iq{images ei:Fp}(h:Aag images ei=T){a b:Int}(a0:0<=a)(a1:a<images.length)(w:0<=b)(u:b<images.length)(y:a∈ei)(e:AA images a=AA images b):b∈ei:=by
 unfold Aag at h;rw[Bg]at h;by_cases o:a=b
 .exact o▸y
 by_cases z:a<b
 .have j:=h a a0 a1;rw[Bg]at j;have s:=j b U u;rw[decide_eq_true e,B!,B?]at s
  grind [Aj]
 .have j:=h b w u;rw[Bg]at j;have s:=j a U a1;rw[decide_eq_true e.symm,B!,B?]at s
  grind [Aj]
variable{i:Int}
theorem Ue{images ei:Fp}(h:Aag images ei=T)(b:0<=i)(e:i<images.length)(j:i∈ei):AA images i∉EW images ei:=by grind[Ub,iq]
def NN(g:bi)(ei:Bo)(m:bk)(i:Int):Bool:=
 !hasB m.be i&&(hasB (EW m.az ei.az) (AA g.be i).fb||hasB (EW m.az ei.az) (AA g.be i).To)
def KS(g:bi)(ei:Bo)(m:bk):Bo:=⟨AJ (EW m.az ei.az) g.az.length,AJ (EW m.be ei.be) g.be.length⟩
def MG(l g:bi)(ei:Bo)(m:bk):Bo×Int:=
 if HN l g m≠0 then(⟨[],[]⟩,HN l g m)else if EC l ei≠0 then(⟨[],[]⟩,EC l ei)else
 if (Aag m.az ei.az||Aag m.be ei.be)=X then(⟨[],[]⟩,15)else
 if fu (NN g ei m) 0 g.be.length=X then(⟨[],[]⟩,14)else(KS g ei m,0)
structure aq(l g:bi)(ei:Bo)(m:bk):Prop where
 mor:aS l g m
 part:a8 l ei
 ci:Aag m.az ei.az=T
 c8:Aag m.be ei.be=T
 free:∀i:Int,0<=i->i<g.be.length->NN g ei m i=T
variable{g:bi}
theorem cu{p:Bo}(h:EC g p=0):Bz g=0/\OZ g p=0:=by grind[EC]
theorem Yf{l g:bi}{ei:Bo}{m:bk}(h:(MG l g ei m).2=0):aq l g ei m/\MG l g ei m=(KS g ei m,0):=by
 unfold MG at h|-;split at h
 .grind
 rename_i e;rw[QQ e];split at h
 .grind
 rename_i j;rw[QQ j];split at h
 .grind
 rename_i b;rw[QQ b];split at h
 .grind
 rename_i o;rw[QQ o];simp[not_or]at b;exact⟨⟨TQ (D_.1 e),Us (cu (D_.1 j)).2,b.1,b.2,Bg.1 d!⟩,rfl⟩
theorem mL{l g:bi}{ei:Bo}{m:bk}(h:aq l g ei m):OZ g (KS g ei m)=0:=by
 have w:=h.mor;have H:=w.gb;have I:∀x∈(KS g ei m).az,0<=x/\x<g.az.length:=λx o=>CL o;have J:∀x∈(KS g ei m).be,0<=x/\x<g.be.length:=λx o=>CL o;have j:∀{l:Fp}{n:Int},(∀x∈l,0<=x/\x<n)->l.Pairwise (·<·)->O7 l n=0:=by
  grind [O7,Bc,AG,Kw]
 unfold OZ;rw[j I (N1 _ _),j J (N1 _ _)];simp;rw[Bc.2 λi F G=>?_]
 .rfl
 have o:=AG F G;generalize AA (KS g ei m).be i=x at o;have b:(0<=x/\x<g.be.length)/\x∉EW m.be ei.be:=Ol.1 o;have hf:=H.fit _ (AG b.1.1 b.1.2);have y:(AA g.be x).fb∉EW m.az ei.az/\(AA g.be x).To∉EW m.az ei.az:=by
  by_cases hi:x∈m.be
  .obtain⟨k,D,E,e⟩:=BC hi;have s:k∈ei.be:=by
    by_cases s:k∈ei.be
    .exact s
    .exact absurd (Ub.2 ⟨k,⟨D,E⟩,s,e⟩) b.2
   have ends:=h.part.ends k s;have he:=w.edge k D E;rw[e]at he;have z:=h.part.ci.1;have K:=z _ ends.1;have N:=z _ ends.2;have P:=w.t2;rw[<-he.2.2.1,<-he.2.2.2];exact⟨Ue h.ci K.1 U ends.1,Ue h.ci N.1 U ends.2⟩
  .have hd:=h.free x b.1.1 b.1.2;unfold NN at hd;rw[show hasB m.be x=T from by cases O:hasB m.be x with|false=>rfl|true=>exact absurd (Aj.1 O) hi,Bool.not_false,B!,B?]at hd;exact⟨λu=>by rw[Aj.2 u]at hd;exact absurd hd.1 a_,λu=>by rw[Aj.2 u]at hd;exact absurd hd.2 a_⟩
 grind [hasB,KS,AA,Aj,Ol]
def Gb(n:Nat)(l:Fp):Fp:=(AZ n).map (A8 l)
variable{v:Int}
theorem Qw(h:v∉l):A8 l v=-1:=by grind[A8,Bc,AG]
theorem Vi(l:Fp)(v:Int):-1<=A8 l v/\A8 l v<l.length:=by
 by_cases h:v∈l
 .have:=Bn h;omega
 .rw[Qw h];omega
theorem OP:0<=A8 l v↔v∈l:=by grind[Qw,Bn]
theorem N5(n:Nat)(l:Fp):(Gb n l).length=n:=by unfold Gb;rw[a6,Am]
variable{n:Nat}
theorem Nh(b:0<=i)(e:i<n):AA (Gb n l) i=A8 l i:=E5 _ b e
theorem D2(h:l.Nodup)(b:0<=i)(e:i<l.length):A8 l (AA l i)=i:=by
 have j:=Bn (AG b e)
 grind [A8,AA,Kw]
def O8(ei into at_:Fp)(n i:Int):Int:=if hasB into i=X then AA at_ (AA ei (A8 into i))else n+(AJ into i).length
def UQ(count:Nat)(ei into at_:Fp)(n:Int):Fp:=(AZ count).map (O8 ei into at_ n)
theorem Ye(count:Nat)(ei into at_:Fp)(n:Int):(UQ count ei into at_ n).length=count:=by unfold UQ;rw[a6,Am]
variable{count:Nat}
theorem ba{ei into at_:Fp}{n i:Int}(b:0<=i)(e:i<count):AA (UQ count ei into at_ n) i=O8 ei into at_ n i:=E5 _ b e
theorem K6(h:0<=i):((AJ l i).length:Int)<=i:=by grind[Hy]
end Go.Sf.Sc
namespace Go.Sf.Sc
open Go Go.Sf
variable{α:Type}
theorem pG{P:List α->Prop}(b:P [])(e:∀l a,P l->P (l++[a]))(l:List α):P l:=by
 have:∀l:List α,P l.reverse:=by
  intro l
  induction l with
  |nil=>exact b|cons a l j=>rw[List.reverse_cons];exact e _ _ j
 rw [<-List.reverse_reverse l];exact this _
def Qa(L:BW):BW:=L.foldl (λm p=>m.set p.1 p.2) []
theorem cR(L:BW)(p:(Int×Int)×Int):Qa (L++[p])=(Qa L).set p.1 p.2:=by
 unfold Qa
 grind
def S3(L:BW):Prop:=∀p∈L,∀q∈L,p.1=q.1->p.2=q.2
variable{k:Int×Int}{v:Int}
theorem Uf:∀{m:BW},m.look k=Y v->(k,v)∈m
 |[],h=>c?
 |p::r,h=>by
  unfold BW.look at h;split at h
  .grind
  .exact x_ _ (Uf h)
theorem Zk:∀{m:BW},m.look k=W->∀p∈m,p.1≠k
 |[],_,p,b=>by cases b
 |q::r,h,p,b=>by
  unfold BW.look at h;split at h
  .cases h
  .rename_i e;rcases List.mem_cons.1 b with rfl|b
   .exact e
   .exact Zk h p b
theorem gW:∀{m:BW},m.look k=W->m.set k v=m++[(k,v)]
 |[],_=>rfl|p::r,h=>by
  unfold BW.look at h;unfold BW.set;split at h
  .cases h
  next e=>rw[QQ e,gW h];rfl
theorem da:∀{m:BW},m.look k=Y v->m.set k v=m
 |[],h=>c?
 |p::r,h=>by
  unfold BW.look at h;unfold BW.set;split at h
  .grind
  next e=>rw[QQ e,da h]
theorem ic(κ:List Fp)(p:(Int×Int)×Int):Cl (Cl κ p) p=Cl κ p:=by
 unfold Cl;split
 .apply List.ext_getElem?
  grind [Option.map_eq_map,Option.map_map,List.set_set]
 .rfl
theorem nj{m:BW}(hd:m.Dis){p:(Int×Int)×Int}(b:p∈m)(κ:List Fp):Cl (m.foldl Cl κ) p=m.foldl Cl κ:=by
 have e:m.Perm (m.erase p++[p]):=(List.perm_cons_erase b).trans (List.perm_append_singleton p (m.erase p)).symm;rw[<-Xd hd e κ,x!];exact ic _ _
theorem S3.sub{L M:BW}(h:S3 L)(b:∀p∈M,p∈L):S3 M:=λp e q j=>h p (b p e) q (b q j)
theorem fl(L:BW):S3 L->(Qa L).Dis/\(∀p,p∈Qa L↔p∈L)/\∀κ,(Qa L).foldl Cl κ=L.foldl Cl κ:=by
 refine pG (P:=λL=>S3 L->(Qa L).Dis/\(∀p,p∈Qa L↔p∈L)/\∀κ,(Qa L).foldl Cl κ=L.foldl Cl κ) (λ_=>⟨List.Pairwise.nil,λp=>Iff.rfl,λκ=>rfl⟩) (λL p e b=>?_) L;obtain⟨w,u,y⟩:=e (b.sub λq j=>x? _ j);rw[cR];cases o:(Qa L).look p.1 with
 |none=>
  grind [gW,BW.set_dis]
 |some v=>
  have s:=Uf o;have hv:v=p.2:=b (p.1,v) (x? _ ((u _).1 s)) p V rfl
  grind [da,List.mem_singleton,nj]
def Pc(L:BW):Bool:=fu (λi=>fu (λk=>decide ((AA L k).1=(AA L i).1)&&!decide ((AA L k).2=(AA L i).2)) 0 i) 0 L.length
variable{L:BW}
theorem ZD(h:Pc L=T):S3 L:=by
 intro p s q u e;obtain⟨a,a0,a1,rfl⟩:=BC s;obtain⟨b,w,y,rfl⟩:=BC u;unfold Pc at h;rw[Bg]at h;by_cases j:a=b
 .rw[j]
 by_cases z:a<b
 .have o:=h b w y;rw[Bg]at o
  grind
 .have o:=h a a0 a1;rw[Bg]at o
  grind
theorem nq(L:BW)(κ:List Fp):Nj (L.foldl Cl κ) κ:=by
 induction L generalizing κ with
 |nil=>rfl|cons p r b=>exact(b (Cl κ p)).trans (ZK κ p)
end Go.Sf.Sc
namespace Go.Sf.Sc
open Go Go.Sf
variable{t:AC}{p g:bi}
theorem Rf{m:bk}{inj:Bool}(h:Ei t p g m inj=0):Dl t p g=0/\Jl t p g m=0/\Y3 t p g m:=by grind[bX,Ei]
theorem kJ{m:bk}{inj:Bool}(h:Ei t p g m inj=0):Ei t p g m T=0:=by grind[Rf,Ei]
variable{α:Type}
theorem QR[Inhabited α](l:List α):(AZ l.length).map (AA l)=l:=by grind[bQ,a6,Am,E5]
variable{β:Type}
theorem uu[Inhabited α](l:List α)(f:α->β):l.map f=(AZ l.length).map λj=>f (AA l j):=by
 rw [show(λj=>f (AA l j))=f∘AA l from rfl,<-y_,QR]
theorem vF(hf:Ap t){m:bk}{inj:Bool}(h:Ei t p g m inj=0):GH t p g m=Y (I5 p g m,0):=by
 obtain ⟨b,s,e⟩:=Rf h;obtain⟨_,j,y,_⟩:=JN b;unfold GH;rw[Vt hf,bs,QQ (by simp[b]),Zp hf b,bs,QQ (by simp[s])];unfold Ca;have:=j.ci;have:=j.c8;have:=e.t2;rw[BM a?,bs];rw[TL U (λx o=>?_) p.be]
 .rfl
 .obtain⟨i,u,w,rfl⟩:=BC o;exact(e.node i u w).1
theorem vj(hf:Ap t){m:bk}{inj:Bool}(h:Ei t p g m inj=0):J0 t p g m=Y (I5 p g m,0):=by
 obtain ⟨z,E,w⟩:=Rf h;obtain⟨_,y,F,_⟩:=JN z;have:=y.ci;have:=y.c8;have D:=w.t2;unfold J0 GB;rw[Yu hf,bs,QQ (by simp[kJ h]),BM a?,bs,BM a?,bs,bs];rw[QS (λi=>bi.mk ((AZ p.az.length).map λj=>if j<i then AA g.az (AA m.az j)else AA p.az j) p.be) (a:=0) (b:=p.az.length) U]
 .have e:((AZ p.az.length).map λj=>if j<(p.az.length:Int)then AA g.az (AA m.az j)else AA p.az j)=m.az.map (AA g.az):=by
   grind [uu,DQ]
  rw [e];rfl
 .congr 1;rw[<-QR p.az,a6,Am]
  grind [DQ,QR]
 .intro i o s;have u:=w.node i o U;simp[Am];rw[Ne (by simpa using s),AD o U,bs,AD u.1.1 u.1.2,bs,AD o (by rw[a6,Am];exact s),bs,GP _ o,Ao U U]
  grind
 grind [a6,Am]
variable{n:Nat}{f:Int->List α->Option (List α)}
theorem P2(q:Int->Bool)(F:Int->α)(h:∀i s,0<=i->i<(n:Int)->s.length<=i.toNat->f i s=Y (if q i=X then s++[F i]else s)):gp f 0 n []=Y (((AZ n).filter q).map F):=by
 have e:∀k:Nat,(((AZ k).filter q).map F).length<=k:=λk=>by
  rw [a6];exact Nat.le_trans (y! _ _) (by rw[Am];exact R0 _)
 have:=BZ (f:=f) (s:=[]) (λi=>((AZ i.toNat).filter q).map F) (a:=0) (b:=n) U rfl (λi j o=>by
  grind [Gx])
 grind
theorem bz{q:Int->Bool}{F:Int->α}:decide (0<((((AZ n).filter q).map F).length:Int))=fu q 0 n:=by
 rw [C_,pE,Dn,a6];constructor
 .intro h;have b:(AZ n).filter q≠[]:=λe=>by rw[e]at h;simp at h
  obtain ⟨x,u⟩:=List.exists_mem_of_ne_nil _ b
  grind [By]
 .rintro⟨i,j,o,s⟩;have:i∈(AZ n).filter q:=w!.2 ⟨By.2 ⟨j,o⟩,s⟩
  grind
theorem lU{x:C6}(b:x.m.az.length<=1000):Dk x=Y (EW x.m.az x.ei.az):=by
 unfold Dk;rw[P2 (λi=>!hasB x.ei.az i) (AA x.m.az)]
 .rfl
 grind [AD,LY,hasB,AV,AX]
theorem Wx{images ei:Fp}(b:images.length<=1000):KP images ei=Y (EW images ei):=by
 unfold KP;rw[P2 (λi=>!hasB ei i) (AA images)]
 .rfl
 grind [EJ,hasB,PD,AD,AV,AX]
theorem jL{x:C6}(b:x.m.az.length<=1000)(he:x.g.be.length<=1000):DT x=Y ((AZ x.g.be.length).filter (NN x.g x.ei x.m)):=by
 unfold DT;rw[lU b,bs,P2 (NN x.g x.ei x.m) id]
 .rw[bs,y?]
 .intro i s e j o;rw[AD e j,bs,LY,bs,LY,bs,LY,bs];unfold NN;change (if(!hasB x.m.be i)=X then(if hasB (EW x.m.az x.ei.az) (AA x.g.be i).fb=X then Y X else Y (hasB (EW x.m.az x.ei.az) (AA x.g.be i).To)).bind _ else Y T).bind _=_;cases hasB x.m.be i<;>cases hasB (EW x.m.az x.ei.az) (AA x.g.be i).fb<;>cases hasB (EW x.m.az x.ei.az) (AA x.g.be i).To<;>simp[AV (show s.length+[i].length<=AX by simp;unfold AX;omega)]
theorem jU{l g:bi}{ei:Bo}{m:bk}(b:m.az.length<=1000)(he:g.be.length<=1000):Jy l g ei m=Y ((AZ g.be.length).filter (NN g ei m)):=by
 unfold Jy;rw[Wx b,bs,P2 (NN g ei m) id]
 .rw[bs,y?]
 .intro i s e j o;have hh:∀(l:Fp)(v:Int),EJ l v=Y (hasB l v):=PD;simp[AD e j,hh];unfold NN;cases hasB m.be i<;>cases hasB (EW m.az ei.az) (AA g.be i).fb<;>cases hasB (EW m.az ei.az) (AA g.be i).To<;>simp[AV (show s.length+[i].length<=AX by simp;unfold AX;omega)]
variable{a i:Int}
theorem Rd{p:Int->Bool}(h:a<=i):fu p a (i+1)=(fu p a i||p i):=by
 rw [C_,C',Dn,Dn]
 grind
theorem YE{images ei:Fp}(J:images.length<=100){f:Int->Int->List JL->Option (List JL)}(hf:∀(i j:Int)s,0<=i->i<images.length->i<j->j<images.length->s.length<=20000->f i j s=Y (if(decide (AA images i=AA images j)&&(!hasB ei i||!hasB ei j))=X then s++[JL.mk i j]else s)):
  ∃l,gp (λ(e:Int)(u:List JL)=>(gp (λ(o:Int)(s2:List JL)=>f e o s2) (AW (e+1)) (images.length:Int) u).bind λs2=>Y s2) 0 (images.length:Int) []=Y l/\l.length<=10000/\decide (0<l.length)=Aag images ei:=by
 have key:=PB (f:=λ(e:Int)(u:List JL)=>(gp (λ(o:Int)(s2:List JL)=>f e o s2) (AW (e+1)) (images.length:Int) u).bind λs2=>Y s2) (s:=[])
  (λi s=>(s.length:Int)<=100*i/\decide (0<s.length)=fu (λa=>fu (λb=>decide (AA images a=AA images b)&&(!hasB ei a||!hasB ei b)) (a+1) images.length) 0 i) (a:=0) (b:=images.length) U
  (by refine⟨V,?_⟩;rw[Bg.2 (λi z D=>U)];rfl) (λi s e E F=>by
   have w:=PB (f:=λ(o:Int)(s2:List JL)=>f i o s2) (s:=s)
    (λj s'=>(s'.length:Int)<=100*i+(j-(i+1))/\decide (0<s'.length)=(decide (0<s.length)||fu (λb=>decide (AA images i=AA images b)&&(!hasB ei i||!hasB ei b)) (i+1) j)) (a:=i+1) (b:=images.length) U
    (by refine⟨by have:=F.1;omega,?_⟩;rw[Bg.2 (λi z D=>U),Bool.or_false]) (λj s' K G y=>by
     refine ⟨_,hf i j s' e E U G (by have:=y.1;omega),?_,?_⟩
     .grind
     .rw[Rd U,<-Bool.or_assoc,<-y.2]
      grind)
   grind [Ao,Rd])
 obtain ⟨l,H,N,I⟩:=key;exact⟨l,H,U,I⟩
theorem fz{images ei:Fp}(F:images.length<=100):∃l,Gf images ei=Y l/\l.length<=10000/\decide (0<l.length)=Aag images ei:=by
 unfold Gf;obtain⟨l,K,N⟩:=YE (ei:=ei) F (f:=λb e s2=>
  (idx images b).bind λo=>
  (idx images e).bind λu=>
  (if(decide (o=u))=X then((slices_Contains_int ei b).bind λw=>
  (if(!w)=X then Y X else((slices_Contains_int ei e).bind λy=>
  Y (!y))).bind λz=>
  Y (z))else Y T).bind λD=>
  if D=X then
  (Ak s2 [JL.mk b e]).bind λE=>
  Y E
  else
  Y s2) (λi j s b G I H J=>by
   have hh:∀(l:Fp)(v:Int),slices_Contains_int l v=Y (hasB l v):=LY;simp[AD b G,AD (show 0<=j by omega) H,hh]
   grind [AA,hasB,AV,AX])
 grind
theorem gM{images ei:Fp}(F:images.length<=100):∃l,Gl images ei=Y l/\l.length<=10000/\decide (0<l.length)=Aag images ei:=by
 unfold Gl;obtain⟨l,K,N⟩:=YE (ei:=ei) F (f:=λb e s2=>
  (idx images b).bind λo=>
  (idx images e).bind λu=>
  (if(decide (o=u))=X then((EJ ei b).bind λw=>
  (if(!w)=X then Y X else((EJ ei e).bind λy=>
  Y (!y))).bind λz=>
  Y (z))else Y T).bind λD=>
  if D=X then
  (Ak s2 [JL.mk b e]).bind λE=>
  Y E
  else
  Y s2) (λi j s b G I H J=>by
   have hh:∀(l:Fp)(v:Int),EJ l v=Y (hasB l v):=PD;simp[AD b G,AD (show 0<=j by omega) H,hh]
   grind [AA,hasB,AV,AX])
 grind
variable{l:Fp}
theorem dH(h:n<=1000):MY n l=Y (AJ l n):=by
 unfold MY;rw[R7 (f:=EJ l) U U (λi=>PD l i)];rfl
theorem cq{images ei:Fp}(z:n<=1000)(hi:∀x∈images,0<=x/\x<n):HE n images ei=Y (AJ (EW images ei) n):=by
 unfold HE Eu;rw[Ne U,bs];rw[BZ (λi=>(AZ n).map λk=>fu (λj=>!hasB ei j&&decide (AA images j=k)) 0 i) U]
 .rw[bs,a6,Am,P2 (λi=>!hasB (EW images ei) i) id]
  .rw[bs,y?];rfl
  .intro i s b o F;rw[AD b (by rw[a6,Am];exact o),bs,E5 _ b o];have e:fu (λj=>!hasB ei j&&decide (AA images j=i)) 0 images.length=hasB (EW images ei) i:=by
    rw [C_,Dn,Aj,Ub];constructor
    .rintro⟨j,w,y,h⟩;rw[gN,pE]at h
     grind [Aj]
    .rintro⟨j,⟨w,y⟩,H,h⟩;refine⟨j,w,y,?_⟩;rw[gN,pE]
     grind [hasB,Aj]
   grind [hasB,EW,AV,AX]
 .refine z_ (by simp[Am]) (λk D E=>?_)
  grind [D',Bg]
 .intro i b o;have u:=hi _ (AG b o);have hh:∀(l:Fp)(v:Int),slices_Contains_int l v=Y (hasB l v):=LY;rw[AD b o,bs,hh,bs];cases G:hasB ei i
  .rw[Ne a_,AD u.1 (by rw[a6,Am];exact u.2),bs,GP _ u.1]
   grind [DQ,Rd,AA]
  grind [DQ,Rd]
theorem gl{a b:Nat}(e:a<=10000)(j:b<=10000):decide (0<AW ((a:Int)+(b:Int)))=(decide (0<a)||decide (0<b)):=by
 rw [Ao U U,C_,C']
 grind
theorem vA{l g:bi}{ei:Bo}{m:bk}(y:SD ei):HL l g ei m=Y (MG l g ei m):=by
 unfold HL DH MG;simp only[];rw[Vs,bs,gA y,bs];by_cases j:¬HN l g m=0
 .grind
 have j:=D_.1 j;rw[QQ j_,bs,QQ (show¬HN l g m≠0 by simp[j])];refine DV λJ=>?_;have b:=TQ j;have a1:=b.ga.ci;have a2:=b.ga.c8;have O:=b.t2;have P:=b.x4;have Q:=b.gb.ci;have S:=b.gb.c8;unfold D5;obtain⟨u,z,D,E⟩:=fz (ei:=ei.az) (images:=m.az) U;obtain⟨v,G,H,I⟩:=fz (ei:=ei.be) (images:=m.be) U;simp only[];rw[z,bs,G,bs,bs];simp only[];rw[gl D H,E,I];refine ZB λK=>?_;rw[jL (by show m.az.length<=1000;omega) (by show g.be.length<=1000;omega),bs];have e:=bz (n:=g.be.length) (q:=NN g ei m) (F:=id);rw[y?]at e;rw[e];refine ZB λN=>?_;rw[cq U (λx o=>?_),bs,cq U (λx o=>?_),bs]
 .rfl
 .obtain⟨i,s,w,rfl⟩:=BC o;exact(b.edge i s w).1
 .obtain⟨i,s,w,rfl⟩:=BC o;exact(b.node i s w).1
theorem va{l g:bi}{ei:Bo}{m:bk}(o:SD ei):RQ l g ei m=Y (MG l g ei m):=by
 unfold RQ Po MG;rw[ak,bs,Yv o,bs];by_cases j:¬HN l g m=0
 .grind
 have j:=D_.1 j;rw[QQ j_,bs,QQ (show¬HN l g m≠0 by simp[j])];refine DV λG=>?_;have b:=TQ j;have a1:=b.ga.ci;have a2:=b.ga.c8;have J:=b.t2;have K:=b.x4;have N:=b.gb.ci;have O:=b.gb.c8;obtain⟨u,s,w,y⟩:=gM (ei:=ei.az) (images:=m.az) U;obtain⟨v,z,D,E⟩:=gM (ei:=ei.be) (images:=m.be) U;rw[s,bs,z,bs,gl w D,y,E];refine ZB λH=>?_;rw[jU U U,bs];have e:=bz (n:=g.be.length) (q:=NN g ei m) (F:=id);rw[y?]at e;rw[e];refine ZB λI=>?_;rw[Wx U,bs,dH U,bs,Wx U,bs,dH U,bs];rfl
end Go.Sf.Sc
namespace Go.Sf.Sc
open Go Go.Sf
variable{α β:Type}
theorem TP[Inhabited α]{l:List α}{F:α->β}{f:Int->List β->Option (List β)}(h:∀(i:Int)s,0<=i->i<l.length->s.length<=i.toNat->f i s=Y (s++[F (AA l i)])):gp f 0 l.length []=Y (l.map F):=by
 have:=BZ (f:=f) (s:=[]) (λi=>(l.take i.toNat).map F) (a:=0) (b:=l.length) U V (λi e j=>by
  grind [a6,aN,CP])
 rwa [D',z!]at this
variable{n:Nat}{l:Fp}
theorem gD(G:n<=1000)(y:l.length<=1000)(o:l.Pairwise (·<·)):Mh n l=Y (Gb n l):=by
 unfold Mh Eu;rw[Ne U,bs,D',List.length_replicate,BZ (λi=>(AZ n).map λj=>if j<i then A8 l j else 0) U]
 .rw[bs];congr 1;exact DQ λj z s=>Ne s
 .refine z_ (by simp[Am]) (λk D H=>?_);have e:(AZ n)[k]'(by simpa[Am]using D)=(k:Int):=by simp[AZ]
  simp only[z?,A_,e];rw[QQ U]
 .intro i u F;rw[Tb y o,bs,AD u (by rw[a6,Am];exact F),bs];have e:∀v:Int,v=A8 l i->Y (BB ((AZ n).map λj=>if j<i then A8 l j else 0) i v)=Y ((AZ n).map λj=>if j<i+1 then A8 l j else 0):=by
   rintro v rfl;rw[GP _ u];congr 1;refine DQ λj z s=>?_;by_cases e:j=i
   .rw[Ne e,Ne U,e]
   .rw[QQ e];by_cases w:j<i
    .rw[Ne w,Ne U]
    .rw[QQ w,QQ U]
  cases b:hasB l i with
  |false=>
   rw [Ne r_];exact e _ (Qw λE=>by rw[Aj.2 E]at b;cases b).symm
  |true=>
   rw [QQ V];exact e _ (Wa o (Aj.1 b))
theorem cy(I:n<=1000)(J:l.length<=1000)(E:l.Nodup):MW l n=Y (Gb n l):=by
 unfold MW;rw[BZ (λk=>(AZ k.toNat).map (A8 l)) U r_]
 .rfl
 .intro k s K;have o:((AZ k.toNat).map (A8 l)).length=k.toNat:=by rw[a6,Am]
  have e0:(AZ k.toNat).map (A8 l)++[-1]=(AZ (k+1).toNat).map λj=>if j<k then A8 l j else if A8 l k<0 then A8 l k else -1:=by
   rw [Gx s,A'];congr 1
   .grind[A!,By]
   .rw[A?,QQ U];have:=Vi l k
    grind
  rw [AV (by rw[o];simp;unfold AX;omega),bs,e0,BZ (λi=>(AZ (k+1).toNat).map λj=>if j<k then A8 l j else if A8 l k<i then A8 l k else -1) U rfl]
  .rw[bs];congr 1;refine A! λj F=>?_;have:=By.1 F;split
   .rfl
   .have e:j=k:=U
    rw [Ne (Vi l k).2,e]
  .intro i u w;rw[AD u w,bs];by_cases e:AA l i=k
   .have y:A8 l k=i:=by rw[<-e];exact D2 E u w
    rw [Ne d_,AD s (by rw[a6,Am];omega),bs,GP _ s];congr 1;refine DQ λj G H=>?_;by_cases z:j=k
    .rw[Ne z,QQ U,Ne U,y]
    .rw[QQ z];by_cases b:j<k
     .rw[Ne b,Ne b]
     .omega
   .have y:A8 l k≠i:=λh=>by
     have:=(Bn (OP.1 (show 0<=A8 l k by omega))).2.2.1;rw[h]at this;exact e this
    rw [QQ d_];congr 1;refine DQ λj G H=>?_;by_cases b:j<k
    .rw[Ne b,Ne b]
    .rw[QQ b,QQ b];by_cases D:A8 l k<i
     .rw[Ne D,Ne U]
     .rw[QQ D,QQ U]
structure VY(count:Nat)(ei into at_:Fp):Prop where
 few:count<=1000
 nodup:into.Nodup
 len:into.length=ei.length
 inn:∀x∈into,0<=x/\x<count
 kin:∀x∈ei,0<=x/\x<at_.length
 pos:∀x∈ei,0<=AA at_ x
theorem Li(b:l.Nodup)(h:∀x∈l,0<=x/\x<n):l.length<=n:=by
 have:=List.Nodup.length_le_of_subset (l₁:=l) (l₂:=AZ n) b (λx e=>By.2 (h x e))
 rwa [Am]at this
variable{i:Int}
theorem Qn(h:0<=i):((AJ l (i+1)).length:Int)=(AJ l i).length+if i∈l then 0 else 1:=by grind[JC,aE,hasB,Aj]
theorem Sa{ei into at_:Fp}{n i:Int}(h:i∈into):O8 ei into at_ n i=AA at_ (AA ei (A8 into i)):=by grind[O8,Aj]
theorem TC{ei into at_:Fp}{n i:Int}(h:i∉into):O8 ei into at_ n i=n+(AJ into i).length:=by grind[O8,Aj]
variable{count:Nat}
theorem Zu{ei into at_:Fp}{n:Int}(h:VY count ei into at_)(z:0<=n)(D:n<=1000):GN ei into count at_ n=Y (UQ count ei into at_ n):=by
 have E:=h.few;have u:=Li h.nodup h.inn;have w:=h.len;unfold GN;rw[cy h.few U h.nodup,bs,BZ (λi=>(n+((AJ into i).length:Int),(AZ i.toNat).map (O8 ei into at_ n))) U (by simp[AJ,AZ])]
 .rfl
 .intro i e s;have F:=K6 (l:=into) e;have b:((AZ i.toNat).map (O8 ei into at_ n)).length=i.toNat:=by rw[a6,Am]
  rw [AD e (by rw[N5];exact s),bs,Nh e s];by_cases hi:i∈into
  .have o:=Bn hi;have y:=AG (l:=ei) o.1 U;have j:=h.kin _ y;rw[Ne (by simpa using o.1),bs,AD o.1 U,bs,AD j.1 j.2,bs,AV (by rw[b];simp;unfold AX;omega),bs,Gx e,A',Qn e,Ne hi,D!,A?,Sa hi]
  .rw[QQ (by rw[pE,OP];exact hi),AV (by rw[b];simp;unfold AX;omega),bs,Gx e,A',Qn e,QQ hi,A?,TC hi,Ao U U,D?]
theorem Zo{ei into b o:Fp}{n:Int}(h:VY count ei into (b.map (AA o)))(J:∀x∈b,0<=x/\x<o.length)(S:0<=n)(ε:n<=1000):G7 count ei into b o n=Y (UQ count ei into (b.map (AA o)) n):=by
 have ζ:=h.few;have K:=Li h.nodup h.inn;have N:=h.len;unfold G7 El;rw[Ne (by refine⟨rfl,U,U⟩),bs,D'];rw[BZ (λi=>(AZ count).map λk=>if 0<=A8 into k/\A8 into k<i then O8 ei into (b.map (AA o)) n k else -1) U]
 .rw[bs,a6,Am,BZ (λi=>(n+((AJ into i).length:Int),(AZ count).map λk=>if k<i\/k∈into then O8 ei into (b.map (AA o)) n k else -1)) U]
  .rw[bs];congr 1;exact DQ λj G E=>Ne (.inl E)
  .show _=(n,_);congr 1
   .simp[AJ]
   .refine DQ λj G E=>?_;have I:=OP (l:=into) (v:=j);have O:=Vi into j;by_cases e:j∈into
    .rw[Ne (.inr e),Ne ⟨I.2 e,O.2⟩]
    .rw[QQ (by rintro(s|s);omega;exact e s),QQ λs=>e (I.1 s.1)]
  .intro i w z;have δ:=K6 (l:=into) w;rw[AD w (by rw[a6,Am];exact z),bs,E5 _ w z];by_cases hi:i∈into
   .have P:=Bn hi;have H:=AG (l:=ei) P.1 v_;have Z:=h.pos _ H;rw[Ne (show i<i\/i∈into from .inr hi),Sa hi,QQ (by rw[pE];omega),Qn w,Ne hi,D!];congr 2;refine DQ λj G E=>?_;by_cases e:j<i\/j∈into
    .rw[Ne e,Ne (e.imp (λh=>U) id)]
    .rw[QQ e,QQ];rintro(s|s)
     .have:j=i:=by
       have:=λhh=>e (.inl hh);omega
      exact e (.inr (this▸hi))
     .exact e (.inr s)
   .rw[QQ (show¬(i<i\/i∈into)by rintro(s|s);omega;exact hi s),Ne a_,bs,Qn w,QQ hi,Ao an an,GP _ w,D?];congr 2;refine DQ λj G E=>?_;by_cases y:j=i
    .rw[Ne y,Ne (.inl U),y,TC hi]
    .rw[QQ y];by_cases e:j<i\/j∈into
     .rw[Ne e,Ne (e.imp (λh=>U) id)]
     .rw[QQ e,QQ];rintro(s|s)
      .exact e (.inl U)
      .exact e (.inr s)
 .refine z_ (by simp[Am]) (λk κ η=>?_);simp only[z?,A_];rw[QQ U];rfl
 .intro i w z;have D:=h.inn _ (AG w z);have H:=AG (l:=ei) w v_;have u:=h.kin _ H;rw[a6]at u;have F:=J _ (AG u.1 u.2);rw[AD w z,bs,AD w v_,bs,AD u.1 u.2,bs,AD F.1 F.2,bs,AD D.1 (by rw[a6,Am];exact D.2),bs,GP _ D.1];congr 1;refine DQ λj G E=>?_;by_cases y:j=AA into i
  .have e:=D2 h.nodup w z;rw[Ne y,y,e,Ne ⟨w,U⟩,Sa (AG w z),e,OB u.1 u.2]
  .rw[QQ y];by_cases e:0<=A8 into j/\A8 into j<i
   .rw[Ne e,Ne ⟨e.1,U⟩]
   .rw[QQ e,QQ];rintro⟨s,h2⟩;have Q:A8 into j=i:=by
     have:=λhh=>e ⟨s,hh⟩;omega
    have:=(Bn (OP.1 s)).2.2.1;rw[Q]at this;exact y this.symm
theorem YH{images b:Fp}(e:images.length<=1000)(j:∀x∈images,0<=x/\x<b.length):H4 images b=Y (images.map (AA b)):=by
 unfold H4
 grind [TP,AA,AG,AD,AV,AX]
end Go.Sf.Sc
namespace Go.Sf.Sc
open Go Go.Sf
def GJ(h:AH)(d:Bo):bk:=⟨Gb h.bi.az.length d.az,Gb h.bi.be.length d.be⟩
def cmS(r:d3)(h:AH)(m:bk)(d:Bo):bk:=
 ⟨UQ r.ca.bi.az.length r.kg.az r.ec.az (m.az.map (AA (GJ h d).az)) d.az.length,
 UQ r.ca.bi.be.length r.kg.be r.ec.be (m.be.map (AA (GJ h d).be)) d.be.length⟩
def Wo(t:AC)(k:Int):Fp:=(A3 t k).map λx=>x.Low
def RH(tr:Fp)(e:Bw):Bw:=⟨e.em,AA tr e.fb,AA tr e.To⟩
def Nc(r:d3)(x:AH)(i:Int):Fp:=x.bi.az++(AJ r.ec.az i).map (AA r.ca.bi.az)
def OU(t:AC)(r:d3)(x:AH)(i:Int):List Fp:=x.d5++(AJ r.ec.az i).map λk=>Wo t (AA r.ca.bi.az k)
def PG(r:d3)(c:bk)(x:AH)(i:Int):List Bw:=x.bi.be++(AJ r.ec.be i).map λk=>RH c.az (AA r.ca.bi.be k)
def DD(t:AC)(r:d3)(x:AH)(c:bk):AH:=⟨⟨Nc r x r.ca.bi.az.length,PG r c x r.ca.bi.be.length⟩,OU t r x r.ca.bi.az.length⟩
def CO(h:AH)(d:Bo):AH:=⟨⟨d.az.map (AA h.bi.az),d.be.map λx=>RH (GJ h d).az (AA h.bi.be x)⟩,d.az.map (AA h.d5)⟩
structure N8(x:AH):Prop where
 ci:x.bi.az.length<=1000
 c8:x.bi.be.length<=1000
 vals:x.d5.length<=1000
 rows:∀v∈x.d5,v.length<=1000
structure XJ(t:AC)(r:d3)(c:bk):Prop where
 hf:Ap t
 hv:(Az t).2=0
 g:BV r.ca.bi
 kind:∀n∈r.ca.bi.az,0<=n/\n<t.az.length
 cn:c.az.length=r.ca.bi.az.length
variable{t:AC}{r:d3}{c:bk}
theorem rx(h:XJ t r c){n:Int}(b:n∈r.ca.bi.az):(A3 t n).length<=600:=by
 have:=h.kind n b;exact Iv h.hf (E_ _) (Cg h.hv).par this.2
variable{x:AH}
theorem lz(h:N8 x):Lr x=Y x:=by
 have:=h.ci;have:=h.c8;have:=h.vals;unfold Lr GB;rw[BM a?,bs,BM a?,bs,bs];rw[BZ (λi=>AH.mk x.bi (x.d5.take i.toNat)) U r_]
 .rw[D',z!];rfl
 .intro i b e;have:=h.rows _ (AG b e)
  grind [AD,BM,AX,AV,CP]
theorem jK(h:N8 x):Kq x=Y x:=by
 have:=h.ci;have:=h.c8;have:=h.vals;unfold Kq slices_Clone_int Ca;rw[BM a?,bs,BM a?,bs];rw[BZ (λi=>AH.mk x.bi (x.d5.take i.toNat)) U r_]
 .rw[D',z!];rfl
 .intro i b e;have:=h.rows _ (AG b e)
  grind [AD,BM,AX,AV,CP]
variable{α:Type}{i:Int}
theorem Du(l:Fp)(F:Int->α)(h:0<=i):(AJ l (i+1)).map F=(AJ l i).map F++if i∈l then[]else[F i]:=by grind[JC,hasB,Aj]
theorem WJ(l:Fp)(i:Int):Ii l i=Y (!hasB l i):=by
 unfold Ii hasB;rw[BN (λj=>decide (i=AA l j)) T,GV]
 .cases fu (λj=>decide (i=AA l j)) 0 l.length<;>rfl
 grind [AD,AA]
theorem vg(h:XJ t r c)(w:N8 x):Ma t r x c=Y (DD t r x c):=by
 have J:=h.g.ci;have K:=h.g.c8;have x1:=w.ci;have N:=w.c8;have O:=w.vals;unfold Ma;rw[QS (λi=>AH.mk (bi.mk (Nc r x i) x.bi.be) (OU t r x i)) (a:=0) (b:=r.ca.bi.az.length) U]
 .rw[B0,QS (λi=>AH.mk (bi.mk (Nc r x r.ca.bi.az.length) (PG r c x i)) (OU t r x r.ca.bi.az.length)) (a:=0) (b:=r.ca.bi.be.length) U]
  .rfl
  .grind[PG,AJ]
  .intro i e o;have D:=K6 (l:=r.ec.be) e;have he:=h.g.fit _ (AG e o);have E:=h.cn;rw[Ne d!,WJ,bs];by_cases hi:i∈r.ec.be
   .grind[Aj,PG,Du,Ao]
   .have u:hasB r.ec.be i=T:=by cases u:hasB r.ec.be i with|false=>rfl|true=>exact absurd (Aj.1 u) hi
    rw [u,Ne a_,AD e o,bs,AD he.2.1.1 U,bs,AD he.2.2.1 U,bs,AV (by unfold PG;simp;unfold AX;omega),bs];unfold PG;rw[Du _ _ e,QQ hi,Ao an an,ae];rfl
  .rw[QQ V]
 .unfold Nc OU;simp[AJ]
 .intro i e o;have D:=K6 (l:=r.ec.az) e;have y:=AG e o;have z:=h.kind _ y;have P:=rx h y;rw[Ne d!,WJ,bs];by_cases hi:i∈r.ec.az
  .grind[Aj,Nc,OU,Du,Ao]
  .have u:hasB r.ec.az i=T:=by cases u:hasB r.ec.az i with|false=>rfl|true=>exact absurd (Aj.1 u) hi
   rw [u,QQ a_,AD e o,bs,AV (by unfold Nc;simp;unfold AX;omega),bs,bs,Q0 h.hf,KA h.hv z.1 z.2,bs];simp;rw[TP (F:=λa=>a.Low) λj s G H I=>?_]
   .rw[bs,AV (by unfold OU;simp;unfold AX;omega),bs];unfold Nc OU;rw[Du _ _ e,QQ hi,Du _ _ e,QQ hi,Ao U U,ae,ae];rfl
   grind [AD,AV,AX]
 .rw[QQ V]
theorem sJ(hf:Ap t)(hv:(Az t).2=0){k:Int}(e:0<=k)(b:k<t.az.length):KZ t k=Y (Wo t k):=by
 have:=Iv hf (E_ _) (Cg hv).par b;unfold KZ;rw[Sr hf,KA hv e b,bs];simp;rw[TP (F:=λa=>a.Low) λj s o u w=>?_]
 .rfl
 grind [AD,AV,AX]
structure aT(h:AH)(d:Bo):Prop where
 sm:N8 h
 len:h.d5.length=h.bi.az.length
 ci:(∀x∈d.az,0<=x/\x<h.bi.az.length)/\d.az.length<=1000
 c8:(∀x∈d.be,0<=x/\x<h.bi.be.length)/\d.be.length<=1000
 ends:∀e∈h.bi.be,(0≤e.fb/\e.fb<h.bi.az.length)/\0≤e.To/\e.To<h.bi.az.length
variable{h:AH}{d:Bo}
theorem Z1(hd:aT h d):N8 (CO h d):=by
 have e:=hd.ci.2;have j:=hd.c8.2;refine⟨by unfold CO;simp;omega,by unfold CO;simp;omega,by unfold CO;simp;omega,λv hv=>?_⟩;obtain⟨x,b,rfl⟩:=w?.1 hv;have:=hd.ci.1 x b;exact hd.sm.rows _ (AG this.1 (by rw[hd.len];exact this.2))
variable{R:d3}{M:AT}{C:bk}
theorem sF(s:XJ t R C)(hd:aT h d)(H:C.be.length=R.ca.bi.be.length)
  (y:∀i:Int,0<=i->i<R.ca.bi.az.length->(AA C.az i=d.az.length+(AJ R.ec.az i).length↔i∉R.ec.az))
  (z:∀i:Int,0<=i->i<R.ca.bi.be.length->(AA C.be i=d.be.length+(AJ R.ec.be i).length↔i∉R.ec.be)):
  JI t (BG.mk R M h (AH.mk (bi.mk [] []) []) (GJ h d) C) d=Y (BG.mk R M h (DD t R (CO h d) C) (GJ h d) C):=by
 have I:=hd.ci.2;have J:=hd.c8.2;have K:=s.g.ci;have N:=s.g.c8;have F:=s.cn;unfold JI;simp only[];rw[BZ (λi=>BG.mk R M h (AH.mk (bi.mk ((d.az.take i.toNat).map (AA h.bi.az)) []) ((d.az.take i.toNat).map (AA h.d5))) (GJ h d) C) U V]
 rotate_left
 .intro i b j;have o:=hd.ci.1 _ (AG b j);have u:=hd.len;have D:=hd.sm.rows _ (AG o.1 U);rw[AD b j,bs,AD o.1 o.2,bs,AV a!,bs,AD o.1 U,bs,BM a?,bs,AV a!,bs,If b j,If b j]
 rw [bs,D',z!];rw[BZ (λi=>BG.mk R M h (AH.mk (bi.mk (d.az.map (AA h.bi.az)) ((d.be.take i.toNat).map λx=>RH (GJ h d).az (AA h.bi.be x))) (d.az.map (AA h.d5))) (GJ h d) C) U V]
 rotate_left
 .intro i b j;have o:=hd.c8.1 _ (AG b j);have he:=hd.ends _ (AG o.1 o.2);have u:(GJ h d).az.length=h.bi.az.length:=N5 _ _;simp only[];rw[AD b j,bs,AD o.1 o.2,bs,AD he.1.1 U,bs,AD he.2.1 U,bs,AV a!,bs,If b j];rfl
 rw [bs,D',z!];rw[BZ (λi=>BG.mk R M h (AH.mk (bi.mk (Nc R (CO h d) i) (CO h d).bi.be) (OU t R (CO h d) i)) (GJ h d) C) U (by unfold Nc OU;simp[AJ,CO])]
 rotate_left
 .intro i b j;have D:=K6 (l:=R.ec.az) b;have G:=AG b j;have E:=s.kind _ G;have u:(Nc R (CO h d) i).length=d.az.length+(AJ R.ec.az i).length:=by unfold Nc CO;simp
  have w:(OU t R (CO h d) i).length=d.az.length+(AJ R.ec.az i).length:=by unfold OU CO;simp
  simp only[u];rw[AD b j,bs,AD b U,bs];by_cases hi:i∈R.ec.az
  .rw[QQ (by rw[pE];push_cast;exact λe=>(y i b j).1 e hi)];unfold Nc OU;rw[Du _ _ b,Ne hi,B_,Du _ _ b,Ne hi,B_]
  .rw[Ne (by rw[pE];push_cast;exact(y i b j).2 hi),AV (by rw[u];simp;unfold AX;omega),bs,sJ s.hf s.hv E.1 E.2,bs,AV (by rw[w];simp;unfold AX;omega),bs];unfold Nc OU;rw[Du _ _ b,QQ hi,Du _ _ b,QQ hi,ae,ae]
 rw [bs];rw[BZ (λi=>BG.mk R M h (AH.mk (bi.mk (Nc R (CO h d) R.ca.bi.az.length) (PG R C (CO h d) i)) (OU t R (CO h d) R.ca.bi.az.length)) (GJ h d) C) U (by unfold PG;simp[AJ,CO])]
 rotate_left
 .intro i b j;have D:=K6 (l:=R.ec.be) b;have he:=s.g.fit _ (AG b j);have u:(PG R C (CO h d) i).length=d.be.length+(AJ R.ec.be i).length:=by unfold PG CO;simp
  simp only[u];rw[AD b j,bs,AD b U,bs];by_cases hi:i∈R.ec.be
  .rw[QQ (by rw[pE];push_cast;exact λe=>(z i b j).1 e hi)];unfold PG;rw[Du _ _ b,Ne hi,B_]
  .rw[Ne (by rw[pE];push_cast;exact(z i b j).2 hi),AD he.2.1.1 U,bs,AD he.2.2.1 U,bs,AV (by rw[u];simp;unfold AX;omega),bs];unfold PG;rw[Du _ _ b,QQ hi,ae];rfl
 rw [bs];rfl
theorem eW(hf:Ap t)(hh:(Br t h).2=0)(u:EC h.bi d=0)(hd:aT h d):Kk t h d=Y (CO h d,0):=by
 have w:=hd.ci.2;unfold Kk;rw[YI hf,bs,QQ t?,Zt ⟨hd.ci.2,hd.c8.2⟩,QQ g!,bs,QQ V];have e:MR h.bi d=(CO h d).bi:=by
  unfold MR CO;congr 1;refine A! λx j=>?_;have j:=hd.c8.1 x j;have he:=hd.ends _ (AG j.1 j.2)
  grind [RH,GJ,Nh]
 simp;rw[QS (λi=>AH.mk (MR h.bi d) ((d.az.take i.toNat).map (AA h.d5))) (a:=0) (b:=d.az.length) U V]
 .rw[D',z!,B0,e];rfl
 .intro i s o;have j:=hd.ci.1 _ (AG s o);have y:=hd.len;have z:=hd.sm.rows _ (AG j.1 U);rw[Ne d!,AD s o,bs,AD j.1 U,bs,BM a?,bs,AV a!,bs,If s o,Ao an an]
 .rw[QQ V]
end Go.Sf.Sc
namespace Go.Sf.Sc
open Go Go.Sf
def R8(c:bk)(vars:Fp)(s:DN):(Int×Int)×Int:=((AA c.az s.kp,s.ff),DK s.ew vars)
def B7(r:d3)(c:bk)(vars:Fp):BW:=r.ca.d4.map (R8 c vars)
def NZ(t:AC)(x:AH)(p:(Int×Int)×Int):Bool:=
 decide (p.2<(AA (A3 t (AA x.bi.az p.1.1)) p.1.2).Low)||decide ((AA (A3 t (AA x.bi.az p.1.1)) p.1.2).z5<p.2)
structure Vb(t:AC)(r:d3)(c:bk)(vars:Fp)(x:AH):Prop where
 hf:Ap t
 hv:(Az t).2=0
 few:r.ca.d4.length<=1000
 fewv:vars.length<=1000
 slot:∀s∈r.ca.d4,(0<=s.kp/\s.kp<c.az.length)/\(-1<=s.ew.Var/\s.ew.Var<vars.length)/\
  (0<=AA c.az s.kp/\AA c.az s.kp<x.bi.az.length)/\(0<=s.ff/\s.ff<(A3 t (AA x.bi.az (AA c.az s.kp))).length)
 kind:∀n∈x.bi.az,0<=n/\n<t.az.length
 vlen:x.d5.length=x.bi.az.length
 rows:∀i:Int,0<=i->i<x.bi.az.length->(AA x.d5 i).length=(A3 t (AA x.bi.az i)).length
variable{L:BW}{i:Int}
theorem iT(b:0<=i)(e:i<=L.length)(h:∀j,0<=j->j<i->fu (λk=>decide ((AA L k).1=(AA L j).1)&&!decide ((AA L k).2=(AA L j).2)) 0 j=T):S3 (L.take i.toNat):=by grind[ZD,Pc,Bg,aN,XR,Qu]
def Wc(L:BW)(i:Int):Bool:=fu (λk=>decide ((AA L k).1=(AA L i).1)&&!decide ((AA L k).2=(AA L i).2)) 0 i
theorem nZ(H:0<=i)(I:i<L.length)(w:S3 (L.take i.toNat)):
  (((Qa (L.take i.toNat)).look (AA L i).1).isSome&&(!decide (((Qa (L.take i.toNat)).look (AA L i).1).getD 0=(AA L i).2)))=Wc L i:=by
 obtain ⟨J,z,K⟩:=fl _ w;unfold Wc;cases y:(Qa (L.take i.toNat)).look (AA L i).1 with
 |none=>
  rw [Option.isSome_none,C!];refine Eq.symm (Bg.2 λk s u=>?_);have o:AA L k∈L.take i.toNat:=by
   rw [<-Qu (n:=i.toNat) U]
   grind [AG,aN]
  rw [decide_eq_false (Zk y _ ((z _).2 o)),C!]
 |some v=>
  have o:=(z _).1 (Uf y);rw[Option.isSome_some,B!,Option.getD_some];have b:∀k,0<=k->k<i->(AA L k).1=(AA L i).1->(AA L k).2=v:=λk s u e=>by
   have E:AA L k∈L.take i.toNat:=by
    rw [<-Qu (n:=i.toNat) U]
    grind [AG,aN]
   exact w _ E _ o e
  obtain ⟨k,s,u,D⟩:=BC o;rw[aN]at u;rw[Qu U]at D;rw[C_,Dn];constructor
  .intro h;refine⟨k,s,U,?_⟩;rw[D,decide_eq_true rfl,B!];exact h
  .rintro⟨j,F,G,h⟩;rw[gN,pE]at h;rw[<-b j F G h.1];exact h.2
theorem PV(r:d3)(c:bk)(vars:Fp)(b:0<=i)(e:i<r.ca.d4.length):AA (B7 r c vars) i=R8 c vars (AA r.ca.d4 i):=OB b e
theorem KX(r:d3)(c:bk)(vars:Fp):(B7 r c vars).length=r.ca.d4.length:=a6 ..
theorem bc(L:BW){ρ:Type}(v:ρ):fst (λi=>if Wc L i=X then Y v else W) 0 L.length=if Pc L=X then Y v else W:=Nq
variable{t:AC}{R:d3}{M:AT}{B A:AH}{θ C:bk}
theorem jJ(h:Vb t R C M.eg A):Il (BG.mk R M B A θ C)=Y (if Pc (B7 R C M.eg)=X then([],11)else(Qa (B7 R C M.eg),0)):=by
 unfold Il;simp only[];rw[ML (a:=0) (s:=([]:BW)) (λi=>Qa ((B7 R C M.eg).take i.toNat)) (λi=>if Wc (B7 R C M.eg) i=X then Y ([],11)else W) U rfl]
 .have:=bc (B7 R C M.eg) (([],11):BW×Int);rw[KX]at this;rw[this];by_cases e:Pc (B7 R C M.eg)=X
  .rw[Ne e,Ne e];rfl
  .rw[QQ e,QQ e,<-KX R C M.eg,D',z!];rfl
 .intro i b o D;have u:=h.slot _ (AG b o);have E:S3 ((B7 R C M.eg).take i.toNat):=iT b (by rw[KX];omega) λj y z=>by
   have:=D j y z;split at this
   .cases this
   next e=>exact C?.2 e
  have w:=nZ (L:=B7 R C M.eg) b (by rw[KX];exact o) E;rw[AD b o,bs,ce u.2.1.1 u.2.1.2 h.fewv,bs,QQ V,AD u.1.1 u.1.2,bs];rw[PV R C M.eg b o]at w;simp[R8]at w;simp only[];by_cases e:Wc (B7 R C M.eg) i=X
  .refine(Ne (w.trans e)).trans ?_;rw[Ne e];rfl
  .refine(QQ (λh=>e (w.symm.trans h))).trans ?_;rw[QQ e,CP b (by rw[KX];exact o),cR,PV R C M.eg b o];rfl
variable{α:Type}
theorem ft{f:α->I1}{g:α->Bool}:∀{l:List α},(∀p∈l,f p=Y (g p))->Aaz f l=Y (l.all g)
 |[],_=>rfl|p::r,h=>by
  unfold Aaz;rw[h p List.mem_cons_self,bs,ft λq b=>h q (x_ _ b),bs,List.all_cons]
variable{r:d3}{c:bk}{x:AH}
theorem dU{vars:Fp}(h:Vb t r c vars x){s:DN}(w:s∈r.ca.d4){κ:List Fp}(y:Nj κ x.d5):
  idx κ (AA c.az s.kp)=Y (AA κ (AA c.az s.kp))/\idx (AA κ (AA c.az s.kp)) s.ff=Y (AA (AA κ (AA c.az s.kp)) s.ff):=by
 have j:=h.slot s w;have hv:=h.vlen;have F:=h.rows _ j.2.2.1.1 j.2.2.1.2;have z:idx x.d5 (AA c.az s.kp)=Y (AA x.d5 (AA c.az s.kp)):=AD j.2.2.1.1 U;have D:idx (AA x.d5 (AA c.az s.kp)) s.ff=Y (AA (AA x.d5 (AA c.az s.kp)) s.ff):=AD j.2.2.2.1 U;obtain⟨E,x',a,b⟩:=y.idx z D;have o:=GY a;have u:=GY b;have G:=(B'.1 o.2.2).1;have e:AA κ (AA c.az s.kp)=E:=by
  grind [AD,Option.some.inj]
 have H:=(B'.1 u.2.2).1;refine⟨AD o.1 U,?_⟩;rw[e];exact AD u.1 U
theorem ni(h:Vb t R C M.eg A){p:(Int×Int)×Int}(o:p∈B7 R C M.eg):Pf t (BG.mk R M B A θ C) p=Y (!NZ t A p):=by
 obtain ⟨s,j,rfl⟩:=w?.1 o;have b:=h.slot s j;have e:=h.kind _ (AG b.2.2.1.1 b.2.2.1.2);obtain⟨u,w⟩:=dU h j (κ:=A.d5) rfl;unfold Pf Pe R8 NZ;simp;rw[AD b.2.2.1.1 b.2.2.1.2,bs,Sr h.hf,KA h.hv e.1 e.2,bs];simp;simp[AD b.2.2.2.1 b.2.2.2.2,u,w,Vq]
 grind
def Hn(t:AC)(x:AH)(L:BW):AH×Int:=
 if Pc L=X then(⟨⟨[],[]⟩,[]⟩,11)else if L.any (NZ t x)=X then(⟨⟨[],[]⟩,[]⟩,6)else(⟨x.bi,L.foldl Cl x.d5⟩,0)
theorem vD(h:Vb t R C M.eg A):L8 t (BG.mk R M B A θ C)=Y ((Hn t A (B7 R C M.eg)).2,if(Hn t A (B7 R C M.eg)).2=0 then BG.mk R M B (Hn t A (B7 R C M.eg)).1 θ C else BG.mk R M B A θ C):=by
 unfold L8 Hn;rw[jJ h,bs];by_cases e:Pc (B7 R C M.eg)=X
 .grind
 .rw[QQ e,QQ V,QQ e];obtain⟨o,s,u⟩:=fl _ (ZD (C?.2 e));have j:Aaz (Pf t (BG.mk R M B A θ C)) (Qa (B7 R C M.eg))=Y (!(B7 R C M.eg).any (NZ t A)):=by
   rw [ft (g:=λp=>!NZ t A p) λp b=>ni h ((s p).1 b)]
   grind
  rw [Ne (by simpa using(show List.Pairwise (λx y:(Int×Int)×Int=>x.1≠y.1) _ from o)),j,bs]
  grind [B7,NZ,Ot]
theorem zA{vars:Fp}(h:Vb t r c vars x):N0 t r x c vars=Y (Hn t x (B7 r c vars)):=by
 unfold N0 Hn;rw[ML (a:=0) (s:=AH.mk (bi.mk [] []) []) (λ_=>AH.mk (bi.mk [] []) []) (λi=>if Wc (B7 r c vars) i=X then Y (AH.mk (bi.mk [] []) [],(11:Int))else W) U rfl]
 .have:=bc (B7 r c vars) ((AH.mk (bi.mk [] []) [],(11:Int)));rw[KX]at this;rw[this];by_cases e:Pc (B7 r c vars)=X
  .rw[Ne e,Ne e];rfl
  rw [QQ e,QQ e];show d6 (Y (Sum.inl _)) _ _=_;rw[B0,ML (a:=0) (s:=(x,AH.mk (bi.mk [] []) [])) (λi=>(AH.mk x.bi (((B7 r c vars).take i.toNat).foldl Cl x.d5),AH.mk (bi.mk [] []) [])) (λi=>if NZ t x (AA (B7 r c vars) i)=X then Y (AH.mk (bi.mk [] []) [],(6:Int))else W) U rfl]
  .have:=fY (l:=B7 r c vars) (q:=NZ t x) (v:=(AH.mk (bi.mk [] []) [],(6:Int)));rw[KX]at this;rw[this];by_cases j:(B7 r c vars).any (NZ t x)=X
   .rw[Ne j,Ne j];rfl
   .rw[QQ j,QQ j];show Y (AH.mk x.bi (((B7 r c vars).take (r.ca.d4.length:Int).toNat).foldl Cl x.d5),(0:Int))=_
    grind [KX,D',z!]
  .intro i o u _;have D:=AG o u;have b:=h.slot _ D;have w:=h.kind _ (AG b.2.2.1.1 b.2.2.1.2);obtain⟨F,G⟩:=dU h D (κ:=((B7 r c vars).take i.toNat).foldl Cl x.d5) (nq _ _);simp only[AD o u,bs];rw[PQ b.2.1.1 b.2.1.2,bs,AD b.1.1 b.1.2,bs,AD b.2.2.1.1 b.2.2.1.2,bs,Q0 h.hf,KA h.hv w.1 w.2,bs];simp only[];rw[AD b.2.2.2.1 b.2.2.2.2,bs,bs,Vq,bs,F,bs,G,bs];rw[PV r c vars o u,CP o (by rw[KX];exact u),x!,PV r c vars o u];show(if(NZ t x (R8 c vars (AA r.ca.d4 i)))=X then _ else _)=_;by_cases j:NZ t x (R8 c vars (AA r.ca.d4 i))=X
   .rw[Ne j,Ne j];rfl
   .rw[QQ j,QQ j];have:=bv (p:=R8 c vars (AA r.ca.d4 i)) F G;exact congrArg (λη=>Y (B2.next (σ:=AH×AH) (ρ:=AH×Int) (AH.mk x.bi η,AH.mk (bi.mk [] []) []))) this
 .intro i o u _;have b:=h.slot _ (AG o u);rw[AD o u,bs,PQ b.2.1.1 b.2.1.2,bs];rw[ML (a:=0) (s:=AH.mk (bi.mk [] []) []) (λ_=>AH.mk (bi.mk [] []) []) (λk=>if(decide ((AA (B7 r c vars) k).1=(AA (B7 r c vars) i).1)&&!decide ((AA (B7 r c vars) k).2=(AA (B7 r c vars) i).2))=X then Y (AH.mk (bi.mk [] []) [],(11:Int))else W) o rfl]
  .rw[Nq];unfold Wc;split<;>rfl
  .intro k y I _;have w:=h.slot _ (AG y (show k<r.ca.d4.length by omega));simp[AD o u,AD y (show k<r.ca.d4.length by omega)];rw[PQ w.2.1.1 w.2.1.2,bs,AD w.1.1 w.1.2,bs,AD b.1.1 b.1.2,bs,PV r c vars o u,PV r c vars y U];simp[R8];by_cases E:AA c.az (AA r.ca.d4 k).kp=AA c.az (AA r.ca.d4 i).kp<;>by_cases j:(AA r.ca.d4 k).ff=(AA r.ca.d4 i).ff<;>by_cases z:DK (AA r.ca.d4 i).ew vars=DK (AA r.ca.d4 k).ew vars
   all_goals first|(have H:¬DK (AA r.ca.d4 k).ew vars=DK (AA r.ca.d4 i).ew vars:=λh=>z h.symm;simp[E,j,z,H,mV];done)|(simp[E,j,z,mV];done)
end Go.Sf.Sc
namespace Go.Sf.Sc
open Go Go.Sf
variable{t:AC}{r:d3}
theorem Qp(h:E0 t r=0):Hk t r.d7=0/\Ko t r=0/\NM t r.d7 r.bq=0:=by grind[E0]
theorem ee(h:Ko t r=0):r.ca.eg=r.d7.eg/\r.ca.d4.length<=10/\∀i:Int,0<=i->i<r.ca.d4.length->Pt t r.ca i=0:=by
 unfold Ko at h;split at h
 .omega
 split at h
 .cases h
 split at h
 .cases h
 split at h
 .cases h
 rename_i b e j o;exact⟨U,U,Si h⟩
variable{i:Int}
theorem jf{p:cE}(h:Pt t p i=0):(0<=(AA p.d4 i).kp/\(AA p.d4 i).kp<p.bi.az.length)/\
  (0<=(AA p.d4 i).ff/\(AA p.d4 i).ff<(Gz t (AA p.bi.az (AA p.d4 i).kp)).1.length)/\-1<=(AA p.d4 i).ew.Var/\(AA p.d4 i).ew.Var<p.eg:=by
 unfold Pt at h;dsimp only at h;split at h
 .cases h
 split at h
 .cases h
 rename_i e b;simp[pE]at b;omega
structure Hr(t:AC)(r:d3)(h:AH)(m:AT):Prop where
 hf:Ap t
 fr:Df r
 re:E0 t r=0
 he:(Br t h).2=0
 at_:XH t r.d7 h m
 co:aq (I5 r.d7.bi h.bi m.bk) h.bi r.kg m.bk
abbrev dS(r:d3)(h:AH)(m:AT):Bo:=KS h.bi r.kg m.bk
abbrev cS(r:d3)(h:AH)(m:AT):bk:=cmS r h m.bk (dS r h m)
variable{h:AH}{m:AT}
theorem Hr.hv(s:Hr t r h m):(Az t).2=0:=(Q2 s.re).1
theorem Hr.ro(s:Hr t r h m):SS t r:=(Q2 s.re).2
theorem Hr.hh(s:Hr t r h m):Io t h:=(FU s.hf s.he).2
theorem Xq(hf:Ap t)(hv:(Az t).2=0)(hh:Io t h):N8 h:=by
 have j:=hh.g.ci;have o:=hh.g.c8;have s:=hh.len;refine⟨U,U,U,λv b=>?_⟩;obtain⟨i,e,y,rfl⟩:=BC b;have u:=hh.row i e U;have w:=Iv hf (E_ _) (Cg hv).par (hh.kind i e U).2;omega
theorem Hr.rem(s:Hr t r h m):aT h (dS r h m):=by
 have hh:=s.hh;have j:=hh.g.ci;have o:=hh.g.c8;have l1:=Hy (EW m.bk.az r.kg.az) h.bi.az.length;have l2:=Hy (EW m.bk.be r.kg.be) h.bi.be.length;exact⟨Xq s.hf s.hv hh,hh.len,⟨λx b=>CL b,by show(AJ _ _).length<=1000;omega⟩,⟨λx b=>CL b,by show(AJ _ _).length<=1000;omega⟩,λe he=>(hh.g.fit e he).2⟩
theorem Hr.part(s:Hr t r h m):EC h.bi (dS r h m)=0:=by
 unfold EC;rw[QQ (by simp[s.hh.ge])];exact mL s.co
variable{count n:Nat}
theorem kK{ei into images:Fp}{BH:Fp}(few:count<=1000)(nodup:into.Nodup)(len:into.length=ei.length)(inn:∀x∈into,0<=x/\x<count)
  (kin:∀x∈ei,0<=x/\x<images.length)(j:∀x∈images,0<=x/\x<n)(hi:Aag images ei=T)(o:BH=EW images ei):
  VY count ei into (images.map (AA (Gb n (AJ BH n))))/\(∀x∈ei,AA (images.map (AA (Gb n (AJ BH n)))) x<(AJ BH n).length)/\
  ∀x∈ei,AA (images.map (AA (Gb n (AJ BH n)))) x=A8 (AJ BH n) (AA images x)/\AA images x∈AJ BH n:=by
 have e:∀x∈ei,AA (images.map (AA (Gb n (AJ BH n)))) x=A8 (AJ BH n) (AA images x)/\AA images x∈AJ BH n:=λx b=>by
  grind [AG,OB,Nh,Ol,Ue]
 refine ⟨⟨few,nodup,len,inn,λx b=>by rw[a6];exact kin x b,λx b=>?_⟩,λx b=>?_,e⟩
 .rw[(e x b).1];exact OP.2 (e x b).2
 .rw[(e x b).1];exact(Vi _ _).2
theorem Hr.left(s:Hr t r h m):m.bk.az.length=r.d7.bi.az.length/\m.bk.be.length=r.d7.bi.be.length:=⟨s.at_.m.t2,s.at_.m.x4⟩
theorem Hr.AbS(s:Hr t r h m):VY r.ca.bi.az.length r.kg.az r.ec.az (m.bk.az.map (AA (GJ h (dS r h m)).az))/\
  (∀x∈r.kg.az,AA (m.bk.az.map (AA (GJ h (dS r h m)).az)) x<(dS r h m).az.length)/\
  ∀x∈r.kg.az,AA (m.bk.az.map (AA (GJ h (dS r h m)).az)) x=A8 (dS r h m).az (AA m.bk.az x)/\AA m.bk.az x∈(dS r h m).az:=by
 have ro:=s.ro;have o:=ro.right.ci;refine kK U ro.inj.1 ?_ (λx b=>?_) (λx b=>?_) (λx b=>?_) s.co.ci rfl
 .have:=ro.mor.t2;rw[this];exact a6 ..
 .obtain⟨i,e,j,rfl⟩:=BC b;exact(ro.mor.node i e j).1
 .have:=ro.part.ci.1 x b;have:=s.left.1;omega
 .obtain⟨i,e,j,rfl⟩:=BC b;exact(s.at_.m.node i e j).1
theorem Hr.AbZ(s:Hr t r h m):VY r.ca.bi.be.length r.kg.be r.ec.be (m.bk.be.map (AA (GJ h (dS r h m)).be))/\
  (∀x∈r.kg.be,AA (m.bk.be.map (AA (GJ h (dS r h m)).be)) x<(dS r h m).be.length)/\
  ∀x∈r.kg.be,AA (m.bk.be.map (AA (GJ h (dS r h m)).be)) x=A8 (dS r h m).be (AA m.bk.be x)/\AA m.bk.be x∈(dS r h m).be:=by
 have ro:=s.ro;have o:=ro.right.c8;refine kK U ro.inj.2 ?_ (λx b=>?_) (λx b=>?_) (λx b=>?_) s.co.c8 rfl
 .have:=ro.mor.x4;rw[this];exact a6 ..
 .obtain⟨i,e,j,rfl⟩:=BC b;exact(ro.mor.edge i e j).1
 .have:=ro.part.c8.1 x b;have:=s.left.2;omega
 .obtain⟨i,e,j,rfl⟩:=BC b;exact s.at_.m.edge i e j
theorem fK{ei into at_:Fp}(h:VY count ei into at_)(b:∀x∈ei,AA at_ x<n)(j:0<=i)(o:i<count):AA (UQ count ei into at_ n) i=n+(AJ into i).length↔i∉into:=by
 rw [ba j o];constructor
 .intro e hi;rw[Sa hi]at e;have s:=Bn hi;have:=b _ (AG (l:=ei) s.1 v_);omega
 .exact TC
theorem Hr.grow(s:Hr t r h m):XJ t r (cS r h m):=
 ⟨s.hf,s.hv,s.ro.right,(Cu s.ro.right s.ro.Aal).1,Ye _ _ _ _ _⟩
theorem WM(l:Fp)(b:0<=i):∀(k:Nat),∃s,AJ l (i+k)=AJ l i++s
 |0=>⟨[],V⟩|k+1=>by
  obtain ⟨s,e⟩:=WM l b k
  grind [JC,ae]
variable{l:Fp}
theorem IP{i n:Int}(b:0<=i)(j:i<n)(h:i∉l):AA (AJ l n) (AJ l i).length=i/\((AJ l i).length:Int)<(AJ l n).length:=by
 obtain ⟨s,e⟩:=WM l (i:=i+1) U (n-(i+1)).toNat
 rw [show i+1+((n-(i+1)).toNat:Int)=n by omega,JC l b]at e
 grind [hasB,Aj,AA]
variable{α:Type}
theorem Ec[Inhabited α]{l m:List α}(b:0<=i)(e:i<l.length):AA (l++m) i=AA l i:=by grind[Gy]
theorem Mu[Inhabited α]{l m:List α}:AA (l++m) (l.length+n:Int)=AA m n:=by grind[Gy,AA,D']
variable{a:Int}
theorem Wn(h:0<=a):isB t a a=X:=by
 unfold isB;rw[show(a+1).toNat=a.toNat+1 by omega,Gc,QQ U];simp
theorem Hr.AbD(s:Hr t r h m)(u:0<=i)(w:i<r.ca.bi.az.length):
  (0<=AA (cS r h m).az i/\AA (cS r h m).az i<(DD t r (CO h (dS r h m)) (cS r h m)).bi.az.length)/\
  AA (DD t r (CO h (dS r h m)) (cS r h m)).bi.az (AA (cS r h m).az i)<t.az.length/\isB t (AA (DD t r (CO h (dS r h m)) (cS r h m)).bi.az (AA (cS r h m).az i)) (AA r.ca.bi.az i)=X:=by
 obtain ⟨G,N,c3⟩:=s.AbS;have H:AA (cS r h m).az i=O8 r.kg.az r.ec.az (m.bk.az.map (AA (GJ h (dS r h m)).az)) (dS r h m).az.length i:=ba u w;have el:(DD t r (CO h (dS r h m)) (cS r h m)).bi.az=(dS r h m).az.map (AA h.bi.az)++(EF r).map (AA r.ca.bi.az):=rfl;rw[H,el,aE,a6,a6];by_cases hi:i∈r.ec.az
 .have b:=Bn hi;have O:=G.len;have j:=AG (l:=r.kg.az) b.1 U;have D:=c3 _ j;have E:=N _ j;have y:=G.pos _ j;rw[Sa hi];refine⟨⟨y,by push_cast;omega⟩,?_⟩;rw[Ec y (by rw[a6];exact E),OB y E,D.1,(Bn D.2).2.2.1];have o:=s.ro.part.ci.1 _ j;have I:=s.left.1;have z:=s.at_.m.node _ o.1 U;have J:=s.hh.kind _ z.1.1 z.1.2;have F:=s.ro.mor.node _ b.1 b.2.1;rw[b.2.2.1]at F;have K:AA (MR r.d7.bi r.kg).az (A8 r.ec.az i)=AA r.d7.bi.az (AA r.kg.az (A8 r.ec.az i)):=OB b.1 U;rw[F.2,K];exact⟨J.2,z.2⟩
 .have o:=IP u w hi;rw[TC hi];have e:((dS r h m).az.map (AA h.bi.az)).length=(dS r h m).az.length:=a6 ..;refine⟨⟨U,?_⟩,?_⟩
  .have:((EF r).length:Int)=(AJ r.ec.az r.ca.bi.az.length).length:=rfl
   push_cast
   omega
  .rw[<-e,Mu,show EF r=AJ r.ec.az r.ca.bi.az.length from rfl,OB U o.2];show AA r.ca.bi.az (AA (AJ r.ec.az r.ca.bi.az.length) (AJ r.ec.az i).length)<(t.az.length:Int)/\isB t (AA r.ca.bi.az (AA (AJ r.ec.az r.ca.bi.az.length) (AJ r.ec.az i).length)) _=X;rw[o.1];have:=(Cu s.ro.right s.ro.Aal).1 _ (AG u w);exact⟨this.2,Wn this.1⟩
theorem Hr.rows(s:Hr t r h m):(DD t r (CO h (dS r h m)) (cS r h m)).d5.map (λv=>v.length)=(DD t r (CO h (dS r h m)) (cS r h m)).bi.az.map λn=>(A3 t n).length:=by
 show (List.map _ (_++_))=List.map _ (_++_);rw[A',A'];congr 1
 .show((dS r h m).az.map (AA h.d5)).map _=((dS r h m).az.map (AA h.bi.az)).map _;rw[y_,y_];refine A! λx b=>?_;have b:=s.rem.ci.1 x b;exact s.hh.row x b.1 b.2
 grind [y_,A!,Wo,a6]
theorem Hr.put(s:Hr t r h m):Vb t r (cS r h m) m.eg (DD t r (CO h (dS r h m)) (cS r h m)):=by
 obtain ⟨P,H,Q⟩:=Qp s.re;obtain⟨hv,S,z⟩:=ee H;have K:=s.at_.q.vars;have D:=s.at_.len;have w:=s.rows;have y:(DD t r (CO h (dS r h m)) (cS r h m)).d5.length=(DD t r (CO h (dS r h m)) (cS r h m)).bi.az.length:=by
  grind [List.length,a6]
 refine ⟨s.hf,s.hv,U,U,λx b=>?_,λn e=>?_,y,λi j u=>?_⟩
 .obtain⟨i,j,u,rfl⟩:=BC b;obtain⟨o,I,ε⟩:=jf (z i j u);have E:=(Cu s.ro.right s.ro.Aal).1 _ (AG o.1 o.2);rw[KA s.hv E.1 E.2]at I;obtain⟨κ,J,F⟩:=s.AbD o.1 o.2;replace F:=Zh (Cg s.hv) J F;have G:(cS r h m).az.length=r.ca.bi.az.length:=Ye _ _ _ _ _
  grind
 .have e:n∈(dS r h m).az.map (AA h.bi.az)++(EF r).map (AA r.ca.bi.az):=e;rcases List.mem_append.1 e with e|e
  .obtain⟨x,b,rfl⟩:=w?.1 e;have b:=s.rem.ci.1 x b;exact s.hh.kind x b.1 b.2
  .obtain⟨x,b,rfl⟩:=w?.1 e;have b:=CL b;exact(Cu s.ro.right s.ro.Aal).1 _ (AG b.1 b.2)
 .have N:=OB (l:=(DD t r (CO h (dS r h m)) (cS r h m)).d5) (g:=λv=>v.length) j U;have O:=OB (l:=(DD t r (CO h (dS r h m)) (cS r h m)).bi.az) (g:=λn=>(A3 t n).length) j u
  grind
end Go.Sf.Sc
namespace Go.Sf.Sc
open Go Go.Sf
abbrev z6:d3:=d3.mk (⟨#[]⟩:ByteArray) (cE.mk (bi.mk [] []) [] 0 []) (cE.mk (bi.mk [] []) [] 0 []) (Bo.mk [] []) (bk.mk [] []) T (bq.mk 0 [] (bk.mk [] []) (cE.mk (bi.mk [] []) [] 0 []))
abbrev zG:BG:=BG.mk z6 (AT.mk (bk.mk [] []) []) (AH.mk (bi.mk [] []) []) (AH.mk (bi.mk [] []) []) (bk.mk [] []) (bk.mk [] [])
def Vj(t:AC)(r:d3)(h:AH)(m:AT):BG×Int:=
 if (Hn t (DD t r (CO h (dS r h m)) (cS r h m)) (B7 r (cS r h m) m.eg)).2≠0 then(zG,(Hn t (DD t r (CO h (dS r h m)) (cS r h m)) (B7 r (cS r h m) m.eg)).2)else
 if 40<(Hn t (DD t r (CO h (dS r h m)) (cS r h m)) (B7 r (cS r h m) m.eg)).1.bi.az.length\/80<(Hn t (DD t r (CO h (dS r h m)) (cS r h m)) (B7 r (cS r h m) m.eg)).1.bi.be.length then(zG,3)else
 (BG.mk r m h (Hn t (DD t r (CO h (dS r h m)) (cS r h m)) (B7 r (cS r h m) m.eg)).1 (GJ h (dS r h m)) (cS r h m),0)
noncomputable def Fy(t:AC)(r:d3)(h:AH)(m:AT):BG×Int:=
 if E0 t r≠0 then(zG,E0 t r)else if(Br t h).2≠0 then(zG,(Br t h).2)else
 if Ei t r.d7.bi h.bi m.bk r.fd≠0 then(zG,1)else
 if (Fm t r.d7 h m.bk).2≠0 then(zG,(Fm t r.d7 h m.bk).2)else if¬(Fm t r.d7 h m.bk).1=m.eg then(zG,11)else
 if (MG (I5 r.d7.bi h.bi m.bk) h.bi r.kg m.bk).2≠0 then(zG,(MG (I5 r.d7.bi h.bi m.bk) h.bi r.kg m.bk).2)else
 if (L5 t r.d7 r.bq h m r.fd).2≠0 then(zG,(L5 t r.d7 r.bq h m r.fd).2)else
 if (L5 t r.d7 r.bq h m r.fd).1=T then(zG,16)else Vj t r h m
variable{t:AC}{r:d3}{h:AH}{m:AT}
theorem Ve(b:E0 t r=0)(e:(Br t h).2=0)(j:Ei t r.d7.bi h.bi m.bk r.fd=0)(o:(Fm t r.d7 h m.bk).2=0)(s:(Fm t r.d7 h m.bk).1=m.eg):SZ t r.d7 r.bq h m r.fd=0:=by
 unfold SZ;rw[QQ (by simp[(Qp b).2.2]),QQ d_,QQ j_,QQ l',Ne s]
theorem fe{ζ:Option (BG×Int)}(hX:(Hn t (DD t r (CO h (dS r h m)) (cS r h m)) (B7 r (cS r h m) m.eg)).2=0->ζ=
   if ((decide (40<((Hn t (DD t r (CO h (dS r h m)) (cS r h m)) (B7 r (cS r h m) m.eg)).1.bi.az.length:Int)))||(decide (80<((Hn t (DD t r (CO h (dS r h m)) (cS r h m)) (B7 r (cS r h m) m.eg)).1.bi.be.length:Int))))=X then Y (zG,3)else
   Y (BG.mk r m h (Hn t (DD t r (CO h (dS r h m)) (cS r h m)) (B7 r (cS r h m) m.eg)).1 (GJ h (dS r h m)) (cS r h m),0)):
  (if(!decide ((Hn t (DD t r (CO h (dS r h m)) (cS r h m)) (B7 r (cS r h m) m.eg)).2=0))=X then Y (zG,(Hn t (DD t r (CO h (dS r h m)) (cS r h m)) (B7 r (cS r h m) m.eg)).2)else ζ)=Y (Vj t r h m):=by
 unfold Vj;refine DV λb=>?_;rw[hX b];refine Pz an λ_=>rfl
theorem vO(hf:Ap t)(fr:Df r)(F:F2 r.bq<=40)(h:AH)(m:AT):KY t r h m=Y (Fy t r h m):=by
 unfold KY Mg Fy;rw[PO hf,bs];by_cases hv:¬(Az t).2=0
 .grind[E0,Az]
 have hv:=D_.1 hv;rw[QQ t_,lh hf fr,bs,Uq hf,bs];by_cases j:¬E0 t r=0
 .grind
 have j:=D_.1 j;rw[QQ j_,bs,QQ (show¬E0 t r≠0 by simp[j])];refine DV λG=>?_;rw[Option.bind_fun_some];unfold Mf J9;rw[Yr hf,bs];by_cases o:¬Ei t r.d7.bi h.bi m.bk r.fd=0
 .grind
 have o:=D_.1 o;rw[QQ l',fx hf,bs,QQ (show¬Ei t r.d7.bi h.bi m.bk r.fd≠0 by simp[o])];by_cases w:¬(Fm t r.d7 h m.bk).2=0
 .grind
 have w:=D_.1 w;rw[QQ (by simp[w]),qj,bs,QQ (show¬(Fm t r.d7 h m.bk).2≠0 by simp[w])];by_cases y:¬(Fm t r.d7 h m.bk).1=m.eg
 .grind
 have y:=D_.1 y;rw[QQ (by simp[y]),bs,QQ V,QQ (show¬¬(Fm t r.d7 h m.bk).1=m.eg by simp[y])];rw[vF hf o,bs,QQ V,vA fr.ei,bs];refine DV λH=>?_;obtain⟨_,_,_,z⟩:=Xb hf F (Ve j G o w y);obtain⟨co,Q⟩:=Yf H;rw[eU hf _ fr.cond F,bs,Q];refine DV λS=>?_;refine UP λε=>?_;have s:Hr t r h m:=⟨hf,fr,j,G,z,co⟩;have u:=s.rem;have κ:=s.hh.g.ci;have η:=s.hh.g.c8;have l1:=s.left.1;have l2:=s.left.2;have ζ:=s.ro.left.ci;have δ:=s.ro.left.c8;have J:=z.len;have K:=z.q.vars;have E:J8 m=Y m:=by
  unfold J8 slices_Clone_int;rw[BM a?,bs,BM a?,bs,BM a?,bs]
 simp only[];rw[E,bs,jK u.sm,bs];rw[gD U u.ci.2 (N1 _ _),bs,gD U u.c8.2 (N1 _ _),bs];have N:G7 r.ca.bi.az.length r.kg.az r.ec.az m.bk.az (Gb h.bi.az.length (dS r h m).az) (KS h.bi r.kg m.bk).az.length=Y (cS r h m).az:=
  Zo s.AbS.1 (λx D=>by rw[N5];obtain⟨i,b,e,rfl⟩:=BC D;exact(z.m.node i b e).1) U (E'.2 u.ci.2)
 have O:G7 r.ca.bi.be.length r.kg.be r.ec.be m.bk.be (Gb h.bi.be.length (dS r h m).be) (KS h.bi r.kg m.bk).be.length=Y (cS r h m).be:=
  Zo s.AbZ.1 (λx D=>by rw[N5];obtain⟨i,b,e,rfl⟩:=BC D;exact z.m.edge i b e) U (E'.2 u.c8.2)
 rw [N,bs,O,bs];have P:=sF (M:=m) s.grow u (Ye _ _ _ _ _) (λi b e=>fK s.AbS.1 s.AbS.2.1 b e) (λi b e=>fK s.AbZ.1 s.AbZ.2.1 b e);change ((JI t (BG.mk r m h (AH.mk (bi.mk [] []) []) (GJ h (dS r h m)) (cS r h m)) (dS r h m)).bind _)=_;rw[P,bs,vD s.put,bs];exact fe λI=>by rw[Ne I]
theorem l8(hf:Ap t){p:cE}{c:bq}(b:F2 c<=40){inj:Bool}(e:SZ t p c h m inj=0):M3 t c h m inj=Y (L5 t p c h m inj):=by
 obtain ⟨hv,hh,j,o⟩:=Xb hf b e
 grind [M3,L5,wS,C9,tN,lK,oi]
theorem dJ(hf:Ap t)(fr:Df r)(I:F2 r.bq<=40)(h:AH)(m:AT):JZ t r h m=Y (Fy t r h m):=by
 unfold JZ Ja Fy;rw[dI hf fr,bs,YI hf,bs];by_cases b:¬E0 t r=0
 .rw[Ne (by simp[b]),bs,Ne (by simp[b]),Ne b]
 have b:=D_.1 b;rw[QQ (by simp[b]),bs,QQ (show¬E0 t r≠0 by simp[b])];refine DV λD=>?_;unfold Mb;rw[Yu hf,bs];by_cases e:¬Ei t r.d7.bi h.bi m.bk r.fd=0
 .rw[Ne d_,bs,Ne V,Ne e]
 have e:=D_.1 e;rw[QQ d_,sW hf,bs,QQ (show¬Ei t r.d7.bi h.bi m.bk r.fd≠0 by simp[e])];by_cases j:¬(Fm t r.d7 h m.bk).2=0
 .rw[Ne j_,bs,Ne j_,Ne j]
 have j:=D_.1 j;rw[QQ j_,sU,bs,QQ (show¬(Fm t r.d7 h m.bk).2≠0 by simp[j])];by_cases w:¬(Fm t r.d7 h m.bk).1=m.eg
 .rw[Ne (by simp[w]),bs,Ne V,Ne w]
 have w:=D_.1 w;rw[QQ (by simp[w]),QQ (show¬¬(Fm t r.d7 h m.bk).1=m.eg by simp[w])];rw[vj hf e,bs,QQ V,va fr.ei,bs];by_cases o:¬(MG (I5 r.d7.bi h.bi m.bk) h.bi r.kg m.bk).2=0
 .rw[Ne l',bs,Ne l',Ne o]
 have o:=D_.1 o;rw[QQ l',QQ (show¬(MG (I5 r.d7.bi h.bi m.bk) h.bi r.kg m.bk).2≠0 by simp[o])];have z:=Ve b D e j w;obtain⟨_,_,_,F⟩:=Xb hf I z;obtain⟨co,N⟩:=Yf o;rw[l8 hf I z,bs,N,Ib,bs,bs];by_cases u:¬(L5 t r.d7 r.bq h m r.fd).2=0
 .rw[QQ (show¬((decide ((L5 t r.d7 r.bq h m r.fd).2=0)&&!(L5 t r.d7 r.bq h m r.fd).1)=X)by simp[u]),Ne g!,Ne u]
 have u:=D_.1 u;rw[QQ (show¬(L5 t r.d7 r.bq h m r.fd).2≠0 by simp[u])];cases P:(L5 t r.d7 r.bq h m r.fd).1 with
 |false=>rw[Ne (show(decide ((L5 t r.d7 r.bq h m r.fd).2=0)&&!T)=X by simp[u]),Ne V,Ne rfl]|true=>
 rw [QQ (show¬(decide ((L5 t r.d7 r.bq h m r.fd).2=0)&&!X)=X by simp),QQ g!,QQ V];have s:Hr t r h m:=⟨hf,fr,b,D,F,co⟩;have y:=s.rem;have Q:=s.hh.g.ci;have S:=s.hh.g.c8;have l1:=s.left.1;have l2:=s.left.2;have ε:=s.ro.left.ci;have κ:=s.ro.left.c8;unfold NR Lw;simp only[];rw[eW hf D s.part y,bs,cy U y.ci.2 ((N1 _ _).imp λh=>U),bs,bs,cy U y.c8.2 ((N1 _ _).imp λh=>U),bs,bs,bs];simp only[];rw[YH U (λx E=>by rw[N5];obtain⟨i,G,H,rfl⟩:=BC E;exact(F.m.node i G H).1),bs];rw[YH U (λx E=>by rw[N5];obtain⟨i,G,H,rfl⟩:=BC E;exact F.m.edge i G H),bs];have J:GN r.kg.az r.ec.az r.ca.bi.az.length (m.bk.az.map (AA (Gb h.bi.az.length (dS r h m).az))) (KS h.bi r.kg m.bk).az.length=Y (cS r h m).az:=
  Zu s.AbS.1 U (E'.2 y.ci.2)
 have K:GN r.kg.be r.ec.be r.ca.bi.be.length (m.bk.be.map (AA (Gb h.bi.be.length (dS r h m).be))) (KS h.bi r.kg m.bk).be.length=Y (cS r h m).be:=
  Zu s.AbZ.1 U (E'.2 y.c8.2)
 rw [J,bs,K,bs];rw[lz (Z1 y),bs];change ((Ma t r (CO h (dS r h m)) (cS r h m)).bind _)=_;rw[vg s.grow (Z1 y),bs];change ((N0 t r (DD t r (CO h (dS r h m)) (cS r h m)) (cS r h m) m.eg).bind _)=_;rw[zA s.put,bs];exact fe λO=>rfl
end Go.Sf.Sc
namespace Go.Sf.Sc
open Go Go.Sf
instance:Inhabited d3:=⟨z6⟩
instance:Inhabited C8:=⟨⟨0,⟨⟨[],[]⟩,[]⟩⟩⟩
instance:Inhabited BG:=⟨zG⟩
structure AAs(c7:List d3):Prop where
 len:c7.length<=12
 each:∀r∈c7,Df r/\F2 r.bq<=40
structure AAq(h:AH)(s:BG):Prop where
 t2:s.Aaq.az.length=h.bi.az.length
 x4:s.Aaq.be.length=h.bi.be.length
 node:∀x∈s.Aaq.az,-1<=x/\x<s.k7.bi.az.length
 edge:∀x∈s.Aaq.be,-1<=x/\x<s.k7.bi.be.length
 sm:N8 s.k7
variable{t:AC}{x:AH}{L:BW}
theorem lr(h:(Hn t x L).2=0):Hn t x L=(⟨x.bi,L.foldl Cl x.d5⟩,0)/\L.any (NZ t x)=T:=by
 unfold Hn at h|-
 grind
structure XP(t:AC)(r:d3)(h:AH)(m:AT):Prop where
 f:Hr t r h m
 sat:L5 t r.d7 r.bq h m r.fd=(X,0)
 solve:Fm t r.d7 h m.bk=(m.eg,0)
 chk:Ei t r.d7.bi h.bi m.bk r.fd=0
 put:(Hn t (DD t r (CO h (dS r h m)) (cS r h m)) (B7 r (cS r h m) m.eg)).2=0
 few:(DD t r (CO h (dS r h m)) (cS r h m)).bi.az.length<=40/\(DD t r (CO h (dS r h m)) (cS r h m)).bi.be.length<=80
def SU(t:AC)(r:d3)(h:AH)(m:AT):AH:=⟨(DD t r (CO h (dS r h m)) (cS r h m)).bi,(B7 r (cS r h m) m.eg).foldl Cl (DD t r (CO h (dS r h m)) (cS r h m)).d5⟩
def ji(t:AC)(r:d3)(h:AH)(m:AT):BG:=BG.mk r m h (SU t r h m) (GJ h (dS r h m)) (cS r h m)
variable{r:d3}{h:AH}{m:AT}
theorem bM(hf:Ap t)(fr:Df r)(H:F2 r.bq<=40)(e:(Fy t r h m).2=0):XP t r h m/\Fy t r h m=(ji t r h m,0):=by
 unfold Fy at e|-;split at e
 next j=>exact absurd e j
 rename_i j;rw[QQ j];split at e
 next o=>exact absurd e o
 rename_i o;rw[QQ o];split at e
 .cases e
 rename_i D;rw[QQ D];split at e
 next u=>exact absurd e u
 rename_i u;rw[QQ u];split at e
 .cases e
 rename_i E;rw[QQ E];split at e
 next y=>exact absurd e y
 rename_i y;rw[QQ y];split at e
 next z=>exact absurd e z
 rename_i z;rw[QQ z];split at e
 .cases e
 rename_i F;rw[QQ F];have j:=D_.1 j;have o:=D_.1 o;have D:=D_.1 D;have u:=D_.1 u;have E:=D_.1 E;have y:=D_.1 y;have z:=D_.1 z;obtain⟨_,_,_,I⟩:=Xb hf H (Ve j o D u E);have s:Hr t r h m:=⟨hf,fr,j,o,I,(Yf y).1⟩;unfold Vj at e|-;split at e
 next w=>exact absurd e w
 rename_i w;rw[QQ w];have w:=D_.1 w;obtain⟨G,J⟩:=lr w;split at e
 .cases e
 rename_i b;rw[QQ b];rw[G]at b;refine⟨⟨s,?_,?_,D,w,?_⟩,?_⟩
 .exact Prod.ext (by simpa using F) z
 .exact Prod.ext E u
 .simp[not_or]at b;exact b
 .rw[G];rfl
end Go.Sf.Sc
namespace Go.Sf.Sc
open Go Go.Sf
structure InM(m:bk)(g:bi):Prop where
 t2:m.az.length<=1000
 x4:m.be.length<=1000
 node:∀x∈m.az,-1<=x/\x<g.az.length
 edge:∀x∈m.be,-1<=x/\x<g.be.length
structure tY(m:AT):Prop where
 ci:m.bk.az.length<=1000
 c8:m.bk.be.length<=1000
 vars:m.eg.length<=1000
variable{t:AC}{r:d3}{h:AH}{m:AT}
theorem XP.small(s:XP t r h m):tY m:=by
 have e:=s.f.left;have b:=s.f.ro.left;have j:=s.f.at_.len;have o:=s.f.at_.q.vars;have:=b.ci;have:=b.c8;exact⟨U,U,U⟩
variable{α:Type}{i:Int}
theorem rP[Inhabited α]{l:List α}(v:α)(b:0<=i)(e:i<l.length):AA (BB l i v) i=v:=by grind[AA,BB]
theorem rQ[Inhabited α]{l:List α}{i j:Int}(v:α)(b:0<=i)(e:0<=j)(h:j≠i):AA (BB l i v) j=AA l j:=by grind[AA,BB]
end Go.Sf.Sc
namespace Go.Sf.Sc
open Go Go.Sf
end Go.Sf.Sc
namespace Go.Sf.Sc
open Go Go.Sf
end Go.Sf.Sc
namespace Go.Sf.Sc
open Go Go.Sf
end Go.Sf.Sc
namespace Go.Sf.Sc
open Go Go.Sf
variable{h:AH}
theorem kQ:∃b,QI h=Y b/\(b=X->N8 h):=by
 unfold QI QF;rw[bs];by_cases j:((!((decide ((h.bi.az.length:Int)<=45))&&(decide ((h.bi.be.length:Int)<=90))))||(decide (45<(h.d5.length:Int))))=X
 .rw[Ne j];exact⟨T,rfl,λh=>c?⟩
 rw [QQ j,BN (λi=>decide (12<((AA h.d5 i).length:Int))) T]
 .cases e:fu (λi=>decide (12<((AA h.d5 i).length:Int))) 0 h.d5.length with
  |true=>exact⟨T,rfl,λh=>c?⟩
  |false=>
   refine ⟨X,rfl,λ_=>?_⟩;rw[Bg]at e;simp only[C',Bool.not_eq_true',Bool.and_eq_false_iff,decide_eq_false_iff_not,pE,not_or]at j;refine⟨U,U,U,λv hv=>?_⟩
   grind [BC]
 .intro i o s _;rw[AD o s,bs,Ib]
end Go.Sf.Sc
namespace Go.Sf.Sc
open Go Go.Sf
end Go.Sf.Sc
namespace Go.Sf.Sc
open Go Go.Sf
def aw(x:Int):Prop:=-9223372036854775808<=x/\x<=9223372036854775807
theorem tM{x y:Int}(b:aw x)(e:aw y):AW (x-y)=0↔x=y:=by
 unfold aw at b e;rw[dr];split<;>omega
theorem lw{l m:Fp}(y:l.length<=1000)(z:m.length<=1000)(u:∀x∈l,aw x)(w:∀x∈m,aw x):∃v,Kl l m=Y v/\(v=0↔l=m):=by
 unfold Kl;rw[Q5 (λi=>if AA l i=AA m i then W else Y (.inr (AW (AA l i-AA m i)))) (b:=min (l.length:Int) m.length) U]
 .cases e:fst (λi=>if AA l i=AA m i then(W:Option (Int ⊕ Int))else Y (.inr (AW (AA l i-AA m i)))) 0 (min (l.length:Int) m.length)with
  |none=>
   refine ⟨_,rfl,?_⟩;rw[Ao U U];rw[Bc]at e;constructor
   .intro h;refine bQ U λi j s=>?_;have:=e i j U
    grind
   .rintro rfl;omega
  |some x=>
   obtain ⟨i,j,s,o,_⟩:=DW e;by_cases h:AA l i=AA m i
   .rw[Ne h]at o;cases o
   .rw[QQ h]at o;cases o;refine⟨_,rfl,?_⟩;rw[tM (u _ (AG j U)) (w _ (AG j U))];exact⟨λk=>absurd k h,λk=>by rw[k]⟩
 .intro i j s _;rw[Ne an,AD j U,bs,AD j U,bs];by_cases h:AA l i=AA m i
  .rw[QQ to,Ne h,Ao U U];rfl
  .rw[Ne to,QQ h,bs,bs];rfl
 .rw[QQ an]
structure XQ(h:AH):Prop where
 s:N8 h
 w:∀v∈h.d5,∀x∈v,aw x
theorem sq{a b:AH}(z:XQ a)(D:XQ b):Od a b=Y (decide (a=b)):=by
 unfold Od;rw[sj,bs];obtain⟨g,v⟩:=a;obtain⟨I,e⟩:=b;simp only[];by_cases o:g=I
 .subst o;by_cases u:v.length=e.length
  .rw[QQ g!,BN (λi=>!decide (AA v i=AA e i)) T]
   .have:=gV (λx y:Fp=>decide (x=y)) (l:=v) (m:=e) (λ_ _ _ _=>decide_eq_true_iff) u;by_cases h:v=e
    .rw[this.2 h,QQ V,B0];simp[h]
    .cases H:fu (λi=>!decide (AA v i=AA e i)) 0 v.length
     .exact absurd (this.1 H) h
     .rw[Ne rfl,SA];simp[h]
   .intro i j E _;have F:=AG j E;have G:=AG (l:=e) j U;obtain⟨x,J,K⟩:=lw (z.s.rows _ F) (D.s.rows _ G) (z.w _ F) (D.w _ G);rw[AD j E,bs,AD j U,bs,J,bs];by_cases h:AA v i=AA e i<;>simp[h,K]
  .rw[Ne an];have:v≠e:=λh=>u (by rw[h]);simp[this]
 .rw[Ne l'];simp[o]
structure AAr(s:BG):Prop where
 b:XQ s.zt
 a:XQ s.k7
variable{t:AC}{h:AH}
theorem nC(hf:Ap t)(e:(Br t h).2=0):XQ h:=by
 obtain ⟨hv,hh⟩:=FU hf e;refine⟨Xq hf hv hh,λv b x j=>?_⟩;obtain⟨i,o,s,rfl⟩:=BC b;have:=hh.low i o (by have:=hh.len;omega) x j;unfold aw;omega
end Go.Sf.Sc
namespace Go.Sf.Sc
open Go Go.Sf
variable{q:O4}
theorem bC:∀(n:Nat)(f:AL),f.c8.length+n=f.p.be.length->(∀i:Int,0<=i->i<f.p.be.length->PL.at_ f.ed.be i=PL.at_ q.be i)->Dh n f=Dh n {f with ed:=q}
 |0,_,_,_=>rfl|n+1,f,e,h=>by
  rw [Dh,Dh];refine congrArg (λF=>(AZ f.g.be.length).flatMap F) (funext λk=>?_);have b:P8 f k=P8 {f with ed:=q} k:=by
   grind [P8,Jk]
  rw [b,bC n {f with c8:=f.c8++[k]} an h]
theorem bI:∀(n:Nat)(f:AL),f.ci.length+n=f.p.az.length->f.c8=[]->(∀i:Int,0<=i->i<f.p.az.length->PL.at_ f.ed.az i=PL.at_ q.az i)->(∀i:Int,0<=i->i<f.p.be.length->PL.at_ f.ed.be i=PL.at_ q.be i)->EU n f=EU n {f with ed:=q}
 |0,f,_,he,_,h=>bC f.p.be.length f (by rw[he];simp) h|n+1,f,j,he,e,h=>by
  rw [EU,EU];refine congrArg (λF=>(AZ f.g.az.length).flatMap F) (funext λk=>?_);have b:QA f k=QA {f with ed:=q} k:=by
   grind [QA]
  rw [b,bI n {f with ci:=f.ci++[k]} an he e h]
variable{n:Nat}{i v:Int}
theorem kF(b:0<=i)(e:i<n):AA (List.replicate n v) i=v:=by
 unfold AA
 grind
def F0(t:AC)(p g:bi)(inj:Bool):AL:=⟨p,g,Ho t,O4.mk W W,inj,5001,[],[],[]⟩
variable{t:AC}{p g:bi}
theorem bJ{inj:Bool}:EU p.az.length (F0 t p g inj)=EU p.az.length (FF t p g (I8 p) inj):=
 bI (q:=O4.of (I8 p)) p.az.length (F0 t p g inj) q? rfl (λi b e=>(kF b e).symm) (λi b e=>(kF b e).symm)
theorem oT{inj:Bool}(o:Ap t)(hv:(Az t).2=0)(j:Mm (FF t p g (I8 p) inj)):GI t p g ⟨W,W⟩ inj 5001=Y (GW t p g (I8 p) inj):=by
 unfold GI;rw[jP o (Cg hv) hv,bs];have b:Mm (F0 t p g inj):=⟨trivial,trivial,j.ends,j.kinds,j.small⟩;have h:=lV (f:=F0 t p g inj) b ⟨by show(0:Int)<=5001;omega,by show(5001:Int)<=10000;omega,by show((0:Nat):Int)<=5001;omega⟩ rfl rfl;rw[bE _ _ b rfl,show(F0 t p g inj).p.az.length=p.az.length from rfl,bJ]at h;have e:AL.mk p g (Ho t) ⟨W,W⟩ inj 5001 [] [] []=F0 t p g inj:=rfl;rw[e,h];rfl
def D0(t:AC)(p g:bi)(inj:Bool):List bk×Int:=
 if Dl t p g≠0 then([],Dl t p g)else if 5000<(GW t p g (I8 p) inj).length then([],3)else(GW t p g (I8 p) inj,0)
theorem u0(hf:Ap t)(p g:bi)(inj:Bool):KV t p g inj=Y (D0 t p g inj):=by
 unfold KV D0;rw[Vt hf,bs];refine DV λb=>?_
 grind [Wd,I8,JG,oT,bs,GW]
theorem vY(hf:Ap t)(p g:bi)(inj:Bool):QJ t p g inj=Y (D0 t p g inj):=by
 unfold QJ D0;rw[Wz hf,bs];refine DV λb=>?_;obtain⟨hv,j⟩:=Wd (inj:=inj) (pa:=I8 p) b (by simp[I8]) (by simp[I8]);have e:=(JN b).2.1;have:=e.ci;have:=e.c8
 grind [ol,bs,qp,GW,I8]
end Go.Sf.Sc
namespace Go.Sf.Sc
open Go Go.Sf
variable{α:Type}{f:Int->List α->Option (List α)}
theorem kv[Inhabited α]{x:List α}{p:α->Bool}(w:x.length<=5000)
  (hf:∀(i:Int)(s:List α),0<=i->i<x.length->s.length<=5000->f i s=Y (if p (AA x i)=X then s++[AA x i]else s)):
  gp f 0 (x.length:Int) []=Y (x.filter p):=by
 rw [BZ (a:=0) (b:=x.length) (s:=[]) (λi=>(x.take i.toNat).filter p) U rfl,D',z!];intro i e j;have o:((x.take i.toNat).filter p).length<=5000:=o2
 rw [hf i _ e j o,CP e j,List.filter_append];cases u:p (AA x i)<;>simp[u]
def P6(t:AC)(p:cE)(h:AH)(inj:Bool):List AT×Int:=
 if Oa t p h≠0 then([],Oa t p h)else if(D0 t p.bi h.bi inj).2≠0 then([],(D0 t p.bi h.bi inj).2)else
 (((D0 t p.bi h.bi inj).1.filter λy=>decide ((Hd p h y).2=0)).map λy=>⟨y,(Hd p h y).1⟩,0)
variable{t:AC}{p g:bi}
theorem kE{inj:Bool}(h:(D0 t p g inj).2=0):(D0 t p g inj).1.length<=5000/\∀m∈(D0 t p g inj).1,Ei t p g m inj=0:=by grind[D0,kY]
theorem oj(hf:Ap t)(p:cE)(h:AH)(inj:Bool):Km t p h inj=Y (P6 t p h inj):=by
 unfold Km P6;rw[Zv hf,bs];refine DV λu=>?_;rw[vY hf,bs];refine DV λw=>?_;obtain⟨E,G⟩:=kE w;rw[SI (F:=λy=>((Hd p h y).1,decide ((Hd p h y).2=0))) E,bs];intro i s z D e;have j:IK p h (AA (D0 t p.bi h.bi inj).1 i)=Y (Hd p h (AA (D0 t p.bi h.bi inj).1 i)):=by
  obtain ⟨hv,o,hh,b⟩:=SP hf u (G _ (AG z D));exact gO o (λs e=>PU (Cg hv) o hh b e)
 grind [AD,bs,Hd,AA,D0,AV,AX]
variable{h:AH}
theorem Zl{p:cE}{inj:Bool}:(P6 t p h inj).1.length<=5000:=by grind[P6,kE,a6,Nat.le_trans,y!]
noncomputable def aV(t:AC)(r:d3)(h:AH):Int:=if E0 t r≠0 then E0 t r else(Br t h).2
variable{r:d3}
theorem sb(hf:Ap t)(fr:Df r)(h:AH):Ja t r h=Y (aV t r h):=by
 unfold Ja aV;rw[dI hf fr,bs,YI hf];exact DV λ_=>rfl
noncomputable def bU(t:AC)(r:d3)(h:AH):List AT×Int:=
 if aV t r h≠0 then([],aV t r h)else if(P6 t r.d7 h r.fd).2≠0 then([],(P6 t r.d7 h r.fd).2)else
 ((P6 t r.d7 h r.fd).1.filter λm=>decide ((Fy t r h m).2=0),0)
theorem vZ(hf:Ap t)(fr:Df r)(b:F2 r.bq<=40)(h:AH):IN t r h=Y (bU t r h):=by
 unfold IN bU;rw[sb hf fr,bs];refine DV λe=>?_;rw[oj hf,bs];refine DV λj=>?_;rw[kv (p:=λm=>decide ((Fy t r h m).2=0)) Zl,bs]
 grind [AD,bs,dJ,Fy,AA,P6,AV,AX]
theorem rW:(bU t r h).1.length<=5000:=by grind[bU,Nat.le_trans,y!,Zl]
end Go.Sf.Sc
