/- Plain lemmas: what the functions of the program and of the reference compute. -/
import Derived.Test.YtbmgmpeimdomoaaGreatP46
set_option linter.all false
set_option maxRecDepth 100000
open Option renaming some->Y,none->W
open Bool renaming true->X,false->T
open List renaming mem_filter->w_,mem_map->w!,mem_cons_of_mem->w?,foldl_append->x_,mem_append_left->x!,map_map->x?,length_filter_le->y_,map_id->y!,ext_getElem->y?,take_length->z_,getElem_map->z!,getElem_replicate->z?,map_append->A_,map_congr_left->A',map_singleton->A!,append_nil->A?,getElem?_eq_some_iff->B_
open Bool renaming true_and->B',or_eq_false_iff->B!,eq_iff_iff->B?,or_eq_true->C_,false_and->C',eq_false_iff->C!
open Classical renaming not_not->C?
open Int renaming toNat_natCast->D_,add_zero->D',add_assoc->D!,le_refl->D?,ofNat_le->E_
namespace Go.Sf.Sc
open Go Go.Sf
def JQ(p g:bk)(m:bn):bk:=⟨m.az.map (AA g.az),p.bi⟩
variable{l:Fp}
theorem O1{n x:Int}:x∈AJ l n↔(0<=x/\x<n)/\x∉l:=by
 unfold AJ;rw[w_];constructor
 .grind[Int.natCast_nonneg,Ag]
 .rintro⟨⟨b,e⟩,j⟩;refine⟨w!.2 ⟨x.toNat,List.mem_range.2 U,Int.toNat_of_nonneg b⟩,?_⟩
  grind [hasB,Ag]
theorem OL(l:Fp)(n:Int):(AJ l n).Pairwise (·<·):=by grind[AJ,List.pairwise_lt_range.imp]
def Ej(images ek:Fp):Fp:=(AJ ek images.length).map (AA images)
theorem U4{images ek:Fp}{x:Int}:x∈Ej images ek↔∃i:Int,(0<=i/\i<images.length)/\i∉ek/\AA images i=x:=by grind[Ej,O1]
def Aag(images ek:Fp):Bool:=fq (λa=>fq (λb=>decide (AA images a=AA images b)&&(!hasB ek a||!hasB ek b)) (a+1) images.length) 0 images.length
theorem kG{images ek:Fp}(h:Aag images ek=T){a b:Int}(a0:0<=a)(a1:a<images.length)(w:0<=b)(u:b<images.length)(y:a∈ek)(e:AA images a=AA images b):b∈ek:=by
 unfold Aag at h;rw[BV]at h;by_cases o:a=b
 .exact o▸y
 by_cases z:a<b
 .have j:=h a a0 a1;rw[BV]at j;have s:=j b U u;rw[decide_eq_true e,B',B!]at s
  grind [Ag]
 .have j:=h b w u;rw[BV]at j;have s:=j a U a1;rw[decide_eq_true e.symm,B',B!]at s
  grind [Ag]
variable{i:Int}
theorem U9{images ek:Fp}(h:Aag images ek=T)(b:0<=i)(e:i<images.length)(j:i∈ek):AA images i∉Ej images ek:=by grind[U4,kG]
def Nj(g:bk)(ek:BN)(m:bn)(i:Int):Bool:=
 !hasB m.bi i&&(hasB (Ej m.az ek.az) (AA g.bi i).fb||hasB (Ej m.az ek.az) (AA g.bi i).To)
def Kn(g:bk)(ek:BN)(m:bn):BN:=⟨AJ (Ej m.az ek.az) g.az.length,AJ (Ej m.bi ek.bi) g.bi.length⟩
def Mc(l g:bk)(ek:BN)(m:bn):BN×Int:=
 if Hm l g m≠0 then(⟨[],[]⟩,Hm l g m)else if D5 l ek≠0 then(⟨[],[]⟩,D5 l ek)else
 if (Aag m.az ek.az||Aag m.bi ek.bi)=X then(⟨[],[]⟩,15)else
 if fq (Nj g ek m) 0 g.bi.length=X then(⟨[],[]⟩,14)else(Kn g ek m,0)
structure cY(l g:bk)(ek:BN)(m:bn):Prop where
 mor:cD l g m
 part:ce l ek
 cE:Aag m.az ek.az=T
 c9:Aag m.bi ek.bi=T
 free:∀i:Int,0<=i->i<g.bi.length->Nj g ek m i=T
variable{g:bk}
theorem eW{p:BN}(h:D5 g p=0):B5 g=0/\Nn g p=0:=by grind[D5]
theorem Zg{l g:bk}{ek:BN}{m:bn}(h:(Mc l g ek m).2=0):cY l g ek m/\Mc l g ek m=(Kn g ek m,0):=by
 unfold Mc at h|-;split at h
 .grind
 rename_i e;rw[QQ e];split at h
 .grind
 rename_i j;rw[QQ j];split at h
 .grind
 rename_i b;rw[QQ b];split at h
 .grind
 rename_i o;rw[QQ o];simp[not_or]at b;exact⟨⟨SC (C?.1 e),VO (eW (C?.1 j)).2,b.1,b.2,BV.1 b?⟩,rfl⟩
theorem nj{l g:bk}{ek:BN}{m:bn}(h:cY l g ek m):Nn g (Kn g ek m)=0:=by
 have w:=h.mor;have H:=w.gb;have I:∀x∈(Kn g ek m).az,0<=x/\x<g.az.length:=λx o=>CP o;have J:∀x∈(Kn g ek m).bi,0<=x/\x<g.bi.length:=λx o=>CP o;have j:∀{l:Fp}{n:Int},(∀x∈l,0<=x/\x<n)->l.Pairwise (·<·)->Lu l n=0:=by
  grind [Lu,Bb,AG,LG]
 unfold Nn;rw[j I (OL _ _),j J (OL _ _)];simp;rw[Bb.2 λi F G=>?_]
 .rfl
 have o:=AG F G;generalize AA (Kn g ek m).bi i=x at o;have b:(0<=x/\x<g.bi.length)/\x∉Ej m.bi ek.bi:=O1.1 o;have hf:=H.fit _ (AG b.1.1 b.1.2);have y:(AA g.bi x).fb∉Ej m.az ek.az/\(AA g.bi x).To∉Ej m.az ek.az:=by
  by_cases hi:x∈m.bi
  .obtain⟨k,D,E,e⟩:=Ay hi;have s:k∈ek.bi:=by
    by_cases s:k∈ek.bi
    .exact s
    .exact absurd (U4.2 ⟨k,⟨D,E⟩,s,e⟩) b.2
   have ends:=h.part.ends k s;have he:=w.edge k D E;rw[e]at he;have z:=h.part.cE.1;have K:=z _ ends.1;have N:=z _ ends.2;have P:=w.tc;rw[<-he.2.2.1,<-he.2.2.2];exact⟨U9 h.cE K.1 U ends.1,U9 h.cE N.1 U ends.2⟩
  .have hd:=h.free x b.1.1 b.1.2;unfold Nj at hd;rw[show hasB m.bi x=T from by cases O:hasB m.bi x with|false=>rfl|true=>exact absurd (Ag.1 O) hi,Bool.not_false,B',B!]at hd;exact⟨λu=>by rw[Ag.2 u]at hd;exact absurd hd.1 a_,λu=>by rw[Ag.2 u]at hd;exact absurd hd.2 a_⟩
 grind [hasB,Kn,AA,Ag,O1]
def Gr(n:Nat)(l:Fp):Fp:=(AY n).map (A1 l)
variable{v:Int}
theorem Q9(h:v∉l):A1 l v=-1:=by grind[A1,Bb,AG]
theorem Wl(l:Fp)(v:Int):-1<=A1 l v/\A1 l v<l.length:=by
 by_cases h:v∈l
 .have:=BP h;omega
 .rw[Q9 h];omega
theorem Of:0<=A1 l v↔v∈l:=by grind[Q9,BP]
theorem OP(n:Nat)(l:Fp):(Gr n l).length=n:=by unfold Gr;rw[a6,Am]
variable{n:Nat}
theorem N4(b:0<=i)(e:i<n):AA (Gr n l) i=A1 l i:=FH _ b e
theorem Cz(h:l.Nodup)(b:0<=i)(e:i<l.length):A1 l (AA l i)=i:=by
 have j:=BP (AG b e)
 grind [A1,AA,LG]
def PP(ek into at_:Fp)(n i:Int):Int:=if hasB into i=X then AA at_ (AA ek (A1 into i))else n+(AJ into i).length
def Uu(count:Nat)(ek into at_:Fp)(n:Int):Fp:=(AY count).map (PP ek into at_ n)
theorem Zf(count:Nat)(ek into at_:Fp)(n:Int):(Uu count ek into at_ n).length=count:=by unfold Uu;rw[a6,Am]
variable{count:Nat}
theorem dL{ek into at_:Fp}{n i:Int}(b:0<=i)(e:i<count):AA (Uu count ek into at_ n) i=PP ek into at_ n i:=FH _ b e
theorem LP(h:0<=i):((AJ l i).length:Int)<=i:=by grind[IL]
end Go.Sf.Sc
namespace Go.Sf.Sc
open Go Go.Sf
variable{α:Type}
theorem qw{P:List α->Prop}(b:P [])(e:∀l a,P l->P (l++[a]))(l:List α):P l:=by
 have:∀l:List α,P l.reverse:=by
  intro l
  induction l with
  |nil=>exact b|cons a l j=>rw[List.reverse_cons];exact e _ _ j
 rw [<-List.reverse_reverse l];exact this _
def Qm(L:Be):Be:=L.foldl (λm p=>m.set p.1 p.2) []
theorem dw(L:Be)(p:(Int×Int)×Int):Qm (L++[p])=(Qm L).set p.1 p.2:=by
 unfold Qm
 grind
def TO(L:Be):Prop:=∀p∈L,∀q∈L,p.1=q.1->p.2=q.2
variable{k:Int×Int}{v:Int}
theorem VB:∀{m:Be},m.look k=Y v->(k,v)∈m
 |[],h=>d_
 |p::r,h=>by
  unfold Be.look at h;split at h
  .grind
  .exact w? _ (VB h)
theorem ay:∀{m:Be},m.look k=W->∀p∈m,p.1≠k
 |[],_,p,b=>by cases b
 |q::r,h,p,b=>by
  unfold Be.look at h;split at h
  .cases h
  .rename_i e;rcases List.mem_cons.1 b with rfl|b
   .exact e
   .exact ay h p b
theorem jG:∀{m:Be},m.look k=W->m.set k v=m++[(k,v)]
 |[],_=>rfl|p::r,h=>by
  unfold Be.look at h;unfold Be.set;split at h
  .cases h
  next e=>rw[QQ e,jG h];rfl
theorem fS:∀{m:Be},m.look k=Y v->m.set k v=m
 |[],h=>d_
 |p::r,h=>by
  unfold Be.look at h;unfold Be.set;split at h
  .grind
  next e=>rw[QQ e,fS h]
theorem kA(κ:List Fp)(p:(Int×Int)×Int):Cq (Cq κ p) p=Cq κ p:=by
 unfold Cq;split
 .apply List.ext_getElem?
  grind [Option.map_eq_map,Option.map_map,List.set_set]
 .rfl
theorem pI{m:Be}(hd:m.Dis){p:(Int×Int)×Int}(b:p∈m)(κ:List Fp):Cq (m.foldl Cq κ) p=m.foldl Cq κ:=by
 have e:m.Perm (m.erase p++[p]):=(List.perm_cons_erase b).trans (List.perm_append_singleton p (m.erase p)).symm;rw[<-Ye hd e κ,x_];exact kA _ _
theorem TO.sub{L M:Be}(h:TO L)(b:∀p∈M,p∈L):TO M:=λp e q j=>h p (b p e) q (b q j)
theorem iX(L:Be):TO L->(Qm L).Dis/\(∀p,p∈Qm L↔p∈L)/\∀κ,(Qm L).foldl Cq κ=L.foldl Cq κ:=by
 refine qw (P:=λL=>TO L->(Qm L).Dis/\(∀p,p∈Qm L↔p∈L)/\∀κ,(Qm L).foldl Cq κ=L.foldl Cq κ) (λ_=>⟨List.Pairwise.nil,λp=>Iff.rfl,λκ=>rfl⟩) (λL p e b=>?_) L;obtain⟨w,u,y⟩:=e (b.sub λq j=>x! _ j);rw[dw];cases o:(Qm L).look p.1 with
 |none=>
  grind [jG,Be.set_dis]
 |some v=>
  have s:=VB o;have hv:v=p.2:=b (p.1,v) (x! _ ((u _).1 s)) p V rfl
  grind [fS,List.mem_singleton,pI]
def Pp(L:Be):Bool:=fq (λi=>fq (λk=>decide ((AA L k).1=(AA L i).1)&&!decide ((AA L k).2=(AA L i).2)) 0 i) 0 L.length
variable{L:Be}
theorem aJ(h:Pp L=T):TO L:=by
 intro p s q u e;obtain⟨a,a0,a1,rfl⟩:=Ay s;obtain⟨b,w,y,rfl⟩:=Ay u;unfold Pp at h;rw[BV]at h;by_cases j:a=b
 .rw[j]
 by_cases z:a<b
 .have o:=h b w y;rw[BV]at o
  grind
 .have o:=h a a0 a1;rw[BV]at o
  grind
theorem pL(L:Be)(κ:List Fp):N6 (L.foldl Cq κ) κ:=by
 induction L generalizing κ with
 |nil=>rfl|cons p r b=>exact(b (Cq κ p)).trans (aQ κ p)
end Go.Sf.Sc
namespace Go.Sf.Sc
open Go Go.Sf
variable{t:AC}{p g:bk}
theorem Rv{m:bn}{inj:Bool}(h:Ez t p g m inj=0):Ds t p g=0/\J5 t p g m=0/\Z8 t p g m:=by grind[dI,Ez]
theorem l8{m:bn}{inj:Bool}(h:Ez t p g m inj=0):Ez t p g m T=0:=by grind[Rv,Ez]
variable{α:Type}
theorem Qd[Inhabited α](l:List α):(AY l.length).map (AA l)=l:=by grind[lu,a6,Am,FH]
variable{β:Type}
theorem wR[Inhabited α](l:List α)(f:α->β):l.map f=(AY l.length).map λj=>f (AA l j):=by
 rw [show(λj=>f (AA l j))=f∘AA l from rfl,<-x?,Qd]
theorem wj(hf:Ao t){m:bn}{inj:Bool}(h:Ez t p g m inj=0):GT t p g m=Y (JQ p g m,0):=by
 obtain ⟨b,s,e⟩:=Rv h;obtain⟨_,j,y,_⟩:=Ji b;unfold GT;rw[Ww hf,bs,QQ (by simp[b]),bE hf b,bs,QQ (by simp[s])];unfold Cf;have:=j.cE;have:=j.c9;have:=e.tc;rw[BL b_,bs];rw[Ti U (λx o=>?_) p.bi]
 .rfl
 .obtain⟨i,u,w,rfl⟩:=Ay o;exact(e.node i u w).1
theorem xE(hf:Ao t){m:bn}{inj:Bool}(h:Ez t p g m inj=0):KL t p g m=Y (JQ p g m,0):=by
 obtain ⟨z,E,w⟩:=Rv h;obtain⟨_,y,F,_⟩:=Ji z;have:=y.cE;have:=y.c9;have D:=w.tc;unfold KL GN;rw[Zy hf,bs,QQ (by simp[l8 h]),BL b_,bs,BL b_,bs,bs];rw[Qe (λi=>bk.mk ((AY p.az.length).map λj=>if j<i then AA g.az (AA m.az j)else AA p.az j) p.bi) (a:=0) (b:=p.az.length) U]
 .have e:((AY p.az.length).map λj=>if j<(p.az.length:Int)then AA g.az (AA m.az j)else AA p.az j)=m.az.map (AA g.az):=by
   grind [wR,Da]
  rw [e];rfl
 .congr 1;rw[<-Qd p.az,a6,Am]
  grind [Da,Qd]
 .intro i o s;have u:=w.node i o U;simp[Am];rw[Ne (by simpa using s),AD o U,bs,AD u.1.1 u.1.2,bs,AD o (by rw[a6,Am];exact s),bs,Gc _ o,Ap U U]
  grind
 grind [a6,Am]
variable{n:Nat}{f:Int->List α->Option (List α)}
theorem QE(q:Int->Bool)(F:Int->α)(h:∀i s,0<=i->i<(n:Int)->s.length<=i.toNat->f i s=Y (if q i=X then s++[F i]else s)):gp f 0 n []=Y (((AY n).filter q).map F):=by
 have e:∀k:Nat,(((AY k).filter q).map F).length<=k:=λk=>by
  rw [a6];exact Nat.le_trans (y_ _ _) (by rw[Am];exact R0 _)
 have:=BQ (f:=f) (s:=[]) (λi=>((AY i.toNat).filter q).map F) (a:=0) (b:=n) U rfl (λi j o=>by
  grind [HL])
 grind
theorem dY{q:Int->Bool}{F:Int->α}:decide (0<((((AY n).filter q).map F).length:Int))=fq q 0 n:=by
 rw [B?,o4,Dv,a6];constructor
 .intro h;have b:(AY n).filter q≠[]:=λe=>by rw[e]at h;simp at h
  obtain ⟨x,u⟩:=List.exists_mem_of_ne_nil _ b
  grind [Bs]
 .rintro⟨i,j,o,s⟩;have:i∈(AY n).filter q:=w_.2 ⟨Bs.2 ⟨j,o⟩,s⟩
  grind
theorem m9{x:DE}(b:x.m.az.length<=1000):Dq x=Y (Ej x.m.az x.ek.az):=by
 unfold Dq;rw[QE (λi=>!hasB x.ek.az i) (AA x.m.az)]
 .rfl
 grind [AD,Lv,hasB,AS,AW]
theorem X5{images ek:Fp}(b:images.length<=1000):Kl images ek=Y (Ej images ek):=by
 unfold Kl;rw[QE (λi=>!hasB ek i) (AA images)]
 .rfl
 grind [EW,hasB,PV,AD,AS,AW]
theorem kY{x:DE}(b:x.m.az.length<=1000)(he:x.g.bi.length<=1000):Dc x=Y ((AY x.g.bi.length).filter (Nj x.g x.ek x.m)):=by
 unfold Dc;rw[m9 b,bs,QE (Nj x.g x.ek x.m) id]
 .rw[bs,y!]
 .intro i s e j o;rw[AD e j,bs,Lv,bs,Lv,bs,Lv,bs];unfold Nj;change (if(!hasB x.m.bi i)=X then(if hasB (Ej x.m.az x.ek.az) (AA x.g.bi i).fb=X then Y X else Y (hasB (Ej x.m.az x.ek.az) (AA x.g.bi i).To)).bind _ else Y T).bind _=_;cases hasB x.m.bi i<;>cases hasB (Ej x.m.az x.ek.az) (AA x.g.bi i).fb<;>cases hasB (Ej x.m.az x.ek.az) (AA x.g.bi i).To<;>simp[AS (show s.length+[i].length<=AW by simp;unfold AW;omega)]
theorem ko{l g:bk}{ek:BN}{m:bn}(b:m.az.length<=1000)(he:g.bi.length<=1000):KJ l g ek m=Y ((AY g.bi.length).filter (Nj g ek m)):=by
 unfold KJ;rw[X5 b,bs,QE (Nj g ek m) id]
 .rw[bs,y!]
 .intro i s e j o;have hh:∀(l:Fp)(v:Int),EW l v=Y (hasB l v):=PV;simp[AD e j,hh];unfold Nj;cases hasB m.bi i<;>cases hasB (Ej m.az ek.az) (AA g.bi i).fb<;>cases hasB (Ej m.az ek.az) (AA g.bi i).To<;>simp[AS (show s.length+[i].length<=AW by simp;unfold AW;omega)]
variable{a i:Int}
theorem Ru{p:Int->Bool}(h:a<=i):fq p a (i+1)=(fq p a i||p i):=by
 rw [B?,C_,Dv,Dv]
 grind
theorem ZD{images ek:Fp}(J:images.length<=100){f:Int->Int->List Jg->Option (List Jg)}(hf:∀(i j:Int)s,0<=i->i<images.length->i<j->j<images.length->s.length<=20000->f i j s=Y (if(decide (AA images i=AA images j)&&(!hasB ek i||!hasB ek j))=X then s++[Jg.mk i j]else s)):
  ∃l,gp (λ(e:Int)(u:List Jg)=>(gp (λ(o:Int)(s2:List Jg)=>f e o s2) (AZ (e+1)) (images.length:Int) u).bind λs2=>Y s2) 0 (images.length:Int) []=Y l/\l.length<=10000/\decide (0<l.length)=Aag images ek:=by
 have key:=PU (f:=λ(e:Int)(u:List Jg)=>(gp (λ(o:Int)(s2:List Jg)=>f e o s2) (AZ (e+1)) (images.length:Int) u).bind λs2=>Y s2) (s:=[])
  (λi s=>(s.length:Int)<=100*i/\decide (0<s.length)=fq (λa=>fq (λb=>decide (AA images a=AA images b)&&(!hasB ek a||!hasB ek b)) (a+1) images.length) 0 i) (a:=0) (b:=images.length) U
  (by refine⟨V,?_⟩;rw[BV.2 (λi z D=>U)];rfl) (λi s e E F=>by
   have w:=PU (f:=λ(o:Int)(s2:List Jg)=>f i o s2) (s:=s)
    (λj s'=>(s'.length:Int)<=100*i+(j-(i+1))/\decide (0<s'.length)=(decide (0<s.length)||fq (λb=>decide (AA images i=AA images b)&&(!hasB ek i||!hasB ek b)) (i+1) j)) (a:=i+1) (b:=images.length) U
    (by refine⟨by have:=F.1;omega,?_⟩;rw[BV.2 (λi z D=>U),Bool.or_false]) (λj s' K G y=>by
     refine ⟨_,hf i j s' e E U G (by have:=y.1;omega),?_,?_⟩
     .grind
     .rw[Ru U,<-Bool.or_assoc,<-y.2]
      grind)
   grind [Ap,Ru])
 obtain ⟨l,H,N,I⟩:=key;exact⟨l,H,U,I⟩
theorem io{images ek:Fp}(F:images.length<=100):∃l,Gv images ek=Y l/\l.length<=10000/\decide (0<l.length)=Aag images ek:=by
 unfold Gv;obtain⟨l,K,N⟩:=ZD (ek:=ek) F (f:=λb e s2=>
  (idx images b).bind λo=>
  (idx images e).bind λu=>
  (if(decide (o=u))=X then((slices_Contains_int ek b).bind λw=>
  (if(!w)=X then Y X else((slices_Contains_int ek e).bind λy=>
  Y (!y))).bind λz=>
  Y (z))else Y T).bind λD=>
  if D=X then
  (Al s2 [Jg.mk b e]).bind λE=>
  Y E
  else
  Y s2) (λi j s b G I H J=>by
   have hh:∀(l:Fp)(v:Int),slices_Contains_int l v=Y (hasB l v):=Lv;simp[AD b G,AD (show 0<=j by omega) H,hh]
   grind [AA,hasB,AS,AW])
 grind
theorem jC{images ek:Fp}(F:images.length<=100):∃l,G3 images ek=Y l/\l.length<=10000/\decide (0<l.length)=Aag images ek:=by
 unfold G3;obtain⟨l,K,N⟩:=ZD (ek:=ek) F (f:=λb e s2=>
  (idx images b).bind λo=>
  (idx images e).bind λu=>
  (if(decide (o=u))=X then((EW ek b).bind λw=>
  (if(!w)=X then Y X else((EW ek e).bind λy=>
  Y (!y))).bind λz=>
  Y (z))else Y T).bind λD=>
  if D=X then
  (Al s2 [Jg.mk b e]).bind λE=>
  Y E
  else
  Y s2) (λi j s b G I H J=>by
   have hh:∀(l:Fp)(v:Int),EW l v=Y (hasB l v):=PV;simp[AD b G,AD (show 0<=j by omega) H,hh]
   grind [AA,hasB,AS,AW])
 grind
variable{l:Fp}
theorem fA(h:n<=1000):Mt n l=Y (AJ l n):=by
 unfold Mt;rw[SO (f:=EW l) U U (λi=>PV l i)];rfl
theorem eU{images ek:Fp}(z:n<=1000)(hi:∀x∈images,0<=x/\x<n):Hf n images ek=Y (AJ (Ej images ek) n):=by
 unfold Hf FA;rw[Ne U,bs];rw[BQ (λi=>(AY n).map λk=>fq (λj=>!hasB ek j&&decide (AA images j=k)) 0 i) U]
 .rw[bs,a6,Am,QE (λi=>!hasB (Ej images ek) i) id]
  .rw[bs,y!];rfl
  .intro i s b o F;rw[AD b (by rw[a6,Am];exact o),bs,FH _ b o];have e:fq (λj=>!hasB ek j&&decide (AA images j=i)) 0 images.length=hasB (Ej images ek) i:=by
    rw [B?,Dv,Ag,U4];constructor
    .rintro⟨j,w,y,h⟩;rw[gR,o4]at h
     grind [Ag]
    .rintro⟨j,⟨w,y⟩,H,h⟩;refine⟨j,w,y,?_⟩;rw[gR,o4]
     grind [hasB,Ag]
   grind [hasB,Ej,AS,AW]
 .refine y? (by simp[Am]) (λk D E=>?_)
  grind [D_,BV]
 .intro i b o;have u:=hi _ (AG b o);have hh:∀(l:Fp)(v:Int),slices_Contains_int l v=Y (hasB l v):=Lv;rw[AD b o,bs,hh,bs];cases G:hasB ek i
  .rw[Ne a_,AD u.1 (by rw[a6,Am];exact u.2),bs,Gc _ u.1]
   grind [Da,Ru,AA]
  grind [Da,Ru]
theorem jN{a b:Nat}(e:a<=10000)(j:b<=10000):decide (0<AZ ((a:Int)+(b:Int)))=(decide (0<a)||decide (0<b)):=by
 rw [Ap U U,B?,C_]
 grind
theorem wb{l g:bk}{ek:BN}{m:bn}(y:SU ek):Hk l g ek m=Y (Mc l g ek m):=by
 unfold Hk DP Mc;simp only[];rw[Wv,bs,ip y,bs];by_cases j:¬Hm l g m=0
 .grind
 have j:=C?.1 j;rw[QQ j!,bs,QQ (show¬Hm l g m≠0 by simp[j])];refine Dd λJ=>?_;have b:=SC j;have a1:=b.ga.cE;have a2:=b.ga.c9;have O:=b.tc;have P:=b.wi;have Q:=b.gb.cE;have S:=b.gb.c9;unfold EF;obtain⟨u,z,D,E⟩:=io (ek:=ek.az) (images:=m.az) U;obtain⟨v,G,H,I⟩:=io (ek:=ek.bi) (images:=m.bi) U;simp only[];rw[z,bs,G,bs,bs];simp only[];rw[jN D H,E,I];refine aH λK=>?_;rw[kY (by show m.az.length<=1000;omega) (by show g.bi.length<=1000;omega),bs];have e:=dY (n:=g.bi.length) (q:=Nj g ek m) (F:=id);rw[y!]at e;rw[e];refine aH λN=>?_;rw[eU U (λx o=>?_),bs,eU U (λx o=>?_),bs]
 .rfl
 .obtain⟨i,s,w,rfl⟩:=Ay o;exact(b.edge i s w).1
 .obtain⟨i,s,w,rfl⟩:=Ay o;exact(b.node i s w).1
theorem w6{l g:bk}{ek:BN}{m:bn}(o:SU ek):Rd l g ek m=Y (Mc l g ek m):=by
 unfold Rd P0 Mc;rw[cT,bs,Zz o,bs];by_cases j:¬Hm l g m=0
 .grind
 have j:=C?.1 j;rw[QQ j!,bs,QQ (show¬Hm l g m≠0 by simp[j])];refine Dd λG=>?_;have b:=SC j;have a1:=b.ga.cE;have a2:=b.ga.c9;have J:=b.tc;have K:=b.wi;have N:=b.gb.cE;have O:=b.gb.c9;obtain⟨u,s,w,y⟩:=jC (ek:=ek.az) (images:=m.az) U;obtain⟨v,z,D,E⟩:=jC (ek:=ek.bi) (images:=m.bi) U;rw[s,bs,z,bs,jN w D,y,E];refine aH λH=>?_;rw[ko U U,bs];have e:=dY (n:=g.bi.length) (q:=Nj g ek m) (F:=id);rw[y!]at e;rw[e];refine aH λI=>?_;rw[X5 U,bs,fA U,bs,X5 U,bs,fA U,bs];rfl
end Go.Sf.Sc
namespace Go.Sf.Sc
open Go Go.Sf
variable{α β:Type}
theorem Tn[Inhabited α]{l:List α}{F:α->β}{f:Int->List β->Option (List β)}(h:∀(i:Int)s,0<=i->i<l.length->s.length<=i.toNat->f i s=Y (s++[F (AA l i)])):gp f 0 l.length []=Y (l.map F):=by
 have:=BQ (f:=f) (s:=[]) (λi=>(l.take i.toNat).map F) (a:=0) (b:=l.length) U V (λi e j=>by
  grind [a6,aN,CU])
 rwa [D_,z_]at this
variable{n:Nat}{l:Fp}
theorem iq(G:n<=1000)(y:l.length<=1000)(o:l.Pairwise (·<·)):M2 n l=Y (Gr n l):=by
 unfold M2 FA;rw[Ne U,bs,D_,List.length_replicate,BQ (λi=>(AY n).map λj=>if j<i then A1 l j else 0) U]
 .rw[bs];congr 1;exact Da λj z s=>Ne s
 .refine y? (by simp[Am]) (λk D H=>?_);have e:(AY n)[k]'(by simpa[Am]using D)=(k:Int):=by simp[AY]
  simp only[z!,z?,e];rw[QQ U]
 .intro i u F;rw[Ty y o,bs,AD u (by rw[a6,Am];exact F),bs];have e:∀v:Int,v=A1 l i->Y (BB ((AY n).map λj=>if j<i then A1 l j else 0) i v)=Y ((AY n).map λj=>if j<i+1 then A1 l j else 0):=by
   rintro v rfl;rw[Gc _ u];congr 1;refine Da λj z s=>?_;by_cases e:j=i
   .rw[Ne e,Ne U,e]
   .rw[QQ e];by_cases w:j<i
    .rw[Ne w,Ne U]
    .rw[QQ w,QQ U]
  cases b:hasB l i with
  |false=>
   rw [Ne o?];exact e _ (Q9 λE=>by rw[Ag.2 E]at b;cases b).symm
  |true=>
   rw [QQ V];exact e _ (Xg o (Ag.1 b))
theorem ef(I:n<=1000)(J:l.length<=1000)(E:l.Nodup):Ms l n=Y (Gr n l):=by
 unfold Ms;rw[BQ (λk=>(AY k.toNat).map (A1 l)) U o?]
 .rfl
 .intro k s K;have o:((AY k.toNat).map (A1 l)).length=k.toNat:=by rw[a6,Am]
  have e0:(AY k.toNat).map (A1 l)++[-1]=(AY (k+1).toNat).map λj=>if j<k then A1 l j else if A1 l k<0 then A1 l k else -1:=by
   rw [HL s,A_];congr 1
   .grind[A',Bs]
   .rw[A!,QQ U];have:=Wl l k
    grind
  rw [AS (by rw[o];simp;unfold AW;omega),bs,e0,BQ (λi=>(AY (k+1).toNat).map λj=>if j<k then A1 l j else if A1 l k<i then A1 l k else -1) U rfl]
  .rw[bs];congr 1;refine A' λj F=>?_;have:=Bs.1 F;split
   .rfl
   .have e:j=k:=U
    rw [Ne (Wl l k).2,e]
  .intro i u w;rw[AD u w,bs];by_cases e:AA l i=k
   .have y:A1 l k=i:=by rw[<-e];exact Cz E u w
    rw [Ne d!,AD s (by rw[a6,Am];omega),bs,Gc _ s];congr 1;refine Da λj G H=>?_;by_cases z:j=k
    .rw[Ne z,QQ U,Ne U,y]
    .rw[QQ z];by_cases b:j<k
     .rw[Ne b,Ne b]
     .omega
   .have y:A1 l k≠i:=λh=>by
     have:=(BP (Of.1 (show 0<=A1 l k by omega))).2.2.1;rw[h]at this;exact e this
    rw [QQ d!];congr 1;refine Da λj G H=>?_;by_cases b:j<k
    .rw[Ne b,Ne b]
    .rw[QQ b,QQ b];by_cases D:A1 l k<i
     .rw[Ne D,Ne U]
     .rw[QQ D,QQ U]
structure Wa(count:Nat)(ek into at_:Fp):Prop where
 few:count<=1000
 nodup:into.Nodup
 len:into.length=ek.length
 inn:∀x∈into,0<=x/\x<count
 kin:∀x∈ek,0<=x/\x<at_.length
 pos:∀x∈ek,0<=AA at_ x
theorem Jj(b:l.Nodup)(h:∀x∈l,0<=x/\x<n):l.length<=n:=by
 have:=List.Nodup.length_le_of_subset (l₁:=l) (l₂:=AY n) b (λx e=>Bs.2 (h x e))
 rwa [Am]at this
variable{i:Int}
theorem Q0(h:0<=i):((AJ l (i+1)).length:Int)=(AJ l i).length+if i∈l then 0 else 1:=by grind[JX,aE,hasB,Ag]
theorem Sx{ek into at_:Fp}{n i:Int}(h:i∈into):PP ek into at_ n i=AA at_ (AA ek (A1 into i)):=by grind[PP,Ag]
theorem TZ{ek into at_:Fp}{n i:Int}(h:i∉into):PP ek into at_ n i=n+(AJ into i).length:=by grind[PP,Ag]
variable{count:Nat}
theorem bJ{ek into at_:Fp}{n:Int}(h:Wa count ek into at_)(z:0<=n)(D:n<=1000):Ga ek into count at_ n=Y (Uu count ek into at_ n):=by
 have E:=h.few;have u:=Jj h.nodup h.inn;have w:=h.len;unfold Ga;rw[ef h.few U h.nodup,bs,BQ (λi=>(n+((AJ into i).length:Int),(AY i.toNat).map (PP ek into at_ n))) U (by simp[AJ,AY])]
 .rfl
 .intro i e s;have F:=LP (l:=into) e;have b:((AY i.toNat).map (PP ek into at_ n)).length=i.toNat:=by rw[a6,Am]
  rw [AD e (by rw[OP];exact s),bs,N4 e s];by_cases hi:i∈into
  .have o:=BP hi;have y:=AG (l:=ek) o.1 U;have j:=h.kin _ y;rw[Ne (by simpa using o.1),bs,AD o.1 U,bs,AD j.1 j.2,bs,AS (by rw[b];simp;unfold AW;omega),bs,HL e,A_,Q0 e,Ne hi,D',A!,Sx hi]
  .rw[QQ (by rw[o4,Of];exact hi),AS (by rw[b];simp;unfold AW;omega),bs,HL e,A_,Q0 e,QQ hi,A!,TZ hi,Ap U U,D!]
theorem bC{ek into b o:Fp}{n:Int}(h:Wa count ek into (b.map (AA o)))(J:∀x∈b,0<=x/\x<o.length)(S:0<=n)(ε:n<=1000):HZ count ek into b o n=Y (Uu count ek into (b.map (AA o)) n):=by
 have ζ:=h.few;have K:=Jj h.nodup h.inn;have N:=h.len;unfold HZ E3;rw[Ne (by refine⟨rfl,U,U⟩),bs,D_];rw[BQ (λi=>(AY count).map λk=>if 0<=A1 into k/\A1 into k<i then PP ek into (b.map (AA o)) n k else -1) U]
 .rw[bs,a6,Am,BQ (λi=>(n+((AJ into i).length:Int),(AY count).map λk=>if k<i\/k∈into then PP ek into (b.map (AA o)) n k else -1)) U]
  .rw[bs];congr 1;exact Da λj G E=>Ne (.inl E)
  .show _=(n,_);congr 1
   .simp[AJ]
   .refine Da λj G E=>?_;have I:=Of (l:=into) (v:=j);have O:=Wl into j;by_cases e:j∈into
    .rw[Ne (.inr e),Ne ⟨I.2 e,O.2⟩]
    .rw[QQ (by rintro(s|s);omega;exact e s),QQ λs=>e (I.1 s.1)]
  .intro i w z;have δ:=LP (l:=into) w;rw[AD w (by rw[a6,Am];exact z),bs,FH _ w z];by_cases hi:i∈into
   .have P:=BP hi;have H:=AG (l:=ek) P.1 v!;have Z:=h.pos _ H;rw[Ne (show i<i\/i∈into from .inr hi),Sx hi,QQ (by rw[o4];omega),Q0 w,Ne hi,D'];congr 2;refine Da λj G E=>?_;by_cases e:j<i\/j∈into
    .rw[Ne e,Ne (e.imp (λh=>U) id)]
    .rw[QQ e,QQ];rintro(s|s)
     .have:j=i:=by
       have:=λhh=>e (.inl hh);omega
      exact e (.inr (this▸hi))
     .exact e (.inr s)
   .rw[QQ (show¬(i<i\/i∈into)by rintro(s|s);omega;exact hi s),Ne a_,bs,Q0 w,QQ hi,Ap an an,Gc _ w,D!];congr 2;refine Da λj G E=>?_;by_cases y:j=i
    .rw[Ne y,Ne (.inl U),y,TZ hi]
    .rw[QQ y];by_cases e:j<i\/j∈into
     .rw[Ne e,Ne (e.imp (λh=>U) id)]
     .rw[QQ e,QQ];rintro(s|s)
      .exact e (.inl U)
      .exact e (.inr s)
 .refine y? (by simp[Am]) (λk κ η=>?_);simp only[z!,z?];rw[QQ U];rfl
 .intro i w z;have D:=h.inn _ (AG w z);have H:=AG (l:=ek) w v!;have u:=h.kin _ H;rw[a6]at u;have F:=J _ (AG u.1 u.2);rw[AD w z,bs,AD w v!,bs,AD u.1 u.2,bs,AD F.1 F.2,bs,AD D.1 (by rw[a6,Am];exact D.2),bs,Gc _ D.1];congr 1;refine Da λj G E=>?_;by_cases y:j=AA into i
  .have e:=Cz h.nodup w z;rw[Ne y,y,e,Ne ⟨w,U⟩,Sx (AG w z),e,OV u.1 u.2]
  .rw[QQ y];by_cases e:0<=A1 into j/\A1 into j<i
   .rw[Ne e,Ne ⟨e.1,U⟩]
   .rw[QQ e,QQ];rintro⟨s,h2⟩;have Q:A1 into j=i:=by
     have:=λhh=>e ⟨s,hh⟩;omega
    have:=(BP (Of.1 s)).2.2.1;rw[Q]at this;exact y this.symm
theorem ZI{images b:Fp}(e:images.length<=1000)(j:∀x∈images,0<=x/\x<b.length):IP images b=Y (images.map (AA b)):=by
 unfold IP
 grind [Tn,AA,AG,AD,AS,AW]
end Go.Sf.Sc
namespace Go.Sf.Sc
open Go Go.Sf
def GW(h:AH)(d:BN):bn:=⟨Gr h.bk.az.length d.az,Gr h.bk.bi.length d.bi⟩
def cmS(r:d4)(h:AH)(m:bn)(d:BN):bn:=
 ⟨Uu r.ci.bk.az.length r.kx.az r.ed.az (m.az.map (AA (GW h d).az)) d.az.length,
 Uu r.ci.bk.bi.length r.kx.bi r.ed.bi (m.bi.map (AA (GW h d).bi)) d.bi.length⟩
def Xu(t:AC)(k:Int):Fp:=(A5 t k).map λx=>x.Low
def RT(tr:Fp)(e:B1):B1:=⟨e.em,AA tr e.fb,AA tr e.To⟩
def N1(r:d4)(x:AH)(i:Int):Fp:=x.bk.az++(AJ r.ed.az i).map (AA r.ci.bk.az)
def Ol(t:AC)(r:d4)(x:AH)(i:Int):List Fp:=x.d6++(AJ r.ed.az i).map λk=>Xu t (AA r.ci.bk.az k)
def PX(r:d4)(c:bn)(x:AH)(i:Int):List B1:=x.bk.bi++(AJ r.ed.bi i).map λk=>RT c.az (AA r.ci.bk.bi k)
def DL(t:AC)(r:d4)(x:AH)(c:bn):AH:=⟨⟨N1 r x r.ci.bk.az.length,PX r c x r.ci.bk.bi.length⟩,Ol t r x r.ci.bk.az.length⟩
def CS(h:AH)(d:BN):AH:=⟨⟨d.az.map (AA h.bk.az),d.bi.map λx=>RT (GW h d).az (AA h.bk.bi x)⟩,d.az.map (AA h.d6)⟩
structure OS(x:AH):Prop where
 cE:x.bk.az.length<=1000
 c9:x.bk.bi.length<=1000
 vals:x.d6.length<=1000
 rows:∀v∈x.d6,v.length<=1000
structure YL(t:AC)(r:d4)(c:bn):Prop where
 hf:Ao t
 hv:(A0 t).2=0
 g:BW r.ci.bk
 kind:∀n∈r.ci.bk.az,0<=n/\n<t.az.length
 cn:c.az.length=r.ci.bk.az.length
variable{t:AC}{r:d4}{c:bn}
theorem tj(h:YL t r c){n:Int}(b:n∈r.ci.bk.az):(A5 t n).length<=600:=by
 have:=h.kind n b;exact JI h.hf (D? _) (Ck h.hv).par this.2
variable{x:AH}
theorem nT(h:OS x):MD x=Y x:=by
 have:=h.cE;have:=h.c9;have:=h.vals;unfold MD GN;rw[BL b_,bs,BL b_,bs,bs];rw[BQ (λi=>AH.mk x.bk (x.d6.take i.toNat)) U o?]
 .rw[D_,z_];rfl
 .intro i b e;have:=h.rows _ (AG b e)
  grind [AD,BL,AW,AS,CU]
theorem kX(h:OS x):LA x=Y x:=by
 have:=h.cE;have:=h.c9;have:=h.vals;unfold LA slices_Clone_int Cf;rw[BL b_,bs,BL b_,bs];rw[BQ (λi=>AH.mk x.bk (x.d6.take i.toNat)) U o?]
 .rw[D_,z_];rfl
 .intro i b e;have:=h.rows _ (AG b e)
  grind [AD,BL,AW,AS,CU]
variable{α:Type}{i:Int}
theorem D4(l:Fp)(F:Int->α)(h:0<=i):(AJ l (i+1)).map F=(AJ l i).map F++if i∈l then[]else[F i]:=by grind[JX,hasB,Ag]
theorem XR(l:Fp)(i:Int):I6 l i=Y (!hasB l i):=by
 unfold I6 hasB;rw[BO (λj=>decide (i=AA l j)) T,Gi]
 .cases fq (λj=>decide (i=AA l j)) 0 l.length<;>rfl
 grind [AD,AA]
theorem xC(h:YL t r c)(w:OS x):Mv t r x c=Y (DL t r x c):=by
 have J:=h.g.cE;have K:=h.g.c9;have x1:=w.cE;have N:=w.c9;have O:=w.vals;unfold Mv;rw[Qe (λi=>AH.mk (bk.mk (N1 r x i) x.bk.bi) (Ol t r x i)) (a:=0) (b:=r.ci.bk.az.length) U]
 .rw[CB,Qe (λi=>AH.mk (bk.mk (N1 r x r.ci.bk.az.length) (PX r c x i)) (Ol t r x r.ci.bk.az.length)) (a:=0) (b:=r.ci.bk.bi.length) U]
  .rfl
  .grind[PX,AJ]
  .intro i e o;have D:=LP (l:=r.ed.bi) e;have he:=h.g.fit _ (AG e o);have E:=h.cn;rw[Ne b?,XR,bs];by_cases hi:i∈r.ed.bi
   .grind[Ag,PX,D4,Ap]
   .have u:hasB r.ed.bi i=T:=by cases u:hasB r.ed.bi i with|false=>rfl|true=>exact absurd (Ag.1 u) hi
    rw [u,Ne a_,AD e o,bs,AD he.2.1.1 U,bs,AD he.2.2.1 U,bs,AS (by unfold PX;simp;unfold AW;omega),bs];unfold PX;rw[D4 _ _ e,QQ hi,Ap an an,ae];rfl
  .rw[QQ V]
 .unfold N1 Ol;simp[AJ]
 .intro i e o;have D:=LP (l:=r.ed.az) e;have y:=AG e o;have z:=h.kind _ y;have P:=tj h y;rw[Ne b?,XR,bs];by_cases hi:i∈r.ed.az
  .grind[Ag,N1,Ol,D4,Ap]
  .have u:hasB r.ed.az i=T:=by cases u:hasB r.ed.az i with|false=>rfl|true=>exact absurd (Ag.1 u) hi
   rw [u,QQ a_,AD e o,bs,AS (by unfold N1;simp;unfold AW;omega),bs,bs,RD h.hf,KW h.hv z.1 z.2,bs];simp;rw[Tn (F:=λa=>a.Low) λj s G H I=>?_]
   .rw[bs,AS (by unfold Ol;simp;unfold AW;omega),bs];unfold N1 Ol;rw[D4 _ _ e,QQ hi,D4 _ _ e,QQ hi,Ap U U,ae,ae];rfl
   grind [AD,AS,AW]
 .rw[QQ V]
theorem uF(hf:Ao t)(hv:(A0 t).2=0){k:Int}(e:0<=k)(b:k<t.az.length):Ku t k=Y (Xu t k):=by
 have:=JI hf (D? _) (Ck hv).par b;unfold Ku;rw[TA hf,KW hv e b,bs];simp;rw[Tn (F:=λa=>a.Low) λj s o u w=>?_]
 .rfl
 grind [AD,AS,AW]
structure cF(h:AH)(d:BN):Prop where
 sm:OS h
 len:h.d6.length=h.bk.az.length
 cE:(∀x∈d.az,0<=x/\x<h.bk.az.length)/\d.az.length<=1000
 c9:(∀x∈d.bi,0<=x/\x<h.bk.bi.length)/\d.bi.length<=1000
 ends:∀e∈h.bk.bi,(0≤e.fb/\e.fb<h.bk.az.length)/\0≤e.To/\e.To<h.bk.az.length
variable{h:AH}{d:BN}
theorem bU(hd:cF h d):OS (CS h d):=by
 have e:=hd.cE.2;have j:=hd.c9.2;refine⟨by unfold CS;simp;omega,by unfold CS;simp;omega,by unfold CS;simp;omega,λv hv=>?_⟩;obtain⟨x,b,rfl⟩:=w!.1 hv;have:=hd.cE.1 x b;exact hd.sm.rows _ (AG this.1 (by rw[hd.len];exact this.2))
variable{R:d4}{M:AU}{C:bn}
theorem uB(s:YL t R C)(hd:cF h d)(H:C.bi.length=R.ci.bk.bi.length)
  (y:∀i:Int,0<=i->i<R.ci.bk.az.length->(AA C.az i=d.az.length+(AJ R.ed.az i).length↔i∉R.ed.az))
  (z:∀i:Int,0<=i->i<R.ci.bk.bi.length->(AA C.bi i=d.bi.length+(AJ R.ed.bi i).length↔i∉R.ed.bi)):
  Jd t (BH.mk R M h (AH.mk (bk.mk [] []) []) (GW h d) C) d=Y (BH.mk R M h (DL t R (CS h d) C) (GW h d) C):=by
 have I:=hd.cE.2;have J:=hd.c9.2;have K:=s.g.cE;have N:=s.g.c9;have F:=s.cn;unfold Jd;simp only[];rw[BQ (λi=>BH.mk R M h (AH.mk (bk.mk ((d.az.take i.toNat).map (AA h.bk.az)) []) ((d.az.take i.toNat).map (AA h.d6))) (GW h d) C) U V]
 rotate_left
 .intro i b j;have o:=hd.cE.1 _ (AG b j);have u:=hd.len;have D:=hd.sm.rows _ (AG o.1 U);rw[AD b j,bs,AD o.1 o.2,bs,AS a?,bs,AD o.1 U,bs,BL b_,bs,AS a?,bs,I3 b j,I3 b j]
 rw [bs,D_,z_];rw[BQ (λi=>BH.mk R M h (AH.mk (bk.mk (d.az.map (AA h.bk.az)) ((d.bi.take i.toNat).map λx=>RT (GW h d).az (AA h.bk.bi x))) (d.az.map (AA h.d6))) (GW h d) C) U V]
 rotate_left
 .intro i b j;have o:=hd.c9.1 _ (AG b j);have he:=hd.ends _ (AG o.1 o.2);have u:(GW h d).az.length=h.bk.az.length:=OP _ _;simp only[];rw[AD b j,bs,AD o.1 o.2,bs,AD he.1.1 U,bs,AD he.2.1 U,bs,AS a?,bs,I3 b j];rfl
 rw [bs,D_,z_];rw[BQ (λi=>BH.mk R M h (AH.mk (bk.mk (N1 R (CS h d) i) (CS h d).bk.bi) (Ol t R (CS h d) i)) (GW h d) C) U (by unfold N1 Ol;simp[AJ,CS])]
 rotate_left
 .intro i b j;have D:=LP (l:=R.ed.az) b;have G:=AG b j;have E:=s.kind _ G;have u:(N1 R (CS h d) i).length=d.az.length+(AJ R.ed.az i).length:=by unfold N1 CS;simp
  have w:(Ol t R (CS h d) i).length=d.az.length+(AJ R.ed.az i).length:=by unfold Ol CS;simp
  simp only[u];rw[AD b j,bs,AD b U,bs];by_cases hi:i∈R.ed.az
  .rw[QQ (by rw[o4];push_cast;exact λe=>(y i b j).1 e hi)];unfold N1 Ol;rw[D4 _ _ b,Ne hi,A?,D4 _ _ b,Ne hi,A?]
  .rw[Ne (by rw[o4];push_cast;exact(y i b j).2 hi),AS (by rw[u];simp;unfold AW;omega),bs,uF s.hf s.hv E.1 E.2,bs,AS (by rw[w];simp;unfold AW;omega),bs];unfold N1 Ol;rw[D4 _ _ b,QQ hi,D4 _ _ b,QQ hi,ae,ae]
 rw [bs];rw[BQ (λi=>BH.mk R M h (AH.mk (bk.mk (N1 R (CS h d) R.ci.bk.az.length) (PX R C (CS h d) i)) (Ol t R (CS h d) R.ci.bk.az.length)) (GW h d) C) U (by unfold PX;simp[AJ,CS])]
 rotate_left
 .intro i b j;have D:=LP (l:=R.ed.bi) b;have he:=s.g.fit _ (AG b j);have u:(PX R C (CS h d) i).length=d.bi.length+(AJ R.ed.bi i).length:=by unfold PX CS;simp
  simp only[u];rw[AD b j,bs,AD b U,bs];by_cases hi:i∈R.ed.bi
  .rw[QQ (by rw[o4];push_cast;exact λe=>(z i b j).1 e hi)];unfold PX;rw[D4 _ _ b,Ne hi,A?]
  .rw[Ne (by rw[o4];push_cast;exact(z i b j).2 hi),AD he.2.1.1 U,bs,AD he.2.2.1 U,bs,AS (by rw[u];simp;unfold AW;omega),bs];unfold PX;rw[D4 _ _ b,QQ hi,ae];rfl
 rw [bs];rfl
theorem gO(hf:Ao t)(hh:(Bc t h).2=0)(u:D5 h.bk d=0)(hd:cF h d):K6 t h d=Y (CS h d,0):=by
 have w:=hd.cE.2;unfold K6;rw[ZJ hf,bs,QQ q!,bI ⟨hd.cE.2,hd.c9.2⟩,QQ g!,bs,QQ V];have e:Gf h.bk d=(CS h d).bk:=by
  unfold Gf CS;congr 1;refine A' λx j=>?_;have j:=hd.c9.1 x j;have he:=hd.ends _ (AG j.1 j.2)
  grind [RT,GW,N4]
 simp;rw[Qe (λi=>AH.mk (Gf h.bk d) ((d.az.take i.toNat).map (AA h.d6))) (a:=0) (b:=d.az.length) U V]
 .rw[D_,z_,CB,e];rfl
 .intro i s o;have j:=hd.cE.1 _ (AG s o);have y:=hd.len;have z:=hd.sm.rows _ (AG j.1 U);rw[Ne b?,AD s o,bs,AD j.1 U,bs,BL b_,bs,AS a?,bs,I3 s o,Ap an an]
 .rw[QQ V]
end Go.Sf.Sc
namespace Go.Sf.Sc
open Go Go.Sf
def SQ(c:bn)(vars:Fp)(s:DW):(Int×Int)×Int:=((AA c.az s.ln,s.ff),DT s.ez vars)
def CD(r:d4)(c:bn)(vars:Fp):Be:=r.ci.d5.map (SQ c vars)
def Nx(t:AC)(x:AH)(p:(Int×Int)×Int):Bool:=
 decide (p.2<(AA (A5 t (AA x.bk.az p.1.1)) p.1.2).Low)||decide ((AA (A5 t (AA x.bk.az p.1.1)) p.1.2).Aab<p.2)
structure Wd(t:AC)(r:d4)(c:bn)(vars:Fp)(x:AH):Prop where
 hf:Ao t
 hv:(A0 t).2=0
 few:r.ci.d5.length<=1000
 fewv:vars.length<=1000
 slot:∀s∈r.ci.d5,(0<=s.ln/\s.ln<c.az.length)/\(-1<=s.ez.Var/\s.ez.Var<vars.length)/\
  (0<=AA c.az s.ln/\AA c.az s.ln<x.bk.az.length)/\(0<=s.ff/\s.ff<(A5 t (AA x.bk.az (AA c.az s.ln))).length)
 kind:∀n∈x.bk.az,0<=n/\n<t.az.length
 vlen:x.d6.length=x.bk.az.length
 rows:∀i:Int,0<=i->i<x.bk.az.length->(AA x.d6 i).length=(A5 t (AA x.bk.az i)).length
variable{L:Be}{i:Int}
theorem jw(b:0<=i)(e:i<=L.length)(h:∀j,0<=j->j<i->fq (λk=>decide ((AA L k).1=(AA L j).1)&&!decide ((AA L k).2=(AA L j).2)) 0 j=T):TO (L.take i.toNat):=by grind[aJ,Pp,BV,aN,YS,Q7]
def Xi(L:Be)(i:Int):Bool:=fq (λk=>decide ((AA L k).1=(AA L i).1)&&!decide ((AA L k).2=(AA L i).2)) 0 i
theorem pA(H:0<=i)(I:i<L.length)(w:TO (L.take i.toNat)):
  (((Qm (L.take i.toNat)).look (AA L i).1).isSome&&(!decide (((Qm (L.take i.toNat)).look (AA L i).1).getD 0=(AA L i).2)))=Xi L i:=by
 obtain ⟨J,z,K⟩:=iX _ w;unfold Xi;cases y:(Qm (L.take i.toNat)).look (AA L i).1 with
 |none=>
  rw [Option.isSome_none,C'];refine Eq.symm (BV.2 λk s u=>?_);have o:AA L k∈L.take i.toNat:=by
   rw [<-Q7 (n:=i.toNat) U]
   grind [AG,aN]
  rw [decide_eq_false (ay y _ ((z _).2 o)),C']
 |some v=>
  have o:=(z _).1 (VB y);rw[Option.isSome_some,B',Option.getD_some];have b:∀k,0<=k->k<i->(AA L k).1=(AA L i).1->(AA L k).2=v:=λk s u e=>by
   have E:AA L k∈L.take i.toNat:=by
    rw [<-Q7 (n:=i.toNat) U]
    grind [AG,aN]
   exact w _ E _ o e
  obtain ⟨k,s,u,D⟩:=Ay o;rw[aN]at u;rw[Q7 U]at D;rw[B?,Dv];constructor
  .intro h;refine⟨k,s,U,?_⟩;rw[D,decide_eq_true rfl,B'];exact h
  .rintro⟨j,F,G,h⟩;rw[gR,o4]at h;rw[<-b j F G h.1];exact h.2
theorem Ph(r:d4)(c:bn)(vars:Fp)(b:0<=i)(e:i<r.ci.d5.length):AA (CD r c vars) i=SQ c vars (AA r.ci.d5 i):=OV b e
theorem Ks(r:d4)(c:bn)(vars:Fp):(CD r c vars).length=r.ci.d5.length:=a6 ..
theorem dM(L:Be){ρ:Type}(v:ρ):fst (λi=>if Xi L i=X then Y v else W) 0 L.length=if Pp L=X then Y v else W:=OA
variable{t:AC}{R:d4}{M:AU}{B A:AH}{θ C:bn}
theorem kW(h:Wd t R C M.ei A):I9 (BH.mk R M B A θ C)=Y (if Pp (CD R C M.ei)=X then([],11)else(Qm (CD R C M.ei),0)):=by
 unfold I9;simp only[];rw[Mh (a:=0) (s:=([]:Be)) (λi=>Qm ((CD R C M.ei).take i.toNat)) (λi=>if Xi (CD R C M.ei) i=X then Y ([],11)else W) U rfl]
 .have:=dM (CD R C M.ei) (([],11):Be×Int);rw[Ks]at this;rw[this];by_cases e:Pp (CD R C M.ei)=X
  .rw[Ne e,Ne e];rfl
  .rw[QQ e,QQ e,<-Ks R C M.ei,D_,z_];rfl
 .intro i b o D;have u:=h.slot _ (AG b o);have E:TO ((CD R C M.ei).take i.toNat):=jw b (by rw[Ks];omega) λj y z=>by
   have:=D j y z;split at this
   .cases this
   next e=>exact C!.2 e
  have w:=pA (L:=CD R C M.ei) b (by rw[Ks];exact o) E;rw[AD b o,bs,eG u.2.1.1 u.2.1.2 h.fewv,bs,QQ V,AD u.1.1 u.1.2,bs];rw[Ph R C M.ei b o]at w;simp[SQ]at w;simp only[];by_cases e:Xi (CD R C M.ei) i=X
  .refine(Ne (w.trans e)).trans ?_;rw[Ne e];rfl
  .refine(QQ (λh=>e (w.symm.trans h))).trans ?_;rw[QQ e,CU b (by rw[Ks];exact o),dw,Ph R C M.ei b o];rfl
variable{α:Type}
theorem ia{f:α->I1}{g:α->Bool}:∀{l:List α},(∀p∈l,f p=Y (g p))->AaA f l=Y (l.all g)
 |[],_=>rfl|p::r,h=>by
  unfold AaA;rw[h p List.mem_cons_self,bs,ia λq b=>h q (w? _ b),bs,List.all_cons]
variable{r:d4}{c:bn}{x:AH}
theorem fM{vars:Fp}(h:Wd t r c vars x){s:DW}(w:s∈r.ci.d5){κ:List Fp}(y:N6 κ x.d6):
  idx κ (AA c.az s.ln)=Y (AA κ (AA c.az s.ln))/\idx (AA κ (AA c.az s.ln)) s.ff=Y (AA (AA κ (AA c.az s.ln)) s.ff):=by
 have j:=h.slot s w;have hv:=h.vlen;have F:=h.rows _ j.2.2.1.1 j.2.2.1.2;have z:idx x.d6 (AA c.az s.ln)=Y (AA x.d6 (AA c.az s.ln)):=AD j.2.2.1.1 U;have D:idx (AA x.d6 (AA c.az s.ln)) s.ff=Y (AA (AA x.d6 (AA c.az s.ln)) s.ff):=AD j.2.2.2.1 U;obtain⟨E,x',a,b⟩:=y.idx z D;have o:=Gn a;have u:=Gn b;have G:=(B_.1 o.2.2).1;have e:AA κ (AA c.az s.ln)=E:=by
  grind [AD,Option.some.inj]
 have H:=(B_.1 u.2.2).1;refine⟨AD o.1 U,?_⟩;rw[e];exact AD u.1 U
theorem pH(h:Wd t R C M.ei A){p:(Int×Int)×Int}(o:p∈CD R C M.ei):Ps t (BH.mk R M B A θ C) p=Y (!Nx t A p):=by
 obtain ⟨s,j,rfl⟩:=w!.1 o;have b:=h.slot s j;have e:=h.kind _ (AG b.2.2.1.1 b.2.2.1.2);obtain⟨u,w⟩:=fM h j (κ:=A.d6) rfl;unfold Ps Pr SQ Nx;simp;rw[AD b.2.2.1.1 b.2.2.1.2,bs,TA h.hf,KW h.hv e.1 e.2,bs];simp;simp[AD b.2.2.2.1 b.2.2.2.2,u,w,Wt]
 grind
def IA(t:AC)(x:AH)(L:Be):AH×Int:=
 if Pp L=X then(⟨⟨[],[]⟩,[]⟩,11)else if L.any (Nx t x)=X then(⟨⟨[],[]⟩,[]⟩,6)else(⟨x.bk,L.foldl Cq x.d6⟩,0)
theorem we(h:Wd t R C M.ei A):MT t (BH.mk R M B A θ C)=Y ((IA t A (CD R C M.ei)).2,if(IA t A (CD R C M.ei)).2=0 then BH.mk R M B (IA t A (CD R C M.ei)).1 θ C else BH.mk R M B A θ C):=by
 unfold MT IA;rw[kW h,bs];by_cases e:Pp (CD R C M.ei)=X
 .grind
 .rw[QQ e,QQ V,QQ e];obtain⟨o,s,u⟩:=iX _ (aJ (C!.2 e));have j:AaA (Ps t (BH.mk R M B A θ C)) (Qm (CD R C M.ei))=Y (!(CD R C M.ei).any (Nx t A)):=by
   rw [ia (g:=λp=>!Nx t A p) λp b=>pH h ((s p).1 b)]
   grind
  rw [Ne (by simpa using(show List.Pairwise (λx y:(Int×Int)×Int=>x.1≠y.1) _ from o)),j,bs]
  grind [CD,Nx,O5]
theorem AAX{vars:Fp}(h:Wd t r c vars x):OK t r x c vars=Y (IA t x (CD r c vars)):=by
 unfold OK IA;rw[Mh (a:=0) (s:=AH.mk (bk.mk [] []) []) (λ_=>AH.mk (bk.mk [] []) []) (λi=>if Xi (CD r c vars) i=X then Y (AH.mk (bk.mk [] []) [],(11:Int))else W) U rfl]
 .have:=dM (CD r c vars) ((AH.mk (bk.mk [] []) [],(11:Int)));rw[Ks]at this;rw[this];by_cases e:Pp (CD r c vars)=X
  .rw[Ne e,Ne e];rfl
  rw [QQ e,QQ e];show eb (Y (Sum.inl _)) _ _=_;rw[CB,Mh (a:=0) (s:=(x,AH.mk (bk.mk [] []) [])) (λi=>(AH.mk x.bk (((CD r c vars).take i.toNat).foldl Cq x.d6),AH.mk (bk.mk [] []) [])) (λi=>if Nx t x (AA (CD r c vars) i)=X then Y (AH.mk (bk.mk [] []) [],(6:Int))else W) U rfl]
  .have:=iO (l:=CD r c vars) (q:=Nx t x) (v:=(AH.mk (bk.mk [] []) [],(6:Int)));rw[Ks]at this;rw[this];by_cases j:(CD r c vars).any (Nx t x)=X
   .rw[Ne j,Ne j];rfl
   .rw[QQ j,QQ j];show Y (AH.mk x.bk (((CD r c vars).take (r.ci.d5.length:Int).toNat).foldl Cq x.d6),(0:Int))=_
    grind [Ks,D_,z_]
  .intro i o u _;have D:=AG o u;have b:=h.slot _ D;have w:=h.kind _ (AG b.2.2.1.1 b.2.2.1.2);obtain⟨F,G⟩:=fM h D (κ:=((CD r c vars).take i.toNat).foldl Cq x.d6) (pL _ _);simp only[AD o u,bs];rw[Pd b.2.1.1 b.2.1.2,bs,AD b.1.1 b.1.2,bs,AD b.2.2.1.1 b.2.2.1.2,bs,RD h.hf,KW h.hv w.1 w.2,bs];simp only[];rw[AD b.2.2.2.1 b.2.2.2.2,bs,bs,Wt,bs,F,bs,G,bs];rw[Ph r c vars o u,CU o (by rw[Ks];exact u),x_,Ph r c vars o u];show(if(Nx t x (SQ c vars (AA r.ci.d5 i)))=X then _ else _)=_;by_cases j:Nx t x (SQ c vars (AA r.ci.d5 i))=X
   .rw[Ne j,Ne j];rfl
   .rw[QQ j,QQ j];have:=dW (p:=SQ c vars (AA r.ci.d5 i)) F G;exact congrArg (λη=>Y (B3.next (σ:=AH×AH) (ρ:=AH×Int) (AH.mk x.bk η,AH.mk (bk.mk [] []) []))) this
 .intro i o u _;have b:=h.slot _ (AG o u);rw[AD o u,bs,Pd b.2.1.1 b.2.1.2,bs];rw[Mh (a:=0) (s:=AH.mk (bk.mk [] []) []) (λ_=>AH.mk (bk.mk [] []) []) (λk=>if(decide ((AA (CD r c vars) k).1=(AA (CD r c vars) i).1)&&!decide ((AA (CD r c vars) k).2=(AA (CD r c vars) i).2))=X then Y (AH.mk (bk.mk [] []) [],(11:Int))else W) o rfl]
  .rw[OA];unfold Xi;split<;>rfl
  .intro k y I _;have w:=h.slot _ (AG y (show k<r.ci.d5.length by omega));simp[AD o u,AD y (show k<r.ci.d5.length by omega)];rw[Pd w.2.1.1 w.2.1.2,bs,AD w.1.1 w.1.2,bs,AD b.1.1 b.1.2,bs,Ph r c vars o u,Ph r c vars y U];simp[SQ];by_cases E:AA c.az (AA r.ci.d5 k).ln=AA c.az (AA r.ci.d5 i).ln<;>by_cases j:(AA r.ci.d5 k).ff=(AA r.ci.d5 i).ff<;>by_cases z:DT (AA r.ci.d5 i).ez vars=DT (AA r.ci.d5 k).ez vars
   all_goals first|(have H:¬DT (AA r.ci.d5 k).ez vars=DT (AA r.ci.d5 i).ez vars:=λh=>z h.symm;simp[E,j,z,H,n8];done)|(simp[E,j,z,n8];done)
end Go.Sf.Sc
namespace Go.Sf.Sc
open Go Go.Sf
variable{t:AC}{r:d4}
theorem Q2(h:FE t r=0):H7 t r.ea=0/\K9 t r=0/\Ni t r.ea r.ca=0:=by grind[FE]
theorem gV(h:K9 t r=0):r.ci.ei=r.ea.ei/\r.ci.d5.length<=10/\∀i:Int,0<=i->i<r.ci.d5.length->P5 t r.ci i=0:=by
 unfold K9 at h;split at h
 .omega
 split at h
 .cases h
 split at h
 .cases h
 split at h
 .cases h
 rename_i b e j o;exact⟨U,U,S4 h⟩
variable{i:Int}
theorem lG{p:c7}(h:P5 t p i=0):(0<=(AA p.d5 i).ln/\(AA p.d5 i).ln<p.bk.az.length)/\
  (0<=(AA p.d5 i).ff/\(AA p.d5 i).ff<(HN t (AA p.bk.az (AA p.d5 i).ln)).1.length)/\-1<=(AA p.d5 i).ez.Var/\(AA p.d5 i).ez.Var<p.ei:=by
 unfold P5 at h;dsimp only at h;split at h
 .cases h
 split at h
 .cases h
 rename_i e b;simp[o4]at b;omega
structure ID(t:AC)(r:d4)(h:AH)(m:AU):Prop where
 hf:Ao t
 fr:DN r
 re:FE t r=0
 he:(Bc t h).2=0
 at_:YJ t r.ea h m
 co:cY (JQ r.ea.bk h.bk m.bn) h.bk r.kx m.bn
abbrev dS(r:d4)(h:AH)(m:AU):BN:=Kn h.bk r.kx m.bn
abbrev cS(r:d4)(h:AH)(m:AU):bn:=cmS r h m.bn (dS r h m)
variable{h:AH}{m:AU}
theorem ID.hv(s:ID t r h m):(A0 t).2=0:=(RF s.re).1
theorem ID.ro(s:ID t r h m):So t r:=(RF s.re).2
theorem ID.hh(s:ID t r h m):Gg t h:=(Du s.hf s.he).2
theorem kF(hf:Ao t)(hv:(A0 t).2=0)(hh:Gg t h):OS h:=by
 have j:=hh.g.cE;have o:=hh.g.c9;have s:=hh.len;refine⟨U,U,U,λv b=>?_⟩;obtain⟨i,e,y,rfl⟩:=Ay b;have u:=hh.row i e U;have w:=JI hf (D? _) (Ck hv).par (hh.kind i e U).2;omega
theorem ID.rem(s:ID t r h m):cF h (dS r h m):=by
 have hh:=s.hh;have j:=hh.g.cE;have o:=hh.g.c9;have l1:=IL (Ej m.bn.az r.kx.az) h.bk.az.length;have l2:=IL (Ej m.bn.bi r.kx.bi) h.bk.bi.length;exact⟨kF s.hf s.hv hh,hh.len,⟨λx b=>CP b,by show(AJ _ _).length<=1000;omega⟩,⟨λx b=>CP b,by show(AJ _ _).length<=1000;omega⟩,λe he=>(hh.g.fit e he).2⟩
theorem ID.part(s:ID t r h m):D5 h.bk (dS r h m)=0:=by
 unfold D5;rw[QQ (by simp[s.hh.ge])];exact nj s.co
variable{count n:Nat}
theorem l9{ek into images:Fp}{BI:Fp}(few:count<=1000)(nodup:into.Nodup)(len:into.length=ek.length)(inn:∀x∈into,0<=x/\x<count)
  (kin:∀x∈ek,0<=x/\x<images.length)(j:∀x∈images,0<=x/\x<n)(hi:Aag images ek=T)(o:BI=Ej images ek):
  Wa count ek into (images.map (AA (Gr n (AJ BI n))))/\(∀x∈ek,AA (images.map (AA (Gr n (AJ BI n)))) x<(AJ BI n).length)/\
  ∀x∈ek,AA (images.map (AA (Gr n (AJ BI n)))) x=A1 (AJ BI n) (AA images x)/\AA images x∈AJ BI n:=by
 have e:∀x∈ek,AA (images.map (AA (Gr n (AJ BI n)))) x=A1 (AJ BI n) (AA images x)/\AA images x∈AJ BI n:=λx b=>by
  grind [AG,OV,N4,O1,U9]
 refine ⟨⟨few,nodup,len,inn,λx b=>by rw[a6];exact kin x b,λx b=>?_⟩,λx b=>?_,e⟩
 .rw[(e x b).1];exact Of.2 (e x b).2
 .rw[(e x b).1];exact(Wl _ _).2
theorem ID.left(s:ID t r h m):m.bn.az.length=r.ea.bk.az.length/\m.bn.bi.length=r.ea.bk.bi.length:=⟨s.at_.m.tc,s.at_.m.wi⟩
theorem ID.AbW(s:ID t r h m):Wa r.ci.bk.az.length r.kx.az r.ed.az (m.bn.az.map (AA (GW h (dS r h m)).az))/\
  (∀x∈r.kx.az,AA (m.bn.az.map (AA (GW h (dS r h m)).az)) x<(dS r h m).az.length)/\
  ∀x∈r.kx.az,AA (m.bn.az.map (AA (GW h (dS r h m)).az)) x=A1 (dS r h m).az (AA m.bn.az x)/\AA m.bn.az x∈(dS r h m).az:=by
 have ro:=s.ro;have o:=ro.right.cE;refine l9 U ro.inj.1 ?_ (λx b=>?_) (λx b=>?_) (λx b=>?_) s.co.cE rfl
 .have:=ro.mor.tc;rw[this];exact a6 ..
 .obtain⟨i,e,j,rfl⟩:=Ay b;exact(ro.mor.node i e j).1
 .have:=ro.part.cE.1 x b;have:=s.left.1;omega
 .obtain⟨i,e,j,rfl⟩:=Ay b;exact(s.at_.m.node i e j).1
theorem ID.AbZ(s:ID t r h m):Wa r.ci.bk.bi.length r.kx.bi r.ed.bi (m.bn.bi.map (AA (GW h (dS r h m)).bi))/\
  (∀x∈r.kx.bi,AA (m.bn.bi.map (AA (GW h (dS r h m)).bi)) x<(dS r h m).bi.length)/\
  ∀x∈r.kx.bi,AA (m.bn.bi.map (AA (GW h (dS r h m)).bi)) x=A1 (dS r h m).bi (AA m.bn.bi x)/\AA m.bn.bi x∈(dS r h m).bi:=by
 have ro:=s.ro;have o:=ro.right.c9;refine l9 U ro.inj.2 ?_ (λx b=>?_) (λx b=>?_) (λx b=>?_) s.co.c9 rfl
 .have:=ro.mor.wi;rw[this];exact a6 ..
 .obtain⟨i,e,j,rfl⟩:=Ay b;exact(ro.mor.edge i e j).1
 .have:=ro.part.c9.1 x b;have:=s.left.2;omega
 .obtain⟨i,e,j,rfl⟩:=Ay b;exact s.at_.m.edge i e j
theorem iA{ek into at_:Fp}(h:Wa count ek into at_)(b:∀x∈ek,AA at_ x<n)(j:0<=i)(o:i<count):AA (Uu count ek into at_ n) i=n+(AJ into i).length↔i∉into:=by
 rw [dL j o];constructor
 .intro e hi;rw[Sx hi]at e;have s:=BP hi;have:=b _ (AG (l:=ek) s.1 v!);omega
 .exact TZ
theorem ID.grow(s:ID t r h m):YL t r (cS r h m):=
 ⟨s.hf,s.hv,s.ro.right,(Cw s.ro.right s.ro.Aam).1,Zf _ _ _ _ _⟩
theorem XT(l:Fp)(b:0<=i):∀(k:Nat),∃s,AJ l (i+k)=AJ l i++s
 |0=>⟨[],V⟩|k+1=>by
  obtain ⟨s,e⟩:=XT l b k
  grind [JX,ae]
variable{l:Fp}
theorem Im{i n:Int}(b:0<=i)(j:i<n)(h:i∉l):AA (AJ l n) (AJ l i).length=i/\((AJ l i).length:Int)<(AJ l n).length:=by
 obtain ⟨s,e⟩:=XT l (i:=i+1) U (n-(i+1)).toNat
 rw [show i+1+((n-(i+1)).toNat:Int)=n by omega,JX l b]at e
 grind [hasB,Ag,AA]
variable{α:Type}
theorem Er[Inhabited α]{l m:List α}(b:0<=i)(e:i<l.length):AA (l++m) i=AA l i:=by grind[HM]
theorem ND[Inhabited α]{l m:List α}:AA (l++m) (l.length+n:Int)=AA m n:=by grind[HM,AA,D_]
variable{a:Int}
theorem Xs(h:0<=a):isB t a a=X:=by
 unfold isB;rw[show(a+1).toNat=a.toNat+1 by omega,Gs,QQ U];simp
theorem ID.AbB(s:ID t r h m)(u:0<=i)(w:i<r.ci.bk.az.length):
  (0<=AA (cS r h m).az i/\AA (cS r h m).az i<(DL t r (CS h (dS r h m)) (cS r h m)).bk.az.length)/\
  AA (DL t r (CS h (dS r h m)) (cS r h m)).bk.az (AA (cS r h m).az i)<t.az.length/\isB t (AA (DL t r (CS h (dS r h m)) (cS r h m)).bk.az (AA (cS r h m).az i)) (AA r.ci.bk.az i)=X:=by
 obtain ⟨G,N,O⟩:=s.AbW;have H:AA (cS r h m).az i=PP r.kx.az r.ed.az (m.bn.az.map (AA (GW h (dS r h m)).az)) (dS r h m).az.length i:=dL u w;have el:(DL t r (CS h (dS r h m)) (cS r h m)).bk.az=(dS r h m).az.map (AA h.bk.az)++(EQ r).map (AA r.ci.bk.az):=rfl;rw[H,el,aE,a6,a6];by_cases hi:i∈r.ed.az
 .have b:=BP hi;have P:=G.len;have j:=AG (l:=r.kx.az) b.1 U;have D:=O _ j;have E:=N _ j;have y:=G.pos _ j;rw[Sx hi];refine⟨⟨y,by push_cast;omega⟩,?_⟩;rw[Er y (by rw[a6];exact E),OV y E,D.1,(BP D.2).2.2.1];have o:=s.ro.part.cE.1 _ j;have I:=s.left.1;have z:=s.at_.m.node _ o.1 U;have J:=s.hh.kind _ z.1.1 z.1.2;have F:=s.ro.mor.node _ b.1 b.2.1;rw[b.2.2.1]at F;have K:AA (Gf r.ea.bk r.kx).az (A1 r.ed.az i)=AA r.ea.bk.az (AA r.kx.az (A1 r.ed.az i)):=OV b.1 U;rw[F.2,K];exact⟨J.2,z.2⟩
 .have o:=Im u w hi;rw[TZ hi];have e:((dS r h m).az.map (AA h.bk.az)).length=(dS r h m).az.length:=a6 ..;refine⟨⟨U,?_⟩,?_⟩
  .have:((EQ r).length:Int)=(AJ r.ed.az r.ci.bk.az.length).length:=rfl
   push_cast
   omega
  .rw[<-e,ND,show EQ r=AJ r.ed.az r.ci.bk.az.length from rfl,OV U o.2];show AA r.ci.bk.az (AA (AJ r.ed.az r.ci.bk.az.length) (AJ r.ed.az i).length)<(t.az.length:Int)/\isB t (AA r.ci.bk.az (AA (AJ r.ed.az r.ci.bk.az.length) (AJ r.ed.az i).length)) _=X;rw[o.1];have:=(Cw s.ro.right s.ro.Aam).1 _ (AG u w);exact⟨this.2,Xs this.1⟩
theorem ID.rows(s:ID t r h m):(DL t r (CS h (dS r h m)) (cS r h m)).d6.map (λv=>v.length)=(DL t r (CS h (dS r h m)) (cS r h m)).bk.az.map λn=>(A5 t n).length:=by
 show (List.map _ (_++_))=List.map _ (_++_);rw[A_,A_];congr 1
 .show((dS r h m).az.map (AA h.d6)).map _=((dS r h m).az.map (AA h.bk.az)).map _;rw[x?,x?];refine A' λx b=>?_;have b:=s.rem.cE.1 x b;exact s.hh.row x b.1 b.2
 grind [x?,A',Xu,a6]
theorem ID.put(s:ID t r h m):Wd t r (cS r h m) m.ei (DL t r (CS h (dS r h m)) (cS r h m)):=by
 obtain ⟨P,H,Q⟩:=Q2 s.re;obtain⟨hv,S,z⟩:=gV H;have K:=s.at_.q.vars;have D:=s.at_.len;have w:=s.rows;have y:(DL t r (CS h (dS r h m)) (cS r h m)).d6.length=(DL t r (CS h (dS r h m)) (cS r h m)).bk.az.length:=by
  grind [List.length,a6]
 refine ⟨s.hf,s.hv,U,U,λx b=>?_,λn e=>?_,y,λi j u=>?_⟩
 .obtain⟨i,j,u,rfl⟩:=Ay b;obtain⟨o,I,ε⟩:=lG (z i j u);have E:=(Cw s.ro.right s.ro.Aam).1 _ (AG o.1 o.2);rw[KW s.hv E.1 E.2]at I;obtain⟨κ,J,F⟩:=s.AbB o.1 o.2;replace F:=av (Ck s.hv) J F;have G:(cS r h m).az.length=r.ci.bk.az.length:=Zf _ _ _ _ _
  grind
 .have e:n∈(dS r h m).az.map (AA h.bk.az)++(EQ r).map (AA r.ci.bk.az):=e;rcases List.mem_append.1 e with e|e
  .obtain⟨x,b,rfl⟩:=w!.1 e;have b:=s.rem.cE.1 x b;exact s.hh.kind x b.1 b.2
  .obtain⟨x,b,rfl⟩:=w!.1 e;have b:=CP b;exact(Cw s.ro.right s.ro.Aam).1 _ (AG b.1 b.2)
 .have N:=OV (l:=(DL t r (CS h (dS r h m)) (cS r h m)).d6) (g:=λv=>v.length) j U;have O:=OV (l:=(DL t r (CS h (dS r h m)) (cS r h m)).bk.az) (g:=λn=>(A5 t n).length) j u
  grind
end Go.Sf.Sc
namespace Go.Sf.Sc
open Go Go.Sf
abbrev zRu:d4:=d4.mk (⟨#[]⟩:ByteArray) (c7.mk (bk.mk [] []) [] 0 []) (c7.mk (bk.mk [] []) [] 0 []) (BN.mk [] []) (bn.mk [] []) T (ca.mk 0 [] (bn.mk [] []) (c7.mk (bk.mk [] []) [] 0 []))
abbrev zG:BH:=BH.mk zRu (AU.mk (bn.mk [] []) []) (AH.mk (bk.mk [] []) []) (AH.mk (bk.mk [] []) []) (bn.mk [] []) (bn.mk [] [])
def Wm(t:AC)(r:d4)(h:AH)(m:AU):BH×Int:=
 if (IA t (DL t r (CS h (dS r h m)) (cS r h m)) (CD r (cS r h m) m.ei)).2≠0 then(zG,(IA t (DL t r (CS h (dS r h m)) (cS r h m)) (CD r (cS r h m) m.ei)).2)else
 if 40<(IA t (DL t r (CS h (dS r h m)) (cS r h m)) (CD r (cS r h m) m.ei)).1.bk.az.length\/80<(IA t (DL t r (CS h (dS r h m)) (cS r h m)) (CD r (cS r h m) m.ei)).1.bk.bi.length then(zG,3)else
 (BH.mk r m h (IA t (DL t r (CS h (dS r h m)) (cS r h m)) (CD r (cS r h m) m.ei)).1 (GW h (dS r h m)) (cS r h m),0)
noncomputable def GF(t:AC)(r:d4)(h:AH)(m:AU):BH×Int:=
 if FE t r≠0 then(zG,FE t r)else if(Bc t h).2≠0 then(zG,(Bc t h).2)else
 if Ez t r.ea.bk h.bk m.bn r.fd≠0 then(zG,1)else
 if (F5 t r.ea h m.bn).2≠0 then(zG,(F5 t r.ea h m.bn).2)else if¬(F5 t r.ea h m.bn).1=m.ei then(zG,11)else
 if (Mc (JQ r.ea.bk h.bk m.bn) h.bk r.kx m.bn).2≠0 then(zG,(Mc (JQ r.ea.bk h.bk m.bn) h.bk r.kx m.bn).2)else
 if (MQ t r.ea r.ca h m r.fd).2≠0 then(zG,(MQ t r.ea r.ca h m r.fd).2)else
 if (MQ t r.ea r.ca h m r.fd).1=T then(zG,16)else Wm t r h m
variable{t:AC}{r:d4}{h:AH}{m:AU}
theorem Wg(b:FE t r=0)(e:(Bc t h).2=0)(j:Ez t r.ea.bk h.bk m.bn r.fd=0)(o:(F5 t r.ea h m.bn).2=0)(s:(F5 t r.ea h m.bn).1=m.ei):Sw t r.ea r.ca h m r.fd=0:=by
 unfold Sw;rw[QQ (by simp[(Q2 b).2.2]),QQ d!,QQ j!,QQ j_,Ne s]
theorem iS{ζ:Option (BH×Int)}(hX:(IA t (DL t r (CS h (dS r h m)) (cS r h m)) (CD r (cS r h m) m.ei)).2=0->ζ=
   if ((decide (40<((IA t (DL t r (CS h (dS r h m)) (cS r h m)) (CD r (cS r h m) m.ei)).1.bk.az.length:Int)))||(decide (80<((IA t (DL t r (CS h (dS r h m)) (cS r h m)) (CD r (cS r h m) m.ei)).1.bk.bi.length:Int))))=X then Y (zG,3)else
   Y (BH.mk r m h (IA t (DL t r (CS h (dS r h m)) (cS r h m)) (CD r (cS r h m) m.ei)).1 (GW h (dS r h m)) (cS r h m),0)):
  (if(!decide ((IA t (DL t r (CS h (dS r h m)) (cS r h m)) (CD r (cS r h m) m.ei)).2=0))=X then Y (zG,(IA t (DL t r (CS h (dS r h m)) (cS r h m)) (CD r (cS r h m) m.ei)).2)else ζ)=Y (Wm t r h m):=by
 unfold Wm;refine Dd λb=>?_;rw[hX b];refine QB an λ_=>rfl
theorem wt(hf:Ao t)(fr:DN r)(F:GH r.ca<=40)(h:AH)(m:AU):Kt t r h m=Y (GF t r h m):=by
 unfold Kt M1 GF;rw[Pb hf,bs];by_cases hv:¬(A0 t).2=0
 .grind[FE,A0]
 have hv:=C?.1 hv;rw[QQ t!,nJ hf fr,bs,RZ hf,bs];by_cases j:¬FE t r=0
 .grind
 have j:=C?.1 j;rw[QQ j!,bs,QQ (show¬FE t r≠0 by simp[j])];refine Dd λG=>?_;rw[Option.bind_fun_some];unfold M0 KV;rw[Zt hf,bs];by_cases o:¬Ez t r.ea.bk h.bk m.bn r.fd=0
 .grind
 have o:=C?.1 o;rw[QQ j_,ig hf,bs,QQ (show¬Ez t r.ea.bk h.bk m.bn r.fd≠0 by simp[o])];by_cases w:¬(F5 t r.ea h m.bn).2=0
 .grind
 have w:=C?.1 w;rw[QQ (by simp[w]),sU,bs,QQ (show¬(F5 t r.ea h m.bn).2≠0 by simp[w])];by_cases y:¬(F5 t r.ea h m.bn).1=m.ei
 .grind
 have y:=C?.1 y;rw[QQ (by simp[y]),bs,QQ V,QQ (show¬¬(F5 t r.ea h m.bn).1=m.ei by simp[y])];rw[wj hf o,bs,QQ V,wb fr.ek,bs];refine Dd λH=>?_;obtain⟨_,_,_,z⟩:=Yb hf F (Wg j G o w y);obtain⟨co,Q⟩:=Zg H;rw[gL hf _ fr.cond F,bs,Q];refine Dd λS=>?_;refine Us λε=>?_;have s:ID t r h m:=⟨hf,fr,j,G,z,co⟩;have u:=s.rem;have κ:=s.hh.g.cE;have η:=s.hh.g.c9;have l1:=s.left.1;have l2:=s.left.2;have ζ:=s.ro.left.cE;have δ:=s.ro.left.c9;have J:=z.len;have K:=z.q.vars;have E:KU m=Y m:=by
  unfold KU slices_Clone_int;rw[BL b_,bs,BL b_,bs,BL b_,bs]
 simp only[];rw[E,bs,kX u.sm,bs];rw[iq U u.cE.2 (OL _ _),bs,iq U u.c9.2 (OL _ _),bs];have N:HZ r.ci.bk.az.length r.kx.az r.ed.az m.bn.az (Gr h.bk.az.length (dS r h m).az) (Kn h.bk r.kx m.bn).az.length=Y (cS r h m).az:=
  bC s.AbW.1 (λx D=>by rw[OP];obtain⟨i,b,e,rfl⟩:=Ay D;exact(z.m.node i b e).1) U (E_.2 u.cE.2)
 have O:HZ r.ci.bk.bi.length r.kx.bi r.ed.bi m.bn.bi (Gr h.bk.bi.length (dS r h m).bi) (Kn h.bk r.kx m.bn).bi.length=Y (cS r h m).bi:=
  bC s.AbZ.1 (λx D=>by rw[OP];obtain⟨i,b,e,rfl⟩:=Ay D;exact z.m.edge i b e) U (E_.2 u.c9.2)
 rw [N,bs,O,bs];have P:=uB (M:=m) s.grow u (Zf _ _ _ _ _) (λi b e=>iA s.AbW.1 s.AbW.2.1 b e) (λi b e=>iA s.AbZ.1 s.AbZ.2.1 b e);change ((Jd t (BH.mk r m h (AH.mk (bk.mk [] []) []) (GW h (dS r h m)) (cS r h m)) (dS r h m)).bind _)=_;rw[P,bs,we s.put,bs];exact iS λI=>by rw[Ne I]
theorem nV(hf:Ao t){p:c7}{c:ca}(b:GH c<=40){inj:Bool}(e:Sw t p c h m inj=0):NP t c h m inj=Y (MQ t p c h m inj):=by
 obtain ⟨hv,hh,j,o⟩:=Yb hf b e
 grind [NP,MQ,wS,DH,uz,mt,qN]
theorem fC(hf:Ao t)(fr:DN r)(I:GH r.ca<=40)(h:AH)(m:AU):Jt t r h m=Y (GF t r h m):=by
 unfold Jt Ju GF;rw[fB hf fr,bs,ZJ hf,bs];by_cases b:¬FE t r=0
 .rw[Ne (by simp[b]),bs,Ne (by simp[b]),Ne b]
 have b:=C?.1 b;rw[QQ (by simp[b]),bs,QQ (show¬FE t r≠0 by simp[b])];refine Dd λD=>?_;unfold Mw;rw[Zy hf,bs];by_cases e:¬Ez t r.ea.bk h.bk m.bn r.fd=0
 .rw[Ne d!,bs,Ne V,Ne e]
 have e:=C?.1 e;rw[QQ d!,uQ hf,bs,QQ (show¬Ez t r.ea.bk h.bk m.bn r.fd≠0 by simp[e])];by_cases j:¬(F5 t r.ea h m.bn).2=0
 .rw[Ne j!,bs,Ne j!,Ne j]
 have j:=C?.1 j;rw[QQ j!,uP,bs,QQ (show¬(F5 t r.ea h m.bn).2≠0 by simp[j])];by_cases w:¬(F5 t r.ea h m.bn).1=m.ei
 .rw[Ne (by simp[w]),bs,Ne V,Ne w]
 have w:=C?.1 w;rw[QQ (by simp[w]),QQ (show¬¬(F5 t r.ea h m.bn).1=m.ei by simp[w])];rw[xE hf e,bs,QQ V,w6 fr.ek,bs];by_cases o:¬(Mc (JQ r.ea.bk h.bk m.bn) h.bk r.kx m.bn).2=0
 .rw[Ne j_,bs,Ne j_,Ne o]
 have o:=C?.1 o;rw[QQ j_,QQ (show¬(Mc (JQ r.ea.bk h.bk m.bn) h.bk r.kx m.bn).2≠0 by simp[o])];have z:=Wg b D e j w;obtain⟨_,_,_,F⟩:=Yb hf I z;obtain⟨co,N⟩:=Zg o;rw[nV hf I z,bs,N,Iw,bs,bs];by_cases u:¬(MQ t r.ea r.ca h m r.fd).2=0
 .rw[QQ (show¬((decide ((MQ t r.ea r.ca h m r.fd).2=0)&&!(MQ t r.ea r.ca h m r.fd).1)=X)by simp[u]),Ne g!,Ne u]
 have u:=C?.1 u;rw[QQ (show¬(MQ t r.ea r.ca h m r.fd).2≠0 by simp[u])];cases P:(MQ t r.ea r.ca h m r.fd).1 with
 |false=>rw[Ne (show(decide ((MQ t r.ea r.ca h m r.fd).2=0)&&!T)=X by simp[u]),Ne V,Ne rfl]|true=>
 rw [QQ (show¬(decide ((MQ t r.ea r.ca h m r.fd).2=0)&&!X)=X by simp),QQ g!,QQ V];have s:ID t r h m:=⟨hf,fr,b,D,F,co⟩;have y:=s.rem;have Q:=s.hh.g.cE;have S:=s.hh.g.c9;have l1:=s.left.1;have l2:=s.left.2;have ε:=s.ro.left.cE;have κ:=s.ro.left.c9;unfold Nq MJ;simp only[];rw[gO hf D s.part y,bs,ef U y.cE.2 ((OL _ _).imp λh=>U),bs,bs,ef U y.c9.2 ((OL _ _).imp λh=>U),bs,bs,bs];simp only[];rw[ZI U (λx E=>by rw[OP];obtain⟨i,G,H,rfl⟩:=Ay E;exact(F.m.node i G H).1),bs];rw[ZI U (λx E=>by rw[OP];obtain⟨i,G,H,rfl⟩:=Ay E;exact F.m.edge i G H),bs];have J:Ga r.kx.az r.ed.az r.ci.bk.az.length (m.bn.az.map (AA (Gr h.bk.az.length (dS r h m).az))) (Kn h.bk r.kx m.bn).az.length=Y (cS r h m).az:=
  bJ s.AbW.1 U (E_.2 y.cE.2)
 have K:Ga r.kx.bi r.ed.bi r.ci.bk.bi.length (m.bn.bi.map (AA (Gr h.bk.bi.length (dS r h m).bi))) (Kn h.bk r.kx m.bn).bi.length=Y (cS r h m).bi:=
  bJ s.AbZ.1 U (E_.2 y.c9.2)
 rw [J,bs,K,bs];rw[nT (bU y),bs];change ((Mv t r (CS h (dS r h m)) (cS r h m)).bind _)=_;rw[xC s.grow (bU y),bs];change ((OK t r (DL t r (CS h (dS r h m)) (cS r h m)) (cS r h m) m.ei).bind _)=_;rw[AAX s.put,bs];exact iS λO=>rfl
end Go.Sf.Sc
namespace Go.Sf.Sc
open Go Go.Sf
instance:Inhabited d4:=⟨zRu⟩
instance:Inhabited DC:=⟨⟨0,⟨⟨[],[]⟩,[]⟩⟩⟩
instance:Inhabited BH:=⟨zG⟩
structure ABb(c8:List d4):Prop where
 len:c8.length<=12
 each:∀r∈c8,DN r/\GH r.ca<=40
structure ABZ(h:AH)(s:BH):Prop where
 tc:s.Aaq.az.length=h.bk.az.length
 wi:s.Aaq.bi.length=h.bk.bi.length
 node:∀x∈s.Aaq.az,-1<=x/\x<s.l4.bk.az.length
 edge:∀x∈s.Aaq.bi,-1<=x/\x<s.l4.bk.bi.length
 sm:OS s.l4
variable{t:AC}{x:AH}{L:Be}
theorem nR(h:(IA t x L).2=0):IA t x L=(⟨x.bk,L.foldl Cq x.d6⟩,0)/\L.any (Nx t x)=T:=by
 unfold IA at h|-
 grind
structure YR(t:AC)(r:d4)(h:AH)(m:AU):Prop where
 f:ID t r h m
 sat:MQ t r.ea r.ca h m r.fd=(X,0)
 solve:F5 t r.ea h m.bn=(m.ei,0)
 chk:Ez t r.ea.bk h.bk m.bn r.fd=0
 put:(IA t (DL t r (CS h (dS r h m)) (cS r h m)) (CD r (cS r h m) m.ei)).2=0
 few:(DL t r (CS h (dS r h m)) (cS r h m)).bk.az.length<=40/\(DL t r (CS h (dS r h m)) (cS r h m)).bk.bi.length<=80
def Sp(t:AC)(r:d4)(h:AH)(m:AU):AH:=⟨(DL t r (CS h (dS r h m)) (cS r h m)).bk,(CD r (cS r h m) m.ei).foldl Cq (DL t r (CS h (dS r h m)) (cS r h m)).d6⟩
def lK(t:AC)(r:d4)(h:AH)(m:AU):BH:=BH.mk r m h (Sp t r h m) (GW h (dS r h m)) (cS r h m)
variable{r:d4}{h:AH}{m:AU}
theorem cx(hf:Ao t)(fr:DN r)(H:GH r.ca<=40)(e:(GF t r h m).2=0):YR t r h m/\GF t r h m=(lK t r h m,0):=by
 unfold GF at e|-;split at e
 next j=>exact absurd e j
 rename_i j;rw[QQ j];split at e
 next o=>exact absurd e o
 rename_i o;rw[QQ o];split at e
 .cases e
 rename_i D;rw[QQ D];split at e
 next u=>exact absurd e u
 rename_i u;rw[QQ u];split at e
 .cases e
 rename_i E;rw[QQ E];split at e
 next y=>exact absurd e y
 rename_i y;rw[QQ y];split at e
 next z=>exact absurd e z
 rename_i z;rw[QQ z];split at e
 .cases e
 rename_i F;rw[QQ F];have j:=C?.1 j;have o:=C?.1 o;have D:=C?.1 D;have u:=C?.1 u;have E:=C?.1 E;have y:=C?.1 y;have z:=C?.1 z;obtain⟨_,_,_,I⟩:=Yb hf H (Wg j o D u E);have s:ID t r h m:=⟨hf,fr,j,o,I,(Zg y).1⟩;unfold Wm at e|-;split at e
 next w=>exact absurd e w
 rename_i w;rw[QQ w];have w:=C?.1 w;obtain⟨G,J⟩:=nR w;split at e
 .cases e
 rename_i b;rw[QQ b];rw[G]at b;refine⟨⟨s,?_,?_,D,w,?_⟩,?_⟩
 .exact Prod.ext (by simpa using F) z
 .exact Prod.ext E u
 .simp[not_or]at b;exact b
 .rw[G];rfl
end Go.Sf.Sc
namespace Go.Sf.Sc
open Go Go.Sf
structure InM(m:bn)(g:bk):Prop where
 tc:m.az.length<=1000
 wi:m.bi.length<=1000
 node:∀x∈m.az,-1<=x/\x<g.az.length
 edge:∀x∈m.bi,-1<=x/\x<g.bi.length
structure vG(m:AU):Prop where
 cE:m.bn.az.length<=1000
 c9:m.bn.bi.length<=1000
 vars:m.ei.length<=1000
variable{t:AC}{r:d4}{h:AH}{m:AU}
theorem YR.small(s:YR t r h m):vG m:=by
 have e:=s.f.left;have b:=s.f.ro.left;have j:=s.f.at_.len;have o:=s.f.at_.q.vars;have:=b.cE;have:=b.c9;exact⟨U,U,U⟩
variable{α:Type}{i:Int}
theorem tE[Inhabited α]{l:List α}(v:α)(b:0<=i)(e:i<l.length):AA (BB l i v) i=v:=by grind[AA,BB]
theorem tF[Inhabited α]{l:List α}{i j:Int}(v:α)(b:0<=i)(e:0<=j)(h:j≠i):AA (BB l i v) j=AA l j:=by grind[AA,BB]
end Go.Sf.Sc
namespace Go.Sf.Sc
open Go Go.Sf
end Go.Sf.Sc
namespace Go.Sf.Sc
open Go Go.Sf
end Go.Sf.Sc
namespace Go.Sf.Sc
open Go Go.Sf
end Go.Sf.Sc
namespace Go.Sf.Sc
open Go Go.Sf
variable{h:AH}
theorem mG:∃b,QV h=Y b/\(b=X->OS h):=by
 unfold QV QS;rw[bs];by_cases j:((!((decide ((h.bk.az.length:Int)<=45))&&(decide ((h.bk.bi.length:Int)<=90))))||(decide (45<(h.d6.length:Int))))=X
 .rw[Ne j];exact⟨T,rfl,λh=>d_⟩
 rw [QQ j,BO (λi=>decide (12<((AA h.d6 i).length:Int))) T]
 .cases e:fq (λi=>decide (12<((AA h.d6 i).length:Int))) 0 h.d6.length with
  |true=>exact⟨T,rfl,λh=>d_⟩
  |false=>
   refine ⟨X,rfl,λ_=>?_⟩;rw[BV]at e;simp only[C_,Bool.not_eq_true',Bool.and_eq_false_iff,decide_eq_false_iff_not,o4,not_or]at j;refine⟨U,U,U,λv hv=>?_⟩
   grind [Ay]
 .intro i o s _;rw[AD o s,bs,Iw]
end Go.Sf.Sc
namespace Go.Sf.Sc
open Go Go.Sf
end Go.Sf.Sc
namespace Go.Sf.Sc
open Go Go.Sf
def I64(x:Int):Prop:=-9223372036854775808<=x/\x<=9223372036854775807
structure r7(h:AH):Prop where
 s:OS h
 w:∀v∈h.d6,∀x∈v,I64 x
structure ABa(s:BH):Prop where
 b:r7 s.zt
 a:r7 s.l4
end Go.Sf.Sc
namespace Go.Sf.Sc
open Go Go.Sf
variable{q:PJ}
theorem cj:∀(n:Nat)(f:AL),f.c9.length+n=f.p.bi.length->(∀i:Int,0<=i->i<f.p.bi.length->PL.at_ f.eg.bi i=PL.at_ q.bi i)->Do n f=Do n {f with eg:=q}
 |0,_,_,_=>rfl|n+1,f,e,h=>by
  rw [Do,Do];refine congrArg (λF=>(AY f.g.bi.length).flatMap F) (funext λk=>?_);have b:QK f k=QK {f with eg:=q} k:=by
   grind [QK,J4]
  rw [b,cj n {f with c9:=f.c9++[k]} an h]
theorem cr:∀(n:Nat)(f:AL),f.cE.length+n=f.p.az.length->f.c9=[]->(∀i:Int,0<=i->i<f.p.az.length->PL.at_ f.eg.az i=PL.at_ q.az i)->(∀i:Int,0<=i->i<f.p.bi.length->PL.at_ f.eg.bi i=PL.at_ q.bi i)->Ei n f=Ei n {f with eg:=q}
 |0,f,_,he,_,h=>cj f.p.bi.length f (by rw[he];simp) h|n+1,f,j,he,e,h=>by
  rw [Ei,Ei];refine congrArg (λF=>(AY f.g.az.length).flatMap F) (funext λk=>?_);have b:QM f k=QM {f with eg:=q} k:=by
   grind [QM]
  rw [b,cr n {f with cE:=f.cE++[k]} an he e h]
variable{n:Nat}{i v:Int}
theorem lw(b:0<=i)(e:i<n):AA (List.replicate n v) i=v:=by
 unfold AA
 grind
def F0(t:AC)(p g:bk)(inj:Bool):AL:=⟨p,g,IB t,PJ.mk W W,inj,5001,[],[],[]⟩
variable{t:AC}{p g:bk}
theorem cu{inj:Bool}:Ei p.az.length (F0 t p g inj)=Ei p.az.length (FF t p g (JT p) inj):=
 cr (q:=PJ.of (JT p)) p.az.length (F0 t p g inj) r! rfl (λi b e=>(lw b e).symm) (λi b e=>(lw b e).symm)
theorem p8{inj:Bool}(o:Ao t)(hv:(A0 t).2=0)(j:M6 (FF t p g (JT p) inj)):GU t p g ⟨W,W⟩ inj 5001=Y (Gl t p g (JT p) inj):=by
 unfold GU;rw[kh o (Ck hv) hv,bs];have b:M6 (F0 t p g inj):=⟨trivial,trivial,j.ends,j.kinds,j.small⟩;have h:=nA (f:=F0 t p g inj) b ⟨by show(0:Int)<=5001;omega,by show(5001:Int)<=10000;omega,by show((0:Nat):Int)<=5001;omega⟩ rfl rfl;rw[cl _ _ b rfl,show(F0 t p g inj).p.az.length=p.az.length from rfl,cu]at h;have e:AL.mk p g (IB t) ⟨W,W⟩ inj 5001 [] [] []=F0 t p g inj:=rfl;rw[e,h];rfl
def EB(t:AC)(p g:bk)(inj:Bool):List bn×Int:=
 if Ds t p g≠0 then([],Ds t p g)else if 5000<(Gl t p g (JT p) inj).length then([],3)else(Gl t p g (JT p) inj,0)
theorem wY(hf:Ao t)(p g:bk)(inj:Bool):Kr t p g inj=Y (EB t p g inj):=by
 unfold Kr EB;rw[Ww hf,bs];refine Dd λb=>?_
 grind [Xj,JT,Ja,p8,bs,Gl]
theorem w4(hf:Ao t)(p g:bk)(inj:Bool):QW t p g inj=Y (EB t p g inj):=by
 unfold QW EB;rw[X7 hf,bs];refine Dd λb=>?_;obtain⟨hv,j⟩:=Xj (inj:=inj) (pa:=JT p) b (by simp[JT]) (by simp[JT]);have e:=(Ji b).2.1;have:=e.cE;have:=e.c9
 grind [qP,bs,sY,Gl,JT]
end Go.Sf.Sc
namespace Go.Sf.Sc
open Go Go.Sf
variable{α:Type}{f:Int->List α->Option (List α)}
theorem mZ[Inhabited α]{x:List α}{p:α->Bool}(w:x.length<=5000)
  (hf:∀(i:Int)(s:List α),0<=i->i<x.length->s.length<=5000->f i s=Y (if p (AA x i)=X then s++[AA x i]else s)):
  gp f 0 (x.length:Int) []=Y (x.filter p):=by
 rw [BQ (a:=0) (b:=x.length) (s:=[]) (λi=>(x.take i.toNat).filter p) U rfl,D_,z_];intro i e j;have o:((x.take i.toNat).filter p).length<=5000:=o!
 rw [hf i _ e j o,CU e j,List.filter_append];cases u:p (AA x i)<;>simp[u]
def QI(t:AC)(p:c7)(h:AH)(inj:Bool):List AU×Int:=
 if Ot t p h≠0 then([],Ot t p h)else if(EB t p.bk h.bk inj).2≠0 then([],(EB t p.bk h.bk inj).2)else
 (((EB t p.bk h.bk inj).1.filter λy=>decide ((Hx p h y).2=0)).map λy=>⟨y,(Hx p h y).1⟩,0)
variable{t:AC}{p g:bk}
theorem lr{inj:Bool}(h:(EB t p g inj).2=0):(EB t p g inj).1.length<=5000/\∀m∈(EB t p g inj).1,Ez t p g m inj=0:=by grind[EB,mQ]
theorem qO(hf:Ao t)(p:c7)(h:AH)(inj:Bool):K7 t p h inj=Y (QI t p h inj):=by
 unfold K7 QI;rw[bL hf,bs];refine Dd λu=>?_;rw[w4 hf,bs];refine Dd λw=>?_;obtain⟨E,G⟩:=lr w;rw[SZ (F:=λy=>((Hx p h y).1,decide ((Hx p h y).2=0))) E,bs];intro i s z D e;have j:Ii p h (AA (EB t p.bk h.bk inj).1 i)=Y (Hx p h (AA (EB t p.bk h.bk inj).1 i)):=by
  obtain ⟨hv,o,hh,b⟩:=Sj hf u (G _ (AG z D));exact jD o (λs e=>Pg (Ck hv) o hh b e)
 grind [AD,bs,Hx,AA,EB,AS,AW]
variable{h:AH}
theorem a7{p:c7}{inj:Bool}:(QI t p h inj).1.length<=5000:=by grind[QI,lr,a6,Nat.le_trans,y_]
noncomputable def cH(t:AC)(r:d4)(h:AH):Int:=if FE t r≠0 then FE t r else(Bc t h).2
variable{r:d4}
theorem uV(hf:Ao t)(fr:DN r)(h:AH):Ju t r h=Y (cH t r h):=by
 unfold Ju cH;rw[fB hf fr,bs,ZJ hf];exact Dd λ_=>rfl
noncomputable def dF(t:AC)(r:d4)(h:AH):List AU×Int:=
 if cH t r h≠0 then([],cH t r h)else if(QI t r.ea h r.fd).2≠0 then([],(QI t r.ea h r.fd).2)else
 ((QI t r.ea h r.fd).1.filter λm=>decide ((GF t r h m).2=0),0)
theorem w5(hf:Ao t)(fr:DN r)(b:GH r.ca<=40)(h:AH):Il t r h=Y (dF t r h):=by
 unfold Il dF;rw[uV hf fr,bs];refine Dd λe=>?_;rw[qO hf,bs];refine Dd λj=>?_;rw[mZ (p:=λm=>decide ((GF t r h m).2=0)) a7,bs]
 grind [AD,bs,fC,GF,AA,QI,AS,AW]
theorem tI:(dF t r h).1.length<=5000:=by grind[dF,Nat.le_trans,y_,a7]
end Go.Sf.Sc
