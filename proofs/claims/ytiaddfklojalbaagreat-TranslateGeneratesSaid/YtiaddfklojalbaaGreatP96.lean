/- Plain lemmas: what the functions of the program and of the reference compute. -/
import Derived.Test.YtiaddfklojalbaaGreatP46
set_option linter.all false
set_option maxRecDepth 100000
open Option renaming some->Y,none->W
open Bool renaming true->X,false->T
open List renaming mem_filter->w?,mem_map->x_,mem_cons_of_mem->x!,mem_append_left->x?,map_map->y_,map_id->y!,ext_getElem->y?,take_length->z_,getElem_map->z!,getElem_replicate->z?,map_append->A_,map_congr_left->A',append_nil->A!,getElem?_eq_some_iff->A?
open Bool renaming true_and->B_,or_eq_false_iff->B',eq_iff_iff->B!,or_eq_true->B?,false_and->C_,eq_false_iff->C'
open Classical renaming not_not->C!
open Int renaming toNat_natCast->C?,ofNat_le->D_
namespace Go.Sf.Sc
open Go Go.Sf
def JG(p g:ci)(m:cE):ci:=⟨m.bq.map (AA g.bq),p.ca⟩
variable{l:Fp}
theorem Nw{n x:Int}:x∈AM l n↔(0<=x/\x<n)/\x∉l:=by
 unfold AM;rw[w?];constructor
 .grind[Int.natCast_nonneg,Ah]
 .rintro⟨⟨b,c⟩,d⟩;refine⟨x_.2 ⟨x.toNat,List.mem_range.2 U,Int.toNat_of_nonneg b⟩,?_⟩
  grind [hasB,Ah]
theorem RH(l:Fp)(n:Int):(AM l n).Pairwise (·<·):=by grind[AM,List.pairwise_lt_range.imp]
def Fo(images eE:Fp):Fp:=(AM eE images.length).map (AA images)
variable{x:Int}
theorem U3{images eE:Fp}:x∈Fo images eE↔∃i:Int,(0<=i/\i<images.length)/\i∉eE/\AA images i=x:=by grind[Fo,Nw]
def Aam(images eE:Fp):Bool:=gh (λa=>gh (λb=>decide (AA images a=AA images b)&&(!hasB eE a||!hasB eE b)) (a+1) images.length) 0 images.length
theorem iu{images eE:Fp}(h:Aam images eE=T){a b:Int}(a0:0<=a)(a1:a<images.length)(o:0<=b)(j:b<images.length)(s:a∈eE)(e:AA images a=AA images b):b∈eE:=by
 unfold Aam at h;rw[Bt]at h;by_cases d:a=b
 .exact d▸s
 by_cases u:a<b
 .have c:=h a a0 a1;rw[Bt]at c;have f:=c b U j;rw[decide_eq_true e,B_,B']at f
  grind [Ah]
 .have c:=h b o j;rw[Bt]at c;have f:=c a U a1;rw[decide_eq_true e.symm,B_,B']at f
  grind [Ah]
variable{i:Int}
theorem U7{images eE:Fp}(h:Aam images eE=T)(b:0<=i)(c:i<images.length)(d:i∈eE):AA images i∉Fo images eE:=by grind[U3,iu]
def Qt(g:ci)(eE:B7)(m:cE)(i:Int):Bool:=
 !hasB m.ca i&&(hasB (Fo m.bq eE.bq) (AA g.ca i).fu||hasB (Fo m.bq eE.bq) (AA g.ca i).To)
def Ls(g:ci)(eE:B7)(m:cE):B7:=⟨AM (Fo m.bq eE.bq) g.bq.length,AM (Fo m.ca eE.ca) g.ca.length⟩
def Ph(l g:ci)(eE:B7)(m:cE):B7×Int:=
 if HL l g m≠0 then(⟨[],[]⟩,HL l g m)else if EG l eE≠0 then(⟨[],[]⟩,EG l eE)else
 if (Aam m.bq eE.bq||Aam m.ca eE.ca)=X then(⟨[],[]⟩,15)else
 if gh (Qt g eE m) 0 g.ca.length=X then(⟨[],[]⟩,14)else(Ls g eE m,0)
structure aq(l g:ci)(eE:B7)(m:cE):Prop where
 mor:aV l g m
 part:ay l eE
 c9:Aam m.bq eE.bq=T
 d6:Aam m.ca eE.ca=T
 free:∀i:Int,0<=i->i<g.ca.length->Qt g eE m i=T
variable{g:ci}
theorem cq{p:B7}(h:EG g p=0):B8 g=0/\Nh g p=0:=by grind[EG]
theorem fb{l g:ci}{eE:B7}{m:cE}(h:(Ph l g eE m).2=0):aq l g eE m/\Ph l g eE m=(Ls g eE m,0):=by
 unfold Ph at h|-;split at h
 .grind
 rename_i c;rw[aN c];split at h
 .grind
 rename_i d;rw[aN d];split at h
 .grind
 rename_i b;rw[aN b];split at h
 .grind
 rename_i e;rw[aN e];simp[not_or]at b;exact⟨⟨Vs (C!.1 c),VK (cq (C!.1 d)).2,b.1,b.2,Bt.1 so⟩,rfl⟩
theorem mL{l g:ci}{eE:B7}{m:cE}(h:aq l g eE m):Nh g (Ls g eE m)=0:=by
 have o:=h.mor;have E:=o.gb;have F:∀x∈(Ls g eE m).bq,0<=x/\x<g.bq.length:=λx d=>Dn d;have G:∀x∈(Ls g eE m).ca,0<=x/\x<g.ca.length:=λx d=>Dn d;have c:∀{l:Fp}{n:Int},(∀x∈l,0<=x/\x<n)->l.Pairwise (·<·)->OJ l n=0:=by
  grind [OJ,BY,AI,Ka]
 unfold Nh;rw[c F (RH _ _),c G (RH _ _)];simp;rw[BY.2 λi z D=>?_]
 .rfl
 have d:=AI z D;generalize AA (Ls g eE m).ca i=x at d;have b:(0<=x/\x<g.ca.length)/\x∉Fo m.ca eE.ca:=Nw.1 d;have hf:=E.fit _ (AI b.1.1 b.1.2);have s:(AA g.ca x).fu∉Fo m.bq eE.bq/\(AA g.ca x).To∉Fo m.bq eE.bq:=by
  by_cases hi:x∈m.ca
  .obtain⟨k,w,y,e⟩:=BT hi;have f:k∈eE.ca:=by
    by_cases f:k∈eE.ca
    .exact f
    .exact absurd (U3.2 ⟨k,⟨w,y⟩,f,e⟩) b.2
   have ends:=h.part.ends k f;have he:=o.edge k w y;rw[e]at he;have u:=h.part.c9.1;have H:=u _ ends.1;have I:=u _ ends.2;have K:=o.z5;rw[<-he.2.2.1,<-he.2.2.2];exact⟨U7 h.c9 H.1 U ends.1,U7 h.c9 I.1 U ends.2⟩
  .have hd:=h.free x b.1.1 b.1.2;unfold Qt at hd;rw[show hasB m.ca x=T from by cases J:hasB m.ca x with|false=>rfl|true=>exact absurd (Ah.1 J) hi,Bool.not_false,B_,B']at hd;exact⟨λj=>by rw[Ah.2 j]at hd;exact absurd hd.1 a_,λj=>by rw[Ah.2 j]at hd;exact absurd hd.2 a_⟩
 grind [hasB,Ls,AA,Ah,Nw]
def BU(n:Nat)(l:Fp):Fp:=(AV n).map (A4 l)
variable{v:Int}
theorem IP(h:v∉l):A4 l v=-1:=by grind[A4,BY,AI]
theorem Vq(l:Fp)(v:Int):-1<=A4 l v/\A4 l v<l.length:=by
 by_cases h:v∈l
 .have:=B0 h;omega
 .rw[IP h];omega
theorem Gp:0<=A4 l v↔v∈l:=by grind[IP,B0]
theorem Cq(n:Nat)(l:Fp):(BU n l).length=n:=by unfold BU;rw[bd,Am]
variable{n:Nat}
theorem Er(b:0<=i)(c:i<n):AA (BU n l) i=A4 l i:=Eh _ b c
theorem Hx(h:l.Nodup)(b:0<=i)(c:i<l.length):A4 l (AA l i)=i:=by
 have d:=B0 (AI b c)
 grind [A4,AA,Ka]
def QE(eE into at_:Fp)(n i:Int):Int:=if hasB into i=X then AA at_ (AA eE (A4 into i))else n+(AM into i).length
def Wl(count:Nat)(eE into at_:Fp)(n:Int):Fp:=(AV count).map (QE eE into at_ n)
theorem Yi(count:Nat)(eE into at_:Fp)(n:Int):(Wl count eE into at_ n).length=count:=by unfold Wl;rw[bd,Am]
variable{count:Nat}
theorem bW{eE into at_:Fp}{n i:Int}(b:0<=i)(c:i<count):AA (Wl count eE into at_ n) i=QE eE into at_ n i:=Eh _ b c
theorem RY(h:0<=i):((AM l i).length:Int)<=i:=by grind[E3]
end Go.Sf.Sc
namespace Go.Sf.Sc
open Go Go.Sf
variable{α:Type}
theorem ox{P:List α->Prop}(b:P [])(c:∀l a,P l->P (l++[a]))(l:List α):P l:=by
 have:∀l:List α,P l.reverse:=by
  intro l
  induction l with
  |nil=>exact b|cons a l d=>rw[List.reverse_cons];exact c _ _ d
 rw [<-List.reverse_reverse l];exact this _
def PZ(L:Bh):Bh:=L.foldl (λm p=>m.set p.1 p.2) []
theorem cM(L:Bh)(p:(Int×Int)×Int):PZ (L++[p])=(PZ L).set p.1 p.2:=by
 unfold PZ
 grind
def TF(L:Bh):Prop:=∀p∈L,∀q∈L,p.1=q.1->p.2=q.2
variable{k:Int×Int}{v:Int}
theorem U9:∀{m:Bh},m.look k=Y v->(k,v)∈m
 |[],h=>e_
 |p::r,h=>by
  unfold Bh.look at h;split at h
  .grind
  .exact x! _ (U9 h)
theorem Zu:∀{m:Bh},m.look k=W->∀p∈m,p.1≠k
 |[],_,p,b=>by cases b
 |q::r,h,p,b=>by
  unfold Bh.look at h;split at h
  .cases h
  .rename_i e;rcases List.mem_cons.1 b with rfl|b
   .exact e
   .exact Zu h p b
theorem gf:∀{m:Bh},m.look k=W->m.set k v=m++[(k,v)]
 |[],_=>rfl|p::r,h=>by
  unfold Bh.look at h;unfold Bh.set;split at h
  .cases h
  next e=>rw[aN e,gf h];rfl
theorem dl:∀{m:Bh},m.look k=Y v->m.set k v=m
 |[],h=>e_
 |p::r,h=>by
  unfold Bh.look at h;unfold Bh.set;split at h
  .grind
  next e=>rw[aN e,dl h]
theorem ii(κ:List Fp)(p:(Int×Int)×Int):C8 (C8 κ p) p=C8 κ p:=by
 unfold C8;split
 .apply List.ext_getElem?
  grind [Option.map_eq_map,Option.map_map,List.set_set]
 .rfl
theorem nc{m:Bh}(hd:m.Dis){p:(Int×Int)×Int}(b:p∈m)(κ:List Fp):C8 (m.foldl C8 κ) p=m.foldl C8 κ:=by
 have c:m.Perm (m.erase p++[p]):=(List.perm_cons_erase b).trans (List.perm_append_singleton p (m.erase p)).symm;rw[<-Xf hd c κ,List.foldl_append];exact ii _ _
theorem TF.sub{L M:Bh}(h:TF L)(b:∀p∈M,p∈L):TF M:=λp c q d=>h p (b p c) q (b q d)
theorem gB(L:Bh):TF L->(PZ L).Dis/\(∀p,p∈PZ L↔p∈L)/\∀κ,(PZ L).foldl C8 κ=L.foldl C8 κ:=by
 refine ox (P:=λL=>TF L->(PZ L).Dis/\(∀p,p∈PZ L↔p∈L)/\∀κ,(PZ L).foldl C8 κ=L.foldl C8 κ) (λ_=>⟨List.Pairwise.nil,λp=>Iff.rfl,λκ=>rfl⟩) (λL p c b=>?_) L;obtain⟨o,j,s⟩:=c (b.sub λq d=>x? _ d);rw[cM];cases e:(PZ L).look p.1 with
 |none=>
  grind [gf,Bh.set_dis]
 |some v=>
  have f:=U9 e;have hv:v=p.2:=b (p.1,v) (x? _ ((j _).1 f)) p V rfl
  grind [dl,List.mem_singleton,nc]
def Pj(L:Bh):Bool:=gh (λi=>gh (λk=>decide ((AA L k).1=(AA L i).1)&&!decide ((AA L k).2=(AA L i).2)) 0 i) 0 L.length
variable{L:Bh}
theorem ZQ(h:Pj L=T):TF L:=by
 intro p f q j e;obtain⟨a,a0,a1,rfl⟩:=BT f;obtain⟨b,o,s,rfl⟩:=BT j;unfold Pj at h;rw[Bt]at h;by_cases c:a=b
 .rw[c]
 by_cases u:a<b
 .have d:=h b o s;rw[Bt]at d
  grind
 .have d:=h a a0 a1;rw[Bt]at d
  grind
end Go.Sf.Sc
namespace Go.Sf.Sc
open Go Go.Sf
variable{t:AC}{p g:ci}
theorem kS{m:cE}{inj:Bool}(h:JS t p g m inj=0):EO t p g=0/\Pu t p g m=0/\ZH t p g m:=by grind[bS,JS]
variable{α:Type}
theorem NE[Inhabited α](l:List α):(AV l.length).map (AA l)=l:=by grind[bL,bd,Am,Eh]
variable{β:Type}
theorem ub[Inhabited α](l:List α)(f:α->β):l.map f=(AV l.length).map λj=>f (AA l j):=by
 rw [show(λj=>f (AA l j))=f∘AA l from rfl,<-y_,NE]
theorem uq(hf:A0 t){m:cE}{inj:Bool}(h:JS t p g m inj=0):GE t p g m=Y (JG p g m,0):=by
 obtain ⟨b,f,c⟩:=kS h;obtain⟨_,d,s,_⟩:=ON b;unfold GE;rw[V4 hf,bs,aN (by simp[b]),Zz hf b,bs,aN (by simp[f])];unfold Cf;have:=d.c9;have:=d.d6;have:=c.z5;rw[BM a?,bs];rw[TY U (λx e=>?_) p.ca]
 .rfl
 .obtain⟨i,j,o,rfl⟩:=BT e;exact(c.node i j o).1
variable{n:Nat}
theorem Ut{f:Int->List α->Option (List α)}(q:Int->Bool)(F:Int->α)(h:∀i s,0<=i->i<(n:Int)->s.length<=i.toNat->f i s=Y (if q i=X then s++[F i]else s)):kx f 0 n []=Y (((AV n).filter q).map F):=by
 have c:∀k:Nat,(((AV k).filter q).map F).length<=k:=λk=>by
  rw [bd];exact Nat.le_trans (List.length_filter_le _ _) (by rw[Am];exact a5 _)
 have:=Bs (f:=f) (s:=[]) (λi=>((AV i.toNat).filter q).map F) (a:=0) (b:=n) U rfl (λi d e=>by
  grind [GJ])
 grind
theorem nf{q:Int->Bool}{F:Int->α}:decide (0<((((AV n).filter q).map F).length:Int))=gh q 0 n:=by
 rw [B!,p0,D1,bd];constructor
 .intro h;have b:(AV n).filter q≠[]:=λe=>by rw[e]at h;simp at h
  obtain ⟨x,j⟩:=List.exists_mem_of_ne_nil _ b
  grind [Br]
 .rintro⟨i,c,d,f⟩;have:i∈(AV n).filter q:=w?.2 ⟨Br.2 ⟨c,d⟩,f⟩
  grind
theorem lZ{x:DC}(b:x.m.bq.length<=1000):Dm x=Y (Fo x.m.bq x.eE.bq):=by
 unfold Dm;rw[Ut (λi=>!hasB x.eE.bq i) (AA x.m.bq)]
 .rfl
 grind [AD,K5,hasB,Ao,Ak]
theorem jP{x:DC}(b:x.m.bq.length<=1000)(he:x.g.ca.length<=1000):DZ x=Y ((AV x.g.ca.length).filter (Qt x.g x.eE x.m)):=by
 unfold DZ;rw[lZ b,bs,Ut (Qt x.g x.eE x.m) id]
 .rw[bs,y!]
 .intro i s c d e;rw[AD c d,bs,K5,bs,K5,bs,K5,bs];unfold Qt;change (if(!hasB x.m.ca i)=X then(if hasB (Fo x.m.bq x.eE.bq) (AA x.g.ca i).fu=X then Y X else Y (hasB (Fo x.m.bq x.eE.bq) (AA x.g.ca i).To)).bind _ else Y T).bind _=_;cases hasB x.m.ca i<;>cases hasB (Fo x.m.bq x.eE.bq) (AA x.g.ca i).fu<;>cases hasB (Fo x.m.bq x.eE.bq) (AA x.g.ca i).To<;>simp[Ao (show s.length+[i].length<=Ak by simp;unfold Ak;omega)]
variable{a i:Int}
theorem Qs{p:Int->Bool}(h:a<=i):gh p a (i+1)=(gh p a i||p i):=by
 rw [B!,B?,D1,D1]
 grind
theorem jU{images eE:Fp}(I:images.length<=100){f:Int->Int->List L5->Option (List L5)}(hf:∀(i j:Int)s,0<=i->i<images.length->i<j->j<images.length->s.length<=20000->f i j s=Y (if(decide (AA images i=AA images j)&&(!hasB eE i||!hasB eE j))=X then s++[L5.mk i j]else s)):
  ∃l,kx (λ(d:Int)(o:List L5)=>(kx (λ(e:Int)(c:List L5)=>f d e c) (Ag (d+1)) (images.length:Int) o).bind λc=>Y c) 0 (images.length:Int) []=Y l/\l.length<=10000/\decide (0<l.length)=Aam images eE:=by
 have key:=QG (f:=λ(d:Int)(o:List L5)=>(kx (λ(e:Int)(c:List L5)=>f d e c) (Ag (d+1)) (images.length:Int) o).bind λc=>Y c) (s:=[])
  (λi s=>(s.length:Int)<=100*i/\decide (0<s.length)=gh (λa=>gh (λb=>decide (AA images a=AA images b)&&(!hasB eE a||!hasB eE b)) (a+1) images.length) 0 i) (a:=0) (b:=images.length) U
  (by refine⟨V,?_⟩;rw[Bt.2 (λi y z=>U)];rfl) (λi s d D E=>by
   have u:=QG (f:=λ(e:Int)(c:List L5)=>f i e c) (s:=s)
    (λj s'=>(s'.length:Int)<=100*i+(j-(i+1))/\decide (0<s'.length)=(decide (0<s.length)||gh (λb=>decide (AA images i=AA images b)&&(!hasB eE i||!hasB eE b)) (i+1) j)) (a:=i+1) (b:=images.length) U
    (by refine⟨by have:=E.1;omega,?_⟩;rw[Bt.2 (λi y z=>U),Bool.or_false]) (λj s' J F w=>by
     refine ⟨_,hf i j s' d D U F (by have:=w.1;omega),?_,?_⟩
     .grind
     .rw[Qs U,<-Bool.or_assoc,<-w.2]
      grind)
   grind [Au,Qs])
 obtain ⟨l,G,K,H⟩:=key;exact⟨l,G,U,H⟩
theorem gJ{images eE:Fp}(E:images.length<=100):∃l,Gg images eE=Y l/\l.length<=10000/\decide (0<l.length)=Aam images eE:=by
 unfold Gg;obtain⟨l,J,K⟩:=jU (eE:=eE) E (f:=λb c D=>
  (idx images b).bind λd=>
  (idx images c).bind λe=>
  (if(decide (d=e))=X then((slices_Contains_int eE b).bind λo=>
  (if(!o)=X then Y X else((slices_Contains_int eE c).bind λu=>
  Y (!u))).bind λw=>
  Y (w))else Y T).bind λy=>
  if y=X then
  (Ax D [L5.mk b c]).bind λz=>
  Y z
  else
  Y D) (λi j s b F H G I=>by
   have hh:∀(l:Fp)(v:Int),slices_Contains_int l v=Y (hasB l v):=K5;simp[AD b F,AD (show 0<=j by omega) G,hh]
   grind [AA,hasB,Ao,Ak])
 grind
theorem cm{images eE:Fp}(u:n<=1000)(hi:∀x∈images,0<=x/\x<n):G9 n images eE=Y (AM (Fo images eE) n):=by
 unfold G9 FV;rw[aE U,bs];rw[Bs (λi=>(AV n).map λk=>gh (λj=>!hasB eE j&&decide (AA images j=k)) 0 i) U]
 .rw[bs,bd,Am,Ut (λi=>!hasB (Fo images eE) i) id]
  .rw[bs,y!];rfl
  .intro i s b c z;rw[AD b (by rw[bd,Am];exact c),bs,Eh _ b c];have e:gh (λj=>!hasB eE j&&decide (AA images j=i)) 0 images.length=hasB (Fo images eE) i:=by
    rw [B!,D1,Ah,U3];constructor
    .rintro⟨j,f,o,h⟩;rw[kp,p0]at h
     grind [Ah]
    .rintro⟨j,⟨f,o⟩,E,h⟩;refine⟨j,f,o,?_⟩;rw[kp,p0]
     grind [hasB,Ah]
   grind [hasB,Fo,Ao,Ak]
 .refine y? (by simp[Am]) (λk w y=>?_)
  grind [C?,Bt]
 .intro i b c;have d:=hi _ (AI b c);have hh:∀(l:Fp)(v:Int),slices_Contains_int l v=Y (hasB l v):=K5;rw[AD b c,bs,hh,bs];cases D:hasB eE i
  .rw[aE a_,AD d.1 (by rw[bd,Am];exact d.2),bs,GN _ d.1]
   grind [GI,Qs,AA]
  grind [GI,Qs]
theorem se{a b:Nat}(c:a<=10000)(d:b<=10000):decide (0<Ag ((a:Int)+(b:Int)))=(decide (0<a)||decide (0<b)):=by
 rw [Au U U,B!,B?]
 grind
theorem uj{l g:ci}{eE:B7}{m:cE}(o:TH eE):HK l g eE m=Y (Ph l g eE m):=by
 unfold HK DO Ph;simp only[];rw[V2,bs,gK o,bs];by_cases c:¬HL l g m=0
 .grind
 have c:=C!.1 c;rw[aN v1,bs,aN (show¬HL l g m≠0 by simp[c])];refine Gf λG=>?_;have b:=Vs c;have a1:=b.ga.c9;have a2:=b.ga.d6;have J:=b.z5;have K:=b.Aaf;have N:=b.gb.c9;have O:=b.gb.d6;unfold D8;obtain⟨u,s,w,y⟩:=gJ (eE:=eE.bq) (images:=m.bq) U;obtain⟨v,z,D,E⟩:=gJ (eE:=eE.ca) (images:=m.ca) U;simp only[];rw[s,bs,z,bs,bs];simp only[];rw[se w D,y,E];refine fZ λH=>?_;rw[jP (by show m.bq.length<=1000;omega) (by show g.ca.length<=1000;omega),bs];have e:=nf (n:=g.ca.length) (q:=Qt g eE m) (F:=id);rw[y!]at e;rw[e];refine fZ λI=>?_;rw[cm U (λx d=>?_),bs,cm U (λx d=>?_),bs]
 .rfl
 .obtain⟨i,f,j,rfl⟩:=BT d;exact(b.edge i f j).1
 .obtain⟨i,f,j,rfl⟩:=BT d;exact(b.node i f j).1
end Go.Sf.Sc
namespace Go.Sf.Sc
open Go Go.Sf
variable{α β:Type}
theorem cL[Inhabited α]{l:List α}{F:α->β}{f:Int->List β->Option (List β)}(h:∀(i:Int)s,0<=i->i<l.length->s.length<=i.toNat->f i s=Y (s++[F (AA l i)])):kx f 0 l.length []=Y (l.map F):=by
 have:=Bs (f:=f) (s:=[]) (λi=>(l.take i.toNat).map F) (a:=0) (b:=l.length) U V (λi c d=>by
  grind [bd,ae,Cw])
 rwa [C?,z_]at this
variable{n:Nat}{l:Fp}
theorem gL(D:n<=1000)(s:l.length<=1000)(c:l.Pairwise (·<·)):Lw n l=Y (BU n l):=by
 unfold Lw FV;rw[aE U,bs,C?,List.length_replicate,Bs (λi=>(AV n).map λj=>if j<i then A4 l j else 0) U]
 .rw[bs];congr 1;exact GI λj u d=>aE d
 .refine y? (by simp[Am]) (λk w E=>?_);have e:(AV n)[k]'(by simpa[Am]using w)=(k:Int):=by simp[AV]
  simp only[z!,z?,e];rw[aN U]
 .intro i f z;rw[Tp s c,bs,AD f (by rw[bd,Am];exact z),bs];have e:∀v:Int,v=A4 l i->Y (BN ((AV n).map λj=>if j<i then A4 l j else 0) i v)=Y ((AV n).map λj=>if j<i+1 then A4 l j else 0):=by
   rintro v rfl;rw[GN _ f];congr 1;refine GI λj u d=>?_;by_cases e:j=i
   .rw[aE e,aE U,e]
   .rw[aN e];by_cases o:j<i
    .rw[aE o,aE U]
    .rw[aN o,aN U]
  cases b:hasB l i with
  |false=>
   rw [aE q?];exact e _ (IP λy=>by rw[Ah.2 y]at b;cases b).symm
  |true=>
   rw [aN V];exact e _ (Wn c (Ah.1 b))
theorem cx(G:n<=1000)(H:l.length<=1000)(y:l.Nodup):GA l n=Y (BU n l):=by
 unfold GA;rw[Bs (λk=>(AV k.toNat).map (A4 l)) U q?]
 .rfl
 .intro k d I;have c:((AV k.toNat).map (A4 l)).length=k.toNat:=by rw[bd,Am]
  have F:(AV k.toNat).map (A4 l)++[-1]=(AV (k+1).toNat).map λj=>if j<k then A4 l j else if A4 l k<0 then A4 l k else -1:=by
   rw [GJ d,A_];congr 1
   .grind[A',Br]
   .rw[List.map_singleton,aN U];have:=Vq l k
    grind
  rw [Ao (by rw[c];simp;unfold Ak;omega),bs,F,Bs (λi=>(AV (k+1).toNat).map λj=>if j<k then A4 l j else if A4 l k<i then A4 l k else -1) U rfl]
  .rw[bs];congr 1;refine A' λj z=>?_;have:=Br.1 z;split
   .rfl
   .have e:j=k:=U
    rw [aE (Vq l k).2,e]
  .intro i f o;rw[AD f o,bs];by_cases e:AA l i=k
   .have s:A4 l k=i:=by rw[<-e];exact Hx y f o
    rw [aE d!,AD d (by rw[bd,Am];omega),bs,GN _ d];congr 1;refine GI λj D E=>?_;by_cases u:j=k
    .rw[aE u,aN U,aE U,s]
    .rw[aN u];by_cases b:j<k
     .rw[aE b,aE b]
     .omega
   .have s:A4 l k≠i:=λh=>by
     have:=(B0 (Gp.1 (show 0<=A4 l k by omega))).2.2.1;rw[h]at this;exact e this
    rw [aN d!];congr 1;refine GI λj D E=>?_;by_cases b:j<k
    .rw[aE b,aE b]
    .rw[aN b,aN b];by_cases w:A4 l k<i
     .rw[aE w,aE U]
     .rw[aN w,aN U]
structure XJ(count:Nat)(eE into at_:Fp):Prop where
 few:count<=1000
 nodup:into.Nodup
 len:into.length=eE.length
 inn:∀x∈into,0<=x/\x<count
 kin:∀x∈eE,0<=x/\x<at_.length
 pos:∀x∈eE,0<=AA at_ x
theorem Jz(b:l.Nodup)(h:∀x∈l,0<=x/\x<n):l.length<=n:=by
 have:=List.Nodup.length_le_of_subset (l₁:=l) (l₂:=AV n) b (λx c=>Br.2 (h x c))
 rwa [Am]at this
variable{i:Int}
theorem YN(h:0<=i):((AM l (i+1)).length:Int)=(AM l i).length+if i∈l then 0 else 1:=by grind[Iq,a6,hasB,Ah]
theorem Vl{eE into at_:Fp}{n i:Int}(h:i∈into):QE eE into at_ n i=AA at_ (AA eE (A4 into i)):=by grind[QE,Ah]
theorem Wm{eE into at_:Fp}{n i:Int}(h:i∉into):QE eE into at_ n i=n+(AM into i).length:=by grind[QE,Ah]
variable{count:Nat}
theorem Zy{eE into b c:Fp}{n:Int}(h:XJ count eE into (b.map (AA c)))(G:∀x∈b,0<=x/\x<c.length)(O:0<=n)(P:n<=1000):G4 count eE into b c n=Y (Wl count eE into (b.map (AA c)) n):=by
 have ε:=h.few;have H:=Jz h.nodup h.inn;have I:=h.len;unfold G4 Ep;rw[aE (by refine⟨rfl,U,U⟩),bs,C?];rw[Bs (λi=>(AV count).map λk=>if 0<=A4 into k/\A4 into k<i then QE eE into (b.map (AA c)) n k else -1) U]
 .rw[bs,bd,Am,Bs (λi=>(n+((AM into i).length:Int),(AV count).map λk=>if k<i\/k∈into then QE eE into (b.map (AA c)) n k else -1)) U]
  .rw[bs];congr 1;exact GI λj D y=>aE (.inl y)
  .show _=(n,_);congr 1
   .simp[AM]
   .refine GI λj D y=>?_;have F:=Gp (l:=into) (v:=j);have J:=Vq into j;by_cases e:j∈into
    .rw[aE (.inr e),aE ⟨F.2 e,J.2⟩]
    .rw[aN (by rintro(d|d);omega;exact e d),aN λd=>e (F.1 d.1)]
  .intro i o u;have κ:=RY (l:=into) o;rw[AD o (by rw[bd,Am];exact u),bs,Eh _ o u];by_cases hi:i∈into
   .have K:=B0 hi;have E:=AI (l:=eE) K.1 v!;have η:=h.pos _ E;rw[aE (show i<i\/i∈into from .inr hi),Vl hi,aN (by rw[p0];omega),YN o,aE hi,Int.add_zero];congr 2;refine GI λj D y=>?_;by_cases e:j<i\/j∈into
    .rw[aE e,aE (e.imp (λh=>U) id)]
    .rw[aN e,aN];rintro(d|d)
     .have:j=i:=by
       have:=λhh=>e (.inl hh);omega
      exact e (.inr (this▸hi))
     .exact e (.inr d)
   .rw[aN (show¬(i<i\/i∈into)by rintro(d|d);omega;exact hi d),aE a_,bs,YN o,aN hi,Au a! a!,GN _ o,Int.add_assoc];congr 2;refine GI λj D y=>?_;by_cases s:j=i
    .rw[aE s,aE (.inl U),s,Wm hi]
    .rw[aN s];by_cases e:j<i\/j∈into
     .rw[aE e,aE (e.imp (λh=>U) id)]
     .rw[aN e,aN];rintro(d|d)
      .exact e (.inl U)
      .exact e (.inr d)
 .refine y? (by simp[Am]) (λk Q S=>?_);simp only[z!,z?];rw[aN U];rfl
 .intro i o u;have w:=h.inn _ (AI o u);have E:=AI (l:=eE) o v!;have f:=h.kin _ E;rw[bd]at f;have z:=G _ (AI f.1 f.2);rw[AD o u,bs,AD o v!,bs,AD f.1 f.2,bs,AD z.1 z.2,bs,AD w.1 (by rw[bd,Am];exact w.2),bs,GN _ w.1];congr 1;refine GI λj D y=>?_;by_cases s:j=AA into i
  .have e:=Hx h.nodup o u;rw[aE s,s,e,aE ⟨o,U⟩,Vl (AI o u),e,MB f.1 f.2]
  .rw[aN s];by_cases e:0<=A4 into j/\A4 into j<i
   .rw[aE e,aE ⟨e.1,U⟩]
   .rw[aN e,aN];rintro⟨d,ζ⟩;have N:A4 into j=i:=by
     have:=λhh=>e ⟨d,hh⟩;omega
    have:=(B0 (Gp.1 d)).2.2.1;rw[N]at this;exact s this.symm
end Go.Sf.Sc
namespace Go.Sf.Sc
open Go Go.Sf
def GR(h:AJ)(d:B7):cE:=⟨BU h.ci.bq.length d.bq,BU h.ci.ca.length d.ca⟩
def cmS(r:ei)(h:AJ)(m:cE)(d:B7):cE:=
 ⟨Wl r.d4.ci.bq.length r.ne.bq r.ed.bq (m.bq.map (AA (GR h d).bq)) d.bq.length,
 Wl r.d4.ci.ca.length r.ne.ca r.ed.ca (m.ca.map (AA (GR h d).ca)) d.ca.length⟩
def Ww(t:AC)(k:Int):Fp:=(BC t k).map λx=>x.Low
def RS(tr:Fp)(e:B3):B3:=⟨e.fd,AA tr e.fu,AA tr e.To⟩
def Te(r:ei)(x:AJ)(i:Int):Fp:=x.ci.bq++(AM r.ed.bq i).map (AA r.d4.ci.bq)
def VF(t:AC)(r:ei)(x:AJ)(i:Int):List Fp:=x.eo++(AM r.ed.bq i).map λk=>Ww t (AA r.d4.ci.bq k)
def VE(r:ei)(c:cE)(x:AJ)(i:Int):List B3:=x.ci.ca++(AM r.ed.ca i).map λk=>RS c.bq (AA r.d4.ci.ca k)
def DW(t:AC)(r:ei)(x:AJ)(c:cE):AJ:=⟨⟨Te r x r.d4.ci.bq.length,VE r c x r.d4.ci.ca.length⟩,VF t r x r.d4.ci.bq.length⟩
def C2(h:AJ)(d:B7):AJ:=⟨⟨d.bq.map (AA h.ci.bq),d.ca.map λx=>RS (GR h d).bq (AA h.ci.ca x)⟩,d.bq.map (AA h.eo)⟩
structure SE(x:AJ):Prop where
 c9:x.ci.bq.length<=1000
 d6:x.ci.ca.length<=1000
 vals:x.eo.length<=1000
 rows:∀v∈x.eo,v.length<=1000
structure kJ(t:AC)(r:ei)(c:cE):Prop where
 hf:A0 t
 hv:(BF t).2=0
 g:Bz r.d4.ci
 kind:∀n∈r.d4.ci.bq,0<=n/\n<t.bq.length
 cn:c.bq.length=r.d4.ci.bq.length
theorem jO{x:AJ}(h:SE x):KV x=Y x:=by
 have:=h.c9;have:=h.d6;have:=h.vals;unfold KV slices_Clone_int Cf;rw[BM a?,bs,BM a?,bs];rw[Bs (λi=>AJ.mk x.ci (x.eo.take i.toNat)) U q?]
 .rw[C?,z_];rfl
 .intro i b c;have:=h.rows _ (AI b c)
  grind [AD,BM,Ak,Ao,Cw]
variable{α:Type}{i:Int}
theorem IT(l:Fp)(F:Int->α)(h:0<=i):(AM l (i+1)).map F=(AM l i).map F++if i∈l then[]else[F i]:=by grind[Iq,hasB,Ah]
variable{t:AC}
theorem ry(hf:A0 t)(hv:(BF t).2=0){k:Int}(c:0<=k)(b:k<t.bq.length):KC t k=Y (Ww t k):=by
 have:=Ju hf (Int.le_refl _) (DT hv).par b;unfold KC;rw[SQ hf,M0 hv c b,bs];simp;rw[cL (F:=λa=>a.Low) λj s d e f=>?_]
 .rfl
 grind [AD,Ao,Ak]
structure qB(h:AJ)(d:B7):Prop where
 sm:SE h
 len:h.eo.length=h.ci.bq.length
 c9:(∀x∈d.bq,0<=x/\x<h.ci.bq.length)/\d.bq.length<=1000
 d6:(∀x∈d.ca,0<=x/\x<h.ci.ca.length)/\d.ca.length<=1000
 ends:∀e∈h.ci.ca,(0≤e.fu/\e.fu<h.ci.bq.length)/\0≤e.To/\e.To<h.ci.bq.length
variable{R:ei}{M:Ar}{h:AJ}{C:cE}
theorem rq{d:B7}(j:kJ t R C)(hd:qB h d)(F:C.ca.length=R.d4.ci.ca.length)
  (u:∀i:Int,0<=i->i<R.d4.ci.bq.length->(AA C.bq i=d.bq.length+(AM R.ed.bq i).length↔i∉R.ed.bq))
  (w:∀i:Int,0<=i->i<R.d4.ci.ca.length->(AA C.ca i=d.ca.length+(AM R.ed.ca i).length↔i∉R.ed.ca)):
  Iv t (Bn.mk R M h (AJ.mk (ci.mk [] []) []) (GR h d) C) d=Y (Bn.mk R M h (DW t R (C2 h d) C) (GR h d) C):=by
 have G:=hd.c9.2;have H:=hd.d6.2;have I:=j.g.c9;have J:=j.g.d6;have D:=j.cn;unfold Iv;simp only[];rw[Bs (λi=>Bn.mk R M h (AJ.mk (ci.mk ((d.bq.take i.toNat).map (AA h.ci.bq)) []) ((d.bq.take i.toNat).map (AA h.eo))) (GR h d) C) U V]
 rotate_left
 .intro i b c;have f:=hd.c9.1 _ (AI b c);have o:=hd.len;have y:=hd.sm.rows _ (AI f.1 U);rw[AD b c,bs,AD f.1 f.2,bs,Ao b_,bs,AD f.1 U,bs,BM a?,bs,Ao b_,bs,KO b c,KO b c]
 rw [bs,C?,z_];rw[Bs (λi=>Bn.mk R M h (AJ.mk (ci.mk (d.bq.map (AA h.ci.bq)) ((d.ca.take i.toNat).map λx=>RS (GR h d).bq (AA h.ci.ca x))) (d.bq.map (AA h.eo))) (GR h d) C) U V]
 rotate_left
 .intro i b c;have f:=hd.d6.1 _ (AI b c);have he:=hd.ends _ (AI f.1 f.2);have o:(GR h d).bq.length=h.ci.bq.length:=Cq _ _;simp only[];rw[AD b c,bs,AD f.1 f.2,bs,AD he.1.1 U,bs,AD he.2.1 U,bs,Ao b_,bs,KO b c];rfl
 rw [bs,C?,z_];rw[Bs (λi=>Bn.mk R M h (AJ.mk (ci.mk (Te R (C2 h d) i) (C2 h d).ci.ca) (VF t R (C2 h d) i)) (GR h d) C) U (by unfold Te VF;simp[AM,C2])]
 rotate_left
 .intro i b c;have y:=RY (l:=R.ed.bq) b;have E:=AI b c;have z:=j.kind _ E;have o:(Te R (C2 h d) i).length=d.bq.length+(AM R.ed.bq i).length:=by unfold Te C2;simp
  have s:(VF t R (C2 h d) i).length=d.bq.length+(AM R.ed.bq i).length:=by unfold VF C2;simp
  simp only[o];rw[AD b c,bs,AD b U,bs];by_cases hi:i∈R.ed.bq
  .rw[aN (by rw[p0];push_cast;exact λe=>(u i b c).1 e hi)];unfold Te VF;rw[IT _ _ b,aE hi,A!,IT _ _ b,aE hi,A!]
  .rw[aE (by rw[p0];push_cast;exact(u i b c).2 hi),Ao (by rw[o];simp;unfold Ak;omega),bs,ry j.hf j.hv z.1 z.2,bs,Ao (by rw[s];simp;unfold Ak;omega),bs];unfold Te VF;rw[IT _ _ b,aN hi,IT _ _ b,aN hi,bk,bk]
 rw [bs];rw[Bs (λi=>Bn.mk R M h (AJ.mk (ci.mk (Te R (C2 h d) R.d4.ci.bq.length) (VE R C (C2 h d) i)) (VF t R (C2 h d) R.d4.ci.bq.length)) (GR h d) C) U (by unfold VE;simp[AM,C2])]
 rotate_left
 .intro i b c;have y:=RY (l:=R.ed.ca) b;have he:=j.g.fit _ (AI b c);have o:(VE R C (C2 h d) i).length=d.ca.length+(AM R.ed.ca i).length:=by unfold VE C2;simp
  simp only[o];rw[AD b c,bs,AD b U,bs];by_cases hi:i∈R.ed.ca
  .rw[aN (by rw[p0];push_cast;exact λe=>(w i b c).1 e hi)];unfold VE;rw[IT _ _ b,aE hi,A!]
  .rw[aE (by rw[p0];push_cast;exact(w i b c).2 hi),AD he.2.1.1 U,bs,AD he.2.2.1 U,bs,Ao (by rw[o];simp;unfold Ak;omega),bs];unfold VE;rw[IT _ _ b,aN hi,bk];rfl
 rw [bs];rfl
end Go.Sf.Sc
namespace Go.Sf.Sc
open Go Go.Sf
def al(c:cE)(vars:Fp)(s:Dj):(Int×Int)×Int:=((AA c.bq s.nd,s.gi),GW s.f0 vars)
def DA(r:ei)(c:cE)(vars:Fp):Bh:=r.d4.em.map (al c vars)
def RL(t:AC)(x:AJ)(p:(Int×Int)×Int):Bool:=
 decide (p.2<(AA (BC t (AA x.ci.bq p.1.1)) p.1.2).Low)||decide ((AA (BC t (AA x.ci.bq p.1.1)) p.1.2).Aag<p.2)
structure XN(t:AC)(r:ei)(c:cE)(vars:Fp)(x:AJ):Prop where
 hf:A0 t
 hv:(BF t).2=0
 few:r.d4.em.length<=1000
 fewv:vars.length<=1000
 slot:∀s∈r.d4.em,(0<=s.nd/\s.nd<c.bq.length)/\(-1<=s.f0.Var/\s.f0.Var<vars.length)/\
  (0<=AA c.bq s.nd/\AA c.bq s.nd<x.ci.bq.length)/\(0<=s.gi/\s.gi<(BC t (AA x.ci.bq (AA c.bq s.nd))).length)
 kind:∀n∈x.ci.bq,0<=n/\n<t.bq.length
 vlen:x.eo.length=x.ci.bq.length
 rows:∀i:Int,0<=i->i<x.ci.bq.length->(AA x.eo i).length=(BC t (AA x.ci.bq i)).length
variable{L:Bh}{i:Int}
theorem iW(b:0<=i)(c:i<=L.length)(h:∀j,0<=j->j<i->gh (λk=>decide ((AA L k).1=(AA L j).1)&&!decide ((AA L k).2=(AA L j).2)) 0 j=T):TF (L.take i.toNat):=by grind[ZQ,Pj,Bt,ae,XT,Py]
def be(L:Bh)(i:Int):Bool:=gh (λk=>decide ((AA L k).1=(AA L i).1)&&!decide ((AA L k).2=(AA L i).2)) 0 i
theorem nU(E:0<=i)(F:i<L.length)(o:TF (L.take i.toNat)):
  (((PZ (L.take i.toNat)).look (AA L i).1).isSome&&(!decide (((PZ (L.take i.toNat)).look (AA L i).1).getD 0=(AA L i).2)))=be L i:=by
 obtain ⟨G,u,H⟩:=gB _ o;unfold be;cases s:(PZ (L.take i.toNat)).look (AA L i).1 with
 |none=>
  rw [Option.isSome_none,C_];refine Eq.symm (Bt.2 λk d f=>?_);have c:AA L k∈L.take i.toNat:=by
   rw [<-Py (n:=i.toNat) U]
   grind [AI,ae]
  rw [decide_eq_false (Zu s _ ((u _).2 c)),C_]
 |some v=>
  have c:=(u _).1 (U9 s);rw[Option.isSome_some,B_,Option.getD_some];have b:∀k,0<=k->k<i->(AA L k).1=(AA L i).1->(AA L k).2=v:=λk d f e=>by
   have y:AA L k∈L.take i.toNat:=by
    rw [<-Py (n:=i.toNat) U]
    grind [AI,ae]
   exact o _ y _ c e
  obtain ⟨k,d,f,w⟩:=BT c;rw[ae]at f;rw[Py U]at w;rw[B!,D1];constructor
  .intro h;refine⟨k,d,U,?_⟩;rw[w,decide_eq_true rfl,B_];exact h
  .rintro⟨j,z,D,h⟩;rw[kp,p0]at h;rw[<-b j z D h.1];exact h.2
theorem dr(r:ei)(c:cE)(vars:Fp)(b:0<=i)(d:i<r.d4.em.length):AA (DA r c vars) i=al c vars (AA r.d4.em i):=MB b d
theorem QW(r:ei)(c:cE)(vars:Fp):(DA r c vars).length=r.d4.em.length:=bd ..
theorem nO(L:Bh){ρ:Type}(v:ρ):fst (λi=>if be L i=X then Y v else W) 0 L.length=if Pj L=X then Y v else W:=O4
variable{t:AC}{R:ei}{M:Ar}{B A:AJ}{θ C:cE}
theorem jN(h:XN t R C M.eT A):IU (Bn.mk R M B A θ C)=Y (if Pj (DA R C M.eT)=X then([],11)else(PZ (DA R C M.eT),0)):=by
 unfold IU;simp only[];rw[Vo (a:=0) (s:=([]:Bh)) (λi=>PZ ((DA R C M.eT).take i.toNat)) (λi=>if be (DA R C M.eT) i=X then Y ([],11)else W) U rfl]
 .have:=nO (DA R C M.eT) (([],11):Bh×Int);rw[QW]at this;rw[this];by_cases e:Pj (DA R C M.eT)=X
  .rw[aE e,aE e];rfl
  .rw[aN e,aN e,<-QW R C M.eT,C?,z_];rfl
 .intro i b c w;have d:=h.slot _ (AI b c);have y:TF ((DA R C M.eT).take i.toNat):=iW b (by rw[QW];omega) λj o u=>by
   have:=w j o u;split at this
   .cases this
   next e=>exact C'.2 e
  have f:=nU (L:=DA R C M.eT) b (by rw[QW];exact c) y;rw[AD b c,bs,cZ d.2.1.1 d.2.1.2 h.fewv,bs,aN V,AD d.1.1 d.1.2,bs];rw[dr R C M.eT b c]at f;simp[al]at f;simp only[];by_cases e:be (DA R C M.eT) i=X
  .refine(aE (f.trans e)).trans ?_;rw[aE e];rfl
  .refine(aN (λh=>e (f.symm.trans h))).trans ?_;rw[aN e,Cw b (by rw[QW];exact c),cM,dr R C M.eT b c];rfl
variable{α:Type}
theorem gF{f:α->K1}{g:α->Bool}:∀{l:List α},(∀p∈l,f p=Y (g p))->AaA f l=Y (l.all g)
 |[],_=>rfl|p::r,h=>by
  unfold AaA;rw[h p List.mem_cons_self,bs,gF λq b=>h q (x! _ b),bs,List.all_cons]
variable{r:ei}
theorem ob{c:cE}{vars:Fp}{x:AJ}(h:XN t r c vars x){s:Dj}(o:s∈r.d4.em){κ:List Fp}(u:OF κ x.eo):
  idx κ (AA c.bq s.nd)=Y (AA κ (AA c.bq s.nd))/\idx (AA κ (AA c.bq s.nd)) s.gi=Y (AA (AA κ (AA c.bq s.nd)) s.gi):=by
 have d:=h.slot s o;have hv:=h.vlen;have D:=h.rows _ d.2.2.1.1 d.2.2.1.2;have w:idx x.eo (AA c.bq s.nd)=Y (AA x.eo (AA c.bq s.nd)):=AD d.2.2.1.1 U;have y:idx (AA x.eo (AA c.bq s.nd)) s.gi=Y (AA (AA x.eo (AA c.bq s.nd)) s.gi):=AD d.2.2.2.1 U;obtain⟨z,x',a,b⟩:=u.idx w y;have f:=Ga a;have j:=Ga b;have E:=(A?.1 f.2.2).1;have e:AA κ (AA c.bq s.nd)=z:=by
  grind [AD,Option.some.inj]
 have F:=(A?.1 j.2.2).1;refine⟨AD f.1 U,?_⟩;rw[e];exact AD j.1 U
theorem nZ(h:XN t R C M.eT A){p:(Int×Int)×Int}(e:p∈DA R C M.eT):Oh t (Bn.mk R M B A θ C) p=Y (!RL t A p):=by
 obtain ⟨s,d,rfl⟩:=x_.1 e;have b:=h.slot s d;have c:=h.kind _ (AI b.2.2.1.1 b.2.2.1.2);obtain⟨f,j⟩:=ob h d (κ:=A.eo) rfl;unfold Oh Og al RL;simp;rw[AD b.2.2.1.1 b.2.2.1.2,bs,SQ h.hf,M0 h.hv c.1 c.2,bs];simp;simp[AD b.2.2.2.1 b.2.2.2.2,f,j,Yx]
 grind
def IM(t:AC)(x:AJ)(L:Bh):AJ×Int:=
 if Pj L=X then(⟨⟨[],[]⟩,[]⟩,11)else if L.any (RL t x)=X then(⟨⟨[],[]⟩,[]⟩,6)else(⟨x.ci,L.foldl C8 x.eo⟩,0)
theorem um(h:XN t R C M.eT A):LU t (Bn.mk R M B A θ C)=Y ((IM t A (DA R C M.eT)).2,if(IM t A (DA R C M.eT)).2=0 then Bn.mk R M B (IM t A (DA R C M.eT)).1 θ C else Bn.mk R M B A θ C):=by
 unfold LU IM;rw[jN h,bs];by_cases e:Pj (DA R C M.eT)=X
 .grind
 .rw[aN e,aN V,aN e];obtain⟨d,f,j⟩:=gB _ (ZQ (C'.2 e));have c:AaA (Oh t (Bn.mk R M B A θ C)) (PZ (DA R C M.eT))=Y (!(DA R C M.eT).any (RL t A)):=by
   rw [gF (g:=λp=>!RL t A p) λp b=>nZ h ((f p).1 b)]
   grind
  rw [aE (by simpa using(show List.Pairwise (λx y:(Int×Int)×Int=>x.1≠y.1) _ from d)),c,bs]
  grind [DA,RL,N2]
end Go.Sf.Sc
namespace Go.Sf.Sc
open Go Go.Sf
variable{t:AC}{r:ei}
theorem Pt(h:GV t r=0):IL t r.ec=0/\KU t r=0/\Mc t r.ec r.c8=0:=by grind[GV]
theorem fI(h:KU t r=0):r.d4.eT=r.ec.eT/\r.d4.em.length<=10/\∀i:Int,0<=i->i<r.d4.em.length->Ow t r.d4 i=0:=by
 unfold KU at h;split at h
 .omega
 split at h
 .cases h
 split at h
 .cases h
 split at h
 .cases h
 rename_i b c d e;exact⟨U,U,SK h⟩
variable{i:Int}
theorem jp{p:d5}(h:Ow t p i=0):(0<=(AA p.em i).nd/\(AA p.em i).nd<p.ci.bq.length)/\
  (0<=(AA p.em i).gi/\(AA p.em i).gi<(HQ t (AA p.ci.bq (AA p.em i).nd)).1.length)/\-1<=(AA p.em i).f0.Var/\(AA p.em i).f0.Var<p.eT:=by
 unfold Ow at h;dsimp only at h;split at h
 .cases h
 split at h
 .cases h
 rename_i c b;simp[p0]at b;omega
structure Hq(t:AC)(r:ei)(h:AJ)(m:Ar):Prop where
 hf:A0 t
 fr:E6 r
 re:GV t r=0
 he:(CN t h).2=0
 at_:fP t r.ec h m
 co:aq (JG r.ec.ci h.ci m.cE) h.ci r.ne m.cE
abbrev dS(r:ei)(h:AJ)(m:Ar):B7:=Ls h.ci r.ne m.cE
abbrev cS(r:ei)(h:AJ)(m:Ar):cE:=cmS r h m.cE (dS r h m)
variable{h:AJ}{m:Ar}
theorem Hq.hv(s:Hq t r h m):(BF t).2=0:=(P3 s.re).1
theorem Hq.ro(s:Hq t r h m):SD t r:=(P3 s.re).2
theorem Hq.hh(s:Hq t r h m):NG t h:=(GK s.hf s.he).2
theorem Xq(hf:A0 t)(hv:(BF t).2=0)(hh:NG t h):SE h:=by
 have d:=hh.g.c9;have e:=hh.g.d6;have f:=hh.len;refine⟨U,U,U,λv b=>?_⟩;obtain⟨i,c,s,rfl⟩:=BT b;have j:=hh.row i c U;have o:=Ju hf (Int.le_refl _) (DT hv).par (hh.kind i c U).2;omega
theorem Hq.rem(s:Hq t r h m):qB h (dS r h m):=by
 have hh:=s.hh;have c:=hh.g.c9;have d:=hh.g.d6;have l1:=E3 (Fo m.cE.bq r.ne.bq) h.ci.bq.length;have l2:=E3 (Fo m.cE.ca r.ne.ca) h.ci.ca.length;exact⟨Xq s.hf s.hv hh,hh.len,⟨λx b=>Dn b,by show(AM _ _).length<=1000;omega⟩,⟨λx b=>Dn b,by show(AM _ _).length<=1000;omega⟩,λe he=>(hh.g.fit e he).2⟩
theorem Hq.part(s:Hq t r h m):EG h.ci (dS r h m)=0:=by
 unfold EG;rw[aN (by simp[s.hh.ge])];exact mL s.co
variable{count n:Nat}
theorem kT{eE into images:Fp}{BI:Fp}(few:count<=1000)(nodup:into.Nodup)(len:into.length=eE.length)(inn:∀x∈into,0<=x/\x<count)
  (kin:∀x∈eE,0<=x/\x<images.length)(c:∀x∈images,0<=x/\x<n)(hi:Aam images eE=T)(d:BI=Fo images eE):
  XJ count eE into (images.map (AA (BU n (AM BI n))))/\(∀x∈eE,AA (images.map (AA (BU n (AM BI n)))) x<(AM BI n).length)/\
  ∀x∈eE,AA (images.map (AA (BU n (AM BI n)))) x=A4 (AM BI n) (AA images x)/\AA images x∈AM BI n:=by
 have e:∀x∈eE,AA (images.map (AA (BU n (AM BI n)))) x=A4 (AM BI n) (AA images x)/\AA images x∈AM BI n:=λx b=>by
  grind [AI,MB,Er,Nw,U7]
 refine ⟨⟨few,nodup,len,inn,λx b=>by rw[bd];exact kin x b,λx b=>?_⟩,λx b=>?_,e⟩
 .rw[(e x b).1];exact Gp.2 (e x b).2
 .rw[(e x b).1];exact(Vq _ _).2
theorem Hq.left(s:Hq t r h m):m.cE.bq.length=r.ec.ci.bq.length/\m.cE.ca.length=r.ec.ci.ca.length:=⟨s.at_.m.z5,s.at_.m.Aaf⟩
theorem Hq.AbS(s:Hq t r h m):XJ r.d4.ci.bq.length r.ne.bq r.ed.bq (m.cE.bq.map (AA (GR h (dS r h m)).bq))/\
  (∀x∈r.ne.bq,AA (m.cE.bq.map (AA (GR h (dS r h m)).bq)) x<(dS r h m).bq.length)/\
  ∀x∈r.ne.bq,AA (m.cE.bq.map (AA (GR h (dS r h m)).bq)) x=A4 (dS r h m).bq (AA m.cE.bq x)/\AA m.cE.bq x∈(dS r h m).bq:=by
 have ro:=s.ro;have e:=ro.right.c9;refine kT U ro.inj.1 ?_ (λx b=>?_) (λx b=>?_) (λx b=>?_) s.co.c9 rfl
 .have:=ro.mor.z5;rw[this];exact bd ..
 .obtain⟨i,c,d,rfl⟩:=BT b;exact(ro.mor.node i c d).1
 .have:=ro.part.c9.1 x b;have:=s.left.1;omega
 .obtain⟨i,c,d,rfl⟩:=BT b;exact(s.at_.m.node i c d).1
theorem Hq.comE(s:Hq t r h m):XJ r.d4.ci.ca.length r.ne.ca r.ed.ca (m.cE.ca.map (AA (GR h (dS r h m)).ca))/\
  (∀x∈r.ne.ca,AA (m.cE.ca.map (AA (GR h (dS r h m)).ca)) x<(dS r h m).ca.length)/\
  ∀x∈r.ne.ca,AA (m.cE.ca.map (AA (GR h (dS r h m)).ca)) x=A4 (dS r h m).ca (AA m.cE.ca x)/\AA m.cE.ca x∈(dS r h m).ca:=by
 have ro:=s.ro;have e:=ro.right.d6;refine kT U ro.inj.2 ?_ (λx b=>?_) (λx b=>?_) (λx b=>?_) s.co.d6 rfl
 .have:=ro.mor.Aaf;rw[this];exact bd ..
 .obtain⟨i,c,d,rfl⟩:=BT b;exact(ro.mor.edge i c d).1
 .have:=ro.part.d6.1 x b;have:=s.left.2;omega
 .obtain⟨i,c,d,rfl⟩:=BT b;exact s.at_.m.edge i c d
theorem fa{eE into at_:Fp}(h:XJ count eE into at_)(b:∀x∈eE,AA at_ x<n)(c:0<=i)(d:i<count):AA (Wl count eE into at_ n) i=n+(AM into i).length↔i∉into:=by
 rw [bW c d];constructor
 .intro e hi;rw[Vl hi]at e;have f:=B0 hi;have:=b _ (AI (l:=eE) f.1 v!);omega
 .exact Wm
theorem Hq.grow(s:Hq t r h m):kJ t r (cS r h m):=
 ⟨s.hf,s.hv,s.ro.right,(ET s.ro.right s.ro.Aat).1,Yi _ _ _ _ _⟩
theorem WX(l:Fp)(b:0<=i):∀(k:Nat),∃s,AM l (i+k)=AM l i++s
 |0=>⟨[],V⟩|k+1=>by
  obtain ⟨s,e⟩:=WX l b k
  grind [Iq,bk]
variable{l:Fp}
theorem Tw{i n:Int}(b:0<=i)(c:i<n)(h:i∉l):AA (AM l n) (AM l i).length=i/\((AM l i).length:Int)<(AM l n).length:=by
 obtain ⟨s,e⟩:=WX l (i:=i+1) U (n-(i+1)).toNat
 rw [show i+1+((n-(i+1)).toNat:Int)=n by omega,Iq l b]at e
 grind [hasB,Ah,AA]
variable{α:Type}
theorem Fy[Inhabited α]{l m:List α}(b:0<=i)(c:i<l.length):AA (l++m) i=AA l i:=by grind[Gt]
theorem QD[Inhabited α]{l m:List α}:AA (l++m) (l.length+n:Int)=AA m n:=by grind[Gt,AA,C?]
variable{a:Int}
theorem cA(h:0<=a):isB t a a=X:=by
 unfold isB;rw[show(a+1).toNat=a.toNat+1 by omega,Gc,aN U];simp
theorem Hq.AbB(s:Hq t r h m)(f:0<=i)(j:i<r.d4.ci.bq.length):
  (0<=AA (cS r h m).bq i/\AA (cS r h m).bq i<(DW t r (C2 h (dS r h m)) (cS r h m)).ci.bq.length)/\
  AA (DW t r (C2 h (dS r h m)) (cS r h m)).ci.bq (AA (cS r h m).bq i)<t.bq.length/\isB t (AA (DW t r (C2 h (dS r h m)) (cS r h m)).ci.bq (AA (cS r h m).bq i)) (AA r.d4.ci.bq i)=X:=by
 obtain ⟨D,I,c3⟩:=s.AbS;have E:AA (cS r h m).bq i=QE r.ne.bq r.ed.bq (m.cE.bq.map (AA (GR h (dS r h m)).bq)) (dS r h m).bq.length i:=bW f j;have el:(DW t r (C2 h (dS r h m)) (cS r h m)).ci.bq=(dS r h m).bq.map (AA h.ci.bq)++(EK r).map (AA r.d4.ci.bq):=rfl;rw[E,el,a6,bd,bd];by_cases hi:i∈r.ed.bq
 .have b:=B0 hi;have J:=D.len;have d:=AI (l:=r.ne.bq) b.1 U;have w:=c3 _ d;have y:=I _ d;have o:=D.pos _ d;rw[Vl hi];refine⟨⟨o,by push_cast;omega⟩,?_⟩;rw[Fy o (by rw[bd];exact y),MB o y,w.1,(B0 w.2).2.2.1];have e:=s.ro.part.c9.1 _ d;have F:=s.left.1;have u:=s.at_.m.node _ e.1 U;have G:=s.hh.kind _ u.1.1 u.1.2;have z:=s.ro.mor.node _ b.1 b.2.1;rw[b.2.2.1]at z;have H:AA (Mg r.ec.ci r.ne).bq (A4 r.ed.bq i)=AA r.ec.ci.bq (AA r.ne.bq (A4 r.ed.bq i)):=MB b.1 U;rw[z.2,H];exact⟨G.2,u.2⟩
 .have e:=Tw f j hi;rw[Wm hi];have c:((dS r h m).bq.map (AA h.ci.bq)).length=(dS r h m).bq.length:=bd ..;refine⟨⟨U,?_⟩,?_⟩
  .have:((EK r).length:Int)=(AM r.ed.bq r.d4.ci.bq.length).length:=rfl
   push_cast
   omega
  .rw[<-c,QD,show EK r=AM r.ed.bq r.d4.ci.bq.length from rfl,MB U e.2];show AA r.d4.ci.bq (AA (AM r.ed.bq r.d4.ci.bq.length) (AM r.ed.bq i).length)<(t.bq.length:Int)/\isB t (AA r.d4.ci.bq (AA (AM r.ed.bq r.d4.ci.bq.length) (AM r.ed.bq i).length)) _=X;rw[e.1];have:=(ET s.ro.right s.ro.Aat).1 _ (AI f j);exact⟨this.2,cA this.1⟩
theorem Hq.rows(s:Hq t r h m):(DW t r (C2 h (dS r h m)) (cS r h m)).eo.map (λv=>v.length)=(DW t r (C2 h (dS r h m)) (cS r h m)).ci.bq.map λn=>(BC t n).length:=by
 show (List.map _ (_++_))=List.map _ (_++_);rw[A_,A_];congr 1
 .show((dS r h m).bq.map (AA h.eo)).map _=((dS r h m).bq.map (AA h.ci.bq)).map _;rw[y_,y_];refine A' λx b=>?_;have b:=s.rem.c9.1 x b;exact s.hh.row x b.1 b.2
 grind [y_,A',Ww,bd]
theorem Hq.put(s:Hq t r h m):XN t r (cS r h m) m.eT (DW t r (C2 h (dS r h m)) (cS r h m)):=by
 obtain ⟨K,E,N⟩:=Pt s.re;obtain⟨hv,O,u⟩:=fI E;have H:=s.at_.q.vars;have w:=s.at_.len;have j:=s.rows;have o:(DW t r (C2 h (dS r h m)) (cS r h m)).eo.length=(DW t r (C2 h (dS r h m)) (cS r h m)).ci.bq.length:=by
  grind [List.length,bd]
 refine ⟨s.hf,s.hv,U,U,λx b=>?_,λn c=>?_,o,λi d f=>?_⟩
 .obtain⟨i,d,f,rfl⟩:=BT b;obtain⟨e,F,P⟩:=jp (u i d f);have y:=(ET s.ro.right s.ro.Aat).1 _ (AI e.1 e.2);rw[M0 s.hv y.1 y.2]at F;obtain⟨Q,G,z⟩:=s.AbB e.1 e.2;replace z:=Zr (DT s.hv) G z;have D:(cS r h m).bq.length=r.d4.ci.bq.length:=Yi _ _ _ _ _
  grind
 .have c:n∈(dS r h m).bq.map (AA h.ci.bq)++(EK r).map (AA r.d4.ci.bq):=c;rcases List.mem_append.1 c with c|c
  .obtain⟨x,b,rfl⟩:=x_.1 c;have b:=s.rem.c9.1 x b;exact s.hh.kind x b.1 b.2
  .obtain⟨x,b,rfl⟩:=x_.1 c;have b:=Dn b;exact(ET s.ro.right s.ro.Aat).1 _ (AI b.1 b.2)
 .have I:=MB (l:=(DW t r (C2 h (dS r h m)) (cS r h m)).eo) (g:=λv=>v.length) d U;have J:=MB (l:=(DW t r (C2 h (dS r h m)) (cS r h m)).ci.bq) (g:=λn=>(BC t n).length) d f
  grind
end Go.Sf.Sc
namespace Go.Sf.Sc
open Go Go.Sf
abbrev zT:ei:=ei.mk (⟨#[]⟩:ByteArray) (d5.mk (ci.mk [] []) [] 0 []) (d5.mk (ci.mk [] []) [] 0 []) (B7.mk [] []) (cE.mk [] []) T (c8.mk 0 [] (cE.mk [] []) (d5.mk (ci.mk [] []) [] 0 []))
abbrev zG:Bn:=Bn.mk zT (Ar.mk (cE.mk [] []) []) (AJ.mk (ci.mk [] []) []) (AJ.mk (ci.mk [] []) []) (cE.mk [] []) (cE.mk [] [])
def Vr(t:AC)(r:ei)(h:AJ)(m:Ar):Bn×Int:=
 if (IM t (DW t r (C2 h (dS r h m)) (cS r h m)) (DA r (cS r h m) m.eT)).2≠0 then(zG,(IM t (DW t r (C2 h (dS r h m)) (cS r h m)) (DA r (cS r h m) m.eT)).2)else
 if 40<(IM t (DW t r (C2 h (dS r h m)) (cS r h m)) (DA r (cS r h m) m.eT)).1.ci.bq.length\/80<(IM t (DW t r (C2 h (dS r h m)) (cS r h m)) (DA r (cS r h m) m.eT)).1.ci.ca.length then(zG,3)else
 (Bn.mk r m h (IM t (DW t r (C2 h (dS r h m)) (cS r h m)) (DA r (cS r h m) m.eT)).1 (GR h (dS r h m)) (cS r h m),0)
noncomputable def JR(t:AC)(r:ei)(h:AJ)(m:Ar):Bn×Int:=
 if GV t r≠0 then(zG,GV t r)else if(CN t h).2≠0 then(zG,(CN t h).2)else
 if JS t r.ec.ci h.ci m.cE r.jj≠0 then(zG,1)else
 if (IH t r.ec h m.cE).2≠0 then(zG,(IH t r.ec h m.cE).2)else if¬(IH t r.ec h m.cE).1=m.eT then(zG,11)else
 if (Ph (JG r.ec.ci h.ci m.cE) h.ci r.ne m.cE).2≠0 then(zG,(Ph (JG r.ec.ci h.ci m.cE) h.ci r.ne m.cE).2)else
 if (Va t r.ec r.c8 h m r.jj).2≠0 then(zG,(Va t r.ec r.c8 h m r.jj).2)else
 if (Va t r.ec r.c8 h m r.jj).1=T then(zG,16)else Vr t r h m
variable{t:AC}{r:ei}{h:AJ}{m:Ar}
theorem Yg(b:GV t r=0)(c:(CN t h).2=0)(d:JS t r.ec.ci h.ci m.cE r.jj=0)(e:(IH t r.ec h m.cE).2=0)(f:(IH t r.ec h m.cE).1=m.eT):WJ t r.ec r.c8 h m r.jj=0:=by
 unfold WJ;rw[aN (by simp[(Pt b).2.2]),aN v1,aN (by simp[d]),aN d!,aE f]
theorem rc{ζ:Option (Bn×Int)}(hX:(IM t (DW t r (C2 h (dS r h m)) (cS r h m)) (DA r (cS r h m) m.eT)).2=0->ζ=
   if ((decide (40<((IM t (DW t r (C2 h (dS r h m)) (cS r h m)) (DA r (cS r h m) m.eT)).1.ci.bq.length:Int)))||(decide (80<((IM t (DW t r (C2 h (dS r h m)) (cS r h m)) (DA r (cS r h m) m.eT)).1.ci.ca.length:Int))))=X then Y (zG,3)else
   Y (Bn.mk r m h (IM t (DW t r (C2 h (dS r h m)) (cS r h m)) (DA r (cS r h m) m.eT)).1 (GR h (dS r h m)) (cS r h m),0)):
  (if(!decide ((IM t (DW t r (C2 h (dS r h m)) (cS r h m)) (DA r (cS r h m) m.eT)).2=0))=X then Y (zG,(IM t (DW t r (C2 h (dS r h m)) (cS r h m)) (DA r (cS r h m) m.eT)).2)else ζ)=Y (Vr t r h m):=by
 unfold Vr;refine Gf λb=>?_;rw[hX b];refine PY a! λ_=>rfl
theorem uz(hf:A0 t)(fr:E6 r)(z:G8 r.c8<=40)(h:AJ)(m:Ar):KB t r h m=Y (JR t r h m):=by
 unfold KB Lv JR;rw[OU hf,bs];by_cases hv:¬(BF t).2=0
 .grind[GV,BF]
 have hv:=C!.1 hv;rw[aN v_,lm hf fr,bs,QP hf,bs];by_cases d:¬GV t r=0
 .grind
 have d:=C!.1 d;rw[aN (by simp[d]),bs,aN (show¬GV t r≠0 by simp[d])];refine Gf λD=>?_;rw[Option.bind_fun_some];unfold Lu Jk;rw[Y0 hf,bs];by_cases e:¬JS t r.ec.ci h.ci m.cE r.jj=0
 .grind
 have e:=C!.1 e;rw[aN d!,gH hf,bs,aN (show¬JS t r.ec.ci h.ci m.cE r.jj≠0 by simp[e])];by_cases j:¬(IH t r.ec h m.cE).2=0
 .grind
 have j:=C!.1 j;rw[aN q!,qV,bs,aN (show¬(IH t r.ec h m.cE).2≠0 by simp[j])];by_cases o:¬(IH t r.ec h m.cE).1=m.eT
 .grind
 have o:=C!.1 o;rw[aN i9,bs,aN V,aN (show¬¬(IH t r.ec h m.cE).1=m.eT by simp[o])];rw[uq hf e,bs,aN V,uj fr.eE,bs];refine Gf λE=>?_;obtain⟨_,_,_,u⟩:=iU hf z (Yg d D e j o);obtain⟨co,N⟩:=fb E;rw[fD hf _ fr.cond z,bs,N];refine Gf λO=>?_;refine Uq λP=>?_;have s:Hq t r h m:=⟨hf,fr,d,D,u,co⟩;have f:=s.rem;have Q:=s.hh.g.c9;have S:=s.hh.g.d6;have l1:=s.left.1;have l2:=s.left.2;have ε:=s.ro.left.c9;have κ:=s.ro.left.d6;have G:=u.len;have H:=u.q.vars;have y:Jj m=Y m:=by
  unfold Jj slices_Clone_int;rw[BM a?,bs,BM a?,bs,BM a?,bs]
 simp only[];rw[y,bs,jO f.sm,bs];rw[gL U f.c9.2 (RH _ _),bs,gL U f.d6.2 (RH _ _),bs];have I:G4 r.d4.ci.bq.length r.ne.bq r.ed.bq m.cE.bq (BU h.ci.bq.length (dS r h m).bq) (Ls h.ci r.ne m.cE).bq.length=Y (cS r h m).bq:=
  Zy s.AbS.1 (λx w=>by rw[Cq];obtain⟨i,b,c,rfl⟩:=BT w;exact(u.m.node i b c).1) U (D_.2 f.c9.2)
 have J:G4 r.d4.ci.ca.length r.ne.ca r.ed.ca m.cE.ca (BU h.ci.ca.length (dS r h m).ca) (Ls h.ci r.ne m.cE).ca.length=Y (cS r h m).ca:=
  Zy s.comE.1 (λx w=>by rw[Cq];obtain⟨i,b,c,rfl⟩:=BT w;exact u.m.edge i b c) U (D_.2 f.d6.2)
 rw [I,bs,J,bs];have K:=rq (M:=m) s.grow f (Yi _ _ _ _ _) (λi b c=>fa s.AbS.1 s.AbS.2.1 b c) (λi b c=>fa s.comE.1 s.comE.2.1 b c);change ((Iv t (Bn.mk r m h (AJ.mk (ci.mk [] []) []) (GR h (dS r h m)) (cS r h m)) (dS r h m)).bind _)=_;rw[K,bs,um s.put,bs];exact rc λF=>by rw[aE F]
end Go.Sf.Sc
namespace Go.Sf.Sc
open Go Go.Sf
instance:Inhabited ei:=⟨zT⟩
instance:Inhabited NI:=⟨⟨0,⟨⟨[],[]⟩,[]⟩⟩⟩
instance:Inhabited Bn:=⟨zG⟩
structure AAM(d3:List ei):Prop where
 len:d3.length<=12
 each:∀r∈d3,E6 r/\G8 r.c8<=40
structure AAK(h:AJ)(s:Bn):Prop where
 z5:s.Aaq.bq.length=h.ci.bq.length
 Aaf:s.Aaq.ca.length=h.ci.ca.length
 node:∀x∈s.Aaq.bq,-1<=x/\x<s.og.ci.bq.length
 edge:∀x∈s.Aaq.ca,-1<=x/\x<s.og.ci.ca.length
 sm:SE s.og
variable{t:AC}{L:Bh}
theorem l6{x:AJ}(h:(IM t x L).2=0):IM t x L=(⟨x.ci,L.foldl C8 x.eo⟩,0)/\L.any (RL t x)=T:=by
 unfold IM at h|-
 grind
structure XS(t:AC)(r:ei)(h:AJ)(m:Ar):Prop where
 f:Hq t r h m
 sat:Va t r.ec r.c8 h m r.jj=(X,0)
 solve:IH t r.ec h m.cE=(m.eT,0)
 chk:JS t r.ec.ci h.ci m.cE r.jj=0
 put:(IM t (DW t r (C2 h (dS r h m)) (cS r h m)) (DA r (cS r h m) m.eT)).2=0
 few:(DW t r (C2 h (dS r h m)) (cS r h m)).ci.bq.length<=40/\(DW t r (C2 h (dS r h m)) (cS r h m)).ci.ca.length<=80
def Un(t:AC)(r:ei)(h:AJ)(m:Ar):AJ:=⟨(DW t r (C2 h (dS r h m)) (cS r h m)).ci,(DA r (cS r h m) m.eT).foldl C8 (DW t r (C2 h (dS r h m)) (cS r h m)).eo⟩
def ju(t:AC)(r:ei)(h:AJ)(m:Ar):Bn:=Bn.mk r m h (Un t r h m) (GR h (dS r h m)) (cS r h m)
variable{r:ei}{h:AJ}{m:Ar}
theorem nI(hf:A0 t)(fr:E6 r)(E:G8 r.c8<=40)(e:(JR t r h m).2=0):XS t r h m/\JR t r h m=(ju t r h m,0):=by
 unfold JR at e|-;split at e
 next c=>exact absurd e c
 rename_i c;rw[aN c];split at e
 next d=>exact absurd e d
 rename_i d;rw[aN d];split at e
 .cases e
 rename_i w;rw[aN w];split at e
 next f=>exact absurd e f
 rename_i f;rw[aN f];split at e
 .cases e
 rename_i y;rw[aN y];split at e
 next o=>exact absurd e o
 rename_i o;rw[aN o];split at e
 next u=>exact absurd e u
 rename_i u;rw[aN u];split at e
 .cases e
 rename_i z;rw[aN z];have c:=C!.1 c;have d:=C!.1 d;have w:=C!.1 w;have f:=C!.1 f;have y:=C!.1 y;have o:=C!.1 o;have u:=C!.1 u;obtain⟨_,_,_,F⟩:=iU hf E (Yg c d w f y);have s:Hq t r h m:=⟨hf,fr,c,d,F,(fb o).1⟩;unfold Vr at e|-;split at e
 next j=>exact absurd e j
 rename_i j;rw[aN j];have j:=C!.1 j;obtain⟨D,G⟩:=l6 j;split at e
 .cases e
 rename_i b;rw[aN b];rw[D]at b;refine⟨⟨s,?_,?_,w,j,?_⟩,?_⟩
 .exact Prod.ext (by simpa using z) u
 .exact Prod.ext y f
 .simp[not_or]at b;exact b
 .rw[D];rfl
end Go.Sf.Sc
namespace Go.Sf.Sc
open Go Go.Sf
structure InM(m:cE)(g:ci):Prop where
 z5:m.bq.length<=1000
 Aaf:m.ca.length<=1000
 node:∀x∈m.bq,-1<=x/\x<g.bq.length
 edge:∀x∈m.ca,-1<=x/\x<g.ca.length
structure tG(m:Ar):Prop where
 c9:m.cE.bq.length<=1000
 d6:m.cE.ca.length<=1000
 vars:m.eT.length<=1000
variable{t:AC}{r:ei}{h:AJ}{m:Ar}
theorem XS.small(s:XS t r h m):tG m:=by
 have c:=s.f.left;have b:=s.f.ro.left;have d:=s.f.at_.len;have e:=s.f.at_.q.vars;have:=b.c9;have:=b.d6;exact⟨U,U,U⟩
variable{α:Type}{i:Int}
theorem rA[Inhabited α]{l:List α}(v:α)(b:0<=i)(c:i<l.length):AA (BN l i v) i=v:=by grind[AA,BN]
theorem rC[Inhabited α]{l:List α}{i j:Int}(v:α)(b:0<=i)(c:0<=j)(h:j≠i):AA (BN l i v) j=AA l j:=by grind[AA,BN]
end Go.Sf.Sc
namespace Go.Sf.Sc
open Go Go.Sf
end Go.Sf.Sc
namespace Go.Sf.Sc
open Go Go.Sf
end Go.Sf.Sc
namespace Go.Sf.Sc
open Go Go.Sf
end Go.Sf.Sc
namespace Go.Sf.Sc
open Go Go.Sf
variable{h:AJ}
theorem kc:∃b,PF h=Y b/\(b=X->SE h):=by
 unfold PF PB;rw[bs];by_cases c:((!((decide ((h.ci.bq.length:Int)<=45))&&(decide ((h.ci.ca.length:Int)<=90))))||(decide (45<(h.eo.length:Int))))=X
 .rw[aE c];exact⟨T,rfl,λh=>e_⟩
 rw [aN c,BX (λi=>decide (12<((AA h.eo i).length:Int))) T]
 .cases e:gh (λi=>decide (12<((AA h.eo i).length:Int))) 0 h.eo.length with
  |true=>exact⟨T,rfl,λh=>e_⟩
  |false=>
   refine ⟨X,rfl,λ_=>?_⟩;rw[Bt]at e;simp only[B?,Bool.not_eq_true',Bool.and_eq_false_iff,decide_eq_false_iff_not,p0,not_or]at c;refine⟨U,U,U,λv hv=>?_⟩
   grind [BT]
 .intro i d f _;rw[AD d f,bs,Jy]
end Go.Sf.Sc
namespace Go.Sf.Sc
open Go Go.Sf
theorem gT(m:cE):Ll m m=Y X:=by grind[Ll,sC,Y3,bs]
end Go.Sf.Sc
namespace Go.Sf.Sc
open Go Go.Sf
def av(x:Int):Prop:=-9223372036854775808<=x/\x<=9223372036854775807
theorem sw{x y:Int}(b:av x)(c:av y):Ag (x-y)=0↔x=y:=by
 unfold av at b c;rw[eG];split<;>omega
theorem l9{l m:Fp}(s:l.length<=1000)(u:m.length<=1000)(j:∀x∈l,av x)(o:∀x∈m,av x):∃v,KQ l m=Y v/\(v=0↔l=m):=by
 unfold KQ;rw[P5 (λi=>if AA l i=AA m i then W else Y (.inr (Ag (AA l i-AA m i)))) (b:=min (l.length:Int) m.length) U]
 .cases e:fst (λi=>if AA l i=AA m i then(W:Option (Int ⊕ Int))else Y (.inr (Ag (AA l i-AA m i)))) 0 (min (l.length:Int) m.length)with
  |none=>
   refine ⟨_,rfl,?_⟩;rw[Au U U];rw[BY]at e;constructor
   .intro h;refine bL U λi c f=>?_;have:=e i c U
    grind
   .rintro rfl;omega
  |some x=>
   obtain ⟨i,c,f,d,_⟩:=Db e;by_cases h:AA l i=AA m i
   .rw[aE h]at d;cases d
   .rw[aN h]at d;cases d;refine⟨_,rfl,?_⟩;rw[sw (j _ (AI c U)) (o _ (AI c U))];exact⟨λk=>absurd k h,λk=>by rw[k]⟩
 .intro i c f _;rw[aE a!,AD c U,bs,AD c U,bs];by_cases h:AA l i=AA m i
  .rw[aN (by simp[h]),aE h,Au U U];rfl
  .rw[aE (by simp[h]),aN h,bs,bs];rfl
 .rw[aN a!]
structure Qq(h:AJ):Prop where
 s:SE h
 w:∀v∈h.eo,∀x∈v,av x
theorem Y6{a b:AJ}(j:Qq a)(o:Qq b):J4 a b=Y (decide (a=b)):=by
 unfold J4;rw[sQ,bs];obtain⟨g,v⟩:=a;obtain⟨F,c⟩:=b;simp only[];by_cases e:g=F
 .subst e;by_cases f:v.length=c.length
  .rw[aN (by simp[f]),BX (λi=>!decide (AA v i=AA c i)) T]
   .have:=gc (λx y:Fp=>decide (x=y)) (l:=v) (m:=c) (λ_ _ _ _=>decide_eq_true_iff) f;by_cases h:v=c
    .rw[this.2 h,aN V,CI];simp[h]
    .cases E:gh (λi=>!decide (AA v i=AA c i)) 0 v.length
     .exact absurd (this.1 E) h
     .rw[aE rfl,RI];simp[h]
   .intro i d u _;have z:=AI d u;have D:=AI (l:=c) d U;obtain⟨x,G,H⟩:=l9 (j.s.rows _ z) (o.s.rows _ D) (j.w _ z) (o.w _ D);rw[AD d u,bs,AD d U,bs,G,bs];by_cases h:AA v i=AA c i<;>simp[h,H]
  .rw[aE a!];have:v≠c:=λh=>f (by rw[h]);simp[this]
 .rw[aE d!];simp[e]
structure AAL(s:Bn):Prop where
 b:Qq s.y4
 a:Qq s.og
variable{t:AC}{h:AJ}
theorem Vg(hf:A0 t)(e:(CN t h).2=0):Qq h:=by
 obtain ⟨hv,hh⟩:=GK hf e;refine⟨Xq hf hv hh,λv b x c=>?_⟩;obtain⟨i,d,f,rfl⟩:=BT b;have:=hh.low i d (by have:=hh.len;omega) x c;unfold av;omega
end Go.Sf.Sc
namespace Go.Sf.Sc
open Go Go.Sf
variable{q:OE}
theorem bA:∀(n:Nat)(f:AL),f.d6.length+n=f.p.ca.length->(∀i:Int,0<=i->i<f.p.ca.length->PL.at_ f.ek.ca i=PL.at_ q.ca i)->EB n f=EB n {f with ek:=q}
 |0,_,_,_=>rfl|n+1,f,c,h=>by
  rw [EB,EB];refine congrArg (λF=>(AV f.g.ca.length).flatMap F) (funext λk=>?_);have b:QK f k=QK {f with ek:=q} k:=by
   grind [QK,J9]
  rw [b,bA n {f with d6:=f.d6++[k]} a! h]
theorem bF:∀(n:Nat)(f:AL),f.c9.length+n=f.p.bq.length->f.d6=[]->(∀i:Int,0<=i->i<f.p.bq.length->PL.at_ f.ek.bq i=PL.at_ q.bq i)->(∀i:Int,0<=i->i<f.p.ca.length->PL.at_ f.ek.ca i=PL.at_ q.ca i)->FK n f=FK n {f with ek:=q}
 |0,f,_,he,_,h=>bA f.p.ca.length f (by rw[he];simp) h|n+1,f,d,he,c,h=>by
  rw [FK,FK];refine congrArg (λF=>(AV f.g.bq.length).flatMap F) (funext λk=>?_);have b:QL f k=QL {f with ek:=q} k:=by
   grind [QL]
  rw [b,bF n {f with c9:=f.c9++[k]} a! he c h]
variable{n:Nat}{i v:Int}
theorem kO(b:0<=i)(c:i<n):AA (List.replicate n v) i=v:=by
 unfold AA
 grind
def F0(t:AC)(p g:ci)(inj:Bool):AL:=⟨p,g,I7 t,OE.mk W W,inj,5001,[],[],[]⟩
variable{t:AC}{p g:ci}
theorem nH{inj:Bool}:FK p.bq.length (F0 t p g inj)=FK p.bq.length (FF t p g (Kw p) inj):=
 bF (q:=OE.of (Kw p)) p.bq.length (F0 t p g inj) p? rfl (λi b c=>(kO b c).symm) (λi b c=>(kO b c).symm)
theorem oK{inj:Bool}(d:A0 t)(hv:(BF t).2=0)(c:L0 (FF t p g (Kw p) inj)):GF t p g ⟨W,W⟩ inj 5001=Y (JV t p g (Kw p) inj):=by
 unfold GF;rw[jT d (DT hv) hv,bs];have b:L0 (F0 t p g inj):=⟨trivial,trivial,c.ends,c.kinds,c.small⟩;have h:=lb (f:=F0 t p g inj) b ⟨by show(0:Int)<=5001;omega,by show(5001:Int)<=10000;omega,by show((0:Nat):Int)<=5001;omega⟩ rfl rfl;rw[bB _ _ b rfl,show(F0 t p g inj).p.bq.length=p.bq.length from rfl,nH]at h;have e:AL.mk p g (I7 t) ⟨W,W⟩ inj 5001 [] [] []=F0 t p g inj:=rfl;rw[e,h];rfl
def Hr(t:AC)(p g:ci)(inj:Bool):List cE×Int:=
 if EO t p g≠0 then([],EO t p g)else if 5000<(JV t p g (Kw p) inj).length then([],3)else(JV t p g (Kw p) inj,0)
theorem uh(hf:A0 t)(p g:ci)(inj:Bool):J8 t p g inj=Y (Hr t p g inj):=by
 unfold J8 Hr;rw[V4 hf,bs];refine Gf λb=>?_
 grind [Yn,Kw,It,oK,bs,JV]
theorem vE(hf:A0 t)(p g:ci)(inj:Bool):PG t p g inj=Y (Hr t p g inj):=by
 unfold PG Hr;rw[oW hf,bs];refine Gf λb=>?_;obtain⟨hv,d⟩:=Yn (inj:=inj) (pa:=Kw p) b (by simp[Kw]) (by simp[Kw]);have c:=(ON b).2.1;have:=c.c9;have:=c.d6
 grind [oU,bs,yf,JV,Kw]
end Go.Sf.Sc
