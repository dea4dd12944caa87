/- Plain lemmas: what the functions of the program and of the reference compute. -/
import Derived.Test.YthcncnllajfkfaaGreatP46
set_option linter.all false
set_option maxRecDepth 100000
open Option renaming some->Y,none->W
open Bool renaming true->X,false->T
open List renaming mem_filter->v?,mem_map->w_,mem_cons_of_mem->w!,foldl_append->w?,mem_append_left->x_,map_map->x!,length_filter_le->x?,map_id->y_,ext_getElem->y!,take_length->y?,getElem_map->z_,getElem_replicate->z!,map_append->z?,map_congr_left->A_,map_singleton->A',append_nil->A!,mem_cons_self->A?,getElem?_eq_some_iff->B_,map->B',length->B!,mem_append->B?,getElem_mem->C_
open Bool renaming true_and->C',or_eq_false_iff->C!,eq_iff_iff->C?,or_eq_true->D_,false_and->D',eq_false_iff->D!
open Classical renaming not_not->D?,propDecidable->E_
open Int renaming toNat_natCast->E',add_zero->E!,add_assoc->E?,le_refl->F_,ofNat_le->F!,mul_le_mul->F?
namespace Go.Sf.Sc
open Go Go.Sf
def UL(p g:d3)(m:d4):d3:=⟨m.ci.map (AA g.ci),p.c9⟩
variable{l:Fp}
theorem Rl{n x:Int}:x∈BP l n↔(0<=x/\x<n)/\x∉l:=by
 unfold BP;rw[v?];constructor
 .grind[Int.natCast_nonneg,By]
 .rintro⟨⟨e,j⟩,o⟩;refine⟨w_.2 ⟨x.toNat,List.mem_range.2 U,Int.toNat_of_nonneg e⟩,?_⟩
  grind [hasB,By]
theorem Ov(l:Fp)(n:Int):(BP l n).Pairwise (·<·):=by grind[BP,List.pairwise_lt_range.imp]
def FM(fq ey:Fp):Fp:=(BP ey fq.length).map (AA fq)
theorem VU{fq ey:Fp}{x:Int}:x∈FM fq ey↔∃i:Int,(0<=i/\i<fq.length)/\i∉ey/\AA fq i=x:=by grind[FM,Rl]
def Aaz(fq ey:Fp):Bool:=kq (λa=>kq (λb=>decide (AA fq a=AA fq b)&&(!hasB ey a||!hasB ey b)) (a+1) fq.length) 0 fq.length
variable{a b:Int}
theorem kY{fq ey:Fp}(h:Aaz fq ey=T)(a0:0<=a)(a1:a<fq.length)(w:0<=b)(u:b<fq.length)(ha:a∈ey)(e:AA fq a=AA fq b):b∈ey:=by
 unfold Aaz at h;rw[B0]at h;by_cases o:a=b
 .exact o▸ha
 by_cases y:a<b
 .have j:=h a a0 a1;rw[B0]at j;have s:=j b U u;rw[decide_eq_true e,C',C!]at s
  grind [By]
 .have j:=h b w u;rw[B0]at j;have s:=j a U a1;rw[decide_eq_true e.symm,C',C!]at s
  grind [By]
variable{i:Int}
theorem VV{fq ey:Fp}(h:Aaz fq ey=T)(e:0<=i)(i1:i<fq.length)(j:i∈ey):AA fq i∉FM fq ey:=by grind[VU,kY]
def PB(g:d3)(ey:BR)(m:d4)(i:Int):Bool:=
 !hasB m.c9 i&&(hasB (FM m.ci ey.ci) (AA g.c9 i).jj||hasB (FM m.ci ey.ci) (AA g.c9 i).To)
def OP(g:d3)(ey:BR)(m:d4):BR:=⟨BP (FM m.ci ey.ci) g.ci.length,BP (FM m.c9 ey.c9) g.c9.length⟩
def O9(l g:d3)(ey:BR)(m:d4):BR×Int:=
 if Im l g m≠0 then(⟨[],[]⟩,Im l g m)else if ES l ey≠0 then(⟨[],[]⟩,ES l ey)else
 if (Aaz m.ci ey.ci||Aaz m.c9 ey.c9)=X then(⟨[],[]⟩,15)else
 if kq (PB g ey m) 0 g.c9.length=X then(⟨[],[]⟩,14)else(OP g ey m,0)
structure cz(l g:d3)(ey:BR)(m:d4):Prop where
 mor:Tu l g m
 part:Qv l ey
 ea:Aaz m.ci ey.ci=T
 eb:Aaz m.c9 ey.c9=T
 free:∀i:Int,0<=i->i<g.c9.length->PB g ey m i=T
variable{g:d3}
theorem fQ{p:BR}(h:ES g p=0):CE g=0/\OK g p=0:=by grind[ES]
theorem ZI{l g:d3}{ey:BR}{m:d4}(h:(O9 l g ey m).2=0):cz l g ey m/\O9 l g ey m=(OP g ey m,0):=by
 unfold O9 at h|-;split at h
 .grind
 rename_i j;rw[ae j];split at h
 .grind
 rename_i o;rw[ae o];split at h
 .grind
 rename_i e;rw[ae e];split at h
 .grind
 rename_i s;rw[ae s];simp[not_or]at e;exact⟨⟨WL (D?.1 j),Vj (fQ (D?.1 o)).2,e.1,e.2,B0.1 (by simpa using s)⟩,rfl⟩
theorem oW{l g:d3}{ey:BR}{m:d4}(h:cz l g ey m):OK g (OP g ey m)=0:=by
 have y:=h.mor;have G:=y.gb;have H:∀x∈(OP g ey m).ci,0<=x/\x<g.ci.length:=λx s=>Ft s;have I:∀x∈(OP g ey m).c9,0<=x/\x<g.c9.length:=λx s=>Ft s;have o:∀{l:Fp}{n:Int},(∀x∈l,0<=x/\x<n)->l.Pairwise (·<·)->P3 l n=0:=by
  grind [P3,BC,AF,IM]
 unfold OK;rw[o H (Ov _ _),o I (Ov _ _)];simp;rw[BC.2 λi F i1=>?_]
 .rfl
 have s:=AF F i1;generalize AA (OP g ey m).c9 i=x at s;have j:(0<=x/\x<g.c9.length)/\x∉FM m.c9 ey.c9:=Rl.1 s;have hf:=G.fit _ (AF j.1.1 j.1.2);have z:(AA g.c9 x).jj∉FM m.ci ey.ci/\(AA g.c9 x).To∉FM m.ci ey.ci:=by
  by_cases hi:x∈m.c9
  .obtain⟨k,D,E,e⟩:=BT hi;have u:k∈ey.c9:=by
    by_cases u:k∈ey.c9
    .exact u
    .exact absurd (VU.2 ⟨k,⟨D,E⟩,u,e⟩) j.2
   have ends:=h.part.ends k u;have he:=y.edge k D E;rw[e]at he;have hr:=h.part.ea.1;have J:=hr _ ends.1;have K:=hr _ ends.2;have N:=y.Aal;rw[<-he.2.2.1,<-he.2.2.2];exact⟨VV h.ea J.1 U ends.1,VV h.ea K.1 U ends.2⟩
  .have hd:=h.free x j.1.1 j.1.2;unfold PB at hd;rw[show hasB m.c9 x=T from by cases hb:hasB m.c9 x with|false=>rfl|true=>exact absurd (By.1 hb) hi,Bool.not_false,C',C!]at hd;exact⟨λw=>by rw[By.2 w]at hd;exact absurd hd.1 a!,λw=>by rw[By.2 w]at hd;exact absurd hd.2 a!⟩
 grind [hasB,OP,AA,By,Rl]
def Iy(n:Nat)(l:Fp):Fp:=(Ay n).map (Da l)
variable{v:Int}
theorem ZP(h:v∉l):Da l v=-1:=by grind[Da,BC,AF]
theorem Rx(l:Fp)(v:Int):-1<=Da l v/\Da l v<l.length:=by
 by_cases h:v∈l
 .have:=Hh h;omega
 .rw[ZP h];omega
theorem PI:0<=Da l v↔v∈l:=by grind[ZP,Hh]
theorem Kx(n:Nat)(l:Fp):(Iy n l).length=n:=by unfold Iy;rw[cL,A2]
variable{n:Nat}
theorem Um(e:0<=i)(j:i<n):AA (Iy n l) i=Da l i:=JI _ e j
theorem eJ(h:l.Nodup)(e:0<=i)(i1:i<l.length):Da l (AA l i)=i:=by
 have j:=Hh (AF e i1)
 grind [Da,AA,IM]
def SC(ey into at_:Fp)(n i:Int):Int:=if hasB into i=X then AA at_ (AA ey (Da into i))else n+(BP into i).length
def VF(count:Nat)(ey into at_:Fp)(n:Int):Fp:=(Ay count).map (SC ey into at_ n)
theorem ZH(count:Nat)(ey into at_:Fp)(n:Int):(VF count ey into at_ n).length=count:=by unfold VF;rw[cL,A2]
variable{count:Nat}
theorem mV{ey into at_:Fp}{n i:Int}(e:0<=i)(j:i<count):AA (VF count ey into at_ n) i=SC ey into at_ n i:=JI _ e j
theorem L3(h:0<=i):((BP l i).length:Int)<=i:=by grind[S7]
end Go.Sf.Sc
namespace Go.Sf.Sc
open Go Go.Sf
variable{α:Type}
theorem gK{P:List α->Prop}(e:P [])(j:∀l a,P l->P (l++[a]))(l:List α):P l:=by
 have:∀l:List α,P l.reverse:=by
  intro l
  induction l with
  |nil=>exact e|cons a l o=>rw[List.reverse_cons];exact j _ _ o
 rw [<-List.reverse_reverse l];exact this _
def RJ(L:Bi):Bi:=L.foldl (λm p=>m.set p.1 p.2) []
theorem eX(L:Bi)(p:(Int×Int)×Int):RJ (L++[p])=(RJ L).set p.1 p.2:=by
 unfold RJ
 grind
def Tr(L:Bi):Prop:=∀p∈L,∀q∈L,p.1=q.1->p.2=q.2
variable{k:Int×Int}{v:Int}
theorem VW:∀{m:Bi},m.look k=Y v->(k,v)∈m
 |[],h=>d_
 |p::r,h=>by
  unfold Bi.look at h;split at h
  .grind
  .exact w! _ (VW h)
theorem aa:∀{m:Bi},m.look k=W->∀p∈m,p.1≠k
 |[],_,p,j=>by cases j
 |q::r,h,p,j=>by
  unfold Bi.look at h;split at h
  .cases h
  .rename_i e;rcases List.mem_cons.1 j with rfl|j
   .exact e
   .exact aa h p j
theorem jf:∀{m:Bi},m.look k=W->m.set k v=m++[(k,v)]
 |[],_=>rfl|p::r,h=>by
  unfold Bi.look at h;unfold Bi.set;split at h
  .cases h
  next e=>rw[ae e,jf h];rfl
theorem gH:∀{m:Bi},m.look k=Y v->m.set k v=m
 |[],h=>d_
 |p::r,h=>by
  unfold Bi.look at h;unfold Bi.set;split at h
  .grind
  next e=>rw[ae e,gH h]
theorem kS(κ:List Fp)(p:(Int×Int)×Int):Cc (Cc κ p) p=Cc κ p:=by
 unfold Cc;split
 .apply List.ext_getElem?
  grind [Option.map_eq_map,Option.map_map,List.set_set]
 .rfl
theorem p8{m:Bi}(hd:m.Dis){p:(Int×Int)×Int}(e:p∈m)(κ:List Fp):Cc (m.foldl Cc κ) p=m.foldl Cc κ:=by
 have j:m.Perm (m.erase p++[p]):=(List.perm_cons_erase e).trans (List.perm_append_singleton p (m.erase p)).symm;rw[<-YD hd j κ,w?];exact kS _ _
theorem Tr.sub{L M:Bi}(h:Tr L)(e:∀p∈M,p∈L):Tr M:=λp j q o=>h p (e p j) q (e q o)
theorem jF(L:Bi):Tr L->(RJ L).Dis/\(∀p,p∈RJ L↔p∈L)/\∀κ,(RJ L).foldl Cc κ=L.foldl Cc κ:=by
 refine gK (P:=λL=>Tr L->(RJ L).Dis/\(∀p,p∈RJ L↔p∈L)/\∀κ,(RJ L).foldl Cc κ=L.foldl Cc κ) (λ_=>⟨List.Pairwise.nil,λp=>Iff.rfl,λκ=>rfl⟩) (λL p j e=>?_) L;obtain⟨y,w,z⟩:=j (e.sub λq o=>x_ _ o);rw[eX];cases s:(RJ L).look p.1 with
 |none=>
  grind [jf,Bi.set_dis]
 |some v=>
  have u:=VW s;have hv:v=p.2:=e (p.1,v) (x_ _ ((w _).1 u)) p V rfl
  grind [gH,List.mem_singleton,p8]
def RX(L:Bi):Bool:=kq (λi=>kq (λk=>decide ((AA L k).1=(AA L i).1)&&!decide ((AA L k).2=(AA L i).2)) 0 i) 0 L.length
variable{L:Bi}
theorem Z0(h:RX L=T):Tr L:=by
 intro p s q u e;obtain⟨a,a0,a1,rfl⟩:=BT s;obtain⟨b,w,y,rfl⟩:=BT u;unfold RX at h;rw[B0]at h;by_cases j:a=b
 .rw[j]
 by_cases z:a<b
 .have o:=h b w y;rw[B0]at o
  grind
 .have o:=h a a0 a1;rw[B0]at o
  grind
theorem d9(L:Bi)(κ:List Fp):M5 (L.foldl Cc κ) κ:=by
 induction L generalizing κ with
 |nil=>rfl|cons p r e=>exact(e (Cc κ p)).trans (Z8 κ p)
end Go.Sf.Sc
namespace Go.Sf.Sc
open Go Go.Sf
variable{t:AC}{p g:d3}
theorem VC{m:d4}{inj:Bool}(h:Gd t p g m inj=0):Ep t p g=0/\OR t p g m=0/\Zr t p g m:=by grind[dZ,Gd]
theorem mU{m:d4}{inj:Bool}(h:Gd t p g m inj=0):Gd t p g m T=0:=by grind[VC,Gd]
variable{α:Type}
theorem TA[Inhabited α](l:List α):(Ay l.length).map (AA l)=l:=by grind[mO,cL,A2,JI]
variable{β:Type}
theorem eW[Inhabited α](l:List α)(f:α->β):l.map f=(Ay l.length).map λj=>f (AA l j):=by
 rw [show(λj=>f (AA l j))=f∘AA l from rfl,<-x!,TA]
theorem xR(hf:A3 t){m:d4}{inj:Bool}(h:Gd t p g m inj=0):GM t p g m=Y (UL p g m,0):=by
 obtain ⟨e,u,j⟩:=VC h;obtain⟨_,o,y,_⟩:=Oa e;unfold GM;rw[WX hf,bs,ae c_,al hf e,bs,ae p?];unfold De;have:=o.ea;have:=o.eb;have:=j.Aal;rw[Be b_,bs];rw[UF U (λx s=>?_) p.c9]
 .rfl
 .obtain⟨i,w,i1,rfl⟩:=BT s;exact(j.node i w i1).1
theorem xm(hf:A3 t){m:d4}{inj:Bool}(h:Gd t p g m inj=0):G0 t p g m=Y (UL p g m,0):=by
 obtain ⟨y,D,u⟩:=VC h;obtain⟨_,w,E,_⟩:=Oa y;have:=w.ea;have:=w.eb;have z:=u.Aal;unfold G0 Dj;rw[Zh hf,bs,ae (by simp[mU h]),Be b_,bs,Be b_,bs,bs];rw[Pt (λi=>d3.mk ((Ay p.ci.length).map λj=>if j<i then AA g.ci (AA m.ci j)else AA p.ci j) p.c9) (a:=0) (b:=p.ci.length) U]
 .have e:((Ay p.ci.length).map λj=>if j<(p.ci.length:Int)then AA g.ci (AA m.ci j)else AA p.ci j)=m.ci.map (AA g.ci):=by
   grind [eW,DM]
  rw [e];rfl
 .congr 1;rw[<-TA p.ci,cL,A2]
  grind [DM,TA]
 .intro i o i1;have s:=u.node i o U;simp[A2];rw[ac l_,AD o U,bs,AD s.1.1 s.1.2,bs,AD o u',bs,Kw _ o,AT U U]
  grind
 grind [cL,A2]
variable{n:Nat}{f:Int->List α->Option (List α)}
theorem Oi(q:Int->Bool)(F:Int->α)(h:∀i s,0<=i->i<(n:Int)->s.length<=i.toNat->f i s=Y (if q i=X then s++[F i]else s)):l3 f 0 n []=Y (((Ay n).filter q).map F):=by
 have e:∀k:Nat,(((Ay k).filter q).map F).length<=k:=λk=>by
  rw [cL];exact Nat.le_trans (x? _ _) (by rw[A2];exact az _)
 have:=CC (f:=f) (s:=[]) (λi=>((Ay i.toNat).filter q).map F) (a:=0) (b:=n) U rfl (λi j i1=>by
  grind [Eo])
 grind
theorem dr{q:Int->Bool}{F:Int->α}:decide (0<((((Ay n).filter q).map F).length:Int))=kq q 0 n:=by
 rw [C?,sx,Cu,cL];constructor
 .intro h;have j:(Ay n).filter q≠[]:=λe=>by rw[e]at h;simp at h
  obtain ⟨x,u⟩:=List.exists_mem_of_ne_nil _ j
  grind [C5]
 .rintro⟨i,o,i1,s⟩;have:i∈(Ay n).filter q:=v?.2 ⟨C5.2 ⟨o,i1⟩,s⟩
  grind
theorem nc{x:C9}(e:x.m.ci.length<=1000):Du x=Y (FM x.m.ci x.ey.ci):=by
 unfold Du;rw[Oi (λi=>!hasB x.ey.ci i) (AA x.m.ci)]
 .rfl
 grind [AD,MV,hasB,AS,AX]
theorem Xc{fq ey:Fp}(e:fq.length<=1000):LK fq ey=Y (FM fq ey):=by
 unfold LK;rw[Oi (λi=>!hasB ey i) (AA fq)]
 .rfl
 grind [Eb,hasB,QA,AD,AS,AX]
theorem lF{x:C9}(e:x.m.ci.length<=1000)(he:x.g.c9.length<=1000):Dh x=Y ((Ay x.g.c9.length).filter (PB x.g x.ey x.m)):=by
 unfold Dh;rw[nc e,bs,Oi (PB x.g x.ey x.m) id]
 .rw[bs,y_]
 .intro i s j i1 o;rw[AD j i1,bs,MV,bs,MV,bs,MV,bs];unfold PB;change (if(!hasB x.m.c9 i)=X then(if hasB (FM x.m.ci x.ey.ci) (AA x.g.c9 i).jj=X then Y X else Y (hasB (FM x.m.ci x.ey.ci) (AA x.g.c9 i).To)).bind _ else Y T).bind _=_;cases hasB x.m.c9 i<;>cases hasB (FM x.m.ci x.ey.ci) (AA x.g.c9 i).jj<;>cases hasB (FM x.m.ci x.ey.ci) (AA x.g.c9 i).To<;>simp[AS (show s.length+[i].length<=AX by simp;unfold AX;omega)]
theorem lL{l g:d3}{ey:BR}{m:d4}(e:m.ci.length<=1000)(he:g.c9.length<=1000):Kd l g ey m=Y ((Ay g.c9.length).filter (PB g ey m)):=by
 unfold Kd;rw[Xc e,bs,Oi (PB g ey m) id]
 .rw[bs,y_]
 .intro i s j i1 o;have hh:∀(l:Fp)(v:Int),Eb l v=Y (hasB l v):=QA;simp[AD j i1,hh];unfold PB;cases hasB m.c9 i<;>cases hasB (FM m.ci ey.ci) (AA g.c9 i).jj<;>cases hasB (FM m.ci ey.ci) (AA g.c9 i).To<;>simp[AS (show s.length+[i].length<=AX by simp;unfold AX;omega)]
variable{a i:Int}
theorem Se{p:Int->Bool}(h:a<=i):kq p a (i+1)=(kq p a i||p i):=by
 rw [C?,D_,Cu,Cu]
 grind
theorem Yp{fq ey:Fp}(H:fq.length<=100){f:Int->Int->List Jv->Option (List Jv)}(hf:∀(i j:Int)s,0<=i->i<fq.length->i<j->j<fq.length->s.length<=20000->f i j s=Y (if(decide (AA fq i=AA fq j)&&(!hasB ey i||!hasB ey j))=X then s++[Jv.mk i j]else s)):
  ∃l,l3 (λ(e:Int)(o:List Jv)=>(l3 (λ(i2:Int)(s2:List Jv)=>f e i2 s2) (AJ (e+1)) (fq.length:Int) o).bind λs2=>Y s2) 0 (fq.length:Int) []=Y l/\l.length<=10000/\decide (0<l.length)=Aaz fq ey:=by
 have key:=P8 (f:=λ(e:Int)(o:List Jv)=>(l3 (λ(i2:Int)(s2:List Jv)=>f e i2 s2) (AJ (e+1)) (fq.length:Int) o).bind λs2=>Y s2) (s:=[])
  (λi s=>(s.length:Int)<=100*i/\decide (0<s.length)=kq (λa=>kq (λb=>decide (AA fq a=AA fq b)&&(!hasB ey a||!hasB ey b)) (a+1) fq.length) 0 i) (a:=0) (b:=fq.length) U
  (by refine⟨V,?_⟩;rw[B0.2 (λi y z=>U)];rfl) (λi s e i1 D=>by
   have u:=P8 (f:=λ(i2:Int)(s2:List Jv)=>f i i2 s2) (s:=s)
    (λj s'=>(s'.length:Int)<=100*i+(j-(i+1))/\decide (0<s'.length)=(decide (0<s.length)||kq (λb=>decide (AA fq i=AA fq b)&&(!hasB ey i||!hasB ey b)) (i+1) j)) (a:=i+1) (b:=fq.length) U
    (by refine⟨by have:=D.1;omega,?_⟩;rw[B0.2 (λi y z=>U),Bool.or_false]) (λj s' I E w=>by
     refine ⟨_,hf i j s' e i1 U E (by have:=w.1;omega),?_,?_⟩
     .grind
     .rw[Se U,<-Bool.or_assoc,<-w.2]
      grind)
   grind [AT,Se])
 obtain ⟨l,F,J,G⟩:=key;exact⟨l,F,U,G⟩
theorem jN{fq ey:Fp}(F:fq.length<=100):∃l,Gs fq ey=Y l/\l.length<=10000/\decide (0<l.length)=Aaz fq ey:=by
 unfold Gs;obtain⟨l,J,K⟩:=Yp (ey:=ey) F (f:=λe i2 s2=>
  (idx fq e).bind λo=>
  (idx fq i2).bind λu=>
  (if(decide (o=u))=X then((slices_Contains_int ey e).bind λw=>
  (if(!w)=X then Y X else((slices_Contains_int ey i2).bind λy=>
  Y (!y))).bind λz=>
  Y (z))else Y T).bind λD=>
  if D=X then
  (AY s2 [Jv.mk e i2]).bind λE=>
  Y E
  else
  Y s2) (λi j s e i1 H G I=>by
   have hh:∀(l:Fp)(v:Int),slices_Contains_int l v=Y (hasB l v):=MV;simp[AD e i1,AD (show 0<=j by omega) G,hh]
   grind [AA,hasB,AS,AX])
 grind
theorem jX{fq ey:Fp}(F:fq.length<=100):∃l,Gz fq ey=Y l/\l.length<=10000/\decide (0<l.length)=Aaz fq ey:=by
 unfold Gz;obtain⟨l,J,K⟩:=Yp (ey:=ey) F (f:=λe i2 s2=>
  (idx fq e).bind λo=>
  (idx fq i2).bind λu=>
  (if(decide (o=u))=X then((Eb ey e).bind λw=>
  (if(!w)=X then Y X else((Eb ey i2).bind λy=>
  Y (!y))).bind λz=>
  Y (z))else Y T).bind λD=>
  if D=X then
  (AY s2 [Jv.mk e i2]).bind λE=>
  Y E
  else
  Y s2) (λi j s e i1 H G I=>by
   have hh:∀(l:Fp)(v:Int),Eb l v=Y (hasB l v):=QA;simp[AD e i1,AD (show 0<=j by omega) G,hh]
   grind [AA,hasB,AS,AX])
 grind
variable{l:Fp}
theorem fg(h:n<=1000):NR n l=Y (BP l n):=by
 unfold NR;rw[Vs (f:=Eb l) U U (λi=>QA l i)];rfl
theorem fN{fq ey:Fp}(z:n<=1000)(hi:∀x∈fq,0<=x/\x<n):He n fq ey=Y (BP (FM fq ey) n):=by
 unfold He Hi;rw[ac U,bs];rw[CC (λi=>(Ay n).map λk=>kq (λj=>!hasB ey j&&decide (AA fq j=k)) 0 i) U]
 .rw[bs,cL,A2,Oi (λi=>!hasB (FM fq ey) i) id]
  .rw[bs,y_];rfl
  .intro i s o i1 F;rw[AD o u',bs,JI _ o i1];have e:kq (λj=>!hasB ey j&&decide (AA fq j=i)) 0 fq.length=hasB (FM fq ey) i:=by
    rw [C?,Cu,By,VU];constructor
    .rintro⟨j,w,y,h⟩;rw[pc,sx]at h
     grind [By]
    .rintro⟨j,⟨w,y⟩,G,h⟩;refine⟨j,w,y,?_⟩;rw[pc,sx]
     grind [hasB,By]
   grind [hasB,FM,AS,AX]
 .refine y! (by simp[A2]) (λk D E=>?_)
  grind [E',B0]
 .intro i o i1;have u:=hi _ (AF o i1);have hh:∀(l:Fp)(v:Int),slices_Contains_int l v=Y (hasB l v):=MV;rw[AD o i1,bs,hh,bs];cases hb:hasB ey i
  .rw[ac a!,AD u.1 (by rw[cL,A2];exact u.2),bs,Kw _ u.1]
   grind [DM,Se,AA]
  grind [DM,Se]
theorem jq{a b:Nat}(ha:a<=10000)(hb:b<=10000):decide (0<AJ ((a:Int)+(b:Int)))=(decide (0<a)||decide (0<b)):=by
 rw [AT U U,C?,D_]
 grind
theorem xM{l g:d3}{ey:BR}{m:d4}(y:TC ey):Ho l g ey m=Y (O9 l g ey m):=by
 unfold Ho DR O9;simp only[];rw[ce,bs,jO y,bs];by_cases o:¬Im l g m=0
 .grind
 have o:=D?.1 o;rw[ae to,bs,ae (show¬Im l g m≠0 by simp[o])];refine Dy λJ=>?_;have j:=WL o;have a1:=j.ga.ea;have a2:=j.ga.eb;have a3:=j.Aal;have O:=j.Aao;have P:=j.gb.ea;have Q:=j.gb.eb;unfold EE;obtain⟨u,z,D,E⟩:=jN (ey:=ey.ci) (fq:=m.ci) U;obtain⟨v,G,H,I⟩:=jN (ey:=ey.c9) (fq:=m.c9) U;simp only[];rw[z,bs,G,bs,bs];simp only[];rw[jq D H,E,I];refine dY λK=>?_;rw[lF (by show m.ci.length<=1000;omega) (by show g.c9.length<=1000;omega),bs];have e:=dr (n:=g.c9.length) (q:=PB g ey m) (F:=id);rw[y_]at e;rw[e];refine dY λN=>?_;rw[fN U (λx s=>?_),bs,fN U (λx s=>?_),bs]
 .rfl
 .obtain⟨i,w,i1,rfl⟩:=BT s;exact(j.edge i w i1).1
 .obtain⟨i,w,i1,rfl⟩:=BT s;exact(j.node i w i1).1
theorem xd{l g:d3}{ey:BR}{m:d4}(s:TC ey):SS l g ey m=Y (O9 l g ey m):=by
 unfold SS Qj O9;rw[ct,bs,Zi s,bs];by_cases o:¬Im l g m=0
 .grind
 have o:=D?.1 o;rw[ae to,bs,ae (show¬Im l g m≠0 by simp[o])];refine Dy λH=>?_;have j:=WL o;have a1:=j.ga.ea;have a2:=j.ga.eb;have a3:=j.Aal;have K:=j.Aao;have N:=j.gb.ea;have O:=j.gb.eb;obtain⟨u,w,y,z⟩:=jX (ey:=ey.ci) (fq:=m.ci) U;obtain⟨v,D,E,G⟩:=jX (ey:=ey.c9) (fq:=m.c9) U;rw[w,bs,D,bs,jq y E,z,G];refine dY λI=>?_;rw[lL U U,bs];have e:=dr (n:=g.c9.length) (q:=PB g ey m) (F:=id);rw[y_]at e;rw[e];refine dY λJ=>?_;rw[Xc U,bs,fg U,bs,Xc U,bs,fg U,bs];rfl
end Go.Sf.Sc
namespace Go.Sf.Sc
open Go Go.Sf
variable{α β:Type}
theorem UO[Inhabited α]{l:List α}{F:α->β}{f:Int->List β->Option (List β)}(h:∀(i:Int)s,0<=i->i<l.length->s.length<=i.toNat->f i s=Y (s++[F (AA l i)])):l3 f 0 l.length []=Y (l.map F):=by
 have:=CC (f:=f) (s:=[]) (λi=>(l.take i.toNat).map F) (a:=0) (b:=l.length) U V (λi e i1=>by
  grind [cL,bk,CH])
 rwa [E',y?]at this
variable{n:Nat}{l:Fp}
theorem jR(F:n<=1000)(y:l.length<=1000)(o:l.Pairwise (·<·)):Nb n l=Y (Iy n l):=by
 unfold Nb Hi;rw[ac U,bs,E',List.length_replicate,CC (λi=>(Ay n).map λj=>if j<i then Da l j else 0) U]
 .rw[bs];congr 1;exact DM λj z s=>ac s
 .refine y! (by simp[A2]) (λk D G=>?_);have e:(Ay n)[k]'(by simpa[A2]using D)=(k:Int):=by simp[Ay]
  simp only[z_,z!,e];rw[ae U]
 .intro i u i1;rw[UY y o,bs,AD u u',bs];have e:∀v:Int,v=Da l i->Y (BF ((Ay n).map λj=>if j<i then Da l j else 0) i v)=Y ((Ay n).map λj=>if j<i+1 then Da l j else 0):=by
   rintro v rfl;rw[Kw _ u];congr 1;refine DM λj z s=>?_;by_cases e:j=i
   .rw[ac e,ac U,e]
   .rw[ae e];by_cases w:j<i
    .rw[ac w,ac U]
    .rw[ae w,ae U]
  cases hb:hasB l i with
  |false=>
   rw [ac s?];exact e _ (ZP λE=>by rw[By.2 E]at hb;cases hb).symm
  |true=>
   rw [ae V];exact e _ (XE o (By.1 hb))
theorem fV(J:n<=1000)(K:l.length<=1000)(E:l.Nodup):NQ l n=Y (Iy n l):=by
 unfold NQ;rw[CC (λk=>(Ay k.toNat).map (Da l)) U s?]
 .rfl
 .intro k u N;have s:((Ay k.toNat).map (Da l)).length=k.toNat:=by rw[cL,A2]
  have I:(Ay k.toNat).map (Da l)++[-1]=(Ay (k+1).toNat).map λj=>if j<k then Da l j else if Da l k<0 then Da l k else -1:=by
   rw [Eo u,z?];congr 1
   .grind[A_,C5]
   .rw[A',ae U];have:=Rx l k
    grind
  rw [AS (by rw[s];simp;unfold AX;omega),bs,I,CC (λi=>(Ay (k+1).toNat).map λj=>if j<k then Da l j else if Da l k<i then Da l k else -1) U rfl]
  .rw[bs];congr 1;refine A_ λj F=>?_;have:=C5.1 F;split
   .rfl
   .have e:j=k:=U
    rw [ac (Rx l k).2,e]
  .intro i w i1;rw[AD w i1,bs];by_cases e:AA l i=k
   .have y:Da l k=i:=by rw[<-e];exact eJ E w i1
    rw [ac c_,AD u (by rw[cL,A2];omega),bs,Kw _ u];congr 1;refine DM λj G H=>?_;by_cases z:j=k
    .rw[ac z,ae U,ac U,y]
    .rw[ae z];by_cases o:j<k
     .rw[ac o,ac o]
     .omega
   .have y:Da l k≠i:=λh=>by
     have:=(Hh (PI.1 (show 0<=Da l k by omega))).2.2.1;rw[h]at this;exact e this
    rw [ae c_];congr 1;refine DM λj G H=>?_;by_cases o:j<k
    .rw[ac o,ac o]
    .rw[ae o,ae o];by_cases D:Da l k<i
     .rw[ac D,ac U]
     .rw[ae D,ae U]
structure V7(count:Nat)(ey into at_:Fp):Prop where
 few:count<=1000
 nodup:into.Nodup
 len:into.length=ey.length
 inn:∀x∈into,0<=x/\x<count
 kin:∀x∈ey,0<=x/\x<at_.length
 pos:∀x∈ey,0<=AA at_ x
theorem XS(e:l.Nodup)(h:∀x∈l,0<=x/\x<n):l.length<=n:=by
 have:=List.Nodup.length_le_of_subset (l₁:=l) (l₂:=Ay n) e (λx j=>C5.2 (h x j))
 rwa [A2]at this
variable{i:Int}
theorem Rm(h:0<=i):((BP l (i+1)).length:Int)=(BP l i).length+if i∈l then 0 else 1:=by grind[Ph,b6,hasB,By]
theorem TW{ey into at_:Fp}{n i:Int}(h:i∈into):SC ey into at_ n i=AA at_ (AA ey (Da into i)):=by grind[SC,By]
theorem T5{ey into at_:Fp}{n i:Int}(h:i∉into):SC ey into at_ n i=n+(BP into i).length:=by grind[SC,By]
variable{count:Nat}
theorem ax{ey into at_:Fp}{n:Int}(h:V7 count ey into at_)(z:0<=n)(D:n<=1000):GZ ey into count at_ n=Y (VF count ey into at_ n):=by
 have E:=h.few;have u:=XS h.nodup h.inn;have w:=h.len;unfold GZ;rw[fV h.few U h.nodup,bs,CC (λi=>(n+((BP into i).length:Int),(Ay i.toNat).map (SC ey into at_ n))) U (by simp[BP,Ay])]
 .rfl
 .intro i j i1;have hr:=L3 (l:=into) j;have e:((Ay i.toNat).map (SC ey into at_ n)).length=i.toNat:=by rw[cL,A2]
  rw [AD j (by rw[Kx];exact i1),bs,Um j i1];by_cases hi:i∈into
  .have s:=Hh hi;have y:=AF (l:=ey) s.1 U;have o:=h.kin _ y;rw[ac (by simpa using s.1),bs,AD s.1 U,bs,AD o.1 o.2,bs,AS (by rw[e];simp;unfold AX;omega),bs,Eo j,z?,Rm j,ac hi,E!,A',TW hi]
  .rw[ae (by rw[sx,PI];exact hi),AS (by rw[e];simp;unfold AX;omega),bs,Eo j,z?,Rm j,ae hi,A',T5 hi,AT U U,E?]
theorem aj{ey into o s:Fp}{n:Int}(h:V7 count ey into (o.map (AA s)))(J:∀x∈o,0<=x/\x<s.length)(S:0<=n)(ε:n<=1000):HZ count ey into o s n=Y (VF count ey into (o.map (AA s)) n):=by
 have δ:=h.few;have K:=XS h.nodup h.inn;have N:=h.len;unfold HZ Df;rw[ac (by refine⟨rfl,U,U⟩),bs,E'];rw[CC (λi=>(Ay count).map λk=>if 0<=Da into k/\Da into k<i then SC ey into (o.map (AA s)) n k else -1) U]
 .rw[bs,cL,A2,CC (λi=>(n+((BP into i).length:Int),(Ay count).map λk=>if k<i\/k∈into then SC ey into (o.map (AA s)) n k else -1)) U]
  .rw[bs];congr 1;exact DM λj G E=>ac (.inl E)
  .show _=(n,_);congr 1
   .simp[BP]
   .refine DM λj G E=>?_;have I:=PI (l:=into) (v:=j);have O:=Rx into j;by_cases e:j∈into
    .rw[ac (.inr e),ac ⟨I.2 e,O.2⟩]
    .rw[ae (by rintro(u|u);omega;exact e u),ae λu=>e (I.1 u.1)]
  .intro i y i1;have hr:=L3 (l:=into) y;rw[AD y u',bs,JI _ y i1];by_cases hi:i∈into
   .have P:=Hh hi;have H:=AF (l:=ey) P.1 n!;have Z:=h.pos _ H;rw[ac (show i<i\/i∈into from .inr hi),TW hi,ae (by rw[sx];omega),Rm y,ac hi,E!];congr 2;refine DM λj G E=>?_;by_cases e:j<i\/j∈into
    .rw[ac e,ac (e.imp (λh=>U) id)]
    .rw[ae e,ae];rintro(u|u)
     .have:j=i:=by
       have:=λhh=>e (.inl hh);omega
      exact e (.inr (this▸hi))
     .exact e (.inr u)
   .rw[ae (show¬(i<i\/i∈into)by rintro(u|u);omega;exact hi u),ac a!,bs,Rm y,ae hi,AT an an,Kw _ y,E?];congr 2;refine DM λj G E=>?_;by_cases z:j=i
    .rw[ac z,ac (.inl U),z,T5 hi]
    .rw[ae z];by_cases e:j<i\/j∈into
     .rw[ac e,ac (e.imp (λh=>U) id)]
     .rw[ae e,ae];rintro(u|u)
      .exact e (.inl U)
      .exact e (.inr u)
 .refine y! (by simp[A2]) (λk η ζ=>?_);simp only[z_,z!];rw[ae U];rfl
 .intro i y i1;have D:=h.inn _ (AF y i1);have H:=AF (l:=ey) y n!;have w:=h.kin _ H;rw[cL]at w;have F:=J _ (AF w.1 w.2);rw[AD y i1,bs,AD y n!,bs,AD w.1 w.2,bs,AD F.1 F.2,bs,AD D.1 (by rw[cL,A2];exact D.2),bs,Kw _ D.1];congr 1;refine DM λj G E=>?_;by_cases z:j=AA into i
  .have e:=eJ h.nodup y i1;rw[ac z,z,e,ac ⟨y,U⟩,TW (AF y i1),e,Gk w.1 w.2]
  .rw[ae z];by_cases e:0<=Da into j/\Da into j<i
   .rw[ac e,ac ⟨e.1,U⟩]
   .rw[ae e,ae];rintro⟨u,h2⟩;have Q:Da into j=i:=by
     have:=λhh=>e ⟨u,hh⟩;omega
    have:=(Hh (PI.1 u)).2.2.1;rw[Q]at this;exact z this.symm
theorem Yu{fq e:Fp}(j:fq.length<=1000)(o:∀x∈fq,0<=x/\x<e.length):Ia fq e=Y (fq.map (AA e)):=by
 unfold Ia
 grind [UO,AA,AF,AD,AS,AX]
end Go.Sf.Sc
namespace Go.Sf.Sc
open Go Go.Sf
def Ge(h:AG)(d:BR):d4:=⟨Iy h.d3.ci.length d.ci,Iy h.d3.c9.length d.c9⟩
def cmS(r:fd)(h:AG)(m:d4)(d:BR):d4:=
 ⟨VF r.ec.d3.ci.length r.pf.ci r.o3.ci (m.ci.map (AA (Ge h d).ci)) d.ci.length,
 VF r.ec.d3.c9.length r.pf.c9 r.o3.c9 (m.c9.map (AA (Ge h d).c9)) d.c9.length⟩
def VX(t:AC)(k:Int):Fp:=(A4 t k).map λx=>x.Low
def XR(tr:Fp)(e:Bt):Bt:=⟨e.j4,AA tr e.jj,AA tr e.To⟩
def PP(r:fd)(x:AG)(i:Int):Fp:=x.d3.ci++(BP r.o3.ci i).map (AA r.ec.d3.ci)
def Oc(t:AC)(r:fd)(x:AG)(i:Int):List Fp:=x.eh++(BP r.o3.ci i).map λk=>VX t (AA r.ec.d3.ci k)
def RC(r:fd)(c:d4)(x:AG)(i:Int):List Bt:=x.d3.c9++(BP r.o3.c9 i).map λk=>XR c.ci (AA r.ec.d3.c9 k)
def Cw(t:AC)(r:fd)(x:AG)(c:d4):AG:=⟨⟨PP r x r.ec.d3.ci.length,RC r c x r.ec.d3.c9.length⟩,Oc t r x r.ec.d3.ci.length⟩
def CO(h:AG)(d:BR):AG:=⟨⟨d.ci.map (AA h.d3.ci),d.c9.map λx=>XR (Ge h d).ci (AA h.d3.c9 x)⟩,d.ci.map (AA h.eh)⟩
structure ET(x:AG):Prop where
 ea:x.d3.ci.length<=1000
 eb:x.d3.c9.length<=1000
 vals:x.eh.length<=1000
 rows:∀v∈x.eh,v.length<=1000
structure Xw(t:AC)(r:fd)(c:d4):Prop where
 hf:A3 t
 hv:(BD t).2=0
 g:Cp r.ec.d3
 kind:∀n∈r.ec.d3.ci,0<=n/\n<t.ci.length
 cn:c.ci.length=r.ec.d3.ci.length
variable{t:AC}{r:fd}{c:d4}
theorem uQ(h:Xw t r c){n:Int}(e:n∈r.ec.d3.ci):(A4 t n).length<=600:=by
 have:=h.kind n e;exact H9 h.hf (F_ _) (Cq h.hv).par this.2
variable{x:AG}
theorem oE(h:ET x):Mk x=Y x:=by
 have:=h.ea;have:=h.eb;have:=h.vals;unfold Mk Dj;rw[Be b_,bs,Be b_,bs,bs];rw[CC (λi=>AG.mk x.d3 (x.eh.take i.toNat)) U s?]
 .rw[E',y?];rfl
 .intro i e i1;have:=h.rows _ (AF e i1)
  grind [AD,Be,AX,AS,CH]
theorem lD(h:ET x):Lq x=Y x:=by
 have:=h.ea;have:=h.eb;have:=h.vals;unfold Lq slices_Clone_int De;rw[Be b_,bs,Be b_,bs];rw[CC (λi=>AG.mk x.d3 (x.eh.take i.toNat)) U s?]
 .rw[E',y?];rfl
 .intro i e i1;have:=h.rows _ (AF e i1)
  grind [AD,Be,AX,AS,CH]
variable{α:Type}{i:Int}
theorem D3(l:Fp)(F:Int->α)(h:0<=i):(BP l (i+1)).map F=(BP l i).map F++if i∈l then[]else[F i]:=by grind[Ph,hasB,By]
theorem Wv(l:Fp)(i:Int):JC l i=Y (!hasB l i):=by
 unfold JC hasB;rw[Bo (λj=>decide (i=AA l j)) T,JO]
 .cases kq (λj=>decide (i=AA l j)) 0 l.length<;>rfl
 grind [AD,AA]
theorem xj(h:Xw t r c)(o:ET x):Ji t r x c=Y (Cw t r x c):=by
 have G:=h.g.ea;have H:=h.g.eb;have x1:=o.ea;have I:=o.eb;have J:=o.vals;unfold Ji;rw[Pt (λi=>AG.mk (d3.mk (PP r x i) x.d3.c9) (Oc t r x i)) (a:=0) (b:=r.ec.d3.ci.length) U]
 .rw[B3,Pt (λi=>AG.mk (d3.mk (PP r x r.ec.d3.ci.length) (RC r c x i)) (Oc t r x r.ec.d3.ci.length)) (a:=0) (b:=r.ec.d3.c9.length) U]
  .rfl
  .grind[RC,BP]
  .intro i e i1;have hr:=L3 (l:=r.o3.c9) e;have he:=h.g.fit _ (AF e i1);have y:=h.cn;rw[ac l_,Wv,bs];by_cases hi:i∈r.o3.c9
   .grind[By,RC,D3,AT]
   .have hb:hasB r.o3.c9 i=T:=by cases hb:hasB r.o3.c9 i with|false=>rfl|true=>exact absurd (By.1 hb) hi
    rw [hb,ac a!,AD e i1,bs,AD he.2.1.1 U,bs,AD he.2.2.1 U,bs,AS (by unfold RC;simp;unfold AX;omega),bs];unfold RC;rw[D3 _ _ e,ae hi,AT an an,cR];rfl
  .rw[ae V]
 .unfold PP Oc;simp[BP]
 .intro i e i1;have hr:=L3 (l:=r.o3.ci) e;have u:=AF e i1;have w:=h.kind _ u;have K:=uQ h u;rw[ac l_,Wv,bs];by_cases hi:i∈r.o3.ci
  .grind[By,PP,Oc,D3,AT]
  .have hb:hasB r.o3.ci i=T:=by cases hb:hasB r.o3.ci i with|false=>rfl|true=>exact absurd (By.1 hb) hi
   rw [hb,ae a!,AD e i1,bs,AS (by unfold PP;simp;unfold AX;omega),bs,bs,Ou h.hf,JP h.hv w.1 w.2,bs];simp;rw[UO (F:=λa=>a.Low) λj s z D E=>?_]
   .rw[bs,AS (by unfold Oc;simp;unfold AX;omega),bs];unfold PP Oc;rw[D3 _ _ e,ae hi,D3 _ _ e,ae hi,AT U U,cR,cR];rfl
   grind [AD,AS,AX]
 .rw[ae V]
theorem ud(hf:A3 t)(hv:(BD t).2=0){k:Int}(o:0<=k)(e:k<t.ci.length):LX t k=Y (VX t k):=by
 have:=H9 hf (F_ _) (Cq hv).par e;unfold LX;rw[Tg hf,JP hv o e,bs];simp;rw[UO (F:=λa=>a.Low) λj s u w y=>?_]
 .rfl
 grind [AD,AS,AX]
structure cX(h:AG)(d:BR):Prop where
 sm:ET h
 len:h.eh.length=h.d3.ci.length
 ea:(∀x∈d.ci,0<=x/\x<h.d3.ci.length)/\d.ci.length<=1000
 eb:(∀x∈d.c9,0<=x/\x<h.d3.c9.length)/\d.c9.length<=1000
 ends:∀e∈h.d3.c9,(0≤e.jj/\e.jj<h.d3.ci.length)/\0≤e.To/\e.To<h.d3.ci.length
variable{h:AG}
theorem bF{d:BR}(hd:cX h d):ET (CO h d):=by
 have j:=hd.ea.2;have o:=hd.eb.2;refine⟨by unfold CO;simp;omega,by unfold CO;simp;omega,by unfold CO;simp;omega,λv hv=>?_⟩;obtain⟨x,e,rfl⟩:=w_.1 hv;have:=hd.ea.1 x e;exact hd.sm.rows _ (AF this.1 (by rw[hd.len];exact this.2))
variable{R:fd}{M:AQ}{C:d4}
theorem uZ{d:BR}(s:Xw t R C)(hd:cX h d)(G:C.c9.length=R.ec.d3.c9.length)
  (y:∀i:Int,0<=i->i<R.ec.d3.ci.length->(AA C.ci i=d.ci.length+(BP R.o3.ci i).length↔i∉R.o3.ci))
  (z:∀i:Int,0<=i->i<R.ec.d3.c9.length->(AA C.c9 i=d.c9.length+(BP R.o3.c9 i).length↔i∉R.o3.c9)):
  Jq t (AU.mk R M h (AG.mk (d3.mk [] []) []) (Ge h d) C) d=Y (AU.mk R M h (Cw t R (CO h d) C) (Ge h d) C):=by
 have H:=hd.ea.2;have I:=hd.eb.2;have J:=s.g.ea;have K:=s.g.eb;have E:=s.cn;unfold Jq;simp only[];rw[CC (λi=>AU.mk R M h (AG.mk (d3.mk ((d.ci.take i.toNat).map (AA h.d3.ci)) []) ((d.ci.take i.toNat).map (AA h.eh))) (Ge h d) C) U V]
 rotate_left
 .intro i j i1;have o:=hd.ea.1 _ (AF j i1);have u:=hd.len;have hr:=hd.sm.rows _ (AF o.1 U);rw[AD j i1,bs,AD o.1 o.2,bs,AS a_,bs,AD o.1 U,bs,Be b_,bs,AS a_,bs,JA j i1,JA j i1]
 rw [bs,E',y?];rw[CC (λi=>AU.mk R M h (AG.mk (d3.mk (d.ci.map (AA h.d3.ci)) ((d.c9.take i.toNat).map λx=>XR (Ge h d).ci (AA h.d3.c9 x))) (d.ci.map (AA h.eh))) (Ge h d) C) U V]
 rotate_left
 .intro i j i1;have o:=hd.eb.1 _ (AF j i1);have he:=hd.ends _ (AF o.1 o.2);have u:(Ge h d).ci.length=h.d3.ci.length:=Kx _ _;simp only[];rw[AD j i1,bs,AD o.1 o.2,bs,AD he.1.1 U,bs,AD he.2.1 U,bs,AS a_,bs,JA j i1];rfl
 rw [bs,E',y?];rw[CC (λi=>AU.mk R M h (AG.mk (d3.mk (PP R (CO h d) i) (CO h d).d3.c9) (Oc t R (CO h d) i)) (Ge h d) C) U (by unfold PP Oc;simp[BP,CO])]
 rotate_left
 .intro i j i1;have hr:=L3 (l:=R.o3.ci) j;have F:=AF j i1;have D:=s.kind _ F;have u:(PP R (CO h d) i).length=d.ci.length+(BP R.o3.ci i).length:=by unfold PP CO;simp
  have w:(Oc t R (CO h d) i).length=d.ci.length+(BP R.o3.ci i).length:=by unfold Oc CO;simp
  simp only[u];rw[AD j i1,bs,AD j U,bs];by_cases hi:i∈R.o3.ci
  .rw[ae (by rw[sx];push_cast;exact λe=>(y i j i1).1 e hi)];unfold PP Oc;rw[D3 _ _ j,ac hi,A!,D3 _ _ j,ac hi,A!]
  .rw[ac (by rw[sx];push_cast;exact(y i j i1).2 hi),AS (by rw[u];simp;unfold AX;omega),bs,ud s.hf s.hv D.1 D.2,bs,AS (by rw[w];simp;unfold AX;omega),bs];unfold PP Oc;rw[D3 _ _ j,ae hi,D3 _ _ j,ae hi,cR,cR]
 rw [bs];rw[CC (λi=>AU.mk R M h (AG.mk (d3.mk (PP R (CO h d) R.ec.d3.ci.length) (RC R C (CO h d) i)) (Oc t R (CO h d) R.ec.d3.ci.length)) (Ge h d) C) U (by unfold RC;simp[BP,CO])]
 rotate_left
 .intro i j i1;have hr:=L3 (l:=R.o3.c9) j;have he:=s.g.fit _ (AF j i1);have u:(RC R C (CO h d) i).length=d.c9.length+(BP R.o3.c9 i).length:=by unfold RC CO;simp
  simp only[u];rw[AD j i1,bs,AD j U,bs];by_cases hi:i∈R.o3.c9
  .rw[ae (by rw[sx];push_cast;exact λe=>(z i j i1).1 e hi)];unfold RC;rw[D3 _ _ j,ac hi,A!]
  .rw[ac (by rw[sx];push_cast;exact(z i j i1).2 hi),AD he.2.1.1 U,bs,AD he.2.2.1 U,bs,AS (by rw[u];simp;unfold AX;omega),bs];unfold RC;rw[D3 _ _ j,ae hi,cR];rfl
 rw [bs];rfl
theorem iD(hf:A3 t){d:BR}(hh:(Dd t h).2=0)(s:ES h.d3 d=0)(hd:cX h d):Hr t h d=Y (CO h d,0):=by
 have u:=hd.ea.2;unfold Hr;rw[Vo hf,bs,ae (by simp[hh]),Vn ⟨hd.ea.2,hd.eb.2⟩,ae (by simp[s]),bs,ae V];have e:DC h.d3 d=(CO h d).d3:=by
  unfold DC CO;congr 1;refine A_ λx j=>?_;have j:=hd.eb.1 x j;have he:=hd.ends _ (AF j.1 j.2)
  grind [XR,Ge,Um]
 simp;rw[Pt (λi=>AG.mk (DC h.d3 d) ((d.ci.take i.toNat).map (AA h.eh))) (a:=0) (b:=d.ci.length) U V]
 .rw[E',y?,B3,e];rfl
 .intro i o i1;have j:=hd.ea.1 _ (AF o i1);have w:=hd.len;have hr:=hd.sm.rows _ (AF j.1 U);rw[ac l_,AD o i1,bs,AD j.1 U,bs,Be b_,bs,AS a_,bs,JA o i1,AT an an]
 .rw[ae V]
end Go.Sf.Sc
namespace Go.Sf.Sc
open Go Go.Sf
def Rp(c:d4)(vars:Fp)(s:CA):(Int×Int)×Int:=((AA c.ci s.o4,s.kh),DW s.gp vars)
def CP(r:fd)(c:d4)(vars:Fp):Bi:=r.ec.ei.map (Rp c vars)
def Nj(t:AC)(x:AG)(p:(Int×Int)×Int):Bool:=
 decide (p.2<(AA (A4 t (AA x.d3.ci p.1.1)) p.1.2).Low)||decide ((AA (A4 t (AA x.d3.ci p.1.1)) p.1.2).Aae<p.2)
structure V9(t:AC)(r:fd)(c:d4)(vars:Fp)(x:AG):Prop where
 hf:A3 t
 hv:(BD t).2=0
 few:r.ec.ei.length<=1000
 fewv:vars.length<=1000
 slot:∀s∈r.ec.ei,(0<=s.o4/\s.o4<c.ci.length)/\(-1<=s.gp.Var/\s.gp.Var<vars.length)/\
  (0<=AA c.ci s.o4/\AA c.ci s.o4<x.d3.ci.length)/\(0<=s.kh/\s.kh<(A4 t (AA x.d3.ci (AA c.ci s.o4))).length)
 kind:∀n∈x.d3.ci,0<=n/\n<t.ci.length
 Ab3:x.eh.length=x.d3.ci.length
 rows:∀i:Int,0<=i->i<x.d3.ci.length->(AA x.eh i).length=(A4 t (AA x.d3.ci i)).length
variable{L:Bi}{i:Int}
theorem kK(e:0<=i)(i1:i<=L.length)(h:∀j,0<=j->j<i->kq (λk=>decide ((AA L k).1=(AA L j).1)&&!decide ((AA L k).2=(AA L j).2)) 0 j=T):Tr (L.take i.toNat):=by grind[Z0,RX,B0,bk,Tv,x8]
def XG(L:Bi)(i:Int):Bool:=kq (λk=>decide ((AA L k).1=(AA L i).1)&&!decide ((AA L k).2=(AA L i).2)) 0 i
theorem pk(I:0<=i)(i1:i<L.length)(y:Tr (L.take i.toNat)):
  (((RJ (L.take i.toNat)).look (AA L i).1).isSome&&(!decide (((RJ (L.take i.toNat)).look (AA L i).1).getD 0=(AA L i).2)))=XG L i:=by
 obtain ⟨J,D,K⟩:=jF _ y;unfold XG;cases z:(RJ (L.take i.toNat)).look (AA L i).1 with
 |none=>
  rw [Option.isSome_none,D'];refine Eq.symm (B0.2 λk u w=>?_);have s:AA L k∈L.take i.toNat:=by
   rw [<-x8 (n:=i.toNat) U]
   grind [AF,bk]
  rw [decide_eq_false (aa z _ ((D _).2 s)),D']
 |some v=>
  have s:=(D _).1 (VW z);rw[Option.isSome_some,C',Option.getD_some];have o:∀k,0<=k->k<i->(AA L k).1=(AA L i).1->(AA L k).2=v:=λk u w e=>by
   have F:AA L k∈L.take i.toNat:=by
    rw [<-x8 (n:=i.toNat) U]
    grind [AF,bk]
   exact y _ F _ s e
  obtain ⟨k,u,w,E⟩:=BT s;rw[bk]at w;rw[x8 U]at E;rw[C?,Cu];constructor
  .intro h;refine⟨k,u,U,?_⟩;rw[E,decide_eq_true rfl,C'];exact h
  .rintro⟨j,G,H,h⟩;rw[pc,sx]at h;rw[<-o j G H h.1];exact h.2
theorem QK(r:fd)(c:d4)(vars:Fp)(e:0<=i)(i1:i<r.ec.ei.length):AA (CP r c vars) i=Rp c vars (AA r.ec.ei i):=Gk e i1
theorem LV(r:fd)(c:d4)(vars:Fp):(CP r c vars).length=r.ec.ei.length:=cL ..
variable{ρ:Type}
theorem db(L:Bi)(v:ρ):fst (λi=>if XG L i=X then Y v else W) 0 L.length=if RX L=X then Y v else W:=Ok
variable{t:AC}{R:fd}{M:AQ}{B A:AG}{θ C:d4}
theorem lC(h:V9 t R C M.em A):JG (AU.mk R M B A θ C)=Y (if RX (CP R C M.em)=X then([],11)else(RJ (CP R C M.em),0)):=by
 unfold JG;simp only[];rw[Gw (a:=0) (s:=([]:Bi)) (λi=>RJ ((CP R C M.em).take i.toNat)) (λi=>if XG (CP R C M.em) i=X then Y ([],11)else W) U rfl]
 .have:=db (CP R C M.em) (([],11):Bi×Int);rw[LV]at this;rw[this];by_cases e:RX (CP R C M.em)=X
  .rw[ac e,ac e];rfl
  .rw[ae e,ae e,<-LV R C M.em,E',y?];rfl
 .intro i o i1 hb;have u:=h.slot _ (AF o i1);have D:Tr ((CP R C M.em).take i.toNat):=kK o (by rw[LV];omega) λj y z=>by
   have:=hb j y z;split at this
   .cases this
   next e=>exact D!.2 e
  have w:=pk (L:=CP R C M.em) o (by rw[LV];exact i1) D;rw[AD o i1,bs,fB u.2.1.1 u.2.1.2 h.fewv,bs,ae V,AD u.1.1 u.1.2,bs];rw[QK R C M.em o i1]at w;simp[Rp]at w;simp only[];by_cases e:XG (CP R C M.em) i=X
  .refine(ac (w.trans e)).trans ?_;rw[ac e];rfl
  .refine(ae (λh=>e (w.symm.trans h))).trans ?_;rw[ae e,CH o (by rw[LV];exact i1),eX,QK R C M.em o i1];rfl
variable{α:Type}
theorem jH{f:α->K1}{g:α->Bool}:∀{l:List α},(∀p∈l,f p=Y (g p))->AaH f l=Y (l.all g)
 |[],_=>rfl|p::r,h=>by
  unfold AaH;rw[h p A?,bs,jH λq e=>h q (w! _ e),bs,List.all_cons]
variable{r:fd}{c:d4}{x:AG}{κ:List Fp}
theorem gC{vars:Fp}(h:V9 t r c vars x){s:CA}(w:s∈r.ec.ei)(y:M5 κ x.eh):
  idx κ (AA c.ci s.o4)=Y (AA κ (AA c.ci s.o4))/\idx (AA κ (AA c.ci s.o4)) s.kh=Y (AA (AA κ (AA c.ci s.o4)) s.kh):=by
 have j:=h.slot s w;have hv:=h.Ab3;have hr:=h.rows _ j.2.2.1.1 j.2.2.1.2;have z:idx x.eh (AA c.ci s.o4)=Y (AA x.eh (AA c.ci s.o4)):=AD j.2.2.1.1 U;have D:idx (AA x.eh (AA c.ci s.o4)) s.kh=Y (AA (AA x.eh (AA c.ci s.o4)) s.kh):=AD j.2.2.2.1 U;obtain⟨E,x',a,b⟩:=y.idx z D;have o:=Hz a;have u:=Hz b;have F:=(B_.1 o.2.2).1;have e:AA κ (AA c.ci s.o4)=E:=by
  grind [AD,Option.some.inj]
 have G:=(B_.1 u.2.2).1;refine⟨AD o.1 U,?_⟩;rw[e];exact AD u.1 U
theorem p7(h:V9 t R C M.em A){p:(Int×Int)×Int}(u:p∈CP R C M.em):QW t (AU.mk R M B A θ C) p=Y (!Nj t A p):=by
 obtain ⟨s,o,rfl⟩:=w_.1 u;have e:=h.slot s o;have j:=h.kind _ (AF e.2.2.1.1 e.2.2.1.2);obtain⟨w,y⟩:=gC h o (κ:=A.eh) rfl;unfold QW QV Rp Nj;simp;rw[AD e.2.2.1.1 e.2.2.1.2,bs,Tg h.hf,JP h.hv j.1 j.2,bs];simp;simp[AD e.2.2.2.1 e.2.2.2.2,w,y,WU]
 grind
def Jy(t:AC)(x:AG)(L:Bi):AG×Int:=
 if RX L=X then(⟨⟨[],[]⟩,[]⟩,11)else if L.any (Nj t x)=X then(⟨⟨[],[]⟩,[]⟩,6)else(⟨x.d3,L.foldl Cc x.eh⟩,0)
theorem xP(h:V9 t R C M.em A):M0 t (AU.mk R M B A θ C)=Y ((Jy t A (CP R C M.em)).2,if(Jy t A (CP R C M.em)).2=0 then AU.mk R M B (Jy t A (CP R C M.em)).1 θ C else AU.mk R M B A θ C):=by
 unfold M0 Jy;rw[lC h,bs];by_cases e:RX (CP R C M.em)=X
 .grind
 .rw[ae e,ae V,ae e];obtain⟨o,s,u⟩:=jF _ (Z0 (D!.2 e));have ha:AaH (QW t (AU.mk R M B A θ C)) (RJ (CP R C M.em))=Y (!(CP R C M.em).any (Nj t A)):=by
   rw [jH (g:=λp=>!Nj t A p) λp j=>p7 h ((s p).1 j)]
   grind
  rw [ac (by simpa using(show List.Pairwise (λx y:(Int×Int)×Int=>x.1≠y.1) _ from o)),ha,bs]
  grind [CP,Nj,Po]
theorem ABF{vars:Fp}(h:V9 t r c vars x):Kv t r x c vars=Y (Jy t x (CP r c vars)):=by
 unfold Kv Jy;rw[Gw (a:=0) (s:=AG.mk (d3.mk [] []) []) (λ_=>AG.mk (d3.mk [] []) []) (λi=>if XG (CP r c vars) i=X then Y (AG.mk (d3.mk [] []) [],(11:Int))else W) U rfl]
 .have:=db (CP r c vars) ((AG.mk (d3.mk [] []) [],(11:Int)));rw[LV]at this;rw[this];by_cases e:RX (CP r c vars)=X
  .rw[ac e,ac e];rfl
  rw [ae e,ae e];show ej (Y (Sum.inl _)) _ _=_;rw[B3,Gw (a:=0) (s:=(x,AG.mk (d3.mk [] []) [])) (λi=>(AG.mk x.d3 (((CP r c vars).take i.toNat).foldl Cc x.eh),AG.mk (d3.mk [] []) [])) (λi=>if Nj t x (AA (CP r c vars) i)=X then Y (AG.mk (d3.mk [] []) [],(6:Int))else W) U rfl]
  .have:=iy (l:=CP r c vars) (q:=Nj t x) (v:=(AG.mk (d3.mk [] []) [],(6:Int)));rw[LV]at this;rw[this];by_cases o:(CP r c vars).any (Nj t x)=X
   .rw[ac o,ac o];rfl
   .rw[ae o,ae o];show Y (AG.mk x.d3 (((CP r c vars).take (r.ec.ei.length:Int).toNat).foldl Cc x.eh),(0:Int))=_
    grind [LV,E',y?]
  .intro i u i1 _;have D:=AF u i1;have j:=h.slot _ D;have w:=h.kind _ (AF j.2.2.1.1 j.2.2.1.2);obtain⟨F,G⟩:=gC h D (κ:=((CP r c vars).take i.toNat).foldl Cc x.eh) (d9 _ _);simp only[AD u i1,bs];rw[QH j.2.1.1 j.2.1.2,bs,AD j.1.1 j.1.2,bs,AD j.2.2.1.1 j.2.2.1.2,bs,Ou h.hf,JP h.hv w.1 w.2,bs];simp only[];rw[AD j.2.2.2.1 j.2.2.2.2,bs,bs,WU,bs,F,bs,G,bs];rw[QK r c vars u i1,CH u (by rw[LV];exact i1),w?,QK r c vars u i1];show(if(Nj t x (Rp c vars (AA r.ec.ei i)))=X then _ else _)=_;by_cases o:Nj t x (Rp c vars (AA r.ec.ei i))=X
   .rw[ac o,ac o];rfl
   .rw[ae o,ae o];have:=dm (p:=Rp c vars (AA r.ec.ei i)) F G;exact congrArg (λη=>Y (Bz.next (σ:=AG×AG) (ρ:=AG×Int) (AG.mk x.d3 η,AG.mk (d3.mk [] []) []))) this
 .intro i u i1 _;have j:=h.slot _ (AF u i1);rw[AD u i1,bs,QH j.2.1.1 j.2.1.2,bs];rw[Gw (a:=0) (s:=AG.mk (d3.mk [] []) []) (λ_=>AG.mk (d3.mk [] []) []) (λk=>if(decide ((AA (CP r c vars) k).1=(AA (CP r c vars) i).1)&&!decide ((AA (CP r c vars) k).2=(AA (CP r c vars) i).2))=X then Y (AG.mk (d3.mk [] []) [],(11:Int))else W) u rfl]
  .rw[Ok];unfold XG;split<;>rfl
  .intro k y I _;have w:=h.slot _ (AF y (show k<r.ec.ei.length by omega));simp[AD u i1,AD y (show k<r.ec.ei.length by omega)];rw[QH w.2.1.1 w.2.1.2,bs,AD w.1.1 w.1.2,bs,AD j.1.1 j.1.2,bs,QK r c vars u i1,QK r c vars y U];simp[Rp];by_cases E:AA c.ci (AA r.ec.ei k).o4=AA c.ci (AA r.ec.ei i).o4<;>by_cases o:(AA r.ec.ei k).kh=(AA r.ec.ei i).kh<;>by_cases z:DW (AA r.ec.ei i).gp vars=DW (AA r.ec.ei k).gp vars
   all_goals first|(have H:¬DW (AA r.ec.ei k).gp vars=DW (AA r.ec.ei i).gp vars:=λh=>z h.symm;simp[E,o,z,H,bN];done)|(simp[E,o,z,bN];done)
end Go.Sf.Sc
namespace Go.Sf.Sc
open Go Go.Sf
variable{t:AC}{r:fd}
theorem Ui(h:DT t r=0):FD t r.gl=0/\Jk t r=0/\JS t r.gl r.d5=0:=by grind[DT]
theorem iH(h:Jk t r=0):r.ec.em=r.gl.em/\r.ec.ei.length<=10/\∀i:Int,0<=i->i<r.ec.ei.length->OS t r.ec i=0:=by
 unfold Jk at h;split at h
 .omega
 split at h
 .cases h
 split at h
 .cases h
 split at h
 .cases h
 rename_i e j o s;exact⟨U,U,VR h⟩
variable{i:Int}
theorem lZ{p:d6}(h:OS t p i=0):(0<=(AA p.ei i).o4/\(AA p.ei i).o4<p.d3.ci.length)/\
  (0<=(AA p.ei i).kh/\(AA p.ei i).kh<(Fg t (AA p.d3.ci (AA p.ei i).o4)).1.length)/\-1<=(AA p.ei i).gp.Var/\(AA p.ei i).gp.Var<p.em:=by
 unfold OS at h;dsimp only at h;split at h
 .cases h
 split at h
 .cases h
 rename_i j e;simp[sx]at e;omega
structure IH(t:AC)(r:fd)(h:AG)(m:AQ):Prop where
 hf:A3 t
 fr:Ie r
 re:DT t r=0
 he:(Dd t h).2=0
 at_:Xs t r.gl h m
 co:cz (UL r.gl.d3 h.d3 m.d4) h.d3 r.pf m.d4
abbrev dS(r:fd)(h:AG)(m:AQ):BR:=OP h.d3 r.pf m.d4
abbrev cS(r:fd)(h:AG)(m:AQ):d4:=cmS r h m.d4 (dS r h m)
variable{h:AG}{m:AQ}
theorem IH.hv(s:IH t r h m):(BD t).2=0:=(jc s.re).1
theorem IH.ro(s:IH t r h m):mF t r:=(jc s.re).2
theorem IH.hh(s:IH t r h m):If t h:=(QB s.hf s.he).2
theorem Rb(hf:A3 t)(hv:(BD t).2=0)(hh:If t h):ET h:=by
 have o:=hh.g.ea;have s:=hh.g.eb;have u:=hh.len;refine⟨U,U,U,λv e=>?_⟩;obtain⟨i,j,i1,rfl⟩:=BT e;have w:=hh.row i j U;have y:=H9 hf (F_ _) (Cq hv).par (hh.kind i j U).2;omega
theorem IH.rem(s:IH t r h m):cX h (dS r h m):=by
 have hh:=s.hh;have o:=hh.g.ea;have u:=hh.g.eb;have l1:=S7 (FM m.d4.ci r.pf.ci) h.d3.ci.length;have l2:=S7 (FM m.d4.c9 r.pf.c9) h.d3.c9.length;exact⟨Rb s.hf s.hv hh,hh.len,⟨λx j=>Ft j,by show(BP _ _).length<=1000;omega⟩,⟨λx j=>Ft j,by show(BP _ _).length<=1000;omega⟩,λe he=>(hh.g.fit e he).2⟩
theorem IH.part(s:IH t r h m):ES h.d3 (dS r h m)=0:=by
 unfold ES;rw[ae (by simp[s.hh.ge])];exact oW s.co
variable{count n:Nat}
theorem mW{ey into fq:Fp}{BU:Fp}(few:count<=1000)(nodup:into.Nodup)(len:into.length=ey.length)(inn:∀x∈into,0<=x/\x<count)
  (kin:∀x∈ey,0<=x/\x<fq.length)(o:∀x∈fq,0<=x/\x<n)(hi:Aaz fq ey=T)(s:BU=FM fq ey):
  V7 count ey into (fq.map (AA (Iy n (BP BU n))))/\(∀x∈ey,AA (fq.map (AA (Iy n (BP BU n)))) x<(BP BU n).length)/\
  ∀x∈ey,AA (fq.map (AA (Iy n (BP BU n)))) x=Da (BP BU n) (AA fq x)/\AA fq x∈BP BU n:=by
 have e:∀x∈ey,AA (fq.map (AA (Iy n (BP BU n)))) x=Da (BP BU n) (AA fq x)/\AA fq x∈BP BU n:=λx j=>by
  grind [AF,Gk,Um,Rl,VV]
 refine ⟨⟨few,nodup,len,inn,λx j=>by rw[cL];exact kin x j,λx j=>?_⟩,λx j=>?_,e⟩
 .rw[(e x j).1];exact PI.2 (e x j).2
 .rw[(e x j).1];exact(Rx _ _).2
theorem IH.left(s:IH t r h m):m.d4.ci.length=r.gl.d3.ci.length/\m.d4.c9.length=r.gl.d3.c9.length:=⟨s.at_.m.Aal,s.at_.m.Aao⟩
theorem IH.AbV(s:IH t r h m):V7 r.ec.d3.ci.length r.pf.ci r.o3.ci (m.d4.ci.map (AA (Ge h (dS r h m)).ci))/\
  (∀x∈r.pf.ci,AA (m.d4.ci.map (AA (Ge h (dS r h m)).ci)) x<(dS r h m).ci.length)/\
  ∀x∈r.pf.ci,AA (m.d4.ci.map (AA (Ge h (dS r h m)).ci)) x=Da (dS r h m).ci (AA m.d4.ci x)/\AA m.d4.ci x∈(dS r h m).ci:=by
 have ro:=s.ro;have o:=ro.right.ea;refine mW U ro.inj.1 ?_ (λx e=>?_) (λx e=>?_) (λx e=>?_) s.co.ea rfl
 .have:=ro.mor.Aal;rw[this];exact cL ..
 .obtain⟨i,j,i1,rfl⟩:=BT e;exact(ro.mor.node i j i1).1
 .have:=ro.part.ea.1 x e;have:=s.left.1;omega
 .obtain⟨i,j,i1,rfl⟩:=BT e;exact(s.at_.m.node i j i1).1
theorem IH.Ab0(s:IH t r h m):V7 r.ec.d3.c9.length r.pf.c9 r.o3.c9 (m.d4.c9.map (AA (Ge h (dS r h m)).c9))/\
  (∀x∈r.pf.c9,AA (m.d4.c9.map (AA (Ge h (dS r h m)).c9)) x<(dS r h m).c9.length)/\
  ∀x∈r.pf.c9,AA (m.d4.c9.map (AA (Ge h (dS r h m)).c9)) x=Da (dS r h m).c9 (AA m.d4.c9 x)/\AA m.d4.c9 x∈(dS r h m).c9:=by
 have ro:=s.ro;have o:=ro.right.eb;refine mW U ro.inj.2 ?_ (λx e=>?_) (λx e=>?_) (λx e=>?_) s.co.eb rfl
 .have:=ro.mor.Aao;rw[this];exact cL ..
 .obtain⟨i,j,i1,rfl⟩:=BT e;exact(ro.mor.edge i j i1).1
 .have:=ro.part.eb.1 x e;have:=s.left.2;omega
 .obtain⟨i,j,i1,rfl⟩:=BT e;exact s.at_.m.edge i j i1
theorem ia{ey into at_:Fp}(h:V7 count ey into at_)(j:∀x∈ey,AA at_ x<n)(o:0<=i)(i1:i<count):AA (VF count ey into at_ n) i=n+(BP into i).length↔i∉into:=by
 rw [mV o i1];constructor
 .intro e hi;rw[TW hi]at e;have s:=Hh hi;have:=j _ (AF (l:=ey) s.1 n!);omega
 .exact T5
theorem IH.grow(s:IH t r h m):Xw t r (cS r h m):=
 ⟨s.hf,s.hv,s.ro.right,(Hu s.ro.right s.ro.Abm).1,ZH _ _ _ _ _⟩
theorem Wx(l:Fp)(j:0<=i):∀(k:Nat),∃s,BP l (i+k)=BP l i++s
 |0=>⟨[],V⟩|k+1=>by
  obtain ⟨s,e⟩:=Wx l j k
  grind [Ph,cR]
variable{l:Fp}
theorem rM{i n:Int}(j:0<=i)(i1:i<n)(h:i∉l):AA (BP l n) (BP l i).length=i/\((BP l i).length:Int)<(BP l n).length:=by
 obtain ⟨s,e⟩:=Wx l (i:=i+1) U (n-(i+1)).toNat
 rw [show i+1+((n-(i+1)).toNat:Int)=n by omega,Ph l j]at e
 grind [hasB,By,AA]
variable{α:Type}
theorem mN[Inhabited α]{l m:List α}(e:0<=i)(j:i<l.length):AA (l++m) i=AA l i:=by grind[Og]
theorem X5[Inhabited α]{l m:List α}:AA (l++m) (l.length+n:Int)=AA m n:=by grind[Og,AA,E']
variable{a:Int}
theorem qG(h:0<=a):G4 t a a=X:=by
 unfold G4;rw[show(a+1).toNat=a.toNat+1 by omega,Kk,ae U];simp
theorem IH.AbM(s:IH t r h m)(u:0<=i)(i1:i<r.ec.d3.ci.length):
  (0<=AA (cS r h m).ci i/\AA (cS r h m).ci i<(Cw t r (CO h (dS r h m)) (cS r h m)).d3.ci.length)/\
  AA (Cw t r (CO h (dS r h m)) (cS r h m)).d3.ci (AA (cS r h m).ci i)<t.ci.length/\G4 t (AA (Cw t r (CO h (dS r h m)) (cS r h m)).d3.ci (AA (cS r h m).ci i)) (AA r.ec.d3.ci i)=X:=by
 obtain ⟨F,K,N⟩:=s.AbV;have G:AA (cS r h m).ci i=SC r.pf.ci r.o3.ci (m.d4.ci.map (AA (Ge h (dS r h m)).ci)) (dS r h m).ci.length i:=mV u i1;have el:(Cw t r (CO h (dS r h m)) (cS r h m)).d3.ci=(dS r h m).ci.map (AA h.d3.ci)++(E0 r).map (AA r.ec.d3.ci):=rfl;rw[G,el,b6,cL,cL];by_cases hi:i∈r.o3.ci
 .have e:=Hh hi;have O:=F.len;have o:=AF (l:=r.pf.ci) e.1 U;have z:=N _ o;have D:=K _ o;have w:=F.pos _ o;rw[TW hi];refine⟨⟨w,by push_cast;omega⟩,?_⟩;rw[mN w (by rw[cL];exact D),Gk w D,z.1,(Hh z.2).2.2.1];have hr:=s.ro.part.ea.1 _ o;have H:=s.left.1;have y:=s.at_.m.node _ hr.1 U;have I:=s.hh.kind _ y.1.1 y.1.2;have E:=s.ro.mor.node _ e.1 e.2.1;rw[e.2.2.1]at E;have J:AA (DC r.gl.d3 r.pf).ci (Da r.o3.ci i)=AA r.gl.d3.ci (AA r.pf.ci (Da r.o3.ci i)):=Gk e.1 U;rw[E.2,J];exact⟨I.2,y.2⟩
 .have hr:=rM u i1 hi;rw[T5 hi];have j:((dS r h m).ci.map (AA h.d3.ci)).length=(dS r h m).ci.length:=cL ..;refine⟨⟨U,?_⟩,?_⟩
  .have:((E0 r).length:Int)=(BP r.o3.ci r.ec.d3.ci.length).length:=rfl
   push_cast
   omega
  .rw[<-j,X5,show E0 r=BP r.o3.ci r.ec.d3.ci.length from rfl,Gk U hr.2];show AA r.ec.d3.ci (AA (BP r.o3.ci r.ec.d3.ci.length) (BP r.o3.ci i).length)<(t.ci.length:Int)/\G4 t (AA r.ec.d3.ci (AA (BP r.o3.ci r.ec.d3.ci.length) (BP r.o3.ci i).length)) _=X;rw[hr.1];have:=(Hu s.ro.right s.ro.Abm).1 _ (AF u i1);exact⟨this.2,qG this.1⟩
theorem IH.rows(s:IH t r h m):(Cw t r (CO h (dS r h m)) (cS r h m)).eh.map (λv=>v.length)=(Cw t r (CO h (dS r h m)) (cS r h m)).d3.ci.map λn=>(A4 t n).length:=by
 show (B' _ (_++_))=B' _ (_++_);rw[z?,z?];congr 1
 .show((dS r h m).ci.map (AA h.eh)).map _=((dS r h m).ci.map (AA h.d3.ci)).map _;rw[x!,x!];refine A_ λx e=>?_;have e:=s.rem.ea.1 x e;exact s.hh.row x e.1 e.2
 grind [x!,A_,VX,cL]
theorem IH.put(s:IH t r h m):V9 t r (cS r h m) m.em (Cw t r (CO h (dS r h m)) (cS r h m)):=by
 obtain ⟨O,hr,P⟩:=Ui s.re;obtain⟨hv,Q,z⟩:=iH hr;have J:=s.at_.q.vars;have D:=s.at_.len;have w:=s.rows;have y:(Cw t r (CO h (dS r h m)) (cS r h m)).eh.length=(Cw t r (CO h (dS r h m)) (cS r h m)).d3.ci.length:=by
  grind [B!,cL]
 refine ⟨s.hf,s.hv,U,U,λx e=>?_,λn j=>?_,y,λi o i1=>?_⟩
 .obtain⟨i,o,i1,rfl⟩:=BT e;obtain⟨u,H,S⟩:=lZ (z i o i1);have E:=(Hu s.ro.right s.ro.Abm).1 _ (AF u.1 u.2);rw[JP s.hv E.1 E.2]at H;obtain⟨ε,I,F⟩:=s.AbM u.1 u.2;replace F:=aV (Cq s.hv) I F;have G:(cS r h m).ci.length=r.ec.d3.ci.length:=ZH _ _ _ _ _
  grind
 .have j:n∈(dS r h m).ci.map (AA h.d3.ci)++(E0 r).map (AA r.ec.d3.ci):=j;rcases B?.1 j with j|j
  .obtain⟨x,e,rfl⟩:=w_.1 j;have e:=s.rem.ea.1 x e;exact s.hh.kind x e.1 e.2
  .obtain⟨x,e,rfl⟩:=w_.1 j;have e:=Ft e;exact(Hu s.ro.right s.ro.Abm).1 _ (AF e.1 e.2)
 .have K:=Gk (l:=(Cw t r (CO h (dS r h m)) (cS r h m)).eh) (g:=λv=>v.length) o U;have N:=Gk (l:=(Cw t r (CO h (dS r h m)) (cS r h m)).d3.ci) (g:=λn=>(A4 t n).length) o i1
  grind
end Go.Sf.Sc
namespace Go.Sf.Sc
open Go Go.Sf
abbrev zRu:fd:=fd.mk (⟨#[]⟩:ByteArray) (d6.mk (d3.mk [] []) [] 0 []) (d6.mk (d3.mk [] []) [] 0 []) (BR.mk [] []) (d4.mk [] []) T (d5.mk 0 [] (d4.mk [] []) (d6.mk (d3.mk [] []) [] 0 []))
abbrev zG:AU:=AU.mk zRu (AQ.mk (d4.mk [] []) []) (AG.mk (d3.mk [] []) []) (AG.mk (d3.mk [] []) []) (d4.mk [] []) (d4.mk [] [])
def cc(t:AC)(r:fd)(h:AG)(m:AQ):AU×Int:=
 if (Jy t (Cw t r (CO h (dS r h m)) (cS r h m)) (CP r (cS r h m) m.em)).2≠0 then(zG,(Jy t (Cw t r (CO h (dS r h m)) (cS r h m)) (CP r (cS r h m) m.em)).2)else
 if 40<(Jy t (Cw t r (CO h (dS r h m)) (cS r h m)) (CP r (cS r h m) m.em)).1.d3.ci.length\/80<(Jy t (Cw t r (CO h (dS r h m)) (cS r h m)) (CP r (cS r h m) m.em)).1.d3.c9.length then(zG,3)else
 (AU.mk r m h (Jy t (Cw t r (CO h (dS r h m)) (cS r h m)) (CP r (cS r h m) m.em)).1 (Ge h (dS r h m)) (cS r h m),0)
noncomputable def EW(t:AC)(r:fd)(h:AG)(m:AQ):AU×Int:=
 if DT t r≠0 then(zG,DT t r)else if(Dd t h).2≠0 then(zG,(Dd t h).2)else
 if Gd t r.gl.d3 h.d3 m.d4 r.ke≠0 then(zG,1)else
 if (Gg t r.gl h m.d4).2≠0 then(zG,(Gg t r.gl h m.d4).2)else if¬(Gg t r.gl h m.d4).1=m.em then(zG,11)else
 if (O9 (UL r.gl.d3 h.d3 m.d4) h.d3 r.pf m.d4).2≠0 then(zG,(O9 (UL r.gl.d3 h.d3 m.d4) h.d3 r.pf m.d4).2)else
 if (Od t r.gl r.d5 h m r.ke).2≠0 then(zG,(Od t r.gl r.d5 h m r.ke).2)else
 if (Od t r.gl r.d5 h m r.ke).1=T then(zG,16)else cc t r h m
variable{t:AC}{r:fd}{h:AG}{m:AQ}
theorem ZG(e:DT t r=0)(j:(Dd t h).2=0)(o:Gd t r.gl.d3 h.d3 m.d4 r.ke=0)(s:(Gg t r.gl h m.d4).2=0)(u:(Gg t r.gl h m.d4).1=m.em):VB t r.gl r.d5 h m r.ke=0:=by
 unfold VB;rw[ae (by simp[(Ui e).2.2]),ae (by simp[j]),ae to,ae (by simp[s]),ac u]
theorem jA{ζ:Option (AU×Int)}(hX:(Jy t (Cw t r (CO h (dS r h m)) (cS r h m)) (CP r (cS r h m) m.em)).2=0->ζ=
   if ((decide (40<((Jy t (Cw t r (CO h (dS r h m)) (cS r h m)) (CP r (cS r h m) m.em)).1.d3.ci.length:Int)))||(decide (80<((Jy t (Cw t r (CO h (dS r h m)) (cS r h m)) (CP r (cS r h m) m.em)).1.d3.c9.length:Int))))=X then Y (zG,3)else
   Y (AU.mk r m h (Jy t (Cw t r (CO h (dS r h m)) (cS r h m)) (CP r (cS r h m) m.em)).1 (Ge h (dS r h m)) (cS r h m),0)):
  (if(!decide ((Jy t (Cw t r (CO h (dS r h m)) (cS r h m)) (CP r (cS r h m) m.em)).2=0))=X then Y (zG,(Jy t (Cw t r (CO h (dS r h m)) (cS r h m)) (CP r (cS r h m) m.em)).2)else ζ)=Y (cc t r h m):=by
 unfold cc;refine Dy λe=>?_;rw[hX e];refine Qx an λ_=>rfl
theorem Yn(hf:A3 t)(fr:Ie r)(D:Dv r.d5<=40)(h:AG)(m:AQ):FQ t r h m=Y (EW t r h m):=by
 unfold FQ IG EW;rw[Ot hf,bs];by_cases hv:¬(BD t).2=0
 .grind[DT,BD]
 have hv:=D?.1 hv;rw[ae k_,fO hf fr,bs,Vh hf,bs];by_cases j:¬DT t r=0
 .grind
 have j:=D?.1 j;rw[ae (by simp[j]),bs,ae (show¬DT t r≠0 by simp[j])];refine Dy λE=>?_;rw[Option.bind_fun_some];unfold IF Ki;rw[Za hf,bs];by_cases o:¬Gd t r.gl.d3 h.d3 m.d4 r.ke=0
 .grind
 have o:=D?.1 o;rw[ae to,jJ hf,bs,ae (show¬Gd t r.gl.d3 h.d3 m.d4 r.ke≠0 by simp[o])];by_cases u:¬(Gg t r.gl h m.d4).2=0
 .grind
 have u:=D?.1 u;rw[ae p?,PX,bs,ae (show¬(Gg t r.gl h m.d4).2≠0 by simp[u])];by_cases w:¬(Gg t r.gl h m.d4).1=m.em
 .grind
 have w:=D?.1 w;rw[ae (by simp[w]),bs,ae V,ae (show¬¬(Gg t r.gl h m.d4).1=m.em by simp[w])];rw[xR hf o,bs,ae V,xM fr.ey,bs];refine Dy λF=>?_;obtain⟨_,_,_,ha⟩:=YA hf D (ZG j E o u w);obtain⟨co,N⟩:=ZI F;rw[iB hf _ fr.cond D,bs,N];refine Dy λO=>?_;refine YB λP=>?_;have s:IH t r h m:=⟨hf,fr,j,E,ha,co⟩;have hr:=s.rem;have Q:=s.hh.g.ea;have S:=s.hh.g.eb;have l1:=s.left.1;have l2:=s.left.2;have ε:=s.ro.left.ea;have η:=s.ro.left.eb;have H:=ha.len;have I:=ha.q.vars;have z:Kh m=Y m:=by
  unfold Kh slices_Clone_int;rw[Be b_,bs,Be b_,bs,Be b_,bs]
 simp only[];rw[z,bs,lD hr.sm,bs];rw[jR U hr.ea.2 (Ov _ _),bs,jR U hr.eb.2 (Ov _ _),bs];have J:HZ r.ec.d3.ci.length r.pf.ci r.o3.ci m.d4.ci (Iy h.d3.ci.length (dS r h m).ci) (OP h.d3 r.pf m.d4).ci.length=Y (cS r h m).ci:=
  aj s.AbV.1 (λx y=>by rw[Kx];obtain⟨i,e,i1,rfl⟩:=BT y;exact(ha.m.node i e i1).1) U (F!.2 hr.ea.2)
 have K:HZ r.ec.d3.c9.length r.pf.c9 r.o3.c9 m.d4.c9 (Iy h.d3.c9.length (dS r h m).c9) (OP h.d3 r.pf m.d4).c9.length=Y (cS r h m).c9:=
  aj s.Ab0.1 (λx y=>by rw[Kx];obtain⟨i,e,i1,rfl⟩:=BT y;exact ha.m.edge i e i1) U (F!.2 hr.eb.2)
 rw [J,bs,K,bs];have hb:=uZ (M:=m) s.grow hr (ZH _ _ _ _ _) (λi e i1=>ia s.AbV.1 s.AbV.2.1 e i1) (λi e i1=>ia s.Ab0.1 s.Ab0.2.1 e i1);change ((Jq t (AU.mk r m h (AG.mk (d3.mk [] []) []) (Ge h (dS r h m)) (cS r h m)) (dS r h m)).bind _)=_;rw[hb,bs,xP s.put,bs];exact jA λG=>by rw[ac G]
theorem oG(hf:A3 t){p:d6}{c:d5}(e:Dv c<=40){inj:Bool}(j:VB t p c h m inj=0):J6 t c h m inj=Y (Od t p c h m inj):=by
 obtain ⟨hv,hh,o,ha⟩:=YA hf e j
 grind [J6,Od,wS,DD,vb,nT,qz]
theorem oS(hf:A3 t)(fr:Ie r)(G:Dv r.d5<=40)(h:AG)(m:AQ):IV t r h m=Y (EW t r h m):=by
 unfold IV HK EW;rw[fh hf fr,bs,Vo hf,bs];by_cases e:¬DT t r=0
 .rw[ac c_,bs,ac c_,ac e]
 have e:=D?.1 e;rw[ae c_,bs,ae (show¬DT t r≠0 by simp[e])];refine Dy λD=>?_;unfold Ib;rw[Zh hf,bs];by_cases j:¬Gd t r.gl.d3 h.d3 m.d4 r.ke=0
 .rw[ac (by simp[j]),bs,ac V,ac j]
 have j:=D?.1 j;rw[ae (by simp[j]),uu hf,bs,ae (show¬Gd t r.gl.d3 h.d3 m.d4 r.ke≠0 by simp[j])];by_cases o:¬(Gg t r.gl h m.d4).2=0
 .rw[ac to,bs,ac to,ac o]
 have o:=D?.1 o;rw[ae to,ur,bs,ae (show¬(Gg t r.gl h m.d4).2≠0 by simp[o])];by_cases y:¬(Gg t r.gl h m.d4).1=m.em
 .rw[ac (by simp[y]),bs,ac V,ac y]
 have y:=D?.1 y;rw[ae (by simp[y]),ae (show¬¬(Gg t r.gl h m.d4).1=m.em by simp[y])];rw[xm hf j,bs,ae V,xd fr.ey,bs];by_cases u:¬(O9 (UL r.gl.d3 h.d3 m.d4) h.d3 r.pf m.d4).2=0
 .rw[ac p?,bs,ac p?,ac u]
 have u:=D?.1 u;rw[ae p?,ae (show¬(O9 (UL r.gl.d3 h.d3 m.d4) h.d3 r.pf m.d4).2≠0 by simp[u])];have z:=ZG e D j o y;obtain⟨_,_,_,ha⟩:=YA hf G z;obtain⟨co,J⟩:=ZI u;rw[oG hf G z,bs,J,I7,bs,bs];by_cases w:¬(Od t r.gl r.d5 h m r.ke).2=0
 .rw[ae (show¬((decide ((Od t r.gl r.d5 h m r.ke).2=0)&&!(Od t r.gl r.d5 h m r.ke).1)=X)by simp[w]),ac (by simp[w]),ac w]
 have w:=D?.1 w;rw[ae (show¬(Od t r.gl r.d5 h m r.ke).2≠0 by simp[w])];cases N:(Od t r.gl r.d5 h m r.ke).1 with
 |false=>rw[ac (show(decide ((Od t r.gl r.d5 h m r.ke).2=0)&&!T)=X by simp[w]),ac V,ac rfl]|true=>
 rw [ae (show¬(decide ((Od t r.gl r.d5 h m r.ke).2=0)&&!X)=X by simp),ae (by simp[w]),ae V];have s:IH t r h m:=⟨hf,fr,e,D,ha,co⟩;have hr:=s.rem;have O:=s.hh.g.ea;have P:=s.hh.g.eb;have l1:=s.left.1;have l2:=s.left.2;have Q:=s.ro.left.ea;have S:=s.ro.left.eb;unfold JE Mr;simp only[];rw[iD hf D s.part hr,bs,fV U hr.ea.2 ((Ov _ _).imp λh=>U),bs,bs,fV U hr.eb.2 ((Ov _ _).imp λh=>U),bs,bs,bs];simp only[];rw[Yu U (λx E=>by rw[Kx];obtain⟨i,F,i1,rfl⟩:=BT E;exact(ha.m.node i F i1).1),bs];rw[Yu U (λx E=>by rw[Kx];obtain⟨i,F,i1,rfl⟩:=BT E;exact ha.m.edge i F i1),bs];have H:GZ r.pf.ci r.o3.ci r.ec.d3.ci.length (m.d4.ci.map (AA (Iy h.d3.ci.length (dS r h m).ci))) (OP h.d3 r.pf m.d4).ci.length=Y (cS r h m).ci:=
  ax s.AbV.1 U (F!.2 hr.ea.2)
 have I:GZ r.pf.c9 r.o3.c9 r.ec.d3.c9.length (m.d4.c9.map (AA (Iy h.d3.c9.length (dS r h m).c9))) (OP h.d3 r.pf m.d4).c9.length=Y (cS r h m).c9:=
  ax s.Ab0.1 U (F!.2 hr.eb.2)
 rw [H,bs,I,bs];rw[oE (bF hr),bs];change ((Ji t r (CO h (dS r h m)) (cS r h m)).bind _)=_;rw[xj s.grow (bF hr),bs];change ((Kv t r (Cw t r (CO h (dS r h m)) (cS r h m)) (cS r h m) m.em).bind _)=_;rw[ABF s.put,bs];exact jA λK=>rfl
end Go.Sf.Sc
namespace Go.Sf.Sc
open Go Go.Sf
instance:Inhabited fd:=⟨zRu⟩
instance:Inhabited F8:=⟨⟨0,⟨⟨[],[]⟩,[]⟩⟩⟩
instance:Inhabited AU:=⟨zG⟩
structure Gc(rules:List fd):Prop where
 len:rules.length<=12
 each:∀r∈rules,Ie r/\Dv r.d5<=40
noncomputable def GI(t:AC)(rules:List fd)(h:AG)(m:F8):AU×Int:=if m.fd<0\/rules.length<=m.fd then(zG,6)else EW t (AA rules m.fd) h m.l4
variable{t:AC}{rules:List fd}
theorem xT(hf:A3 t)(hr:Gc rules)(h:AG)(m:F8):FT t rules h m=Y (GI t rules h m):=by
 unfold FT GI;refine Qx V λe=>?_;have j:=hr.each _ (AF (l:=rules) (i:=m.fd) U U)
 grind [AD,Yn]
noncomputable def Ec(t:AC)(rules:List fd):Int:=
 if (BD t).2≠0 then(BD t).2 else if 10<rules.length then 3 else(fst (λi=>nz (DT t (AA rules i))) 0 rules.length).getD 0
noncomputable def GH(t:AC)(rules:List fd)(h:AG):Int:=if Ec t rules≠0 then Ec t rules else(Dd t h).2
theorem xF{e v:Int}(h:nz e=Y v):v≠0:=by grind[nz]
variable{a b v:Int}
theorem uC{c:Int->Int}(h:fst (λi=>nz (c i)) a b=Y v):v≠0:=by grind[Cl,xF]
theorem oR(hf:A3 t)(hr:Gc rules):N9 t rules=Y (Ec t rules):=by
 unfold N9 Ec;rw[R1 hf,bs];refine EN λj=>Qx i! λo=>?_;rw[Bh (λi=>nz (DT t (AA rules i))),C8];intro i e i1 _;rw[AD e i1,bs,fh hf (hr.each _ (AF e i1)).1,bs,Nv]
theorem q9(hf:A3 t)(hr:Gc rules)(h:AG):OA t rules h=Y (GH t rules h):=by
 unfold OA GH;rw[oR hf hr,bs,Vo hf,bs];exact EN λ_=>rfl
theorem qc(hf:A3 t)(hr:Gc rules)(h:AG):FU t rules h=Y (GH t rules h):=by
 unfold FU GH Ec;rw[Ot hf,bs];by_cases j:¬(BD t).2=0
 .grind
 have j:=D?.1 j;rw[ae (by simp[j]),ae (show¬(BD t).2≠0 by simp[j])];by_cases s:10<rules.length
 .grind
 rw [ae an,ae s,Bh (λi=>nz (DT t (AA rules i))),Db]
 .cases e:fst (λi=>nz (DT t (AA rules i))) 0 (rules.length:Int)with
  |none=>
   grind [Vh]
  |some v=>
   have:=uC e
   grind
 .intro i o i1 _;rw[AD o i1,bs,fO hf (hr.each _ (AF o i1)).1,bs,Nv]
noncomputable def Jo(t:AC)(rules:List fd)(h0:AG)(ms:List F8):List AU×AG:=
 ms.foldl (λs m=>(s.1++[(GI t rules s.2 m).1],(GI t rules s.2 m).1.f0)) ([],h0)
noncomputable def SD(t:AC)(rules:List fd)(h0:AG)(ms:List F8)(i:Int):Int:=(GI t rules (Jo t rules h0 (ms.take i.toNat)).2 (AA ms i)).2
theorem SV(t:AC)(rules:List fd)(e:AG)(j:List F8)(m:F8):Jo t rules e (j++[m])=((Jo t rules e j).1++[(GI t rules (Jo t rules e j).2 m).1],(GI t rules (Jo t rules e j).2 m).1.f0):=by
 unfold Jo
 grind
theorem ji(t:AC)(rules:List fd)(j:AG)(e:List F8):(Jo t rules j e).1.length=e.length:=by
 refine gK (P:=λe=>(Jo t rules j e).1.length=e.length) rfl (λe m o=>?_) e
 grind [SV,b6]
variable{α:Type}{i:Int}
theorem Lv[Inhabited α]{l m:List α}(e:0<=i)(j:i<l.length):AA (l++m) i=AA l i:=by grind[Og]
theorem wW[Inhabited α](l:List α)(a:α):AA (l++[a]) l.length=a:=by
 rw [Og,ae V,E',Nat.sub_self];rfl
theorem px{e:AG}{a b:List F8}(j:0<=i)(i1:i<a.length):SD t rules e (a++b) i=SD t rules e a i:=by grind[SD,Lv]
noncomputable def Zm(t:AC)(rules:List fd)(d:Ch):List AU×Int×Int:=
 if GH t rules d.ng≠0 then([],0,GH t rules d.ng)else if 30<d.ln.length then([],0,3)else
 match fst (λi=>(nz (SD t rules d.ng d.ln i)).map λe=>([],i,e)) 0 d.ln.length with
 |some r=>r|none=>((Jo t rules d.ng d.ln).1,(d.ln.length:Int),0)
variable{d:Ch}
theorem rL(hd:d.ln.length<=1000){f:AG->F8->Option (AU×Int)}(hf:∀h m,f h m=Y (GI t rules h m)):
  ej (ij (ρ:=(List AU×Int×Int)) (λ(o:Int)(u:List AU×AG)=>
  (idx d.ln o).bind λw=>
  (f u.2 w).bind λj=>
  if (!decide (j.2=0))=X then
  Y (.ret ([],o,j.2))
  else
  (AY u.1 [j.1]).bind λy=>
  Y (.next (y,j.1.f0))) 0 (d.ln.length:Int) ([],d.ng)) (λu=>
  Y (u.1,(u.1.length:Int),(0:Int))) (λz=>Y z)=Y (match fst (λi=>(nz (SD t rules d.ng d.ln i)).map λe=>([],i,e)) 0 d.ln.length with
   |some r=>r|none=>((Jo t rules d.ng d.ln).1,(d.ln.length:Int),0)):=by
 rw [Gw (a:=0) (s:=(([],d.ng):List AU×AG)) (λi=>Jo t rules d.ng (d.ln.take i.toNat)) (λi=>(nz (SD t rules d.ng d.ln i)).map λe=>([],i,e)) U rfl]
 .cases fst (λi=>(nz (SD t rules d.ng d.ln i)).map λe=>(([],i,e):List AU×Int×Int)) 0 (d.ln.length:Int)with
  |some r=>rfl|none=>
   show Y _=Y _;rw[E',y?,ji]
 .intro i o i1 _;have D:=ji t rules d.ng (d.ln.take i.toNat);rw[AD o i1,bs,hf,bs];show(if(!decide (SD t rules d.ng d.ln i=0))=X then _ else _)=_;by_cases e:SD t rules d.ng d.ln i=0
  .rw[ae c_,AS (by rw[D,bk];simp;unfold AX;omega),bs,CH o i1,SV,IZ.2 e];rfl
  .rw[ac c_];unfold nz;rw[ae e];rfl
theorem qh(hf:A3 t)(hr:Gc rules)(d:Ch):EA t rules d=Y (Zm t rules d):=by
 unfold EA Zm;rw[qc hf hr,bs];refine Dy λe=>Qx i! λj=>?_;exact rL U (xT hf hr)
structure Sa(t:AC)(rules:List fd)(d:Ch):Prop where
 given:GH t rules d.ng=0
 few:d.ln.length<=30
 moves:∀i:Int,0<=i->i<d.ln.length->SD t rules d.ng d.ln i=0
theorem yD(h:Sa t rules d):Zm t rules d=((Jo t rules d.ng d.ln).1,(d.ln.length:Int),0):=by
 unfold Zm;rw[ae (by simp[h.given]),ae (by have:=h.few;omega),BC.2 λi e i1=>by rw[IZ.2 (h.moves i e i1)];rfl]
structure L9(h:AG)(s:AU):Prop where
 Aal:s.po.ci.length=h.d3.ci.length
 Aao:s.po.c9.length=h.d3.c9.length
 node:∀x∈s.po.ci,-1<=x/\x<s.f0.d3.ci.length
 edge:∀x∈s.po.c9,-1<=x/\x<s.f0.d3.c9.length
 sm:ET s.f0
variable{x:AG}{L:Bi}
theorem fR(h:(Jy t x L).2=0):Jy t x L=(⟨x.d3,L.foldl Cc x.eh⟩,0)/\L.any (Nj t x)=T:=by
 unfold Jy at h|-
 grind
structure Qw(t:AC)(r:fd)(h:AG)(m:AQ):Prop where
 f:IH t r h m
 sat:Od t r.gl r.d5 h m r.ke=(X,0)
 solve:Gg t r.gl h m.d4=(m.em,0)
 chk:Gd t r.gl.d3 h.d3 m.d4 r.ke=0
 put:(Jy t (Cw t r (CO h (dS r h m)) (cS r h m)) (CP r (cS r h m) m.em)).2=0
 few:(Cw t r (CO h (dS r h m)) (cS r h m)).d3.ci.length<=40/\(Cw t r (CO h (dS r h m)) (cS r h m)).d3.c9.length<=80
def O3(t:AC)(r:fd)(h:AG)(m:AQ):AG:=⟨(Cw t r (CO h (dS r h m)) (cS r h m)).d3,(CP r (cS r h m) m.em).foldl Cc (Cw t r (CO h (dS r h m)) (cS r h m)).eh⟩
def S8(t:AC)(r:fd)(h:AG)(m:AQ):AU:=AU.mk r m h (O3 t r h m) (Ge h (dS r h m)) (cS r h m)
variable{r:fd}{h:AG}{m:AQ}
theorem Tw(hf:A3 t)(fr:Ie r)(I:Dv r.d5<=40)(e:(EW t r h m).2=0):Qw t r h m/\EW t r h m=(S8 t r h m,0):=by
 unfold EW at e|-;split at e
 next o=>exact absurd e o
 rename_i o;rw[ae o];split at e
 next u=>exact absurd e u
 rename_i u;rw[ae u];split at e
 .cases e
 rename_i E;rw[ae E];split at e
 next w=>exact absurd e w
 rename_i w;rw[ae w];split at e
 .cases e
 rename_i F;rw[ae F];split at e
 next z=>exact absurd e z
 rename_i z;rw[ae z];split at e
 next D=>exact absurd e D
 rename_i D;rw[ae D];split at e
 .cases e
 rename_i G;rw[ae G];have o:=D?.1 o;have u:=D?.1 u;have E:=D?.1 E;have w:=D?.1 w;have F:=D?.1 F;have z:=D?.1 z;have D:=D?.1 D;obtain⟨_,_,_,ha⟩:=YA hf I (ZG o u E w F);have s:IH t r h m:=⟨hf,fr,o,u,ha,(ZI z).1⟩;unfold cc at e|-;split at e
 next y=>exact absurd e y
 rename_i y;rw[ae y];have y:=D?.1 y;obtain⟨H,J⟩:=fR y;split at e
 .cases e
 rename_i j;rw[ae j];rw[H]at j;refine⟨⟨s,?_,?_,E,y,?_⟩,?_⟩
 .exact Prod.ext (by simpa using G) D
 .exact Prod.ext F w
 .simp[not_or]at j;exact j
 .rw[H];rfl
theorem Qw.trk(s:Qw t r h m):L9 h (S8 t r h m):=by
 have hr:=s.f.rem;have j:=s.f.put;have E:((Cw t r (CO h (dS r h m)) (cS r h m)).d3.ci.length)=(dS r h m).ci.length+(E0 r).length:=by
  show (B! (_++_))=_;rw[b6,cL];show((dS r h m).ci.map _).length+_=_;rw[cL];rfl
 have he:((Cw t r (CO h (dS r h m)) (cS r h m)).d3.c9.length)=(dS r h m).c9.length+(K8 r).length:=by
  show (B! (_++_))=_;rw[b6,cL];show((dS r h m).c9.map _).length+_=_;rw[cL];rfl
 have w:M5 (O3 t r h m).eh (Cw t r (CO h (dS r h m)) (cS r h m)).eh:=d9 _ _;have z:(O3 t r h m).eh.length=(Cw t r (CO h (dS r h m)) (cS r h m)).d3.ci.length:=by
  have:=congrArg B! w;rw[cL,cL]at this;rw[this,j.Ab3]
 refine ⟨Kx _ _,Kx _ _,λx o=>?_,λx o=>?_,⟨?_,?_,?_,λv hv=>?_⟩⟩
 .obtain⟨i,hi,rfl⟩:=w_.1 o;have:=Rx (dS r h m).ci i;have D:(S8 t r h m).f0.d3.ci.length=(Cw t r (CO h (dS r h m)) (cS r h m)).d3.ci.length:=rfl
  grind
 .obtain⟨i,hi,rfl⟩:=w_.1 o;have:=Rx (dS r h m).c9 i;have D:(S8 t r h m).f0.d3.c9.length=(Cw t r (CO h (dS r h m)) (cS r h m)).d3.c9.length:=rfl
  grind
 .have:=s.few.1;show(Cw t r (CO h (dS r h m)) (cS r h m)).d3.ci.length<=1000;omega
 .have:=s.few.2;show(Cw t r (CO h (dS r h m)) (cS r h m)).d3.c9.length<=1000;omega
 .have:=s.few.1;show(O3 t r h m).eh.length<=1000;omega
 .have y:v.length∈(O3 t r h m).eh.map B!:=w_.2 ⟨v,hv,rfl⟩;rw[w,s.f.rows]at y;obtain⟨n,u,e⟩:=w_.1 y;have:=H9 j.hf (F_ _) (Cq j.hv).par (j.kind n u).2;omega
end Go.Sf.Sc
namespace Go.Sf.Sc
open Go Go.Sf
def EF(l by':Fp):Fp:=l.map λx=>if x<0 then -1 else AA by' x
def KL(m tr:d4):d4:=⟨EF m.ci tr.ci,EF m.c9 tr.c9⟩
def RB(m:d4)(l:List AU):d4:=l.foldl (λm s=>KL m s.po) m
def Ns(g:d3):d4:=⟨Ay g.ci.length,Ay g.c9.length⟩
variable{i:Int}
theorem Fc(n:Nat)(e:0<=i)(i1:i<n):AA (Ay n) i=i:=by
 have:=JI (n:=n) (λx=>x) e i1
 rwa [List.map_id']at this
variable{n:Nat}
theorem fX(h:n<=1000):Ka n=Y (Ay n):=by
 unfold Ka;rw[Oi (λ_=>X) id]
 .rw[bs,y_,List.filter_eq_self.2 λ_ _=>rfl]
 .intro i s e i1 j;rw[AS a_,bs,ac rfl];rfl
variable{g:d3}
theorem xu(h:CE g=0):QI g=Y (Ns g):=by
 have e:=Di h;have:=e.ea;have:=e.eb;unfold QI;rw[fX U,bs,fX U,bs];rfl
structure Ko(m:d4)(g:d3):Prop where
 Aal:m.ci.length<=1000
 Aao:m.c9.length<=1000
 node:∀x∈m.ci,-1<=x/\x<g.ci.length
 edge:∀x∈m.c9,-1<=x/\x<g.c9.length
theorem AAg(h:CE g=0):Ko (Ns g) g:=by
 have j:=Di h;have:=j.ea;have:=j.eb;refine⟨by show(Ay _).length<=1000;rw[A2];omega,by show(Ay _).length<=1000;rw[A2];omega,λx e=>?_,λx e=>?_⟩
 .have:=C5.1 e;omega
 .have:=C5.1 e;omega
theorem P2{l e:Fp}(o:∀x∈l,-1<=x/\x<e.length)(hb:∀x∈e,-1<=x/\x<n):∀x∈EF l e,-1<=x/\x<n:=by
 intro x j;obtain⟨y,s,rfl⟩:=w_.1 j
 grind [AF]
variable{h:AG}
theorem vX{m:d4}{s:AU}(e:Ko m h.d3)(j:L9 h s):Ko (KL m s.po) s.f0.d3:=by
 refine ⟨by show(B' _ _).length<=1000;rw[cL];exact e.Aal,by show(B' _ _).length<=1000;rw[cL];exact e.Aao,?_,?_⟩
 .exact P2 (λx o=>by have:=e.node x o;rw[j.Aal];exact this) j.node
 .exact P2 (λx o=>by have:=e.edge x o;rw[j.Aao];exact this) j.edge
variable{t:AC}{rules:List fd}
theorem WM(hf:A3 t)(hr:Gc rules){m:F8}(e:(GI t rules h m).2=0):
  (0<=m.fd/\m.fd<rules.length)/\Qw t (AA rules m.fd) h m.l4/\GI t rules h m=(S8 t (AA rules m.fd) h m.l4,0):=by
 unfold GI at e|-;split at e
 .cases e
 rename_i o;rw[ae o];have j:=hr.each _ (AF (l:=rules) (i:=m.fd) U U);exact⟨U,Tw hf j.1 j.2 e⟩
theorem WH(hf:A3 t)(e:GH t rules h=0):Ec t rules=0/\(Dd t h).2=0/\(BD t).2=0/\If t h:=by grind[GH,QB]
variable{d:Ch}
theorem bG(hf:A3 t)(hr:Gc rules)(h:Sa t rules d):∀n:Nat,n<=d.ln.length ->
  ET (Jo t rules d.ng (d.ln.take n)).2/\Ko (RB (Ns d.ng.d3) (Jo t rules d.ng (d.ln.take n)).1) (Jo t rules d.ng (d.ln.take n)).2.d3
 |0,_=>by
  obtain ⟨_,u,j,o⟩:=WH hf h.given;exact⟨Rb hf j o,AAg o.ge⟩
 |n+1,y=>by
  obtain ⟨u,j⟩:=bG hf hr h n U;have he:=h.moves n U U;have e:=CH (l:=d.ln) (i:=(n:Int)) U U;rw[show((n:Int)+1).toNat=n+1 by omega,E']at e;unfold SD at he;rw[E']at he;obtain⟨_,s,w⟩:=WM hf hr he;rw[e,SV,w];refine⟨s.trk.sm,?_⟩;unfold RB at j|-;rw[w?];exact vX j s.trk
structure mG(m:AQ):Prop where
 ea:m.d4.ci.length<=1000
 eb:m.d4.c9.length<=1000
 vars:m.em.length<=1000
structure vn(d:Ch):Prop where
 start:ET d.ng
 len:d.ln.length<=1000
 moves:∀m∈d.ln,mG m.l4
variable{r:fd}{m:AQ}
theorem Qw.small(s:Qw t r h m):mG m:=by
 have j:=s.f.left;have e:=s.f.ro.left;have o:=s.f.at_.len;have u:=s.f.at_.q.vars;have:=e.ea;have:=e.eb;exact⟨U,U,U⟩
theorem Sa.small(hf:A3 t)(hr:Gc rules)(h:Sa t rules d):vn d:=by
 obtain ⟨_,_,j,o⟩:=WH hf h.given;refine⟨Rb hf j o,by have:=h.few;omega,λm e=>?_⟩;obtain⟨i,s,i1,rfl⟩:=BT e;have he:=h.moves i s i1;unfold SD at he;exact(WM hf hr he).2.1.small
theorem tX{m:F8}(h:Sa t rules d)(o:d.ln.length<30)(e:(GI t rules (Jo t rules d.ng d.ln).2 m).2=0):Sa t rules ⟨d.ng,d.ln++[m]⟩:=by
 refine ⟨h.given,an,λi j i1=>?_⟩;simp at i1;show SD t rules d.ng (d.ln++[m]) i=0;by_cases hi:i<d.ln.length
 .rw[px j hi];exact h.moves i j hi
 grind [SD,wW,E',List.take_left']
variable{α:Type}
theorem P4[Inhabited α]{l:List α}(v:α)(e:0<=i)(j:i<l.length):AA (BF l i v) i=v:=by grind[AA,BF]
theorem TS[Inhabited α]{l:List α}{i j:Int}(v:α)(e:0<=i)(o:0<=j)(h:j≠i):AA (BF l i v) j=AA l j:=by grind[AA,BF]
end Go.Sf.Sc
namespace Go.Sf.Sc
open Go Go.Sf
end Go.Sf.Sc
namespace Go.Sf.Sc
open Go Go.Sf
end Go.Sf.Sc
namespace Go.Sf.Sc
open Go Go.Sf
variable{ρ:Type}
theorem yo{f:Int×Int->Option (Bz (Int×Int) ρ)}(I:Int->Int->Prop)(b:Int){s a:Int}(w:I a s)
  (step:∀i s,a<=i->I i s->(i<b/\∃s',f (s,i)=Y (.next (s',i+1))/\I (i+1) s')\/f (s,i)=Y (.brk (s,i))):∃i s',a<=i/\I i s'/\C7 f (s,a)=Y (.inl (s',i)):=by
 have key:∀(n:Nat)(i s:Int),a<=i->I i s->b-i<=n->∃j s',i<=j/\I j s'/\MP f (s,i) (.inl (s',j)):=by
  intro n
  induction n with
  |zero=>
   intro i s hi e hb;rcases step i s hi e with⟨h,_⟩|h
   .omega
   .exact⟨i,s,F_ _,e,.brk h⟩
  |succ n E=>
   intro i s hi e hb;rcases step i s hi e with⟨_,s',o,u⟩|h
   .obtain⟨j,s2,F,y,z⟩:=E (i+1) s' U u U;exact⟨j,s2,U,y,.next o z⟩
   .exact⟨i,s,F_ _,e,.brk h⟩
 obtain ⟨j,s',o,u,D⟩:=key (b-a).toNat a s (F_ _) w U;exact⟨j,s',o,u,D.eq⟩
theorem bW{q w k:Int}(c:Int)(H:q<=1000)(y:0<=k)(o:k<=1000)(u:1<=c/\c<=80)(z:1<=w/\w<=400000):∃w' D,(1<=w'/\w'<=400000)/\C7 (ρ:=ρ) (λ(j:Int×Int)=>
  if ((decide (j.2<q))&&(decide (j.1<=5000)))=X then
  Y (.next (AJ (j.1*c),AJ (j.2+1)))
  else
  Y (.brk (j.1,j.2))) (w,k)=Y (.inl (w',D)):=by
 obtain ⟨i,s',K,F,G⟩:=yo (ρ:=ρ) (f:=λ(j:Int×Int)=>
  if ((decide (j.2<q))&&(decide (j.1<=5000)))=X then
  Y (.next (AJ (j.1*c),AJ (j.2+1)))
  else
  Y (.brk (j.1,j.2))) (λi s=>(1<=s/\s<=400000)/\0<=i/\i<=1000) q (s:=w) (a:=k) ⟨z,y,o⟩ (λi s hi E=>by
   by_cases e:i<q/\s<=5000
   .left;have I:1*1<=s*c:=F? E.1.1 u.1 U U;have J:s*c<=5000*80:=F? e.2 u.2 U U
    grind [AT]
   grind)
 exact ⟨s',i,F.1,G⟩
theorem jg:∀(N:Nat)(c:d5)(p:d6)(w:Int),SizeOf.sizeOf c<=N->EK c->Pz p->Dv c<=1000->1<=w->w<=5000->∃b,∀n,N<=n->Dl n p c w=Y b
 |0,c,_,_,h,_,_,_,_,_=>by have:=Dx c;omega|N+1,c,p,w,h,S,O,hk,w0,w1=>by
  have key:∀q:d6,Pz q->∃b,∀n,N<=n->ej (C7 (ρ:=Bool) (λ(j:Int×Int)=>
    if ((decide (j.2<(q.d3.ci.length:Int)))&&(decide (j.1<=5000)))=X then
    Y (.next (AJ (j.1*40),AJ (j.2+1)))
    else
    Y (.brk (j.1,j.2))) (w,(p.d3.ci.length:Int))) (λj=>
    ej (C7 (ρ:=Bool) (λ(s2:Int×Int)=>
    if ((decide (s2.2<(q.d3.c9.length:Int)))&&(decide (s2.1<=5000)))=X then
    Y (.next (AJ (s2.1*80),AJ (s2.2+1)))
    else
    Y (.brk (s2.1,s2.2))) (j.1,(p.d3.c9.length:Int))) (λs2=>
    ej (C7 (ρ:=Bool) (λ(s:Int)=>
    if ((decide (s<(c.fl.length:Int)))&&(decide (s2.1<=5000)))=X then
    (idx c.fl s).bind λz=>
    (Dl n q z s2.1).bind λD=>
    if (!D)=X then
    Y (.ret T)
    else
    Y (.next (AJ (s+1)))
    else
    Y (.brk s)) 0) (λs=>
    Y (decide (s2.1<=5000))) (λε=>Y ε)) (λη=>Y η)) (λζ=>Y ζ)=Y b:=by
   intro q u;have q1:=u.ea;have q2:=u.eb;have p1:=O.ea;have p2:=O.eb;obtain⟨a,k,ha,Q⟩:=bW (ρ:=Bool) (q:=q.d3.ci.length) (w:=w) (k:=p.d3.ci.length) 40 U U U U U;obtain⟨a',k',J,y⟩:=bW (ρ:=Bool) (q:=q.d3.c9.length) (w:=a) (k:=p.d3.c9.length) 80 U U U U ha;have δ:c.fl.length<=1000:=by have:=VD c.fl;have:=VE c;omega
   by_cases I:a'<=5000
   .have kids:∀x∈c.fl,∃b,∀n,N<=n->Dl n q x a'=Y b:=λx E=>by
     have F:=Ed E;have G:=XD E;have h3:=VE c;exact jg N x q a' U (S.k x E) u U J.1 I
    have o:∀i:Int,∃b:Bool,0<=i->i<c.fl.length->∀n,N<=n->Dl n q (AA c.fl i) a'=Y b:=λi=>by
     by_cases e:0<=i/\i<c.fl.length
     .obtain⟨b,hb⟩:=kids _ (AF e.1 e.2);exact⟨b,λ_ _=>hb⟩
     .exact⟨X,λF G=>absurd ⟨F,G⟩ e⟩
    obtain ⟨g,Z⟩:=Classical.axiomOfChoice o;refine⟨(fst (λi=>if g i=X then W else Y (Sum.inr T:Int ⊕ Bool)) 0 c.fl.length).isNone,λn H=>?_⟩;rw[Q,B3];simp only[];rw[y,B3];simp only[];rw[QN (λi=>if g i=X then W else Y (.inr T)) (b:=c.fl.length) U]
    .cases e:fst (λi=>if g i=X then W else Y (Sum.inr T:Int ⊕ Bool)) 0 (c.fl.length:Int)with
     |none=>
      show Y (decide (a'<=5000))=Y X;rw[decide_eq_true I]
     |some r=>
      obtain ⟨i,_,_,K,_⟩:=Cl e;split at K
      .cases K
      .cases K;rfl
    .intro i P i1 _;rw[ac an,AD P i1,bs,Z i P i1 n H,bs,AT U U];cases g i<;>rfl
    .rw[ae V]
   .refine⟨T,λn H=>?_⟩;rw[Q,B3];simp only[];rw[y,B3];simp only[];rw[QN (λ_=>W) (b:=0) U (λi F G _=>U) (by rw[ae an])];rw[mz U];show Y _=Y _;rw[decide_eq_false I]
  have u:Pz (if c.kl=5 then c.d6 else p):=by split;exact S.q;exact O
  obtain ⟨b,hb⟩:=key _ u;refine⟨b,λn H=>?_⟩;obtain⟨n,rfl⟩:∃k,n=k+1:=⟨n-1,U⟩;rw[Dl,show(if decide (c.kl=5)=X then Y c.d6 else Y p)=Y (if c.kl=5 then c.d6 else p)by by_cases e:c.kl=5<;>simp[e],bs];exact hb n U
end Go.Sf.Sc
namespace Go.Sf.Sc
open Go Go.Sf
variable{r:fd}
theorem gD(e:(CB r).Sm):(AI r.d5).Sm:=by
 have j:TV.Sms [_,_,_,_,_,_,_,_,_,_,_,_,_,_,_,_,_,_,_,_,_,_,_,_,_]:=e;obtain⟨_,_,_,_,_,_,_,_,_,_,_,E,F,i1,i2,_,o,s,u,w,c5,y,z,c8,D,_⟩:=j;exact⟨o,s,u,w,c5,y,z,c8,D,trivial⟩
variable{t:AC}
theorem jB(hf:A3 t)(st:(AL t).Sm)(e:(CB r).Sm)(h:AG):∃b,HH t r h=Y b/\(b=X->Ie r/\Dv r.d5<=40):=by
 obtain ⟨j,o,_⟩:=Sn st;obtain⟨s,u,w⟩:=p6 e;obtain⟨y,z,D⟩:=oI hf st r.gl (gD e) h;unfold HH
 grind
variable{rules:List fd}
theorem uO(st:(AL t).Sm)(ε:∀r∈rules,(CB r).Sm)(h:AG):∃b,IW t rules h=Y b/\(b=X->A3 t/\Gc rules):=by
 obtain ⟨b1,e1,f1⟩:=Sn st;obtain⟨b2,e2⟩:=dk h;unfold IW;by_cases P:(((decide (4<(rules.length:Int)))&&(decide ((rules.length:Int)<=10)))||(decide (12<(rules.length:Int))))=X
 .rw[ac P,bs,ac rfl,bs,ac rfl];exact⟨T,rfl,λh=>d_⟩
 rw [ae P,e1,bs,bs];cases b1 with
 |false=>exact⟨T,rfl,λh=>d_⟩
 |true=>
 rw [ae a!,e2,bs,bs];cases b2 with
 |false=>exact⟨T,rfl,λh=>d_⟩
 |true=>
 rw [ae a!];have hf:=f1 rfl;have δ:rules.length<=12:=by
  simp only[D_,pc,sx,not_or]at P;omega
 rcases XN (f:=λ(o:Int)(η:Bool)=>
  (idx rules o).bind λw=>
  (HH t w h).bind λy=>
  if (!y)=X then
  Y (.ret T)
  else
  (if η=X then((idx rules o).bind λz=>
  Y (decide ((z.gl.d3.ci.length:Int)<=3)))else Y T).bind λD=>
  (if D=X then((idx rules o).bind λE=>
  Y (decide ((E.gl.d3.c9.length:Int)<=2)))else Y T).bind λF=>
  (if F=X then((idx rules o).bind λG=>
  Y (decide ((G.ec.d3.ci.length:Int)<=5)))else Y T).bind λH=>
  (if H=X then((idx rules o).bind λI=>
  (idx rules o).bind λJ=>
  (OO I.gl J.d5 1).bind λK=>
  Y (K))else Y T).bind λN=>
  Y (.next N)) (λi _=>∀j:Int,0<=j->j<i->Ie (AA rules j)/\Dv (AA rules j).d5<=40) (λ_=>False) (λr=>r=T) (a:=0) (b:=rules.length) (s:=X) U (λj h1 h2=>U) (λi s o i1 O=>by
   have Z:=AF o i1;obtain⟨b3,u,f3⟩:=jB hf st (ε _ Z) h;simp only[AD o i1,bs];rw[u,bs];cases b3 with
   |false=>exact .inr (.inr ⟨T,rfl,rfl⟩)|true=>
    obtain ⟨Q,k2⟩:=f3 rfl;obtain⟨S,e4⟩:=jg _ (AA rules i).d5 (AA rules i).gl 1 (az _) Q.cond Q.left U a! a!;have e5:OO (AA rules i).gl (AA rules i).d5 1=Y S:=D0 _ e4;left;refine⟨(((s&&decide (((AA rules i).gl.d3.ci.length:Int)<=3))&&decide (((AA rules i).gl.d3.c9.length:Int)<=2))&&decide (((AA rules i).ec.d3.ci.length:Int)<=5))&&S,?_,λj ζ j1=>?_⟩
    .rw[ae a!,e5];cases s<;>cases decide (((AA rules i).gl.d3.ci.length:Int)<=3)<;>cases decide (((AA rules i).gl.d3.c9.length:Int)<=2)<;>cases decide (((AA rules i).ec.d3.ci.length:Int)<=5)<;>rfl
    .by_cases e:j=i
     .rw[e];exact⟨Q,k2⟩
     .exact O j ζ U)with⟨s',u,h3⟩|⟨r,u,h3⟩
 .rw[u,B3];have O:=h3.resolve_right id;have hr:Gc rules:=⟨δ,λr hr=>by
   obtain ⟨i,o,i1,rfl⟩:=BT hr;exact O i o i1⟩
  rw [q9 hf hr,bs];exact⟨_,rfl,λ_=>⟨hf,hr⟩⟩
 .rw[u,V0,h3];exact⟨T,rfl,λh=>d_⟩
variable{h:AG}
theorem mg:∃b,IQ h=Y b/\(b=X->ET h):=by
 unfold IQ Jf;rw[bs];by_cases j:((!((decide ((h.d3.ci.length:Int)<=45))&&(decide ((h.d3.c9.length:Int)<=90))))||(decide (45<(h.eh.length:Int))))=X
 .rw[ac j];exact⟨T,rfl,λh=>d_⟩
 rw [ae j,Bo (λi=>decide (12<((AA h.eh i).length:Int))) T]
 .cases e:kq (λi=>decide (12<((AA h.eh i).length:Int))) 0 h.eh.length with
  |true=>exact⟨T,rfl,λh=>d_⟩
  |false=>
   refine ⟨X,rfl,λ_=>?_⟩;rw[B0]at e;simp only[D_,Bool.not_eq_true',Bool.and_eq_false_iff,decide_eq_false_iff_not,sx,not_or]at j;refine⟨U,U,U,λv hv=>?_⟩
   grind [BT]
 .intro i o i1 _;rw[AD o i1,bs,I7]
end Go.Sf.Sc
namespace Go.Sf.Sc
open Go Go.Sf
end Go.Sf.Sc
namespace Go.Sf.Sc
open Go Go.Sf
def Zq(x:Int):Prop:=-9223372036854775808<=x/\x<=9223372036854775807
structure WA(h:AG):Prop where
 s:ET h
 w:∀v∈h.eh,∀x∈v,Zq x
theorem qY(l m:List Fp):DL l m slices_Equal_int=Y (decide (l=m)):=by
 unfold DL;simp only[PX,bs];exact Rw l m
theorem Ze(a b:AG):GV a b=Y (decide (a=b)):=by
 unfold GV;rw[PX,bs,fS,bs,qY,bs];obtain⟨⟨n,e⟩,v⟩:=a;obtain⟨⟨u,w⟩,y⟩:=b;by_cases j:n=u<;>by_cases o:e=w<;>by_cases s:v=y<;>simp[j,o,s]
theorem nt(a b:d6):G2 a b=Y (decide (a=b)):=by
 unfold G2 Ra;simp only[PX,fS,ny,n7,bs];obtain⟨⟨n,e⟩,s,v,t⟩:=a;obtain⟨⟨z,D⟩,s',E,F⟩:=b;by_cases j:n=z<;>by_cases o:e=D<;>by_cases u:s=s'<;>by_cases w:v=E<;>by_cases y:t=F<;>simp[j,o,u,w,y]
noncomputable def il(a b:fd):Bool:=@decide (a=b) (E_ _)
noncomputable def ii(a b:AU):Bool:=@decide (a=b) (E_ _)
theorem im{a b:fd}:il a b=X↔a=b:=by unfold il;exact@decide_eq_true_iff _ (E_ _)
theorem WD{a b:AU}:ii a b=X↔a=b:=by unfold ii;exact@decide_eq_true_iff _ (E_ _)
theorem vI(a b:fd):il a b=(decide (a.kp=b.kp)&&decide (a.ke=b.ke)&&decide (a.gl=b.gl)&&decide (a.ec=b.ec)&&decide (a.pf=b.pf)&&decide (a.o3=b.o3)&&Wm a.d5 b.d5):=by
 rw [C?,im];simp only[pc,sx,ZK];obtain⟨n,l,r,k,i,j,c⟩:=a;obtain⟨e,o,s,u,w,y,c'⟩:=b;simp only[fd.mk.injEq]
 grind
theorem vT(a b:AU):ii a b=(il a.fd b.fd&&decide (a.l4=b.l4)&&decide (a.hV=b.hV)&&decide (a.f0=b.f0)&&decide (a.po=b.po)&&decide (a.t5=b.t5)):=by
 rw [C?,WD];simp only[pc,sx,im];obtain⟨r,m,o,s,t,c⟩:=a;obtain⟨u,m',e,j,w,c'⟩:=b;simp only[AU.mk.injEq]
 grind
theorem dP{b c:Bool}{o:K1}(h:o=Y c):(if b=X then o else Y T)=Y (b&&c):=by
 subst h;cases b<;>rfl
theorem uk(a b:fd):Mt a b=Y (il a b):=by
 unfold Mt;simp only[nt,PX,WW,uj,bs];rw[vI];obtain⟨n,l,r,⟨F,G⟩,i,j,c⟩:=a;obtain⟨H,I,J,⟨e,o⟩,K,N,c'⟩:=b;simp only[];by_cases s:n=H<;>by_cases u:j=N<;>by_cases w:l=I<;>by_cases y:r=J<;>simp[s,u,w,y];by_cases z:F=e<;>by_cases D:G=o<;>by_cases E:i=K<;>simp[z,D,E]
theorem qj(a b:AQ):Kj a b=Y (decide (a=b)):=by
 unfold Kj;simp only[WW,PX,bs];obtain⟨m,v⟩:=a;obtain⟨m',o⟩:=b;by_cases e:m=m'<;>by_cases j:v=o<;>simp[e,j]
theorem ul(a b:AU):Mz a b=Y (ii a b):=by
 unfold Mz;simp only[uk,qj,Ze,WW,bs,vT];cases il a.fd b.fd<;>by_cases e:a.l4=b.l4<;>by_cases j:a.hV=b.hV<;>by_cases o:a.f0=b.f0<;>by_cases s:a.po=b.po<;>simp[e,j,o,s]
structure yw(s:AU):Prop where
 b:WA s.hV
 a:WA s.f0
variable{κ:List Fp}
theorem aD(h:∀v∈κ,∀x∈v,Zq x):∀{L:Bi},(∀p∈L,Zq p.2)->∀{κ:List Fp},(∀v∈κ,∀x∈v,Zq x)->∀v∈L.foldl Cc κ,∀x∈v,Zq x
 |[],_,_,k=>k|p::L,j,κ,k=>by
  rw [List.foldl_cons];refine aD h (L:=L) (λq o=>j q (w! _ o)) ?_;unfold Cc;split
  .intro v hv x e;obtain⟨n,s,rfl⟩:=List.mem_iff_getElem.1 hv;rw[List.getElem_modify]at e;split at e
   .rcases List.mem_or_eq_of_mem_set e with e|rfl
    .exact k _ (C_ _) _ e
    .exact j p (A? ..)
   .exact k _ (C_ _) _ e
  .exact k
variable{t:AC}{h:AG}
theorem pK(hf:A3 t)(e:(Dd t h).2=0):WA h:=by
 obtain ⟨hv,hh⟩:=QB hf e;refine⟨Rb hf hv hh,λv j x o=>?_⟩;obtain⟨i,s,i1,rfl⟩:=BT j;have:=hh.low i s (by have:=hh.len;omega) x o;unfold Zq;omega
variable{r:fd}{m:AQ}
theorem pL(s:Qw t r h m):yw (S8 t r h m):=by
 have hh:=s.f.hh;have y:=pK s.f.hf s.f.he;have z:=s.f.put;have hT:=Cq s.f.hv;refine⟨y,s.trk.sm,?_⟩;have hb:=(fR s.put).2;refine aD (κ:=[]) V (λp e=>?_) ?_
 .obtain⟨sl,E,rfl⟩:=w_.1 e;have k:=z.slot sl E;rw[List.any_eq_false]at hb;have j:=hb _ e;unfold Nj at j;have D:=z.kind _ (AF k.2.2.1.1 k.2.2.1.2);have F:=RT s.f.hf hT D.1 D.2 _ (AF k.2.2.2.1 k.2.2.2.2);simp only[D_,sx,not_or]at j;unfold Zq;unfold Rp at j|-;dsimp only at j|-;omega
 .intro v hv x u;unfold Cw Oc at hv;rcases B?.1 hv with hv|hv
  .unfold CO at hv;obtain⟨i,hi,rfl⟩:=w_.1 hv;have:=s.f.rem.ea.1 i hi;exact y.w _ (AF this.1 (by have:=hh.len;omega)) x u
  .obtain⟨i,hi,rfl⟩:=w_.1 hv;unfold VX at u;obtain⟨a,ha,rfl⟩:=w_.1 u;have o:=Ft hi;have k:=s.f.grow.kind _ (AF (l:=r.ec.d3.ci) o.1 o.2);have G:=RT s.f.hf hT k.1 k.2 a ha;have j:=U7 s.f.hf hT k.1 k.2 a ha;unfold Zq;omega
end Go.Sf.Sc
namespace Go.Sf.Sc
open Go Go.Sf
variable{q:P0}
theorem dI:∀(n:Nat)(f:AM),f.eb.length+n=f.p.c9.length->(∀i:Int,0<=i->i<f.p.c9.length->PL.at_ f.fu.c9 i=PL.at_ q.c9 i)->EL n f=EL n {f with fu:=q}
 |0,_,_,_=>rfl|n+1,f,j,h=>by
  rw [EL,EL];refine congrArg (λF=>(Ay f.g.c9.length).flatMap F) (funext λk=>?_);have e:SM f k=SM {f with fu:=q} k:=by
   grind [SM,LU]
  rw [e,dI n {f with eb:=f.eb++[k]} an h]
theorem dM:∀(n:Nat)(f:AM),f.ea.length+n=f.p.ci.length->f.eb=[]->(∀i:Int,0<=i->i<f.p.ci.length->PL.at_ f.fu.ci i=PL.at_ q.ci i)->(∀i:Int,0<=i->i<f.p.c9.length->PL.at_ f.fu.c9 i=PL.at_ q.c9 i)->FR n f=FR n {f with fu:=q}
 |0,f,_,he,_,h=>dI f.p.c9.length f (by rw[he];simp) h|n+1,f,o,he,j,h=>by
  rw [FR,FR];refine congrArg (λF=>(Ay f.g.ci.length).flatMap F) (funext λk=>?_);have e:SN f k=SN {f with fu:=q} k:=by
   grind [SN]
  rw [e,dM n {f with ea:=f.ea++[k]} an he j h]
variable{n:Nat}{i v:Int}
theorem mP(e:0<=i)(j:i<n):AA (List.replicate n v) i=v:=by
 unfold AA
 grind
def F0(t:AC)(p g:d3)(inj:Bool):AM:=⟨p,g,KA t,P0.mk W W,inj,5001,[],[],[]⟩
variable{t:AC}{p g:d3}
theorem pV{inj:Bool}:FR p.ci.length (F0 t p g inj)=FR p.ci.length (FF t p g (NM p) inj):=
 dM (q:=P0.of (NM p)) p.ci.length (F0 t p g inj) p! rfl (λi e i1=>(mP e i1).symm) (λi e i1=>(mP e i1).symm)
theorem qa{inj:Bool}(s:A3 t)(hv:(BD t).2=0)(o:Ng (FF t p g (NM p) inj)):GN t p g ⟨W,W⟩ inj 5001=Y (JY t p g (NM p) inj):=by
 unfold GN;rw[lJ s (Cq hv) hv,bs];have j:Ng (F0 t p g inj):=⟨trivial,trivial,o.ends,o.kinds,o.small⟩;have h:=nf (f:=F0 t p g inj) j ⟨by show(0:Int)<=5001;omega,by show(5001:Int)<=10000;omega,by show((0:Nat):Int)<=5001;omega⟩ rfl rfl;rw[dJ _ _ j rfl,show(F0 t p g inj).p.ci.length=p.ci.length from rfl,pV]at h;have e:AM.mk p g (KA t) ⟨W,W⟩ inj 5001 [] [] []=F0 t p g inj:=rfl;rw[e,h];rfl
def L8(t:AC)(p g:d3)(inj:Bool):List d4×Int:=
 if Ep t p g≠0 then([],Ep t p g)else if 5000<(JY t p g (NM p) inj).length then([],3)else(JY t p g (NM p) inj,0)
theorem xJ(hf:A3 t)(p g:d3)(inj:Bool):LT t p g inj=Y (L8 t p g inj):=by
 unfold LT L8;rw[WX hf,bs];refine Dy λe=>?_
 grind [XH,NM,Jm,qa,bs,JY]
theorem xb(hf:A3 t)(p g:d3)(inj:Bool):Mm t p g inj=Y (L8 t p g inj):=by
 unfold Mm L8;rw[Ua hf,bs];refine Dy λe=>?_;obtain⟨hv,o⟩:=XH (inj:=inj) (pa:=NM p) e (by simp[NM]) (by simp[NM]);have j:=(Oa e).2.1;have:=j.ea;have:=j.eb
 grind [rD,bs,tG,JY,NM]
end Go.Sf.Sc
namespace Go.Sf.Sc
open Go Go.Sf
variable{α:Type}{f:Int->List α->Option (List α)}
theorem aX[Inhabited α]{x:List α}{p:α->Bool}(u:x.length<=5000)
  (hf:∀(i:Int)(s:List α),0<=i->i<x.length->s.length<=5000->f i s=Y (if p (AA x i)=X then s++[AA x i]else s)):
  l3 f 0 (x.length:Int) []=Y (x.filter p):=by
 rw [CC (a:=0) (b:=x.length) (s:=[]) (λi=>(x.take i.toNat).filter p) U rfl,E',y?];intro i e i1;have j:((x.take i.toNat).filter p).length<=5000:=m?
 rw [hf i _ e i1 j,CH e i1,List.filter_append];cases o:p (AA x i)<;>simp[o]
def Lk(t:AC)(p:d6)(h:AG)(inj:Bool):List AQ×Int:=
 if OL t p h≠0 then([],OL t p h)else if(L8 t p.d3 h.d3 inj).2≠0 then([],(L8 t p.d3 h.d3 inj).2)else
 (((L8 t p.d3 h.d3 inj).1.filter λy=>decide ((GP p h y).2=0)).map λy=>⟨y,(GP p h y).1⟩,0)
variable{t:AC}{p g:d3}
theorem dN{inj:Bool}(h:(L8 t p g inj).2=0):(L8 t p g inj).1.length<=5000/\∀m∈(L8 t p g inj).1,Gd t p g m inj=0:=by grind[L8,my]
theorem qf(hf:A3 t)(p:d6)(h:AG)(inj:Bool):Eu t p h inj=Y (Lk t p h inj):=by
 unfold Eu Lk;rw[ak hf,bs];refine Dy λw=>?_;rw[xJ hf,bs];refine Dy λz=>?_;obtain⟨E,G⟩:=dN z;rw[QX (F:=λy=>((GP p h y).1,decide ((GP p h y).2=0))) E,bs];intro i s D i1 j;have o:GD p h (AA (L8 t p.d3 h.d3 inj).1 i)=Y (GP p h (AA (L8 t p.d3 h.d3 inj).1 i)):=by
  obtain ⟨hv,u,hh,e⟩:=Qs hf w (G _ (AF D i1));exact jQ u (λs j=>Ox (Cq hv) u hh e j)
 grind [AD,bs,GP,AA,L8,AS,AX]
theorem rA(hf:A3 t)(p:d6)(h:AG)(inj:Bool):Hs t p h inj=Y (Lk t p h inj):=by
 unfold Hs Lk;rw[ay hf,bs];refine Dy λw=>?_;rw[xb hf,bs];refine Dy λz=>?_;obtain⟨E,G⟩:=dN z;rw[QX (F:=λy=>((GP p h y).1,decide ((GP p h y).2=0))) E,bs];intro i s D i1 j;have o:Iq p h (AA (L8 t p.d3 h.d3 inj).1 i)=Y (GP p h (AA (L8 t p.d3 h.d3 inj).1 i)):=by
  obtain ⟨hv,u,hh,e⟩:=Qs hf w (G _ (AF D i1));exact jZ u (λs j=>Ox (Cq hv) u hh e j)
 grind [AD,bs,GP,AA,L8,AS,AX]
variable{h:AG}
theorem VY{p:d6}{inj:Bool}:(Lk t p h inj).1.length<=5000:=by grind[Lk,dN,cL,Nat.le_trans,x?]
noncomputable def RZ(t:AC)(r:fd)(h:AG):Int:=if DT t r≠0 then DT t r else(Dd t h).2
variable{r:fd}
theorem jL(hf:A3 t)(fr:Ie r)(h:AG):IG t r h=Y (RZ t r h):=by
 unfold IG RZ;rw[Ot hf,bs];by_cases hv:¬(BD t).2=0
 .grind[DT,BD]
 have hv:=D?.1 hv;rw[ae k_,fO hf fr,bs,Vh hf];exact Dy λ_=>rfl
theorem uy(hf:A3 t)(fr:Ie r)(h:AG):HK t r h=Y (RZ t r h):=by
 unfold HK RZ;rw[fh hf fr,bs,Vo hf];exact Dy λ_=>rfl
theorem qW(hf:A3 t)(fr:Ie r)(j:Dv r.d5<=40)(e:RZ t r h=0)(m:AQ):IF t r h m=Y (EW t r h m):=by
 have:=Yn hf fr j h m;unfold FQ at this;rw[jL hf fr,bs,ae c_]at this;cases k:IF t r h m with
 |none=>rw[k]at this;cases this
 |some x=>rw[k]at this;exact this
noncomputable def Hm(t:AC)(r:fd)(h:AG):List AQ×Int:=
 if RZ t r h≠0 then([],RZ t r h)else if(Lk t r.gl h r.ke).2≠0 then([],(Lk t r.gl h r.ke).2)else
 ((Lk t r.gl h r.ke).1.filter λm=>decide ((EW t r h m).2=0),0)
theorem xL(hf:A3 t)(fr:Ie r)(e:Dv r.d5<=40)(h:AG):E8 t r h=Y (Hm t r h):=by
 unfold E8 Hm;rw[jL hf fr,bs];refine Dy λj=>?_;rw[qf hf,bs];refine Dy λo=>?_;rw[aX (p:=λm=>decide ((EW t r h m).2=0)) VY,bs]
 grind [AD,bs,qW,EW,AA,Lk,AS,AX]
theorem xc(hf:A3 t)(fr:Ie r)(e:Dv r.d5<=40)(h:AG):FZ t r h=Y (Hm t r h):=by
 unfold FZ Hm;rw[uy hf fr,bs];refine Dy λj=>?_;rw[rA hf,bs];refine Dy λo=>?_;rw[aX (p:=λm=>decide ((EW t r h m).2=0)) VY,bs]
 grind [AD,bs,oS,EW,AA,Lk,AS,AX]
theorem tf:(Hm t r h).1.length<=5000:=by grind[Hm,Nat.le_trans,x?,VY]
variable{m:AQ}
theorem mS(e:m∈(Hm t r h).1):(EW t r h m).2=0:=by
 unfold Hm at e
 grind
end Go.Sf.Sc
namespace Go.Sf
end Go.Sf
namespace Go.Sf.Sc
open Go Go.Sf
instance:Inhabited F8:=⟨⟨0,default⟩⟩
end Go.Sf.Sc
namespace Go.Sf.Sc
open Go Go.Sf
structure Xx(h:AG)(p:BR):Prop where
 Aal:p.ci.length<=1000
 Aao:p.c9.length<=1000
 node:∀x∈p.ci,0<=x/\x<h.d3.ci.length
 edge:∀x∈p.c9,0<=x/\x<h.d3.c9.length
end Go.Sf.Sc
