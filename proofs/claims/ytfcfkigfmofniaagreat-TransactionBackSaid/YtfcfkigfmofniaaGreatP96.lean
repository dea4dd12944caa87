/- Plain lemmas: what the functions of the program and of the reference compute. -/
import Derived.Test.YtfcfkigfmofniaaGreatP46
set_option linter.all false
set_option maxRecDepth 100000
open Option renaming some->Y,none->W
open Bool renaming true->X,false->T
open List renaming mem_filter->u!,mem_map->u?,mem_cons_of_mem->v1,foldl_append->v5,mem_append_left->v6,map_map->v9,length_filter_le->v_,map_id->v!,ext_getElem->v?,take_length->w_,length_replicate->w!,getElem_map->w?,getElem_replicate->x_,map_append->x!,map_congr_left->x?,map_singleton->y_,append_nil->y!,getElem?_eq_some_iff->y?,map->z9,length->z_,mem_append->z!,length_singleton->z?,take_left'->A_,map_id'->A'
open Bool renaming true_and->A!,or_eq_false_iff->A?,eq_iff_iff->B_,or_eq_true->B',false_and->B!,eq_false_iff->B?
open Classical renaming not_not->C_
open Int renaming toNat_natCast->C',add_zero->C!,add_assoc->C?,le_refl->D_,ofNat_le->D',mul_le_mul->D!
namespace Go.Sf.Sc
open Go Go.Sf
def Sa(p g:d3)(m:d4):d3:=⟨m.ca.map (AA g.ca),p.ci⟩
variable{l:Fp}
theorem QL{n x:Int}:x∈A2 l n↔(0<=x/\x<n)/\x∉l:=by
 unfold A2;rw[u!];constructor
 .grind[Int.natCast_nonneg,B3]
 .rintro⟨⟨j,o⟩,q⟩;refine⟨u?.2 ⟨x.toNat,List.mem_range.2 U,Int.toNat_of_nonneg j⟩,?_⟩
  grind [hasB,B3]
theorem NJ(l:Fp)(n:Int):(A2 l n).Pairwise (·<·):=by grind[A2,List.pairwise_lt_range.imp]
def EX(images fu:Fp):Fp:=(A2 fu images.length).map (AA images)
theorem UE{images fu:Fp}{x:Int}:x∈EX images fu↔∃i:Int,(0<=i/\i<images.length)/\i∉fu/\AA images i=x:=by grind[EX,QL]
def zh(images fu:Fp):Bool:=nd (λa=>nd (λb=>decide (AA images a=AA images b)&&(!hasB fu a||!hasB fu b)) (a+1) images.length) 0 images.length
variable{a b:Int}
theorem fE{images fu:Fp}(h:zh images fu=T)(a0:0<=a)(a1:a<images.length)(w:0<=b)(u:b<images.length)(y:a∈fu)(e:AA images a=AA images b):b∈fu:=by
 unfold zh at h;rw[Br]at h;by_cases o:a=b
 .exact o▸y
 by_cases z:a<b
 .have j:=h a a0 a1;rw[Br]at j;have q:=j b U u;rw[decide_eq_true e,A!,A?]at q
  grind [B3]
 .have j:=h b w u;rw[Br]at j;have q:=j a U a1;rw[decide_eq_true e.symm,A!,A?]at q
  grind [B3]
variable{i:Int}
theorem UF{images fu:Fp}(h:zh images fu=T)(j:0<=i)(o:i<images.length)(q:i∈fu):AA images i∉EX images fu:=by grind[UE,fE]
def NZ(g:d3)(fu:BN)(m:d4)(i:Int):Bool:=
 !hasB m.ci i&&(hasB (EX m.ca fu.ca) (AA g.ci i).kq||hasB (EX m.ca fu.ca) (AA g.ci i).To)
def Mk(g:d3)(fu:BN)(m:d4):BN:=⟨A2 (EX m.ca fu.ca) g.ca.length,A2 (EX m.ci fu.ci) g.ci.length⟩
def NX(l g:d3)(fu:BN)(m:d4):BN×Int:=
 if HM l g m≠0 then(⟨[],[]⟩,HM l g m)else if Dj l fu≠0 then(⟨[],[]⟩,Dj l fu)else
 if (zh m.ca fu.ca||zh m.ci fu.ci)=X then(⟨[],[]⟩,15)else
 if nd (NZ g fu m) 0 g.ci.length=X then(⟨[],[]⟩,14)else(Mk g fu m,0)
structure Ze(l g:d3)(fu:BN)(m:d4):Prop where
 mor:SH l g m
 part:PN l fu
 ea:zh m.ca fu.ca=T
 ec:zh m.ci fu.ci=T
 free:∀i:Int,0<=i->i<g.ci.length->NZ g fu m i=T
variable{g:d3}
theorem lY{p:BN}(h:Dj g p=0):Bn g=0/\Mg g p=0:=by grind[Dj]
theorem Xa{l g:d3}{fu:BN}{m:d4}(h:(NX l g fu m).2=0):Ze l g fu m/\NX l g fu m=(Mk g fu m,0):=by
 unfold NX at h|-;split at h
 .grind
 rename_i o;rw[az o];split at h
 .grind
 rename_i q;rw[az q];split at h
 .grind
 rename_i j;rw[az j];split at h
 .grind
 rename_i u;rw[az u];simp[not_or]at j;exact⟨⟨U0 (C_.1 o),W7 (lY (C_.1 q)).2,j.1,j.2,Br.1 g!⟩,rfl⟩
theorem ja{l g:d3}{fu:BN}{m:d4}(h:Ze l g fu m):Mg g (Mk g fu m)=0:=by
 have y:=h.mor;have I:=y.gb;have J:∀x∈(Mk g fu m).ca,0<=x/\x<g.ca.length:=λx q=>Gz q;have K:∀x∈(Mk g fu m).ci,0<=x/\x<g.ci.length:=λx q=>Gz q;have o:∀{l:Fp}{n:Int},(∀x∈l,0<=x/\x<n)->l.Pairwise (·<·)->OX l n=0:=by
  grind [OX,Az,AF,Gs]
 unfold Mg;rw[o J (NJ _ _),o K (NJ _ _)];simp;rw[Az.2 λi G H=>?_]
 .rfl
 have q:=AF G H;generalize AA (Mk g fu m).ci i=x at q;have j:(0<=x/\x<g.ci.length)/\x∉EX m.ci fu.ci:=QL.1 q;have hf:=I.fit _ (AF j.1.1 j.1.2);have z:(AA g.ci x).kq∉EX m.ca fu.ca/\(AA g.ci x).To∉EX m.ca fu.ca:=by
  by_cases hi:x∈m.ci
  .obtain⟨k,E,F,e⟩:=BR hi;have u:k∈fu.ci:=by
    by_cases u:k∈fu.ci
    .exact u
    .exact absurd (UE.2 ⟨k,⟨E,F⟩,u,e⟩) j.2
   have ends:=h.part.ends k u;have he:=y.edge k E F;rw[e]at he;have D:=h.part.ea.1;have N:=D _ ends.1;have O:=D _ ends.2;have Q:=y.zf;rw[<-he.2.2.1,<-he.2.2.2];exact⟨UF h.ea N.1 U ends.1,UF h.ea O.1 U ends.2⟩
  .have hd:=h.free x j.1.1 j.1.2;unfold NZ at hd;rw[show hasB m.ci x=T from by cases P:hasB m.ci x with|false=>rfl|true=>exact absurd (B3.1 P) hi,Bool.not_false,A!,A?]at hd;exact⟨λw=>by rw[B3.2 w]at hd;exact absurd hd.1 a?,λw=>by rw[B3.2 w]at hd;exact absurd hd.2 a?⟩
 grind [hasB,Mk,AA,B3,QL]
def He(n:Nat)(l:Fp):Fp:=(Ag n).map (C3 l)
variable{v:Int}
theorem Xj(h:v∉l):C3 l v=-1:=by grind[C3,Az,AF]
theorem QT(l:Fp)(v:Int):-1<=C3 l v/\C3 l v<l.length:=by
 by_cases h:v∈l
 .have:=G4 h;omega
 .rw[Xj h];omega
theorem Nh:0<=C3 l v↔v∈l:=by grind[Xj,G4]
theorem JZ(n:Nat)(l:Fp):(He n l).length=n:=by unfold He;rw[c8,Aq]
variable{n:Nat}
theorem V2(j:0<=i)(o:i<n):AA (He n l) i=C3 l i:=HC _ j o
theorem aP(h:l.Nodup)(j:0<=i)(o:i<l.length):C3 l (AA l i)=i:=by
 have q:=G4 (AF j o)
 grind [C3,AA,Gs]
def Qi(fu into at_:Fp)(n i:Int):Int:=if hasB into i=X then AA at_ (AA fu (C3 into i))else n+(A2 into i).length
def Tz(count:Nat)(fu into at_:Fp)(n:Int):Fp:=(Ag count).map (Qi fu into at_ n)
theorem XZ(count:Nat)(fu into at_:Fp)(n:Int):(Tz count fu into at_ n).length=count:=by unfold Tz;rw[c8,Aq]
variable{count:Nat}
theorem gx{fu into at_:Fp}{n i:Int}(j:0<=i)(o:i<count):AA (Tz count fu into at_ n) i=Qi fu into at_ n i:=HC _ j o
theorem KY(h:0<=i):((A2 l i).length:Int)<=i:=by grind[RP]
end Go.Sf.Sc
namespace Go.Sf.Sc
open Go Go.Sf
variable{α:Type}
theorem V0{P:List α->Prop}(j:P [])(o:∀l a,P l->P (l++[a]))(l:List α):P l:=by
 have:∀l:List α,P l.reverse:=by
  intro l
  induction l with
  |nil=>exact j|cons a l q=>rw[List.reverse_cons];exact o _ _ q
 rw [<-List.reverse_reverse l];exact this _
def Pz(L:BM):BM:=L.foldl (λm p=>m.set p.1 p.2) []
theorem aU(L:BM)(p:(Int×Int)×Int):Pz (L++[p])=(Pz L).set p.1 p.2:=by
 unfold Pz
 grind
def SF(L:BM):Prop:=∀p∈L,∀q∈L,p.1=q.1->p.2=q.2
variable{k:Int×Int}{v:Int}
theorem UG:∀{m:BM},m.look k=Y v->(k,v)∈m
 |[],h=>c?
 |p::r,h=>by
  unfold BM.look at h;split at h
  .grind
  .exact v1 _ (UG h)
theorem YZ:∀{m:BM},m.look k=W->∀p∈m,p.1≠k
 |[],_,p,j=>by cases j
 |q::r,h,p,j=>by
  unfold BM.look at h;split at h
  .cases h
  .rename_i e;rcases List.mem_cons.1 j with rfl|j
   .exact e
   .exact YZ h p j
theorem dk:∀{m:BM},m.look k=W->m.set k v=m++[(k,v)]
 |[],_=>rfl|p::r,h=>by
  unfold BM.look at h;unfold BM.set;split at h
  .cases h
  next e=>rw[az e,dk h];rfl
theorem bd:∀{m:BM},m.look k=Y v->m.set k v=m
 |[],h=>c?
 |p::r,h=>by
  unfold BM.look at h;unfold BM.set;split at h
  .grind
  next e=>rw[az e,bd h]
theorem eo(κ:List Fp)(p:(Int×Int)×Int):CZ (CZ κ p) p=CZ κ p:=by
 unfold CZ;split
 .apply List.ext_getElem?
  grind [Option.map_eq_map,Option.map_map,List.set_set]
 .rfl
theorem km{m:BM}(hd:m.Dis){p:(Int×Int)×Int}(j:p∈m)(κ:List Fp):CZ (m.foldl CZ κ) p=m.foldl CZ κ:=by
 have o:m.Perm (m.erase p++[p]):=(List.perm_cons_erase j).trans (List.perm_append_singleton p (m.erase p)).symm;rw[<-WU hd o κ,v5];exact eo _ _
theorem SF.sub{L M:BM}(h:SF L)(j:∀p∈M,p∈L):SF M:=λp o q u=>h p (j p o) q (j q u)
theorem dK(L:BM):SF L->(Pz L).Dis/\(∀p,p∈Pz L↔p∈L)/\∀κ,(Pz L).foldl CZ κ=L.foldl CZ κ:=by
 refine V0 (P:=λL=>SF L->(Pz L).Dis/\(∀p,p∈Pz L↔p∈L)/\∀κ,(Pz L).foldl CZ κ=L.foldl CZ κ) (λ_=>⟨List.Pairwise.nil,λp=>Iff.rfl,λκ=>rfl⟩) (λL p o j=>?_) L;obtain⟨D,z,E⟩:=o (j.sub λq u=>v6 _ u);rw[aU];cases w:(Pz L).look p.1 with
 |none=>
  grind [dk,BM.set_dis]
 |some v=>
  have y:=UG w;have hv:v=p.2:=j (p.1,v) (v6 _ ((z _).1 y)) p V rfl
  grind [bd,List.mem_singleton,km]
def QB(L:BM):Bool:=nd (λi=>nd (λk=>decide ((AA L k).1=(AA L i).1)&&!decide ((AA L k).2=(AA L i).2)) 0 i) 0 L.length
variable{L:BM}
theorem X9(h:QB L=T):SF L:=by
 intro p u q w e;obtain⟨a,a0,a1,rfl⟩:=BR u;obtain⟨b,y,z,rfl⟩:=BR w;unfold QB at h;rw[Br]at h;by_cases j:a=b
 .rw[j]
 by_cases D:a<b
 .have o:=h b y z;rw[Br]at o
  grind
 .have o:=h a a0 a1;rw[Br]at o
  grind
theorem aG(L:BM)(κ:List Fp):LV (L.foldl CZ κ) κ:=by
 induction L generalizing κ with
 |nil=>rfl|cons p r j=>exact(j (CZ κ p)).trans (YF κ p)
end Go.Sf.Sc
namespace Go.Sf.Sc
open Go Go.Sf
variable{t:eb}{p g:d3}
theorem Tw{m:d4}{inj:Bool}(h:Fa t p g m inj=0):El t p g=0/\Mn t p g m=0/\X2 t p g m:=by grind[Zx,Fa]
theorem gw{m:d4}{inj:Bool}(h:Fa t p g m inj=0):Fa t p g m T=0:=by grind[Tw,Fa]
variable{α:Type}
theorem RT[Inhabited α](l:List α):(Ag l.length).map (AA l)=l:=by grind[gm,c8,Aq,HC]
variable{β:Type}
theorem iP[Inhabited α](l:List α)(f:α->β):l.map f=(Ag l.length).map λj=>f (AA l j):=by
 rw [show(λj=>f (AA l j))=f∘AA l from rfl,<-v9,RT]
theorem sB(hf:Ai t){m:d4}{inj:Bool}(h:Fa t p g m inj=0):FH t p g m=Y (Sa p g m,0):=by
 obtain ⟨j,w,o⟩:=Tw h;obtain⟨_,q,D,_⟩:=Mx j;unfold FH;rw[Xr hf,bs,az h?,Yj hf j,bs,az q?];unfold Cd;have:=q.ea;have:=q.ec;have:=o.zf;rw[Ap a_,bs];rw[SV U (λx u=>?_) p.ci]
 .rfl
 .obtain⟨i,y,z,rfl⟩:=BR u;exact(o.node i y z).1
theorem sZ(hf:Ai t){m:d4}{inj:Bool}(h:Fa t p g m inj=0):JK t p g m=Y (Sa p g m,0):=by
 obtain ⟨z,E,w⟩:=Tw h;obtain⟨_,y,F,_⟩:=Mx z;have:=y.ea;have:=y.ec;have D:=w.zf;unfold JK C4;rw[Xu hf,bs,az (by simp[gw h]),Ap a_,bs,Ap a_,bs,bs];rw[OO (λi=>d3.mk ((Ag p.ca.length).map λj=>if j<i then AA g.ca (AA m.ca j)else AA p.ca j) p.ci) (a:=0) (b:=p.ca.length) U]
 .have e:((Ag p.ca.length).map λj=>if j<(p.ca.length:Int)then AA g.ca (AA m.ca j)else AA p.ca j)=m.ca.map (AA g.ca):=by
   grind [iP,CH]
  rw [e];rfl
 .congr 1;rw[<-RT p.ca,c8,Aq]
  grind [CH,RT]
 .intro i o q;have u:=w.node i o U;simp[Aq];rw[ae j_,AC o U,bs,AC u.1.1 u.1.2,bs,AC o (by rw[c8,Aq];exact q),bs,G2 _ o,AV U U]
  grind
 grind [c8,Aq]
variable{n:Nat}{f:Int->List α->Option (List α)}
theorem M7(q:Int->Bool)(F:Int->α)(h:∀i s,0<=i->i<(n:Int)->s.length<=i.toNat->f i s=Y (if q i=X then s++[F i]else s)):ns f 0 n []=Y (((Ag n).filter q).map F):=by
 have j:∀k:Nat,(((Ag k).filter q).map F).length<=k:=λk=>by
  rw [c8];exact Nat.le_trans (v_ _ _) (by rw[Aq];exact b6 _)
 have:=BY (f:=f) (s:=[]) (λi=>((Ag i.toNat).filter q).map F) (a:=0) (b:=n) U rfl (λi o u=>by
  grind [D2])
 grind
theorem aB{q:Int->Bool}{F:Int->α}:decide (0<((((Ag n).filter q).map F).length:Int))=nd q 0 n:=by
 rw [B_,yk,CN,c8];constructor
 .intro h;have j:(Ag n).filter q≠[]:=λe=>by rw[e]at h;simp at h
  obtain ⟨x,y⟩:=List.exists_mem_of_ne_nil _ j
  grind [DW]
 .rintro⟨i,o,u,w⟩;have:i∈(Ag n).filter q:=u!.2 ⟨DW.2 ⟨o,u⟩,w⟩
  grind
theorem ij{x:Cb}(j:x.m.ca.length<=1000):DD x=Y (EX x.m.ca x.fu.ca):=by
 unfold DD;rw[M7 (λi=>!hasB x.fu.ca i) (AA x.m.ca)]
 .rfl
 grind [AC,L7,hasB,AQ,AU]
theorem Vs{images fu:Fp}(j:images.length<=1000):Jo images fu=Y (EX images fu):=by
 unfold Jo;rw[M7 (λi=>!hasB fu i) (AA images)]
 .rfl
 grind [Dp,hasB,Ob,AC,AQ,AU]
theorem fX{x:Cb}(j:x.m.ca.length<=1000)(he:x.g.ci.length<=1000):C1 x=Y ((Ag x.g.ci.length).filter (NZ x.g x.fu x.m)):=by
 unfold C1;rw[ij j,bs,M7 (NZ x.g x.fu x.m) id]
 .rw[bs,v!]
 .intro i s o q u;rw[AC o q,bs,L7,bs,L7,bs,L7,bs];unfold NZ;change (if(!hasB x.m.ci i)=X then(if hasB (EX x.m.ca x.fu.ca) (AA x.g.ci i).kq=X then Y X else Y (hasB (EX x.m.ca x.fu.ca) (AA x.g.ci i).To)).bind _ else Y T).bind _=_;cases hasB x.m.ci i<;>cases hasB (EX x.m.ca x.fu.ca) (AA x.g.ci i).kq<;>cases hasB (EX x.m.ca x.fu.ca) (AA x.g.ci i).To<;>simp[AQ (show s.length+[i].length<=AU by simp;unfold AU;omega)]
theorem fe{l g:d3}{fu:BN}{m:d4}(j:m.ca.length<=1000)(he:g.ci.length<=1000):JJ l g fu m=Y ((Ag g.ci.length).filter (NZ g fu m)):=by
 unfold JJ;rw[Vs j,bs,M7 (NZ g fu m) id]
 .rw[bs,v!]
 .intro i s o q u;have hh:∀(l:Fp)(v:Int),Dp l v=Y (hasB l v):=Ob;simp[AC o q,hh];unfold NZ;cases hasB m.ci i<;>cases hasB (EX m.ca fu.ca) (AA g.ci i).kq<;>cases hasB (EX m.ca fu.ca) (AA g.ci i).To<;>simp[AQ (show s.length+[i].length<=AU by simp;unfold AU;omega)]
variable{a i:Int}
theorem Q3{p:Int->Bool}(h:a<=i):nd p a (i+1)=(nd p a i||p i):=by
 rw [B_,B',CN,CN]
 grind
theorem W6{images fu:Fp}(J:images.length<=100){f:Int->Int->List Ie->Option (List Ie)}(hf:∀(i j:Int)s,0<=i->i<images.length->i<j->j<images.length->s.length<=20000->f i j s=Y (if(decide (AA images i=AA images j)&&(!hasB fu i||!hasB fu j))=X then s++[Ie.mk i j]else s)):
  ∃l,ns (λ(o:Int)(u:List Ie)=>(ns (λ(q:Int)(s2:List Ie)=>f o q s2) (AH (o+1)) (images.length:Int) u).bind λs2=>Y s2) 0 (images.length:Int) []=Y l/\l.length<=10000/\decide (0<l.length)=zh images fu:=by
 have key:=Mw (f:=λ(o:Int)(u:List Ie)=>(ns (λ(q:Int)(s2:List Ie)=>f o q s2) (AH (o+1)) (images.length:Int) u).bind λs2=>Y s2) (s:=[])
  (λi s=>(s.length:Int)<=100*i/\decide (0<s.length)=nd (λa=>nd (λb=>decide (AA images a=AA images b)&&(!hasB fu a||!hasB fu b)) (a+1) images.length) 0 i) (a:=0) (b:=images.length) U
  (by refine⟨V,?_⟩;rw[Br.2 (λi z D=>U)];rfl) (λi s o E F=>by
   have w:=Mw (f:=λ(q:Int)(s2:List Ie)=>f i q s2) (s:=s)
    (λj s'=>(s'.length:Int)<=100*i+(j-(i+1))/\decide (0<s'.length)=(decide (0<s.length)||nd (λb=>decide (AA images i=AA images b)&&(!hasB fu i||!hasB fu b)) (i+1) j)) (a:=i+1) (b:=images.length) U
    (by refine⟨by have:=F.1;omega,?_⟩;rw[Br.2 (λi z D=>U),Bool.or_false]) (λj s' K G y=>by
     refine ⟨_,hf i j s' o E U G (by have:=y.1;omega),?_,?_⟩
     .grind
     .rw[Q3 U,<-Bool.or_assoc,<-y.2]
      grind)
   grind [AV,Q3])
 obtain ⟨l,H,N,I⟩:=key;exact⟨l,H,U,I⟩
theorem dT{images fu:Fp}(G:images.length<=100):∃l,Fr images fu=Y l/\l.length<=10000/\decide (0<l.length)=zh images fu:=by
 unfold Fr;obtain⟨l,N,O⟩:=W6 (fu:=fu) G (f:=λo q s2=>
  (idx images o).bind λu=>
  (idx images q).bind λw=>
  (if(decide (u=w))=X then((slices_Contains_int fu o).bind λy=>
  (if(!y)=X then Y X else((slices_Contains_int fu q).bind λz=>
  Y (!z))).bind λD=>
  Y (D))else Y T).bind λE=>
  if E=X then
  (AT s2 [Ie.mk o q]).bind λF=>
  Y F
  else
  Y s2) (λi j s o H J I K=>by
   have hh:∀(l:Fp)(v:Int),slices_Contains_int l v=Y (hasB l v):=L7;simp[AC o H,AC (show 0<=j by omega) I,hh]
   grind [AA,hasB,AQ,AU])
 grind
theorem df{images fu:Fp}(G:images.length<=100):∃l,F3 images fu=Y l/\l.length<=10000/\decide (0<l.length)=zh images fu:=by
 unfold F3;obtain⟨l,N,O⟩:=W6 (fu:=fu) G (f:=λo q s2=>
  (idx images o).bind λu=>
  (idx images q).bind λw=>
  (if(decide (u=w))=X then((Dp fu o).bind λy=>
  (if(!y)=X then Y X else((Dp fu q).bind λz=>
  Y (!z))).bind λD=>
  Y (D))else Y T).bind λE=>
  if E=X then
  (AT s2 [Ie.mk o q]).bind λF=>
  Y F
  else
  Y s2) (λi j s o H J I K=>by
   have hh:∀(l:Fp)(v:Int),Dp l v=Y (hasB l v):=Ob;simp[AC o H,AC (show 0<=j by omega) I,hh]
   grind [AA,hasB,AQ,AU])
 grind
variable{l:Fp}
theorem bJ(h:n<=1000):Lj n l=Y (A2 l n):=by
 unfold Lj;rw[Ua (f:=Dp l) U U (λi=>Ob l i)];rfl
theorem av{images fu:Fp}(z:n<=1000)(hi:∀x∈images,0<=x/\x<n):GN n images fu=Y (A2 (EX images fu) n):=by
 unfold GN GD;rw[ae U,bs];rw[BY (λi=>(Ag n).map λk=>nd (λj=>!hasB fu j&&decide (AA images j=k)) 0 i) U]
 .rw[bs,c8,Aq,M7 (λi=>!hasB (EX images fu) i) id]
  .rw[bs,v!];rfl
  .intro i s o q F;rw[AC o (by rw[c8,Aq];exact q),bs,HC _ o q];have e:nd (λj=>!hasB fu j&&decide (AA images j=i)) 0 images.length=hasB (EX images fu) i:=by
    rw [B_,CN,B3,UE];constructor
    .rintro⟨j,w,y,h⟩;rw[sx,yk]at h
     grind [B3]
    .rintro⟨j,⟨w,y⟩,H,h⟩;refine⟨j,w,y,?_⟩;rw[sx,yk]
     grind [hasB,B3]
   grind [hasB,EX,AQ,AU]
 .refine v? (by simp[Aq]) (λk D E=>?_)
  grind [C',Br]
 .intro i o q;have u:=hi _ (AF o q);have hh:∀(l:Fp)(v:Int),slices_Contains_int l v=Y (hasB l v):=L7;rw[AC o q,bs,hh,bs];cases G:hasB fu i
  .rw[ae a?,AC u.1 (by rw[c8,Aq];exact u.2),bs,G2 _ u.1]
   grind [CH,Q3,AA]
  grind [CH,Q3]
theorem dw{a b:Nat}(j:a<=10000)(o:b<=10000):decide (0<AH ((a:Int)+(b:Int)))=(decide (0<a)||decide (0<b)):=by
 rw [AV U U,B_,B']
 grind
theorem rz{l g:d3}{fu:BN}{m:d4}(D:RU fu):GX l g fu m=Y (NX l g fu m):=by
 unfold GX Cr NX;simp only[];rw[ZS,bs,dU D,bs];by_cases o:¬HM l g m=0
 .grind
 have o:=C_.1 o;rw[az t?,bs,az (show¬HM l g m≠0 by simp[o])];refine CL λN=>?_;have j:=U0 o;have a1:=j.ga.ea;have a2:=j.ga.ec;have a3:=j.zf;have Q:=j.zt;have S:=j.gb.ea;have ε:=j.gb.ec;unfold DZ;obtain⟨u,E,G,H⟩:=dT (fu:=fu.ca) (images:=m.ca) U;obtain⟨v,I,J,K⟩:=dT (fu:=fu.ci) (images:=m.ci) U;simp only[];rw[E,bs,I,bs,bs];simp only[];rw[dw G J,H,K];refine Zw λO=>?_;rw[fX (by show m.ca.length<=1000;omega) (by show g.ci.length<=1000;omega),bs];have e:=aB (n:=g.ci.length) (q:=NZ g fu m) (F:=id);rw[v!]at e;rw[e];refine Zw λP=>?_;rw[av U (λx w=>?_),bs,av U (λx w=>?_),bs]
 .rfl
 .obtain⟨i,y,z,rfl⟩:=BR w;exact(j.edge i y z).1
 .obtain⟨i,y,z,rfl⟩:=BR w;exact(j.node i y z).1
theorem sS{l g:d3}{fu:BN}{m:d4}(w:RU fu):Qs l g fu m=Y (NX l g fu m):=by
 unfold Qs PD NX;rw[ZZ,bs,Xv w,bs];by_cases o:¬HM l g m=0
 .grind
 have o:=C_.1 o;rw[az t?,bs,az (show¬HM l g m≠0 by simp[o])];refine CL λI=>?_;have j:=U0 o;have a1:=j.ga.ea;have a2:=j.ga.ec;have a3:=j.zf;have N:=j.zt;have O:=j.gb.ea;have P:=j.gb.ec;obtain⟨u,y,z,D⟩:=df (fu:=fu.ca) (images:=m.ca) U;obtain⟨v,E,G,H⟩:=df (fu:=fu.ci) (images:=m.ci) U;rw[y,bs,E,bs,dw z G,D,H];refine Zw λJ=>?_;rw[fe U U,bs];have e:=aB (n:=g.ci.length) (q:=NZ g fu m) (F:=id);rw[v!]at e;rw[e];refine Zw λK=>?_;rw[Vs U,bs,bJ U,bs,Vs U,bs,bJ U,bs];rfl
end Go.Sf.Sc
namespace Go.Sf.Sc
open Go Go.Sf
variable{α β:Type}
theorem Sd[Inhabited α]{l:List α}{F:α->β}{f:Int->List β->Option (List β)}(h:∀(i:Int)s,0<=i->i<l.length->s.length<=i.toNat->f i s=Y (s++[F (AA l i)])):ns f 0 l.length []=Y (l.map F):=by
 have:=BY (f:=f) (s:=[]) (λi=>(l.take i.toNat).map F) (a:=0) (b:=l.length) U V (λi j o=>by
  grind [c8,cE,Bb])
 rwa [C',w_]at this
variable{n:Nat}{l:Fp}
theorem dV(H:n<=1000)(z:l.length<=1000)(q:l.Pairwise (·<·)):Lv n l=Y (He n l):=by
 unfold Lv GD;rw[ae U,bs,C',w!,BY (λi=>(Ag n).map λj=>if j<i then C3 l j else 0) U]
 .rw[bs];congr 1;exact CH λj D u=>ae u
 .refine v? (by simp[Aq]) (λk E I=>?_);have e:(Ag n)[k]'(by simpa[Aq]using E)=(k:Int):=by simp[Ag]
  simp only[w?,x_,e];rw[az U]
 .intro i w G;rw[Sp z q,bs,AC w (by rw[c8,Aq];exact G),bs];have e:∀v:Int,v=C3 l i->Y (Av ((Ag n).map λj=>if j<i then C3 l j else 0) i v)=Y ((Ag n).map λj=>if j<i+1 then C3 l j else 0):=by
   rintro v rfl;rw[G2 _ w];congr 1;refine CH λj D u=>?_;by_cases e:j=i
   .rw[ae e,ae U,e]
   .rw[az e];by_cases y:j<i
    .rw[ae y,ae U]
    .rw[az y,az U]
  cases o:hasB l i with
  |false=>
   rw [ae r!];exact e _ (Xj λF=>by rw[B3.2 F]at o;cases o).symm
  |true=>
   rw [az V];exact e _ (Vf q (B3.1 o))
theorem a7(K:n<=1000)(N:l.length<=1000)(F:l.Nodup):Li l n=Y (He n l):=by
 unfold Li;rw[BY (λk=>(Ag k.toNat).map (C3 l)) U r!]
 .rfl
 .intro k u O;have q:((Ag k.toNat).map (C3 l)).length=k.toNat:=by rw[c8,Aq]
  have J:(Ag k.toNat).map (C3 l)++[-1]=(Ag (k+1).toNat).map λj=>if j<k then C3 l j else if C3 l k<0 then C3 l k else -1:=by
   rw [D2 u,x!];congr 1
   .grind[x?,DW]
   .rw[y_,az U];have:=QT l k
    grind
  rw [AQ (by rw[q];simp;unfold AU;omega),bs,J,BY (λi=>(Ag (k+1).toNat).map λj=>if j<k then C3 l j else if C3 l k<i then C3 l k else -1) U rfl]
  .rw[bs];congr 1;refine x? λj G=>?_;have:=DW.1 G;split
   .rfl
   .have e:j=k:=U
    rw [ae (QT l k).2,e]
  .intro i w y;rw[AC w y,bs];by_cases e:AA l i=k
   .have z:C3 l k=i:=by rw[<-e];exact aP F w y
    rw [ae c!,AC u (by rw[c8,Aq];omega),bs,G2 _ u];congr 1;refine CH λj H I=>?_;by_cases D:j=k
    .rw[ae D,az U,ae U,z]
    .rw[az D];by_cases o:j<k
     .rw[ae o,ae o]
     .omega
   .have z:C3 l k≠i:=λh=>by
     have:=(G4 (Nh.1 (show 0<=C3 l k by omega))).2.2.1;rw[h]at this;exact e this
    rw [az c!];congr 1;refine CH λj H I=>?_;by_cases o:j<k
    .rw[ae o,ae o]
    .rw[az o,az o];by_cases E:C3 l k<i
     .rw[ae E,ae U]
     .rw[az E,az U]
structure Us(count:Nat)(fu into at_:Fp):Prop where
 few:count<=1000
 nodup:into.Nodup
 len:into.length=fu.length
 inn:∀x∈into,0<=x/\x<count
 kin:∀x∈fu,0<=x/\x<at_.length
 pos:∀x∈fu,0<=AA at_ x
theorem aW(j:l.Nodup)(h:∀x∈l,0<=x/\x<n):l.length<=n:=by
 have:=List.Nodup.length_le_of_subset (l₁:=l) (l₂:=Ag n) j (λx o=>DW.2 (h x o))
 rwa [Aq]at this
variable{i:Int}
theorem QM(h:0<=i):((A2 l (i+1)).length:Int)=(A2 l i).length+if i∈l then 0 else 1:=by grind[OE,bk,hasB,B3]
theorem Rr{fu into at_:Fp}{n i:Int}(h:i∈into):Qi fu into at_ n i=AA at_ (AA fu (C3 into i)):=by grind[Qi,B3]
theorem SN{fu into at_:Fp}{n i:Int}(h:i∉into):Qi fu into at_ n i=n+(A2 into i).length:=by grind[Qi,B3]
variable{count:Nat}
theorem Yr{fu into at_:Fp}{n:Int}(h:Us count fu into at_)(E:0<=n)(F:n<=1000):FX fu into count at_ n=Y (Tz count fu into at_ n):=by
 have G:=h.few;have y:=aW h.nodup h.inn;have z:=h.len;unfold FX;rw[a7 h.few U h.nodup,bs,BY (λi=>(n+((A2 into i).length:Int),(Ag i.toNat).map (Qi fu into at_ n))) U (by simp[A2,Ag])]
 .rfl
 .intro i o w;have H:=KY (l:=into) o;have j:((Ag i.toNat).map (Qi fu into at_ n)).length=i.toNat:=by rw[c8,Aq]
  rw [AC o (by rw[JZ];exact w),bs,V2 o w];by_cases hi:i∈into
  .have u:=G4 hi;have D:=AF (l:=fu) u.1 U;have q:=h.kin _ D;rw[ae (by simpa using u.1),bs,AC u.1 U,bs,AC q.1 q.2,bs,AQ (by rw[j];simp;unfold AU;omega),bs,D2 o,x!,QM o,ae hi,C!,y_,Rr hi]
  .rw[az (by rw[yk,Nh];exact hi),AQ (by rw[j];simp;unfold AU;omega),bs,D2 o,x!,QM o,az hi,y_,SN hi,AV U U,C?]
theorem Yf{fu into o q:Fp}{n:Int}(h:Us count fu into (o.map (AA q)))(K:∀x∈o,0<=x/\x<q.length)(ε:0<=n)(κ:n<=1000):GJ count fu into o q n=Y (Tz count fu into (o.map (AA q)) n):=by
 have δ:=h.few;have N:=aW h.nodup h.inn;have O:=h.len;unfold GJ EF;rw[ae (by refine⟨rfl,U,U⟩),bs,C'];rw[BY (λi=>(Ag count).map λk=>if 0<=C3 into k/\C3 into k<i then Qi fu into (o.map (AA q)) n k else -1) U]
 .rw[bs,c8,Aq,BY (λi=>(n+((A2 into i).length:Int),(Ag count).map λk=>if k<i\/k∈into then Qi fu into (o.map (AA q)) n k else -1)) U]
  .rw[bs];congr 1;exact CH λj H F=>ae (.inl F)
  .show _=(n,_);congr 1
   .simp[A2]
   .refine CH λj H F=>?_;have J:=Nh (l:=into) (v:=j);have P:=QT into j;by_cases e:j∈into
    .rw[ae (.inr e),ae ⟨J.2 e,P.2⟩]
    .rw[az (by rintro(u|u);omega;exact e u),az λu=>e (J.1 u.1)]
  .intro i y D;have Z:=KY (l:=into) y;rw[AC y (by rw[c8,Aq];exact D),bs,HC _ y D];by_cases hi:i∈into
   .have Q:=G4 hi;have I:=AF (l:=fu) Q.1 l';have hp:=h.pos _ I;rw[ae (show i<i\/i∈into from .inr hi),Rr hi,az (by rw[yk];omega),QM y,ae hi,C!];congr 2;refine CH λj H F=>?_;by_cases e:j<i\/j∈into
    .rw[ae e,ae (e.imp (λh=>U) id)]
    .rw[az e,az];rintro(u|u)
     .have:j=i:=by
       have:=λhh=>e (.inl hh);omega
      exact e (.inr (this▸hi))
     .exact e (.inr u)
   .rw[az (show¬(i<i\/i∈into)by rintro(u|u);omega;exact hi u),ae a?,bs,QM y,az hi,AV an an,G2 _ y,C?];congr 2;refine CH λj H F=>?_;by_cases z:j=i
    .rw[ae z,ae (.inl U),z,SN hi]
    .rw[az z];by_cases e:j<i\/j∈into
     .rw[ae e,ae (e.imp (λh=>U) id)]
     .rw[az e,az];rintro(u|u)
      .exact e (.inl U)
      .exact e (.inr u)
 .refine v? (by simp[Aq]) (λk η ζ=>?_);simp only[w?,x_];rw[az U];rfl
 .intro i y D;have E:=h.inn _ (AF y D);have I:=AF (l:=fu) y l';have w:=h.kin _ I;rw[c8]at w;have G:=K _ (AF w.1 w.2);rw[AC y D,bs,AC y l',bs,AC w.1 w.2,bs,AC G.1 G.2,bs,AC E.1 (by rw[c8,Aq];exact E.2),bs,G2 _ E.1];congr 1;refine CH λj H F=>?_;by_cases z:j=AA into i
  .have e:=aP h.nodup y D;rw[ae z,z,e,ae ⟨y,U⟩,Rr (AF y D),e,PO w.1 w.2]
  .rw[az z];by_cases e:0<=C3 into j/\C3 into j<i
   .rw[ae e,ae ⟨e.1,U⟩]
   .rw[az e,az];rintro⟨u,h2⟩;have S:C3 into j=i:=by
     have:=λhh=>e ⟨u,hh⟩;omega
    have:=(G4 (Nh.1 u)).2.2.1;rw[S]at this;exact z this.symm
theorem XC{images j:Fp}(o:images.length<=1000)(q:∀x∈images,0<=x/\x<j.length):G7 images j=Y (images.map (AA j)):=by
 unfold G7
 grind [Sd,AA,AF,AC,AQ,AU]
end Go.Sf.Sc
namespace Go.Sf.Sc
open Go Go.Sf
def Hf(h:fl)(d:BN):d4:=⟨He h.d3.ca.length d.ca,He h.d3.ci.length d.ci⟩
def xx(r:gn)(h:fl)(m:d4)(d:BN):d4:=
 ⟨Tz r.fq.d3.ca.length r.r0.ca r.pc.ca (m.ca.map (AA (Hf h d).ca)) d.ca.length,
 Tz r.fq.d3.ci.length r.r0.ci r.pc.ci (m.ci.map (AA (Hf h d).ci)) d.ci.length⟩
def lH(t:eb)(k:Int):Fp:=(Ak t k).map λx=>x.zu
def fI(tr:Fp)(e:Bo):Bo:=⟨e.kp,AA tr e.kq,AA tr e.To⟩
def Nn(r:gn)(x:fl)(i:Int):Fp:=x.d3.ca++(A2 r.pc.ca i).map (AA r.fq.d3.ca)
def Np(t:eb)(r:gn)(x:fl)(i:Int):List Fp:=x.em++(A2 r.pc.ca i).map λk=>lH t (AA r.fq.d3.ca k)
def Ps(r:gn)(c:d4)(x:fl)(i:Int):List Bo:=x.d3.ci++(A2 r.pc.ci i).map λk=>fI c.ca (AA r.fq.d3.ci k)
def CR(t:eb)(r:gn)(x:fl)(c:d4):fl:=⟨⟨Nn r x r.fq.d3.ca.length,Ps r c x r.fq.d3.ci.length⟩,Np t r x r.fq.d3.ca.length⟩
def Bx(h:fl)(d:BN):fl:=⟨⟨d.ca.map (AA h.d3.ca),d.ci.map λx=>fI (Hf h d).ca (AA h.d3.ci x)⟩,d.ca.map (AA h.em)⟩
structure J4(x:fl):Prop where
 ea:x.d3.ca.length<=1000
 ec:x.d3.ci.length<=1000
 vals:x.em.length<=1000
 rows:∀v∈x.em,v.length<=1000
structure V9(t:eb)(r:gn)(c:d4):Prop where
 hf:Ai t
 hv:(As t).2=0
 g:CQ r.fq.d3
 kind:∀n∈r.fq.d3.ca,0<=n/\n<t.ca.length
 cn:c.ca.length=r.fq.d3.ca.length
variable{t:eb}{r:gn}{c:d4}
theorem ov(h:V9 t r c){n:Int}(j:n∈r.fq.d3.ca):(Ak t n).length<=600:=by
 have:=h.kind n j;exact Gi h.hf (D_ _) (C6 h.hv).par this.2
variable{x:fl}
theorem UV(h:J4 x):HN x=Y x:=by
 have:=h.ea;have:=h.ec;have:=h.vals;unfold HN C4;rw[Ap a_,bs,Ap a_,bs,bs];rw[BY (λi=>fl.mk x.d3 (x.em.take i.toNat)) U r!]
 .rw[C',w_];rfl
 .intro i j o;have:=h.rows _ (AF j o)
  grind [AC,Ap,AU,AQ,Bb]
theorem fW(h:J4 x):KD x=Y x:=by
 have:=h.ea;have:=h.ec;have:=h.vals;unfold KD slices_Clone_int Cd;rw[Ap a_,bs,Ap a_,bs];rw[BY (λi=>fl.mk x.d3 (x.em.take i.toNat)) U r!]
 .rw[C',w_];rfl
 .intro i j o;have:=h.rows _ (AF j o)
  grind [AC,Ap,AU,AQ,Bb]
variable{α:Type}{i:Int}
theorem DH(l:Fp)(F:Int->α)(h:0<=i):(A2 l (i+1)).map F=(A2 l i).map F++if i∈l then[]else[F i]:=by grind[OE,hasB,B3]
theorem VR(l:Fp)(i:Int):Hu l i=Y (!hasB l i):=by
 unfold Hu hasB;rw[BT (λj=>decide (i=AA l j)) T,H8]
 .cases nd (λj=>decide (i=AA l j)) 0 l.length<;>rfl
 grind [AC,AA]
theorem sX(h:V9 t r c)(w:J4 x):Lo t r x c=Y (CR t r x c):=by
 have J:=h.g.ea;have K:=h.g.ec;have x1:=w.ea;have N:=w.ec;have O:=w.vals;unfold Lo;rw[OO (λi=>fl.mk (d3.mk (Nn r x i) x.d3.ci) (Np t r x i)) (a:=0) (b:=r.fq.d3.ca.length) U]
 .rw[Bc,OO (λi=>fl.mk (d3.mk (Nn r x r.fq.d3.ca.length) (Ps r c x i)) (Np t r x r.fq.d3.ca.length)) (a:=0) (b:=r.fq.d3.ci.length) U]
  .rfl
  .grind[Ps,A2]
  .intro i o q;have D:=KY (l:=r.pc.ci) o;have he:=h.g.fit _ (AF o q);have E:=h.cn;rw[ae j_,VR,bs];by_cases hi:i∈r.pc.ci
   .grind[B3,Ps,DH,AV]
   .have u:hasB r.pc.ci i=T:=by cases u:hasB r.pc.ci i with|false=>rfl|true=>exact absurd (B3.1 u) hi
    rw [u,ae a?,AC o q,bs,AC he.2.1.1 U,bs,AC he.2.2.1 U,bs,AQ (by unfold Ps;simp;unfold AU;omega),bs];unfold Ps;rw[DH _ _ o,az hi,AV an an,c9];rfl
  .rw[az V]
 .unfold Nn Np;simp[A2]
 .intro i o q;have D:=KY (l:=r.pc.ca) o;have y:=AF o q;have z:=h.kind _ y;have P:=ov h y;rw[ae j_,VR,bs];by_cases hi:i∈r.pc.ca
  .grind[B3,Nn,Np,DH,AV]
  .have u:hasB r.pc.ca i=T:=by cases u:hasB r.pc.ca i with|false=>rfl|true=>exact absurd (B3.1 u) hi
   rw [u,az a?,AC o q,bs,AQ (by unfold Nn;simp;unfold AU;omega),bs,bs,NF h.hf,IA h.hv z.1 z.2,bs];simp;rw[Sd (F:=λa=>a.zu) λj s G H I=>?_]
   .rw[bs,AQ (by unfold Np;simp;unfold AU;omega),bs];unfold Nn Np;rw[DH _ _ o,az hi,DH _ _ o,az hi,AV U U,c9,c9];rfl
   grind [AC,AQ,AU]
 .rw[az V]
theorem pG(hf:Ai t)(hv:(As t).2=0){k:Int}(q:0<=k)(o:k<t.ca.length):Jt t k=Y (lH t k):=by
 have:=Gi hf (D_ _) (C6 hv).par o;unfold Jt;rw[R3 hf,IA hv q o,bs];simp;rw[Sd (F:=λa=>a.zu) λj s u w y=>?_]
 .rfl
 grind [AC,AQ,AU]
structure ZN(h:fl)(d:BN):Prop where
 sm:J4 h
 len:h.em.length=h.d3.ca.length
 ea:(∀x∈d.ca,0<=x/\x<h.d3.ca.length)/\d.ca.length<=1000
 ec:(∀x∈d.ci,0<=x/\x<h.d3.ci.length)/\d.ci.length<=1000
 ends:∀e∈h.d3.ci,(0≤e.kq/\e.kq<h.d3.ca.length)/\0≤e.To/\e.To<h.d3.ca.length
variable{h:fl}
theorem Yy{d:BN}(hd:ZN h d):J4 (Bx h d):=by
 have o:=hd.ea.2;have q:=hd.ec.2;refine⟨by unfold Bx;simp;omega,by unfold Bx;simp;omega,by unfold Bx;simp;omega,λv hv=>?_⟩;obtain⟨x,j,rfl⟩:=u?.1 hv;have:=hd.ea.1 x j;exact hd.sm.rows _ (AF this.1 (by rw[hd.len];exact this.2))
variable{R:gn}{M:AO}{C:d4}
theorem pA{d:BN}(u:V9 t R C)(hd:ZN h d)(I:C.ci.length=R.fq.d3.ci.length)
  (z:∀i:Int,0<=i->i<R.fq.d3.ca.length->(AA C.ca i=d.ca.length+(A2 R.pc.ca i).length↔i∉R.pc.ca))
  (D:∀i:Int,0<=i->i<R.fq.d3.ci.length->(AA C.ci i=d.ci.length+(A2 R.pc.ci i).length↔i∉R.pc.ci)):
  IW t (Ax.mk R M h (fl.mk (d3.mk [] []) []) (Hf h d) C) d=Y (Ax.mk R M h (CR t R (Bx h d) C) (Hf h d) C):=by
 have J:=hd.ea.2;have K:=hd.ec.2;have N:=u.g.ea;have O:=u.g.ec;have G:=u.cn;unfold IW;simp only[];rw[BY (λi=>Ax.mk R M h (fl.mk (d3.mk ((d.ca.take i.toNat).map (AA h.d3.ca)) []) ((d.ca.take i.toNat).map (AA h.em))) (Hf h d) C) U V]
 rotate_left
 .intro i j o;have q:=hd.ea.1 _ (AF j o);have w:=hd.len;have E:=hd.sm.rows _ (AF q.1 U);rw[AC j o,bs,AC q.1 q.2,bs,AQ a9,bs,AC q.1 U,bs,Ap a_,bs,AQ a9,bs,Hs j o,Hs j o]
 rw [bs,C',w_];rw[BY (λi=>Ax.mk R M h (fl.mk (d3.mk (d.ca.map (AA h.d3.ca)) ((d.ci.take i.toNat).map λx=>fI (Hf h d).ca (AA h.d3.ci x))) (d.ca.map (AA h.em))) (Hf h d) C) U V]
 rotate_left
 .intro i j o;have q:=hd.ec.1 _ (AF j o);have he:=hd.ends _ (AF q.1 q.2);have w:(Hf h d).ca.length=h.d3.ca.length:=JZ _ _;simp only[];rw[AC j o,bs,AC q.1 q.2,bs,AC he.1.1 U,bs,AC he.2.1 U,bs,AQ a9,bs,Hs j o];rfl
 rw [bs,C',w_];rw[BY (λi=>Ax.mk R M h (fl.mk (d3.mk (Nn R (Bx h d) i) (Bx h d).d3.ci) (Np t R (Bx h d) i)) (Hf h d) C) U (by unfold Nn Np;simp[A2,Bx])]
 rotate_left
 .intro i j o;have E:=KY (l:=R.pc.ca) j;have H:=AF j o;have F:=u.kind _ H;have w:(Nn R (Bx h d) i).length=d.ca.length+(A2 R.pc.ca i).length:=by unfold Nn Bx;simp
  have y:(Np t R (Bx h d) i).length=d.ca.length+(A2 R.pc.ca i).length:=by unfold Np Bx;simp
  simp only[w];rw[AC j o,bs,AC j U,bs];by_cases hi:i∈R.pc.ca
  .rw[az (by rw[yk];push_cast;exact λe=>(z i j o).1 e hi)];unfold Nn Np;rw[DH _ _ j,ae hi,y!,DH _ _ j,ae hi,y!]
  .rw[ae (by rw[yk];push_cast;exact(z i j o).2 hi),AQ (by rw[w];simp;unfold AU;omega),bs,pG u.hf u.hv F.1 F.2,bs,AQ (by rw[y];simp;unfold AU;omega),bs];unfold Nn Np;rw[DH _ _ j,az hi,DH _ _ j,az hi,c9,c9]
 rw [bs];rw[BY (λi=>Ax.mk R M h (fl.mk (d3.mk (Nn R (Bx h d) R.fq.d3.ca.length) (Ps R C (Bx h d) i)) (Np t R (Bx h d) R.fq.d3.ca.length)) (Hf h d) C) U (by unfold Ps;simp[A2,Bx])]
 rotate_left
 .intro i j o;have E:=KY (l:=R.pc.ci) j;have he:=u.g.fit _ (AF j o);have w:(Ps R C (Bx h d) i).length=d.ci.length+(A2 R.pc.ci i).length:=by unfold Ps Bx;simp
  simp only[w];rw[AC j o,bs,AC j U,bs];by_cases hi:i∈R.pc.ci
  .rw[az (by rw[yk];push_cast;exact λe=>(D i j o).1 e hi)];unfold Ps;rw[DH _ _ j,ae hi,y!]
  .rw[ae (by rw[yk];push_cast;exact(D i j o).2 hi),AC he.2.1.1 U,bs,AC he.2.2.1 U,bs,AQ (by rw[w];simp;unfold AU;omega),bs];unfold Ps;rw[DH _ _ j,az hi,c9];rfl
 rw [bs];rfl
theorem cQ(hf:Ai t){d:BN}(hh:(E9 t h).2=0)(u:Dj h.d3 d=0)(hd:ZN h d):J9 t h d=Y (Bx h d,0):=by
 have w:=hd.ea.2;unfold J9;rw[UW hf,bs,az (by simp[hh]),UU ⟨hd.ea.2,hd.ec.2⟩,az t_,bs,az V];have e:Cg h.d3 d=(Bx h d).d3:=by
  unfold Cg Bx;congr 1;refine x? λx j=>?_;have j:=hd.ec.1 x j;have he:=hd.ends _ (AF j.1 j.2)
  grind [fI,Hf,V2]
 simp;rw[OO (λi=>fl.mk (Cg h.d3 d) ((d.ca.take i.toNat).map (AA h.em))) (a:=0) (b:=d.ca.length) U V]
 .rw[C',w_,Bc,e];rfl
 .intro i q o;have j:=hd.ea.1 _ (AF q o);have y:=hd.len;have z:=hd.sm.rows _ (AF j.1 U);rw[ae e!,AC q o,bs,AC j.1 U,bs,Ap a_,bs,AQ a9,bs,Hs q o,AV an an]
 .rw[az V]
end Go.Sf.Sc
namespace Go.Sf.Sc
open Go Go.Sf
def RQ(c:d4)(vars:Fp)(s:Bw):(Int×Int)×Int:=((AA c.ca s.po,s.mh),Cw s.j4 vars)
def B0(r:gn)(c:d4)(vars:Fp):BM:=r.fq.ed.map (RQ c vars)
def Pq(t:eb)(x:fl)(p:(Int×Int)×Int):Bool:=
 decide (p.2<(AA (Ak t (AA x.d3.ca p.1.1)) p.1.2).zu)||decide ((AA (Ak t (AA x.d3.ca p.1.1)) p.1.2).yr<p.2)
structure Uv(t:eb)(r:gn)(c:d4)(vars:Fp)(x:fl):Prop where
 hf:Ai t
 hv:(As t).2=0
 few:r.fq.ed.length<=1000
 fewv:vars.length<=1000
 slot:∀s∈r.fq.ed,(0<=s.po/\s.po<c.ca.length)/\(-1<=s.j4.Var/\s.j4.Var<vars.length)/\
  (0<=AA c.ca s.po/\AA c.ca s.po<x.d3.ca.length)/\(0<=s.mh/\s.mh<(Ak t (AA x.d3.ca (AA c.ca s.po))).length)
 kind:∀n∈x.d3.ca,0<=n/\n<t.ca.length
 vlen:x.em.length=x.d3.ca.length
 rows:∀i:Int,0<=i->i<x.d3.ca.length->(AA x.em i).length=(Ak t (AA x.d3.ca i)).length
variable{L:BM}{i:Int}
theorem eX(o:0<=i)(q:i<=L.length)(h:∀j,0<=j->j<i->nd (λk=>decide ((AA L k).1=(AA L j).1)&&!decide ((AA L k).2=(AA L j).2)) 0 j=T):SF (L.take i.toNat):=by grind[X9,QB,Br,cE,WI,KI]
def Vh(L:BM)(i:Int):Bool:=nd (λk=>decide ((AA L k).1=(AA L i).1)&&!decide ((AA L k).2=(AA L i).2)) 0 i
theorem kc(I:0<=i)(J:i<L.length)(y:SF (L.take i.toNat)):
  (((Pz (L.take i.toNat)).look (AA L i).1).isSome&&(!decide (((Pz (L.take i.toNat)).look (AA L i).1).getD 0=(AA L i).2)))=Vh L i:=by
 obtain ⟨K,D,N⟩:=dK _ y;unfold Vh;cases z:(Pz (L.take i.toNat)).look (AA L i).1 with
 |none=>
  rw [Option.isSome_none,B!];refine Eq.symm (Br.2 λk u w=>?_);have q:AA L k∈L.take i.toNat:=by
   rw [<-KI (n:=i.toNat) U]
   grind [AF,cE]
  rw [decide_eq_false (YZ z _ ((D _).2 q)),B!]
 |some v=>
  have q:=(D _).1 (UG z);rw[Option.isSome_some,A!,Option.getD_some];have o:∀k,0<=k->k<i->(AA L k).1=(AA L i).1->(AA L k).2=v:=λk u w e=>by
   have F:AA L k∈L.take i.toNat:=by
    rw [<-KI (n:=i.toNat) U]
    grind [AF,cE]
   exact y _ F _ q e
  obtain ⟨k,u,w,E⟩:=BR q;rw[cE]at w;rw[KI U]at E;rw[B_,CN];constructor
  .intro h;refine⟨k,u,U,?_⟩;rw[E,decide_eq_true rfl,A!];exact h
  .rintro⟨j,G,H,h⟩;rw[sx,yk]at h;rw[<-o j G H h.1];exact h.2
theorem Om(r:gn)(c:d4)(vars:Fp)(j:0<=i)(o:i<r.fq.ed.length):AA (B0 r c vars) i=RQ c vars (AA r.fq.ed i):=PO j o
theorem Jr(r:gn)(c:d4)(vars:Fp):(B0 r c vars).length=r.fq.ed.length:=c8 ..
variable{ρ:Type}
theorem Zz(L:BM)(v:ρ):fst (λi=>if Vh L i=X then Y v else W) 0 L.length=if QB L=X then Y v else W:=M9
variable{t:eb}{R:gn}{M:AO}{B A:fl}{θ C:d4}
theorem fV(h:Uv t R C M.ff A):Hx (Ax.mk R M B A θ C)=Y (if QB (B0 R C M.ff)=X then([],11)else(Pz (B0 R C M.ff),0)):=by
 unfold Hx;simp only[];rw[JC (a:=0) (s:=([]:BM)) (λi=>Pz ((B0 R C M.ff).take i.toNat)) (λi=>if Vh (B0 R C M.ff) i=X then Y ([],11)else W) U rfl]
 .have:=Zz (B0 R C M.ff) (([],11):BM×Int);rw[Jr]at this;rw[this];by_cases e:QB (B0 R C M.ff)=X
  .rw[ae e,ae e];rfl
  .rw[az e,az e,<-Jr R C M.ff,C',w_];rfl
 .intro i o q D;have u:=h.slot _ (AF o q);have E:SF ((B0 R C M.ff).take i.toNat):=eX o (by rw[Jr];omega) λj y z=>by
   have:=D j y z;split at this
   .cases this
   next e=>exact B?.2 e
  have w:=kc (L:=B0 R C M.ff) o (by rw[Jr];exact q) E;rw[AC o q,bs,ah u.2.1.1 u.2.1.2 h.fewv,bs,az V,AC u.1.1 u.1.2,bs];rw[Om R C M.ff o q]at w;simp[RQ]at w;simp only[];by_cases e:Vh (B0 R C M.ff) i=X
  .refine(ae (w.trans e)).trans ?_;rw[ae e];rfl
  .refine(az (λh=>e (w.symm.trans h))).trans ?_;rw[az e,Bb o (by rw[Jr];exact q),aU,Om R C M.ff o q];rfl
variable{α:Type}
theorem dM{f:α->K1}{g:α->Bool}:∀{l:List α},(∀p∈l,f p=Y (g p))->zB f l=Y (l.all g)
 |[],_=>rfl|p::r,h=>by
  unfold zB;rw[h p List.mem_cons_self,bs,dM λq j=>h q (v1 _ j),bs,List.all_cons]
variable{r:gn}{c:d4}{x:fl}
theorem bW{vars:Fp}(h:Uv t r c vars x){s:Bw}(u:s∈r.fq.ed){κ:List Fp}(w:LV κ x.em):
  idx κ (AA c.ca s.po)=Y (AA κ (AA c.ca s.po))/\idx (AA κ (AA c.ca s.po)) s.mh=Y (AA (AA κ (AA c.ca s.po)) s.mh):=by
 have j:=h.slot s u;have hv:=h.vlen;have E:=h.rows _ j.2.2.1.1 j.2.2.1.2;have y:idx x.em (AA c.ca s.po)=Y (AA x.em (AA c.ca s.po)):=AC j.2.2.1.1 U;have z:idx (AA x.em (AA c.ca s.po)) s.mh=Y (AA (AA x.em (AA c.ca s.po)) s.mh):=AC j.2.2.2.1 U;obtain⟨D,x',a,b⟩:=w.idx y z;have o:=Gd a;have q:=Gd b;have F:=(y?.1 o.2.2).1;have e:AA κ (AA c.ca s.po)=D:=by
  grind [AC,Option.some.inj]
 have G:=(y?.1 q.2.2).1;refine⟨AC o.1 U,?_⟩;rw[e];exact AC q.1 U
theorem kj(h:Uv t R C M.ff A){p:(Int×Int)×Int}(u:p∈B0 R C M.ff):Oz t (Ax.mk R M B A θ C) p=Y (!Pq t A p):=by
 obtain ⟨s,q,rfl⟩:=u?.1 u;have j:=h.slot s q;have o:=h.kind _ (AF j.2.2.1.1 j.2.2.1.2);obtain⟨w,y⟩:=bW h q (κ:=A.em) rfl;unfold Oz Oy RQ Pq;simp;rw[AC j.2.2.1.1 j.2.2.1.2,bs,R3 h.hf,IA h.hv o.1 o.2,bs];simp;simp[AC j.2.2.2.1 j.2.2.2.2,w,y,R2]
 grind
def Ih(t:eb)(x:fl)(L:BM):fl×Int:=
 if QB L=X then(⟨⟨[],[]⟩,[]⟩,11)else if L.any (Pq t x)=X then(⟨⟨[],[]⟩,[]⟩,6)else(⟨x.d3,L.foldl CZ x.em⟩,0)
theorem r8(h:Uv t R C M.ff A):LR t (Ax.mk R M B A θ C)=Y ((Ih t A (B0 R C M.ff)).2,if(Ih t A (B0 R C M.ff)).2=0 then Ax.mk R M B (Ih t A (B0 R C M.ff)).1 θ C else Ax.mk R M B A θ C):=by
 unfold LR Ih;rw[fV h,bs];by_cases e:QB (B0 R C M.ff)=X
 .grind
 .rw[az e,az V,az e];obtain⟨q,u,w⟩:=dK _ (X9 (B?.2 e));have o:zB (Oz t (Ax.mk R M B A θ C)) (Pz (B0 R C M.ff))=Y (!(B0 R C M.ff).any (Pq t A)):=by
   rw [dM (g:=λp=>!Pq t A p) λp j=>kj h ((u p).1 j)]
   grind
  rw [ae (by simpa using(show List.Pairwise (λx y:(Int×Int)×Int=>x.1≠y.1) _ from q)),o,bs]
  grind [B0,Pq,OJ]
theorem wE{vars:Fp}(h:Uv t r c vars x):NI t r x c vars=Y (Ih t x (B0 r c vars)):=by
 unfold NI Ih;rw[JC (a:=0) (s:=fl.mk (d3.mk [] []) []) (λ_=>fl.mk (d3.mk [] []) []) (λi=>if Vh (B0 r c vars) i=X then Y (fl.mk (d3.mk [] []) [],(11:Int))else W) U rfl]
 .have:=Zz (B0 r c vars) ((fl.mk (d3.mk [] []) [],(11:Int)));rw[Jr]at this;rw[this];by_cases e:QB (B0 r c vars)=X
  .rw[ae e,ae e];rfl
  rw [az e,az e];show ek (Y (Sum.inl _)) _ _=_;rw[Bc,JC (a:=0) (s:=(x,fl.mk (d3.mk [] []) [])) (λi=>(fl.mk x.d3 (((B0 r c vars).take i.toNat).foldl CZ x.em),fl.mk (d3.mk [] []) [])) (λi=>if Pq t x (AA (B0 r c vars) i)=X then Y (fl.mk (d3.mk [] []) [],(6:Int))else W) U rfl]
  .have:=dE (l:=B0 r c vars) (q:=Pq t x) (v:=(fl.mk (d3.mk [] []) [],(6:Int)));rw[Jr]at this;rw[this];by_cases o:(B0 r c vars).any (Pq t x)=X
   .rw[ae o,ae o];rfl
   .rw[az o,az o];show Y (fl.mk x.d3 (((B0 r c vars).take (r.fq.ed.length:Int).toNat).foldl CZ x.em),(0:Int))=_
    grind [Jr,C',w_]
  .intro i u w _;have E:=AF u w;have j:=h.slot _ E;have y:=h.kind _ (AF j.2.2.1.1 j.2.2.1.2);obtain⟨G,H⟩:=bW h E (κ:=((B0 r c vars).take i.toNat).foldl CZ x.em) (aG _ _);simp only[AC u w,bs];rw[Oh j.2.1.1 j.2.1.2,bs,AC j.1.1 j.1.2,bs,AC j.2.2.1.1 j.2.2.1.2,bs,NF h.hf,IA h.hv y.1 y.2,bs];simp only[];rw[AC j.2.2.2.1 j.2.2.2.2,bs,bs,R2,bs,G,bs,H,bs];rw[Om r c vars u w,Bb u (by rw[Jr];exact w),v5,Om r c vars u w];show(if(Pq t x (RQ c vars (AA r.fq.ed i)))=X then _ else _)=_;by_cases o:Pq t x (RQ c vars (AA r.fq.ed i))=X
   .rw[ae o,ae o];rfl
   .rw[az o,az o];have:=Z9 (p:=RQ c vars (AA r.fq.ed i)) G H;exact congrArg (λη=>Y (Be.next (σ:=fl×fl) (ρ:=fl×Int) (fl.mk x.d3 η,fl.mk (d3.mk [] []) []))) this
 .intro i u w _;have j:=h.slot _ (AF u w);rw[AC u w,bs,Oh j.2.1.1 j.2.1.2,bs];rw[JC (a:=0) (s:=fl.mk (d3.mk [] []) []) (λ_=>fl.mk (d3.mk [] []) []) (λk=>if(decide ((AA (B0 r c vars) k).1=(AA (B0 r c vars) i).1)&&!decide ((AA (B0 r c vars) k).2=(AA (B0 r c vars) i).2))=X then Y (fl.mk (d3.mk [] []) [],(11:Int))else W) u rfl]
  .rw[M9];unfold Vh;split<;>rfl
  .intro k z J _;have y:=h.slot _ (AF z (show k<r.fq.ed.length by omega));simp[AC u w,AC z (show k<r.fq.ed.length by omega)];rw[Oh y.2.1.1 y.2.1.2,bs,AC y.1.1 y.1.2,bs,AC j.1.1 j.1.2,bs,Om r c vars u w,Om r c vars z U];simp[RQ];by_cases F:AA c.ca (AA r.fq.ed k).po=AA c.ca (AA r.fq.ed i).po<;>by_cases o:(AA r.fq.ed k).mh=(AA r.fq.ed i).mh<;>by_cases D:Cw (AA r.fq.ed i).j4 vars=Cw (AA r.fq.ed k).j4 vars
   all_goals first|(have I:¬Cw (AA r.fq.ed k).j4 vars=Cw (AA r.fq.ed i).j4 vars:=λh=>D h.symm;simp[F,o,D,I,jo];done)|(simp[F,o,D,jo];done)
end Go.Sf.Sc
namespace Go.Sf.Sc
open Go Go.Sf
variable{t:eb}{r:gn}
theorem XJ(h:Dc t r=0):EQ t r.kg=0/\IT t r=0/\ID t r.kg r.d5=0:=by grind[Dc]
theorem cW(h:IT t r=0):r.fq.ff=r.kg.ff/\r.fq.ed.length<=10/\∀i:Int,0<=i->i<r.fq.ed.length->Mp t r.fq i=0:=by
 unfold IT at h;split at h
 .omega
 split at h
 .cases h
 split at h
 .cases h
 split at h
 .cases h
 rename_i j o q u;exact⟨U,U,Wb h⟩
variable{i:Int}
theorem fx{p:d7}(h:Mp t p i=0):(0<=(AA p.ed i).po/\(AA p.ed i).po<p.d3.ca.length)/\
  (0<=(AA p.ed i).mh/\(AA p.ed i).mh<(Eg t (AA p.d3.ca (AA p.ed i).po)).1.length)/\-1<=(AA p.ed i).j4.Var/\(AA p.ed i).j4.Var<p.ff:=by
 unfold Mp at h;dsimp only at h;split at h
 .cases h
 split at h
 .cases h
 rename_i o j;simp[yk]at j;omega
structure Iv(t:eb)(r:gn)(h:fl)(m:AO):Prop where
 hf:Ai t
 fr:Pm r
 re:Dc t r=0
 he:(E9 t h).2=0
 at_:V6 t r.kg h m
 co:Ze (Sa r.kg.d3 h.d3 m.d4) h.d3 r.r0 m.d4
abbrev dS(r:gn)(h:fl)(m:AO):BN:=Mk h.d3 r.r0 m.d4
abbrev cS(r:gn)(h:fl)(m:AO):d4:=xx r h m.d4 (dS r h m)
variable{h:fl}{m:AO}
theorem Iv.hv(s:Iv t r h m):(As t).2=0:=(dj s.re).1
theorem Iv.ro(s:Iv t r h m):gc t r:=(dj s.re).2
theorem Iv.hh(s:Iv t r h m):I2 t h:=(Uy s.hf s.he).2
theorem SZ(hf:Ai t)(hv:(As t).2=0)(hh:I2 t h):J4 h:=by
 have q:=hh.g.ea;have u:=hh.g.ec;have w:=hh.len;refine⟨U,U,U,λv j=>?_⟩;obtain⟨i,o,D,rfl⟩:=BR j;have y:=hh.row i o U;have z:=Gi hf (D_ _) (C6 hv).par (hh.kind i o U).2;omega
theorem Iv.rem(s:Iv t r h m):ZN h (dS r h m):=by
 have hh:=s.hh;have o:=hh.g.ea;have q:=hh.g.ec;have l1:=RP (EX m.d4.ca r.r0.ca) h.d3.ca.length;have l2:=RP (EX m.d4.ci r.r0.ci) h.d3.ci.length;exact⟨SZ s.hf s.hv hh,hh.len,⟨λx j=>Gz j,by show(A2 _ _).length<=1000;omega⟩,⟨λx j=>Gz j,by show(A2 _ _).length<=1000;omega⟩,λe he=>(hh.g.fit e he).2⟩
theorem Iv.part(s:Iv t r h m):Dj h.d3 (dS r h m)=0:=by
 unfold Dj;rw[az (by simp[s.hh.ge])];exact ja s.co
variable{count n:Nat}
theorem g6{fu into images:Fp}{A5:Fp}(few:count<=1000)(nodup:into.Nodup)(len:into.length=fu.length)(inn:∀x∈into,0<=x/\x<count)
  (kin:∀x∈fu,0<=x/\x<images.length)(o:∀x∈images,0<=x/\x<n)(hi:zh images fu=T)(q:A5=EX images fu):
  Us count fu into (images.map (AA (He n (A2 A5 n))))/\(∀x∈fu,AA (images.map (AA (He n (A2 A5 n)))) x<(A2 A5 n).length)/\
  ∀x∈fu,AA (images.map (AA (He n (A2 A5 n)))) x=C3 (A2 A5 n) (AA images x)/\AA images x∈A2 A5 n:=by
 have e:∀x∈fu,AA (images.map (AA (He n (A2 A5 n)))) x=C3 (A2 A5 n) (AA images x)/\AA images x∈A2 A5 n:=λx j=>by
  grind [AF,PO,V2,QL,UF]
 refine ⟨⟨few,nodup,len,inn,λx j=>by rw[c8];exact kin x j,λx j=>?_⟩,λx j=>?_,e⟩
 .rw[(e x j).1];exact Nh.2 (e x j).2
 .rw[(e x j).1];exact(QT _ _).2
theorem Iv.left(s:Iv t r h m):m.d4.ca.length=r.kg.d3.ca.length/\m.d4.ci.length=r.kg.d3.ci.length:=⟨s.at_.m.zf,s.at_.m.zt⟩
theorem Iv.AaZ(s:Iv t r h m):Us r.fq.d3.ca.length r.r0.ca r.pc.ca (m.d4.ca.map (AA (Hf h (dS r h m)).ca))/\
  (∀x∈r.r0.ca,AA (m.d4.ca.map (AA (Hf h (dS r h m)).ca)) x<(dS r h m).ca.length)/\
  ∀x∈r.r0.ca,AA (m.d4.ca.map (AA (Hf h (dS r h m)).ca)) x=C3 (dS r h m).ca (AA m.d4.ca x)/\AA m.d4.ca x∈(dS r h m).ca:=by
 have ro:=s.ro;have u:=ro.right.ea;refine g6 U ro.inj.1 ?_ (λx j=>?_) (λx j=>?_) (λx j=>?_) s.co.ea rfl
 .have:=ro.mor.zf;rw[this];exact c8 ..
 .obtain⟨i,o,q,rfl⟩:=BR j;exact(ro.mor.node i o q).1
 .have:=ro.part.ea.1 x j;have:=s.left.1;omega
 .obtain⟨i,o,q,rfl⟩:=BR j;exact(s.at_.m.node i o q).1
theorem Iv.Aa6(s:Iv t r h m):Us r.fq.d3.ci.length r.r0.ci r.pc.ci (m.d4.ci.map (AA (Hf h (dS r h m)).ci))/\
  (∀x∈r.r0.ci,AA (m.d4.ci.map (AA (Hf h (dS r h m)).ci)) x<(dS r h m).ci.length)/\
  ∀x∈r.r0.ci,AA (m.d4.ci.map (AA (Hf h (dS r h m)).ci)) x=C3 (dS r h m).ci (AA m.d4.ci x)/\AA m.d4.ci x∈(dS r h m).ci:=by
 have ro:=s.ro;have u:=ro.right.ec;refine g6 U ro.inj.2 ?_ (λx j=>?_) (λx j=>?_) (λx j=>?_) s.co.ec rfl
 .have:=ro.mor.zt;rw[this];exact c8 ..
 .obtain⟨i,o,q,rfl⟩:=BR j;exact(ro.mor.edge i o q).1
 .have:=ro.part.ec.1 x j;have:=s.left.2;omega
 .obtain⟨i,o,q,rfl⟩:=BR j;exact s.at_.m.edge i o q
theorem cr{fu into at_:Fp}(h:Us count fu into at_)(j:∀x∈fu,AA at_ x<n)(o:0<=i)(q:i<count):AA (Tz count fu into at_ n) i=n+(A2 into i).length↔i∉into:=by
 rw [gx o q];constructor
 .intro e hi;rw[Rr hi]at e;have u:=G4 hi;have:=j _ (AF (l:=fu) u.1 l');omega
 .exact SN
theorem Iv.grow(s:Iv t r h m):V9 t r (cS r h m):=
 ⟨s.hf,s.hv,s.ro.right,(Hg s.ro.right s.ro.AaE).1,XZ _ _ _ _ _⟩
theorem VU(l:Fp)(j:0<=i):∀(k:Nat),∃s,A2 l (i+k)=A2 l i++s
 |0=>⟨[],V⟩|k+1=>by
  obtain ⟨s,e⟩:=VU l j k
  grind [OE,c9]
variable{l:Fp}
theorem mC{i n:Int}(j:0<=i)(o:i<n)(h:i∉l):AA (A2 l n) (A2 l i).length=i/\((A2 l i).length:Int)<(A2 l n).length:=by
 obtain ⟨s,e⟩:=VU l (i:=i+1) U (n-(i+1)).toNat
 rw [show i+1+((n-(i+1)).toNat:Int)=n by omega,OE l j]at e
 grind [hasB,B3,AA]
variable{α:Type}
theorem rA[Inhabited α]{l m:List α}(j:0<=i)(o:i<l.length):AA (l++m) i=AA l i:=by grind[M5]
theorem Zr[Inhabited α]{l m:List α}:AA (l++m) (l.length+n:Int)=AA m n:=by grind[M5,AA,C']
variable{a:Int}
theorem kz(h:0<=a):Ho t a a=X:=by
 unfold Ho;rw[show(a+1).toNat=a.toNat+1 by omega,P1,az U];simp
theorem Iv.kindAt(s:Iv t r h m)(w:0<=i)(y:i<r.fq.d3.ca.length):
  (0<=AA (cS r h m).ca i/\AA (cS r h m).ca i<(CR t r (Bx h (dS r h m)) (cS r h m)).d3.ca.length)/\
  AA (CR t r (Bx h (dS r h m)) (cS r h m)).d3.ca (AA (cS r h m).ca i)<t.ca.length/\Ho t (AA (CR t r (Bx h (dS r h m)) (cS r h m)).d3.ca (AA (cS r h m).ca i)) (AA r.fq.d3.ca i)=X:=by
 obtain ⟨H,O,c3⟩:=s.AaZ;have I:AA (cS r h m).ca i=Qi r.r0.ca r.pc.ca (m.d4.ca.map (AA (Hf h (dS r h m)).ca)) (dS r h m).ca.length i:=gx w y;have el:(CR t r (Bx h (dS r h m)) (cS r h m)).d3.ca=(dS r h m).ca.map (AA h.d3.ca)++(If r).map (AA r.fq.d3.ca):=rfl;rw[I,el,bk,c8,c8];by_cases hi:i∈r.pc.ca
 .have j:=G4 hi;have P:=H.len;have q:=AF (l:=r.r0.ca) j.1 U;have E:=c3 _ q;have F:=O _ q;have z:=H.pos _ q;rw[Rr hi];refine⟨⟨z,by push_cast;omega⟩,?_⟩;rw[rA z (by rw[c8];exact F),PO z F,E.1,(G4 E.2).2.2.1];have u:=s.ro.part.ea.1 _ q;have J:=s.left.1;have D:=s.at_.m.node _ u.1 U;have K:=s.hh.kind _ D.1.1 D.1.2;have G:=s.ro.mor.node _ j.1 j.2.1;rw[j.2.2.1]at G;have N:AA (Cg r.kg.d3 r.r0).ca (C3 r.pc.ca i)=AA r.kg.d3.ca (AA r.r0.ca (C3 r.pc.ca i)):=PO j.1 U;rw[G.2,N];exact⟨K.2,D.2⟩
 .have u:=mC w y hi;rw[SN hi];have o:((dS r h m).ca.map (AA h.d3.ca)).length=(dS r h m).ca.length:=c8 ..;refine⟨⟨U,?_⟩,?_⟩
  .have:((If r).length:Int)=(A2 r.pc.ca r.fq.d3.ca.length).length:=rfl
   push_cast
   omega
  .rw[<-o,Zr,show If r=A2 r.pc.ca r.fq.d3.ca.length from rfl,PO U u.2];show AA r.fq.d3.ca (AA (A2 r.pc.ca r.fq.d3.ca.length) (A2 r.pc.ca i).length)<(t.ca.length:Int)/\Ho t (AA r.fq.d3.ca (AA (A2 r.pc.ca r.fq.d3.ca.length) (A2 r.pc.ca i).length)) _=X;rw[u.1];have:=(Hg s.ro.right s.ro.AaE).1 _ (AF w y);exact⟨this.2,kz this.1⟩
theorem Iv.rows(s:Iv t r h m):(CR t r (Bx h (dS r h m)) (cS r h m)).em.map (λv=>v.length)=(CR t r (Bx h (dS r h m)) (cS r h m)).d3.ca.map λn=>(Ak t n).length:=by
 show (z9 _ (_++_))=z9 _ (_++_);rw[x!,x!];congr 1
 .show((dS r h m).ca.map (AA h.em)).map _=((dS r h m).ca.map (AA h.d3.ca)).map _;rw[v9,v9];refine x? λx j=>?_;have j:=s.rem.ea.1 x j;exact s.hh.row x j.1 j.2
 grind [v9,x?,lH,c8]
theorem Iv.put(s:Iv t r h m):Uv t r (cS r h m) m.ff (CR t r (Bx h (dS r h m)) (cS r h m)):=by
 obtain ⟨S,J,ε⟩:=XJ s.re;obtain⟨hv,κ,E⟩:=cW J;have O:=s.at_.q.vars;have F:=s.at_.len;have z:=s.rows;have D:(CR t r (Bx h (dS r h m)) (cS r h m)).em.length=(CR t r (Bx h (dS r h m)) (cS r h m)).d3.ca.length:=by
  grind [z_,c8]
 refine ⟨s.hf,s.hv,U,U,λx j=>?_,λn o=>?_,D,λi u y=>?_⟩
 .obtain⟨i,u,y,rfl⟩:=BR j;obtain⟨w,K,η⟩:=fx (E i u y);have G:=(Hg s.ro.right s.ro.AaE).1 _ (AF w.1 w.2);rw[IA s.hv G.1 G.2]at K;obtain⟨ζ,N,H⟩:=s.kindAt w.1 w.2;replace H:=YX (C6 s.hv) N H;have I:(cS r h m).ca.length=r.fq.d3.ca.length:=XZ _ _ _ _ _
  grind
 .have o:n∈(dS r h m).ca.map (AA h.d3.ca)++(If r).map (AA r.fq.d3.ca):=o;rcases z!.1 o with o|o
  .obtain⟨x,j,rfl⟩:=u?.1 o;have j:=s.rem.ea.1 x j;exact s.hh.kind x j.1 j.2
  .obtain⟨x,j,rfl⟩:=u?.1 o;have j:=Gz j;exact(Hg s.ro.right s.ro.AaE).1 _ (AF j.1 j.2)
 .have P:=PO (l:=(CR t r (Bx h (dS r h m)) (cS r h m)).em) (g:=λv=>v.length) u U;have Q:=PO (l:=(CR t r (Bx h (dS r h m)) (cS r h m)).d3.ca) (g:=λn=>(Ak t n).length) u y
  grind
end Go.Sf.Sc
namespace Go.Sf.Sc
open Go Go.Sf
abbrev xB:gn:=gn.mk (⟨#[]⟩:ByteArray) (d7.mk (d3.mk [] []) [] 0 []) (d7.mk (d3.mk [] []) [] 0 []) (BN.mk [] []) (d4.mk [] []) T (d5.mk 0 [] (d4.mk [] []) (d7.mk (d3.mk [] []) [] 0 []))
abbrev zG:Ax:=Ax.mk xB (AO.mk (d4.mk [] []) []) (fl.mk (d3.mk [] []) []) (fl.mk (d3.mk [] []) []) (d4.mk [] []) (d4.mk [] [])
def ZQ(t:eb)(r:gn)(h:fl)(m:AO):Ax×Int:=
 if (Ih t (CR t r (Bx h (dS r h m)) (cS r h m)) (B0 r (cS r h m) m.ff)).2≠0 then(zG,(Ih t (CR t r (Bx h (dS r h m)) (cS r h m)) (B0 r (cS r h m) m.ff)).2)else
 if 40<(Ih t (CR t r (Bx h (dS r h m)) (cS r h m)) (B0 r (cS r h m) m.ff)).1.d3.ca.length\/80<(Ih t (CR t r (Bx h (dS r h m)) (cS r h m)) (B0 r (cS r h m) m.ff)).1.d3.ci.length then(zG,3)else
 (Ax.mk r m h (Ih t (CR t r (Bx h (dS r h m)) (cS r h m)) (B0 r (cS r h m) m.ff)).1 (Hf h (dS r h m)) (cS r h m),0)
noncomputable def J5(t:eb)(r:gn)(h:fl)(m:AO):Ax×Int:=
 if Dc t r≠0 then(zG,Dc t r)else if(E9 t h).2≠0 then(zG,(E9 t h).2)else
 if Fa t r.kg.d3 h.d3 m.d4 r.mr≠0 then(zG,1)else
 if (Fc t r.kg h m.d4).2≠0 then(zG,(Fc t r.kg h m.d4).2)else if¬(Fc t r.kg h m.d4).1=m.ff then(zG,11)else
 if (NX (Sa r.kg.d3 h.d3 m.d4) h.d3 r.r0 m.d4).2≠0 then(zG,(NX (Sa r.kg.d3 h.d3 m.d4) h.d3 r.r0 m.d4).2)else
 if (M0 t r.kg r.d5 h m r.mr).2≠0 then(zG,(M0 t r.kg r.d5 h m r.mr).2)else
 if (M0 t r.kg r.d5 h m r.mr).1=T then(zG,16)else ZQ t r h m
variable{t:eb}{r:gn}{h:fl}{m:AO}
theorem XY(j:Dc t r=0)(o:(E9 t h).2=0)(q:Fa t r.kg.d3 h.d3 m.d4 r.mr=0)(u:(Fc t r.kg h m.d4).2=0)(w:(Fc t r.kg h m.d4).1=m.ff):Tv t r.kg r.d5 h m r.mr=0:=by
 unfold Tv;rw[az (by simp[(XJ j).2.2]),az t?,az (by simp[q]),az t_,ae w]
theorem dH{ζ:Option (Ax×Int)}(hX:(Ih t (CR t r (Bx h (dS r h m)) (cS r h m)) (B0 r (cS r h m) m.ff)).2=0->ζ=
   if ((decide (40<((Ih t (CR t r (Bx h (dS r h m)) (cS r h m)) (B0 r (cS r h m) m.ff)).1.d3.ca.length:Int)))||(decide (80<((Ih t (CR t r (Bx h (dS r h m)) (cS r h m)) (B0 r (cS r h m) m.ff)).1.d3.ci.length:Int))))=X then Y (zG,3)else
   Y (Ax.mk r m h (Ih t (CR t r (Bx h (dS r h m)) (cS r h m)) (B0 r (cS r h m) m.ff)).1 (Hf h (dS r h m)) (cS r h m),0)):
  (if(!decide ((Ih t (CR t r (Bx h (dS r h m)) (cS r h m)) (B0 r (cS r h m) m.ff)).2=0))=X then Y (zG,(Ih t (CR t r (Bx h (dS r h m)) (cS r h m)) (B0 r (cS r h m) m.ff)).2)else ζ)=Y (ZQ t r h m):=by
 unfold ZQ;refine CL λj=>?_;rw[hX j];refine GM an λ_=>rfl
theorem sJ(hf:Ai t)(fr:Pm r)(H:EN r.d5<=40)(h:fl)(m:AO):Js t r h m=Y (J5 t r h m):=by
 unfold Js Lu J5;rw[Of hf,bs];by_cases hv:¬(As t).2=0
 .grind[Dc,As]
 have hv:=C_.1 hv;rw[az m_,iu hf fr,bs,Wy hf,bs];by_cases u:¬Dc t r=0
 .grind
 have u:=C_.1 u;rw[az t_,bs,az (show¬Dc t r≠0 by simp[u])];refine CL λI=>?_;rw[Option.bind_fun_some];unfold Lt JT;rw[Xn hf,bs];by_cases w:¬Fa t r.kg.d3 h.d3 m.d4 r.mr=0
 .grind
 have w:=C_.1 w;rw[az q?,dO hf,bs,az (show¬Fa t r.kg.d3 h.d3 m.d4 r.mr≠0 by simp[w])];by_cases z:¬(Fc t r.kg h m.d4).2=0
 .grind
 have z:=C_.1 z;rw[az (by simp[z]),nt,bs,az (show¬(Fc t r.kg h m.d4).2≠0 by simp[z])];by_cases D:¬(Fc t r.kg h m.d4).1=m.ff
 .grind
 have D:=C_.1 D;rw[az (by simp[D]),bs,az V,az (show¬¬(Fc t r.kg h m.d4).1=m.ff by simp[D])];rw[sB hf w,bs,az V,rz fr.fu,bs];refine CL λJ=>?_;obtain⟨_,_,_,E⟩:=WQ hf H (XY u I w z D);obtain⟨co,ε⟩:=Xa J;rw[cO hf _ fr.cond H,bs,ε];refine CL λκ=>?_;refine WR λη=>?_;have s:Iv t r h m:=⟨hf,fr,u,I,E,co⟩;have y:=s.rem;have ζ:=s.hh.g.ea;have δ:=s.hh.g.ec;have l1:=s.left.1;have l2:=s.left.2;have Z:=s.ro.left.ea;have g4:=s.ro.left.ec;have N:=E.len;have O:=E.q.vars;have G:JS m=Y m:=by
  unfold JS slices_Clone_int;rw[Ap a_,bs,Ap a_,bs,Ap a_,bs]
 simp only[];rw[G,bs,fW y.sm,bs];rw[dV U y.ea.2 (NJ _ _),bs,dV U y.ec.2 (NJ _ _),bs];have P:GJ r.fq.d3.ca.length r.r0.ca r.pc.ca m.d4.ca (He h.d3.ca.length (dS r h m).ca) (Mk h.d3 r.r0 m.d4).ca.length=Y (cS r h m).ca:=
  Yf s.AaZ.1 (λx F=>by rw[JZ];obtain⟨i,j,o,rfl⟩:=BR F;exact(E.m.node i j o).1) U (D'.2 y.ea.2)
 have Q:GJ r.fq.d3.ci.length r.r0.ci r.pc.ci m.d4.ci (He h.d3.ci.length (dS r h m).ci) (Mk h.d3 r.r0 m.d4).ci.length=Y (cS r h m).ci:=
  Yf s.Aa6.1 (λx F=>by rw[JZ];obtain⟨i,j,o,rfl⟩:=BR F;exact E.m.edge i j o) U (D'.2 y.ec.2)
 rw [P,bs,Q,bs];have S:=pA (M:=m) s.grow y (XZ _ _ _ _ _) (λi j o=>cr s.AaZ.1 s.AaZ.2.1 j o) (λi j o=>cr s.Aa6.1 s.Aa6.2.1 j o);change ((IW t (Ax.mk r m h (fl.mk (d3.mk [] []) []) (Hf h (dS r h m)) (cS r h m)) (dS r h m)).bind _)=_;rw[S,bs,r8 s.put,bs];exact dH λK=>by rw[ae K]
theorem jI(hf:Ai t){p:d7}{c:d5}(j:EN c<=40){inj:Bool}(o:Tv t p c h m inj=0):MK t c h m inj=Y (M0 t p c h m inj):=by
 obtain ⟨hv,hh,q,u⟩:=WQ hf j o
 grind [MK,M0,wS,Ch,qJ,iY,lv]
theorem jU(hf:Ai t)(fr:Pm r)(J:EN r.d5<=40)(h:fl)(m:AO):KT t r h m=Y (J5 t r h m):=by
 unfold KT Io J5;rw[bK hf fr,bs,UW hf,bs];by_cases j:¬Dc t r=0
 .rw[ae h?,bs,ae h?,ae j]
 have j:=C_.1 j;rw[az h?,bs,az (show¬Dc t r≠0 by simp[j])];refine CL λE=>?_;unfold Lp;rw[Xu hf,bs];by_cases o:¬Fa t r.kg.d3 h.d3 m.d4 r.mr=0
 .rw[ae t?,bs,ae V,ae o]
 have o:=C_.1 o;rw[az t?,pS hf,bs,az (show¬Fa t r.kg.d3 h.d3 m.d4 r.mr≠0 by simp[o])];by_cases q:¬(Fc t r.kg h m.d4).2=0
 .rw[ae (by simp[q]),bs,ae (by simp[q]),ae q]
 have q:=C_.1 q;rw[az (by simp[q]),dX,bs,az (show¬(Fc t r.kg h m.d4).2≠0 by simp[q])];by_cases y:¬(Fc t r.kg h m.d4).1=m.ff
 .rw[ae (by simp[y]),bs,ae V,ae y]
 have y:=C_.1 y;rw[az (by simp[y]),az (show¬¬(Fc t r.kg h m.d4).1=m.ff by simp[y])];rw[sZ hf o,bs,az V,sS fr.fu,bs];by_cases u:¬(NX (Sa r.kg.d3 h.d3 m.d4) h.d3 r.r0 m.d4).2=0
 .rw[ae t_,bs,ae t_,ae u]
 have u:=C_.1 u;rw[az t_,az (show¬(NX (Sa r.kg.d3 h.d3 m.d4) h.d3 r.r0 m.d4).2≠0 by simp[u])];have D:=XY j E o q y;obtain⟨_,_,_,G⟩:=WQ hf J D;obtain⟨co,O⟩:=Xa u;rw[jI hf J D,bs,O,JF,bs,bs];by_cases w:¬(M0 t r.kg r.d5 h m r.mr).2=0
 .rw[az (show¬((decide ((M0 t r.kg r.d5 h m r.mr).2=0)&&!(M0 t r.kg r.d5 h m r.mr).1)=X)by simp[w]),ae q?,ae w]
 have w:=C_.1 w;rw[az (show¬(M0 t r.kg r.d5 h m r.mr).2≠0 by simp[w])];cases Q:(M0 t r.kg r.d5 h m r.mr).1 with
 |false=>rw[ae (show(decide ((M0 t r.kg r.d5 h m r.mr).2=0)&&!T)=X by simp[w]),ae V,ae rfl]|true=>
 rw [az (show¬(decide ((M0 t r.kg r.d5 h m r.mr).2=0)&&!X)=X by simp),az q?,az V];have s:Iv t r h m:=⟨hf,fr,j,E,G,co⟩;have z:=s.rem;have S:=s.hh.g.ea;have ε:=s.hh.g.ec;have l1:=s.left.1;have l2:=s.left.2;have κ:=s.ro.left.ea;have η:=s.ro.left.ec;unfold Mi LI;simp only[];rw[cQ hf E s.part z,bs,a7 U z.ea.2 ((NJ _ _).imp λh=>U),bs,bs,a7 U z.ec.2 ((NJ _ _).imp λh=>U),bs,bs,bs];simp only[];rw[XC U (λx F=>by rw[JZ];obtain⟨i,H,I,rfl⟩:=BR F;exact(G.m.node i H I).1),bs];rw[XC U (λx F=>by rw[JZ];obtain⟨i,H,I,rfl⟩:=BR F;exact G.m.edge i H I),bs];have K:FX r.r0.ca r.pc.ca r.fq.d3.ca.length (m.d4.ca.map (AA (He h.d3.ca.length (dS r h m).ca))) (Mk h.d3 r.r0 m.d4).ca.length=Y (cS r h m).ca:=
  Yr s.AaZ.1 U (D'.2 z.ea.2)
 have N:FX r.r0.ci r.pc.ci r.fq.d3.ci.length (m.d4.ci.map (AA (He h.d3.ci.length (dS r h m).ci))) (Mk h.d3 r.r0 m.d4).ci.length=Y (cS r h m).ci:=
  Yr s.Aa6.1 U (D'.2 z.ec.2)
 rw [K,bs,N,bs];rw[UV (Yy z),bs];change ((Lo t r (Bx h (dS r h m)) (cS r h m)).bind _)=_;rw[sX s.grow (Yy z),bs];change ((NI t r (CR t r (Bx h (dS r h m)) (cS r h m)) (cS r h m) m.ff).bind _)=_;rw[wE s.put,bs];exact dH λP=>rfl
end Go.Sf.Sc
namespace Go.Sf.Sc
open Go Go.Sf
instance:Inhabited gn:=⟨xB⟩
instance:Inhabited pq:=⟨⟨0,⟨⟨[],[]⟩,[]⟩⟩⟩
instance:Inhabited Ax:=⟨zG⟩
structure D5(rules:List gn):Prop where
 len:rules.length<=12
 each:∀r∈rules,Pm r/\EN r.d5<=40
noncomputable def FB(t:eb)(rules:List gn)(h:fl)(m:pq):Ax×Int:=if m.gn<0\/rules.length<=m.gn then(zG,6)else J5 t (AA rules m.gn) h m.n8
variable{t:eb}{rules:List gn}
theorem io(hf:Ai t)(j:D5 rules)(h:fl)(m:pq):Dm t rules h m=Y (FB t rules h m):=by
 unfold Dm FB;refine GM V λe=>?_;have o:=j.each _ (AF (l:=rules) (i:=m.gn) U U)
 grind [AC,sJ]
theorem jN(hf:Ai t)(j:D5 rules)(h:fl)(m:pq):Lq t rules h m=Y (FB t rules h m):=by
 unfold Lq FB;refine GM V λe=>?_;have o:=j.each _ (AF (l:=rules) (i:=m.gn) U U)
 grind [AC,jU]
noncomputable def Ph(t:eb)(rules:List gn):Int:=
 if (As t).2≠0 then(As t).2 else if 10<rules.length then 3 else(fst (λi=>nz (Dc t (AA rules i))) 0 rules.length).getD 0
noncomputable def Nf(t:eb)(rules:List gn)(h:fl):Int:=if Ph t rules≠0 then Ph t rules else(E9 t h).2
variable{e v:Int}
theorem iZ(h:nz e=Y v):v≠0:=by grind[nz]
variable{a b:Int}
theorem ob{c:Int->Int}(h:fst (λi=>nz (c i)) a b=Y v):v≠0:=by grind[C2,iZ]
theorem jT(hf:Ai t)(q:D5 rules):MU t rules=Y (Ph t rules):=by
 unfold MU Ph;rw[QW hf,bs];refine DN λu=>GM d! λw=>?_;rw[BF (λi=>nz (Dc t (AA rules i))),CG];intro i j o _;rw[AC j o,bs,bK hf (q.each _ (AF j o)).1,bs,L9]
theorem bB(hf:Ai t)(j:D5 rules)(h:fl):KW t rules h=Y (Nf t rules h):=by
 unfold KW Nf;rw[jT hf j,bs,UW hf,bs];exact DN λ_=>rfl
theorem lV(hf:Ai t)(u:D5 rules)(h:fl):Ec t rules h=Y (Nf t rules h):=by
 unfold Ec Nf Ph;rw[Of hf,bs];by_cases j:¬(As t).2=0
 .grind
 have j:=C_.1 j;rw[az h?,az (show¬(As t).2≠0 by simp[j])];by_cases w:10<rules.length
 .grind
 rw [az an,az w,BF (λi=>nz (Dc t (AA rules i))),Cy]
 .cases e:fst (λi=>nz (Dc t (AA rules i))) 0 (rules.length:Int)with
  |none=>
   grind [Wy]
  |some v=>
   have:=ob e
   grind
 .intro i o q _;rw[AC o q,bs,iu hf (u.each _ (AF o q)).1,bs,L9]
noncomputable def Gg(t:eb)(rules:List gn)(h0:fl)(ms:List pq):List Ax×fl:=
 ms.foldl (λs m=>(s.1++[(FB t rules s.2 m).1],(FB t rules s.2 m).1.sr)) ([],h0)
noncomputable def PP(t:eb)(rules:List gn)(h0:fl)(ms:List pq)(i:Int):Int:=(FB t rules (Gg t rules h0 (ms.take i.toNat)).2 (AA ms i)).2
theorem Qw(t:eb)(rules:List gn)(j:fl)(o:List pq)(m:pq):Gg t rules j (o++[m])=((Gg t rules j o).1++[(FB t rules (Gg t rules j o).2 m).1],(FB t rules (Gg t rules j o).2 m).1.sr):=by
 unfold Gg
 grind
theorem QY(t:eb)(rules:List gn)(o:fl)(j:List pq):(Gg t rules o j).1.length=j.length:=by
 refine V0 (P:=λj=>(Gg t rules o j).1.length=j.length) rfl (λj m q=>?_) j
 grind [Qw,bk]
variable{α:Type}{i:Int}
theorem Hq[Inhabited α]{l m:List α}(j:0<=i)(o:i<l.length):AA (l++m) i=AA l i:=by grind[M5]
theorem Qf[Inhabited α](l:List α)(a:α):AA (l++[a]) l.length=a:=by
 rw [M5,az V,C',Nat.sub_self];rfl
theorem tH(t:eb)(rules:List gn)(o:fl)(j:List pq):∀i:Int,0<=i->i<j.length->AA (Gg t rules o j).1 i=(FB t rules (Gg t rules o (j.take i.toNat)).2 (AA j i)).1:=by
 refine V0 (P:=λj=>∀i:Int,0<=i->i<j.length->AA (Gg t rules o j).1 i=(FB t rules (Gg t rules o (j.take i.toNat)).2 (AA j i)).1) (λi u q=>by simp at q;omega) (λj m w i u q=>?_) j;rw[Qw];have y:=QY t rules o j;rw[bk,z?]at q
 grind [Hq,Qf,C',A_]
theorem Z4{j:fl}{a b:List pq}(o:0<=i)(q:i<a.length):PP t rules j (a++b) i=PP t rules j a i:=by grind[PP,Hq]
noncomputable def Oj(t:eb)(rules:List gn)(d:AS):List Ax×Int×Int:=
 if Nf t rules d.hV≠0 then([],0,Nf t rules d.hV)else if 30<d.gt.length then([],0,3)else
 match fst (λi=>(nz (PP t rules d.hV d.gt i)).map λe=>([],i,e)) 0 d.gt.length with
 |some r=>r|none=>((Gg t rules d.hV d.gt).1,(d.gt.length:Int),0)
variable{d:AS}
theorem bR(hd:d.gt.length<=1000){f:fl->pq->Option (Ax×Int)}(hf:∀h m,f h m=Y (FB t rules h m)):
  ek (kl (ρ:=(List Ax×Int×Int)) (λ(o:Int)(q:List Ax×fl)=>
  (idx d.gt o).bind λu=>
  (f q.2 u).bind λj=>
  if (!decide (j.2=0))=X then
  Y (.ret ([],o,j.2))
  else
  (AT q.1 [j.1]).bind λw=>
  Y (.next (w,j.1.sr))) 0 (d.gt.length:Int) ([],d.hV)) (λq=>
  Y (q.1,(q.1.length:Int),(0:Int))) (λz=>Y z)=Y (match fst (λi=>(nz (PP t rules d.hV d.gt i)).map λe=>([],i,e)) 0 d.gt.length with
   |some r=>r|none=>((Gg t rules d.hV d.gt).1,(d.gt.length:Int),0)):=by
 rw [JC (a:=0) (s:=(([],d.hV):List Ax×fl)) (λi=>Gg t rules d.hV (d.gt.take i.toNat)) (λi=>(nz (PP t rules d.hV d.gt i)).map λe=>([],i,e)) U rfl]
 .cases fst (λi=>(nz (PP t rules d.hV d.gt i)).map λe=>(([],i,e):List Ax×Int×Int)) 0 (d.gt.length:Int)with
  |some r=>rfl|none=>
   show Y _=Y _;rw[C',w_,QY]
 .intro i o y _;have D:=QY t rules d.hV (d.gt.take i.toNat);rw[AC o y,bs,hf,bs];show(if(!decide (PP t rules d.hV d.gt i=0))=X then _ else _)=_;by_cases e:PP t rules d.hV d.gt i=0
  .rw[az c!,AQ (by rw[D,cE];simp;unfold AU;omega),bs,Bb o y,Qw,FP.2 e];rfl
  .rw[ae c!];unfold nz;rw[az e];rfl
theorem ar(hf:Ai t)(j:D5 rules)(d:AS):DO t rules d=Y (Oj t rules d):=by
 unfold DO Oj;rw[lV hf j,bs];refine CL λo=>GM d! λq=>?_;exact bR U (io hf j)
theorem bI(hf:Ai t)(j:D5 rules)(d:AS):JP t rules d=Y (Oj t rules d):=by
 unfold JP Oj;rw[bB hf j,bs];refine CL λo=>GM d! λq=>?_;exact bR U (jN hf j)
structure Ma(t:eb)(rules:List gn)(d:AS):Prop where
 given:Nf t rules d.hV=0
 few:d.gt.length<=30
 moves:∀i:Int,0<=i->i<d.gt.length->PP t rules d.hV d.gt i=0
theorem Qv:(Oj t rules d).2.2=0↔Ma t rules d:=by
 unfold Oj;constructor
 .intro h;split at h
  .grind
  rename_i j;split at h
  .cases h
  rename_i o;split at h
  .grind[C2,nz,PP,iZ]
  .rename_i e;rw[Az]at e;refine⟨C_.1 j,U,λi q u=>?_⟩
   grind [K5,FP]
 .rintro⟨j,o,w⟩
  grind [Az,FP]
theorem jX(h:Ma t rules d):Oj t rules d=((Gg t rules d.hV d.gt).1,(d.gt.length:Int),0):=by
 unfold Oj;rw[az (by simp[h.given]),az (by have:=h.few;omega),Az.2 λi j o=>by rw[FP.2 (h.moves i j o)];rfl]
structure eP(h:fl)(s:Ax):Prop where
 zf:s.yv.ca.length=h.d3.ca.length
 zt:s.yv.ci.length=h.d3.ci.length
 node:∀x∈s.yv.ca,-1<=x/\x<s.sr.d3.ca.length
 edge:∀x∈s.yv.ci,-1<=x/\x<s.sr.d3.ci.length
 sm:J4 s.sr
variable{x:fl}{L:BM}
theorem sN(h:(Ih t x L).2=0):Ih t x L=(⟨x.d3,L.foldl CZ x.em⟩,0)/\L.any (Pq t x)=T:=by
 unfold Ih at h|-
 grind
structure Rk(t:eb)(r:gn)(h:fl)(m:AO):Prop where
 f:Iv t r h m
 sat:M0 t r.kg r.d5 h m r.mr=(X,0)
 solve:Fc t r.kg h m.d4=(m.ff,0)
 chk:Fa t r.kg.d3 h.d3 m.d4 r.mr=0
 put:(Ih t (CR t r (Bx h (dS r h m)) (cS r h m)) (B0 r (cS r h m) m.ff)).2=0
 few:(CR t r (Bx h (dS r h m)) (cS r h m)).d3.ca.length<=40/\(CR t r (Bx h (dS r h m)) (cS r h m)).d3.ci.length<=80
def Tq(t:eb)(r:gn)(h:fl)(m:AO):fl:=⟨(CR t r (Bx h (dS r h m)) (cS r h m)).d3,(B0 r (cS r h m) m.ff).foldl CZ (CR t r (Bx h (dS r h m)) (cS r h m)).em⟩
def XM(t:eb)(r:gn)(h:fl)(m:AO):Ax:=Ax.mk r m h (Tq t r h m) (Hf h (dS r h m)) (cS r h m)
variable{r:gn}{h:fl}{m:AO}
theorem kU(hf:Ai t)(fr:Pm r)(H:EN r.d5<=40)(e:(J5 t r h m).2=0):Rk t r h m/\J5 t r h m=(XM t r h m,0):=by
 unfold J5 at e|-;split at e
 next o=>exact absurd e o
 rename_i o;rw[az o];split at e
 next q=>exact absurd e q
 rename_i q;rw[az q];split at e
 .cases e
 rename_i D;rw[az D];split at e
 next u=>exact absurd e u
 rename_i u;rw[az u];split at e
 .cases e
 rename_i E;rw[az E];split at e
 next y=>exact absurd e y
 rename_i y;rw[az y];split at e
 next z=>exact absurd e z
 rename_i z;rw[az z];split at e
 .cases e
 rename_i F;rw[az F];have o:=C_.1 o;have q:=C_.1 q;have D:=C_.1 D;have u:=C_.1 u;have E:=C_.1 E;have y:=C_.1 y;have z:=C_.1 z;obtain⟨_,_,_,I⟩:=WQ hf H (XY o q D u E);have s:Iv t r h m:=⟨hf,fr,o,q,I,(Xa y).1⟩;unfold ZQ at e|-;split at e
 next w=>exact absurd e w
 rename_i w;rw[az w];have w:=C_.1 w;obtain⟨G,J⟩:=sN w;split at e
 .cases e
 rename_i j;rw[az j];rw[G]at j;refine⟨⟨s,?_,?_,D,w,?_⟩,?_⟩
 .exact Prod.ext (by simpa using F) z
 .exact Prod.ext E u
 .simp[not_or]at j;exact j
 .rw[G];rfl
theorem Rk.trk(s:Rk t r h m):eP h (XM t r h m):=by
 have D:=s.f.rem;have j:=s.f.put;have E:((CR t r (Bx h (dS r h m)) (cS r h m)).d3.ca.length)=(dS r h m).ca.length+(If r).length:=by
  show (z_ (_++_))=_;rw[bk,c8];show((dS r h m).ca.map _).length+_=_;rw[c8];rfl
 have he:((CR t r (Bx h (dS r h m)) (cS r h m)).d3.ci.length)=(dS r h m).ci.length+(OZ r).length:=by
  show (z_ (_++_))=_;rw[bk,c8];show((dS r h m).ci.map _).length+_=_;rw[c8];rfl
 have u:LV (Tq t r h m).em (CR t r (Bx h (dS r h m)) (cS r h m)).em:=aG _ _;have y:(Tq t r h m).em.length=(CR t r (Bx h (dS r h m)) (cS r h m)).d3.ca.length:=by
  have:=congrArg z_ u;rw[c8,c8]at this;rw[this,j.vlen]
 refine ⟨JZ _ _,JZ _ _,λx o=>?_,λx o=>?_,⟨?_,?_,?_,λv hv=>?_⟩⟩
 .obtain⟨i,hi,rfl⟩:=u?.1 o;have:=QT (dS r h m).ca i;have z:(XM t r h m).sr.d3.ca.length=(CR t r (Bx h (dS r h m)) (cS r h m)).d3.ca.length:=rfl
  grind
 .obtain⟨i,hi,rfl⟩:=u?.1 o;have:=QT (dS r h m).ci i;have z:(XM t r h m).sr.d3.ci.length=(CR t r (Bx h (dS r h m)) (cS r h m)).d3.ci.length:=rfl
  grind
 .have:=s.few.1;show(CR t r (Bx h (dS r h m)) (cS r h m)).d3.ca.length<=1000;omega
 .have:=s.few.2;show(CR t r (Bx h (dS r h m)) (cS r h m)).d3.ci.length<=1000;omega
 .have:=s.few.1;show(Tq t r h m).em.length<=1000;omega
 .have w:v.length∈(Tq t r h m).em.map z_:=u?.2 ⟨v,hv,rfl⟩;rw[u,s.f.rows]at w;obtain⟨n,q,e⟩:=u?.1 w;have:=Gi j.hf (D_ _) (C6 j.hv).par (j.kind n q).2;omega
end Go.Sf.Sc
namespace Go.Sf.Sc
open Go Go.Sf
def Rl(l by':Fp):Fp:=l.map λx=>if x<0 then -1 else AA by' x
def gM(m tr:d4):d4:=⟨Rl m.ca tr.ca,Rl m.ci tr.ci⟩
def Xg(m:d4)(l:List Ax):d4:=l.foldl (λm s=>gM m s.yv) m
def OS(g:d3):d4:=⟨Ag g.ca.length,Ag g.ci.length⟩
variable{l by':Fp}
theorem dP(w:l.length<=1000)(h:∀x∈l,-1<=x/\x<by'.length):Fu l by'=Y (Rl l by'):=by
 unfold Fu slices_Clone_int;rw[Ap a_,bs,BY (λi=>(Ag l.length).map λj=>if j<i then(if AA l j<0 then -1 else AA by' (AA l j))else AA l j) U]
 .grind[Rl,iP,CH]
 .conv=>rhs;rw[<-RT l]
  grind [CH]
 .intro i o q;have u:=h _ (AF o q);rw[AC o (by rw[c8,Aq];exact q),bs,HC _ o q,az (show¬i<i by omega)];by_cases e:0<=AA l i
  .rw[ae h_,AC e u.2,bs,bs,G2 _ o]
   grind
  grind
theorem dY(u:l.length<=1000)(h:∀x∈l,-1<=x/\x<by'.length):KV l by'=Y (Rl l by'):=by
 unfold KV;rw[Sd (F:=λx=>if x<0 then -1 else AA by' x) λi s j o w=>?_]
 .rfl
 .have q:=h _ (AF j o);rw[AC j o,bs];by_cases e:AA l i<0
  .rw[ae h_,AQ a9,bs,ae e]
  .rw[az h_,bs,AC U q.2,bs,AQ a9,bs,az e]
variable{i:Int}
theorem S9(n:Nat)(j:0<=i)(o:i<n):AA (Ag n) i=i:=by
 have:=HC (n:=n) (λx=>x) j o
 rwa [A']at this
variable{n:Nat}
theorem Yi(h:n<=1000):F1 n=Y (Ag n):=by
 unfold F1 GD;rw[ae U,bs,C',w!,BY (λi=>(Ag n).map λj=>if j<i then j else 0) U]
 .rw[bs];congr 1
  conv=>rhs;rw[<-A' (Ag n)]
  exact CH λj y q=>ae q
 .refine v? (by simp[Aq]) (λk z E=>?_);have e:(Ag n)[k]'(by simpa[Aq]using z)=(k:Int):=by simp[Ag]
  simp only[w?,x_,e];rw[az U]
 .intro i u D;rw[AC u (by rw[c8,Aq];exact D),bs,G2 _ u];congr 1;refine CH λj y q=>?_;by_cases o:j=i
  .rw[ae o,ae U,o]
  .rw[az o];by_cases w:j<i
   .rw[ae w,ae (show j<i+1 by omega)]
   .rw[az w,az (show¬j<i+1 by omega)]
variable{g:d3}
theorem fY(h:Bn g=0):DT g=Y (OS g):=by
 have j:=Cs h;have:=j.ea;have:=j.ec;unfold DT FO;rw[Lf,bs,az (by simp[h]),Yi U,bs,Yi U,bs,bs];rfl
theorem bA(h:n<=1000):JG n=Y (Ag n):=by
 unfold JG;rw[M7 (λ_=>X) id]
 .rw[bs,v!,List.filter_eq_self.2 λ_ _=>rfl]
 .intro i s j o q;rw[AQ a9,bs,ae rfl];rfl
theorem l6(h:Bn g=0):Mz g=Y (OS g):=by
 have j:=Cs h;have:=j.ea;have:=j.ec;unfold Mz;rw[bA U,bs,bA U,bs];rfl
structure gW(m:d4)(g:d3):Prop where
 zf:m.ca.length<=1000
 zt:m.ci.length<=1000
 node:∀x∈m.ca,-1<=x/\x<g.ca.length
 edge:∀x∈m.ci,-1<=x/\x<g.ci.length
theorem vP(h:Bn g=0):gW (OS g) g:=by
 have o:=Cs h;have:=o.ea;have:=o.ec;refine⟨by show(Ag _).length<=1000;rw[Aq];omega,by show(Ag _).length<=1000;rw[Aq];omega,λx j=>?_,λx j=>?_⟩
 .have:=DW.1 j;omega
 .have:=DW.1 j;omega
theorem Zo(o:∀x∈l,-1<=x/\x<by'.length)(q:∀x∈by',-1<=x/\x<n):∀x∈Rl l by',-1<=x/\x<n:=by
 intro x j;obtain⟨y,u,rfl⟩:=u?.1 j
 grind [AF]
variable{h:fl}
theorem qG{m:d4}{s:Ax}(j:gW m h.d3)(o:eP h s):gW (gM m s.yv) s.sr.d3:=by
 refine ⟨by show(z9 _ _).length<=1000;rw[c8];exact j.zf,by show(z9 _ _).length<=1000;rw[c8];exact j.zt,?_,?_⟩
 .exact Zo (λx q=>by have:=j.node x q;rw[o.zf];exact this) o.node
 .exact Zo (λx q=>by have:=j.edge x q;rw[o.zt];exact this) o.edge
variable{t:eb}{rules:List gn}
theorem Rz(hf:Ai t)(o:D5 rules){m:pq}(e:(FB t rules h m).2=0):
  (0<=m.gn/\m.gn<rules.length)/\Rk t (AA rules m.gn) h m.n8/\FB t rules h m=(XM t (AA rules m.gn) h m.n8,0):=by
 unfold FB at e|-;split at e
 .cases e
 rename_i q;rw[az q];have j:=o.each _ (AF (l:=rules) (i:=m.gn) U U);exact⟨U,kU hf j.1 j.2 e⟩
theorem Ux(hf:Ai t)(e:Nf t rules h=0):Ph t rules=0/\(E9 t h).2=0/\(As t).2=0/\I2 t h:=by grind[Nf,Uy]
variable{d:AS}
theorem RO(hf:Ai t)(o:D5 rules)(h:Ma t rules d):∀n:Nat,n<=d.gt.length ->
  J4 (Gg t rules d.hV (d.gt.take n)).2/\gW (Xg (OS d.hV.d3) (Gg t rules d.hV (d.gt.take n)).1) (Gg t rules d.hV (d.gt.take n)).2.d3
 |0,_=>by
  obtain ⟨_,u,j,q⟩:=Ux hf h.given;exact⟨SZ hf j q,vP q.ge⟩
 |n+1,y=>by
  obtain ⟨u,j⟩:=RO hf o h n U;have he:=h.moves n U U;have e:=Bb (l:=d.gt) (i:=(n:Int)) U U;rw[show((n:Int)+1).toNat=n+1 by omega,C']at e;unfold PP at he;rw[C']at he;obtain⟨_,s,w⟩:=Rz hf o he;rw[e,Qw,w];refine⟨s.trk.sm,?_⟩;unfold Xg at j|-;rw[v5];exact qG j s.trk
noncomputable def Pr(t:eb)(rules:List gn)(d:AS):fl×d4×Int:=
 if (Oj t rules d).2.2≠0 then(⟨⟨[],[]⟩,[]⟩,⟨[],[]⟩,(Oj t rules d).2.2)else((Gg t rules d.hV d.gt).2,Xg (OS d.hV.d3) (Gg t rules d.hV d.gt).1,0)
variable{x:fl}
theorem Yh(h:J4 x):FN x=Y x:=by
 have:=h.ea;have:=h.ec;have:=h.vals;unfold FN slices_Clone_int Cd;rw[Ap a_,bs,Ap a_,bs];rw[BY (λi=>fl.mk x.d3 (x.em.take i.toNat)) U r!]
 .rw[C',w_];rfl
 .intro i j o;have:=h.rows _ (AF j o)
  grind [AC,Ap,AU,AQ,Bb]
theorem aC(hf:Ai t)(u:D5 rules)(h:Ma t rules d){f:Int->fl×d4->Option (fl×d4)}
  (y:∀(i:Int)(s:fl×d4),0<=i->i<d.gt.length->gW s.2 s.1.d3->eP s.1 (AA (Gg t rules d.hV d.gt).1 i)->f i s=Y ((AA (Gg t rules d.hV d.gt).1 i).sr,gM s.2 (AA (Gg t rules d.hV d.gt).1 i).yv)):
  ns f 0 ((Gg t rules d.hV d.gt).1.length:Int) (d.hV,OS d.hV.d3)=Y ((Gg t rules d.hV d.gt).2,Xg (OS d.hV.d3) (Gg t rules d.hV d.gt).1):=by
 rw [QY,BY (λi=>((Gg t rules d.hV (d.gt.take i.toNat)).2,Xg (OS d.hV.d3) (Gg t rules d.hV (d.gt.take i.toNat)).1)) U r!]
 .rw[C',w_]
 .intro i j o;obtain⟨D,z⟩:=RO hf u h i.toNat U;have he:=h.moves i j o;unfold PP at he;obtain⟨_,s,w⟩:=Rz hf u he;have q:=tH t rules d.hV d.gt i j o;rw[w]at q;rw[y i _ j o z (by rw[q];exact s.trk),Bb j o,Qw,w,q];unfold Xg;rw[v5];rfl
theorem pC(hf:Ai t)(o:D5 rules)(d:AS):Eb t rules d=Y (Pr t rules d):=by
 unfold Eb Pr;rw[ar hf o,bs];refine CL λw=>?_;have h:=Qv.1 w;obtain⟨_,_,_,hh⟩:=Ux hf h.given;rw[fY hh.ge,bs,jX h];simp;rw[aC hf o h λi s y z j u=>?_]
 .have:=(RO hf o h d.gt.length (b6 _)).1
  grind [w_,Yh]
 .rw[AC y (by rw[QY];exact z),bs,dP j.zf (λx q=>by rw[u.zf];exact j.node x q),bs,dP j.zt (λx q=>by rw[u.zt];exact j.edge x q),bs];rfl
theorem dc(hf:Ai t)(o:D5 rules)(d:AS):Ip t rules d=Y (Pr t rules d):=by
 unfold Ip Pr;rw[bI hf o,bs];refine CL λw=>?_;have h:=Qv.1 w;obtain⟨_,_,_,hh⟩:=Ux hf h.given;rw[l6 hh.ge,bs,jX h];simp;rw[aC hf o h λi s y z j u=>?_]
 .have:=(RO hf o h d.gt.length (b6 _)).1;rw[w_]at this;rw[bs,UV this];rfl
 .simp[AC y (show i<(Gg t rules d.hV d.gt).1.length by rw[QY];exact z)];rw[dY j.zf (λx q=>by rw[u.zf];exact j.node x q),bs,dY j.zt (λx q=>by rw[u.zt];exact j.edge x q),bs];rfl
structure WG(m:AO):Prop where
 ea:m.d4.ca.length<=1000
 ec:m.d4.ci.length<=1000
 vars:m.ff.length<=1000
structure WE(d:AS):Prop where
 start:J4 d.hV
 len:d.gt.length<=1000
 moves:∀m∈d.gt,WG m.n8
variable{r:gn}{m:AO}
theorem Rk.small(s:Rk t r h m):WG m:=by
 have o:=s.f.left;have j:=s.f.ro.left;have u:=s.f.at_.len;have w:=s.f.at_.q.vars;have:=j.ea;have:=j.ec;exact⟨U,U,U⟩
theorem Ma.small(hf:Ai t)(j:D5 rules)(h:Ma t rules d):WE d:=by
 obtain ⟨_,_,q,u⟩:=Ux hf h.given;refine⟨SZ hf q u,by have:=h.few;omega,λm o=>?_⟩;obtain⟨i,w,y,rfl⟩:=BR o;have he:=h.moves i w y;unfold PP at he;exact(Rz hf j he).2.1.small
theorem ir(h:WG m):Fv m=Y m:=by
 have:=h.ea;have:=h.ec;have:=h.vars;unfold Fv slices_Clone_int;rw[Ap a_,bs,Ap a_,bs,Ap a_,bs]
theorem jR(h:WG m):Iq m=Y m:=by
 have:=h.ea;have:=h.ec;have:=h.vars;unfold Iq;rw[Ap a_,bs,Ap a_,bs,Ap a_,bs]
variable{α σ:Type}
theorem So[Inhabited α]{l:List α}(j:l.length<=1000)(g:List α->σ){f:Int->σ->Option σ}(h:∀(i:Int)s,0<=i->i<l.length->s.length<=1000->f i (g s)=Y (g (s++[AA l i]))):ns f 0 l.length (g [])=Y (g l):=by
 have:=BY (f:=f) (s:=g []) (λi=>g (l.take i.toNat)) (a:=0) (b:=l.length) U rfl (λi o q=>by
  grind [cE,Bb])
 rwa [C',w_]at this
theorem sG(h:WE d):Dn d=Y d:=by
 unfold Dn;rw[Yh h.start,bs];have:=So (l:=d.gt) h.len (λl=>AS.mk d.hV l) (f:=λ(o:Int)(w:AS)=>
  (idx d.gt o).bind λj=>
  (Fv j.n8).bind λq=>
  (AT w.gt [pq.mk j.gn q]).bind λu=>
  Y (AS.mk w.hV u)) (λi s o y z=>by
   rw [AC o y,bs,ir (h.moves _ (AF o y)),bs,AQ a9,bs])
 rw [this];rfl
theorem jQ(h:WE d):JO d=Y d:=by
 unfold JO;rw[UV h.start,bs];have:=So (l:=d.gt) h.len (λl=>AS.mk d.hV l) (f:=λ(j:Int)(y:AS)=>
  (idx d.gt j).bind λo=>
  (idx d.gt j).bind λq=>
  (Iq q.n8).bind λu=>
  (AT y.gt [pq.mk o.gn u]).bind λw=>
  Y (AS.mk y.hV w)) (λi s j z D=>by
   rw [AC j z,bs,bs,jR (h.moves _ (AF j z)),bs,AQ a9,bs])
 rw [this];rfl
abbrev zD:AS:=AS.mk (fl.mk (d3.mk [] []) []) []
noncomputable def RW(t:eb)(rules:List gn)(d:AS)(m:pq):AS×Int:=
 if (Pr t rules d).2.2≠0 then(zD,(Pr t rules d).2.2)else if d.gt.length=30 then(zD,17)else
 if (FB t rules (Pr t rules d).1 m).2≠0 then(zD,(FB t rules (Pr t rules d).1 m).2)else(⟨d.hV,d.gt++[m]⟩,0)
theorem Xh:(Pr t rules d).2.2=(Oj t rules d).2.2:=by grind[Pr]
theorem lQ(hf:Ai t)(j:D5 rules)(d:AS)(m:pq):EB t rules d m=Y (RW t rules d m):=by
 unfold EB RW;rw[pC hf j,bs];refine CL λo=>GM d! λu=>?_;rw[io hf j,bs];refine CL λq=>?_;rw[Xh]at o;have h:=(Qv.1 o).small hf j;have:=h.len;rw[sG h,bs,ir (Rz hf j q).2.1.small,bs,AQ a9,bs]
theorem lr(hf:Ai t)(j:D5 rules)(d:AS)(m:pq):LJ t rules d m=Y (RW t rules d m):=by
 unfold LJ RW;rw[dc hf j,bs];refine CL λo=>GM d! λu=>?_;rw[jN hf j,bs];refine CL λq=>?_;rw[Xh]at o;have h:=(Qv.1 o).small hf j;have:=h.len;rw[jQ h,bs,jR (Rz hf j q).2.1.small,bs,AQ a9,bs]
theorem gk{m:pq}(e:(RW t rules d m).2=0):Ma t rules d/\d.gt.length<30/\(FB t rules (Gg t rules d.hV d.gt).2 m).2=0/\RW t rules d m=(⟨d.hV,d.gt++[m]⟩,0):=by
 unfold RW at e|-;split at e
 .grind
 rename_i j;rw[az j];split at e
 .cases e
 rename_i o;rw[az o];split at e
 .grind
 rename_i q;rw[az q];have j:=C_.1 j;have u:=j;rw[Xh]at j;have h:=Qv.1 j;have:=h.few
 grind [Pr,Gg]
theorem oQ{m:pq}(h:Ma t rules d)(q:d.gt.length<30)(e:(FB t rules (Gg t rules d.hV d.gt).2 m).2=0):Ma t rules ⟨d.hV,d.gt++[m]⟩:=by
 refine ⟨h.given,an,λi j o=>?_⟩;simp at o;show PP t rules d.hV (d.gt++[m]) i=0;by_cases hi:i<d.gt.length
 .rw[Z4 j hi];exact h.moves i j hi
 grind [PP,Qf,C',A_]
theorem nH(h:Ma t rules d)(n:Nat):Ma t rules ⟨d.hV,d.gt.take n⟩:=by
 have:=h.few;refine⟨h.given,an,λi o j=>?_⟩;show PP t rules d.hV (d.gt.take n) i=0;have j:i<(d.gt.take n).length:=j;rw[cE]at j;have:=h.moves i o U
 grind [List.take_append_drop,Z4,cE]
theorem Rm[Inhabited α]{l:List α}(v:α)(j:0<=i)(o:i<l.length):AA (Av l i v) i=v:=by grind[AA,Av]
theorem XU[Inhabited α]{l:List α}{i j:Int}(v:α)(o:0<=i)(q:0<=j)(h:j≠i):AA (Av l i v) j=AA l j:=by grind[AA,Av]
end Go.Sf.Sc
namespace Go.Sf.Sc
open Go Go.Sf
instance:Inhabited Bi:=⟨⟨0,default⟩⟩
def QE(s:AG)(i:Int):a5:=if AA s.fd i<0\/s.ei.gt.length<AA s.fd i then Y 6 else if 0<i/\AA s.fd i<AA s.fd (i-1)then Y 12 else W
def K6(s:AG):Int:=if 20<s.fd.length then 3 else(fst (QE s) 0 s.fd.length).getD 0
variable{s:AG}{i:Int}
theorem Yb(y:0<=i)(z:i<s.fd.length)(D:s.fd.length<=20):(if((decide (AA s.fd i<0))||(decide ((s.ei.gt.length:Int)<AA s.fd i)))=X then
  Y (Be.ret 6)else(if(decide (0<i))=X then((idx s.fd (AH (i-1))).bind λu=>Y (decide (AA s.fd i<u)))else Y T).bind λw=>
  if w=X then Y (Be.ret 12)else Y (Be.next ()))=Y (Qd (QE s i)):=by
 unfold QE;by_cases j:AA s.fd i<0\/(s.ei.gt.length:Int)<AA s.fd i
 .rw[ae d?,ae j];rfl
 rw [az d?,az j];by_cases o:0<i
 .rw[ae e!,AV U U,AC U U,bs,bs];by_cases q:AA s.fd i<AA s.fd (i-1)
  .rw[ae j_,ae ⟨o,q⟩];rfl
  .rw[az j_,az (by simp[q])];rfl
 .rw[az e!,bs,az a?,az t?];rfl
theorem Xq(s:AG):EG s=Y (K6 s):=by
 unfold EG K6;refine GM d! λj=>?_
 grind [BF,QE,CG,AC,Yb]
theorem UX(s:AG):Ir s=Y (K6 s):=by
 unfold Ir K6;refine GM d! λj=>?_
 grind [BF,QE,CG,Yb,AC,R2]
structure I3(s:AG):Prop where
 few:s.fd.length<=20
 inn:∀i:Int,0<=i->i<s.fd.length->0<=AA s.fd i/\AA s.fd i<=s.ei.gt.length
 asc:∀i:Int,0<i->i<s.fd.length->AA s.fd (i-1)<=AA s.fd i
theorem Wo:K6 s=0↔I3 s:=by
 unfold K6;constructor
 .intro h;split at h
  .cases h
  rename_i u;have w:∀i:Int,0<=i->i<s.fd.length->QE s i=W:=PT (λi e=>by
   grind [QE]) h
  have q:∀i:Int,0<=i->i<s.fd.length->(0<=AA s.fd i/\AA s.fd i<=s.ei.gt.length)/\(0<i->AA s.fd (i-1)<=AA s.fd i):=λi j o=>by
   grind [QE]
  exact ⟨U,λi j o=>(q i j o).1,λi j o=>(q i U o).2 j⟩
 .rintro⟨u,w,q⟩
  grind [Az,QE]
noncomputable def Py(t:eb)(rules:List gn)(s:AG):Int:=if(Oj t rules s.ei).2.2≠0 then(Oj t rules s.ei).2.2 else K6 s
variable{t:eb}{rules:List gn}
theorem iy(hf:Ai t)(j:D5 rules)(s:AG):DQ t rules s=Y (Py t rules s):=by
 unfold DQ Py;rw[ar hf j,bs,Xq];exact DN λ_=>rfl
theorem jW(hf:Ai t)(j:D5 rules)(s:AG):KX t rules s=Y (Py t rules s):=by
 unfold KX Py;rw[bI hf j,bs,UX];exact DN λ_=>rfl
structure DY(t:eb)(rules:List gn)(s:AG):Prop where
 rep:Ma t rules s.ei
 marks:I3 s
theorem Pl:Py t rules s=0↔DY t rules s:=by
 unfold Py;constructor
 .intro h;split at h
  .grind
  rename_i j;exact⟨Qv.1 (C_.1 j),Wo.1 h⟩
 .rintro⟨j,o⟩
  grind [Qv,Wo]
structure NP(s:AG):Prop where
 d:WE s.ei
 marks:s.fd.length<=1000
theorem DY.small(hf:Ai t)(j:D5 rules)(h:DY t rules s):NP s:=⟨h.rep.small hf j,by have:=h.marks.few;omega⟩
theorem Wz(h:NP s):Dd s=Y s:=by
 have w:=h.d.start;have:=w.ea;have:=w.ec;have:=w.vals;have:=h.marks;unfold Dd;simp only[slices_Clone_int,Cd];rw[Ap a_,bs,Ap a_,bs,Ap a_,bs];have O:=So (l:=s.ei.hV.em) w.vals (λl=>AG.mk (AS.mk (fl.mk s.ei.hV.d3 l) []) s.fd) (f:=λ(q:Int)(y:AG)=>
  (idx s.ei.hV.em q).bind λz=>
  (AT [] z).bind λD=>
  (AT y.ei.hV.em [D]).bind λE=>
  Y (AG.mk (AS.mk (fl.mk y.ei.hV.d3 E) y.ei.gt) y.fd)) (λi x q u N=>by
   have:=w.rows _ (AF q u);rw[AC q u,bs,Ap a_,bs,AQ a9,bs])
 have P:=So (l:=s.ei.gt) h.d.len (λl=>AG.mk (AS.mk s.ei.hV l) s.fd) (f:=λ(K:Int)(s2:AG)=>
  (idx s.ei.gt K).bind λj=>
  (AT [] j.n8.d4.ca).bind λF=>
  (AT [] j.n8.d4.ci).bind λG=>
  (AT [] j.n8.ff).bind λH=>
  (AT s2.ei.gt [pq.mk j.gn (AO.mk (d4.mk F G) H)]).bind λI=>
  Y (AG.mk (AS.mk s2.ei.hV I) s2.fd)) (λi x q u N=>by
   have J:=h.d.moves _ (AF q u);have:=J.ea;have:=J.ec;have:=J.vars;rw[AC q u,bs,Ap a_,bs,Ap a_,bs,Ap a_,bs,AQ a9,bs])
 refine Eq.trans (congrArg (λo=>Option.bind o _) O) ?_;rw[bs];refine Eq.trans (congrArg (λo=>Option.bind o _) P) ?_;rfl
theorem bG(h:NP s):HU s=Y s:=by
 have:=h.marks;unfold HU;rw[jQ h.d,bs,Ap a_,bs]
abbrev zS:AG:=AG.mk zD []
def L6(s:AG):AG×Int:=if K6 s≠0 then(zS,K6 s)else if s.fd.length=20 then(zS,17)else(AG.mk s.ei (s.fd++[(s.ei.gt.length:Int)]),0)
theorem aj(h:NP s):FR s=Y (L6 s):=by
 have:=h.marks;unfold FR L6;rw[Xq,bs];refine CL λj=>GM d! λo=>?_
 grind [Wz,AQ,AU]
theorem ls(h:NP s):MV s=Y (L6 s):=by
 have:=h.marks;unfold MV L6;rw[UX,bs];refine CL λj=>GM d! λo=>?_;rw[bG h,bs,AQ a9,bs]
def Eh(s:AG):AG×Int:=if K6 s≠0 then(zS,K6 s)else if s.fd.length=0 then(zS,8)else(AG.mk s.ei (s.fd.take (s.fd.length-1)),0)
theorem Yg(h:NP s):Dt s=Y (Eh s):=by
 have:=h.marks;unfold Dt Eh;rw[Xq,bs];refine CL λj=>GM V λo=>?_
 grind [Wz,AV,DV]
theorem jF(h:NP s):LK s=Y (Eh s):=by
 have:=h.marks;unfold LK Eh;rw[UX,bs];refine CL λj=>GM V λo=>?_;rw[bG h,bs,AV U U,DV U U,bs,show((s.fd.length:Int)-1).toNat=s.fd.length-1 by omega]
def Ow(s:AG):AG×Int:=if s.fd.length=0 then(zS,8)else(AG.mk (AS.mk s.ei.hV (s.ei.gt.take (AA s.fd ((s.fd.length:Int)-1)).toNat)) (s.fd.take (s.fd.length-1)),0)
theorem dR(h:NP s)(j:I3 s):D1 s=Y (Ow s):=by
 have:=h.marks;unfold D1 Ow;refine GM V λo=>?_;have hi:=j.inn ((s.fd.length:Int)-1) U U
 grind [Wz,AV,AC,DV]
noncomputable def Sw(t:eb)(rules:List gn)(s:AG):AG×Int:=if Py t rules s≠0 then(zS,Py t rules s)else Ow s
theorem pK(hf:Ai t)(j:D5 rules)(s:AG):Cn t rules s=Y (Sw t rules s):=by
 unfold Cn Sw;rw[iy hf j,bs];refine CL λq=>?_;have o:=Pl.1 q;rw[dR (o.small hf j) o.marks,bs]
theorem pk(hf:Ai t)(j:D5 rules)(s:AG):JQ t rules s=Y (Sw t rules s):=by
 unfold JQ Sw;rw[jW hf j,bs];refine CL λq=>?_;have o:=Pl.1 q;have h:=o.small hf j;have:=h.marks;unfold Ow;refine GM V λu=>?_;have hi:=o.marks.inn ((s.fd.length:Int)-1) U U;rw[bG h,bs,AV U U,AC U U,bs,DV hi.1 hi.2,bs,DV U U,bs,show((s.fd.length:Int)-1).toNat=s.fd.length-1 by omega]
noncomputable def QF(t:eb)(rules:List gn)(s:AG)(m:pq):AG×Int:=if(RW t rules s.ei m).2≠0 then(zS,(RW t rules s.ei m).2)else(AG.mk (RW t rules s.ei m).1 s.fd,0)
theorem pH(hf:Ai t)(j:D5 rules)(h:I3 s)(m:pq):F5 t rules s m=Y (QF t rules s m):=by
 have:=h.few;unfold F5 QF slices_Clone_int;rw[lQ hf j,bs];refine CL λo=>?_
 grind [Ap,AU]
noncomputable def rN(t:eb)(rules:List gn)(s:AG)(m:pq):AG×Int:=if Py t rules s≠0 then(zS,Py t rules s)else QF t rules s m
theorem v8(hf:Ai t)(j:D5 rules)(s:AG)(m:pq):Qu t rules s m=Y (rN t rules s m):=by
 unfold Qu rN QF;rw[jW hf j,bs];refine CL λo=>?_;have:=(Pl.1 o).marks.few;rw[lr hf j,bs];refine CL λq=>?_;rw[Ap a_,bs]
noncomputable def Hp(t:eb)(rules:List gn)(s:AG)(a:Bi):AG×Int:=
 if a.l3=1 then QF t rules s a.pq else if a.l3=2 then L6 s else if a.l3=3 then Eh s else if a.l3=4 then Ow s else(zS,1)
variable{α β:Type}
theorem T5(x:α×β):(Y x).bind (λy=>Y (y.1,y.2))=Y x:=rfl
theorem rx(hf:Ai t)(o:D5 rules)(h:DY t rules s)(a:Bi):FK t rules s a=Y (Hp t rules s a):=by
 have j:=h.small hf o;unfold FK Hp;rw[pH hf o h.marks,aj j,Yg j,dR j h.marks,T5,T5,T5,T5]
 grind
theorem sP(hf:Ai t)(j:D5 rules)(h:DY t rules s)(a:Bi):IR t rules s a=Y (Hp t rules s a):=by
 have o:=h.small hf j;unfold IR Hp;rw[v8 hf j,ls o,jF o,pk hf j,T5,T5,T5,T5];have q:rN t rules s a.pq=QF t rules s a.pq:=az (by simp[Pl.2 h]);have u:Sw t rules s=Ow s:=az (by simp[Pl.2 h]);rw[q,u];exact GM V λ_=>GM V λ_=>GM V λ_=>GM V λ_=>rfl
end Go.Sf.Sc
namespace Go.Sf.Sc
open Go Go.Sf
variable{s:AG}
theorem Yc(h:I3 s)(q:s.fd.length<20):I3 (AG.mk s.ei (s.fd++[(s.ei.gt.length:Int)])):=by
 refine ⟨an,λi j o=>?_,λi j o=>?_⟩
 .simp only[bk,z?]at o;show 0<=AA (s.fd++[(s.ei.gt.length:Int)]) i/\AA (s.fd++[(s.ei.gt.length:Int)]) i<=_;by_cases e:i<s.fd.length
  .rw[Hq j e];exact h.inn i j e
  .have e:i=(s.fd.length:Int):=U
   rw [e,Qf];exact⟨U,D_ _⟩
 .simp only[bk,z?]at o;show AA (s.fd++[(s.ei.gt.length:Int)]) (i-1)<=AA (s.fd++[(s.ei.gt.length:Int)]) i;by_cases e:i<s.fd.length
  .rw[Hq U e,Hq U U];exact h.asc i j e
  .have e:i=(s.fd.length:Int):=U
   rw [e,Qf,Hq U U];exact(h.inn _ U U).2
theorem Se(h:I3 s)(n:Nat):I3 (AG.mk s.ei (s.fd.take n)):=by
 have hf:=h.few;refine⟨an,λi o j=>?_,λi o j=>?_⟩
 .have j:i<(s.fd.take n).length:=j;rw[cE]at j;show 0<=AA (s.fd.take n) i/\AA (s.fd.take n) i<=_;rw[KI U];exact h.inn i o U
 .have j:i<(s.fd.take n).length:=j;rw[cE]at j;show AA (s.fd.take n) (i-1)<=AA (s.fd.take n) i;rw[KI U,KI U];exact h.asc i o U
theorem Vl(h:I3 s):∀(k:Nat)(i:Int),0<=i->i+k<s.fd.length->AA s.fd i<=AA s.fd (i+k)
 |0,i,_,_=>by rw[show i+((0:Nat):Int)=i by omega];exact D_ _|k+1,i,j,u=>by
  have o:=Vl h k i j U;have q:=h.asc (i+k+1) U U
  grind
variable{d:AS}
theorem cI{m:Fp}(h:I3 (AG.mk d m))(x:pq):I3 (AG.mk ⟨d.hV,d.gt++[x]⟩ m):=by
 refine ⟨h.few,λi j o=>?_,h.asc⟩;have q:=h.inn i j o
 grind
variable{t:eb}{rules:List gn}
theorem Zk(h:DY t rules s){a:Bi}(e:(Hp t rules s a).2=0):DY t rules (Hp t rules s a).1:=by
 unfold Hp at e|-;split at e
 .rename_i o;rw[ae o];unfold QF at e|-;split at e
  next j=>exact absurd e j
  rename_i j;rw[az j];obtain⟨q,E,y,G⟩:=gk (C_.1 j);rw[G];exact⟨oQ q E y,cI h.marks a.pq⟩
 rename_i o;rw[az o];split at e
 .rename_i o;rw[ae o];unfold L6 at e|-;split at e
  next j=>exact absurd e j
  rename_i j;rw[az j];split at e
  .cases e
  rename_i q;rw[az q];have:=h.marks.few;exact⟨h.rep,Yc h.marks U⟩
 rename_i o;rw[az o];split at e
 .rename_i o;rw[ae o];unfold Eh at e|-;split at e
  next j=>exact absurd e j
  rename_i j;rw[az j];split at e
  .cases e
  rename_i q;rw[az q];exact⟨h.rep,Se h.marks _⟩
 rename_i o;rw[az o];split at e
 .rename_i o;rw[ae o];unfold Ow at e|-;split at e
  .cases e
  rename_i q;rw[az q];refine⟨nH h.rep _,?_⟩;have u:=h.marks;have w:=Se u (s.fd.length-1);refine⟨w.few,λi z D=>?_,w.asc⟩;have F:i<(s.fd.take (s.fd.length-1)).length:=D;rw[cE]at F;have j:=w.inn i z D;refine⟨j.1,?_⟩;show AA (s.fd.take (s.fd.length-1)) i<=((s.ei.gt.take _).length:Int);rw[KI U,cE];have E:=u.inn ((s.fd.length:Int)-1) U U;have y:=Vl u (s.fd.length-1-i.toNat) i z U;rw[show i+((s.fd.length-1-i.toNat:Nat):Int)=(s.fd.length:Int)-1 by omega]at y;omega
 .cases e
noncomputable def Is(t:eb)(rules:List gn)(s:AG)(l:List Bi):AG:=l.foldl (λs a=>(Hp t rules s a).1) s
noncomputable def Ru(t:eb)(rules:List gn)(s:AG)(l:List Bi)(i:Int):Int:=(Hp t rules (Is t rules s (l.take i.toNat)) (AA l i)).2
theorem Pj(t:eb)(rules:List gn)(s:AG)(l:List Bi)(a:Bi):Is t rules s (l++[a])=(Hp t rules (Is t rules s l) a).1:=by
 unfold Is
 grind
theorem ba(h:DY t rules s){l:List Bi}:∀n:Nat,n<=l.length->(∀j:Int,0<=j->j<n->Ru t rules s l j=0)->DY t rules (Is t rules s (l.take n))
 |0,_,_=>h|n+1,w,he=>by
  have u:=ba h n U λj o q=>he j o U
  grind [Bb,C',Pj,Ru,Zk]
noncomputable def bY(t:eb)(rules:List gn)(s:AG)(l:List Bi):AG×Int×Int:=
 if Py t rules s≠0 then(zS,0,Py t rules s)else if 100<l.length then(zS,0,3)else
 match fst (λi=>(nz (Ru t rules s l i)).map λe=>(zS,i,e)) 0 l.length with
 |some r=>r|none=>(Is t rules s l,(l.length:Int),0)
variable{ρ:Type}{e:Int}
theorem rr{g:Int->ρ}:(nz e).map g=if e=0 then W else Y (g e):=by unfold nz;split<;>rfl
variable{i:Int}
theorem su{l:List Bi}(h:∀j,0<=j->j<i->(nz (Ru t rules s l j)).map (λe=>(zS,j,e))=W):∀j:Int,0<=j->j<i.toNat->Ru t rules s l j=0:=by grind[K5,FP]
theorem iv(hf:Ai t)(j:D5 rules)(s:AG)(l:List Bi):DB t rules s l=Y (bY t rules s l):=by
 unfold DB bY;rw[iy hf j,bs];refine CL λu=>GM d! λz=>?_;have h:=Pl.1 u;rw[Wz (h.small hf j),bs,JC (a:=0) (s:=(zS,s)) (λi=>(zS,Is t rules s (l.take i.toNat))) (λi=>(nz (Ru t rules s l i)).map λe=>(zS,i,e)) U rfl]
 .cases fst (λi=>(nz (Ru t rules s l i)).map λe=>(zS,i,e)) 0 (l.length:Int)with
  |some r=>rfl|none=>
   show Y _=Y _;rw[C',w_]
 .intro i o q w;have y:=ba h (l:=l) i.toNat U (su w);rw[AC o q,bs,rx hf j y,bs,rr];by_cases e:Ru t rules s l i=0
  .rw[az (show¬(!decide ((Hp t rules (Is t rules s (l.take i.toNat)) (AA l i)).2=0))=X by rw[show(Hp t rules (Is t rules s (l.take i.toNat)) (AA l i)).2=0 from e];decide),ae e,Bb o q,Pj];rfl
  .rw[ae (show(!decide ((Hp t rules (Is t rules s (l.take i.toNat)) (AA l i)).2=0))=X by rw[Bool.not_eq_true'];exact decide_eq_false e),az e];rfl
end Go.Sf.Sc
namespace Go.Sf.Sc
open Go Go.Sf
variable{ρ:Type}
theorem te{f:Int×Int->Option (Be (Int×Int) ρ)}(I:Int->Int->Prop)(b:Int){s a:Int}(w:I a s)
  (step:∀i s,a<=i->I i s->(i<b/\∃s',f (s,i)=Y (.next (s',i+1))/\I (i+1) s')\/f (s,i)=Y (.brk (s,i))):∃i s',a<=i/\I i s'/\CY f (s,a)=Y (.inl (s',i)):=by
 have key:∀(n:Nat)(i s:Int),a<=i->I i s->b-i<=n->∃j s',i<=j/\I j s'/\Ks f (s,i) (.inl (s',j)):=by
  intro n
  induction n with
  |zero=>
   intro i s hi o y;rcases step i s hi o with⟨h,_⟩|h
   .omega
   .exact⟨i,s,D_ _,o,.brk h⟩
  |succ n F=>
   intro i s hi o y;rcases step i s hi o with⟨_,s',q,u⟩|h
   .obtain⟨j,s2,G,z,D⟩:=F (i+1) s' U u U;exact⟨j,s2,U,z,.next q D⟩
   .exact⟨i,s,D_ _,o,.brk h⟩
 obtain ⟨j,s',q,u,E⟩:=key (b-a).toNat a s (D_ _) w U;exact⟨j,s',q,u,E.eq⟩
theorem ZA{q w k:Int}(c:Int)(H:q<=1000)(y:0<=k)(o:k<=1000)(u:1<=c/\c<=80)(z:1<=w/\w<=400000):∃w' D,(1<=w'/\w'<=400000)/\CY (ρ:=ρ) (λ(j:Int×Int)=>
  if ((decide (j.2<q))&&(decide (j.1<=5000)))=X then
  Y (.next (AH (j.1*c),AH (j.2+1)))
  else
  Y (.brk (j.1,j.2))) (w,k)=Y (.inl (w',D)):=by
 obtain ⟨i,s',K,F,G⟩:=te (ρ:=ρ) (f:=λ(j:Int×Int)=>
  if ((decide (j.2<q))&&(decide (j.1<=5000)))=X then
  Y (.next (AH (j.1*c),AH (j.2+1)))
  else
  Y (.brk (j.1,j.2))) (λi s=>(1<=s/\s<=400000)/\0<=i/\i<=1000) q (s:=w) (a:=k) ⟨z,y,o⟩ (λi s hi E=>by
   by_cases e:i<q/\s<=5000
   .left;have I:1*1<=s*c:=D! E.1.1 u.1 U U;have J:s*c<=5000*80:=D! e.2 u.2 U U
    grind [AV]
   grind)
 exact ⟨s',i,F.1,G⟩
theorem dl:∀(N:Nat)(c:d5)(p:d7)(w:Int),SizeOf.sizeOf c<=N->De c->OV p->EN c<=1000->1<=w->w<=5000->∃b,∀n,N<=n->C5 n p c w=Y b
 |0,c,_,_,h,_,_,_,_,_=>by have:=DP c;omega|N+1,c,p,w,h,η,Q,hk,w0,w1=>by
  have key:∀q:d7,OV q->∃b,∀n,N<=n->ek (CY (ρ:=Bool) (λ(j:Int×Int)=>
    if ((decide (j.2<(q.d3.ca.length:Int)))&&(decide (j.1<=5000)))=X then
    Y (.next (AH (j.1*40),AH (j.2+1)))
    else
    Y (.brk (j.1,j.2))) (w,(p.d3.ca.length:Int))) (λj=>
    ek (CY (ρ:=Bool) (λ(s2:Int×Int)=>
    if ((decide (s2.2<(q.d3.ci.length:Int)))&&(decide (s2.1<=5000)))=X then
    Y (.next (AH (s2.1*80),AH (s2.2+1)))
    else
    Y (.brk (s2.1,s2.2))) (j.1,(p.d3.ci.length:Int))) (λs2=>
    ek (CY (ρ:=Bool) (λ(u:Int)=>
    if ((decide (u<(c.gl.length:Int)))&&(decide (s2.1<=5000)))=X then
    (idx c.gl u).bind λD=>
    (C5 n q D s2.1).bind λE=>
    if (!E)=X then
    Y (.ret T)
    else
    Y (.next (AH (u+1)))
    else
    Y (.brk u)) 0) (λu=>
    Y (decide (s2.1<=5000))) (λζ=>Y ζ)) (λδ=>Y δ)) (λZ=>Y Z)=Y b:=by
   intro q y;have q1:=y.ea;have q2:=y.ec;have p1:=Q.ea;have p2:=Q.ec;obtain⟨a,k,ha,κ⟩:=ZA (ρ:=Bool) (q:=q.d3.ca.length) (w:=w) (k:=p.d3.ca.length) 40 U U U U U;obtain⟨a',k',K,z⟩:=ZA (ρ:=Bool) (q:=q.d3.ci.length) (w:=a) (k:=p.d3.ci.length) 80 U U U U ha;have hkl:c.gl.length<=1000:=by have:=Tx c.gl;have:=Ty c;omega
   by_cases J:a'<=5000
   .have kids:∀x∈c.gl,∃b,∀n,N<=n->C5 n q x a'=Y b:=λx F=>by
     have G:=EE F;have H:=Ve F;have h3:=Ty c;exact dl N x q a' U (η.k x F) y U K.1 J
    have o:∀i:Int,∃b:Bool,0<=i->i<c.gl.length->∀n,N<=n->C5 n q (AA c.gl i) a'=Y b:=λi=>by
     by_cases e:0<=i/\i<c.gl.length
     .obtain⟨b,O⟩:=kids _ (AF e.1 e.2);exact⟨b,λ_ _=>O⟩
     .exact⟨X,λG H=>absurd ⟨G,H⟩ e⟩
    obtain ⟨g,hg⟩:=Classical.axiomOfChoice o;refine⟨(fst (λi=>if g i=X then W else Y (Sum.inr T:Int ⊕ Bool)) 0 c.gl.length).isNone,λn I=>?_⟩;rw[κ,Bc];simp only[];rw[z,Bc];simp only[];rw[NN (λi=>if g i=X then W else Y (.inr T)) (b:=c.gl.length) U]
    .cases e:fst (λi=>if g i=X then W else Y (Sum.inr T:Int ⊕ Bool)) 0 (c.gl.length:Int)with
     |none=>
      show Y (decide (a'<=5000))=Y X;rw[decide_eq_true J]
     |some r=>
      obtain ⟨i,_,_,P,_⟩:=C2 e;split at P
      .cases P
      .cases P;rfl
    .intro i S ε _;rw[ae an,AC S ε,bs,hg i S ε n I,bs,AV U U];cases g i<;>rfl
    .rw[az V]
   .refine⟨T,λn I=>?_⟩;rw[κ,Bc];simp only[];rw[z,Bc];simp only[];rw[NN (λ_=>W) (b:=0) U (λi G H _=>U) (by rw[az an])];rw[iI U];show Y _=Y _;rw[decide_eq_false J]
  have y:OV (if c.l3=5 then c.d7 else p):=by split;exact η.q;exact Q
  obtain ⟨b,O⟩:=key _ y;refine⟨b,λn I=>?_⟩;obtain⟨n,rfl⟩:∃k,n=k+1:=⟨n-1,U⟩;rw[C5,show(if decide (c.l3=5)=X then Y c.d7 else Y p)=Y (if c.l3=5 then c.d7 else p)by by_cases e:c.l3=5<;>simp[e],bs];exact O n U
end Go.Sf.Sc
namespace Go.Sf.Sc
open Go Go.Sf
variable{r:gn}
theorem bX(j:(BX r).Sm):(AI r.d5).Sm:=by
 have o:TV.zQ [_,_,_,_,_,_,_,_,_,_,_,_,_,_,_,_,_,_,_,_,_,_,_,_,_]:=j;obtain⟨_,_,_,_,_,_,_,_,_,_,_,F,G,H,I,_,q,u,c3,w,c5,y,z,D,E,_⟩:=o;exact⟨q,u,c3,w,c5,y,z,D,E,trivial⟩
variable{t:eb}
theorem ot(hf:Ai t)(st:(AJ t).Sm)(j:(BX r).Sm)(h:fl):∃b,KU t r h=Y b/\(b=X->Pm r/\EN r.d5<=40):=by
 obtain ⟨o,q,_⟩:=T6 st;obtain⟨u,w,y⟩:=ki j;obtain⟨z,D,E⟩:=jK hf st r.kg (bX j) h;unfold KU
 grind
variable{rules:List gn}
theorem ou(st:(AJ t).Sm)(κ:∀r∈rules,(BX r).Sm)(h:fl):∃b,MT t rules h=Y b/\(b=X->Ai t/\D5 rules):=by
 obtain ⟨b1,e1,f1⟩:=T6 st;obtain⟨b2,e2⟩:=Z7 h;unfold MT;by_cases Q:(((decide (4<(rules.length:Int)))&&(decide ((rules.length:Int)<=10)))||(decide (12<(rules.length:Int))))=X
 .rw[ae Q,bs,ae rfl,bs,ae rfl];exact⟨T,rfl,λh=>c?⟩
 rw [az Q,e1,bs,bs];cases b1 with
 |false=>exact⟨T,rfl,λh=>c?⟩
 |true=>
 rw [az a?,e2,bs,bs];cases b2 with
 |false=>exact⟨T,rfl,λh=>c?⟩
 |true=>
 rw [az a?];have hf:=f1 rfl;have δ:rules.length<=12:=by
  simp only[B',sx,yk,not_or]at Q;omega
 rcases Qk (f:=λ(o:Int)(η:Bool)=>
  (idx rules o).bind λy=>
  (KU t y h).bind λz=>
  if (!z)=X then
  Y (.ret T)
  else
  (if η=X then((idx rules o).bind λD=>
  Y (decide ((D.kg.d3.ca.length:Int)<=3)))else Y T).bind λE=>
  (if E=X then((idx rules o).bind λF=>
  Y (decide ((F.kg.d3.ci.length:Int)<=2)))else Y T).bind λG=>
  (if G=X then((idx rules o).bind λH=>
  Y (decide ((H.fq.d3.ca.length:Int)<=5)))else Y T).bind λI=>
  (if I=X then((idx rules o).bind λJ=>
  (idx rules o).bind λK=>
  (Mj J.kg K.d5 1).bind λN=>
  Y (N))else Y T).bind λO=>
  Y (.next O)) (λi _=>∀j:Int,0<=j->j<i->Pm (AA rules j)/\EN (AA rules j).d5<=40) (λ_=>False) (λr=>r=T) (a:=0) (b:=rules.length) (s:=X) U (λj h1 h2=>U) (λi s o u P=>by
   have Z:=AF o u;obtain⟨b3,q,f3⟩:=ot hf st (κ _ Z) h;simp only[AC o u,bs];rw[q,bs];cases b3 with
   |false=>exact .inr (.inr ⟨T,rfl,rfl⟩)|true=>
    obtain ⟨S,k2⟩:=f3 rfl;obtain⟨ε,e4⟩:=dl _ (AA rules i).d5 (AA rules i).kg 1 (b6 _) S.cond S.left U a? a?;have e5:Mj (AA rules i).kg (AA rules i).d5 1=Y ε:=D3 _ e4;left;refine⟨(((s&&decide (((AA rules i).kg.d3.ca.length:Int)<=3))&&decide (((AA rules i).kg.d3.ci.length:Int)<=2))&&decide (((AA rules i).fq.d3.ca.length:Int)<=5))&&ε,?_,λj ζ j1=>?_⟩
    .rw[az a?,e5];cases s<;>cases decide (((AA rules i).kg.d3.ca.length:Int)<=3)<;>cases decide (((AA rules i).kg.d3.ci.length:Int)<=2)<;>cases decide (((AA rules i).fq.d3.ca.length:Int)<=5)<;>rfl
    .by_cases e:j=i
     .rw[e];exact⟨S,k2⟩
     .exact P j ζ U)with⟨s',q,h3⟩|⟨r,q,h3⟩
 .rw[q,Bc];have P:=h3.resolve_right id;have w:D5 rules:=⟨δ,λr w=>by
   obtain ⟨i,o,u,rfl⟩:=BR w;exact P i o u⟩
  rw [bB hf w,bs];exact⟨_,rfl,λ_=>⟨hf,w⟩⟩
 .rw[q,RR,h3];exact⟨T,rfl,λh=>c?⟩
theorem lf(g:d3):Ny g g=Y X:=by
 unfold Ny;rw[Xs,bs,az V,BT (λ_=>T) T]
 .rw[show nd (λ_=>T) 0 (g.ci.length:Int)=T from Br.2 λ_ _ _=>rfl];rfl
 grind [AC]
variable{l:Fp}
theorem jA(q:l.length<=1000):KA l l=Y 0:=by
 unfold KA;rw[NN (λ_=>W) (b:=l.length) U]
 .rw[show fst (λ_=>(W:Option (Int ⊕ Int))) 0 (l.length:Int)=W from Az.2 λ_ _ _=>rfl];show Y (AH ((l.length:Int)-l.length))=Y 0;rw[AV U U,Int.sub_self]
 .intro i o j _;rw[ae h?,AC o j,bs,bs,az V,AV U U];rfl
 .rw[az V]
variable{h:fl}
theorem sO(q:J4 h):N1 h h=Y X:=by
 unfold N1;rw[lf,bs,az V,BT (λ_=>T) T]
 .rw[show nd (λ_=>T) 0 (h.em.length:Int)=T from Br.2 λ_ _ _=>rfl];rfl
 .intro i j o _;rw[AC j o,bs,bs,jA (q.rows _ (AF j o)),bs];simp
theorem pQ(l:List pq):IQ l l=Y X:=by
 unfold IQ;rw[az V,BT (λ_=>T) T]
 .rw[show nd (λ_=>T) 0 (l.length:Int)=T from Br.2 λ_ _ _=>rfl];rfl
 .intro i j o _;simp only[AC j o,bs];unfold QI;simp only[dX,Xs,bs];simp
variable{d:AS}
theorem vz(h:J4 d.hV):OC d d=Y X:=by grind[OC,sO,pQ]
variable{s:AG}
theorem v7(h:NP s):OD s s=Y X:=by
 unfold OD;rw[vz h.d.start,bs,ae rfl,Xs];simp
end Go.Sf.Sc
namespace Go.Sf.Sc
open Go Go.Sf
end Go.Sf.Sc
namespace Go.Sf.Sc
open Go Go.Sf
def Pp(t:eb)(p g:d3)(inj:Bool):List d4×Int:=
 if El t p g≠0 then([],El t p g)else if 5000<(J6 t p g (RI p) inj).length then([],3)else(J6 t p g (RI p) inj,0)
variable{t:eb}
theorem sQ(hf:Ai t)(p g:d3)(inj:Bool):Pe t p g inj=Y (Pp t p g inj):=by
 unfold Pe Pp;rw[Ss hf,bs];refine CL λj=>?_;obtain⟨hv,q⟩:=Xd (inj:=inj) (pa:=RI p) j (by simp[RI]) (by simp[RI]);have o:=(Mx j).2.1;have:=o.ea;have:=o.ec
 grind [l7,bs,ny,J6,RI]
end Go.Sf.Sc
namespace Go.Sf.Sc
open Go Go.Sf
variable{α:Type}{f:Int->List α->Option (List α)}
theorem iO[Inhabited α]{x:List α}{p:α->Bool}(w:x.length<=5000)
  (hf:∀(i:Int)(s:List α),0<=i->i<x.length->s.length<=5000->f i s=Y (if p (AA x i)=X then s++[AA x i]else s)):
  ns f 0 (x.length:Int) []=Y (x.filter p):=by
 rw [BY (a:=0) (b:=x.length) (s:=[]) (λi=>(x.take i.toNat).filter p) U rfl,C',w_];intro i j o;have q:((x.take i.toNat).filter p).length<=5000:=l!
 rw [hf i _ j o q,Bb j o,List.filter_append];cases u:p (AA x i)<;>simp[u]
def PV(t:eb)(p:d7)(h:fl)(inj:Bool):List AO×Int:=
 if O4 t p h≠0 then([],O4 t p h)else if(Pp t p.d3 h.d3 inj).2≠0 then([],(Pp t p.d3 h.d3 inj).2)else
 (((Pp t p.d3 h.d3 inj).1.filter λy=>decide ((Hc p h y).2=0)).map λy=>⟨y,(Hc p h y).1⟩,0)
variable{t:eb}{p g:d3}
theorem gj{inj:Bool}(h:(Pp t p g inj).2=0):(Pp t p g inj).1.length<=5000/\∀m∈(Pp t p g inj).1,Fa t p g m inj=0:=by grind[Pp,iG]
theorem l4(hf:Ai t)(p:d7)(h:fl)(inj:Bool):KB t p h inj=Y (PV t p h inj):=by
 unfold KB PV;rw[Ys hf,bs];refine CL λw=>?_;rw[sQ hf,bs];refine CL λz=>?_;obtain⟨G,H⟩:=gj z;rw[Rb (F:=λy=>((Hc p h y).1,decide ((Hc p h y).2=0))) G,bs];intro i s D E o;have q:HO p h (AA (Pp t p.d3 h.d3 inj).1 i)=Y (Hc p h (AA (Pp t p.d3 h.d3 inj).1 i)):=by
  obtain ⟨hv,u,hh,j⟩:=Rh hf w (H _ (AF D E));exact dh u (λs o=>Ol (C6 hv) u hh j o)
 grind [AC,bs,Hc,AA,Pp,AQ,AU]
variable{h:fl}
theorem Yd{p:d7}{inj:Bool}:(PV t p h inj).1.length<=5000:=by grind[PV,gj,c8,Nat.le_trans,v_]
noncomputable def ZP(t:eb)(r:gn)(h:fl):Int:=if Dc t r≠0 then Dc t r else(E9 t h).2
variable{r:gn}
theorem pW(hf:Ai t)(fr:Pm r)(h:fl):Io t r h=Y (ZP t r h):=by
 unfold Io ZP;rw[bK hf fr,bs,UW hf];exact CL λ_=>rfl
noncomputable def Kx(t:eb)(r:gn)(h:fl):List AO×Int:=
 if ZP t r h≠0 then([],ZP t r h)else if(PV t r.kg h r.mr).2≠0 then([],(PV t r.kg h r.mr).2)else
 ((PV t r.kg h r.mr).1.filter λm=>decide ((J5 t r h m).2=0),0)
theorem sR(hf:Ai t)(fr:Pm r)(j:EN r.d5<=40)(h:fl):HT t r h=Y (Kx t r h):=by
 unfold HT Kx;rw[pW hf fr,bs];refine CL λo=>?_;rw[l4 hf,bs];refine CL λq=>?_;rw[iO (p:=λm=>decide ((J5 t r h m).2=0)) Yd,bs]
 grind [AC,bs,jU,J5,AA,PV,AQ,AU]
theorem oT:(Kx t r h).1.length<=5000:=by grind[Kx,Nat.le_trans,v_,Yd]
variable{m:AO}
theorem rG(j:m∈(Kx t r h).1):(J5 t r h m).2=0:=by
 unfold Kx at j
 grind
end Go.Sf.Sc
namespace Go.Sf
variable{σ ρ:Type}
theorem VL{f g:Int->σ->Option (Be σ ρ)}:∀(n:Nat)(i:Int)(s:σ),(∀j s,i<=j->j<i+n->f j s=g j s)->yf f n i s=yf g n i s
 |0,_,_,_=>rfl|n+1,i,s,h=>by
  rw [EW,EW,h i s U U];cases g i s with
  |none=>rfl|some c=>
   cases c with
   |next s'=>exact VL n (i+1) s' λj t o q=>h j t U U|brk _=>rfl|ret _=>rfl
variable{a b:Int}
theorem ew{f g:Int->σ->Option (Be σ ρ)}{s:σ}(h:∀j s,a<=j->j<b->f j s=g j s):kl f a b s=kl g a b s:=VL _ _ _ λj t o q=>h j t o U
end Go.Sf
namespace Go.Sf.Sc
open Go Go.Sf
instance:Inhabited pq:=⟨⟨0,default⟩⟩
noncomputable def W9(t:eb)(rules:List gn)(h:fl):Option (List pq×Int):=
 ek (kl (ρ:=(List pq×Int)) (λ(i0:Int)(s0:List pq)=>
 (idx rules i0).bind λx20=>
 if (!decide ((Kx t x20 h).2=0))=X then
 Y (.ret ([],(Kx t x20 h).2))
 else
 (ns (λ(i2:Int)(s2:List pq)=>
 (idx (Kx t x20 h).1 i2).bind λx36=>
 (AT s2 [pq.mk i0 x36]).bind λx43=>
 Y x43) 0 ((Kx t x20 h).1.length:Int) s0).bind λs2=>
 Y (.next s2)) 0 (rules.length:Int) []) (λs0=>
 Y (s0,0)) (λv0=>Y v0)
variable{t:eb}{rules:List gn}
theorem sd(hf:Ai t)(o:D5 rules)(h:fl):G8 t rules h=W9 t rules h:=by
 unfold G8 W9;congr 1;refine ew λj s q u=>?_;have:=o.each _ (AF q u)
 grind [AC,bs,sR]
variable{i:Int}
theorem kR{L:List AO}{s:List pq}(z:s.length+L.length<=100000):ns (λ(y:Int)(s2:List pq)=>
 (idx L y).bind λo=>
 (AT s2 [pq.mk i o]).bind λq=>
 Y q) 0 (L.length:Int) s=Y (s++L.map (pq.mk i)):=by
 rw [BY (λj=>s++(L.take j.toNat).map (pq.mk i)) U V,C',w_];intro j u w;rw[AC u w,bs,AQ a9,bs,Bb u w,x!,<-c9];rfl
theorem lc(E:D5 rules)(h:fl):∃v,W9 t rules h=Y v/\v.1.length<=60000/\(∀m∈v.1,(FB t rules h m).2=0)/\(v.2=0\/∃r∈rules,v.2=(Kx t r h).2):=by
 unfold W9;have z:=E.len;rcases Qk (f:=λ(o:Int)(F:List pq)=>
  (idx rules o).bind λj=>
  if (!decide ((Kx t j h).2=0))=X then
  Y (.ret ([],(Kx t j h).2))
  else
  (ns (λ(G:Int)(s2:List pq)=>
  (idx (Kx t j h).1 G).bind λu=>
  (AT s2 [pq.mk o u]).bind λw=>
  Y w) 0 ((Kx t j h).1.length:Int) F).bind λs2=>
  Y (.next s2)) (λi s=>(s.length:Int)<=5000*i/\∀m∈s,(FB t rules h m).2=0) (λ_=>False) (λv=>v.1=[]/\∃r∈rules,v.2=(Kx t r h).2) (a:=0) (b:=rules.length) (s:=[]) U ⟨V,V⟩ (λi s o y hi=>by
   have I:=oT (t:=t) (r:=AA rules i) (h:=h);rw[AC o y,bs];by_cases e:(Kx t (AA rules i) h).2=0
   .left;rw[az c!,kR U,bs];refine⟨_,rfl,by rw[bk,c8];omega,λm q=>?_⟩;rcases z!.1 q with q|q
    .exact hi.2 m q
    .obtain⟨x,H,rfl⟩:=u?.1 q;unfold FB;rw[az (by dsimp only;omega)];exact rG H
   .right;right;rw[ae c!];exact⟨_,rfl,rfl,_,AF o y,rfl⟩)with⟨s',e,h1⟩|⟨v,e,h1⟩
 .rw[e,Bc];have D:=h1.resolve_right id;exact⟨_,rfl,by have:=D.1;dsimp only;omega,D.2,.inl rfl⟩
 .rw[e,RR];exact⟨_,rfl,by rw[h1.1];simp,by rw[h1.1];simp,.inr h1.2⟩
theorem pP(j:D5 rules)(h:fl):∃v,W9 t rules h=Y v/\v.1.length<=60000/\∀m∈v.1,(FB t rules h m).2=0:=by
 obtain ⟨v,e,o,q,_⟩:=lc (t:=t) j h;exact⟨v,e,o,q⟩
end Go.Sf.Sc
