/- Plain lemmas: what the functions of the program and of the reference compute. -/
import Derived.Test.YthcncnllajfkfaaGreatP46
set_option linter.all false
set_option maxRecDepth 100000
open Option renaming some->Y,none->W
open Bool renaming true->X,false->T
open List renaming mem_filter->w_,mem_map->w!,mem_cons_of_mem->w?,foldl_append->x_,mem_append_left->x!,map_map->x?,length_filter_le->y_,map_id->y!,ext_getElem->y?,take_length->z_,getElem_map->z!,getElem_replicate->z?,map_append->A_,map_congr_left->A',map_singleton->A!,append_nil->A?,mem_cons_self->B_,getElem?_eq_some_iff->B',map->B!,length->B?,mem_append->C_,getElem_mem->C'
open Bool renaming true_and->C!,or_eq_false_iff->C?,eq_iff_iff->D_,or_eq_true->D',false_and->D!,eq_false_iff->D?
open Classical renaming not_not->E_,propDecidable->E'
open Int renaming toNat_natCast->E!,add_zero->E?,add_assoc->F_,le_refl->F!,ofNat_le->F?,mul_le_mul->G_
namespace Go.Sf.Sc
open Go Go.Sf
def UH(p g:d5)(m:d6):d5:=⟨m.d3.map (AA g.d3),p.d4⟩
variable{l:Fp}
theorem Ri{n x:Int}:x∈BC l n↔(0<=x/\x<n)/\x∉l:=by
 unfold BC;rw[w_];constructor
 .grind[Int.natCast_nonneg,Bu]
 .rintro⟨⟨e,j⟩,o⟩;refine⟨w!.2 ⟨x.toNat,List.mem_range.2 U,Int.toNat_of_nonneg e⟩,?_⟩
  grind [hasB,Bu]
theorem On(l:Fp)(n:Int):(BC l n).Pairwise (·<·):=by grind[BC,List.pairwise_lt_range.imp]
def FA(f0 fl:Fp):Fp:=(BC fl f0.length).map (AA f0)
theorem VR{f0 fl:Fp}{x:Int}:x∈FA f0 fl↔∃i:Int,(0<=i/\i<f0.length)/\i∉fl/\AA f0 i=x:=by grind[FA,Ri]
def Aax(f0 fl:Fp):Bool:=l3 (λa=>l3 (λb=>decide (AA f0 a=AA f0 b)&&(!hasB fl a||!hasB fl b)) (a+1) f0.length) 0 f0.length
variable{a b:Int}
theorem kV{f0 fl:Fp}(h:Aax f0 fl=T)(a0:0<=a)(a1:a<f0.length)(w:0<=b)(u:b<f0.length)(ha:a∈fl)(e:AA f0 a=AA f0 b):b∈fl:=by
 unfold Aax at h;rw[Bm]at h;by_cases o:a=b
 .exact o▸ha
 by_cases y:a<b
 .have j:=h a a0 a1;rw[Bm]at j;have s:=j b U u;rw[decide_eq_true e,C!,C?]at s
  grind [Bu]
 .have j:=h b w u;rw[Bm]at j;have s:=j a U a1;rw[decide_eq_true e.symm,C!,C?]at s
  grind [Bu]
variable{i:Int}
theorem VS{f0 fl:Fp}(h:Aax f0 fl=T)(e:0<=i)(i1:i<f0.length)(j:i∈fl):AA f0 i∉FA f0 fl:=by grind[VR,kV]
def O6(g:d5)(fl:BE)(m:d6)(i:Int):Bool:=
 !hasB m.d4 i&&(hasB (FA m.d3 fl.d3) (AA g.d4 i).ke||hasB (FA m.d3 fl.d3) (AA g.d4 i).To)
def OL(g:d5)(fl:BE)(m:d6):BE:=⟨BC (FA m.d3 fl.d3) g.d3.length,BC (FA m.d4 fl.d4) g.d4.length⟩
def O4(l g:d5)(fl:BE)(m:d6):BE×Int:=
 if IY l g m≠0 then(⟨[],[]⟩,IY l g m)else if EG l fl≠0 then(⟨[],[]⟩,EG l fl)else
 if (Aax m.d3 fl.d3||Aax m.d4 fl.d4)=X then(⟨[],[]⟩,15)else
 if l3 (O6 g fl m) 0 g.d4.length=X then(⟨[],[]⟩,14)else(OL g fl m,0)
structure cq(l g:d5)(fl:BE)(m:d6):Prop where
 mor:Ts l g m
 part:Qq l fl
 ec:Aax m.d3 fl.d3=T
 eh:Aax m.d4 fl.d4=T
 free:∀i:Int,0<=i->i<g.d4.length->O6 g fl m i=T
variable{g:d5}
theorem fI{p:BE}(h:EG g p=0):B2 g=0/\OG g p=0:=by grind[EG]
theorem Y8{l g:d5}{fl:BE}{m:d6}(h:(O4 l g fl m).2=0):cq l g fl m/\O4 l g fl m=(OL g fl m,0):=by
 unfold O4 at h|-;split at h
 .grind
 rename_i j;rw[ae j];split at h
 .grind
 rename_i o;rw[ae o];split at h
 .grind
 rename_i e;rw[ae e];split at h
 .grind
 rename_i s;rw[ae s];simp[not_or]at e;exact⟨⟨WD (E_.1 j),Vg (fI (E_.1 o)).2,e.1,e.2,Bm.1 (by simpa using s)⟩,rfl⟩
theorem oR{l g:d5}{fl:BE}{m:d6}(h:cq l g fl m):OG g (OL g fl m)=0:=by
 have y:=h.mor;have G:=y.gb;have H:∀x∈(OL g fl m).d3,0<=x/\x<g.d3.length:=λx s=>FW s;have I:∀x∈(OL g fl m).d4,0<=x/\x<g.d4.length:=λx s=>FW s;have o:∀{l:Fp}{n:Int},(∀x∈l,0<=x/\x<n)->l.Pairwise (·<·)->Px l n=0:=by
  grind [Px,A5,AF,H8]
 unfold OG;rw[o H (On _ _),o I (On _ _)];simp;rw[A5.2 λi F i1=>?_]
 .rfl
 have s:=AF F i1;generalize AA (OL g fl m).d4 i=x at s;have j:(0<=x/\x<g.d4.length)/\x∉FA m.d4 fl.d4:=Ri.1 s;have hf:=G.fit _ (AF j.1.1 j.1.2);have z:(AA g.d4 x).ke∉FA m.d3 fl.d3/\(AA g.d4 x).To∉FA m.d3 fl.d3:=by
  by_cases hi:x∈m.d4
  .obtain⟨k,D,E,e⟩:=BG hi;have u:k∈fl.d4:=by
    by_cases u:k∈fl.d4
    .exact u
    .exact absurd (VR.2 ⟨k,⟨D,E⟩,u,e⟩) j.2
   have ends:=h.part.ends k u;have he:=y.edge k D E;rw[e]at he;have hr:=h.part.ec.1;have J:=hr _ ends.1;have K:=hr _ ends.2;have N:=y.Aak;rw[<-he.2.2.1,<-he.2.2.2];exact⟨VS h.ec J.1 U ends.1,VS h.ec K.1 U ends.2⟩
  .have hd:=h.free x j.1.1 j.1.2;unfold O6 at hd;rw[show hasB m.d4 x=T from by cases hb:hasB m.d4 x with|false=>rfl|true=>exact absurd (Bu.1 hb) hi,Bool.not_false,C!,C?]at hd;exact⟨λw=>by rw[Bu.2 w]at hd;exact absurd hd.1 a!,λw=>by rw[Bu.2 w]at hd;exact absurd hd.2 a!⟩
 grind [hasB,OL,AA,Bu,Ri]
def Ik(n:Nat)(l:Fp):Fp:=(Ao n).map (DL l)
variable{v:Int}
theorem ZI(h:v∉l):DL l v=-1:=by grind[DL,A5,AF]
theorem Rs(l:Fp)(v:Int):-1<=DL l v/\DL l v<l.length:=by
 by_cases h:v∈l
 .have:=HM h;omega
 .rw[ZI h];omega
theorem PB:0<=DL l v↔v∈l:=by grind[ZI,HM]
theorem Kj(n:Nat)(l:Fp):(Ik n l).length=n:=by unfold Ik;rw[c9,At]
variable{n:Nat}
theorem Ui(e:0<=i)(j:i<n):AA (Ik n l) i=DL l i:=I5 _ e j
theorem d9(h:l.Nodup)(e:0<=i)(i1:i<l.length):DL l (AA l i)=i:=by
 have j:=HM (AF e i1)
 grind [DL,AA,H8]
def R8(fl into at_:Fp)(n i:Int):Int:=if hasB into i=X then AA at_ (AA fl (DL into i))else n+(BC into i).length
def VB(count:Nat)(fl into at_:Fp)(n:Int):Fp:=(Ao count).map (R8 fl into at_ n)
theorem Y7(count:Nat)(fl into at_:Fp)(n:Int):(VB count fl into at_ n).length=count:=by unfold VB;rw[c9,At]
variable{count:Nat}
theorem mR{fl into at_:Fp}{n i:Int}(e:0<=i)(j:i<count):AA (VB count fl into at_ n) i=R8 fl into at_ n i:=I5 _ e j
theorem Lt(h:0<=i):((BC l i).length:Int)<=i:=by grind[S3]
end Go.Sf.Sc
namespace Go.Sf.Sc
open Go Go.Sf
variable{α:Type}
theorem gB{P:List α->Prop}(e:P [])(j:∀l a,P l->P (l++[a]))(l:List α):P l:=by
 have:∀l:List α,P l.reverse:=by
  intro l
  induction l with
  |nil=>exact e|cons a l o=>rw[List.reverse_cons];exact j _ _ o
 rw [<-List.reverse_reverse l];exact this _
def RF(L:BX):BX:=L.foldl (λm p=>m.set p.1 p.2) []
theorem eM(L:BX)(p:(Int×Int)×Int):RF (L++[p])=(RF L).set p.1 p.2:=by
 unfold RF
 grind
def Tq(L:BX):Prop:=∀p∈L,∀q∈L,p.1=q.1->p.2=q.2
variable{k:Int×Int}{v:Int}
theorem VT:∀{m:BX},m.look k=Y v->(k,v)∈m
 |[],h=>d_
 |p::r,h=>by
  unfold BX.look at h;split at h
  .grind
  .exact w? _ (VT h)
theorem aT:∀{m:BX},m.look k=W->∀p∈m,p.1≠k
 |[],_,p,j=>by cases j
 |q::r,h,p,j=>by
  unfold BX.look at h;split at h
  .cases h
  .rename_i e;rcases List.mem_cons.1 j with rfl|j
   .exact e
   .exact aT h p j
theorem jW:∀{m:BX},m.look k=W->m.set k v=m++[(k,v)]
 |[],_=>rfl|p::r,h=>by
  unfold BX.look at h;unfold BX.set;split at h
  .cases h
  next e=>rw[ae e,jW h];rfl
theorem fw:∀{m:BX},m.look k=Y v->m.set k v=m
 |[],h=>d_
 |p::r,h=>by
  unfold BX.look at h;unfold BX.set;split at h
  .grind
  next e=>rw[ae e,fw h]
theorem kM(κ:List Fp)(p:(Int×Int)×Int):CP (CP κ p) p=CP κ p:=by
 unfold CP;split
 .apply List.ext_getElem?
  grind [Option.map_eq_map,Option.map_map,List.set_set]
 .rfl
theorem px{m:BX}(hd:m.Dis){p:(Int×Int)×Int}(e:p∈m)(κ:List Fp):CP (m.foldl CP κ) p=m.foldl CP κ:=by
 have j:m.Perm (m.erase p++[p]):=(List.perm_cons_erase e).trans (List.perm_append_singleton p (m.erase p)).symm;rw[<-X4 hd j κ,x_];exact kM _ _
theorem Tq.sub{L M:BX}(h:Tq L)(e:∀p∈M,p∈L):Tq M:=λp j q o=>h p (e p j) q (e q o)
theorem iy(L:BX):Tq L->(RF L).Dis/\(∀p,p∈RF L↔p∈L)/\∀κ,(RF L).foldl CP κ=L.foldl CP κ:=by
 refine gB (P:=λL=>Tq L->(RF L).Dis/\(∀p,p∈RF L↔p∈L)/\∀κ,(RF L).foldl CP κ=L.foldl CP κ) (λ_=>⟨List.Pairwise.nil,λp=>Iff.rfl,λκ=>rfl⟩) (λL p j e=>?_) L;obtain⟨y,w,z⟩:=j (e.sub λq o=>x! _ o);rw[eM];cases s:(RF L).look p.1 with
 |none=>
  grind [jW,BX.set_dis]
 |some v=>
  have u:=VT s;have hv:v=p.2:=e (p.1,v) (x! _ ((w _).1 u)) p V rfl
  grind [fw,List.mem_singleton,px]
def RS(L:BX):Bool:=l3 (λi=>l3 (λk=>decide ((AA L k).1=(AA L i).1)&&!decide ((AA L k).2=(AA L i).2)) 0 i) 0 L.length
variable{L:BX}
theorem Zt(h:RS L=T):Tq L:=by
 intro p s q u e;obtain⟨a,a0,a1,rfl⟩:=BG s;obtain⟨b,w,y,rfl⟩:=BG u;unfold RS at h;rw[Bm]at h;by_cases j:a=b
 .rw[j]
 by_cases z:a<b
 .have o:=h b w y;rw[Bm]at o
  grind
 .have o:=h a a0 a1;rw[Bm]at o
  grind
theorem dr(L:BX)(κ:List Fp):Mz (L.foldl CP κ) κ:=by
 induction L generalizing κ with
 |nil=>rfl|cons p r e=>exact(e (CP κ p)).trans (Z1 κ p)
end Go.Sf.Sc
namespace Go.Sf.Sc
open Go Go.Sf
variable{t:AC}{p g:d5}
theorem U7{m:d6}{inj:Bool}(h:GN t p g m inj=0):Ec t p g=0/\ON t p g m=0/\Zj t p g m:=by grind[dR,GN]
theorem mQ{m:d6}{inj:Bool}(h:GN t p g m inj=0):GN t p g m T=0:=by grind[U7,GN]
variable{α:Type}
theorem S7[Inhabited α](l:List α):(Ao l.length).map (AA l)=l:=by grind[dK,c9,At,I5]
variable{β:Type}
theorem eK[Inhabited α](l:List α)(f:α->β):l.map f=(Ao l.length).map λj=>f (AA l j):=by
 rw [show(λj=>f (AA l j))=f∘AA l from rfl,<-x?,S7]
theorem xQ(hf:Ar t){m:d6}{inj:Bool}(h:GN t p g m inj=0):F7 t p g m=Y (UH p g m,0):=by
 obtain ⟨e,u,j⟩:=U7 h;obtain⟨_,o,y,_⟩:=OW e;unfold F7;rw[WQ hf,bs,ae c_,aZ hf e,bs,ae o!];unfold DQ;have:=o.ec;have:=o.eh;have:=j.Aak;rw[BR b_,bs];rw[UB U (λx s=>?_) p.d4]
 .rfl
 .obtain⟨i,w,i1,rfl⟩:=BG s;exact(j.node i w i1).1
theorem xk(hf:Ar t){m:d6}{inj:Bool}(h:GN t p g m inj=0):Gl t p g m=Y (UH p g m,0):=by
 obtain ⟨y,D,u⟩:=U7 h;obtain⟨_,w,E,_⟩:=OW y;have:=w.ec;have:=w.eh;have z:=u.Aak;unfold Gl DW;rw[Za hf,bs,ae (by simp[mQ h]),BR b_,bs,BR b_,bs,bs];rw[Pn (λi=>d5.mk ((Ao p.d3.length).map λj=>if j<i then AA g.d3 (AA m.d3 j)else AA p.d3 j) p.d4) (a:=0) (b:=p.d3.length) U]
 .have e:((Ao p.d3.length).map λj=>if j<(p.d3.length:Int)then AA g.d3 (AA m.d3 j)else AA p.d3 j)=m.d3.map (AA g.d3):=by
   grind [eK,C9]
  rw [e];rfl
 .congr 1;rw[<-S7 p.d3,c9,At]
  grind [C9,S7]
 .intro i o i1;have s:=u.node i o U;simp[At];rw[ac k?,AD o U,bs,AD s.1.1 s.1.2,bs,AD o u_,bs,Ki _ o,AT U U]
  grind
 grind [c9,At]
variable{n:Nat}{f:Int->List α->Option (List α)}
theorem Od(q:Int->Bool)(F:Int->α)(h:∀i s,0<=i->i<(n:Int)->s.length<=i.toNat->f i s=Y (if q i=X then s++[F i]else s)):n8 f 0 n []=Y (((Ao n).filter q).map F):=by
 have e:∀k:Nat,(((Ao k).filter q).map F).length<=k:=λk=>by
  rw [c9];exact Nat.le_trans (y_ _ _) (by rw[At];exact az _)
 have:=B0 (f:=f) (s:=[]) (λi=>((Ao i.toNat).filter q).map F) (a:=0) (b:=n) U rfl (λi j i1=>by
  grind [Ea])
 grind
theorem dh{q:Int->Bool}{F:Int->α}:decide (0<((((Ao n).filter q).map F).length:Int))=l3 q 0 n:=by
 rw [D_,tn,Cg,c9];constructor
 .intro h;have j:(Ao n).filter q≠[]:=λe=>by rw[e]at h;simp at h
  obtain ⟨x,u⟩:=List.exists_mem_of_ne_nil _ j
  grind [Cu]
 .rintro⟨i,o,i1,s⟩;have:i∈(Ao n).filter q:=w_.2 ⟨Cu.2 ⟨o,i1⟩,s⟩
  grind
theorem nW{x:Cx}(e:x.m.d3.length<=1000):Dh x=Y (FA x.m.d3 x.fl.d3):=by
 unfold Dh;rw[Od (λi=>!hasB x.fl.d3 i) (AA x.m.d3)]
 .rfl
 grind [AD,MO,hasB,AS,AX]
theorem XU{f0 fl:Fp}(e:f0.length<=1000):LA f0 fl=Y (FA f0 fl):=by
 unfold LA;rw[Od (λi=>!hasB fl i) (AA f0)]
 .rfl
 grind [EN,hasB,P6,AD,AS,AX]
theorem k8{x:Cx}(e:x.m.d3.length<=1000)(he:x.g.d4.length<=1000):DU x=Y ((Ao x.g.d4.length).filter (O6 x.g x.fl x.m)):=by
 unfold DU;rw[nW e,bs,Od (O6 x.g x.fl x.m) id]
 .rw[bs,y!]
 .intro i s j i1 o;rw[AD j i1,bs,MO,bs,MO,bs,MO,bs];unfold O6;change (if(!hasB x.m.d4 i)=X then(if hasB (FA x.m.d3 x.fl.d3) (AA x.g.d4 i).ke=X then Y X else Y (hasB (FA x.m.d3 x.fl.d3) (AA x.g.d4 i).To)).bind _ else Y T).bind _=_;cases hasB x.m.d4 i<;>cases hasB (FA x.m.d3 x.fl.d3) (AA x.g.d4 i).ke<;>cases hasB (FA x.m.d3 x.fl.d3) (AA x.g.d4 i).To<;>simp[AS (show s.length+[i].length<=AX by simp;unfold AX;omega)]
theorem lG{l g:d5}{fl:BE}{m:d6}(e:m.d3.length<=1000)(he:g.d4.length<=1000):KQ l g fl m=Y ((Ao g.d4.length).filter (O6 g fl m)):=by
 unfold KQ;rw[XU e,bs,Od (O6 g fl m) id]
 .rw[bs,y!]
 .intro i s j i1 o;have hh:∀(l:Fp)(v:Int),EN l v=Y (hasB l v):=P6;simp[AD j i1,hh];unfold O6;cases hasB m.d4 i<;>cases hasB (FA m.d3 fl.d3) (AA g.d4 i).ke<;>cases hasB (FA m.d3 fl.d3) (AA g.d4 i).To<;>simp[AS (show s.length+[i].length<=AX by simp;unfold AX;omega)]
variable{a i:Int}
theorem SZ{p:Int->Bool}(h:a<=i):l3 p a (i+1)=(l3 p a i||p i):=by
 rw [D_,D',Cg,Cg]
 grind
theorem Ye{f0 fl:Fp}(H:f0.length<=100){f:Int->Int->List Jk->Option (List Jk)}(hf:∀(i j:Int)s,0<=i->i<f0.length->i<j->j<f0.length->s.length<=20000->f i j s=Y (if(decide (AA f0 i=AA f0 j)&&(!hasB fl i||!hasB fl j))=X then s++[Jk.mk i j]else s)):
  ∃l,n8 (λ(e:Int)(o:List Jk)=>(n8 (λ(i2:Int)(s2:List Jk)=>f e i2 s2) (AJ (e+1)) (f0.length:Int) o).bind λs2=>Y s2) 0 (f0.length:Int) []=Y l/\l.length<=10000/\decide (0<l.length)=Aax f0 fl:=by
 have key:=P4 (f:=λ(e:Int)(o:List Jk)=>(n8 (λ(i2:Int)(s2:List Jk)=>f e i2 s2) (AJ (e+1)) (f0.length:Int) o).bind λs2=>Y s2) (s:=[])
  (λi s=>(s.length:Int)<=100*i/\decide (0<s.length)=l3 (λa=>l3 (λb=>decide (AA f0 a=AA f0 b)&&(!hasB fl a||!hasB fl b)) (a+1) f0.length) 0 i) (a:=0) (b:=f0.length) U
  (by refine⟨V,?_⟩;rw[Bm.2 (λi y z=>U)];rfl) (λi s e i1 D=>by
   have u:=P4 (f:=λ(i2:Int)(s2:List Jk)=>f i i2 s2) (s:=s)
    (λj s'=>(s'.length:Int)<=100*i+(j-(i+1))/\decide (0<s'.length)=(decide (0<s.length)||l3 (λb=>decide (AA f0 i=AA f0 b)&&(!hasB fl i||!hasB fl b)) (i+1) j)) (a:=i+1) (b:=f0.length) U
    (by refine⟨by have:=D.1;omega,?_⟩;rw[Bm.2 (λi y z=>U),Bool.or_false]) (λj s' I E w=>by
     refine ⟨_,hf i j s' e i1 U E (by have:=w.1;omega),?_,?_⟩
     .grind
     .rw[SZ U,<-Bool.or_assoc,<-w.2]
      grind)
   grind [AT,SZ])
 obtain ⟨l,F,J,G⟩:=key;exact⟨l,F,U,G⟩
theorem jG{f0 fl:Fp}(F:f0.length<=100):∃l,Gb f0 fl=Y l/\l.length<=10000/\decide (0<l.length)=Aax f0 fl:=by
 unfold Gb;obtain⟨l,J,K⟩:=Ye (fl:=fl) F (f:=λe i2 s2=>
  (idx f0 e).bind λo=>
  (idx f0 i2).bind λu=>
  (if(decide (o=u))=X then((slices_Contains_int fl e).bind λw=>
  (if(!w)=X then Y X else((slices_Contains_int fl i2).bind λy=>
  Y (!y))).bind λz=>
  Y (z))else Y T).bind λD=>
  if D=X then
  (AY s2 [Jk.mk e i2]).bind λE=>
  Y E
  else
  Y s2) (λi j s e i1 H G I=>by
   have hh:∀(l:Fp)(v:Int),slices_Contains_int l v=Y (hasB l v):=MO;simp[AD e i1,AD (show 0<=j by omega) G,hh]
   grind [AA,hasB,AS,AX])
 grind
theorem jR{f0 fl:Fp}(F:f0.length<=100):∃l,Gk f0 fl=Y l/\l.length<=10000/\decide (0<l.length)=Aax f0 fl:=by
 unfold Gk;obtain⟨l,J,K⟩:=Ye (fl:=fl) F (f:=λe i2 s2=>
  (idx f0 e).bind λo=>
  (idx f0 i2).bind λu=>
  (if(decide (o=u))=X then((EN fl e).bind λw=>
  (if(!w)=X then Y X else((EN fl i2).bind λy=>
  Y (!y))).bind λz=>
  Y (z))else Y T).bind λD=>
  if D=X then
  (AY s2 [Jk.mk e i2]).bind λE=>
  Y E
  else
  Y s2) (λi j s e i1 H G I=>by
   have hh:∀(l:Fp)(v:Int),EN l v=Y (hasB l v):=P6;simp[AD e i1,AD (show 0<=j by omega) G,hh]
   grind [AA,hasB,AS,AX])
 grind
variable{l:Fp}
theorem fU(h:n<=1000):NI n l=Y (BC l n):=by
 unfold NI;rw[Vo (f:=EN l) U U (λi=>P6 l i)];rfl
theorem fF{f0 fl:Fp}(z:n<=1000)(hi:∀x∈f0,0<=x/\x<n):HI n f0 fl=Y (BC (FA f0 fl) n):=by
 unfold HI HN;rw[ac U,bs];rw[B0 (λi=>(Ao n).map λk=>l3 (λj=>!hasB fl j&&decide (AA f0 j=k)) 0 i) U]
 .rw[bs,c9,At,Od (λi=>!hasB (FA f0 fl) i) id]
  .rw[bs,y!];rfl
  .intro i s o i1 F;rw[AD o u_,bs,I5 _ o i1];have e:l3 (λj=>!hasB fl j&&decide (AA f0 j=i)) 0 f0.length=hasB (FA f0 fl) i:=by
    rw [D_,Cg,Bu,VR];constructor
    .rintro⟨j,w,y,h⟩;rw[pq,tn]at h
     grind [Bu]
    .rintro⟨j,⟨w,y⟩,G,h⟩;refine⟨j,w,y,?_⟩;rw[pq,tn]
     grind [hasB,Bu]
   grind [hasB,FA,AS,AX]
 .refine y? (by simp[At]) (λk D E=>?_)
  grind [E!,Bm]
 .intro i o i1;have u:=hi _ (AF o i1);have hh:∀(l:Fp)(v:Int),slices_Contains_int l v=Y (hasB l v):=MO;rw[AD o i1,bs,hh,bs];cases hb:hasB fl i
  .rw[ac a!,AD u.1 (by rw[c9,At];exact u.2),bs,Ki _ u.1]
   grind [C9,SZ,AA]
  grind [C9,SZ]
theorem jh{a b:Nat}(ha:a<=10000)(hb:b<=10000):decide (0<AJ ((a:Int)+(b:Int)))=(decide (0<a)||decide (0<b)):=by
 rw [AT U U,D_,D']
 grind
theorem xL{l g:d5}{fl:BE}{m:d6}(y:S9 fl):HV l g fl m=Y (O4 l g fl m):=by
 unfold HV DE O4;simp only[];rw[cT,bs,jH y,bs];by_cases o:¬IY l g m=0
 .grind
 have o:=E_.1 o;rw[ae q_,bs,ae (show¬IY l g m≠0 by simp[o])];refine Dl λJ=>?_;have j:=WD o;have a1:=j.ga.ec;have a2:=j.ga.eh;have a3:=j.Aak;have O:=j.Aao;have P:=j.gb.ec;have Q:=j.gb.eh;unfold D2;obtain⟨u,z,D,E⟩:=jG (fl:=fl.d3) (f0:=m.d3) U;obtain⟨v,G,H,I⟩:=jG (fl:=fl.d4) (f0:=m.d4) U;simp only[];rw[z,bs,G,bs,bs];simp only[];rw[jh D H,E,I];refine dQ λK=>?_;rw[k8 (by show m.d3.length<=1000;omega) (by show g.d4.length<=1000;omega),bs];have e:=dh (n:=g.d4.length) (q:=O6 g fl m) (F:=id);rw[y!]at e;rw[e];refine dQ λN=>?_;rw[fF U (λx s=>?_),bs,fF U (λx s=>?_),bs]
 .rfl
 .obtain⟨i,w,i1,rfl⟩:=BG s;exact(j.edge i w i1).1
 .obtain⟨i,w,i1,rfl⟩:=BG s;exact(j.node i w i1).1
theorem xc{l g:d5}{fl:BE}{m:d6}(s:S9 fl):SO l g fl m=Y (O4 l g fl m):=by
 unfold SO Qe O4;rw[cf,bs,Zb s,bs];by_cases o:¬IY l g m=0
 .grind
 have o:=E_.1 o;rw[ae q_,bs,ae (show¬IY l g m≠0 by simp[o])];refine Dl λH=>?_;have j:=WD o;have a1:=j.ga.ec;have a2:=j.ga.eh;have a3:=j.Aak;have K:=j.Aao;have N:=j.gb.ec;have O:=j.gb.eh;obtain⟨u,w,y,z⟩:=jR (fl:=fl.d3) (f0:=m.d3) U;obtain⟨v,D,E,G⟩:=jR (fl:=fl.d4) (f0:=m.d4) U;rw[w,bs,D,bs,jh y E,z,G];refine dQ λI=>?_;rw[lG U U,bs];have e:=dh (n:=g.d4.length) (q:=O6 g fl m) (F:=id);rw[y!]at e;rw[e];refine dQ λJ=>?_;rw[XU U,bs,fU U,bs,XU U,bs,fU U,bs];rfl
end Go.Sf.Sc
namespace Go.Sf.Sc
open Go Go.Sf
variable{α β:Type}
theorem UK[Inhabited α]{l:List α}{F:α->β}{f:Int->List β->Option (List β)}(h:∀(i:Int)s,0<=i->i<l.length->s.length<=i.toNat->f i s=Y (s++[F (AA l i)])):n8 f 0 l.length []=Y (l.map F):=by
 have:=B0 (f:=f) (s:=[]) (λi=>(l.take i.toNat).map F) (a:=0) (b:=l.length) U V (λi e i1=>by
  grind [c9,bk,B5])
 rwa [E!,z_]at this
variable{n:Nat}{l:Fp}
theorem jK(F:n<=1000)(y:l.length<=1000)(o:l.Pairwise (·<·)):NV n l=Y (Ik n l):=by
 unfold NV HN;rw[ac U,bs,E!,List.length_replicate,B0 (λi=>(Ao n).map λj=>if j<i then DL l j else 0) U]
 .rw[bs];congr 1;exact C9 λj z s=>ac s
 .refine y? (by simp[At]) (λk D G=>?_);have e:(Ao n)[k]'(by simpa[At]using D)=(k:Int):=by simp[Ao]
  simp only[z!,z?,e];rw[ae U]
 .intro i u i1;rw[UU y o,bs,AD u u_,bs];have e:∀v:Int,v=DL l i->Y (A2 ((Ao n).map λj=>if j<i then DL l j else 0) i v)=Y ((Ao n).map λj=>if j<i+1 then DL l j else 0):=by
   rintro v rfl;rw[Ki _ u];congr 1;refine C9 λj z s=>?_;by_cases e:j=i
   .rw[ac e,ac U,e]
   .rw[ae e];by_cases w:j<i
    .rw[ac w,ac U]
    .rw[ae w,ae U]
  cases hb:hasB l i with
  |false=>
   rw [ac t_];exact e _ (ZI λE=>by rw[Bu.2 E]at hb;cases hb).symm
  |true=>
   rw [ae V];exact e _ (W7 o (Bu.1 hb))
theorem fN(J:n<=1000)(K:l.length<=1000)(E:l.Nodup):NG l n=Y (Ik n l):=by
 unfold NG;rw[B0 (λk=>(Ao k.toNat).map (DL l)) U t_]
 .rfl
 .intro k u N;have s:((Ao k.toNat).map (DL l)).length=k.toNat:=by rw[c9,At]
  have I:(Ao k.toNat).map (DL l)++[-1]=(Ao (k+1).toNat).map λj=>if j<k then DL l j else if DL l k<0 then DL l k else -1:=by
   rw [Ea u,A_];congr 1
   .grind[A',Cu]
   .rw[A!,ae U];have:=Rs l k
    grind
  rw [AS (by rw[s];simp;unfold AX;omega),bs,I,B0 (λi=>(Ao (k+1).toNat).map λj=>if j<k then DL l j else if DL l k<i then DL l k else -1) U rfl]
  .rw[bs];congr 1;refine A' λj F=>?_;have:=Cu.1 F;split
   .rfl
   .have e:j=k:=U
    rw [ac (Rs l k).2,e]
  .intro i w i1;rw[AD w i1,bs];by_cases e:AA l i=k
   .have y:DL l k=i:=by rw[<-e];exact d9 E w i1
    rw [ac c_,AD u (by rw[c9,At];omega),bs,Ki _ u];congr 1;refine C9 λj G H=>?_;by_cases z:j=k
    .rw[ac z,ae U,ac U,y]
    .rw[ae z];by_cases o:j<k
     .rw[ac o,ac o]
     .omega
   .have y:DL l k≠i:=λh=>by
     have:=(HM (PB.1 (show 0<=DL l k by omega))).2.2.1;rw[h]at this;exact e this
    rw [ae c_];congr 1;refine C9 λj G H=>?_;by_cases o:j<k
    .rw[ac o,ac o]
    .rw[ae o,ae o];by_cases D:DL l k<i
     .rw[ac D,ac U]
     .rw[ae D,ae U]
structure V2(count:Nat)(fl into at_:Fp):Prop where
 few:count<=1000
 nodup:into.Nodup
 len:into.length=fl.length
 inn:∀x∈into,0<=x/\x<count
 kin:∀x∈fl,0<=x/\x<at_.length
 pos:∀x∈fl,0<=AA at_ x
theorem XL(e:l.Nodup)(h:∀x∈l,0<=x/\x<n):l.length<=n:=by
 have:=List.Nodup.length_le_of_subset (l₁:=l) (l₂:=Ao n) e (λx j=>Cu.2 (h x j))
 rwa [At]at this
variable{i:Int}
theorem Rj(h:0<=i):((BC l (i+1)).length:Int)=(BC l i).length+if i∈l then 0 else 1:=by grind[Pc,b6,hasB,Bu]
theorem TT{fl into at_:Fp}{n i:Int}(h:i∈into):R8 fl into at_ n i=AA at_ (AA fl (DL into i)):=by grind[R8,Bu]
theorem Tz{fl into at_:Fp}{n i:Int}(h:i∉into):R8 fl into at_ n i=n+(BC into i).length:=by grind[R8,Bu]
variable{count:Nat}
theorem al{fl into at_:Fp}{n:Int}(h:V2 count fl into at_)(z:0<=n)(D:n<=1000):GJ fl into count at_ n=Y (VB count fl into at_ n):=by
 have E:=h.few;have u:=XL h.nodup h.inn;have w:=h.len;unfold GJ;rw[fN h.few U h.nodup,bs,B0 (λi=>(n+((BC into i).length:Int),(Ao i.toNat).map (R8 fl into at_ n))) U (by simp[BC,Ao])]
 .rfl
 .intro i j i1;have hr:=Lt (l:=into) j;have e:((Ao i.toNat).map (R8 fl into at_ n)).length=i.toNat:=by rw[c9,At]
  rw [AD j (by rw[Kj];exact i1),bs,Ui j i1];by_cases hi:i∈into
  .have s:=HM hi;have y:=AF (l:=fl) s.1 U;have o:=h.kin _ y;rw[ac (by simpa using s.1),bs,AD s.1 U,bs,AD o.1 o.2,bs,AS (by rw[e];simp;unfold AX;omega),bs,Ea j,A_,Rj j,ac hi,E?,A!,TT hi]
  .rw[ae (by rw[tn,PB];exact hi),AS (by rw[e];simp;unfold AX;omega),bs,Ea j,A_,Rj j,ae hi,A!,Tz hi,AT U U,F_]
theorem aX{fl into o s:Fp}{n:Int}(h:V2 count fl into (o.map (AA s)))(J:∀x∈o,0<=x/\x<s.length)(S:0<=n)(ε:n<=1000):HD count fl into o s n=Y (VB count fl into (o.map (AA s)) n):=by
 have δ:=h.few;have K:=XL h.nodup h.inn;have N:=h.len;unfold HD DR;rw[ac (by refine⟨rfl,U,U⟩),bs,E!];rw[B0 (λi=>(Ao count).map λk=>if 0<=DL into k/\DL into k<i then R8 fl into (o.map (AA s)) n k else -1) U]
 .rw[bs,c9,At,B0 (λi=>(n+((BC into i).length:Int),(Ao count).map λk=>if k<i\/k∈into then R8 fl into (o.map (AA s)) n k else -1)) U]
  .rw[bs];congr 1;exact C9 λj G E=>ac (.inl E)
  .show _=(n,_);congr 1
   .simp[BC]
   .refine C9 λj G E=>?_;have I:=PB (l:=into) (v:=j);have O:=Rs into j;by_cases e:j∈into
    .rw[ac (.inr e),ac ⟨I.2 e,O.2⟩]
    .rw[ae (by rintro(u|u);omega;exact e u),ae λu=>e (I.1 u.1)]
  .intro i y i1;have hr:=Lt (l:=into) y;rw[AD y u_,bs,I5 _ y i1];by_cases hi:i∈into
   .have P:=HM hi;have H:=AF (l:=fl) P.1 n_;have Z:=h.pos _ H;rw[ac (show i<i\/i∈into from .inr hi),TT hi,ae (by rw[tn];omega),Rj y,ac hi,E?];congr 2;refine C9 λj G E=>?_;by_cases e:j<i\/j∈into
    .rw[ac e,ac (e.imp (λh=>U) id)]
    .rw[ae e,ae];rintro(u|u)
     .have:j=i:=by
       have:=λhh=>e (.inl hh);omega
      exact e (.inr (this▸hi))
     .exact e (.inr u)
   .rw[ae (show¬(i<i\/i∈into)by rintro(u|u);omega;exact hi u),ac a!,bs,Rj y,ae hi,AT an an,Ki _ y,F_];congr 2;refine C9 λj G E=>?_;by_cases z:j=i
    .rw[ac z,ac (.inl U),z,Tz hi]
    .rw[ae z];by_cases e:j<i\/j∈into
     .rw[ac e,ac (e.imp (λh=>U) id)]
     .rw[ae e,ae];rintro(u|u)
      .exact e (.inl U)
      .exact e (.inr u)
 .refine y? (by simp[At]) (λk η ζ=>?_);simp only[z!,z?];rw[ae U];rfl
 .intro i y i1;have D:=h.inn _ (AF y i1);have H:=AF (l:=fl) y n_;have w:=h.kin _ H;rw[c9]at w;have F:=J _ (AF w.1 w.2);rw[AD y i1,bs,AD y n_,bs,AD w.1 w.2,bs,AD F.1 F.2,bs,AD D.1 (by rw[c9,At];exact D.2),bs,Ki _ D.1];congr 1;refine C9 λj G E=>?_;by_cases z:j=AA into i
  .have e:=d9 h.nodup y i1;rw[ac z,z,e,ac ⟨y,U⟩,TT (AF y i1),e,GU w.1 w.2]
  .rw[ae z];by_cases e:0<=DL into j/\DL into j<i
   .rw[ac e,ac ⟨e.1,U⟩]
   .rw[ae e,ae];rintro⟨u,h2⟩;have Q:DL into j=i:=by
     have:=λhh=>e ⟨u,hh⟩;omega
    have:=(HM (PB.1 u)).2.2.1;rw[Q]at this;exact z this.symm
theorem Yj{f0 e:Fp}(j:f0.length<=1000)(o:∀x∈f0,0<=x/\x<e.length):IM f0 e=Y (f0.map (AA e)):=by
 unfold IM
 grind [UK,AA,AF,AD,AS,AX]
end Go.Sf.Sc
namespace Go.Sf.Sc
open Go Go.Sf
def GO(h:AG)(d:BE):d6:=⟨Ik h.d5.d3.length d.d3,Ik h.d5.d4.length d.d4⟩
def cmS(r:ff)(h:AG)(m:d6)(d:BE):d6:=
 ⟨VB r.ei.d5.d3.length r.pr.d3 r.pf.d3 (m.d3.map (AA (GO h d).d3)) d.d3.length,
 VB r.ei.d5.d4.length r.pr.d4 r.pf.d4 (m.d4.map (AA (GO h d).d4)) d.d4.length⟩
def VU(t:AC)(k:Int):Fp:=(As t k).map λx=>x.Low
def XK(tr:Fp)(e:Bk):Bk:=⟨e.kg,AA tr e.ke,AA tr e.To⟩
def PI(r:ff)(x:AG)(i:Int):Fp:=x.d5.d3++(BC r.pf.d3 i).map (AA r.ei.d5.d3)
def OY(t:AC)(r:ff)(x:AG)(i:Int):List Fp:=x.ej++(BC r.pf.d3 i).map λk=>VU t (AA r.ei.d5.d3 k)
def Q8(r:ff)(c:d6)(x:AG)(i:Int):List Bk:=x.d5.d4++(BC r.pf.d4 i).map λk=>XK c.d3 (AA r.ei.d5.d4 k)
def Ci(t:AC)(r:ff)(x:AG)(c:d6):AG:=⟨⟨PI r x r.ei.d5.d3.length,Q8 r c x r.ei.d5.d4.length⟩,OY t r x r.ei.d5.d3.length⟩
def CB(h:AG)(d:BE):AG:=⟨⟨d.d3.map (AA h.d5.d3),d.d4.map λx=>XK (GO h d).d3 (AA h.d5.d4 x)⟩,d.d3.map (AA h.ej)⟩
structure EH(x:AG):Prop where
 ec:x.d5.d3.length<=1000
 eh:x.d5.d4.length<=1000
 vals:x.ej.length<=1000
 rows:∀v∈x.ej,v.length<=1000
structure Xn(t:AC)(r:ff)(c:d6):Prop where
 hf:Ar t
 hv:(A0 t).2=0
 g:Cc r.ei.d5
 kind:∀n∈r.ei.d5.d3,0<=n/\n<t.d3.length
 cn:c.d3.length=r.ei.d5.d3.length
variable{t:AC}{r:ff}{c:d6}
theorem uK(h:Xn t r c){n:Int}(e:n∈r.ei.d5.d3):(As t n).length<=600:=by
 have:=h.kind n e;exact Hs h.hf (F! _) (Cd h.hv).par this.2
variable{x:AG}
theorem n9(h:EH x):Md x=Y x:=by
 have:=h.ec;have:=h.eh;have:=h.vals;unfold Md DW;rw[BR b_,bs,BR b_,bs,bs];rw[B0 (λi=>AG.mk x.d5 (x.ej.take i.toNat)) U t_]
 .rw[E!,z_];rfl
 .intro i e i1;have:=h.rows _ (AF e i1)
  grind [AD,BR,AX,AS,B5]
theorem k7(h:EH x):Lf x=Y x:=by
 have:=h.ec;have:=h.eh;have:=h.vals;unfold Lf slices_Clone_int DQ;rw[BR b_,bs,BR b_,bs];rw[B0 (λi=>AG.mk x.d5 (x.ej.take i.toNat)) U t_]
 .rw[E!,z_];rfl
 .intro i e i1;have:=h.rows _ (AF e i1)
  grind [AD,BR,AX,AS,B5]
variable{α:Type}{i:Int}
theorem Dq(l:Fp)(F:Int->α)(h:0<=i):(BC l (i+1)).map F=(BC l i).map F++if i∈l then[]else[F i]:=by grind[Pc,hasB,Bu]
theorem Wo(l:Fp)(i:Int):I0 l i=Y (!hasB l i):=by
 unfold I0 hasB;rw[BS (λj=>decide (i=AA l j)) T,JB]
 .cases l3 (λj=>decide (i=AA l j)) 0 l.length<;>rfl
 grind [AD,AA]
theorem xi(h:Xn t r c)(o:EH x):JX t r x c=Y (Ci t r x c):=by
 have G:=h.g.ec;have H:=h.g.eh;have x1:=o.ec;have I:=o.eh;have J:=o.vals;unfold JX;rw[Pn (λi=>AG.mk (d5.mk (PI r x i) x.d5.d4) (OY t r x i)) (a:=0) (b:=r.ei.d5.d3.length) U]
 .rw[Bq,Pn (λi=>AG.mk (d5.mk (PI r x r.ei.d5.d3.length) (Q8 r c x i)) (OY t r x r.ei.d5.d3.length)) (a:=0) (b:=r.ei.d5.d4.length) U]
  .rfl
  .grind[Q8,BC]
  .intro i e i1;have hr:=Lt (l:=r.pf.d4) e;have he:=h.g.fit _ (AF e i1);have y:=h.cn;rw[ac k?,Wo,bs];by_cases hi:i∈r.pf.d4
   .grind[Bu,Q8,Dq,AT]
   .have hb:hasB r.pf.d4 i=T:=by cases hb:hasB r.pf.d4 i with|false=>rfl|true=>exact absurd (Bu.1 hb) hi
    rw [hb,ac a!,AD e i1,bs,AD he.2.1.1 U,bs,AD he.2.2.1 U,bs,AS (by unfold Q8;simp;unfold AX;omega),bs];unfold Q8;rw[Dq _ _ e,ae hi,AT an an,ci];rfl
  .rw[ae V]
 .unfold PI OY;simp[BC]
 .intro i e i1;have hr:=Lt (l:=r.pf.d3) e;have u:=AF e i1;have w:=h.kind _ u;have K:=uK h u;rw[ac k?,Wo,bs];by_cases hi:i∈r.pf.d3
  .grind[Bu,PI,OY,Dq,AT]
  .have hb:hasB r.pf.d3 i=T:=by cases hb:hasB r.pf.d3 i with|false=>rfl|true=>exact absurd (Bu.1 hb) hi
   rw [hb,ae a!,AD e i1,bs,AS (by unfold PI;simp;unfold AX;omega),bs,bs,Om h.hf,JC h.hv w.1 w.2,bs];simp;rw[UK (F:=λa=>a.Low) λj s z D E=>?_]
   .rw[bs,AS (by unfold OY;simp;unfold AX;omega),bs];unfold PI OY;rw[Dq _ _ e,ae hi,Dq _ _ e,ae hi,AT U U,ci,ci];rfl
   grind [AD,AS,AX]
 .rw[ae V]
theorem uX(hf:Ar t)(hv:(A0 t).2=0){k:Int}(o:0<=k)(e:k<t.d3.length):LK t k=Y (VU t k):=by
 have:=Hs hf (F! _) (Cd hv).par e;unfold LK;rw[Tf hf,JC hv o e,bs];simp;rw[UK (F:=λa=>a.Low) λj s u w y=>?_]
 .rfl
 grind [AD,AS,AX]
structure cN(h:AG)(d:BE):Prop where
 sm:EH h
 len:h.ej.length=h.d5.d3.length
 ec:(∀x∈d.d3,0<=x/\x<h.d5.d3.length)/\d.d3.length<=1000
 eh:(∀x∈d.d4,0<=x/\x<h.d5.d4.length)/\d.d4.length<=1000
 ends:∀e∈h.d5.d4,(0≤e.ke/\e.ke<h.d5.d3.length)/\0≤e.To/\e.To<h.d5.d3.length
variable{h:AG}
theorem ay{d:BE}(hd:cN h d):EH (CB h d):=by
 have j:=hd.ec.2;have o:=hd.eh.2;refine⟨by unfold CB;simp;omega,by unfold CB;simp;omega,by unfold CB;simp;omega,λv hv=>?_⟩;obtain⟨x,e,rfl⟩:=w!.1 hv;have:=hd.ec.1 x e;exact hd.sm.rows _ (AF this.1 (by rw[hd.len];exact this.2))
variable{R:ff}{M:AP}{C:d6}
theorem uT{d:BE}(s:Xn t R C)(hd:cN h d)(G:C.d4.length=R.ei.d5.d4.length)
  (y:∀i:Int,0<=i->i<R.ei.d5.d3.length->(AA C.d3 i=d.d3.length+(BC R.pf.d3 i).length↔i∉R.pf.d3))
  (z:∀i:Int,0<=i->i<R.ei.d5.d4.length->(AA C.d4 i=d.d4.length+(BC R.pf.d4 i).length↔i∉R.pf.d4)):
  Jf t (AU.mk R M h (AG.mk (d5.mk [] []) []) (GO h d) C) d=Y (AU.mk R M h (Ci t R (CB h d) C) (GO h d) C):=by
 have H:=hd.ec.2;have I:=hd.eh.2;have J:=s.g.ec;have K:=s.g.eh;have E:=s.cn;unfold Jf;simp only[];rw[B0 (λi=>AU.mk R M h (AG.mk (d5.mk ((d.d3.take i.toNat).map (AA h.d5.d3)) []) ((d.d3.take i.toNat).map (AA h.ej))) (GO h d) C) U V]
 rotate_left
 .intro i j i1;have o:=hd.ec.1 _ (AF j i1);have u:=hd.len;have hr:=hd.sm.rows _ (AF o.1 U);rw[AD j i1,bs,AD o.1 o.2,bs,AS a_,bs,AD o.1 U,bs,BR b_,bs,AS a_,bs,Iy j i1,Iy j i1]
 rw [bs,E!,z_];rw[B0 (λi=>AU.mk R M h (AG.mk (d5.mk (d.d3.map (AA h.d5.d3)) ((d.d4.take i.toNat).map λx=>XK (GO h d).d3 (AA h.d5.d4 x))) (d.d3.map (AA h.ej))) (GO h d) C) U V]
 rotate_left
 .intro i j i1;have o:=hd.eh.1 _ (AF j i1);have he:=hd.ends _ (AF o.1 o.2);have u:(GO h d).d3.length=h.d5.d3.length:=Kj _ _;simp only[];rw[AD j i1,bs,AD o.1 o.2,bs,AD he.1.1 U,bs,AD he.2.1 U,bs,AS a_,bs,Iy j i1];rfl
 rw [bs,E!,z_];rw[B0 (λi=>AU.mk R M h (AG.mk (d5.mk (PI R (CB h d) i) (CB h d).d5.d4) (OY t R (CB h d) i)) (GO h d) C) U (by unfold PI OY;simp[BC,CB])]
 rotate_left
 .intro i j i1;have hr:=Lt (l:=R.pf.d3) j;have F:=AF j i1;have D:=s.kind _ F;have u:(PI R (CB h d) i).length=d.d3.length+(BC R.pf.d3 i).length:=by unfold PI CB;simp
  have w:(OY t R (CB h d) i).length=d.d3.length+(BC R.pf.d3 i).length:=by unfold OY CB;simp
  simp only[u];rw[AD j i1,bs,AD j U,bs];by_cases hi:i∈R.pf.d3
  .rw[ae (by rw[tn];push_cast;exact λe=>(y i j i1).1 e hi)];unfold PI OY;rw[Dq _ _ j,ac hi,A?,Dq _ _ j,ac hi,A?]
  .rw[ac (by rw[tn];push_cast;exact(y i j i1).2 hi),AS (by rw[u];simp;unfold AX;omega),bs,uX s.hf s.hv D.1 D.2,bs,AS (by rw[w];simp;unfold AX;omega),bs];unfold PI OY;rw[Dq _ _ j,ae hi,Dq _ _ j,ae hi,ci,ci]
 rw [bs];rw[B0 (λi=>AU.mk R M h (AG.mk (d5.mk (PI R (CB h d) R.ei.d5.d3.length) (Q8 R C (CB h d) i)) (OY t R (CB h d) R.ei.d5.d3.length)) (GO h d) C) U (by unfold Q8;simp[BC,CB])]
 rotate_left
 .intro i j i1;have hr:=Lt (l:=R.pf.d4) j;have he:=s.g.fit _ (AF j i1);have u:(Q8 R C (CB h d) i).length=d.d4.length+(BC R.pf.d4 i).length:=by unfold Q8 CB;simp
  simp only[u];rw[AD j i1,bs,AD j U,bs];by_cases hi:i∈R.pf.d4
  .rw[ae (by rw[tn];push_cast;exact λe=>(z i j i1).1 e hi)];unfold Q8;rw[Dq _ _ j,ac hi,A?]
  .rw[ac (by rw[tn];push_cast;exact(z i j i1).2 hi),AD he.2.1.1 U,bs,AD he.2.2.1 U,bs,AS (by rw[u];simp;unfold AX;omega),bs];unfold Q8;rw[Dq _ _ j,ae hi,ci];rfl
 rw [bs];rfl
theorem gw(hf:Ar t){d:BE}(hh:(De t h).2=0)(s:EG h.d5 d=0)(hd:cN h d):Hb t h d=Y (CB h d,0):=by
 have u:=hd.ec.2;unfold Hb;rw[Vl hf,bs,ae (by simp[hh]),Vk ⟨hd.ec.2,hd.eh.2⟩,ae (by simp[s]),bs,ae V];have e:C0 h.d5 d=(CB h d).d5:=by
  unfold C0 CB;congr 1;refine A' λx j=>?_;have j:=hd.eh.1 x j;have he:=hd.ends _ (AF j.1 j.2)
  grind [XK,GO,Ui]
 simp;rw[Pn (λi=>AG.mk (C0 h.d5 d) ((d.d3.take i.toNat).map (AA h.ej))) (a:=0) (b:=d.d3.length) U V]
 .rw[E!,z_,Bq,e];rfl
 .intro i o i1;have j:=hd.ec.1 _ (AF o i1);have w:=hd.len;have hr:=hd.sm.rows _ (AF j.1 U);rw[ac k?,AD o i1,bs,AD j.1 U,bs,BR b_,bs,AS a_,bs,Iy o i1,AT an an]
 .rw[ae V]
end Go.Sf.Sc
namespace Go.Sf.Sc
open Go Go.Sf
def Rl(c:d6)(vars:Fp)(s:By):(Int×Int)×Int:=((AA c.d3 s.po,s.kp),DH s.gt vars)
def CC(r:ff)(c:d6)(vars:Fp):BX:=r.ei.ek.map (Rl c vars)
def Nc(t:AC)(x:AG)(p:(Int×Int)×Int):Bool:=
 decide (p.2<(AA (As t (AA x.d5.d3 p.1.1)) p.1.2).Low)||decide ((AA (As t (AA x.d5.d3 p.1.1)) p.1.2).Aaf<p.2)
structure V4(t:AC)(r:ff)(c:d6)(vars:Fp)(x:AG):Prop where
 hf:Ar t
 hv:(A0 t).2=0
 few:r.ei.ek.length<=1000
 fewv:vars.length<=1000
 slot:∀s∈r.ei.ek,(0<=s.po/\s.po<c.d3.length)/\(-1<=s.gt.Var/\s.gt.Var<vars.length)/\
  (0<=AA c.d3 s.po/\AA c.d3 s.po<x.d5.d3.length)/\(0<=s.kp/\s.kp<(As t (AA x.d5.d3 (AA c.d3 s.po))).length)
 kind:∀n∈x.d5.d3,0<=n/\n<t.d3.length
 Ab3:x.ej.length=x.d5.d3.length
 rows:∀i:Int,0<=i->i<x.d5.d3.length->(AA x.ej i).length=(As t (AA x.d5.d3 i)).length
variable{L:BX}{i:Int}
theorem kD(e:0<=i)(i1:i<=L.length)(h:∀j,0<=j->j<i->l3 (λk=>decide ((AA L k).1=(AA L j).1)&&!decide ((AA L k).2=(AA L j).2)) 0 j=T):Tq (L.take i.toNat):=by grind[Zt,RS,Bm,bk,Tt,x8]
def W9(L:BX)(i:Int):Bool:=l3 (λk=>decide ((AA L k).1=(AA L i).1)&&!decide ((AA L k).2=(AA L i).2)) 0 i
theorem pX(I:0<=i)(i1:i<L.length)(y:Tq (L.take i.toNat)):
  (((RF (L.take i.toNat)).look (AA L i).1).isSome&&(!decide (((RF (L.take i.toNat)).look (AA L i).1).getD 0=(AA L i).2)))=W9 L i:=by
 obtain ⟨J,D,K⟩:=iy _ y;unfold W9;cases z:(RF (L.take i.toNat)).look (AA L i).1 with
 |none=>
  rw [Option.isSome_none,D!];refine Eq.symm (Bm.2 λk u w=>?_);have s:AA L k∈L.take i.toNat:=by
   rw [<-x8 (n:=i.toNat) U]
   grind [AF,bk]
  rw [decide_eq_false (aT z _ ((D _).2 s)),D!]
 |some v=>
  have s:=(D _).1 (VT z);rw[Option.isSome_some,C!,Option.getD_some];have o:∀k,0<=k->k<i->(AA L k).1=(AA L i).1->(AA L k).2=v:=λk u w e=>by
   have F:AA L k∈L.take i.toNat:=by
    rw [<-x8 (n:=i.toNat) U]
    grind [AF,bk]
   exact y _ F _ s e
  obtain ⟨k,u,w,E⟩:=BG s;rw[bk]at w;rw[x8 U]at E;rw[D_,Cg];constructor
  .intro h;refine⟨k,u,U,?_⟩;rw[E,decide_eq_true rfl,C!];exact h
  .rintro⟨j,G,H,h⟩;rw[pq,tn]at h;rw[<-o j G H h.1];exact h.2
theorem QG(r:ff)(c:d6)(vars:Fp)(e:0<=i)(i1:i<r.ei.ek.length):AA (CC r c vars) i=Rl c vars (AA r.ei.ek i):=GU e i1
theorem LJ(r:ff)(c:d6)(vars:Fp):(CC r c vars).length=r.ei.ek.length:=c9 ..
variable{ρ:Type}
theorem dU(L:BX)(v:ρ):fst (λi=>if W9 L i=X then Y v else W) 0 L.length=if RS L=X then Y v else W:=Of
variable{t:AC}{R:ff}{M:AP}{B A:AG}{θ C:d6}
theorem kz(h:V4 t R C M.fd A):I3 (AU.mk R M B A θ C)=Y (if RS (CC R C M.fd)=X then([],11)else(RF (CC R C M.fd),0)):=by
 unfold I3;simp only[];rw[Gf (a:=0) (s:=([]:BX)) (λi=>RF ((CC R C M.fd).take i.toNat)) (λi=>if W9 (CC R C M.fd) i=X then Y ([],11)else W) U rfl]
 .have:=dU (CC R C M.fd) (([],11):BX×Int);rw[LJ]at this;rw[this];by_cases e:RS (CC R C M.fd)=X
  .rw[ac e,ac e];rfl
  .rw[ae e,ae e,<-LJ R C M.fd,E!,z_];rfl
 .intro i o i1 hb;have u:=h.slot _ (AF o i1);have D:Tq ((CC R C M.fd).take i.toNat):=kD o (by rw[LJ];omega) λj y z=>by
   have:=hb j y z;split at this
   .cases this
   next e=>exact D?.2 e
  have w:=pX (L:=CC R C M.fd) o (by rw[LJ];exact i1) D;rw[AD o i1,bs,eY u.2.1.1 u.2.1.2 h.fewv,bs,ae V,AD u.1.1 u.1.2,bs];rw[QG R C M.fd o i1]at w;simp[Rl]at w;simp only[];by_cases e:W9 (CC R C M.fd) i=X
  .refine(ac (w.trans e)).trans ?_;rw[ac e];rfl
  .refine(ae (λh=>e (w.symm.trans h))).trans ?_;rw[ae e,B5 o (by rw[LJ];exact i1),eM,QG R C M.fd o i1];rfl
variable{α:Type}
theorem i7{f:α->K1}{g:α->Bool}:∀{l:List α},(∀p∈l,f p=Y (g p))->AaH f l=Y (l.all g)
 |[],_=>rfl|p::r,h=>by
  unfold AaH;rw[h p B_,bs,i7 λq e=>h q (w? _ e),bs,List.all_cons]
variable{r:ff}{c:d6}{x:AG}{κ:List Fp}
theorem fk{vars:Fp}(h:V4 t r c vars x){s:By}(w:s∈r.ei.ek)(y:Mz κ x.ej):
  idx κ (AA c.d3 s.po)=Y (AA κ (AA c.d3 s.po))/\idx (AA κ (AA c.d3 s.po)) s.kp=Y (AA (AA κ (AA c.d3 s.po)) s.kp):=by
 have j:=h.slot s w;have hv:=h.Ab3;have hr:=h.rows _ j.2.2.1.1 j.2.2.1.2;have z:idx x.ej (AA c.d3 s.po)=Y (AA x.ej (AA c.d3 s.po)):=AD j.2.2.1.1 U;have D:idx (AA x.ej (AA c.d3 s.po)) s.kp=Y (AA (AA x.ej (AA c.d3 s.po)) s.kp):=AD j.2.2.2.1 U;obtain⟨E,x',a,b⟩:=y.idx z D;have o:=Hk a;have u:=Hk b;have F:=(B'.1 o.2.2).1;have e:AA κ (AA c.d3 s.po)=E:=by
  grind [AD,Option.some.inj]
 have G:=(B'.1 u.2.2).1;refine⟨AD o.1 U,?_⟩;rw[e];exact AD u.1 U
theorem pw(h:V4 t R C M.fd A){p:(Int×Int)×Int}(u:p∈CC R C M.fd):QR t (AU.mk R M B A θ C) p=Y (!Nc t A p):=by
 obtain ⟨s,o,rfl⟩:=w!.1 u;have e:=h.slot s o;have j:=h.kind _ (AF e.2.2.1.1 e.2.2.1.2);obtain⟨w,y⟩:=fk h o (κ:=A.ej) rfl;unfold QR QP Rl Nc;simp;rw[AD e.2.2.1.1 e.2.2.1.2,bs,Tf h.hf,JC h.hv j.1 j.2,bs];simp;simp[AD e.2.2.2.1 e.2.2.2.2,w,y,WL]
 grind
def Jn(t:AC)(x:AG)(L:BX):AG×Int:=
 if RS L=X then(⟨⟨[],[]⟩,[]⟩,11)else if L.any (Nc t x)=X then(⟨⟨[],[]⟩,[]⟩,6)else(⟨x.d5,L.foldl CP x.ej⟩,0)
theorem xO(h:V4 t R C M.fd A):Mt t (AU.mk R M B A θ C)=Y ((Jn t A (CC R C M.fd)).2,if(Jn t A (CC R C M.fd)).2=0 then AU.mk R M B (Jn t A (CC R C M.fd)).1 θ C else AU.mk R M B A θ C):=by
 unfold Mt Jn;rw[kz h,bs];by_cases e:RS (CC R C M.fd)=X
 .grind
 .rw[ae e,ae V,ae e];obtain⟨o,s,u⟩:=iy _ (Zt (D?.2 e));have ha:AaH (QR t (AU.mk R M B A θ C)) (RF (CC R C M.fd))=Y (!(CC R C M.fd).any (Nc t A)):=by
   rw [i7 (g:=λp=>!Nc t A p) λp j=>pw h ((s p).1 j)]
   grind
  rw [ac (by simpa using(show List.Pairwise (λx y:(Int×Int)×Int=>x.1≠y.1) _ from o)),ha,bs]
  grind [CC,Nc,Ph]
theorem ABD{vars:Fp}(h:V4 t r c vars x):Kh t r x c vars=Y (Jn t x (CC r c vars)):=by
 unfold Kh Jn;rw[Gf (a:=0) (s:=AG.mk (d5.mk [] []) []) (λ_=>AG.mk (d5.mk [] []) []) (λi=>if W9 (CC r c vars) i=X then Y (AG.mk (d5.mk [] []) [],(11:Int))else W) U rfl]
 .have:=dU (CC r c vars) ((AG.mk (d5.mk [] []) [],(11:Int)));rw[LJ]at this;rw[this];by_cases e:RS (CC r c vars)=X
  .rw[ac e,ac e];rfl
  rw [ae e,ae e];show em (Y (Sum.inl _)) _ _=_;rw[Bq,Gf (a:=0) (s:=(x,AG.mk (d5.mk [] []) [])) (λi=>(AG.mk x.d5 (((CC r c vars).take i.toNat).foldl CP x.ej),AG.mk (d5.mk [] []) [])) (λi=>if Nc t x (AA (CC r c vars) i)=X then Y (AG.mk (d5.mk [] []) [],(6:Int))else W) U rfl]
  .have:=il (l:=CC r c vars) (q:=Nc t x) (v:=(AG.mk (d5.mk [] []) [],(6:Int)));rw[LJ]at this;rw[this];by_cases o:(CC r c vars).any (Nc t x)=X
   .rw[ac o,ac o];rfl
   .rw[ae o,ae o];show Y (AG.mk x.d5 (((CC r c vars).take (r.ei.ek.length:Int).toNat).foldl CP x.ej),(0:Int))=_
    grind [LJ,E!,z_]
  .intro i u i1 _;have D:=AF u i1;have j:=h.slot _ D;have w:=h.kind _ (AF j.2.2.1.1 j.2.2.1.2);obtain⟨F,G⟩:=fk h D (κ:=((CC r c vars).take i.toNat).foldl CP x.ej) (dr _ _);simp only[AD u i1,bs];rw[QD j.2.1.1 j.2.1.2,bs,AD j.1.1 j.1.2,bs,AD j.2.2.1.1 j.2.2.1.2,bs,Om h.hf,JC h.hv w.1 w.2,bs];simp only[];rw[AD j.2.2.2.1 j.2.2.2.2,bs,bs,WL,bs,F,bs,G,bs];rw[QG r c vars u i1,B5 u (by rw[LJ];exact i1),x_,QG r c vars u i1];show(if(Nc t x (Rl c vars (AA r.ei.ek i)))=X then _ else _)=_;by_cases o:Nc t x (Rl c vars (AA r.ei.ek i))=X
   .rw[ac o,ac o];rfl
   .rw[ae o,ae o];have:=df (p:=Rl c vars (AA r.ei.ek i)) F G;exact congrArg (λη=>Y (Bo.next (σ:=AG×AG) (ρ:=AG×Int) (AG.mk x.d5 η,AG.mk (d5.mk [] []) []))) this
 .intro i u i1 _;have j:=h.slot _ (AF u i1);rw[AD u i1,bs,QD j.2.1.1 j.2.1.2,bs];rw[Gf (a:=0) (s:=AG.mk (d5.mk [] []) []) (λ_=>AG.mk (d5.mk [] []) []) (λk=>if(decide ((AA (CC r c vars) k).1=(AA (CC r c vars) i).1)&&!decide ((AA (CC r c vars) k).2=(AA (CC r c vars) i).2))=X then Y (AG.mk (d5.mk [] []) [],(11:Int))else W) u rfl]
  .rw[Of];unfold W9;split<;>rfl
  .intro k y I _;have w:=h.slot _ (AF y (show k<r.ei.ek.length by omega));simp[AD u i1,AD y (show k<r.ei.ek.length by omega)];rw[QD w.2.1.1 w.2.1.2,bs,AD w.1.1 w.1.2,bs,AD j.1.1 j.1.2,bs,QG r c vars u i1,QG r c vars y U];simp[Rl];by_cases E:AA c.d3 (AA r.ei.ek k).po=AA c.d3 (AA r.ei.ek i).po<;>by_cases o:(AA r.ei.ek k).kp=(AA r.ei.ek i).kp<;>by_cases z:DH (AA r.ei.ek i).gt vars=DH (AA r.ei.ek k).gt vars
   all_goals first|(have H:¬DH (AA r.ei.ek k).gt vars=DH (AA r.ei.ek i).gt vars:=λh=>z h.symm;simp[E,o,z,H,bG];done)|(simp[E,o,z,bG];done)
end Go.Sf.Sc
namespace Go.Sf.Sc
open Go Go.Sf
variable{t:AC}{r:ff}
theorem Ue(h:DP t r=0):E1 t r.gp=0/\JZ t r=0/\JG t r.gp r.d7=0:=by grind[DP]
theorem g9(h:JZ t r=0):r.ei.fd=r.gp.fd/\r.ei.ek.length<=10/\∀i:Int,0<=i->i<r.ei.ek.length->OO t r.ei i=0:=by
 unfold JZ at h;split at h
 .omega
 split at h
 .cases h
 split at h
 .cases h
 split at h
 .cases h
 rename_i e j o s;exact⟨U,U,VO h⟩
variable{i:Int}
theorem lU{p:ea}(h:OO t p i=0):(0<=(AA p.ek i).po/\(AA p.ek i).po<p.d5.d3.length)/\
  (0<=(AA p.ek i).kp/\(AA p.ek i).kp<(FQ t (AA p.d5.d3 (AA p.ek i).po)).1.length)/\-1<=(AA p.ek i).gt.Var/\(AA p.ek i).gt.Var<p.fd:=by
 unfold OO at h;dsimp only at h;split at h
 .cases h
 split at h
 .cases h
 rename_i j e;simp[tn]at e;omega
structure H0(t:AC)(r:ff)(h:AG)(m:AP):Prop where
 hf:Ar t
 fr:IQ r
 re:DP t r=0
 he:(De t h).2=0
 at_:Xj t r.gp h m
 co:cq (UH r.gp.d5 h.d5 m.d6) h.d5 r.pr m.d6
abbrev dS(r:ff)(h:AG)(m:AP):BE:=OL h.d5 r.pr m.d6
abbrev cS(r:ff)(h:AG)(m:AP):d6:=cmS r h m.d6 (dS r h m)
variable{h:AG}{m:AP}
theorem H0.hv(s:H0 t r h m):(A0 t).2=0:=(jV s.re).1
theorem H0.ro(s:H0 t r h m):mB t r:=(jV s.re).2
theorem H0.hh(s:H0 t r h m):IR t h:=(P7 s.hf s.he).2
theorem RY(hf:Ar t)(hv:(A0 t).2=0)(hh:IR t h):EH h:=by
 have o:=hh.g.ec;have s:=hh.g.eh;have u:=hh.len;refine⟨U,U,U,λv e=>?_⟩;obtain⟨i,j,i1,rfl⟩:=BG e;have w:=hh.row i j U;have y:=Hs hf (F! _) (Cd hv).par (hh.kind i j U).2;omega
theorem H0.rem(s:H0 t r h m):cN h (dS r h m):=by
 have hh:=s.hh;have o:=hh.g.ec;have u:=hh.g.eh;have l1:=S3 (FA m.d6.d3 r.pr.d3) h.d5.d3.length;have l2:=S3 (FA m.d6.d4 r.pr.d4) h.d5.d4.length;exact⟨RY s.hf s.hv hh,hh.len,⟨λx j=>FW j,by show(BC _ _).length<=1000;omega⟩,⟨λx j=>FW j,by show(BC _ _).length<=1000;omega⟩,λe he=>(hh.g.fit e he).2⟩
theorem H0.part(s:H0 t r h m):EG h.d5 (dS r h m)=0:=by
 unfold EG;rw[ae (by simp[s.hh.ge])];exact oR s.co
variable{count n:Nat}
theorem mS{fl into f0:Fp}{BH:Fp}(few:count<=1000)(nodup:into.Nodup)(len:into.length=fl.length)(inn:∀x∈into,0<=x/\x<count)
  (kin:∀x∈fl,0<=x/\x<f0.length)(o:∀x∈f0,0<=x/\x<n)(hi:Aax f0 fl=T)(s:BH=FA f0 fl):
  V2 count fl into (f0.map (AA (Ik n (BC BH n))))/\(∀x∈fl,AA (f0.map (AA (Ik n (BC BH n)))) x<(BC BH n).length)/\
  ∀x∈fl,AA (f0.map (AA (Ik n (BC BH n)))) x=DL (BC BH n) (AA f0 x)/\AA f0 x∈BC BH n:=by
 have e:∀x∈fl,AA (f0.map (AA (Ik n (BC BH n)))) x=DL (BC BH n) (AA f0 x)/\AA f0 x∈BC BH n:=λx j=>by
  grind [AF,GU,Ui,Ri,VS]
 refine ⟨⟨few,nodup,len,inn,λx j=>by rw[c9];exact kin x j,λx j=>?_⟩,λx j=>?_,e⟩
 .rw[(e x j).1];exact PB.2 (e x j).2
 .rw[(e x j).1];exact(Rs _ _).2
theorem H0.left(s:H0 t r h m):m.d6.d3.length=r.gp.d5.d3.length/\m.d6.d4.length=r.gp.d5.d4.length:=⟨s.at_.m.Aak,s.at_.m.Aao⟩
theorem H0.AbU(s:H0 t r h m):V2 r.ei.d5.d3.length r.pr.d3 r.pf.d3 (m.d6.d3.map (AA (GO h (dS r h m)).d3))/\
  (∀x∈r.pr.d3,AA (m.d6.d3.map (AA (GO h (dS r h m)).d3)) x<(dS r h m).d3.length)/\
  ∀x∈r.pr.d3,AA (m.d6.d3.map (AA (GO h (dS r h m)).d3)) x=DL (dS r h m).d3 (AA m.d6.d3 x)/\AA m.d6.d3 x∈(dS r h m).d3:=by
 have ro:=s.ro;have o:=ro.right.ec;refine mS U ro.inj.1 ?_ (λx e=>?_) (λx e=>?_) (λx e=>?_) s.co.ec rfl
 .have:=ro.mor.Aak;rw[this];exact c9 ..
 .obtain⟨i,j,i1,rfl⟩:=BG e;exact(ro.mor.node i j i1).1
 .have:=ro.part.ec.1 x e;have:=s.left.1;omega
 .obtain⟨i,j,i1,rfl⟩:=BG e;exact(s.at_.m.node i j i1).1
theorem H0.Ab0(s:H0 t r h m):V2 r.ei.d5.d4.length r.pr.d4 r.pf.d4 (m.d6.d4.map (AA (GO h (dS r h m)).d4))/\
  (∀x∈r.pr.d4,AA (m.d6.d4.map (AA (GO h (dS r h m)).d4)) x<(dS r h m).d4.length)/\
  ∀x∈r.pr.d4,AA (m.d6.d4.map (AA (GO h (dS r h m)).d4)) x=DL (dS r h m).d4 (AA m.d6.d4 x)/\AA m.d6.d4 x∈(dS r h m).d4:=by
 have ro:=s.ro;have o:=ro.right.eh;refine mS U ro.inj.2 ?_ (λx e=>?_) (λx e=>?_) (λx e=>?_) s.co.eh rfl
 .have:=ro.mor.Aao;rw[this];exact c9 ..
 .obtain⟨i,j,i1,rfl⟩:=BG e;exact(ro.mor.edge i j i1).1
 .have:=ro.part.eh.1 x e;have:=s.left.2;omega
 .obtain⟨i,j,i1,rfl⟩:=BG e;exact s.at_.m.edge i j i1
theorem iR{fl into at_:Fp}(h:V2 count fl into at_)(j:∀x∈fl,AA at_ x<n)(o:0<=i)(i1:i<count):AA (VB count fl into at_ n) i=n+(BC into i).length↔i∉into:=by
 rw [mR o i1];constructor
 .intro e hi;rw[TT hi]at e;have s:=HM hi;have:=j _ (AF (l:=fl) s.1 n_);omega
 .exact Tz
theorem H0.grow(s:H0 t r h m):Xn t r (cS r h m):=
 ⟨s.hf,s.hv,s.ro.right,(He s.ro.right s.ro.Abi).1,Y7 _ _ _ _ _⟩
theorem Wr(l:Fp)(j:0<=i):∀(k:Nat),∃s,BC l (i+k)=BC l i++s
 |0=>⟨[],V⟩|k+1=>by
  obtain ⟨s,e⟩:=Wr l j k
  grind [Pc,ci]
variable{l:Fp}
theorem rF{i n:Int}(j:0<=i)(i1:i<n)(h:i∉l):AA (BC l n) (BC l i).length=i/\((BC l i).length:Int)<(BC l n).length:=by
 obtain ⟨s,e⟩:=Wr l (i:=i+1) U (n-(i+1)).toNat
 rw [show i+1+((n-(i+1)).toNat:Int)=n by omega,Pc l j]at e
 grind [hasB,Bu,AA]
variable{α:Type}
theorem mK[Inhabited α]{l m:List α}(e:0<=i)(j:i<l.length):AA (l++m) i=AA l i:=by grind[Ob]
theorem Xv[Inhabited α]{l m:List α}:AA (l++m) (l.length+n:Int)=AA m n:=by grind[Ob,AA,E!]
variable{a:Int}
theorem qA(h:0<=a):Gp t a a=X:=by
 unfold Gp;rw[show(a+1).toNat=a.toNat+1 by omega,KY,ae U];simp
theorem H0.AbK(s:H0 t r h m)(u:0<=i)(i1:i<r.ei.d5.d3.length):
  (0<=AA (cS r h m).d3 i/\AA (cS r h m).d3 i<(Ci t r (CB h (dS r h m)) (cS r h m)).d5.d3.length)/\
  AA (Ci t r (CB h (dS r h m)) (cS r h m)).d5.d3 (AA (cS r h m).d3 i)<t.d3.length/\Gp t (AA (Ci t r (CB h (dS r h m)) (cS r h m)).d5.d3 (AA (cS r h m).d3 i)) (AA r.ei.d5.d3 i)=X:=by
 obtain ⟨F,K,N⟩:=s.AbU;have G:AA (cS r h m).d3 i=R8 r.pr.d3 r.pf.d3 (m.d6.d3.map (AA (GO h (dS r h m)).d3)) (dS r h m).d3.length i:=mR u i1;have el:(Ci t r (CB h (dS r h m)) (cS r h m)).d5.d3=(dS r h m).d3.map (AA h.d5.d3)++(Ek r).map (AA r.ei.d5.d3):=rfl;rw[G,el,b6,c9,c9];by_cases hi:i∈r.pf.d3
 .have e:=HM hi;have O:=F.len;have o:=AF (l:=r.pr.d3) e.1 U;have z:=N _ o;have D:=K _ o;have w:=F.pos _ o;rw[TT hi];refine⟨⟨w,by push_cast;omega⟩,?_⟩;rw[mK w (by rw[c9];exact D),GU w D,z.1,(HM z.2).2.2.1];have hr:=s.ro.part.ec.1 _ o;have H:=s.left.1;have y:=s.at_.m.node _ hr.1 U;have I:=s.hh.kind _ y.1.1 y.1.2;have E:=s.ro.mor.node _ e.1 e.2.1;rw[e.2.2.1]at E;have J:AA (C0 r.gp.d5 r.pr).d3 (DL r.pf.d3 i)=AA r.gp.d5.d3 (AA r.pr.d3 (DL r.pf.d3 i)):=GU e.1 U;rw[E.2,J];exact⟨I.2,y.2⟩
 .have hr:=rF u i1 hi;rw[Tz hi];have j:((dS r h m).d3.map (AA h.d5.d3)).length=(dS r h m).d3.length:=c9 ..;refine⟨⟨U,?_⟩,?_⟩
  .have:((Ek r).length:Int)=(BC r.pf.d3 r.ei.d5.d3.length).length:=rfl
   push_cast
   omega
  .rw[<-j,Xv,show Ek r=BC r.pf.d3 r.ei.d5.d3.length from rfl,GU U hr.2];show AA r.ei.d5.d3 (AA (BC r.pf.d3 r.ei.d5.d3.length) (BC r.pf.d3 i).length)<(t.d3.length:Int)/\Gp t (AA r.ei.d5.d3 (AA (BC r.pf.d3 r.ei.d5.d3.length) (BC r.pf.d3 i).length)) _=X;rw[hr.1];have:=(He s.ro.right s.ro.Abi).1 _ (AF u i1);exact⟨this.2,qA this.1⟩
theorem H0.rows(s:H0 t r h m):(Ci t r (CB h (dS r h m)) (cS r h m)).ej.map (λv=>v.length)=(Ci t r (CB h (dS r h m)) (cS r h m)).d5.d3.map λn=>(As t n).length:=by
 show (B! _ (_++_))=B! _ (_++_);rw[A_,A_];congr 1
 .show((dS r h m).d3.map (AA h.ej)).map _=((dS r h m).d3.map (AA h.d5.d3)).map _;rw[x?,x?];refine A' λx e=>?_;have e:=s.rem.ec.1 x e;exact s.hh.row x e.1 e.2
 grind [x?,A',VU,c9]
theorem H0.put(s:H0 t r h m):V4 t r (cS r h m) m.fd (Ci t r (CB h (dS r h m)) (cS r h m)):=by
 obtain ⟨O,hr,P⟩:=Ue s.re;obtain⟨hv,Q,z⟩:=g9 hr;have J:=s.at_.q.vars;have D:=s.at_.len;have w:=s.rows;have y:(Ci t r (CB h (dS r h m)) (cS r h m)).ej.length=(Ci t r (CB h (dS r h m)) (cS r h m)).d5.d3.length:=by
  grind [B?,c9]
 refine ⟨s.hf,s.hv,U,U,λx e=>?_,λn j=>?_,y,λi o i1=>?_⟩
 .obtain⟨i,o,i1,rfl⟩:=BG e;obtain⟨u,H,S⟩:=lU (z i o i1);have E:=(He s.ro.right s.ro.Abi).1 _ (AF u.1 u.2);rw[JC s.hv E.1 E.2]at H;obtain⟨ε,I,F⟩:=s.AbK u.1 u.2;replace F:=aO (Cd s.hv) I F;have G:(cS r h m).d3.length=r.ei.d5.d3.length:=Y7 _ _ _ _ _
  grind
 .have j:n∈(dS r h m).d3.map (AA h.d5.d3)++(Ek r).map (AA r.ei.d5.d3):=j;rcases C_.1 j with j|j
  .obtain⟨x,e,rfl⟩:=w!.1 j;have e:=s.rem.ec.1 x e;exact s.hh.kind x e.1 e.2
  .obtain⟨x,e,rfl⟩:=w!.1 j;have e:=FW e;exact(He s.ro.right s.ro.Abi).1 _ (AF e.1 e.2)
 .have K:=GU (l:=(Ci t r (CB h (dS r h m)) (cS r h m)).ej) (g:=λv=>v.length) o U;have N:=GU (l:=(Ci t r (CB h (dS r h m)) (cS r h m)).d5.d3) (g:=λn=>(As t n).length) o i1
  grind
end Go.Sf.Sc
namespace Go.Sf.Sc
open Go Go.Sf
abbrev zRu:ff:=ff.mk (⟨#[]⟩:ByteArray) (ea.mk (d5.mk [] []) [] 0 []) (ea.mk (d5.mk [] []) [] 0 []) (BE.mk [] []) (d6.mk [] []) T (d7.mk 0 [] (d6.mk [] []) (ea.mk (d5.mk [] []) [] 0 []))
abbrev zG:AU:=AU.mk zRu (AP.mk (d6.mk [] []) []) (AG.mk (d5.mk [] []) []) (AG.mk (d5.mk [] []) []) (d6.mk [] []) (d6.mk [] [])
def cQ(t:AC)(r:ff)(h:AG)(m:AP):AU×Int:=
 if (Jn t (Ci t r (CB h (dS r h m)) (cS r h m)) (CC r (cS r h m) m.fd)).2≠0 then(zG,(Jn t (Ci t r (CB h (dS r h m)) (cS r h m)) (CC r (cS r h m) m.fd)).2)else
 if 40<(Jn t (Ci t r (CB h (dS r h m)) (cS r h m)) (CC r (cS r h m) m.fd)).1.d5.d3.length\/80<(Jn t (Ci t r (CB h (dS r h m)) (cS r h m)) (CC r (cS r h m) m.fd)).1.d5.d4.length then(zG,3)else
 (AU.mk r m h (Jn t (Ci t r (CB h (dS r h m)) (cS r h m)) (CC r (cS r h m) m.fd)).1 (GO h (dS r h m)) (cS r h m),0)
noncomputable def EJ(t:AC)(r:ff)(h:AG)(m:AP):AU×Int:=
 if DP t r≠0 then(zG,DP t r)else if(De t h).2≠0 then(zG,(De t h).2)else
 if GN t r.gp.d5 h.d5 m.d6 r.kh≠0 then(zG,1)else
 if (GQ t r.gp h m.d6).2≠0 then(zG,(GQ t r.gp h m.d6).2)else if¬(GQ t r.gp h m.d6).1=m.fd then(zG,11)else
 if (O4 (UH r.gp.d5 h.d5 m.d6) h.d5 r.pr m.d6).2≠0 then(zG,(O4 (UH r.gp.d5 h.d5 m.d6) h.d5 r.pr m.d6).2)else
 if (OZ t r.gp r.d7 h m r.kh).2≠0 then(zG,(OZ t r.gp r.d7 h m r.kh).2)else
 if (OZ t r.gp r.d7 h m r.kh).1=T then(zG,16)else cQ t r h m
variable{t:AC}{r:ff}{h:AG}{m:AP}
theorem Y6(e:DP t r=0)(j:(De t h).2=0)(o:GN t r.gp.d5 h.d5 m.d6 r.kh=0)(s:(GQ t r.gp h m.d6).2=0)(u:(GQ t r.gp h m.d6).1=m.fd):U6 t r.gp r.d7 h m r.kh=0:=by
 unfold U6;rw[ae (by simp[(Ue e).2.2]),ae (by simp[j]),ae q_,ae (by simp[s]),ac u]
theorem iq{ζ:Option (AU×Int)}(hX:(Jn t (Ci t r (CB h (dS r h m)) (cS r h m)) (CC r (cS r h m) m.fd)).2=0->ζ=
   if ((decide (40<((Jn t (Ci t r (CB h (dS r h m)) (cS r h m)) (CC r (cS r h m) m.fd)).1.d5.d3.length:Int)))||(decide (80<((Jn t (Ci t r (CB h (dS r h m)) (cS r h m)) (CC r (cS r h m) m.fd)).1.d5.d4.length:Int))))=X then Y (zG,3)else
   Y (AU.mk r m h (Jn t (Ci t r (CB h (dS r h m)) (cS r h m)) (CC r (cS r h m) m.fd)).1 (GO h (dS r h m)) (cS r h m),0)):
  (if(!decide ((Jn t (Ci t r (CB h (dS r h m)) (cS r h m)) (CC r (cS r h m) m.fd)).2=0))=X then Y (zG,(Jn t (Ci t r (CB h (dS r h m)) (cS r h m)) (CC r (cS r h m) m.fd)).2)else ζ)=Y (cQ t r h m):=by
 unfold cQ;refine Dl λe=>?_;rw[hX e];refine Qs an λ_=>rfl
theorem Yc(hf:Ar t)(fr:IQ r)(D:Di r.d7<=40)(h:AG)(m:AP):FE t r h m=Y (EJ t r h m):=by
 unfold FE Hz EJ;rw[Ol hf,bs];by_cases hv:¬(A0 t).2=0
 .grind[DP,A0]
 have hv:=E_.1 hv;rw[ae l_,fG hf fr,bs,Ve hf,bs];by_cases j:¬DP t r=0
 .grind
 have j:=E_.1 j;rw[ae (by simp[j]),bs,ae (show¬DP t r≠0 by simp[j])];refine Dl λE=>?_;rw[Option.bind_fun_some];unfold Hy KW;rw[ZT hf,bs];by_cases o:¬GN t r.gp.d5 h.d5 m.d6 r.kh=0
 .grind
 have o:=E_.1 o;rw[ae q_,jB hf,bs,ae (show¬GN t r.gp.d5 h.d5 m.d6 r.kh≠0 by simp[o])];by_cases u:¬(GQ t r.gp h m.d6).2=0
 .grind
 have u:=E_.1 u;rw[ae o!,PP,bs,ae (show¬(GQ t r.gp h m.d6).2≠0 by simp[u])];by_cases w:¬(GQ t r.gp h m.d6).1=m.fd
 .grind
 have w:=E_.1 w;rw[ae (by simp[w]),bs,ae V,ae (show¬¬(GQ t r.gp h m.d6).1=m.fd by simp[w])];rw[xQ hf o,bs,ae V,xL fr.fl,bs];refine Dl λF=>?_;obtain⟨_,_,_,ha⟩:=X0 hf D (Y6 j E o u w);obtain⟨co,N⟩:=Y8 F;rw[gu hf _ fr.cond D,bs,N];refine Dl λO=>?_;refine X2 λP=>?_;have s:H0 t r h m:=⟨hf,fr,j,E,ha,co⟩;have hr:=s.rem;have Q:=s.hh.g.ec;have S:=s.hh.g.eh;have l1:=s.left.1;have l2:=s.left.2;have ε:=s.ro.left.ec;have η:=s.ro.left.eh;have H:=ha.len;have I:=ha.q.vars;have z:KV m=Y m:=by
  unfold KV slices_Clone_int;rw[BR b_,bs,BR b_,bs,BR b_,bs]
 simp only[];rw[z,bs,k7 hr.sm,bs];rw[jK U hr.ec.2 (On _ _),bs,jK U hr.eh.2 (On _ _),bs];have J:HD r.ei.d5.d3.length r.pr.d3 r.pf.d3 m.d6.d3 (Ik h.d5.d3.length (dS r h m).d3) (OL h.d5 r.pr m.d6).d3.length=Y (cS r h m).d3:=
  aX s.AbU.1 (λx y=>by rw[Kj];obtain⟨i,e,i1,rfl⟩:=BG y;exact(ha.m.node i e i1).1) U (F?.2 hr.ec.2)
 have K:HD r.ei.d5.d4.length r.pr.d4 r.pf.d4 m.d6.d4 (Ik h.d5.d4.length (dS r h m).d4) (OL h.d5 r.pr m.d6).d4.length=Y (cS r h m).d4:=
  aX s.Ab0.1 (λx y=>by rw[Kj];obtain⟨i,e,i1,rfl⟩:=BG y;exact ha.m.edge i e i1) U (F?.2 hr.eh.2)
 rw [J,bs,K,bs];have hb:=uT (M:=m) s.grow hr (Y7 _ _ _ _ _) (λi e i1=>iR s.AbU.1 s.AbU.2.1 e i1) (λi e i1=>iR s.Ab0.1 s.Ab0.2.1 e i1);change ((Jf t (AU.mk r m h (AG.mk (d5.mk [] []) []) (GO h (dS r h m)) (cS r h m)) (dS r h m)).bind _)=_;rw[hb,bs,xO s.put,bs];exact iq λG=>by rw[ac G]
theorem oB(hf:Ar t){p:ea}{c:d7}(e:Di c<=40){inj:Bool}(j:U6 t p c h m inj=0):Jv t c h m inj=Y (OZ t p c h m inj):=by
 obtain ⟨hv,hh,o,ha⟩:=X0 hf e j
 grind [Jv,OZ,wS,C1,vX,nO,qr]
theorem oL(hf:Ar t)(fr:IQ r)(G:Di r.d7<=40)(h:AG)(m:AP):IG t r h m=Y (EJ t r h m):=by
 unfold IG G2 EJ;rw[fV hf fr,bs,Vl hf,bs];by_cases e:¬DP t r=0
 .rw[ac c_,bs,ac c_,ac e]
 have e:=E_.1 e;rw[ae c_,bs,ae (show¬DP t r≠0 by simp[e])];refine Dl λD=>?_;unfold IN;rw[Za hf,bs];by_cases j:¬GN t r.gp.d5 h.d5 m.d6 r.kh=0
 .rw[ac (by simp[j]),bs,ac V,ac j]
 have j:=E_.1 j;rw[ae (by simp[j]),uk hf,bs,ae (show¬GN t r.gp.d5 h.d5 m.d6 r.kh≠0 by simp[j])];by_cases o:¬(GQ t r.gp h m.d6).2=0
 .rw[ac q_,bs,ac q_,ac o]
 have o:=E_.1 o;rw[ae q_,ZY,bs,ae (show¬(GQ t r.gp h m.d6).2≠0 by simp[o])];by_cases y:¬(GQ t r.gp h m.d6).1=m.fd
 .rw[ac (by simp[y]),bs,ac V,ac y]
 have y:=E_.1 y;rw[ae (by simp[y]),ae (show¬¬(GQ t r.gp h m.d6).1=m.fd by simp[y])];rw[xk hf j,bs,ae V,xc fr.fl,bs];by_cases u:¬(O4 (UH r.gp.d5 h.d5 m.d6) h.d5 r.pr m.d6).2=0
 .rw[ac o!,bs,ac o!,ac u]
 have u:=E_.1 u;rw[ae o!,ae (show¬(O4 (UH r.gp.d5 h.d5 m.d6) h.d5 r.pr m.d6).2≠0 by simp[u])];have z:=Y6 e D j o y;obtain⟨_,_,_,ha⟩:=X0 hf G z;obtain⟨co,J⟩:=Y8 u;rw[oB hf G z,bs,J,Iv,bs,bs];by_cases w:¬(OZ t r.gp r.d7 h m r.kh).2=0
 .rw[ae (show¬((decide ((OZ t r.gp r.d7 h m r.kh).2=0)&&!(OZ t r.gp r.d7 h m r.kh).1)=X)by simp[w]),ac (by simp[w]),ac w]
 have w:=E_.1 w;rw[ae (show¬(OZ t r.gp r.d7 h m r.kh).2≠0 by simp[w])];cases N:(OZ t r.gp r.d7 h m r.kh).1 with
 |false=>rw[ac (show(decide ((OZ t r.gp r.d7 h m r.kh).2=0)&&!T)=X by simp[w]),ac V,ac rfl]|true=>
 rw [ae (show¬(decide ((OZ t r.gp r.d7 h m r.kh).2=0)&&!X)=X by simp),ae (by simp[w]),ae V];have s:H0 t r h m:=⟨hf,fr,e,D,ha,co⟩;have hr:=s.rem;have O:=s.hh.g.ec;have P:=s.hh.g.eh;have l1:=s.left.1;have l2:=s.left.2;have Q:=s.ro.left.ec;have S:=s.ro.left.eh;unfold I1 Mi;simp only[];rw[gw hf D s.part hr,bs,fN U hr.ec.2 ((On _ _).imp λh=>U),bs,bs,fN U hr.eh.2 ((On _ _).imp λh=>U),bs,bs,bs];simp only[];rw[Yj U (λx E=>by rw[Kj];obtain⟨i,F,i1,rfl⟩:=BG E;exact(ha.m.node i F i1).1),bs];rw[Yj U (λx E=>by rw[Kj];obtain⟨i,F,i1,rfl⟩:=BG E;exact ha.m.edge i F i1),bs];have H:GJ r.pr.d3 r.pf.d3 r.ei.d5.d3.length (m.d6.d3.map (AA (Ik h.d5.d3.length (dS r h m).d3))) (OL h.d5 r.pr m.d6).d3.length=Y (cS r h m).d3:=
  al s.AbU.1 U (F?.2 hr.ec.2)
 have I:GJ r.pr.d4 r.pf.d4 r.ei.d5.d4.length (m.d6.d4.map (AA (Ik h.d5.d4.length (dS r h m).d4))) (OL h.d5 r.pr m.d6).d4.length=Y (cS r h m).d4:=
  al s.Ab0.1 U (F?.2 hr.eh.2)
 rw [H,bs,I,bs];rw[n9 (ay hr),bs];change ((JX t r (CB h (dS r h m)) (cS r h m)).bind _)=_;rw[xi s.grow (ay hr),bs];change ((Kh t r (Ci t r (CB h (dS r h m)) (cS r h m)) (cS r h m) m.fd).bind _)=_;rw[ABD s.put,bs];exact iq λK=>rfl
end Go.Sf.Sc
namespace Go.Sf.Sc
open Go Go.Sf
instance:Inhabited ff:=⟨zRu⟩
instance:Inhabited Ft:=⟨⟨0,⟨⟨[],[]⟩,[]⟩⟩⟩
instance:Inhabited AU:=⟨zG⟩
structure GM(rules:List ff):Prop where
 len:rules.length<=12
 each:∀r∈rules,IQ r/\Di r.d7<=40
noncomputable def F3(t:AC)(rules:List ff)(h:AG)(m:Ft):AU×Int:=if m.ff<0\/rules.length<=m.ff then(zG,6)else EJ t (AA rules m.ff) h m.og
variable{t:AC}
theorem xS(hf:Ar t){rules:List ff}(hr:GM rules)(h:AG)(m:Ft):FH t rules h m=Y (F3 t rules h m):=by
 unfold FH F3;refine Qs V λe=>?_;have j:=hr.each _ (AF (l:=rules) (i:=m.ff) U U)
 grind [AD,Yc]
noncomputable def FX(t:AC)(rules:List ff):Int:=
 if (A0 t).2≠0 then(A0 t).2 else if 10<rules.length then 3 else(fst (λi=>nz (DP t (AA rules i))) 0 rules.length).getD 0
noncomputable def Gr(t:AC)(rules:List ff)(h:AG):Int:=if FX t rules≠0 then FX t rules else(De t h).2
theorem xE{e v:Int}(h:nz e=Y v):v≠0:=by grind[nz]
variable{a b v:Int}
theorem tw{c:Int->Int}(h:fst (λi=>nz (c i)) a b=Y v):v≠0:=by grind[CZ,xE]
theorem oK(hf:Ar t){rules:List ff}(hr:GM rules):N4 t rules=Y (FX t rules):=by
 unfold N4 FX;rw[Rv hf,bs];refine EC λj=>Qs i! λo=>?_;rw[BW (λi=>nz (DP t (AA rules i))),Cw];intro i e i1 _;rw[AD e i1,bs,fV hf (hr.each _ (AF e i1)).1,bs,Nq]
theorem qu(hf:Ar t){rules:List ff}(hr:GM rules)(h:AG):N5 t rules h=Y (Gr t rules h):=by
 unfold N5 Gr;rw[oK hf hr,bs,Vl hf,bs];exact EC λ_=>rfl
theorem qU(hf:Ar t){rules:List ff}(hr:GM rules)(h:AG):FI t rules h=Y (Gr t rules h):=by
 unfold FI Gr FX;rw[Ol hf,bs];by_cases j:¬(A0 t).2=0
 .grind
 have j:=E_.1 j;rw[ae (by simp[j]),ae (show¬(A0 t).2≠0 by simp[j])];by_cases s:10<rules.length
 .grind
 rw [ae an,ae s,BW (λi=>nz (DP t (AA rules i))),DN]
 .cases e:fst (λi=>nz (DP t (AA rules i))) 0 (rules.length:Int)with
  |none=>
   grind [Ve]
  |some v=>
   have:=tw e
   grind
 .intro i o i1 _;rw[AD o i1,bs,fG hf (hr.each _ (AF o i1)).1,bs,Nq]
noncomputable def Jd(t:AC)(rules:List ff)(h0:AG)(ms:List Ft):List AU×AG:=
 ms.foldl (λs m=>(s.1++[(F3 t rules s.2 m).1],(F3 t rules s.2 m).1.hV)) ([],h0)
noncomputable def R9(t:AC)(rules:List ff)(h0:AG)(ms:List Ft)(i:Int):Int:=(F3 t rules (Jd t rules h0 (ms.take i.toNat)).2 (AA ms i)).2
theorem SR(t:AC)(rules:List ff)(e:AG)(j:List Ft)(m:Ft):Jd t rules e (j++[m])=((Jd t rules e j).1++[(F3 t rules (Jd t rules e j).2 m).1],(F3 t rules (Jd t rules e j).2 m).1.hV):=by
 unfold Jd
 grind
theorem jZ(t:AC)(rules:List ff)(j:AG)(e:List Ft):(Jd t rules j e).1.length=e.length:=by
 refine gB (P:=λe=>(Jd t rules j e).1.length=e.length) rfl (λe m o=>?_) e
 grind [SR,b6]
variable{α:Type}{i:Int}
theorem Ll[Inhabited α]{l m:List α}(e:0<=i)(j:i<l.length):AA (l++m) i=AA l i:=by grind[Ob]
theorem wR[Inhabited α](l:List α)(a:α):AA (l++[a]) l.length=a:=by
 rw [Ob,ae V,E!,Nat.sub_self];rfl
theorem pi{rules:List ff}{e:AG}{a b:List Ft}(j:0<=i)(i1:i<a.length):R9 t rules e (a++b) i=R9 t rules e a i:=by grind[R9,Ll]
noncomputable def Ze(t:AC)(rules:List ff)(d:CA):List AU×Int×Int:=
 if Gr t rules d.l4≠0 then([],0,Gr t rules d.l4)else if 30<d.mo.length then([],0,3)else
 match fst (λi=>(nz (R9 t rules d.l4 d.mo i)).map λe=>([],i,e)) 0 d.mo.length with
 |some r=>r|none=>((Jd t rules d.l4 d.mo).1,(d.mo.length:Int),0)
variable{d:CA}
theorem rE{rules:List ff}(hd:d.mo.length<=1000){f:AG->Ft->Option (AU×Int)}(hf:∀h m,f h m=Y (F3 t rules h m)):
  em (jj (ρ:=(List AU×Int×Int)) (λ(o:Int)(u:List AU×AG)=>
  (idx d.mo o).bind λw=>
  (f u.2 w).bind λj=>
  if (!decide (j.2=0))=X then
  Y (.ret ([],o,j.2))
  else
  (AY u.1 [j.1]).bind λy=>
  Y (.next (y,j.1.hV))) 0 (d.mo.length:Int) ([],d.l4)) (λu=>
  Y (u.1,(u.1.length:Int),(0:Int))) (λz=>Y z)=Y (match fst (λi=>(nz (R9 t rules d.l4 d.mo i)).map λe=>([],i,e)) 0 d.mo.length with
   |some r=>r|none=>((Jd t rules d.l4 d.mo).1,(d.mo.length:Int),0)):=by
 rw [Gf (a:=0) (s:=(([],d.l4):List AU×AG)) (λi=>Jd t rules d.l4 (d.mo.take i.toNat)) (λi=>(nz (R9 t rules d.l4 d.mo i)).map λe=>([],i,e)) U rfl]
 .cases fst (λi=>(nz (R9 t rules d.l4 d.mo i)).map λe=>(([],i,e):List AU×Int×Int)) 0 (d.mo.length:Int)with
  |some r=>rfl|none=>
   show Y _=Y _;rw[E!,z_,jZ]
 .intro i o i1 _;have D:=jZ t rules d.l4 (d.mo.take i.toNat);rw[AD o i1,bs,hf,bs];show(if(!decide (R9 t rules d.l4 d.mo i=0))=X then _ else _)=_;by_cases e:R9 t rules d.l4 d.mo i=0
  .rw[ae c_,AS (by rw[D,bk];simp;unfold AX;omega),bs,B5 o i1,SR,IK.2 e];rfl
  .rw[ac c_];unfold nz;rw[ae e];rfl
theorem qX(hf:Ar t){rules:List ff}(hr:GM rules)(d:CA):Dy t rules d=Y (Ze t rules d):=by
 unfold Dy Ze;rw[qU hf hr,bs];refine Dl λe=>Qs i! λj=>?_;exact rE U (xS hf hr)
structure SW(t:AC)(rules:List ff)(d:CA):Prop where
 given:Gr t rules d.l4=0
 few:d.mo.length<=30
 moves:∀i:Int,0<=i->i<d.mo.length->R9 t rules d.l4 d.mo i=0
theorem yC{rules:List ff}(h:SW t rules d):Ze t rules d=((Jd t rules d.l4 d.mo).1,(d.mo.length:Int),0):=by
 unfold Ze;rw[ae (by simp[h.given]),ae (by have:=h.few;omega),A5.2 λi e i1=>by rw[IK.2 (h.moves i e i1)];rfl]
structure L0(h:AG)(s:AU):Prop where
 Aak:s.p0.d3.length=h.d5.d3.length
 Aao:s.p0.d4.length=h.d5.d4.length
 node:∀x∈s.p0.d3,-1<=x/\x<s.hV.d5.d3.length
 edge:∀x∈s.p0.d4,-1<=x/\x<s.hV.d5.d4.length
 sm:EH s.hV
variable{x:AG}{L:BX}
theorem fJ(h:(Jn t x L).2=0):Jn t x L=(⟨x.d5,L.foldl CP x.ej⟩,0)/\L.any (Nc t x)=T:=by
 unfold Jn at h|-
 grind
structure Qr(t:AC)(r:ff)(h:AG)(m:AP):Prop where
 f:H0 t r h m
 sat:OZ t r.gp r.d7 h m r.kh=(X,0)
 solve:GQ t r.gp h m.d6=(m.fd,0)
 chk:GN t r.gp.d5 h.d5 m.d6 r.kh=0
 put:(Jn t (Ci t r (CB h (dS r h m)) (cS r h m)) (CC r (cS r h m) m.fd)).2=0
 few:(Ci t r (CB h (dS r h m)) (cS r h m)).d5.d3.length<=40/\(Ci t r (CB h (dS r h m)) (cS r h m)).d5.d4.length<=80
def Oy(t:AC)(r:ff)(h:AG)(m:AP):AG:=⟨(Ci t r (CB h (dS r h m)) (cS r h m)).d5,(CC r (cS r h m) m.fd).foldl CP (Ci t r (CB h (dS r h m)) (cS r h m)).ej⟩
def S4(t:AC)(r:ff)(h:AG)(m:AP):AU:=AU.mk r m h (Oy t r h m) (GO h (dS r h m)) (cS r h m)
variable{r:ff}{h:AG}{m:AP}
theorem R5(hf:Ar t)(fr:IQ r)(I:Di r.d7<=40)(e:(EJ t r h m).2=0):Qr t r h m/\EJ t r h m=(S4 t r h m,0):=by
 unfold EJ at e|-;split at e
 next o=>exact absurd e o
 rename_i o;rw[ae o];split at e
 next u=>exact absurd e u
 rename_i u;rw[ae u];split at e
 .cases e
 rename_i E;rw[ae E];split at e
 next w=>exact absurd e w
 rename_i w;rw[ae w];split at e
 .cases e
 rename_i F;rw[ae F];split at e
 next z=>exact absurd e z
 rename_i z;rw[ae z];split at e
 next D=>exact absurd e D
 rename_i D;rw[ae D];split at e
 .cases e
 rename_i G;rw[ae G];have o:=E_.1 o;have u:=E_.1 u;have E:=E_.1 E;have w:=E_.1 w;have F:=E_.1 F;have z:=E_.1 z;have D:=E_.1 D;obtain⟨_,_,_,ha⟩:=X0 hf I (Y6 o u E w F);have s:H0 t r h m:=⟨hf,fr,o,u,ha,(Y8 z).1⟩;unfold cQ at e|-;split at e
 next y=>exact absurd e y
 rename_i y;rw[ae y];have y:=E_.1 y;obtain⟨H,J⟩:=fJ y;split at e
 .cases e
 rename_i j;rw[ae j];rw[H]at j;refine⟨⟨s,?_,?_,E,y,?_⟩,?_⟩
 .exact Prod.ext (by simpa using G) D
 .exact Prod.ext F w
 .simp[not_or]at j;exact j
 .rw[H];rfl
theorem Qr.trk(s:Qr t r h m):L0 h (S4 t r h m):=by
 have hr:=s.f.rem;have j:=s.f.put;have E:((Ci t r (CB h (dS r h m)) (cS r h m)).d5.d3.length)=(dS r h m).d3.length+(Ek r).length:=by
  show (B? (_++_))=_;rw[b6,c9];show((dS r h m).d3.map _).length+_=_;rw[c9];rfl
 have he:((Ci t r (CB h (dS r h m)) (cS r h m)).d5.d4.length)=(dS r h m).d4.length+(Kv r).length:=by
  show (B? (_++_))=_;rw[b6,c9];show((dS r h m).d4.map _).length+_=_;rw[c9];rfl
 have w:Mz (Oy t r h m).ej (Ci t r (CB h (dS r h m)) (cS r h m)).ej:=dr _ _;have z:(Oy t r h m).ej.length=(Ci t r (CB h (dS r h m)) (cS r h m)).d5.d3.length:=by
  have:=congrArg B? w;rw[c9,c9]at this;rw[this,j.Ab3]
 refine ⟨Kj _ _,Kj _ _,λx o=>?_,λx o=>?_,⟨?_,?_,?_,λv hv=>?_⟩⟩
 .obtain⟨i,hi,rfl⟩:=w!.1 o;have:=Rs (dS r h m).d3 i;have D:(S4 t r h m).hV.d5.d3.length=(Ci t r (CB h (dS r h m)) (cS r h m)).d5.d3.length:=rfl
  grind
 .obtain⟨i,hi,rfl⟩:=w!.1 o;have:=Rs (dS r h m).d4 i;have D:(S4 t r h m).hV.d5.d4.length=(Ci t r (CB h (dS r h m)) (cS r h m)).d5.d4.length:=rfl
  grind
 .have:=s.few.1;show(Ci t r (CB h (dS r h m)) (cS r h m)).d5.d3.length<=1000;omega
 .have:=s.few.2;show(Ci t r (CB h (dS r h m)) (cS r h m)).d5.d4.length<=1000;omega
 .have:=s.few.1;show(Oy t r h m).ej.length<=1000;omega
 .have y:v.length∈(Oy t r h m).ej.map B?:=w!.2 ⟨v,hv,rfl⟩;rw[w,s.f.rows]at y;obtain⟨n,u,e⟩:=w!.1 y;have:=Hs j.hf (F! _) (Cd j.hv).par (j.kind n u).2;omega
end Go.Sf.Sc
namespace Go.Sf.Sc
open Go Go.Sf
def D3(l by':Fp):Fp:=l.map λx=>if x<0 then -1 else AA by' x
def KA(m tr:d6):d6:=⟨D3 m.d3 tr.d3,D3 m.d4 tr.d4⟩
def Q7(m:d6)(l:List AU):d6:=l.foldl (λm s=>KA m s.p0) m
def Nk(g:d5):d6:=⟨Ao g.d3.length,Ao g.d4.length⟩
variable{i:Int}
theorem My(n:Nat)(e:0<=i)(i1:i<n):AA (Ao n) i=i:=by
 have:=I5 (n:=n) (λx=>x) e i1
 rwa [List.map_id']at this
variable{n:Nat}
theorem fP(h:n<=1000):KN n=Y (Ao n):=by
 unfold KN;rw[Od (λ_=>X) id]
 .rw[bs,y!,List.filter_eq_self.2 λ_ _=>rfl]
 .intro i s e i1 j;rw[AS a_,bs,ac rfl];rfl
variable{g:d5}
theorem xt(h:B2 g=0):QE g=Y (Nk g):=by
 have e:=DV h;have:=e.ec;have:=e.eh;unfold QE;rw[fP U,bs,fP U,bs];rfl
structure Kb(m:d6)(g:d5):Prop where
 Aak:m.d3.length<=1000
 Aao:m.d4.length<=1000
 node:∀x∈m.d3,-1<=x/\x<g.d3.length
 edge:∀x∈m.d4,-1<=x/\x<g.d4.length
theorem AAe(h:B2 g=0):Kb (Nk g) g:=by
 have j:=DV h;have:=j.ec;have:=j.eh;refine⟨by show(Ao _).length<=1000;rw[At];omega,by show(Ao _).length<=1000;rw[At];omega,λx e=>?_,λx e=>?_⟩
 .have:=Cu.1 e;omega
 .have:=Cu.1 e;omega
theorem Pw{l e:Fp}(o:∀x∈l,-1<=x/\x<e.length)(hb:∀x∈e,-1<=x/\x<n):∀x∈D3 l e,-1<=x/\x<n:=by
 intro x j;obtain⟨y,s,rfl⟩:=w!.1 j
 grind [AF]
variable{h:AG}
theorem vT{m:d6}{s:AU}(e:Kb m h.d5)(j:L0 h s):Kb (KA m s.p0) s.hV.d5:=by
 refine ⟨by show(B! _ _).length<=1000;rw[c9];exact e.Aak,by show(B! _ _).length<=1000;rw[c9];exact e.Aao,?_,?_⟩
 .exact Pw (λx o=>by have:=e.node x o;rw[j.Aak];exact this) j.node
 .exact Pw (λx o=>by have:=e.edge x o;rw[j.Aao];exact this) j.edge
variable{t:AC}
theorem WE(hf:Ar t){rules:List ff}(hr:GM rules){m:Ft}(e:(F3 t rules h m).2=0):
  (0<=m.ff/\m.ff<rules.length)/\Qr t (AA rules m.ff) h m.og/\F3 t rules h m=(S4 t (AA rules m.ff) h m.og,0):=by
 unfold F3 at e|-;split at e
 .cases e
 rename_i o;rw[ae o];have j:=hr.each _ (AF (l:=rules) (i:=m.ff) U U);exact⟨U,R5 hf j.1 j.2 e⟩
theorem ZG(hf:Ar t){rules:List ff}(e:Gr t rules h=0):FX t rules=0/\(De t h).2=0/\(A0 t).2=0/\IR t h:=by grind[Gr,P7]
variable{d:CA}
theorem a7(hf:Ar t){rules:List ff}(hr:GM rules)(h:SW t rules d):∀n:Nat,n<=d.mo.length ->
  EH (Jd t rules d.l4 (d.mo.take n)).2/\Kb (Q7 (Nk d.l4.d5) (Jd t rules d.l4 (d.mo.take n)).1) (Jd t rules d.l4 (d.mo.take n)).2.d5
 |0,_=>by
  obtain ⟨_,u,j,o⟩:=ZG hf h.given;exact⟨RY hf j o,AAe o.ge⟩
 |n+1,y=>by
  obtain ⟨u,j⟩:=a7 hf hr h n U;have he:=h.moves n U U;have e:=B5 (l:=d.mo) (i:=(n:Int)) U U;rw[show((n:Int)+1).toNat=n+1 by omega,E!]at e;unfold R9 at he;rw[E!]at he;obtain⟨_,s,w⟩:=WE hf hr he;rw[e,SR,w];refine⟨s.trk.sm,?_⟩;unfold Q7 at j|-;rw[x_];exact vT j s.trk
structure mC(m:AP):Prop where
 ec:m.d6.d3.length<=1000
 eh:m.d6.d4.length<=1000
 vars:m.fd.length<=1000
structure vg(d:CA):Prop where
 start:EH d.l4
 len:d.mo.length<=1000
 moves:∀m∈d.mo,mC m.og
variable{r:ff}{m:AP}
theorem Qr.small(s:Qr t r h m):mC m:=by
 have j:=s.f.left;have e:=s.f.ro.left;have o:=s.f.at_.len;have u:=s.f.at_.q.vars;have:=e.ec;have:=e.eh;exact⟨U,U,U⟩
theorem SW.small(hf:Ar t){rules:List ff}(hr:GM rules)(h:SW t rules d):vg d:=by
 obtain ⟨_,_,j,o⟩:=ZG hf h.given;refine⟨RY hf j o,by have:=h.few;omega,λm e=>?_⟩;obtain⟨i,s,i1,rfl⟩:=BG e;have he:=h.moves i s i1;unfold R9 at he;exact(WE hf hr he).2.1.small
theorem tS{rules:List ff}{m:Ft}(h:SW t rules d)(o:d.mo.length<30)(e:(F3 t rules (Jd t rules d.l4 d.mo).2 m).2=0):SW t rules ⟨d.l4,d.mo++[m]⟩:=by
 refine ⟨h.given,an,λi j i1=>?_⟩;simp at i1;show R9 t rules d.l4 (d.mo++[m]) i=0;by_cases hi:i<d.mo.length
 .rw[pi j hi];exact h.moves i j hi
 grind [R9,wR,E!,List.take_left']
variable{α:Type}
theorem Py[Inhabited α]{l:List α}(v:α)(e:0<=i)(j:i<l.length):AA (A2 l i v) i=v:=by grind[AA,A2]
theorem TQ[Inhabited α]{l:List α}{i j:Int}(v:α)(e:0<=i)(o:0<=j)(h:j≠i):AA (A2 l i v) j=AA l j:=by grind[AA,A2]
end Go.Sf.Sc
namespace Go.Sf.Sc
open Go Go.Sf
end Go.Sf.Sc
namespace Go.Sf.Sc
open Go Go.Sf
end Go.Sf.Sc
namespace Go.Sf.Sc
open Go Go.Sf
variable{ρ:Type}
theorem yl{f:Int×Int->Option (Bo (Int×Int) ρ)}(I:Int->Int->Prop)(b:Int){s a:Int}(w:I a s)
  (step:∀i s,a<=i->I i s->(i<b/\∃s',f (s,i)=Y (.next (s',i+1))/\I (i+1) s')\/f (s,i)=Y (.brk (s,i))):∃i s',a<=i/\I i s'/\Cq f (s,a)=Y (.inl (s',i)):=by
 have key:∀(n:Nat)(i s:Int),a<=i->I i s->b-i<=n->∃j s',i<=j/\I j s'/\MI f (s,i) (.inl (s',j)):=by
  intro n
  induction n with
  |zero=>
   intro i s hi e hb;rcases step i s hi e with⟨h,_⟩|h
   .omega
   .exact⟨i,s,F! _,e,.brk h⟩
  |succ n E=>
   intro i s hi e hb;rcases step i s hi e with⟨_,s',o,u⟩|h
   .obtain⟨j,s2,F,y,z⟩:=E (i+1) s' U u U;exact⟨j,s2,U,y,.next o z⟩
   .exact⟨i,s,F! _,e,.brk h⟩
 obtain ⟨j,s',o,u,D⟩:=key (b-a).toNat a s (F! _) w U;exact⟨j,s',o,u,D.eq⟩
theorem bO{q w k:Int}(c:Int)(H:q<=1000)(y:0<=k)(o:k<=1000)(u:1<=c/\c<=80)(z:1<=w/\w<=400000):∃w' D,(1<=w'/\w'<=400000)/\Cq (ρ:=ρ) (λ(j:Int×Int)=>
  if ((decide (j.2<q))&&(decide (j.1<=5000)))=X then
  Y (.next (AJ (j.1*c),AJ (j.2+1)))
  else
  Y (.brk (j.1,j.2))) (w,k)=Y (.inl (w',D)):=by
 obtain ⟨i,s',K,F,G⟩:=yl (ρ:=ρ) (f:=λ(j:Int×Int)=>
  if ((decide (j.2<q))&&(decide (j.1<=5000)))=X then
  Y (.next (AJ (j.1*c),AJ (j.2+1)))
  else
  Y (.brk (j.1,j.2))) (λi s=>(1<=s/\s<=400000)/\0<=i/\i<=1000) q (s:=w) (a:=k) ⟨z,y,o⟩ (λi s hi E=>by
   by_cases e:i<q/\s<=5000
   .left;have I:1*1<=s*c:=G_ E.1.1 u.1 U U;have J:s*c<=5000*80:=G_ e.2 u.2 U U
    grind [AT]
   grind)
 exact ⟨s',i,F.1,G⟩
theorem jX:∀(N:Nat)(c:d7)(p:ea)(w:Int),SizeOf.sizeOf c<=N->D9 c->Pt p->Di c<=1000->1<=w->w<=5000->∃b,∀n,N<=n->DY n p c w=Y b
 |0,c,_,_,h,_,_,_,_,_=>by have:=Dk c;omega|N+1,c,p,w,h,S,O,hk,w0,w1=>by
  have key:∀q:ea,Pt q->∃b,∀n,N<=n->em (Cq (ρ:=Bool) (λ(j:Int×Int)=>
    if ((decide (j.2<(q.d5.d3.length:Int)))&&(decide (j.1<=5000)))=X then
    Y (.next (AJ (j.1*40),AJ (j.2+1)))
    else
    Y (.brk (j.1,j.2))) (w,(p.d5.d3.length:Int))) (λj=>
    em (Cq (ρ:=Bool) (λ(s2:Int×Int)=>
    if ((decide (s2.2<(q.d5.d4.length:Int)))&&(decide (s2.1<=5000)))=X then
    Y (.next (AJ (s2.1*80),AJ (s2.2+1)))
    else
    Y (.brk (s2.1,s2.2))) (j.1,(p.d5.d4.length:Int))) (λs2=>
    em (Cq (ρ:=Bool) (λ(s:Int)=>
    if ((decide (s<(c.fu.length:Int)))&&(decide (s2.1<=5000)))=X then
    (idx c.fu s).bind λz=>
    (DY n q z s2.1).bind λD=>
    if (!D)=X then
    Y (.ret T)
    else
    Y (.next (AJ (s+1)))
    else
    Y (.brk s)) 0) (λs=>
    Y (decide (s2.1<=5000))) (λε=>Y ε)) (λη=>Y η)) (λζ=>Y ζ)=Y b:=by
   intro q u;have q1:=u.ec;have q2:=u.eh;have p1:=O.ec;have p2:=O.eh;obtain⟨a,k,ha,Q⟩:=bO (ρ:=Bool) (q:=q.d5.d3.length) (w:=w) (k:=p.d5.d3.length) 40 U U U U U;obtain⟨a',k',J,y⟩:=bO (ρ:=Bool) (q:=q.d5.d4.length) (w:=a) (k:=p.d5.d4.length) 80 U U U U ha;have δ:c.fu.length<=1000:=by have:=U9 c.fu;have:=VA c;omega
   by_cases I:a'<=5000
   .have kids:∀x∈c.fu,∃b,∀n,N<=n->DY n q x a'=Y b:=λx E=>by
     have F:=EO E;have G:=W6 E;have h3:=VA c;exact jX N x q a' U (S.k x E) u U J.1 I
    have o:∀i:Int,∃b:Bool,0<=i->i<c.fu.length->∀n,N<=n->DY n q (AA c.fu i) a'=Y b:=λi=>by
     by_cases e:0<=i/\i<c.fu.length
     .obtain⟨b,hb⟩:=kids _ (AF e.1 e.2);exact⟨b,λ_ _=>hb⟩
     .exact⟨X,λF G=>absurd ⟨F,G⟩ e⟩
    obtain ⟨g,Z⟩:=Classical.axiomOfChoice o;refine⟨(fst (λi=>if g i=X then W else Y (Sum.inr T:Int ⊕ Bool)) 0 c.fu.length).isNone,λn H=>?_⟩;rw[Q,Bq];simp only[];rw[y,Bq];simp only[];rw[Ot (λi=>if g i=X then W else Y (.inr T)) (b:=c.fu.length) U]
    .cases e:fst (λi=>if g i=X then W else Y (Sum.inr T:Int ⊕ Bool)) 0 (c.fu.length:Int)with
     |none=>
      show Y (decide (a'<=5000))=Y X;rw[decide_eq_true I]
     |some r=>
      obtain ⟨i,_,_,K,_⟩:=CZ e;split at K
      .cases K
      .cases K;rfl
    .intro i P i1 _;rw[ac an,AD P i1,bs,Z i P i1 n H,bs,AT U U];cases g i<;>rfl
    .rw[ae V]
   .refine⟨T,λn H=>?_⟩;rw[Q,Bq];simp only[];rw[y,Bq];simp only[];rw[Ot (λ_=>W) (b:=0) U (λi F G _=>U) (by rw[ae an])];rw[mu U];show Y _=Y _;rw[decide_eq_false I]
  have u:Pt (if c.kq=5 then c.ea else p):=by split;exact S.q;exact O
  obtain ⟨b,hb⟩:=key _ u;refine⟨b,λn H=>?_⟩;obtain⟨n,rfl⟩:∃k,n=k+1:=⟨n-1,U⟩;rw[DY,show(if decide (c.kq=5)=X then Y c.ea else Y p)=Y (if c.kq=5 then c.ea else p)by by_cases e:c.kq=5<;>simp[e],bs];exact hb n U
end Go.Sf.Sc
namespace Go.Sf.Sc
open Go Go.Sf
variable{r:ff}
theorem fm(e:(Bz r).Sm):(AI r.d7).Sm:=by
 have j:TV.Sms [_,_,_,_,_,_,_,_,_,_,_,_,_,_,_,_,_,_,_,_,_,_,_,_,_]:=e;obtain⟨_,_,_,_,_,_,_,_,_,_,_,E,F,i1,i2,_,o,s,u,w,y,z,c7,c8,D,_⟩:=j;exact⟨o,s,u,w,y,z,c7,c8,D,trivial⟩
variable{t:AC}
theorem ir(hf:Ar t)(st:(AL t).Sm)(e:(Bz r).Sm)(h:AG):∃b,Gz t r h=Y b/\(b=X->IQ r/\Di r.d7<=40):=by
 obtain ⟨j,o,_⟩:=Sh st;obtain⟨s,u,w⟩:=pv e;obtain⟨y,z,D⟩:=oD hf st r.gp (fm e) h;unfold Gz
 grind
theorem uI(st:(AL t).Sm){rules:List ff}(ε:∀r∈rules,(Bz r).Sm)(h:AG):∃b,IH t rules h=Y b/\(b=X->Ar t/\GM rules):=by
 obtain ⟨b1,e1,f1⟩:=Sh st;obtain⟨b2,e2⟩:=dc h;unfold IH;by_cases P:(((decide (4<(rules.length:Int)))&&(decide ((rules.length:Int)<=10)))||(decide (12<(rules.length:Int))))=X
 .rw[ac P,bs,ac rfl,bs,ac rfl];exact⟨T,rfl,λh=>d_⟩
 rw [ae P,e1,bs,bs];cases b1 with
 |false=>exact⟨T,rfl,λh=>d_⟩
 |true=>
 rw [ae a!,e2,bs,bs];cases b2 with
 |false=>exact⟨T,rfl,λh=>d_⟩
 |true=>
 rw [ae a!];have hf:=f1 rfl;have δ:rules.length<=12:=by
  simp only[D',pq,tn,not_or]at P;omega
 rcases XF (f:=λ(o:Int)(η:Bool)=>
  (idx rules o).bind λw=>
  (Gz t w h).bind λy=>
  if (!y)=X then
  Y (.ret T)
  else
  (if η=X then((idx rules o).bind λz=>
  Y (decide ((z.gp.d5.d3.length:Int)<=3)))else Y T).bind λD=>
  (if D=X then((idx rules o).bind λE=>
  Y (decide ((E.gp.d5.d4.length:Int)<=2)))else Y T).bind λF=>
  (if F=X then((idx rules o).bind λG=>
  Y (decide ((G.ei.d5.d3.length:Int)<=5)))else Y T).bind λH=>
  (if H=X then((idx rules o).bind λI=>
  (idx rules o).bind λJ=>
  (OK I.gp J.d7 1).bind λK=>
  Y (K))else Y T).bind λN=>
  Y (.next N)) (λi _=>∀j:Int,0<=j->j<i->IQ (AA rules j)/\Di (AA rules j).d7<=40) (λ_=>False) (λr=>r=T) (a:=0) (b:=rules.length) (s:=X) U (λj h1 h2=>U) (λi s o i1 O=>by
   have Z:=AF o i1;obtain⟨b3,u,f3⟩:=ir hf st (ε _ Z) h;simp only[AD o i1,bs];rw[u,bs];cases b3 with
   |false=>exact .inr (.inr ⟨T,rfl,rfl⟩)|true=>
    obtain ⟨Q,k2⟩:=f3 rfl;obtain⟨S,e4⟩:=jX _ (AA rules i).d7 (AA rules i).gp 1 (az _) Q.cond Q.left U a! a!;have e5:OK (AA rules i).gp (AA rules i).d7 1=Y S:=Dn _ e4;left;refine⟨(((s&&decide (((AA rules i).gp.d5.d3.length:Int)<=3))&&decide (((AA rules i).gp.d5.d4.length:Int)<=2))&&decide (((AA rules i).ei.d5.d3.length:Int)<=5))&&S,?_,λj ζ j1=>?_⟩
    .rw[ae a!,e5];cases s<;>cases decide (((AA rules i).gp.d5.d3.length:Int)<=3)<;>cases decide (((AA rules i).gp.d5.d4.length:Int)<=2)<;>cases decide (((AA rules i).ei.d5.d3.length:Int)<=5)<;>rfl
    .by_cases e:j=i
     .rw[e];exact⟨Q,k2⟩
     .exact O j ζ U)with⟨s',u,h3⟩|⟨r,u,h3⟩
 .rw[u,Bq];have O:=h3.resolve_right id;have hr:GM rules:=⟨δ,λr hr=>by
   obtain ⟨i,o,i1,rfl⟩:=BG hr;exact O i o i1⟩
  rw [qu hf hr,bs];exact⟨_,rfl,λ_=>⟨hf,hr⟩⟩
 .rw[u,S5,h3];exact⟨T,rfl,λh=>d_⟩
variable{h:AG}
theorem mZ:∃b,IB h=Y b/\(b=X->EH h):=by
 unfold IB JT;rw[bs];by_cases j:((!((decide ((h.d5.d3.length:Int)<=45))&&(decide ((h.d5.d4.length:Int)<=90))))||(decide (45<(h.ej.length:Int))))=X
 .rw[ac j];exact⟨T,rfl,λh=>d_⟩
 rw [ae j,BS (λi=>decide (12<((AA h.ej i).length:Int))) T]
 .cases e:l3 (λi=>decide (12<((AA h.ej i).length:Int))) 0 h.ej.length with
  |true=>exact⟨T,rfl,λh=>d_⟩
  |false=>
   refine ⟨X,rfl,λ_=>?_⟩;rw[Bm]at e;simp only[D',Bool.not_eq_true',Bool.and_eq_false_iff,decide_eq_false_iff_not,tn,not_or]at j;refine⟨U,U,U,λv hv=>?_⟩
   grind [BG]
 .intro i o i1 _;rw[AD o i1,bs,Iv]
end Go.Sf.Sc
namespace Go.Sf.Sc
open Go Go.Sf
end Go.Sf.Sc
namespace Go.Sf.Sc
open Go Go.Sf
def TO(x:Int):Prop:=-9223372036854775808<=x/\x<=9223372036854775807
theorem vW{x y:Int}(e:TO x)(j:TO y):AJ (x-y)=0↔x=y:=by
 unfold TO at e j;rw[gK];split<;>omega
theorem ny{l m:Fp}(w:l.length<=1000)(y:m.length<=1000)(s:∀x∈l,TO x)(u:∀x∈m,TO x):∃v,Lc l m=Y v/\(v=0↔l=m):=by
 unfold Lc;rw[Ot (λi=>if AA l i=AA m i then W else Y (.inr (AJ (AA l i-AA m i)))) (b:=min (l.length:Int) m.length) U]
 .cases e:fst (λi=>if AA l i=AA m i then(W:Option (Int ⊕ Int))else Y (.inr (AJ (AA l i-AA m i)))) 0 (min (l.length:Int) m.length)with
  |none=>
   refine ⟨_,rfl,?_⟩;rw[AT U U];rw[A5]at e;constructor
   .intro h;refine dK U λi j i1=>?_;have:=e i j U
    grind
   .rintro rfl;omega
  |some x=>
   obtain ⟨i,j,i1,o,_⟩:=CZ e;by_cases h:AA l i=AA m i
   .rw[ac h]at o;cases o
   .rw[ae h]at o;cases o;refine⟨_,rfl,?_⟩;rw[vW (s _ (AF j U)) (u _ (AF j U))];exact⟨λk=>absurd k h,λk=>by rw[k]⟩
 .intro i j i1 _;rw[ac an,AD j U,bs,AD j U,bs];by_cases h:AA l i=AA m i
  .rw[ae s?,ac h,AT U U];rfl
  .rw[ac s?,ae h,bs,bs];rfl
 .rw[ae an]
structure Kn(h:AG):Prop where
 s:EH h
 w:∀v∈h.ej,∀x∈v,TO x
theorem qR(l m:List Fp):C8 l m slices_Equal_int=Y (decide (l=m)):=by
 unfold C8;simp only[PP,bs];exact P2 l m
theorem ZW(a b:AG):GF a b=Y (decide (a=b)):=by
 unfold GF;rw[PP,bs,fK,bs,qR,bs];obtain⟨⟨n,e⟩,v⟩:=a;obtain⟨⟨u,w⟩,y⟩:=b;by_cases j:n=u<;>by_cases o:e=w<;>by_cases s:v=y<;>simp[j,o,s]
theorem u0{a b:AG}(ha:Kn a)(hb:Kn b):PX a b=Y (decide (a=b)):=by
 unfold PX;rw[uz,bs];obtain⟨g,v⟩:=a;obtain⟨F,e⟩:=b;simp only[];by_cases o:g=F
 .subst o;by_cases u:v.length=e.length
  .rw[ae o!,BS (λi=>!decide (AA v i=AA e i)) T]
   .have:=Zf (λx y:Fp=>decide (x=y)) (l:=v) (m:=e) (λ_ _ _ _=>decide_eq_true_iff) u;by_cases h:v=e
    .rw[this.2 h,ae V,Bq];simp[h]
    .cases E:l3 (λi=>!decide (AA v i=AA e i)) 0 v.length
     .exact absurd (this.1 E) h
     .rw[ac rfl,S5];simp[h]
   .intro i j i1 _;have z:=AF j i1;have D:=AF (l:=e) j U;obtain⟨x,G,H⟩:=ny (ha.s.rows _ z) (hb.s.rows _ D) (ha.w _ z) (hb.w _ D);rw[AD j i1,bs,AD j U,bs,G,bs];by_cases h:AA v i=AA e i<;>simp[h,H]
  .rw[ac an];have:v≠e:=λh=>u (by rw[h]);simp[this]
 .rw[ac q_];simp[o]
theorem ng(a b:ea):Gm a b=Y (decide (a=b)):=by
 unfold Gm RX;simp only[PP,fK,nq,nt,bs];obtain⟨⟨n,e⟩,s,v,t⟩:=a;obtain⟨⟨z,D⟩,s',E,F⟩:=b;by_cases j:n=z<;>by_cases o:e=D<;>by_cases u:s=s'<;>by_cases w:v=E<;>by_cases y:t=F<;>simp[j,o,u,w,y]
noncomputable def iW(a b:ff):Bool:=@decide (a=b) (E' _)
noncomputable def iV(a b:AU):Bool:=@decide (a=b) (E' _)
theorem iX{a b:ff}:iW a b=X↔a=b:=by unfold iW;exact@decide_eq_true_iff _ (E' _)
theorem TW{a b:AU}:iV a b=X↔a=b:=by unfold iV;exact@decide_eq_true_iff _ (E' _)
theorem vE(a b:ff):iW a b=(decide (a.ln=b.ln)&&decide (a.kh=b.kh)&&decide (a.gp=b.gp)&&decide (a.ei=b.ei)&&decide (a.pr=b.pr)&&decide (a.pf=b.pf)&&We a.d7 b.d7):=by
 rw [D_,iX];simp only[pq,tn,ZA];obtain⟨n,l,r,k,i,j,c⟩:=a;obtain⟨e,o,s,u,w,y,c'⟩:=b;simp only[ff.mk.injEq]
 grind
theorem vP(a b:AU):iV a b=(iW a.ff b.ff&&decide (a.og=b.og)&&decide (a.j4=b.j4)&&decide (a.hV=b.hV)&&decide (a.p0=b.p0)&&decide (a.wl=b.wl)):=by
 rw [D_,TW];simp only[pq,tn,iX];obtain⟨r,m,o,s,t,c⟩:=a;obtain⟨u,m',e,j,w,c'⟩:=b;simp only[AU.mk.injEq]
 grind
theorem dH{b c:Bool}{o:K1}(h:o=Y c):(if b=X then o else Y T)=Y (b&&c):=by
 subst h;cases b<;>rfl
theorem ue(a b:ff):Mk a b=Y (iW a b):=by
 unfold Mk;simp only[ng,PP,WN,ud,bs];rw[vE];obtain⟨n,l,r,⟨F,G⟩,i,j,c⟩:=a;obtain⟨H,I,J,⟨e,o⟩,K,N,c'⟩:=b;simp only[];by_cases s:n=H<;>by_cases u:j=N<;>by_cases w:l=I<;>by_cases y:r=J<;>simp[s,u,w,y];by_cases z:F=e<;>by_cases D:G=o<;>by_cases E:i=K<;>simp[z,D,E]
theorem qY(a b:AP):KX a b=Y (decide (a=b)):=by
 unfold KX;simp only[WN,PP,bs];obtain⟨m,v⟩:=a;obtain⟨m',o⟩:=b;by_cases e:m=m'<;>by_cases j:v=o<;>simp[e,j]
theorem qz(a b:AP):JW a b=Y (decide (a=b)):=by
 unfold JW;simp only[jM,bs];obtain⟨⟨m1,w⟩,v⟩:=a;obtain⟨⟨e,j⟩,y⟩:=b;by_cases o:m1=e<;>by_cases s:w=j<;>by_cases u:v=y<;>simp[o,u,s]
theorem uf(a b:AU):Ms a b=Y (iV a b):=by
 unfold Ms;simp only[ue,qY,ZW,WN,bs,vP];cases iW a.ff b.ff<;>by_cases e:a.og=b.og<;>by_cases j:a.j4=b.j4<;>by_cases o:a.hV=b.hV<;>by_cases s:a.p0=b.p0<;>simp[e,j,o,s]
structure yt(s:AU):Prop where
 b:Kn s.j4
 a:Kn s.hV
variable{κ:List Fp}
theorem Z6(h:∀v∈κ,∀x∈v,TO x):∀{L:BX},(∀p∈L,TO p.2)->∀{κ:List Fp},(∀v∈κ,∀x∈v,TO x)->∀v∈L.foldl CP κ,∀x∈v,TO x
 |[],_,_,k=>k|p::L,j,κ,k=>by
  rw [List.foldl_cons];refine Z6 h (L:=L) (λq o=>j q (w? _ o)) ?_;unfold CP;split
  .intro v hv x e;obtain⟨n,s,rfl⟩:=List.mem_iff_getElem.1 hv;rw[List.getElem_modify]at e;split at e
   .rcases List.mem_or_eq_of_mem_set e with e|rfl
    .exact k _ (C' _) _ e
    .exact j p (B_ ..)
   .exact k _ (C' _) _ e
  .exact k
variable{t:AC}{h:AG}
theorem pF(hf:Ar t)(e:(De t h).2=0):Kn h:=by
 obtain ⟨hv,hh⟩:=P7 hf e;refine⟨RY hf hv hh,λv j x o=>?_⟩;obtain⟨i,s,i1,rfl⟩:=BG j;have:=hh.low i s (by have:=hh.len;omega) x o;unfold TO;omega
variable{r:ff}{m:AP}
theorem bR(s:Qr t r h m):yt (S4 t r h m):=by
 have hh:=s.f.hh;have y:=pF s.f.hf s.f.he;have z:=s.f.put;have hT:=Cd s.f.hv;refine⟨y,s.trk.sm,?_⟩;have hb:=(fJ s.put).2;refine Z6 (κ:=[]) V (λp e=>?_) ?_
 .obtain⟨sl,E,rfl⟩:=w!.1 e;have k:=z.slot sl E;rw[List.any_eq_false]at hb;have j:=hb _ e;unfold Nc at j;have D:=z.kind _ (AF k.2.2.1.1 k.2.2.1.2);have F:=RP s.f.hf hT D.1 D.2 _ (AF k.2.2.2.1 k.2.2.2.2);simp only[D',tn,not_or]at j;unfold TO;unfold Rl at j|-;dsimp only at j|-;omega
 .intro v hv x u;unfold Ci OY at hv;rcases C_.1 hv with hv|hv
  .unfold CB at hv;obtain⟨i,hi,rfl⟩:=w!.1 hv;have:=s.f.rem.ec.1 i hi;exact y.w _ (AF this.1 (by have:=hh.len;omega)) x u
  .obtain⟨i,hi,rfl⟩:=w!.1 hv;unfold VU at u;obtain⟨a,ha,rfl⟩:=w!.1 u;have o:=FW hi;have k:=s.f.grow.kind _ (AF (l:=r.ei.d5.d3) o.1 o.2);have G:=RP s.f.hf hT k.1 k.2 a ha;have j:=U1 s.f.hf hT k.1 k.2 a ha;unfold TO;omega
end Go.Sf.Sc
namespace Go.Sf.Sc
open Go Go.Sf
variable{q:Pu}
theorem cy:∀(n:Nat)(f:AM),f.eh.length+n=f.p.d4.length->(∀i:Int,0<=i->i<f.p.d4.length->PL.at_ f.gl.d4 i=PL.at_ q.d4 i)->EA n f=EA n {f with gl:=q}
 |0,_,_,_=>rfl|n+1,f,j,h=>by
  rw [EA,EA];refine congrArg (λF=>(Ao f.g.d4.length).flatMap F) (funext λk=>?_);have e:SI f k=SI {f with gl:=q} k:=by
   grind [SI,LI]
  rw [e,cy n {f with eh:=f.eh++[k]} an h]
theorem dE:∀(n:Nat)(f:AM),f.ec.length+n=f.p.d3.length->f.eh=[]->(∀i:Int,0<=i->i<f.p.d3.length->PL.at_ f.gl.d3 i=PL.at_ q.d3 i)->(∀i:Int,0<=i->i<f.p.d4.length->PL.at_ f.gl.d4 i=PL.at_ q.d4 i)->FG n f=FG n {f with gl:=q}
 |0,f,_,he,_,h=>cy f.p.d4.length f (by rw[he];simp) h|n+1,f,o,he,j,h=>by
  rw [FG,FG];refine congrArg (λF=>(Ao f.g.d3.length).flatMap F) (funext λk=>?_);have e:SJ f k=SJ {f with gl:=q} k:=by
   grind [SJ]
  rw [e,dE n {f with ec:=f.ec++[k]} an he j h]
variable{n:Nat}{i v:Int}
theorem mL(e:0<=i)(j:i<n):AA (List.replicate n v) i=v:=by
 unfold AA
 grind
def F0(t:AC)(p g:d5)(inj:Bool):AM:=⟨p,g,Jz t,Pu.mk W W,inj,5001,[],[],[]⟩
variable{t:AC}{p g:d5}
theorem pP{inj:Bool}:FG p.d3.length (F0 t p g inj)=FG p.d3.length (FF t p g (ND p) inj):=
 dE (q:=Pu.of (ND p)) p.d3.length (F0 t p g inj) p? rfl (λi e i1=>(mL e i1).symm) (λi e i1=>(mL e i1).symm)
theorem qT{inj:Bool}(s:Ar t)(hv:(A0 t).2=0)(o:NZ (FF t p g (ND p) inj)):F8 t p g ⟨W,W⟩ inj 5001=Y (JM t p g (ND p) inj):=by
 unfold F8;rw[lD s (Cd hv) hv,bs];have j:NZ (F0 t p g inj):=⟨trivial,trivial,o.ends,o.kinds,o.small⟩;have h:=nX (f:=F0 t p g inj) j ⟨by show(0:Int)<=5001;omega,by show(5001:Int)<=10000;omega,by show((0:Nat):Int)<=5001;omega⟩ rfl rfl;rw[cz _ _ j rfl,show(F0 t p g inj).p.d3.length=p.d3.length from rfl,pP]at h;have e:AM.mk p g (Jz t) ⟨W,W⟩ inj 5001 [] [] []=F0 t p g inj:=rfl;rw[e,h];rfl
def Ly(t:AC)(p g:d5)(inj:Bool):List d6×Int:=
 if Ec t p g≠0 then([],Ec t p g)else if 5000<(JM t p g (ND p) inj).length then([],3)else(JM t p g (ND p) inj,0)
theorem xI(hf:Ar t)(p g:d5)(inj:Bool):LH t p g inj=Y (Ly t p g inj):=by
 unfold LH Ly;rw[WQ hf,bs];refine Dl λe=>?_
 grind [XA,ND,Jb,qT,bs,JM]
theorem xa(hf:Ar t)(p g:d5)(inj:Bool):Me t p g inj=Y (Ly t p g inj):=by
 unfold Me Ly;rw[UW hf,bs];refine Dl λe=>?_;obtain⟨hv,o⟩:=XA (inj:=inj) (pa:=ND p) e (by simp[ND]) (by simp[ND]);have j:=(OW e).2.1;have:=j.ec;have:=j.eh
 grind [qx,bs,tB,JM,ND]
end Go.Sf.Sc
namespace Go.Sf.Sc
open Go Go.Sf
variable{α:Type}{f:Int->List α->Option (List α)}
theorem aQ[Inhabited α]{x:List α}{p:α->Bool}(u:x.length<=5000)
  (hf:∀(i:Int)(s:List α),0<=i->i<x.length->s.length<=5000->f i s=Y (if p (AA x i)=X then s++[AA x i]else s)):
  n8 f 0 (x.length:Int) []=Y (x.filter p):=by
 rw [B0 (a:=0) (b:=x.length) (s:=[]) (λi=>(x.take i.toNat).filter p) U rfl,E!,z_];intro i e i1;have j:((x.take i.toNat).filter p).length<=5000:=m?
 rw [hf i _ e i1 j,B5 e i1,List.filter_append];cases o:p (AA x i)<;>simp[o]
def LZ(t:AC)(p:ea)(h:AG)(inj:Bool):List AP×Int:=
 if OH t p h≠0 then([],OH t p h)else if(Ly t p.d5 h.d5 inj).2≠0 then([],(Ly t p.d5 h.d5 inj).2)else
 (((Ly t p.d5 h.d5 inj).1.filter λy=>decide ((GA p h y).2=0)).map λy=>⟨y,(GA p h y).1⟩,0)
variable{t:AC}{p g:d5}
theorem dF{inj:Bool}(h:(Ly t p g inj).2=0):(Ly t p g inj).1.length<=5000/\∀m∈(Ly t p g inj).1,GN t p g m inj=0:=by grind[Ly,mt]
theorem qW(hf:Ar t)(p:ea)(h:AG)(inj:Bool):Eg t p h inj=Y (LZ t p h inj):=by
 unfold Eg LZ;rw[aY hf,bs];refine Dl λw=>?_;rw[xI hf,bs];refine Dl λz=>?_;obtain⟨E,G⟩:=dF z;rw[QS (F:=λy=>((GA p h y).1,decide ((GA p h y).2=0))) E,bs];intro i s D i1 j;have o:Fx p h (AA (Ly t p.d5 h.d5 inj).1 i)=Y (GA p h (AA (Ly t p.d5 h.d5 inj).1 i)):=by
  obtain ⟨hv,u,hh,e⟩:=Qn hf w (G _ (AF D i1));exact jJ u (λs j=>Oq (Cd hv) u hh e j)
 grind [AD,bs,GA,AA,Ly,AS,AX]
theorem qv(hf:Ar t)(p:ea)(h:AG)(inj:Bool):Hc t p h inj=Y (LZ t p h inj):=by
 unfold Hc LZ;rw[am hf,bs];refine Dl λw=>?_;rw[xa hf,bs];refine Dl λz=>?_;obtain⟨E,G⟩:=dF z;rw[QS (F:=λy=>((GA p h y).1,decide ((GA p h y).2=0))) E,bs];intro i s D i1 j;have o:Ib p h (AA (Ly t p.d5 h.d5 inj).1 i)=Y (GA p h (AA (Ly t p.d5 h.d5 inj).1 i)):=by
  obtain ⟨hv,u,hh,e⟩:=Qn hf w (G _ (AF D i1));exact jT u (λs j=>Oq (Cd hv) u hh e j)
 grind [AD,bs,GA,AA,Ly,AS,AX]
variable{h:AG}
theorem VV{p:ea}{inj:Bool}:(LZ t p h inj).1.length<=5000:=by grind[LZ,dF,c9,Nat.le_trans,y_]
noncomputable def RW(t:AC)(r:ff)(h:AG):Int:=if DP t r≠0 then DP t r else(De t h).2
variable{r:ff}
theorem jE(hf:Ar t)(fr:IQ r)(h:AG):Hz t r h=Y (RW t r h):=by
 unfold Hz RW;rw[Ol hf,bs];by_cases hv:¬(A0 t).2=0
 .grind[DP,A0]
 have hv:=E_.1 hv;rw[ae l_,fG hf fr,bs,Ve hf];exact Dl λ_=>rfl
theorem uq(hf:Ar t)(fr:IQ r)(h:AG):G2 t r h=Y (RW t r h):=by
 unfold G2 RW;rw[fV hf fr,bs,Vl hf];exact Dl λ_=>rfl
theorem qP(hf:Ar t)(fr:IQ r)(j:Di r.d7<=40)(e:RW t r h=0)(m:AP):Hy t r h m=Y (EJ t r h m):=by
 have:=Yc hf fr j h m;unfold FE at this;rw[jE hf fr,bs,ae c_]at this;cases k:Hy t r h m with
 |none=>rw[k]at this;cases this
 |some x=>rw[k]at this;exact this
noncomputable def HT(t:AC)(r:ff)(h:AG):List AP×Int:=
 if RW t r h≠0 then([],RW t r h)else if(LZ t r.gp h r.kh).2≠0 then([],(LZ t r.gp h r.kh).2)else
 ((LZ t r.gp h r.kh).1.filter λm=>decide ((EJ t r h m).2=0),0)
theorem xK(hf:Ar t)(fr:IQ r)(e:Di r.d7<=40)(h:AG):Eu t r h=Y (HT t r h):=by
 unfold Eu HT;rw[jE hf fr,bs];refine Dl λj=>?_;rw[qW hf,bs];refine Dl λo=>?_;rw[aQ (p:=λm=>decide ((EJ t r h m).2=0)) VV,bs]
 grind [AD,bs,qP,EJ,AA,LZ,AS,AX]
theorem xb(hf:Ar t)(fr:IQ r)(e:Di r.d7<=40)(h:AG):FM t r h=Y (HT t r h):=by
 unfold FM HT;rw[uq hf fr,bs];refine Dl λj=>?_;rw[qv hf,bs];refine Dl λo=>?_;rw[aQ (p:=λm=>decide ((EJ t r h m).2=0)) VV,bs]
 grind [AD,bs,oL,EJ,AA,LZ,AS,AX]
theorem tX:(HT t r h).1.length<=5000:=by grind[HT,Nat.le_trans,y_,VV]
variable{m:AP}
theorem mO(e:m∈(HT t r h).1):(EJ t r h m).2=0:=by
 unfold HT at e
 grind
end Go.Sf.Sc
namespace Go.Sf
end Go.Sf
namespace Go.Sf.Sc
open Go Go.Sf
instance:Inhabited Ft:=⟨⟨0,default⟩⟩
end Go.Sf.Sc
namespace Go.Sf.Sc
open Go Go.Sf
structure Xo(h:AG)(p:BE):Prop where
 Aak:p.d3.length<=1000
 Aao:p.d4.length<=1000
 node:∀x∈p.d3,0<=x/\x<h.d5.d3.length
 edge:∀x∈p.d4,0<=x/\x<h.d5.d4.length
end Go.Sf.Sc
