/- Plain lemmas: what the functions of the program and of the reference compute. -/
import Derived.Test.YthcncnllajfkfaaGreatP46
set_option linter.all false
set_option maxRecDepth 100000
open Option renaming some->Y,none->W
open Bool renaming true->X,false->T
open List renaming mem_filter->v5,mem_map->v6,mem_cons_of_mem->v_,mem_cons->v!,foldl_append->v?,mem_append_left->w_,map_map->w!,length_filter_le->w?,map_id->x_,ext_getElem->x!,take_length->x?,length_replicate->y_,getElem_map->y!,getElem_replicate->y?,map_append->z_,map_congr_left->z!,map_singleton->z?,append_nil->A_,mem_cons_self->A',getElem?_eq_some_iff->A!,map->A?,length->B_,mem_append->B',take_left'->B!,map_id'->B?,getElem_mem->C_
open Bool renaming true_and->C',or_eq_false_iff->C!,eq_iff_iff->C?,or_eq_true->D_,false_and->D',eq_false_iff->D!
open Classical renaming not_not->D?,propDecidable->E_
open Int renaming toNat_natCast->E',add_zero->E!,add_assoc->E?,le_refl->F_,ofNat_le->F!,mul_le_mul->F?
namespace Go.Sf.Sc
open Go Go.Sf
def T6(p g:dr)(m:d4):dr:=⟨m.dl.map (AA g.dl),p.d3⟩
variable{l:Fp}
theorem Ra{n x:Int}:x∈BS l n↔(0<=x/\x<n)/\x∉l:=by
 unfold BS;rw[v5];constructor
 .grind[Int.natCast_nonneg,CF]
 .rintro⟨⟨e,j⟩,o⟩;refine⟨v6.2 ⟨x.toNat,List.mem_range.2 U,Int.toNat_of_nonneg e⟩,?_⟩
  grind [hasB,CF]
theorem On(l:Fp)(n:Int):(BS l n).Pairwise (·<·):=by grind[BS,List.pairwise_lt_range.imp]
def FV(fd fq:Fp):Fp:=(BS fq fd.length).map (AA fd)
theorem VA{fd fq:Fp}{x:Int}:x∈FV fd fq↔∃i:Int,(0<=i/\i<fd.length)/\i∉fq/\AA fd i=x:=by grind[FV,Ra]
def Aal(fd fq:Fp):Bool:=kl (λa=>kl (λb=>decide (AA fd a=AA fd b)&&(!hasB fq a||!hasB fq b)) (a+1) fd.length) 0 fd.length
variable{a b:Int}
theorem li{fd fq:Fp}(h:Aal fd fq=T)(a0:0<=a)(a1:a<fd.length)(w:0<=b)(u:b<fd.length)(ha:a∈fq)(e:AA fd a=AA fd b):b∈fq:=by
 unfold Aal at h;rw[Bw]at h;by_cases o:a=b
 .exact o▸ha
 by_cases y:a<b
 .have j:=h a a0 a1;rw[Bw]at j;have s:=j b U u;rw[decide_eq_true e,C',C!]at s
  grind [CF]
 .have j:=h b w u;rw[Bw]at j;have s:=j a U a1;rw[decide_eq_true e.symm,C',C!]at s
  grind [CF]
variable{i:Int}
theorem VE{fd fq:Fp}(h:Aal fd fq=T)(e:0<=i)(i1:i<fd.length)(j:i∈fq):AA fd i∉FV fd fq:=by grind[VA,li]
def PB(g:dr)(fq:BC)(m:d4)(i:Int):Bool:=
 !hasB m.d3 i&&(hasB (FV m.dl fq.dl) (AA g.d3 i).hV||hasB (FV m.dl fq.dl) (AA g.d3 i).To)
def OL(g:dr)(fq:BC)(m:d4):BC:=⟨BS (FV m.dl fq.dl) g.dl.length,BS (FV m.d3 fq.d3) g.d3.length⟩
def O8(l g:dr)(fq:BC)(m:d4):BC×Int:=
 if Ke l g m≠0 then(⟨[],[]⟩,Ke l g m)else if FX l fq≠0 then(⟨[],[]⟩,FX l fq)else
 if (Aal m.dl fq.dl||Aal m.d3 fq.d3)=X then(⟨[],[]⟩,15)else
 if kl (PB g fq m) 0 g.d3.length=X then(⟨[],[]⟩,14)else(OL g fq m,0)
structure dG(l g:dr)(fq:BC)(m:d4):Prop where
 mor:cY l g m
 part:dK l fq
 ea:Aal m.dl fq.dl=T
 eh:Aal m.d3 fq.d3=T
 free:∀i:Int,0<=i->i<g.d3.length->PB g fq m i=T
variable{g:dr}
theorem gF{p:BC}(h:FX g p=0):CA g=0/\QP g p=0:=by grind[FX]
theorem ZD{l g:dr}{fq:BC}{m:d4}(h:(O8 l g fq m).2=0):dG l g fq m/\O8 l g fq m=(OL g fq m,0):=by
 unfold O8 at h|-;split at h
 .grind
 rename_i j;rw[ac j];split at h
 .grind
 rename_i o;rw[ac o];split at h
 .grind
 rename_i e;rw[ac e];split at h
 .grind
 rename_i s;rw[ac s];simp[not_or]at e;exact⟨⟨V1 (D?.1 j),VU (gF (D?.1 o)).2,e.1,e.2,Bw.1 (by simpa using s)⟩,rfl⟩
theorem pA{l g:dr}{fq:BC}{m:d4}(h:dG l g fq m):QP g (OL g fq m)=0:=by
 have y:=h.mor;have G:=y.gb;have H:∀x∈(OL g fq m).dl,0<=x/\x<g.dl.length:=λx s=>Gk s;have I:∀x∈(OL g fq m).d3,0<=x/\x<g.d3.length:=λx s=>Gk s;have o:∀{l:Fp}{n:Int},(∀x∈l,0<=x/\x<n)->l.Pairwise (·<·)->Rx l n=0:=by
  grind [Rx,BU,AI,Nu]
 unfold QP;rw[o H (On _ _),o I (On _ _)];simp;rw[BU.2 λi F i1=>?_]
 .rfl
 have s:=AI F i1;generalize AA (OL g fq m).d3 i=x at s;have j:(0<=x/\x<g.d3.length)/\x∉FV m.d3 fq.d3:=Ra.1 s;have hf:=G.fit _ (AI j.1.1 j.1.2);have z:(AA g.d3 x).hV∉FV m.dl fq.dl/\(AA g.d3 x).To∉FV m.dl fq.dl:=by
  by_cases hi:x∈m.d3
  .obtain⟨k,D,E,e⟩:=BW hi;have u:k∈fq.d3:=by
    by_cases u:k∈fq.d3
    .exact u
    .exact absurd (VA.2 ⟨k,⟨D,E⟩,u,e⟩) j.2
   have ends:=h.part.ends k u;have he:=y.edge k D E;rw[e]at he;have hr:=h.part.ea.1;have J:=hr _ ends.1;have K:=hr _ ends.2;have N:=y.t1;rw[<-he.2.2.1,<-he.2.2.2];exact⟨VE h.ea J.1 U ends.1,VE h.ea K.1 U ends.2⟩
  .have hd:=h.free x j.1.1 j.1.2;unfold PB at hd;rw[show hasB m.d3 x=T from by cases hb:hasB m.d3 x with|false=>rfl|true=>exact absurd (CF.1 hb) hi,Bool.not_false,C',C!]at hd;exact⟨λw=>by rw[CF.2 w]at hd;exact absurd hd.1 a!,λw=>by rw[CF.2 w]at hd;exact absurd hd.2 a!⟩
 grind [hasB,OL,AA,CF,Ra]
def I3(n:Nat)(l:Fp):Fp:=(At n).map (DY l)
variable{v:Int}
theorem ZM(h:v∉l):DY l v=-1:=by grind[DY,BU,AI]
theorem Rj(l:Fp)(v:Int):-1<=DY l v/\DY l v<l.length:=by
 by_cases h:v∈l
 .have:=JH h;omega
 .rw[ZM h];omega
theorem PK:0<=DY l v↔v∈l:=by grind[ZM,JH]
theorem K0(n:Nat)(l:Fp):(I3 n l).length=n:=by unfold I3;rw[c9,Au]
variable{n:Nat}
theorem Ua(e:0<=i)(j:i<n):AA (I3 n l) i=DY l i:=Il _ e j
theorem eU(h:l.Nodup)(e:0<=i)(i1:i<l.length):DY l (AA l i)=i:=by
 have j:=JH (AI e i1)
 grind [DY,AA,Nu]
def R0(fq into at_:Fp)(n i:Int):Int:=if hasB into i=X then AA at_ (AA fq (DY into i))else n+(BS into i).length
def U0(count:Nat)(fq into at_:Fp)(n:Int):Fp:=(At count).map (R0 fq into at_ n)
theorem ZC(count:Nat)(fq into at_:Fp)(n:Int):(U0 count fq into at_ n).length=count:=by unfold U0;rw[c9,Au]
variable{count:Nat}
theorem nU{fq into at_:Fp}{n i:Int}(e:0<=i)(j:i<count):AA (U0 count fq into at_ n) i=R0 fq into at_ n i:=Il _ e j
theorem L4(h:0<=i):((BS l i).length:Int)<=i:=by grind[Ss]
end Go.Sf.Sc
namespace Go.Sf.Sc
open Go Go.Sf
variable{α:Type}
theorem XY{P:List α->Prop}(e:P [])(j:∀l a,P l->P (l++[a]))(l:List α):P l:=by
 have:∀l:List α,P l.reverse:=by
  intro l
  induction l with
  |nil=>exact e|cons a l o=>rw[List.reverse_cons];exact j _ _ o
 rw [<-List.reverse_reverse l];exact this _
def Q9(L:Bf):Bf:=L.foldl (λm p=>m.set p.1 p.2) []
theorem fS(L:Bf)(p:(Int×Int)×Int):Q9 (L++[p])=(Q9 L).set p.1 p.2:=by
 unfold Q9
 grind
def Ta(L:Bf):Prop:=∀p∈L,∀q∈L,p.1=q.1->p.2=q.2
variable{k:Int×Int}{v:Int}
theorem VF:∀{m:Bf},m.look k=Y v->(k,v)∈m
 |[],h=>c_
 |p::r,h=>by
  unfold Bf.look at h;split at h
  .grind
  .exact v_ _ (VF h)
theorem bB:∀{m:Bf},m.look k=W->∀p∈m,p.1≠k
 |[],_,p,j=>by cases j
 |q::r,h,p,j=>by
  unfold Bf.look at h;split at h
  .cases h
  .rename_i e;rcases v!.1 j with rfl|j
   .exact e
   .exact bB h p j
theorem kS:∀{m:Bf},m.look k=W->m.set k v=m++[(k,v)]
 |[],_=>rfl|p::r,h=>by
  unfold Bf.look at h;unfold Bf.set;split at h
  .cases h
  next e=>rw[ac e,kS h];rfl
theorem iC:∀{m:Bf},m.look k=Y v->m.set k v=m
 |[],h=>c_
 |p::r,h=>by
  unfold Bf.look at h;unfold Bf.set;split at h
  .grind
  next e=>rw[ac e,iC h]
theorem lZ(κ:List Fp)(p:(Int×Int)×Int):Cb (Cb κ p) p=Cb κ p:=by
 unfold Cb;split
 .apply List.ext_getElem?
  grind [Option.map_eq_map,Option.map_map,List.set_set]
 .rfl
theorem qS{m:Bf}(hd:m.Dis){p:(Int×Int)×Int}(e:p∈m)(κ:List Fp):Cb (m.foldl Cb κ) p=m.foldl Cb κ:=by
 have j:m.Perm (m.erase p++[p]):=(List.perm_cons_erase e).trans (List.perm_append_singleton p (m.erase p)).symm;rw[<-X2 hd j κ,v?];exact lZ _ _
theorem Ta.sub{L M:Bf}(h:Ta L)(e:∀p∈M,p∈L):Ta M:=λp j q o=>h p (e p j) q (e q o)
theorem jv(L:Bf):Ta L->(Q9 L).Dis/\(∀p,p∈Q9 L↔p∈L)/\∀κ,(Q9 L).foldl Cb κ=L.foldl Cb κ:=by
 refine XY (P:=λL=>Ta L->(Q9 L).Dis/\(∀p,p∈Q9 L↔p∈L)/\∀κ,(Q9 L).foldl Cb κ=L.foldl Cb κ) (λ_=>⟨List.Pairwise.nil,λp=>Iff.rfl,λκ=>rfl⟩) (λL p j e=>?_) L;obtain⟨y,w,z⟩:=j (e.sub λq o=>w_ _ o);rw[fS];cases s:(Q9 L).look p.1 with
 |none=>
  grind [kS,Bf.set_dis]
 |some v=>
  have u:=VF s;have hv:v=p.2:=e (p.1,v) (w_ _ ((w _).1 u)) p V rfl
  grind [iC,List.mem_singleton,qS]
def RI(L:Bf):Bool:=kl (λi=>kl (λk=>decide ((AA L k).1=(AA L i).1)&&!decide ((AA L k).2=(AA L i).2)) 0 i) 0 L.length
variable{L:Bf}
theorem aG(h:RI L=T):Ta L:=by
 intro p s q u e;obtain⟨a,a0,a1,rfl⟩:=BW s;obtain⟨b,w,y,rfl⟩:=BW u;unfold RI at h;rw[Bw]at h;by_cases j:a=b
 .rw[j]
 by_cases z:a<b
 .have o:=h b w y;rw[Bw]at o
  grind
 .have o:=h a a0 a1;rw[Bw]at o
  grind
theorem eG(L:Bf)(κ:List Fp):M5 (L.foldl Cb κ) κ:=by
 induction L generalizing κ with
 |nil=>rfl|cons p r e=>exact(e (Cb κ p)).trans (aO κ p)
end Go.Sf.Sc
namespace Go.Sf.Sc
open Go Go.Sf
variable{t:AC}{p g:dr}
theorem Ux{m:d4}{inj:Bool}(h:Gn t p g m inj=0):Et t p g=0/\ON t p g m=0/\Z7 t p g m:=by grind[df,Gn]
theorem nT{m:d4}{inj:Bool}(h:Gn t p g m inj=0):Gn t p g m T=0:=by grind[Ux,Gn]
variable{α:Type}
theorem Qx[Inhabited α](l:List α):(At l.length).map (AA l)=l:=by grind[Xr,c9,Au,Il]
variable{β:Type}
theorem YW[Inhabited α](l:List α)(f:α->β):l.map f=(At l.length).map λj=>f (AA l j):=by
 rw [show(λj=>f (AA l j))=f∘AA l from rfl,<-w!,Qx]
theorem yC(hf:Aq t){m:d4}{inj:Bool}(h:Gn t p g m inj=0):GV t p g m=Y (T6 p g m,0):=by
 obtain ⟨e,u,j⟩:=Ux h;obtain⟨_,o,y,_⟩:=OV e;unfold GV;rw[WA hf,bs,ac b?,bM hf e,bs,ac l_];unfold DB;have:=o.ea;have:=o.eh;have:=j.t1;rw[BT a?,bs];rw[Tz U (λx s=>?_) p.d3]
 .rfl
 .obtain⟨i,w,i1,rfl⟩:=BW s;exact(j.node i w i1).1
theorem yX(hf:Aq t){m:d4}{inj:Bool}(h:Gn t p g m inj=0):G8 t p g m=Y (T6 p g m,0):=by
 obtain ⟨y,D,u⟩:=Ux h;obtain⟨_,w,E,_⟩:=OV y;have:=w.ea;have:=w.eh;have z:=u.t1;unfold G8 Kg;rw[Zx hf,bs,ac (by simp[nT h]),BT a?,bs,BT a?,bs,bs];rw[Pr (λi=>dr.mk ((At p.dl.length).map λj=>if j<i then AA g.dl (AA m.dl j)else AA p.dl j) p.d3) (a:=0) (b:=p.dl.length) U]
 .have e:((At p.dl.length).map λj=>if j<(p.dl.length:Int)then AA g.dl (AA m.dl j)else AA p.dl j)=m.dl.map (AA g.dl):=by
   grind [YW,Ci]
  rw [e];rfl
 .congr 1;rw[<-Qx p.dl,c9,Au]
  grind [Ci,Qx]
 .intro i o i1;have s:=u.node i o U;simp[Au];rw[a6 d!,AD o U,bs,AD s.1.1 s.1.2,bs,AD o m_,bs,Ic _ o,Ar U U]
  grind
 grind [c9,Au]
variable{n:Nat}{f:Int->List α->Option (List α)}
theorem Of(q:Int->Bool)(F:Int->α)(h:∀i s,0<=i->i<(n:Int)->s.length<=i.toNat->f i s=Y (if q i=X then s++[F i]else s)):ls f 0 n []=Y (((At n).filter q).map F):=by
 have e:∀k:Nat,(((At k).filter q).map F).length<=k:=λk=>by
  rw [c9];exact Nat.le_trans (w? _ _) (by rw[Au];exact ae _)
 have:=Bo (f:=f) (s:=[]) (λi=>((At i.toNat).filter q).map F) (a:=0) (b:=n) U rfl (λi j i1=>by
  grind [HU])
 grind
theorem dz{q:Int->Bool}{F:Int->α}:decide (0<((((At n).filter q).map F).length:Int))=kl q 0 n:=by
 rw [C?,sA,EU,c9];constructor
 .intro h;have j:(At n).filter q≠[]:=λe=>by rw[e]at h;simp at h
  obtain ⟨x,u⟩:=List.exists_mem_of_ne_nil _ j
  grind [Dm]
 .rintro⟨i,o,i1,s⟩;have:i∈(At n).filter q:=v5.2 ⟨Dm.2 ⟨o,i1⟩,s⟩
  grind
theorem oM{x:C9}(e:x.m.dl.length<=1000):Dt x=Y (FV x.m.dl x.fq.dl):=by
 unfold Dt;rw[Of (λi=>!hasB x.fq.dl i) (AA x.m.dl)]
 .rfl
 grind [AD,Mb,hasB,AV,AY]
theorem XM{fd fq:Fp}(e:fd.length<=1000):LI fd fq=Y (FV fd fq):=by
 unfold LI;rw[Of (λi=>!hasB fq i) (AA fd)]
 .rfl
 grind [Eb,hasB,LD,AD,AV,AY]
theorem mE{x:C9}(e:x.m.dl.length<=1000)(he:x.g.d3.length<=1000):Dd x=Y ((At x.g.d3.length).filter (PB x.g x.fq x.m)):=by
 unfold Dd;rw[oM e,bs,Of (PB x.g x.fq x.m) id]
 .rw[bs,x_]
 .intro i s j i1 o;rw[AD j i1,bs,Mb,bs,Mb,bs,Mb,bs];unfold PB;change (if(!hasB x.m.d3 i)=X then(if hasB (FV x.m.dl x.fq.dl) (AA x.g.d3 i).hV=X then Y X else Y (hasB (FV x.m.dl x.fq.dl) (AA x.g.d3 i).To)).bind _ else Y T).bind _=_;cases hasB x.m.d3 i<;>cases hasB (FV x.m.dl x.fq.dl) (AA x.g.d3 i).hV<;>cases hasB (FV x.m.dl x.fq.dl) (AA x.g.d3 i).To<;>simp[AV (show s.length+[i].length<=AY by simp;unfold AY;omega)]
theorem mK{l g:dr}{fq:BC}{m:d4}(e:m.dl.length<=1000)(he:g.d3.length<=1000):Kh l g fq m=Y ((At g.d3.length).filter (PB g fq m)):=by
 unfold Kh;rw[XM e,bs,Of (PB g fq m) id]
 .rw[bs,x_]
 .intro i s j i1 o;have hh:∀(l:Fp)(v:Int),Eb l v=Y (hasB l v):=LD;simp[AD j i1,hh];unfold PB;cases hasB m.d3 i<;>cases hasB (FV m.dl fq.dl) (AA g.d3 i).hV<;>cases hasB (FV m.dl fq.dl) (AA g.d3 i).To<;>simp[AV (show s.length+[i].length<=AY by simp;unfold AY;omega)]
variable{a i:Int}
theorem SQ{p:Int->Bool}(h:a<=i):kl p a (i+1)=(kl p a i||p i):=by
 rw [C?,D_,EU,EU]
 grind
theorem Yl{fd fq:Fp}(H:fd.length<=100){f:Int->Int->List Jw->Option (List Jw)}(hf:∀(i j:Int)s,0<=i->i<fd.length->i<j->j<fd.length->s.length<=20000->f i j s=Y (if(decide (AA fd i=AA fd j)&&(!hasB fq i||!hasB fq j))=X then s++[Jw.mk i j]else s)):
  ∃l,ls (λ(e:Int)(o:List Jw)=>(ls (λ(i2:Int)(s2:List Jw)=>f e i2 s2) (Al (e+1)) (fd.length:Int) o).bind λs2=>Y s2) 0 (fd.length:Int) []=Y l/\l.length<=10000/\decide (0<l.length)=Aal fd fq:=by
 have key:=R1 (f:=λ(e:Int)(o:List Jw)=>(ls (λ(i2:Int)(s2:List Jw)=>f e i2 s2) (Al (e+1)) (fd.length:Int) o).bind λs2=>Y s2) (s:=[])
  (λi s=>(s.length:Int)<=100*i/\decide (0<s.length)=kl (λa=>kl (λb=>decide (AA fd a=AA fd b)&&(!hasB fq a||!hasB fq b)) (a+1) fd.length) 0 i) (a:=0) (b:=fd.length) U
  (by refine⟨V,?_⟩;rw[Bw.2 (λi y z=>U)];rfl) (λi s e i1 D=>by
   have u:=R1 (f:=λ(i2:Int)(s2:List Jw)=>f i i2 s2) (s:=s)
    (λj s'=>(s'.length:Int)<=100*i+(j-(i+1))/\decide (0<s'.length)=(decide (0<s.length)||kl (λb=>decide (AA fd i=AA fd b)&&(!hasB fq i||!hasB fq b)) (i+1) j)) (a:=i+1) (b:=fd.length) U
    (by refine⟨by have:=D.1;omega,?_⟩;rw[Bw.2 (λi y z=>U),Bool.or_false]) (λj s' I E w=>by
     refine ⟨_,hf i j s' e i1 U E (by have:=w.1;omega),?_,?_⟩
     .grind
     .rw[SQ U,<-Bool.or_assoc,<-w.2]
      grind)
   grind [Ar,SQ])
 obtain ⟨l,F,J,G⟩:=key;exact⟨l,F,U,G⟩
theorem kB{fd fq:Fp}(F:fd.length<=100):∃l,Gz fd fq=Y l/\l.length<=10000/\decide (0<l.length)=Aal fd fq:=by
 unfold Gz;obtain⟨l,J,K⟩:=Yl (fq:=fq) F (f:=λe i2 s2=>
  (idx fd e).bind λo=>
  (idx fd i2).bind λu=>
  (if(decide (o=u))=X then((slices_Contains_int fq e).bind λw=>
  (if(!w)=X then Y X else((slices_Contains_int fq i2).bind λy=>
  Y (!y))).bind λz=>
  Y (z))else Y T).bind λD=>
  if D=X then
  (Am s2 [Jw.mk e i2]).bind λE=>
  Y E
  else
  Y s2) (λi j s e i1 H G I=>by
   have hh:∀(l:Fp)(v:Int),slices_Contains_int l v=Y (hasB l v):=Mb;simp[AD e i1,AD (show 0<=j by omega) G,hh]
   grind [AA,hasB,AV,AY])
 grind
theorem kM{fd fq:Fp}(F:fd.length<=100):∃l,G7 fd fq=Y l/\l.length<=10000/\decide (0<l.length)=Aal fd fq:=by
 unfold G7;obtain⟨l,J,K⟩:=Yl (fq:=fq) F (f:=λe i2 s2=>
  (idx fd e).bind λo=>
  (idx fd i2).bind λu=>
  (if(decide (o=u))=X then((Eb fq e).bind λw=>
  (if(!w)=X then Y X else((Eb fq i2).bind λy=>
  Y (!y))).bind λz=>
  Y (z))else Y T).bind λD=>
  if D=X then
  (Am s2 [Jw.mk e i2]).bind λE=>
  Y E
  else
  Y s2) (λi j s e i1 H G I=>by
   have hh:∀(l:Fp)(v:Int),Eb l v=Y (hasB l v):=LD;simp[AD e i1,AD (show 0<=j by omega) G,hh]
   grind [AA,hasB,AV,AY])
 grind
variable{l:Fp}
theorem gW(h:n<=1000):NQ n l=Y (BS l n):=by
 unfold NQ;rw[Vb (f:=Eb l) U U (λi=>LD l i)];rfl
theorem gB{fd fq:Fp}(z:n<=1000)(hi:∀x∈fd,0<=x/\x<n):Hj n fd fq=Y (BS (FV fd fq) n):=by
 unfold Hj Hl;rw[a6 U,bs];rw[Bo (λi=>(At n).map λk=>kl (λj=>!hasB fq j&&decide (AA fd j=k)) 0 i) U]
 .rw[bs,c9,Au,Of (λi=>!hasB (FV fd fq) i) id]
  .rw[bs,x_];rfl
  .intro i s o i1 F;rw[AD o m_,bs,Il _ o i1];have e:kl (λj=>!hasB fq j&&decide (AA fd j=i)) 0 fd.length=hasB (FV fd fq) i:=by
    rw [C?,EU,CF,VA];constructor
    .rintro⟨j,w,y,h⟩;rw[ne,sA]at h
     grind [CF]
    .rintro⟨j,⟨w,y⟩,G,h⟩;refine⟨j,w,y,?_⟩;rw[ne,sA]
     grind [hasB,CF]
   grind [hasB,FV,AV,AY]
 .refine x! (by simp[Au]) (λk D E=>?_)
  grind [E',Bw]
 .intro i o i1;have u:=hi _ (AI o i1);have hh:∀(l:Fp)(v:Int),slices_Contains_int l v=Y (hasB l v):=Mb;rw[AD o i1,bs,hh,bs];cases hb:hasB fq i
  .rw[a6 a!,AD u.1 (by rw[c9,Au];exact u.2),bs,Ic _ u.1]
   grind [Ci,SQ,AA]
  grind [Ci,SQ]
theorem kc{a b:Nat}(ha:a<=10000)(hb:b<=10000):decide (0<Al ((a:Int)+(b:Int)))=(decide (0<a)||decide (0<b)):=by
 rw [Ar U U,C?,D_]
 grind
theorem xx{l g:dr}{fq:BC}{m:d4}(y:Sv fq):Hs l g fq m=Y (O8 l g fq m):=by
 unfold Hs DR O8;simp only[];rw[cj,bs,kC y,bs];by_cases o:¬Ke l g m=0
 .grind
 have o:=D?.1 o;rw[ac q_,bs,ac (show¬Ke l g m≠0 by simp[o])];refine Ds λJ=>?_;have j:=V1 o;have a1:=j.ga.ea;have O:=j.ga.eh;have P:=j.t1;have Q:=j.wl;have S:=j.gb.ea;have ε:=j.gb.eh;unfold ED;obtain⟨u,z,D,E⟩:=kB (fq:=fq.dl) (fd:=m.dl) U;obtain⟨v,G,H,I⟩:=kB (fq:=fq.d3) (fd:=m.d3) U;simp only[];rw[z,bs,G,bs,bs];simp only[];rw[kc D H,E,I];refine de λK=>?_;rw[mE (by show m.dl.length<=1000;omega) (by show g.d3.length<=1000;omega),bs];have e:=dz (n:=g.d3.length) (q:=PB g fq m) (F:=id);rw[x_]at e;rw[e];refine de λN=>?_;rw[gB U (λx s=>?_),bs,gB U (λx s=>?_),bs]
 .rfl
 .obtain⟨i,w,i1,rfl⟩:=BW s;exact(j.edge i w i1).1
 .obtain⟨i,w,i1,rfl⟩:=BW s;exact(j.node i w i1).1
theorem yQ{l g:dr}{fq:BC}{m:d4}(s:Sv fq):SF l g fq m=Y (O8 l g fq m):=by
 unfold SF QV O8;rw[cz,bs,Zy s,bs];by_cases o:¬Ke l g m=0
 .grind
 have o:=D?.1 o;rw[ac q_,bs,ac (show¬Ke l g m≠0 by simp[o])];refine Ds λH=>?_;have j:=V1 o;have a1:=j.ga.ea;have K:=j.ga.eh;have N:=j.t1;have O:=j.wl;have P:=j.gb.ea;have Q:=j.gb.eh;obtain⟨u,w,y,z⟩:=kM (fq:=fq.dl) (fd:=m.dl) U;obtain⟨v,D,E,G⟩:=kM (fq:=fq.d3) (fd:=m.d3) U;rw[w,bs,D,bs,kc y E,z,G];refine de λI=>?_;rw[mK U U,bs];have e:=dz (n:=g.d3.length) (q:=PB g fq m) (F:=id);rw[x_]at e;rw[e];refine de λJ=>?_;rw[XM U,bs,gW U,bs,XM U,bs,gW U,bs];rfl
end Go.Sf.Sc
namespace Go.Sf.Sc
open Go Go.Sf
variable{α β:Type}
theorem R6[Inhabited α]{l:List α}{F:α->β}{f:Int->List β->Option (List β)}(h:∀(i:Int)s,0<=i->i<l.length->s.length<=i.toNat->f i s=Y (s++[F (AA l i)])):ls f 0 l.length []=Y (l.map F):=by
 have:=Bo (f:=f) (s:=[]) (λi=>(l.take i.toNat).map F) (a:=0) (b:=l.length) U V (λi e i1=>by
  grind [c9,bk,BJ])
 rwa [E',x?]at this
variable{n:Nat}{l:Fp}
theorem kF(F:n<=1000)(y:l.length<=1000)(o:l.Pairwise (·<·)):NZ n l=Y (I3 n l):=by
 unfold NZ Hl;rw[a6 U,bs,E',y_,Bo (λi=>(At n).map λj=>if j<i then DY l j else 0) U]
 .rw[bs];congr 1;exact Ci λj z s=>a6 s
 .refine x! (by simp[Au]) (λk D G=>?_);have e:(At n)[k]'(by simpa[Au]using D)=(k:Int):=by simp[At]
  simp only[y!,y?,e];rw[ac U]
 .intro i u i1;rw[UJ y o,bs,AD u m_,bs];have e:∀v:Int,v=DY l i->Y (BG ((At n).map λj=>if j<i then DY l j else 0) i v)=Y ((At n).map λj=>if j<i+1 then DY l j else 0):=by
   rintro v rfl;rw[Ic _ u];congr 1;refine Ci λj z s=>?_;by_cases e:j=i
   .rw[a6 e,a6 U,e]
   .rw[ac e];by_cases w:j<i
    .rw[a6 w,a6 U]
    .rw[ac w,ac U]
  cases hb:hasB l i with
  |false=>
   rw [a6 q?];exact e _ (ZM λE=>by rw[CF.2 E]at hb;cases hb).symm
  |true=>
   rw [ac V];exact e _ (Wu o (CF.1 hb))
theorem gK(J:n<=1000)(K:l.length<=1000)(E:l.Nodup):NP l n=Y (I3 n l):=by
 unfold NP;rw[Bo (λk=>(At k.toNat).map (DY l)) U q?]
 .rfl
 .intro k u N;have s:((At k.toNat).map (DY l)).length=k.toNat:=by rw[c9,Au]
  have I:(At k.toNat).map (DY l)++[-1]=(At (k+1).toNat).map λj=>if j<k then DY l j else if DY l k<0 then DY l k else -1:=by
   rw [HU u,z_];congr 1
   .grind[z!,Dm]
   .rw[z?,ac U];have:=Rj l k
    grind
  rw [AV (by rw[s];simp;unfold AY;omega),bs,I,Bo (λi=>(At (k+1).toNat).map λj=>if j<k then DY l j else if DY l k<i then DY l k else -1) U rfl]
  .rw[bs];congr 1;refine z! λj F=>?_;have:=Dm.1 F;split
   .rfl
   .have e:j=k:=U
    rw [a6 (Rj l k).2,e]
  .intro i w i1;rw[AD w i1,bs];by_cases e:AA l i=k
   .have y:DY l k=i:=by rw[<-e];exact eU E w i1
    rw [a6 b?,AD u (by rw[c9,Au];omega),bs,Ic _ u];congr 1;refine Ci λj G H=>?_;by_cases z:j=k
    .rw[a6 z,ac U,a6 U,y]
    .rw[ac z];by_cases o:j<k
     .rw[a6 o,a6 o]
     .omega
   .have y:DY l k≠i:=λh=>by
     have:=(JH (PK.1 (show 0<=DY l k by omega))).2.2.1;rw[h]at this;exact e this
    rw [ac b?];congr 1;refine Ci λj G H=>?_;by_cases o:j<k
    .rw[a6 o,a6 o]
    .rw[ac o,ac o];by_cases D:DY l k<i
     .rw[a6 D,a6 U]
     .rw[ac D,ac U]
structure Vn(count:Nat)(fq into at_:Fp):Prop where
 few:count<=1000
 nodup:into.Nodup
 len:into.length=fq.length
 inn:∀x∈into,0<=x/\x<count
 kin:∀x∈fq,0<=x/\x<at_.length
 pos:∀x∈fq,0<=AA at_ x
theorem XE(e:l.Nodup)(h:∀x∈l,0<=x/\x<n):l.length<=n:=by
 have:=List.Nodup.length_le_of_subset (l₁:=l) (l₂:=At n) e (λx j=>Dm.2 (h x j))
 rwa [Au]at this
variable{i:Int}
theorem Rb(h:0<=i):((BS l (i+1)).length:Int)=(BS l i).length+if i∈l then 0 else 1:=by grind[Pe,az,hasB,CF]
theorem TB{fq into at_:Fp}{n i:Int}(h:i∈into):R0 fq into at_ n i=AA at_ (AA fq (DY into i)):=by grind[R0,CF]
theorem Tm{fq into at_:Fp}{n i:Int}(h:i∉into):R0 fq into at_ n i=n+(BS into i).length:=by grind[R0,CF]
variable{count:Nat}
theorem bR{fq into at_:Fp}{n:Int}(h:Vn count fq into at_)(z:0<=n)(D:n<=1000):Gi fq into count at_ n=Y (U0 count fq into at_ n):=by
 have E:=h.few;have u:=XE h.nodup h.inn;have w:=h.len;unfold Gi;rw[gK h.few U h.nodup,bs,Bo (λi=>(n+((BS into i).length:Int),(At i.toNat).map (R0 fq into at_ n))) U (by simp[BS,At])]
 .rfl
 .intro i j i1;have hr:=L4 (l:=into) j;have e:((At i.toNat).map (R0 fq into at_ n)).length=i.toNat:=by rw[c9,Au]
  rw [AD j (by rw[K0];exact i1),bs,Ua j i1];by_cases hi:i∈into
  .have s:=JH hi;have y:=AI (l:=fq) s.1 U;have o:=h.kin _ y;rw[a6 (by simpa using s.1),bs,AD s.1 U,bs,AD o.1 o.2,bs,AV (by rw[e];simp;unfold AY;omega),bs,HU j,z_,Rb j,a6 hi,E!,z?,TB hi]
  .rw[ac (by rw[sA,PK];exact hi),AV (by rw[e];simp;unfold AY;omega),bs,HU j,z_,Rb j,ac hi,z?,Tm hi,Ar U U,E?]
theorem bH{fq into o s:Fp}{n:Int}(h:Vn count fq into (o.map (AA s)))(J:∀x∈o,0<=x/\x<s.length)(S:0<=n)(ε:n<=1000):Hf count fq into o s n=Y (U0 count fq into (o.map (AA s)) n):=by
 have δ:=h.few;have K:=XE h.nodup h.inn;have N:=h.len;unfold Hf DC;rw[a6 (by refine⟨rfl,U,U⟩),bs,E'];rw[Bo (λi=>(At count).map λk=>if 0<=DY into k/\DY into k<i then R0 fq into (o.map (AA s)) n k else -1) U]
 .rw[bs,c9,Au,Bo (λi=>(n+((BS into i).length:Int),(At count).map λk=>if k<i\/k∈into then R0 fq into (o.map (AA s)) n k else -1)) U]
  .rw[bs];congr 1;exact Ci λj G E=>a6 (.inl E)
  .show _=(n,_);congr 1
   .simp[BS]
   .refine Ci λj G E=>?_;have I:=PK (l:=into) (v:=j);have O:=Rj into j;by_cases e:j∈into
    .rw[a6 (.inr e),a6 ⟨I.2 e,O.2⟩]
    .rw[ac (by rintro(u|u);omega;exact e u),ac λu=>e (I.1 u.1)]
  .intro i y i1;have hr:=L4 (l:=into) y;rw[AD y m_,bs,Il _ y i1];by_cases hi:i∈into
   .have P:=JH hi;have H:=AI (l:=fq) P.1 v1;have Z:=h.pos _ H;rw[a6 (show i<i\/i∈into from .inr hi),TB hi,ac (by rw[sA];omega),Rb y,a6 hi,E!];congr 2;refine Ci λj G E=>?_;by_cases e:j<i\/j∈into
    .rw[a6 e,a6 (e.imp (λh=>U) id)]
    .rw[ac e,ac];rintro(u|u)
     .have:j=i:=by
       have:=λhh=>e (.inl hh);omega
      exact e (.inr (this▸hi))
     .exact e (.inr u)
   .rw[ac (show¬(i<i\/i∈into)by rintro(u|u);omega;exact hi u),a6 a!,bs,Rb y,ac hi,Ar a_ a_,Ic _ y,E?];congr 2;refine Ci λj G E=>?_;by_cases z:j=i
    .rw[a6 z,a6 (.inl U),z,Tm hi]
    .rw[ac z];by_cases e:j<i\/j∈into
     .rw[a6 e,a6 (e.imp (λh=>U) id)]
     .rw[ac e,ac];rintro(u|u)
      .exact e (.inl U)
      .exact e (.inr u)
 .refine x! (by simp[Au]) (λk η ζ=>?_);simp only[y!,y?];rw[ac U];rfl
 .intro i y i1;have D:=h.inn _ (AI y i1);have H:=AI (l:=fq) y v1;have w:=h.kin _ H;rw[c9]at w;have F:=J _ (AI w.1 w.2);rw[AD y i1,bs,AD y v1,bs,AD w.1 w.2,bs,AD F.1 F.2,bs,AD D.1 (by rw[c9,Au];exact D.2),bs,Ic _ D.1];congr 1;refine Ci λj G E=>?_;by_cases z:j=AA into i
  .have e:=eU h.nodup y i1;rw[a6 z,z,e,a6 ⟨y,U⟩,TB (AI y i1),e,Dy w.1 w.2]
  .rw[ac z];by_cases e:0<=DY into j/\DY into j<i
   .rw[a6 e,a6 ⟨e.1,U⟩]
   .rw[ac e,ac];rintro⟨u,h2⟩;have Q:DY into j=i:=by
     have:=λhh=>e ⟨u,hh⟩;omega
    have:=(JH (PK.1 u)).2.2.1;rw[Q]at this;exact z this.symm
theorem Yq{fd e:Fp}(j:fd.length<=1000)(o:∀x∈fd,0<=x/\x<e.length):Ih fd e=Y (fd.map (AA e)):=by
 unfold Ih
 grind [R6,AA,AI,AD,AV,AY]
end Go.Sf.Sc
namespace Go.Sf.Sc
open Go Go.Sf
def Gq(h:AF)(d:BC):d4:=⟨I3 h.dr.dl.length d.dl,I3 h.dr.d3.length d.d3⟩
def cmS(r:eg)(h:AF)(m:d4)(d:BC):d4:=
 ⟨U0 r.ec.dr.dl.length r.o4.dl r.mo.dl (m.dl.map (AA (Gq h d).dl)) d.dl.length,
 U0 r.ec.dr.d3.length r.o4.d3 r.mo.d3 (m.d3.map (AA (Gq h d).d3)) d.d3.length⟩
def VG(t:AC)(k:Int):Fp:=(BA t k).map λx=>x.Low
def XD(tr:Fp)(e:CC):CC:=⟨e.ia,AA tr e.hV,AA tr e.To⟩
def PQ(r:eg)(x:AF)(i:Int):Fp:=x.dr.dl++(BS r.mo.dl i).map (AA r.ec.dr.dl)
def OY(t:AC)(r:eg)(x:AF)(i:Int):List Fp:=x.eb++(BS r.mo.dl i).map λk=>VG t (AA r.ec.dr.dl k)
def Q2(r:eg)(c:d4)(x:AF)(i:Int):List CC:=x.dr.d3++(BS r.mo.d3 i).map λk=>XD c.dl (AA r.ec.dr.d3 k)
def Cs(t:AC)(r:eg)(x:AF)(c:d4):AF:=⟨⟨PQ r x r.ec.dr.dl.length,Q2 r c x r.ec.dr.d3.length⟩,OY t r x r.ec.dr.dl.length⟩
def CM(h:AF)(d:BC):AF:=⟨⟨d.dl.map (AA h.dr.dl),d.d3.map λx=>XD (Gq h d).dl (AA h.dr.d3 x)⟩,d.dl.map (AA h.eb)⟩
structure DD(x:AF):Prop where
 ea:x.dr.dl.length<=1000
 eh:x.dr.d3.length<=1000
 vals:x.eb.length<=1000
 rows:∀v∈x.eb,v.length<=1000
structure Xj(t:AC)(r:eg)(c:d4):Prop where
 hf:Aq t
 hv:(A5 t).2=0
 g:Dw r.ec.dr
 kind:∀n∈r.ec.dr.dl,0<=n/\n<t.dl.length
 cn:c.dl.length=r.ec.dr.dl.length
variable{t:AC}{r:eg}{c:d4}
theorem uw(h:Xj t r c){n:Int}(e:n∈r.ec.dr.dl):(BA t n).length<=600:=by
 have:=h.kind n e;exact IE h.hf (F_ _) (Cw h.hv).par this.2
variable{x:AF}
theorem VY(h:DD x):Iu x=Y x:=by
 have:=h.ea;have:=h.eh;have:=h.vals;unfold Iu Kg;rw[BT a?,bs,BT a?,bs,bs];rw[Bo (λi=>AF.mk x.dr (x.eb.take i.toNat)) U q?]
 .rw[E',x?];rfl
 .intro i e i1;have:=h.rows _ (AI e i1)
  grind [AD,BT,AY,AV,BJ]
theorem mC(h:DD x):Ln x=Y x:=by
 have:=h.ea;have:=h.eh;have:=h.vals;unfold Ln slices_Clone_int DB;rw[BT a?,bs,BT a?,bs];rw[Bo (λi=>AF.mk x.dr (x.eb.take i.toNat)) U q?]
 .rw[E',x?];rfl
 .intro i e i1;have:=h.rows _ (AI e i1)
  grind [AD,BT,AY,AV,BJ]
variable{α:Type}{i:Int}
theorem D1(l:Fp)(F:Int->α)(h:0<=i):(BS l (i+1)).map F=(BS l i).map F++if i∈l then[]else[F i]:=by grind[Pe,hasB,CF]
theorem We(l:Fp)(i:Int):JK l i=Y (!hasB l i):=by
 unfold JK hasB;rw[BZ (λj=>decide (i=AA l j)) T,Ip]
 .cases kl (λj=>decide (i=AA l j)) 0 l.length<;>rfl
 grind [AD,AA]
theorem yV(h:Xj t r c)(o:DD x):Jm t r x c=Y (Cs t r x c):=by
 have G:=h.g.ea;have H:=h.g.eh;have x1:=o.ea;have I:=o.eh;have J:=o.vals;unfold Jm;rw[Pr (λi=>AF.mk (dr.mk (PQ r x i) x.dr.d3) (OY t r x i)) (a:=0) (b:=r.ec.dr.dl.length) U]
 .rw[Br,Pr (λi=>AF.mk (dr.mk (PQ r x r.ec.dr.dl.length) (Q2 r c x i)) (OY t r x r.ec.dr.dl.length)) (a:=0) (b:=r.ec.dr.d3.length) U]
  .rfl
  .grind[Q2,BS]
  .intro i e i1;have hr:=L4 (l:=r.mo.d3) e;have he:=h.g.fit _ (AI e i1);have y:=h.cn;rw[a6 d!,We,bs];by_cases hi:i∈r.mo.d3
   .grind[CF,Q2,D1,Ar]
   .have hb:hasB r.mo.d3 i=T:=by cases hb:hasB r.mo.d3 i with|false=>rfl|true=>exact absurd (CF.1 hb) hi
    rw [hb,a6 a!,AD e i1,bs,AD he.2.1.1 U,bs,AD he.2.2.1 U,bs,AV (by unfold Q2;simp;unfold AY;omega),bs];unfold Q2;rw[D1 _ _ e,ac hi,Ar a_ a_,ci];rfl
  .rw[ac V]
 .unfold PQ OY;simp[BS]
 .intro i e i1;have hr:=L4 (l:=r.mo.dl) e;have u:=AI e i1;have w:=h.kind _ u;have K:=uw h u;rw[a6 d!,We,bs];by_cases hi:i∈r.mo.dl
  .grind[CF,PQ,OY,D1,Ar]
  .have hb:hasB r.mo.dl i=T:=by cases hb:hasB r.mo.dl i with|false=>rfl|true=>exact absurd (CF.1 hb) hi
   rw [hb,ac a!,AD e i1,bs,AV (by unfold PQ;simp;unfold AY;omega),bs,bs,TL h.hf,Ks h.hv w.1 w.2,bs];simp;rw[R6 (F:=λa=>a.Low) λj s z D E=>?_]
   .rw[bs,AV (by unfold OY;simp;unfold AY;omega),bs];unfold PQ OY;rw[D1 _ _ e,ac hi,D1 _ _ e,ac hi,Ar U U,ci,ci];rfl
   grind [AD,AV,AY]
 .rw[ac V]
theorem vG(hf:Aq t)(hv:(A5 t).2=0){k:Int}(o:0<=k)(e:k<t.dl.length):LX t k=Y (VG t k):=by
 have:=IE hf (F_ _) (Cw hv).par e;unfold LX;rw[TK hf,Ks hv o e,bs];simp;rw[R6 (F:=λa=>a.Low) λj s u w y=>?_]
 .rfl
 grind [AD,AV,AY]
structure cc(h:AF)(d:BC):Prop where
 sm:DD h
 len:h.eb.length=h.dr.dl.length
 ea:(∀x∈d.dl,0<=x/\x<h.dr.dl.length)/\d.dl.length<=1000
 eh:(∀x∈d.d3,0<=x/\x<h.dr.d3.length)/\d.d3.length<=1000
 ends:∀e∈h.dr.d3,(0≤e.hV/\e.hV<h.dr.dl.length)/\0≤e.To/\e.To<h.dr.dl.length
variable{h:AF}
theorem bd{d:BC}(hd:cc h d):DD (CM h d):=by
 have j:=hd.ea.2;have o:=hd.eh.2;refine⟨by unfold CM;simp;omega,by unfold CM;simp;omega,by unfold CM;simp;omega,λv hv=>?_⟩;obtain⟨x,e,rfl⟩:=v6.1 hv;have:=hd.ea.1 x e;exact hd.sm.rows _ (AI this.1 (by rw[hd.len];exact this.2))
variable{R:eg}{M:AP}{C:d4}
theorem vB{d:BC}(s:Xj t R C)(hd:cc h d)(G:C.d3.length=R.ec.dr.d3.length)
  (y:∀i:Int,0<=i->i<R.ec.dr.dl.length->(AA C.dl i=d.dl.length+(BS R.mo.dl i).length↔i∉R.mo.dl))
  (z:∀i:Int,0<=i->i<R.ec.dr.d3.length->(AA C.d3 i=d.d3.length+(BS R.mo.d3 i).length↔i∉R.mo.d3)):
  Js t (AR.mk R M h (AF.mk (dr.mk [] []) []) (Gq h d) C) d=Y (AR.mk R M h (Cs t R (CM h d) C) (Gq h d) C):=by
 have H:=hd.ea.2;have I:=hd.eh.2;have J:=s.g.ea;have K:=s.g.eh;have E:=s.cn;unfold Js;simp only[];rw[Bo (λi=>AR.mk R M h (AF.mk (dr.mk ((d.dl.take i.toNat).map (AA h.dr.dl)) []) ((d.dl.take i.toNat).map (AA h.eb))) (Gq h d) C) U V]
 rotate_left
 .intro i j i1;have o:=hd.ea.1 _ (AI j i1);have u:=hd.len;have hr:=hd.sm.rows _ (AI o.1 U);rw[AD j i1,bs,AD o.1 o.2,bs,AV b_,bs,AD o.1 U,bs,BT a?,bs,AV b_,bs,JI j i1,JI j i1]
 rw [bs,E',x?];rw[Bo (λi=>AR.mk R M h (AF.mk (dr.mk (d.dl.map (AA h.dr.dl)) ((d.d3.take i.toNat).map λx=>XD (Gq h d).dl (AA h.dr.d3 x))) (d.dl.map (AA h.eb))) (Gq h d) C) U V]
 rotate_left
 .intro i j i1;have o:=hd.eh.1 _ (AI j i1);have he:=hd.ends _ (AI o.1 o.2);have u:(Gq h d).dl.length=h.dr.dl.length:=K0 _ _;simp only[];rw[AD j i1,bs,AD o.1 o.2,bs,AD he.1.1 U,bs,AD he.2.1 U,bs,AV b_,bs,JI j i1];rfl
 rw [bs,E',x?];rw[Bo (λi=>AR.mk R M h (AF.mk (dr.mk (PQ R (CM h d) i) (CM h d).dr.d3) (OY t R (CM h d) i)) (Gq h d) C) U (by unfold PQ OY;simp[BS,CM])]
 rotate_left
 .intro i j i1;have hr:=L4 (l:=R.mo.dl) j;have F:=AI j i1;have D:=s.kind _ F;have u:(PQ R (CM h d) i).length=d.dl.length+(BS R.mo.dl i).length:=by unfold PQ CM;simp
  have w:(OY t R (CM h d) i).length=d.dl.length+(BS R.mo.dl i).length:=by unfold OY CM;simp
  simp only[u];rw[AD j i1,bs,AD j U,bs];by_cases hi:i∈R.mo.dl
  .rw[ac (by rw[sA];push_cast;exact λe=>(y i j i1).1 e hi)];unfold PQ OY;rw[D1 _ _ j,a6 hi,A_,D1 _ _ j,a6 hi,A_]
  .rw[a6 (by rw[sA];push_cast;exact(y i j i1).2 hi),AV (by rw[u];simp;unfold AY;omega),bs,vG s.hf s.hv D.1 D.2,bs,AV (by rw[w];simp;unfold AY;omega),bs];unfold PQ OY;rw[D1 _ _ j,ac hi,D1 _ _ j,ac hi,ci,ci]
 rw [bs];rw[Bo (λi=>AR.mk R M h (AF.mk (dr.mk (PQ R (CM h d) R.ec.dr.dl.length) (Q2 R C (CM h d) i)) (OY t R (CM h d) R.ec.dr.dl.length)) (Gq h d) C) U (by unfold Q2;simp[BS,CM])]
 rotate_left
 .intro i j i1;have hr:=L4 (l:=R.mo.d3) j;have he:=s.g.fit _ (AI j i1);have u:(Q2 R C (CM h d) i).length=d.d3.length+(BS R.mo.d3 i).length:=by unfold Q2 CM;simp
  simp only[u];rw[AD j i1,bs,AD j U,bs];by_cases hi:i∈R.mo.d3
  .rw[ac (by rw[sA];push_cast;exact λe=>(z i j i1).1 e hi)];unfold Q2;rw[D1 _ _ j,a6 hi,A_]
  .rw[a6 (by rw[sA];push_cast;exact(z i j i1).2 hi),AD he.2.1.1 U,bs,AD he.2.2.1 U,bs,AV (by rw[u];simp;unfold AY;omega),bs];unfold Q2;rw[D1 _ _ j,ac hi,ci];rfl
 rw [bs];rfl
theorem jA(hf:Aq t){d:BC}(hh:(EH t h).2=0)(s:FX h.dr d=0)(hd:cc h d):Ht t h d=Y (CM h d,0):=by
 have u:=hd.ea.2;unfold Ht;rw[VZ hf,bs,ac (by simp[hh]),bQ ⟨hd.ea.2,hd.eh.2⟩,ac (by simp[s]),bs,ac V];have e:PY h.dr d=(CM h d).dr:=by
  unfold PY CM;congr 1;refine z! λx j=>?_;have j:=hd.eh.1 x j;have he:=hd.ends _ (AI j.1 j.2)
  grind [XD,Gq,Ua]
 simp;rw[Pr (λi=>AF.mk (PY h.dr d) ((d.dl.take i.toNat).map (AA h.eb))) (a:=0) (b:=d.dl.length) U V]
 .rw[E',x?,Br,e];rfl
 .intro i o i1;have j:=hd.ea.1 _ (AI o i1);have w:=hd.len;have hr:=hd.sm.rows _ (AI j.1 U);rw[a6 d!,AD o i1,bs,AD j.1 U,bs,BT a?,bs,AV b_,bs,JI o i1,Ar a_ a_]
 .rw[ac V]
end Go.Sf.Sc
namespace Go.Sf.Sc
open Go Go.Sf
def Rd(c:d4)(vars:Fp)(s:Cu):(Int×Int)×Int:=((AA c.dl s.o3,s.ke),DV s.gl vars)
def CN(r:eg)(c:d4)(vars:Fp):Bf:=r.ec.ek.map (Rd c vars)
def Nh(t:AC)(x:AF)(p:(Int×Int)×Int):Bool:=
 decide (p.2<(AA (BA t (AA x.dr.dl p.1.1)) p.1.2).Low)||decide ((AA (BA t (AA x.dr.dl p.1.1)) p.1.2).z5<p.2)
structure Vp(t:AC)(r:eg)(c:d4)(vars:Fp)(x:AF):Prop where
 hf:Aq t
 hv:(A5 t).2=0
 few:r.ec.ek.length<=1000
 fewv:vars.length<=1000
 slot:∀s∈r.ec.ek,(0<=s.o3/\s.o3<c.dl.length)/\(-1<=s.gl.Var/\s.gl.Var<vars.length)/\
  (0<=AA c.dl s.o3/\AA c.dl s.o3<x.dr.dl.length)/\(0<=s.ke/\s.ke<(BA t (AA x.dr.dl (AA c.dl s.o3))).length)
 kind:∀n∈x.dr.dl,0<=n/\n<t.dl.length
 AbM:x.eb.length=x.dr.dl.length
 rows:∀i:Int,0<=i->i<x.dr.dl.length->(AA x.eb i).length=(BA t (AA x.dr.dl i)).length
variable{L:Bf}{i:Int}
theorem lP(e:0<=i)(i1:i<=L.length)(h:∀j,0<=j->j<i->kl (λk=>decide ((AA L k).1=(AA L j).1)&&!decide ((AA L k).2=(AA L j).2)) 0 j=T):Ta (L.take i.toNat):=by grind[aG,RI,Bw,bk,Tc,t5]
def Wx(L:Bf)(i:Int):Bool:=kl (λk=>decide ((AA L k).1=(AA L i).1)&&!decide ((AA L k).2=(AA L i).2)) 0 i
theorem qJ(I:0<=i)(i1:i<L.length)(y:Ta (L.take i.toNat)):
  (((Q9 (L.take i.toNat)).look (AA L i).1).isSome&&(!decide (((Q9 (L.take i.toNat)).look (AA L i).1).getD 0=(AA L i).2)))=Wx L i:=by
 obtain ⟨J,D,K⟩:=jv _ y;unfold Wx;cases z:(Q9 (L.take i.toNat)).look (AA L i).1 with
 |none=>
  rw [Option.isSome_none,D'];refine Eq.symm (Bw.2 λk u w=>?_);have s:AA L k∈L.take i.toNat:=by
   rw [<-t5 (n:=i.toNat) U]
   grind [AI,bk]
  rw [decide_eq_false (bB z _ ((D _).2 s)),D']
 |some v=>
  have s:=(D _).1 (VF z);rw[Option.isSome_some,C',Option.getD_some];have o:∀k,0<=k->k<i->(AA L k).1=(AA L i).1->(AA L k).2=v:=λk u w e=>by
   have F:AA L k∈L.take i.toNat:=by
    rw [<-t5 (n:=i.toNat) U]
    grind [AI,bk]
   exact y _ F _ s e
  obtain ⟨k,u,w,E⟩:=BW s;rw[bk]at w;rw[t5 U]at E;rw[C?,EU];constructor
  .intro h;refine⟨k,u,U,?_⟩;rw[E,decide_eq_true rfl,C'];exact h
  .rintro⟨j,G,H,h⟩;rw[ne,sA]at h;rw[<-o j G H h.1];exact h.2
theorem QB(r:eg)(c:d4)(vars:Fp)(e:0<=i)(i1:i<r.ec.ek.length):AA (CN r c vars) i=Rd c vars (AA r.ec.ek i):=Dy e i1
theorem LV(r:eg)(c:d4)(vars:Fp):(CN r c vars).length=r.ec.ek.length:=c9 ..
variable{ρ:Type}
theorem dg(L:Bf)(v:ρ):fst (λi=>if Wx L i=X then Y v else W) 0 L.length=if RI L=X then Y v else W:=Og
variable{t:AC}{R:eg}{M:AP}{B A:AF}{θ C:d4}
theorem mB(h:Vp t R C M.ey A):JN (AR.mk R M B A θ C)=Y (if RI (CN R C M.ey)=X then([],11)else(Q9 (CN R C M.ey),0)):=by
 unfold JN;simp only[];rw[EN (a:=0) (s:=([]:Bf)) (λi=>Q9 ((CN R C M.ey).take i.toNat)) (λi=>if Wx (CN R C M.ey) i=X then Y ([],11)else W) U rfl]
 .have:=dg (CN R C M.ey) (([],11):Bf×Int);rw[LV]at this;rw[this];by_cases e:RI (CN R C M.ey)=X
  .rw[a6 e,a6 e];rfl
  .rw[ac e,ac e,<-LV R C M.ey,E',x?];rfl
 .intro i o i1 hb;have u:=h.slot _ (AI o i1);have D:Ta ((CN R C M.ey).take i.toNat):=lP o (by rw[LV];omega) λj y z=>by
   have:=hb j y z;split at this
   .cases this
   next e=>exact D!.2 e
  have w:=qJ (L:=CN R C M.ey) o (by rw[LV];exact i1) D;rw[AD o i1,bs,fZ u.2.1.1 u.2.1.2 h.fewv,bs,ac V,AD u.1.1 u.1.2,bs];rw[QB R C M.ey o i1]at w;simp[Rd]at w;simp only[];by_cases e:Wx (CN R C M.ey) i=X
  .refine(a6 (w.trans e)).trans ?_;rw[a6 e];rfl
  .refine(ac (λh=>e (w.symm.trans h))).trans ?_;rw[ac e,BJ o (by rw[LV];exact i1),fS,QB R C M.ey o i1];rfl
variable{α:Type}
theorem jx{f:α->K1}{g:α->Bool}:∀{l:List α},(∀p∈l,f p=Y (g p))->Aas f l=Y (l.all g)
 |[],_=>rfl|p::r,h=>by
  unfold Aas;rw[h p A',bs,jx λq e=>h q (v_ _ e),bs,List.all_cons]
variable{r:eg}{c:d4}{x:AF}{κ:List Fp}
theorem g9{vars:Fp}(h:Vp t r c vars x){s:Cu}(w:s∈r.ec.ek)(y:M5 κ x.eb):
  idx κ (AA c.dl s.o3)=Y (AA κ (AA c.dl s.o3))/\idx (AA κ (AA c.dl s.o3)) s.ke=Y (AA (AA κ (AA c.dl s.o3)) s.ke):=by
 have j:=h.slot s w;have hv:=h.AbM;have hr:=h.rows _ j.2.2.1.1 j.2.2.1.2;have z:idx x.eb (AA c.dl s.o3)=Y (AA x.eb (AA c.dl s.o3)):=AD j.2.2.1.1 U;have D:idx (AA x.eb (AA c.dl s.o3)) s.ke=Y (AA (AA x.eb (AA c.dl s.o3)) s.ke):=AD j.2.2.2.1 U;obtain⟨E,x',a,b⟩:=y.idx z D;have o:=H8 a;have u:=H8 b;have F:=(A!.1 o.2.2).1;have e:AA κ (AA c.dl s.o3)=E:=by
  grind [AD,Option.some.inj]
 have G:=(A!.1 u.2.2).1;refine⟨AD o.1 U,?_⟩;rw[e];exact AD u.1 U
theorem qR(h:Vp t R C M.ey A){p:(Int×Int)×Int}(u:p∈CN R C M.ey):QK t (AR.mk R M B A θ C) p=Y (!Nh t A p):=by
 obtain ⟨s,o,rfl⟩:=v6.1 u;have e:=h.slot s o;have j:=h.kind _ (AI e.2.2.1.1 e.2.2.1.2);obtain⟨w,y⟩:=g9 h o (κ:=A.eb) rfl;unfold QK QJ Rd Nh;simp;rw[AD e.2.2.1.1 e.2.2.1.2,bs,TK h.hf,Ks h.hv j.1 j.2,bs];simp;simp[AD e.2.2.2.1 e.2.2.2.2,w,y,V7]
 grind
def J4(t:AC)(x:AF)(L:Bf):AF×Int:=
 if RI L=X then(⟨⟨[],[]⟩,[]⟩,11)else if L.any (Nh t x)=X then(⟨⟨[],[]⟩,[]⟩,6)else(⟨x.dr,L.foldl Cb x.eb⟩,0)
theorem yA(h:Vp t R C M.ey A):M0 t (AR.mk R M B A θ C)=Y ((J4 t A (CN R C M.ey)).2,if(J4 t A (CN R C M.ey)).2=0 then AR.mk R M B (J4 t A (CN R C M.ey)).1 θ C else AR.mk R M B A θ C):=by
 unfold M0 J4;rw[mB h,bs];by_cases e:RI (CN R C M.ey)=X
 .grind
 .rw[ac e,ac V,ac e];obtain⟨o,s,u⟩:=jv _ (aG (D!.2 e));have ha:Aas (QK t (AR.mk R M B A θ C)) (Q9 (CN R C M.ey))=Y (!(CN R C M.ey).any (Nh t A)):=by
   rw [jx (g:=λp=>!Nh t A p) λp j=>qR h ((s p).1 j)]
   grind
  rw [a6 (by simpa using(show List.Pairwise (λx y:(Int×Int)×Int=>x.1≠y.1) _ from o)),ha,bs]
  grind [CN,Nh,Pk]
theorem ABg{vars:Fp}(h:Vp t r c vars x):Kz t r x c vars=Y (J4 t x (CN r c vars)):=by
 unfold Kz J4;rw[EN (a:=0) (s:=AF.mk (dr.mk [] []) []) (λ_=>AF.mk (dr.mk [] []) []) (λi=>if Wx (CN r c vars) i=X then Y (AF.mk (dr.mk [] []) [],(11:Int))else W) U rfl]
 .have:=dg (CN r c vars) ((AF.mk (dr.mk [] []) [],(11:Int)));rw[LV]at this;rw[this];by_cases e:RI (CN r c vars)=X
  .rw[a6 e,a6 e];rfl
  rw [ac e,ac e];show ei (Y (Sum.inl _)) _ _=_;rw[Br,EN (a:=0) (s:=(x,AF.mk (dr.mk [] []) [])) (λi=>(AF.mk x.dr (((CN r c vars).take i.toNat).foldl Cb x.eb),AF.mk (dr.mk [] []) [])) (λi=>if Nh t x (AA (CN r c vars) i)=X then Y (AF.mk (dr.mk [] []) [],(6:Int))else W) U rfl]
  .have:=jk (l:=CN r c vars) (q:=Nh t x) (v:=(AF.mk (dr.mk [] []) [],(6:Int)));rw[LV]at this;rw[this];by_cases o:(CN r c vars).any (Nh t x)=X
   .rw[a6 o,a6 o];rfl
   .rw[ac o,ac o];show Y (AF.mk x.dr (((CN r c vars).take (r.ec.ek.length:Int).toNat).foldl Cb x.eb),(0:Int))=_
    grind [LV,E',x?]
  .intro i u i1 _;have D:=AI u i1;have j:=h.slot _ D;have w:=h.kind _ (AI j.2.2.1.1 j.2.2.1.2);obtain⟨F,G⟩:=g9 h D (κ:=((CN r c vars).take i.toNat).foldl Cb x.eb) (eG _ _);simp only[AD u i1,bs];rw[P9 j.2.1.1 j.2.1.2,bs,AD j.1.1 j.1.2,bs,AD j.2.2.1.1 j.2.2.1.2,bs,TL h.hf,Ks h.hv w.1 w.2,bs];simp only[];rw[AD j.2.2.2.1 j.2.2.2.2,bs,bs,V7,bs,F,bs,G,bs];rw[QB r c vars u i1,BJ u (by rw[LV];exact i1),v?,QB r c vars u i1];show(if(Nh t x (Rd c vars (AA r.ec.ek i)))=X then _ else _)=_;by_cases o:Nh t x (Rd c vars (AA r.ec.ek i))=X
   .rw[a6 o,a6 o];rfl
   .rw[ac o,ac o];have:=dx (p:=Rd c vars (AA r.ec.ek i)) F G;exact congrArg (λη=>Y (B5.next (σ:=AF×AF) (ρ:=AF×Int) (AF.mk x.dr η,AF.mk (dr.mk [] []) []))) this
 .intro i u i1 _;have j:=h.slot _ (AI u i1);rw[AD u i1,bs,P9 j.2.1.1 j.2.1.2,bs];rw[EN (a:=0) (s:=AF.mk (dr.mk [] []) []) (λ_=>AF.mk (dr.mk [] []) []) (λk=>if(decide ((AA (CN r c vars) k).1=(AA (CN r c vars) i).1)&&!decide ((AA (CN r c vars) k).2=(AA (CN r c vars) i).2))=X then Y (AF.mk (dr.mk [] []) [],(11:Int))else W) u rfl]
  .rw[Og];unfold Wx;split<;>rfl
  .intro k y I _;have w:=h.slot _ (AI y (show k<r.ec.ek.length by omega));simp[AD u i1,AD y (show k<r.ec.ek.length by omega)];rw[P9 w.2.1.1 w.2.1.2,bs,AD w.1.1 w.1.2,bs,AD j.1.1 j.1.2,bs,QB r c vars u i1,QB r c vars y U];simp[Rd];by_cases E:AA c.dl (AA r.ec.ek k).o3=AA c.dl (AA r.ec.ek i).o3<;>by_cases o:(AA r.ec.ek k).ke=(AA r.ec.ek i).ke<;>by_cases z:DV (AA r.ec.ek i).gl vars=DV (AA r.ec.ek k).gl vars
   all_goals first|(have H:¬DV (AA r.ec.ek k).gl vars=DV (AA r.ec.ek i).gl vars:=λh=>z h.symm;simp[E,o,z,H,Y0];done)|(simp[E,o,z,Y0];done)
end Go.Sf.Sc
namespace Go.Sf.Sc
open Go Go.Sf
variable{t:AC}{r:eg}
theorem UV(h:EI t r=0):JF t r.fu=0/\Ll t r=0/\O9 t r.fu r.d5=0:=by grind[EI]
theorem jE(h:Ll t r=0):r.ec.ey=r.fu.ey/\r.ec.ek.length<=10/\∀i:Int,0<=i->i<r.ec.ek.length->Qc t r.ec i=0:=by
 unfold Ll at h;split at h
 .omega
 split at h
 .cases h
 split at h
 .cases h
 split at h
 .cases h
 rename_i e j o s;exact⟨U,U,U7 h⟩
variable{i:Int}
theorem mc{p:d7}(h:Qc t p i=0):(0<=(AA p.ek i).o3/\(AA p.ek i).o3<p.dr.dl.length)/\
  (0<=(AA p.ek i).ke/\(AA p.ek i).ke<(H5 t (AA p.dr.dl (AA p.ek i).o3)).1.length)/\-1<=(AA p.ek i).gl.Var/\(AA p.ek i).gl.Var<p.ey:=by
 unfold Qc at h;dsimp only at h;split at h
 .cases h
 split at h
 .cases h
 rename_i j e;simp[sA]at e;omega
structure IP(t:AC)(r:eg)(h:AF)(m:AP):Prop where
 hf:Aq t
 fr:Hq r
 re:EI t r=0
 he:(EH t h).2=0
 at_:Xf t r.fu h m
 co:dG (T6 r.fu.dr h.dr m.d4) h.dr r.o4 m.d4
abbrev dS(r:eg)(h:AF)(m:AP):BC:=OL h.dr r.o4 m.d4
abbrev cS(r:eg)(h:AF)(m:AP):d4:=cmS r h m.d4 (dS r h m)
variable{h:AF}{m:AP}
theorem IP.hv(s:IP t r h m):(A5 t).2=0:=(kR s.re).1
theorem IP.ro(s:IP t r h m):nG t r:=(kR s.re).2
theorem IP.hh(s:IP t r h m):Im t h:=(Oh s.hf s.he).2
theorem RO(hf:Aq t)(hv:(A5 t).2=0)(hh:Im t h):DD h:=by
 have o:=hh.g.ea;have s:=hh.g.eh;have u:=hh.len;refine⟨U,U,U,λv e=>?_⟩;obtain⟨i,j,i1,rfl⟩:=BW e;have w:=hh.row i j U;have y:=IE hf (F_ _) (Cw hv).par (hh.kind i j U).2;omega
theorem IP.rem(s:IP t r h m):cc h (dS r h m):=by
 have hh:=s.hh;have o:=hh.g.ea;have u:=hh.g.eh;have l1:=Ss (FV m.d4.dl r.o4.dl) h.dr.dl.length;have l2:=Ss (FV m.d4.d3 r.o4.d3) h.dr.d3.length;exact⟨RO s.hf s.hv hh,hh.len,⟨λx j=>Gk j,by show(BS _ _).length<=1000;omega⟩,⟨λx j=>Gk j,by show(BS _ _).length<=1000;omega⟩,λe he=>(hh.g.fit e he).2⟩
theorem IP.part(s:IP t r h m):FX h.dr (dS r h m)=0:=by
 unfold FX;rw[ac (by simp[s.hh.ge])];exact pA s.co
variable{count n:Nat}
theorem nV{fq into fd:Fp}{BI:Fp}(few:count<=1000)(nodup:into.Nodup)(len:into.length=fq.length)(inn:∀x∈into,0<=x/\x<count)
  (kin:∀x∈fq,0<=x/\x<fd.length)(o:∀x∈fd,0<=x/\x<n)(hi:Aal fd fq=T)(s:BI=FV fd fq):
  Vn count fq into (fd.map (AA (I3 n (BS BI n))))/\(∀x∈fq,AA (fd.map (AA (I3 n (BS BI n)))) x<(BS BI n).length)/\
  ∀x∈fq,AA (fd.map (AA (I3 n (BS BI n)))) x=DY (BS BI n) (AA fd x)/\AA fd x∈BS BI n:=by
 have e:∀x∈fq,AA (fd.map (AA (I3 n (BS BI n)))) x=DY (BS BI n) (AA fd x)/\AA fd x∈BS BI n:=λx j=>by
  grind [AI,Dy,Ua,Ra,VE]
 refine ⟨⟨few,nodup,len,inn,λx j=>by rw[c9];exact kin x j,λx j=>?_⟩,λx j=>?_,e⟩
 .rw[(e x j).1];exact PK.2 (e x j).2
 .rw[(e x j).1];exact(Rj _ _).2
theorem IP.left(s:IP t r h m):m.d4.dl.length=r.fu.dr.dl.length/\m.d4.d3.length=r.fu.dr.d3.length:=⟨s.at_.m.t1,s.at_.m.wl⟩
theorem IP.AbI(s:IP t r h m):Vn r.ec.dr.dl.length r.o4.dl r.mo.dl (m.d4.dl.map (AA (Gq h (dS r h m)).dl))/\
  (∀x∈r.o4.dl,AA (m.d4.dl.map (AA (Gq h (dS r h m)).dl)) x<(dS r h m).dl.length)/\
  ∀x∈r.o4.dl,AA (m.d4.dl.map (AA (Gq h (dS r h m)).dl)) x=DY (dS r h m).dl (AA m.d4.dl x)/\AA m.d4.dl x∈(dS r h m).dl:=by
 have ro:=s.ro;have o:=ro.right.ea;refine nV U ro.inj.1 ?_ (λx e=>?_) (λx e=>?_) (λx e=>?_) s.co.ea rfl
 .have:=ro.mor.t1;rw[this];exact c9 ..
 .obtain⟨i,j,i1,rfl⟩:=BW e;exact(ro.mor.node i j i1).1
 .have:=ro.part.ea.1 x e;have:=s.left.1;omega
 .obtain⟨i,j,i1,rfl⟩:=BW e;exact(s.at_.m.node i j i1).1
theorem IP.AbJ(s:IP t r h m):Vn r.ec.dr.d3.length r.o4.d3 r.mo.d3 (m.d4.d3.map (AA (Gq h (dS r h m)).d3))/\
  (∀x∈r.o4.d3,AA (m.d4.d3.map (AA (Gq h (dS r h m)).d3)) x<(dS r h m).d3.length)/\
  ∀x∈r.o4.d3,AA (m.d4.d3.map (AA (Gq h (dS r h m)).d3)) x=DY (dS r h m).d3 (AA m.d4.d3 x)/\AA m.d4.d3 x∈(dS r h m).d3:=by
 have ro:=s.ro;have o:=ro.right.eh;refine nV U ro.inj.2 ?_ (λx e=>?_) (λx e=>?_) (λx e=>?_) s.co.eh rfl
 .have:=ro.mor.wl;rw[this];exact c9 ..
 .obtain⟨i,j,i1,rfl⟩:=BW e;exact(ro.mor.edge i j i1).1
 .have:=ro.part.eh.1 x e;have:=s.left.2;omega
 .obtain⟨i,j,i1,rfl⟩:=BW e;exact s.at_.m.edge i j i1
theorem jT{fq into at_:Fp}(h:Vn count fq into at_)(j:∀x∈fq,AA at_ x<n)(o:0<=i)(i1:i<count):AA (U0 count fq into at_ n) i=n+(BS into i).length↔i∉into:=by
 rw [nU o i1];constructor
 .intro e hi;rw[TB hi]at e;have s:=JH hi;have:=j _ (AI (l:=fq) s.1 v1);omega
 .exact Tm
theorem IP.grow(s:IP t r h m):Xj t r (cS r h m):=
 ⟨s.hf,s.hv,s.ro.right,(Hx s.ro.right s.ro.Aa4).1,ZC _ _ _ _ _⟩
theorem Wg(l:Fp)(j:0<=i):∀(k:Nat),∃s,BS l (i+k)=BS l i++s
 |0=>⟨[],V⟩|k+1=>by
  obtain ⟨s,e⟩:=Wg l j k
  grind [Pe,ci]
variable{l:Fp}
theorem rq{i n:Int}(j:0<=i)(i1:i<n)(h:i∉l):AA (BS l n) (BS l i).length=i/\((BS l i).length:Int)<(BS l n).length:=by
 obtain ⟨s,e⟩:=Wg l (i:=i+1) U (n-(i+1)).toNat
 rw [show i+1+((n-(i+1)).toNat:Int)=n by omega,Pe l j]at e
 grind [hasB,CF,AA]
variable{α:Type}
theorem nN[Inhabited α]{l m:List α}(e:0<=i)(j:i<l.length):AA (l++m) i=AA l i:=by grind[Od]
theorem nO[Inhabited α]{l m:List α}:AA (l++m) (l.length+n:Int)=AA m n:=by grind[Od,AA,E']
variable{a:Int}
theorem qc(h:0<=a):HD t a a=X:=by
 unfold HD;rw[show(a+1).toNat=a.toNat+1 by omega,Ko,ac U];simp
theorem IP.Abu(s:IP t r h m)(u:0<=i)(i1:i<r.ec.dr.dl.length):
  (0<=AA (cS r h m).dl i/\AA (cS r h m).dl i<(Cs t r (CM h (dS r h m)) (cS r h m)).dr.dl.length)/\
  AA (Cs t r (CM h (dS r h m)) (cS r h m)).dr.dl (AA (cS r h m).dl i)<t.dl.length/\HD t (AA (Cs t r (CM h (dS r h m)) (cS r h m)).dr.dl (AA (cS r h m).dl i)) (AA r.ec.dr.dl i)=X:=by
 obtain ⟨F,K,c3⟩:=s.AbI;have G:AA (cS r h m).dl i=R0 r.o4.dl r.mo.dl (m.d4.dl.map (AA (Gq h (dS r h m)).dl)) (dS r h m).dl.length i:=nU u i1;have el:(Cs t r (CM h (dS r h m)) (cS r h m)).dr.dl=(dS r h m).dl.map (AA h.dr.dl)++(E4 r).map (AA r.ec.dr.dl):=rfl;rw[G,el,az,c9,c9];by_cases hi:i∈r.mo.dl
 .have e:=JH hi;have N:=F.len;have o:=AI (l:=r.o4.dl) e.1 U;have z:=c3 _ o;have D:=K _ o;have w:=F.pos _ o;rw[TB hi];refine⟨⟨w,by push_cast;omega⟩,?_⟩;rw[nN w (by rw[c9];exact D),Dy w D,z.1,(JH z.2).2.2.1];have hr:=s.ro.part.ea.1 _ o;have H:=s.left.1;have y:=s.at_.m.node _ hr.1 U;have I:=s.hh.kind _ y.1.1 y.1.2;have E:=s.ro.mor.node _ e.1 e.2.1;rw[e.2.2.1]at E;have J:AA (PY r.fu.dr r.o4).dl (DY r.mo.dl i)=AA r.fu.dr.dl (AA r.o4.dl (DY r.mo.dl i)):=Dy e.1 U;rw[E.2,J];exact⟨I.2,y.2⟩
 .have hr:=rq u i1 hi;rw[Tm hi];have j:((dS r h m).dl.map (AA h.dr.dl)).length=(dS r h m).dl.length:=c9 ..;refine⟨⟨U,?_⟩,?_⟩
  .have:((E4 r).length:Int)=(BS r.mo.dl r.ec.dr.dl.length).length:=rfl
   push_cast
   omega
  .rw[<-j,nO,show E4 r=BS r.mo.dl r.ec.dr.dl.length from rfl,Dy U hr.2];show AA r.ec.dr.dl (AA (BS r.mo.dl r.ec.dr.dl.length) (BS r.mo.dl i).length)<(t.dl.length:Int)/\HD t (AA r.ec.dr.dl (AA (BS r.mo.dl r.ec.dr.dl.length) (BS r.mo.dl i).length)) _=X;rw[hr.1];have:=(Hx s.ro.right s.ro.Aa4).1 _ (AI u i1);exact⟨this.2,qc this.1⟩
theorem IP.rows(s:IP t r h m):(Cs t r (CM h (dS r h m)) (cS r h m)).eb.map (λv=>v.length)=(Cs t r (CM h (dS r h m)) (cS r h m)).dr.dl.map λn=>(BA t n).length:=by
 show (A? _ (_++_))=A? _ (_++_);rw[z_,z_];congr 1
 .show((dS r h m).dl.map (AA h.eb)).map _=((dS r h m).dl.map (AA h.dr.dl)).map _;rw[w!,w!];refine z! λx e=>?_;have e:=s.rem.ea.1 x e;exact s.hh.row x e.1 e.2
 grind [w!,z!,VG,c9]
theorem IP.put(s:IP t r h m):Vp t r (cS r h m) m.ey (Cs t r (CM h (dS r h m)) (cS r h m)):=by
 obtain ⟨O,hr,P⟩:=UV s.re;obtain⟨hv,Q,z⟩:=jE hr;have J:=s.at_.q.vars;have D:=s.at_.len;have w:=s.rows;have y:(Cs t r (CM h (dS r h m)) (cS r h m)).eb.length=(Cs t r (CM h (dS r h m)) (cS r h m)).dr.dl.length:=by
  grind [B_,c9]
 refine ⟨s.hf,s.hv,U,U,λx e=>?_,λn j=>?_,y,λi o i1=>?_⟩
 .obtain⟨i,o,i1,rfl⟩:=BW e;obtain⟨u,H,S⟩:=mc (z i o i1);have E:=(Hx s.ro.right s.ro.Aa4).1 _ (AI u.1 u.2);rw[Ks s.hv E.1 E.2]at H;obtain⟨ε,I,F⟩:=s.Abu u.1 u.2;replace F:=av (Cw s.hv) I F;have G:(cS r h m).dl.length=r.ec.dr.dl.length:=ZC _ _ _ _ _
  grind
 .have j:n∈(dS r h m).dl.map (AA h.dr.dl)++(E4 r).map (AA r.ec.dr.dl):=j;rcases B'.1 j with j|j
  .obtain⟨x,e,rfl⟩:=v6.1 j;have e:=s.rem.ea.1 x e;exact s.hh.kind x e.1 e.2
  .obtain⟨x,e,rfl⟩:=v6.1 j;have e:=Gk e;exact(Hx s.ro.right s.ro.Aa4).1 _ (AI e.1 e.2)
 .have K:=Dy (l:=(Cs t r (CM h (dS r h m)) (cS r h m)).eb) (g:=λv=>v.length) o U;have N:=Dy (l:=(Cs t r (CM h (dS r h m)) (cS r h m)).dr.dl) (g:=λn=>(BA t n).length) o i1
  grind
end Go.Sf.Sc
namespace Go.Sf.Sc
open Go Go.Sf
abbrev zRu:eg:=eg.mk (⟨#[]⟩:ByteArray) (d7.mk (dr.mk [] []) [] 0 []) (d7.mk (dr.mk [] []) [] 0 []) (BC.mk [] []) (d4.mk [] []) T (d5.mk 0 [] (d4.mk [] []) (d7.mk (dr.mk [] []) [] 0 []))
abbrev zG:AR:=AR.mk zRu (AP.mk (d4.mk [] []) []) (AF.mk (dr.mk [] []) []) (AF.mk (dr.mk [] []) []) (d4.mk [] []) (d4.mk [] [])
def ce(t:AC)(r:eg)(h:AF)(m:AP):AR×Int:=
 if (J4 t (Cs t r (CM h (dS r h m)) (cS r h m)) (CN r (cS r h m) m.ey)).2≠0 then(zG,(J4 t (Cs t r (CM h (dS r h m)) (cS r h m)) (CN r (cS r h m) m.ey)).2)else
 if 40<(J4 t (Cs t r (CM h (dS r h m)) (cS r h m)) (CN r (cS r h m) m.ey)).1.dr.dl.length\/80<(J4 t (Cs t r (CM h (dS r h m)) (cS r h m)) (CN r (cS r h m) m.ey)).1.dr.d3.length then(zG,3)else
 (AR.mk r m h (J4 t (Cs t r (CM h (dS r h m)) (cS r h m)) (CN r (cS r h m) m.ey)).1 (Gq h (dS r h m)) (cS r h m),0)
noncomputable def EW(t:AC)(r:eg)(h:AF)(m:AP):AR×Int:=
 if EI t r≠0 then(zG,EI t r)else if(EH t h).2≠0 then(zG,(EH t h).2)else
 if Gn t r.fu.dr h.dr m.d4 r.ij≠0 then(zG,1)else
 if (Gu t r.fu h m.d4).2≠0 then(zG,(Gu t r.fu h m.d4).2)else if¬(Gu t r.fu h m.d4).1=m.ey then(zG,11)else
 if (O8 (T6 r.fu.dr h.dr m.d4) h.dr r.o4 m.d4).2≠0 then(zG,(O8 (T6 r.fu.dr h.dr m.d4) h.dr r.o4 m.d4).2)else
 if (Oa t r.fu r.d5 h m r.ij).2≠0 then(zG,(Oa t r.fu r.d5 h m r.ij).2)else
 if (Oa t r.fu r.d5 h m r.ij).1=T then(zG,16)else ce t r h m
variable{t:AC}{r:eg}{h:AF}{m:AP}
theorem ZB(e:EI t r=0)(j:(EH t h).2=0)(o:Gn t r.fu.dr h.dr m.d4 r.ij=0)(s:(Gu t r.fu h m.d4).2=0)(u:(Gu t r.fu h m.d4).1=m.ey):Uw t r.fu r.d5 h m r.ij=0:=by
 unfold Uw;rw[ac (by simp[(UV e).2.2]),ac (by simp[j]),ac q_,ac (by simp[s]),a6 u]
theorem jp{ζ:Option (AR×Int)}(hX:(J4 t (Cs t r (CM h (dS r h m)) (cS r h m)) (CN r (cS r h m) m.ey)).2=0->ζ=
   if ((decide (40<((J4 t (Cs t r (CM h (dS r h m)) (cS r h m)) (CN r (cS r h m) m.ey)).1.dr.dl.length:Int)))||(decide (80<((J4 t (Cs t r (CM h (dS r h m)) (cS r h m)) (CN r (cS r h m) m.ey)).1.dr.d3.length:Int))))=X then Y (zG,3)else
   Y (AR.mk r m h (J4 t (Cs t r (CM h (dS r h m)) (cS r h m)) (CN r (cS r h m) m.ey)).1 (Gq h (dS r h m)) (cS r h m),0)):
  (if(!decide ((J4 t (Cs t r (CM h (dS r h m)) (cS r h m)) (CN r (cS r h m) m.ey)).2=0))=X then Y (zG,(J4 t (Cs t r (CM h (dS r h m)) (cS r h m)) (CN r (cS r h m) m.ey)).2)else ζ)=Y (ce t r h m):=by
 unfold ce;refine Ds λe=>?_;rw[hX e];refine Qj a_ λ_=>rfl
theorem Yi(hf:Aq t)(fr:Hq r)(D:De r.d5<=40)(h:AF)(m:AP):Fc t r h m=Y (EW t r h m):=by
 unfold Fc IM EW;rw[Ol hf,bs];by_cases hv:¬(A5 t).2=0
 .grind[EI,A5]
 have hv:=D?.1 hv;rw[ac l?,gC hf fr,bs,VS hf,bs];by_cases j:¬EI t r=0
 .grind
 have j:=D?.1 j;rw[ac (by simp[j]),bs,ac (show¬EI t r≠0 by simp[j])];refine Ds λE=>?_;rw[Option.bind_fun_some];unfold IL Km;rw[Zt hf,bs];by_cases o:¬Gn t r.fu.dr h.dr m.d4 r.ij=0
 .grind
 have o:=D?.1 o;rw[ac q_,jz hf,bs,ac (show¬Gn t r.fu.dr h.dr m.d4 r.ij≠0 by simp[o])];by_cases u:¬(Gu t r.fu h m.d4).2=0
 .grind
 have u:=D?.1 u;rw[ac l_,KQ,bs,ac (show¬(Gu t r.fu h m.d4).2≠0 by simp[u])];by_cases w:¬(Gu t r.fu h m.d4).1=m.ey
 .grind
 have w:=D?.1 w;rw[ac (by simp[w]),bs,ac V,ac (show¬¬(Gu t r.fu h m.d4).1=m.ey by simp[w])];rw[yC hf o,bs,ac V,xx fr.fq,bs];refine Ds λF=>?_;obtain⟨_,_,_,ha⟩:=Xx hf D (ZB j E o u w);obtain⟨co,N⟩:=ZD F;rw[iz hf _ fr.cond D,bs,N];refine Ds λO=>?_;refine Xy λP=>?_;have s:IP t r h m:=⟨hf,fr,j,E,ha,co⟩;have hr:=s.rem;have Q:=s.hh.g.ea;have S:=s.hh.g.eh;have l1:=s.left.1;have l2:=s.left.2;have ε:=s.ro.left.ea;have η:=s.ro.left.eh;have H:=ha.len;have I:=ha.q.vars;have z:Kl m=Y m:=by
  unfold Kl slices_Clone_int;rw[BT a?,bs,BT a?,bs,BT a?,bs]
 simp only[];rw[z,bs,mC hr.sm,bs];rw[kF U hr.ea.2 (On _ _),bs,kF U hr.eh.2 (On _ _),bs];have J:Hf r.ec.dr.dl.length r.o4.dl r.mo.dl m.d4.dl (I3 h.dr.dl.length (dS r h m).dl) (OL h.dr r.o4 m.d4).dl.length=Y (cS r h m).dl:=
  bH s.AbI.1 (λx y=>by rw[K0];obtain⟨i,e,i1,rfl⟩:=BW y;exact(ha.m.node i e i1).1) U (F!.2 hr.ea.2)
 have K:Hf r.ec.dr.d3.length r.o4.d3 r.mo.d3 m.d4.d3 (I3 h.dr.d3.length (dS r h m).d3) (OL h.dr r.o4 m.d4).d3.length=Y (cS r h m).d3:=
  bH s.AbJ.1 (λx y=>by rw[K0];obtain⟨i,e,i1,rfl⟩:=BW y;exact ha.m.edge i e i1) U (F!.2 hr.eh.2)
 rw [J,bs,K,bs];have hb:=vB (M:=m) s.grow hr (ZC _ _ _ _ _) (λi e i1=>jT s.AbI.1 s.AbI.2.1 e i1) (λi e i1=>jT s.AbJ.1 s.AbJ.2.1 e i1);change ((Js t (AR.mk r m h (AF.mk (dr.mk [] []) []) (Gq h (dS r h m)) (cS r h m)) (dS r h m)).bind _)=_;rw[hb,bs,yA s.put,bs];exact jp λG=>by rw[a6 G]
theorem ol(hf:Aq t){p:d7}{c:d5}(e:De c<=40){inj:Bool}(j:Uw t p c h m inj=0):KC t c h m inj=Y (Oa t p c h m inj):=by
 obtain ⟨hv,hh,o,ha⟩:=Xx hf e j
 grind [KC,Oa,wS,DG,wL,oD,rP]
theorem gc(hf:Aq t)(fr:Hq r)(G:De r.d5<=40)(h:AF)(m:AP):Ei t r h m=Y (EW t r h m):=by
 unfold Ei HP EW;rw[gX hf fr,bs,VZ hf,bs];by_cases e:¬EI t r=0
 .rw[a6 b?,bs,a6 b?,a6 e]
 have e:=D?.1 e;rw[ac b?,bs,ac (show¬EI t r≠0 by simp[e])];refine Ds λD=>?_;unfold Ii;rw[Zx hf,bs];by_cases j:¬Gn t r.fu.dr h.dr m.d4 r.ij=0
 .rw[a6 (by simp[j]),bs,a6 V,a6 j]
 have j:=D?.1 j;rw[ac (by simp[j]),vU hf,bs,ac (show¬Gn t r.fu.dr h.dr m.d4 r.ij≠0 by simp[j])];by_cases o:¬(Gu t r.fu h m.d4).2=0
 .rw[a6 q_,bs,a6 q_,a6 o]
 have o:=D?.1 o;rw[ac q_,Zw,bs,ac (show¬(Gu t r.fu h m.d4).2≠0 by simp[o])];by_cases y:¬(Gu t r.fu h m.d4).1=m.ey
 .rw[a6 (by simp[y]),bs,a6 V,a6 y]
 have y:=D?.1 y;rw[ac (by simp[y]),ac (show¬¬(Gu t r.fu h m.d4).1=m.ey by simp[y])];rw[yX hf j,bs,ac V,yQ fr.fq,bs];by_cases u:¬(O8 (T6 r.fu.dr h.dr m.d4) h.dr r.o4 m.d4).2=0
 .rw[a6 l_,bs,a6 l_,a6 u]
 have u:=D?.1 u;rw[ac l_,ac (show¬(O8 (T6 r.fu.dr h.dr m.d4) h.dr r.o4 m.d4).2≠0 by simp[u])];have z:=ZB e D j o y;obtain⟨_,_,_,ha⟩:=Xx hf G z;obtain⟨co,J⟩:=ZD u;rw[ol hf G z,bs,J,JE,bs,bs];by_cases w:¬(Oa t r.fu r.d5 h m r.ij).2=0
 .rw[ac (show¬((decide ((Oa t r.fu r.d5 h m r.ij).2=0)&&!(Oa t r.fu r.d5 h m r.ij).1)=X)by simp[w]),a6 (by simp[w]),a6 w]
 have w:=D?.1 w;rw[ac (show¬(Oa t r.fu r.d5 h m r.ij).2≠0 by simp[w])];cases N:(Oa t r.fu r.d5 h m r.ij).1 with
 |false=>rw[a6 (show(decide ((Oa t r.fu r.d5 h m r.ij).2=0)&&!T)=X by simp[w]),a6 V,a6 rfl]|true=>
 rw [ac (show¬(decide ((Oa t r.fu r.d5 h m r.ij).2=0)&&!X)=X by simp),ac (by simp[w]),ac V];have s:IP t r h m:=⟨hf,fr,e,D,ha,co⟩;have hr:=s.rem;have O:=s.hh.g.ea;have P:=s.hh.g.eh;have l1:=s.left.1;have l2:=s.left.2;have Q:=s.ro.left.ea;have S:=s.ro.left.eh;unfold JL Mq;simp only[];rw[jA hf D s.part hr,bs,gK U hr.ea.2 ((On _ _).imp λh=>U),bs,bs,gK U hr.eh.2 ((On _ _).imp λh=>U),bs,bs,bs];simp only[];rw[Yq U (λx E=>by rw[K0];obtain⟨i,F,i1,rfl⟩:=BW E;exact(ha.m.node i F i1).1),bs];rw[Yq U (λx E=>by rw[K0];obtain⟨i,F,i1,rfl⟩:=BW E;exact ha.m.edge i F i1),bs];have H:Gi r.o4.dl r.mo.dl r.ec.dr.dl.length (m.d4.dl.map (AA (I3 h.dr.dl.length (dS r h m).dl))) (OL h.dr r.o4 m.d4).dl.length=Y (cS r h m).dl:=
  bR s.AbI.1 U (F!.2 hr.ea.2)
 have I:Gi r.o4.d3 r.mo.d3 r.ec.dr.d3.length (m.d4.d3.map (AA (I3 h.dr.d3.length (dS r h m).d3))) (OL h.dr r.o4 m.d4).d3.length=Y (cS r h m).d3:=
  bR s.AbJ.1 U (F!.2 hr.eh.2)
 rw [H,bs,I,bs];rw[VY (bd hr),bs];change ((Jm t r (CM h (dS r h m)) (cS r h m)).bind _)=_;rw[yV s.grow (bd hr),bs];change ((Kz t r (Cs t r (CM h (dS r h m)) (cS r h m)) (cS r h m) m.ey).bind _)=_;rw[ABg s.put,bs];exact jp λK=>rfl
end Go.Sf.Sc
namespace Go.Sf.Sc
open Go Go.Sf
instance:Inhabited eg:=⟨zRu⟩
instance:Inhabited C0:=⟨⟨0,⟨⟨[],[]⟩,[]⟩⟩⟩
instance:Inhabited AR:=⟨zG⟩
structure Ej(rules:List eg):Prop where
 len:rules.length<=12
 each:∀r∈rules,Hq r/\De r.d5<=40
noncomputable def ES(t:AC)(rules:List eg)(h:AF)(m:C0):AR×Int:=if m.eg<0\/rules.length<=m.eg then(zG,6)else EW t (AA rules m.eg) h m.j0
variable{t:AC}
theorem yF(hf:Aq t){rules:List eg}(hr:Ej rules)(h:AF)(m:C0):Fg t rules h m=Y (ES t rules h m):=by
 unfold Fg ES;refine Qj V λe=>?_;have j:=hr.each _ (AI (l:=rules) (i:=m.eg) U U)
 grind [AD,Yi]
noncomputable def Dj(t:AC)(rules:List eg):Int:=
 if (A5 t).2≠0 then(A5 t).2 else if 10<rules.length then 3 else(fst (λi=>nz (EI t (AA rules i))) 0 rules.length).getD 0
noncomputable def Gt(t:AC)(rules:List eg)(h:AF):Int:=if Dj t rules≠0 then Dj t rules else(EH t h).2
theorem oE{e v:Int}(h:nz e=Y v):v≠0:=by grind[nz]
variable{a b v:Int}
theorem ue{c:Int->Int}(h:fst (λi=>nz (c i)) a b=Y v):v≠0:=by grind[CQ,oE]
theorem bV(hf:Aq t){rules:List eg}(hr:Ej rules):Lz t rules=Y (Dj t rules):=by
 unfold Lz Dj;rw[Rp hf,bs];refine EM λj=>Qj i! λo=>?_;rw[Bz (λi=>nz (EI t (AA rules i))),C8];intro i e i1 _;rw[AD e i1,bs,gX hf (hr.each _ (AI e i1)).1,bs,Ns]
theorem rQ(hf:Aq t){rules:List eg}(hr:Ej rules)(h:AF):N2 t rules h=Y (Gt t rules h):=by
 unfold N2 Gt;rw[bV hf hr,bs,VZ hf,bs];exact EM λ_=>rfl
theorem rE(hf:Aq t){rules:List eg}(hr:Ej rules)(h:AF):Fh t rules h=Y (Gt t rules h):=by
 unfold Fh Gt Dj;rw[Ol hf,bs];by_cases j:¬(A5 t).2=0
 .grind
 have j:=D?.1 j;rw[ac (by simp[j]),ac (show¬(A5 t).2≠0 by simp[j])];by_cases s:10<rules.length
 .grind
 rw [ac a_,ac s,Bz (λi=>nz (EI t (AA rules i))),Ee]
 .cases e:fst (λi=>nz (EI t (AA rules i))) 0 (rules.length:Int)with
  |none=>
   grind [VS]
  |some v=>
   have:=ue e
   grind
 .intro i o i1 _;rw[AD o i1,bs,gC hf (hr.each _ (AI o i1)).1,bs,Ns]
noncomputable def Ed(t:AC)(rules:List eg)(h0:AF)(ms:List C0):List AR×AF:=
 ms.foldl (λs m=>(s.1++[(ES t rules s.2 m).1],(ES t rules s.2 m).1.ex)) ([],h0)
noncomputable def Qk(t:AC)(rules:List eg)(h0:AF)(ms:List C0)(i:Int):Int:=(ES t rules (Ed t rules h0 (ms.take i.toNat)).2 (AA ms i)).2
theorem Ob(t:AC)(rules:List eg)(e:AF)(j:List C0)(m:C0):Ed t rules e (j++[m])=((Ed t rules e j).1++[(ES t rules (Ed t rules e j).2 m).1],(ES t rules (Ed t rules e j).2 m).1.ex):=by
 unfold Ed
 grind
theorem TS(t:AC)(rules:List eg)(j:AF)(e:List C0):(Ed t rules j e).1.length=e.length:=by
 refine XY (P:=λe=>(Ed t rules j e).1.length=e.length) rfl (λe m o=>?_) e
 grind [Ob,az]
variable{α:Type}{i:Int}
theorem Ri[Inhabited α]{l m:List α}(e:0<=i)(j:i<l.length):AA (l++m) i=AA l i:=by grind[Od]
theorem nP[Inhabited α](l:List α)(a:α):AA (l++[a]) l.length=a:=by
 rw [Od,ac V,E',Nat.sub_self];rfl
theorem yw(t:AC)(rules:List eg)(j:AF)(e:List C0):∀i:Int,0<=i->i<e.length->AA (Ed t rules j e).1 i=(ES t rules (Ed t rules j (e.take i.toNat)).2 (AA e i)).1:=by
 refine XY (P:=λe=>∀i:Int,0<=i->i<e.length->AA (Ed t rules j e).1 i=(ES t rules (Ed t rules j (e.take i.toNat)).2 (AA e i)).1) (λi o i1=>k!) (λe m s i o i1=>?_) e;rw[Ob];have u:=TS t rules j e;rw[az,List.length_singleton]at i1
 grind [Ri,nP,E',B!]
theorem qN{rules:List eg}{e:AF}{a b:List C0}(j:0<=i)(i1:i<a.length):Qk t rules e (a++b) i=Qk t rules e a i:=by grind[Qk,Ri]
noncomputable def SI(t:AC)(rules:List eg)(d:BX):List AR×Int×Int:=
 if Gt t rules d.gp≠0 then([],0,Gt t rules d.gp)else if 30<d.ib.length then([],0,3)else
 match fst (λi=>(nz (Qk t rules d.gp d.ib i)).map λe=>([],i,e)) 0 d.ib.length with
 |some r=>r|none=>((Ed t rules d.gp d.ib).1,(d.ib.length:Int),0)
variable{d:BX}
theorem rn{rules:List eg}(hd:d.ib.length<=1000){f:AF->C0->Option (AR×Int)}(hf:∀h m,f h m=Y (ES t rules h m)):
  ei (gt (ρ:=(List AR×Int×Int)) (λ(o:Int)(u:List AR×AF)=>
  (idx d.ib o).bind λw=>
  (f u.2 w).bind λj=>
  if (!decide (j.2=0))=X then
  Y (.ret ([],o,j.2))
  else
  (Am u.1 [j.1]).bind λy=>
  Y (.next (y,j.1.ex))) 0 (d.ib.length:Int) ([],d.gp)) (λu=>
  Y (u.1,(u.1.length:Int),(0:Int))) (λz=>Y z)=Y (match fst (λi=>(nz (Qk t rules d.gp d.ib i)).map λe=>([],i,e)) 0 d.ib.length with
   |some r=>r|none=>((Ed t rules d.gp d.ib).1,(d.ib.length:Int),0)):=by
 rw [EN (a:=0) (s:=(([],d.gp):List AR×AF)) (λi=>Ed t rules d.gp (d.ib.take i.toNat)) (λi=>(nz (Qk t rules d.gp d.ib i)).map λe=>([],i,e)) U rfl]
 .cases fst (λi=>(nz (Qk t rules d.gp d.ib i)).map λe=>(([],i,e):List AR×Int×Int)) 0 (d.ib.length:Int)with
  |some r=>rfl|none=>
   show Y _=Y _;rw[E',x?,TS]
 .intro i o i1 _;have D:=TS t rules d.gp (d.ib.take i.toNat);rw[AD o i1,bs,hf,bs];show(if(!decide (Qk t rules d.gp d.ib i=0))=X then _ else _)=_;by_cases e:Qk t rules d.gp d.ib i=0
  .rw[ac b?,AV (by rw[D,bk];simp;unfold AY;omega),bs,BJ o i1,Ob,Lt.2 e];rfl
  .rw[a6 b?];unfold nz;rw[ac e];rfl
theorem gA(hf:Aq t){rules:List eg}(hr:Ej rules)(d:BX):D7 t rules d=Y (SI t rules d):=by
 unfold D7 SI;rw[rE hf hr,bs];refine Ds λe=>Qj i! λj=>?_;exact rn U (yF hf hr)
structure Ox(t:AC)(rules:List eg)(d:BX):Prop where
 given:Gt t rules d.gp=0
 few:d.ib.length<=30
 gx:∀i:Int,0<=i->i<d.ib.length->Qk t rules d.gp d.ib i=0
theorem Yx{rules:List eg}:(SI t rules d).2.2=0↔Ox t rules d:=by
 unfold SI;constructor
 .intro h;split at h
  .grind
  rename_i j;split at h
  .cases h
  rename_i o;split at h
  .grind[CQ,nz,Qk,oE]
  .rename_i e;rw[BU]at e;refine⟨D?.1 j,U,λi s i1=>?_⟩
   grind [OX,Lt]
 .rintro⟨j,o,u⟩
  grind [BU,Lt]
theorem o7{rules:List eg}(h:Ox t rules d):SI t rules d=((Ed t rules d.gp d.ib).1,(d.ib.length:Int),0):=by
 unfold SI;rw[ac (by simp[h.given]),ac (by have:=h.few;omega),BU.2 λi e i1=>by rw[Lt.2 (h.gx i e i1)];rfl]
structure I7(h:AF)(s:AR):Prop where
 t1:s.kp.dl.length=h.dr.dl.length
 wl:s.kp.d3.length=h.dr.d3.length
 node:∀x∈s.kp.dl,-1<=x/\x<s.ex.dr.dl.length
 edge:∀x∈s.kp.d3,-1<=x/\x<s.ex.dr.d3.length
 sm:DD s.ex
variable{x:AF}{L:Bf}
theorem gH(h:(J4 t x L).2=0):J4 t x L=(⟨x.dr,L.foldl Cb x.eb⟩,0)/\L.any (Nh t x)=T:=by
 unfold J4 at h|-
 grind
structure Qi(t:AC)(r:eg)(h:AF)(m:AP):Prop where
 f:IP t r h m
 sat:Oa t r.fu r.d5 h m r.ij=(X,0)
 solve:Gu t r.fu h m.d4=(m.ey,0)
 chk:Gn t r.fu.dr h.dr m.d4 r.ij=0
 put:(J4 t (Cs t r (CM h (dS r h m)) (cS r h m)) (CN r (cS r h m) m.ey)).2=0
 few:(Cs t r (CM h (dS r h m)) (cS r h m)).dr.dl.length<=40/\(Cs t r (CM h (dS r h m)) (cS r h m)).dr.d3.length<=80
def O1(t:AC)(r:eg)(h:AF)(m:AP):AF:=⟨(Cs t r (CM h (dS r h m)) (cS r h m)).dr,(CN r (cS r h m) m.ey).foldl Cb (Cs t r (CM h (dS r h m)) (cS r h m)).eb⟩
def UY(t:AC)(r:eg)(h:AF)(m:AP):AR:=AR.mk r m h (O1 t r h m) (Gq h (dS r h m)) (cS r h m)
variable{r:eg}{h:AF}{m:AP}
theorem Td(hf:Aq t)(fr:Hq r)(I:De r.d5<=40)(e:(EW t r h m).2=0):Qi t r h m/\EW t r h m=(UY t r h m,0):=by
 unfold EW at e|-;split at e
 next o=>exact absurd e o
 rename_i o;rw[ac o];split at e
 next u=>exact absurd e u
 rename_i u;rw[ac u];split at e
 .cases e
 rename_i E;rw[ac E];split at e
 next w=>exact absurd e w
 rename_i w;rw[ac w];split at e
 .cases e
 rename_i F;rw[ac F];split at e
 next z=>exact absurd e z
 rename_i z;rw[ac z];split at e
 next D=>exact absurd e D
 rename_i D;rw[ac D];split at e
 .cases e
 rename_i G;rw[ac G];have o:=D?.1 o;have u:=D?.1 u;have E:=D?.1 E;have w:=D?.1 w;have F:=D?.1 F;have z:=D?.1 z;have D:=D?.1 D;obtain⟨_,_,_,ha⟩:=Xx hf I (ZB o u E w F);have s:IP t r h m:=⟨hf,fr,o,u,ha,(ZD z).1⟩;unfold ce at e|-;split at e
 next y=>exact absurd e y
 rename_i y;rw[ac y];have y:=D?.1 y;obtain⟨H,J⟩:=gH y;split at e
 .cases e
 rename_i j;rw[ac j];rw[H]at j;refine⟨⟨s,?_,?_,E,y,?_⟩,?_⟩
 .exact Prod.ext (by simpa using G) D
 .exact Prod.ext F w
 .simp[not_or]at j;exact j
 .rw[H];rfl
theorem Qi.trk(s:Qi t r h m):I7 h (UY t r h m):=by
 have hr:=s.f.rem;have j:=s.f.put;have E:((Cs t r (CM h (dS r h m)) (cS r h m)).dr.dl.length)=(dS r h m).dl.length+(E4 r).length:=by
  show (B_ (_++_))=_;rw[az,c9];show((dS r h m).dl.map _).length+_=_;rw[c9];rfl
 have he:((Cs t r (CM h (dS r h m)) (cS r h m)).dr.d3.length)=(dS r h m).d3.length+(K9 r).length:=by
  show (B_ (_++_))=_;rw[az,c9];show((dS r h m).d3.map _).length+_=_;rw[c9];rfl
 have w:M5 (O1 t r h m).eb (Cs t r (CM h (dS r h m)) (cS r h m)).eb:=eG _ _;have z:(O1 t r h m).eb.length=(Cs t r (CM h (dS r h m)) (cS r h m)).dr.dl.length:=by
  have:=congrArg B_ w;rw[c9,c9]at this;rw[this,j.AbM]
 refine ⟨K0 _ _,K0 _ _,λx o=>?_,λx o=>?_,⟨?_,?_,?_,λv hv=>?_⟩⟩
 .obtain⟨i,hi,rfl⟩:=v6.1 o;have:=Rj (dS r h m).dl i;have D:(UY t r h m).ex.dr.dl.length=(Cs t r (CM h (dS r h m)) (cS r h m)).dr.dl.length:=rfl
  grind
 .obtain⟨i,hi,rfl⟩:=v6.1 o;have:=Rj (dS r h m).d3 i;have D:(UY t r h m).ex.dr.d3.length=(Cs t r (CM h (dS r h m)) (cS r h m)).dr.d3.length:=rfl
  grind
 .have:=s.few.1;show(Cs t r (CM h (dS r h m)) (cS r h m)).dr.dl.length<=1000;omega
 .have:=s.few.2;show(Cs t r (CM h (dS r h m)) (cS r h m)).dr.d3.length<=1000;omega
 .have:=s.few.1;show(O1 t r h m).eb.length<=1000;omega
 .have y:v.length∈(O1 t r h m).eb.map B_:=v6.2 ⟨v,hv,rfl⟩;rw[w,s.f.rows]at y;obtain⟨n,u,e⟩:=v6.1 y;have:=IE j.hf (F_ _) (Cw j.hv).par (j.kind n u).2;omega
end Go.Sf.Sc
namespace Go.Sf.Sc
open Go Go.Sf
def CU(l by':Fp):Fp:=l.map λx=>if x<0 then -1 else AA by' x
def C4(m tr:d4):d4:=⟨CU m.dl tr.dl,CU m.d3 tr.d3⟩
def MC(m:d4)(l:List AR):d4:=l.foldl (λm s=>C4 m s.kp) m
def Pv(g:dr):d4:=⟨At g.dl.length,At g.d3.length⟩
variable{l by':Fp}
theorem j5(u:l.length<=1000)(h:∀x∈l,-1<=x/\x<by'.length):G2 l by'=Y (CU l by'):=by
 unfold G2 slices_Clone_int;rw[BT a?,bs,Bo (λi=>(At l.length).map λj=>if j<i then(if AA l j<0 then -1 else AA by' (AA l j))else AA l j) U]
 .grind[CU,YW,Ci]
 .conv=>rhs;rw[<-Qx l]
  grind [Ci]
 .intro i o i1;have s:=h _ (AI o i1);rw[AD o m_,bs,Il _ o i1,ac (show¬i<i by omega)];by_cases e:0<=AA l i
  .rw[a6 d_,AD e s.2,bs,bs,Ic _ o]
   grind
  grind
variable{i:Int}
theorem QD(n:Nat)(e:0<=i)(i1:i<n):AA (At n) i=i:=by
 have:=Il (n:=n) (λx=>x) e i1
 rwa [B?]at this
variable{n:Nat}
theorem bL(h:n<=1000):G5 n=Y (At n):=by
 unfold G5 Hl;rw[a6 U,bs,E',y_,Bo (λi=>(At n).map λj=>if j<i then j else 0) U]
 .rw[bs];congr 1
  conv=>rhs;rw[<-B? (At n)]
  exact Ci λj y s=>a6 s
 .refine x! (by simp[Au]) (λk z D=>?_);have e:(At n)[k]'(by simpa[Au]using z)=(k:Int):=by simp[At]
  simp only[y!,y?,e];rw[ac U]
 .intro i u i1;rw[AD u m_,bs,Ic _ u];congr 1;refine Ci λj y s=>?_;by_cases o:j=i
  .rw[a6 o,a6 U,o]
  .rw[ac o];by_cases w:j<i
   .rw[a6 w,a6 (show j<i+1 by omega)]
   .rw[ac w,ac (show¬j<i+1 by omega)]
variable{g:dr}
theorem mF(h:CA g=0):EB g=Y (Pv g):=by
 have e:=Df h;have:=e.ea;have:=e.eh;unfold EB Gc;rw[NJ,bs,ac k?,bL U,bs,bL U,bs,bs];rfl
structure IN(m:d4)(g:dr):Prop where
 t1:m.dl.length<=1000
 wl:m.d3.length<=1000
 node:∀x∈m.dl,-1<=x/\x<g.dl.length
 edge:∀x∈m.d3,-1<=x/\x<g.d3.length
theorem AA7(h:CA g=0):IN (Pv g) g:=by
 have j:=Df h;have:=j.ea;have:=j.eh;refine⟨by show(At _).length<=1000;rw[Au];omega,by show(At _).length<=1000;rw[Au];omega,λx e=>?_,λx e=>?_⟩
 .have:=Dm.1 e;omega
 .have:=Dm.1 e;omega
theorem MZ(j:∀x∈l,-1<=x/\x<by'.length)(hb:∀x∈by',-1<=x/\x<n):∀x∈CU l by',-1<=x/\x<n:=by
 intro x e;obtain⟨y,o,rfl⟩:=v6.1 e
 grind [AI]
variable{h:AF}
theorem wE{m:d4}{s:AR}(e:IN m h.dr)(j:I7 h s):IN (C4 m s.kp) s.ex.dr:=by
 refine ⟨by show(A? _ _).length<=1000;rw[c9];exact e.t1,by show(A? _ _).length<=1000;rw[c9];exact e.wl,?_,?_⟩
 .exact MZ (λx o=>by have:=e.node x o;rw[j.t1];exact this) j.node
 .exact MZ (λx o=>by have:=e.edge x o;rw[j.wl];exact this) j.edge
variable{t:AC}
theorem Rk(hf:Aq t){rules:List eg}(hr:Ej rules){m:C0}(e:(ES t rules h m).2=0):
  (0<=m.eg/\m.eg<rules.length)/\Qi t (AA rules m.eg) h m.j0/\ES t rules h m=(UY t (AA rules m.eg) h m.j0,0):=by
 unfold ES at e|-;split at e
 .cases e
 rename_i o;rw[ac o];have j:=hr.each _ (AI (l:=rules) (i:=m.eg) U U);exact⟨U,Td hf j.1 j.2 e⟩
theorem Vy(hf:Aq t){rules:List eg}(e:Gt t rules h=0):Dj t rules=0/\(EH t h).2=0/\(A5 t).2=0/\Im t h:=by grind[Gt,Oh]
variable{d:BX}
theorem Qu(hf:Aq t){rules:List eg}(hr:Ej rules)(h:Ox t rules d):∀n:Nat,n<=d.ib.length ->
  DD (Ed t rules d.gp (d.ib.take n)).2/\IN (MC (Pv d.gp.dr) (Ed t rules d.gp (d.ib.take n)).1) (Ed t rules d.gp (d.ib.take n)).2.dr
 |0,_=>by
  obtain ⟨_,u,j,o⟩:=Vy hf h.given;exact⟨RO hf j o,AA7 o.ge⟩
 |n+1,y=>by
  obtain ⟨u,j⟩:=Qu hf hr h n U;have he:=h.gx n U U;have e:=BJ (l:=d.ib) (i:=(n:Int)) U U;rw[show((n:Int)+1).toNat=n+1 by omega,E']at e;unfold Qk at he;rw[E']at he;obtain⟨_,s,w⟩:=Rk hf hr he;rw[e,Ob,w];refine⟨s.trk.sm,?_⟩;unfold MC at j|-;rw[v?];exact wE j s.trk
noncomputable def JC(t:AC)(rules:List eg)(d:BX):AF×d4×Int:=
 if (SI t rules d).2.2≠0 then(⟨⟨[],[]⟩,[]⟩,⟨[],[]⟩,(SI t rules d).2.2)else((Ed t rules d.gp d.ib).2,MC (Pv d.gp.dr) (Ed t rules d.gp d.ib).1,0)
variable{x:AF}
theorem oJ(h:DD x):H6 x=Y x:=by
 have:=h.ea;have:=h.eh;have:=h.vals;unfold H6 slices_Clone_int DB;rw[BT a?,bs,BT a?,bs];rw[Bo (λi=>AF.mk x.dr (x.eb.take i.toNat)) U q?]
 .rw[E',x?];rfl
 .intro i e i1;have:=h.rows _ (AI e i1)
  grind [AD,BT,AY,AV,BJ]
theorem qT(hf:Aq t){rules:List eg}(hr:Ej rules)(h:Ox t rules d){f:Int->AF×d4->Option (AF×d4)}
  (u:∀(i:Int)(s:AF×d4),0<=i->i<d.ib.length->IN s.2 s.1.dr->I7 s.1 (AA (Ed t rules d.gp d.ib).1 i)->f i s=Y ((AA (Ed t rules d.gp d.ib).1 i).ex,C4 s.2 (AA (Ed t rules d.gp d.ib).1 i).kp)):
  ls f 0 ((Ed t rules d.gp d.ib).1.length:Int) (d.gp,Pv d.gp.dr)=Y ((Ed t rules d.gp d.ib).2,MC (Pv d.gp.dr) (Ed t rules d.gp d.ib).1):=by
 rw [TS,Bo (λi=>((Ed t rules d.gp (d.ib.take i.toNat)).2,MC (Pv d.gp.dr) (Ed t rules d.gp (d.ib.take i.toNat)).1)) U q?]
 .rw[E',x?]
 .intro i e i1;obtain⟨y,w⟩:=Qu hf hr h i.toNat U;have he:=h.gx i e i1;unfold Qk at he;obtain⟨_,s,o⟩:=Rk hf hr he;have j:=yw t rules d.gp d.ib i e i1;rw[o]at j;rw[u i _ e i1 w (by rw[j];exact s.trk),BJ e i1,Ob,o,j];unfold MC;rw[v?];rfl
theorem j7(hf:Aq t){rules:List eg}(hr:Ej rules)(d:BX):EX t rules d=Y (JC t rules d):=by
 unfold EX JC;rw[gA hf hr,bs];refine Ds λu=>?_;have h:=Yx.1 u;obtain⟨_,_,_,hh⟩:=Vy hf h.given;rw[mF hh.ge,bs,o7 h];simp;rw[qT hf hr h λi s w i1 e o=>?_]
 .have:=(Qu hf hr h d.ib.length (ae _)).1
  grind [x?,oJ]
 .rw[AD w (by rw[TS];exact i1),bs,j5 e.t1 (λx j=>by rw[o.t1];exact e.node x j),bs,j5 e.wl (λx j=>by rw[o.wl];exact e.edge x j),bs];rfl
structure nH(m:AP):Prop where
 ea:m.d4.dl.length<=1000
 eh:m.d4.d3.length<=1000
 vars:m.ey.length<=1000
structure wU(d:BX):Prop where
 start:DD d.gp
 len:d.ib.length<=1000
 gx:∀m∈d.ib,nH m.j0
variable{r:eg}{m:AP}
theorem Qi.small(s:Qi t r h m):nH m:=by
 have j:=s.f.left;have e:=s.f.ro.left;have o:=s.f.at_.len;have u:=s.f.at_.q.vars;have:=e.ea;have:=e.eh;exact⟨U,U,U⟩
theorem Ox.small(hf:Aq t){rules:List eg}(hr:Ej rules)(h:Ox t rules d):wU d:=by
 obtain ⟨_,_,j,o⟩:=Vy hf h.given;refine⟨RO hf j o,by have:=h.few;omega,λm e=>?_⟩;obtain⟨i,s,i1,rfl⟩:=BW e;have he:=h.gx i s i1;unfold Qk at he;exact(Rk hf hr he).2.1.small
theorem ub{rules:List eg}:(JC t rules d).2.2=(SI t rules d).2.2:=by grind[JC]
theorem uP{rules:List eg}{m:C0}(h:Ox t rules d)(o:d.ib.length<30)(e:(ES t rules (Ed t rules d.gp d.ib).2 m).2=0):Ox t rules ⟨d.gp,d.ib++[m]⟩:=by
 refine ⟨h.given,a_,λi j i1=>?_⟩;simp at i1;show Qk t rules d.gp (d.ib++[m]) i=0;by_cases hi:i<d.ib.length
 .rw[qN j hi];exact h.gx i j hi
 grind [Qk,nP,E',B!]
variable{α:Type}
theorem Vr[Inhabited α]{l:List α}(v:α)(e:0<=i)(j:i<l.length):AA (BG l i v) i=v:=by grind[AA,BG]
theorem Vs[Inhabited α]{l:List α}{i j:Int}(v:α)(e:0<=i)(o:0<=j)(h:j≠i):AA (BG l i v) j=AA l j:=by grind[AA,BG]
end Go.Sf.Sc
namespace Go.Sf.Sc
open Go Go.Sf
end Go.Sf.Sc
namespace Go.Sf.Sc
open Go Go.Sf
end Go.Sf.Sc
namespace Go.Sf.Sc
open Go Go.Sf
variable{ρ:Type}
theorem zL{f:Int×Int->Option (B5 (Int×Int) ρ)}(I:Int->Int->Prop)(b:Int){s a:Int}(w:I a s)
  (step:∀i s,a<=i->I i s->(i<b/\∃s',f (s,i)=Y (.next (s',i+1))/\I (i+1) s')\/f (s,i)=Y (.brk (s,i))):∃i s',a<=i/\I i s'/\Dv f (s,a)=Y (.inl (s',i)):=by
 have key:∀(n:Nat)(i s:Int),a<=i->I i s->b-i<=n->∃j s',i<=j/\I j s'/\L8 f (s,i) (.inl (s',j)):=by
  intro n
  induction n with
  |zero=>
   intro i s hi e hb;rcases step i s hi e with⟨h,_⟩|h
   .omega
   .exact⟨i,s,F_ _,e,.brk h⟩
  |succ n E=>
   intro i s hi e hb;rcases step i s hi e with⟨_,s',o,u⟩|h
   .obtain⟨j,s2,F,y,z⟩:=E (i+1) s' U u U;exact⟨j,s2,U,y,.next o z⟩
   .exact⟨i,s,F_ _,e,.brk h⟩
 obtain ⟨j,s',o,u,D⟩:=key (b-a).toNat a s (F_ _) w U;exact⟨j,s',o,u,D.eq⟩
theorem bv{q w k:Int}(c:Int)(H:q<=1000)(y:0<=k)(o:k<=1000)(u:1<=c/\c<=80)(z:1<=w/\w<=400000):∃w' D,(1<=w'/\w'<=400000)/\Dv (ρ:=ρ) (λ(j:Int×Int)=>
  if ((decide (j.2<q))&&(decide (j.1<=5000)))=X then
  Y (.next (Al (j.1*c),Al (j.2+1)))
  else
  Y (.brk (j.1,j.2))) (w,k)=Y (.inl (w',D)):=by
 obtain ⟨i,s',K,F,G⟩:=zL (ρ:=ρ) (f:=λ(j:Int×Int)=>
  if ((decide (j.2<q))&&(decide (j.1<=5000)))=X then
  Y (.next (Al (j.1*c),Al (j.2+1)))
  else
  Y (.brk (j.1,j.2))) (λi s=>(1<=s/\s<=400000)/\0<=i/\i<=1000) q (s:=w) (a:=k) ⟨z,y,o⟩ (λi s hi E=>by
   by_cases e:i<q/\s<=5000
   .left;have I:1*1<=s*c:=F? E.1.1 u.1 U U;have J:s*c<=5000*80:=F? e.2 u.2 U U
    grind [Ar]
   grind)
 exact ⟨s',i,F.1,G⟩
theorem kT:∀(N:Nat)(c:d5)(p:d7)(w:Int),SizeOf.sizeOf c<=N->EJ c->Px p->De c<=1000->1<=w->w<=5000->∃b,∀n,N<=n->Di n p c w=Y b
 |0,c,_,_,h,_,_,_,_,_=>by have:=D8 c;omega|N+1,c,p,w,h,S,O,hk,w0,w1=>by
  have key:∀q:d7,Px q->∃b,∀n,N<=n->ei (Dv (ρ:=Bool) (λ(j:Int×Int)=>
    if ((decide (j.2<(q.dr.dl.length:Int)))&&(decide (j.1<=5000)))=X then
    Y (.next (Al (j.1*40),Al (j.2+1)))
    else
    Y (.brk (j.1,j.2))) (w,(p.dr.dl.length:Int))) (λj=>
    ei (Dv (ρ:=Bool) (λ(s2:Int×Int)=>
    if ((decide (s2.2<(q.dr.d3.length:Int)))&&(decide (s2.1<=5000)))=X then
    Y (.next (Al (s2.1*80),Al (s2.2+1)))
    else
    Y (.brk (s2.1,s2.2))) (j.1,(p.dr.d3.length:Int))) (λs2=>
    ei (Dv (ρ:=Bool) (λ(s:Int)=>
    if ((decide (s<(c.em.length:Int)))&&(decide (s2.1<=5000)))=X then
    (idx c.em s).bind λz=>
    (Di n q z s2.1).bind λD=>
    if (!D)=X then
    Y (.ret T)
    else
    Y (.next (Al (s+1)))
    else
    Y (.brk s)) 0) (λs=>
    Y (decide (s2.1<=5000))) (λε=>Y ε)) (λη=>Y η)) (λζ=>Y ζ)=Y b:=by
   intro q u;have q1:=u.ea;have q2:=u.eh;have p1:=O.ea;have p2:=O.eh;obtain⟨a,k,ha,Q⟩:=bv (ρ:=Bool) (q:=q.dr.dl.length) (w:=w) (k:=p.dr.dl.length) 40 U U U U U;obtain⟨a',k',J,y⟩:=bv (ρ:=Bool) (q:=q.dr.d3.length) (w:=a) (k:=p.dr.d3.length) 80 U U U U ha;have δ:c.em.length<=1000:=by have:=Uy c.em;have:=Uz c;omega
   by_cases I:a'<=5000
   .have kids:∀x∈c.em,∃b,∀n,N<=n->Di n q x a'=Y b:=λx E=>by
     have F:=E5 E;have G:=Wt E;have h3:=Uz c;exact kT N x q a' U (S.k x E) u U J.1 I
    have o:∀i:Int,∃b:Bool,0<=i->i<c.em.length->∀n,N<=n->Di n q (AA c.em i) a'=Y b:=λi=>by
     by_cases e:0<=i/\i<c.em.length
     .obtain⟨b,hb⟩:=kids _ (AI e.1 e.2);exact⟨b,λ_ _=>hb⟩
     .exact⟨X,λF G=>absurd ⟨F,G⟩ e⟩
    obtain ⟨g,Z⟩:=Classical.axiomOfChoice o;refine⟨(fst (λi=>if g i=X then W else Y (Sum.inr T:Int ⊕ Bool)) 0 c.em.length).isNone,λn H=>?_⟩;rw[Q,Br];simp only[];rw[y,Br];simp only[];rw[Ou (λi=>if g i=X then W else Y (.inr T)) (b:=c.em.length) U]
    .cases e:fst (λi=>if g i=X then W else Y (Sum.inr T:Int ⊕ Bool)) 0 (c.em.length:Int)with
     |none=>
      show Y (decide (a'<=5000))=Y X;rw[decide_eq_true I]
     |some r=>
      obtain ⟨i,_,_,K,_⟩:=CQ e;split at K
      .cases K
      .cases K;rfl
    .intro i P i1 _;rw[a6 a_,AD P i1,bs,Z i P i1 n H,bs,Ar U U];cases g i<;>rfl
    .rw[ac V]
   .refine⟨T,λn H=>?_⟩;rw[Q,Br];simp only[];rw[y,Br];simp only[];rw[Ou (λ_=>W) (b:=0) U (λi F G _=>U) (by rw[ac a_])];rw[np U];show Y _=Y _;rw[decide_eq_false I]
  have u:Px (if c.jj=5 then c.d7 else p):=by split;exact S.q;exact O
  obtain ⟨b,hb⟩:=key _ u;refine⟨b,λn H=>?_⟩;obtain⟨n,rfl⟩:∃k,n=k+1:=⟨n-1,U⟩;rw[Di,show(if decide (c.jj=5)=X then Y c.d7 else Y p)=Y (if c.jj=5 then c.d7 else p)by by_cases e:c.jj=5<;>simp[e],bs];exact hb n U
end Go.Sf.Sc
namespace Go.Sf.Sc
open Go Go.Sf
variable{r:eg}
theorem hU(e:(Bt r).Sm):(AJ r.d5).Sm:=by
 have j:TV.Sms [_,_,_,_,_,_,_,_,_,_,_,_,_,_,_,_,_,_,_,_,_,_,_,_,_]:=e;obtain⟨_,_,_,_,_,_,_,_,_,_,_,D,E,i1,i2,_,o,s,c3,c4,u,w,y,c8,z,_⟩:=j;exact⟨o,s,c3,c4,u,w,y,c8,z,trivial⟩
variable{t:AC}
theorem jq(hf:Aq t)(st:(AK t).Sm)(e:(Bt r).Sm)(h:AF):∃b,HO t r h=Y b/\(b=X->Hq r/\De r.d5<=40):=by
 obtain ⟨j,o,_⟩:=ST st;obtain⟨s,u,w⟩:=qQ e;obtain⟨y,z,D⟩:=ot hf st r.fu (hU e) h;unfold HO
 grind
theorem uu(st:(AK t).Sm){rules:List eg}(ε:∀r∈rules,(Bt r).Sm)(h:AF):∃b,Ly t rules h=Y b/\(b=X->Aq t/\Ej rules):=by
 obtain ⟨b1,e1,f1⟩:=ST st;obtain⟨b2,e2⟩:=du h;unfold Ly;by_cases P:(((decide (4<(rules.length:Int)))&&(decide ((rules.length:Int)<=10)))||(decide (12<(rules.length:Int))))=X
 .rw[a6 P,bs,a6 rfl,bs,a6 rfl];exact⟨T,rfl,λh=>c_⟩
 rw [ac P,e1,bs,bs];cases b1 with
 |false=>exact⟨T,rfl,λh=>c_⟩
 |true=>
 rw [ac a!,e2,bs,bs];cases b2 with
 |false=>exact⟨T,rfl,λh=>c_⟩
 |true=>
 rw [ac a!];have hf:=f1 rfl;have δ:rules.length<=12:=by
  simp only[D_,ne,sA,not_or]at P;omega
 rcases W5 (f:=λ(o:Int)(η:Bool)=>
  (idx rules o).bind λw=>
  (HO t w h).bind λy=>
  if (!y)=X then
  Y (.ret T)
  else
  (if η=X then((idx rules o).bind λz=>
  Y (decide ((z.fu.dr.dl.length:Int)<=3)))else Y T).bind λD=>
  (if D=X then((idx rules o).bind λE=>
  Y (decide ((E.fu.dr.d3.length:Int)<=2)))else Y T).bind λF=>
  (if F=X then((idx rules o).bind λG=>
  Y (decide ((G.ec.dr.dl.length:Int)<=5)))else Y T).bind λH=>
  (if H=X then((idx rules o).bind λI=>
  (idx rules o).bind λJ=>
  (OJ I.fu J.d5 1).bind λK=>
  Y (K))else Y T).bind λN=>
  Y (.next N)) (λi _=>∀j:Int,0<=j->j<i->Hq (AA rules j)/\De (AA rules j).d5<=40) (λ_=>False) (λr=>r=T) (a:=0) (b:=rules.length) (s:=X) U (λj h1 h2=>U) (λi s o i1 O=>by
   have Z:=AI o i1;obtain⟨b3,u,f3⟩:=jq hf st (ε _ Z) h;simp only[AD o i1,bs];rw[u,bs];cases b3 with
   |false=>exact .inr (.inr ⟨T,rfl,rfl⟩)|true=>
    obtain ⟨Q,k2⟩:=f3 rfl;obtain⟨S,e4⟩:=kT _ (AA rules i).d5 (AA rules i).fu 1 (ae _) Q.cond Q.left U a! a!;have e5:OJ (AA rules i).fu (AA rules i).d5 1=Y S:=DK _ e4;left;refine⟨(((s&&decide (((AA rules i).fu.dr.dl.length:Int)<=3))&&decide (((AA rules i).fu.dr.d3.length:Int)<=2))&&decide (((AA rules i).ec.dr.dl.length:Int)<=5))&&S,?_,λj ζ j1=>?_⟩
    .rw[ac a!,e5];cases s<;>cases decide (((AA rules i).fu.dr.dl.length:Int)<=3)<;>cases decide (((AA rules i).fu.dr.d3.length:Int)<=2)<;>cases decide (((AA rules i).ec.dr.dl.length:Int)<=5)<;>rfl
    .by_cases e:j=i
     .rw[e];exact⟨Q,k2⟩
     .exact O j ζ U)with⟨s',u,h3⟩|⟨r,u,h3⟩
 .rw[u,Br];have O:=h3.resolve_right id;have hr:Ej rules:=⟨δ,λr hr=>by
   obtain ⟨i,o,i1,rfl⟩:=BW hr;exact O i o i1⟩
  rw [rQ hf hr,bs];exact⟨_,rfl,λ_=>⟨hf,hr⟩⟩
 .rw[u,St,h3];exact⟨T,rfl,λh=>c_⟩
variable{h:AF}
theorem nZ:∃b,IU h=Y b/\(b=X->DD h):=by
 unfold IU Jj;rw[bs];by_cases j:((!((decide ((h.dr.dl.length:Int)<=45))&&(decide ((h.dr.d3.length:Int)<=90))))||(decide (45<(h.eb.length:Int))))=X
 .rw[a6 j];exact⟨T,rfl,λh=>c_⟩
 rw [ac j,BZ (λi=>decide (12<((AA h.eb i).length:Int))) T]
 .cases e:kl (λi=>decide (12<((AA h.eb i).length:Int))) 0 h.eb.length with
  |true=>exact⟨T,rfl,λh=>c_⟩
  |false=>
   refine ⟨X,rfl,λ_=>?_⟩;rw[Bw]at e;simp only[D_,Bool.not_eq_true',Bool.and_eq_false_iff,decide_eq_false_iff_not,sA,not_or]at j;refine⟨U,U,U,λv hv=>?_⟩
   grind [BW]
 .intro i o i1 _;rw[AD o i1,bs,JE]
end Go.Sf.Sc
namespace Go.Sf.Sc
open Go Go.Sf
end Go.Sf.Sc
namespace Go.Sf.Sc
open Go Go.Sf
def SN(x:Int):Prop:=-9223372036854775808<=x/\x<=9223372036854775807
theorem wK{x y:Int}(e:SN x)(j:SN y):Al (x-y)=0↔x=y:=by
 unfold SN at e j;rw[iO];split<;>omega
theorem oh{l m:Fp}(w:l.length<=1000)(y:m.length<=1000)(s:∀x∈l,SN x)(u:∀x∈m,SN x):∃v,Lj l m=Y v/\(v=0↔l=m):=by
 unfold Lj;rw[Ou (λi=>if AA l i=AA m i then W else Y (.inr (Al (AA l i-AA m i)))) (b:=min (l.length:Int) m.length) U]
 .cases e:fst (λi=>if AA l i=AA m i then(W:Option (Int ⊕ Int))else Y (.inr (Al (AA l i-AA m i)))) 0 (min (l.length:Int) m.length)with
  |none=>
   refine ⟨_,rfl,?_⟩;rw[Ar U U];rw[BU]at e;constructor
   .intro h;refine Xr U λi j i1=>?_;have:=e i j U
    grind
   .rintro rfl;omega
  |some x=>
   obtain ⟨i,j,i1,o,_⟩:=CQ e;by_cases h:AA l i=AA m i
   .rw[a6 h]at o;cases o
   .rw[ac h]at o;cases o;refine⟨_,rfl,?_⟩;rw[wK (s _ (AI j U)) (u _ (AI j U))];exact⟨λk=>absurd k h,λk=>by rw[k]⟩
 .intro i j i1 _;rw[a6 a_,AD j U,bs,AD j U,bs];by_cases h:AA l i=AA m i
  .rw[ac k?,a6 h,Ar U U];rfl
  .rw[a6 k?,ac h,bs,bs];rfl
 .rw[ac a_]
structure Gr(h:AF):Prop where
 s:DD h
 w:∀v∈h.eb,∀x∈v,SN x
theorem rA(l m:List Fp):DN l m slices_Equal_int=Y (decide (l=m)):=by
 unfold DN;simp only[KQ,bs];exact P4 l m
theorem Rm(a b:AF):Ge a b=Y (decide (a=b)):=by
 unfold Ge;rw[KQ,bs,gI,bs,rA,bs];obtain⟨⟨n,e⟩,v⟩:=a;obtain⟨⟨u,w⟩,y⟩:=b;by_cases j:n=u<;>by_cases o:e=w<;>by_cases s:v=y<;>simp[j,o,s]
theorem TN{a b:AF}(ha:Gr a)(hb:Gr b):IJ a b=Y (decide (a=b)):=by
 unfold IJ;rw[kN,bs];obtain⟨g,v⟩:=a;obtain⟨F,e⟩:=b;simp only[];by_cases o:g=F
 .subst o;by_cases u:v.length=e.length
  .rw[ac l_,BZ (λi=>!decide (AA v i=AA e i)) T]
   .have:=Z1 (λx y:Fp=>decide (x=y)) (l:=v) (m:=e) (λ_ _ _ _=>decide_eq_true_iff) u;by_cases h:v=e
    .rw[this.2 h,ac V,Br];simp[h]
    .cases E:kl (λi=>!decide (AA v i=AA e i)) 0 v.length
     .exact absurd (this.1 E) h
     .rw[a6 rfl,St];simp[h]
   .intro i j i1 _;have z:=AI j i1;have D:=AI (l:=e) j U;obtain⟨x,G,H⟩:=oh (ha.s.rows _ z) (hb.s.rows _ D) (ha.w _ z) (hb.w _ D);rw[AD j i1,bs,AD j U,bs,G,bs];by_cases h:AA v i=AA e i<;>simp[h,H]
  .rw[a6 a_];have:v≠e:=λh=>u (by rw[h]);simp[this]
 .rw[a6 q_];simp[o]
theorem oU(a b:d7):G9 a b=Y (decide (a=b)):=by
 unfold G9 RN;simp only[KQ,gI,oa,ob,bs];obtain⟨⟨n,e⟩,s,v,t⟩:=a;obtain⟨⟨z,D⟩,s',E,F⟩:=b;by_cases j:n=z<;>by_cases o:e=D<;>by_cases u:s=s'<;>by_cases w:v=E<;>by_cases y:t=F<;>simp[j,o,u,w,y]
noncomputable def aK(a b:eg):Bool:=@decide (a=b) (E_ _)
noncomputable def jY(a b:AR):Bool:=@decide (a=b) (E_ _)
theorem ja{a b:eg}:aK a b=X↔a=b:=by unfold aK;exact@decide_eq_true_iff _ (E_ _)
theorem ZH{a b:AR}:jY a b=X↔a=b:=by unfold jY;exact@decide_eq_true_iff _ (E_ _)
theorem kQ(a b:eg):aK a b=(decide (a.kq=b.kq)&&decide (a.ij=b.ij)&&decide (a.fu=b.fu)&&decide (a.ec=b.ec)&&decide (a.o4=b.o4)&&decide (a.mo=b.mo)&&Uh a.d5 b.d5):=by
 rw [C?,ja];simp only[ne,sA,ZG];obtain⟨n,l,r,k,i,j,c⟩:=a;obtain⟨e,o,s,u,w,y,c'⟩:=b;simp only[eg.mk.injEq]
 grind
theorem kV(a b:AR):jY a b=(aK a.eg b.eg&&decide (a.j0=b.j0)&&decide (a.fl=b.fl)&&decide (a.ex=b.ex)&&decide (a.kp=b.kp)&&decide (a.pq=b.pq)):=by
 rw [C?,ZH];simp only[ne,sA,ja];obtain⟨r,m,o,s,t,c⟩:=a;obtain⟨u,m',e,j,w,c'⟩:=b;simp only[AR.mk.injEq]
 grind
theorem dV{b c:Bool}{o:K1}(h:o=Y c):(if b=X then o else Y T)=Y (b&&c):=by
 subst h;cases b<;>rfl
theorem vN(a b:eg):Mt a b=Y (aK a b):=by
 unfold Mt;simp only[oU,KQ,V9,vM,bs];rw[kQ];obtain⟨n,l,r,⟨F,G⟩,i,j,c⟩:=a;obtain⟨H,I,J,⟨e,o⟩,K,N,c'⟩:=b;simp only[];by_cases s:n=H<;>by_cases u:j=N<;>by_cases w:l=I<;>by_cases y:r=J<;>simp[s,u,w,y];by_cases z:F=e<;>by_cases D:G=o<;>by_cases E:i=K<;>simp[z,D,E]
theorem o0(a b:eg):Pa a b=Y (aK a b):=by
 unfold Pa RW;simp only[kO,WC,WE,vf,bs];rw[kQ];obtain⟨n,l,r,⟨F,G⟩,i,j,c⟩:=a;obtain⟨H,I,J,⟨e,o⟩,K,N,c'⟩:=b;simp only[];by_cases s:n=H<;>by_cases u:j=N<;>by_cases w:l=I<;>by_cases y:r=J<;>simp[s,u,w,y];by_cases z:F=e<;>by_cases D:G=o<;>by_cases E:i=K<;>simp[z,D,E]
theorem rH(a b:AP):Kn a b=Y (decide (a=b)):=by
 unfold Kn;simp only[V9,KQ,bs];obtain⟨m,v⟩:=a;obtain⟨m',o⟩:=b;by_cases e:m=m'<;>by_cases j:v=o<;>simp[e,j]
theorem gY(a b:AP):Hp a b=Y (decide (a=b)):=by
 unfold Hp;simp only[WC,bs];obtain⟨⟨m1,w⟩,v⟩:=a;obtain⟨⟨e,j⟩,y⟩:=b;by_cases o:m1=e<;>by_cases s:w=j<;>by_cases u:v=y<;>simp[o,u,s]
theorem vO(a b:AR):Mz a b=Y (jY a b):=by
 unfold Mz;simp only[vN,rH,Rm,V9,bs,kV];cases aK a.eg b.eg<;>by_cases e:a.j0=b.j0<;>by_cases j:a.fl=b.fl<;>by_cases o:a.ex=b.ex<;>by_cases s:a.kp=b.kp<;>simp[e,j,o,s]
structure lF(s:AR):Prop where
 b:Gr s.fl
 a:Gr s.ex
theorem vg{a b:AR}(ha:lF a)(hb:lF b):Pc a b=Y (jY a b):=by
 unfold Pc;simp only[o0,gY,TN ha.b hb.b,TN ha.a hb.a,WE,bs,kV];cases aK a.eg b.eg<;>by_cases e:a.j0=b.j0<;>by_cases j:a.fl=b.fl<;>by_cases o:a.ex=b.ex<;>by_cases s:a.kp=b.kp<;>simp[e,j,o,s]
variable{κ:List Fp}
theorem aT(h:∀v∈κ,∀x∈v,SN x):∀{L:Bf},(∀p∈L,SN p.2)->∀{κ:List Fp},(∀v∈κ,∀x∈v,SN x)->∀v∈L.foldl Cb κ,∀x∈v,SN x
 |[],_,_,k=>k|p::L,j,κ,k=>by
  rw [List.foldl_cons];refine aT h (L:=L) (λq o=>j q (v_ _ o)) ?_;unfold Cb;split
  .intro v hv x e;obtain⟨n,s,rfl⟩:=List.mem_iff_getElem.1 hv;rw[List.getElem_modify]at e;split at e
   .rcases List.mem_or_eq_of_mem_set e with e|rfl
    .exact k _ (C_ _) _ e
    .exact j p (A' ..)
   .exact k _ (C_ _) _ e
  .exact k
variable{t:AC}{h:AF}
theorem px(hf:Aq t)(e:(EH t h).2=0):Gr h:=by
 obtain ⟨hv,hh⟩:=Oh hf e;refine⟨RO hf hv hh,λv j x o=>?_⟩;obtain⟨i,s,i1,rfl⟩:=BW j;have:=hh.low i s (by have:=hh.len;omega) x o;unfold SN;omega
variable{r:eg}{m:AP}
theorem b6(s:Qi t r h m):lF (UY t r h m):=by
 have hh:=s.f.hh;have y:=px s.f.hf s.f.he;have z:=s.f.put;have hT:=Cw s.f.hv;refine⟨y,s.trk.sm,?_⟩;have hb:=(gH s.put).2;refine aT (κ:=[]) V (λp e=>?_) ?_
 .obtain⟨sl,E,rfl⟩:=v6.1 e;have k:=z.slot sl E;rw[List.any_eq_false]at hb;have j:=hb _ e;unfold Nh at j;have D:=z.kind _ (AI k.2.2.1.1 k.2.2.1.2);have F:=Ti s.f.hf hT D.1 D.2 _ (AI k.2.2.2.1 k.2.2.2.2);simp only[D_,sA,not_or]at j;unfold SN;unfold Rd at j|-;dsimp only at j|-;omega
 .intro v hv x u;unfold Cs OY at hv;rcases B'.1 hv with hv|hv
  .unfold CM at hv;obtain⟨i,hi,rfl⟩:=v6.1 hv;have:=s.f.rem.ea.1 i hi;exact y.w _ (AI this.1 (by have:=hh.len;omega)) x u
  .obtain⟨i,hi,rfl⟩:=v6.1 hv;unfold VG at u;obtain⟨a,ha,rfl⟩:=v6.1 u;have o:=Gk hi;have k:=s.f.grow.kind _ (AI (l:=r.ec.dr.dl) o.1 o.2);have G:=Ti s.f.hf hT k.1 k.2 a ha;have j:=aB s.f.hf hT k.1 k.2 a ha;unfold SN;omega
end Go.Sf.Sc
namespace Go.Sf.Sc
open Go Go.Sf
variable{q:Py}
theorem dN:∀(n:Nat)(f:AM),f.eh.length+n=f.p.d3.length->(∀i:Int,0<=i->i<f.p.d3.length->PL.at_ f.ff.d3 i=PL.at_ q.d3 i)->EK n f=EK n {f with ff:=q}
 |0,_,_,_=>rfl|n+1,f,j,h=>by
  rw [EK,EK];refine congrArg (λF=>(At f.g.d3.length).flatMap F) (funext λk=>?_);have e:R8 f k=R8 {f with ff:=q} k:=by
   grind [R8,LU]
  rw [e,dN n {f with eh:=f.eh++[k]} a_ h]
theorem dR:∀(n:Nat)(f:AM),f.ea.length+n=f.p.dl.length->f.eh=[]->(∀i:Int,0<=i->i<f.p.dl.length->PL.at_ f.ff.dl i=PL.at_ q.dl i)->(∀i:Int,0<=i->i<f.p.d3.length->PL.at_ f.ff.d3 i=PL.at_ q.d3 i)->Fd n f=Fd n {f with ff:=q}
 |0,f,_,he,_,h=>dN f.p.d3.length f (by rw[he];simp) h|n+1,f,o,he,j,h=>by
  rw [Fd,Fd];refine congrArg (λF=>(At f.g.dl.length).flatMap F) (funext λk=>?_);have e:R9 f k=R9 {f with ff:=q} k:=by
   grind [R9]
  rw [e,dR n {f with ea:=f.ea++[k]} a_ he j h]
variable{n:Nat}{i v:Int}
theorem nQ(e:0<=i)(j:i<n):AA (List.replicate n v) i=v:=by
 unfold AA
 grind
def F0(t:AC)(p g:dr)(inj:Bool):AM:=⟨p,g,KI t,Py.mk W W,inj,5001,[],[],[]⟩
variable{t:AC}{p g:dr}
theorem qB{inj:Bool}:Fd p.dl.length (F0 t p g inj)=Fd p.dl.length (FF t p g (NI p) inj):=
 dR (q:=Py.of (NI p)) p.dl.length (F0 t p g inj) p! rfl (λi e i1=>(nQ e i1).symm) (λi e i1=>(nQ e i1).symm)
theorem rD{inj:Bool}(s:Aq t)(hv:(A5 t).2=0)(o:Nd (FF t p g (NI p) inj)):GW t p g ⟨W,W⟩ inj 5001=Y (Ja t p g (NI p) inj):=by
 unfold GW;rw[mI s (Cw hv) hv,bs];have j:Nd (F0 t p g inj):=⟨trivial,trivial,o.ends,o.kinds,o.small⟩;have h:=oN (f:=F0 t p g inj) j ⟨by show(0:Int)<=5001;omega,by show(5001:Int)<=10000;omega,by show((0:Nat):Int)<=5001;omega⟩ rfl rfl;rw[dO _ _ j rfl,show(F0 t p g inj).p.dl.length=p.dl.length from rfl,qB]at h;have e:AM.mk p g (KI t) ⟨W,W⟩ inj 5001 [] [] []=F0 t p g inj:=rfl;rw[e,h];rfl
def L9(t:AC)(p g:dr)(inj:Bool):List d4×Int:=
 if Et t p g≠0 then([],Et t p g)else if 5000<(Ja t p g (NI p) inj).length then([],3)else(Ja t p g (NI p) inj,0)
theorem xt(hf:Aq t)(p g:dr)(inj:Bool):LT t p g inj=Y (L9 t p g inj):=by
 unfold LT L9;rw[WA hf,bs];refine Ds λe=>?_
 grind [Wy,NI,Jp,rD,bs,Ja]
theorem yO(hf:Aq t)(p g:dr)(inj:Bool):Mm t p g inj=Y (L9 t p g inj):=by
 unfold Mm L9;rw[UL hf,bs];refine Ds λe=>?_;obtain⟨hv,o⟩:=Wy (inj:=inj) (pa:=NI p) e (by simp[NI]) (by simp[NI]);have j:=(OV e).2.1;have:=j.ea;have:=j.eh
 grind [rV,bs,t7,Ja,NI]
end Go.Sf.Sc
namespace Go.Sf.Sc
open Go Go.Sf
variable{α:Type}{f:Int->List α->Option (List α)}
theorem ay[Inhabited α]{x:List α}{p:α->Bool}(u:x.length<=5000)
  (hf:∀(i:Int)(s:List α),0<=i->i<x.length->s.length<=5000->f i s=Y (if p (AA x i)=X then s++[AA x i]else s)):
  ls f 0 (x.length:Int) []=Y (x.filter p):=by
 rw [Bo (a:=0) (b:=x.length) (s:=[]) (λi=>(x.take i.toNat).filter p) U rfl,E',x?];intro i e i1;have j:((x.take i.toNat).filter p).length<=5000:=m?
 rw [hf i _ e i1 j,BJ e i1,List.filter_append];cases o:p (AA x i)<;>simp[o]
def Li(t:AC)(p:d7)(h:AF)(inj:Bool):List AP×Int:=
 if OF t p h≠0 then([],OF t p h)else if(L9 t p.dr h.dr inj).2≠0 then([],(L9 t p.dr h.dr inj).2)else
 (((L9 t p.dr h.dr inj).1.filter λy=>decide ((GY p h y).2=0)).map λy=>⟨y,(GY p h y).1⟩,0)
variable{t:AC}{p g:dr}
theorem dT{inj:Bool}(h:(L9 t p g inj).2=0):(L9 t p g inj).1.length<=5000/\∀m∈(L9 t p g inj).1,Gn t p g m inj=0:=by grind[L9,nm]
theorem rG(hf:Aq t)(p:d7)(h:AF)(inj:Bool):E0 t p h inj=Y (Li t p h inj):=by
 unfold E0 Li;rw[bJ hf,bs];refine Ds λw=>?_;rw[xt hf,bs];refine Ds λz=>?_;obtain⟨E,G⟩:=dT z;rw[QL (F:=λy=>((GY p h y).1,decide ((GY p h y).2=0))) E,bs];intro i s D i1 j;have o:GK p h (AA (L9 t p.dr h.dr inj).1 i)=Y (GY p h (AA (L9 t p.dr h.dr inj).1 i)):=by
  obtain ⟨hv,u,hh,e⟩:=Qe hf w (G _ (AI D i1));exact kE u (λs j=>Oq (Cw hv) u hh e j)
 grind [AD,bs,GY,AA,L9,AV,AY]
theorem rR(hf:Aq t)(p:d7)(h:AF)(inj:Bool):Hu t p h inj=Y (Li t p h inj):=by
 unfold Hu Li;rw[bS hf,bs];refine Ds λw=>?_;rw[yO hf,bs];refine Ds λz=>?_;obtain⟨E,G⟩:=dT z;rw[QL (F:=λy=>((GY p h y).1,decide ((GY p h y).2=0))) E,bs];intro i s D i1 j;have o:Iw p h (AA (L9 t p.dr h.dr inj).1 i)=Y (GY p h (AA (L9 t p.dr h.dr inj).1 i)):=by
  obtain ⟨hv,u,hh,e⟩:=Qe hf w (G _ (AI D i1));exact kP u (λs j=>Oq (Cw hv) u hh e j)
 grind [AD,bs,GY,AA,L9,AV,AY]
variable{h:AF}
theorem VH{p:d7}{inj:Bool}:(Li t p h inj).1.length<=5000:=by grind[Li,dT,c9,Nat.le_trans,w?]
noncomputable def RL(t:AC)(r:eg)(h:AF):Int:=if EI t r≠0 then EI t r else(EH t h).2
variable{r:eg}
theorem j9(hf:Aq t)(fr:Hq r)(h:AF):IM t r h=Y (RL t r h):=by
 unfold IM RL;rw[Ol hf,bs];by_cases hv:¬(A5 t).2=0
 .grind[EI,A5]
 have hv:=D?.1 hv;rw[ac l?,gC hf fr,bs,VS hf];exact Ds λ_=>rfl
theorem vY(hf:Aq t)(fr:Hq r)(h:AF):HP t r h=Y (RL t r h):=by
 unfold HP RL;rw[gX hf fr,bs,VZ hf];exact Ds λ_=>rfl
theorem qz(hf:Aq t)(fr:Hq r)(j:De r.d5<=40)(e:RL t r h=0)(m:AP):IL t r h m=Y (EW t r h m):=by
 have:=Yi hf fr j h m;unfold Fc at this;rw[j9 hf fr,bs,ac b?]at this;cases k:IL t r h m with
 |none=>rw[k]at this;cases this
 |some x=>rw[k]at this;exact this
noncomputable def Ff(t:AC)(r:eg)(h:AF):List AP×Int:=
 if RL t r h≠0 then([],RL t r h)else if(Li t r.fu h r.ij).2≠0 then([],(Li t r.fu h r.ij).2)else
 ((Li t r.fu h r.ij).1.filter λm=>decide ((EW t r h m).2=0),0)
theorem xw(hf:Aq t)(fr:Hq r)(e:De r.d5<=40)(h:AF):FH t r h=Y (Ff t r h):=by
 unfold FH Ff;rw[j9 hf fr,bs];refine Ds λj=>?_;rw[rG hf,bs];refine Ds λo=>?_;rw[ay (p:=λm=>decide ((EW t r h m).2=0)) VH,bs]
 grind [AD,bs,qz,EW,AA,Li,AV,AY]
theorem yP(hf:Aq t)(fr:Hq r)(e:De r.d5<=40)(h:AF):Ec t r h=Y (Ff t r h):=by
 unfold Ec Ff;rw[vY hf fr,bs];refine Ds λj=>?_;rw[rR hf,bs];refine Ds λo=>?_;rw[ay (p:=λm=>decide ((EW t r h m).2=0)) VH,bs]
 grind [AD,bs,gc,EW,AA,Li,AV,AY]
theorem uU:(Ff t r h).1.length<=5000:=by grind[Ff,Nat.le_trans,w?,VH]
variable{m:AP}
theorem xH(e:m∈(Ff t r h).1):(EW t r h m).2=0:=by
 unfold Ff at e
 grind
end Go.Sf.Sc
namespace Go.Sf
variable{σ ρ:Type}
theorem WV{f g:Int->σ->Option (B5 σ ρ)}:∀(n:Nat)(i:Int)(s:σ),(∀j s,i<=j->j<i+n->f j s=g j s)->tn f n i s=tn g n i s
 |0,_,_,_=>rfl|n+1,i,s,h=>by
  rw [Ek,Ek,h i s U U];cases g i s with
  |none=>rfl|some c=>
   cases c with
   |next s'=>exact WV n (i+1) s' λj t e o=>h j t U U|brk _=>rfl|ret _=>rfl
variable{a b:Int}
theorem lf{f g:Int->σ->Option (B5 σ ρ)}{s:σ}(h:∀j s,a<=j->j<b->f j s=g j s):gt f a b s=gt g a b s:=WV _ _ _ λj t e o=>h j t e U
end Go.Sf
namespace Go.Sf.Sc
open Go Go.Sf
instance:Inhabited C0:=⟨⟨0,default⟩⟩
noncomputable def cx(t:AC)(rules:List eg)(h:AF):Option (List C0×Int):=
 ei (gt (ρ:=(List C0×Int)) (λ(i0:Int)(s0:List C0)=>
 (idx rules i0).bind λx20=>
 if (!decide ((Ff t x20 h).2=0))=X then
 Y (.ret ([],(Ff t x20 h).2))
 else
 (ls (λ(i2:Int)(s2:List C0)=>
 (idx (Ff t x20 h).1 i2).bind λx36=>
 (Am s2 [C0.mk i0 x36]).bind λx43=>
 Y x43) 0 ((Ff t x20 h).1.length:Int) s0).bind λs2=>
 Y (.next s2)) 0 (rules.length:Int) []) (λs0=>
 Y (s0,0)) (λv0=>Y v0)
variable{t:AC}
theorem ya(hf:Aq t){rules:List eg}(hr:Ej rules)(h:AF):Ij t rules h=cx t rules h:=by
 unfold Ij cx;congr 1;refine lf λj s e o=>?_;have:=hr.each _ (AI e o)
 grind [AD,bs,yP]
variable{i:Int}
theorem p9{L:List AP}{s:List C0}(y:s.length+L.length<=100000):ls (λ(i2:Int)(s2:List C0)=>
 (idx L i2).bind λe=>
 (Am s2 [C0.mk i e]).bind λo=>
 Y o) 0 (L.length:Int) s=Y (s++L.map (C0.mk i)):=by
 rw [Bo (λj=>s++(L.take j.toNat).map (C0.mk i)) U V,E',x?];intro j u w;rw[AD u w,bs,AV b_,bs,BJ u w,z_,<-ci];rfl
end Go.Sf.Sc
namespace Go.Sf.Sc
open Go Go.Sf
variable{α:Type}
theorem Xc{e:α->TV}:∀{l:List α},TV.p0 (l.map e)->∀x∈l,(e x).WF
 |y::l,h,x,j=>by
  rcases v!.1 j with rfl|j
  .exact h.1
  .exact Xc h.2 x j
structure WL(h:AF)(p:BC):Prop where
 t1:p.dl.length<=1000
 wl:p.d3.length<=1000
 node:∀x∈p.dl,0<=x/\x<h.dr.dl.length
 edge:∀x∈p.d3,0<=x/\x<h.dr.d3.length
end Go.Sf.Sc
