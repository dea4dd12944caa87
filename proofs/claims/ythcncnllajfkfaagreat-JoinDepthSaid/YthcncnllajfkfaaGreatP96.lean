/- Plain lemmas: what the functions of the program and of the reference compute. -/
import Derived.Test.YthcncnllajfkfaaGreatP46
set_option linter.all false
set_option maxRecDepth 100000
open Option renaming some->Y,none->W
open Bool renaming true->X,false->T
open List renaming mem_filter->w_,mem_map->w!,mem_cons_of_mem->w?,foldl_append->x_,mem_append_left->x!,map_map->x?,length_filter_le->y_,map_id->y!,ext_getElem->y?,take_length->z_,getElem_map->z!,getElem_replicate->z?,map_append->A_,map_congr_left->A',map_singleton->A!,append_nil->A?,mem_cons_self->B_,getElem?_eq_some_iff->B',map->B!,length->B?,mem_append->C_,getElem_mem->C'
open Bool renaming true_and->C!,or_eq_false_iff->C?,eq_iff_iff->D_,or_eq_true->D',false_and->D!,eq_false_iff->D?
open Classical renaming not_not->E_,propDecidable->E'
open Int renaming toNat_natCast->E!,add_zero->E?,add_assoc->F_,le_refl->F!,ofNat_le->F?,mul_le_mul->G_
namespace Go.Sf.Sc
open Go Go.Sf
def UT(p g:d5)(m:d6):d5:=⟨m.d3.map (AA g.d3),p.d4⟩
variable{l:Fp}
theorem Rw{n x:Int}:x∈BP l n↔(0<=x/\x<n)/\x∉l:=by
 unfold BP;rw[w_];constructor
 .grind[Int.natCast_nonneg,B6]
 .rintro⟨⟨e,j⟩,o⟩;refine⟨w!.2 ⟨x.toNat,List.mem_range.2 U,Int.toNat_of_nonneg e⟩,?_⟩
  grind [hasB,B6]
theorem O2(l:Fp)(n:Int):(BP l n).Pairwise (·<·):=by grind[BP,List.pairwise_lt_range.imp]
def FN(f0 fl:Fp):Fp:=(BP fl f0.length).map (AA f0)
theorem Vd{f0 fl:Fp}{x:Int}:x∈FN f0 fl↔∃i:Int,(0<=i/\i<f0.length)/\i∉fl/\AA f0 i=x:=by grind[FN,Rw]
def Aay(f0 fl:Fp):Bool:=l3 (λa=>l3 (λb=>decide (AA f0 a=AA f0 b)&&(!hasB fl a||!hasB fl b)) (a+1) f0.length) 0 f0.length
variable{a b:Int}
theorem kv{f0 fl:Fp}(h:Aay f0 fl=T)(a0:0<=a)(a1:a<f0.length)(w:0<=b)(u:b<f0.length)(ha:a∈fl)(e:AA f0 a=AA f0 b):b∈fl:=by
 unfold Aay at h;rw[By]at h;by_cases o:a=b
 .exact o▸ha
 by_cases y:a<b
 .have j:=h a a0 a1;rw[By]at j;have s:=j b U u;rw[decide_eq_true e,C!,C?]at s
  grind [B6]
 .have j:=h b w u;rw[By]at j;have s:=j a U a1;rw[decide_eq_true e.symm,C!,C?]at s
  grind [B6]
variable{i:Int}
theorem Ve{f0 fl:Fp}(h:Aay f0 fl=T)(e:0<=i)(i1:i<f0.length)(j:i∈fl):AA f0 i∉FN f0 fl:=by grind[Vd,kv]
def PJ(g:d5)(fl:BR)(m:d6)(i:Int):Bool:=
 !hasB m.d4 i&&(hasB (FN m.d3 fl.d3) (AA g.d4 i).ke||hasB (FN m.d3 fl.d3) (AA g.d4 i).To)
def OX(g:d5)(fl:BR)(m:d6):BR:=⟨BP (FN m.d3 fl.d3) g.d3.length,BP (FN m.d4 fl.d4) g.d4.length⟩
def PH(l g:d5)(fl:BR)(m:d6):BR×Int:=
 if Il l g m≠0 then(⟨[],[]⟩,Il l g m)else if ES l fl≠0 then(⟨[],[]⟩,ES l fl)else
 if (Aay m.d3 fl.d3||Aay m.d4 fl.d4)=X then(⟨[],[]⟩,15)else
 if l3 (PJ g fl m) 0 g.d4.length=X then(⟨[],[]⟩,14)else(OX g fl m,0)
structure dF(l g:d5)(fl:BR)(m:d6):Prop where
 mor:T6 l g m
 part:Q2 l fl
 ec:Aay m.d3 fl.d3=T
 eh:Aay m.d4 fl.d4=T
 free:∀i:Int,0<=i->i<g.d4.length->PJ g fl m i=T
variable{g:d5}
theorem fU{p:BR}(h:ES g p=0):CE g=0/\OS g p=0:=by grind[ES]
theorem ZL{l g:d5}{fl:BR}{m:d6}(h:(PH l g fl m).2=0):dF l g fl m/\PH l g fl m=(OX g fl m,0):=by
 unfold PH at h|-;split at h
 .grind
 rename_i j;rw[ae j];split at h
 .grind
 rename_i o;rw[ae o];split at h
 .grind
 rename_i e;rw[ae e];split at h
 .grind
 rename_i s;rw[ae s];simp[not_or]at e;exact⟨⟨WS (E_.1 j),Vs (fU (E_.1 o)).2,e.1,e.2,By.1 (by simpa using s)⟩,rfl⟩
theorem od{l g:d5}{fl:BR}{m:d6}(h:dF l g fl m):OS g (OX g fl m)=0:=by
 have y:=h.mor;have G:=y.gb;have H:∀x∈(OX g fl m).d3,0<=x/\x<g.d3.length:=λx s=>Fr s;have I:∀x∈(OX g fl m).d4,0<=x/\x<g.d4.length:=λx s=>Fr s;have o:∀{l:Fp}{n:Int},(∀x∈l,0<=x/\x<n)->l.Pairwise (·<·)->P9 l n=0:=by
  grind [P9,BH,AF,IK]
 unfold OS;rw[o H (O2 _ _),o I (O2 _ _)];simp;rw[BH.2 λi F i1=>?_]
 .rfl
 have s:=AF F i1;generalize AA (OX g fl m).d4 i=x at s;have j:(0<=x/\x<g.d4.length)/\x∉FN m.d4 fl.d4:=Rw.1 s;have hf:=G.fit _ (AF j.1.1 j.1.2);have z:(AA g.d4 x).ke∉FN m.d3 fl.d3/\(AA g.d4 x).To∉FN m.d3 fl.d3:=by
  by_cases hi:x∈m.d4
  .obtain⟨k,D,E,e⟩:=BT hi;have u:k∈fl.d4:=by
    by_cases u:k∈fl.d4
    .exact u
    .exact absurd (Vd.2 ⟨k,⟨D,E⟩,u,e⟩) j.2
   have ends:=h.part.ends k u;have he:=y.edge k D E;rw[e]at he;have hr:=h.part.ec.1;have J:=hr _ ends.1;have K:=hr _ ends.2;have N:=y.Aal;rw[<-he.2.2.1,<-he.2.2.2];exact⟨Ve h.ec J.1 U ends.1,Ve h.ec K.1 U ends.2⟩
  .have hd:=h.free x j.1.1 j.1.2;unfold PJ at hd;rw[show hasB m.d4 x=T from by cases hb:hasB m.d4 x with|false=>rfl|true=>exact absurd (B6.1 hb) hi,Bool.not_false,C!,C?]at hd;exact⟨λw=>by rw[B6.2 w]at hd;exact absurd hd.1 a!,λw=>by rw[B6.2 w]at hd;exact absurd hd.2 a!⟩
 grind [hasB,OX,AA,B6,Rw]
def Ix(n:Nat)(l:Fp):Fp:=(A0 n).map (DY l)
variable{v:Int}
theorem ZU(h:v∉l):DY l v=-1:=by grind[DY,BH,AF]
theorem R4(l:Fp)(v:Int):-1<=DY l v/\DY l v<l.length:=by
 by_cases h:v∈l
 .have:=Hd h;omega
 .rw[ZU h];omega
theorem PP:0<=DY l v↔v∈l:=by grind[ZU,Hd]
theorem Kw(n:Nat)(l:Fp):(Ix n l).length=n:=by unfold Ix;rw[c9,A5]
variable{n:Nat}
theorem Uu(e:0<=i)(j:i<n):AA (Ix n l) i=DY l i:=JI _ e j
theorem eQ(h:l.Nodup)(e:0<=i)(i1:i<l.length):DY l (AA l i)=i:=by
 have j:=Hd (AF e i1)
 grind [DY,AA,IK]
def SK(fl into at_:Fp)(n i:Int):Int:=if hasB into i=X then AA at_ (AA fl (DY into i))else n+(BP into i).length
def VO(count:Nat)(fl into at_:Fp)(n:Int):Fp:=(A0 count).map (SK fl into at_ n)
theorem ZK(count:Nat)(fl into at_:Fp)(n:Int):(VO count fl into at_ n).length=count:=by unfold VO;rw[c9,A5]
variable{count:Nat}
theorem mg{fl into at_:Fp}{n i:Int}(e:0<=i)(j:i<count):AA (VO count fl into at_ n) i=SK fl into at_ n i:=JI _ e j
theorem L7(h:0<=i):((BP l i).length:Int)<=i:=by grind[TF]
end Go.Sf.Sc
namespace Go.Sf.Sc
open Go Go.Sf
variable{α:Type}
theorem gN{P:List α->Prop}(e:P [])(j:∀l a,P l->P (l++[a]))(l:List α):P l:=by
 have:∀l:List α,P l.reverse:=by
  intro l
  induction l with
  |nil=>exact e|cons a l o=>rw[List.reverse_cons];exact j _ _ o
 rw [<-List.reverse_reverse l];exact this _
def RR(L:Bk):Bk:=L.foldl (λm p=>m.set p.1 p.2) []
theorem eo(L:Bk)(p:(Int×Int)×Int):RR (L++[p])=(RR L).set p.1 p.2:=by
 unfold RR
 grind
def T4(L:Bk):Prop:=∀p∈L,∀q∈L,p.1=q.1->p.2=q.2
variable{k:Int×Int}{v:Int}
theorem Vf:∀{m:Bk},m.look k=Y v->(k,v)∈m
 |[],h=>d_
 |p::r,h=>by
  unfold Bk.look at h;split at h
  .grind
  .exact w? _ (Vf h)
theorem ak:∀{m:Bk},m.look k=W->∀p∈m,p.1≠k
 |[],_,p,j=>by cases j
 |q::r,h,p,j=>by
  unfold Bk.look at h;split at h
  .cases h
  .rename_i e;rcases List.mem_cons.1 j with rfl|j
   .exact e
   .exact ak h p j
theorem jm:∀{m:Bk},m.look k=W->m.set k v=m++[(k,v)]
 |[],_=>rfl|p::r,h=>by
  unfold Bk.look at h;unfold Bk.set;split at h
  .cases h
  next e=>rw[ae e,jm h];rfl
theorem gK:∀{m:Bk},m.look k=Y v->m.set k v=m
 |[],h=>d_
 |p::r,h=>by
  unfold Bk.look at h;unfold Bk.set;split at h
  .grind
  next e=>rw[ae e,gK h]
theorem kY(κ:List Fp)(p:(Int×Int)×Int):Cd (Cd κ p) p=Cd κ p:=by
 unfold Cd;split
 .apply List.ext_getElem?
  grind [Option.map_eq_map,Option.map_map,List.set_set]
 .rfl
theorem qF{m:Bk}(hd:m.Dis){p:(Int×Int)×Int}(e:p∈m)(κ:List Fp):Cd (m.foldl Cd κ) p=m.foldl Cd κ:=by
 have j:m.Perm (m.erase p++[p]):=(List.perm_cons_erase e).trans (List.perm_append_singleton p (m.erase p)).symm;rw[<-YG hd j κ,x_];exact kY _ _
theorem T4.sub{L M:Bk}(h:T4 L)(e:∀p∈M,p∈L):T4 M:=λp j q o=>h p (e p j) q (e q o)
theorem jJ(L:Bk):T4 L->(RR L).Dis/\(∀p,p∈RR L↔p∈L)/\∀κ,(RR L).foldl Cd κ=L.foldl Cd κ:=by
 refine gN (P:=λL=>T4 L->(RR L).Dis/\(∀p,p∈RR L↔p∈L)/\∀κ,(RR L).foldl Cd κ=L.foldl Cd κ) (λ_=>⟨List.Pairwise.nil,λp=>Iff.rfl,λκ=>rfl⟩) (λL p j e=>?_) L;obtain⟨y,w,z⟩:=j (e.sub λq o=>x! _ o);rw[eo];cases s:(RR L).look p.1 with
 |none=>
  grind [jm,Bk.set_dis]
 |some v=>
  have u:=Vf s;have hv:v=p.2:=e (p.1,v) (x! _ ((w _).1 u)) p V rfl
  grind [gK,List.mem_singleton,qF]
def Rg(L:Bk):Bool:=l3 (λi=>l3 (λk=>decide ((AA L k).1=(AA L i).1)&&!decide ((AA L k).2=(AA L i).2)) 0 i) 0 L.length
variable{L:Bk}
theorem Z5(h:Rg L=T):T4 L:=by
 intro p s q u e;obtain⟨a,a0,a1,rfl⟩:=BT s;obtain⟨b,w,y,rfl⟩:=BT u;unfold Rg at h;rw[By]at h;by_cases j:a=b
 .rw[j]
 by_cases z:a<b
 .have o:=h b w y;rw[By]at o
  grind
 .have o:=h a a0 a1;rw[By]at o
  grind
theorem eE(L:Bk)(κ:List Fp):NB (L.foldl Cd κ) κ:=by
 induction L generalizing κ with
 |nil=>rfl|cons p r e=>exact(e (Cd κ p)).trans (aD κ p)
end Go.Sf.Sc
namespace Go.Sf.Sc
open Go Go.Sf
variable{t:AC}{p g:d5}
theorem VL{m:d6}{inj:Bool}(h:Ga t p g m inj=0):Ep t p g=0/\OZ t p g m=0/\Zv t p g m:=by grind[df,Ga]
theorem mf{m:d6}{inj:Bool}(h:Ga t p g m inj=0):Ga t p g m T=0:=by grind[VL,Ga]
variable{α:Type}
theorem TJ[Inhabited α](l:List α):(A0 l.length).map (AA l)=l:=by grind[dX,c9,A5,JI]
variable{β:Type}
theorem ef[Inhabited α](l:List α)(f:α->β):l.map f=(A0 l.length).map λj=>f (AA l j):=by
 rw [show(λj=>f (AA l j))=f∘AA l from rfl,<-x?,TJ]
theorem xc(hf:A3 t){m:d6}{inj:Bool}(h:Ga t p g m inj=0):GK t p g m=Y (UT p g m,0):=by
 obtain ⟨e,u,j⟩:=VL h;obtain⟨_,o,y,_⟩:=Oi e;unfold GK;rw[Wc hf,bs,ae c_,av hf e,bs,ae p_];unfold Dd;have:=o.ec;have:=o.eh;have:=j.Aal;rw[Be b_,bs];rw[UN U (λx s=>?_) p.d4]
 .rfl
 .obtain⟨i,w,i1,rfl⟩:=BT s;exact(j.node i w i1).1
theorem yD(hf:A3 t){m:d6}{inj:Bool}(h:Ga t p g m inj=0):Gy t p g m=Y (UT p g m,0):=by
 obtain ⟨y,D,u⟩:=VL h;obtain⟨_,w,E,_⟩:=Oi y;have:=w.ec;have:=w.eh;have z:=u.Aal;unfold Gy Di;rw[Zm hf,bs,ae (by simp[mf h]),Be b_,bs,Be b_,bs,bs];rw[Pz (λi=>d5.mk ((A0 p.d3.length).map λj=>if j<i then AA g.d3 (AA m.d3 j)else AA p.d3 j) p.d4) (a:=0) (b:=p.d3.length) U]
 .have e:((A0 p.d3.length).map λj=>if j<(p.d3.length:Int)then AA g.d3 (AA m.d3 j)else AA p.d3 j)=m.d3.map (AA g.d3):=by
   grind [ef,DL]
  rw [e];rfl
 .congr 1;rw[<-TJ p.d3,c9,A5]
  grind [DL,TJ]
 .intro i o i1;have s:=u.node i o U;simp[A5];rw[ac k?,AD o U,bs,AD s.1.1 s.1.2,bs,AD o u',bs,Kv _ o,AT U U]
  grind
 grind [c9,A5]
variable{n:Nat}{f:Int->List α->Option (List α)}
theorem Oq(q:Int->Bool)(F:Int->α)(h:∀i s,0<=i->i<(n:Int)->s.length<=i.toNat->f i s=Y (if q i=X then s++[F i]else s)):n8 f 0 n []=Y (((A0 n).filter q).map F):=by
 have e:∀k:Nat,(((A0 k).filter q).map F).length<=k:=λk=>by
  rw [c9];exact Nat.le_trans (y_ _ _) (by rw[A5];exact az _)
 have:=CC (f:=f) (s:=[]) (λi=>((A0 i.toNat).filter q).map F) (a:=0) (b:=n) U rfl (λi j i1=>by
  grind [Em])
 grind
theorem dy{q:Int->Bool}{F:Int->α}:decide (0<((((A0 n).filter q).map F).length:Int))=l3 q 0 n:=by
 rw [D_,tn,Cu,c9];constructor
 .intro h;have j:(A0 n).filter q≠[]:=λe=>by rw[e]at h;simp at h
  obtain ⟨x,u⟩:=List.exists_mem_of_ne_nil _ j
  grind [C6]
 .rintro⟨i,o,i1,s⟩;have:i∈(A0 n).filter q:=w_.2 ⟨C6.2 ⟨o,i1⟩,s⟩
  grind
theorem nq{x:C9}(e:x.m.d3.length<=1000):Du x=Y (FN x.m.d3 x.fl.d3):=by
 unfold Du;rw[Oq (λi=>!hasB x.fl.d3 i) (AA x.m.d3)]
 .rfl
 grind [AD,Mb,hasB,AS,AX]
theorem Xh{f0 fl:Fp}(e:f0.length<=1000):LN f0 fl=Y (FN f0 fl):=by
 unfold LN;rw[Oq (λi=>!hasB fl i) (AA f0)]
 .rfl
 grind [Ea,hasB,QI,AD,AS,AX]
theorem lP{x:C9}(e:x.m.d3.length<=1000)(he:x.g.d4.length<=1000):Dg x=Y ((A0 x.g.d4.length).filter (PJ x.g x.fl x.m)):=by
 unfold Dg;rw[nq e,bs,Oq (PJ x.g x.fl x.m) id]
 .rw[bs,y!]
 .intro i s j i1 o;rw[AD j i1,bs,Mb,bs,Mb,bs,Mb,bs];unfold PJ;change (if(!hasB x.m.d4 i)=X then(if hasB (FN x.m.d3 x.fl.d3) (AA x.g.d4 i).ke=X then Y X else Y (hasB (FN x.m.d3 x.fl.d3) (AA x.g.d4 i).To)).bind _ else Y T).bind _=_;cases hasB x.m.d4 i<;>cases hasB (FN x.m.d3 x.fl.d3) (AA x.g.d4 i).ke<;>cases hasB (FN x.m.d3 x.fl.d3) (AA x.g.d4 i).To<;>simp[AS (show s.length+[i].length<=AX by simp;unfold AX;omega)]
theorem lW{l g:d5}{fl:BR}{m:d6}(e:m.d3.length<=1000)(he:g.d4.length<=1000):Kd l g fl m=Y ((A0 g.d4.length).filter (PJ g fl m)):=by
 unfold Kd;rw[Xh e,bs,Oq (PJ g fl m) id]
 .rw[bs,y!]
 .intro i s j i1 o;have hh:∀(l:Fp)(v:Int),Ea l v=Y (hasB l v):=QI;simp[AD j i1,hh];unfold PJ;cases hasB m.d4 i<;>cases hasB (FN m.d3 fl.d3) (AA g.d4 i).ke<;>cases hasB (FN m.d3 fl.d3) (AA g.d4 i).To<;>simp[AS (show s.length+[i].length<=AX by simp;unfold AX;omega)]
variable{a i:Int}
theorem Sp{p:Int->Bool}(h:a<=i):l3 p a (i+1)=(l3 p a i||p i):=by
 rw [D_,D',Cu,Cu]
 grind
theorem Yq{f0 fl:Fp}(H:f0.length<=100){f:Int->Int->List Jw->Option (List Jw)}(hf:∀(i j:Int)s,0<=i->i<f0.length->i<j->j<f0.length->s.length<=20000->f i j s=Y (if(decide (AA f0 i=AA f0 j)&&(!hasB fl i||!hasB fl j))=X then s++[Jw.mk i j]else s)):
  ∃l,n8 (λ(e:Int)(o:List Jw)=>(n8 (λ(i2:Int)(s2:List Jw)=>f e i2 s2) (AJ (e+1)) (f0.length:Int) o).bind λs2=>Y s2) 0 (f0.length:Int) []=Y l/\l.length<=10000/\decide (0<l.length)=Aay f0 fl:=by
 have key:=QG (f:=λ(e:Int)(o:List Jw)=>(n8 (λ(i2:Int)(s2:List Jw)=>f e i2 s2) (AJ (e+1)) (f0.length:Int) o).bind λs2=>Y s2) (s:=[])
  (λi s=>(s.length:Int)<=100*i/\decide (0<s.length)=l3 (λa=>l3 (λb=>decide (AA f0 a=AA f0 b)&&(!hasB fl a||!hasB fl b)) (a+1) f0.length) 0 i) (a:=0) (b:=f0.length) U
  (by refine⟨V,?_⟩;rw[By.2 (λi y z=>U)];rfl) (λi s e i1 D=>by
   have u:=QG (f:=λ(i2:Int)(s2:List Jw)=>f i i2 s2) (s:=s)
    (λj s'=>(s'.length:Int)<=100*i+(j-(i+1))/\decide (0<s'.length)=(decide (0<s.length)||l3 (λb=>decide (AA f0 i=AA f0 b)&&(!hasB fl i||!hasB fl b)) (i+1) j)) (a:=i+1) (b:=f0.length) U
    (by refine⟨by have:=D.1;omega,?_⟩;rw[By.2 (λi y z=>U),Bool.or_false]) (λj s' I E w=>by
     refine ⟨_,hf i j s' e i1 U E (by have:=w.1;omega),?_,?_⟩
     .grind
     .rw[Sp U,<-Bool.or_assoc,<-w.2]
      grind)
   grind [AT,Sp])
 obtain ⟨l,F,J,G⟩:=key;exact⟨l,F,U,G⟩
theorem jS{f0 fl:Fp}(F:f0.length<=100):∃l,Gp f0 fl=Y l/\l.length<=10000/\decide (0<l.length)=Aay f0 fl:=by
 unfold Gp;obtain⟨l,J,K⟩:=Yq (fl:=fl) F (f:=λe i2 s2=>
  (idx f0 e).bind λo=>
  (idx f0 i2).bind λu=>
  (if(decide (o=u))=X then((slices_Contains_int fl e).bind λw=>
  (if(!w)=X then Y X else((slices_Contains_int fl i2).bind λy=>
  Y (!y))).bind λz=>
  Y (z))else Y T).bind λD=>
  if D=X then
  (AY s2 [Jw.mk e i2]).bind λE=>
  Y E
  else
  Y s2) (λi j s e i1 H G I=>by
   have hh:∀(l:Fp)(v:Int),slices_Contains_int l v=Y (hasB l v):=Mb;simp[AD e i1,AD (show 0<=j by omega) G,hh]
   grind [AA,hasB,AS,AX])
 grind
theorem jf{f0 fl:Fp}(F:f0.length<=100):∃l,Gx f0 fl=Y l/\l.length<=10000/\decide (0<l.length)=Aay f0 fl:=by
 unfold Gx;obtain⟨l,J,K⟩:=Yq (fl:=fl) F (f:=λe i2 s2=>
  (idx f0 e).bind λo=>
  (idx f0 i2).bind λu=>
  (if(decide (o=u))=X then((Ea fl e).bind λw=>
  (if(!w)=X then Y X else((Ea fl i2).bind λy=>
  Y (!y))).bind λz=>
  Y (z))else Y T).bind λD=>
  if D=X then
  (AY s2 [Jw.mk e i2]).bind λE=>
  Y E
  else
  Y s2) (λi j s e i1 H G I=>by
   have hh:∀(l:Fp)(v:Int),Ea l v=Y (hasB l v):=QI;simp[AD e i1,AD (show 0<=j by omega) G,hh]
   grind [AA,hasB,AS,AX])
 grind
variable{l:Fp}
theorem fk(h:n<=1000):NX n l=Y (BP l n):=by
 unfold NX;rw[V0 (f:=Ea l) U U (λi=>QI l i)];rfl
theorem fR{f0 fl:Fp}(z:n<=1000)(hi:∀x∈f0,0<=x/\x<n):Ha n f0 fl=Y (BP (FN f0 fl) n):=by
 unfold Ha He;rw[ac U,bs];rw[CC (λi=>(A0 n).map λk=>l3 (λj=>!hasB fl j&&decide (AA f0 j=k)) 0 i) U]
 .rw[bs,c9,A5,Oq (λi=>!hasB (FN f0 fl) i) id]
  .rw[bs,y!];rfl
  .intro i s o i1 F;rw[AD o u',bs,JI _ o i1];have e:l3 (λj=>!hasB fl j&&decide (AA f0 j=i)) 0 f0.length=hasB (FN f0 fl) i:=by
    rw [D_,Cu,B6,Vd];constructor
    .rintro⟨j,w,y,h⟩;rw[pq,tn]at h
     grind [B6]
    .rintro⟨j,⟨w,y⟩,G,h⟩;refine⟨j,w,y,?_⟩;rw[pq,tn]
     grind [hasB,B6]
   grind [hasB,FN,AS,AX]
 .refine y? (by simp[A5]) (λk D E=>?_)
  grind [E!,By]
 .intro i o i1;have u:=hi _ (AF o i1);have hh:∀(l:Fp)(v:Int),slices_Contains_int l v=Y (hasB l v):=Mb;rw[AD o i1,bs,hh,bs];cases hb:hasB fl i
  .rw[ac a!,AD u.1 (by rw[c9,A5];exact u.2),bs,Kv _ u.1]
   grind [DL,Sp,AA]
  grind [DL,Sp]
theorem jw{a b:Nat}(ha:a<=10000)(hb:b<=10000):decide (0<AJ ((a:Int)+(b:Int)))=(decide (0<a)||decide (0<b)):=by
 rw [AT U U,D_,D']
 grind
theorem xX{l g:d5}{fl:BR}{m:d6}(y:TL fl):Hk l g fl m=Y (PH l g fl m):=by
 unfold Hk DQ PH;simp only[];rw[cl,bs,jT y,bs];by_cases o:¬Il l g m=0
 .grind
 have o:=E_.1 o;rw[ae q?,bs,ae (show¬Il l g m≠0 by simp[o])];refine Dy λJ=>?_;have j:=WS o;have a1:=j.ga.ec;have a2:=j.ga.eh;have a3:=j.Aal;have O:=j.Aap;have P:=j.gb.ec;have Q:=j.gb.eh;unfold EE;obtain⟨u,z,D,E⟩:=jS (fl:=fl.d3) (f0:=m.d3) U;obtain⟨v,G,H,I⟩:=jS (fl:=fl.d4) (f0:=m.d4) U;simp only[];rw[z,bs,G,bs,bs];simp only[];rw[jw D H,E,I];refine de λK=>?_;rw[lP (by show m.d3.length<=1000;omega) (by show g.d4.length<=1000;omega),bs];have e:=dy (n:=g.d4.length) (q:=PJ g fl m) (F:=id);rw[y!]at e;rw[e];refine de λN=>?_;rw[fR U (λx s=>?_),bs,fR U (λx s=>?_),bs]
 .rfl
 .obtain⟨i,w,i1,rfl⟩:=BT s;exact(j.edge i w i1).1
 .obtain⟨i,w,i1,rfl⟩:=BT s;exact(j.node i w i1).1
theorem xw{l g:d5}{fl:BR}{m:d6}(s:TL fl):Sa l g fl m=Y (PH l g fl m):=by
 unfold Sa Qq PH;rw[cx,bs,Zn s,bs];by_cases o:¬Il l g m=0
 .grind
 have o:=E_.1 o;rw[ae q?,bs,ae (show¬Il l g m≠0 by simp[o])];refine Dy λH=>?_;have j:=WS o;have a1:=j.ga.ec;have a2:=j.ga.eh;have a3:=j.Aal;have K:=j.Aap;have N:=j.gb.ec;have O:=j.gb.eh;obtain⟨u,w,y,z⟩:=jf (fl:=fl.d3) (f0:=m.d3) U;obtain⟨v,D,E,G⟩:=jf (fl:=fl.d4) (f0:=m.d4) U;rw[w,bs,D,bs,jw y E,z,G];refine de λI=>?_;rw[lW U U,bs];have e:=dy (n:=g.d4.length) (q:=PJ g fl m) (F:=id);rw[y!]at e;rw[e];refine de λJ=>?_;rw[Xh U,bs,fk U,bs,Xh U,bs,fk U,bs];rfl
end Go.Sf.Sc
namespace Go.Sf.Sc
open Go Go.Sf
variable{α β:Type}
theorem UW[Inhabited α]{l:List α}{F:α->β}{f:Int->List β->Option (List β)}(h:∀(i:Int)s,0<=i->i<l.length->s.length<=i.toNat->f i s=Y (s++[F (AA l i)])):n8 f 0 l.length []=Y (l.map F):=by
 have:=CC (f:=f) (s:=[]) (λi=>(l.take i.toNat).map F) (a:=0) (b:=l.length) U V (λi e i1=>by
  grind [c9,bk,CH])
 rwa [E!,z_]at this
variable{n:Nat}{l:Fp}
theorem jW(F:n<=1000)(y:l.length<=1000)(o:l.Pairwise (·<·)):Ni n l=Y (Ix n l):=by
 unfold Ni He;rw[ac U,bs,E!,List.length_replicate,CC (λi=>(A0 n).map λj=>if j<i then DY l j else 0) U]
 .rw[bs];congr 1;exact DL λj z s=>ac s
 .refine y? (by simp[A5]) (λk D G=>?_);have e:(A0 n)[k]'(by simpa[A5]using D)=(k:Int):=by simp[A0]
  simp only[z!,z?,e];rw[ae U]
 .intro i u i1;rw[Ug y o,bs,AD u u',bs];have e:∀v:Int,v=DY l i->Y (BE ((A0 n).map λj=>if j<i then DY l j else 0) i v)=Y ((A0 n).map λj=>if j<i+1 then DY l j else 0):=by
   rintro v rfl;rw[Kv _ u];congr 1;refine DL λj z s=>?_;by_cases e:j=i
   .rw[ac e,ac U,e]
   .rw[ae e];by_cases w:j<i
    .rw[ac w,ac U]
    .rw[ae w,ae U]
  cases hb:hasB l i with
  |false=>
   rw [ac t?];exact e _ (ZU λE=>by rw[B6.2 E]at hb;cases hb).symm
  |true=>
   rw [ae V];exact e _ (XJ o (B6.1 hb))
theorem fZ(J:n<=1000)(K:l.length<=1000)(E:l.Nodup):NW l n=Y (Ix n l):=by
 unfold NW;rw[CC (λk=>(A0 k.toNat).map (DY l)) U t?]
 .rfl
 .intro k u N;have s:((A0 k.toNat).map (DY l)).length=k.toNat:=by rw[c9,A5]
  have I:(A0 k.toNat).map (DY l)++[-1]=(A0 (k+1).toNat).map λj=>if j<k then DY l j else if DY l k<0 then DY l k else -1:=by
   rw [Em u,A_];congr 1
   .grind[A',C6]
   .rw[A!,ae U];have:=R4 l k
    grind
  rw [AS (by rw[s];simp;unfold AX;omega),bs,I,CC (λi=>(A0 (k+1).toNat).map λj=>if j<k then DY l j else if DY l k<i then DY l k else -1) U rfl]
  .rw[bs];congr 1;refine A' λj F=>?_;have:=C6.1 F;split
   .rfl
   .have e:j=k:=U
    rw [ac (R4 l k).2,e]
  .intro i w i1;rw[AD w i1,bs];by_cases e:AA l i=k
   .have y:DY l k=i:=by rw[<-e];exact eQ E w i1
    rw [ac c_,AD u (by rw[c9,A5];omega),bs,Kv _ u];congr 1;refine DL λj G H=>?_;by_cases z:j=k
    .rw[ac z,ae U,ac U,y]
    .rw[ae z];by_cases o:j<k
     .rw[ac o,ac o]
     .omega
   .have y:DY l k≠i:=λh=>by
     have:=(Hd (PP.1 (show 0<=DY l k by omega))).2.2.1;rw[h]at this;exact e this
    rw [ae c_];congr 1;refine DL λj G H=>?_;by_cases o:j<k
    .rw[ac o,ac o]
    .rw[ae o,ae o];by_cases D:DY l k<i
     .rw[ac D,ac U]
     .rw[ae D,ae U]
structure WE(count:Nat)(fl into at_:Fp):Prop where
 few:count<=1000
 nodup:into.Nodup
 len:into.length=fl.length
 inn:∀x∈into,0<=x/\x<count
 kin:∀x∈fl,0<=x/\x<at_.length
 pos:∀x∈fl,0<=AA at_ x
theorem XY(e:l.Nodup)(h:∀x∈l,0<=x/\x<n):l.length<=n:=by
 have:=List.Nodup.length_le_of_subset (l₁:=l) (l₂:=A0 n) e (λx j=>C6.2 (h x j))
 rwa [A5]at this
variable{i:Int}
theorem Rx(h:0<=i):((BP l (i+1)).length:Int)=(BP l i).length+if i∈l then 0 else 1:=by grind[Pp,b6,hasB,B6]
theorem Tg{fl into at_:Fp}{n i:Int}(h:i∈into):SK fl into at_ n i=AA at_ (AA fl (DY into i)):=by grind[SK,B6]
theorem UD{fl into at_:Fp}{n i:Int}(h:i∉into):SK fl into at_ n i=n+(BP into i).length:=by grind[SK,B6]
variable{count:Nat}
theorem bB{fl into at_:Fp}{n:Int}(h:WE count fl into at_)(z:0<=n)(D:n<=1000):GW fl into count at_ n=Y (VO count fl into at_ n):=by
 have E:=h.few;have u:=XY h.nodup h.inn;have w:=h.len;unfold GW;rw[fZ h.few U h.nodup,bs,CC (λi=>(n+((BP into i).length:Int),(A0 i.toNat).map (SK fl into at_ n))) U (by simp[BP,A0])]
 .rfl
 .intro i j i1;have hr:=L7 (l:=into) j;have e:((A0 i.toNat).map (SK fl into at_ n)).length=i.toNat:=by rw[c9,A5]
  rw [AD j (by rw[Kw];exact i1),bs,Uu j i1];by_cases hi:i∈into
  .have s:=Hd hi;have y:=AF (l:=fl) s.1 U;have o:=h.kin _ y;rw[ac (by simpa using s.1),bs,AD s.1 U,bs,AD o.1 o.2,bs,AS (by rw[e];simp;unfold AX;omega),bs,Em j,A_,Rx j,ac hi,E?,A!,Tg hi]
  .rw[ae (by rw[tn,PP];exact hi),AS (by rw[e];simp;unfold AX;omega),bs,Em j,A_,Rx j,ae hi,A!,UD hi,AT U U,F_]
theorem aq{fl into o s:Fp}{n:Int}(h:WE count fl into (o.map (AA s)))(J:∀x∈o,0<=x/\x<s.length)(S:0<=n)(ε:n<=1000):HT count fl into o s n=Y (VO count fl into (o.map (AA s)) n):=by
 have δ:=h.few;have K:=XY h.nodup h.inn;have N:=h.len;unfold HT De;rw[ac (by refine⟨rfl,U,U⟩),bs,E!];rw[CC (λi=>(A0 count).map λk=>if 0<=DY into k/\DY into k<i then SK fl into (o.map (AA s)) n k else -1) U]
 .rw[bs,c9,A5,CC (λi=>(n+((BP into i).length:Int),(A0 count).map λk=>if k<i\/k∈into then SK fl into (o.map (AA s)) n k else -1)) U]
  .rw[bs];congr 1;exact DL λj G E=>ac (.inl E)
  .show _=(n,_);congr 1
   .simp[BP]
   .refine DL λj G E=>?_;have I:=PP (l:=into) (v:=j);have O:=R4 into j;by_cases e:j∈into
    .rw[ac (.inr e),ac ⟨I.2 e,O.2⟩]
    .rw[ae (by rintro(u|u);omega;exact e u),ae λu=>e (I.1 u.1)]
  .intro i y i1;have hr:=L7 (l:=into) y;rw[AD y u',bs,JI _ y i1];by_cases hi:i∈into
   .have P:=Hd hi;have H:=AF (l:=fl) P.1 n!;have Z:=h.pos _ H;rw[ac (show i<i\/i∈into from .inr hi),Tg hi,ae (by rw[tn];omega),Rx y,ac hi,E?];congr 2;refine DL λj G E=>?_;by_cases e:j<i\/j∈into
    .rw[ac e,ac (e.imp (λh=>U) id)]
    .rw[ae e,ae];rintro(u|u)
     .have:j=i:=by
       have:=λhh=>e (.inl hh);omega
      exact e (.inr (this▸hi))
     .exact e (.inr u)
   .rw[ae (show¬(i<i\/i∈into)by rintro(u|u);omega;exact hi u),ac a!,bs,Rx y,ae hi,AT an an,Kv _ y,F_];congr 2;refine DL λj G E=>?_;by_cases z:j=i
    .rw[ac z,ac (.inl U),z,UD hi]
    .rw[ae z];by_cases e:j<i\/j∈into
     .rw[ac e,ac (e.imp (λh=>U) id)]
     .rw[ae e,ae];rintro(u|u)
      .exact e (.inl U)
      .exact e (.inr u)
 .refine y? (by simp[A5]) (λk η ζ=>?_);simp only[z!,z?];rw[ae U];rfl
 .intro i y i1;have D:=h.inn _ (AF y i1);have H:=AF (l:=fl) y n!;have w:=h.kin _ H;rw[c9]at w;have F:=J _ (AF w.1 w.2);rw[AD y i1,bs,AD y n!,bs,AD w.1 w.2,bs,AD F.1 F.2,bs,AD D.1 (by rw[c9,A5];exact D.2),bs,Kv _ D.1];congr 1;refine DL λj G E=>?_;by_cases z:j=AA into i
  .have e:=eQ h.nodup y i1;rw[ac z,z,e,ac ⟨y,U⟩,Tg (AF y i1),e,Gg w.1 w.2]
  .rw[ae z];by_cases e:0<=DY into j/\DY into j<i
   .rw[ac e,ac ⟨e.1,U⟩]
   .rw[ae e,ae];rintro⟨u,h2⟩;have Q:DY into j=i:=by
     have:=λhh=>e ⟨u,hh⟩;omega
    have:=(Hd (PP.1 u)).2.2.1;rw[Q]at this;exact z this.symm
theorem Yv{f0 e:Fp}(j:f0.length<=1000)(o:∀x∈f0,0<=x/\x<e.length):IZ f0 e=Y (f0.map (AA e)):=by
 unfold IZ
 grind [UW,AA,AF,AD,AS,AX]
end Go.Sf.Sc
namespace Go.Sf.Sc
open Go Go.Sf
def Gb(h:AG)(d:BR):d6:=⟨Ix h.d5.d3.length d.d3,Ix h.d5.d4.length d.d4⟩
def cmS(r:ff)(h:AG)(m:d6)(d:BR):d6:=
 ⟨VO r.ei.d5.d3.length r.pr.d3 r.pf.d3 (m.d3.map (AA (Gb h d).d3)) d.d3.length,
 VO r.ei.d5.d4.length r.pr.d4 r.pf.d4 (m.d4.map (AA (Gb h d).d4)) d.d4.length⟩
def Vg(t:AC)(k:Int):Fp:=(A4 t k).map λx=>x.Low
def XX(tr:Fp)(e:Bx):Bx:=⟨e.kg,AA tr e.ke,AA tr e.To⟩
def PW(r:ff)(x:AG)(i:Int):Fp:=x.d5.d3++(BP r.pf.d3 i).map (AA r.ei.d5.d3)
def Ok(t:AC)(r:ff)(x:AG)(i:Int):List Fp:=x.ej++(BP r.pf.d3 i).map λk=>Vg t (AA r.ei.d5.d3 k)
def RK(r:ff)(c:d6)(x:AG)(i:Int):List Bx:=x.d5.d4++(BP r.pf.d4 i).map λk=>XX c.d3 (AA r.ei.d5.d4 k)
def Cw(t:AC)(r:ff)(x:AG)(c:d6):AG:=⟨⟨PW r x r.ei.d5.d3.length,RK r c x r.ei.d5.d4.length⟩,Ok t r x r.ei.d5.d3.length⟩
def CO(h:AG)(d:BR):AG:=⟨⟨d.d3.map (AA h.d5.d3),d.d4.map λx=>XX (Gb h d).d3 (AA h.d5.d4 x)⟩,d.d3.map (AA h.ej)⟩
structure ET(x:AG):Prop where
 ec:x.d5.d3.length<=1000
 eh:x.d5.d4.length<=1000
 vals:x.ej.length<=1000
 rows:∀v∈x.ej,v.length<=1000
structure Xz(t:AC)(r:ff)(c:d6):Prop where
 hf:A3 t
 hv:(BC t).2=0
 g:Cp r.ei.d5
 kind:∀n∈r.ei.d5.d3,0<=n/\n<t.d3.length
 cn:c.d3.length=r.ei.d5.d3.length
variable{t:AC}{r:ff}{c:d6}
theorem uX(h:Xz t r c){n:Int}(e:n∈r.ei.d5.d3):(A4 t n).length<=600:=by
 have:=h.kind n e;exact H7 h.hf (F! _) (Cq h.hv).par this.2
variable{x:AG}
theorem oL(h:ET x):Mr x=Y x:=by
 have:=h.ec;have:=h.eh;have:=h.vals;unfold Mr Di;rw[Be b_,bs,Be b_,bs,bs];rw[CC (λi=>AG.mk x.d5 (x.ej.take i.toNat)) U t?]
 .rw[E!,z_];rfl
 .intro i e i1;have:=h.rows _ (AF e i1)
  grind [AD,Be,AX,AS,CH]
theorem lO(h:ET x):Lt x=Y x:=by
 have:=h.ec;have:=h.eh;have:=h.vals;unfold Lt slices_Clone_int Dd;rw[Be b_,bs,Be b_,bs];rw[CC (λi=>AG.mk x.d5 (x.ej.take i.toNat)) U t?]
 .rw[E!,z_];rfl
 .intro i e i1;have:=h.rows _ (AF e i1)
  grind [AD,Be,AX,AS,CH]
variable{α:Type}{i:Int}
theorem D3(l:Fp)(F:Int->α)(h:0<=i):(BP l (i+1)).map F=(BP l i).map F++if i∈l then[]else[F i]:=by grind[Pp,hasB,B6]
theorem W4(l:Fp)(i:Int):JC l i=Y (!hasB l i):=by
 unfold JC hasB;rw[Bf (λj=>decide (i=AA l j)) T,JO]
 .cases l3 (λj=>decide (i=AA l j)) 0 l.length<;>rfl
 grind [AD,AA]
theorem yB(h:Xz t r c)(o:ET x):Jj t r x c=Y (Cw t r x c):=by
 have G:=h.g.ec;have H:=h.g.eh;have x1:=o.ec;have I:=o.eh;have J:=o.vals;unfold Jj;rw[Pz (λi=>AG.mk (d5.mk (PW r x i) x.d5.d4) (Ok t r x i)) (a:=0) (b:=r.ei.d5.d3.length) U]
 .rw[B2,Pz (λi=>AG.mk (d5.mk (PW r x r.ei.d5.d3.length) (RK r c x i)) (Ok t r x r.ei.d5.d3.length)) (a:=0) (b:=r.ei.d5.d4.length) U]
  .rfl
  .grind[RK,BP]
  .intro i e i1;have hr:=L7 (l:=r.pf.d4) e;have he:=h.g.fit _ (AF e i1);have y:=h.cn;rw[ac k?,W4,bs];by_cases hi:i∈r.pf.d4
   .grind[B6,RK,D3,AT]
   .have hb:hasB r.pf.d4 i=T:=by cases hb:hasB r.pf.d4 i with|false=>rfl|true=>exact absurd (B6.1 hb) hi
    rw [hb,ac a!,AD e i1,bs,AD he.2.1.1 U,bs,AD he.2.2.1 U,bs,AS (by unfold RK;simp;unfold AX;omega),bs];unfold RK;rw[D3 _ _ e,ae hi,AT an an,ci];rfl
  .rw[ae V]
 .unfold PW Ok;simp[BP]
 .intro i e i1;have hr:=L7 (l:=r.pf.d3) e;have u:=AF e i1;have w:=h.kind _ u;have K:=uX h u;rw[ac k?,W4,bs];by_cases hi:i∈r.pf.d3
  .grind[B6,PW,Ok,D3,AT]
  .have hb:hasB r.pf.d3 i=T:=by cases hb:hasB r.pf.d3 i with|false=>rfl|true=>exact absurd (B6.1 hb) hi
   rw [hb,ae a!,AD e i1,bs,AS (by unfold PW;simp;unfold AX;omega),bs,bs,O1 h.hf,JP h.hv w.1 w.2,bs];simp;rw[UW (F:=λa=>a.Low) λj s z D E=>?_]
   .rw[bs,AS (by unfold Ok;simp;unfold AX;omega),bs];unfold PW Ok;rw[D3 _ _ e,ae hi,D3 _ _ e,ae hi,AT U U,ci,ci];rfl
   grind [AD,AS,AX]
 .rw[ae V]
theorem uj(hf:A3 t)(hv:(BC t).2=0){k:Int}(o:0<=k)(e:k<t.d3.length):LZ t k=Y (Vg t k):=by
 have:=H7 hf (F! _) (Cq hv).par e;unfold LZ;rw[Ts hf,JP hv o e,bs];simp;rw[UW (F:=λa=>a.Low) λj s u w y=>?_]
 .rfl
 grind [AD,AS,AX]
structure cd(h:AG)(d:BR):Prop where
 sm:ET h
 len:h.ej.length=h.d5.d3.length
 ec:(∀x∈d.d3,0<=x/\x<h.d5.d3.length)/\d.d3.length<=1000
 eh:(∀x∈d.d4,0<=x/\x<h.d5.d4.length)/\d.d4.length<=1000
 ends:∀e∈h.d5.d4,(0≤e.ke/\e.ke<h.d5.d3.length)/\0≤e.To/\e.To<h.d5.d3.length
variable{h:AG}
theorem bK{d:BR}(hd:cd h d):ET (CO h d):=by
 have j:=hd.ec.2;have o:=hd.eh.2;refine⟨by unfold CO;simp;omega,by unfold CO;simp;omega,by unfold CO;simp;omega,λv hv=>?_⟩;obtain⟨x,e,rfl⟩:=w!.1 hv;have:=hd.ec.1 x e;exact hd.sm.rows _ (AF this.1 (by rw[hd.len];exact this.2))
variable{R:ff}{M:AP}{C:d6}
theorem uf{d:BR}(s:Xz t R C)(hd:cd h d)(G:C.d4.length=R.ei.d5.d4.length)
  (y:∀i:Int,0<=i->i<R.ei.d5.d3.length->(AA C.d3 i=d.d3.length+(BP R.pf.d3 i).length↔i∉R.pf.d3))
  (z:∀i:Int,0<=i->i<R.ei.d5.d4.length->(AA C.d4 i=d.d4.length+(BP R.pf.d4 i).length↔i∉R.pf.d4)):
  Jr t (AU.mk R M h (AG.mk (d5.mk [] []) []) (Gb h d) C) d=Y (AU.mk R M h (Cw t R (CO h d) C) (Gb h d) C):=by
 have H:=hd.ec.2;have I:=hd.eh.2;have J:=s.g.ec;have K:=s.g.eh;have E:=s.cn;unfold Jr;simp only[];rw[CC (λi=>AU.mk R M h (AG.mk (d5.mk ((d.d3.take i.toNat).map (AA h.d5.d3)) []) ((d.d3.take i.toNat).map (AA h.ej))) (Gb h d) C) U V]
 rotate_left
 .intro i j i1;have o:=hd.ec.1 _ (AF j i1);have u:=hd.len;have hr:=hd.sm.rows _ (AF o.1 U);rw[AD j i1,bs,AD o.1 o.2,bs,AS a_,bs,AD o.1 U,bs,Be b_,bs,AS a_,bs,JA j i1,JA j i1]
 rw [bs,E!,z_];rw[CC (λi=>AU.mk R M h (AG.mk (d5.mk (d.d3.map (AA h.d5.d3)) ((d.d4.take i.toNat).map λx=>XX (Gb h d).d3 (AA h.d5.d4 x))) (d.d3.map (AA h.ej))) (Gb h d) C) U V]
 rotate_left
 .intro i j i1;have o:=hd.eh.1 _ (AF j i1);have he:=hd.ends _ (AF o.1 o.2);have u:(Gb h d).d3.length=h.d5.d3.length:=Kw _ _;simp only[];rw[AD j i1,bs,AD o.1 o.2,bs,AD he.1.1 U,bs,AD he.2.1 U,bs,AS a_,bs,JA j i1];rfl
 rw [bs,E!,z_];rw[CC (λi=>AU.mk R M h (AG.mk (d5.mk (PW R (CO h d) i) (CO h d).d5.d4) (Ok t R (CO h d) i)) (Gb h d) C) U (by unfold PW Ok;simp[BP,CO])]
 rotate_left
 .intro i j i1;have hr:=L7 (l:=R.pf.d3) j;have F:=AF j i1;have D:=s.kind _ F;have u:(PW R (CO h d) i).length=d.d3.length+(BP R.pf.d3 i).length:=by unfold PW CO;simp
  have w:(Ok t R (CO h d) i).length=d.d3.length+(BP R.pf.d3 i).length:=by unfold Ok CO;simp
  simp only[u];rw[AD j i1,bs,AD j U,bs];by_cases hi:i∈R.pf.d3
  .rw[ae (by rw[tn];push_cast;exact λe=>(y i j i1).1 e hi)];unfold PW Ok;rw[D3 _ _ j,ac hi,A?,D3 _ _ j,ac hi,A?]
  .rw[ac (by rw[tn];push_cast;exact(y i j i1).2 hi),AS (by rw[u];simp;unfold AX;omega),bs,uj s.hf s.hv D.1 D.2,bs,AS (by rw[w];simp;unfold AX;omega),bs];unfold PW Ok;rw[D3 _ _ j,ae hi,D3 _ _ j,ae hi,ci,ci]
 rw [bs];rw[CC (λi=>AU.mk R M h (AG.mk (d5.mk (PW R (CO h d) R.ei.d5.d3.length) (RK R C (CO h d) i)) (Ok t R (CO h d) R.ei.d5.d3.length)) (Gb h d) C) U (by unfold RK;simp[BP,CO])]
 rotate_left
 .intro i j i1;have hr:=L7 (l:=R.pf.d4) j;have he:=s.g.fit _ (AF j i1);have u:(RK R C (CO h d) i).length=d.d4.length+(BP R.pf.d4 i).length:=by unfold RK CO;simp
  simp only[u];rw[AD j i1,bs,AD j U,bs];by_cases hi:i∈R.pf.d4
  .rw[ae (by rw[tn];push_cast;exact λe=>(z i j i1).1 e hi)];unfold RK;rw[D3 _ _ j,ac hi,A?]
  .rw[ac (by rw[tn];push_cast;exact(z i j i1).2 hi),AD he.2.1.1 U,bs,AD he.2.2.1 U,bs,AS (by rw[u];simp;unfold AX;omega),bs];unfold RK;rw[D3 _ _ j,ae hi,ci];rfl
 rw [bs];rfl
theorem iG(hf:A3 t){d:BR}(hh:(Dq t h).2=0)(s:ES h.d5 d=0)(hd:cd h d):Hn t h d=Y (CO h d,0):=by
 have u:=hd.ec.2;unfold Hn;rw[Vx hf,bs,ae (by simp[hh]),Vw ⟨hd.ec.2,hd.eh.2⟩,ae (by simp[s]),bs,ae V];have e:DC h.d5 d=(CO h d).d5:=by
  unfold DC CO;congr 1;refine A' λx j=>?_;have j:=hd.eh.1 x j;have he:=hd.ends _ (AF j.1 j.2)
  grind [XX,Gb,Uu]
 simp;rw[Pz (λi=>AG.mk (DC h.d5 d) ((d.d3.take i.toNat).map (AA h.ej))) (a:=0) (b:=d.d3.length) U V]
 .rw[E!,z_,B2,e];rfl
 .intro i o i1;have j:=hd.ec.1 _ (AF o i1);have w:=hd.len;have hr:=hd.sm.rows _ (AF j.1 U);rw[ac k?,AD o i1,bs,AD j.1 U,bs,Be b_,bs,AS a_,bs,JA o i1,AT an an]
 .rw[ae V]
end Go.Sf.Sc
namespace Go.Sf.Sc
open Go Go.Sf
def Rz(c:d6)(vars:Fp)(s:CA):(Int×Int)×Int:=((AA c.d3 s.po,s.kp),DU s.gt vars)
def CP(r:ff)(c:d6)(vars:Fp):Bk:=r.ei.ek.map (Rz c vars)
def Nr(t:AC)(x:AG)(p:(Int×Int)×Int):Bool:=
 decide (p.2<(AA (A4 t (AA x.d5.d3 p.1.1)) p.1.2).Low)||decide ((AA (A4 t (AA x.d5.d3 p.1.1)) p.1.2).Aaf<p.2)
structure WH(t:AC)(r:ff)(c:d6)(vars:Fp)(x:AG):Prop where
 hf:A3 t
 hv:(BC t).2=0
 few:r.ei.ek.length<=1000
 fewv:vars.length<=1000
 slot:∀s∈r.ei.ek,(0<=s.po/\s.po<c.d3.length)/\(-1<=s.gt.Var/\s.gt.Var<vars.length)/\
  (0<=AA c.d3 s.po/\AA c.d3 s.po<x.d5.d3.length)/\(0<=s.kp/\s.kp<(A4 t (AA x.d5.d3 (AA c.d3 s.po))).length)
 kind:∀n∈x.d5.d3,0<=n/\n<t.d3.length
 Ab0:x.ej.length=x.d5.d3.length
 rows:∀i:Int,0<=i->i<x.d5.d3.length->(AA x.ej i).length=(A4 t (AA x.d5.d3 i)).length
variable{L:Bk}{i:Int}
theorem kP(e:0<=i)(i1:i<=L.length)(h:∀j,0<=j->j<i->l3 (λk=>decide ((AA L k).1=(AA L j).1)&&!decide ((AA L k).2=(AA L j).2)) 0 j=T):T4 (L.take i.toNat):=by grind[Z5,Rg,By,bk,T7,x8]
def XL(L:Bk)(i:Int):Bool:=l3 (λk=>decide ((AA L k).1=(AA L i).1)&&!decide ((AA L k).2=(AA L i).2)) 0 i
theorem pz(I:0<=i)(i1:i<L.length)(y:T4 (L.take i.toNat)):
  (((RR (L.take i.toNat)).look (AA L i).1).isSome&&(!decide (((RR (L.take i.toNat)).look (AA L i).1).getD 0=(AA L i).2)))=XL L i:=by
 obtain ⟨J,D,K⟩:=jJ _ y;unfold XL;cases z:(RR (L.take i.toNat)).look (AA L i).1 with
 |none=>
  rw [Option.isSome_none,D!];refine Eq.symm (By.2 λk u w=>?_);have s:AA L k∈L.take i.toNat:=by
   rw [<-x8 (n:=i.toNat) U]
   grind [AF,bk]
  rw [decide_eq_false (ak z _ ((D _).2 s)),D!]
 |some v=>
  have s:=(D _).1 (Vf z);rw[Option.isSome_some,C!,Option.getD_some];have o:∀k,0<=k->k<i->(AA L k).1=(AA L i).1->(AA L k).2=v:=λk u w e=>by
   have F:AA L k∈L.take i.toNat:=by
    rw [<-x8 (n:=i.toNat) U]
    grind [AF,bk]
   exact y _ F _ s e
  obtain ⟨k,u,w,E⟩:=BT s;rw[bk]at w;rw[x8 U]at E;rw[D_,Cu];constructor
  .intro h;refine⟨k,u,U,?_⟩;rw[E,decide_eq_true rfl,C!];exact h
  .rintro⟨j,G,H,h⟩;rw[pq,tn]at h;rw[<-o j G H h.1];exact h.2
theorem QT(r:ff)(c:d6)(vars:Fp)(e:0<=i)(i1:i<r.ei.ek.length):AA (CP r c vars) i=Rz c vars (AA r.ei.ek i):=Gg e i1
theorem LY(r:ff)(c:d6)(vars:Fp):(CP r c vars).length=r.ei.ek.length:=c9 ..
variable{ρ:Type}
theorem dh(L:Bk)(v:ρ):fst (λi=>if XL L i=X then Y v else W) 0 L.length=if Rg L=X then Y v else W:=Ou
variable{t:AC}{R:ff}{M:AP}{B A:AG}{θ C:d6}
theorem lM(h:WH t R C M.fd A):JG (AU.mk R M B A θ C)=Y (if Rg (CP R C M.fd)=X then([],11)else(RR (CP R C M.fd),0)):=by
 unfold JG;simp only[];rw[Gt (a:=0) (s:=([]:Bk)) (λi=>RR ((CP R C M.fd).take i.toNat)) (λi=>if XL (CP R C M.fd) i=X then Y ([],11)else W) U rfl]
 .have:=dh (CP R C M.fd) (([],11):Bk×Int);rw[LY]at this;rw[this];by_cases e:Rg (CP R C M.fd)=X
  .rw[ac e,ac e];rfl
  .rw[ae e,ae e,<-LY R C M.fd,E!,z_];rfl
 .intro i o i1 hb;have u:=h.slot _ (AF o i1);have D:T4 ((CP R C M.fd).take i.toNat):=kP o (by rw[LY];omega) λj y z=>by
   have:=hb j y z;split at this
   .cases this
   next e=>exact D?.2 e
  have w:=pz (L:=CP R C M.fd) o (by rw[LY];exact i1) D;rw[AD o i1,bs,fF u.2.1.1 u.2.1.2 h.fewv,bs,ae V,AD u.1.1 u.1.2,bs];rw[QT R C M.fd o i1]at w;simp[Rz]at w;simp only[];by_cases e:XL (CP R C M.fd) i=X
  .refine(ac (w.trans e)).trans ?_;rw[ac e];rfl
  .refine(ae (λh=>e (w.symm.trans h))).trans ?_;rw[ae e,CH o (by rw[LY];exact i1),eo,QT R C M.fd o i1];rfl
variable{α:Type}
theorem jL{f:α->K1}{g:α->Bool}:∀{l:List α},(∀p∈l,f p=Y (g p))->AaH f l=Y (l.all g)
 |[],_=>rfl|p::r,h=>by
  unfold AaH;rw[h p B_,bs,jL λq e=>h q (w? _ e),bs,List.all_cons]
variable{r:ff}{c:d6}{x:AG}{κ:List Fp}
theorem gF{vars:Fp}(h:WH t r c vars x){s:CA}(w:s∈r.ei.ek)(y:NB κ x.ej):
  idx κ (AA c.d3 s.po)=Y (AA κ (AA c.d3 s.po))/\idx (AA κ (AA c.d3 s.po)) s.kp=Y (AA (AA κ (AA c.d3 s.po)) s.kp):=by
 have j:=h.slot s w;have hv:=h.Ab0;have hr:=h.rows _ j.2.2.1.1 j.2.2.1.2;have z:idx x.ej (AA c.d3 s.po)=Y (AA x.ej (AA c.d3 s.po)):=AD j.2.2.1.1 U;have D:idx (AA x.ej (AA c.d3 s.po)) s.kp=Y (AA (AA x.ej (AA c.d3 s.po)) s.kp):=AD j.2.2.2.1 U;obtain⟨E,x',a,b⟩:=y.idx z D;have o:=Hw a;have u:=Hw b;have F:=(B'.1 o.2.2).1;have e:AA κ (AA c.d3 s.po)=E:=by
  grind [AD,Option.some.inj]
 have G:=(B'.1 u.2.2).1;refine⟨AD o.1 U,?_⟩;rw[e];exact AD u.1 U
theorem qE(h:WH t R C M.fd A){p:(Int×Int)×Int}(u:p∈CP R C M.fd):Qd t (AU.mk R M B A θ C) p=Y (!Nr t A p):=by
 obtain ⟨s,o,rfl⟩:=w!.1 u;have e:=h.slot s o;have j:=h.kind _ (AF e.2.2.1.1 e.2.2.1.2);obtain⟨w,y⟩:=gF h o (κ:=A.ej) rfl;unfold Qd Qc Rz Nr;simp;rw[AD e.2.2.1.1 e.2.2.1.2,bs,Ts h.hf,JP h.hv j.1 j.2,bs];simp;simp[AD e.2.2.2.1 e.2.2.2.2,w,y,WZ]
 grind
def Jz(t:AC)(x:AG)(L:Bk):AG×Int:=
 if Rg L=X then(⟨⟨[],[]⟩,[]⟩,11)else if L.any (Nr t x)=X then(⟨⟨[],[]⟩,[]⟩,6)else(⟨x.d5,L.foldl Cd x.ej⟩,0)
theorem xa(h:WH t R C M.fd A):M5 t (AU.mk R M B A θ C)=Y ((Jz t A (CP R C M.fd)).2,if(Jz t A (CP R C M.fd)).2=0 then AU.mk R M B (Jz t A (CP R C M.fd)).1 θ C else AU.mk R M B A θ C):=by
 unfold M5 Jz;rw[lM h,bs];by_cases e:Rg (CP R C M.fd)=X
 .grind
 .rw[ae e,ae V,ae e];obtain⟨o,s,u⟩:=jJ _ (Z5 (D?.2 e));have ha:AaH (Qd t (AU.mk R M B A θ C)) (RR (CP R C M.fd))=Y (!(CP R C M.fd).any (Nr t A)):=by
   rw [jL (g:=λp=>!Nr t A p) λp j=>qE h ((s p).1 j)]
   grind
  rw [ac (by simpa using(show List.Pairwise (λx y:(Int×Int)×Int=>x.1≠y.1) _ from o)),ha,bs]
  grind [CP,Nr,Pu]
theorem ABP{vars:Fp}(h:WH t r c vars x):Ku t r x c vars=Y (Jz t x (CP r c vars)):=by
 unfold Ku Jz;rw[Gt (a:=0) (s:=AG.mk (d5.mk [] []) []) (λ_=>AG.mk (d5.mk [] []) []) (λi=>if XL (CP r c vars) i=X then Y (AG.mk (d5.mk [] []) [],(11:Int))else W) U rfl]
 .have:=dh (CP r c vars) ((AG.mk (d5.mk [] []) [],(11:Int)));rw[LY]at this;rw[this];by_cases e:Rg (CP r c vars)=X
  .rw[ac e,ac e];rfl
  rw [ae e,ae e];show em (Y (Sum.inl _)) _ _=_;rw[B2,Gt (a:=0) (s:=(x,AG.mk (d5.mk [] []) [])) (λi=>(AG.mk x.d5 (((CP r c vars).take i.toNat).foldl Cd x.ej),AG.mk (d5.mk [] []) [])) (λi=>if Nr t x (AA (CP r c vars) i)=X then Y (AG.mk (d5.mk [] []) [],(6:Int))else W) U rfl]
  .have:=jB (l:=CP r c vars) (q:=Nr t x) (v:=(AG.mk (d5.mk [] []) [],(6:Int)));rw[LY]at this;rw[this];by_cases o:(CP r c vars).any (Nr t x)=X
   .rw[ac o,ac o];rfl
   .rw[ae o,ae o];show Y (AG.mk x.d5 (((CP r c vars).take (r.ei.ek.length:Int).toNat).foldl Cd x.ej),(0:Int))=_
    grind [LY,E!,z_]
  .intro i u i1 _;have D:=AF u i1;have j:=h.slot _ D;have w:=h.kind _ (AF j.2.2.1.1 j.2.2.1.2);obtain⟨F,G⟩:=gF h D (κ:=((CP r c vars).take i.toNat).foldl Cd x.ej) (eE _ _);simp only[AD u i1,bs];rw[QP j.2.1.1 j.2.1.2,bs,AD j.1.1 j.1.2,bs,AD j.2.2.1.1 j.2.2.1.2,bs,O1 h.hf,JP h.hv w.1 w.2,bs];simp only[];rw[AD j.2.2.2.1 j.2.2.2.2,bs,bs,WZ,bs,F,bs,G,bs];rw[QT r c vars u i1,CH u (by rw[LY];exact i1),x_,QT r c vars u i1];show(if(Nr t x (Rz c vars (AA r.ei.ek i)))=X then _ else _)=_;by_cases o:Nr t x (Rz c vars (AA r.ei.ek i))=X
   .rw[ac o,ac o];rfl
   .rw[ae o,ae o];have:=dw (p:=Rz c vars (AA r.ei.ek i)) F G;exact congrArg (λη=>Y (B0.next (σ:=AG×AG) (ρ:=AG×Int) (AG.mk x.d5 η,AG.mk (d5.mk [] []) []))) this
 .intro i u i1 _;have j:=h.slot _ (AF u i1);rw[AD u i1,bs,QP j.2.1.1 j.2.1.2,bs];rw[Gt (a:=0) (s:=AG.mk (d5.mk [] []) []) (λ_=>AG.mk (d5.mk [] []) []) (λk=>if(decide ((AA (CP r c vars) k).1=(AA (CP r c vars) i).1)&&!decide ((AA (CP r c vars) k).2=(AA (CP r c vars) i).2))=X then Y (AG.mk (d5.mk [] []) [],(11:Int))else W) u rfl]
  .rw[Ou];unfold XL;split<;>rfl
  .intro k y I _;have w:=h.slot _ (AF y (show k<r.ei.ek.length by omega));simp[AD u i1,AD y (show k<r.ei.ek.length by omega)];rw[QP w.2.1.1 w.2.1.2,bs,AD w.1.1 w.1.2,bs,AD j.1.1 j.1.2,bs,QT r c vars u i1,QT r c vars y U];simp[Rz];by_cases E:AA c.d3 (AA r.ei.ek k).po=AA c.d3 (AA r.ei.ek i).po<;>by_cases o:(AA r.ei.ek k).kp=(AA r.ei.ek i).kp<;>by_cases z:DU (AA r.ei.ek i).gt vars=DU (AA r.ei.ek k).gt vars
   all_goals first|(have H:¬DU (AA r.ei.ek k).gt vars=DU (AA r.ei.ek i).gt vars:=λh=>z h.symm;simp[E,o,z,H,bS];done)|(simp[E,o,z,bS];done)
end Go.Sf.Sc
namespace Go.Sf.Sc
open Go Go.Sf
variable{t:AC}{r:ff}
theorem Uq(h:Dc t r=0):FD t r.gp=0/\Jl t r=0/\JS t r.gp r.d7=0:=by grind[Dc]
theorem iK(h:Jl t r=0):r.ei.fd=r.gp.fd/\r.ei.ek.length<=10/\∀i:Int,0<=i->i<r.ei.ek.length->Oa t r.ei i=0:=by
 unfold Jl at h;split at h
 .omega
 split at h
 .cases h
 split at h
 .cases h
 split at h
 .cases h
 rename_i e j o s;exact⟨U,U,Va h⟩
variable{i:Int}
theorem ll{p:ea}(h:Oa t p i=0):(0<=(AA p.ek i).po/\(AA p.ek i).po<p.d5.d3.length)/\
  (0<=(AA p.ek i).kp/\(AA p.ek i).kp<(Ff t (AA p.d5.d3 (AA p.ek i).po)).1.length)/\-1<=(AA p.ek i).gt.Var/\(AA p.ek i).gt.Var<p.fd:=by
 unfold Oa at h;dsimp only at h;split at h
 .cases h
 split at h
 .cases h
 rename_i j e;simp[tn]at e;omega
structure IF(t:AC)(r:ff)(h:AG)(m:AP):Prop where
 hf:A3 t
 fr:Ic r
 re:Dc t r=0
 he:(Dq t h).2=0
 at_:Xv t r.gp h m
 co:dF (UT r.gp.d5 h.d5 m.d6) h.d5 r.pr m.d6
abbrev dS(r:ff)(h:AG)(m:AP):BR:=OX h.d5 r.pr m.d6
abbrev cS(r:ff)(h:AG)(m:AP):d6:=cmS r h m.d6 (dS r h m)
variable{h:AG}{m:AP}
theorem IF.hv(s:IF t r h m):(BC t).2=0:=(jk s.re).1
theorem IF.ro(s:IF t r h m):mO t r:=(jk s.re).2
theorem IF.hh(s:IF t r h m):Ie t h:=(QJ s.hf s.he).2
theorem Rl(hf:A3 t)(hv:(BC t).2=0)(hh:Ie t h):ET h:=by
 have o:=hh.g.ec;have s:=hh.g.eh;have u:=hh.len;refine⟨U,U,U,λv e=>?_⟩;obtain⟨i,j,i1,rfl⟩:=BT e;have w:=hh.row i j U;have y:=H7 hf (F! _) (Cq hv).par (hh.kind i j U).2;omega
theorem IF.rem(s:IF t r h m):cd h (dS r h m):=by
 have hh:=s.hh;have o:=hh.g.ec;have u:=hh.g.eh;have l1:=TF (FN m.d6.d3 r.pr.d3) h.d5.d3.length;have l2:=TF (FN m.d6.d4 r.pr.d4) h.d5.d4.length;exact⟨Rl s.hf s.hv hh,hh.len,⟨λx j=>Fr j,by show(BP _ _).length<=1000;omega⟩,⟨λx j=>Fr j,by show(BP _ _).length<=1000;omega⟩,λe he=>(hh.g.fit e he).2⟩
theorem IF.part(s:IF t r h m):ES h.d5 (dS r h m)=0:=by
 unfold ES;rw[ae (by simp[s.hh.ge])];exact od s.co
variable{count n:Nat}
theorem mh{fl into f0:Fp}{BU:Fp}(few:count<=1000)(nodup:into.Nodup)(len:into.length=fl.length)(inn:∀x∈into,0<=x/\x<count)
  (kin:∀x∈fl,0<=x/\x<f0.length)(o:∀x∈f0,0<=x/\x<n)(hi:Aay f0 fl=T)(s:BU=FN f0 fl):
  WE count fl into (f0.map (AA (Ix n (BP BU n))))/\(∀x∈fl,AA (f0.map (AA (Ix n (BP BU n)))) x<(BP BU n).length)/\
  ∀x∈fl,AA (f0.map (AA (Ix n (BP BU n)))) x=DY (BP BU n) (AA f0 x)/\AA f0 x∈BP BU n:=by
 have e:∀x∈fl,AA (f0.map (AA (Ix n (BP BU n)))) x=DY (BP BU n) (AA f0 x)/\AA f0 x∈BP BU n:=λx j=>by
  grind [AF,Gg,Uu,Rw,Ve]
 refine ⟨⟨few,nodup,len,inn,λx j=>by rw[c9];exact kin x j,λx j=>?_⟩,λx j=>?_,e⟩
 .rw[(e x j).1];exact PP.2 (e x j).2
 .rw[(e x j).1];exact(R4 _ _).2
theorem IF.left(s:IF t r h m):m.d6.d3.length=r.gp.d5.d3.length/\m.d6.d4.length=r.gp.d5.d4.length:=⟨s.at_.m.Aal,s.at_.m.Aap⟩
theorem IF.AbY(s:IF t r h m):WE r.ei.d5.d3.length r.pr.d3 r.pf.d3 (m.d6.d3.map (AA (Gb h (dS r h m)).d3))/\
  (∀x∈r.pr.d3,AA (m.d6.d3.map (AA (Gb h (dS r h m)).d3)) x<(dS r h m).d3.length)/\
  ∀x∈r.pr.d3,AA (m.d6.d3.map (AA (Gb h (dS r h m)).d3)) x=DY (dS r h m).d3 (AA m.d6.d3 x)/\AA m.d6.d3 x∈(dS r h m).d3:=by
 have ro:=s.ro;have o:=ro.right.ec;refine mh U ro.inj.1 ?_ (λx e=>?_) (λx e=>?_) (λx e=>?_) s.co.ec rfl
 .have:=ro.mor.Aal;rw[this];exact c9 ..
 .obtain⟨i,j,i1,rfl⟩:=BT e;exact(ro.mor.node i j i1).1
 .have:=ro.part.ec.1 x e;have:=s.left.1;omega
 .obtain⟨i,j,i1,rfl⟩:=BT e;exact(s.at_.m.node i j i1).1
theorem IF.Ab3(s:IF t r h m):WE r.ei.d5.d4.length r.pr.d4 r.pf.d4 (m.d6.d4.map (AA (Gb h (dS r h m)).d4))/\
  (∀x∈r.pr.d4,AA (m.d6.d4.map (AA (Gb h (dS r h m)).d4)) x<(dS r h m).d4.length)/\
  ∀x∈r.pr.d4,AA (m.d6.d4.map (AA (Gb h (dS r h m)).d4)) x=DY (dS r h m).d4 (AA m.d6.d4 x)/\AA m.d6.d4 x∈(dS r h m).d4:=by
 have ro:=s.ro;have o:=ro.right.eh;refine mh U ro.inj.2 ?_ (λx e=>?_) (λx e=>?_) (λx e=>?_) s.co.eh rfl
 .have:=ro.mor.Aap;rw[this];exact c9 ..
 .obtain⟨i,j,i1,rfl⟩:=BT e;exact(ro.mor.edge i j i1).1
 .have:=ro.part.eh.1 x e;have:=s.left.2;omega
 .obtain⟨i,j,i1,rfl⟩:=BT e;exact s.at_.m.edge i j i1
theorem ig{fl into at_:Fp}(h:WE count fl into at_)(j:∀x∈fl,AA at_ x<n)(o:0<=i)(i1:i<count):AA (VO count fl into at_ n) i=n+(BP into i).length↔i∉into:=by
 rw [mg o i1];constructor
 .intro e hi;rw[Tg hi]at e;have s:=Hd hi;have:=j _ (AF (l:=fl) s.1 n!);omega
 .exact UD
theorem IF.grow(s:IF t r h m):Xz t r (cS r h m):=
 ⟨s.hf,s.hv,s.ro.right,(Hq s.ro.right s.ro.Abi).1,ZK _ _ _ _ _⟩
theorem W7(l:Fp)(j:0<=i):∀(k:Nat),∃s,BP l (i+k)=BP l i++s
 |0=>⟨[],V⟩|k+1=>by
  obtain ⟨s,e⟩:=W7 l j k
  grind [Pp,ci]
variable{l:Fp}
theorem rV{i n:Int}(j:0<=i)(i1:i<n)(h:i∉l):AA (BP l n) (BP l i).length=i/\((BP l i).length:Int)<(BP l n).length:=by
 obtain ⟨s,e⟩:=W7 l (i:=i+1) U (n-(i+1)).toNat
 rw [show i+1+((n-(i+1)).toNat:Int)=n by omega,Pp l j]at e
 grind [hasB,B6,AA]
variable{α:Type}
theorem mW[Inhabited α]{l m:List α}(e:0<=i)(j:i<l.length):AA (l++m) i=AA l i:=by grind[On]
theorem X8[Inhabited α]{l m:List α}:AA (l++m) (l.length+n:Int)=AA m n:=by grind[On,AA,E!]
variable{a:Int}
theorem qN(h:0<=a):G2 t a a=X:=by
 unfold G2;rw[show(a+1).toNat=a.toNat+1 by omega,Kk,ae U];simp
theorem IF.AbM(s:IF t r h m)(u:0<=i)(i1:i<r.ei.d5.d3.length):
  (0<=AA (cS r h m).d3 i/\AA (cS r h m).d3 i<(Cw t r (CO h (dS r h m)) (cS r h m)).d5.d3.length)/\
  AA (Cw t r (CO h (dS r h m)) (cS r h m)).d5.d3 (AA (cS r h m).d3 i)<t.d3.length/\G2 t (AA (Cw t r (CO h (dS r h m)) (cS r h m)).d5.d3 (AA (cS r h m).d3 i)) (AA r.ei.d5.d3 i)=X:=by
 obtain ⟨F,K,N⟩:=s.AbY;have G:AA (cS r h m).d3 i=SK r.pr.d3 r.pf.d3 (m.d6.d3.map (AA (Gb h (dS r h m)).d3)) (dS r h m).d3.length i:=mg u i1;have el:(Cw t r (CO h (dS r h m)) (cS r h m)).d5.d3=(dS r h m).d3.map (AA h.d5.d3)++(E0 r).map (AA r.ei.d5.d3):=rfl;rw[G,el,b6,c9,c9];by_cases hi:i∈r.pf.d3
 .have e:=Hd hi;have O:=F.len;have o:=AF (l:=r.pr.d3) e.1 U;have z:=N _ o;have D:=K _ o;have w:=F.pos _ o;rw[Tg hi];refine⟨⟨w,by push_cast;omega⟩,?_⟩;rw[mW w (by rw[c9];exact D),Gg w D,z.1,(Hd z.2).2.2.1];have hr:=s.ro.part.ec.1 _ o;have H:=s.left.1;have y:=s.at_.m.node _ hr.1 U;have I:=s.hh.kind _ y.1.1 y.1.2;have E:=s.ro.mor.node _ e.1 e.2.1;rw[e.2.2.1]at E;have J:AA (DC r.gp.d5 r.pr).d3 (DY r.pf.d3 i)=AA r.gp.d5.d3 (AA r.pr.d3 (DY r.pf.d3 i)):=Gg e.1 U;rw[E.2,J];exact⟨I.2,y.2⟩
 .have hr:=rV u i1 hi;rw[UD hi];have j:((dS r h m).d3.map (AA h.d5.d3)).length=(dS r h m).d3.length:=c9 ..;refine⟨⟨U,?_⟩,?_⟩
  .have:((E0 r).length:Int)=(BP r.pf.d3 r.ei.d5.d3.length).length:=rfl
   push_cast
   omega
  .rw[<-j,X8,show E0 r=BP r.pf.d3 r.ei.d5.d3.length from rfl,Gg U hr.2];show AA r.ei.d5.d3 (AA (BP r.pf.d3 r.ei.d5.d3.length) (BP r.pf.d3 i).length)<(t.d3.length:Int)/\G2 t (AA r.ei.d5.d3 (AA (BP r.pf.d3 r.ei.d5.d3.length) (BP r.pf.d3 i).length)) _=X;rw[hr.1];have:=(Hq s.ro.right s.ro.Abi).1 _ (AF u i1);exact⟨this.2,qN this.1⟩
theorem IF.rows(s:IF t r h m):(Cw t r (CO h (dS r h m)) (cS r h m)).ej.map (λv=>v.length)=(Cw t r (CO h (dS r h m)) (cS r h m)).d5.d3.map λn=>(A4 t n).length:=by
 show (B! _ (_++_))=B! _ (_++_);rw[A_,A_];congr 1
 .show((dS r h m).d3.map (AA h.ej)).map _=((dS r h m).d3.map (AA h.d5.d3)).map _;rw[x?,x?];refine A' λx e=>?_;have e:=s.rem.ec.1 x e;exact s.hh.row x e.1 e.2
 grind [x?,A',Vg,c9]
theorem IF.put(s:IF t r h m):WH t r (cS r h m) m.fd (Cw t r (CO h (dS r h m)) (cS r h m)):=by
 obtain ⟨O,hr,P⟩:=Uq s.re;obtain⟨hv,Q,z⟩:=iK hr;have J:=s.at_.q.vars;have D:=s.at_.len;have w:=s.rows;have y:(Cw t r (CO h (dS r h m)) (cS r h m)).ej.length=(Cw t r (CO h (dS r h m)) (cS r h m)).d5.d3.length:=by
  grind [B?,c9]
 refine ⟨s.hf,s.hv,U,U,λx e=>?_,λn j=>?_,y,λi o i1=>?_⟩
 .obtain⟨i,o,i1,rfl⟩:=BT e;obtain⟨u,H,S⟩:=ll (z i o i1);have E:=(Hq s.ro.right s.ro.Abi).1 _ (AF u.1 u.2);rw[JP s.hv E.1 E.2]at H;obtain⟨ε,I,F⟩:=s.AbM u.1 u.2;replace F:=aa (Cq s.hv) I F;have G:(cS r h m).d3.length=r.ei.d5.d3.length:=ZK _ _ _ _ _
  grind
 .have j:n∈(dS r h m).d3.map (AA h.d5.d3)++(E0 r).map (AA r.ei.d5.d3):=j;rcases C_.1 j with j|j
  .obtain⟨x,e,rfl⟩:=w!.1 j;have e:=s.rem.ec.1 x e;exact s.hh.kind x e.1 e.2
  .obtain⟨x,e,rfl⟩:=w!.1 j;have e:=Fr e;exact(Hq s.ro.right s.ro.Abi).1 _ (AF e.1 e.2)
 .have K:=Gg (l:=(Cw t r (CO h (dS r h m)) (cS r h m)).ej) (g:=λv=>v.length) o U;have N:=Gg (l:=(Cw t r (CO h (dS r h m)) (cS r h m)).d5.d3) (g:=λn=>(A4 t n).length) o i1
  grind
end Go.Sf.Sc
namespace Go.Sf.Sc
open Go Go.Sf
abbrev zRu:ff:=ff.mk (⟨#[]⟩:ByteArray) (ea.mk (d5.mk [] []) [] 0 []) (ea.mk (d5.mk [] []) [] 0 []) (BR.mk [] []) (d6.mk [] []) T (d7.mk 0 [] (d6.mk [] []) (ea.mk (d5.mk [] []) [] 0 []))
abbrev zG:AU:=AU.mk zRu (AP.mk (d6.mk [] []) []) (AG.mk (d5.mk [] []) []) (AG.mk (d5.mk [] []) []) (d6.mk [] []) (d6.mk [] [])
def cg(t:AC)(r:ff)(h:AG)(m:AP):AU×Int:=
 if (Jz t (Cw t r (CO h (dS r h m)) (cS r h m)) (CP r (cS r h m) m.fd)).2≠0 then(zG,(Jz t (Cw t r (CO h (dS r h m)) (cS r h m)) (CP r (cS r h m) m.fd)).2)else
 if 40<(Jz t (Cw t r (CO h (dS r h m)) (cS r h m)) (CP r (cS r h m) m.fd)).1.d5.d3.length\/80<(Jz t (Cw t r (CO h (dS r h m)) (cS r h m)) (CP r (cS r h m) m.fd)).1.d5.d4.length then(zG,3)else
 (AU.mk r m h (Jz t (Cw t r (CO h (dS r h m)) (cS r h m)) (CP r (cS r h m) m.fd)).1 (Gb h (dS r h m)) (cS r h m),0)
noncomputable def EW(t:AC)(r:ff)(h:AG)(m:AP):AU×Int:=
 if Dc t r≠0 then(zG,Dc t r)else if(Dq t h).2≠0 then(zG,(Dq t h).2)else
 if Ga t r.gp.d5 h.d5 m.d6 r.kh≠0 then(zG,1)else
 if (Gd t r.gp h m.d6).2≠0 then(zG,(Gd t r.gp h m.d6).2)else if¬(Gd t r.gp h m.d6).1=m.fd then(zG,11)else
 if (PH (UT r.gp.d5 h.d5 m.d6) h.d5 r.pr m.d6).2≠0 then(zG,(PH (UT r.gp.d5 h.d5 m.d6) h.d5 r.pr m.d6).2)else
 if (Ol t r.gp r.d7 h m r.kh).2≠0 then(zG,(Ol t r.gp r.d7 h m r.kh).2)else
 if (Ol t r.gp r.d7 h m r.kh).1=T then(zG,16)else cg t r h m
variable{t:AC}{r:ff}{h:AG}{m:AP}
theorem ZJ(e:Dc t r=0)(j:(Dq t h).2=0)(o:Ga t r.gp.d5 h.d5 m.d6 r.kh=0)(s:(Gd t r.gp h m.d6).2=0)(u:(Gd t r.gp h m.d6).1=m.fd):VK t r.gp r.d7 h m r.kh=0:=by
 unfold VK;rw[ae (by simp[(Uq e).2.2]),ae (by simp[j]),ae q?,ae (by simp[s]),ac u]
theorem jE{ζ:Option (AU×Int)}(hX:(Jz t (Cw t r (CO h (dS r h m)) (cS r h m)) (CP r (cS r h m) m.fd)).2=0->ζ=
   if ((decide (40<((Jz t (Cw t r (CO h (dS r h m)) (cS r h m)) (CP r (cS r h m) m.fd)).1.d5.d3.length:Int)))||(decide (80<((Jz t (Cw t r (CO h (dS r h m)) (cS r h m)) (CP r (cS r h m) m.fd)).1.d5.d4.length:Int))))=X then Y (zG,3)else
   Y (AU.mk r m h (Jz t (Cw t r (CO h (dS r h m)) (cS r h m)) (CP r (cS r h m) m.fd)).1 (Gb h (dS r h m)) (cS r h m),0)):
  (if(!decide ((Jz t (Cw t r (CO h (dS r h m)) (cS r h m)) (CP r (cS r h m) m.fd)).2=0))=X then Y (zG,(Jz t (Cw t r (CO h (dS r h m)) (cS r h m)) (CP r (cS r h m) m.fd)).2)else ζ)=Y (cg t r h m):=by
 unfold cg;refine Dy λe=>?_;rw[hX e];refine Q4 an λ_=>rfl
theorem Yo(hf:A3 t)(fr:Ic r)(D:Dv r.d7<=40)(h:AG)(m:AP):FR t r h m=Y (EW t r h m):=by
 unfold FR IE EW;rw[O0 hf,bs];by_cases hv:¬(BC t).2=0
 .grind[Dc,BC]
 have hv:=E_.1 hv;rw[ae l_,fS hf fr,bs,Vq hf,bs];by_cases j:¬Dc t r=0
 .grind
 have j:=E_.1 j;rw[ae (by simp[j]),bs,ae (show¬Dc t r≠0 by simp[j])];refine Dy λE=>?_;rw[Option.bind_fun_some];unfold ID Ki;rw[Zf hf,bs];by_cases o:¬Ga t r.gp.d5 h.d5 m.d6 r.kh=0
 .grind
 have o:=E_.1 o;rw[ae q?,jN hf,bs,ae (show¬Ga t r.gp.d5 h.d5 m.d6 r.kh≠0 by simp[o])];by_cases u:¬(Gd t r.gp h m.d6).2=0
 .grind
 have u:=E_.1 u;rw[ae p_,Pc,bs,ae (show¬(Gd t r.gp h m.d6).2≠0 by simp[u])];by_cases w:¬(Gd t r.gp h m.d6).1=m.fd
 .grind
 have w:=E_.1 w;rw[ae (by simp[w]),bs,ae V,ae (show¬¬(Gd t r.gp h m.d6).1=m.fd by simp[w])];rw[xc hf o,bs,ae V,xX fr.fl,bs];refine Dy λF=>?_;obtain⟨_,_,_,ha⟩:=YD hf D (ZJ j E o u w);obtain⟨co,N⟩:=ZL F;rw[iE hf _ fr.cond D,bs,N];refine Dy λO=>?_;refine YE λP=>?_;have s:IF t r h m:=⟨hf,fr,j,E,ha,co⟩;have hr:=s.rem;have Q:=s.hh.g.ec;have S:=s.hh.g.eh;have l1:=s.left.1;have l2:=s.left.2;have ε:=s.ro.left.ec;have η:=s.ro.left.eh;have H:=ha.len;have I:=ha.q.vars;have z:Kh m=Y m:=by
  unfold Kh slices_Clone_int;rw[Be b_,bs,Be b_,bs,Be b_,bs]
 simp only[];rw[z,bs,lO hr.sm,bs];rw[jW U hr.ec.2 (O2 _ _),bs,jW U hr.eh.2 (O2 _ _),bs];have J:HT r.ei.d5.d3.length r.pr.d3 r.pf.d3 m.d6.d3 (Ix h.d5.d3.length (dS r h m).d3) (OX h.d5 r.pr m.d6).d3.length=Y (cS r h m).d3:=
  aq s.AbY.1 (λx y=>by rw[Kw];obtain⟨i,e,i1,rfl⟩:=BT y;exact(ha.m.node i e i1).1) U (F?.2 hr.ec.2)
 have K:HT r.ei.d5.d4.length r.pr.d4 r.pf.d4 m.d6.d4 (Ix h.d5.d4.length (dS r h m).d4) (OX h.d5 r.pr m.d6).d4.length=Y (cS r h m).d4:=
  aq s.Ab3.1 (λx y=>by rw[Kw];obtain⟨i,e,i1,rfl⟩:=BT y;exact ha.m.edge i e i1) U (F?.2 hr.eh.2)
 rw [J,bs,K,bs];have hb:=uf (M:=m) s.grow hr (ZK _ _ _ _ _) (λi e i1=>ig s.AbY.1 s.AbY.2.1 e i1) (λi e i1=>ig s.Ab3.1 s.Ab3.2.1 e i1);change ((Jr t (AU.mk r m h (AG.mk (d5.mk [] []) []) (Gb h (dS r h m)) (cS r h m)) (dS r h m)).bind _)=_;rw[hb,bs,xa s.put,bs];exact jE λG=>by rw[ac G]
theorem oN(hf:A3 t){p:ea}{c:d7}(e:Dv c<=40){inj:Bool}(j:VK t p c h m inj=0):J7 t c h m inj=Y (Ol t p c h m inj):=by
 obtain ⟨hv,hh,o,ha⟩:=YD hf e j
 grind [J7,Ol,wS,DD,vk,na,rD]
theorem oZ(hf:A3 t)(fr:Ic r)(G:Dv r.d7<=40)(h:AG)(m:AP):IT t r h m=Y (EW t r h m):=by
 unfold IT HH EW;rw[fm hf fr,bs,Vx hf,bs];by_cases e:¬Dc t r=0
 .rw[ac c_,bs,ac c_,ac e]
 have e:=E_.1 e;rw[ae c_,bs,ae (show¬Dc t r≠0 by simp[e])];refine Dy λD=>?_;unfold Ia;rw[Zm hf,bs];by_cases j:¬Ga t r.gp.d5 h.d5 m.d6 r.kh=0
 .rw[ac (by simp[j]),bs,ac V,ac j]
 have j:=E_.1 j;rw[ae (by simp[j]),uz hf,bs,ae (show¬Ga t r.gp.d5 h.d5 m.d6 r.kh≠0 by simp[j])];by_cases o:¬(Gd t r.gp h m.d6).2=0
 .rw[ac q?,bs,ac q?,ac o]
 have o:=E_.1 o;rw[ae q?,Zk,bs,ae (show¬(Gd t r.gp h m.d6).2≠0 by simp[o])];by_cases y:¬(Gd t r.gp h m.d6).1=m.fd
 .rw[ac (by simp[y]),bs,ac V,ac y]
 have y:=E_.1 y;rw[ae (by simp[y]),ae (show¬¬(Gd t r.gp h m.d6).1=m.fd by simp[y])];rw[yD hf j,bs,ae V,xw fr.fl,bs];by_cases u:¬(PH (UT r.gp.d5 h.d5 m.d6) h.d5 r.pr m.d6).2=0
 .rw[ac p_,bs,ac p_,ac u]
 have u:=E_.1 u;rw[ae p_,ae (show¬(PH (UT r.gp.d5 h.d5 m.d6) h.d5 r.pr m.d6).2≠0 by simp[u])];have z:=ZJ e D j o y;obtain⟨_,_,_,ha⟩:=YD hf G z;obtain⟨co,J⟩:=ZL u;rw[oN hf G z,bs,J,I7,bs,bs];by_cases w:¬(Ol t r.gp r.d7 h m r.kh).2=0
 .rw[ae (show¬((decide ((Ol t r.gp r.d7 h m r.kh).2=0)&&!(Ol t r.gp r.d7 h m r.kh).1)=X)by simp[w]),ac (by simp[w]),ac w]
 have w:=E_.1 w;rw[ae (show¬(Ol t r.gp r.d7 h m r.kh).2≠0 by simp[w])];cases N:(Ol t r.gp r.d7 h m r.kh).1 with
 |false=>rw[ac (show(decide ((Ol t r.gp r.d7 h m r.kh).2=0)&&!T)=X by simp[w]),ac V,ac rfl]|true=>
 rw [ae (show¬(decide ((Ol t r.gp r.d7 h m r.kh).2=0)&&!X)=X by simp),ae (by simp[w]),ae V];have s:IF t r h m:=⟨hf,fr,e,D,ha,co⟩;have hr:=s.rem;have O:=s.hh.g.ec;have P:=s.hh.g.eh;have l1:=s.left.1;have l2:=s.left.2;have Q:=s.ro.left.ec;have S:=s.ro.left.eh;unfold JE Mw;simp only[];rw[iG hf D s.part hr,bs,fZ U hr.ec.2 ((O2 _ _).imp λh=>U),bs,bs,fZ U hr.eh.2 ((O2 _ _).imp λh=>U),bs,bs,bs];simp only[];rw[Yv U (λx E=>by rw[Kw];obtain⟨i,F,i1,rfl⟩:=BT E;exact(ha.m.node i F i1).1),bs];rw[Yv U (λx E=>by rw[Kw];obtain⟨i,F,i1,rfl⟩:=BT E;exact ha.m.edge i F i1),bs];have H:GW r.pr.d3 r.pf.d3 r.ei.d5.d3.length (m.d6.d3.map (AA (Ix h.d5.d3.length (dS r h m).d3))) (OX h.d5 r.pr m.d6).d3.length=Y (cS r h m).d3:=
  bB s.AbY.1 U (F?.2 hr.ec.2)
 have I:GW r.pr.d4 r.pf.d4 r.ei.d5.d4.length (m.d6.d4.map (AA (Ix h.d5.d4.length (dS r h m).d4))) (OX h.d5 r.pr m.d6).d4.length=Y (cS r h m).d4:=
  bB s.Ab3.1 U (F?.2 hr.eh.2)
 rw [H,bs,I,bs];rw[oL (bK hr),bs];change ((Jj t r (CO h (dS r h m)) (cS r h m)).bind _)=_;rw[yB s.grow (bK hr),bs];change ((Ku t r (Cw t r (CO h (dS r h m)) (cS r h m)) (cS r h m) m.fd).bind _)=_;rw[ABP s.put,bs];exact jE λK=>rfl
end Go.Sf.Sc
namespace Go.Sf.Sc
open Go Go.Sf
instance:Inhabited ff:=⟨zRu⟩
instance:Inhabited F7:=⟨⟨0,⟨⟨[],[]⟩,[]⟩⟩⟩
instance:Inhabited AU:=⟨zG⟩
structure GZ(rules:List ff):Prop where
 len:rules.length<=12
 each:∀r∈rules,Ic r/\Dv r.d7<=40
noncomputable def GG(t:AC)(rules:List ff)(h:AG)(m:F7):AU×Int:=if m.ff<0\/rules.length<=m.ff then(zG,6)else EW t (AA rules m.ff) h m.og
variable{t:AC}
theorem xf(hf:A3 t){rules:List ff}(hr:GZ rules)(h:AG)(m:F7):FU t rules h m=Y (GG t rules h m):=by
 unfold FU GG;refine Q4 V λe=>?_;have j:=hr.each _ (AF (l:=rules) (i:=m.ff) U U)
 grind [AD,Yo]
noncomputable def Ft(t:AC)(rules:List ff):Int:=
 if (BC t).2≠0 then(BC t).2 else if 10<rules.length then 3 else(fst (λi=>nz (Dc t (AA rules i))) 0 rules.length).getD 0
noncomputable def G4(t:AC)(rules:List ff)(h:AG):Int:=if Ft t rules≠0 then Ft t rules else(Dq t h).2
theorem xQ{e v:Int}(h:nz e=Y v):v≠0:=by grind[nz]
variable{a b v:Int}
theorem uI{c:Int->Int}(h:fst (λi=>nz (c i)) a b=Y v):v≠0:=by grind[Cl,xQ]
theorem oY(hf:A3 t){rules:List ff}(hr:GZ rules):OG t rules=Y (Ft t rules):=by
 unfold OG Ft;rw[R7 hf,bs];refine EO λj=>Q4 i? λo=>?_;rw[Bj (λi=>nz (Dc t (AA rules i))),C8];intro i e i1 _;rw[AD e i1,bs,fm hf (hr.each _ (AF e i1)).1,bs,N2]
theorem rF(hf:A3 t){rules:List ff}(hr:GZ rules)(h:AG):OH t rules h=Y (G4 t rules h):=by
 unfold OH G4;rw[oY hf hr,bs,Vx hf,bs];exact EO λ_=>rfl
theorem qk(hf:A3 t){rules:List ff}(hr:GZ rules)(h:AG):FV t rules h=Y (G4 t rules h):=by
 unfold FV G4 Ft;rw[O0 hf,bs];by_cases j:¬(BC t).2=0
 .grind
 have j:=E_.1 j;rw[ae (by simp[j]),ae (show¬(BC t).2≠0 by simp[j])];by_cases s:10<rules.length
 .grind
 rw [ae an,ae s,Bj (λi=>nz (Dc t (AA rules i))),Da]
 .cases e:fst (λi=>nz (Dc t (AA rules i))) 0 (rules.length:Int)with
  |none=>
   grind [Vq]
  |some v=>
   have:=uI e
   grind
 .intro i o i1 _;rw[AD o i1,bs,fS hf (hr.each _ (AF o i1)).1,bs,N2]
noncomputable def Jp(t:AC)(rules:List ff)(h0:AG)(ms:List F7):List AU×AG:=
 ms.foldl (λs m=>(s.1++[(GG t rules s.2 m).1],(GG t rules s.2 m).1.hV)) ([],h0)
noncomputable def SL(t:AC)(rules:List ff)(h0:AG)(ms:List F7)(i:Int):Int:=(GG t rules (Jp t rules h0 (ms.take i.toNat)).2 (AA ms i)).2
theorem Se(t:AC)(rules:List ff)(e:AG)(j:List F7)(m:F7):Jp t rules e (j++[m])=((Jp t rules e j).1++[(GG t rules (Jp t rules e j).2 m).1],(GG t rules (Jp t rules e j).2 m).1.hV):=by
 unfold Jp
 grind
theorem jp(t:AC)(rules:List ff)(j:AG)(e:List F7):(Jp t rules j e).1.length=e.length:=by
 refine gN (P:=λe=>(Jp t rules j e).1.length=e.length) rfl (λe m o=>?_) e
 grind [Se,b6]
variable{α:Type}{i:Int}
theorem Lz[Inhabited α]{l m:List α}(e:0<=i)(j:i<l.length):AA (l++m) i=AA l i:=by grind[On]
theorem wj[Inhabited α](l:List α)(a:α):AA (l++[a]) l.length=a:=by
 rw [On,ae V,E!,Nat.sub_self];rfl
theorem p8{rules:List ff}{e:AG}{a b:List F7}(j:0<=i)(i1:i<a.length):SL t rules e (a++b) i=SL t rules e a i:=by grind[SL,Lz]
noncomputable def Zq(t:AC)(rules:List ff)(d:CN):List AU×Int×Int:=
 if G4 t rules d.l4≠0 then([],0,G4 t rules d.l4)else if 30<d.mo.length then([],0,3)else
 match fst (λi=>(nz (SL t rules d.l4 d.mo i)).map λe=>([],i,e)) 0 d.mo.length with
 |some r=>r|none=>((Jp t rules d.l4 d.mo).1,(d.mo.length:Int),0)
variable{d:CN}
theorem rU{rules:List ff}(hd:d.mo.length<=1000){f:AG->F7->Option (AU×Int)}(hf:∀h m,f h m=Y (GG t rules h m)):
  em (jj (ρ:=(List AU×Int×Int)) (λ(o:Int)(u:List AU×AG)=>
  (idx d.mo o).bind λw=>
  (f u.2 w).bind λj=>
  if (!decide (j.2=0))=X then
  Y (.ret ([],o,j.2))
  else
  (AY u.1 [j.1]).bind λy=>
  Y (.next (y,j.1.hV))) 0 (d.mo.length:Int) ([],d.l4)) (λu=>
  Y (u.1,(u.1.length:Int),(0:Int))) (λz=>Y z)=Y (match fst (λi=>(nz (SL t rules d.l4 d.mo i)).map λe=>([],i,e)) 0 d.mo.length with
   |some r=>r|none=>((Jp t rules d.l4 d.mo).1,(d.mo.length:Int),0)):=by
 rw [Gt (a:=0) (s:=(([],d.l4):List AU×AG)) (λi=>Jp t rules d.l4 (d.mo.take i.toNat)) (λi=>(nz (SL t rules d.l4 d.mo i)).map λe=>([],i,e)) U rfl]
 .cases fst (λi=>(nz (SL t rules d.l4 d.mo i)).map λe=>(([],i,e):List AU×Int×Int)) 0 (d.mo.length:Int)with
  |some r=>rfl|none=>
   show Y _=Y _;rw[E!,z_,jp]
 .intro i o i1 _;have D:=jp t rules d.l4 (d.mo.take i.toNat);rw[AD o i1,bs,hf,bs];show(if(!decide (SL t rules d.l4 d.mo i=0))=X then _ else _)=_;by_cases e:SL t rules d.l4 d.mo i=0
  .rw[ae c_,AS (by rw[D,bk];simp;unfold AX;omega),bs,CH o i1,Se,IX.2 e];rfl
  .rw[ac c_];unfold nz;rw[ae e];rfl
theorem qp(hf:A3 t){rules:List ff}(hr:GZ rules)(d:CN):EA t rules d=Y (Zq t rules d):=by
 unfold EA Zq;rw[qk hf hr,bs];refine Dy λe=>Q4 i? λj=>?_;exact rU U (xf hf hr)
structure Sl(t:AC)(rules:List ff)(d:CN):Prop where
 given:G4 t rules d.l4=0
 few:d.mo.length<=30
 moves:∀i:Int,0<=i->i<d.mo.length->SL t rules d.l4 d.mo i=0
theorem yO{rules:List ff}(h:Sl t rules d):Zq t rules d=((Jp t rules d.l4 d.mo).1,(d.mo.length:Int),0):=by
 unfold Zq;rw[ae (by simp[h.given]),ae (by have:=h.few;omega),BH.2 λi e i1=>by rw[IX.2 (h.moves i e i1)];rfl]
structure ME(h:AG)(s:AU):Prop where
 Aal:s.p0.d3.length=h.d5.d3.length
 Aap:s.p0.d4.length=h.d5.d4.length
 node:∀x∈s.p0.d3,-1<=x/\x<s.hV.d5.d3.length
 edge:∀x∈s.p0.d4,-1<=x/\x<s.hV.d5.d4.length
 sm:ET s.hV
variable{x:AG}{L:Bk}
theorem fV(h:(Jz t x L).2=0):Jz t x L=(⟨x.d5,L.foldl Cd x.ej⟩,0)/\L.any (Nr t x)=T:=by
 unfold Jz at h|-
 grind
structure Q3(t:AC)(r:ff)(h:AG)(m:AP):Prop where
 f:IF t r h m
 sat:Ol t r.gp r.d7 h m r.kh=(X,0)
 solve:Gd t r.gp h m.d6=(m.fd,0)
 chk:Ga t r.gp.d5 h.d5 m.d6 r.kh=0
 put:(Jz t (Cw t r (CO h (dS r h m)) (cS r h m)) (CP r (cS r h m) m.fd)).2=0
 few:(Cw t r (CO h (dS r h m)) (cS r h m)).d5.d3.length<=40/\(Cw t r (CO h (dS r h m)) (cS r h m)).d5.d4.length<=80
def PA(t:AC)(r:ff)(h:AG)(m:AP):AG:=⟨(Cw t r (CO h (dS r h m)) (cS r h m)).d5,(CP r (cS r h m) m.fd).foldl Cd (Cw t r (CO h (dS r h m)) (cS r h m)).ej⟩
def TG(t:AC)(r:ff)(h:AG)(m:AP):AU:=AU.mk r m h (PA t r h m) (Gb h (dS r h m)) (cS r h m)
variable{r:ff}{h:AG}{m:AP}
theorem SH(hf:A3 t)(fr:Ic r)(I:Dv r.d7<=40)(e:(EW t r h m).2=0):Q3 t r h m/\EW t r h m=(TG t r h m,0):=by
 unfold EW at e|-;split at e
 next o=>exact absurd e o
 rename_i o;rw[ae o];split at e
 next u=>exact absurd e u
 rename_i u;rw[ae u];split at e
 .cases e
 rename_i E;rw[ae E];split at e
 next w=>exact absurd e w
 rename_i w;rw[ae w];split at e
 .cases e
 rename_i F;rw[ae F];split at e
 next z=>exact absurd e z
 rename_i z;rw[ae z];split at e
 next D=>exact absurd e D
 rename_i D;rw[ae D];split at e
 .cases e
 rename_i G;rw[ae G];have o:=E_.1 o;have u:=E_.1 u;have E:=E_.1 E;have w:=E_.1 w;have F:=E_.1 F;have z:=E_.1 z;have D:=E_.1 D;obtain⟨_,_,_,ha⟩:=YD hf I (ZJ o u E w F);have s:IF t r h m:=⟨hf,fr,o,u,ha,(ZL z).1⟩;unfold cg at e|-;split at e
 next y=>exact absurd e y
 rename_i y;rw[ae y];have y:=E_.1 y;obtain⟨H,J⟩:=fV y;split at e
 .cases e
 rename_i j;rw[ae j];rw[H]at j;refine⟨⟨s,?_,?_,E,y,?_⟩,?_⟩
 .exact Prod.ext (by simpa using G) D
 .exact Prod.ext F w
 .simp[not_or]at j;exact j
 .rw[H];rfl
theorem Q3.trk(s:Q3 t r h m):ME h (TG t r h m):=by
 have hr:=s.f.rem;have j:=s.f.put;have E:((Cw t r (CO h (dS r h m)) (cS r h m)).d5.d3.length)=(dS r h m).d3.length+(E0 r).length:=by
  show (B? (_++_))=_;rw[b6,c9];show((dS r h m).d3.map _).length+_=_;rw[c9];rfl
 have he:((Cw t r (CO h (dS r h m)) (cS r h m)).d5.d4.length)=(dS r h m).d4.length+(K9 r).length:=by
  show (B? (_++_))=_;rw[b6,c9];show((dS r h m).d4.map _).length+_=_;rw[c9];rfl
 have w:NB (PA t r h m).ej (Cw t r (CO h (dS r h m)) (cS r h m)).ej:=eE _ _;have z:(PA t r h m).ej.length=(Cw t r (CO h (dS r h m)) (cS r h m)).d5.d3.length:=by
  have:=congrArg B? w;rw[c9,c9]at this;rw[this,j.Ab0]
 refine ⟨Kw _ _,Kw _ _,λx o=>?_,λx o=>?_,⟨?_,?_,?_,λv hv=>?_⟩⟩
 .obtain⟨i,hi,rfl⟩:=w!.1 o;have:=R4 (dS r h m).d3 i;have D:(TG t r h m).hV.d5.d3.length=(Cw t r (CO h (dS r h m)) (cS r h m)).d5.d3.length:=rfl
  grind
 .obtain⟨i,hi,rfl⟩:=w!.1 o;have:=R4 (dS r h m).d4 i;have D:(TG t r h m).hV.d5.d4.length=(Cw t r (CO h (dS r h m)) (cS r h m)).d5.d4.length:=rfl
  grind
 .have:=s.few.1;show(Cw t r (CO h (dS r h m)) (cS r h m)).d5.d3.length<=1000;omega
 .have:=s.few.2;show(Cw t r (CO h (dS r h m)) (cS r h m)).d5.d4.length<=1000;omega
 .have:=s.few.1;show(PA t r h m).ej.length<=1000;omega
 .have y:v.length∈(PA t r h m).ej.map B?:=w!.2 ⟨v,hv,rfl⟩;rw[w,s.f.rows]at y;obtain⟨n,u,e⟩:=w!.1 y;have:=H7 j.hf (F! _) (Cq j.hv).par (j.kind n u).2;omega
end Go.Sf.Sc
namespace Go.Sf.Sc
open Go Go.Sf
def EF(l by':Fp):Fp:=l.map λx=>if x<0 then -1 else AA by' x
def KM(m tr:d6):d6:=⟨EF m.d3 tr.d3,EF m.d4 tr.d4⟩
def RJ(m:d6)(l:List AU):d6:=l.foldl (λm s=>KM m s.p0) m
def Ny(g:d5):d6:=⟨A0 g.d3.length,A0 g.d4.length⟩
variable{i:Int}
theorem NA(n:Nat)(e:0<=i)(i1:i<n):AA (A0 n) i=i:=by
 have:=JI (n:=n) (λx=>x) e i1
 rwa [List.map_id']at this
variable{n:Nat}
theorem fe(h:n<=1000):Ka n=Y (A0 n):=by
 unfold Ka;rw[Oq (λ_=>X) id]
 .rw[bs,y!,List.filter_eq_self.2 λ_ _=>rfl]
 .intro i s e i1 j;rw[AS a_,bs,ac rfl];rfl
variable{g:d5}
theorem yG(h:CE g=0):QR g=Y (Ny g):=by
 have e:=Dh h;have:=e.ec;have:=e.eh;unfold QR;rw[fe U,bs,fe U,bs];rfl
structure Kn(m:d6)(g:d5):Prop where
 Aal:m.d3.length<=1000
 Aap:m.d4.length<=1000
 node:∀x∈m.d3,-1<=x/\x<g.d3.length
 edge:∀x∈m.d4,-1<=x/\x<g.d4.length
theorem AAq(h:CE g=0):Kn (Ny g) g:=by
 have j:=Dh h;have:=j.ec;have:=j.eh;refine⟨by show(A0 _).length<=1000;rw[A5];omega,by show(A0 _).length<=1000;rw[A5];omega,λx e=>?_,λx e=>?_⟩
 .have:=C6.1 e;omega
 .have:=C6.1 e;omega
theorem P8{l e:Fp}(o:∀x∈l,-1<=x/\x<e.length)(hb:∀x∈e,-1<=x/\x<n):∀x∈EF l e,-1<=x/\x<n:=by
 intro x j;obtain⟨y,s,rfl⟩:=w!.1 j
 grind [AF]
variable{h:AG}
theorem vf{m:d6}{s:AU}(e:Kn m h.d5)(j:ME h s):Kn (KM m s.p0) s.hV.d5:=by
 refine ⟨by show(B! _ _).length<=1000;rw[c9];exact e.Aal,by show(B! _ _).length<=1000;rw[c9];exact e.Aap,?_,?_⟩
 .exact P8 (λx o=>by have:=e.node x o;rw[j.Aal];exact this) j.node
 .exact P8 (λx o=>by have:=e.edge x o;rw[j.Aap];exact this) j.edge
variable{t:AC}
theorem WT(hf:A3 t){rules:List ff}(hr:GZ rules){m:F7}(e:(GG t rules h m).2=0):
  (0<=m.ff/\m.ff<rules.length)/\Q3 t (AA rules m.ff) h m.og/\GG t rules h m=(TG t (AA rules m.ff) h m.og,0):=by
 unfold GG at e|-;split at e
 .cases e
 rename_i o;rw[ae o];have j:=hr.each _ (AF (l:=rules) (i:=m.ff) U U);exact⟨U,SH hf j.1 j.2 e⟩
theorem ZS(hf:A3 t){rules:List ff}(e:G4 t rules h=0):Ft t rules=0/\(Dq t h).2=0/\(BC t).2=0/\Ie t h:=by grind[G4,QJ]
variable{d:CN}
theorem bL(hf:A3 t){rules:List ff}(hr:GZ rules)(h:Sl t rules d):∀n:Nat,n<=d.mo.length ->
  ET (Jp t rules d.l4 (d.mo.take n)).2/\Kn (RJ (Ny d.l4.d5) (Jp t rules d.l4 (d.mo.take n)).1) (Jp t rules d.l4 (d.mo.take n)).2.d5
 |0,_=>by
  obtain ⟨_,u,j,o⟩:=ZS hf h.given;exact⟨Rl hf j o,AAq o.ge⟩
 |n+1,y=>by
  obtain ⟨u,j⟩:=bL hf hr h n U;have he:=h.moves n U U;have e:=CH (l:=d.mo) (i:=(n:Int)) U U;rw[show((n:Int)+1).toNat=n+1 by omega,E!]at e;unfold SL at he;rw[E!]at he;obtain⟨_,s,w⟩:=WT hf hr he;rw[e,Se,w];refine⟨s.trk.sm,?_⟩;unfold RJ at j|-;rw[x_];exact vf j s.trk
structure mP(m:AP):Prop where
 ec:m.d6.d3.length<=1000
 eh:m.d6.d4.length<=1000
 vars:m.fd.length<=1000
structure vz(d:CN):Prop where
 start:ET d.l4
 len:d.mo.length<=1000
 moves:∀m∈d.mo,mP m.og
variable{r:ff}{m:AP}
theorem Q3.small(s:Q3 t r h m):mP m:=by
 have j:=s.f.left;have e:=s.f.ro.left;have o:=s.f.at_.len;have u:=s.f.at_.q.vars;have:=e.ec;have:=e.eh;exact⟨U,U,U⟩
theorem Sl.small(hf:A3 t){rules:List ff}(hr:GZ rules)(h:Sl t rules d):vz d:=by
 obtain ⟨_,_,j,o⟩:=ZS hf h.given;refine⟨Rl hf j o,by have:=h.few;omega,λm e=>?_⟩;obtain⟨i,s,i1,rfl⟩:=BT e;have he:=h.moves i s i1;unfold SL at he;exact(WT hf hr he).2.1.small
theorem ti{rules:List ff}{m:F7}(h:Sl t rules d)(o:d.mo.length<30)(e:(GG t rules (Jp t rules d.l4 d.mo).2 m).2=0):Sl t rules ⟨d.l4,d.mo++[m]⟩:=by
 refine ⟨h.given,an,λi j i1=>?_⟩;simp at i1;show SL t rules d.l4 (d.mo++[m]) i=0;by_cases hi:i<d.mo.length
 .rw[p8 j hi];exact h.moves i j hi
 grind [SL,wj,E!,List.take_left']
variable{α:Type}
theorem QA[Inhabited α]{l:List α}(v:α)(e:0<=i)(j:i<l.length):AA (BE l i v) i=v:=by grind[AA,BE]
theorem Td[Inhabited α]{l:List α}{i j:Int}(v:α)(e:0<=i)(o:0<=j)(h:j≠i):AA (BE l i v) j=AA l j:=by grind[AA,BE]
end Go.Sf.Sc
namespace Go.Sf.Sc
open Go Go.Sf
end Go.Sf.Sc
namespace Go.Sf.Sc
open Go Go.Sf
end Go.Sf.Sc
namespace Go.Sf.Sc
open Go Go.Sf
variable{ρ:Type}
theorem y4{f:Int×Int->Option (B0 (Int×Int) ρ)}(I:Int->Int->Prop)(b:Int){s a:Int}(w:I a s)
  (step:∀i s,a<=i->I i s->(i<b/\∃s',f (s,i)=Y (.next (s',i+1))/\I (i+1) s')\/f (s,i)=Y (.brk (s,i))):∃i s',a<=i/\I i s'/\C3 f (s,a)=Y (.inl (s',i)):=by
 have key:∀(n:Nat)(i s:Int),a<=i->I i s->b-i<=n->∃j s',i<=j/\I j s'/\MU f (s,i) (.inl (s',j)):=by
  intro n
  induction n with
  |zero=>
   intro i s hi e hb;rcases step i s hi e with⟨h,_⟩|h
   .omega
   .exact⟨i,s,F! _,e,.brk h⟩
  |succ n E=>
   intro i s hi e hb;rcases step i s hi e with⟨_,s',o,u⟩|h
   .obtain⟨j,s2,F,y,z⟩:=E (i+1) s' U u U;exact⟨j,s2,U,y,.next o z⟩
   .exact⟨i,s,F! _,e,.brk h⟩
 obtain ⟨j,s',o,u,D⟩:=key (b-a).toNat a s (F! _) w U;exact⟨j,s',o,u,D.eq⟩
theorem bc{q w k:Int}(c:Int)(H:q<=1000)(y:0<=k)(o:k<=1000)(u:1<=c/\c<=80)(z:1<=w/\w<=400000):∃w' D,(1<=w'/\w'<=400000)/\C3 (ρ:=ρ) (λ(j:Int×Int)=>
  if ((decide (j.2<q))&&(decide (j.1<=5000)))=X then
  Y (.next (AJ (j.1*c),AJ (j.2+1)))
  else
  Y (.brk (j.1,j.2))) (w,k)=Y (.inl (w',D)):=by
 obtain ⟨i,s',K,F,G⟩:=y4 (ρ:=ρ) (f:=λ(j:Int×Int)=>
  if ((decide (j.2<q))&&(decide (j.1<=5000)))=X then
  Y (.next (AJ (j.1*c),AJ (j.2+1)))
  else
  Y (.brk (j.1,j.2))) (λi s=>(1<=s/\s<=400000)/\0<=i/\i<=1000) q (s:=w) (a:=k) ⟨z,y,o⟩ (λi s hi E=>by
   by_cases e:i<q/\s<=5000
   .left;have I:1*1<=s*c:=G_ E.1.1 u.1 U U;have J:s*c<=5000*80:=G_ e.2 u.2 U U
    grind [AT]
   grind)
 exact ⟨s',i,F.1,G⟩
theorem jn:∀(N:Nat)(c:d7)(p:ea)(w:Int),SizeOf.sizeOf c<=N->EL c->P5 p->Dv c<=1000->1<=w->w<=5000->∃b,∀n,N<=n->Dk n p c w=Y b
 |0,c,_,_,h,_,_,_,_,_=>by have:=Dx c;omega|N+1,c,p,w,h,S,O,hk,w0,w1=>by
  have key:∀q:ea,P5 q->∃b,∀n,N<=n->em (C3 (ρ:=Bool) (λ(j:Int×Int)=>
    if ((decide (j.2<(q.d5.d3.length:Int)))&&(decide (j.1<=5000)))=X then
    Y (.next (AJ (j.1*40),AJ (j.2+1)))
    else
    Y (.brk (j.1,j.2))) (w,(p.d5.d3.length:Int))) (λj=>
    em (C3 (ρ:=Bool) (λ(s2:Int×Int)=>
    if ((decide (s2.2<(q.d5.d4.length:Int)))&&(decide (s2.1<=5000)))=X then
    Y (.next (AJ (s2.1*80),AJ (s2.2+1)))
    else
    Y (.brk (s2.1,s2.2))) (j.1,(p.d5.d4.length:Int))) (λs2=>
    em (C3 (ρ:=Bool) (λ(s:Int)=>
    if ((decide (s<(c.fu.length:Int)))&&(decide (s2.1<=5000)))=X then
    (idx c.fu s).bind λz=>
    (Dk n q z s2.1).bind λD=>
    if (!D)=X then
    Y (.ret T)
    else
    Y (.next (AJ (s+1)))
    else
    Y (.brk s)) 0) (λs=>
    Y (decide (s2.1<=5000))) (λε=>Y ε)) (λη=>Y η)) (λζ=>Y ζ)=Y b:=by
   intro q u;have q1:=u.ec;have q2:=u.eh;have p1:=O.ec;have p2:=O.eh;obtain⟨a,k,ha,Q⟩:=bc (ρ:=Bool) (q:=q.d5.d3.length) (w:=w) (k:=p.d5.d3.length) 40 U U U U U;obtain⟨a',k',J,y⟩:=bc (ρ:=Bool) (q:=q.d5.d4.length) (w:=a) (k:=p.d5.d4.length) 80 U U U U ha;have δ:c.fu.length<=1000:=by have:=VM c.fu;have:=VN c;omega
   by_cases I:a'<=5000
   .have kids:∀x∈c.fu,∃b,∀n,N<=n->Dk n q x a'=Y b:=λx E=>by
     have F:=Eb E;have G:=XI E;have h3:=VN c;exact jn N x q a' U (S.k x E) u U J.1 I
    have o:∀i:Int,∃b:Bool,0<=i->i<c.fu.length->∀n,N<=n->Dk n q (AA c.fu i) a'=Y b:=λi=>by
     by_cases e:0<=i/\i<c.fu.length
     .obtain⟨b,hb⟩:=kids _ (AF e.1 e.2);exact⟨b,λ_ _=>hb⟩
     .exact⟨X,λF G=>absurd ⟨F,G⟩ e⟩
    obtain ⟨g,Z⟩:=Classical.axiomOfChoice o;refine⟨(fst (λi=>if g i=X then W else Y (Sum.inr T:Int ⊕ Bool)) 0 c.fu.length).isNone,λn H=>?_⟩;rw[Q,B2];simp only[];rw[y,B2];simp only[];rw[O5 (λi=>if g i=X then W else Y (.inr T)) (b:=c.fu.length) U]
    .cases e:fst (λi=>if g i=X then W else Y (Sum.inr T:Int ⊕ Bool)) 0 (c.fu.length:Int)with
     |none=>
      show Y (decide (a'<=5000))=Y X;rw[decide_eq_true I]
     |some r=>
      obtain ⟨i,_,_,K,_⟩:=Cl e;split at K
      .cases K
      .cases K;rfl
    .intro i P i1 _;rw[ac an,AD P i1,bs,Z i P i1 n H,bs,AT U U];cases g i<;>rfl
    .rw[ae V]
   .refine⟨T,λn H=>?_⟩;rw[Q,B2];simp only[];rw[y,B2];simp only[];rw[O5 (λ_=>W) (b:=0) U (λi F G _=>U) (by rw[ae an])];rw[nF U];show Y _=Y _;rw[decide_eq_false I]
  have u:P5 (if c.kq=5 then c.ea else p):=by split;exact S.q;exact O
  obtain ⟨b,hb⟩:=key _ u;refine⟨b,λn H=>?_⟩;obtain⟨n,rfl⟩:∃k,n=k+1:=⟨n-1,U⟩;rw[Dk,show(if decide (c.kq=5)=X then Y c.ea else Y p)=Y (if c.kq=5 then c.ea else p)by by_cases e:c.kq=5<;>simp[e],bs];exact hb n U
end Go.Sf.Sc
namespace Go.Sf.Sc
open Go Go.Sf
variable{r:ff}
theorem gG(e:(CB r).Sm):(AI r.d7).Sm:=by
 have j:TV.Sms [_,_,_,_,_,_,_,_,_,_,_,_,_,_,_,_,_,_,_,_,_,_,_,_,_]:=e;obtain⟨_,_,_,_,_,_,_,_,_,_,_,E,F,i1,i2,_,o,s,u,w,y,z,c7,c8,D,_⟩:=j;exact⟨o,s,u,w,y,z,c7,c8,D,trivial⟩
variable{t:AC}
theorem jF(hf:A3 t)(st:(AL t).Sm)(e:(CB r).Sm)(h:AG):∃b,HE t r h=Y b/\(b=X->Ic r/\Dv r.d7<=40):=by
 obtain ⟨j,o,_⟩:=Sw st;obtain⟨s,u,w⟩:=qC e;obtain⟨y,z,D⟩:=oR hf st r.gp (gG e) h;unfold HE
 grind
theorem uV(st:(AL t).Sm){rules:List ff}(ε:∀r∈rules,(CB r).Sm)(h:AG):∃b,IU t rules h=Y b/\(b=X->A3 t/\GZ rules):=by
 obtain ⟨b1,e1,f1⟩:=Sw st;obtain⟨b2,e2⟩:=dt h;unfold IU;by_cases P:(((decide (4<(rules.length:Int)))&&(decide ((rules.length:Int)<=10)))||(decide (12<(rules.length:Int))))=X
 .rw[ac P,bs,ac rfl,bs,ac rfl];exact⟨T,rfl,λh=>d_⟩
 rw [ae P,e1,bs,bs];cases b1 with
 |false=>exact⟨T,rfl,λh=>d_⟩
 |true=>
 rw [ae a!,e2,bs,bs];cases b2 with
 |false=>exact⟨T,rfl,λh=>d_⟩
 |true=>
 rw [ae a!];have hf:=f1 rfl;have δ:rules.length<=12:=by
  simp only[D',pq,tn,not_or]at P;omega
 rcases XR (f:=λ(o:Int)(η:Bool)=>
  (idx rules o).bind λw=>
  (HE t w h).bind λy=>
  if (!y)=X then
  Y (.ret T)
  else
  (if η=X then((idx rules o).bind λz=>
  Y (decide ((z.gp.d5.d3.length:Int)<=3)))else Y T).bind λD=>
  (if D=X then((idx rules o).bind λE=>
  Y (decide ((E.gp.d5.d4.length:Int)<=2)))else Y T).bind λF=>
  (if F=X then((idx rules o).bind λG=>
  Y (decide ((G.ei.d5.d3.length:Int)<=5)))else Y T).bind λH=>
  (if H=X then((idx rules o).bind λI=>
  (idx rules o).bind λJ=>
  (OW I.gp J.d7 1).bind λK=>
  Y (K))else Y T).bind λN=>
  Y (.next N)) (λi _=>∀j:Int,0<=j->j<i->Ic (AA rules j)/\Dv (AA rules j).d7<=40) (λ_=>False) (λr=>r=T) (a:=0) (b:=rules.length) (s:=X) U (λj h1 h2=>U) (λi s o i1 O=>by
   have Z:=AF o i1;obtain⟨b3,u,f3⟩:=jF hf st (ε _ Z) h;simp only[AD o i1,bs];rw[u,bs];cases b3 with
   |false=>exact .inr (.inr ⟨T,rfl,rfl⟩)|true=>
    obtain ⟨Q,k2⟩:=f3 rfl;obtain⟨S,e4⟩:=jn _ (AA rules i).d7 (AA rules i).gp 1 (az _) Q.cond Q.left U a! a!;have e5:OW (AA rules i).gp (AA rules i).d7 1=Y S:=D0 _ e4;left;refine⟨(((s&&decide (((AA rules i).gp.d5.d3.length:Int)<=3))&&decide (((AA rules i).gp.d5.d4.length:Int)<=2))&&decide (((AA rules i).ei.d5.d3.length:Int)<=5))&&S,?_,λj ζ j1=>?_⟩
    .rw[ae a!,e5];cases s<;>cases decide (((AA rules i).gp.d5.d3.length:Int)<=3)<;>cases decide (((AA rules i).gp.d5.d4.length:Int)<=2)<;>cases decide (((AA rules i).ei.d5.d3.length:Int)<=5)<;>rfl
    .by_cases e:j=i
     .rw[e];exact⟨Q,k2⟩
     .exact O j ζ U)with⟨s',u,h3⟩|⟨r,u,h3⟩
 .rw[u,B2];have O:=h3.resolve_right id;have hr:GZ rules:=⟨δ,λr hr=>by
   obtain ⟨i,o,i1,rfl⟩:=BT hr;exact O i o i1⟩
  rw [rF hf hr,bs];exact⟨_,rfl,λ_=>⟨hf,hr⟩⟩
 .rw[u,TH,h3];exact⟨T,rfl,λh=>d_⟩
variable{h:AG}
theorem mw:∃b,IN h=Y b/\(b=X->ET h):=by
 unfold IN Jf;rw[bs];by_cases j:((!((decide ((h.d5.d3.length:Int)<=45))&&(decide ((h.d5.d4.length:Int)<=90))))||(decide (45<(h.ej.length:Int))))=X
 .rw[ac j];exact⟨T,rfl,λh=>d_⟩
 rw [ae j,Bf (λi=>decide (12<((AA h.ej i).length:Int))) T]
 .cases e:l3 (λi=>decide (12<((AA h.ej i).length:Int))) 0 h.ej.length with
  |true=>exact⟨T,rfl,λh=>d_⟩
  |false=>
   refine ⟨X,rfl,λ_=>?_⟩;rw[By]at e;simp only[D',Bool.not_eq_true',Bool.and_eq_false_iff,decide_eq_false_iff_not,tn,not_or]at j;refine⟨U,U,U,λv hv=>?_⟩
   grind [BT]
 .intro i o i1 _;rw[AD o i1,bs,I7]
end Go.Sf.Sc
namespace Go.Sf.Sc
open Go Go.Sf
end Go.Sf.Sc
namespace Go.Sf.Sc
open Go Go.Sf
def Tb(x:Int):Prop:=-9223372036854775808<=x/\x<=9223372036854775807
theorem vj{x y:Int}(e:Tb x)(j:Tb y):AJ (x-y)=0↔x=y:=by
 unfold Tb at e j;rw[gX];split<;>omega
theorem oJ{l m:Fp}(w:l.length<=1000)(y:m.length<=1000)(s:∀x∈l,Tb x)(u:∀x∈m,Tb x):∃v,Lr l m=Y v/\(v=0↔l=m):=by
 unfold Lr;rw[O5 (λi=>if AA l i=AA m i then W else Y (.inr (AJ (AA l i-AA m i)))) (b:=min (l.length:Int) m.length) U]
 .cases e:fst (λi=>if AA l i=AA m i then(W:Option (Int ⊕ Int))else Y (.inr (AJ (AA l i-AA m i)))) 0 (min (l.length:Int) m.length)with
  |none=>
   refine ⟨_,rfl,?_⟩;rw[AT U U];rw[BH]at e;constructor
   .intro h;refine dX U λi j i1=>?_;have:=e i j U
    grind
   .rintro rfl;omega
  |some x=>
   obtain ⟨i,j,i1,o,_⟩:=Cl e;by_cases h:AA l i=AA m i
   .rw[ac h]at o;cases o
   .rw[ae h]at o;cases o;refine⟨_,rfl,?_⟩;rw[vj (s _ (AF j U)) (u _ (AF j U))];exact⟨λk=>absurd k h,λk=>by rw[k]⟩
 .intro i j i1 _;rw[ac an,AD j U,bs,AD j U,bs];by_cases h:AA l i=AA m i
  .rw[ae s?,ac h,AT U U];rfl
  .rw[ac s?,ae h,bs,bs];rfl
 .rw[ae an]
structure K0(h:AG):Prop where
 s:ET h
 w:∀v∈h.ej,∀x∈v,Tb x
theorem qf(l m:List Fp):DK l m slices_Equal_int=Y (decide (l=m)):=by
 unfold DK;simp only[Pc,bs];exact QE l m
theorem Zi(a b:AG):GR a b=Y (decide (a=b)):=by
 unfold GR;rw[Pc,bs,fW,bs,qf,bs];obtain⟨⟨n,e⟩,v⟩:=a;obtain⟨⟨u,w⟩,y⟩:=b;by_cases j:n=u<;>by_cases o:e=w<;>by_cases s:v=y<;>simp[j,o,s]
theorem vJ{a b:AG}(ha:K0 a)(hb:K0 b):Pk a b=Y (decide (a=b)):=by
 unfold Pk;rw[vI,bs];obtain⟨g,v⟩:=a;obtain⟨F,e⟩:=b;simp only[];by_cases o:g=F
 .subst o;by_cases u:v.length=e.length
  .rw[ae p_,Bf (λi=>!decide (AA v i=AA e i)) T]
   .have:=Zr (λx y:Fp=>decide (x=y)) (l:=v) (m:=e) (λ_ _ _ _=>decide_eq_true_iff) u;by_cases h:v=e
    .rw[this.2 h,ae V,B2];simp[h]
    .cases E:l3 (λi=>!decide (AA v i=AA e i)) 0 v.length
     .exact absurd (this.1 E) h
     .rw[ac rfl,TH];simp[h]
   .intro i j i1 _;have z:=AF j i1;have D:=AF (l:=e) j U;obtain⟨x,G,H⟩:=oJ (ha.s.rows _ z) (hb.s.rows _ D) (ha.w _ z) (hb.w _ D);rw[AD j i1,bs,AD j U,bs,G,bs];by_cases h:AA v i=AA e i<;>simp[h,H]
  .rw[ac an];have:v≠e:=λh=>u (by rw[h]);simp[this]
 .rw[ac q?];simp[o]
theorem n7(a b:ea):Gz a b=Y (decide (a=b)):=by
 unfold Gz Rk;simp only[Pc,fW,oD,oE,bs];obtain⟨⟨n,e⟩,s,v,t⟩:=a;obtain⟨⟨z,D⟩,s',E,F⟩:=b;by_cases j:n=z<;>by_cases o:e=D<;>by_cases u:s=s'<;>by_cases w:v=E<;>by_cases y:t=F<;>simp[j,o,u,w,y]
noncomputable def iq(a b:ff):Bool:=@decide (a=b) (E' _)
noncomputable def ip(a b:AU):Bool:=@decide (a=b) (E' _)
theorem ir{a b:ff}:iq a b=X↔a=b:=by unfold iq;exact@decide_eq_true_iff _ (E' _)
theorem Ti{a b:AU}:ip a b=X↔a=b:=by unfold ip;exact@decide_eq_true_iff _ (E' _)
theorem vQ(a b:ff):iq a b=(decide (a.ln=b.ln)&&decide (a.kh=b.kh)&&decide (a.gp=b.gp)&&decide (a.ei=b.ei)&&decide (a.pr=b.pr)&&decide (a.pf=b.pf)&&Wr a.d7 b.d7):=by
 rw [D_,ir];simp only[pq,tn,ZN];obtain⟨n,l,r,k,i,j,c⟩:=a;obtain⟨e,o,s,u,w,y,c'⟩:=b;simp only[ff.mk.injEq]
 grind
theorem vb(a b:AU):ip a b=(iq a.ff b.ff&&decide (a.og=b.og)&&decide (a.j4=b.j4)&&decide (a.hV=b.hV)&&decide (a.p0=b.p0)&&decide (a.wm=b.wm)):=by
 rw [D_,Ti];simp only[pq,tn,ir];obtain⟨r,m,o,s,t,c⟩:=a;obtain⟨u,m',e,j,w,c'⟩:=b;simp only[AU.mk.injEq]
 grind
theorem dU{b c:Bool}{o:K1}(h:o=Y c):(if b=X then o else Y T)=Y (b&&c):=by
 subst h;cases b<;>rfl
theorem ut(a b:ff):My a b=Y (iq a b):=by
 unfold My;simp only[n7,Pc,Wb,ur,bs];rw[vQ];obtain⟨n,l,r,⟨F,G⟩,i,j,c⟩:=a;obtain⟨H,I,J,⟨e,o⟩,K,N,c'⟩:=b;simp only[];by_cases s:n=H<;>by_cases u:j=N<;>by_cases w:l=I<;>by_cases y:r=J<;>simp[s,u,w,y];by_cases z:F=e<;>by_cases D:G=o<;>by_cases E:i=K<;>simp[z,D,E]
theorem qr(a b:AP):Kj a b=Y (decide (a=b)):=by
 unfold Kj;simp only[Wb,Pc,bs];obtain⟨m,v⟩:=a;obtain⟨m',o⟩:=b;by_cases e:m=m'<;>by_cases j:v=o<;>simp[e,j]
theorem rL(a b:AP):Ji a b=Y (decide (a=b)):=by
 unfold Ji;simp only[jY,bs];obtain⟨⟨m1,w⟩,v⟩:=a;obtain⟨⟨e,j⟩,y⟩:=b;by_cases o:m1=e<;>by_cases s:w=j<;>by_cases u:v=y<;>simp[o,u,s]
theorem uu(a b:AU):M4 a b=Y (ip a b):=by
 unfold M4;simp only[ut,qr,Zi,Wb,bs,vb];cases iq a.ff b.ff<;>by_cases e:a.og=b.og<;>by_cases j:a.j4=b.j4<;>by_cases o:a.hV=b.hV<;>by_cases s:a.p0=b.p0<;>simp[e,j,o,s]
structure zA(s:AU):Prop where
 b:K0 s.j4
 a:K0 s.hV
variable{κ:List Fp}
theorem aI(h:∀v∈κ,∀x∈v,Tb x):∀{L:Bk},(∀p∈L,Tb p.2)->∀{κ:List Fp},(∀v∈κ,∀x∈v,Tb x)->∀v∈L.foldl Cd κ,∀x∈v,Tb x
 |[],_,_,k=>k|p::L,j,κ,k=>by
  rw [List.foldl_cons];refine aI h (L:=L) (λq o=>j q (w? _ o)) ?_;unfold Cd;split
  .intro v hv x e;obtain⟨n,s,rfl⟩:=List.mem_iff_getElem.1 hv;rw[List.getElem_modify]at e;split at e
   .rcases List.mem_or_eq_of_mem_set e with e|rfl
    .exact k _ (C' _) _ e
    .exact j p (B_ ..)
   .exact k _ (C' _) _ e
  .exact k
variable{t:AC}{h:AG}
theorem pR(hf:A3 t)(e:(Dq t h).2=0):K0 h:=by
 obtain ⟨hv,hh⟩:=QJ hf e;refine⟨Rl hf hv hh,λv j x o=>?_⟩;obtain⟨i,s,i1,rfl⟩:=BT j;have:=hh.low i s (by have:=hh.len;omega) x o;unfold Tb;omega
variable{r:ff}{m:AP}
theorem bf(s:Q3 t r h m):zA (TG t r h m):=by
 have hh:=s.f.hh;have y:=pR s.f.hf s.f.he;have z:=s.f.put;have hT:=Cq s.f.hv;refine⟨y,s.trk.sm,?_⟩;have hb:=(fV s.put).2;refine aI (κ:=[]) V (λp e=>?_) ?_
 .obtain⟨sl,E,rfl⟩:=w!.1 e;have k:=z.slot sl E;rw[List.any_eq_false]at hb;have j:=hb _ e;unfold Nr at j;have D:=z.kind _ (AF k.2.2.1.1 k.2.2.1.2);have F:=Rc s.f.hf hT D.1 D.2 _ (AF k.2.2.2.1 k.2.2.2.2);simp only[D',tn,not_or]at j;unfold Tb;unfold Rz at j|-;dsimp only at j|-;omega
 .intro v hv x u;unfold Cw Ok at hv;rcases C_.1 hv with hv|hv
  .unfold CO at hv;obtain⟨i,hi,rfl⟩:=w!.1 hv;have:=s.f.rem.ec.1 i hi;exact y.w _ (AF this.1 (by have:=hh.len;omega)) x u
  .obtain⟨i,hi,rfl⟩:=w!.1 hv;unfold Vg at u;obtain⟨a,ha,rfl⟩:=w!.1 u;have o:=Fr hi;have k:=s.f.grow.kind _ (AF (l:=r.ei.d5.d3) o.1 o.2);have G:=Rc s.f.hf hT k.1 k.2 a ha;have j:=VG s.f.hf hT k.1 k.2 a ha;unfold Tb;omega
end Go.Sf.Sc
namespace Go.Sf.Sc
open Go Go.Sf
variable{q:P6}
theorem dM:∀(n:Nat)(f:AM),f.eh.length+n=f.p.d4.length->(∀i:Int,0<=i->i<f.p.d4.length->PL.at_ f.gl.d4 i=PL.at_ q.d4 i)->EM n f=EM n {f with gl:=q}
 |0,_,_,_=>rfl|n+1,f,j,h=>by
  rw [EM,EM];refine congrArg (λF=>(A0 f.g.d4.length).flatMap F) (funext λk=>?_);have e:SU f k=SU {f with gl:=q} k:=by
   grind [SU,LX]
  rw [e,dM n {f with eh:=f.eh++[k]} an h]
theorem dQ:∀(n:Nat)(f:AM),f.ec.length+n=f.p.d3.length->f.eh=[]->(∀i:Int,0<=i->i<f.p.d3.length->PL.at_ f.gl.d3 i=PL.at_ q.d3 i)->(∀i:Int,0<=i->i<f.p.d4.length->PL.at_ f.gl.d4 i=PL.at_ q.d4 i)->FT n f=FT n {f with gl:=q}
 |0,f,_,he,_,h=>dM f.p.d4.length f (by rw[he];simp) h|n+1,f,o,he,j,h=>by
  rw [FT,FT];refine congrArg (λF=>(A0 f.g.d3.length).flatMap F) (funext λk=>?_);have e:SV f k=SV {f with gl:=q} k:=by
   grind [SV]
  rw [e,dQ n {f with ec:=f.ec++[k]} an he j h]
variable{n:Nat}{i v:Int}
theorem mX(e:0<=i)(j:i<n):AA (List.replicate n v) i=v:=by
 unfold AA
 grind
def F0(t:AC)(p g:d5)(inj:Bool):AM:=⟨p,g,KB t,P6.mk W W,inj,5001,[],[],[]⟩
variable{t:AC}{p g:d5}
theorem pi{inj:Bool}:FT p.d3.length (F0 t p g inj)=FT p.d3.length (FF t p g (NS p) inj):=
 dQ (q:=P6.of (NS p)) p.d3.length (F0 t p g inj) p? rfl (λi e i1=>(mX e i1).symm) (λi e i1=>(mX e i1).symm)
theorem qj{inj:Bool}(s:A3 t)(hv:(BC t).2=0)(o:Nn (FF t p g (NS p) inj)):GL t p g ⟨W,W⟩ inj 5001=Y (JY t p g (NS p) inj):=by
 unfold GL;rw[lU s (Cq hv) hv,bs];have j:Nn (F0 t p g inj):=⟨trivial,trivial,o.ends,o.kinds,o.small⟩;have h:=nt (f:=F0 t p g inj) j ⟨by show(0:Int)<=5001;omega,by show(5001:Int)<=10000;omega,by show((0:Nat):Int)<=5001;omega⟩ rfl rfl;rw[dN _ _ j rfl,show(F0 t p g inj).p.d3.length=p.d3.length from rfl,pi]at h;have e:AM.mk p g (KB t) ⟨W,W⟩ inj 5001 [] [] []=F0 t p g inj:=rfl;rw[e,h];rfl
def MC(t:AC)(p g:d5)(inj:Bool):List d6×Int:=
 if Ep t p g≠0 then([],Ep t p g)else if 5000<(JY t p g (NS p) inj).length then([],3)else(JY t p g (NS p) inj,0)
theorem xU(hf:A3 t)(p g:d5)(inj:Bool):LV t p g inj=Y (MC t p g inj):=by
 unfold LV MC;rw[Wc hf,bs];refine Dy λe=>?_
 grind [XM,NS,Jn,qj,bs,JY]
theorem xt(hf:A3 t)(p g:d5)(inj:Bool):Ms t p g inj=Y (MC t p g inj):=by
 unfold Ms MC;rw[Ui hf,bs];refine Dy λe=>?_;obtain⟨hv,o⟩:=XM (inj:=inj) (pa:=NS p) e (by simp[NS]) (by simp[NS]);have j:=(Oi e).2.1;have:=j.ec;have:=j.eh
 grind [rJ,bs,tN,JY,NS]
end Go.Sf.Sc
namespace Go.Sf.Sc
open Go Go.Sf
variable{α:Type}{f:Int->List α->Option (List α)}
theorem ah[Inhabited α]{x:List α}{p:α->Bool}(u:x.length<=5000)
  (hf:∀(i:Int)(s:List α),0<=i->i<x.length->s.length<=5000->f i s=Y (if p (AA x i)=X then s++[AA x i]else s)):
  n8 f 0 (x.length:Int) []=Y (x.filter p):=by
 rw [CC (a:=0) (b:=x.length) (s:=[]) (λi=>(x.take i.toNat).filter p) U rfl,E!,z_];intro i e i1;have j:((x.take i.toNat).filter p).length<=5000:=m?
 rw [hf i _ e i1 j,CH e i1,List.filter_append];cases o:p (AA x i)<;>simp[o]
def Ln(t:AC)(p:ea)(h:AG)(inj:Bool):List AP×Int:=
 if OT t p h≠0 then([],OT t p h)else if(MC t p.d5 h.d5 inj).2≠0 then([],(MC t p.d5 h.d5 inj).2)else
 (((MC t p.d5 h.d5 inj).1.filter λy=>decide ((GN p h y).2=0)).map λy=>⟨y,(GN p h y).1⟩,0)
variable{t:AC}{p g:d5}
theorem dR{inj:Bool}(h:(MC t p g inj).2=0):(MC t p g inj).1.length<=5000/\∀m∈(MC t p g inj).1,Ga t p g m inj=0:=by grind[MC,nE]
theorem qn(hf:A3 t)(p:ea)(h:AG)(inj:Bool):Eu t p h inj=Y (Ln t p h inj):=by
 unfold Eu Ln;rw[ar hf,bs];refine Dy λw=>?_;rw[xU hf,bs];refine Dy λz=>?_;obtain⟨E,G⟩:=dR z;rw[Qe (F:=λy=>((GN p h y).1,decide ((GN p h y).2=0))) E,bs];intro i s D i1 j;have o:GB p h (AA (MC t p.d5 h.d5 inj).1 i)=Y (GN p h (AA (MC t p.d5 h.d5 inj).1 i)):=by
  obtain ⟨hv,u,hh,e⟩:=Qz hf w (G _ (AF D i1));exact jV u (λs j=>O4 (Cq hv) u hh e j)
 grind [AD,bs,GN,AA,MC,AS,AX]
theorem rG(hf:A3 t)(p:ea)(h:AG)(inj:Bool):Ho t p h inj=Y (Ln t p h inj):=by
 unfold Ho Ln;rw[bC hf,bs];refine Dy λw=>?_;rw[xt hf,bs];refine Dy λz=>?_;obtain⟨E,G⟩:=dR z;rw[Qe (F:=λy=>((GN p h y).1,decide ((GN p h y).2=0))) E,bs];intro i s D i1 j;have o:Ip p h (AA (MC t p.d5 h.d5 inj).1 i)=Y (GN p h (AA (MC t p.d5 h.d5 inj).1 i)):=by
  obtain ⟨hv,u,hh,e⟩:=Qz hf w (G _ (AF D i1));exact jh u (λs j=>O4 (Cq hv) u hh e j)
 grind [AD,bs,GN,AA,MC,AS,AX]
variable{h:AG}
theorem Vh{p:ea}{inj:Bool}:(Ln t p h inj).1.length<=5000:=by grind[Ln,dR,c9,Nat.le_trans,y_]
noncomputable def Rj(t:AC)(r:ff)(h:AG):Int:=if Dc t r≠0 then Dc t r else(Dq t h).2
variable{r:ff}
theorem jQ(hf:A3 t)(fr:Ic r)(h:AG):IE t r h=Y (Rj t r h):=by
 unfold IE Rj;rw[O0 hf,bs];by_cases hv:¬(BC t).2=0
 .grind[Dc,BC]
 have hv:=E_.1 hv;rw[ae l_,fS hf fr,bs,Vq hf];exact Dy λ_=>rfl
theorem vA(hf:A3 t)(fr:Ic r)(h:AG):HH t r h=Y (Rj t r h):=by
 unfold HH Rj;rw[fm hf fr,bs,Vx hf];exact Dy λ_=>rfl
theorem qc(hf:A3 t)(fr:Ic r)(j:Dv r.d7<=40)(e:Rj t r h=0)(m:AP):ID t r h m=Y (EW t r h m):=by
 have:=Yo hf fr j h m;unfold FR at this;rw[jQ hf fr,bs,ae c_]at this;cases k:ID t r h m with
 |none=>rw[k]at this;cases this
 |some x=>rw[k]at this;exact this
noncomputable def Hi(t:AC)(r:ff)(h:AG):List AP×Int:=
 if Rj t r h≠0 then([],Rj t r h)else if(Ln t r.gp h r.kh).2≠0 then([],(Ln t r.gp h r.kh).2)else
 ((Ln t r.gp h r.kh).1.filter λm=>decide ((EW t r h m).2=0),0)
theorem xW(hf:A3 t)(fr:Ic r)(e:Dv r.d7<=40)(h:AG):E8 t r h=Y (Hi t r h):=by
 unfold E8 Hi;rw[jQ hf fr,bs];refine Dy λj=>?_;rw[qn hf,bs];refine Dy λo=>?_;rw[ah (p:=λm=>decide ((EW t r h m).2=0)) Vh,bs]
 grind [AD,bs,qc,EW,AA,Ln,AS,AX]
theorem xu(hf:A3 t)(fr:Ic r)(e:Dv r.d7<=40)(h:AG):FZ t r h=Y (Hi t r h):=by
 unfold FZ Hi;rw[vA hf fr,bs];refine Dy λj=>?_;rw[rG hf,bs];refine Dy λo=>?_;rw[ah (p:=λm=>decide ((EW t r h m).2=0)) Vh,bs]
 grind [AD,bs,oZ,EW,AA,Ln,AS,AX]
theorem t6:(Hi t r h).1.length<=5000:=by grind[Hi,Nat.le_trans,y_,Vh]
variable{m:AP}
theorem mc(e:m∈(Hi t r h).1):(EW t r h m).2=0:=by
 unfold Hi at e
 grind
end Go.Sf.Sc
namespace Go.Sf
end Go.Sf
namespace Go.Sf.Sc
open Go Go.Sf
instance:Inhabited F7:=⟨⟨0,default⟩⟩
end Go.Sf.Sc
namespace Go.Sf.Sc
open Go Go.Sf
structure X0(h:AG)(p:BR):Prop where
 Aal:p.d3.length<=1000
 Aap:p.d4.length<=1000
 node:∀x∈p.d3,0<=x/\x<h.d5.d3.length
 edge:∀x∈p.d4,0<=x/\x<h.d5.d4.length
end Go.Sf.Sc
