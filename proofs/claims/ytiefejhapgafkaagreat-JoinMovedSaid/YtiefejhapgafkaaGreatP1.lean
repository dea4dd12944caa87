/- Plain lemmas: what the functions of the program and of the reference compute. -/
import Derived.Test.YtiefejhapgafkaaGreatSfRead
import Derived.Test.YtiefejhapgafkaaGreatEval
set_option linter.all false
set_option maxRecDepth 100000
open Option renaming some->Y,none->W
open Bool renaming true->X,false->T
open Option renaming getD->x!,isSome->x?,bind_assoc->y_,bind_fun_some->y!
open Int renaming le_refl->y?,toNat_natCast->z_
open Bool renaming true_and->z!,eq_iff_iff->z?,false_and->A_,false_eq_true->A',or_eq_true->A!,not_eq_true'->A?,not_eq_false'->B_,or_eq_false_iff->B',and_eq_false_iff->B!,eq_false_iff->B?,not_true->C_,not_eq_true->C',and_self->C!,or_assoc->C?,or_false->D_,and_false->D'
open List renaming any_eq_false->D!,getElem?_eq_getElem->D?,getD_eq_getElem?_getD->E_,take_length->E',any_eq_true->E!,any_cons->E?,range->F_,replicate->F!,ext_getElem->F?,mem_map->G_,mem_range->G!,pairwise_iff_getElem->G?,range_succ->H_,map_append->H',append_nil->H!,all_eq_not_any_not->H?,take_of_length_le->I_,take_append_of_le_length->I',flatMap_append->I!,take_left->I?,any_append->J_,any_nil->J',mem_filter->J!,flatMap_eq_nil_iff->J?
open Classical renaming propDecidable->K_,not_not->K'
namespace Go.Sf
def aY{ρ τ:Type}{d:Int->Option ρ}{g:ρ->τ}:∀(n:Nat)(a:Int),GA (λi=>(d i).map g) n a=(GA d n a).map g
 |0,_=>rfl|n+1,a=>by
  rw [GA,GA];cases d a with
  |some r=>rfl|none=>exact aY n (a+1)
variable{a b:Int}
theorem Kq{ρ τ:Type}{d:Int->Option ρ}{g:ρ->τ}:fst (λi=>(d i).map g) a b=(fst d a b).map g:=aY _ _
def YV{ρ:Type}{d:Int->Option ρ}{r:ρ}:∀{n:Nat}{a:Int},GA d n a=Y r->∃i,a<=i/\i<a+n/\d i=Y r/\∀j,a<=j->j<i->d j=W
 |0,_,h=>c!
 |n+1,a,h=>by
  rw [GA]at h;cases hd:d a with
  |some x=>
   grind
  |none=>
   rw [hd]at h;obtain⟨i,o,q,u,w⟩:=YV h
   grind
theorem Cd{ρ:Type}{d:Int->Option ρ}{r:ρ}(h:fst d a b=Y r):∃i,a<=i/\i<b/\d i=Y r/\∀j,a<=j->j<i->d j=W:=by
 obtain ⟨i,o,q,u,w⟩:=YV h
 grind
def N3(p:Int->Bool)(s:ByteArray):Int:=(fst (λi=>if p (bt s i)then W else Y i) 0 s.size).getD s.size
def V8(p:Int->Bool)(s:ByteArray):0<=N3 p s/\N3 p s<=s.size/\(∀j,0<=j->j<N3 p s->p (bt s j)=X)/\(N3 p s<s.size->p (bt s (N3 p s))=T):=by
 unfold N3;cases h:fst (λi=>if p (bt s i)then W else Y i) 0 s.size with
 |none=>
  rw [A8]at h
  grind
 |some r=>
  grind [Cd,bt,x!]
variable{s:ByteArray}
theorem gZ(h:s≠⟨#[]⟩):0<s.size:=by
 rcases Nat.eq_zero_or_pos s.size with j|j
 .exfalso;apply h;cases s with|mk d=>congr 1;exact Array.eq_empty_of_size_eq_zero j
 .exact j
end Go.Sf
namespace Go.Sf.Sc
open Go Go.Sf
def G7(c:Int):Bool:=((decide (97<=c))&&(decide (c<=122)))||((decide (65<=c))&&(decide (c<=90)))
def Aaf(c:Int):Bool:=(decide (48<=c))&&(decide (c<=57))
def TB(c:Int):Bool:=G7 c||Aaf c||decide (c=95)
def fW(c:Int):NF c=Y (G7 c):=rfl
def Zq(c:Int):ML c=Y (Aaf c):=rfl
def gC(c:Int):Mv c=Y (G7 c):=rfl
def j5(c:Int):KF c=Y (Aaf c):=rfl
def yP(c:Int):Pv c=Y (TB c):=by
 unfold Pv TB;rw[fW,bs,Zq]
 grind
variable{s:ByteArray}
def lz(d:(s.size:Int)<=4611686018427387904){ok:Int->K1}{p:Int->Bool}(h:∀c,ok c=Y (p c)):Im s ok=Y (N3 p s):=by
 unfold Im;rw[QR (c:=λi=>(if p (bt s i)then W else Y i).map .inl) (a:=0) (b:=s.size) U]
 .rw[Kq];unfold N3;cases fst (λi=>if p (bt s i)=X then W else Y i) 0 s.size<;>rfl
 .grind[R8,bt,D3,AU]
 .simp
def EN(s:ByteArray):Bool:=decide (0<s.size)&&G7 (bt s 0)&&decide (s.size<=20)&&decide (N3 TB s=s.size)
def Zo(l:List ByteArray)(v:ByteArray):∃k,slices_Index_string l v=Y k/\(0<=k↔v∈l):=by
 unfold slices_Index_string;rw[Bi (λi=>if(v==AA l i)=X then Y i else W)]
 .cases h:fst (λi=>if(v==AA l i)=X then Y i else W) 0 l.length with
  |none=>
   rw [A8]at h;refine⟨-1,rfl,U,λq=>?_⟩
   grind [BP]
  |some k=>
   obtain ⟨i,d,j,u,_⟩:=Cd h;have o:(v==AA l i)=X/\i=k:=by
    grind
   obtain ⟨o,rfl⟩:=o;refine⟨i,rfl,λ_=>?_,λ_=>d⟩
   grind [AG]
 .intro i d j _;simp only[AD d j,bs];split<;>rfl
def RQ(l:List ByteArray)(v:ByteArray):slices_Contains_string l v=Y (l.contains v):=by
 unfold slices_Contains_string;obtain⟨k,d,h⟩:=Zo l v
 grind
theorem yN(A:0<s.size)(x:(s.size:Int)<=4611686018427387904):∃k n e,Lr s=Y (k,n,e)/\(((decide (e=0))&&(decide (k=1)))&&(decide (n=(s.size:Int))))=EN s:=by
 have hr:=V8 TB s;unfold Lr EN;simp only[R8 (y? 0) (show(0:Int)<s.size by omega),bs,fW,Zq,lz x yP,lz x Zq,A,decide_true,z!];by_cases d:G7 (bt s 0)=X
 .rw[ac d];by_cases h:20<N3 TB s
  .refine⟨0,0,3,l_,?_⟩;simp[d];intro E j;omega
  .refine⟨1,_,0,by rw[ae b?],?_⟩;simp only[d,decide_true,z!];rw[z?];simp only[qo,mo];omega
 .rw[ae d];have o:G7 (bt s 0)=T:=e?
  rw [o,A_,A_];by_cases hd:Aaf (bt s 0)=X
  .rw[ac hd];by_cases y:9<N3 Aaf s
   .exact⟨0,0,3,u',V⟩
   .exact⟨2,_,0,by rw[ae m?],V⟩
  .rw[ae hd];by_cases z:bt s 0=34
   .have B:=cm (s:=s) (a:=1) (b:=s.size) U U U;have q:∀c,Nr c=Y (((decide (32<=c))&&(decide (c<=126)))&&(!decide (c=34))):=λ_=>rfl;have C:=V8 (λc=>((decide (32<=c))&&(decide (c<=126)))&&(!decide (c=34))) (s.extract (1:Int).toNat (s.size:Int).toNat);have u:∃n e,I9 s=Y (n,e):=by
     unfold I9;rw[J3 U U U,bs,lz U q,bs];rw[AU U U];by_cases he:1+N3 (λc=>((decide (32<=c))&&(decide (c<=126)))&&(!decide (c=34))) (s.extract (1:Int).toNat (s.size:Int).toNat)=s.size
     .refine⟨0,2,?_⟩;simp only[he,decide_true,if_true,bs]
     .simp only[he,decide_false,A',if_false];rw[R8 U U];simp only[bs];split
      .exact⟨_,_,rfl⟩
      .split
       .exact⟨_,_,rfl⟩
       .exact⟨_,_,rfl⟩
    obtain ⟨n,e,w⟩:=u;refine⟨3,n,e,by rw[ac d!,w];rfl,V⟩
   .rw[ae d!];have D:∃b,Pu s=Y b:=by
     unfold Pu;by_cases j:2<=(s.size:Int)
     .rw[ac k!,J3 U U j];simp only[bs,RQ];exact⟨_,rfl⟩
     .rw[ae k!];exact⟨_,rfl⟩
    obtain ⟨b,hb⟩:=D;rw[hb,bs];cases b
    .simp only[A',if_false,strings_IndexByte,bs];split
     .exact⟨_,_,_,rfl,rfl⟩
     .exact⟨_,_,_,rfl,rfl⟩
    .exact⟨_,_,_,rfl,rfl⟩
def SY(d:(s.size:Int)<=4611686018427387904):Eh s=Y (EN s):=by
 unfold Eh MM;simp only[show decide ((1:Int)=3)=T from rfl,A',if_false,bs];by_cases he:s=⟨#[]⟩
 .subst he;rfl
 grind [yN,gZ]
def yi(q:(s.size:Int)<=4611686018427387904)(d:Bool):∃n,Mx s 0 d=Y n/\0<=n/\n<=s.size/\(d=T->n=N3 TB s):=by
 have hr:=V8 (λc=>Aaf c||(!d&&(G7 c||decide (c=95)))) s;refine⟨N3 (λc=>Aaf c||(!d&&(G7 c||decide (c=95)))) s,?_,hr.1,hr.2.1,λhd=>?_⟩
 .unfold Mx;rw[QR (c:=λi=>(if(Aaf (bt s i)||(!d&&(G7 (bt s i)||decide (bt s i=95))))then W else Y i).map .inl) (a:=0) (b:=s.size) U]
  .rw[Kq];unfold N3;cases fst (λi=>if(Aaf (bt s i)||(!d&&(G7 (bt s i)||decide (bt s i=95))))=X then W else Y i) 0 s.size<;>rfl
  .intro i o h _;have j:AJ (0+i)=i:=e_
   simp only[j,h,decide_true,if_true,R8 o h,bs,j5,gC]
   grind [Aaf,bt,G7,D3,AU]
  .have j:AJ (0+(s.size:Int))=s.size:=e_
   grind
 .subst hd;congr 1
  grind [TB,G7,Aaf]
def rt(u:0<s.size)(w:(s.size:Int)<=4611686018427387904):∃n,I1 s 0=Y n/\(n=0\/(2<=n/\n<=s.size)):=by
 unfold I1;rw[QR (c:=λi=>if decide (bt s i=34)=X then Y (Sum.inr (i+1):Int ⊕ Int)else if(decide (bt s i<32)||decide (126<bt s i))=X then Y (Sum.inr 0)else W) (a:=1) (b:=s.size) U]
 .cases h:fst (λi=>if decide (bt s i=34)=X then Y (Sum.inr (i+1):Int ⊕ Int)else if(decide (bt s i<32)||decide (126<bt s i))=X then Y (Sum.inr 0)else W) 1 s.size with
  |none=>exact⟨0,rfl,.inl rfl⟩|some r=>
   obtain ⟨i,q,j,d,_⟩:=Cd h;split at d
   .cases d;exact⟨_,rfl,.inr U⟩
   .split at d
    .cases d;exact⟨_,rfl,.inl rfl⟩
    .cases d
 .intro i q j _;have o:AJ (0+i)=i:=e_
  simp only[o,j,decide_true,if_true,R8 (show 0<=i by omega) j,bs,AU (show -9223372036854775808<=i+1 by omega) U];split
  .rfl
  .split<;>rfl
 .have o:AJ (0+(s.size:Int))=s.size:=e_
  grind
theorem ABj(O:0<s.size)(Q:(s.size:Int)<=4611686018427387904):∃t n e,Mw s 0=Y (t,n,e)/\(((decide (e=0))&&(decide (n=(s.size:Int))))&&(decide (t.kg=1)))=EN s:=by
 obtain ⟨m,M,u,w,N⟩:=yi Q (Aaf (bt s 0));unfold Mw EN;simp only[R8 (y? 0) (show(0:Int)<s.size by omega),bs,gC,j5,O,decide_true,z!,M];have S:AJ (0+m)=m:=e_
 by_cases F:G7 (bt s 0)=X
 .have hd:Aaf (bt s 0)=T:=by
   unfold G7 at F;unfold Aaf
   grind
  have η:=N hd;subst η;simp only[F,if_true,hd,A',if_false,bs,S];by_cases q:20<N3 TB s
  .refine⟨_,_,_,by rw[ac (by simpa using q)],?_⟩
   grind
  .rw[ae (by simpa using q),J3 (y? _) u w];refine⟨_,_,_,rfl,?_⟩
   grind
 .have G:G7 (bt s 0)=T:=o!
  simp only[G,A',if_false,bs,A_,S];by_cases hd:Aaf (bt s 0)=X
  .simp only[hd,if_true,bs];by_cases θ:9<m
   .exact⟨_,_,_,by rw[ac (by simpa using θ)],V⟩
   .rw[ae (by simpa using θ),J3 (y? _) u w];exact⟨_,_,_,rfl,V⟩
  .have H:Aaf (bt s 0)=T:=by simpa using hd
   simp only[H,A',if_false,bs];by_cases ε:bt s 0=34
   .obtain⟨n,hn,y⟩:=rt O Q;rw[ac (by simpa using ε),hn,bs];rcases y with rfl|y
    .grind
    .rw[ae an];split
     .grind
     .have Z:AJ (0+1)=1:=a!
      have e2:AJ (0+n)=n:=e_
      rw [Z,e2,AU (show -9223372036854775808<=n-1 by omega) U,J3 U U U];exact⟨_,_,_,rfl,V⟩
   .rw[ae (by simpa using ε)];unfold Qi;rw[bs];generalize hL:([(⟨#[45,62]⟩:ByteArray),(⟨#[60,61]⟩:ByteArray),(⟨#[62,61]⟩:ByteArray),(⟨#[61,61]⟩:ByteArray),(⟨#[33,61]⟩:ByteArray),(⟨#[123]⟩:ByteArray),(⟨#[125]⟩:ByteArray),(⟨#[40]⟩:ByteArray),(⟨#[41]⟩:ByteArray),(⟨#[91]⟩:ByteArray),(⟨#[93]⟩:ByteArray),(⟨#[44]⟩:ByteArray),(⟨#[59]⟩:ByteArray),(⟨#[58]⟩:ByteArray),(⟨#[61]⟩:ByteArray),(⟨#[43]⟩:ByteArray),(⟨#[45]⟩:ByteArray),(⟨#[42]⟩:ByteArray),(⟨#[60]⟩:ByteArray),(⟨#[62]⟩:ByteArray),(⟨#[33]⟩:ByteArray),(⟨#[38]⟩:ByteArray),(⟨#[124]⟩:ByteArray),(⟨#[46]⟩:ByteArray),(⟨#[63]⟩:ByteArray)]:List ByteArray)=L;have I:∀x∈L,x.size<=2:=by subst hL;decide
    rcases XZ (f:=(λ(h:Int)(κ:HK)=>
      (idx L h).bind λA=>
      (if(decide ((AJ (0+(A.size:Int)))<=(s.size:Int)))=X then((idx L h).bind λB=>
      (Aai s 0 (AJ (0+(B.size:Int)))).bind λC=>
      (idx L h).bind λD=>
      Y (C==D))else Y T).bind λE=>
      if E=X then
      (idx L h).bind λj=>
      (idx L h).bind λo=>
      Y (B2.ret (HK.mk 4 j 0,(o.size:Int),(0:Int)))
      else
      Y (B2.next κ))) (λ_ s=>True) (λ_=>True) (λr=>r.1.kg=4) (a:=0) (b:=L.length) (s:=HK.mk 0 (⟨#[]⟩:ByteArray) 0) U trivial (λi t d z _=>by
      have hx:=I _ (AG d z);have J:AJ (0+((AA L i).size:Int))=(AA L i).size:=e_
      simp only[AD d z,bs,J];by_cases K:((AA L i).size:Int)<=s.size
      .rw[ac (by simpa using K),J3 U U K];simp only[bs];split
       .exact .inr (.inr ⟨_,rfl,rfl⟩)
       .exact .inl ⟨_,rfl,trivial⟩
      .rw[ae (by simpa using K)];simp only[bs];exact .inl ⟨_,rfl,trivial⟩)with⟨s',d,_⟩|⟨r,d,z⟩
    .rw[d];exact⟨_,_,_,rfl,V⟩
    .rw[d];exact⟨_,_,_,rfl,q_⟩
def SZ(d:(s.size:Int)<=4611686018427387904):Ed s=Y (EN s):=by
 unfold Ed MC Ro;simp only[show decide ((1:Int)=3)=T from rfl,A',if_false,bs];by_cases he:s=⟨#[]⟩
 .subst he;rfl
 grind [ABj,gZ]
end Go.Sf.Sc
namespace Go.Sf
variable{ρ β:Type}
def nz(e:Int):a5:=if e=0 then W else Y e
theorem N7(e:Int):(if(!decide (e=0))=X then Y (B2.ret e)else Y (B2.next ()))=Y (TN (nz e)):=by grind[nz,TN]
def xH(b:Bool)(r:ρ):(if b=X then Y (B2.ret r)else Y (B2.next ()))=Y (TN (if b=X then Y r else W)):=by
 cases b<;>rfl
variable{kr:ρ->Option β}
def B8{σ:Type}{s:σ}{k:σ->Option β}:ej (Y (.inl s)) k kr=k s:=rfl
def WE{σ:Type}{r:ρ}{k:σ->Option β}:ej (Y (.inr r)) k kr=kr r:=rfl
def Dj(o:Option ρ)(k:Unit->Option β)(kr:ρ->Option β):ej (Y (tV o)) k kr=match o with|none=>k ()|some r=>kr r:=by
 cases o<;>rfl
def DD(o:a5):ej (Y (tV o)) (λ_=>Y 0) (λv=>Y v)=Y (o.getD 0):=by
 cases o<;>rfl
variable{a b:Int}
def Vf{c:Int->Int}(h:(fst (λi=>nz (c i)) a b).getD 0=0):∀i,a<=i->i<b->c i=0:=by
 have:fst (λi=>nz (c i)) a b=W:=by
  cases hf:fst (λi=>nz (c i)) a b with
  |none=>rfl|some r=>
   grind [x!,Cd,nz]
 grind [A8,nz]
variable{e:Int}
theorem G9:nz e=W↔e=0:=by grind[nz]
def Xa{α:Type}[Inhabited α]{l:List α}{f:α->K1}{p:α->Bool}(h:∀x∈l,f x=Y (p x)):
  (ej (hV (ρ:=Int) (λ(o:Int)(_:Unit)=>(idx l o).bind λd=>(f d).bind λj=>if j=X then Y (.ret o)else Y (.next ())) 0 (l.length:Int) ()) (λ_=>Y (-1)) (λw=>Y w))=
   Y ((fst (λi=>if p (AA l i)=X then Y i else W) 0 l.length).getD (-1)):=by
 rw [Bi (λi=>if p (AA l i)=X then Y i else W)]
 .rw[Dj];cases fst (λi=>if p (AA l i)=X then Y i else W) 0 l.length<;>rfl
 .intro i q u _;rw[AD q u,bs,h _ (AG q u),bs,xH]
theorem ap{α:Type}[Inhabited α]{l:List α}{p:α->Bool}:decide (0<=(fst (λi=>if p (AA l i)=X then Y i else W) 0 l.length).getD (-1))=l.any p:=by
 rw [Jb,kp];cases h:fst (λi=>if p (AA l i)=X then Y i else W) 0 l.length with
 |none=>
  grind [A8,x?,Option.isSome_eq_false_iff,Option.isNone_iff_eq_none,AA]
 |some k=>
  grind [Cd,AA,x!,x?,Option.isSome_iff_ne_none,A8]
def FH{α:Type}[Inhabited α]{l:List α}{f:α->K1}{p:α->Bool}(h:∀x∈l,f x=Y (p x)):
  ((ej (hV (ρ:=Int) (λ(o:Int)(_:Unit)=>(idx l o).bind λd=>(f d).bind λj=>if j=X then Y (.ret o)else Y (.next ())) 0 (l.length:Int) ()) (λ_=>Y (-1)) (λq=>Y q)).bind λu=>Y (decide (0<=u)))=Y (l.any p):=by
 rw [Xa h,bs,ap]
end Go.Sf
namespace Go.Sf.Sc
open Go Go.Sf
instance:Inhabited ke:=⟨⟨⟨#[]⟩,0,0,[]⟩⟩
instance:Inhabited Be:=⟨⟨⟨#[]⟩,0,T,[]⟩⟩
instance:Inhabited Cy:=⟨⟨⟨#[]⟩,0,0,0,0,0,0⟩⟩
instance:Inhabited B0:=⟨⟨0,0,0⟩⟩
instance:Inhabited CF:=⟨⟨0,0,⟨0,0⟩⟩⟩
instance:Inhabited Test:=⟨⟨0,⟨0,0⟩,⟨0,0⟩⟩⟩
instance:Inhabited d5:=⟨⟨0,[],⟨[],[]⟩,⟨⟨[],[]⟩,[],0,[]⟩⟩⟩
variable{l:Fp}
theorem SK{f:Int->K1}{p:Int->Bool}(h:∀x∈l,f x=Y (p x)):BG l f=Y (l.any p):=FH h
theorem jC{l:List B0}{f:B0->K1}{p:B0->Bool}(h:∀x∈l,f x=Y (p x)):Bs l f=Y (l.any p):=FH h
def dn{l:List d5}{f:d5->K1}{p:d5->Bool}(h:∀x∈l,f x=Y (p x)):CM l f=Y (l.any p):=FH h
def iI{l:List Be}{p:Be->Bool}:Ck l (λx=>Y (p x))=Y (l.any p):=FH (λ_ _=>rfl)
def iH{l:List Cy}{p:Cy->Bool}:Cj l (λx=>Y (p x))=Y (l.any p):=FH (λ_ _=>rfl)
def uZ{l:List ke}{p:ke->Bool}:C9 l (λx=>Y (p x))=Y (l.any p):=FH (λ_ _=>rfl)
theorem dt{p:Int->Bool}:BG l (λx=>Y (p x))=Y (l.any p):=FH (λ_ _=>rfl)
theorem jD{l:List B0}{p:B0->Bool}:Bs l (λx=>Y (p x))=Y (l.any p):=FH (λ_ _=>rfl)
def jE{l:List CF}{p:CF->Bool}:Cq l (λx=>Y (p x))=Y (l.any p):=FH (λ_ _=>rfl)
theorem xX(l:Fp)(v:Int):slices_Index_int l v=Y ((fst (λi=>if decide (v=AA l i)=X then Y i else W) 0 l.length).getD (-1)):=by
 have:=Xa (l:=l) (f:=λx=>Y (decide (v=x))) (p:=λx=>decide (v=x)) (λ_ _=>rfl);unfold slices_Index_int
 grind
theorem Mj(l:Fp)(v:Int):slices_Contains_int l v=Y (l.any λx=>decide (v=x)):=by grind[slices_Contains_int,xX,ap]
def ub(l:a6)(v:Bool):GX l v=Y (l.any λx=>v==x):=by
 have:=FH (l:=l) (f:=λx=>Y (v==x)) (p:=λx=>v==x) (λ_ _=>rfl);unfold GX Kc
 grind
structure T7(a:ke):Prop where
 name:(a.kh.size:Int)<=40
 names:a.pf.length<=25
 each:∀x∈a.pf,(x.size:Int)<=40
structure A2(t:AC):Prop where
 ea:t.dl.length<=20
 eb:t.dr.length<=30
 name:∀n∈t.dl,(n.kh.size:Int)<=40
 Abb:∀n∈t.dl,n.og.length<=30
 each:∀n∈t.dl,∀a∈n.og,T7 a
 AbO:∀e∈t.dr,(e.kh.size:Int)<=40
def par(t:AC)(i:Int):Int:=(AA t.dl i).sx
def E8(t:AC)(k:Int):Prop:=∀i,0<=i->i<k->-1<=par t i/\par t i<i
def B6(t:AC):Nat->Int->List ke
 |0,_=>[]|n+1,a=>if a<0 then[]else B6 t n (par t a)++(AA t.dl a).og
def A4(t:AC)(a:Int):List ke:=B6 t (a+1).toNat a
variable{t:AC}{n:Nat}{a:Int}
theorem LP(h:a<0):B6 t n a=[]:=by
 cases n with
 |zero=>rfl|succ n=>rw[B6,ac h]
variable{k:Int}
theorem Oy(d:E8 t k):∀(n m:Nat)(a:Int),a<k->a<n->a<m->B6 t n a=B6 t m a
 |n,m,a,j,o,q=>by
  by_cases h:a<0
  .grind[LP]
  .cases n with
   |zero=>omega|succ n=>
    cases m with
    |zero=>omega|succ m=>
     rw [B6,B6,ae h,ae h];have:=d a U j;rw[Oy d n m (par t a) U U U]
def PJ(hf:A2 t)(h:k<=t.dl.length)(d:E8 t k):∀(n:Nat)(a:Int),a<k->((B6 t n a).length:Int)<=30*n
 |0,_,_=>by simp[B6]|n+1,a,ha=>by
  rw [B6];split
  .simp;omega
  .rename_i j;have o:=d a U ha;have q:=PJ hf h d n (par t a) U;have u:=hf.Abb _ (AG (l:=t.dl) (show 0<=a by omega) U)
   grind
def YH(hf:A2 t)(j:k<=t.dl.length)(h:E8 t k):∀(n:Nat)(a:Int),a<k->∀x∈B6 t n a,T7 x
 |0,_,_=>by simp[B6]|n+1,a,ha=>by
  rw [B6];split
  .simp
  .rename_i o;have q:=h a U ha;intro x d;rcases List.mem_append.1 d with d|d
   .exact YH hf j h n (par t a) U x d
   .exact hf.each _ (AG (l:=t.dl) (show 0<=a by omega) U) x d
def IN(hf:A2 t)(d:k<=t.dl.length)(h:E8 t k)(ha:a<k):(A4 t a).length<=600:=by
 have:=PJ hf d h (a+1).toNat a ha;have:=hf.ea;unfold A4;omega
def PK(hf:A2 t)(d:k<=t.dl.length)(h:E8 t k)(ha:a<k):∀x∈A4 t a,T7 x:=YH hf d h _ a ha
theorem fN(hf:A2 t)(o:k<=t.dl.length)(j:E8 t k):∀(n:Nat)(a:Int),0<=a->a<k->a<n->Dv n t a=Y (B6 t n a)
 |0,_,_,_,_=>by omega|n+1,a,u,ha,C=>by
  have z:=j a U ha;have w:=PJ hf o j n (par t a) U;have A:=hf.Abb _ (AG (l:=t.dl) u U);have B:=hf.ea;rw[Dv,B6,ae U,AD u U];simp only[bs];show((if decide (0<=par t a)=X then(Dv n t (par t a)).bind λh=>Y h else Y []).bind _)=_;have e:(if decide (0<=par t a)=X then(Dv n t (par t a)).bind λh=>Y h else Y [])=Y (B6 t n (par t a)):=by
   by_cases q:0<=par t a
   .rw[ac (by simpa using q),fN hf o j n (par t a) q U U];rfl
   .rw[ae (by simpa using q),LP U]
  have hb:(B6 t n (par t a)).length+(AA t.dl a).og.length<=AX:=by
   unfold AX;have:((B6 t n (par t a)).length:Int)<=30*n:=w;have x:B6 t n (par t a)=B6 t 20 (par t a):=by
    by_cases d:par t a<0
    .rw[LP d,LP d]
    .exact Oy j n 20 (par t a) U U U
   have y:=PJ hf o j 20 (par t a) U;rw[<-x]at y;omega
  rw [e,bs,AP hb];rfl
def jn(hf:A2 t)(d:k<=t.dl.length)(h:E8 t k)(j:0<=a)(ha:a<k):OQ t a=Y (A4 t a):=
 Dp (a+1).toNat λn o=>by
  grind [fN,A4,Oy]
theorem fv(hf:A2 t)(j:k<=t.dl.length)(h:E8 t k):∀(n:Nat)(a:Int),-1<=a->a<k->a+1<n->Ee n t a=Y (B6 t n a)
 |0,_,_,_,_=>by omega|n+1,a,y,ha,z=>by
  rw [Ee,B6];by_cases d:a<0
  .grind
  .have u:=h a U ha;have w:=hf.Abb _ (AG (l:=t.dl) (show 0<=a by omega) U);have x:=hf.ea;rw[ae e?,ae d,AD U U];simp only[bs];have o:B6 t n (par t a)=B6 t 20 (par t a):=by
    by_cases d:par t a<0
    .rw[LP d,LP d]
    .exact Oy h n 20 (par t a) U U U
   have q:=PJ hf j h 20 (par t a) U;rw[<-o]at q;have hb:(B6 t n (par t a)).length+(AA t.dl a).og.length<=AX:=b_
   rw [show(AA t.dl a).sx=par t a from rfl,fv hf j h n (par t a) U U U,bs,AP a_];simp only[bs,List.nil_append];rw[AP hb];rfl
def jz(hf:A2 t)(d:k<=t.dl.length)(h:E8 t k)(j:0<=a)(ha:a<k):OB t a=Y (A4 t a):=
 Dp (a+2).toNat λn o=>by
  grind [fv,A4,Oy]
end Go.Sf.Sc
namespace Go.Sf.Sc
open Go Go.Sf
def Ms(l:List ByteArray):Int:=
 if (20:Int)<l.length then 3 else(fst (λi=>if EN (AA l i)=T then Y 2 else if kp (λj=>AA l j==AA l i) 0 i=X then Y 5 else W) 0 l.length).getD 0
variable{b:Int}
def dz{l:List ByteArray}{x:ByteArray}(d:0<=b)(h:b<=l.length):(l.take b.toNat).contains x=kp (λj=>AA l j==x) 0 b:=by
 rw [List.contains_eq_any_beq,SH d h]
 grind
def vQ{l:List ByteArray}(q:∀x∈l,(x.size:Int)<=40):KU l=Y (Ms l):=by
 unfold KU Ms;by_cases d:(20:Int)<l.length
 .grind
 .rw[ae e?,ae d];rw[Bi (λi=>if EN (AA l i)=T then Y 2 else if kp (λj=>AA l j==AA l i) 0 i=X then Y 5 else W),DD];intro i h o _;have u:=q _ (AG h o);rw[AD h o,bs,SY U,bs,GW h U];simp only[bs,RQ,dz h (show i<=l.length by omega)];cases EN (AA l i)<;>cases kp (λj=>AA l j==AA l i) 0 i<;>rfl
def vp{l:List ByteArray}(q:∀x∈l,(x.size:Int)<=40):KG l=Y (Ms l):=by
 unfold KG Ms;by_cases d:(20:Int)<l.length
 .grind
 .rw[ae e?,ae d];rw[Bi (λi=>if EN (AA l i)=T then Y 2 else if kp (λj=>AA l j==AA l i) 0 i=X then Y 5 else W),DD];intro i h o _;have u:=q _ (AG h o);rw[AD h o,bs,SZ U,bs,Bq (λj=>AA l j==AA l i) 5]
  .cases EN (AA l i)<;>cases kp (λj=>AA l j==AA l i) 0 i<;>rfl
  grind [AD]
def NM(all:List ke)(k:Int):Int:=
 let x:=AA all k
 if EN x.kh=T then 2 else if kp (λj=>(AA all j).kh==x.kh) 0 k=X then 5 else
 if x.pf.length=0 then(if -1000000<=x.Low/\x.Low<=x.Aab/\x.Aab<=1000000 then 0 else 6)else
 if Ms x.pf≠0 then Ms x.pf else if x.Low=0/\x.Aab=x.pf.length-1 then 0 else 6
variable{k:Int}
def iS{d:List ke}(u:∀x∈d,T7 x)(q:0<=k)(w:k<d.length):GZ (AA d k) (d.take k.toNat)=Y (NM d k):=by
 have o:=u _ (AG q w);have B:=o.name;unfold GZ NM;dsimp only;rw[SY U,bs,show(λj=>Kd j (AA d k))=(λj=>Y (j.kh==(AA d k).kh))from rfl,uZ,bs,SH q U,vQ o.each,bs];have y:=o.names;have z:AJ ((AA d k).pf.length-1)=(AA d k).pf.length-1:=AU U U;rw[z];have A:(AA d k).pf.length=0->Ms (AA d k).pf=0:=λh=>by rw[List.eq_nil_of_length_eq_zero h];rfl
 generalize Ms (AA d k).pf=e at A|-;simp only[bs,qo,A!,mo,A?,decide_eq_false_iff_not,B_,B',B!,ne_eq]
 repeat' (first|rfl|(exfalso;omega;done)|split)
 all_goals (first|rfl|(exfalso;omega)|omega|simp_all|(simp_all;omega))
def iU{x:ke}(d:T7 x):GR x=Y (
 if x.pf.length=0 then(if -1000000<=x.Low/\x.Low<=x.Aab/\x.Aab<=1000000 then 0 else 6)else
 if Ms x.pf≠0 then Ms x.pf else if x.Low=0/\x.Aab=x.pf.length-1 then 0 else 6):=by
 have h:=d.names;have j:AJ (x.pf.length-1)=x.pf.length-1:=AU U U;unfold GR EJ;simp only[bs,j,vp d.each];generalize Ms x.pf=e;simp only[bs,qo,A!,mo,A?,decide_eq_false_iff_not,B_,B',B!,ne_eq]
 repeat' (first|rfl|(exfalso;omega;done)|split)
 all_goals (first|rfl|(exfalso;omega)|omega|simp_all|(simp_all;omega))
def JH(t:AC)(i:Int):Int:=
 let n:=AA t.dl i
 if EN n.kh=T then 2 else if kp (λj=>(AA t.dl j).kh==n.kh) 0 i=X then 5 else
 if n.sx< -1\/i<=n.sx then 6 else if 4<n.og.length\/8<(A4 t i).length then 3 else
 (fst (λk=>nz (NM (A4 t i) k)) ((A4 t i).length-n.og.length) (A4 t i).length).getD 0
variable{t:AC}{i:Int}
def YI(d:0<=i):(AA t.dl i).og.length<=(A4 t i).length:=by
 unfold A4;rw[show(i+1).toNat=i.toNat+1 by omega,B6,ae U,b6];omega
def E8.next(h:E8 t i)(o:-1<=par t i)(q:par t i<i):E8 t (i+1):=by
 intro j d u;by_cases w:j=i
 .grind
 .exact h j d U
def yO(hf:A2 t)(h:0<=i)(w:i<t.dl.length)(A:E8 t i):Lu t i=Y (JH t i):=by
 have C:=hf.name _ (AG h w);unfold Lu JH;dsimp only;rw[AD h w,bs,SY U,bs,GW h U,bs,show(λq=>Px q (AA t.dl i))=(λq=>Y (q.kh==(AA t.dl i).kh))from rfl,iI,bs,SH h U];cases EN (AA t.dl i).kh
 .rfl
 .cases kp (λj=>(AA t.dl j).kh==(AA t.dl i).kh) 0 i
  .by_cases hr:(AA t.dl i).sx< -1\/i<=(AA t.dl i).sx
   .rcases hr with hr|hr<;>simp[hr]
   .have d:E8 t (i+1):=A.next (by unfold par;omega) (by unfold par;omega)
    have u:(decide ((AA t.dl i).sx< -1)||decide (i<=(AA t.dl i).sx))=T:=by
     rw [B?];simpa using hr
    rw [jn hf (k:=i+1) U d h U,bs];have y:=IN hf (k:=i+1) (a:=i) U d U;have z:=YI (t:=t) h;have o:=PK hf (k:=i+1) (a:=i) U d U;rw[AU U U,Bi (λk=>nz (NM (A4 t i) k)),DD]
    .simp only[u,hr,C_,A',if_false];simp only[bs,qo,A!,mo,A?,decide_eq_false_iff_not,B_,B',B!,ne_eq]
     repeat' (first|rfl|(exfalso;omega;done)|split)
     all_goals (first|rfl|(exfalso;omega)|omega|simp_all|(simp_all;omega))
    .intro k B x _;rw[AD U x,bs,GW U U,bs,iS o U x,bs,N7]
  .rfl
def yg(hf:A2 t)(o:0<=i)(u:i<t.dl.length)(A:E8 t i):Lb t i=Y (JH t i):=by
 have E:=hf.name _ (AG o u);have F:=hf.ea;unfold Lb JH EJ;dsimp only;rw[AD o u,bs,SZ U,bs,Bq (λj=>(AA t.dl j).kh==(AA t.dl i).kh) 5]
 .cases EN (AA t.dl i).kh
  .rfl
  .cases kp (λj=>(AA t.dl j).kh==(AA t.dl i).kh) 0 i
   .simp only[C_,A',if_false,B8,bs];rw[AU U U];by_cases hr:(AA t.dl i).sx< -1\/i<=(AA t.dl i).sx
    .rw[ac,ae a!,ac hr];simp;omega
    .have d:E8 t (i+1):=A.next (by unfold par;omega) (by unfold par;omega)
     rw [ae an,ae a!,ae hr];rw[jz hf (k:=i+1) U d o U,bs];have x:=IN hf (k:=i+1) (a:=i) U d U;have y:=YI (t:=t) o;have h:=PK hf (k:=i+1) (a:=i) U d U;rw[AU U U];rw[Bi (λk=>nz (NM (A4 t i) k)),DD]
     .simp only[bs,qo,A!,mo,A?,decide_eq_false_iff_not,B_,B',B!,ne_eq]
      repeat' (first|rfl|(exfalso;omega;done)|split)
      all_goals (first|rfl|(exfalso;omega)|omega|simp_all|(simp_all;omega))
     .intro k w q _;have z:=h _ (AG (show 0<=k by omega) q);have C:=z.name;simp only[AD (show 0<=k by omega) q,bs];rw[SZ U,bs,Bq (λj=>(AA (A4 t i) j).kh==(AA (A4 t i) k).kh) 5]
      .rw[iU z];simp only[bs,N7];unfold NM;dsimp only;cases EN (AA (A4 t i) k).kh
       .rfl
       .cases kp (λj=>(AA (A4 t i) j).kh==(AA (A4 t i) k).kh) 0 k<;>rfl
      .intro j B D _;rw[AD B U,bs];split<;>rfl
   .rfl
 .intro j w q _;rw[AD w U,bs];split<;>rfl
def Mi(low high:Int):Bool:=((decide (0<=low))&&(decide (low<=40)))&&((decide (high=(-1)))||((decide (low<=high))&&(decide (high<=40))))
def vf(low high:Int):ME low high=Y (Mi low high):=by
 unfold ME Mi EJ
 grind
def LT(t:AC)(i:Int):Int:=
 let x:=AA t.dr i
 if EN x.kh=T then 2 else if kp (λj=>(AA t.dr j).kh==x.kh) 0 i=X then 5 else
 if (0<=x.ia/\x.ia<t.dl.length)/\(0<=x.To/\x.To<t.dl.length)/\Mi x.AaN x.Aay=X/\Mi x.Abg x.AaP=X then 0 else 6
def yF(hf:A2 t)(d:0<=i)(o:i<t.dr.length):Ls t i=Y (LT t i):=by
 have q:=hf.AbO _ (AG d o);unfold Ls LT NG;dsimp only;rw[AD d o,bs,SY U,bs,GW d U,bs,show(λh=>Pw h (AA t.dr i))=(λh=>Y (h.kh==(AA t.dr i).kh))from rfl,iH,bs,SH d U];simp[show∀a b,L7 a b=Y (Mi a b)from λ_ _=>rfl];generalize EN (AA t.dr i).kh=b1;generalize kp (λj=>(AA t.dr j).kh==(AA t.dr i).kh) 0 i=b2;generalize Mi (AA t.dr i).AaN (AA t.dr i).Aay=b3;generalize Mi (AA t.dr i).Abg (AA t.dr i).AaP=b4;cases b1
 .rfl
 grind
def yY(hf:A2 t)(o:0<=i)(q:i<t.dr.length):La t i=Y (LT t i):=by
 have u:=hf.AbO _ (AG o q);have w:=hf.ea;unfold La LT EJ;dsimp only;rw[AD o q,bs,SZ U,bs,Bq (λj=>(AA t.dr j).kh==(AA t.dr i).kh) 5]
 .simp only[AU (show -9223372036854775808<=(t.dl.length:Int)-1 by omega) U,vf,bs];generalize EN (AA t.dr i).kh=b1;generalize kp (λj=>(AA t.dr j).kh==(AA t.dr i).kh) 0 i=b2;generalize Mi (AA t.dr i).AaN (AA t.dr i).Aay=b3;generalize Mi (AA t.dr i).Abg (AA t.dr i).AaP=b4;cases b1
  .rfl
  .cases b2
   .cases b3<;>cases b4
    all_goals
     by_cases ha:0<=(AA t.dr i).ia/\(AA t.dr i).ia<t.dl.length
     .have d:(AA t.dr i).ia<=(t.dl.length:Int)-1:=U
      by_cases hb:0<=(AA t.dr i).To/\(AA t.dr i).To<t.dl.length
      .have h:(AA t.dr i).To<=(t.dl.length:Int)-1:=U
       simp [ha,hb,d,h,B8]
      .have:(decide (0<=(AA t.dr i).To)&&decide ((AA t.dr i).To<=(t.dl.length:Int)-1))=T:=f?
       simp [ha,hb,d,this,B8]
     .have:(decide (0<=(AA t.dr i).ia)&&decide ((AA t.dr i).ia<=(t.dl.length:Int)-1))=T:=f?
      simp [ha,this,B8]
   .rfl
 grind [AD]
def BD(t:AC):ByteArray×Int:=
 if t.dl.length=0 then(⟨#[]⟩,7)else if 12<t.dl.length\/20<t.dr.length then(⟨#[]⟩,3)else
 match fst (λi=>(nz (JH t i)).map λe=>((AA t.dl i).kh,e)) 0 t.dl.length with
 |some r=>r|none=>(fst (λi=>(nz (LT t i)).map λe=>((AA t.dr i).kh,e)) 0 t.dr.length).getD (⟨#[]⟩,0)
def oF(h:JH t i=0):-1<=par t i/\par t i<i:=by grind[JH,par,AA]
theorem Oq{α β:Type}{o:Option α}{g:α->β}:o.map g=W↔o=W:=by cases o<;>simp
def Xi(h:∀j,0<=j->j<i->JH t j=0):E8 t i:=λj d o=>oF (h j d o)
def Wb{ρ:Type}(e:Int)(n:ByteArray):(if(!decide (e=0))=X then Y (B2.ret (n,e))else Y (B2.next ()))=Y (TN ((nz e).map λe=>(n,e))):=by grind[nz,TN]
def O6(hf:A2 t):EE t=Y (BD t):=by
 unfold EE BD;rw[Bi (λi=>(nz (JH t i)).map λe=>((AA t.dl i).kh,e)),Dj]
 .rw[Bi (λi=>(nz (LT t i)).map λe=>((AA t.dr i).kh,e)),Dj]
  .cases fst (λi=>(nz (JH t i)).map λe=>((AA t.dl i).kh,e)) 0 t.dl.length<;>cases fst (λi=>(nz (LT t i)).map λe=>((AA t.dr i).kh,e)) 0 t.dr.length
   all_goals dsimp only
   all_goals try simp only[x!]
   all_goals
    simp only[bs,qo,A!,mo,A?,decide_eq_false_iff_not,B_,B',B!,ne_eq]
    repeat' (first|rfl|(exfalso;omega;done)|split)
    all_goals (first|rfl|(exfalso;omega)|omega|simp_all|(simp_all;omega))
  .intro i d h _;rw[AD d h,bs,yF hf d h,bs];exact Wb (ρ:=Unit) _ _
 .intro i d h u;have w:E8 t i:=Xi λj o q=>G9.1 (Oq.1 (u j o q));rw[AD d h,bs,yO hf d h w,bs];exact Wb (ρ:=Unit) _ _
def R7(hf:A2 t):Ej t=Y (BD t):=by
 unfold Ej BD;rw[Bi (λi=>(nz (JH t i)).map λe=>((AA t.dl i).kh,e)),Dj]
 .rw[Bi (λi=>(nz (LT t i)).map λe=>((AA t.dr i).kh,e)),Dj]
  .cases fst (λi=>(nz (JH t i)).map λe=>((AA t.dl i).kh,e)) 0 t.dl.length<;>cases fst (λi=>(nz (LT t i)).map λe=>((AA t.dr i).kh,e)) 0 t.dr.length
   all_goals dsimp only
   all_goals try simp only[x!]
   all_goals
    simp only[bs,qo,A!,mo,A?,decide_eq_false_iff_not,B_,B',B!,ne_eq]
    repeat' (first|rfl|(exfalso;omega;done)|split)
    all_goals (first|rfl|(exfalso;omega)|omega|simp_all|(simp_all;omega))
  .intro i d h _;simp only[yY hf d h,AD d h,bs];exact Wb (ρ:=Unit) _ _
 .intro i d h u;have w:E8 t i:=Xi λj o q=>G9.1 (Oq.1 (u j o q));simp only[yg hf d h w,AD d h,bs];exact Wb (ρ:=Unit) _ _
end Go.Sf.Sc
namespace Go.Sf.Sc
open Go Go.Sf
def JL{α:Type}{c:Bool}{a b:α}:(if c=X then Y a else Y b)=Y (if c=X then a else b):=by cases c<;>rfl
def OV(n:Int):Bool:=(decide (0<=n))&&(decide (n<=99))
def UO(e:B0)(n:Int):Bool:=OV e.ib&&(decide (0<=e.ia)&&decide (e.ia<n))&&(decide (0<=e.To)&&decide (e.To<n))
def CG(g:d3):Int:=
 if 40<g.dl.length\/80<g.dr.length then 3 else if(g.dl.any λn=>!OV n)=X then 6 else if(g.dr.any λe=>!UO e g.dl.length)=X then 6 else 0
structure Cu(g:d3):Prop where
 ea:g.dl.length<=40
 eb:g.dr.length<=80
 kind:∀n∈g.dl,0<=n/\n<=99
 fit:∀e∈g.dr,(0<=e.ib/\e.ib<=99)/\(0<=e.ia/\e.ia<g.dl.length)/\(0<=e.To/\e.To<g.dl.length)
variable{g:d3}
theorem DY(h:CG g=0):Cu g:=by
 unfold CG at h;split at h
 .cases h
 .split at h
  .cases h
  .split at h
   .cases h
   .rename_i q j d;refine⟨U,U,λn o=>?_,λe he=>?_⟩
    .rw[C',D!]at j
     grind [OV]
    .rw[C',D!]at d;have:=d e he;simp[UO,OV,A?,qo]at this;omega
variable{n:Nat}
theorem yI{e:B0}(h:n<=40):PU e n=Y (UO e n):=by
 unfold PU Ix UO OV;simp only[bs,AU (show -9223372036854775808<=(n:Int)-1 by omega) U];have d:decide (e.ia<=(n:Int)-1)=decide (e.ia<n):=i_
 have j:decide (e.To<=(n:Int)-1)=decide (e.To<n):=i_
 rw [d,j];generalize (decide (0<=e.ib)&&decide (e.ib<=99))=b1;generalize (decide (0<=e.ia)&&decide (e.ia<n))=b2;cases b1<;>cases b2<;>simp
def NZ(g:d3):DV g=Y (CG g):=by
 unfold DV CG;by_cases h:40<g.dl.length\/80<g.dr.length
 .grind
 .rw[ae an,ae h,show OT=(λn=>Y (!OV n))from rfl,dt,jC (p:=λe=>!UO e g.dl.length) (λe _=>by
   grind [OU,yI])]
  grind
def Na(g:d3):EC g=Y (CG g):=by
 unfold EC CG;by_cases h:40<g.dl.length\/80<g.dr.length
 .grind
 .rw[ae an,ae h,Jb,Jb,Bq (λi=>!OV (AA g.dl i)) 6]
  .rw[Bq (λi=>!UO (AA g.dr i) g.dl.length) 6]
   .cases kp (λi=>!OV (AA g.dl i)) 0 g.dl.length
    .cases kp (λi=>!UO (AA g.dr i) g.dl.length) 0 g.dr.length<;>rfl
    .rfl
   .intro i d j _;rw[AD d j,bs];unfold Qj UO;simp[show∀n,Nc n=Y (OV n)from λ_=>rfl]
    grind
  grind [AD,Nc,AA,OV]
def C5(t:AC)(g:d3):Bool:=!(g.dl.any λn=>decide (t.dl.length<=n))&&!(g.dr.any λe=>decide (t.dr.length<=e.ib))
variable{t:AC}
theorem H9(d:Cu g)(h:C5 t g=X):(∀n∈g.dl,0<=n/\n<t.dl.length)/\∀e∈g.dr,0<=e.ib/\e.ib<t.dr.length:=by
 unfold C5 at h;simp[A?,qo]at h;refine⟨λn j=>?_,λe he=>?_⟩
 .have:=h.1 n j;have:=d.kind n j;omega
 .have:=h.2 e he;have:=d.fit e he;omega
def va(t:AC)(g:d3):Lj t g=Y (C5 t g):=by grind[Lj,C5,Pq,dt,Pr,B0,jD]
theorem Zw(j:Cu g):If t g=Y (C5 t g):=by
 unfold If C5;rw[Jb,Jb,Bq (λi=>decide (t.dl.length<=AA g.dl i)) T]
 .rw[Bq (λi=>decide (t.dr.length<=(AA g.dr i).ib)) T]
  .cases kp (λi=>decide (t.dl.length<=AA g.dl i)) 0 g.dl.length
   .cases kp (λi=>decide (t.dr.length<=(AA g.dr i).ib)) 0 g.dr.length<;>rfl
   .rfl
  .intro i d h _;have:=(j.fit _ (AG d h)).1.1;simp[AD d h]
   grind
 .intro i d h _;have:=(j.kind _ (AG d h)).1;simp[AD d h]
  grind
structure Ft(t:AC):Prop where
 ea:t.dl.length<=12
 eb:t.dr.length<=20
 node:∀i:Int,0<=i->i<t.dl.length->JH t i=0
 edge:∀i:Int,0<=i->i<t.dr.length->LT t i=0
def Cw(h:(BD t).2=0):Ft t:=by
 unfold BD at h;split at h
 .cases h
 .split at h
  .cases h
  .rename_i u w;have d:∀i:Int,0<=i->i<t.dl.length->JH t i=0:=by
    grind [Cd,nz,G9,Oq,A8]
   have he:∀i:Int,0<=i->i<t.dr.length->LT t i=0:=by
    split at h
    next r hr=>obtain⟨i,o,q,j,_⟩:=Cd hr;rw[d i o q]at j;cases j
    .cases hr:fst (λi=>(nz (LT t i)).map λe=>((AA t.dr i).kh,e)) 0 t.dr.length with
     |some r=>
      grind [Cd,nz]
     |none=>
      grind [G9,Oq,A8]
   exact ⟨U,U,d,he⟩
def Ft.par(h:Ft t):E8 t t.dl.length:=Xi h.node
variable{i:Int}
def Ft.ends(h:Ft t)(d:0<=i)(j:i<t.dr.length):(0<=(AA t.dr i).ia/\(AA t.dr i).ia<t.dl.length)/\(0<=(AA t.dr i).To/\(AA t.dr i).To<t.dl.length):=by
 have:=h.edge i d j
 grind [LT]
def MQ(t:AC)(a:Int):Bool:=decide (0<=a)&&decide (a<t.dl.length)
variable{a:Int}
theorem NW:MQ t a=X↔0<=a/\a<t.dl.length:=by unfold MQ;simp
def Zr(hf:A2 t)(l:Fp):Hc t l=Y (if(BD t).2≠0 then(BD t).2 else if(l.all (MQ t))=X then 0 else 6):=by
 unfold Hc;rw[O6 hf,bs,SK (p:=λa=>!MQ t a) (λa _=>by unfold Oh MQ;rw[show decide (a<0)=!decide (0<=a)from by rw[<-decide_not,decide_eq_decide];omega,show decide ((t.dl.length:Int)<=a)=!decide (a<t.dl.length)from by rw[<-decide_not,decide_eq_decide];omega,Bool.not_and]),bs]
 grind
def j6(hf:A2 t)(a b:Int):Ib t a b=Y (if(BD t).2≠0 then(BD t).2 else if(MQ t a&&MQ t b)=X then 0 else 6):=by
 have d:=hf.ea;have e:∀a,decide (a<=(t.dl.length:Int)-1)=decide (a<(t.dl.length:Int)):=λa=>i_
 unfold Ib EJ;rw[R7 hf,bs]
 grind [AU,BD,MQ]
def pM{α:Type}[Inhabited α]{l:List α}(d:0<=i)(h:i<l.length):BE l i (AA l i)=l:=by grind[BE,AA,D?,List.set_getElem_self]
theorem Ba{α:Type}[Inhabited α]{l:List α}(d:0<=i)(h:i<l.length):l.take (i+1).toNat=l.take i.toNat++[AA l i]:=by
 unfold AA;rw[show(i+1).toNat=i.toNat+1 by omega,List.take_add_one,E_,D? U];rfl
theorem BZ{α:Type}{l:List α}(h:l.length<=AX):AY [] l=Y l:=by grind[AP]
def Fw(t:AC)(a:Int):List ke×Int:=if(BD t).2≠0 then([],(BD t).2)else if MQ t a=X then(A4 t a,0)else([],6)
def Ts(hf:A2 t)(a:Int):FO t a=Y (Fw t a):=by
 unfold FO Fw;rw[Zr hf,bs];by_cases h:(BD t).2=0
 .have j:=Cw h;have e:[a].all (MQ t)=MQ t a:=V
  rw [e];simp[h];cases hi:MQ t a
  .rfl
  .rw[ac rfl,ac rfl];have hr:=NW.1 hi;have C:=IN hf (y? _) j.par hr.2;have A:=PK hf (y? _) j.par hr.2;rw[ae a!,jn hf (y? _) j.par hr.1 hr.2,bs];obtain⟨s',B,rfl⟩:=Om (f:=(λ(o:Int)(q:List ke)=>
 (idx q o).bind λu=>
 (slices_Clone_string u.pf).bind λw=>
 (idx q o).bind λd=>
 Y (BE q o (ke.mk d.kh d.Low d.Aab w)))) (λ_ s=>s=A4 t a) (a:=0) (b:=(A4 t a).length) (s:=A4 t a) U rfl (λi s x y z=>by
     subst z;have:=(A _ (AG x y)).names;refine⟨A4 t a,?_,rfl⟩;unfold slices_Clone_string;rw[AD x y,bs,BZ b_,bs,bs];congr 1;exact pM x y)
   rw [B];rfl
 .simp[h,not_false_eq_true,decide_false]
def O7(hf:A2 t)(a:Int):Dz t a=Y (Fw t a):=by
 unfold Dz Fw;rw[j6 hf,bs];by_cases h:(BD t).2=0
 .have d:=Cw h;rw[C!];simp only[h,ne_eq,not_true_eq_false,if_false];cases hi:MQ t a
  .rfl
  .rw[ac rfl,ac rfl];have hr:=NW.1 hi;have u:=IN hf (y? _) d.par hr.2;have q:=PK hf (y? _) d.par hr.2;rw[ae a!,jz hf (y? _) d.par hr.1 hr.2,bs];rw[Bo (λi=>(A4 t a).take i.toNat) U V]
   .rw[bs,z_,E']
   .intro i j o;have:=(q _ (AG j o)).names;rw[AD j o,bs,BZ b_,bs,AP (by rw[bk];simp;unfold AX;omega),Ba j o];rfl
 grind
def EM(h:Cu g):CG g=0:=by
 have:=h.ea;have:=h.eb;unfold CG;rw[ae U,ae,ae]
 .intro k;obtain⟨e,he,k⟩:=E!.1 k;have:=h.fit e he;simp[UO,OV]at k;omega
 .intro k;obtain⟨n,d,k⟩:=E!.1 k;have:=h.kind n d;simp[OV]at k;omega
end Go.Sf.Sc
namespace Go.Sf.Sc
open Go Go.Sf
def K6(t:AC):Nat->Int->Fp
 |0,_=>[]|n+1,a=>if a<0 then[]else a::K6 t n (par t a)
variable{t:AC}{k:Int}
def px(h:E8 t k):∀(n m:Nat)(a:Int),a<k->a<n->a<m->K6 t n a=K6 t m a
 |n,m,a,j,o,q=>by
  by_cases d:a<0
  .cases n<;>cases m<;>simp[K6,d]
  .cases n with
   |zero=>omega|succ n=>
    cases m with
    |zero=>omega|succ m=>
     rw [K6,K6,ae d,ae d];have:=h a U j;rw[px h n m (par t a) U U U]
def kR(t:AC):∀(n:Nat)(a:Int),(K6 t n a).length<=n
 |0,_=>by simp[K6]|n+1,a=>by
  rw [K6];split
  .simp
  .have:=kR t n (par t a);simp;omega
def HI(t:AC)(a b:Int):Bool:=(K6 t (a+1).toNat a).any λx=>decide (b=x)
def ja(h:t.dl.length<=12)(u:E8 t t.dl.length):∀(n:Nat)(a:Int)(l:Fp),a<t.dl.length->a<n->l.length+n<=1000 ->
  ∃x,Mc (ρ:=Fp) (λ(d:Int×Fp)=>
 if (decide (0<=d.1))=X then
 (AY d.2 [d.1]).bind λj=>
 (idx t.dl d.1).bind λo=>
 Y (.next (o.sx,j))
 else
 Y (.brk (d.1,d.2))) (a,l) (.inl (x,l++K6 t n a))
 |0,a,l,q,w,_=>by
  refine ⟨a,.brk ?_⟩
  grind [K6]
 |n+1,a,l,q,w,B=>by
  by_cases y:a<0
  .refine⟨a,.brk ?_⟩
   grind [K6]
  .have z:=u a U q;obtain⟨x,A⟩:=ja h u n (par t a) (l++[a]) U U an;refine⟨x,.next (s':=(par t a,l++[a])) ?_ ?_⟩
   .rw[ac an,AP a_,bs,AD U q];rfl
   grind [K6,par]
variable{a b:Int}
theorem rV(h:Ft t)(ha:0<=a)(d:a<t.dl.length):Lt t a b=Y (HI t a b):=by
 have j:=h.ea;obtain⟨x,o⟩:=ja j h.par (a+1).toNat a [] d U an;have q:=kR t (a+1).toNat a;unfold Lt Ns;rw[o.eq,B8]
 grind [slices_Reverse_int,AX,Mj,HI]
def Xm(d:E8 t t.dl.length)(hb:0<=b):∀(n m:Nat)(a:Int),-1<=a->a<t.dl.length->a+1<n->a<m->D7 n t a b=Y ((K6 t m a).any λx=>decide (b=x))
 |0,_,_,_,_,_,_=>by omega|n+1,m,a,o,h,q,u=>by
  rw [D7];by_cases ha:a<0
  .rw[ae an,ae an];cases m<;>simp[K6,ha]
  .cases m with
   |zero=>omega|succ m=>
    have j:=d a U h;rw[K6,ae ha,E?,ac (show decide (0<=a)=X by simp;omega),AD U h];simp;rw[show(AA t.dl a).sx=par t a from rfl,Xm d hb n m (par t a) U U U U]
    grind
def Wl(h:Ft t)(ha:0<=a)(d:a<t.dl.length)(hb:0<=b):FL t a b=Y (HI t a b):=
 Dp (a+2).toNat λn j=>Xm h.par hb n (a+1).toNat a U d U U
def LV(t:AC)(e f g:Int):Bool:=
 decide ((BD t).2=0)&&(MQ t f&&MQ t g)&&(decide (0<=e)&&decide (e<t.dr.length))&&(HI t f (AA t.dr e).ia&&HI t g (AA t.dr e).To)
def oM(hf:A2 t)(e f g:Int):J7 t e f g=Y (LV t e f g):=by
 unfold J7 LV;rw[Zr hf,bs,show[f,g].all (MQ t)=(MQ t f&&MQ t g)by simp];by_cases h:(BD t).2=0
 .simp only[h,ne_eq,not_true_eq_false,if_false];have d:=Cw h;cases hi:(MQ t f&&MQ t g)
  .rfl
  .rw[mo,NW,NW]at hi;by_cases he:0<=e/\e<t.dr.length
   .rw[ae an,AD he.1 he.2];simp[rV d hi.1.1 hi.1.2,rV d hi.2.1 hi.2.2,he.1,he.2,decide_true]
    grind
   grind
 .simp[h]
def Y6(hf:A2 t)(e f g:Int):HT t e f g=Y (LV t e f g):=by
 have u:=hf.eb;unfold HT LV EJ;rw[j6 hf,bs];by_cases h:(BD t).2=0
 .simp only[h,ne_eq,not_true_eq_false,if_false];have d:=Cw h;cases hi:(MQ t f&&MQ t g)
  .rfl
  .rw[mo,NW,NW]at hi;rw[AU U U];simp only[bs];by_cases he:0<=e/\e<t.dr.length
   .have j:=d.ends he.1 he.2;have o:e<=(t.dr.length:Int)-1:=U
    rw [ae V,bs,ae (by simp[he.1,o]),AD he.1 he.2];simp[Wl d hi.1.1 hi.1.2 j.1.1,Wl d hi.2.1 hi.2.2 j.2.1,he.1,he.2,decide_true];cases HI t f (AA t.dr e).ia<;>rfl
   .have:(decide (0<=e)&&decide (e<t.dr.length))=T:=by rw[B?];simpa using he
    have q:(decide (0<=e)&&decide (e<=(t.dr.length:Int)-1))=T:=f?
    rw [this,q];simp
 .simp[h]
def Og(n:Int)(x:gl):Bool:=(((decide ((-1)<=x.Var))&&(decide (x.Var<n)))&&(decide ((-1000000)<=x.Add)))&&(decide (x.Add<=1000000))
def Lq(n:Int)(x:Test):Int:=if¬x.kg=1/\¬x.kg=2 then 1 else if(Og n x.f0&&Og n x.eh)=X then 0 else 6
def J6(n:Int)(l:List Test):Int:=if n<0\/12<n then 6 else if 40<l.length then 3 else(fst (λi=>nz (Lq n (AA l i))) 0 l.length).getD 0
def yR(n:Int)(x:Test):Kl n x=Y (Lq n x):=by
 unfold Kl Lq;simp only[show∀n x,Jg n x=Y (Og n x)from λ_ _=>rfl,bs];generalize Og n x.f0=b1;generalize Og n x.eh=b2;cases b1<;>cases b2
 all_goals
  simp only[bs,qo,A!,mo,A?,decide_eq_false_iff_not,B_,B',B!,ne_eq]
  repeat' (first|rfl|(exfalso;omega;done)|split)
  all_goals (first|rfl|(exfalso;omega)|omega|simp_all|(simp_all;omega))
def rx(n:Int)(x:gl):Kv n x=Y (if Og n x=X then 0 else 6):=by
 unfold Kv Og;simp only[bs,qo,A!,mo,A?,decide_eq_false_iff_not,B_,B',B!,ne_eq]
 repeat' (first|rfl|(exfalso;omega;done)|split)
 all_goals (first|rfl|(exfalso;omega)|omega|simp_all|(simp_all;omega))
def yl(n:Int)(x:Test):Q7 n x=Y (Lq n x):=by
 unfold Q7 Lq;simp only[rx,bs];generalize Og n x.f0=b1;generalize Og n x.eh=b2;cases b1<;>cases b2
 all_goals
  simp only[bs,qo,A!,mo,A?,decide_eq_false_iff_not,B_,B',B!,ne_eq]
  repeat' (first|rfl|(exfalso;omega;done)|split)
  all_goals (first|rfl|(exfalso;omega)|omega|simp_all|(simp_all;omega))
def vZ(n:Int)(l:List Test):Iv n l=Y (J6 n l):=by
 unfold Iv J6;rw[Bi (λi=>nz (Lq n (AA l i))),DD]
 .simp only[bs,qo,A!,mo,A?,decide_eq_false_iff_not,B_,B',B!,ne_eq]
  repeat' (first|rfl|(exfalso;omega;done)|split)
  all_goals (first|rfl|(exfalso;omega)|omega|simp_all|(simp_all;omega))
 .intro i d h _;rw[AD d h,bs,yR,bs,N7]
def vw(n:Int)(l:List Test):OA n l=Y (J6 n l):=by
 unfold OA J6;rw[Bi (λi=>nz (Lq n (AA l i))),DD]
 .simp only[bs,qo,A!,mo,A?,decide_eq_false_iff_not,B_,B',B!,ne_eq]
  repeat' (first|rfl|(exfalso;omega;done)|split)
  all_goals (first|rfl|(exfalso;omega)|omega|simp_all|(simp_all;omega))
 .intro i d h _;rw[AD d h,bs,yl,bs,N7]
def Ss(t:AC)(p:d6)(node ix:Int):ke×Bool:=
 if node<0\/p.d3.dl.length<=node then(default,T)else
 let l:=(Fw t (AA p.d3.dl node)).1
 if ix<0\/l.length<=ix then(default,T)else(AA l ix,X)
def UF(hf:A2 t)(a:Int):(Fw t a).1.length<=600/\((Fw t a).2≠0->(Fw t a).1=[]):=by
 unfold Fw;split
 .simp
 .rename_i h;have d:=Cw (t:=t) U;split
  next hi=>exact⟨IN hf (y? _) d.par (NW.1 hi).2,V⟩
  .simp
variable{p:d6}
def vH(hf:A2 t)(d:Cu p.d3)(s:CF):G2 t p s=Y (Ss t p s.mL s.ke):=by
 have o:=d.ea;unfold G2 Ss C8;dsimp only;rw[AU U U,bs];by_cases h:s.mL<0\/p.d3.dl.length<=s.mL
 .rw[ac an,ac h];rfl
 .rw[ae an,ae h,AD U U,bs,Ts hf,bs];have q:=(UF hf (AA p.d3.dl s.mL)).1;rw[AU U U,bs];by_cases j:s.ke<0\/(Fw t (AA p.d3.dl s.mL)).1.length<=s.ke
  .rw[ac an,ac j];rfl
  grind [AD]
def ve(hf:A2 t)(node d:Int):Lg t p node d=Y (Ss t p node d):=by
 unfold Lg Ss;dsimp only;by_cases h:node<0\/p.d3.dl.length<=node
 .rw[ac an,ac h];rfl
 .rw[ae an,ae h,AD U U,bs,O7 hf,bs];have o:=(UF hf (AA p.d3.dl node)).2;by_cases j:d<0\/(Fw t (AA p.d3.dl node)).1.length<=d
  .rw[ac an,ac j];rfl
  grind [Fw,AA,AD]
end Go.Sf.Sc
namespace Go.Sf
variable{σ ρ:Type}
def ZH(s:σ)(o:Option ρ):B2 σ ρ:=match o with
 |none=>.next s|some r=>.ret r
def kG(s:σ)(o:Option ρ):σ ⊕ ρ:=match o with
 |none=>.inl s|some r=>.inr r
def eT{f:Int->σ->Option (B2 σ ρ)}(g:Int->σ)(c:Int->Option ρ):∀(n:Nat)(a:Int),
  (∀i,a<=i->i<a+n->(∀j,a<=j->j<i->c j=W)->f i (g i)=Y (ZH (g (i+1)) (c i)))->t5 f n a (g a)=Y (kG (g (a+n)) (GA c n a))
 |0,a,_=>by simp[t5,GA,kG]|n+1,a,h=>by
  have q:=h a (y? _) U (λj d o=>U);rw[GO,q,GA];cases y:c a with
  |some r=>rfl|none=>
   simp only[ZH];rw[show a+((n+1:Nat):Int)=a+1+n by omega];refine eT g c n (a+1) (λi d o u=>h i U U (λj w x=>?_))
   grind
variable{a b:Int}
def El{f:Int->σ->Option (B2 σ ρ)}(g:Int->σ)(c:Int->Option ρ){s:σ}(d:a<=b)(o:s=g a)(h:∀i,a<=i->i<b->(∀j,a<=j->j<i->c j=W)->f i (g i)=Y (ZH (g (i+1)) (c i))):hV f a b s=Y (kG (g b) (fst c a b)):=by
 subst o;unfold hV fst;have:=eT g c (b-a).toNat a (λi q w u=>h i q U u)
 grind
variable{α:Type}
variable{e:Int}
def ET{ζ:a5}{δ:Int}(h:e=0->ζ=Y δ):(if(!decide (e=0))=X then Y e else ζ)=Y (if e≠0 then e else δ):=n_
variable{v:α}{ζ:Option α}{δ:α}
def D1(h:e=0->ζ=Y δ):(if(!decide (e=0))=X then Y v else ζ)=Y (if e≠0 then v else δ):=n_
variable{P:Prop}
def Qz[Decidable P]{b:Bool}(hb:b=X↔P)(h:¬P->ζ=Y δ):(if b=X then Y v else ζ)=Y (if P then v else δ):=n_
def YM{b:Bool}(h:b=X->ζ=Y δ):(if(!b)=X then Y v else ζ)=Y (if b=T then v else δ):=n_
def du{b:Bool}(h:b=T->ζ=Y δ):(if b=X then Y v else ζ)=Y (if b=X then v else δ):=n_
end Go.Sf
namespace Go.Sf.Sc
open Go Go.Sf
def TO(t:AC)(p:d6)(s:CF):Bool:=!(Ss t p s.mL s.ke).2||decide (s.gl.Var< -1)||decide (p.em<=s.gl.Var)||(decide (s.gl.Add< -1000000)||decide (1000000<s.gl.Add))
def IS(p:d6)(v:Int):Bool:=p.ei.any λs=>decide (s.gl.Var=v)
def FK(t:AC)(p:d6):Int:=
 if (BD t).2≠0 then(BD t).2 else if CG p.d3≠0 then CG p.d3 else if C5 t p.d3=T then 13 else
 if p.em<0\/12<p.em then 6 else if 10<p.ei.length\/10<p.jj.length then 3 else
 if (p.ei.any (TO t p))=X then 6 else if J6 p.em p.jj≠0 then J6 p.em p.jj else
 if kp (λv=>!IS p v) 0 p.em=X then 9 else 0
def Lv(p:d6)(i:Int):a6:=(F_ p.em.toNat).map λ(v:Nat)=>(p.ei.take i.toNat).any λs=>decide (s.gl.Var=(v:Int))
variable{p:d6}
def md:Lv p 0=F! p.em.toNat T:=by
 unfold Lv;refine F? V (λn d h=>V)
def pz(p:d6)(i:Int):(Lv p i).length=p.em.toNat:=by simp[Lv]
variable{i:Int}
def p5(d:0<=i)(h:i<p.ei.length)(hv:0<=(AA p.ei i).gl.Var):BE (Lv p i) (AA p.ei i).gl.Var X=Lv p (i+1):=by
 unfold BE;refine F? (by simp[Lv]) (λn j o=>?_);simp[Lv,Ba d h]
 grind
def mc(d:0<=i)(h:i<p.ei.length)(hv:(AA p.ei i).gl.Var<0):Lv p i=Lv p (i+1):=by
 refine F? (by simp[Lv]) (λn j o=>?_);simp[Lv,Ba d h]
 grind
def py(p:d6):((Lv p p.ei.length).any λx=>T==x)=kp (λv=>!IS p v) 0 p.em:=by
 rw [z?,E!,Cz];simp only[Lv,z_,E',G_,G!];constructor
 .rintro⟨x,⟨v,hv,rfl⟩,d⟩;refine⟨v,U,U,?_⟩
  grind [IS]
 .rintro⟨v,h,j,d⟩;refine⟨_,⟨v.toNat,U,rfl⟩,?_⟩
  grind [Int.toNat_of_nonneg,IS]
def jT{α ρ:Type}[Inhabited α]{l:List α}{q:α->Bool}{v:ρ}:fst (λi=>if q (AA l i)=X then Y v else W) 0 l.length=if l.any q=X then Y v else W:=by
 rw [O0,Jb]
variable{t:AC}
def Yz(hf:A2 t)(p:d6):Dx t p=Y (FK t p):=by
 unfold Dx FK;rw[O6 hf,bs,NZ,bs];refine ET λF=>ET λD=>?_;have x:=DY D;have e:((BG p.d3.dl (λd=>ID d t)).bind λo=>
   (if o=X then Y X else((Bs p.d3.dr (λd=>IE d t)).bind λq=>Y (q))))=Y (!C5 t p.d3):=by
  unfold C5;rw[show(λd=>ID d t)=(λ(n:Int)=>Y (decide (t.dl.length<=n)))from rfl,dt,show(λd=>IE d t)=(λ(e:B0)=>Y (decide (t.dr.length<=e.ib)))from rfl,jD];simp only[bs];cases p.d3.dl.any λn=>decide (t.dl.length<=n)<;>simp
 rw [<-y_,e,bs];refine YM λE=>?_;unfold C8;simp only[bs];refine Qz i9 λhv=>Qz i9 λG=>?_;unfold Gg;rw[ac U,bs,<-md,AU (show -9223372036854775808<=p.em-1 by omega) U,El (Lv p) (λi=>if TO t p (AA p.ei i)=X then Y 6 else W) U rfl,jT]
 .cases hb:p.ei.any (TO t p)
  .simp only[A',if_false,kG,B8,vZ,bs,ub,py];by_cases h:J6 p.em p.jj=0
   .simp[h];cases kp (λv=>!IS p v) 0 p.em<;>rfl
   .simp[h]
  .rfl
 .intro i u w _;rw[AD u w,bs,vH hf x,bs];unfold TO;by_cases hb:(Ss t p (AA p.ei i).mL (AA p.ei i).ke).2=X
  .by_cases C:(AA p.ei i).gl.Var< -1\/p.em<=(AA p.ei i).gl.Var
   .have y:(decide (-1<=(AA p.ei i).gl.Var)&&decide ((AA p.ei i).gl.Var<=p.em-1))=T:=f?
    have z:(decide ((AA p.ei i).gl.Var< -1)||decide (p.em<=(AA p.ei i).gl.Var))=X:=an
    rw [hb,y,C? (!X),z];rfl
   .have y:(decide (-1<=(AA p.ei i).gl.Var)&&decide ((AA p.ei i).gl.Var<=p.em-1))=X:=an
    have z:(decide ((AA p.ei i).gl.Var< -1)||decide (p.em<=(AA p.ei i).gl.Var))=T:=f?
    rw [hb,y,C? (!X),z];by_cases ha:(AA p.ei i).gl.Add< -1000000\/1000000<(AA p.ei i).gl.Add
    .have A:(decide (-1000000<=(AA p.ei i).gl.Add)&&decide ((AA p.ei i).gl.Add<=1000000))=T:=f?
     have B:(decide ((AA p.ei i).gl.Add< -1000000)||decide (1000000<(AA p.ei i).gl.Add))=X:=an
     rw [A,B];rfl
    .have A:(decide (-1000000<=(AA p.ei i).gl.Add)&&decide ((AA p.ei i).gl.Add<=1000000))=X:=an
     have B:(decide ((AA p.ei i).gl.Add< -1000000)||decide (1000000<(AA p.ei i).gl.Add))=T:=f?
     rw [A,B];by_cases j:0<=(AA p.ei i).gl.Var
     .simp[j,decide_true];rw[AD j (by rw[pz];omega),bs,p5 u w j];rfl
     .simp[j,decide_false];rw[mc u w U];rfl
  .rw[C']at hb;rw[hb];rfl
def uC(p:d6)(v:Int):M1 p v=Y (IS p v):=by
 unfold M1 IS;rw[Bq (λi=>decide ((AA p.ei i).gl.Var=v)) X,Jb]
 .cases kp (λi=>decide ((AA p.ei i).gl.Var=v)) 0 p.ei.length<;>rfl
 .intro i d h _;rw[AD d h,bs,JL]
def dM(hf:A2 t)(p:d6):GF t p=Y (FK t p):=by
 unfold GF FK;rw[R7 hf,bs,Na,bs];refine ET λw=>ET λq=>?_;have h:=DY q;rw[Zw h,bs];refine YM λu=>Qz i9 λhv=>Qz i9 λx=>?_;rw[Bq (λi=>TO t p (AA p.ei i)) 6,<-Jb]
 .cases hb:p.ei.any (TO t p)
  .simp only[A',if_false,B8,vw,bs];by_cases d:J6 p.em p.jj=0
   .simp only[d];rw[Bq (λv=>!IS p v) 9]
    .cases kp (λv=>!IS p v) 0 p.em<;>rfl
    .intro i j o _;rw[uC,bs,JL]
   .simp[d]
  .rfl
 .intro i j o _;rw[AD j o,bs,ve hf,bs];unfold TO OY
  grind
def Oe(t:AC)(p:d6)(i:Int):Int:=
 let s:=AA p.ei i
 if s.mL<0\/p.d3.dl.length<=s.mL then 6 else
 let l:=(Fw t (AA p.d3.dl s.mL)).1
 if ((((((decide (s.ke<0))||(decide ((l.length:Int)<=s.ke)))||(decide (s.gl.Var<(-1))))||(decide (p.em<=s.gl.Var)))||(decide (s.gl.Add<(-1000000))))||(decide (1000000<s.gl.Add)))=X then 6 else
 if kp (λj=>(decide ((AA p.ei j).mL=s.mL))&&(decide ((AA p.ei j).ke=s.ke))) 0 i=X then 5 else 0
theorem yQ(hf:A2 t)(r:ey)(d:0<=i)(j:i<r.eh.ei.length):M9 t r i=Y (Oe t r.eh i):=by
 unfold M9 Oe;dsimp only;rw[AD d j,bs];refine Qz V λh=>?_;rw[AD U U,bs,Ts hf,bs,GW d U,bs,
  show (λo=>Qs o (AA r.eh.ei i))=(λy=>Y ((decide (y.mL=(AA r.eh.ei i).mL))&&(decide (y.ke=(AA r.eh.ei i).ke))))from rfl,jE,bs,SH d U]
 grind
theorem yj(hf:A2 t)(p:d6)(d:0<=i)(o:i<p.ei.length):Lh t p i=Y (Oe t p i):=by
 unfold Lh Oe;dsimp only;rw[AD d o,bs];refine Qz V λh=>?_;rw[AD U U,bs,O7 hf,bs,
  Bq (λj=>(decide ((AA p.ei j).mL=(AA p.ei i).mL))&&(decide ((AA p.ei j).ke=(AA p.ei i).ke))) 5]
 .refine du λ_=>?_;cases kp (λj=>(decide ((AA p.ei j).mL=(AA p.ei i).mL))&&(decide ((AA p.ei j).ke=(AA p.ei i).ke))) 0 i<;>rfl
 grind [AD,AA,ke]
def Jz(t:AC)(r:ey):Int:=
 if CG r.eh.d3≠0 then CG r.eh.d3 else if C5 t r.eh.d3=T then 13 else
 if r.eh.em≠r.f0.em\/0<r.eh.jj.length then 1 else if 10<r.eh.ei.length then 3 else
 (fst (λi=>nz (Oe t r.eh i)) 0 r.eh.ei.length).getD 0
def vT(hf:A2 t)(r:ey):Li t r=Y (Jz t r):=by
 unfold Li Jz;rw[NZ,bs,va,bs,Bi (λi=>nz (Oe t r.eh i)),DD]
 .grind
 grind [yQ,N7]
def vr(hf:A2 t)(r:ey):KP t r=Y (Jz t r):=by
 unfold KP Jz;rw[Na,bs];refine ET λd=>?_;rw[Zw (DY d),bs,Bi (λi=>nz (Oe t r.eh i)),DD]
 .grind
 grind [yj,N7]
end Go.Sf.Sc
namespace Go.Sf
variable{a b:Int}
def lK{ρ:Type}{c d:Int->Option ρ}(h:∀i,c i=d i):fst c a b=fst d a b:=by rw[funext h]
def Dh(l:Fp)(v:Int):Int:=(fst (λi=>if decide (v=AA l i)=X then Y i else W) 0 l.length).getD (-1)
variable{l:Fp}
theorem Hu{v:Int}(h:v∈l):0<=Dh l v/\Dh l v<l.length/\AA l (Dh l v)=v/\∀j,0<=j->j<Dh l v->AA l j≠v:=by
 unfold Dh;cases hf:fst (λi=>if decide (v=AA l i)=X then Y i else W) 0 l.length with
 |none=>
  grind [BP,A8]
 |some k=>
  grind [Cd,AA]
variable{R:Int->Int->Prop}
theorem Ia(h:l.Pairwise R){i j:Int}(d:0<=i)(o:i<j)(q:j<l.length):R (AA l i) (AA l j):=by grind[G?,AA,D?]
theorem Wt(h:∀i j:Int,0<=i->i<j->j<l.length->R (AA l i) (AA l j)):l.Pairwise R:=by
 refine G?.2 (λi j d o q=>?_);have:=h i j U U U;unfold AA at this
 grind
def XR(w:l.Pairwise (·<·)){v:Int}(h:v∈l):(l.countP (λx=>decide (x<v)):Int)=Dh l v:=by
 obtain ⟨y,z,q,_⟩:=Hu h;generalize D:Dh l v=k at y z q;have e:l=l.take k.toNat++l.drop k.toNat:=(List.take_append_drop _ _).symm;have A:(l.take k.toNat).countP (λx=>decide (x<v))=k.toNat:=by
  rw [List.countP_eq_length.2 (λx d=>?_),bk]
  .omega
  .obtain⟨i,i1,i2,rfl⟩:=BP d;rw[bk]at i2;rw[to U,qo,<-q];exact Ia w i1 U z
 have B:(l.drop k.toNat).countP (λx=>decide (x<v))=0:=by
  rw [List.countP_eq_zero];intro x d;obtain⟨n,u⟩:=List.getElem?_of_mem d;rw[List.getElem?_drop]at u;have C:=(List.getElem?_eq_some_iff.1 u).1;have j:x=AA l (k+n):=by
   unfold AA;rw[E_,show(k+(n:Int)).toNat=k.toNat+n by omega,u];rfl
  rw [qo,j,<-q];by_cases o:n=0
  .subst o;simp
  .have:=Ia w y (show k<k+(n:Int)by omega) U;omega
 rw [e,List.countP_append,A,B];omega
end Go.Sf
namespace Go.Sf.Sc
open Go Go.Sf
def uv(l:Fp)(n:Int):(ej (hV (ρ:=Int) (λ(h:Int)(_:Unit)=>
 (idx l h).bind λd=>
 if (decide (d=n))=X then
 Y (.ret h)
 else
 Y (.next ())) 0 (l.length:Int) ()) (λ_=>
 Y (-1)) (λj=>Y j))=Y (Dh l n):=by
 have:=Xa (l:=l) (f:=λx=>Y (decide (x=n))) (p:=λx=>decide (x=n)) (λ_ _=>rfl);simp only[bs]at this;rw[this];unfold Dh;congr 2;exact lK λi=>by simp[eq_comm]
theorem yf(l:Fp)(v:Int):KI l v=Y (Dh l v):=uv l v
def hasB(l:Fp)(v:Int):Bool:=l.any λx=>decide (v=x)
variable{l:Fp}
theorem B7{v:Int}:hasB l v=X↔v∈l:=by
 unfold hasB
 grind
theorem QF(l:Fp)(n:Int):(ej (hV (ρ:=Bool) (λ(h:Int)(_:Unit)=>
 (idx l h).bind λd=>
 if (decide (d=n))=X then
 Y (.ret X)
 else
 Y (.next ())) 0 (l.length:Int) ()) (λ_=>
 Y T) (λj=>Y j))=Y (hasB l n):=by
 unfold hasB;rw[Bq (λi=>decide (n=AA l i)) X,Jb]
 .cases kp (λi=>decide (n=AA l i)) 0 l.length<;>rfl
 .intro i o q _;rw[AD o q,bs,JL];simp[eq_comm]
def vn(l:Fp)(v:Int):TE l v=Y (hasB l v):=QF l v
def vk(l:Fp)(v:Int):Q8 l v=Y (hasB l v):=QF l v
def P7(l:Fp)(n:Int):Int:=(fst (λi=>if AA l i<0\/n<=AA l i then Y 6 else if 0<i/\AA l i<=AA l (i-1)then Y 12 else W) 0 l.length).getD 0
def t6(u:l.length<=1000)(n:Int):JU l n=Y (P7 l n):=by
 unfold JU P7;rw[Bi (λi=>if AA l i<0\/n<=AA l i then Y 6 else if 0<i/\AA l i<=AA l (i-1)then Y 12 else W),DD];intro i o q _;rw[AD o q,bs];by_cases h:AA l i<0\/n<=AA l i
 .rw[ac b?,ac h];rfl
 .rw[ae b?,ae h];by_cases d:0<i
  .rw[ac e?,AU U U,AD U U,bs,bs];by_cases j:AA l i<=AA l (i-1)
   .rw[ac k!,ac ⟨d,j⟩];rfl
   .rw[ae k!,ae (λh=>j h.2)];rfl
  .rw[ae e?,bs,ae a!,ae (λh=>d h.1)];rfl
def uA(w:l.length<=1000)(n:Int):Hx l n=Y (P7 l n):=by
 unfold Hx P7;rw[Bi (λi=>if AA l i<0\/n<=AA l i then Y 6 else if 0<i/\AA l i<=AA l (i-1)then Y 12 else W),DD];intro i o q _;rw[AD o q];simp only[bs];by_cases h:AA l i<0\/n<=AA l i
 .have:(if decide (AA l i<0)=X then Y X else Y (decide (n<=AA l i)))=Y X:=by
   rcases h with h|h
   .simp[h]
   .by_cases u:AA l i<0<;>simp[h,u]
  rw [this,bs,ac rfl,ac h];rfl
 .have:(if decide (AA l i<0)=X then Y X else Y (decide (n<=AA l i)))=Y T:=by
   rw [ae an,decide_eq_false U]
  rw [this,bs,ae a!,ae h];by_cases d:0<i
  .rw[ac e?,AU U U,AD U U,bs,bs];by_cases j:AA l i<=AA l (i-1)
   .rw[ac k!,ac ⟨d,j⟩];rfl
   .rw[ae k!,ae (λh=>j h.2)];rfl
  .rw[ae e?,bs,ae a!,ae (λh=>d h.1)];rfl
variable{a b:Int}
def S1{c:Int->a5}(d:∀i,c i≠Y 0)(h:(fst c a b).getD 0=0):∀i,a<=i->i<b->c i=W:=by
 have:fst c a b=W:=by
  cases hf:fst c a b with
  |none=>rfl|some r=>
   grind [x!,Cd]
 exact A8.1 this
def VN{n:Int}(h:P7 l n=0):(∀x∈l,0<=x/\x<n)/\l.Pairwise (·<·):=by
 have z:=S1 (c:=λi=>if AA l i<0\/n<=AA l i then Y 6 else if 0<i/\AA l i<=AA l (i-1)then Y 12 else W) (λi=>by
  split
  .simp
  .split<;>simp) h
 have o:∀i:Int,0<=i->i<l.length->(0<=AA l i/\AA l i<n)/\(0<i->AA l (i-1)<AA l i):=by
  intro i q y;have:=z i q y;split at this
  .cases this
  .split at this
   .cases this
   .omega
 refine ⟨λx u=>?_,Wt (λi j q d w=>?_)⟩
 .obtain⟨i,i1,i2,rfl⟩:=BP u;exact(o i i1 i2).1
 .obtain⟨k,A⟩:∃k:Nat,j=i+1+k:=⟨(j-i-1).toNat,U⟩;subst A;clear d
  induction k with
  |zero=>
   have:=(o (i+1) U U).2 U;rw[show i+1-1=i by omega]at this;simpa using this
  |succ k B=>
   have a:=B U;have b:=(o (i+1+((k+1:Nat):Int)) U w).2 U;rw[show i+1+((k+1:Nat):Int)-1=i+1+k by omega]at b;omega
def Un(j:l.length<=1000)(d:l.Pairwise (·<·))(v:Int):slices_BinarySearch_int l v=Y (((l.countP (λx=>decide (x<v)):Nat):Int),hasB l v):=by
 unfold slices_BinarySearch_int;rw[ac ⟨b_,d.imp (λh=>U)⟩];congr 2;rw[z?,B7,List.contains_iff_mem]
def OW(g:d3)(p:BM):Int:=
 if P7 p.dl g.dl.length≠0 then P7 p.dl g.dl.length else if P7 p.dr g.dr.length≠0 then P7 p.dr g.dr.length else
 (fst (λi=>if(hasB p.dl (AA g.dr (AA p.dr i)).ia&&hasB p.dl (AA g.dr (AA p.dr i)).To)=X then W else Y 14) 0 p.dr.length).getD 0
structure Qx(g:d3)(p:BM):Prop where
 ea:(∀x∈p.dl,0<=x/\x<g.dl.length)/\p.dl.Pairwise (·<·)
 eb:(∀x∈p.dr,0<=x/\x<g.dr.length)/\p.dr.Pairwise (·<·)
 ends:∀x∈p.dr,(AA g.dr x).ia∈p.dl/\(AA g.dr x).To∈p.dl
variable{g:d3}
theorem Vy{p:BM}(h:OW g p=0):Qx g p:=by
 unfold OW at h;split at h
 .omega
 .split at h
  .omega
  .rename_i j o;refine⟨VN U,VN U,λx d=>?_⟩;obtain⟨i,i1,i2,rfl⟩:=BP d;have:=S1 (c:=λi=>if(hasB p.dl (AA g.dr (AA p.dr i)).ia&&hasB p.dl (AA g.dr (AA p.dr i)).To)=X then W else Y 14) (λi=>by
    split<;>simp) h i i1 i2
   split at this
   next hb=>rw[mo,B7,B7]at hb;exact hb
   .cases this
def EY(g:d3)(p:BM):Int:=if CG g≠0 then CG g else OW g p
structure TL(p:BM):Prop where
 ea:p.dl.length<=1000
 eb:p.dr.length<=1000
def jt{p:BM}(d:TL p):F4 g p=Y (EY g p):=by
 unfold F4 EY;rw[NZ,bs];refine ET λh=>?_;have q:=DY h;unfold Of OW;rw[t6 d.ea,bs,t6 d.eb,bs,y!];refine ET λj=>ET λo=>?_;obtain⟨a1,a2⟩:=VN j;obtain⟨u,w⟩:=VN o;rw[Bi (λi=>if(hasB p.dl (AA g.dr (AA p.dr i)).ia&&hasB p.dl (AA g.dr (AA p.dr i)).To)=X then W else Y 14),DD];intro i i1 i2 _;have hb:=u _ (AG i1 i2);unfold NE;rw[AD i1 i2,bs,AD hb.1 hb.2];simp[Un d.ea a2];cases hasB p.dl (AA g.dr (AA p.dr i)).ia<;>cases hasB p.dl (AA g.dr (AA p.dr i)).To<;>rfl
def Zv{p:BM}(d:TL p):KH g p=Y (EY g p):=by
 unfold KH EY;rw[Na,bs];refine ET λh=>?_;have o:=DY h;unfold Qk OW;rw[uA d.ea,bs,uA d.eb,bs,y!];refine ET λu=>ET λj=>?_;obtain⟨q,w⟩:=VN j;rw[Bi (λi=>if(hasB p.dl (AA g.dr (AA p.dr i)).ia&&hasB p.dl (AA g.dr (AA p.dr i)).To)=X then W else Y 14),DD];intro i i1 i2 _;have hb:=q _ (AG i1 i2);rw[AD i1 i2,bs,AD hb.1 hb.2];simp[vk];cases hasB p.dl (AA g.dr (AA p.dr i)).ia<;>cases hasB p.dl (AA g.dr (AA p.dr i)).To<;>rfl
def DJ(g:d3)(p:BM):d3:=⟨p.dl.map (AA g.dl),p.dr.map λx=>⟨(AA g.dr x).ib,Dh p.dl (AA g.dr x).ia,Dh p.dl (AA g.dr x).To⟩⟩
variable{i:Int}
def JO{α:Type}{f:Int->α}(d:0<=i)(h:i<l.length):(l.take (i+1).toNat).map f=(l.take i.toNat).map f++[f (AA l i)]:=by grind[Ba]
def UU(y:l.length<=1000)(h:∀x∈l,0<=x/\x<g.dl.length)(es:List B0):(kx (λ(w:Int)(q:d3)=>
 (idx l w).bind λd=>
 (idx g.dl d).bind λj=>
 (AY q.dl [j]).bind λo=>
 Y (d3.mk o q.dr)) 0 (l.length:Int) (d3.mk [] es))=Y (d3.mk (l.map (AA g.dl)) es):=by
 rw [Bo (λi=>d3.mk ((l.take i.toNat).map (AA g.dl)) es) U V]
 .rw[z_,E']
 .intro i i1 i2;have u:=h _ (AG i1 i2);rw[AD i1 i2,bs,AD u.1 u.2,bs,AP a_,bs,JO i1 i2]
def Ya(y:l.length<=1000)(h:∀x∈l,0<=x/\x<g.dr.length)(ns:Fp)(F:B0->B0){f:B0->List B0->Option (List B0)}(hf:∀x∈l,∀s,s.length<=1000->f (AA g.dr x) s=Y (s++[F (AA g.dr x)])):(kx (λ(w:Int)(q:d3)=>
 (idx l w).bind λd=>
 (idx g.dr d).bind λj=>
 (f j q.dr).bind λo=>
 Y (d3.mk q.dl o)) 0 (l.length:Int) (d3.mk ns []))=Y (d3.mk ns (l.map λx=>F (AA g.dr x))):=by
 rw [Bo (λi=>d3.mk ns ((l.take i.toNat).map λx=>F (AA g.dr x))) U V]
 .rw[z_,E']
 .intro i i1 i2;have u:=h _ (AG i1 i2);rw[AD i1 i2,bs,AD u.1 u.2,bs,hf _ (AG i1 i2) _ an,bs,JO i1 i2]
def oL{p:BM}(d:TL p):Fr g p=Y (if EY g p≠0 then(⟨[],[]⟩,⟨[],[]⟩,EY g p)else(DJ g p,⟨p.dl,p.dr⟩,0)):=by
 unfold Fr;rw[jt d,bs];refine D1 λh=>?_;have w:CG g=0/\OW g p=0:=by
  grind [EY]
 have ho:=Vy w.2;rw[UU d.ea ho.ea.1,bs];have:=Ya (g:=g) (l:=p.dr) d.eb ho.eb.1 (p.dl.map (AA g.dl)) (λx=>⟨x.ib,Dh p.dl x.ia,Dh p.dl x.To⟩) (f:=λj s=>
  (slices_BinarySearch_int p.dl j.ia).bind λo=>
  (slices_BinarySearch_int p.dl j.To).bind λq=>
  AY s [B0.mk j.ib o.1 q.1]) (λx u s y=>by
   have he:=ho.ends x u;rw[Un d.ea ho.ea.2,bs,Un d.ea ho.ea.2,bs,AP a_,XR ho.ea.2 he.1,XR ho.ea.2 he.2])
 simp [y_]at this;rw[this,bs];unfold slices_Clone_int;have z:=d.ea;have A:=d.eb;rw[BZ b_,bs,BZ b_];rfl
theorem V2{p:BM}(j:TL p):H5 g p=Y (if EY g p≠0 then(⟨[],[]⟩,⟨[],[]⟩,EY g p)else(DJ g p,⟨p.dl,p.dr⟩,0)):=by
 unfold H5;rw[Zv j,bs];refine D1 λh=>?_;have u:CG g=0/\OW g p=0:=by
  grind [EY]
 have ho:=Vy u.2;rw[UU j.ea ho.ea.1,bs];have:=Ya (g:=g) (l:=p.dr) j.eb ho.eb.1 (p.dl.map (AA g.dl)) (λx=>⟨x.ib,Dh p.dl x.ia,Dh p.dl x.To⟩) (f:=λd s=>
  (KI p.dl d.ia).bind λo=>
  (KI p.dl d.To).bind λq=>
  AY s [B0.mk d.ib o q]) (λx w s y=>by
   grind [yf,AP,AX])
 simp [y_]at this;rw[this,bs];have z:=j.ea;have A:=j.eb;rw[BZ b_,bs,BZ b_];rfl
end Go.Sf.Sc
namespace Go.Sf.Sc
open Go Go.Sf
def Mr(a b:d3)(m:d4)(i:Int):a5:=
 if AA m.dl i<0\/b.dl.length<=AA m.dl i then Y 6 else if AA b.dl (AA m.dl i)≠AA a.dl i then Y 13 else W
def Gz(a b:d3)(m:d4)(i:Int):a5:=
 if AA m.dr i<0\/b.dr.length<=AA m.dr i then Y 6 else
 if (AA a.dr i).ib≠(AA b.dr (AA m.dr i)).ib then Y 13 else
 if AA m.dl (AA a.dr i).ia≠(AA b.dr (AA m.dr i)).ia\/AA m.dl (AA a.dr i).To≠(AA b.dr (AA m.dr i)).To then Y 11 else W
def I0(a b:d3)(m:d4):Int:=
 if CG a≠0 then CG a else if CG b≠0 then CG b else if m.dl.length≠a.dl.length\/m.dr.length≠a.dr.length then 20 else
 match fst (Mr a b m) 0 m.dl.length with
 |some e=>e|none=>(fst (Gz a b m) 0 m.dr.length).getD 0
structure T9(a b:d3)(m:d4):Prop where
 ga:Cu a
 gb:Cu b
 wi:m.dl.length=a.dl.length
 x9:m.dr.length=a.dr.length
 node:∀i:Int,0<=i->i<m.dl.length->(0<=AA m.dl i/\AA m.dl i<b.dl.length)/\AA b.dl (AA m.dl i)=AA a.dl i
 edge:∀i:Int,0<=i->i<m.dr.length->(0<=AA m.dr i/\AA m.dr i<b.dr.length)/\(AA a.dr i).ib=(AA b.dr (AA m.dr i)).ib/\
  AA m.dl (AA a.dr i).ia=(AA b.dr (AA m.dr i)).ia/\AA m.dl (AA a.dr i).To=(AA b.dr (AA m.dr i)).To
variable{m:d4}
def WZ{a b:d3}(h:I0 a b m=0):T9 a b m:=by
 unfold I0 at h;split at h
 .omega
 split at h
 .omega
 split at h
 .cases h
 rename_i j o q;have d:fst (Mr a b m) 0 m.dl.length=W:=by
  grind [Cd,Mr]
 rw [d]at h;have he:=S1 (λi=>by
  grind [Gz]) h
 refine ⟨DY U,DY U,U,U,λi i1 i2=>?_,λi i1 i2=>?_⟩
 .grind[A8,Mr]
 grind [Gz]
def cz(a b:d3)(m:d4):EB a b m=Y (I0 a b m):=by
 unfold EB I0;rw[NZ,bs,NZ,bs];refine ET λha=>ET λhb=>Qz i9 λw=>?_;have ga:=DY ha;have gb:=DY hb;rw[Bi (Mr a b m),Dj]
 .cases q:fst (Mr a b m) 0 m.dl.length with
  |some e=>rfl|none=>
   have u:=A8.1 q;dsimp only;rw[Bi (Gz a b m),DD];intro i i1 i2 _;unfold Gz;rw[AD i1 i2,bs];by_cases d:AA m.dr i<0\/b.dr.length<=AA m.dr i
   .rw[ac e?,ac d];rfl
   .have hf:=ga.fit _ (AG (l:=a.dr) i1 U);rw[ae e?,ae d,AD i1 U,bs,AD U U,bs];by_cases h:(AA a.dr i).ib=(AA b.dr (AA m.dr i)).ib
    .rw[ae b?,ae b?,AD U U,bs];by_cases j:AA m.dl (AA a.dr i).ia=(AA b.dr (AA m.dr i)).ia
     .rw[ae k!,AD U U,bs,bs];by_cases o:AA m.dl (AA a.dr i).To=(AA b.dr (AA m.dr i)).To
      .rw[ae c?,ae (by simp[j,o])];rfl
      .rw[ac c?,ac (.inr o)];rfl
     .rw[ac k!,bs,ac rfl,ac (.inl j)];rfl
    .rw[ac b?,ac h];rfl
 .intro i i1 i2 _;unfold Mr;rw[AD i1 i2,bs];by_cases d:AA m.dl i<0\/b.dl.length<=AA m.dl i
  .rw[ac e?,ac d];rfl
  .rw[ae e?,ae d,AD U U,bs,AD i1 U,bs];by_cases h:AA b.dl (AA m.dl i)=AA a.dl i
   .rw[ae b?,ae b?];rfl
   .rw[ac b?,ac h];rfl
def Vv{x y:Prop}[Decidable x][Decidable y]:(if decide x=X then Y X else Y (decide y))=Y (decide (x\/y)):=n_
theorem dL(a b:d3)(m:d4):Ic a b m=Y (I0 a b m):=by
 unfold Ic I0;rw[Na,bs,Na,bs];refine ET λha=>ET λhb=>Qz i9 λw=>?_;have ga:=DY ha;have gb:=DY hb;rw[show(a.dl.length:Int)=m.dl.length by omega,show(a.dr.length:Int)=m.dr.length by omega,Bi (Mr a b m),Dj]
 .cases q:fst (Mr a b m) 0 m.dl.length with
  |some e=>rfl|none=>
   have u:=A8.1 q;dsimp only;rw[Bi (Gz a b m),DD];intro i i1 i2 _;unfold Gz;rw[AD i1 i2];simp only[bs,Vv];by_cases d:AA m.dr i<0\/b.dr.length<=AA m.dr i
   .rw[ac e?,ac d];rfl
   .have hf:=ga.fit _ (AG (l:=a.dr) i1 U);rw[ae e?,ae d,AD i1 U,bs,AD U U,bs];by_cases h:(AA a.dr i).ib=(AA b.dr (AA m.dr i)).ib
    .rw[ae b?,ae b?,AD U U,bs];by_cases j:AA m.dl (AA a.dr i).ia=(AA b.dr (AA m.dr i)).ia
     .rw[ae k!,AD U U,bs,bs];by_cases o:AA m.dl (AA a.dr i).To=(AA b.dr (AA m.dr i)).To
      .rw[ae c?,ae (by simp[j,o])];rfl
      .rw[ac c?,ac (.inr o)];rfl
     .rw[ac k!,bs,ac rfl,ac (.inl j)];rfl
    .rw[ac b?,ac h];rfl
 .intro i i1 i2 _;unfold Mr;rw[AD i1 i2];simp only[bs,Vv];by_cases d:AA m.dl i<0\/b.dl.length<=AA m.dl i
  .rw[ac e?,ac d];rfl
  .rw[ae e?,ae d,AD U U,bs,AD i1 U,bs];by_cases h:AA b.dl (AA m.dl i)=AA a.dl i
   .rw[ae b?,ae b?];rfl
   .rw[ac b?,ac h];rfl
def KB(l:Fp):Bool:=!kp (λi=>kp (λj=>decide (AA l i=AA l j)) 0 i) 0 l.length
variable{l:Fp}
theorem KC:KB l=X↔l.Nodup:=by grind[KB,A?,B5,Wt,Ia]
theorem dK(l:Fp):F2 l=Y (KB l):=by
 unfold F2 KB;rw[Bq (λi=>kp (λj=>decide (AA l i=AA l j)) 0 i) T]
 .cases kp (λi=>kp (λj=>decide (AA l i=AA l j)) 0 i) 0 l.length<;>rfl
 .intro i i1 i2 _;rw[Bq (λj=>decide (AA l i=AA l j)) T]
  .cases kp (λj=>decide (AA l i=AA l j)) 0 i<;>rfl
  .intro j d h _;rw[AD i1 i2,bs,AD d U,bs,JL]
def fV(h:l.length<=1000):∃k,Hv l=Y k/\decide (k=(l.length:Int))=KB l:=by
 have d:(S4 l).length=l.length:=(Rj l).length_eq;refine⟨((Go.Lib.compact (S4 l)).length:Int),?_,?_⟩
 .grind[Hv,slices_Clone_int,slices_Sort_int,slices_Compact_int,BZ,AX]
 .rw[z?,KC,qo,<-(Rj l).nodup_iff,<-U9 (SR l),d];omega
def Iz(m:d4):Bool:=KB m.dl&&KB m.dr
def t7{a b:d3}(h:I0 a b m=0):D4 a b m=Y (Iz m):=by
 have ho:=WZ h;have:=ho.ga.ea;have:=ho.ga.eb;have:=ho.wi;have:=ho.x9;obtain⟨k,d,o⟩:=fV (l:=m.dl) U;obtain⟨j,q,u⟩:=fV (l:=m.dr) U;unfold D4 Iz;rw[cz,h,bs,ac (decide_eq_true rfl),d];simp[q,o,u];cases KB m.dl<;>rfl
def ABg{a b:d3}(h:I0 a b m=0):Jw a b m=Y (Iz m):=by grind[Jw,Iz,dL,dK,KB]
def Qc(r:ey):Int:=
 if EY r.f0.d3 r.mR≠0 then EY r.f0.d3 r.mR else
 if I0 (DJ r.f0.d3 r.mR) r.eh.d3 r.l4≠0 then I0 (DJ r.f0.d3 r.mR) r.eh.d3 r.l4 else if Iz r.l4=T then 11 else 0
variable{r:ey}
def yL(d:TL r.mR):M8 r=Y (Qc r):=by
 unfold M8 Qc;rw[oL d,bs];by_cases h:EY r.f0.d3 r.mR=0
 .simp only[h,ne_eq,not_true_eq_false,if_false,decide_true,C_,A'];rw[cz,bs];refine ET λj=>?_;rw[t7 j,bs];exact YM λ_=>rfl
 .simp[h]
def Wn(r:ey):Int:=if EY r.f0.d3 r.mR≠0 then EY r.f0.d3 r.mR else I0 (DJ r.f0.d3 r.mR) r.eh.d3 r.l4
def yk(d:TL r.mR):Pn r=Y (Wn r):=by
 unfold Pn Wn;rw[Zv d,bs];refine ET λh=>?_
 grind [V2,dL]
def ux(h:Qc r=0):EY r.f0.d3 r.mR=0/\I0 (DJ r.f0.d3 r.mR) r.eh.d3 r.l4=0/\Iz r.l4=X:=by grind[Qc]
def BR(l:Fp)(n:Int):Fp:=((F_ n.toNat).map Int.ofNat).filter λi=>!hasB l i
variable{i:Int}
theorem Po(l:Fp)(h:0<=i):BR l (i+1)=BR l i++if(!hasB l i)=X then[i]else[]:=by
 unfold BR;rw[show(i+1).toNat=i.toNat+1 by omega,H_,H',List.filter_append]
 grind
def F3{n x:Int}(h:x∈BR l n):0<=x/\x<n:=by
 unfold BR at h
 grind
theorem TH(l:Fp)(n:Int):(BR l n).length<=n.toNat:=by
 unfold BR
 grind
def V6{n:Int}(q:0<=n)(u:n<=1000){f:Int->K1}(hf:∀i,f i=Y (hasB l i)):(kx (λ(j:Int)(o:Fp)=>
 (f j).bind λd=>
 if (!d)=X then
 (AY o [j]).bind λh=>
 Y h
 else
 Y o) 0 n [])=Y (BR l n):=by
 refine Bo (BR l) q (by simp[BR]) (λi i1 i2=>?_);have:=TH l i;rw[hf,bs,Po l i1];cases hasB l i
 .rw[ac a!,ac a!,AP a_];rfl
 .rw[ae a!,ae a!,H!]
def fZ{n:Int}(d:0<=n)(h:n<=1000):MJ l n=Y (BR l n):=by
 unfold MJ;rw[V6 d h (λi=>Mj l i)];rfl
def o8{n:Int}(d:0<=n)(h:n<=1000):Nk n l=Y (BR l n):=by
 unfold Nk;rw[V6 d h (λi=>vn l i)];rfl
def E5(r:ey):Fp:=BR r.l4.dl r.eh.d3.dl.length
def LR(r:ey):Fp:=BR r.l4.dr r.eh.d3.dr.length
def oS(d:Cu r.eh.d3):M7 r=Y (E5 r,LR r):=by
 have:=d.ea;have:=d.eb;unfold M7;rw[fZ U U,bs,fZ U U];rfl
def ou(d:Cu r.eh.d3):L5 r=Y (E5 r,LR r):=by
 have:=d.ea;have:=d.eb;unfold L5;rw[o8 U U,bs,o8 U U];rfl
def H4(t:AC)(g:d3)(i:Int):Bool:=LV t (AA g.dr i).ib (AA g.dl (AA g.dr i).ia) (AA g.dl (AA g.dr i).To)
def TW(t:AC)(g:d3)(ea eb:Fp):Bool:=!(ea.any λi=>(AA t.dl (AA g.dl i)).o3)&&!(eb.any λi=>!H4 t g i)
variable{t:AC}{g:d3}
def ABd(hf:A2 t)(q:Cu g)(u:C5 t g=X){ea eb:Fp}(w:∀x∈ea,0<=x/\x<g.dl.length)(he:∀x∈eb,0<=x/\x<g.dr.length):I6 t g ea eb=Y (TW t g ea eb):=by
 have j:=H9 q u;unfold I6 TW;rw[SK (p:=λi=>(AA t.dl (AA g.dl i)).o3) (λx h=>by
  have d:=w x h;have o:=j.1 _ (AG d.1 d.2);unfold Np;rw[AD d.1 d.2,bs,AD o.1 o.2];rfl),bs,SK (p:=λi=>!H4 t g i) (λx h=>by
  have d:=he x h;have o:=q.fit _ (AG d.1 d.2);unfold Iq;rw[AD d.1 d.2,bs,AD U U,bs,AD U U,bs,oM hf];rfl)]
 grind
def ABi(hf:A2 t)(o:Cu g)(q:C5 t g=X){ea eb:Fp}(u:∀x∈ea,0<=x/\x<g.dl.length)(he:∀x∈eb,0<=x/\x<g.dr.length):I5 t g ea eb=Y (TW t g ea eb):=by
 have h:=H9 o q;unfold I5 TW;rw[Jb,Jb,Bq (λi=>(AA t.dl (AA g.dl (AA ea i))).o3) T]
 .rw[Bq (λi=>!H4 t g (AA eb i)) T]
  .cases kp (λi=>(AA t.dl (AA g.dl (AA ea i))).o3) 0 ea.length
   .cases kp (λi=>!H4 t g (AA eb i)) 0 eb.length<;>rfl
   .rfl
  .intro i i1 i2 _;have d:=he _ (AG i1 i2);have j:=o.fit _ (AG d.1 d.2);rw[AD i1 i2,bs,AD d.1 d.2,bs,AD U U,bs,AD U U,bs,Y6 hf,bs,JL];rfl
 .intro i i1 i2 _;have d:=u _ (AG i1 i2);have j:=h.1 _ (AG d.1 d.2);rw[AD i1 i2,bs,AD d.1 d.2,bs,AD j.1 j.2,bs,JL]
end Go.Sf.Sc
namespace Go.Sf.Sc
open Go Go.Sf
structure P4(p:d6):Prop where
 ea:p.d3.dl.length<=45
 eb:p.d3.dr.length<=90
 slots:p.ei.length<=15
 tests:p.jj.length<=15
structure kY(m:d4):Prop where
 ea:m.dl.length<=140
 eb:m.dr.length<=140
inductive EQ:d5->Prop where
 |mk (c:d5) (hq:P4 c.d6) (hm:kY c.Map) (hk:∀k∈c.fl,EQ k):EQ c
variable{c:d5}
def EQ.q(h:EQ c):P4 c.d6:=i!
def EQ.m(h:EQ c):kY c.Map:=i!
def EQ.k(h:EQ c):∀k∈c.fl,EQ k:=i!
def Eg{c k:d5}(h:k∈c.fl):SizeOf.sizeOf k<SizeOf.sizeOf c:=by
 have:=List.sizeOf_lt_of_mem h;cases c
 grind
def D5(c:d5):0<SizeOf.sizeOf c:=by
 cases c
 grind
def Rc(c:d5):Bool:=decide (c.Map.dl.length=0/\c.Map.dr.length=0/\c.d6.d3.dl.length=0/\c.d6.d3.dr.length=0/\c.d6.ei.length=0/\c.d6.jj.length=0/\c.d6.em=0)
def yC(hf:EQ c):Fx c=Y (Rc c):=by
 have d:=hf.q;have h:=hf.m;have:=d.ea;have:=d.eb;have:=d.slots;have:=d.tests;have:=h.ea;have:=h.eb;unfold Fx Rc;rw[AU (n:=(c.Map.dl.length:Int)+c.Map.dr.length) U U,AU (n:=(c.Map.dl.length:Int)+c.Map.dr.length+c.d6.d3.dl.length) U U,
  AU (n:=(c.Map.dl.length:Int)+c.Map.dr.length+c.d6.d3.dl.length+c.d6.d3.dr.length) U U,
  AU (n:=(c.Map.dl.length:Int)+c.Map.dr.length+c.d6.d3.dl.length+c.d6.d3.dr.length+c.d6.ei.length) U U,
  AU (n:=(c.Map.dl.length:Int)+c.Map.dr.length+c.d6.d3.dl.length+c.d6.d3.dr.length+c.d6.ei.length+c.d6.jj.length) U U]
 congr 1
 grind
def ru(hf:EQ c):I4 c=Y (Rc c):=by
 have d:=hf.q;have h:=hf.m;have:=d.ea;have:=d.eb;have:=d.slots;have:=d.tests;have:=h.ea;have:=h.eb;unfold I4 Rc;rw[AU (n:=(c.Map.dl.length:Int)+c.Map.dr.length) U U,AU (n:=(c.Map.dl.length:Int)+c.Map.dr.length+c.d6.d3.dl.length) U U,
  AU (n:=(c.Map.dl.length:Int)+c.Map.dr.length+c.d6.d3.dl.length+c.d6.d3.dr.length) U U,
  AU (n:=(c.d6.ei.length:Int)+c.d6.jj.length) U U]
 congr 1
 grind
def UW(c:d5):Bool:=
 if c.kg=1 then decide (c.fl.length=0)&&Rc c else if c.kg=2 then decide (c.fl.length=1)&&Rc c else
 if c.kg=3\/c.kg=4 then decide (1<=c.fl.length)&&Rc c else if c.kg=5 then decide (c.fl.length=1)else T
def T5:Nat->d5->Bool
 |0,_=>T|n+1,c=>UW c&&c.fl.all (T5 n)
def yT:∀(N:Nat)(c:d5),SizeOf.sizeOf c<=N->EQ c->∀n,2*N<=n->Bm n c=Y (T5 N c)
 |0,c,h,_,_,_=>by have:=D5 c;omega|N+1,c,h,hf,n,C=>by
  obtain ⟨n,rfl⟩:∃m,n=m+2:=⟨n-2,U⟩;rw[Bm,T5,yC hf];have j:CM c.fl (B1 (n+1))=Y (!c.fl.all (T5 N)):=by
   rw [dn (p:=λk=>!T5 N k) (λk j=>by
    have:=Eg j;rw[B1,yT N k U (hf.k k j) n U];rfl),H?,Bool.not_not]
  rw [j];unfold UW;simp only[bs,qo];generalize Rc c=b;generalize c.fl.all (T5 N)=w;have z:decide ((c.fl.length:Int)=0)=decide (c.fl.length=0):=i_
  have A:decide ((c.fl.length:Int)=1)=decide (c.fl.length=1):=i_
  have B:decide (1<=(c.fl.length:Int))=decide (1<=c.fl.length):=i_
  simp only[show((c.fl.length:Int)=0)↔c.fl.length=0 by omega,show((c.fl.length:Int)=1)↔c.fl.length=1 by omega,show(1<=(c.fl.length:Int))↔1<=c.fl.length by omega];by_cases o:c.kg=1
  .rw[ac o,ac o];by_cases d:c.fl.length=0<;>cases b<;>cases w<;>simp[d]
  .rw[ae o,ae o];by_cases q:c.kg=2
   .rw[ac q,ac q];by_cases d:c.fl.length=1<;>cases b<;>cases w<;>simp[d]
   .rw[ae q,ae q];by_cases x:c.kg=3
    .simp[x,true_or];by_cases d:1<=c.fl.length<;>cases b<;>cases w<;>simp[d]
    .by_cases y:c.kg=4
     .simp[y,or_true,show¬(4:Int)=3 by decide];by_cases d:1<=c.fl.length<;>cases b<;>cases w<;>simp[d]
     .simp only[x,y,if_false,or_false];by_cases u:c.kg=5
      .rw[ac u,ac u];by_cases d:c.fl.length=1<;>cases w<;>simp[d]
      .rw[ae u,ae u];cases w<;>rfl
def yc(hf:EQ c):OI c=Y (UW c):=by
 unfold OI UW;rw[ru hf];simp[qo];generalize Rc c=b;simp[show((c.fl.length:Int)=0)↔c.fl.length=0 by omega,show((c.fl.length:Int)=1)↔c.fl.length=1 by omega,show(0<(c.fl.length:Int))↔1<=c.fl.length by omega]
 grind
def xF{α:Type}[Inhabited α]{l:List α}{p:α->Bool}:l.all p=!kp (λi=>!p (AA l i)) 0 l.length:=by
 rw [H?,Jb]
def t8:∀(N:Nat)(c:d5),SizeOf.sizeOf c<=N->EQ c->∀n,N<=n->DP n c=Y (T5 N c)
 |0,c,h,_,_,_=>by have:=D5 c;omega|N+1,c,h,hf,n,j=>by
  obtain ⟨n,rfl⟩:∃m,n=m+1:=⟨n-1,U⟩;rw[DP,T5,yc hf,bs,xF,Bq (λi=>!T5 N (AA c.fl i)) T]
  .cases UW c
   .rfl
   .cases kp (λi=>!T5 N (AA c.fl i)) 0 c.fl.length<;>rfl
  .intro i i1 i2 _;have d:=AG (l:=c.fl) i1 i2;have:=Eg d;rw[AD i1 i2,bs,t8 N _ U (hf.k _ d) n U,bs,JL]
noncomputable def kS(c:d5):Bool:=T5 (SizeOf.sizeOf c) c
def ABe(hf:EQ c):IQ c=Y (kS c):=Dp (2*SizeOf.sizeOf c) λn d=>yT _ c (az _) hf n d
def ABm(hf:EQ c):Nh c=Y (kS c):=Dp (SizeOf.sizeOf c) λn d=>t8 _ c (az _) hf n d
def PX:Nat->d5->Int×Int
 |0,_=>(0,0)|n+1,c=>
  let s:=c.fl.foldl (λs k=>(AJ (s.1+(PX n k).1),max s.2 (PX n k).2)) ((1,0):Int×Int)
  (s.1,if c.kg=5 then AJ (s.2+1)else s.2)
def bB{α σ:Type}[Inhabited α]{l:List α}{g:σ->α->σ}{s:σ}{f:Int->σ->Option σ}(h:∀(i:Int)s,0<=i->i<l.length->f i s=Y (g s (AA l i))):kx f 0 l.length s=Y (l.foldl g s):=by
 rw [Bo (λi=>(l.take i.toNat).foldl g s) U V]
 .rw[z_,E']
 grind [Ba]
def oV:∀(N:Nat)(c:d5),SizeOf.sizeOf c<=N->∀n,N<=n->Cn n c=Y (PX N c)
 |0,c,h,_,_=>by have:=D5 c;omega|N+1,c,h,n,d=>by
  obtain ⟨n,rfl⟩:∃m,n=m+1:=⟨n-1,U⟩;rw[Cn,PX,bB (g:=λs k=>(AJ (s.1+(PX N k).1),max s.2 (PX N k).2))]
  .grind
  .intro i s i1 i2;have:=Eg (AG (l:=c.fl) i1 i2);rw[AD i1 i2,bs,oV N _ U n U];rfl
def o0:∀(N:Nat)(c:d5),SizeOf.sizeOf c<=N->∀n,N<=n->Ds n c=Y (PX N c)
 |0,c,h,_,_=>by have:=D5 c;omega|N+1,c,h,n,d=>by
  obtain ⟨n,rfl⟩:∃m,n=m+1:=⟨n-1,U⟩;rw[Ds,PX,bB (g:=λs k=>(AJ (s.1+(PX N k).1),max s.2 (PX N k).2))]
  .grind
  .intro i s i1 i2;have:=Eg (AG (l:=c.fl) i1 i2);rw[AD i1 i2,bs,o0 N _ U n U];rfl
noncomputable def WY(c:d5):Int×Int:=PX (SizeOf.sizeOf c) c
noncomputable def NB(c:d5):Int:=if kS c=T then 1 else if 12<(WY c).1\/3<(WY c).2 then 3 else 0
def vX(hf:EQ c):GN c=Y (NB c):=by
 unfold GN NB;rw[ABe hf,bs,show KY c=Y (WY c)from Dp (SizeOf.sizeOf c) λn d=>oV _ c (az _) n d,bs]
 grind
def vt(hf:EQ c):KN c=Y (NB c):=by
 unfold KN NB;rw[ABm hf,bs,show OZ c=Y (WY c)from Dp (SizeOf.sizeOf c) λn d=>o0 _ c (az _) n d,bs]
 grind
theorem YZ(g:d3):CG g≠9:=by grind[CG]
variable{t:AC}{p:d6}
def Xj(d:(BD t).2=0)(h:FK t p=0\/FK t p=9):0<=p.em/\p.em<=12:=by grind[YZ,FK]
def TU(t:AC)(q:d6)(v:Int):Int:=if FK t q≠9 then FK t q else if kp (λi=>!IS q i) v q.em=X then 9 else 0
variable{P:Prop}
def chQ{α:Type}[Decidable P]{v:α}{ζ:Option α}{δ:α}(h:P->ζ=Y δ):(if(!decide P)=X then Y v else ζ)=Y (if¬P then v else δ):=n_
def ABc(hf:A2 t)(h:(BD t).2=0){q:d6}{v:Int}(u:0<=v)(j:v<=q.em):E4 t q v=Y (TU t q v):=by
 unfold E4 TU;rw[Yz hf,bs];refine chQ λd=>?_;have hv:=Xj h (.inr d);rw[QR (c:=λi=>(if(!IS q i)=X then Y ()else W).map λ_=>.inr 9) (a:=v) (b:=q.em) j]
 .rw[Kq,O0];cases kp (λi=>!IS q i) v q.em<;>rfl
 .intro i i1 i2 _;rw[ac (by simpa using i2),show(λo=>JG o i)=(λy=>Y (decide (y.gl.Var=i)))from rfl,jE,bs,show(q.ei.any λy=>decide (y.gl.Var=i))=IS q i from rfl,d,AU U U];cases IS q i<;>rfl
 .rw[ae V]
def vq(p:d6)(v:Int):Pm p v=Y (IS p v):=uC p v
def ABh(hf:A2 t)(q:d6)(v:Int):KO t v q=Y (if q.em<v then 20 else TU t q v):=by
 unfold KO TU;refine Qz V λ_=>?_;rw[dM hf,bs];refine chQ λd=>?_;rw[d,Bq (λi=>!IS q i) 9]
 .cases kp (λi=>!IS q i) v q.em<;>rfl
 .intro i i1 i2 _;rw[vq,bs,JL]
def JI:Nat->AC->d6->d5->Int
 |0,_,_,_=>0|N+1,t,p,c=>
  if c.kg=5 then
   if c.d6.em<p.em then 20 else if TU t c.d6 p.em≠0 then TU t c.d6 p.em else
   if I0 p.d3 c.d6.d3 c.Map≠0 then I0 p.d3 c.d6.d3 c.Map else if Iz c.Map=T then 1 else
   (fst (λi=>nz (JI N t c.d6 (AA c.fl i))) 0 c.fl.length).getD 0
  else (fst (λi=>nz (JI N t p (AA c.fl i))) 0 c.fl.length).getD 0
def oX(hf:A2 t)(u:(BD t).2=0):∀(N:Nat)(c:d5)(p:d6),0<=p.em->SizeOf.sizeOf c<=N->∀n,N<=n->CZ n t p c=Y (JI N t p c)
 |0,c,p,_,h,_,_=>by have:=D5 c;omega|N+1,c,p,B,h,n,C=>by
  obtain ⟨n,rfl⟩:∃m,n=m+1:=⟨n-1,U⟩;rw[CZ,JI];have o:∀q:d6,0<=q.em->(ej (hV (ρ:=Int) (λ(x:Int)(_:Unit)=>
    (idx c.fl x).bind λj=>
    (CZ n t q j).bind λd=>
    if (!decide (d=0))=X then
    Y (.ret d)
    else
    Y (.next ())) 0 (c.fl.length:Int) ()) (λ_=>
    Y 0) (λy=>Y y))=Y ((fst (λi=>nz (JI N t q (AA c.fl i))) 0 c.fl.length).getD 0):=by
   intro q A;rw[Bi (λi=>nz (JI N t q (AA c.fl i))),DD];intro i i1 i2 _;have:=Eg (AG (l:=c.fl) i1 i2);rw[AD i1 i2,bs,oX hf u N _ q A U n U,bs,N7]
  by_cases w:c.kg=5
  .rw[ac (by simpa using w),ac w];refine Qz V λhv=>?_;rw[ABc hf u B U,bs];refine ET λhi=>?_;rw[cz,bs];refine ET λz=>?_;rw[t7 z,bs]
   grind
  grind
def o6(hf:A2 t):∀(N:Nat)(c:d5)(p:d6),SizeOf.sizeOf c<=N->∀n,N<=n->ED n t p c=Y (JI N t p c)
 |0,c,p,h,_,_=>by have:=D5 c;omega|N+1,c,p,h,n,z=>by
  obtain ⟨n,rfl⟩:∃m,n=m+1:=⟨n-1,U⟩;rw[ED,JI];have d:∀q:d6,(ej (hV (ρ:=Int) (λ(w:Int)(_:Unit)=>
    (idx c.fl w).bind λu=>
    (ED n t q u).bind λj=>
    if (!decide (j=0))=X then
    Y (.ret j)
    else
    Y (.next ())) 0 (c.fl.length:Int) ()) (λ_=>
    Y 0) (λx=>Y x))=Y ((fst (λi=>nz (JI N t q (AA c.fl i))) 0 c.fl.length).getD 0):=by
   intro q;rw[Bi (λi=>nz (JI N t q (AA c.fl i))),DD];intro i i1 i2 _;have:=Eg (AG (l:=c.fl) i1 i2);rw[AD i1 i2,bs,o6 hf N _ q U n U,bs,N7]
  by_cases o:c.kg=5
  .rw[ac c?,ac o,ABh hf,bs];by_cases hv:c.d6.em<p.em
   .simp[hv]
   .simp only[ae hv];refine ET λhi=>?_;rw[dL,bs];refine ET λy=>?_;rw[ABg y,bs];exact YM λ_=>d _
  .rw[ae c?,ae o];exact d p
noncomputable def Jf(t:AC)(p:d6)(c:d5):Int:=if FK t p≠0 then FK t p else if NB c≠0 then NB c else JI (SizeOf.sizeOf c) t p c
def oN(hf:A2 t)(d:(BD t).2=0)(p:d6)(j:EQ c):Dy t p c=Y (Jf t p c):=by
 unfold Dy Jf;rw[Yz hf,bs];refine ET λh=>?_;rw[vX j,bs,y!];exact ET λ_=>Dp (SizeOf.sizeOf c) λn o=>oX hf d _ c p (Xj d (.inl h)).1 (az _) n o
def oo(hf:A2 t)(p:d6)(d:EQ c):Ih t p c=Y (Jf t p c):=by
 unfold Ih Jf;rw[dM hf,bs];refine ET λh=>?_;rw[vt d,bs,y!];exact ET λ_=>Dp (SizeOf.sizeOf c) λn j=>o6 hf _ c p (az _) n j
end Go.Sf.Sc
namespace Go.Sf.Sc
open Go Go.Sf
structure Is(r:ey):Prop where
 name:(r.kh.size:Int)<=60
 left:P4 r.f0
 right:P4 r.eh
 fd:TL r.mR
 into:kY r.l4
 cond:EQ r.d5
noncomputable def DZ(t:AC)(r:ey):Int:=
 if (BD t).2≠0 then(BD t).2 else if EN r.kh=T then 2 else if FK t r.f0≠0 then FK t r.f0 else
 if Jz t r≠0 then Jz t r else if Qc r≠0 then Qc r else if TW t r.eh.d3 (E5 r) (LR r)=T then 13 else Jf t r.f0 r.d5
variable{t:AC}{r:ey}
def Xp(h:Jz t r=0):Cu r.eh.d3/\C5 t r.eh.d3=X:=by grind[Jz,DY]
def fh(hf:A2 t)(hr:Is r):J0 t r=Y (DZ t r):=by
 have q:=hr.name;unfold J0 DZ;rw[O6 hf,bs];refine ET λj=>?_;rw[SY U,bs];refine YM λ_=>?_;rw[Yz hf,bs];refine ET λ_=>?_;rw[vT hf,bs];refine ET λd=>?_;have ho:=Xp d;rw[yL hr.fd,bs];refine ET λo=>?_;rw[oS ho.1,bs];dsimp only;rw[ABd (ea:=E5 r) (eb:=LR r) hf ho.1 ho.2 (λx h=>F3 h) (λx h=>F3 h),bs];refine YM λ_=>?_;rw[oN hf j _ hr.cond,bs]
def gG(hf:A2 t)(hr:Is r):Ii t r=Y (DZ t r):=by
 have u:=hr.name;unfold Ii DZ;rw[R7 hf,bs];refine ET λq=>?_;rw[SZ U,bs];refine YM λ_=>?_;rw[dM hf,bs];refine ET λ_=>?_;rw[vr hf,bs];refine ET λd=>?_;have ho:=Xp d;rw[yk hr.fd,bs,dK,bs];simp only[dK,bs];have e:(if(!KB r.l4.dl)=X then Y X else Y (!KB r.l4.dr))=Y (!Iz r.l4):=by
  grind [Iz,KB]
 rw [e,bs];have o:Qc r=if Wn r≠0 then Wn r else if Iz r.l4=T then 11 else 0:=by
  grind [Qc,Wn,EY]
 rw [o];by_cases j:Wn r=0
 .simp only[j,ne_eq,not_true_eq_false,if_false,decide_true,C_,A'];cases hi:Iz r.l4
  .simp
  .simp only[C_,A',if_false,not_true_eq_false,Bool.true_eq_false];rw[ou ho.1,bs];dsimp only;rw[ABi (ea:=E5 r) (eb:=LR r) hf ho.1 ho.2 (λx h=>F3 h) (λx h=>F3 h),bs];refine YM λ_=>?_;rw[oo hf _ hr.cond,bs]
 .simp[j]
def AaK(t:AC)(l:Fp):Bool:=!(l.any λk=>t.dl.any λn=>decide (n.sx=k))
structure mu(t:AC)(r:ey):Prop where
 left:Cu r.f0.d3
 ltyped:C5 t r.f0.d3=X
 right:Cu r.eh.d3
 Abj:C5 t r.eh.d3=X
 rtests:r.eh.jj.length=0
 part:Qx r.f0.d3 r.mR
 mor:T9 (DJ r.f0.d3 r.mR) r.eh.d3 r.l4
 inj:r.l4.dl.Nodup/\r.l4.dr.Nodup
variable{p:d6}
def Y3(h:FK t p=0):Cu p.d3/\C5 t p.d3=X:=by grind[FK,DY]
def kB(h:DZ t r=0):(BD t).2=0/\mu t r:=by
 unfold DZ at h;split at h
 .omega
 split at h
 .cases h
 split at h
 .omega
 split at h
 .omega
 split at h
 .omega
 rename_i o q u w x;have d:=Y3 (t:=t) (p:=r.f0) U;have hr:=Xp (t:=t) (r:=r) U;have j:=ux (r:=r) U;have hi:KB r.l4.dl=X/\KB r.l4.dr=X:=by
  grind [Iz]
 refine ⟨U,d.1,d.2,hr.1,hr.2,?_,?_,WZ j.2.1,KC.1 hi.1,KC.1 hi.2⟩
 .grind[Jz]
 grind [EY,Vy]
variable{l:Fp}{n:Nat}
def iz(h:∀x∈l,0<=x/\x<n)(j:l.Pairwise (·<·)):l.length<=n:=by
 have key:∀i:Int,0<=i->i<l.length->i<=AA l i:=by
  intro i d o;obtain⟨k,rfl⟩:=Int.eq_ofNat_of_zero_le d;clear d
  induction k with
  |zero=>exact(h _ (AG U U)).1|succ k q=>
   grind [Ia]
 by_cases d:l.length=0
 .omega
 .have a:=key ((l.length:Int)-1) U U
  grind [AG]
end Go.Sf.Sc
namespace Go.Sf
variable{a b:Int}
def Wp{ρ:Type}{f:Int->Option (B2 Int ρ)}(p:Int->Bool)(v:ρ)(d:a<=b)(h:∀i,a<=i->i<b->f i=Y (if p i=X then .ret v else .next (i+1)))(hb:f b=Y (.brk b)):DC f a=Y (if kp p a b=X then .inr v else .inl b):=by
 rw [QR (c:=λi=>(if p i=X then Y ()else W).map λ_=>.inr v) d]
 .grind[Kq,O0,kp]
 .intro i j o _;rw[h i j o];cases p i<;>rfl
 .exact hb
variable{n:Nat}
def O3{α:Type}{e:α->TV}{l:List α}(h:TV.Sm (.list n (l.map e))):(l.length:Int)<=140737488351232/\∀x∈l,(e x).Sm:=by
 simp [TV.Sm]at h;refine⟨by have:=h.1;unfold reachBytes at this;omega,λx d=>MK.1 h.2 _ (G_.2 ⟨x,d,rfl⟩)⟩
end Go.Sf
namespace Go.Sf.Sc
open Go Go.Sf
def dj(a:ke):Bool:=(decide (40<(a.kh.size:Int))||decide (25<(a.pf.length:Int)))||kp (λi=>decide (40<((AA a.pf i).size:Int))) 0 a.pf.length
theorem qQ{a:ke}(h:dj a=T):T7 a:=by
 unfold dj at h;simp[decide_eq_false_iff_not,B5]at h;refine⟨U,U,λx d=>?_⟩
 grind [BP]
variable{t:AC}
def Sx(O:(AL t).Sm):∃b,My t=Y b/\(b=X->A2 t):=by
 have I:TV.Sms [_,_]:=O;obtain⟨w,L⟩:=O3 (e:=IX) I.1;unfold My;by_cases hl:20<t.dl.length\/30<t.dr.length
 .rw[ac an]
  grind
 rw [ae an];rcases XZ (f:=(λ(A:Int)(N:Int)=>
 (idx t.dl A).bind λy=>
 (if(decide (30<(AJ (N+(y.og.length:Int)))))=X then Y X else((idx t.dl A).bind λC=>
 Y (decide (40<(C.kh.size:Int))))).bind λD=>
 if D=X then
 Y (B2.ret T)
 else
 ej (DC (ρ:=Bool) (λ(s2:Int)=>
 (idx t.dl A).bind λE=>
 if (decide (s2<(E.og.length:Int)))=X then
 (idx t.dl A).bind λF=>
 (idx F.og s2).bind λq=>
 if ((decide (40<(q.kh.size:Int)))||(decide (25<(q.pf.length:Int))))=X then
 Y (.ret T)
 else
 ej (DC (ρ:=Bool) (λ(x:Int)=>
 if (decide (x<(q.pf.length:Int)))=X then
 (idx q.pf x).bind λG=>
 if (decide (40<(G.size:Int)))=X then
 Y (.ret T)
 else
 Y (.next (AJ (x+1)))
 else
 Y (.brk x)) 0) (λx=>
 Y (.next (AJ (s2+1)))) (λQ=>Y (.ret Q))
 else
 Y (.brk s2)) 0) (λs2=>
 Y (.next (AJ (N+(y.og.length:Int))))) (λS=>Y (.ret S))))
  (λi s=>0<=s/\s<=30/\∀j,0<=j->j<i->((AA t.dl j).kh.size:Int)<=40/\(AA t.dl j).og.length<=30/\∀a∈(AA t.dl j).og,T7 a) (λ_=>False) (λr=>r=T) (a:=0) (b:=t.dl.length) (s:=0) U ⟨U,U,λj z d=>U⟩ (λi s i1 i2 θ=>by
   have ε:=L _ (AG (l:=t.dl) i1 i2);have J:TV.Sms [_,_,_,_]:=ε;obtain⟨ha,M⟩:=O3 (e:=Jh) J.2.2.2.1;obtain⟨hI1,hI2,hI3⟩:=θ;have κ:AJ (s+(AA t.dl i).og.length)=s+(AA t.dl i).og.length:=AU U U;simp only[AD i1 i2,bs,κ,Vv];by_cases η:30<s+(AA t.dl i).og.length\/40<((AA t.dl i).kh.size:Int)
   .grind
   rw [ae (by simpa using η)];rw[Wp (λj=>dj (AA (AA t.dl i).og j)) T (b:=(AA t.dl i).og.length) U]
   .cases hb:kp (λj=>dj (AA (AA t.dl i).og j)) 0 (AA t.dl i).og.length
    .refine .inl ⟨_,rfl,U,U,λj H B=>?_⟩
     grind [BP,qQ,B5]
    .exact .inr (.inr ⟨_,rfl,rfl⟩)
   .intro j H B;rw[ac o_,AD H B,bs];have Z:=M _ (AG (l:=(AA t.dl i).og) H B);have K:TV.Sms [_,_,_,_]:=Z;obtain⟨hm,_⟩:=O3 (e:=eS) K.2.2.2.1;unfold dj;cases z:(decide (40<((AA (AA t.dl i).og j).kh.size:Int))||decide (25<((AA (AA t.dl i).og j).pf.length:Int)))
    .rw[ae a!,Wp (λk=>decide (40<((AA (AA (AA t.dl i).og j).pf k).size:Int))) T (b:=(AA (AA t.dl i).og j).pf.length) U]
     .cases kp (λk=>decide (40<((AA (AA (AA t.dl i).og j).pf k).size:Int))) 0 (AA (AA t.dl i).og j).pf.length
      .rw[D_,AU (show -9223372036854775808<=j+1 by omega) U];rfl
      .rfl
     .intro k u o;rw[ac c?,AD u o,bs,AU (show -9223372036854775808<=k+1 by omega) U,JL]
     .rw[ae V]
    .rfl
   .rw[ae V])with⟨s',z,d⟩|⟨r,z,d⟩
 .rw[z];rcases d with d|d
  .rw[B8,Bq (λi=>decide (40<((AA t.dr i).kh.size:Int))) T]
   .cases hb:kp (λi=>decide (40<((AA t.dr i).kh.size:Int))) 0 t.dr.length
    .refine⟨X,rfl,λ_=>⟨U,U,λn w=>?_,λn w=>?_,λn w=>?_,λe he=>?_⟩⟩
     .obtain⟨k,u,o,rfl⟩:=BP w;exact(d.2.2 k u o).1
     .obtain⟨k,u,o,rfl⟩:=BP w;exact(d.2.2 k u o).2.1
     .obtain⟨k,u,o,rfl⟩:=BP w;exact(d.2.2 k u o).2.2
     .obtain⟨k,u,o,rfl⟩:=BP he;have:=B5.1 hb k u o;simpa using this
    .exact⟨T,rfl,λh=>c!⟩
   .intro i i1 i2 _;rw[AD i1 i2,bs,JL]
  .exact d.elim
 .rw[z];subst d;exact⟨T,rfl,λh=>c!⟩
def Ti(p:d6):∃b,LD p=Y b/\(b=X->P4 p):=by
 refine ⟨_,rfl,λh=>?_⟩;simp[qo]at h;exact⟨U,U,U,U⟩
variable{a b:Int}
def jQ(ha:0<=a)(d:a<=140737488351232)(hb:0<=b)(h:b<=140737488351232):AJ (a+b)=a+b:=AU U U
variable{m:d4}
def Zb(j:(A9 m).Sm):∃b,Jv m 140=Y b/\(b=X->kY m):=by
 have d:TV.Sms [_,_]:=j;have o:=(O3 (e:=eI) d.1).1;have q:=(O3 (e:=eI) d.2.1).1;refine⟨_,rfl,λh=>?_⟩;rw[jQ U o U q]at h;simp[qo]at h;exact⟨U,U⟩
def qe{m:BM}(j:(Ht m).Sm):∃b,TD m 140=Y b/\(b=X->TL m):=by
 have d:TV.Sms [_,_]:=j;have o:=(O3 (e:=eI) d.1).1;have q:=(O3 (e:=eI) d.2.1).1;refine⟨_,rfl,λh=>?_⟩;rw[jQ U o U q]at h;simp[qo]at h;exact⟨U,U⟩
variable{c:d5}
def jH(h:(AI c).Sm):(A9 c.Map).Sm/\(c.fl.length:Int)<=140737488351232/\∀k∈c.fl,(AI k).Sm:=by
 have j:TV.Sms [_,_,_,_,_,_,_,_,_]:=h;obtain⟨_,d,o,q,_⟩:=j;rw[St]at d;obtain⟨u,w⟩:=O3 d;exact⟨⟨o,q,trivial⟩,u,w⟩
def eG:∀(N:Nat)(c:d5),SizeOf.sizeOf c<=N->(AI c).Sm->∀po:Int,0<=po->po<=1000->∃r,(∀n,N<=n->DF n c po=Y r)/\-1<=r/\r<=po-1/\(0<=r->EQ c)
 |0,c,h,_,_,_,_=>by have:=D5 c;omega|N+1,c,h,hs,po,m0,m1=>by
  obtain ⟨M,O,C⟩:=jH hs;obtain⟨Q,F,S⟩:=Ti c.d6;obtain⟨θ,I,ε⟩:=Zb M;have step:∀n,N+1<=n->∃m,n=m+1/\N<=m:=λn d=>⟨n-1,U,U⟩;cases Q
  .refine⟨-1,λn d=>?_,U,U,λh=>U⟩;obtain⟨n,rfl,_⟩:=step n d;rw[DF,F];rfl
  cases θ
  .refine⟨-1,λn d=>?_,U,U,λh=>U⟩;obtain⟨n,rfl,_⟩:=step n d;rw[DF,F,bs,I];rfl
  have loop:∀(m:Nat)(k left:Int),0<=k->k+m=c.fl.length->-1<=left->left<=1000->∃o w,(∀n,N<=n->Mc (ρ:=Int) (λ(u:Int×Int)=>
    if ((decide (u.2<(c.fl.length:Int)))&&(decide (0<=u.1)))=X then
    (idx c.fl u.2).bind λy=>
    (DF n y u.1).bind λz=>
    Y (.next (z,AJ (u.2+1)))
    else
    Y (.brk (u.1,u.2))) (left,k) (.inl (o,w)))/\-1<=o/\o<=left/\(0<=o->∀j,k<=j->j<c.fl.length->EQ (AA c.fl j)):=by
   intro m
   induction m with
   |zero=>
    intro k left D J E l1;refine⟨left,k,λn d=>.brk ?_,E,U,λ_ j A x=>U⟩;rw[ae an]
   |succ m ih=>
    intro k left D J E l1;by_cases K:0<=left
    .have q:=AG (l:=c.fl) D U;have:=Eg q;obtain⟨r,κ,η,r3,Z⟩:=eG N _ U (C _ q) left K l1;obtain⟨o,w,a1,a2,a3,G⟩:=ih (k+1) r U U η U;refine⟨o,w,λn d=>.next (s':=(r,k+1)) ?_ (a1 n d),a2,U,λB j A x=>?_⟩
     .rw[ac an,AD D U,bs,κ n d,bs,AU U U]
     .by_cases L:j=k
      .subst L;exact Z U
      .exact G B j U x
    .refine⟨left,k,λn d=>.brk ?_,E,U,λh=>U⟩;rw[ae an]
  obtain ⟨o,w,a1,a2,a3,G⟩:=loop c.fl.length 0 (po-1) U U U U;refine⟨o,λn d=>?_,a2,a3,λB=>.mk c (S rfl) (ε rfl) (λk C=>?_)⟩
  .obtain⟨n,rfl,H⟩:=step n d;rw[DF,F,bs,I];simp only[bs,C_,A',if_false];rw[AU (n:=po-1) U U,(a1 n H).eq,B8]
  .obtain⟨j,A,x,rfl⟩:=BP C;exact G B j A x
def qc(d:(AI c).Sm):∃b,LE c=Y b/\(b=X->EQ c):=by
 obtain ⟨r,j,_,_,o⟩:=eG (SizeOf.sizeOf c) c (az _) d 40 U U;have e:Rp c 40=Y r:=Dp (SizeOf.sizeOf c) j;unfold LE;rw[e];exact⟨_,rfl,λh=>o b?⟩
def Mh{b:Bool}{o:K1}{c:Bool}(h:o=Y c):(if b=X then o.bind λx=>Y x else Y T)=Y (b&&c):=by
 subst h;cases b<;>rfl
variable{r:ey}
def qf(d:(CH r).Sm):∃b,Q9 r=Y b/\(b=X->Is r):=by
 have j:TV.Sms [_,_,_,_,_,_,_,_,_,_,_,_,_,_,_,_,_,_,_,_,_,_,_,_,_]:=d;obtain⟨_,_,_,_,_,_,_,_,_,_,_,o,q,i1,i2,_,u,w,c3,x,c5,y,z,A,B,_⟩:=j;obtain⟨M,C,D⟩:=Ti r.f0;obtain⟨N,E,F⟩:=Ti r.eh;obtain⟨O,G,H⟩:=qe (m:=r.mR) ⟨o,q,trivial⟩;obtain⟨Q,I,J⟩:=Zb (m:=r.l4) ⟨i1,i2,trivial⟩;obtain⟨S,K,L⟩:=qc (c:=r.d5) ⟨u,w,c3,x,c5,y,z,A,B,trivial⟩;unfold Q9;rw[Mh C,bs,Mh E,bs,Mh G,bs,Mh I,bs,Mh K,bs];refine⟨_,rfl,λh=>?_⟩;simp[qo]at h;exact⟨h.1.1.1.1.1,D h.1.1.1.1.2,F h.1.1.1.2,H h.1.1.2,J h.1.2,L h.2⟩
end Go.Sf.Sc
namespace Go.Sf.Sc
open Go Go.Sf
variable{t:AC}{c:d5}
def vJ(hf:A2 t)(p:d6)(j:EQ c):Dy t p c=Y (Jf t p c):=by
 by_cases d:(BD t).2=0
 .exact oN hf d p j
 .unfold Dy Jf;rw[Yz hf,bs];refine ET λh=>?_;exfalso;unfold FK at h;rw[ac d]at h;exact d h
end Go.Sf.Sc
namespace Go.Sf.Sc
open Go Go.Sf
def kC{α:Type}[Inhabited α](b:α->α->Bool){l m:List α}(hb:∀x∈l,∀y∈m,(b x y=X↔x=y))(d:l.length=m.length):kp (λi=>!b (AA l i) (AA m i)) 0 l.length=T↔l=m:=by
 rw [B5];constructor
 .intro h;refine YG d (λi i1 i2=>?_);have:=h i i1 i2;rw[B_]at this;exact(hb _ (AG i1 i2) _ (AG i1 U)).1 this
 .rintro rfl i i1 i2;rw[B_];exact(hb _ (AG i1 i2) _ (AG i1 i2)).2 rfl
def uf{α:Type}[Inhabited α][DecidableEq α]{l m:List α}(q:l.length=m.length){k:Unit->K1}{kr:Bool->K1}:ej (hV (ρ:=Bool) (λ(o:Int)(_:Unit)=>
 (idx l o).bind λd=>
 (idx m o).bind λj=>
 if (!decide (d=j))=X then
 Y (.ret T)
 else
 Y (.next ())) 0 (l.length:Int) ()) k kr=if l=m then k ()else kr T:=by
 rw [Bq (λi=>!decide (AA l i=AA m i)) T]
 .have:=kC (λx y:α=>decide (x=y)) (l:=l) (m:=m) (λ_ _ _ _=>decide_eq_true_iff) q;by_cases h:l=m
  .rw[this.2 h,ac h];rfl
  .rw[ae h];cases u:kp (λi=>!decide (AA l i=AA m i)) 0 l.length
   .exact absurd (this.1 u) h
   .rfl
 .intro i i1 i2 _;rw[AD i1 i2,bs,AD i1 U,bs,JL]
def R3{α:Type}[Inhabited α][DecidableEq α](l m:List α):(if(!decide ((l.length:Int)=(m.length:Int)))=X then
 Y T
 else
 ej (hV (ρ:=Bool) (λ(q:Int)(_:Unit)=>
 (idx l q).bind λd=>
 (idx m q).bind λj=>
 if (!decide (d=j))=X then
 Y (.ret T)
 else
 Y (.next ())) 0 (l.length:Int) ()) (λ_=>
 Y X) (λu=>Y u))=Y (decide (l=m)):=by
 by_cases o:l.length=m.length
 .rw[ae o2,uf o];by_cases h:l=m
  .rw[ac h,decide_eq_true h]
  .rw[ae h,decide_eq_false h]
 .rw[ac an,decide_eq_false (λe=>o (by rw[e]))]
def Ka(l m:Fp):slices_Equal_int l m=Y (decide (l=m)):=R3 l m
def fo(l m:List B0):Gd l m=Y (decide (l=m)):=R3 l m
def oe(l m:List CF):IK l m=Y (decide (l=m)):=R3 l m
def oh(l m:List Test):IL l m=Y (decide (l=m)):=R3 l m
def vb(l m:Fp):Nb l m=Y (decide (l=m)):=R3 l m
def Wh(a b:d4):FU a b=Y (decide (a=b)):=by
 unfold FU;rw[Ka,Ka];obtain⟨a1,a2⟩:=a;obtain⟨j,o⟩:=b;by_cases h:a1=j<;>by_cases d:a2=o<;>simp[h,d]
noncomputable def Wy(a b:d5):Bool:=@decide (a=b) (K_ _)
def ZY{a b:d5}:Wy a b=X↔a=b:=by
 unfold Wy;exact@decide_eq_true_iff _ (K_ _)
noncomputable def aG(l m:List d5):Bool:=@decide (l=m) (K_ _)
def WU{l m:List d5}:aG l m=X↔l=m:=by
 unfold aG;exact@decide_eq_true_iff _ (K_ _)
def ud(a b:d5):Wy a b=(decide (a.kg=b.kg)&&decide (a.Map=b.Map)&&decide (a.d6=b.d6)&&aG a.fl b.fl):=by
 rw [z?,ZY];obtain⟨a1,a2,a3,q⟩:=a;obtain⟨u,w,x,y⟩:=b;simp only[mo,qo,WU,d5.mk.injEq];constructor
 .rintro⟨d,h,j,o⟩;exact⟨⟨⟨d,j⟩,o⟩,h⟩
 .rintro⟨⟨⟨d,j⟩,o⟩,h⟩;exact⟨d,h,j,o⟩
def n9{l m:List d5}{f:d5->d5->K1}(hf:∀x∈l,∀y,f x y=Y (Wy x y))(w:l.length=m.length):ej (hV (ρ:=Bool) (λ(u:Int)(_:Unit)=>
 (idx l u).bind λd=>
 (idx m u).bind λj=>
 (f d j).bind λo=>
 if (!o)=X then
 Y (.ret T)
 else
 Y (.next ())) 0 (l.length:Int) ()) (λ_=>
 Y X) (λz=>Y z)=Y (aG l m):=by
 rw [Bq (λi=>!Wy (AA l i) (AA m i)) T]
 .have:=kC Wy (l:=l) (m:=m) (λ_ _ _ _=>ZY) w;cases q:kp (λi=>!Wy (AA l i) (AA m i)) 0 l.length
  .rw[WU.2 (this.1 q)];rfl
  .have:aG l m=T:=by
    rw [<-C',WU];intro h;rw[this.2 h]at q;cases q
   rw [this];rfl
 .intro i i1 i2 _;rw[AD i1 i2,bs,AD i1 U,bs,hf _ (AG i1 i2),bs,JL]
def ue{l m:List d5}(h:¬l.length=m.length):aG l m=T:=by
 rw [<-C',WU];exact λe=>h (by rw[e])
def oY:∀(N:Nat)(a b:d5),SizeOf.sizeOf a<=N->∀n,N<=n->C6 n a b=Y (Wy a b)
 |0,a,_,h,_,_=>by have:=D5 a;omega|N+1,a,b,h,n,J=>by
  obtain ⟨n,rfl⟩:∃m,n=m+1:=⟨n-1,U⟩;have A:Cb a.fl b.fl (C6 n)=Y (aG a.fl b.fl):=by
   unfold Cb;by_cases d:a.fl.length=b.fl.length
   .rw[ae (by simp[d]),n9 (λx z y=>by have:=Eg z;exact oY N x y U n U) d]
   .rw[ac an,ue d]
  rw [C6,Wh,Ka,fo,oe,oh,A,ud];have B:decide (a.d6=b.d6)=(decide (a.d6.em=b.d6.em)&&decide (a.d6.d3.dl=b.d6.d3.dl)&&decide (a.d6.d3.dr=b.d6.d3.dr)&&decide (a.d6.ei=b.d6.ei)&&decide (a.d6.jj=b.d6.jj)):=by
   rw [z?];simp only[mo,qo];obtain⟨_,_,_,⟨⟨a1,a2⟩,a3,C,D⟩⟩:=a;obtain⟨_,_,_,⟨⟨E,F⟩,G,H,I⟩⟩:=b;simp only[d6.mk.injEq,d3.mk.injEq];constructor
   .rintro⟨⟨j,o⟩,q,u,w⟩;exact⟨⟨⟨⟨u,j⟩,o⟩,q⟩,w⟩
   .rintro⟨⟨⟨⟨u,j⟩,o⟩,q⟩,w⟩;exact⟨⟨j,o⟩,q,u,w⟩
  rw [B];generalize decide (a.kg=b.kg)=c1;generalize decide (a.Map=b.Map)=c2;generalize decide (a.d6.em=b.d6.em)=c3;generalize decide (a.d6.d3.dl=b.d6.d3.dl)=c4;generalize decide (a.d6.d3.dr=b.d6.d3.dr)=c5;generalize decide (a.d6.ei=b.d6.ei)=c6;generalize decide (a.d6.jj=b.d6.jj)=c7;generalize aG a.fl b.fl=c8;cases c1
  .rfl
  cases c2
  .rfl
  cases c3
  .rfl
  cases c4
  .rfl
  cases c5
  .rfl
  cases c6
  .rfl
  cases c7
  .rfl
  rfl
def vU(a b:d5):NP a b=Y (Wy a b):=Dp (SizeOf.sizeOf a) λn d=>oY _ a b (az _) n d
end Go.Sf.Sc
namespace Go.Sf.Sc
open Go Go.Sf
mutual
def D3:d5->Nat
 |⟨_,kids,_,_⟩=>1+TP kids
def TP:List d5->Nat
 |[]=>0|k::l=>D3 k+TP l
end
mutual
def dep:d5->Nat
 |⟨k,kids,_,_⟩=>(if k=5 then 1 else 0)+xQ kids
def xQ:List d5->Nat
 |[]=>0|k::l=>max (dep k) (xQ l)
end
theorem VT(c:d5):D3 c=1+TP c.fl:=by cases c;rfl
variable{k:Int}
def uc{l:List d5}(d:0<=k)(h:k<l.length):l.drop k.toNat=AA l k::l.drop (k+1).toNat:=by
 rw [show(k+1).toNat=k.toNat+1 by omega,List.drop_eq_getElem_cons U];unfold AA;rw[E_,D? U];rfl
def aJ:∀(N:Nat)(c:d5),SizeOf.sizeOf c<=N->(AI c).Sm->∀po:Int,0<=po->po<=1000->∃r,(∀n,N<=n->DF n c po=Y r)/\-1<=r/\r<=po-1/\(0<=r->EQ c/\(D3 c:Int)+r<=po)
 |0,c,h,_,_,_,_=>by have:=D5 c;omega|N+1,c,h,hs,po,m0,m1=>by
  obtain ⟨O,Q,F⟩:=jH hs;obtain⟨S,B,θ⟩:=Ti c.d6;obtain⟨ε,H,κ⟩:=Zb O;have step:∀n,N+1<=n->∃m,n=m+1/\N<=m:=λn d=>⟨n-1,U,U⟩;cases S
  .refine⟨-1,λn d=>?_,U,U,λh=>U⟩;obtain⟨n,rfl,_⟩:=step n d;rw[DF,B];rfl
  cases ε
  .refine⟨-1,λn d=>?_,U,U,λh=>U⟩;obtain⟨n,rfl,_⟩:=step n d;rw[DF,B,bs,H];rfl
  have loop:∀(m:Nat)(k left:Int),0<=k->k+m=c.fl.length->-1<=left->left<=1000->∃o y,(∀n,N<=n->Mc (ρ:=Int) (λ(u:Int×Int)=>
    if ((decide (u.2<(c.fl.length:Int)))&&(decide (0<=u.1)))=X then
    (idx c.fl u.2).bind λC=>
    (DF n C u.1).bind λD=>
    Y (.next (D,AJ (u.2+1)))
    else
    Y (.brk (u.1,u.2))) (left,k) (.inl (o,y)))/\-1<=o/\o<=left/\(0<=o->(∀j,k<=j->j<c.fl.length->EQ (AA c.fl j))/\(TP (c.fl.drop k.toNat):Int)+o<=left):=by
   intro m
   induction m with
   |zero=>
    intro k left A K G l1;refine⟨left,k,λn d=>.brk ?_,G,U,λ_=>⟨λj E z=>U,?_⟩⟩
    .rw[ae an]
    .rw[List.drop_of_length_le U,TP];omega
   |succ m ih=>
    intro k left A K G l1;by_cases L:0<=left
    .have q:=AG (l:=c.fl) A U;have:=Eg q;obtain⟨r,η,Z,r3,J⟩:=aJ N _ U (F _ q) left L l1;obtain⟨o,y,a1,a2,a3,x⟩:=ih (k+1) r U U Z U;refine⟨o,y,λn d=>.next (s':=(r,k+1)) ?_ (a1 n d),a2,U,λw=>⟨λj E z=>?_,?_⟩⟩
     .rw[ac an,AD A U,bs,η n d,bs,AU U U]
     .by_cases M:j=k
      .subst M;exact(J U).1
      .exact(x w).1 j U z
     .have B:=(J U).2;have H:=(x w).2;rw[uc A U,TP];omega
    .refine⟨left,k,λn d=>.brk ?_,G,U,λh=>U⟩;rw[ae an]
  obtain ⟨o,y,a1,a2,a3,x⟩:=loop c.fl.length 0 (po-1) U U U U;refine⟨o,λn d=>?_,a2,a3,λw=>⟨.mk c (θ rfl) (κ rfl) (λk F=>?_),?_⟩⟩
  .obtain⟨n,rfl,I⟩:=step n d;rw[DF,B,bs,H];simp only[bs,C_,A',if_false];rw[AU (n:=po-1) U U,(a1 n I).eq,B8]
  .obtain⟨j,E,z,rfl⟩:=BP F;exact(x w).1 j E z
  .have:=(x w).2;rw[show(0:Int).toNat=0 from rfl,List.drop_zero]at this;rw[VT];omega
variable{c:d5}
def nQ(d:(AI c).Sm):∃b,LE c=Y b/\(b=X->EQ c/\D3 c<=40):=by
 obtain ⟨r,j,_,_,o⟩:=aJ (SizeOf.sizeOf c) c (az _) d 40 U U;have e:Rp c 40=Y r:=Dp (SizeOf.sizeOf c) j;unfold LE;rw[e];exact⟨_,rfl,λh=>by have:=o b?;exact⟨this.1,by have:=this.2;simp at h;omega⟩⟩
def XQ:∀{l:List d5}{k:d5},k∈l->D3 k<=TP l
 |x::l,k,h=>by
  rw [TP];rcases List.mem_cons.1 h with rfl|h
  .omega
  .have:=XQ h;omega
end Go.Sf.Sc
namespace Go.Sf.Sc
open Go Go.Sf
class PL(α:Type)where
 at_:α->Int->Int
 ok:α->Nat->Prop
instance:PL Fp:=⟨AA,λl n=>l.length=n⟩
instance:PL (Option Fp):=⟨λo i=>match o with|none=>-1|some l=>AA l i,λo n=>match o with|none=>True|some l=>l.length=n⟩
structure Nu(f:AM):Prop where
 pn:PL.ok f.fu.dl f.p.dl.length
 pe:PL.ok f.fu.dr f.p.dr.length
 ends:∀e∈f.p.dr,0≤e.ia/\e.ia<f.p.dl.length/\0≤e.To/\e.To<f.p.dl.length
 kinds:∀n∈f.p.dl,0<=n/\n<f.is.length/\∀t∈f.g.dl,0<=t/\t<(AA f.is n).length
 small:f.p.dl.length<=1000/\f.p.dr.length<=1000/\f.g.dl.length<=1000/\f.g.dr.length<=1000
def Ll(f:AM)(i k:Int):Bool:=
 (decide (PL.at_ f.fu.dr i<0)||decide (PL.at_ f.fu.dr i=k))&&decide (AA f.g.dr k=⟨(AA f.p.dr i).ib,AA f.ea (AA f.p.dr i).ia,AA f.ea (AA f.p.dr i).To⟩)
def oG{α:Type}{l:List α}(h:l≠[]):Xf l=Y ():=by grind[Xf]
variable{l:Fp}{i:Int}
def YX(j:0<=i)(d:i<l.length):((Xf l).bind λ_=>(idx l i).bind λx=>Y x)=Y (AA l i):=by
 rw [oG (by intro h;subst h;simp at d;omega),bs,AD j d,bs]
variable{n:Nat}
def eW:∀{l},PL.ok l n->0<=i->i<n->NA l i=Y (PL.at_ l i):=by
 intro l h d j
 first
  |(cases l with
    |none=>rfl|some l=>exact YX d (by have:l.length=n:=h;omega))
  |exact YX d (by have:l.length=n:=h;omega)
variable{f:AM}{k:Int}
def oa(hf:Nu f)(d:0<=i)(i1:i<f.p.dr.length)(h:0<=k)(j:k<f.g.dr.length)(o:(AA f.p.dr i).ia<f.ea.length)(hT:(AA f.p.dr i).To<f.ea.length):ES f i k=Y (Ll f i k):=by
 have he:=hf.ends _ (AG d i1);unfold ES Ll;rw[AD d i1,bs,eW hf.pe d i1,bs,AD h j,bs,AD he.1 o,bs,AD he.2.2.1 hT,bs]
 grind
def QJ(f:AM):Bool:=!kp (λi=>decide (max (AA f.p.dr i).ia (AA f.p.dr i).To=(f.ea.length:Int)-1)&&!kp (λk=>Ll f i k) 0 f.g.dr.length) 0 f.p.dr.length
variable{b:Int}
def uT{f:Int->Bool->Option (B2 Bool Bool)}(p:Int->Bool)(h:∀i,0<=i->i<b->f i T=Y (if p i=X then .brk X else .next T)):hV f 0 b T=Y (.inl (kp p 0 b)):=by
 have key:∀(m:Nat)(i:Int),0<=i->i+m=b->t5 f m i T=Y (.inl (kp p i b)):=by
  intro m
  induction m with
  |zero=>
   intro i d hi;have:kp p i b=T:=by rw[B5];intro j q u;omega
   rw [this];rfl
  |succ m w=>
   intro i d hi;rw[GO,h i d U];by_cases o:p i=X
   .have:kp p i b=X:=by rw[Cz];exact⟨i,y? _,U,o⟩
    rw [ac o,this]
   .have e:kp p i b=kp p (i+1) b:=by
     rw [z?,Cz,Cz]
     grind
    grind
 unfold hV;by_cases hb:0<=b
 .grind
 .have:kp p 0 b=T:=by rw[B5];intro j q u;omega
  rw [this,show(b-0).toNat=0 by omega];rfl
def lw(hf:Nu f)(u:0<f.ea.length)(j:f.ea.length<=1000):Cg f=Y (QJ f):=by
 unfold Cg QJ;rw[Bq (λi=>decide (max (AA f.p.dr i).ia (AA f.p.dr i).To=(f.ea.length:Int)-1)&&!kp (λk=>Ll f i k) 0 f.g.dr.length) T]
 .generalize kp (λi=>decide (max (AA f.p.dr i).ia (AA f.p.dr i).To=(f.ea.length:Int)-1)&&!kp (λk=>Ll f i k) 0 f.g.dr.length) 0 f.p.dr.length=b;cases b<;>rfl
 .intro i d i1 _;rw[AD d i1,bs,AU (n:=(f.ea.length:Int)-1) U U];by_cases h:max (AA f.p.dr i).ia (AA f.p.dr i).To=(f.ea.length:Int)-1
  .rw[ae l_,uT (λk=>Ll f i k) (λk o q=>by
    rw [oa hf d i1 o q U U,bs,JL])]
   generalize kp (λk=>Ll f i k) 0 f.g.dr.length=b;rw[decide_eq_true h];cases b<;>rfl
  grind
def Az(n:Nat):Fp:=(F_ n).map Int.ofNat
def WG(n:Nat):Az (n+1)=Az n++[(n:Int)]:=by grind[Az,H_]
def SW(f:AM)(k:Int):Bool:=(decide (PL.at_ f.fu.dl f.ea.length<0)||decide (PL.at_ f.fu.dl f.ea.length=k))&&AA (AA f.is (AA f.p.dl f.ea.length)) (AA f.g.dl k)&&!(f.ff&&f.ea.any λx=>decide (k=x))
def SV(f:AM)(k:Int):Bool:=Ll f f.eb.length k&&!(f.ff&&f.eb.any λx=>decide (k=x))
def ER:Nat->AM->List d4
 |0,f=>[⟨f.ea,f.eb⟩]|n+1,f=>(Az f.g.dr.length).flatMap λk=>if SV f k=X then ER n {f with eb:=f.eb++[k]}else[]
def LM:Nat->AM->List d4
 |0,f=>ER f.p.dr.length f|n+1,f=>(Az f.g.dl.length).flatMap λk=>if(SW f k&&QJ {f with ea:=f.ea++[k]})=X then LM n {f with ea:=f.ea++[k]}else[]
def bm{α:Type}(a b:List α)(m:Nat):((a.take m)++b).take m=(a++b).take m:=by
 by_cases h:a.length<=m
 .rw[I_ h]
 grind
end Go.Sf.Sc
namespace Go.Sf.Sc
open Go Go.Sf
def Uk(f:AM)(o:List d4):AM:={f with out:=o}
variable{f:AM}
def Nu.out(h:Nu f)(o:List d4):Nu (Uk f o):=⟨h.pn,h.pe,h.ends,h.kinds,h.small⟩
def SG:∀(n:Nat)(f:AM)(o:List d4),ER n (Uk f o)=ER n f
 |0,_,_=>rfl|n+1,f,o=>by
  rw [ER,ER];refine congrArg (λF=>(Az f.g.dr.length).flatMap F) (funext λk=>?_);have:=SG n {f with eb:=f.eb++[k]} o;show(if SV f k=X then ER n (Uk {f with eb:=f.eb++[k]} o)else[])=_;rw[this]
def da:∀(n:Nat)(f:AM)(o:List d4),LM n (Uk f o)=LM n f
 |0,f,o=>SG _ f o|n+1,f,o=>by
  rw [LM,LM];refine congrArg (λF=>(Az f.g.dl.length).flatMap F) (funext λk=>?_);have:=da n {f with ea:=f.ea++[k]} o;show(if(SW f k&&QJ {f with ea:=f.ea++[k]})=X then LM n (Uk {f with ea:=f.ea++[k]} o)else[])=_;rw[this]
def BU(f:AM)(l:List d4):AM:=Uk f ((f.out++l).take f.po.toNat)
structure ZP(f:AM):Prop where
 m0:0<=f.po
 m1:f.po<=10000
 out:(f.out.length:Int)<=f.po
def Mm(h:ZP f):BU f []=f:=by
 unfold BU;rw[H!,I_ (by have:=h.out;have:=h.m0;omega)];rfl
theorem ah(h:(f.out.length:Int)=f.po)(l:List d4):BU f l=f:=by
 unfold BU;rw[I' U,I_ U];rfl
def aj(h:ZP f)(l:List d4):ZP (BU f l):=by
 refine ⟨h.m0,h.m1,?_⟩;have:=h.m0;show(((f.out++l).take f.po.toNat).length:Int)<=f.po
 grind
def ai(f:AM)(a b:List d4):BU (BU f a) b=BU f (a++b):=by
 show Uk f ((((f.out++a).take f.po.toNat)++b).take f.po.toNat)=_;rw[bm,ci];rfl
theorem YP:∀(n:Nat)(f:AM),Nu f->ZP f->f.ea.length=f.p.dl.length->f.eb.length+n=f.p.dr.length->∀m,n+1<=m->BL m f=Y (BU f (ER n f))
 |n,f,hf,hr,N,he,m,B=>by
  obtain ⟨m,rfl⟩:∃k,m=k+1:=⟨m-1,U⟩;have O:=hf.small;have Q:=hr.m0;have S:=hr.m1;have θ:=hr.out;rw[BL];by_cases h:(f.out.length:Int)=f.po
  .grind[ah]
  rw [ae b?,ae an]
  match n,he,B with
  |0,he,B=>
   rw [ae an];unfold slices_Clone_int;rw[BZ b_,bs,BZ b_,bs,AP a_,bs,bs];unfold BU;rw[I_ (by simp[ER];omega)];rfl
  |n+1,he,B=>
   rw [ac an];have F:∀k,SV f k=X->Nu {f with eb:=f.eb++[k]}:=λk _=>⟨hf.pn,hf.pe,hf.ends,hf.kinds,hf.small⟩;rw[Bo (a:=0) (s:=f) (λi=>BU f ((Az i.toNat).flatMap λk=>if SV f k=X then ER n {f with eb:=f.eb++[k]}else[])) U (Mm hr)]
   .grind[z_,ER]
   .intro i E i1;have G:Az (i+1).toNat=Az i.toNat++[i]:=by
     rw [show(i+1).toNat=i.toNat+1 by omega,WG];rw[show((i.toNat:Nat):Int)=i by omega]
    have H:∀l,BU f ((Az (i+1).toNat).flatMap l)=BU (BU f ((Az i.toNat).flatMap l)) (l i):=by
     intro l;rw[ai,G,I!];simp
    rw [H];generalize (Az i.toNat).flatMap (λk=>if SV f k=X then ER n {f with eb:=f.eb++[k]}else[])=L;have q:=aj hr L;have y:Nu (BU f L):=hf.out _;have C:=hf.ends _ (AG (l:=f.p.dr) (i:=(f.eb.length:Int)) U U);rw[oa y (i:=(f.eb.length:Int)) (k:=i) U (by show _<(f.p.dr.length:Int);omega) E (by exact i1) (by show(AA f.p.dr f.eb.length).ia<(f.ea.length:Int);omega) (by show(AA f.p.dr f.eb.length).To<(f.ea.length:Int);omega),bs];have I:slices_Contains_int (BU f L).eb i=Y (f.eb.any λx=>decide (i=x)):=Mj f.eb i;rw[I];have u:Ll (BU f L) f.eb.length i=Ll f f.eb.length i:=rfl;have key:((AY (BU f L).eb [i]).bind λj=>
      (BL m (AM.mk (BU f L).p (BU f L).g (BU f L).is (BU f L).fu (BU f L).ff (BU f L).po (BU f L).ea j (BU f L).out)).bind λd=>
      (slc d.eb 0 (f.eb.length:Int)).bind λo=>
      Y (AM.mk d.p d.g d.is d.fu d.ff d.po d.ea o d.out))=Y (BU (BU f L) (ER n {f with eb:=f.eb++[i]})):=by
     have J:AY (BU f L).eb [i]=Y (f.eb++[i]):=AP (by show f.eb.length+1<=AX;unfold AX;omega);have D:=YP n {BU f L with eb:=f.eb++[i]} ⟨hf.pn,hf.pe,hf.ends,hf.kinds,hf.small⟩ ⟨q.m0,q.m1,q.out⟩ N (by show(f.eb++[i]).length+n=f.p.dr.length;simp;omega) m U;have K:ER n {BU f L with eb:=f.eb++[i]}=ER n {f with eb:=f.eb++[i]}:=SG n {f with eb:=f.eb++[i]} _;rw[K]at D;rw[J,bs];show(BL m {BU f L with eb:=f.eb++[i]}).bind _=_;rw[D,bs];have M:slc (BU {BU f L with eb:=f.eb++[i]} (ER n {f with eb:=f.eb++[i]})).eb 0 (f.eb.length:Int)=Y f.eb:=by
      show slc (f.eb++[i]) 0 (f.eb.length:Int)=_;rw[GW U (by rw[b6];omega),z_,I?]
     rw [M];rfl
    rw [key,u];have z:SV f i=(Ll f f.eb.length i&&!(f.ff&&f.eb.any λx=>decide (i=x))):=rfl;have w:(BU f L).ff=f.ff:=rfl;rw[z,w];generalize ε:ER n {f with eb:=f.eb++[i]}=A;cases Ll f f.eb.length i
    .simp only[A_,A',if_false,Mm q];rfl
    .cases f.ff
     .rfl
     .cases f.eb.any λx=>decide (i=x)
      .rfl
      .simp only[C!,C_,D',A',if_false,Mm q];rfl
end Go.Sf.Sc
namespace Go.Sf.Sc
open Go Go.Sf
def YQ:∀(n:Nat)(f:AM),Nu f->ZP f->f.eb=[]->f.ea.length+n=f.p.dl.length->∀m,n+f.p.dr.length+1<=m->BL m f=Y (BU f (LM n f))
 |0,f,hf,hr,he,θ,m,ε=>by
  grind [LM,YP]
 |n+1,f,hf,hr,he,θ,m,ε=>by
  obtain ⟨m,rfl⟩:∃k,m=k+1:=⟨m-1,U⟩;have κ:=hf.small;have η:=hr.m0;have Z:=hr.m1;have h2:=hr.out;rw[BL];by_cases o:(f.out.length:Int)=f.po
  .grind[ah]
  rw [ae c?,ac an];rw[Bo (a:=0) (s:=f) (λi=>BU f ((Az i.toNat).flatMap λk=>if(SW f k&&QJ {f with ea:=f.ea++[k]})=X then LM n {f with ea:=f.ea++[k]}else[])) U (Mm hr)]
  .grind[z_,LM]
  .intro i D i1;have G:Az (i+1).toNat=Az i.toNat++[i]:=by
    rw [show(i+1).toNat=i.toNat+1 by omega,WG];rw[show((i.toNat:Nat):Int)=i by omega]
   have H:∀l,BU f ((Az (i+1).toNat).flatMap l)=BU (BU f ((Az i.toNat).flatMap l)) (l i):=by
    intro l;rw[ai,G,I!];simp
   rw [H];generalize (Az i.toNat).flatMap (λk=>if(SW f k&&QJ {f with ea:=f.ea++[k]})=X then LM n {f with ea:=f.ea++[k]}else[])=L;have q:=aj hr L;have y:(f.ea.length:Int)<(f.p.dl.length:Int):=U
   have u:=hf.kinds _ (AG (l:=f.p.dl) (i:=(f.ea.length:Int)) U y);have z:=u.2.2 _ (AG D i1);have key:((AY (BU f L).ea [i]).bind λh=>
     (Cg (AM.mk (BU f L).p (BU f L).g (BU f L).is (BU f L).fu (BU f L).ff (BU f L).po h (BU f L).eb (BU f L).out)).bind λw=>
     if w=X then
     (BL m (AM.mk (BU f L).p (BU f L).g (BU f L).is (BU f L).fu (BU f L).ff (BU f L).po h (BU f L).eb (BU f L).out)).bind λd=>
     (slc d.ea 0 (f.ea.length:Int)).bind λj=>
     Y (AM.mk d.p d.g d.is d.fu d.ff d.po j d.eb d.out)
     else
     (slc h 0 (f.ea.length:Int)).bind λj=>
     Y (AM.mk (BU f L).p (BU f L).g (BU f L).is (BU f L).fu (BU f L).ff (BU f L).po j (BU f L).eb (BU f L).out))=Y (BU (BU f L) (if QJ {f with ea:=f.ea++[i]}=X then LM n {f with ea:=f.ea++[i]}else[])):=by
    have I:AY (BU f L).ea [i]=Y (f.ea++[i]):=AP (by show f.ea.length+1<=AX;unfold AX;omega);have E:slc (f.ea++[i]) 0 (f.ea.length:Int)=Y f.ea:=by
     rw [GW U (by rw[b6];omega),z_,I?]
    have J:Cg {BU f L with ea:=f.ea++[i]}=Y (QJ {f with ea:=f.ea++[i]}):=lw (f:={BU f L with ea:=f.ea++[i]}) ⟨hf.pn,hf.pe,hf.ends,hf.kinds,hf.small⟩ (by show 0<(f.ea++[i]).length;simp) (by show(f.ea++[i]).length<=1000;rw[b6];simp;omega);have F:=YQ n {BU f L with ea:=f.ea++[i]} ⟨hf.pn,hf.pe,hf.ends,hf.kinds,hf.small⟩ ⟨q.m0,q.m1,q.out⟩ he (by show(f.ea++[i]).length+n=f.p.dl.length;rw[b6];simp;omega) m (by show n+f.p.dr.length+1<=m;omega);have K:LM n {BU f L with ea:=f.ea++[i]}=LM n {f with ea:=f.ea++[i]}:=da n {f with ea:=f.ea++[i]} _;rw[K]at F;rw[I,bs];show(Cg {BU f L with ea:=f.ea++[i]}).bind _=_;rw[J,bs];cases QJ {f with ea:=f.ea++[i]}
    .rw[ae a!,ae a!,E,Mm q];rfl
    .rw[ac rfl,ac rfl];show(BL m {BU f L with ea:=f.ea++[i]}).bind _=_;rw[F,bs];have M:slc (BU {BU f L with ea:=f.ea++[i]} (LM n {f with ea:=f.ea++[i]})).ea 0 (f.ea.length:Int)=Y f.ea:=E;rw[M];rfl
   have N:NA (BU f L).fu.dl (f.ea.length:Int)=Y (PL.at_ f.fu.dl f.ea.length):=eW (n:=f.p.dl.length) hf.pn U U;have O:idx (BU f L).p.dl (f.ea.length:Int)=Y (AA f.p.dl f.ea.length):=AD U y;have hi:idx (BU f L).is (AA f.p.dl f.ea.length)=Y (AA f.is (AA f.p.dl f.ea.length)):=AD u.1 u.2.1;have Q:idx (AA f.is (AA f.p.dl f.ea.length)) (AA f.g.dl i)=Y (AA (AA f.is (AA f.p.dl f.ea.length)) (AA f.g.dl i)):=AD z.1 z.2;have S:slices_Contains_int (BU f L).ea i=Y (f.ea.any λx=>decide (i=x)):=Mj f.ea i;have B:(BU f L).ff=f.ff:=rfl;have C:SW f i=((decide (PL.at_ f.fu.dl f.ea.length<0)||decide (PL.at_ f.fu.dl f.ea.length=i))&&AA (AA f.is (AA f.p.dl f.ea.length)) (AA f.g.dl i)&&!(f.ff&&f.ea.any λx=>decide (i=x))):=rfl;rw[AD D i1,bs,N,bs,O,bs,hi,bs,Q,bs,S,key,B,C];generalize AA (AA f.is (AA f.p.dl f.ea.length)) (AA f.g.dl i)=c2;have hb:(decide (0<=PL.at_ f.fu.dl f.ea.length)&&!decide (PL.at_ f.fu.dl f.ea.length=i))=!(decide (PL.at_ f.fu.dl f.ea.length<0)||decide (PL.at_ f.fu.dl f.ea.length=i)):=by
    rw [Bool.not_or];congr 1;rw[<-decide_not];exact decide_eq_decide.2 U
   rw [hb];generalize (decide (PL.at_ f.fu.dl f.ea.length<0)||decide (PL.at_ f.fu.dl f.ea.length=i))=c1;generalize QJ {f with ea:=f.ea++[i]}=c5;generalize LM n {f with ea:=f.ea++[i]}=A;cases c1
   .simp only[A_,A',if_false,Mm q];rfl
   .cases c2
    .simp only[D',A_,A',if_false,Mm q];rfl
    .cases f.ff
     .rfl
     .cases f.ea.any λx=>decide (i=x)
      .rfl
      .simp only[C!,C_,D',A_,A',if_false,Mm q];rfl
variable{f:AM}
def oU(hf:Nu f)(hr:ZP f)(he:f.eb=[])(d:f.ea=[]):Hq f=Y (BU f (LM f.p.dl.length f)):=
 Dp (f.p.dl.length+f.p.dr.length+1) λm h=>YQ _ f hf hr he (by rw[d];simp) m h
end Go.Sf.Sc
namespace Go.Sf.Sc
open Go Go.Sf
theorem Ay(n:Nat):(Az n).length=n:=by simp[Az]
variable{n:Nat}{i:Int}
theorem DA:i∈Az n↔0<=i/\i<n:=by
 unfold Az;rw[G_];constructor
 .grind
 .rintro⟨d,h⟩;exact⟨i.toNat,G!.2 U,by show((i.toNat:Nat):Int)=i;omega⟩
theorem Ir{α:Type}[Inhabited α](F:Int->α)(d:0<=i)(h:i<n):AA ((Az n).map F) i=F i:=by
 unfold AA Az
 grind
theorem Et(d:0<=i):Az (i+1).toNat=Az i.toNat++[i]:=by
 rw [show(i+1).toNat=i.toNat+1 by omega,WG,show((i.toNat:Nat):Int)=i by omega]
def Pp(t:AC)(a:Int):a6:=(Az t.dl.length).map λk=>HI t k a
def KQ(t:AC):List a6:=(Az t.dl.length).map (Pp t)
variable{t:AC}{a:Int}
def vG(hf:A2 t)(h:Ft t)(hv:(BD t).2=0)(a0:0<=a)(a1:a<t.dl.length):KT t a=Y ((Az t.dl.length).filter λi=>HI t i a,0):=by
 have d:=h.ea;unfold KT;have hb:MQ t a=X:=by simp[MQ,a0,a1]
 rw [Zr hf,bs,ae (by simp[hv,hb])];rw[Bo (λi=>(Az i.toNat).filter λi=>HI t i a) U t_,bs,z_]
 grind [rV,Et,Az,HI,List.length_filter_le,Ay,AP,AX]
variable{l:Fp}
def wH(w:∀x∈l,0<=x/\x<n):kx (λ(i2:Int)(s2:a6)=>
  (idx l i2).bind λd=>
  (idx s2 d).bind λ_=>
  Y (BE s2 d X)) 0 (l.length:Int) (F! n T)=Y ((Az n).map λk=>l.any λx=>decide (x=k)):=by
 rw [Bo (λj=>(Az n).map λk=>(l.take j.toNat).any λx=>decide (x=k)) U (by
  refine F? (by simp[Ay]) (λj o A=>V))]
 .rw[z_,E']
 .intro j q o;have u:=w _ (AG q o);rw[AD q o,bs,AD u.1 (by rw[c9,Ay];exact u.2),bs,Ba q o];congr 1;unfold BE;refine F? V (λk B y=>?_);have z:k<n:=by simpa[Ay]using y
  rw [List.getElem_set];have e:(Az n)[k]'(by rw[Ay];exact z)=(k:Int):=by simp[Az]
  simp only[List.getElem_map,e,J_,E?,J',D_];by_cases h:(AA l j).toNat=k
  .rw[ac h,decide_eq_true (show AA l j=(k:Int)by omega),Bool.or_true]
  .rw[ae h,decide_eq_false (show¬AA l j=(k:Int)by omega),D_]
def l5(hf:A2 t)(h:Ft t)(hv:(BD t).2=0):Hj t=Y (KQ t):=by
 have w:=h.ea;unfold Hj;rw[Bo (λi=>(Az i.toNat).map (Pp t)) U t_,bs,z_]
 .rfl
 .intro i q i1;have u:Gg (t.dl.length:Int) T=Y (F! t.dl.length T):=by
   unfold Gg;rw[ac U,z_]
  rw [u,bs,vG hf h hv q i1,bs];have:=wH (n:=t.dl.length) (l:=(Az t.dl.length).filter λk=>HI t k i) (λx j=>DA.1 (J!.1 j).1);show(kx (λ(i2:Int)(s2:a6)=>
   (idx ((Az t.dl.length).filter λk=>HI t k i) i2).bind λd=>
   (idx s2 d).bind λ_=>
   Y (BE s2 d X)) 0 (((Az t.dl.length).filter λk=>HI t k i).length:Int) (F! t.dl.length T)).bind _=_
  rw [this,bs,AP (by rw[c9,Ay];simp;unfold AX;omega),bs,Et q,H'];congr 2;simp only[List.map_cons,List.map_nil];congr 1;unfold Pp;refine List.map_congr_left (λk o=>?_);have o:=DA.1 o;rw[z?,E!];constructor
  .rintro⟨x,j,e⟩;rw[qo]at e;subst e;exact(J!.1 j).2
  .intro hb;exact⟨k,J!.2 ⟨DA.2 o,hb⟩,V⟩
end Go.Sf.Sc
namespace Go.Sf.Sc
open Go Go.Sf
def Fa:Nat->AM->List d4
 |0,f=>ER f.p.dr.length f|n+1,f=>(Az f.g.dl.length).flatMap λk=>if SW f k=X then Fa n {f with ea:=f.ea++[k]}else[]
def kX(f:AM)(i:Int):Prop:=0<=i/\i<f.p.dr.length/\0<=(AA f.p.dr i).ia/\(AA f.p.dr i).ia<f.ea.length/\0<=(AA f.p.dr i).To/\(AA f.p.dr i).To<f.ea.length/\∀k:Int,0<=k->k<f.g.dr.length->Ll f i k=T
theorem Xu(f:AM)(i k:Int):Ll f i k=((decide (PL.at_ f.fu.dr i<0)||decide (PL.at_ f.fu.dr i=k))&&decide (AA f.g.dr k=⟨(AA f.p.dr i).ib,AA f.ea (AA f.p.dr i).ia,AA f.ea (AA f.p.dr i).To⟩)):=rfl
variable{i:Int}
theorem Lz{α:Type}[Inhabited α](l:List α)(x:α)(d:0<=i)(h:i<l.length):AA (l++[x]) i=AA l i:=by
 unfold AA
 grind
def nL:∀(n:Nat)(f:AM)(i:Int),kX f i->(f.eb.length:Int)<=i->i<f.eb.length+n->ER n f=[]
 |0,f,i,_,h,j=>by omega|n+1,f,i,hd,h,j=>by
  rw [ER];refine J?.2 (λk d=>?_);have d:=DA.1 d;by_cases he:(f.eb.length:Int)=i
  .have:SV f k=T:=by
    unfold SV;rw[he,hd.2.2.2.2.2.2 k d.1 d.2];rfl
   grind
  .split
   .exact nL n {f with eb:=f.eb++[k]} i hd (by show((f.eb++[k]).length:Int)<=i;rw[b6];simp;omega) (by show i<((f.eb++[k]).length:Int)+n;rw[b6];simp;omega)
   .rfl
theorem d9:∀(n:Nat)(f:AM)(i:Int),f.eb=[]->kX f i->Fa n f=[]
 |0,f,i,he,hd=>by
  rw [Fa];exact nL _ f i hd (by rw[he];simpa using hd.1) (by rw[he];simpa using hd.2.1)
 |n+1,f,i,he,hd=>by
  rw [Fa];refine J?.2 (λk u=>?_);split
  .refine d9 n {f with ea:=f.ea++[k]} i he ?_;obtain⟨d,h,o,z,q,A,B⟩:=hd;have y:((f.ea++[k]).length:Int)=f.ea.length+1:=by rw[b6];simp
   refine ⟨d,h,o,?_,q,?_,λj w x=>?_⟩
   .grind
   .grind
   grind [Xu,AA,Lz]
  .rfl
variable{f:AM}
def rb(hf:Nu f)(h:QJ f=T):∃i,kX f i:=by
 unfold QJ at h;rw[B_,Cz]at h;obtain⟨i,d,i1,h⟩:=h;rw[mo,qo,A?,B5]at h;have he:=hf.ends _ (AG d i1);exact⟨i,d,i1,he.1,U,he.2.2.1,U,h.2⟩
def dZ:∀(n:Nat)(f:AM),Nu f->f.eb=[]->LM n f=Fa n f
 |0,_,_,_=>rfl|n+1,f,hf,he=>by
  rw [LM,Fa];refine congrArg (λF=>(Az f.g.dl.length).flatMap F) (funext λk=>?_);have d:Nu {f with ea:=f.ea++[k]}:=⟨hf.pn,hf.pe,hf.ends,hf.kinds,hf.small⟩;cases SW f k
  .rfl
  .cases h:QJ {f with ea:=f.ea++[k]}
   .obtain⟨i,hd⟩:=rb d h
    grind [d9]
   .simp;exact dZ n _ d he
end Go.Sf.Sc
namespace Go.Sf.Sc
open Go Go.Sf
variable{a b:Int}
def Py{σ ρ:Type}{f:σ×Int->Option (B2 (σ×Int) ρ)}(g:Int->σ){s:σ}(d:a<=b)(j:s=g a)(h:∀i,a<=i->i<b->f (g i,i)=Y (.next (g (i+1),i+1)))(hb:f (g b,b)=Y (.brk (g b,b))):DC f (s,a)=Y (.inl (g b,b)):=by
 subst j;have key:∀(n:Nat)(i:Int),a<=i->i+n=b->Mc f (g i,i) (.inl (g b,b)):=by
  intro n
  induction n with
  |zero=>
   intro i _ hi;have:i=b:=U
   subst this;exact .brk hb
  |succ n q=>
   intro i o u;exact .next (h i o U) (q (i+1) U U)
 exact (key (b-a).toNat a (y? _) U).eq
def JZ(s:A1)(ea eb:Fp):AM:=⟨s.p,s.g,KQ s.t,s.fu,s.ff,s.po+1,ea,eb,s.Aao⟩
def Cr(s:A1)(l:List d4):A1:={s with Aao:=(s.Aao++l).take (s.po+1).toNat}
structure YC(s:A1):Prop where
 m0:0<=s.po
 m1:s.po<=9999
 out:(s.Aao.length:Int)<=s.po+1
theorem RB{s:A1}(h:YC s):Cr s []=s:=by
 unfold Cr;rw[H!,I_ (by have:=h.out;have:=h.m0;omega)]
theorem ZA{s:A1}(h:(s.Aao.length:Int)=s.po+1)(l:List d4):Cr s l=s:=by
 unfold Cr;rw[I' U,I_ U]
def ZB{s:A1}(h:YC s)(l:List d4):YC (Cr s l):=by
 refine ⟨h.m0,h.m1,?_⟩;have:=h.m0;show(((s.Aao++l).take (s.po+1).toNat).length:Int)<=s.po+1
 grind
def XF(s:A1)(a b:List d4):Cr (Cr s a) b=Cr s (a++b):=by
 show ({s with Aao:=(((s.Aao++a).take (s.po+1).toNat)++b).take (s.po+1).toNat}:A1)=_;rw[bm,ci];rfl
variable{l:Fp}
def pB(s:A1)(d:l.length<=1000)(n:Int):Cm s l n=Y (s.ff&&l.any λx=>decide (n=x)):=by
 unfold Cm;cases s.ff
 .rw[Wp (λ_=>T) X (a:=0) (b:=0) (y? _) (λi i1 i2=>U) (by rw[ae V])];rfl
 .rw[Wp (λi=>decide (AA l i=n)) X (a:=0) (b:=l.length) U (λi i1 i2=>by
   rw [ac (by simp;exact i2),AD i1 i2,bs,AU U U,JL]) (by rw[ae V])]
  have e:kp (λi=>decide (AA l i=n)) 0 l.length=l.any λx=>decide (n=x):=by
   rw [z?,Cz,E!]
   grind [AG,BP]
  rw [e,z!];cases l.any λx=>decide (n=x)<;>rfl
def bY:∀(n:Nat)(s:A1)(ea l:Fp),Nu (JZ s [] [])->YC s->ea.length=s.p.dl.length->l.length+n=s.p.dr.length->∀m,n+1<=m->B9 m s ea l=Y (Cr s (ER n (JZ s ea l)))
 |n,s,ea,l,hf,hr,C,he,m,D=>by
  obtain ⟨m,rfl⟩:∃k,m=k+1:=⟨m-1,U⟩;have w:=hf.small;have ε:s.p.dl.length<=1000:=w.1;have s2:s.p.dr.length<=1000:=w.2.1;have κ:s.g.dl.length<=1000:=w.2.2.1;have η:s.g.dr.length<=1000:=w.2.2.2;have Z:=hr.m0;have h1:=hr.m1;have h2:=hr.out;rw[B9];by_cases y:(s.Aao.length:Int)=s.po+1
  .grind[ZA]
  rw [ae an]
  match n,he,D with
  |0,he,D=>
   rw [ac an,BZ b_,bs,BZ b_,bs,AP a_,bs];unfold Cr;rw[I_ (by simp[ER];omega)];rfl
  |n+1,he,D=>
   have h:(0:Int)<=l.length:=U
   have u:(l.length:Int)<s.p.dr.length:=U
   have d:=hf.ends _ (AG (l:=s.p.dr) h u);have I:(AA s.p.dr l.length).ia<ea.length:=by rw[C];exact d.2.1
   have J:(AA s.p.dr l.length).To<ea.length:=by rw[C];exact d.2.2.2
   have z:(l.length:Int)<s.fu.dr.length:=by
    have:s.fu.dr.length=s.p.dr.length:=hf.pe;omega
   rw [ae an,AD h u,bs];rw[Py (λi=>Cr s ((Az i.toNat).flatMap λk=>if SV (JZ s ea l) k=X then ER n (JZ s ea (l++[k]))else[])) (a:=0) (b:=(s.g.dr.length:Int)) (s:=s) U (RB hr).symm (λi E i1=>by
    have K:∀F,Cr s ((Az (i+1).toNat).flatMap F)=Cr (Cr s ((Az i.toNat).flatMap F)) (F i):=by
     intro F;rw[XF,Et E,List.flatMap_append];simp
    rw [K];generalize (Az i.toNat).flatMap (λk=>if SV (JZ s ea l) k=true then ER n (JZ s ea (l++[k]))else[])=L;have G:=ZB hr L;rw[ac (by rw[qo];exact i1)];have M:idx (Cr s L).g.dr i=some (AA s.g.dr i):=AD E i1;have N:idx (Cr s L).fu.dr (l.length:Int)=some (AA s.fu.dr l.length):=AD h z;have O:Cm (Cr s L) l i=some (s.ff&&l.any λx=>decide (i=x)):=pB (Cr s L) U i;have key:((AY [] l).bind λj=>
      (AY j [i]).bind λo=>
      (B9 m (Cr s L) ea o).bind λq=>
      some (.next (q,AJ (i+1)):B2 (A1×Int) A1))=some (.next (Cr (Cr s L) (ER n (JZ s ea (l++[i]))),i+1)):=by
     have H:=bY n (Cr s L) ea (l++[i]) ⟨hf.pn,hf.pe,hf.ends,hf.kinds,hf.small⟩ G C (by show(l++[i]).length+n=s.p.dr.length;rw[b6];simp;omega) m U;have Q:ER n (JZ (Cr s L) ea (l++[i]))=ER n (JZ s ea (l++[i])):=SG n (JZ s ea (l++[i])) _;rw[Q]at H;rw[BZ b_,bs,AP a_,bs,H,bs,AU U U]
    rw [M,bs,N,bs,O,key];simp only[bs];rw[AD d.1 I,AD d.2.2.1 J,AU (n:=i+1) U U];simp only[bs];have B:SV (JZ s ea l) i=(((decide (AA s.fu.dr l.length<0)||decide (AA s.fu.dr l.length=i))&&decide (AA s.g.dr i=⟨(AA s.p.dr l.length).ib,AA ea (AA s.p.dr l.length).ia,AA ea (AA s.p.dr l.length).To⟩))&&!(s.ff&&l.any λx=>decide (i=x))):=rfl;have S:decide (AA s.g.dr i=⟨(AA s.p.dr l.length).ib,AA ea (AA s.p.dr l.length).ia,AA ea (AA s.p.dr l.length).To⟩)=(decide ((AA s.p.dr l.length).ib=(AA s.g.dr i).ib)&&decide ((AA s.g.dr i).ia=AA ea (AA s.p.dr l.length).ia)&&decide ((AA s.g.dr i).To=AA ea (AA s.p.dr l.length).To)):=by
     rw [Bool.eq_iff_iff];simp[qo];generalize AA s.g.dr i=x;obtain⟨x1,x2,x3⟩:=x;simp;constructor
     .rintro⟨a,b,c⟩;exact⟨⟨a.symm,b⟩,c⟩
     .rintro⟨⟨a,b⟩,c⟩;exact⟨a.symm,b,c⟩
    have θ:(decide (AA s.fu.dr l.length<0)||decide (AA s.fu.dr l.length=i))=!(decide (0<=AA s.fu.dr l.length)&&!decide (AA s.fu.dr l.length=i)):=by
     rw [Bool.not_and,Bool.not_not];congr 1;rw[<-decide_not];exact decide_eq_decide.2 U
    rw [B,S,θ];generalize ER n (JZ s ea (l++[i]))=A;generalize decide (0<=AA s.fu.dr l.length)=c1;generalize decide (AA s.fu.dr l.length=i)=c2;generalize decide ((AA s.p.dr l.length).ib=(AA s.g.dr i).ib)=c3;generalize decide ((AA s.g.dr i).ia=AA ea (AA s.p.dr l.length).ia)=c4;generalize decide ((AA s.g.dr i).To=AA ea (AA s.p.dr l.length).To)=c5;generalize (s.ff&&l.any λx=>decide (i=x))=c6;cases c1<;>cases c2<;>cases c3<;>cases c4<;>cases c5<;>cases c6<;>first|rfl|(simp[RB G];try rfl)) (by rw[ae (by simp[Cr])]),B8,z_,ER]
   rfl
end Go.Sf.Sc
namespace Go.Sf.Sc
open Go Go.Sf
def Uu(s:A1)(l:Fp)(i k:Int):Bool:=decide (AA s.g.dr k=⟨(AA s.p.dr i).ib,AA l (AA s.p.dr i).ia,AA l (AA s.p.dr i).To⟩)
def UK(s:A1)(l:Fp)(i:Int):Bool:=(decide ((AA s.p.dr i).ia<l.length)&&decide ((AA s.p.dr i).To<l.length))&&!(Az s.g.dr.length).any (Uu s l i)
variable{l:Fp}
def ya{s:A1}(hf:Nu (JZ s [] [])):GJ s l=Y (!kp (UK s l) 0 s.p.dr.length):=by
 unfold GJ;rw[Bq (UK s l) T]
 .cases kp (UK s l) 0 s.p.dr.length<;>rfl
 .intro i d i1 _;have he:=hf.ends _ (AG (l:=s.p.dr) d i1);rw[AD d i1,bs];unfold UK;by_cases j:(AA s.p.dr i).ia<l.length
  .by_cases hT:(AA s.p.dr i).To<l.length
   .rw[ae an,Bo (λk=>(Az k.toNat).any (Uu s l i)) U t_,bs,z_,decide_eq_true j,decide_eq_true hT]
    .grind
    .intro k h o;rw[AD h o,bs,Et h,J_];have q:Uu s l i k=(decide ((AA s.p.dr i).ib=(AA s.g.dr k).ib)&&decide ((AA s.g.dr k).ia=AA l (AA s.p.dr i).ia)&&decide ((AA s.g.dr k).To=AA l (AA s.p.dr i).To)):=by
      unfold Uu;rw[z?];simp[qo];generalize AA s.g.dr k=x;obtain⟨x1,u,w⟩:=x;simp;constructor
      .rintro⟨a,b,c⟩;exact⟨⟨a.symm,b⟩,c⟩
      .rintro⟨⟨a,b⟩,c⟩;exact⟨a.symm,b,c⟩
     rw [AD he.1 j,AD he.2.2.1 hT];simp only[E?,J',D_,bs];rw[q];generalize (Az k.toNat).any (Uu s l i)=c1;generalize decide ((AA s.p.dr i).ib=(AA s.g.dr k).ib)=c3;generalize decide ((AA s.g.dr k).ia=AA l (AA s.p.dr i).ia)=c4;generalize decide ((AA s.g.dr k).To=AA l (AA s.p.dr i).To)=c5;cases c1<;>cases c3<;>cases c4<;>cases c5<;>rfl
   grind
  grind
theorem yX{s:A1}(hf:Nu (JZ s [] []))(h:kp (UK s l) 0 s.p.dr.length=X):∃i,kX (JZ s l []) i:=by
 rw [Cz]at h;obtain⟨i,d,i1,h⟩:=h;unfold UK at h;rw[mo,mo,qo,qo,A?,D!]at h;have he:=hf.ends _ (AG (l:=s.p.dr) d i1);refine⟨i,d,i1,he.1,h.1.1,he.2.2.1,h.1.2,λk j o=>?_⟩;have:=h.2 k (DA.2 ⟨j,o⟩);have e:Uu s l i k=T:=by rw[<-C'];exact this
 rw [Xu];show((decide (AA s.fu.dr i<0)||decide (AA s.fu.dr i=k))&&Uu s l i k)=T;rw[e,D']
end Go.Sf.Sc
namespace Go.Sf.Sc
open Go Go.Sf
def db:∀(n:Nat)(f:AM)(o:List d4),Fa n (Uk f o)=Fa n f
 |0,f,o=>SG _ f o|n+1,f,o=>by
  rw [Fa,Fa];refine congrArg (λF=>(Az f.g.dl.length).flatMap F) (funext λk=>?_);have:=db n {f with ea:=f.ea++[k]} o
  grind [SW,Fa,Uk]
def bZ:∀(n:Nat)(s:A1)(l:Fp),Ft s.t->Nu (JZ s [] [])->YC s->l.length+n=s.p.dl.length->∀m,n+1<=m->CA m s l=Y (Cr s (Fa n (JZ s l [])))
 |n,s,l,Q,hf,hr,K,m,B=>by
  obtain ⟨m,rfl⟩:∃k,m=k+1:=⟨m-1,U⟩;have M:=hf.small;have s1:s.p.dl.length<=1000:=M.1;have s3:s.g.dl.length<=1000:=M.2.2.1;have h0:=hr.m0;have h1:=hr.m1;have h2:=hr.out;rw[CA];by_cases E:(s.Aao.length:Int)=s.po+1
  .grind[ZA]
  rw [ae an,ya hf];cases hd:kp (UK s l) 0 s.p.dr.length
  case true=>
   grind [yX,d9,JZ,RB]
  simp only[bs,Bool.not_false,C_,A',if_false]
  match n,K,B with
  |0,K,B=>
   rw [ac an,y!,Fa];exact Dp (s.p.dr.length+1) λm B=>bY s.p.dr.length s l [] hf hr U V m U
  |n+1,K,B=>
   have y:(l.length:Int)<s.p.dl.length:=U
   have o:(0:Int)<=l.length:=U
   have G:(l.length:Int)<s.fu.dl.length:=by
    have:s.fu.dl.length=s.p.dl.length:=hf.pn;omega
   have S:(KQ s.t).length=s.t.dl.length:=by unfold KQ;rw[c9,Ay]
   have d:=hf.kinds _ (AG (l:=s.p.dl) o y);have H:AA s.p.dl l.length<s.t.dl.length:=by rw[<-S];exact d.2.1
   have j:AA (KQ s.t) (AA s.p.dl l.length)=Pp s.t (AA s.p.dl l.length):=Ir (Pp s.t) d.1 H;rw[ae an];rw[Py (λi=>Cr s ((Az i.toNat).flatMap λk=>if SW (JZ s l []) k=X then Fa n (JZ s (l++[k]) [])else[])) (a:=0) (b:=(s.g.dl.length:Int)) (s:=s) U (RB hr).symm (λi C i1=>by
    have θ:∀F,Cr s ((Az (i+1).toNat).flatMap F)=Cr (Cr s ((Az i.toNat).flatMap F)) (F i):=by
     intro F;rw[XF,Et C,List.flatMap_append];simp
    rw [θ];generalize (Az i.toNat).flatMap (λk=>if SW (JZ s l []) k=true then Fa n (JZ s (l++[k]) [])else[])=L;have N:=ZB hr L;rw[ac (by rw[qo];exact i1)];have q:=d.2.2 _ (AG (l:=s.g.dl) C i1);have z:AA s.g.dl i<s.t.dl.length:=by
     have h:=q.2;have e:AA (JZ s [] []).is (AA s.p.dl l.length)=Pp s.t (AA s.p.dl l.length):=j;rw[e]at h;unfold Pp at h
     rwa [c9,Ay]at h
    have I:FL (Cr s L).t (AA s.g.dl i) (AA s.p.dl l.length)=some (HI s.t (AA s.g.dl i) (AA s.p.dl l.length)):=Wl Q q.1 z d.1;have ε:idx (Cr s L).g.dl i=some (AA s.g.dl i):=AD C i1;have κ:idx (Cr s L).fu.dl (l.length:Int)=some (AA s.fu.dl l.length):=AD o G;have η:Cm (Cr s L) l i=some (s.ff&&l.any λx=>decide (i=x)):=pB (Cr s L) U i;have Z:idx (Cr s L).p.dl (l.length:Int)=some (AA s.p.dl l.length):=AD o y;have key:((AY [] l).bind λD=>
      (AY D [i]).bind λu=>
      (CA m (Cr s L) u).bind λw=>
      some (.next (w,AJ (i+1)):B2 (A1×Int) A1))=some (.next (Cr (Cr s L) (Fa n (JZ s (l++[i]) [])),i+1)):=by
     have O:=bZ n (Cr s L) (l++[i]) Q ⟨hf.pn,hf.pe,hf.ends,hf.kinds,hf.small⟩ N (by show(l++[i]).length+n=s.p.dl.length;rw[b6];simp;omega) m U;have e3:Fa n (JZ (Cr s L) (l++[i]) [])=Fa n (JZ s (l++[i]) []):=db n (JZ s (l++[i]) []) _;rw[e3]at O;rw[BZ b_,bs,AP a_,bs,O,bs,AU U U]
    rw [κ,bs,η,ε,Z,key];simp only[bs];rw[I,AU (n:=i+1) U U];simp only[bs];have J:SW (JZ s l []) i=((decide (AA s.fu.dl l.length<0)||decide (AA s.fu.dl l.length=i))&&AA (AA (KQ s.t) (AA s.p.dl l.length)) (AA s.g.dl i)&&!(s.ff&&l.any λx=>decide (i=x))):=rfl;have hB:AA (AA (KQ s.t) (AA s.p.dl l.length)) (AA s.g.dl i)=HI s.t (AA s.g.dl i) (AA s.p.dl l.length):=by
     rw [j];exact Ir (λk=>HI s.t k (AA s.p.dl l.length)) q.1 z
    have hP:(decide (AA s.fu.dl l.length<0)||decide (AA s.fu.dl l.length=i))=!(decide (0<=AA s.fu.dl l.length)&&!decide (AA s.fu.dl l.length=i)):=by
     rw [Bool.not_and,Bool.not_not];congr 1;rw[<-decide_not];exact decide_eq_decide.2 U
    rw [J,hB,hP];generalize Fa n (JZ s (l++[i]) [])=A;generalize decide (0<=AA s.fu.dl l.length)=c1;generalize decide (AA s.fu.dl l.length=i)=c2;generalize HI s.t (AA s.g.dl i) (AA s.p.dl l.length)=c3;generalize (s.ff&&l.any λx=>decide (i=x))=c6;cases c1<;>cases c2<;>cases c3<;>cases c6<;>first|rfl|(simp[RB N];try rfl)) (by rw[ae (by simp[Cr])]),B8,z_,Fa]
   rfl
end Go.Sf.Sc
namespace Go.Sf.Sc
open Go Go.Sf
def FF(t:AC)(p g:d3)(pa:d4)(inj:Bool):AM:=⟨p,g,KQ t,pa,inj,5001,[],[],[]⟩
def Jl(t:AC)(p g:d3)(pa:d4)(inj:Bool):List d4:=(Fa p.dl.length (FF t p g pa inj)).take 5001
variable{t:AC}
theorem vM{p g:d3}{pa:d4}{inj:Bool}(j:A2 t)(hv:(BD t).2=0)(d:Nu (FF t p g pa inj)):GV t p g pa inj 5001=Y (Jl t p g pa inj):=by
 unfold GV;rw[l5 j (Cw hv) hv,bs];have h:=oU (f:=FF t p g pa inj) d ⟨by show(0:Int)<=5001;omega,by show(5001:Int)<=10000;omega,by show((0:Nat):Int)<=5001;omega⟩ rfl rfl;rw[dZ _ _ d rfl]at h;have e:AM.mk p g (KQ t) pa inj 5001 [] [] []=FF t p g pa inj:=rfl;rw[e,h];rfl
theorem uD{p g:d3}{pa:d4}{inj:Bool}(hv:(BD t).2=0)(d:Nu (FF t p g pa inj)):LC t p g pa inj 5000=Y (Jl t p g pa inj):=by
 unfold LC;have h:Hp ⟨t,p,g,pa,inj,5000,[]⟩ []=Y (Cr ⟨t,p,g,pa,inj,5000,[]⟩ (Fa p.dl.length (FF t p g pa inj))):=
  Dp (p.dl.length+1) λm j=>bZ p.dl.length ⟨t,p,g,pa,inj,5000,[]⟩ [] (Cw hv) d ⟨by show(0:Int)<=5000;omega,by show(5000:Int)<=9999;omega,by show((0:Nat):Int)<=5000+1;omega⟩ r_ m j
 rw [h];rfl
end Go.Sf.Sc
namespace Go.Sf.Sc
open Go Go.Sf
def XM(n k:Int):Bool:=decide (k< -1)||decide (n<=k)
def TA(l:Fp)(n:Int):Int:=if l.any (XM n)=X then 6 else 0
def oW(l:Fp)(n:Int):Il l n=Y (TA l n):=by grind[Il,TA,Oc,XM,SK]
variable{l:Fp}
def gE{c:Int}(n:Int)(h:(l.length:Int)=c):Kz l c n=Y (TA l n):=by
 unfold Kz TA;rw[ae l_,Bq (λi=>XM n (AA l i)) 6]
 .have e:kp (λi=>XM n (AA l i)) 0 l.length=l.any (XM n):=by
   rw [z?,Cz,E!]
   grind [AG,BP]
  rw [e];cases l.any (XM n)<;>rfl
 grind [AD,XM,AA]
end Go.Sf.Sc
namespace Go.Sf.Sc
open Go Go.Sf
def fj(t:AC)(g:d3):Gm t g=Y (C5 t g):=by grind[Gm,C5,MY,SK,MZ,jC]
def Ew(t:AC)(p g:d3):Int:=if(BD t).2≠0 then(BD t).2 else if CG p≠0 then CG p else if CG g≠0 then CG g else if(C5 t p&&C5 t g)=X then 0 else 13
variable{t:AC}
def Wi(hf:A2 t)(p g:d3):FN t p g=Y (Ew t p g):=by
 unfold FN Ew;rw[O6 hf,bs];refine ET λ_=>?_;have u:hV (ρ:=Int) (λ(q:Int)(_:Unit)=>
   (idx [p,g] q).bind λo=>
   (DV o).bind λj=>
   if (!decide (j=0))=X then
   Y (.ret j)
   else
   Y (.next ())) 0 ([p,g].length:Int) ()=Y (if CG p≠0 then .inr (CG p)else if CG g≠0 then .inr (CG g)else .inl ()):=by
  show t5 _ 2 0 ()=_;rw[GO,show idx [p,g] 0=Y p from rfl,bs,NZ,bs];by_cases d:CG p=0
  .rw[ae (by simp[d]),ae (by simp[d])];show t5 _ 1 (0+1) ()=_;rw[GO,show idx [p,g] (0+1)=Y g from rfl,bs,NZ,bs];by_cases h:CG g=0
   .rw[ae l_,ae l_];rfl
   .rw[ac l_,ac h]
  .rw[ac (by simp[d]),ac d]
 rw [u];by_cases d:CG p=0
 .by_cases h:CG g=0
  .simp[d,h,B8];rw[fj,fj,bs];cases C5 t p<;>cases C5 t g<;>rfl
  .simp[d,h,not_false_eq_true,WE]
 .simp[d,not_false_eq_true,WE]
def Up(hf:A2 t)(p g:d3):GE t p g=Y (Ew t p g):=by
 unfold GE Ew;rw[R7 hf,bs];refine ET λ_=>?_;rw[Na,bs];refine ET λd=>?_;rw[Na,bs];refine ET λh=>?_
 grind [Zw,DY,C5]
end Go.Sf.Sc
namespace Go.Sf.Sc
open Go Go.Sf
variable{t:AC}
theorem XU{p g:d3}{pa:d4}{inj:Bool}(h:Ew t p g=0)(w:pa.dl.length=p.dl.length)(x:pa.dr.length=p.dr.length):(BD t).2=0/\Nu (FF t p g pa inj):=by
 unfold Ew at h;by_cases hv:(BD t).2=0
 .rw[ae j!]at h;by_cases q:CG p=0
  .rw[ae (by simp[q])]at h;by_cases u:CG g=0
   .rw[ae l!]at h;by_cases d:(C5 t p&&C5 t g)=X
    .rw[mo]at d;have op:=DY q;have o:=DY u;have tp:=H9 op d.1;have z:=H9 o d.2;have A:(KQ t).length=t.dl.length:=by unfold KQ;rw[c9,Ay]
     refine ⟨hv,w,x,λe he=>?_,λn y=>?_,Nat.le_trans op.ea U,Nat.le_trans op.eb U,Nat.le_trans o.ea U,Nat.le_trans o.eb U⟩
     .have:=op.fit e he;exact⟨this.2.1.1,this.2.1.2,this.2.2.1,this.2.2.2⟩
     .have:=tp.1 n y;refine⟨this.1,by show n<((KQ t).length:Int);rw[A];exact this.2,λk j=>?_⟩;have j:=z.1 k j;refine⟨j.1,?_⟩;show k<((AA (KQ t) n).length:Int)
      grind [KQ,Ir,Pp,c9,Ay]
    grind
   grind
  grind
 grind
def UM(t:AC)(p g:d3)(pa:d4)(inj:Bool):List d4×Int:=
 if Ew t p g≠0 then([],Ew t p g)else if¬(pa.dl.length=p.dl.length/\pa.dr.length=p.dr.length)then([],20)else
 if TA pa.dl g.dl.length≠0 then([],TA pa.dl g.dl.length)else if TA pa.dr g.dr.length≠0 then([],TA pa.dr g.dr.length)else
 if 5000<(Jl t p g pa inj).length then([],3)else(Jl t p g pa inj,0)
def rQ(hf:A2 t)(p g:d3)(pa:d4)(inj:Bool):H8 t p g pa inj=Y (UM t p g pa inj):=by
 unfold H8 UM;rw[Wi hf,bs];refine D1 λh=>?_;refine Qz (by simp[A?,decide_eq_false_iff_not];omega) λd=>?_;have d:=K'.1 d;rw[oW,bs];refine D1 λj=>?_;rw[oW,bs];refine D1 λo=>?_
 grind [XU,J1,vM,Jl]
def ri(hf:A2 t)(p g:d3)(pa:d4)(inj:Bool):I2 t p g pa inj=Y (UM t p g pa inj):=by
 unfold I2 UM;rw[Up hf,bs];refine D1 λh=>?_;refine Qz (by simp[A?,decide_eq_false_iff_not];omega) λd=>?_;have d:=K'.1 d;rw[gE _ U,bs];refine D1 λj=>?_;rw[gE _ U,bs];refine D1 λo=>?_
 grind [XU,uD,Jl]
def NY(p:d3):d4:=⟨F! p.dl.length (-1),F! p.dr.length (-1)⟩
variable{n:Nat}{i:Int}
def gX(d:0<=i)(h:i<n):BE (F! i.toNat (-1:Int)++F! (n-i.toNat) 0) i (-1)=F! (i+1).toNat (-1)++F! (n-(i+1).toNat) 0:=by
 unfold BE;rw[List.set_append_right _ _ V,show n-i.toNat=(n-(i+1).toNat)+1 by omega,List.replicate_succ,List.length_replicate,Nat.sub_self,List.set_cons_zero,show(i+1).toNat=i.toNat+1 by omega,List.replicate_succ',ci];rfl
theorem rq{p:d3}(j:p.dl.length<=100)(o:p.dr.length<=100):Lf p=Y (NY p):=by
 unfold Lf;have m1:Gg (p.dl.length:Int) (0:Int)=Y (F! p.dl.length 0):=by unfold Gg;rw[ac U,z_]
 have h:Gg (p.dr.length:Int) (0:Int)=Y (F! p.dr.length 0):=by unfold Gg;rw[ac U,z_]
 rw [m1,bs,h,bs];rw[Py (λi=>(⟨F! i.toNat (-1)++F! (p.dl.length-i.toNat) 0,F! p.dr.length 0⟩:d4)) (a:=0) (b:=p.dl.length) U V,B8]
 .dsimp only;rw[Py (λi=>(⟨F! p.dl.length (-1),F! i.toNat (-1)++F! (p.dr.length-i.toNat) 0⟩:d4)) (a:=0) (b:=p.dr.length) U V,B8]
  .simp[NY]
  .intro i d i1;dsimp only;rw[ac an,AD d an,bs,gX d i1,AU (n:=i+1) U U]
  .dsimp only;rw[ae V]
 .intro i d i1;dsimp only;rw[ac an,AD d an,bs,gX d i1,AU (n:=i+1) U U]
 .dsimp only;rw[ae V]
end Go.Sf.Sc
