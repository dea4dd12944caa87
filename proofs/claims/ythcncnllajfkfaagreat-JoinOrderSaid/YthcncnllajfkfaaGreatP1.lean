/- Plain lemmas: what the functions of the program and of the reference compute. -/
import Derived.Test.YthcncnllajfkfaaGreatSfRead
import Derived.Test.YthcncnllajfkfaaGreatFns
import Derived.Test.YthcncnllajfkfaaGreatSfPl
set_option linter.all false
set_option maxRecDepth 100000
open Option renaming some->Y,none->W
open Bool renaming true->X,false->T
open Option renaming getD->v?,isSome->w_,bind_assoc->w!,bind_fun_some->w?
open Int renaming le_refl->x_,toNat_natCast->x!
open Bool renaming true_and->x?,eq_iff_iff->y_,false_and->y!,false_eq_true->y?,or_eq_true->z_,not_eq_true'->z!,not_eq_false'->z?,or_eq_false_iff->A_,and_eq_false_iff->A',eq_false_iff->A!,not_true->A?,not_eq_true->B_,or_assoc->B'
open List renaming any_eq_false->B!,getElem?_eq_getElem->B?,getD_eq_getElem?_getD->C_,take_length->C',any_eq_true->C!,ext_getElem->C?,mem_map->D_,pairwise_iff_getElem->D',all_eq_not_any_not->D!
namespace Go.Sf
theorem aK{ρ τ:Type}{d:Int->Option ρ}{g:ρ->τ}:∀(n:Nat)(a:Int),FL (λi=>(d i).map g) n a=(FL d n a).map g
 |0,_=>rfl|n+1,a=>by
  rw [FL,FL];cases d a with
  |some r=>rfl|none=>exact aK n (a+1)
variable{a b:Int}
theorem KX{ρ τ:Type}{d:Int->Option ρ}{g:ρ->τ}:fst (λi=>(d i).map g) a b=(fst d a b).map g:=aK _ _
theorem YL{ρ:Type}{d:Int->Option ρ}{r:ρ}:∀{n:Nat}{a:Int},FL d n a=Y r->∃i,a<=i/\i<a+n/\d i=Y r/\∀j,a<=j->j<i->d j=W
 |0,_,h=>d_
 |n+1,a,h=>by
  rw [FL]at h;cases hd:d a with
  |some w=>
   grind
  |none=>
   rw [hd]at h;obtain⟨i,f,o,q,u⟩:=YL h
   grind
theorem Cl{ρ:Type}{d:Int->Option ρ}{r:ρ}(h:fst d a b=Y r):∃i,a<=i/\i<b/\d i=Y r/\∀j,a<=j->j<i->d j=W:=by
 obtain ⟨i,f,o,q,u⟩:=YL h
 grind
def Nr(p:Int->Bool)(s:ByteArray):Int:=(fst (λi=>if p (bt s i)then W else Y i) 0 s.size).getD s.size
theorem Vu(p:Int->Bool)(s:ByteArray):0<=Nr p s/\Nr p s<=s.size/\(∀j,0<=j->j<Nr p s->p (bt s j)=X)/\(Nr p s<s.size->p (bt s (Nr p s))=T):=by
 unfold Nr;cases h:fst (λi=>if p (bt s i)then W else Y i) 0 s.size with
 |none=>
  rw [BC]at h
  grind
 |some r=>
  grind [Cl,bt,v?]
variable{s:ByteArray}
theorem gI(h:s≠⟨#[]⟩):0<s.size:=by
 rcases Nat.eq_zero_or_pos s.size with f|f
 .exfalso;apply h;cases s with|mk d=>congr 1;exact Array.eq_empty_of_size_eq_zero f
 .exact f
end Go.Sf
namespace Go.Sf.Sc
open Go Go.Sf
def Gx(c:Int):Bool:=((decide (97<=c))&&(decide (c<=122)))||((decide (65<=c))&&(decide (c<=90)))
def Aaj(c:Int):Bool:=(decide (48<=c))&&(decide (c<=57))
def S1(c:Int):Bool:=Gx c||Aaj c||decide (c=95)
theorem fJ(c:Int):M3 c=Y (Gx c):=rfl
theorem Zb(c:Int):L6 c=Y (Aaj c):=rfl
theorem fZ(c:Int):Mg c=Y (Gx c):=rfl
theorem jV(c:Int):Jz c=Y (Aaj c):=rfl
theorem xW(c:Int):Pq c=Y (S1 c):=by
 unfold Pq S1;rw[fJ,bs,Zb]
 grind
variable{s:ByteArray}
theorem lH(d:(s.size:Int)<=4611686018427387904){ok:Int->K1}{p:Int->Bool}(h:∀c,ok c=Y (p c)):IY s ok=Y (Nr p s):=by
 unfold IY;rw[QN (c:=λi=>(if p (bt s i)then W else Y i).map .inl) (a:=0) (b:=s.size) U]
 .rw[KX];unfold Nr;cases fst (λi=>if p (bt s i)=X then W else Y i) 0 s.size<;>rfl
 .grind[R2,bt,Dv,AT]
 .simp
def EI(s:ByteArray):Bool:=decide (0<s.size)&&Gx (bt s 0)&&decide (s.size<=20)&&decide (Nr S1 s=s.size)
theorem ZZ(l:List ByteArray)(v:ByteArray):∃k,slices_Index_string l v=Y k/\(0<=k↔v∈l):=by
 unfold slices_Index_string;rw[Bh (λi=>if(v==AA l i)=X then Y i else W)]
 .cases h:fst (λi=>if(v==AA l i)=X then Y i else W) 0 l.length with
  |none=>
   rw [BC]at h;refine⟨-1,rfl,U,λo=>?_⟩
   grind [BT]
  |some k=>
   obtain ⟨i,d,f,q,_⟩:=Cl h;have j:(v==AA l i)=X/\i=k:=by
    grind
   obtain ⟨j,rfl⟩:=j;refine⟨i,rfl,λ_=>?_,λ_=>d⟩
   grind [AF]
 .intro i d f _;simp only[AD d f,bs];split<;>rfl
theorem RK(l:List ByteArray)(v:ByteArray):slices_Contains_string l v=Y (l.contains v):=by
 unfold slices_Contains_string;obtain⟨k,d,f⟩:=ZZ l v
 grind
theorem xU(z:0<s.size)(w:(s.size:Int)<=4611686018427387904):∃k n e,La s=Y (k,n,e)/\(((decide (e=0))&&(decide (k=1)))&&(decide (n=(s.size:Int))))=EI s:=by
 have hr:=Vu S1 s;unfold La EI;simp only[R2 (x_ 0) (show(0:Int)<s.size by omega),bs,fJ,Zb,lH w xW,lH w Zb,z,decide_true,x?];by_cases d:Gx (bt s 0)=X
 .rw[ac d];by_cases f:20<Nr S1 s
  .refine⟨0,0,3,s_,?_⟩;simp[d];intro D h;omega
  .refine⟨1,_,0,by rw[ae d!],?_⟩;simp only[d,decide_true,x?];rw[y_];simp only[sx,pc];omega
 .rw[ae d];have j:Gx (bt s 0)=T:=c?
  rw [j,y!,y!];by_cases hd:Aaj (bt s 0)=X
  .rw[ac hd];by_cases x:9<Nr Aaj s
   .exact⟨0,0,3,by simp[x],V⟩
   .exact⟨2,_,0,by rw[ae (by simpa using x)],V⟩
  .rw[ae hd];by_cases y:bt s 0=34
   .have A:=cQ (s:=s) (a:=1) (b:=s.size) U U U;have o:∀c,Nc c=Y (((decide (32<=c))&&(decide (c<=126)))&&(!decide (c=34))):=λ_=>rfl;have B:=Vu (λc=>((decide (32<=c))&&(decide (c<=126)))&&(!decide (c=34))) (s.extract (1:Int).toNat (s.size:Int).toNat);have q:∃n e,Ix s=Y (n,e):=by
     unfold Ix;rw[Jn U U U,bs,lH U o,bs];rw[AT U U];by_cases he:1+Nr (λc=>((decide (32<=c))&&(decide (c<=126)))&&(!decide (c=34))) (s.extract (1:Int).toNat (s.size:Int).toNat)=s.size
     .refine⟨0,2,?_⟩;simp only[he,decide_true,if_true,bs]
     .simp only[he,decide_false,y?,if_false];rw[R2 U U];simp only[bs];split
      .exact⟨_,_,rfl⟩
      .split
       .exact⟨_,_,rfl⟩
       .exact⟨_,_,rfl⟩
    obtain ⟨n,e,u⟩:=q;refine⟨3,n,e,by rw[ac (by simpa using y),u];rfl,V⟩
   .rw[ae (by simpa using y)];have C:∃b,Pp s=Y b:=by
     unfold Pp;by_cases h:2<=(s.size:Int)
     .rw[ac b?,Jn U U h];simp only[bs,RK];exact⟨_,rfl⟩
     .rw[ae b?];exact⟨_,rfl⟩
    obtain ⟨b,hb⟩:=C;rw[hb,bs];cases b
    .simp only[y?,if_false,strings_IndexByte,bs];split
     .exact⟨_,_,_,rfl,rfl⟩
     .exact⟨_,_,_,rfl,rfl⟩
    .exact⟨_,_,_,rfl,rfl⟩
theorem SP(d:(s.size:Int)<=4611686018427387904):Ee s=Y (EI s):=by
 unfold Ee L7;simp only[show decide ((1:Int)=3)=T from rfl,y?,if_false,bs];by_cases he:s=⟨#[]⟩
 .subst he;rfl
 grind [xU,gI]
theorem xw(o:(s.size:Int)<=4611686018427387904)(d:Bool):∃n,Mi s 0 d=Y n/\0<=n/\n<=s.size/\(d=T->n=Nr S1 s):=by
 have hr:=Vu (λc=>Aaj c||(!d&&(Gx c||decide (c=95)))) s;refine⟨Nr (λc=>Aaj c||(!d&&(Gx c||decide (c=95)))) s,?_,hr.1,hr.2.1,λhd=>?_⟩
 .unfold Mi;rw[QN (c:=λi=>(if(Aaj (bt s i)||(!d&&(Gx (bt s i)||decide (bt s i=95))))then W else Y i).map .inl) (a:=0) (b:=s.size) U]
  .rw[KX];unfold Nr;cases fst (λi=>if(Aaj (bt s i)||(!d&&(Gx (bt s i)||decide (bt s i=95))))=X then W else Y i) 0 s.size<;>rfl
  .intro i j f _;have h:AJ (0+i)=i:=d?
   simp only[h,f,decide_true,if_true,R2 j f,bs,jV,fZ]
   grind [Aaj,bt,Gx,Dv,AT]
  .have h:AJ (0+(s.size:Int))=s.size:=d?
   grind
 .subst hd;congr 1
  grind [S1,Gx,Aaj]
theorem rE(q:0<s.size)(u:(s.size:Int)<=4611686018427387904):∃n,Io s 0=Y n/\(n=0\/(2<=n/\n<=s.size)):=by
 unfold Io;rw[QN (c:=λi=>if decide (bt s i=34)=X then Y (Sum.inr (i+1):Int ⊕ Int)else if(decide (bt s i<32)||decide (126<bt s i))=X then Y (Sum.inr 0)else W) (a:=1) (b:=s.size) U]
 .cases h:fst (λi=>if decide (bt s i=34)=X then Y (Sum.inr (i+1):Int ⊕ Int)else if(decide (bt s i<32)||decide (126<bt s i))=X then Y (Sum.inr 0)else W) 1 s.size with
  |none=>exact⟨0,rfl,.inl rfl⟩|some r=>
   obtain ⟨i,o,f,d,_⟩:=Cl h;split at d
   .cases d;exact⟨_,rfl,.inr U⟩
   .split at d
    .cases d;exact⟨_,rfl,.inl rfl⟩
    .cases d
 .intro i o f _;have j:AJ (0+i)=i:=d?
  simp only[j,f,decide_true,if_true,R2 (show 0<=i by omega) f,bs,AT (show -9223372036854775808<=i+1 by omega) U];split
  .rfl
  .split<;>rfl
 .have j:AJ (0+(s.size:Int))=s.size:=d?
  grind
theorem ABE(O:0<s.size)(Q:(s.size:Int)<=4611686018427387904):∃t n e,Mh s 0=Y (t,n,e)/\(((decide (e=0))&&(decide (n=(s.size:Int))))&&(decide (t.kl=1)))=EI s:=by
 obtain ⟨m,M,u,w,N⟩:=xw Q (Aaj (bt s 0));unfold Mh EI;simp only[R2 (x_ 0) (show(0:Int)<s.size by omega),bs,fZ,jV,O,decide_true,x?,M];have S:AJ (0+m)=m:=d?
 by_cases F:Gx (bt s 0)=X
 .have hd:Aaj (bt s 0)=T:=by
   unfold Gx at F;unfold Aaj
   grind
  have η:=N hd;subst η;simp only[F,if_true,hd,y?,if_false,bs,S];by_cases q:20<Nr S1 s
  .refine⟨_,_,_,by rw[ac v1],?_⟩
   grind
  .rw[ae v1,Jn (x_ _) u w];refine⟨_,_,_,rfl,?_⟩
   grind
 .have G:Gx (bt s 0)=T:=by simpa using F
  simp only[G,y?,if_false,bs,y!,S];by_cases hd:Aaj (bt s 0)=X
  .simp only[hd,if_true,bs];by_cases θ:9<m
   .exact⟨_,_,_,by rw[ac (by simpa using θ)],V⟩
   .rw[ae (by simpa using θ),Jn (x_ _) u w];exact⟨_,_,_,rfl,V⟩
  .have H:Aaj (bt s 0)=T:=by simpa using hd
   simp only[H,y?,if_false,bs];by_cases ε:bt s 0=34
   .obtain⟨n,hn,y⟩:=rE O Q;rw[ac t?,hn,bs];rcases y with rfl|y
    .grind
    .rw[ae an];split
     .grind
     .have Z:AJ (0+1)=1:=a!
      have e2:AJ (0+n)=n:=d?
      rw [Z,e2,AT (show -9223372036854775808<=n-1 by omega) U,Jn U U U];exact⟨_,_,_,rfl,V⟩
   .rw[ae t?];unfold Qg;rw[bs];generalize hL:([(⟨#[45,62]⟩:ByteArray),(⟨#[60,61]⟩:ByteArray),(⟨#[62,61]⟩:ByteArray),(⟨#[61,61]⟩:ByteArray),(⟨#[33,61]⟩:ByteArray),(⟨#[123]⟩:ByteArray),(⟨#[125]⟩:ByteArray),(⟨#[40]⟩:ByteArray),(⟨#[41]⟩:ByteArray),(⟨#[91]⟩:ByteArray),(⟨#[93]⟩:ByteArray),(⟨#[44]⟩:ByteArray),(⟨#[59]⟩:ByteArray),(⟨#[58]⟩:ByteArray),(⟨#[61]⟩:ByteArray),(⟨#[43]⟩:ByteArray),(⟨#[45]⟩:ByteArray),(⟨#[42]⟩:ByteArray),(⟨#[60]⟩:ByteArray),(⟨#[62]⟩:ByteArray),(⟨#[33]⟩:ByteArray),(⟨#[38]⟩:ByteArray),(⟨#[124]⟩:ByteArray),(⟨#[46]⟩:ByteArray),(⟨#[63]⟩:ByteArray)]:List ByteArray)=L;have I:∀x∈L,x.size<=2:=by subst hL;decide
    rcases XN (f:=(λ(h:Int)(κ:G5)=>
      (idx L h).bind λA=>
      (if(decide ((AJ (0+(A.size:Int)))<=(s.size:Int)))=X then((idx L h).bind λB=>
      (Aam s 0 (AJ (0+(B.size:Int)))).bind λC=>
      (idx L h).bind λD=>
      Y (C==D))else Y T).bind λE=>
      if E=X then
      (idx L h).bind λj=>
      (idx L h).bind λo=>
      Y (Bz.ret (G5.mk 4 j 0,(o.size:Int),(0:Int)))
      else
      Y (Bz.next κ))) (λ_ s=>True) (λ_=>True) (λr=>r.1.kl=4) (a:=0) (b:=L.length) (s:=G5.mk 0 (⟨#[]⟩:ByteArray) 0) U trivial (λi t d z _=>by
      have hx:=I _ (AF d z);have J:AJ (0+((AA L i).size:Int))=(AA L i).size:=d?
      simp only[AD d z,bs,J];by_cases K:((AA L i).size:Int)<=s.size
      .rw[ac (by simpa using K),Jn U U K];simp only[bs];split
       .exact .inr (.inr ⟨_,rfl,rfl⟩)
       .exact .inl ⟨_,rfl,trivial⟩
      .rw[ae (by simpa using K)];simp only[bs];exact .inl ⟨_,rfl,trivial⟩)with⟨s',d,_⟩|⟨r,d,z⟩
    .rw[d];exact⟨_,_,_,rfl,V⟩
    .rw[d];exact⟨_,_,_,rfl,by simp[z]⟩
theorem SQ(d:(s.size:Int)<=4611686018427387904):EZ s=Y (EI s):=by
 unfold EZ Lw Ri;simp only[show decide ((1:Int)=3)=T from rfl,y?,if_false,bs];by_cases he:s=⟨#[]⟩
 .subst he;rfl
 grind [ABE,gI]
end Go.Sf.Sc
namespace Go.Sf
variable{ρ β:Type}
def nz(e:Int):a5:=if e=0 then W else Y e
theorem Nv(e:Int):(if(!decide (e=0))=X then Y (Bz.ret e)else Y (Bz.next ()))=Y (TD (nz e)):=by grind[nz,TD]
theorem wY(b:Bool)(r:ρ):(if b=X then Y (Bz.ret r)else Y (Bz.next ()))=Y (TD (if b=X then Y r else W)):=by
 cases b<;>rfl
variable{kr:ρ->Option β}
theorem B3{σ:Type}{s:σ}{k:σ->Option β}:ej (Y (.inl s)) k kr=k s:=rfl
theorem V0{σ:Type}{r:ρ}{k:σ->Option β}:ej (Y (.inr r)) k kr=kr r:=rfl
theorem Db(o:Option ρ)(k:Unit->Option β)(kr:ρ->Option β):ej (Y (sd o)) k kr=match o with|none=>k ()|some r=>kr r:=by
 cases o<;>rfl
theorem C8(o:a5):ej (Y (sd o)) (λ_=>Y 0) (λv=>Y v)=Y (o.getD 0):=by
 cases o<;>rfl
variable{a b:Int}
theorem VR{c:Int->Int}(h:(fst (λi=>nz (c i)) a b).getD 0=0):∀i,a<=i->i<b->c i=0:=by
 have:fst (λi=>nz (c i)) a b=W:=by
  cases hf:fst (λi=>nz (c i)) a b with
  |none=>rfl|some r=>
   grind [v?,Cl,nz]
 grind [BC,nz]
variable{e:Int}
theorem IZ:nz e=W↔e=0:=by grind[nz]
theorem XO{α:Type}[Inhabited α]{l:List α}{f:α->K1}{p:α->Bool}(h:∀x∈l,f x=Y (p x)):
  (ej (ij (ρ:=Int) (λ(o:Int)(_:Unit)=>(idx l o).bind λd=>(f d).bind λj=>if j=X then Y (.ret o)else Y (.next ())) 0 (l.length:Int) ()) (λ_=>Y (-1)) (λw=>Y w))=
   Y ((fst (λi=>if p (AA l i)=X then Y i else W) 0 l.length).getD (-1)):=by
 rw [Bh (λi=>if p (AA l i)=X then Y i else W)]
 .rw[Db];cases fst (λi=>if p (AA l i)=X then Y i else W) 0 l.length<;>rfl
 .intro i q u _;rw[AD q u,bs,h _ (AF q u),bs,wY]
theorem aT{α:Type}[Inhabited α]{l:List α}{p:α->Bool}:decide (0<=(fst (λi=>if p (AA l i)=X then Y i else W) 0 l.length).getD (-1))=l.any p:=by
 rw [JO,kq];cases h:fst (λi=>if p (AA l i)=X then Y i else W) 0 l.length with
 |none=>
  grind [BC,w_,Option.isSome_eq_false_iff,Option.isNone_iff_eq_none,AA]
 |some k=>
  grind [Cl,AA,v?,w_,Option.isSome_iff_ne_none,BC]
theorem FA{α:Type}[Inhabited α]{l:List α}{f:α->K1}{p:α->Bool}(h:∀x∈l,f x=Y (p x)):
  ((ej (ij (ρ:=Int) (λ(o:Int)(_:Unit)=>(idx l o).bind λd=>(f d).bind λj=>if j=X then Y (.ret o)else Y (.next ())) 0 (l.length:Int) ()) (λ_=>Y (-1)) (λq=>Y q)).bind λu=>Y (decide (0<=u)))=Y (l.any p):=by
 rw [XO h,bs,aT]
end Go.Sf
namespace Go.Sf.Sc
open Go Go.Sf
instance:Inhabited kh:=⟨⟨⟨#[]⟩,0,0,[]⟩⟩
instance:Inhabited Ba:=⟨⟨⟨#[]⟩,0,T,[]⟩⟩
instance:Inhabited Cs:=⟨⟨⟨#[]⟩,0,0,0,0,0,0⟩⟩
instance:Inhabited Bt:=⟨⟨0,0,0⟩⟩
instance:Inhabited CA:=⟨⟨0,0,⟨0,0⟩⟩⟩
instance:Inhabited Test:=⟨⟨0,⟨0,0⟩,⟨0,0⟩⟩⟩
instance:Inhabited d5:=⟨⟨0,[],⟨[],[]⟩,⟨⟨[],[]⟩,[],0,[]⟩⟩⟩
variable{l:Fp}
theorem VA{f:Int->K1}{p:Int->Bool}(h:∀x∈l,f x=Y (p x)):BG l f=Y (l.any p):=FA h
theorem iW{l:List Bt}{f:Bt->K1}{p:Bt->Bool}(h:∀x∈l,f x=Y (p x)):Bq l f=Y (l.any p):=FA h
theorem dW{l:List d5}{f:d5->K1}{p:d5->Bool}(h:∀x∈l,f x=Y (p x)):CI l f=Y (l.any p):=FA h
theorem gm{l:List Ba}{p:Ba->Bool}:Cf l (λx=>Y (p x))=Y (l.any p):=FA (λ_ _=>rfl)
theorem gk{l:List Cs}{p:Cs->Bool}:Ce l (λx=>Y (p x))=Y (l.any p):=FA (λ_ _=>rfl)
theorem th{l:List kh}{p:kh->Bool}:C4 l (λx=>Y (p x))=Y (l.any p):=FA (λ_ _=>rfl)
theorem dX{p:Int->Bool}:BG l (λx=>Y (p x))=Y (l.any p):=FA (λ_ _=>rfl)
theorem iX{l:List Bt}{p:Bt->Bool}:Bq l (λx=>Y (p x))=Y (l.any p):=FA (λ_ _=>rfl)
theorem iY{l:List CA}{p:CA->Bool}:Cm l (λx=>Y (p x))=Y (l.any p):=FA (λ_ _=>rfl)
theorem wv(l:Fp)(v:Int):slices_Index_int l v=Y ((fst (λi=>if decide (v=AA l i)=X then Y i else W) 0 l.length).getD (-1)):=by
 have:=XO (l:=l) (f:=λx=>Y (decide (v=x))) (p:=λx=>decide (v=x)) (λ_ _=>rfl);unfold slices_Index_int
 grind
theorem MV(l:Fp)(v:Int):slices_Contains_int l v=Y (l.any λx=>decide (v=x)):=by grind[slices_Contains_int,wv,aT]
theorem tj(l:a6)(v:Bool):GO l v=Y (l.any λx=>v==x):=by
 have:=FA (l:=l) (f:=λx=>Y (v==x)) (p:=λx=>v==x) (λ_ _=>rfl);unfold GO KK
 grind
structure Ts(a:kh):Prop where
 name:(a.kp.size:Int)<=40
 names:a.qo.length<=25
 each:∀x∈a.qo,(x.size:Int)<=40
structure A3(t:AC):Prop where
 ea:t.ci.length<=20
 eb:t.c9.length<=30
 name:∀n∈t.ci,(n.kp.size:Int)<=40
 Abo:∀n∈t.ci,n.pr.length<=30
 each:∀n∈t.ci,∀a∈n.pr,Ts a
 AbZ:∀e∈t.c9,(e.kp.size:Int)<=40
def par(t:AC)(i:Int):Int:=(AA t.ci i).t2
def E2(t:AC)(k:Int):Prop:=∀i,0<=i->i<k->-1<=par t i/\par t i<i
def B2(t:AC):Nat->Int->List kh
 |0,_=>[]|n+1,a=>if a<0 then[]else B2 t n (par t a)++(AA t.ci a).pr
def A4(t:AC)(a:Int):List kh:=B2 t (a+1).toNat a
variable{t:AC}{a:Int}
theorem K6{n:Nat}(h:a<0):B2 t n a=[]:=by
 cases n with
 |zero=>rfl|succ n=>rw[B2,ac h]
variable{k:Int}
theorem Oh(d:E2 t k):∀(n m:Nat)(a:Int),a<k->a<n->a<m->B2 t n a=B2 t m a
 |n,m,a,h,j,o=>by
  by_cases f:a<0
  .grind[K6]
  .cases n with
   |zero=>omega|succ n=>
    cases m with
    |zero=>omega|succ m=>
     rw [B2,B2,ae f,ae f];have:=d a U h;rw[Oh d n m (par t a) U U U]
theorem O5(hf:A3 t)(f:k<=t.ci.length)(d:E2 t k):∀(n:Nat)(a:Int),a<k->((B2 t n a).length:Int)<=30*n
 |0,_,_=>by simp[B2]|n+1,a,ha=>by
  rw [B2];split
  .simp;omega
  .rename_i h;have j:=d a U ha;have o:=O5 hf f d n (par t a) U;have q:=hf.Abo _ (AF (l:=t.ci) (show 0<=a by omega) U)
   grind
theorem X6(hf:A3 t)(h:k<=t.ci.length)(f:E2 t k):∀(n:Nat)(a:Int),a<k->∀x∈B2 t n a,Ts x
 |0,_,_=>by simp[B2]|n+1,a,ha=>by
  rw [B2];split
  .simp
  .rename_i j;have o:=f a U ha;intro x d;rcases List.mem_append.1 d with d|d
   .exact X6 hf h f n (par t a) U x d
   .exact hf.each _ (AF (l:=t.ci) (show 0<=a by omega) U) x d
theorem H9(hf:A3 t)(d:k<=t.ci.length)(f:E2 t k)(ha:a<k):(A4 t a).length<=600:=by
 have:=O5 hf d f (a+1).toNat a ha;have:=hf.ea;unfold A4;omega
theorem O6(hf:A3 t)(d:k<=t.ci.length)(f:E2 t k)(ha:a<k):∀x∈A4 t a,Ts x:=X6 hf d f _ a ha
theorem fC(hf:A3 t)(j:k<=t.ci.length)(h:E2 t k):∀(n:Nat)(a:Int),0<=a->a<k->a<n->Dn n t a=Y (B2 t n a)
 |0,_,_,_,_=>by omega|n+1,a,q,ha,B=>by
  have y:=h a U ha;have u:=O5 hf j h n (par t a) U;have z:=hf.Abo _ (AF (l:=t.ci) q U);have A:=hf.ea;rw[Dn,B2,ae U,AD q U];simp only[bs];show((if decide (0<=par t a)=X then(Dn n t (par t a)).bind λf=>Y f else Y []).bind _)=_;have e:(if decide (0<=par t a)=X then(Dn n t (par t a)).bind λf=>Y f else Y [])=Y (B2 t n (par t a)):=by
   by_cases o:0<=par t a
   .rw[ac g!,fC hf j h n (par t a) o U U];rfl
   .rw[ae g!,K6 U]
  have hb:(B2 t n (par t a)).length+(AA t.ci a).pr.length<=AX:=by
   unfold AX;have:((B2 t n (par t a)).length:Int)<=30*n:=u;have w:B2 t n (par t a)=B2 t 20 (par t a):=by
    by_cases d:par t a<0
    .rw[K6 d,K6 d]
    .exact Oh h n 20 (par t a) U U U
   have x:=O5 hf j h 20 (par t a) U;rw[<-w]at x;omega
  rw [e,bs,AS hb];rfl
theorem jK(hf:A3 t)(d:k<=t.ci.length)(f:E2 t k)(h:0<=a)(ha:a<k):OE t a=Y (A4 t a):=
 D0 (a+1).toNat λn j=>by
  grind [fC,A4,Oh]
theorem fU(hf:A3 t)(h:k<=t.ci.length)(f:E2 t k):∀(n:Nat)(a:Int),-1<=a->a<k->a+1<n->Ea n t a=Y (B2 t n a)
 |0,_,_,_,_=>by omega|n+1,a,x,ha,y=>by
  rw [Ea,B2];by_cases d:a<0
  .grind
  .have q:=f a U ha;have u:=hf.Abo _ (AF (l:=t.ci) (show 0<=a by omega) U);have w:=hf.ea;rw[ae c?,ae d,AD U U];simp only[bs];have j:B2 t n (par t a)=B2 t 20 (par t a):=by
    by_cases d:par t a<0
    .rw[K6 d,K6 d]
    .exact Oh f n 20 (par t a) U U U
   have o:=O5 hf h f 20 (par t a) U;rw[<-j]at o;have hb:(B2 t n (par t a)).length+(AA t.ci a).pr.length<=AX:=b_
   rw [show(AA t.ci a).t2=par t a from rfl,fU hf h f n (par t a) U U U,bs,AS a_];simp only[bs,List.nil_append];rw[AS hb];rfl
theorem jU(hf:A3 t)(d:k<=t.ci.length)(f:E2 t k)(h:0<=a)(ha:a<k):Nz t a=Y (A4 t a):=
 D0 (a+2).toNat λn j=>by
  grind [fU,A4,Oh]
end Go.Sf.Sc
namespace Go.Sf.Sc
open Go Go.Sf
def Md(l:List ByteArray):Int:=
 if (20:Int)<l.length then 3 else(fst (λi=>if EI (AA l i)=T then Y 2 else if kq (λj=>AA l j==AA l i) 0 i=X then Y 5 else W) 0 l.length).getD 0
variable{b:Int}
theorem dc{l:List ByteArray}{x:ByteArray}(d:0<=b)(f:b<=l.length):(l.take b.toNat).contains x=kq (λj=>AA l j==x) 0 b:=by
 rw [List.contains_eq_any_beq,R9 d f]
 grind
theorem uf{l:List ByteArray}(o:∀x∈l,(x.size:Int)<=40):KC l=Y (Md l):=by
 unfold KC Md;by_cases d:(20:Int)<l.length
 .grind
 .rw[ae c?,ae d];rw[Bh (λi=>if EI (AA l i)=T then Y 2 else if kq (λj=>AA l j==AA l i) 0 i=X then Y 5 else W),C8];intro i f h _;have q:=o _ (AF f h);rw[AD f h,bs,SP U,bs,Iw f U];simp only[bs,RK,dc f (show i<=l.length by omega)];cases EI (AA l i)<;>cases kq (λj=>AA l j==AA l i) 0 i<;>rfl
theorem vA{l:List ByteArray}(o:∀x∈l,(x.size:Int)<=40):J0 l=Y (Md l):=by
 unfold J0 Md;by_cases d:(20:Int)<l.length
 .grind
 .rw[ae c?,ae d];rw[Bh (λi=>if EI (AA l i)=T then Y 2 else if kq (λj=>AA l j==AA l i) 0 i=X then Y 5 else W),C8];intro i f h _;have q:=o _ (AF f h);rw[AD f h,bs,SQ U,bs,Bo (λj=>AA l j==AA l i) 5]
  .cases EI (AA l i)<;>cases kq (λj=>AA l j==AA l i) 0 i<;>rfl
  grind [AD]
def M7(all:List kh)(k:Int):Int:=
 let x:=AA all k
 if EI x.kp=T then 2 else if kq (λj=>(AA all j).kp==x.kp) 0 k=X then 5 else
 if x.qo.length=0 then(if -1000000<=x.Low/\x.Low<=x.Aae/\x.Aae<=1000000 then 0 else 6)else
 if Md x.qo≠0 then Md x.qo else if x.Low=0/\x.Aae=x.qo.length-1 then 0 else 6
variable{k:Int}
theorem iA{d:List kh}(q:∀x∈d,Ts x)(o:0<=k)(u:k<d.length):GQ (AA d k) (d.take k.toNat)=Y (M7 d k):=by
 have j:=q _ (AF o u);have A:=j.name;unfold GQ M7;dsimp only;rw[SP U,bs,show(λf=>KM f (AA d k))=(λf=>Y (f.kp==(AA d k).kp))from rfl,th,bs,R9 o U,uf j.each,bs];have w:=j.names;have y:AJ ((AA d k).qo.length-1)=(AA d k).qo.length-1:=AT U U;rw[y];have z:(AA d k).qo.length=0->Md (AA d k).qo=0:=λh=>by rw[List.eq_nil_of_length_eq_zero h];rfl
 generalize Md (AA d k).qo=e at z|-;simp only[bs,sx,z_,pc,z!,decide_eq_false_iff_not,z?,A_,A',ne_eq]
 repeat' (first|rfl|(exfalso;omega;done)|split)
 all_goals (first|rfl|(exfalso;omega)|omega|simp_all|(simp_all;omega))
theorem iC{x:kh}(d:Ts x):GK x=Y (
 if x.qo.length=0 then(if -1000000<=x.Low/\x.Low<=x.Aae/\x.Aae<=1000000 then 0 else 6)else
 if Md x.qo≠0 then Md x.qo else if x.Low=0/\x.Aae=x.qo.length-1 then 0 else 6):=by
 have f:=d.names;have h:AJ (x.qo.length-1)=x.qo.length-1:=AT U U;unfold GK ED;simp only[bs,h,vA d.each];generalize Md x.qo=e;simp only[bs,sx,z_,pc,z!,decide_eq_false_iff_not,z?,A_,A',ne_eq]
 repeat' (first|rfl|(exfalso;omega;done)|split)
 all_goals (first|rfl|(exfalso;omega)|omega|simp_all|(simp_all;omega))
def I4(t:AC)(i:Int):Int:=
 let n:=AA t.ci i
 if EI n.kp=T then 2 else if kq (λj=>(AA t.ci j).kp==n.kp) 0 i=X then 5 else
 if n.t2< -1\/i<=n.t2 then 6 else if 4<n.pr.length\/8<(A4 t i).length then 3 else
 (fst (λk=>nz (M7 (A4 t i) k)) ((A4 t i).length-n.pr.length) (A4 t i).length).getD 0
variable{t:AC}{i:Int}
theorem X7(d:0<=i):(AA t.ci i).pr.length<=(A4 t i).length:=by
 unfold A4;rw[show(i+1).toNat=i.toNat+1 by omega,B2,ae U,b6];omega
theorem E2.next(h:E2 t i)(f:-1<=par t i)(o:par t i<i):E2 t (i+1):=by
 intro j d q;by_cases u:j=i
 .grind
 .exact h j d U
theorem xV(hf:A3 t)(f:0<=i)(u:i<t.ci.length)(z:E2 t i):Ld t i=Y (I4 t i):=by
 have B:=hf.name _ (AF f u);unfold Ld I4;dsimp only;rw[AD f u,bs,SP U,bs,Iw f U,bs,show(λo=>Ps o (AA t.ci i))=(λo=>Y (o.kp==(AA t.ci i).kp))from rfl,gm,bs,R9 f U];cases EI (AA t.ci i).kp
 .rfl
 .cases kq (λj=>(AA t.ci j).kp==(AA t.ci i).kp) 0 i
  .by_cases hr:(AA t.ci i).t2< -1\/i<=(AA t.ci i).t2
   .rcases hr with hr|hr<;>simp[hr]
   .have d:E2 t (i+1):=z.next (by unfold par;omega) (by unfold par;omega)
    have q:(decide ((AA t.ci i).t2< -1)||decide (i<=(AA t.ci i).t2))=T:=by
     rw [A!];simpa using hr
    rw [jK hf (k:=i+1) U d f U,bs];have x:=H9 hf (k:=i+1) (a:=i) U d U;have y:=X7 (t:=t) f;have h:=O6 hf (k:=i+1) (a:=i) U d U;rw[AT U U,Bh (λk=>nz (M7 (A4 t i) k)),C8]
    .simp only[q,hr,A?,y?,if_false];simp only[bs,sx,z_,pc,z!,decide_eq_false_iff_not,z?,A_,A',ne_eq]
     repeat' (first|rfl|(exfalso;omega;done)|split)
     all_goals (first|rfl|(exfalso;omega)|omega|simp_all|(simp_all;omega))
    .intro k A w _;rw[AD U w,bs,Iw U U,bs,iA h U w,bs,Nv]
  .rfl
theorem xt(hf:A3 t)(h:0<=i)(q:i<t.ci.length)(z:E2 t i):LJ t i=Y (I4 t i):=by
 have D:=hf.name _ (AF h q);have E:=hf.ea;unfold LJ I4 ED;dsimp only;rw[AD h q,bs,SQ U,bs,Bo (λj=>(AA t.ci j).kp==(AA t.ci i).kp) 5]
 .cases EI (AA t.ci i).kp
  .rfl
  .cases kq (λj=>(AA t.ci j).kp==(AA t.ci i).kp) 0 i
   .simp only[A?,y?,if_false,B3,bs];rw[AT U U];by_cases hr:(AA t.ci i).t2< -1\/i<=(AA t.ci i).t2
    .rw[ac,ae a!,ac hr];simp;omega
    .have d:E2 t (i+1):=z.next (by unfold par;omega) (by unfold par;omega)
     rw [ae an,ae a!,ae hr];rw[jU hf (k:=i+1) U d h U,bs];have w:=H9 hf (k:=i+1) (a:=i) U d U;have x:=X7 (t:=t) h;have f:=O6 hf (k:=i+1) (a:=i) U d U;rw[AT U U];rw[Bh (λk=>nz (M7 (A4 t i) k)),C8]
     .simp only[bs,sx,z_,pc,z!,decide_eq_false_iff_not,z?,A_,A',ne_eq]
      repeat' (first|rfl|(exfalso;omega;done)|split)
      all_goals (first|rfl|(exfalso;omega)|omega|simp_all|(simp_all;omega))
     .intro k u o _;have y:=f _ (AF (show 0<=k by omega) o);have B:=y.name;simp only[AD (show 0<=k by omega) o,bs];rw[SQ U,bs,Bo (λj=>(AA (A4 t i) j).kp==(AA (A4 t i) k).kp) 5]
      .rw[iC y];simp only[bs,Nv];unfold M7;dsimp only;cases EI (AA (A4 t i) k).kp
       .rfl
       .cases kq (λj=>(AA (A4 t i) j).kp==(AA (A4 t i) k).kp) 0 k<;>rfl
      .intro j A C _;rw[AD A U,bs];split<;>rfl
   .rfl
 .intro j u o _;rw[AD u U,bs];split<;>rfl
def MU(low high:Int):Bool:=((decide (0<=low))&&(decide (low<=40)))&&((decide (high=(-1)))||((decide (low<=high))&&(decide (high<=40))))
theorem uw(low high:Int):Ly low high=Y (MU low high):=by
 unfold Ly MU ED
 grind
def LB(t:AC)(i:Int):Int:=
 let x:=AA t.c9 i
 if EI x.kp=T then 2 else if kq (λj=>(AA t.c9 j).kp==x.kp) 0 i=X then 5 else
 if (0<=x.jj/\x.jj<t.ci.length)/\(0<=x.To/\x.To<t.ci.length)/\MU x.AaU x.AaD=X/\MU x.Abj x.AaT=X then 0 else 6
theorem xN(hf:A3 t)(d:0<=i)(h:i<t.c9.length):Lb t i=Y (LB t i):=by
 have o:=hf.AbZ _ (AF d h);unfold Lb LB M4;dsimp only;rw[AD d h,bs,SP U,bs,Iw d U,bs,show(λf=>Pr f (AA t.c9 i))=(λf=>Y (f.kp==(AA t.c9 i).kp))from rfl,gk,bs,R9 d U];simp[show∀a b,Lr a b=Y (MU a b)from λ_ _=>rfl];generalize EI (AA t.c9 i).kp=b1;generalize kq (λj=>(AA t.c9 j).kp==(AA t.c9 i).kp) 0 i=b2;generalize MU (AA t.c9 i).AaU (AA t.c9 i).AaD=b3;generalize MU (AA t.c9 i).Abj (AA t.c9 i).AaT=b4;cases b1
 .rfl
 grind
theorem xg(hf:A3 t)(h:0<=i)(o:i<t.c9.length):LI t i=Y (LB t i):=by
 have q:=hf.AbZ _ (AF h o);have u:=hf.ea;unfold LI LB ED;dsimp only;rw[AD h o,bs,SQ U,bs,Bo (λj=>(AA t.c9 j).kp==(AA t.c9 i).kp) 5]
 .simp only[AT (show -9223372036854775808<=(t.ci.length:Int)-1 by omega) U,uw,bs];generalize EI (AA t.c9 i).kp=b1;generalize kq (λj=>(AA t.c9 j).kp==(AA t.c9 i).kp) 0 i=b2;generalize MU (AA t.c9 i).AaU (AA t.c9 i).AaD=b3;generalize MU (AA t.c9 i).Abj (AA t.c9 i).AaT=b4;cases b1
  .rfl
  .cases b2
   .cases b3<;>cases b4
    all_goals
     by_cases ha:0<=(AA t.c9 i).jj/\(AA t.c9 i).jj<t.ci.length
     .have d:(AA t.c9 i).jj<=(t.ci.length:Int)-1:=U
      by_cases hb:0<=(AA t.c9 i).To/\(AA t.c9 i).To<t.ci.length
      .have f:(AA t.c9 i).To<=(t.ci.length:Int)-1:=U
       simp [ha,hb,d,f,B3]
      .have:(decide (0<=(AA t.c9 i).To)&&decide ((AA t.c9 i).To<=(t.ci.length:Int)-1))=T:=e!
       simp [ha,hb,d,this,B3]
     .have:(decide (0<=(AA t.c9 i).jj)&&decide ((AA t.c9 i).jj<=(t.ci.length:Int)-1))=T:=e!
      simp [ha,this,B3]
   .rfl
 grind [AD]
def BD(t:AC):ByteArray×Int:=
 if t.ci.length=0 then(⟨#[]⟩,7)else if 12<t.ci.length\/20<t.c9.length then(⟨#[]⟩,3)else
 match fst (λi=>(nz (I4 t i)).map λe=>((AA t.ci i).kp,e)) 0 t.ci.length with
 |some r=>r|none=>(fst (λi=>(nz (LB t i)).map λe=>((AA t.c9 i).kp,e)) 0 t.c9.length).getD (⟨#[]⟩,0)
theorem nQ(h:I4 t i=0):-1<=par t i/\par t i<i:=by grind[I4,par,AA]
theorem QC{α β:Type}{o:Option α}{g:α->β}:o.map g=W↔o=W:=by cases o<;>simp
theorem XX(h:∀j,0<=j->j<i->I4 t j=0):E2 t i:=λj d f=>nQ (h j d f)
theorem WQ{ρ:Type}(e:Int)(n:ByteArray):(if(!decide (e=0))=X then Y (Bz.ret (n,e))else Y (Bz.next ()))=Y (TD ((nz e).map λe=>(n,e))):=by grind[nz,TD]
theorem Ot(hf:A3 t):D9 t=Y (BD t):=by
 unfold D9 BD;rw[Bh (λi=>(nz (I4 t i)).map λe=>((AA t.ci i).kp,e)),Db]
 .rw[Bh (λi=>(nz (LB t i)).map λe=>((AA t.c9 i).kp,e)),Db]
  .cases fst (λi=>(nz (I4 t i)).map λe=>((AA t.ci i).kp,e)) 0 t.ci.length<;>cases fst (λi=>(nz (LB t i)).map λe=>((AA t.c9 i).kp,e)) 0 t.c9.length
   all_goals dsimp only
   all_goals try simp only[v?]
   all_goals
    simp only[bs,sx,z_,pc,z!,decide_eq_false_iff_not,z?,A_,A',ne_eq]
    repeat' (first|rfl|(exfalso;omega;done)|split)
    all_goals (first|rfl|(exfalso;omega)|omega|simp_all|(simp_all;omega))
  .intro i d f _;rw[AD d f,bs,xN hf d f,bs];exact WQ (ρ:=Unit) _ _
 .intro i d f q;have u:E2 t i:=XX λj h o=>IZ.1 (QC.1 (q j h o));rw[AD d f,bs,xV hf d f u,bs];exact WQ (ρ:=Unit) _ _
theorem R1(hf:A3 t):Eg t=Y (BD t):=by
 unfold Eg BD;rw[Bh (λi=>(nz (I4 t i)).map λe=>((AA t.ci i).kp,e)),Db]
 .rw[Bh (λi=>(nz (LB t i)).map λe=>((AA t.c9 i).kp,e)),Db]
  .cases fst (λi=>(nz (I4 t i)).map λe=>((AA t.ci i).kp,e)) 0 t.ci.length<;>cases fst (λi=>(nz (LB t i)).map λe=>((AA t.c9 i).kp,e)) 0 t.c9.length
   all_goals dsimp only
   all_goals try simp only[v?]
   all_goals
    simp only[bs,sx,z_,pc,z!,decide_eq_false_iff_not,z?,A_,A',ne_eq]
    repeat' (first|rfl|(exfalso;omega;done)|split)
    all_goals (first|rfl|(exfalso;omega)|omega|simp_all|(simp_all;omega))
  .intro i d f _;simp only[xg hf d f,AD d f,bs];exact WQ (ρ:=Unit) _ _
 .intro i d f q;have u:E2 t i:=XX λj h o=>IZ.1 (QC.1 (q j h o));simp only[xt hf d f u,AD d f,bs];exact WQ (ρ:=Unit) _ _
end Go.Sf.Sc
namespace Go.Sf.Sc
open Go Go.Sf
theorem I7{α:Type}{c:Bool}{a b:α}:(if c=X then Y a else Y b)=Y (if c=X then a else b):=by cases c<;>rfl
def OJ(n:Int):Bool:=(decide (0<=n))&&(decide (n<=99))
def UA(e:Bt)(n:Int):Bool:=OJ e.j4&&(decide (0<=e.jj)&&decide (e.jj<n))&&(decide (0<=e.To)&&decide (e.To<n))
def CE(g:d3):Int:=
 if 40<g.ci.length\/80<g.c9.length then 3 else if(g.ci.any λn=>!OJ n)=X then 6 else if(g.c9.any λe=>!UA e g.ci.length)=X then 6 else 0
structure Cp(g:d3):Prop where
 ea:g.ci.length<=40
 eb:g.c9.length<=80
 kind:∀n∈g.ci,0<=n/\n<=99
 fit:∀e∈g.c9,(0<=e.j4/\e.j4<=99)/\(0<=e.jj/\e.jj<g.ci.length)/\(0<=e.To/\e.To<g.ci.length)
variable{g:d3}
theorem Di(h:CE g=0):Cp g:=by
 unfold CE at h;split at h
 .cases h
 .split at h
  .cases h
  .split at h
   .cases h
   .rename_i o f d;refine⟨U,U,λn j=>?_,λe he=>?_⟩
    .rw[B_,B!]at f
     grind [OJ]
    .rw[B_,B!]at d;have:=d e he;simp[UA,OJ,z!,sx]at this;omega
theorem xQ{e:Bt}{n:Nat}(h:n<=40):PG e n=Y (UA e n):=by
 unfold PG Ij UA OJ;simp only[bs,AT (show -9223372036854775808<=(n:Int)-1 by omega) U];have d:decide (e.jj<=(n:Int)-1)=decide (e.jj<n):=i?
 have f:decide (e.To<=(n:Int)-1)=decide (e.To<n):=i?
 rw [d,f];generalize (decide (0<=e.j4)&&decide (e.j4<=99))=b1;generalize (decide (0<=e.jj)&&decide (e.jj<n))=b2;cases b1<;>cases b2<;>simp
theorem Oq(g:d3):DP g=Y (CE g):=by
 unfold DP CE;by_cases h:40<g.ci.length\/80<g.c9.length
 .grind
 .rw[ae an,ae h,show OH=(λn=>Y (!OJ n))from rfl,dX,iW (p:=λe=>!UA e g.ci.length) (λe _=>by
   grind [OI,xQ])]
  grind
theorem NN(g:d3):D7 g=Y (CE g):=by
 unfold D7 CE;by_cases h:40<g.ci.length\/80<g.c9.length
 .grind
 .rw[ae an,ae h,JO,JO,Bo (λi=>!OJ (AA g.ci i)) 6]
  .rw[Bo (λi=>!UA (AA g.c9 i) g.ci.length) 6]
   .cases kq (λi=>!OJ (AA g.ci i)) 0 g.ci.length
    .cases kq (λi=>!UA (AA g.c9 i) g.ci.length) 0 g.c9.length<;>rfl
    .rfl
   .intro i d f _;rw[AD d f,bs];unfold Qh UA;simp[show∀n,NP n=Y (OJ n)from λ_=>rfl]
    grind
  grind [AD,NP,AA,OJ]
def C0(t:AC)(g:d3):Bool:=!(g.ci.any λn=>decide (t.ci.length<=n))&&!(g.c9.any λe=>decide (t.c9.length<=e.j4))
variable{t:AC}
theorem Hu(d:Cp g)(h:C0 t g=X):(∀n∈g.ci,0<=n/\n<t.ci.length)/\∀e∈g.c9,0<=e.j4/\e.j4<t.c9.length:=by
 unfold C0 at h;simp[z!,sx]at h;refine⟨λn f=>?_,λe he=>?_⟩
 .have:=h.1 n f;have:=d.kind n f;omega
 .have:=h.2 e he;have:=d.fit e he;omega
theorem uq(t:AC)(g:d3):LS t g=Y (C0 t g):=by grind[LS,C0,Pl,dX,Pm,Bt,iX]
theorem Zj(h:Cp g):IR t g=Y (C0 t g):=by
 unfold IR C0;rw[JO,JO,Bo (λi=>decide (t.ci.length<=AA g.ci i)) T]
 .rw[Bo (λi=>decide (t.c9.length<=(AA g.c9 i).j4)) T]
  .cases kq (λi=>decide (t.ci.length<=AA g.ci i)) 0 g.ci.length
   .cases kq (λi=>decide (t.c9.length<=(AA g.c9 i).j4)) 0 g.c9.length<;>rfl
   .rfl
  .intro i d f _;have:=(h.fit _ (AF d f)).1.1;simp[AD d f]
   grind
 .intro i d f _;have:=(h.kind _ (AF d f)).1;simp[AD d f]
  grind
structure Fd(t:AC):Prop where
 ea:t.ci.length<=12
 eb:t.c9.length<=20
 node:∀i:Int,0<=i->i<t.ci.length->I4 t i=0
 edge:∀i:Int,0<=i->i<t.c9.length->LB t i=0
theorem Cq(h:(BD t).2=0):Fd t:=by
 unfold BD at h;split at h
 .cases h
 .split at h
  .cases h
  .rename_i q u;have d:∀i:Int,0<=i->i<t.ci.length->I4 t i=0:=by
    grind [Cl,nz,IZ,QC,BC]
   have he:∀i:Int,0<=i->i<t.c9.length->LB t i=0:=by
    split at h
    next r hr=>obtain⟨i,j,o,f,_⟩:=Cl hr;rw[d i j o]at f;cases f
    .cases hr:fst (λi=>(nz (LB t i)).map λe=>((AA t.c9 i).kp,e)) 0 t.c9.length with
     |some r=>
      grind [Cl,nz]
     |none=>
      grind [IZ,QC,BC]
   exact ⟨U,U,d,he⟩
theorem Fd.par(h:Fd t):E2 t t.ci.length:=XX h.node
variable{i:Int}
theorem Fd.ends(h:Fd t)(d:0<=i)(f:i<t.c9.length):(0<=(AA t.c9 i).jj/\(AA t.c9 i).jj<t.ci.length)/\(0<=(AA t.c9 i).To/\(AA t.c9 i).To<t.ci.length):=by
 have:=h.edge i d f
 grind [LB]
def MC(t:AC)(a:Int):Bool:=decide (0<=a)&&decide (a<t.ci.length)
variable{a:Int}
theorem NG:MC t a=X↔0<=a/\a<t.ci.length:=by unfold MC;simp
theorem Zd(hf:A3 t)(l:Fp):HM t l=Y (if(BD t).2≠0 then(BD t).2 else if(l.all (MC t))=X then 0 else 6):=by
 unfold HM;rw[Ot hf,bs,VA (p:=λa=>!MC t a) (λa _=>by unfold OV MC;rw[show decide (a<0)=!decide (0<=a)from by rw[<-decide_not,decide_eq_decide];omega,show decide ((t.ci.length:Int)<=a)=!decide (a<t.ci.length)from by rw[<-decide_not,decide_eq_decide];omega,Bool.not_and]),bs]
 grind
theorem jW(hf:A3 t)(a b:Int):IN t a b=Y (if(BD t).2≠0 then(BD t).2 else if(MC t a&&MC t b)=X then 0 else 6):=by
 have d:=hf.ea;have e:∀a,decide (a<=(t.ci.length:Int)-1)=decide (a<(t.ci.length:Int)):=λa=>i?
 unfold IN ED;rw[R1 hf,bs]
 grind [AT,BD,MC]
theorem od{α:Type}[Inhabited α]{l:List α}(d:0<=i)(f:i<l.length):BF l i (AA l i)=l:=by grind[BF,AA,B?,List.set_getElem_self]
theorem CH{α:Type}[Inhabited α]{l:List α}(d:0<=i)(f:i<l.length):l.take (i+1).toNat=l.take i.toNat++[AA l i]:=by
 unfold AA;rw[show(i+1).toNat=i.toNat+1 by omega,List.take_add_one,C_,B? U];rfl
theorem Be{α:Type}{l:List α}(h:l.length<=AX):AY [] l=Y l:=by grind[AS]
def Fg(t:AC)(a:Int):List kh×Int:=if(BD t).2≠0 then([],(BD t).2)else if MC t a=X then(A4 t a,0)else([],6)
theorem Tg(hf:A3 t)(a:Int):FI t a=Y (Fg t a):=by
 unfold FI Fg;rw[Zd hf,bs];by_cases h:(BD t).2=0
 .have j:=Cq h;have e:[a].all (MC t)=MC t a:=V
  rw [e];simp[h];cases hi:MC t a
  .rfl
  .rw[ac rfl,ac rfl];have hr:=NG.1 hi;have C:=H9 hf (x_ _) j.par hr.2;have A:=O6 hf (x_ _) j.par hr.2;rw[ae a!,jK hf (x_ _) j.par hr.1 hr.2,bs];obtain⟨s',B,rfl⟩:=P8 (f:=(λ(o:Int)(q:List kh)=>
 (idx q o).bind λu=>
 (slices_Clone_string u.qo).bind λw=>
 (idx q o).bind λd=>
 Y (BF q o (kh.mk d.kp d.Low d.Aae w)))) (λ_ s=>s=A4 t a) (a:=0) (b:=(A4 t a).length) (s:=A4 t a) U rfl (λi s x y z=>by
     subst z;have:=(A _ (AF x y)).names;refine⟨A4 t a,?_,rfl⟩;unfold slices_Clone_string;rw[AD x y,bs,Be b_,bs,bs];congr 1;exact od x y)
   rw [B];rfl
 .simp[h,not_false_eq_true,decide_false]
theorem Ou(hf:A3 t)(a:Int):Ds t a=Y (Fg t a):=by
 unfold Ds Fg;rw[jW hf,bs];by_cases h:(BD t).2=0
 .have d:=Cq h;rw[Bool.and_self];simp only[h,ne_eq,not_true_eq_false,if_false];cases hi:MC t a
  .rfl
  .rw[ac rfl,ac rfl];have hr:=NG.1 hi;have q:=H9 hf (x_ _) d.par hr.2;have o:=O6 hf (x_ _) d.par hr.2;rw[ae a!,jU hf (x_ _) d.par hr.1 hr.2,bs];rw[CC (λi=>(A4 t a).take i.toNat) U V]
   .rw[bs,x!,C']
   .intro i f j;have:=(o _ (AF f j)).names;rw[AD f j,bs,Be b_,bs,AS (by rw[bk];simp;unfold AX;omega),CH f j];rfl
 grind
theorem EH(h:Cp g):CE g=0:=by
 have:=h.ea;have:=h.eb;unfold CE;rw[ae U,ae,ae]
 .intro k;obtain⟨e,he,k⟩:=C!.1 k;have:=h.fit e he;simp[UA,OJ]at k;omega
 .intro k;obtain⟨n,d,k⟩:=C!.1 k;have:=h.kind n d;simp[OJ]at k;omega
end Go.Sf.Sc
namespace Go.Sf.Sc
open Go Go.Sf
def Kk(t:AC):Nat->Int->Fp
 |0,_=>[]|n+1,a=>if a<0 then[]else a::Kk t n (par t a)
variable{t:AC}{k:Int}
theorem pC(f:E2 t k):∀(n m:Nat)(a:Int),a<k->a<n->a<m->Kk t n a=Kk t m a
 |n,m,a,h,j,o=>by
  by_cases d:a<0
  .cases n<;>cases m<;>simp[Kk,d]
  .cases n with
   |zero=>omega|succ n=>
    cases m with
    |zero=>omega|succ m=>
     rw [Kk,Kk,ae d,ae d];have:=f a U h;rw[pC f n m (par t a) U U U]
theorem jw(t:AC):∀(n:Nat)(a:Int),(Kk t n a).length<=n
 |0,_=>by simp[Kk]|n+1,a=>by
  rw [Kk];split
  .simp
  .have:=jw t n (par t a);simp;omega
def G4(t:AC)(a b:Int):Bool:=(Kk t (a+1).toNat a).any λx=>decide (b=x)
theorem jC(f:t.ci.length<=12)(q:E2 t t.ci.length):∀(n:Nat)(a:Int)(l:Fp),a<t.ci.length->a<n->l.length+n<=1000 ->
  ∃x,MP (ρ:=Fp) (λ(d:Int×Fp)=>
 if (decide (0<=d.1))=X then
 (AY d.2 [d.1]).bind λh=>
 (idx t.ci d.1).bind λj=>
 Y (.next (j.t2,h))
 else
 Y (.brk (d.1,d.2))) (a,l) (.inl (x,l++Kk t n a))
 |0,a,l,o,u,_=>by
  refine ⟨a,.brk ?_⟩
  grind [Kk]
 |n+1,a,l,o,u,A=>by
  by_cases w:a<0
  .refine⟨a,.brk ?_⟩
   grind [Kk]
  .have y:=q a U o;obtain⟨x,z⟩:=jC f q n (par t a) (l++[a]) U U an;refine⟨x,.next (s':=(par t a,l++[a])) ?_ ?_⟩
   .rw[ac an,AS a_,bs,AD U o];rfl
   grind [Kk,par]
variable{a b:Int}
theorem qe(h:Fd t)(ha:0<=a)(d:a<t.ci.length):Lc t a b=Y (G4 t a b):=by
 have f:=h.ea;obtain⟨x,j⟩:=jC f h.par (a+1).toNat a [] d U an;have o:=jw t (a+1).toNat a;unfold Lc Nd;rw[j.eq,B3]
 grind [slices_Reverse_int,AX,MV,G4]
theorem Xb(d:E2 t t.ci.length)(hb:0<=b):∀(n m:Nat)(a:Int),-1<=a->a<t.ci.length->a+1<n->a<m->D2 n t a b=Y ((Kk t m a).any λx=>decide (b=x))
 |0,_,_,_,_,_,_=>by omega|n+1,m,a,j,f,o,q=>by
  rw [D2];by_cases ha:a<0
  .rw[ae an,ae an];cases m<;>simp[Kk,ha]
  .cases m with
   |zero=>omega|succ m=>
    have h:=d a U f;rw[Kk,ae ha,List.any_cons,ac (show decide (0<=a)=X by simp;omega),AD U f];simp;rw[show(AA t.ci a).t2=par t a from rfl,Xb d hb n m (par t a) U U U U]
    grind
theorem WZ(h:Fd t)(ha:0<=a)(d:a<t.ci.length)(hb:0<=b):FE t a b=Y (G4 t a b):=
 D0 (a+2).toNat λn f=>Xb h.par hb n (a+1).toNat a U d U U
def LD(t:AC)(e f g:Int):Bool:=
 decide ((BD t).2=0)&&(MC t f&&MC t g)&&(decide (0<=e)&&decide (e<t.c9.length))&&(G4 t f (AA t.c9 e).jj&&G4 t g (AA t.c9 e).To)
theorem nW(hf:A3 t)(e f g:Int):Js t e f g=Y (LD t e f g):=by
 unfold Js LD;rw[Zd hf,bs,show[f,g].all (MC t)=(MC t f&&MC t g)by simp];by_cases h:(BD t).2=0
 .simp only[h,ne_eq,not_true_eq_false,if_false];have d:=Cq h;cases hi:(MC t f&&MC t g)
  .rfl
  .rw[pc,NG,NG]at hi;by_cases he:0<=e/\e<t.c9.length
   .rw[ae an,AD he.1 he.2];simp[qe d hi.1.1 hi.1.2,qe d hi.2.1 hi.2.2,he.1,he.2,decide_true]
    grind
   grind
 .simp[h]
theorem Yt(hf:A3 t)(e f g:Int):HE t e f g=Y (LD t e f g):=by
 have u:=hf.eb;unfold HE LD ED;rw[jW hf,bs];by_cases h:(BD t).2=0
 .simp only[h,ne_eq,not_true_eq_false,if_false];have d:=Cq h;cases hi:(MC t f&&MC t g)
  .rfl
  .rw[pc,NG,NG]at hi;rw[AT U U];simp only[bs];by_cases he:0<=e/\e<t.c9.length
   .have j:=d.ends he.1 he.2;have o:e<=(t.c9.length:Int)-1:=U
    rw [ae V,bs,ae (by simp[he.1,o]),AD he.1 he.2];simp[WZ d hi.1.1 hi.1.2 j.1.1,WZ d hi.2.1 hi.2.2 j.2.1,he.1,he.2,decide_true];cases G4 t f (AA t.c9 e).jj<;>rfl
   .have:(decide (0<=e)&&decide (e<t.c9.length))=T:=by rw[A!];simpa using he
    have q:(decide (0<=e)&&decide (e<=(t.c9.length:Int)-1))=T:=e!
    rw [this,q];simp
 .simp[h]
def OU(n:Int)(x:gp):Bool:=(((decide ((-1)<=x.Var))&&(decide (x.Var<n)))&&(decide ((-1000000)<=x.Add)))&&(decide (x.Add<=1000000))
def LZ(n:Int)(x:Test):Int:=if¬x.kl=1/\¬x.kl=2 then 1 else if(OU n x.gl&&OU n x.ec)=X then 0 else 6
def Jr(n:Int)(l:List Test):Int:=if n<0\/12<n then 6 else if 40<l.length then 3 else(fst (λi=>nz (LZ n (AA l i))) 0 l.length).getD 0
theorem xY(n:Int)(x:Test):KU n x=Y (LZ n x):=by
 unfold KU LZ;simp only[show∀n x,JT n x=Y (OU n x)from λ_ _=>rfl,bs];generalize OU n x.gl=b1;generalize OU n x.ec=b2;cases b1<;>cases b2
 all_goals
  simp only[bs,sx,z_,pc,z!,decide_eq_false_iff_not,z?,A_,A',ne_eq]
  repeat' (first|rfl|(exfalso;omega;done)|split)
  all_goals (first|rfl|(exfalso;omega)|omega|simp_all|(simp_all;omega))
theorem rG(n:Int)(x:gp):Kb n x=Y (if OU n x=X then 0 else 6):=by
 unfold Kb OU;simp only[bs,sx,z_,pc,z!,decide_eq_false_iff_not,z?,A_,A',ne_eq]
 repeat' (first|rfl|(exfalso;omega;done)|split)
 all_goals (first|rfl|(exfalso;omega)|omega|simp_all|(simp_all;omega))
theorem xz(n:Int)(x:Test):Q4 n x=Y (LZ n x):=by
 unfold Q4 LZ;simp only[rG,bs];generalize OU n x.gl=b1;generalize OU n x.ec=b2;cases b1<;>cases b2
 all_goals
  simp only[bs,sx,z_,pc,z!,decide_eq_false_iff_not,z?,A_,A',ne_eq]
  repeat' (first|rfl|(exfalso;omega;done)|split)
  all_goals (first|rfl|(exfalso;omega)|omega|simp_all|(simp_all;omega))
theorem uo(n:Int)(l:List Test):Ih n l=Y (Jr n l):=by
 unfold Ih Jr;rw[Bh (λi=>nz (LZ n (AA l i))),C8]
 .simp only[bs,sx,z_,pc,z!,decide_eq_false_iff_not,z?,A_,A',ne_eq]
  repeat' (first|rfl|(exfalso;omega;done)|split)
  all_goals (first|rfl|(exfalso;omega)|omega|simp_all|(simp_all;omega))
 .intro i d f _;rw[AD d f,bs,xY,bs,Nv]
theorem vF(n:Int)(l:List Test):Ny n l=Y (Jr n l):=by
 unfold Ny Jr;rw[Bh (λi=>nz (LZ n (AA l i))),C8]
 .simp only[bs,sx,z_,pc,z!,decide_eq_false_iff_not,z?,A_,A',ne_eq]
  repeat' (first|rfl|(exfalso;omega;done)|split)
  all_goals (first|rfl|(exfalso;omega)|omega|simp_all|(simp_all;omega))
 .intro i d f _;rw[AD d f,bs,xz,bs,Nv]
def Sg(t:AC)(p:d6)(node ix:Int):kh×Bool:=
 if node<0\/p.d3.ci.length<=node then(default,T)else
 let l:=(Fg t (AA p.d3.ci node)).1
 if ix<0\/l.length<=ix then(default,T)else(AA l ix,X)
theorem T1(hf:A3 t)(a:Int):(Fg t a).1.length<=600/\((Fg t a).2≠0->(Fg t a).1=[]):=by
 unfold Fg;split
 .simp
 .rename_i h;have d:=Cq (t:=t) U;split
  next hi=>exact⟨H9 hf (x_ _) d.par (NG.1 hi).2,V⟩
  .simp
variable{p:d6}
theorem uY(hf:A3 t)(d:Cp p.d3)(s:CA):Gr t p s=Y (Sg t p s.o4 s.kh):=by
 have j:=d.ea;unfold Gr Sg C3;dsimp only;rw[AT U U,bs];by_cases h:s.o4<0\/p.d3.ci.length<=s.o4
 .rw[ac an,ac h];rfl
 .rw[ae an,ae h,AD U U,bs,Tg hf,bs];have o:=(T1 hf (AA p.d3.ci s.o4)).1;rw[AT U U,bs];by_cases f:s.kh<0\/(Fg t (AA p.d3.ci s.o4)).1.length<=s.kh
  .rw[ac an,ac f];rfl
  grind [AD]
theorem uv(hf:A3 t)(node d:Int):LP t p node d=Y (Sg t p node d):=by
 unfold LP Sg;dsimp only;by_cases h:node<0\/p.d3.ci.length<=node
 .rw[ac an,ac h];rfl
 .rw[ae an,ae h,AD U U,bs,Ou hf,bs];have j:=(T1 hf (AA p.d3.ci node)).2;by_cases f:d<0\/(Fg t (AA p.d3.ci node)).1.length<=d
  .rw[ac an,ac f];rfl
  grind [Fg,AA,AD]
end Go.Sf.Sc
namespace Go.Sf
variable{σ ρ:Type}
def bN(s:σ)(o:Option ρ):Bz σ ρ:=match o with
 |none=>.next s|some r=>.ret r
def oj(s:σ)(o:Option ρ):σ ⊕ ρ:=match o with
 |none=>.inl s|some r=>.inr r
theorem eA{f:Int->σ->Option (Bz σ ρ)}(g:Int->σ)(c:Int->Option ρ):∀(n:Nat)(a:Int),
  (∀i,a<=i->i<a+n->(∀j,a<=j->j<i->c j=W)->f i (g i)=Y (bN (g (i+1)) (c i)))->zt f n a (g a)=Y (oj (g (a+n)) (FL c n a))
 |0,a,_=>by simp[zt,FL,oj]|n+1,a,h=>by
  have q:=h a (x_ _) U (λj d o=>U);rw[GG,q,FL];cases y:c a with
  |some r=>rfl|none=>
   simp only[bN];rw[show a+((n+1:Nat):Int)=a+1+n by omega];refine eA g c n (a+1) (λi d o u=>h i U U (λj w x=>?_))
   grind
variable{a b:Int}
theorem Gw{f:Int->σ->Option (Bz σ ρ)}(g:Int->σ)(c:Int->Option ρ){s:σ}(d:a<=b)(o:s=g a)(h:∀i,a<=i->i<b->(∀j,a<=j->j<i->c j=W)->f i (g i)=Y (bN (g (i+1)) (c i))):ij f a b s=Y (oj (g b) (fst c a b)):=by
 subst o;unfold ij fst;have:=eA g c (b-a).toNat a (λi q w u=>h i q U u)
 grind
variable{α:Type}
variable{e:Int}
theorem EN{ζ:a5}{δ:Int}(h:e=0->ζ=Y δ):(if(!decide (e=0))=X then Y e else ζ)=Y (if e≠0 then e else δ):=m?
variable{v:α}{ζ:Option α}{δ:α}
theorem Dy(h:e=0->ζ=Y δ):(if(!decide (e=0))=X then Y v else ζ)=Y (if e≠0 then v else δ):=m?
variable{P:Prop}
theorem Qx[Decidable P]{b:Bool}(hb:b=X↔P)(h:¬P->ζ=Y δ):(if b=X then Y v else ζ)=Y (if P then v else δ):=m?
theorem YB{b:Bool}(h:b=X->ζ=Y δ):(if(!b)=X then Y v else ζ)=Y (if b=T then v else δ):=m?
theorem dY{b:Bool}(h:b=T->ζ=Y δ):(if b=X then Y v else ζ)=Y (if b=X then v else δ):=m?
end Go.Sf
namespace Go.Sf.Sc
open Go Go.Sf
def TE(t:AC)(p:d6)(s:CA):Bool:=!(Sg t p s.o4 s.kh).2||decide (s.gp.Var< -1)||decide (p.em<=s.gp.Var)||(decide (s.gp.Add< -1000000)||decide (1000000<s.gp.Add))
def ID(p:d6)(v:Int):Bool:=p.ei.any λs=>decide (s.gp.Var=v)
def FD(t:AC)(p:d6):Int:=
 if (BD t).2≠0 then(BD t).2 else if CE p.d3≠0 then CE p.d3 else if C0 t p.d3=T then 13 else
 if p.em<0\/12<p.em then 6 else if 10<p.ei.length\/10<p.kg.length then 3 else
 if (p.ei.any (TE t p))=X then 6 else if Jr p.em p.kg≠0 then Jr p.em p.kg else
 if kq (λv=>!ID p v) 0 p.em=X then 9 else 0
def Lf(p:d6)(i:Int):a6:=(List.range p.em.toNat).map λ(v:Nat)=>(p.ei.take i.toNat).any λs=>decide (s.gp.Var=(v:Int))
variable{p:d6}
theorem l5:Lf p 0=List.replicate p.em.toNat T:=by
 unfold Lf;refine C? V (λn d f=>V)
theorem pF(p:d6)(i:Int):(Lf p i).length=p.em.toNat:=by simp[Lf]
variable{i:Int}
theorem pG(d:0<=i)(f:i<p.ei.length)(hv:0<=(AA p.ei i).gp.Var):BF (Lf p i) (AA p.ei i).gp.Var X=Lf p (i+1):=by
 unfold BF;refine C? (by simp[Lf]) (λn h j=>?_);simp[Lf,CH d f]
 grind
theorem lz(d:0<=i)(f:i<p.ei.length)(hv:(AA p.ei i).gp.Var<0):Lf p i=Lf p (i+1):=by
 refine C? (by simp[Lf]) (λn h j=>?_);simp[Lf,CH d f]
 grind
theorem pE(p:d6):((Lf p p.ei.length).any λx=>T==x)=kq (λv=>!ID p v) 0 p.em:=by
 rw [y_,C!,Cu];simp only[Lf,x!,C',D_,List.mem_range];constructor
 .rintro⟨x,⟨v,hv,rfl⟩,d⟩;refine⟨v,U,U,?_⟩
  grind [ID]
 .rintro⟨v,f,h,d⟩;refine⟨_,⟨v.toNat,U,rfl⟩,?_⟩
  grind [Int.toNat_of_nonneg,ID]
theorem iy{α ρ:Type}[Inhabited α]{l:List α}{q:α->Bool}{v:ρ}:fst (λi=>if q (AA l i)=X then Y v else W) 0 l.length=if l.any q=X then Y v else W:=by
 rw [Ok,JO]
variable{t:AC}
theorem Ym(hf:A3 t)(p:d6):Dp t p=Y (FD t p):=by
 unfold Dp FD;rw[Ot hf,bs,Oq,bs];refine EN λE=>EN λC=>?_;have w:=Di C;have e:((BG p.d3.ci (λd=>Hx d t)).bind λj=>
   (if j=X then Y X else((Bq p.d3.c9 (λd=>Hy d t)).bind λo=>Y (o))))=Y (!C0 t p.d3):=by
  unfold C0;rw[show(λd=>Hx d t)=(λ(n:Int)=>Y (decide (t.ci.length<=n)))from rfl,dX,show(λd=>Hy d t)=(λ(e:Bt)=>Y (decide (t.c9.length<=e.j4)))from rfl,iX];simp only[bs];cases p.d3.ci.any λn=>decide (t.ci.length<=n)<;>simp
 rw [<-w!,e,bs];refine YB λD=>?_;unfold C3;simp only[bs];refine Qx i! λhv=>Qx i! λF=>?_;unfold Hi;rw[ac U,bs,<-l5,AT (show -9223372036854775808<=p.em-1 by omega) U,Gw (Lf p) (λi=>if TE t p (AA p.ei i)=X then Y 6 else W) U rfl,iy]
 .cases hb:p.ei.any (TE t p)
  .simp only[y?,if_false,oj,B3,uo,bs,tj,pE];by_cases f:Jr p.em p.kg=0
   .simp[f];cases kq (λv=>!ID p v) 0 p.em<;>rfl
   .simp[f]
  .rfl
 .intro i q u _;rw[AD q u,bs,uY hf w,bs];unfold TE;by_cases hb:(Sg t p (AA p.ei i).o4 (AA p.ei i).kh).2=X
  .by_cases B:(AA p.ei i).gp.Var< -1\/p.em<=(AA p.ei i).gp.Var
   .have x:(decide (-1<=(AA p.ei i).gp.Var)&&decide ((AA p.ei i).gp.Var<=p.em-1))=T:=e!
    have y:(decide ((AA p.ei i).gp.Var< -1)||decide (p.em<=(AA p.ei i).gp.Var))=X:=an
    rw [hb,x,B' (!X),y];rfl
   .have x:(decide (-1<=(AA p.ei i).gp.Var)&&decide ((AA p.ei i).gp.Var<=p.em-1))=X:=an
    have y:(decide ((AA p.ei i).gp.Var< -1)||decide (p.em<=(AA p.ei i).gp.Var))=T:=e!
    rw [hb,x,B' (!X),y];by_cases ha:(AA p.ei i).gp.Add< -1000000\/1000000<(AA p.ei i).gp.Add
    .have z:(decide (-1000000<=(AA p.ei i).gp.Add)&&decide ((AA p.ei i).gp.Add<=1000000))=T:=e!
     have A:(decide ((AA p.ei i).gp.Add< -1000000)||decide (1000000<(AA p.ei i).gp.Add))=X:=an
     rw [z,A];rfl
    .have z:(decide (-1000000<=(AA p.ei i).gp.Add)&&decide ((AA p.ei i).gp.Add<=1000000))=X:=an
     have A:(decide ((AA p.ei i).gp.Add< -1000000)||decide (1000000<(AA p.ei i).gp.Add))=T:=e!
     rw [z,A];by_cases h:0<=(AA p.ei i).gp.Var
     .simp[h,decide_true];rw[AD h (by rw[pF];omega),bs,pG q u h];rfl
     .simp[h,decide_false];rw[lz q u U];rfl
  .rw[B_]at hb;rw[hb];rfl
theorem tF(p:d6)(v:Int):Mn p v=Y (ID p v):=by
 unfold Mn ID;rw[Bo (λi=>decide ((AA p.ei i).gp.Var=v)) X,JO]
 .cases kq (λi=>decide ((AA p.ei i).gp.Var=v)) 0 p.ei.length<;>rfl
 .intro i d f _;rw[AD d f,bs,I7]
theorem cu(hf:A3 t)(p:d6):F5 t p=Y (FD t p):=by
 unfold F5 FD;rw[R1 hf,bs,NN,bs];refine EN λu=>EN λo=>?_;have f:=Di o;rw[Zj f,bs];refine YB λq=>Qx i! λhv=>Qx i! λw=>?_;rw[Bo (λi=>TE t p (AA p.ei i)) 6,<-JO]
 .cases hb:p.ei.any (TE t p)
  .simp only[y?,if_false,B3,vF,bs];by_cases d:Jr p.em p.kg=0
   .simp only[d];rw[Bo (λv=>!ID p v) 9]
    .cases kq (λv=>!ID p v) 0 p.em<;>rfl
    .intro i h j _;rw[tF,bs,I7]
   .simp[d]
  .rfl
 .intro i h j _;rw[AD h j,bs,uv hf,bs];unfold TE OM
  grind
def OS(t:AC)(p:d6)(i:Int):Int:=
 let s:=AA p.ei i
 if s.o4<0\/p.d3.ci.length<=s.o4 then 6 else
 let l:=(Fg t (AA p.d3.ci s.o4)).1
 if ((((((decide (s.kh<0))||(decide ((l.length:Int)<=s.kh)))||(decide (s.gp.Var<(-1))))||(decide (p.em<=s.gp.Var)))||(decide (s.gp.Add<(-1000000))))||(decide (1000000<s.gp.Add)))=X then 6 else
 if kq (λj=>(decide ((AA p.ei j).o4=s.o4))&&(decide ((AA p.ei j).kh=s.kh))) 0 i=X then 5 else 0
theorem xX(hf:A3 t)(r:fd)(d:0<=i)(f:i<r.ec.ei.length):Mw t r i=Y (OS t r.ec i):=by
 unfold Mw OS;dsimp only;rw[AD d f,bs];refine Qx V λh=>?_;rw[AD U U,bs,Tg hf,bs,Iw d U,bs,
  show (λj=>Qq j (AA r.ec.ei i))=(λy=>Y ((decide (y.o4=(AA r.ec.ei i).o4))&&(decide (y.kh=(AA r.ec.ei i).kh))))from rfl,iY,bs,R9 d U]
 grind
theorem xx(hf:A3 t)(p:d6)(d:0<=i)(f:i<p.ei.length):LQ t p i=Y (OS t p i):=by
 unfold LQ OS;dsimp only;rw[AD d f,bs];refine Qx V λh=>?_;rw[AD U U,bs,Ou hf,bs,
  Bo (λj=>(decide ((AA p.ei j).o4=(AA p.ei i).o4))&&(decide ((AA p.ei j).kh=(AA p.ei i).kh))) 5]
 .refine dY λ_=>?_;cases kq (λj=>(decide ((AA p.ei j).o4=(AA p.ei i).o4))&&(decide ((AA p.ei j).kh=(AA p.ei i).kh))) 0 i<;>rfl
 grind [AD,AA,kh]
def Jk(t:AC)(r:fd):Int:=
 if CE r.ec.d3≠0 then CE r.ec.d3 else if C0 t r.ec.d3=T then 13 else
 if r.ec.em≠r.gl.em\/0<r.ec.kg.length then 1 else if 10<r.ec.ei.length then 3 else
 (fst (λi=>nz (OS t r.ec i)) 0 r.ec.ei.length).getD 0
theorem ui(hf:A3 t)(r:fd):LR t r=Y (Jk t r):=by
 unfold LR Jk;rw[Oq,bs,uq,bs,Bh (λi=>nz (OS t r.ec i)),C8]
 .grind
 grind [xX,Nv]
theorem vC(hf:A3 t)(r:fd):J9 t r=Y (Jk t r):=by
 unfold J9 Jk;rw[NN,bs];refine EN λd=>?_;rw[Zj (Di d),bs,Bh (λi=>nz (OS t r.ec i)),C8]
 .grind
 grind [xx,Nv]
end Go.Sf.Sc
namespace Go.Sf
variable{a b:Int}
theorem kW{ρ:Type}{c d:Int->Option ρ}(h:∀i,c i=d i):fst c a b=fst d a b:=by rw[funext h]
def Da(l:Fp)(v:Int):Int:=(fst (λi=>if decide (v=AA l i)=X then Y i else W) 0 l.length).getD (-1)
variable{l:Fp}
theorem Hh{v:Int}(h:v∈l):0<=Da l v/\Da l v<l.length/\AA l (Da l v)=v/\∀j,0<=j->j<Da l v->AA l j≠v:=by
 unfold Da;cases hf:fst (λi=>if decide (v=AA l i)=X then Y i else W) 0 l.length with
 |none=>
  grind [BT,BC]
 |some k=>
  grind [Cl,AA]
variable{R:Int->Int->Prop}
theorem IM(h:l.Pairwise R){i j:Int}(d:0<=i)(f:i<j)(o:j<l.length):R (AA l i) (AA l j):=by grind[D',AA,B?]
theorem Wg(h:∀i j:Int,0<=i->i<j->j<l.length->R (AA l i) (AA l j)):l.Pairwise R:=by
 refine D'.2 (λi j d f o=>?_);have:=h i j U U U;unfold AA at this
 grind
theorem XE(u:l.Pairwise (·<·)){v:Int}(h:v∈l):(l.countP (λx=>decide (x<v)):Int)=Da l v:=by
 obtain ⟨w,y,o,_⟩:=Hh h;generalize C:Da l v=k at w y o;have e:l=l.take k.toNat++l.drop k.toNat:=(List.take_append_drop _ _).symm;have z:(l.take k.toNat).countP (λx=>decide (x<v))=k.toNat:=by
  rw [List.countP_eq_length.2 (λx d=>?_),bk]
  .omega
  .obtain⟨i,i1,i2,rfl⟩:=BT d;rw[bk]at i2;rw[x8 U,sx,<-o];exact IM u i1 U y
 have A:(l.drop k.toNat).countP (λx=>decide (x<v))=0:=by
  rw [List.countP_eq_zero];intro x d;obtain⟨n,q⟩:=List.getElem?_of_mem d;rw[List.getElem?_drop]at q;have B:=(List.getElem?_eq_some_iff.1 q).1;have f:x=AA l (k+n):=by
   unfold AA;rw[C_,show(k+(n:Int)).toNat=k.toNat+n by omega,q];rfl
  rw [sx,f,<-o];by_cases j:n=0
  .subst j;simp
  .have:=IM u w (show k<k+(n:Int)by omega) U;omega
 rw [e,List.countP_append,z,A];omega
end Go.Sf
namespace Go.Sf.Sc
open Go Go.Sf
theorem uJ(l:Fp)(n:Int):(ej (ij (ρ:=Int) (λ(h:Int)(_:Unit)=>
 (idx l h).bind λd=>
 if (decide (d=n))=X then
 Y (.ret h)
 else
 Y (.next ())) 0 (l.length:Int) ()) (λ_=>
 Y (-1)) (λj=>Y j))=Y (Da l n):=by
 have:=XO (l:=l) (f:=λx=>Y (decide (x=n))) (p:=λx=>decide (x=n)) (λ_ _=>rfl);simp only[bs]at this;rw[this];unfold Da;congr 2;exact kW λi=>by simp[eq_comm]
theorem xr(l:Fp)(v:Int):J2 l v=Y (Da l v):=uJ l v
def hasB(l:Fp)(v:Int):Bool:=l.any λx=>decide (v=x)
variable{l:Fp}
theorem By{v:Int}:hasB l v=X↔v∈l:=by
 unfold hasB
 grind
theorem QA(l:Fp)(n:Int):(ej (ij (ρ:=Bool) (λ(f:Int)(_:Unit)=>
 (idx l f).bind λd=>
 if (decide (d=n))=X then
 Y (.ret X)
 else
 Y (.next ())) 0 (l.length:Int) ()) (λ_=>
 Y T) (λh=>Y h))=Y (hasB l n):=by
 unfold hasB;rw[Bo (λi=>decide (n=AA l i)) X,JO]
 .cases kq (λi=>decide (n=AA l i)) 0 l.length<;>rfl
 .intro i j o _;rw[AD j o,bs,I7];simp[eq_comm]
theorem u7(l:Fp)(v:Int):S4 l v=Y (hasB l v):=QA l v
theorem u0(l:Fp)(v:Int):Q5 l v=Y (hasB l v):=QA l v
def P3(l:Fp)(n:Int):Int:=(fst (λi=>if AA l i<0\/n<=AA l i then Y 6 else if 0<i/\AA l i<=AA l (i-1)then Y 12 else W) 0 l.length).getD 0
theorem tA(q:l.length<=1000)(n:Int):JH l n=Y (P3 l n):=by
 unfold JH P3;rw[Bh (λi=>if AA l i<0\/n<=AA l i then Y 6 else if 0<i/\AA l i<=AA l (i-1)then Y 12 else W),C8];intro i j o _;rw[AD j o,bs];by_cases h:AA l i<0\/n<=AA l i
 .rw[ac b?,ac h];rfl
 .rw[ae b?,ae h];by_cases d:0<i
  .rw[ac c?,AT U U,AD U U,bs,bs];by_cases f:AA l i<=AA l (i-1)
   .rw[ac d!,ac ⟨d,f⟩];rfl
   .rw[ae d!,ae (λh=>f h.2)];rfl
  .rw[ae c?,bs,ae a!,ae (λh=>d h.1)];rfl
theorem tD(u:l.length<=1000)(n:Int):Hl l n=Y (P3 l n):=by
 unfold Hl P3;rw[Bh (λi=>if AA l i<0\/n<=AA l i then Y 6 else if 0<i/\AA l i<=AA l (i-1)then Y 12 else W),C8];intro i j o _;rw[AD j o];simp only[bs];by_cases h:AA l i<0\/n<=AA l i
 .have:(if decide (AA l i<0)=X then Y X else Y (decide (n<=AA l i)))=Y X:=by
   rcases h with h|h
   .simp[h]
   .by_cases q:AA l i<0<;>simp[h,q]
  rw [this,bs,ac rfl,ac h];rfl
 .have:(if decide (AA l i<0)=X then Y X else Y (decide (n<=AA l i)))=Y T:=by
   rw [ae an,decide_eq_false U]
  rw [this,bs,ae a!,ae h];by_cases d:0<i
  .rw[ac c?,AT U U,AD U U,bs,bs];by_cases f:AA l i<=AA l (i-1)
   .rw[ac d!,ac ⟨d,f⟩];rfl
   .rw[ae d!,ae (λh=>f h.2)];rfl
  .rw[ae c?,bs,ae a!,ae (λh=>d h.1)];rfl
variable{a b:Int}
theorem Sr{c:Int->a5}(d:∀i,c i≠Y 0)(h:(fst c a b).getD 0=0):∀i,a<=i->i<b->c i=W:=by
 have:fst c a b=W:=by
  cases hf:fst c a b with
  |none=>rfl|some r=>
   grind [v?,Cl]
 exact BC.1 this
variable{n:Int}
theorem U6(h:P3 l n=0):(∀x∈l,0<=x/\x<n)/\l.Pairwise (·<·):=by
 have y:=Sr (c:=λi=>if AA l i<0\/n<=AA l i then Y 6 else if 0<i/\AA l i<=AA l (i-1)then Y 12 else W) (λi=>by
  split
  .simp
  .split<;>simp) h
 have f:∀i:Int,0<=i->i<l.length->(0<=AA l i/\AA l i<n)/\(0<i->AA l (i-1)<AA l i):=by
  intro i o w;have:=y i o w;split at this
  .cases this
  .split at this
   .cases this
   .omega
 refine ⟨λx q=>?_,Wg (λi j o d u=>?_)⟩
 .obtain⟨i,i1,i2,rfl⟩:=BT q;exact(f i i1 i2).1
 .obtain⟨k,z⟩:∃k:Nat,j=i+1+k:=⟨(j-i-1).toNat,U⟩;subst z;clear d
  induction k with
  |zero=>
   have:=(f (i+1) U U).2 U;rw[show i+1-1=i by omega]at this;simpa using this
  |succ k A=>
   have a:=A U;have b:=(f (i+1+((k+1:Nat):Int)) U u).2 U;rw[show i+1+((k+1:Nat):Int)-1=i+1+k by omega]at b;omega
theorem UY(f:l.length<=1000)(d:l.Pairwise (·<·))(v:Int):slices_BinarySearch_int l v=Y (((l.countP (λx=>decide (x<v)):Nat):Int),hasB l v):=by
 unfold slices_BinarySearch_int;rw[ac ⟨b_,d.imp (λh=>U)⟩];congr 2;rw[y_,By,List.contains_iff_mem]
def OK(g:d3)(p:BR):Int:=
 if P3 p.ci g.ci.length≠0 then P3 p.ci g.ci.length else if P3 p.c9 g.c9.length≠0 then P3 p.c9 g.c9.length else
 (fst (λi=>if(hasB p.ci (AA g.c9 (AA p.c9 i)).jj&&hasB p.ci (AA g.c9 (AA p.c9 i)).To)=X then W else Y 14) 0 p.c9.length).getD 0
structure Qv(g:d3)(p:BR):Prop where
 ea:(∀x∈p.ci,0<=x/\x<g.ci.length)/\p.ci.Pairwise (·<·)
 eb:(∀x∈p.c9,0<=x/\x<g.c9.length)/\p.c9.Pairwise (·<·)
 ends:∀x∈p.c9,(AA g.c9 x).jj∈p.ci/\(AA g.c9 x).To∈p.ci
variable{g:d3}
theorem Vj{p:BR}(h:OK g p=0):Qv g p:=by
 unfold OK at h;split at h
 .omega
 .split at h
  .omega
  .rename_i f j;refine⟨U6 U,U6 U,λx d=>?_⟩;obtain⟨i,i1,i2,rfl⟩:=BT d;have:=Sr (c:=λi=>if(hasB p.ci (AA g.c9 (AA p.c9 i)).jj&&hasB p.ci (AA g.c9 (AA p.c9 i)).To)=X then W else Y 14) (λi=>by
    split<;>simp) h i i1 i2
   split at this
   next hb=>rw[pc,By,By]at hb;exact hb
   .cases this
def ES(g:d3)(p:BR):Int:=if CE g≠0 then CE g else OK g p
structure TC(p:BR):Prop where
 ea:p.ci.length<=1000
 eb:p.c9.length<=1000
theorem jO{p:BR}(d:TC p):Fu g p=Y (ES g p):=by
 unfold Fu ES;rw[Oq,bs];refine EN λf=>?_;have o:=Di f;unfold OT OK;rw[tA d.ea,bs,tA d.eb,bs,w?];refine EN λh=>EN λj=>?_;obtain⟨a1,a2⟩:=U6 h;obtain⟨q,u⟩:=U6 j;rw[Bh (λi=>if(hasB p.ci (AA g.c9 (AA p.c9 i)).jj&&hasB p.ci (AA g.c9 (AA p.c9 i)).To)=X then W else Y 14),C8];intro i i1 i2 _;have hb:=q _ (AF i1 i2);unfold M1;rw[AD i1 i2,bs,AD hb.1 hb.2];simp[UY d.ea a2];cases hasB p.ci (AA g.c9 (AA p.c9 i)).jj<;>cases hasB p.ci (AA g.c9 (AA p.c9 i)).To<;>rfl
theorem Zi{p:BR}(d:TC p):J1 g p=Y (ES g p):=by
 unfold J1 ES;rw[NN,bs];refine EN λf=>?_;have j:=Di f;unfold Qi OK;rw[tD d.ea,bs,tD d.eb,bs,w?];refine EN λq=>EN λh=>?_;obtain⟨o,u⟩:=U6 h;rw[Bh (λi=>if(hasB p.ci (AA g.c9 (AA p.c9 i)).jj&&hasB p.ci (AA g.c9 (AA p.c9 i)).To)=X then W else Y 14),C8];intro i i1 i2 _;have hb:=o _ (AF i1 i2);rw[AD i1 i2,bs,AD hb.1 hb.2];simp[u0];cases hasB p.ci (AA g.c9 (AA p.c9 i)).jj<;>cases hasB p.ci (AA g.c9 (AA p.c9 i)).To<;>rfl
def DC(g:d3)(p:BR):d3:=⟨p.ci.map (AA g.ci),p.c9.map λx=>⟨(AA g.c9 x).j4,Da p.ci (AA g.c9 x).jj,Da p.ci (AA g.c9 x).To⟩⟩
variable{i:Int}
theorem JA{α:Type}{f:Int->α}(d:0<=i)(h:i<l.length):(l.take (i+1).toNat).map f=(l.take i.toNat).map f++[f (AA l i)]:=by grind[CH]
theorem UF(w:l.length<=1000)(h:∀x∈l,0<=x/\x<g.ci.length)(es:List Bt):(l3 (λ(u:Int)(o:d3)=>
 (idx l u).bind λd=>
 (idx g.ci d).bind λf=>
 (AY o.ci [f]).bind λj=>
 Y (d3.mk j o.c9)) 0 (l.length:Int) (d3.mk [] es))=Y (d3.mk (l.map (AA g.ci)) es):=by
 rw [CC (λi=>d3.mk ((l.take i.toNat).map (AA g.ci)) es) U V]
 .rw[x!,C']
 .intro i i1 i2;have q:=h _ (AF i1 i2);rw[AD i1 i2,bs,AD q.1 q.2,bs,AS a_,bs,JA i1 i2]
theorem YQ(y:l.length<=1000)(h:∀x∈l,0<=x/\x<g.c9.length)(ns:Fp)(F:Bt->Bt){f:Bt->List Bt->Option (List Bt)}(hf:∀x∈l,∀s,s.length<=1000->f (AA g.c9 x) s=Y (s++[F (AA g.c9 x)])):(l3 (λ(w:Int)(q:d3)=>
 (idx l w).bind λd=>
 (idx g.c9 d).bind λj=>
 (f j q.c9).bind λo=>
 Y (d3.mk q.ci o)) 0 (l.length:Int) (d3.mk ns []))=Y (d3.mk ns (l.map λx=>F (AA g.c9 x))):=by
 rw [CC (λi=>d3.mk ns ((l.take i.toNat).map λx=>F (AA g.c9 x))) U V]
 .rw[x!,C']
 .intro i i1 i2;have u:=h _ (AF i1 i2);rw[AD i1 i2,bs,AD u.1 u.2,bs,hf _ (AF i1 i2) _ an,bs,JA i1 i2]
theorem nV{p:BR}(d:TC p):Fa g p=Y (if ES g p≠0 then(⟨[],[]⟩,⟨[],[]⟩,ES g p)else(DC g p,⟨p.ci,p.c9⟩,0)):=by
 unfold Fa;rw[jO d,bs];refine Dy λh=>?_;have w:CE g=0/\OK g p=0:=by
  grind [ES]
 have ho:=Vj w.2;rw[UF d.ea ho.ea.1,bs];have:=YQ (g:=g) (l:=p.c9) d.eb ho.eb.1 (p.ci.map (AA g.ci)) (λx=>⟨x.j4,Da p.ci x.jj,Da p.ci x.To⟩) (f:=λj s=>
  (slices_BinarySearch_int p.ci j.jj).bind λo=>
  (slices_BinarySearch_int p.ci j.To).bind λq=>
  AY s [Bt.mk j.j4 o.1 q.1]) (λx u s y=>by
   have he:=ho.ends x u;rw[UY d.ea ho.ea.2,bs,UY d.ea ho.ea.2,bs,AS a_,XE ho.ea.2 he.1,XE ho.ea.2 he.2])
 simp [w!]at this;rw[this,bs];unfold slices_Clone_int;have z:=d.ea;have A:=d.eb;rw[Be b_,bs,Be b_];rfl
theorem Vn{p:BR}(j:TC p):Hq g p=Y (if ES g p≠0 then(⟨[],[]⟩,⟨[],[]⟩,ES g p)else(DC g p,⟨p.ci,p.c9⟩,0)):=by
 unfold Hq;rw[Zi j,bs];refine Dy λh=>?_;have u:CE g=0/\OK g p=0:=by
  grind [ES]
 have ho:=Vj u.2;rw[UF j.ea ho.ea.1,bs];have:=YQ (g:=g) (l:=p.c9) j.eb ho.eb.1 (p.ci.map (AA g.ci)) (λx=>⟨x.j4,Da p.ci x.jj,Da p.ci x.To⟩) (f:=λd s=>
  (J2 p.ci d.jj).bind λo=>
  (J2 p.ci d.To).bind λq=>
  AY s [Bt.mk d.j4 o q]) (λx w s y=>by
   grind [xr,AS,AX])
 simp [w!]at this;rw[this,bs];have z:=j.ea;have A:=j.eb;rw[Be b_,bs,Be b_];rfl
end Go.Sf.Sc
namespace Go.Sf.Sc
open Go Go.Sf
def Mc(a b:d3)(m:d4)(i:Int):a5:=
 if AA m.ci i<0\/b.ci.length<=AA m.ci i then Y 6 else if AA b.ci (AA m.ci i)≠AA a.ci i then Y 13 else W
def Gp(a b:d3)(m:d4)(i:Int):a5:=
 if AA m.c9 i<0\/b.c9.length<=AA m.c9 i then Y 6 else
 if (AA a.c9 i).j4≠(AA b.c9 (AA m.c9 i)).j4 then Y 13 else
 if AA m.ci (AA a.c9 i).jj≠(AA b.c9 (AA m.c9 i)).jj\/AA m.ci (AA a.c9 i).To≠(AA b.c9 (AA m.c9 i)).To then Y 11 else W
def Im(a b:d3)(m:d4):Int:=
 if CE a≠0 then CE a else if CE b≠0 then CE b else if m.ci.length≠a.ci.length\/m.c9.length≠a.c9.length then 20 else
 match fst (Mc a b m) 0 m.ci.length with
 |some e=>e|none=>(fst (Gp a b m) 0 m.c9.length).getD 0
structure Tu(a b:d3)(m:d4):Prop where
 ga:Cp a
 gb:Cp b
 Aal:m.ci.length=a.ci.length
 Aao:m.c9.length=a.c9.length
 node:∀i:Int,0<=i->i<m.ci.length->(0<=AA m.ci i/\AA m.ci i<b.ci.length)/\AA b.ci (AA m.ci i)=AA a.ci i
 edge:∀i:Int,0<=i->i<m.c9.length->(0<=AA m.c9 i/\AA m.c9 i<b.c9.length)/\(AA a.c9 i).j4=(AA b.c9 (AA m.c9 i)).j4/\
  AA m.ci (AA a.c9 i).jj=(AA b.c9 (AA m.c9 i)).jj/\AA m.ci (AA a.c9 i).To=(AA b.c9 (AA m.c9 i)).To
variable{m:d4}
theorem WL{a b:d3}(h:Im a b m=0):Tu a b m:=by
 unfold Im at h;split at h
 .omega
 split at h
 .omega
 split at h
 .cases h
 rename_i f j o;have d:fst (Mc a b m) 0 m.ci.length=W:=by
  grind [Cl,Mc]
 rw [d]at h;have he:=Sr (λi=>by
  grind [Gp]) h
 refine ⟨Di U,Di U,U,U,λi i1 i2=>?_,λi i1 i2=>?_⟩
 .grind[BC,Mc]
 grind [Gp]
theorem ce(a b:d3)(m:d4):D6 a b m=Y (Im a b m):=by
 unfold D6 Im;rw[Oq,bs,Oq,bs];refine EN λha=>EN λhb=>Qx i! λu=>?_;have ga:=Di ha;have gb:=Di hb;rw[Bh (Mc a b m),Db]
 .cases o:fst (Mc a b m) 0 m.ci.length with
  |some e=>rfl|none=>
   have q:=BC.1 o;dsimp only;rw[Bh (Gp a b m),C8];intro i i1 i2 _;unfold Gp;rw[AD i1 i2,bs];by_cases d:AA m.c9 i<0\/b.c9.length<=AA m.c9 i
   .rw[ac c?,ac d];rfl
   .have hf:=ga.fit _ (AF (l:=a.c9) i1 U);rw[ae c?,ae d,AD i1 U,bs,AD U U,bs];by_cases f:(AA a.c9 i).j4=(AA b.c9 (AA m.c9 i)).j4
    .rw[ae d!,ae d!,AD U U,bs];by_cases h:AA m.ci (AA a.c9 i).jj=(AA b.c9 (AA m.c9 i)).jj
     .rw[ae b?,AD U U,bs,bs];by_cases j:AA m.ci (AA a.c9 i).To=(AA b.c9 (AA m.c9 i)).To
      .rw[ae e?,ae (by simp[h,j])];rfl
      .rw[ac e?,ac (.inr j)];rfl
     .rw[ac b?,bs,ac rfl,ac (.inl h)];rfl
    .rw[ac d!,ac f];rfl
 .intro i i1 i2 _;unfold Mc;rw[AD i1 i2,bs];by_cases d:AA m.ci i<0\/b.ci.length<=AA m.ci i
  .rw[ac c?,ac d];rfl
  .rw[ae c?,ae d,AD U U,bs,AD i1 U,bs];by_cases f:AA b.ci (AA m.ci i)=AA a.ci i
   .rw[ae d!,ae d!];rfl
   .rw[ac d!,ac f];rfl
theorem Vg{x y:Prop}[Decidable x][Decidable y]:(if decide x=X then Y X else Y (decide y))=Y (decide (x\/y)):=m?
theorem ct(a b:d3)(m:d4):IP a b m=Y (Im a b m):=by
 unfold IP Im;rw[NN,bs,NN,bs];refine EN λha=>EN λhb=>Qx i! λu=>?_;have ga:=Di ha;have gb:=Di hb;rw[show(a.ci.length:Int)=m.ci.length by omega,show(a.c9.length:Int)=m.c9.length by omega,Bh (Mc a b m),Db]
 .cases o:fst (Mc a b m) 0 m.ci.length with
  |some e=>rfl|none=>
   have q:=BC.1 o;dsimp only;rw[Bh (Gp a b m),C8];intro i i1 i2 _;unfold Gp;rw[AD i1 i2];simp only[bs,Vg];by_cases d:AA m.c9 i<0\/b.c9.length<=AA m.c9 i
   .rw[ac c?,ac d];rfl
   .have hf:=ga.fit _ (AF (l:=a.c9) i1 U);rw[ae c?,ae d,AD i1 U,bs,AD U U,bs];by_cases f:(AA a.c9 i).j4=(AA b.c9 (AA m.c9 i)).j4
    .rw[ae d!,ae d!,AD U U,bs];by_cases h:AA m.ci (AA a.c9 i).jj=(AA b.c9 (AA m.c9 i)).jj
     .rw[ae b?,AD U U,bs,bs];by_cases j:AA m.ci (AA a.c9 i).To=(AA b.c9 (AA m.c9 i)).To
      .rw[ae e?,ae (by simp[h,j])];rfl
      .rw[ac e?,ac (.inr j)];rfl
     .rw[ac b?,bs,ac rfl,ac (.inl h)];rfl
    .rw[ac d!,ac f];rfl
 .intro i i1 i2 _;unfold Mc;rw[AD i1 i2];simp only[bs,Vg];by_cases d:AA m.ci i<0\/b.ci.length<=AA m.ci i
  .rw[ac c?,ac d];rfl
  .rw[ae c?,ae d,AD U U,bs,AD i1 U,bs];by_cases f:AA b.ci (AA m.ci i)=AA a.ci i
   .rw[ae d!,ae d!];rfl
   .rw[ac d!,ac f];rfl
def Jw(l:Fp):Bool:=!kq (λi=>kq (λj=>decide (AA l i=AA l j)) 0 i) 0 l.length
variable{l:Fp}
theorem Jx:Jw l=X↔l.Nodup:=by grind[Jw,z!,B0,Wg,IM]
theorem cr(l:Fp):Fr l=Y (Jw l):=by
 unfold Fr Jw;rw[Bo (λi=>kq (λj=>decide (AA l i=AA l j)) 0 i) T]
 .cases kq (λi=>kq (λj=>decide (AA l i=AA l j)) 0 i) 0 l.length<;>rfl
 .intro i i1 i2 _;rw[Bo (λj=>decide (AA l i=AA l j)) T]
  .cases kq (λj=>decide (AA l i=AA l j)) 0 i<;>rfl
  .intro j d f _;rw[AD i1 i2,bs,AD d U,bs,I7]
theorem fI(f:l.length<=1000):∃k,Hj l=Y k/\decide (k=(l.length:Int))=Jw l:=by
 have d:(Su l).length=l.length:=(Rc l).length_eq;refine⟨((Go.Lib.compact (Su l)).length:Int),?_,?_⟩
 .grind[Hj,slices_Clone_int,slices_Sort_int,slices_Compact_int,Be,AX]
 .rw[y_,Jx,sx,<-(Rc l).nodup_iff,<-Ur (SK l),d];omega
def Ik(m:d4):Bool:=Jw m.ci&&Jw m.c9
theorem tB{a b:d3}(h:Im a b m=0):Dw a b m=Y (Ik m):=by
 have ho:=WL h;have:=ho.ga.ea;have:=ho.ga.eb;have:=ho.Aal;have:=ho.Aao;obtain⟨k,d,f⟩:=fI (l:=m.ci) U;obtain⟨j,o,q⟩:=fI (l:=m.c9) U;unfold Dw Ik;rw[ce,h,bs,ac (decide_eq_true rfl),d];simp[o,f,q];cases Jw m.ci<;>rfl
theorem ABB{a b:d3}(h:Im a b m=0):Jh a b m=Y (Ik m):=by grind[Jh,Ik,ct,cr,Jw]
def Qa(r:fd):Int:=
 if ES r.gl.d3 r.pf≠0 then ES r.gl.d3 r.pf else
 if Im (DC r.gl.d3 r.pf) r.ec.d3 r.o3≠0 then Im (DC r.gl.d3 r.pf) r.ec.d3 r.o3 else if Ik r.o3=T then 11 else 0
variable{r:fd}
theorem xS(d:TC r.pf):Mv r=Y (Qa r):=by
 unfold Mv Qa;rw[nV d,bs];by_cases h:ES r.gl.d3 r.pf=0
 .simp only[h,ne_eq,not_true_eq_false,if_false,decide_true,A?,y?];rw[ce,bs];refine EN λf=>?_;rw[tB f,bs];exact YB λ_=>rfl
 .simp[h]
def Wb(r:fd):Int:=if ES r.gl.d3 r.pf≠0 then ES r.gl.d3 r.pf else Im (DC r.gl.d3 r.pf) r.ec.d3 r.o3
theorem xy(d:TC r.pf):Pf r=Y (Wb r):=by
 unfold Pf Wb;rw[Zi d,bs];refine EN λh=>?_
 grind [Vn,ct]
theorem uL(h:Qa r=0):ES r.gl.d3 r.pf=0/\Im (DC r.gl.d3 r.pf) r.ec.d3 r.o3=0/\Ik r.o3=X:=by grind[Qa]
def BP(l:Fp)(n:Int):Fp:=((List.range n.toNat).map Int.ofNat).filter λi=>!hasB l i
variable{i:Int}
theorem Ph(l:Fp)(h:0<=i):BP l (i+1)=BP l i++if(!hasB l i)=X then[i]else[]:=by
 unfold BP;rw[show(i+1).toNat=i.toNat+1 by omega,List.range_succ,List.map_append,List.filter_append]
 grind
theorem Ft{n x:Int}(h:x∈BP l n):0<=x/\x<n:=by
 unfold BP at h
 grind
theorem S7(l:Fp)(n:Int):(BP l n).length<=n.toNat:=by
 unfold BP
 grind
variable{n:Int}
theorem Vs(q:0<=n)(u:n<=1000){f:Int->K1}(hf:∀i,f i=Y (hasB l i)):(l3 (λ(j:Int)(o:Fp)=>
 (f j).bind λd=>
 if (!d)=X then
 (AY o [j]).bind λh=>
 Y h
 else
 Y o) 0 n [])=Y (BP l n):=by
 refine CC (BP l) q (by simp[BP]) (λi i1 i2=>?_);have:=S7 l i;rw[hf,bs,Ph l i1];cases hasB l i
 .rw[ac a!,ac a!,AS a_];rfl
 .rw[ae a!,ae a!,List.append_nil]
theorem fL(d:0<=n)(f:n<=1000):L4 l n=Y (BP l n):=by
 unfold L4;rw[Vs d f (λi=>MV l i)];rfl
theorem oQ(d:0<=n)(f:n<=1000):NX n l=Y (BP l n):=by
 unfold NX;rw[Vs d f (λi=>u7 l i)];rfl
def E0(r:fd):Fp:=BP r.o3.ci r.ec.d3.ci.length
def K8(r:fd):Fp:=BP r.o3.c9 r.ec.d3.c9.length
theorem na(d:Cp r.ec.d3):Mu r=Y (E0 r,K8 r):=by
 have:=d.ea;have:=d.eb;unfold Mu;rw[fL U U,bs,fL U U];rfl
theorem oF(d:Cp r.ec.d3):Lp r=Y (E0 r,K8 r):=by
 have:=d.ea;have:=d.eb;unfold Lp;rw[oQ U U,bs,oQ U U];rfl
def Hp(t:AC)(g:d3)(i:Int):Bool:=LD t (AA g.c9 i).j4 (AA g.ci (AA g.c9 i).jj) (AA g.ci (AA g.c9 i).To)
def TL(t:AC)(g:d3)(ea eb:Fp):Bool:=!(ea.any λi=>(AA t.ci (AA g.ci i)).p0)&&!(eb.any λi=>!Hp t g i)
variable{t:AC}{g:d3}
theorem AA8(hf:A3 t)(o:Cp g)(q:C0 t g=X){ea eb:Fp}(u:∀x∈ea,0<=x/\x<g.ci.length)(he:∀x∈eb,0<=x/\x<g.c9.length):It t g ea eb=Y (TL t g ea eb):=by
 have h:=Hu o q;unfold It TL;rw[VA (p:=λi=>(AA t.ci (AA g.ci i)).p0) (λx f=>by
  have d:=u x f;have j:=h.1 _ (AF d.1 d.2);unfold Na;rw[AD d.1 d.2,bs,AD j.1 j.2];rfl),bs,VA (p:=λi=>!Hp t g i) (λx f=>by
  have d:=he x f;have j:=o.fit _ (AF d.1 d.2);unfold Ic;rw[AD d.1 d.2,bs,AD U U,bs,AD U U,bs,nW hf];rfl)]
 grind
theorem ABD(hf:A3 t)(j:Cp g)(o:C0 t g=X){ea eb:Fp}(q:∀x∈ea,0<=x/\x<g.ci.length)(he:∀x∈eb,0<=x/\x<g.c9.length):Is t g ea eb=Y (TL t g ea eb):=by
 have f:=Hu j o;unfold Is TL;rw[JO,JO,Bo (λi=>(AA t.ci (AA g.ci (AA ea i))).p0) T]
 .rw[Bo (λi=>!Hp t g (AA eb i)) T]
  .cases kq (λi=>(AA t.ci (AA g.ci (AA ea i))).p0) 0 ea.length
   .cases kq (λi=>!Hp t g (AA eb i)) 0 eb.length<;>rfl
   .rfl
  .intro i i1 i2 _;have d:=he _ (AF i1 i2);have h:=j.fit _ (AF d.1 d.2);rw[AD i1 i2,bs,AD d.1 d.2,bs,AD U U,bs,AD U U,bs,Yt hf,bs,I7];rfl
 .intro i i1 i2 _;have d:=q _ (AF i1 i2);have h:=f.1 _ (AF d.1 d.2);rw[AD i1 i2,bs,AD d.1 d.2,bs,AD h.1 h.2,bs,I7]
end Go.Sf.Sc
namespace Go.Sf.Sc
open Go Go.Sf
structure Pz(p:d6):Prop where
 ea:p.d3.ci.length<=45
 eb:p.d3.c9.length<=90
 slots:p.ei.length<=15
 tests:p.kg.length<=15
structure j8(m:d4):Prop where
 ea:m.ci.length<=140
 eb:m.c9.length<=140
inductive EK:d5->Prop where
 |mk (c:d5) (hq:Pz c.d6) (hm:j8 c.Map) (hk:∀k∈c.fl,EK k):EK c
variable{c:d5}
theorem EK.q(h:EK c):Pz c.d6:=j_
theorem EK.m(h:EK c):j8 c.Map:=j_
theorem EK.k(h:EK c):∀k∈c.fl,EK k:=j_
theorem Ed{c k:d5}(h:k∈c.fl):SizeOf.sizeOf k<SizeOf.sizeOf c:=by
 have:=List.sizeOf_lt_of_mem h;cases c
 grind
theorem Dx(c:d5):0<SizeOf.sizeOf c:=by
 cases c
 grind
def RW(c:d5):Bool:=decide (c.Map.ci.length=0/\c.Map.c9.length=0/\c.d6.d3.ci.length=0/\c.d6.d3.c9.length=0/\c.d6.ei.length=0/\c.d6.kg.length=0/\c.d6.em=0)
theorem xK(hf:EK c):Fh c=Y (RW c):=by
 have d:=hf.q;have f:=hf.m;have:=d.ea;have:=d.eb;have:=d.slots;have:=d.tests;have:=f.ea;have:=f.eb;unfold Fh RW;rw[AT (n:=(c.Map.ci.length:Int)+c.Map.c9.length) U U,AT (n:=(c.Map.ci.length:Int)+c.Map.c9.length+c.d6.d3.ci.length) U U,
  AT (n:=(c.Map.ci.length:Int)+c.Map.c9.length+c.d6.d3.ci.length+c.d6.d3.c9.length) U U,
  AT (n:=(c.Map.ci.length:Int)+c.Map.c9.length+c.d6.d3.ci.length+c.d6.d3.c9.length+c.d6.ei.length) U U,
  AT (n:=(c.Map.ci.length:Int)+c.Map.c9.length+c.d6.d3.ci.length+c.d6.d3.c9.length+c.d6.ei.length+c.d6.kg.length) U U]
 congr 1
 grind
theorem rF(hf:EK c):Ir c=Y (RW c):=by
 have d:=hf.q;have f:=hf.m;have:=d.ea;have:=d.eb;have:=d.slots;have:=d.tests;have:=f.ea;have:=f.eb;unfold Ir RW;rw[AT (n:=(c.Map.ci.length:Int)+c.Map.c9.length) U U,AT (n:=(c.Map.ci.length:Int)+c.Map.c9.length+c.d6.d3.ci.length) U U,
  AT (n:=(c.Map.ci.length:Int)+c.Map.c9.length+c.d6.d3.ci.length+c.d6.d3.c9.length) U U,
  AT (n:=(c.d6.ei.length:Int)+c.d6.kg.length) U U]
 congr 1
 grind
def UI(c:d5):Bool:=
 if c.kl=1 then decide (c.fl.length=0)&&RW c else if c.kl=2 then decide (c.fl.length=1)&&RW c else
 if c.kl=3\/c.kl=4 then decide (1<=c.fl.length)&&RW c else if c.kl=5 then decide (c.fl.length=1)else T
def Tq:Nat->d5->Bool
 |0,_=>T|n+1,c=>UI c&&c.fl.all (Tq n)
theorem xa:∀(N:Nat)(c:d5),SizeOf.sizeOf c<=N->EK c->∀n,2*N<=n->Bk n c=Y (Tq N c)
 |0,c,h,_,_,_=>by have:=Dx c;omega|N+1,c,h,hf,n,B=>by
  obtain ⟨n,rfl⟩:∃m,n=m+2:=⟨n-2,U⟩;rw[Bk,Tq,xK hf];have f:CI c.fl (Bx (n+1))=Y (!c.fl.all (Tq N)):=by
   rw [dW (p:=λk=>!Tq N k) (λk f=>by
    have:=Ed f;rw[Bx,xa N k U (hf.k k f) n U];rfl),D!,Bool.not_not]
  rw [f];unfold UI;simp only[bs,sx];generalize RW c=b;generalize c.fl.all (Tq N)=w;have y:decide ((c.fl.length:Int)=0)=decide (c.fl.length=0):=i?
  have z:decide ((c.fl.length:Int)=1)=decide (c.fl.length=1):=i?
  have A:decide (1<=(c.fl.length:Int))=decide (1<=c.fl.length):=i?
  simp only[show((c.fl.length:Int)=0)↔c.fl.length=0 by omega,show((c.fl.length:Int)=1)↔c.fl.length=1 by omega,show(1<=(c.fl.length:Int))↔1<=c.fl.length by omega];by_cases j:c.kl=1
  .rw[ac j,ac j];by_cases d:c.fl.length=0<;>cases b<;>cases w<;>simp[d]
  .rw[ae j,ae j];by_cases o:c.kl=2
   .rw[ac o,ac o];by_cases d:c.fl.length=1<;>cases b<;>cases w<;>simp[d]
   .rw[ae o,ae o];by_cases u:c.kl=3
    .simp[u,true_or];by_cases d:1<=c.fl.length<;>cases b<;>cases w<;>simp[d]
    .by_cases x:c.kl=4
     .simp[x,or_true,show¬(4:Int)=3 by decide];by_cases d:1<=c.fl.length<;>cases b<;>cases w<;>simp[d]
     .simp only[u,x,if_false,or_false];by_cases q:c.kl=5
      .rw[ac q,ac q];by_cases d:c.fl.length=1<;>cases w<;>simp[d]
      .rw[ae q,ae q];cases w<;>rfl
theorem xk(hf:EK c):N6 c=Y (UI c):=by
 unfold N6 UI;rw[rF hf];simp[sx];generalize RW c=b;simp[show((c.fl.length:Int)=0)↔c.fl.length=0 by omega,show((c.fl.length:Int)=1)↔c.fl.length=1 by omega,show(0<(c.fl.length:Int))↔1<=c.fl.length by omega]
 grind
theorem wV{α:Type}[Inhabited α]{l:List α}{p:α->Bool}:l.all p=!kq (λi=>!p (AA l i)) 0 l.length:=by
 rw [D!,JO]
theorem tC:∀(N:Nat)(c:d5),SizeOf.sizeOf c<=N->EK c->∀n,N<=n->DI n c=Y (Tq N c)
 |0,c,h,_,_,_=>by have:=Dx c;omega|N+1,c,h,hf,n,f=>by
  obtain ⟨n,rfl⟩:∃m,n=m+1:=⟨n-1,U⟩;rw[DI,Tq,xk hf,bs,wV,Bo (λi=>!Tq N (AA c.fl i)) T]
  .cases UI c
   .rfl
   .cases kq (λi=>!Tq N (AA c.fl i)) 0 c.fl.length<;>rfl
  .intro i i1 i2 _;have d:=AF (l:=c.fl) i1 i2;have:=Ed d;rw[AD i1 i2,bs,tC N _ U (hf.k _ d) n U,bs,I7]
noncomputable def jx(c:d5):Bool:=Tq (SizeOf.sizeOf c) c
theorem AA9(hf:EK c):IB c=Y (jx c):=D0 (2*SizeOf.sizeOf c) λn d=>xa _ c (az _) hf n d
theorem ABH(hf:EK c):NU c=Y (jx c):=D0 (SizeOf.sizeOf c) λn d=>tC _ c (az _) hf n d
def PN:Nat->d5->Int×Int
 |0,_=>(0,0)|n+1,c=>
  let s:=c.fl.foldl (λs k=>(AJ (s.1+(PN n k).1),max s.2 (PN n k).2)) ((1,0):Int×Int)
  (s.1,if c.kl=5 then AJ (s.2+1)else s.2)
theorem ah{α σ:Type}[Inhabited α]{l:List α}{g:σ->α->σ}{s:σ}{f:Int->σ->Option σ}(h:∀(i:Int)s,0<=i->i<l.length->f i s=Y (g s (AA l i))):l3 f 0 l.length s=Y (l.foldl g s):=by
 rw [CC (λi=>(l.take i.toNat).foldl g s) U V]
 .rw[x!,C']
 grind [CH]
theorem nj:∀(N:Nat)(c:d5),SizeOf.sizeOf c<=N->∀n,N<=n->Cj n c=Y (PN N c)
 |0,c,h,_,_=>by have:=Dx c;omega|N+1,c,h,n,d=>by
  obtain ⟨n,rfl⟩:∃m,n=m+1:=⟨n-1,U⟩;rw[Cj,PN,ah (g:=λs k=>(AJ (s.1+(PN N k).1),max s.2 (PN N k).2))]
  .grind
  .intro i s i1 i2;have:=Ed (AF (l:=c.fl) i1 i2);rw[AD i1 i2,bs,nj N _ U n U];rfl
theorem oK:∀(N:Nat)(c:d5),SizeOf.sizeOf c<=N->∀n,N<=n->Dk n c=Y (PN N c)
 |0,c,h,_,_=>by have:=Dx c;omega|N+1,c,h,n,d=>by
  obtain ⟨n,rfl⟩:∃m,n=m+1:=⟨n-1,U⟩;rw[Dk,PN,ah (g:=λs k=>(AJ (s.1+(PN N k).1),max s.2 (PN N k).2))]
  .grind
  .intro i s i1 i2;have:=Ed (AF (l:=c.fl) i1 i2);rw[AD i1 i2,bs,oK N _ U n U];rfl
noncomputable def WK(c:d5):Int×Int:=PN (SizeOf.sizeOf c) c
noncomputable def My(c:d5):Int:=if jx c=T then 1 else if 12<(WK c).1\/3<(WK c).2 then 3 else 0
theorem um(hf:EK c):GF c=Y (My c):=by
 unfold GF My;rw[AA9 hf,bs,show KG c=Y (WK c)from D0 (SizeOf.sizeOf c) λn d=>nj _ c (az _) n d,bs]
 grind
theorem vD(hf:EK c):J7 c=Y (My c):=by
 unfold J7 My;rw[ABH hf,bs,show ON c=Y (WK c)from D0 (SizeOf.sizeOf c) λn d=>oK _ c (az _) n d,bs]
 grind
theorem YP(g:d3):CE g≠9:=by grind[CE]
variable{t:AC}{p:d6}
theorem XY(d:(BD t).2=0)(h:FD t p=0\/FD t p=9):0<=p.em/\p.em<=12:=by grind[YP,FD]
def TK(t:AC)(q:d6)(v:Int):Int:=if FD t q≠9 then FD t q else if kq (λi=>!ID q i) v q.em=X then 9 else 0
variable{P:Prop}
theorem chQ{α:Type}[Decidable P]{v:α}{ζ:Option α}{δ:α}(h:P->ζ=Y δ):(if(!decide P)=X then Y v else ζ)=Y (if¬P then v else δ):=m?
theorem AA7(hf:A3 t)(f:(BD t).2=0){q:d6}{v:Int}(o:0<=v)(h:v<=q.em):Ez t q v=Y (TK t q v):=by
 unfold Ez TK;rw[Ym hf,bs];refine chQ λd=>?_;have hv:=XY f (.inr d);rw[QN (c:=λi=>(if(!ID q i)=X then Y ()else W).map λ_=>.inr 9) (a:=v) (b:=q.em) h]
 .rw[KX,Ok];cases kq (λi=>!ID q i) v q.em<;>rfl
 .intro i i1 i2 _;rw[ac (by simpa using i2),show(λj=>I3 j i)=(λy=>Y (decide (y.gp.Var=i)))from rfl,iY,bs,show(q.ei.any λy=>decide (y.gp.Var=i))=ID q i from rfl,d,AT U U];cases ID q i<;>rfl
 .rw[ae V]
theorem vB(p:d6)(v:Int):Pe p v=Y (ID p v):=tF p v
theorem ABC(hf:A3 t)(q:d6)(v:Int):J8 t v q=Y (if q.em<v then 20 else TK t q v):=by
 unfold J8 TK;refine Qx V λ_=>?_;rw[cu hf,bs];refine chQ λd=>?_;rw[d,Bo (λi=>!ID q i) 9]
 .cases kq (λi=>!ID q i) v q.em<;>rfl
 .intro i i1 i2 _;rw[vB,bs,I7]
def I5:Nat->AC->d6->d5->Int
 |0,_,_,_=>0|N+1,t,p,c=>
  if c.kl=5 then
   if c.d6.em<p.em then 20 else if TK t c.d6 p.em≠0 then TK t c.d6 p.em else
   if Im p.d3 c.d6.d3 c.Map≠0 then Im p.d3 c.d6.d3 c.Map else if Ik c.Map=T then 1 else
   (fst (λi=>nz (I5 N t c.d6 (AA c.fl i))) 0 c.fl.length).getD 0
  else (fst (λi=>nz (I5 N t p (AA c.fl i))) 0 c.fl.length).getD 0
theorem np(hf:A3 t)(o:(BD t).2=0):∀(N:Nat)(c:d5)(p:d6),0<=p.em->SizeOf.sizeOf c<=N->∀n,N<=n->CS n t p c=Y (I5 N t p c)
 |0,c,p,_,h,_,_=>by have:=Dx c;omega|N+1,c,p,A,h,n,B=>by
  obtain ⟨n,rfl⟩:∃m,n=m+1:=⟨n-1,U⟩;rw[CS,I5];have j:∀q:d6,0<=q.em->(ej (ij (ρ:=Int) (λ(w:Int)(_:Unit)=>
    (idx c.fl w).bind λf=>
    (CS n t q f).bind λd=>
    if (!decide (d=0))=X then
    Y (.ret d)
    else
    Y (.next ())) 0 (c.fl.length:Int) ()) (λ_=>
    Y 0) (λx=>Y x))=Y ((fst (λi=>nz (I5 N t q (AA c.fl i))) 0 c.fl.length).getD 0):=by
   intro q z;rw[Bh (λi=>nz (I5 N t q (AA c.fl i))),C8];intro i i1 i2 _;have:=Ed (AF (l:=c.fl) i1 i2);rw[AD i1 i2,bs,np hf o N _ q z U n U,bs,Nv]
  by_cases u:c.kl=5
  .rw[ac i_,ac u];refine Qx V λhv=>?_;rw[AA7 hf o A U,bs];refine EN λhi=>?_;rw[ce,bs];refine EN λy=>?_;rw[tB y,bs]
   grind
  grind
theorem oM(hf:A3 t):∀(N:Nat)(c:d5)(p:d6),SizeOf.sizeOf c<=N->∀n,N<=n->D8 n t p c=Y (I5 N t p c)
 |0,c,p,h,_,_=>by have:=Dx c;omega|N+1,c,p,h,n,y=>by
  obtain ⟨n,rfl⟩:∃m,n=m+1:=⟨n-1,U⟩;rw[D8,I5];have d:∀q:d6,(ej (ij (ρ:=Int) (λ(u:Int)(_:Unit)=>
    (idx c.fl u).bind λo=>
    (D8 n t q o).bind λf=>
    if (!decide (f=0))=X then
    Y (.ret f)
    else
    Y (.next ())) 0 (c.fl.length:Int) ()) (λ_=>
    Y 0) (λw=>Y w))=Y ((fst (λi=>nz (I5 N t q (AA c.fl i))) 0 c.fl.length).getD 0):=by
   intro q;rw[Bh (λi=>nz (I5 N t q (AA c.fl i))),C8];intro i i1 i2 _;have:=Ed (AF (l:=c.fl) i1 i2);rw[AD i1 i2,bs,oM hf N _ q U n U,bs,Nv]
  by_cases j:c.kl=5
  .rw[ac e?,ac j,ABC hf,bs];by_cases hv:c.d6.em<p.em
   .simp[hv]
   .simp only[ae hv];refine EN λhi=>?_;rw[ct,bs];refine EN λx=>?_;rw[ABB x,bs];exact YB λ_=>d _
  .rw[ae e?,ae j];exact d p
noncomputable def JS(t:AC)(p:d6)(c:d5):Int:=if FD t p≠0 then FD t p else if My c≠0 then My c else I5 (SizeOf.sizeOf c) t p c
theorem nY(hf:A3 t)(d:(BD t).2=0)(p:d6)(f:EK c):Dq t p c=Y (JS t p c):=by
 unfold Dq JS;rw[Ym hf,bs];refine EN λh=>?_;rw[um f,bs,w?];exact EN λ_=>D0 (SizeOf.sizeOf c) λn j=>np hf d _ c p (XY d (.inl h)).1 (az _) n j
theorem oD(hf:A3 t)(p:d6)(d:EK c):IT t p c=Y (JS t p c):=by
 unfold IT JS;rw[cu hf,bs];refine EN λh=>?_;rw[vD d,bs,w?];exact EN λ_=>D0 (SizeOf.sizeOf c) λn f=>oM hf _ c p (az _) n f
end Go.Sf.Sc
namespace Go.Sf.Sc
open Go Go.Sf
structure Ie(r:fd):Prop where
 name:(r.kp.size:Int)<=60
 left:Pz r.gl
 right:Pz r.ec
 ey:TC r.pf
 into:j8 r.o3
 cond:EK r.d5
noncomputable def DT(t:AC)(r:fd):Int:=
 if (BD t).2≠0 then(BD t).2 else if EI r.kp=T then 2 else if FD t r.gl≠0 then FD t r.gl else
 if Jk t r≠0 then Jk t r else if Qa r≠0 then Qa r else if TL t r.ec.d3 (E0 r) (K8 r)=T then 13 else JS t r.gl r.d5
variable{t:AC}{r:fd}
theorem Xe(h:Jk t r=0):Cp r.ec.d3/\C0 t r.ec.d3=X:=by grind[Jk,Di]
theorem fO(hf:A3 t)(hr:Ie r):Jl t r=Y (DT t r):=by
 have o:=hr.name;unfold Jl DT;rw[Ot hf,bs];refine EN λh=>?_;rw[SP U,bs];refine YB λ_=>?_;rw[Ym hf,bs];refine EN λ_=>?_;rw[ui hf,bs];refine EN λd=>?_;have ho:=Xe d;rw[xS hr.ey,bs];refine EN λj=>?_;rw[na ho.1,bs];dsimp only;rw[AA8 (ea:=E0 r) (eb:=K8 r) hf ho.1 ho.2 (λx f=>Ft f) (λx f=>Ft f),bs];refine YB λ_=>?_;rw[nY hf h _ hr.cond,bs]
theorem fh(hf:A3 t)(hr:Ie r):IU t r=Y (DT t r):=by
 have q:=hr.name;unfold IU DT;rw[R1 hf,bs];refine EN λo=>?_;rw[SQ U,bs];refine YB λ_=>?_;rw[cu hf,bs];refine EN λ_=>?_;rw[vC hf,bs];refine EN λd=>?_;have ho:=Xe d;rw[xy hr.ey,bs,cr,bs];simp only[cr,bs];have e:(if(!Jw r.o3.ci)=X then Y X else Y (!Jw r.o3.c9))=Y (!Ik r.o3):=by
  grind [Ik,Jw]
 rw [e,bs];have j:Qa r=if Wb r≠0 then Wb r else if Ik r.o3=T then 11 else 0:=by
  grind [Qa,Wb,ES]
 rw [j];by_cases h:Wb r=0
 .simp only[h,ne_eq,not_true_eq_false,if_false,decide_true,A?,y?];cases hi:Ik r.o3
  .simp
  .simp only[A?,y?,if_false,not_true_eq_false,Bool.true_eq_false];rw[oF ho.1,bs];dsimp only;rw[ABD (ea:=E0 r) (eb:=K8 r) hf ho.1 ho.2 (λx f=>Ft f) (λx f=>Ft f),bs];refine YB λ_=>?_;rw[oD hf _ hr.cond,bs]
 .simp[h]
def AaQ(t:AC)(l:Fp):Bool:=!(l.any λk=>t.ci.any λn=>decide (n.t2=k))
structure mF(t:AC)(r:fd):Prop where
 left:Cp r.gl.d3
 ltyped:C0 t r.gl.d3=X
 right:Cp r.ec.d3
 Abm:C0 t r.ec.d3=X
 rtests:r.ec.kg.length=0
 part:Qv r.gl.d3 r.pf
 mor:Tu (DC r.gl.d3 r.pf) r.ec.d3 r.o3
 inj:r.o3.ci.Nodup/\r.o3.c9.Nodup
variable{p:d6}
theorem Yq(h:FD t p=0):Cp p.d3/\C0 t p.d3=X:=by grind[FD,Di]
theorem jc(h:DT t r=0):(BD t).2=0/\mF t r:=by
 unfold DT at h;split at h
 .omega
 split at h
 .cases h
 split at h
 .omega
 split at h
 .omega
 split at h
 .omega
 rename_i j o q u w;have d:=Yq (t:=t) (p:=r.gl) U;have hr:=Xe (t:=t) (r:=r) U;have f:=uL (r:=r) U;have hi:Jw r.o3.ci=X/\Jw r.o3.c9=X:=by
  grind [Ik]
 refine ⟨U,d.1,d.2,hr.1,hr.2,?_,?_,WL f.2.1,Jx.1 hi.1,Jx.1 hi.2⟩
 .grind[Jk]
 grind [ES,Vj]
variable{l:Fp}
theorem iU{n:Nat}(h:∀x∈l,0<=x/\x<n)(f:l.Pairwise (·<·)):l.length<=n:=by
 have key:∀i:Int,0<=i->i<l.length->i<=AA l i:=by
  intro i d j;obtain⟨k,rfl⟩:=Int.eq_ofNat_of_zero_le d;clear d
  induction k with
  |zero=>exact(h _ (AF U U)).1|succ k o=>
   grind [IM]
 by_cases d:l.length=0
 .omega
 .have a:=key ((l.length:Int)-1) U U
  grind [AF]
end Go.Sf.Sc
namespace Go.Sf
variable{a b:Int}
theorem Wd{ρ:Type}{f:Int->Option (Bz Int ρ)}(p:Int->Bool)(v:ρ)(d:a<=b)(h:∀i,a<=i->i<b->f i=Y (if p i=X then .ret v else .next (i+1)))(hb:f b=Y (.brk b)):C7 f a=Y (if kq p a b=X then .inr v else .inl b):=by
 rw [QN (c:=λi=>(if p i=X then Y ()else W).map λ_=>.inr v) d]
 .grind[KX,Ok,kq]
 .intro i j o _;rw[h i j o];cases p i<;>rfl
 .exact hb
theorem Om{α:Type}{e:α->TV}{n:Nat}{l:List α}(h:TV.Sm (.list n (l.map e))):(l.length:Int)<=140737488351232/\∀x∈l,(e x).Sm:=by
 simp [TV.Sm]at h;refine⟨by have:=h.1;unfold reachBytes at this;omega,λx d=>L5.1 h.2 _ (D_.2 ⟨x,d,rfl⟩)⟩
end Go.Sf
namespace Go.Sf.Sc
open Go Go.Sf
def dT(a:kh):Bool:=(decide (40<(a.kp.size:Int))||decide (25<(a.qo.length:Int)))||kq (λi=>decide (40<((AA a.qo i).size:Int))) 0 a.qo.length
theorem ph{a:kh}(h:dT a=T):Ts a:=by
 unfold dT at h;simp[decide_eq_false_iff_not,B0]at h;refine⟨U,U,λx d=>?_⟩
 grind [BT]
variable{t:AC}
theorem Sn(O:(AL t).Sm):∃b,Mj t=Y b/\(b=X->A3 t):=by
 have I:TV.Sms [_,_]:=O;obtain⟨w,L⟩:=Om (e:=IJ) I.1;unfold Mj;by_cases hl:20<t.ci.length\/30<t.c9.length
 .rw[ac an]
  grind
 rw [ae an];rcases XN (f:=(λ(A:Int)(N:Int)=>
 (idx t.ci A).bind λy=>
 (if(decide (30<(AJ (N+(y.pr.length:Int)))))=X then Y X else((idx t.ci A).bind λC=>
 Y (decide (40<(C.kp.size:Int))))).bind λD=>
 if D=X then
 Y (Bz.ret T)
 else
 ej (C7 (ρ:=Bool) (λ(s2:Int)=>
 (idx t.ci A).bind λE=>
 if (decide (s2<(E.pr.length:Int)))=X then
 (idx t.ci A).bind λF=>
 (idx F.pr s2).bind λq=>
 if ((decide (40<(q.kp.size:Int)))||(decide (25<(q.qo.length:Int))))=X then
 Y (.ret T)
 else
 ej (C7 (ρ:=Bool) (λ(x:Int)=>
 if (decide (x<(q.qo.length:Int)))=X then
 (idx q.qo x).bind λG=>
 if (decide (40<(G.size:Int)))=X then
 Y (.ret T)
 else
 Y (.next (AJ (x+1)))
 else
 Y (.brk x)) 0) (λx=>
 Y (.next (AJ (s2+1)))) (λQ=>Y (.ret Q))
 else
 Y (.brk s2)) 0) (λs2=>
 Y (.next (AJ (N+(y.pr.length:Int))))) (λS=>Y (.ret S))))
  (λi s=>0<=s/\s<=30/\∀j,0<=j->j<i->((AA t.ci j).kp.size:Int)<=40/\(AA t.ci j).pr.length<=30/\∀a∈(AA t.ci j).pr,Ts a) (λ_=>False) (λr=>r=T) (a:=0) (b:=t.ci.length) (s:=0) U ⟨U,U,λj z d=>U⟩ (λi s i1 i2 θ=>by
   have ε:=L _ (AF (l:=t.ci) i1 i2);have J:TV.Sms [_,_,_,_]:=ε;obtain⟨ha,M⟩:=Om (e:=JU) J.2.2.2.1;obtain⟨hI1,hI2,hI3⟩:=θ;have κ:AJ (s+(AA t.ci i).pr.length)=s+(AA t.ci i).pr.length:=AT U U;simp only[AD i1 i2,bs,κ,Vg];by_cases η:30<s+(AA t.ci i).pr.length\/40<((AA t.ci i).kp.size:Int)
   .grind
   rw [ae (by simpa using η)];rw[Wd (λj=>dT (AA (AA t.ci i).pr j)) T (b:=(AA t.ci i).pr.length) U]
   .cases hb:kq (λj=>dT (AA (AA t.ci i).pr j)) 0 (AA t.ci i).pr.length
    .refine .inl ⟨_,rfl,U,U,λj H B=>?_⟩
     grind [BT,ph,B0]
    .exact .inr (.inr ⟨_,rfl,rfl⟩)
   .intro j H B;rw[ac (by simpa using B),AD H B,bs];have Z:=M _ (AF (l:=(AA t.ci i).pr) H B);have K:TV.Sms [_,_,_,_]:=Z;obtain⟨hm,_⟩:=Om (e:=eS) K.2.2.2.1;unfold dT;cases z:(decide (40<((AA (AA t.ci i).pr j).kp.size:Int))||decide (25<((AA (AA t.ci i).pr j).qo.length:Int)))
    .rw[ae a!,Wd (λk=>decide (40<((AA (AA (AA t.ci i).pr j).qo k).size:Int))) T (b:=(AA (AA t.ci i).pr j).qo.length) U]
     .cases kq (λk=>decide (40<((AA (AA (AA t.ci i).pr j).qo k).size:Int))) 0 (AA (AA t.ci i).pr j).qo.length
      .rw[Bool.or_false,AT (show -9223372036854775808<=j+1 by omega) U];rfl
      .rfl
     .intro k u o;rw[ac g!,AD u o,bs,AT (show -9223372036854775808<=k+1 by omega) U,I7]
     .rw[ae V]
    .rfl
   .rw[ae V])with⟨s',z,d⟩|⟨r,z,d⟩
 .rw[z];rcases d with d|d
  .rw[B3,Bo (λi=>decide (40<((AA t.c9 i).kp.size:Int))) T]
   .cases hb:kq (λi=>decide (40<((AA t.c9 i).kp.size:Int))) 0 t.c9.length
    .refine⟨X,rfl,λ_=>⟨U,U,λn w=>?_,λn w=>?_,λn w=>?_,λe he=>?_⟩⟩
     .obtain⟨k,u,o,rfl⟩:=BT w;exact(d.2.2 k u o).1
     .obtain⟨k,u,o,rfl⟩:=BT w;exact(d.2.2 k u o).2.1
     .obtain⟨k,u,o,rfl⟩:=BT w;exact(d.2.2 k u o).2.2
     .obtain⟨k,u,o,rfl⟩:=BT he;have:=B0.1 hb k u o;simpa using this
    .exact⟨T,rfl,λh=>d_⟩
   .intro i i1 i2 _;rw[AD i1 i2,bs,I7]
  .exact d.elim
 .rw[z];subst d;exact⟨T,rfl,λh=>d_⟩
theorem TZ(p:d6):∃b,Kt p=Y b/\(b=X->Pz p):=by
 refine ⟨_,rfl,λh=>?_⟩;simp[sx]at h;exact⟨U,U,U,U⟩
variable{a b:Int}
theorem iu(ha:0<=a)(d:a<=140737488351232)(hb:0<=b)(f:b<=140737488351232):AJ (a+b)=a+b:=AT U U
variable{m:d4}
theorem ZM(f:(A8 m).Sm):∃b,Jg m 140=Y b/\(b=X->j8 m):=by
 have d:TV.Sms [_,_]:=f;have j:=(Om (e:=eI) d.1).1;have o:=(Om (e:=eI) d.2.1).1;refine⟨_,rfl,λh=>?_⟩;rw[iu U j U o]at h;simp[sx]at h;exact⟨U,U⟩
theorem p5{m:BR}(f:(Hg m).Sm):∃b,S3 m 140=Y b/\(b=X->TC m):=by
 have d:TV.Sms [_,_]:=f;have j:=(Om (e:=eI) d.1).1;have o:=(Om (e:=eI) d.2.1).1;refine⟨_,rfl,λh=>?_⟩;rw[iu U j U o]at h;simp[sx]at h;exact⟨U,U⟩
variable{c:d5}
theorem ib(h:(AI c).Sm):(A8 c.Map).Sm/\(c.fl.length:Int)<=140737488351232/\∀k∈c.fl,(AI k).Sm:=by
 have f:TV.Sms [_,_,_,_,_,_,_,_,_]:=h;obtain⟨_,d,j,o,_⟩:=f;rw[Sh]at d;obtain⟨q,u⟩:=Om d;exact⟨⟨j,o,trivial⟩,q,u⟩
theorem dl:∀(N:Nat)(c:d5),SizeOf.sizeOf c<=N->(AI c).Sm->∀r0:Int,0<=r0->r0<=1000->∃r,(∀n,N<=n->DA n c r0=Y r)/\-1<=r/\r<=r0-1/\(0<=r->EK c)
 |0,c,h,_,_,_,_=>by have:=Dx c;omega|N+1,c,h,hs,r0,m0,m1=>by
  obtain ⟨L,M,B⟩:=ib hs;obtain⟨O,E,Q⟩:=TZ c.d6;obtain⟨S,H,θ⟩:=ZM L;have step:∀n,N+1<=n->∃m,n=m+1/\N<=m:=λn d=>⟨n-1,U,U⟩;cases O
  .refine⟨-1,λn d=>?_,U,U,λh=>U⟩;obtain⟨n,rfl,_⟩:=step n d;rw[DA,E];rfl
  cases S
  .refine⟨-1,λn d=>?_,U,U,λh=>U⟩;obtain⟨n,rfl,_⟩:=step n d;rw[DA,E,bs,H];rfl
  have loop:∀(m:Nat)(k left:Int),0<=k->k+m=c.fl.length->-1<=left->left<=1000->∃f u,(∀n,N<=n->MP (ρ:=Int) (λ(q:Int×Int)=>
    if ((decide (q.2<(c.fl.length:Int)))&&(decide (0<=q.1)))=X then
    (idx c.fl q.2).bind λx=>
    (DA n x q.1).bind λy=>
    Y (.next (y,AJ (q.2+1)))
    else
    Y (.brk (q.1,q.2))) (left,k) (.inl (f,u)))/\-1<=f/\f<=left/\(0<=f->∀j,k<=j->j<c.fl.length->EK (AA c.fl j)):=by
   intro m
   induction m with
   |zero=>
    intro k left C I D l1;refine⟨left,k,λn d=>.brk ?_,D,U,λ_ j z w=>U⟩;rw[ae an]
   |succ m Z=>
    intro k left C I D l1;by_cases J:0<=left
    .have o:=AF (l:=c.fl) C U;have:=Ed o;obtain⟨r,ε,κ,r3,η⟩:=dl N _ U (B _ o) left J l1;obtain⟨f,u,a1,a2,a3,F⟩:=Z (k+1) r U U κ U;refine⟨f,u,λn d=>.next (s':=(r,k+1)) ?_ (a1 n d),a2,U,λA j z w=>?_⟩
     .rw[ac an,AD C U,bs,ε n d,bs,AT U U]
     .by_cases K:j=k
      .subst K;exact η U
      .exact F A j U w
    .refine⟨left,k,λn d=>.brk ?_,D,U,λh=>U⟩;rw[ae an]
  obtain ⟨f,u,a1,a2,a3,F⟩:=loop c.fl.length 0 (r0-1) U U U U;refine⟨f,λn d=>?_,a2,a3,λA=>.mk c (Q rfl) (θ rfl) (λk B=>?_)⟩
  .obtain⟨n,rfl,G⟩:=step n d;rw[DA,E,bs,H];simp only[bs,A?,y?,if_false];rw[AT (n:=r0-1) U U,(a1 n G).eq,B3]
  .obtain⟨j,z,w,rfl⟩:=BT B;exact F A j z w
theorem pz(d:(AI c).Sm):∃b,Ku c=Y b/\(b=X->EK c):=by
 obtain ⟨r,f,_,_,j⟩:=dl (SizeOf.sizeOf c) c (az _) d 40 U U;have e:Rj c 40=Y r:=D0 (SizeOf.sizeOf c) f;unfold Ku;rw[e];exact⟨_,rfl,λh=>j b?⟩
theorem MT{b:Bool}{o:K1}{c:Bool}(h:o=Y c):(if b=X then o.bind λx=>Y x else Y T)=Y (b&&c):=by
 subst h;cases b<;>rfl
variable{r:fd}
theorem p6(d:(CB r).Sm):∃b,Q6 r=Y b/\(b=X->Ie r):=by
 have f:TV.Sms [_,_,_,_,_,_,_,_,_,_,_,_,_,_,_,_,_,_,_,_,_,_,_,_,_]:=d;obtain⟨_,_,_,_,_,_,_,_,_,_,_,j,o,i1,i2,_,q,u,w,x,c5,y,z,c8,A,_⟩:=f;obtain⟨L,B,C⟩:=TZ r.gl;obtain⟨M,D,E⟩:=TZ r.ec;obtain⟨N,F,G⟩:=p5 (m:=r.pf) ⟨j,o,trivial⟩;obtain⟨O,H,I⟩:=ZM (m:=r.o3) ⟨i1,i2,trivial⟩;obtain⟨Q,J,K⟩:=pz (c:=r.d5) ⟨q,u,w,x,c5,y,z,c8,A,trivial⟩;unfold Q6;rw[MT B,bs,MT D,bs,MT F,bs,MT H,bs,MT J,bs];refine⟨_,rfl,λh=>?_⟩;simp[sx]at h;exact⟨h.1.1.1.1.1,C h.1.1.1.1.2,E h.1.1.1.2,G h.1.1.2,I h.1.2,K h.2⟩
end Go.Sf.Sc
