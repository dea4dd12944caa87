/- Plain lemmas: what the functions of the program and of the reference compute. -/
import Derived.Test.YthcncnllajfkfaaGreatSfRead
import Derived.Test.YthcncnllajfkfaaGreatFns
import Derived.Test.YthcncnllajfkfaaGreatSfPl
set_option linter.all false
set_option maxRecDepth 100000
open Option renaming some->Y,none->W
open Bool renaming true->X,false->T
open Option renaming getD->w_,isSome->w!,bind_assoc->w?,bind_fun_some->x_
open Int renaming le_refl->x!,toNat_natCast->x?
open Bool renaming true_and->y_,eq_iff_iff->y!,false_and->y?,false_eq_true->z_,or_eq_true->z!,not_eq_true'->z?,not_eq_false'->A_,or_eq_false_iff->A',and_eq_false_iff->A!,eq_false_iff->A?,not_true->B_,not_eq_true->B',or_assoc->B!
open List renaming any_eq_false->B?,getElem?_eq_getElem->C_,getD_eq_getElem?_getD->C',take_length->C!,any_eq_true->C?,ext_getElem->D_,mem_map->D',pairwise_iff_getElem->D!,all_eq_not_any_not->D?
namespace Go.Sf
theorem aD{ρ τ:Type}{d:Int->Option ρ}{g:ρ->τ}:∀(n:Nat)(a:Int),E9 (λi=>(d i).map g) n a=(E9 d n a).map g
 |0,_=>rfl|n+1,a=>by
  rw [E9,E9];cases d a with
  |some r=>rfl|none=>exact aD n (a+1)
variable{a b:Int}
theorem KK{ρ τ:Type}{d:Int->Option ρ}{g:ρ->τ}:fst (λi=>(d i).map g) a b=(fst d a b).map g:=aD _ _
theorem YA{ρ:Type}{d:Int->Option ρ}{r:ρ}:∀{n:Nat}{a:Int},E9 d n a=Y r->∃i,a<=i/\i<a+n/\d i=Y r/\∀j,a<=j->j<i->d j=W
 |0,_,h=>d_
 |n+1,a,h=>by
  rw [E9]at h;cases hd:d a with
  |some w=>
   grind
  |none=>
   rw [hd]at h;obtain⟨i,f,o,q,u⟩:=YA h
   grind
theorem CZ{ρ:Type}{d:Int->Option ρ}{r:ρ}(h:fst d a b=Y r):∃i,a<=i/\i<b/\d i=Y r/\∀j,a<=j->j<i->d j=W:=by
 obtain ⟨i,f,o,q,u⟩:=YA h
 grind
def Nj(p:Int->Bool)(s:ByteArray):Int:=(fst (λi=>if p (bt s i)then W else Y i) 0 s.size).getD s.size
theorem Vq(p:Int->Bool)(s:ByteArray):0<=Nj p s/\Nj p s<=s.size/\(∀j,0<=j->j<Nj p s->p (bt s j)=X)/\(Nj p s<s.size->p (bt s (Nj p s))=T):=by
 unfold Nj;cases h:fst (λi=>if p (bt s i)then W else Y i) 0 s.size with
 |none=>
  rw [A5]at h
  grind
 |some r=>
  grind [CZ,bt,w_]
variable{s:ByteArray}
theorem fz(h:s≠⟨#[]⟩):0<s.size:=by
 rcases Nat.eq_zero_or_pos s.size with f|f
 .exfalso;apply h;cases s with|mk d=>congr 1;exact Array.eq_empty_of_size_eq_zero f
 .exact f
end Go.Sf
namespace Go.Sf.Sc
open Go Go.Sf
def Gg(c:Int):Bool:=((decide (97<=c))&&(decide (c<=122)))||((decide (65<=c))&&(decide (c<=90)))
def Aaj(c:Int):Bool:=(decide (48<=c))&&(decide (c<=57))
def Sw(c:Int):Bool:=Gg c||Aaj c||decide (c=95)
theorem fB(c:Int):Mw c=Y (Gg c):=rfl
theorem ZU(c:Int):Lw c=Y (Aaj c):=rfl
theorem fR(c:Int):MZ c=Y (Gg c):=rfl
theorem jP(c:Int):Jo c=Y (Aaj c):=rfl
theorem xV(c:Int):Pk c=Y (Sw c):=by
 unfold Pk Sw;rw[fB,bs,ZU]
 grind
variable{s:ByteArray}
theorem lC(d:(s.size:Int)<=4611686018427387904){ok:Int->K1}{p:Int->Bool}(h:∀c,ok c=Y (p c)):IJ s ok=Y (Nj p s):=by
 unfold IJ;rw[Ot (c:=λi=>(if p (bt s i)then W else Y i).map .inl) (a:=0) (b:=s.size) U]
 .rw[KK];unfold Nj;cases fst (λi=>if p (bt s i)=X then W else Y i) 0 s.size<;>rfl
 .grind[Rw,bt,Di,AT]
 .simp
def D7(s:ByteArray):Bool:=decide (0<s.size)&&Gg (bt s 0)&&decide (s.size<=20)&&decide (Nj Sw s=s.size)
theorem ZS(l:List ByteArray)(v:ByteArray):∃k,slices_Index_string l v=Y k/\(0<=k↔v∈l):=by
 unfold slices_Index_string;rw[BW (λi=>if(v==AA l i)=X then Y i else W)]
 .cases h:fst (λi=>if(v==AA l i)=X then Y i else W) 0 l.length with
  |none=>
   rw [A5]at h;refine⟨-1,rfl,U,λo=>?_⟩
   grind [BG]
  |some k=>
   obtain ⟨i,d,f,q,_⟩:=CZ h;have j:(v==AA l i)=X/\i=k:=by
    grind
   obtain ⟨j,rfl⟩:=j;refine⟨i,rfl,λ_=>?_,λ_=>d⟩
   grind [AF]
 .intro i d f _;simp only[AD d f,bs];split<;>rfl
theorem RG(l:List ByteArray)(v:ByteArray):slices_Contains_string l v=Y (l.contains v):=by
 unfold slices_Contains_string;obtain⟨k,d,f⟩:=ZS l v
 grind
theorem xT(z:0<s.size)(w:(s.size:Int)<=4611686018427387904):∃k n e,LP s=Y (k,n,e)/\(((decide (e=0))&&(decide (k=1)))&&(decide (n=(s.size:Int))))=D7 s:=by
 have hr:=Vq Sw s;unfold LP D7;simp only[Rw (x! 0) (show(0:Int)<s.size by omega),bs,fB,ZU,lC w xV,lC w ZU,z,decide_true,y_];by_cases d:Gg (bt s 0)=X
 .rw[ac d];by_cases f:20<Nj Sw s
  .refine⟨0,0,3,u?,?_⟩;simp[d];intro D h;omega
  .refine⟨1,_,0,by rw[ae d!],?_⟩;simp only[d,decide_true,y_];rw[y!];simp only[tn,pq];omega
 .rw[ae d];have j:Gg (bt s 0)=T:=c?
  rw [j,y?,y?];by_cases hd:Aaj (bt s 0)=X
  .rw[ac hd];by_cases x:9<Nj Aaj s
   .exact⟨0,0,3,by simp[x],V⟩
   .exact⟨2,_,0,by rw[ae (by simpa using x)],V⟩
  .rw[ae hd];by_cases y:bt s 0=34
   .have A:=cJ (s:=s) (a:=1) (b:=s.size) U U U;have o:∀c,NW c=Y (((decide (32<=c))&&(decide (c<=126)))&&(!decide (c=34))):=λ_=>rfl;have B:=Vq (λc=>((decide (32<=c))&&(decide (c<=126)))&&(!decide (c=34))) (s.extract (1:Int).toNat (s.size:Int).toNat);have q:∃n e,Ij s=Y (n,e):=by
     unfold Ij;rw[Jc U U U,bs,lC U o,bs];rw[AT U U];by_cases he:1+Nj (λc=>((decide (32<=c))&&(decide (c<=126)))&&(!decide (c=34))) (s.extract (1:Int).toNat (s.size:Int).toNat)=s.size
     .refine⟨0,2,?_⟩;simp only[he,decide_true,if_true,bs]
     .simp only[he,decide_false,z_,if_false];rw[Rw U U];simp only[bs];split
      .exact⟨_,_,rfl⟩
      .split
       .exact⟨_,_,rfl⟩
       .exact⟨_,_,rfl⟩
    obtain ⟨n,e,u⟩:=q;refine⟨3,n,e,by rw[ac (by simpa using y),u];rfl,V⟩
   .rw[ae (by simpa using y)];have C:∃b,Pj s=Y b:=by
     unfold Pj;by_cases h:2<=(s.size:Int)
     .rw[ac b?,Jc U U h];simp only[bs,RG];exact⟨_,rfl⟩
     .rw[ae b?];exact⟨_,rfl⟩
    obtain ⟨b,hb⟩:=C;rw[hb,bs];cases b
    .simp only[z_,if_false,strings_IndexByte,bs];split
     .exact⟨_,_,_,rfl,rfl⟩
     .exact⟨_,_,_,rfl,rfl⟩
    .exact⟨_,_,_,rfl,rfl⟩
theorem SL(d:(s.size:Int)<=4611686018427387904):EP s=Y (D7 s):=by
 unfold EP Lx;simp only[show decide ((1:Int)=3)=T from rfl,z_,if_false,bs];by_cases he:s=⟨#[]⟩
 .subst he;rfl
 grind [xT,fz]
theorem xu(o:(s.size:Int)<=4611686018427387904)(d:Bool):∃n,Mb s 0 d=Y n/\0<=n/\n<=s.size/\(d=T->n=Nj Sw s):=by
 have hr:=Vq (λc=>Aaj c||(!d&&(Gg c||decide (c=95)))) s;refine⟨Nj (λc=>Aaj c||(!d&&(Gg c||decide (c=95)))) s,?_,hr.1,hr.2.1,λhd=>?_⟩
 .unfold Mb;rw[Ot (c:=λi=>(if(Aaj (bt s i)||(!d&&(Gg (bt s i)||decide (bt s i=95))))then W else Y i).map .inl) (a:=0) (b:=s.size) U]
  .rw[KK];unfold Nj;cases fst (λi=>if(Aaj (bt s i)||(!d&&(Gg (bt s i)||decide (bt s i=95))))=X then W else Y i) 0 s.size<;>rfl
  .intro i j f _;have h:AJ (0+i)=i:=d?
   simp only[h,f,decide_true,if_true,Rw j f,bs,jP,fR]
   grind [Aaj,bt,Gg,Di,AT]
  .have h:AJ (0+(s.size:Int))=s.size:=d?
   grind
 .subst hd;congr 1
  grind [Sw,Gg,Aaj]
theorem qy(q:0<s.size)(u:(s.size:Int)<=4611686018427387904):∃n,IZ s 0=Y n/\(n=0\/(2<=n/\n<=s.size)):=by
 unfold IZ;rw[Ot (c:=λi=>if decide (bt s i=34)=X then Y (Sum.inr (i+1):Int ⊕ Int)else if(decide (bt s i<32)||decide (126<bt s i))=X then Y (Sum.inr 0)else W) (a:=1) (b:=s.size) U]
 .cases h:fst (λi=>if decide (bt s i=34)=X then Y (Sum.inr (i+1):Int ⊕ Int)else if(decide (bt s i<32)||decide (126<bt s i))=X then Y (Sum.inr 0)else W) 1 s.size with
  |none=>exact⟨0,rfl,.inl rfl⟩|some r=>
   obtain ⟨i,o,f,d,_⟩:=CZ h;split at d
   .cases d;exact⟨_,rfl,.inr U⟩
   .split at d
    .cases d;exact⟨_,rfl,.inl rfl⟩
    .cases d
 .intro i o f _;have j:AJ (0+i)=i:=d?
  simp only[j,f,decide_true,if_true,Rw (show 0<=i by omega) f,bs,AT (show -9223372036854775808<=i+1 by omega) U];split
  .rfl
  .split<;>rfl
 .have j:AJ (0+(s.size:Int))=s.size:=d?
  grind
theorem ABC(O:0<s.size)(Q:(s.size:Int)<=4611686018427387904):∃t n e,Ma s 0=Y (t,n,e)/\(((decide (e=0))&&(decide (n=(s.size:Int))))&&(decide (t.kq=1)))=D7 s:=by
 obtain ⟨m,M,u,w,N⟩:=xu Q (Aaj (bt s 0));unfold Ma D7;simp only[Rw (x! 0) (show(0:Int)<s.size by omega),bs,fR,jP,O,decide_true,y_,M];have S:AJ (0+m)=m:=d?
 by_cases F:Gg (bt s 0)=X
 .have hd:Aaj (bt s 0)=T:=by
   unfold Gg at F;unfold Aaj
   grind
  have η:=N hd;subst η;simp only[F,if_true,hd,z_,if_false,bs,S];by_cases q:20<Nj Sw s
  .refine⟨_,_,_,by rw[ac v1],?_⟩
   grind
  .rw[ae v1,Jc (x! _) u w];refine⟨_,_,_,rfl,?_⟩
   grind
 .have G:Gg (bt s 0)=T:=by simpa using F
  simp only[G,z_,if_false,bs,y?,S];by_cases hd:Aaj (bt s 0)=X
  .simp only[hd,if_true,bs];by_cases θ:9<m
   .exact⟨_,_,_,by rw[ac (by simpa using θ)],V⟩
   .rw[ae (by simpa using θ),Jc (x! _) u w];exact⟨_,_,_,rfl,V⟩
  .have H:Aaj (bt s 0)=T:=by simpa using hd
   simp only[H,z_,if_false,bs];by_cases ε:bt s 0=34
   .obtain⟨n,hn,y⟩:=qy O Q;rw[ac t!,hn,bs];rcases y with rfl|y
    .grind
    .rw[ae an];split
     .grind
     .have Z:AJ (0+1)=1:=a!
      have e2:AJ (0+n)=n:=d?
      rw [Z,e2,AT (show -9223372036854775808<=n-1 by omega) U,Jc U U U];exact⟨_,_,_,rfl,V⟩
   .rw[ae t!];unfold Qb;rw[bs];generalize hL:([(⟨#[45,62]⟩:ByteArray),(⟨#[60,61]⟩:ByteArray),(⟨#[62,61]⟩:ByteArray),(⟨#[61,61]⟩:ByteArray),(⟨#[33,61]⟩:ByteArray),(⟨#[123]⟩:ByteArray),(⟨#[125]⟩:ByteArray),(⟨#[40]⟩:ByteArray),(⟨#[41]⟩:ByteArray),(⟨#[91]⟩:ByteArray),(⟨#[93]⟩:ByteArray),(⟨#[44]⟩:ByteArray),(⟨#[59]⟩:ByteArray),(⟨#[58]⟩:ByteArray),(⟨#[61]⟩:ByteArray),(⟨#[43]⟩:ByteArray),(⟨#[45]⟩:ByteArray),(⟨#[42]⟩:ByteArray),(⟨#[60]⟩:ByteArray),(⟨#[62]⟩:ByteArray),(⟨#[33]⟩:ByteArray),(⟨#[38]⟩:ByteArray),(⟨#[124]⟩:ByteArray),(⟨#[46]⟩:ByteArray),(⟨#[63]⟩:ByteArray)]:List ByteArray)=L;have I:∀x∈L,x.size<=2:=by subst hL;decide
    rcases XF (f:=(λ(h:Int)(κ:Gq)=>
      (idx L h).bind λA=>
      (if(decide ((AJ (0+(A.size:Int)))<=(s.size:Int)))=X then((idx L h).bind λB=>
      (Aam s 0 (AJ (0+(B.size:Int)))).bind λC=>
      (idx L h).bind λD=>
      Y (C==D))else Y T).bind λE=>
      if E=X then
      (idx L h).bind λj=>
      (idx L h).bind λo=>
      Y (Bo.ret (Gq.mk 4 j 0,(o.size:Int),(0:Int)))
      else
      Y (Bo.next κ))) (λ_ s=>True) (λ_=>True) (λr=>r.1.kq=4) (a:=0) (b:=L.length) (s:=Gq.mk 0 (⟨#[]⟩:ByteArray) 0) U trivial (λi t d z _=>by
      have hx:=I _ (AF d z);have J:AJ (0+((AA L i).size:Int))=(AA L i).size:=d?
      simp only[AD d z,bs,J];by_cases K:((AA L i).size:Int)<=s.size
      .rw[ac (by simpa using K),Jc U U K];simp only[bs];split
       .exact .inr (.inr ⟨_,rfl,rfl⟩)
       .exact .inl ⟨_,rfl,trivial⟩
      .rw[ae (by simpa using K)];simp only[bs];exact .inl ⟨_,rfl,trivial⟩)with⟨s',d,_⟩|⟨r,d,z⟩
    .rw[d];exact⟨_,_,_,rfl,V⟩
    .rw[d];exact⟨_,_,_,rfl,by simp[z]⟩
theorem SM(d:(s.size:Int)<=4611686018427387904):EL s=Y (D7 s):=by
 unfold EL Ln Rd;simp only[show decide ((1:Int)=3)=T from rfl,z_,if_false,bs];by_cases he:s=⟨#[]⟩
 .subst he;rfl
 grind [ABC,fz]
end Go.Sf.Sc
namespace Go.Sf
variable{ρ β:Type}
def nz(e:Int):a5:=if e=0 then W else Y e
theorem Nq(e:Int):(if(!decide (e=0))=X then Y (Bo.ret e)else Y (Bo.next ()))=Y (TA (nz e)):=by grind[nz,TA]
theorem wU(b:Bool)(r:ρ):(if b=X then Y (Bo.ret r)else Y (Bo.next ()))=Y (TA (if b=X then Y r else W)):=by
 cases b<;>rfl
variable{kr:ρ->Option β}
theorem Bq{σ:Type}{s:σ}{k:σ->Option β}:em (Y (.inl s)) k kr=k s:=rfl
theorem S5{σ:Type}{r:ρ}{k:σ->Option β}:em (Y (.inr r)) k kr=kr r:=rfl
theorem DN(o:Option ρ)(k:Unit->Option β)(kr:ρ->Option β):em (Y (sV o)) k kr=match o with|none=>k ()|some r=>kr r:=by
 cases o<;>rfl
theorem Cw(o:a5):em (Y (sV o)) (λ_=>Y 0) (λv=>Y v)=Y (o.getD 0):=by
 cases o<;>rfl
variable{a b:Int}
theorem VO{c:Int->Int}(h:(fst (λi=>nz (c i)) a b).getD 0=0):∀i,a<=i->i<b->c i=0:=by
 have:fst (λi=>nz (c i)) a b=W:=by
  cases hf:fst (λi=>nz (c i)) a b with
  |none=>rfl|some r=>
   grind [w_,CZ,nz]
 grind [A5,nz]
variable{e:Int}
theorem IK:nz e=W↔e=0:=by grind[nz]
theorem XH{α:Type}[Inhabited α]{l:List α}{f:α->K1}{p:α->Bool}(h:∀x∈l,f x=Y (p x)):
  (em (jj (ρ:=Int) (λ(o:Int)(_:Unit)=>(idx l o).bind λd=>(f d).bind λj=>if j=X then Y (.ret o)else Y (.next ())) 0 (l.length:Int) ()) (λ_=>Y (-1)) (λw=>Y w))=
   Y ((fst (λi=>if p (AA l i)=X then Y i else W) 0 l.length).getD (-1)):=by
 rw [BW (λi=>if p (AA l i)=X then Y i else W)]
 .rw[DN];cases fst (λi=>if p (AA l i)=X then Y i else W) 0 l.length<;>rfl
 .intro i q u _;rw[AD q u,bs,h _ (AF q u),bs,wU]
theorem aM{α:Type}[Inhabited α]{l:List α}{p:α->Bool}:decide (0<=(fst (λi=>if p (AA l i)=X then Y i else W) 0 l.length).getD (-1))=l.any p:=by
 rw [JB,l3];cases h:fst (λi=>if p (AA l i)=X then Y i else W) 0 l.length with
 |none=>
  grind [A5,w!,Option.isSome_eq_false_iff,Option.isNone_iff_eq_none,AA]
 |some k=>
  grind [CZ,AA,w_,w!,Option.isSome_iff_ne_none,A5]
theorem Ey{α:Type}[Inhabited α]{l:List α}{f:α->K1}{p:α->Bool}(h:∀x∈l,f x=Y (p x)):
  ((em (jj (ρ:=Int) (λ(o:Int)(_:Unit)=>(idx l o).bind λd=>(f d).bind λj=>if j=X then Y (.ret o)else Y (.next ())) 0 (l.length:Int) ()) (λ_=>Y (-1)) (λq=>Y q)).bind λu=>Y (decide (0<=u)))=Y (l.any p):=by
 rw [XH h,bs,aM]
end Go.Sf
namespace Go.Sf.Sc
open Go Go.Sf
instance:Inhabited kp:=⟨⟨⟨#[]⟩,0,0,[]⟩⟩
instance:Inhabited BO:=⟨⟨⟨#[]⟩,0,T,[]⟩⟩
instance:Inhabited Cf:=⟨⟨⟨#[]⟩,0,0,0,0,0,0⟩⟩
instance:Inhabited Bk:=⟨⟨0,0,0⟩⟩
instance:Inhabited By:=⟨⟨0,0,⟨0,0⟩⟩⟩
instance:Inhabited Test:=⟨⟨0,⟨0,0⟩,⟨0,0⟩⟩⟩
instance:Inhabited d7:=⟨⟨0,[],⟨[],[]⟩,⟨⟨[],[]⟩,[],0,[]⟩⟩⟩
variable{l:Fp}
theorem U5{f:Int->K1}{p:Int->Bool}(h:∀x∈l,f x=Y (p x)):A3 l f=Y (l.any p):=Ey h
theorem iN{l:List Bk}{f:Bk->K1}{p:Bk->Bool}(h:∀x∈l,f x=Y (p x)):Be l f=Y (l.any p):=Ey h
theorem dO{l:List d7}{f:d7->K1}{p:d7->Bool}(h:∀x∈l,f x=Y (p x)):B6 l f=Y (l.any p):=Ey h
theorem gX{l:List BO}{p:BO->Bool}:CS l (λx=>Y (p x))=Y (l.any p):=Ey (λ_ _=>rfl)
theorem gW{l:List Cf}{p:Cf->Bool}:CR l (λx=>Y (p x))=Y (l.any p):=Ey (λ_ _=>rfl)
theorem tY{l:List kp}{p:kp->Bool}:Cs l (λx=>Y (p x))=Y (l.any p):=Ey (λ_ _=>rfl)
theorem dP{p:Int->Bool}:A3 l (λx=>Y (p x))=Y (l.any p):=Ey (λ_ _=>rfl)
theorem iO{l:List Bk}{p:Bk->Bool}:Be l (λx=>Y (p x))=Y (l.any p):=Ey (λ_ _=>rfl)
theorem iP{l:List By}{p:By->Bool}:Ca l (λx=>Y (p x))=Y (l.any p):=Ey (λ_ _=>rfl)
theorem wu(l:Fp)(v:Int):slices_Index_int l v=Y ((fst (λi=>if decide (v=AA l i)=X then Y i else W) 0 l.length).getD (-1)):=by
 have:=XH (l:=l) (f:=λx=>Y (decide (v=x))) (p:=λx=>decide (v=x)) (λ_ _=>rfl);unfold slices_Index_int
 grind
theorem MO(l:Fp)(v:Int):slices_Contains_int l v=Y (l.any λx=>decide (v=x)):=by grind[slices_Contains_int,wu,aM]
theorem td(l:a6)(v:Bool):F9 l v=Y (l.any λx=>v==x):=by
 have:=Ey (l:=l) (f:=λx=>Y (v==x)) (p:=λx=>v==x) (λ_ _=>rfl);unfold F9 J9
 grind
structure Tr(a:kp):Prop where
 name:(a.ln.size:Int)<=40
 names:a.sr.length<=25
 each:∀x∈a.sr,(x.size:Int)<=40
structure Ar(t:AC):Prop where
 ec:t.d3.length<=20
 eh:t.d4.length<=30
 name:∀n∈t.d3,(n.ln.size:Int)<=40
 Abm:∀n∈t.d3,n.r0.length<=30
 each:∀n∈t.d3,∀a∈n.r0,Tr a
 AbX:∀e∈t.d4,(e.ln.size:Int)<=40
def par(t:AC)(i:Int):Int:=(AA t.d3 i).wm
def Em(t:AC)(k:Int):Prop:=∀i,0<=i->i<k->-1<=par t i/\par t i<i
def Bp(t:AC):Nat->Int->List kp
 |0,_=>[]|n+1,a=>if a<0 then[]else Bp t n (par t a)++(AA t.d3 a).r0
def As(t:AC)(a:Int):List kp:=Bp t (a+1).toNat a
variable{t:AC}{a:Int}
theorem Ks{n:Nat}(h:a<0):Bp t n a=[]:=by
 cases n with
 |zero=>rfl|succ n=>rw[Bp,ac h]
variable{k:Int}
theorem Oc(d:Em t k):∀(n m:Nat)(a:Int),a<k->a<n->a<m->Bp t n a=Bp t m a
 |n,m,a,h,j,o=>by
  by_cases f:a<0
  .grind[Ks]
  .cases n with
   |zero=>omega|succ n=>
    cases m with
    |zero=>omega|succ m=>
     rw [Bp,Bp,ae f,ae f];have:=d a U h;rw[Oc d n m (par t a) U U U]
theorem O0(hf:Ar t)(f:k<=t.d3.length)(d:Em t k):∀(n:Nat)(a:Int),a<k->((Bp t n a).length:Int)<=30*n
 |0,_,_=>by simp[Bp]|n+1,a,ha=>by
  rw [Bp];split
  .simp;omega
  .rename_i h;have j:=d a U ha;have o:=O0 hf f d n (par t a) U;have q:=hf.Abm _ (AF (l:=t.d3) (show 0<=a by omega) U)
   grind
theorem Xw(hf:Ar t)(h:k<=t.d3.length)(f:Em t k):∀(n:Nat)(a:Int),a<k->∀x∈Bp t n a,Tr x
 |0,_,_=>by simp[Bp]|n+1,a,ha=>by
  rw [Bp];split
  .simp
  .rename_i j;have o:=f a U ha;intro x d;rcases List.mem_append.1 d with d|d
   .exact Xw hf h f n (par t a) U x d
   .exact hf.each _ (AF (l:=t.d3) (show 0<=a by omega) U) x d
theorem Hs(hf:Ar t)(d:k<=t.d3.length)(f:Em t k)(ha:a<k):(As t a).length<=600:=by
 have:=O0 hf d f (a+1).toNat a ha;have:=hf.ec;unfold As;omega
theorem O1(hf:Ar t)(d:k<=t.d3.length)(f:Em t k)(ha:a<k):∀x∈As t a,Tr x:=Xw hf d f _ a ha
theorem eZ(hf:Ar t)(j:k<=t.d3.length)(h:Em t k):∀(n:Nat)(a:Int),0<=a->a<k->a<n->Da n t a=Y (Bp t n a)
 |0,_,_,_,_=>by omega|n+1,a,q,ha,B=>by
  have y:=h a U ha;have u:=O0 hf j h n (par t a) U;have z:=hf.Abm _ (AF (l:=t.d3) q U);have A:=hf.ec;rw[Da,Bp,ae U,AD q U];simp only[bs];show((if decide (0<=par t a)=X then(Da n t (par t a)).bind λf=>Y f else Y []).bind _)=_;have e:(if decide (0<=par t a)=X then(Da n t (par t a)).bind λf=>Y f else Y [])=Y (Bp t n (par t a)):=by
   by_cases o:0<=par t a
   .rw[ac g_,eZ hf j h n (par t a) o U U];rfl
   .rw[ae g_,Ks U]
  have hb:(Bp t n (par t a)).length+(AA t.d3 a).r0.length<=AX:=by
   unfold AX;have:((Bp t n (par t a)).length:Int)<=30*n:=u;have w:Bp t n (par t a)=Bp t 20 (par t a):=by
    by_cases d:par t a<0
    .rw[Ks d,Ks d]
    .exact Oc h n 20 (par t a) U U U
   have x:=O0 hf j h 20 (par t a) U;rw[<-w]at x;omega
  rw [e,bs,AS hb];rfl
theorem jC(hf:Ar t)(d:k<=t.d3.length)(f:Em t k)(h:0<=a)(ha:a<k):OA t a=Y (As t a):=
 Dn (a+1).toNat λn j=>by
  grind [eZ,As,Oc]
theorem fM(hf:Ar t)(h:k<=t.d3.length)(f:Em t k):∀(n:Nat)(a:Int),-1<=a->a<k->a+1<n->EM n t a=Y (Bp t n a)
 |0,_,_,_,_=>by omega|n+1,a,x,ha,y=>by
  rw [EM,Bp];by_cases d:a<0
  .grind
  .have q:=f a U ha;have u:=hf.Abm _ (AF (l:=t.d3) (show 0<=a by omega) U);have w:=hf.ec;rw[ae c?,ae d,AD U U];simp only[bs];have j:Bp t n (par t a)=Bp t 20 (par t a):=by
    by_cases d:par t a<0
    .rw[Ks d,Ks d]
    .exact Oc f n 20 (par t a) U U U
   have o:=O0 hf h f 20 (par t a) U;rw[<-j]at o;have hb:(Bp t n (par t a)).length+(AA t.d3 a).r0.length<=AX:=b_
   rw [show(AA t.d3 a).wm=par t a from rfl,fM hf h f n (par t a) U U U,bs,AS a_];simp only[bs,List.nil_append];rw[AS hb];rfl
theorem jO(hf:Ar t)(d:k<=t.d3.length)(f:Em t k)(h:0<=a)(ha:a<k):Nu t a=Y (As t a):=
 Dn (a+2).toNat λn j=>by
  grind [fM,As,Oc]
end Go.Sf.Sc
namespace Go.Sf.Sc
open Go Go.Sf
def MV(l:List ByteArray):Int:=
 if (20:Int)<l.length then 3 else(fst (λi=>if D7 (AA l i)=T then Y 2 else if l3 (λj=>AA l j==AA l i) 0 i=X then Y 5 else W) 0 l.length).getD 0
variable{b:Int}
theorem dV{l:List ByteArray}{x:ByteArray}(d:0<=b)(f:b<=l.length):(l.take b.toNat).contains x=l3 (λj=>AA l j==x) 0 b:=by
 rw [List.contains_eq_any_beq,R4 d f]
 grind
theorem uZ{l:List ByteArray}(o:∀x∈l,(x.size:Int)<=40):J1 l=Y (MV l):=by
 unfold J1 MV;by_cases d:(20:Int)<l.length
 .grind
 .rw[ae c?,ae d];rw[BW (λi=>if D7 (AA l i)=T then Y 2 else if l3 (λj=>AA l j==AA l i) 0 i=X then Y 5 else W),Cw];intro i f h _;have q:=o _ (AF f h);rw[AD f h,bs,SL U,bs,Ii f U];simp only[bs,RG,dV f (show i<=l.length by omega)];cases D7 (AA l i)<;>cases l3 (λj=>AA l j==AA l i) 0 i<;>rfl
theorem uw{l:List ByteArray}(o:∀x∈l,(x.size:Int)<=40):Jp l=Y (MV l):=by
 unfold Jp MV;by_cases d:(20:Int)<l.length
 .grind
 .rw[ae c?,ae d];rw[BW (λi=>if D7 (AA l i)=T then Y 2 else if l3 (λj=>AA l j==AA l i) 0 i=X then Y 5 else W),Cw];intro i f h _;have q:=o _ (AF f h);rw[AD f h,bs,SM U,bs,BS (λj=>AA l j==AA l i) 5]
  .cases D7 (AA l i)<;>cases l3 (λj=>AA l j==AA l i) 0 i<;>rfl
  grind [AD]
def M1(all:List kp)(k:Int):Int:=
 let x:=AA all k
 if D7 x.ln=T then 2 else if l3 (λj=>(AA all j).ln==x.ln) 0 k=X then 5 else
 if x.sr.length=0 then(if -1000000<=x.Low/\x.Low<=x.Aaf/\x.Aaf<=1000000 then 0 else 6)else
 if MV x.sr≠0 then MV x.sr else if x.Low=0/\x.Aaf=x.sr.length-1 then 0 else 6
variable{k:Int}
theorem gq{d:List kp}(q:∀x∈d,Tr x)(o:0<=k)(u:k<d.length):GB (AA d k) (d.take k.toNat)=Y (M1 d k):=by
 have j:=q _ (AF o u);have A:=j.name;unfold GB M1;dsimp only;rw[SL U,bs,show(λf=>KB f (AA d k))=(λf=>Y (f.ln==(AA d k).ln))from rfl,tY,bs,R4 o U,uZ j.each,bs];have w:=j.names;have y:AJ ((AA d k).sr.length-1)=(AA d k).sr.length-1:=AT U U;rw[y];have z:(AA d k).sr.length=0->MV (AA d k).sr=0:=λh=>by rw[List.eq_nil_of_length_eq_zero h];rfl
 generalize MV (AA d k).sr=e at z|-;simp only[bs,tn,z!,pq,z?,decide_eq_false_iff_not,A_,A',A!,ne_eq]
 repeat' (first|rfl|(exfalso;omega;done)|split)
 all_goals (first|rfl|(exfalso;omega)|omega|simp_all|(simp_all;omega))
theorem gv{x:kp}(d:Tr x):F5 x=Y (
 if x.sr.length=0 then(if -1000000<=x.Low/\x.Low<=x.Aaf/\x.Aaf<=1000000 then 0 else 6)else
 if MV x.sr≠0 then MV x.sr else if x.Low=0/\x.Aaf=x.sr.length-1 then 0 else 6):=by
 have f:=d.names;have h:AJ (x.sr.length-1)=x.sr.length-1:=AT U U;unfold F5 D1;simp only[bs,h,uw d.each];generalize MV x.sr=e;simp only[bs,tn,z!,pq,z?,decide_eq_false_iff_not,A_,A',A!,ne_eq]
 repeat' (first|rfl|(exfalso;omega;done)|split)
 all_goals (first|rfl|(exfalso;omega)|omega|simp_all|(simp_all;omega))
def Ir(t:AC)(i:Int):Int:=
 let n:=AA t.d3 i
 if D7 n.ln=T then 2 else if l3 (λj=>(AA t.d3 j).ln==n.ln) 0 i=X then 5 else
 if n.wm< -1\/i<=n.wm then 6 else if 4<n.r0.length\/8<(As t i).length then 3 else
 (fst (λk=>nz (M1 (As t i) k)) ((As t i).length-n.r0.length) (As t i).length).getD 0
variable{t:AC}{i:Int}
theorem Xx(d:0<=i):(AA t.d3 i).r0.length<=(As t i).length:=by
 unfold As;rw[show(i+1).toNat=i.toNat+1 by omega,Bp,ae U,b6];omega
theorem Em.next(h:Em t i)(f:-1<=par t i)(o:par t i<i):Em t (i+1):=by
 intro j d q;by_cases u:j=i
 .grind
 .exact h j d U
theorem xU(hf:Ar t)(f:0<=i)(u:i<t.d3.length)(z:Em t i):LS t i=Y (Ir t i):=by
 have B:=hf.name _ (AF f u);unfold LS Ir;dsimp only;rw[AD f u,bs,SL U,bs,Ii f U,bs,show(λo=>Pm o (AA t.d3 i))=(λo=>Y (o.ln==(AA t.d3 i).ln))from rfl,gX,bs,R4 f U];cases D7 (AA t.d3 i).ln
 .rfl
 .cases l3 (λj=>(AA t.d3 j).ln==(AA t.d3 i).ln) 0 i
  .by_cases hr:(AA t.d3 i).wm< -1\/i<=(AA t.d3 i).wm
   .rcases hr with hr|hr<;>simp[hr]
   .have d:Em t (i+1):=z.next (by unfold par;omega) (by unfold par;omega)
    have q:(decide ((AA t.d3 i).wm< -1)||decide (i<=(AA t.d3 i).wm))=T:=by
     rw [A?];simpa using hr
    rw [jC hf (k:=i+1) U d f U,bs];have x:=Hs hf (k:=i+1) (a:=i) U d U;have y:=Xx (t:=t) f;have h:=O1 hf (k:=i+1) (a:=i) U d U;rw[AT U U,BW (λk=>nz (M1 (As t i) k)),Cw]
    .simp only[q,hr,B_,z_,if_false];simp only[bs,tn,z!,pq,z?,decide_eq_false_iff_not,A_,A',A!,ne_eq]
     repeat' (first|rfl|(exfalso;omega;done)|split)
     all_goals (first|rfl|(exfalso;omega)|omega|simp_all|(simp_all;omega))
    .intro k A w _;rw[AD U w,bs,Ii U U,bs,gq h U w,bs,Nq]
  .rfl
theorem xr(hf:Ar t)(h:0<=i)(q:i<t.d3.length)(z:Em t i):K9 t i=Y (Ir t i):=by
 have D:=hf.name _ (AF h q);have E:=hf.ec;unfold K9 Ir D1;dsimp only;rw[AD h q,bs,SM U,bs,BS (λj=>(AA t.d3 j).ln==(AA t.d3 i).ln) 5]
 .cases D7 (AA t.d3 i).ln
  .rfl
  .cases l3 (λj=>(AA t.d3 j).ln==(AA t.d3 i).ln) 0 i
   .simp only[B_,z_,if_false,Bq,bs];rw[AT U U];by_cases hr:(AA t.d3 i).wm< -1\/i<=(AA t.d3 i).wm
    .rw[ac,ae a!,ac hr];simp;omega
    .have d:Em t (i+1):=z.next (by unfold par;omega) (by unfold par;omega)
     rw [ae an,ae a!,ae hr];rw[jO hf (k:=i+1) U d h U,bs];have w:=Hs hf (k:=i+1) (a:=i) U d U;have x:=Xx (t:=t) h;have f:=O1 hf (k:=i+1) (a:=i) U d U;rw[AT U U];rw[BW (λk=>nz (M1 (As t i) k)),Cw]
     .simp only[bs,tn,z!,pq,z?,decide_eq_false_iff_not,A_,A',A!,ne_eq]
      repeat' (first|rfl|(exfalso;omega;done)|split)
      all_goals (first|rfl|(exfalso;omega)|omega|simp_all|(simp_all;omega))
     .intro k u o _;have y:=f _ (AF (show 0<=k by omega) o);have B:=y.name;simp only[AD (show 0<=k by omega) o,bs];rw[SM U,bs,BS (λj=>(AA (As t i) j).ln==(AA (As t i) k).ln) 5]
      .rw[gv y];simp only[bs,Nq];unfold M1;dsimp only;cases D7 (AA (As t i) k).ln
       .rfl
       .cases l3 (λj=>(AA (As t i) j).ln==(AA (As t i) k).ln) 0 k<;>rfl
      .intro j A C _;rw[AD A U,bs];split<;>rfl
   .rfl
 .intro j u o _;rw[AD u U,bs];split<;>rfl
def MN(low high:Int):Bool:=((decide (0<=low))&&(decide (low<=40)))&&((decide (high=(-1)))||((decide (low<=high))&&(decide (high<=40))))
theorem um(low high:Int):Lq low high=Y (MN low high):=by
 unfold Lq MN D1
 grind
def Ky(t:AC)(i:Int):Int:=
 let x:=AA t.d4 i
 if D7 x.ln=T then 2 else if l3 (λj=>(AA t.d4 j).ln==x.ln) 0 i=X then 5 else
 if (0<=x.ke/\x.ke<t.d3.length)/\(0<=x.To/\x.To<t.d3.length)/\MN x.AaU x.AaD=X/\MN x.Abj x.AaV=X then 0 else 6
theorem xM(hf:Ar t)(d:0<=i)(h:i<t.d4.length):LQ t i=Y (Ky t i):=by
 have o:=hf.AbX _ (AF d h);unfold LQ Ky Mx;dsimp only;rw[AD d h,bs,SL U,bs,Ii d U,bs,show(λf=>Pl f (AA t.d4 i))=(λf=>Y (f.ln==(AA t.d4 i).ln))from rfl,gW,bs,R4 d U];simp[show∀a b,Lg a b=Y (MN a b)from λ_ _=>rfl];generalize D7 (AA t.d4 i).ln=b1;generalize l3 (λj=>(AA t.d4 j).ln==(AA t.d4 i).ln) 0 i=b2;generalize MN (AA t.d4 i).AaU (AA t.d4 i).AaD=b3;generalize MN (AA t.d4 i).Abj (AA t.d4 i).AaV=b4;cases b1
 .rfl
 grind
theorem xf(hf:Ar t)(h:0<=i)(o:i<t.d4.length):K8 t i=Y (Ky t i):=by
 have q:=hf.AbX _ (AF h o);have u:=hf.ec;unfold K8 Ky D1;dsimp only;rw[AD h o,bs,SM U,bs,BS (λj=>(AA t.d4 j).ln==(AA t.d4 i).ln) 5]
 .simp only[AT (show -9223372036854775808<=(t.d3.length:Int)-1 by omega) U,um,bs];generalize D7 (AA t.d4 i).ln=b1;generalize l3 (λj=>(AA t.d4 j).ln==(AA t.d4 i).ln) 0 i=b2;generalize MN (AA t.d4 i).AaU (AA t.d4 i).AaD=b3;generalize MN (AA t.d4 i).Abj (AA t.d4 i).AaV=b4;cases b1
  .rfl
  .cases b2
   .cases b3<;>cases b4
    all_goals
     by_cases ha:0<=(AA t.d4 i).ke/\(AA t.d4 i).ke<t.d3.length
     .have d:(AA t.d4 i).ke<=(t.d3.length:Int)-1:=U
      by_cases hb:0<=(AA t.d4 i).To/\(AA t.d4 i).To<t.d3.length
      .have f:(AA t.d4 i).To<=(t.d3.length:Int)-1:=U
       simp [ha,hb,d,f,Bq]
      .have:(decide (0<=(AA t.d4 i).To)&&decide ((AA t.d4 i).To<=(t.d3.length:Int)-1))=T:=e!
       simp [ha,hb,d,this,Bq]
     .have:(decide (0<=(AA t.d4 i).ke)&&decide ((AA t.d4 i).ke<=(t.d3.length:Int)-1))=T:=e!
      simp [ha,this,Bq]
   .rfl
 grind [AD]
def A0(t:AC):ByteArray×Int:=
 if t.d3.length=0 then(⟨#[]⟩,7)else if 12<t.d3.length\/20<t.d4.length then(⟨#[]⟩,3)else
 match fst (λi=>(nz (Ir t i)).map λe=>((AA t.d3 i).ln,e)) 0 t.d3.length with
 |some r=>r|none=>(fst (λi=>(nz (Ky t i)).map λe=>((AA t.d4 i).ln,e)) 0 t.d4.length).getD (⟨#[]⟩,0)
theorem nL(h:Ir t i=0):-1<=par t i/\par t i<i:=by grind[Ir,par,AA]
theorem P8{α β:Type}{o:Option α}{g:α->β}:o.map g=W↔o=W:=by cases o<;>simp
theorem XP(h:∀j,0<=j->j<i->Ir t j=0):Em t i:=λj d f=>nL (h j d f)
theorem WH{ρ:Type}(e:Int)(n:ByteArray):(if(!decide (e=0))=X then Y (Bo.ret (n,e))else Y (Bo.next ()))=Y (TA ((nz e).map λe=>(n,e))):=by grind[nz,TA]
theorem Ol(hf:Ar t):Dx t=Y (A0 t):=by
 unfold Dx A0;rw[BW (λi=>(nz (Ir t i)).map λe=>((AA t.d3 i).ln,e)),DN]
 .rw[BW (λi=>(nz (Ky t i)).map λe=>((AA t.d4 i).ln,e)),DN]
  .cases fst (λi=>(nz (Ir t i)).map λe=>((AA t.d3 i).ln,e)) 0 t.d3.length<;>cases fst (λi=>(nz (Ky t i)).map λe=>((AA t.d4 i).ln,e)) 0 t.d4.length
   all_goals dsimp only
   all_goals try simp only[w_]
   all_goals
    simp only[bs,tn,z!,pq,z?,decide_eq_false_iff_not,A_,A',A!,ne_eq]
    repeat' (first|rfl|(exfalso;omega;done)|split)
    all_goals (first|rfl|(exfalso;omega)|omega|simp_all|(simp_all;omega))
  .intro i d f _;rw[AD d f,bs,xM hf d f,bs];exact WH (ρ:=Unit) _ _
 .intro i d f q;have u:Em t i:=XP λj h o=>IK.1 (P8.1 (q j h o));rw[AD d f,bs,xU hf d f u,bs];exact WH (ρ:=Unit) _ _
theorem Rv(hf:Ar t):ER t=Y (A0 t):=by
 unfold ER A0;rw[BW (λi=>(nz (Ir t i)).map λe=>((AA t.d3 i).ln,e)),DN]
 .rw[BW (λi=>(nz (Ky t i)).map λe=>((AA t.d4 i).ln,e)),DN]
  .cases fst (λi=>(nz (Ir t i)).map λe=>((AA t.d3 i).ln,e)) 0 t.d3.length<;>cases fst (λi=>(nz (Ky t i)).map λe=>((AA t.d4 i).ln,e)) 0 t.d4.length
   all_goals dsimp only
   all_goals try simp only[w_]
   all_goals
    simp only[bs,tn,z!,pq,z?,decide_eq_false_iff_not,A_,A',A!,ne_eq]
    repeat' (first|rfl|(exfalso;omega;done)|split)
    all_goals (first|rfl|(exfalso;omega)|omega|simp_all|(simp_all;omega))
  .intro i d f _;simp only[xf hf d f,AD d f,bs];exact WH (ρ:=Unit) _ _
 .intro i d f q;have u:Em t i:=XP λj h o=>IK.1 (P8.1 (q j h o));simp only[xr hf d f u,AD d f,bs];exact WH (ρ:=Unit) _ _
end Go.Sf.Sc
namespace Go.Sf.Sc
open Go Go.Sf
theorem Iv{α:Type}{c:Bool}{a b:α}:(if c=X then Y a else Y b)=Y (if c=X then a else b):=by cases c<;>rfl
def OF(n:Int):Bool:=(decide (0<=n))&&(decide (n<=99))
def T6(e:Bk)(n:Int):Bool:=OF e.kg&&(decide (0<=e.ke)&&decide (e.ke<n))&&(decide (0<=e.To)&&decide (e.To<n))
def B2(g:d5):Int:=
 if 40<g.d3.length\/80<g.d4.length then 3 else if(g.d3.any λn=>!OF n)=X then 6 else if(g.d4.any λe=>!T6 e g.d3.length)=X then 6 else 0
structure Cc(g:d5):Prop where
 ec:g.d3.length<=40
 eh:g.d4.length<=80
 kind:∀n∈g.d3,0<=n/\n<=99
 fit:∀e∈g.d4,(0<=e.kg/\e.kg<=99)/\(0<=e.ke/\e.ke<g.d3.length)/\(0<=e.To/\e.To<g.d3.length)
variable{g:d5}
theorem DV(h:B2 g=0):Cc g:=by
 unfold B2 at h;split at h
 .cases h
 .split at h
  .cases h
  .split at h
   .cases h
   .rename_i o f d;refine⟨U,U,λn j=>?_,λe he=>?_⟩
    .rw[B',B?]at f
     grind [OF]
    .rw[B',B?]at d;have:=d e he;simp[T6,OF,z?,tn]at this;omega
theorem xP{e:Bk}{n:Nat}(h:n<=40):O9 e n=Y (T6 e n):=by
 unfold O9 IV T6 OF;simp only[bs,AT (show -9223372036854775808<=(n:Int)-1 by omega) U];have d:decide (e.ke<=(n:Int)-1)=decide (e.ke<n):=i?
 have f:decide (e.To<=(n:Int)-1)=decide (e.To<n):=i?
 rw [d,f];generalize (decide (0<=e.kg)&&decide (e.kg<=99))=b1;generalize (decide (0<=e.ke)&&decide (e.ke<n))=b2;cases b1<;>cases b2<;>simp
theorem Ok(g:d5):DC g=Y (B2 g):=by
 unfold DC B2;by_cases h:40<g.d3.length\/80<g.d4.length
 .grind
 .rw[ae an,ae h,show OD=(λn=>Y (!OF n))from rfl,dP,iN (p:=λe=>!T6 e g.d3.length) (λe _=>by
   grind [OE,xP])]
  grind
theorem NE(g:d5):Dv g=Y (B2 g):=by
 unfold Dv B2;by_cases h:40<g.d3.length\/80<g.d4.length
 .grind
 .rw[ae an,ae h,JB,JB,BS (λi=>!OF (AA g.d3 i)) 6]
  .rw[BS (λi=>!T6 (AA g.d4 i) g.d3.length) 6]
   .cases l3 (λi=>!OF (AA g.d3 i)) 0 g.d3.length
    .cases l3 (λi=>!T6 (AA g.d4 i) g.d3.length) 0 g.d4.length<;>rfl
    .rfl
   .intro i d f _;rw[AD d f,bs];unfold Qc T6;simp[show∀n,NF n=Y (OF n)from λ_=>rfl]
    grind
  grind [AD,NF,AA,OF]
def Cm(t:AC)(g:d5):Bool:=!(g.d3.any λn=>decide (t.d3.length<=n))&&!(g.d4.any λe=>decide (t.d4.length<=e.kg))
variable{t:AC}
theorem He(d:Cc g)(h:Cm t g=X):(∀n∈g.d3,0<=n/\n<t.d3.length)/\∀e∈g.d4,0<=e.kg/\e.kg<t.d4.length:=by
 unfold Cm at h;simp[z?,tn]at h;refine⟨λn f=>?_,λe he=>?_⟩
 .have:=h.1 n f;have:=d.kind n f;omega
 .have:=h.2 e he;have:=d.fit e he;omega
theorem ui(t:AC)(g:d5):LG t g=Y (Cm t g):=by grind[LG,Cm,Pe,dP,Pf,Bk,iO]
theorem Zc(h:Cc g):IC t g=Y (Cm t g):=by
 unfold IC Cm;rw[JB,JB,BS (λi=>decide (t.d3.length<=AA g.d3 i)) T]
 .rw[BS (λi=>decide (t.d4.length<=(AA g.d4 i).kg)) T]
  .cases l3 (λi=>decide (t.d3.length<=AA g.d3 i)) 0 g.d3.length
   .cases l3 (λi=>decide (t.d4.length<=(AA g.d4 i).kg)) 0 g.d4.length<;>rfl
   .rfl
  .intro i d f _;have:=(h.fit _ (AF d f)).1.1;simp[AD d f]
   grind
 .intro i d f _;have:=(h.kind _ (AF d f)).1;simp[AD d f]
  grind
structure FO(t:AC):Prop where
 ec:t.d3.length<=12
 eh:t.d4.length<=20
 node:∀i:Int,0<=i->i<t.d3.length->Ir t i=0
 edge:∀i:Int,0<=i->i<t.d4.length->Ky t i=0
theorem Cd(h:(A0 t).2=0):FO t:=by
 unfold A0 at h;split at h
 .cases h
 .split at h
  .cases h
  .rename_i q u;have d:∀i:Int,0<=i->i<t.d3.length->Ir t i=0:=by
    grind [CZ,nz,IK,P8,A5]
   have he:∀i:Int,0<=i->i<t.d4.length->Ky t i=0:=by
    split at h
    next r hr=>obtain⟨i,j,o,f,_⟩:=CZ hr;rw[d i j o]at f;cases f
    .cases hr:fst (λi=>(nz (Ky t i)).map λe=>((AA t.d4 i).ln,e)) 0 t.d4.length with
     |some r=>
      grind [CZ,nz]
     |none=>
      grind [IK,P8,A5]
   exact ⟨U,U,d,he⟩
theorem FO.par(h:FO t):Em t t.d3.length:=XP h.node
variable{i:Int}
theorem FO.ends(h:FO t)(d:0<=i)(f:i<t.d4.length):(0<=(AA t.d4 i).ke/\(AA t.d4 i).ke<t.d3.length)/\(0<=(AA t.d4 i).To/\(AA t.d4 i).To<t.d3.length):=by
 have:=h.edge i d f
 grind [Ky]
def L5(t:AC)(a:Int):Bool:=decide (0<=a)&&decide (a<t.d3.length)
variable{a:Int}
theorem NA:L5 t a=X↔0<=a/\a<t.d3.length:=by unfold L5;simp
theorem ZV(hf:Ar t)(l:Fp):G4 t l=Y (if(A0 t).2≠0 then(A0 t).2 else if(l.all (L5 t))=X then 0 else 6):=by
 unfold G4;rw[Ol hf,bs,U5 (p:=λa=>!L5 t a) (λa _=>by unfold OR L5;rw[show decide (a<0)=!decide (0<=a)from by rw[<-decide_not,decide_eq_decide];omega,show decide ((t.d3.length:Int)<=a)=!decide (a<t.d3.length)from by rw[<-decide_not,decide_eq_decide];omega,Bool.not_and]),bs]
 grind
theorem jQ(hf:Ar t)(a b:Int):H9 t a b=Y (if(A0 t).2≠0 then(A0 t).2 else if(L5 t a&&L5 t b)=X then 0 else 6):=by
 have d:=hf.ec;have e:∀a,decide (a<=(t.d3.length:Int)-1)=decide (a<(t.d3.length:Int)):=λa=>i?
 unfold H9 D1;rw[Rv hf,bs]
 grind [AT,A0,L5]
theorem oY{α:Type}[Inhabited α]{l:List α}(d:0<=i)(f:i<l.length):A2 l i (AA l i)=l:=by grind[A2,AA,C_,List.set_getElem_self]
theorem B5{α:Type}[Inhabited α]{l:List α}(d:0<=i)(f:i<l.length):l.take (i+1).toNat=l.take i.toNat++[AA l i]:=by
 unfold AA;rw[show(i+1).toNat=i.toNat+1 by omega,List.take_add_one,C',C_ U];rfl
theorem BR{α:Type}{l:List α}(h:l.length<=AX):AY [] l=Y l:=by grind[AS]
def FQ(t:AC)(a:Int):List kp×Int:=if(A0 t).2≠0 then([],(A0 t).2)else if L5 t a=X then(As t a,0)else([],6)
theorem Tf(hf:Ar t)(a:Int):E5 t a=Y (FQ t a):=by
 unfold E5 FQ;rw[ZV hf,bs];by_cases h:(A0 t).2=0
 .have j:=Cd h;have e:[a].all (L5 t)=L5 t a:=V
  rw [e];simp[h];cases hi:L5 t a
  .rfl
  .rw[ac rfl,ac rfl];have hr:=NA.1 hi;have C:=Hs hf (x! _) j.par hr.2;have A:=O1 hf (x! _) j.par hr.2;rw[ae a!,jC hf (x! _) j.par hr.1 hr.2,bs];obtain⟨s',B,rfl⟩:=P4 (f:=(λ(o:Int)(q:List kp)=>
 (idx q o).bind λu=>
 (slices_Clone_string u.sr).bind λw=>
 (idx q o).bind λd=>
 Y (A2 q o (kp.mk d.ln d.Low d.Aaf w)))) (λ_ s=>s=As t a) (a:=0) (b:=(As t a).length) (s:=As t a) U rfl (λi s x y z=>by
     subst z;have:=(A _ (AF x y)).names;refine⟨As t a,?_,rfl⟩;unfold slices_Clone_string;rw[AD x y,bs,BR b_,bs,bs];congr 1;exact oY x y)
   rw [B];rfl
 .simp[h,not_false_eq_true,decide_false]
theorem Om(hf:Ar t)(a:Int):Df t a=Y (FQ t a):=by
 unfold Df FQ;rw[jQ hf,bs];by_cases h:(A0 t).2=0
 .have d:=Cd h;rw[Bool.and_self];simp only[h,ne_eq,not_true_eq_false,if_false];cases hi:L5 t a
  .rfl
  .rw[ac rfl,ac rfl];have hr:=NA.1 hi;have q:=Hs hf (x! _) d.par hr.2;have o:=O1 hf (x! _) d.par hr.2;rw[ae a!,jO hf (x! _) d.par hr.1 hr.2,bs];rw[B0 (λi=>(As t a).take i.toNat) U V]
   .rw[bs,x?,C!]
   .intro i f j;have:=(o _ (AF f j)).names;rw[AD f j,bs,BR b_,bs,AS (by rw[bk];simp;unfold AX;omega),B5 f j];rfl
 grind
theorem D6(h:Cc g):B2 g=0:=by
 have:=h.ec;have:=h.eh;unfold B2;rw[ae U,ae,ae]
 .intro k;obtain⟨e,he,k⟩:=C?.1 k;have:=h.fit e he;simp[T6,OF]at k;omega
 .intro k;obtain⟨n,d,k⟩:=C?.1 k;have:=h.kind n d;simp[OF]at k;omega
end Go.Sf.Sc
namespace Go.Sf.Sc
open Go Go.Sf
def KY(t:AC):Nat->Int->Fp
 |0,_=>[]|n+1,a=>if a<0 then[]else a::KY t n (par t a)
variable{t:AC}{k:Int}
theorem o7(f:Em t k):∀(n m:Nat)(a:Int),a<k->a<n->a<m->KY t n a=KY t m a
 |n,m,a,h,j,o=>by
  by_cases d:a<0
  .cases n<;>cases m<;>simp[KY,d]
  .cases n with
   |zero=>omega|succ n=>
    cases m with
    |zero=>omega|succ m=>
     rw [KY,KY,ae d,ae d];have:=f a U h;rw[o7 f n m (par t a) U U U]
theorem jo(t:AC):∀(n:Nat)(a:Int),(KY t n a).length<=n
 |0,_=>by simp[KY]|n+1,a=>by
  rw [KY];split
  .simp
  .have:=jo t n (par t a);simp;omega
def Gp(t:AC)(a b:Int):Bool:=(KY t (a+1).toNat a).any λx=>decide (b=x)
theorem iu(f:t.d3.length<=12)(q:Em t t.d3.length):∀(n:Nat)(a:Int)(l:Fp),a<t.d3.length->a<n->l.length+n<=1000 ->
  ∃x,MI (ρ:=Fp) (λ(d:Int×Fp)=>
 if (decide (0<=d.1))=X then
 (AY d.2 [d.1]).bind λh=>
 (idx t.d3 d.1).bind λj=>
 Y (.next (j.wm,h))
 else
 Y (.brk (d.1,d.2))) (a,l) (.inl (x,l++KY t n a))
 |0,a,l,o,u,_=>by
  refine ⟨a,.brk ?_⟩
  grind [KY]
 |n+1,a,l,o,u,A=>by
  by_cases w:a<0
  .refine⟨a,.brk ?_⟩
   grind [KY]
  .have y:=q a U o;obtain⟨x,z⟩:=iu f q n (par t a) (l++[a]) U U an;refine⟨x,.next (s':=(par t a,l++[a])) ?_ ?_⟩
   .rw[ac an,AS a_,bs,AD U o];rfl
   grind [KY,par]
variable{a b:Int}
theorem qV(h:FO t)(ha:0<=a)(d:a<t.d3.length):LR t a b=Y (Gp t a b):=by
 have f:=h.ec;obtain⟨x,j⟩:=iu f h.par (a+1).toNat a [] d U an;have o:=jo t (a+1).toNat a;unfold LR NX;rw[j.eq,Bq]
 grind [slices_Reverse_int,AX,MO,Gp]
theorem XT(d:Em t t.d3.length)(hb:0<=b):∀(n m:Nat)(a:Int),-1<=a->a<t.d3.length->a+1<n->a<m->Dp n t a b=Y ((KY t m a).any λx=>decide (b=x))
 |0,_,_,_,_,_,_=>by omega|n+1,m,a,j,f,o,q=>by
  rw [Dp];by_cases ha:a<0
  .rw[ae an,ae an];cases m<;>simp[KY,ha]
  .cases m with
   |zero=>omega|succ m=>
    have h:=d a U f;rw[KY,ae ha,List.any_cons,ac (show decide (0<=a)=X by simp;omega),AD U f];simp;rw[show(AA t.d3 a).wm=par t a from rfl,XT d hb n m (par t a) U U U U]
    grind
theorem WS(h:FO t)(ha:0<=a)(d:a<t.d3.length)(hb:0<=b):E2 t a b=Y (Gp t a b):=
 Dn (a+2).toNat λn f=>XT h.par hb n (a+1).toNat a U d U U
def K0(t:AC)(e f g:Int):Bool:=
 decide ((A0 t).2=0)&&(L5 t f&&L5 t g)&&(decide (0<=e)&&decide (e<t.d4.length))&&(Gp t f (AA t.d4 e).ke&&Gp t g (AA t.d4 e).To)
theorem nR(hf:Ar t)(e f g:Int):Jh t e f g=Y (K0 t e f g):=by
 unfold Jh K0;rw[ZV hf,bs,show[f,g].all (L5 t)=(L5 t f&&L5 t g)by simp];by_cases h:(A0 t).2=0
 .simp only[h,ne_eq,not_true_eq_false,if_false];have d:=Cd h;cases hi:(L5 t f&&L5 t g)
  .rfl
  .rw[pq,NA,NA]at hi;by_cases he:0<=e/\e<t.d4.length
   .rw[ae an,AD he.1 he.2];simp[qV d hi.1.1 hi.1.2,qV d hi.2.1 hi.2.2,he.1,he.2,decide_true]
    grind
   grind
 .simp[h]
theorem Yi(hf:Ar t)(e f g:Int):Gx t e f g=Y (K0 t e f g):=by
 have u:=hf.eh;unfold Gx K0 D1;rw[jQ hf,bs];by_cases h:(A0 t).2=0
 .simp only[h,ne_eq,not_true_eq_false,if_false];have d:=Cd h;cases hi:(L5 t f&&L5 t g)
  .rfl
  .rw[pq,NA,NA]at hi;rw[AT U U];simp only[bs];by_cases he:0<=e/\e<t.d4.length
   .have j:=d.ends he.1 he.2;have o:e<=(t.d4.length:Int)-1:=U
    rw [ae V,bs,ae (by simp[he.1,o]),AD he.1 he.2];simp[WS d hi.1.1 hi.1.2 j.1.1,WS d hi.2.1 hi.2.2 j.2.1,he.1,he.2,decide_true];cases Gp t f (AA t.d4 e).ke<;>rfl
   .have:(decide (0<=e)&&decide (e<t.d4.length))=T:=by rw[A?];simpa using he
    have q:(decide (0<=e)&&decide (e<=(t.d4.length:Int)-1))=T:=e!
    rw [this,q];simp
 .simp[h]
def OQ(n:Int)(x:gt):Bool:=(((decide ((-1)<=x.Var))&&(decide (x.Var<n)))&&(decide ((-1000000)<=x.Add)))&&(decide (x.Add<=1000000))
def LN(n:Int)(x:Test):Int:=if¬x.kq=1/\¬x.kq=2 then 1 else if(OQ n x.gp&&OQ n x.ei)=X then 0 else 6
def Jg(n:Int)(l:List Test):Int:=if n<0\/12<n then 6 else if 40<l.length then 3 else(fst (λi=>nz (LN n (AA l i))) 0 l.length).getD 0
theorem xX(n:Int)(x:Test):KH n x=Y (LN n x):=by
 unfold KH LN;simp only[show∀n x,JH n x=Y (OQ n x)from λ_ _=>rfl,bs];generalize OQ n x.gp=b1;generalize OQ n x.ei=b2;cases b1<;>cases b2
 all_goals
  simp only[bs,tn,z!,pq,z?,decide_eq_false_iff_not,A_,A',A!,ne_eq]
  repeat' (first|rfl|(exfalso;omega;done)|split)
  all_goals (first|rfl|(exfalso;omega)|omega|simp_all|(simp_all;omega))
theorem q9(n:Int)(x:gt):KO n x=Y (if OQ n x=X then 0 else 6):=by
 unfold KO OQ;simp only[bs,tn,z!,pq,z?,decide_eq_false_iff_not,A_,A',A!,ne_eq]
 repeat' (first|rfl|(exfalso;omega;done)|split)
 all_goals (first|rfl|(exfalso;omega)|omega|simp_all|(simp_all;omega))
theorem xy(n:Int)(x:Test):Q0 n x=Y (LN n x):=by
 unfold Q0 LN;simp only[q9,bs];generalize OQ n x.gp=b1;generalize OQ n x.ei=b2;cases b1<;>cases b2
 all_goals
  simp only[bs,tn,z!,pq,z?,decide_eq_false_iff_not,A_,A',A!,ne_eq]
  repeat' (first|rfl|(exfalso;omega;done)|split)
  all_goals (first|rfl|(exfalso;omega)|omega|simp_all|(simp_all;omega))
theorem uh(n:Int)(l:List Test):IT n l=Y (Jg n l):=by
 unfold IT Jg;rw[BW (λi=>nz (LN n (AA l i))),Cw]
 .simp only[bs,tn,z!,pq,z?,decide_eq_false_iff_not,A_,A',A!,ne_eq]
  repeat' (first|rfl|(exfalso;omega;done)|split)
  all_goals (first|rfl|(exfalso;omega)|omega|simp_all|(simp_all;omega))
 .intro i d f _;rw[AD d f,bs,xX,bs,Nq]
theorem vB(n:Int)(l:List Test):Nt n l=Y (Jg n l):=by
 unfold Nt Jg;rw[BW (λi=>nz (LN n (AA l i))),Cw]
 .simp only[bs,tn,z!,pq,z?,decide_eq_false_iff_not,A_,A',A!,ne_eq]
  repeat' (first|rfl|(exfalso;omega;done)|split)
  all_goals (first|rfl|(exfalso;omega)|omega|simp_all|(simp_all;omega))
 .intro i d f _;rw[AD d f,bs,xy,bs,Nq]
def Sa(t:AC)(p:ea)(node ix:Int):kp×Bool:=
 if node<0\/p.d5.d3.length<=node then(default,T)else
 let l:=(FQ t (AA p.d5.d3 node)).1
 if ix<0\/l.length<=ix then(default,T)else(AA l ix,X)
theorem Tx(hf:Ar t)(a:Int):(FQ t a).1.length<=600/\((FQ t a).2≠0->(FQ t a).1=[]):=by
 unfold FQ;split
 .simp
 .rename_i h;have d:=Cd (t:=t) U;split
  next hi=>exact⟨Hs hf (x! _) d.par (NA.1 hi).2,V⟩
  .simp
variable{p:ea}
theorem uR(hf:Ar t)(d:Cc p.d5)(s:By):Ga t p s=Y (Sa t p s.po s.kp):=by
 have j:=d.ec;unfold Ga Sa Cr;dsimp only;rw[AT U U,bs];by_cases h:s.po<0\/p.d5.d3.length<=s.po
 .rw[ac an,ac h];rfl
 .rw[ae an,ae h,AD U U,bs,Tf hf,bs];have o:=(Tx hf (AA p.d5.d3 s.po)).1;rw[AT U U,bs];by_cases f:s.kp<0\/(FQ t (AA p.d5.d3 s.po)).1.length<=s.kp
  .rw[ac an,ac f];rfl
  grind [AD]
theorem ul(hf:Ar t)(node d:Int):LD t p node d=Y (Sa t p node d):=by
 unfold LD Sa;dsimp only;by_cases h:node<0\/p.d5.d3.length<=node
 .rw[ac an,ac h];rfl
 .rw[ae an,ae h,AD U U,bs,Om hf,bs];have j:=(Tx hf (AA p.d5.d3 node)).2;by_cases f:d<0\/(FQ t (AA p.d5.d3 node)).1.length<=d
  .rw[ac an,ac f];rfl
  grind [FQ,AA,AD]
end Go.Sf.Sc
namespace Go.Sf
variable{σ ρ:Type}
def bG(s:σ)(o:Option ρ):Bo σ ρ:=match o with
 |none=>.next s|some r=>.ret r
def oc(s:σ)(o:Option ρ):σ ⊕ ρ:=match o with
 |none=>.inl s|some r=>.inr r
theorem dt{f:Int->σ->Option (Bo σ ρ)}(g:Int->σ)(c:Int->Option ρ):∀(n:Nat)(a:Int),
  (∀i,a<=i->i<a+n->(∀j,a<=j->j<i->c j=W)->f i (g i)=Y (bG (g (i+1)) (c i)))->zt f n a (g a)=Y (oc (g (a+n)) (E9 c n a))
 |0,a,_=>by simp[zt,E9,oc]|n+1,a,h=>by
  have q:=h a (x! _) U (λj d o=>U);rw[F2,q,E9];cases y:c a with
  |some r=>rfl|none=>
   simp only[bG];rw[show a+((n+1:Nat):Int)=a+1+n by omega];refine dt g c n (a+1) (λi d o u=>h i U U (λj w x=>?_))
   grind
variable{a b:Int}
theorem Gf{f:Int->σ->Option (Bo σ ρ)}(g:Int->σ)(c:Int->Option ρ){s:σ}(d:a<=b)(o:s=g a)(h:∀i,a<=i->i<b->(∀j,a<=j->j<i->c j=W)->f i (g i)=Y (bG (g (i+1)) (c i))):jj f a b s=Y (oc (g b) (fst c a b)):=by
 subst o;unfold jj fst;have:=dt g c (b-a).toNat a (λi q w u=>h i q U u)
 grind
variable{α:Type}
variable{e:Int}
theorem EC{ζ:a5}{δ:Int}(h:e=0->ζ=Y δ):(if(!decide (e=0))=X then Y e else ζ)=Y (if e≠0 then e else δ):=m?
variable{v:α}{ζ:Option α}{δ:α}
theorem Dl(h:e=0->ζ=Y δ):(if(!decide (e=0))=X then Y v else ζ)=Y (if e≠0 then v else δ):=m?
variable{P:Prop}
theorem Qs[Decidable P]{b:Bool}(hb:b=X↔P)(h:¬P->ζ=Y δ):(if b=X then Y v else ζ)=Y (if P then v else δ):=m?
theorem X2{b:Bool}(h:b=X->ζ=Y δ):(if(!b)=X then Y v else ζ)=Y (if b=T then v else δ):=m?
theorem dQ{b:Bool}(h:b=T->ζ=Y δ):(if b=X then Y v else ζ)=Y (if b=X then v else δ):=m?
end Go.Sf
namespace Go.Sf.Sc
open Go Go.Sf
def TB(t:AC)(p:ea)(s:By):Bool:=!(Sa t p s.po s.kp).2||decide (s.gt.Var< -1)||decide (p.fd<=s.gt.Var)||(decide (s.gt.Add< -1000000)||decide (1000000<s.gt.Add))
def Hw(p:ea)(v:Int):Bool:=p.ek.any λs=>decide (s.gt.Var=v)
def E1(t:AC)(p:ea):Int:=
 if (A0 t).2≠0 then(A0 t).2 else if B2 p.d5≠0 then B2 p.d5 else if Cm t p.d5=T then 13 else
 if p.fd<0\/12<p.fd then 6 else if 10<p.ek.length\/10<p.kl.length then 3 else
 if (p.ek.any (TB t p))=X then 6 else if Jg p.fd p.kl≠0 then Jg p.fd p.kl else
 if l3 (λv=>!Hw p v) 0 p.fd=X then 9 else 0
def LT(p:ea)(i:Int):a6:=(List.range p.fd.toNat).map λ(v:Nat)=>(p.ek.take i.toNat).any λs=>decide (s.gt.Var=(v:Int))
variable{p:ea}
theorem lv:LT p 0=List.replicate p.fd.toNat T:=by
 unfold LT;refine D_ V (λn d f=>V)
theorem o9(p:ea)(i:Int):(LT p i).length=p.fd.toNat:=by simp[LT]
variable{i:Int}
theorem pA(d:0<=i)(f:i<p.ek.length)(hv:0<=(AA p.ek i).gt.Var):A2 (LT p i) (AA p.ek i).gt.Var X=LT p (i+1):=by
 unfold A2;refine D_ (by simp[LT]) (λn h j=>?_);simp[LT,B5 d f]
 grind
theorem lu(d:0<=i)(f:i<p.ek.length)(hv:(AA p.ek i).gt.Var<0):LT p i=LT p (i+1):=by
 refine D_ (by simp[LT]) (λn h j=>?_);simp[LT,B5 d f]
 grind
theorem o8(p:ea):((LT p p.ek.length).any λx=>T==x)=l3 (λv=>!Hw p v) 0 p.fd:=by
 rw [y!,C?,Cg];simp only[LT,x?,C!,D',List.mem_range];constructor
 .rintro⟨x,⟨v,hv,rfl⟩,d⟩;refine⟨v,U,U,?_⟩
  grind [Hw]
 .rintro⟨v,f,h,d⟩;refine⟨_,⟨v.toNat,U,rfl⟩,?_⟩
  grind [Int.toNat_of_nonneg,Hw]
theorem il{α ρ:Type}[Inhabited α]{l:List α}{q:α->Bool}{v:ρ}:fst (λi=>if q (AA l i)=X then Y v else W) 0 l.length=if l.any q=X then Y v else W:=by
 rw [Of,JB]
variable{t:AC}
theorem Yb(hf:Ar t)(p:ea):Dc t p=Y (E1 t p):=by
 unfold Dc E1;rw[Ol hf,bs,Ok,bs];refine EC λE=>EC λC=>?_;have w:=DV C;have e:((A3 p.d5.d3 (λd=>Hh d t)).bind λj=>
   (if j=X then Y X else((Be p.d5.d4 (λd=>Hi d t)).bind λo=>Y (o))))=Y (!Cm t p.d5):=by
  unfold Cm;rw[show(λd=>Hh d t)=(λ(n:Int)=>Y (decide (t.d3.length<=n)))from rfl,dP,show(λd=>Hi d t)=(λ(e:Bk)=>Y (decide (t.d4.length<=e.kg)))from rfl,iO];simp only[bs];cases p.d5.d3.any λn=>decide (t.d3.length<=n)<;>simp
 rw [<-w?,e,bs];refine X2 λD=>?_;unfold Cr;simp only[bs];refine Qs i! λhv=>Qs i! λF=>?_;unfold HN;rw[ac U,bs,<-lv,AT (show -9223372036854775808<=p.fd-1 by omega) U,Gf (LT p) (λi=>if TB t p (AA p.ek i)=X then Y 6 else W) U rfl,il]
 .cases hb:p.ek.any (TB t p)
  .simp only[z_,if_false,oc,Bq,uh,bs,td,o8];by_cases f:Jg p.fd p.kl=0
   .simp[f];cases l3 (λv=>!Hw p v) 0 p.fd<;>rfl
   .simp[f]
  .rfl
 .intro i q u _;rw[AD q u,bs,uR hf w,bs];unfold TB;by_cases hb:(Sa t p (AA p.ek i).po (AA p.ek i).kp).2=X
  .by_cases B:(AA p.ek i).gt.Var< -1\/p.fd<=(AA p.ek i).gt.Var
   .have x:(decide (-1<=(AA p.ek i).gt.Var)&&decide ((AA p.ek i).gt.Var<=p.fd-1))=T:=e!
    have y:(decide ((AA p.ek i).gt.Var< -1)||decide (p.fd<=(AA p.ek i).gt.Var))=X:=an
    rw [hb,x,B! (!X),y];rfl
   .have x:(decide (-1<=(AA p.ek i).gt.Var)&&decide ((AA p.ek i).gt.Var<=p.fd-1))=X:=an
    have y:(decide ((AA p.ek i).gt.Var< -1)||decide (p.fd<=(AA p.ek i).gt.Var))=T:=e!
    rw [hb,x,B! (!X),y];by_cases ha:(AA p.ek i).gt.Add< -1000000\/1000000<(AA p.ek i).gt.Add
    .have z:(decide (-1000000<=(AA p.ek i).gt.Add)&&decide ((AA p.ek i).gt.Add<=1000000))=T:=e!
     have A:(decide ((AA p.ek i).gt.Add< -1000000)||decide (1000000<(AA p.ek i).gt.Add))=X:=an
     rw [z,A];rfl
    .have z:(decide (-1000000<=(AA p.ek i).gt.Add)&&decide ((AA p.ek i).gt.Add<=1000000))=X:=an
     have A:(decide ((AA p.ek i).gt.Add< -1000000)||decide (1000000<(AA p.ek i).gt.Add))=T:=e!
     rw [z,A];by_cases h:0<=(AA p.ek i).gt.Var
     .simp[h,decide_true];rw[AD h (by rw[o9];omega),bs,pA q u h];rfl
     .simp[h,decide_false];rw[lu q u U];rfl
  .rw[B']at hb;rw[hb];rfl
theorem tA(p:ea)(v:Int):Mf p v=Y (Hw p v):=by
 unfold Mf Hw;rw[BS (λi=>decide ((AA p.ek i).gt.Var=v)) X,JB]
 .cases l3 (λi=>decide ((AA p.ek i).gt.Var=v)) 0 p.ek.length<;>rfl
 .intro i d f _;rw[AD d f,bs,Iv]
theorem cg(hf:Ar t)(p:ea):Fm t p=Y (E1 t p):=by
 unfold Fm E1;rw[Rv hf,bs,NE,bs];refine EC λu=>EC λo=>?_;have f:=DV o;rw[Zc f,bs];refine X2 λq=>Qs i! λhv=>Qs i! λw=>?_;rw[BS (λi=>TB t p (AA p.ek i)) 6,<-JB]
 .cases hb:p.ek.any (TB t p)
  .simp only[z_,if_false,Bq,vB,bs];by_cases d:Jg p.fd p.kl=0
   .simp only[d];rw[BS (λv=>!Hw p v) 9]
    .cases l3 (λv=>!Hw p v) 0 p.fd<;>rfl
    .intro i h j _;rw[tA,bs,Iv]
   .simp[d]
  .rfl
 .intro i h j _;rw[AD h j,bs,ul hf,bs];unfold TB OI
  grind
def OO(t:AC)(p:ea)(i:Int):Int:=
 let s:=AA p.ek i
 if s.po<0\/p.d5.d3.length<=s.po then 6 else
 let l:=(FQ t (AA p.d5.d3 s.po)).1
 if ((((((decide (s.kp<0))||(decide ((l.length:Int)<=s.kp)))||(decide (s.gt.Var<(-1))))||(decide (p.fd<=s.gt.Var)))||(decide (s.gt.Add<(-1000000))))||(decide (1000000<s.gt.Add)))=X then 6 else
 if l3 (λj=>(decide ((AA p.ek j).po=s.po))&&(decide ((AA p.ek j).kp=s.kp))) 0 i=X then 5 else 0
theorem xW(hf:Ar t)(r:ff)(d:0<=i)(f:i<r.ei.ek.length):Mp t r i=Y (OO t r.ei i):=by
 unfold Mp OO;dsimp only;rw[AD d f,bs];refine Qs V λh=>?_;rw[AD U U,bs,Tf hf,bs,Ii d U,bs,
  show (λj=>Ql j (AA r.ei.ek i))=(λy=>Y ((decide (y.po=(AA r.ei.ek i).po))&&(decide (y.kp=(AA r.ei.ek i).kp))))from rfl,iP,bs,R4 d U]
 grind
theorem xw(hf:Ar t)(p:ea)(d:0<=i)(f:i<p.ek.length):LE t p i=Y (OO t p i):=by
 unfold LE OO;dsimp only;rw[AD d f,bs];refine Qs V λh=>?_;rw[AD U U,bs,Om hf,bs,
  BS (λj=>(decide ((AA p.ek j).po=(AA p.ek i).po))&&(decide ((AA p.ek j).kp=(AA p.ek i).kp))) 5]
 .refine dQ λ_=>?_;cases l3 (λj=>(decide ((AA p.ek j).po=(AA p.ek i).po))&&(decide ((AA p.ek j).kp=(AA p.ek i).kp))) 0 i<;>rfl
 grind [AD,AA,kp]
def JZ(t:AC)(r:ff):Int:=
 if B2 r.ei.d5≠0 then B2 r.ei.d5 else if Cm t r.ei.d5=T then 13 else
 if r.ei.fd≠r.gp.fd\/0<r.ei.kl.length then 1 else if 10<r.ei.ek.length then 3 else
 (fst (λi=>nz (OO t r.ei i)) 0 r.ei.ek.length).getD 0
theorem uc(hf:Ar t)(r:ff):LF t r=Y (JZ t r):=by
 unfold LF JZ;rw[Ok,bs,ui,bs,BW (λi=>nz (OO t r.ei i)),Cw]
 .grind
 grind [xW,Nq]
theorem uy(hf:Ar t)(r:ff):Jy t r=Y (JZ t r):=by
 unfold Jy JZ;rw[NE,bs];refine EC λd=>?_;rw[Zc (DV d),bs,BW (λi=>nz (OO t r.ei i)),Cw]
 .grind
 grind [xw,Nq]
end Go.Sf.Sc
namespace Go.Sf
variable{a b:Int}
theorem kT{ρ:Type}{c d:Int->Option ρ}(h:∀i,c i=d i):fst c a b=fst d a b:=by rw[funext h]
def DL(l:Fp)(v:Int):Int:=(fst (λi=>if decide (v=AA l i)=X then Y i else W) 0 l.length).getD (-1)
variable{l:Fp}
theorem HM{v:Int}(h:v∈l):0<=DL l v/\DL l v<l.length/\AA l (DL l v)=v/\∀j,0<=j->j<DL l v->AA l j≠v:=by
 unfold DL;cases hf:fst (λi=>if decide (v=AA l i)=X then Y i else W) 0 l.length with
 |none=>
  grind [BG,A5]
 |some k=>
  grind [CZ,AA]
variable{R:Int->Int->Prop}
theorem H8(h:l.Pairwise R){i j:Int}(d:0<=i)(f:i<j)(o:j<l.length):R (AA l i) (AA l j):=by grind[D!,AA,C_]
theorem Wa(h:∀i j:Int,0<=i->i<j->j<l.length->R (AA l i) (AA l j)):l.Pairwise R:=by
 refine D!.2 (λi j d f o=>?_);have:=h i j U U U;unfold AA at this
 grind
theorem W7(u:l.Pairwise (·<·)){v:Int}(h:v∈l):(l.countP (λx=>decide (x<v)):Int)=DL l v:=by
 obtain ⟨w,y,o,_⟩:=HM h;generalize C:DL l v=k at w y o;have e:l=l.take k.toNat++l.drop k.toNat:=(List.take_append_drop _ _).symm;have z:(l.take k.toNat).countP (λx=>decide (x<v))=k.toNat:=by
  rw [List.countP_eq_length.2 (λx d=>?_),bk]
  .omega
  .obtain⟨i,i1,i2,rfl⟩:=BG d;rw[bk]at i2;rw[x8 U,tn,<-o];exact H8 u i1 U y
 have A:(l.drop k.toNat).countP (λx=>decide (x<v))=0:=by
  rw [List.countP_eq_zero];intro x d;obtain⟨n,q⟩:=List.getElem?_of_mem d;rw[List.getElem?_drop]at q;have B:=(List.getElem?_eq_some_iff.1 q).1;have f:x=AA l (k+n):=by
   unfold AA;rw[C',show(k+(n:Int)).toNat=k.toNat+n by omega,q];rfl
  rw [tn,f,<-o];by_cases j:n=0
  .subst j;simp
  .have:=H8 u w (show k<k+(n:Int)by omega) U;omega
 rw [e,List.countP_append,z,A];omega
end Go.Sf
namespace Go.Sf.Sc
open Go Go.Sf
theorem uD(l:Fp)(n:Int):(em (jj (ρ:=Int) (λ(h:Int)(_:Unit)=>
 (idx l h).bind λd=>
 if (decide (d=n))=X then
 Y (.ret h)
 else
 Y (.next ())) 0 (l.length:Int) ()) (λ_=>
 Y (-1)) (λj=>Y j))=Y (DL l n):=by
 have:=XH (l:=l) (f:=λx=>Y (decide (x=n))) (p:=λx=>decide (x=n)) (λ_ _=>rfl);simp only[bs]at this;rw[this];unfold DL;congr 2;exact kT λi=>by simp[eq_comm]
theorem xm(l:Fp)(v:Int):Jr l v=Y (DL l v):=uD l v
def hasB(l:Fp)(v:Int):Bool:=l.any λx=>decide (v=x)
variable{l:Fp}
theorem Bu{v:Int}:hasB l v=X↔v∈l:=by
 unfold hasB
 grind
theorem P6(l:Fp)(n:Int):(em (jj (ρ:=Bool) (λ(f:Int)(_:Unit)=>
 (idx l f).bind λd=>
 if (decide (d=n))=X then
 Y (.ret X)
 else
 Y (.next ())) 0 (l.length:Int) ()) (λ_=>
 Y T) (λh=>Y h))=Y (hasB l n):=by
 unfold hasB;rw[BS (λi=>decide (n=AA l i)) X,JB]
 .cases l3 (λi=>decide (n=AA l i)) 0 l.length<;>rfl
 .intro i j o _;rw[AD j o,bs,Iv];simp[eq_comm]
theorem uu(l:Fp)(v:Int):S0 l v=Y (hasB l v):=P6 l v
theorem ut(l:Fp)(v:Int):Q1 l v=Y (hasB l v):=P6 l v
def Px(l:Fp)(n:Int):Int:=(fst (λi=>if AA l i<0\/n<=AA l i then Y 6 else if 0<i/\AA l i<=AA l (i-1)then Y 12 else W) 0 l.length).getD 0
theorem sw(q:l.length<=1000)(n:Int):I4 l n=Y (Px l n):=by
 unfold I4 Px;rw[BW (λi=>if AA l i<0\/n<=AA l i then Y 6 else if 0<i/\AA l i<=AA l (i-1)then Y 12 else W),Cw];intro i j o _;rw[AD j o,bs];by_cases h:AA l i<0\/n<=AA l i
 .rw[ac b?,ac h];rfl
 .rw[ae b?,ae h];by_cases d:0<i
  .rw[ac c?,AT U U,AD U U,bs,bs];by_cases f:AA l i<=AA l (i-1)
   .rw[ac d!,ac ⟨d,f⟩];rfl
   .rw[ae d!,ae (λh=>f h.2)];rfl
  .rw[ae c?,bs,ae a!,ae (λh=>d h.1)];rfl
theorem s8(u:l.length<=1000)(n:Int):HQ l n=Y (Px l n):=by
 unfold HQ Px;rw[BW (λi=>if AA l i<0\/n<=AA l i then Y 6 else if 0<i/\AA l i<=AA l (i-1)then Y 12 else W),Cw];intro i j o _;rw[AD j o];simp only[bs];by_cases h:AA l i<0\/n<=AA l i
 .have:(if decide (AA l i<0)=X then Y X else Y (decide (n<=AA l i)))=Y X:=by
   rcases h with h|h
   .simp[h]
   .by_cases q:AA l i<0<;>simp[h,q]
  rw [this,bs,ac rfl,ac h];rfl
 .have:(if decide (AA l i<0)=X then Y X else Y (decide (n<=AA l i)))=Y T:=by
   rw [ae an,decide_eq_false U]
  rw [this,bs,ae a!,ae h];by_cases d:0<i
  .rw[ac c?,AT U U,AD U U,bs,bs];by_cases f:AA l i<=AA l (i-1)
   .rw[ac d!,ac ⟨d,f⟩];rfl
   .rw[ae d!,ae (λh=>f h.2)];rfl
  .rw[ae c?,bs,ae a!,ae (λh=>d h.1)];rfl
variable{a b:Int}
theorem Sl{c:Int->a5}(d:∀i,c i≠Y 0)(h:(fst c a b).getD 0=0):∀i,a<=i->i<b->c i=W:=by
 have:fst c a b=W:=by
  cases hf:fst c a b with
  |none=>rfl|some r=>
   grind [w_,CZ]
 exact A5.1 this
variable{n:Int}
theorem U0(h:Px l n=0):(∀x∈l,0<=x/\x<n)/\l.Pairwise (·<·):=by
 have y:=Sl (c:=λi=>if AA l i<0\/n<=AA l i then Y 6 else if 0<i/\AA l i<=AA l (i-1)then Y 12 else W) (λi=>by
  split
  .simp
  .split<;>simp) h
 have f:∀i:Int,0<=i->i<l.length->(0<=AA l i/\AA l i<n)/\(0<i->AA l (i-1)<AA l i):=by
  intro i o w;have:=y i o w;split at this
  .cases this
  .split at this
   .cases this
   .omega
 refine ⟨λx q=>?_,Wa (λi j o d u=>?_)⟩
 .obtain⟨i,i1,i2,rfl⟩:=BG q;exact(f i i1 i2).1
 .obtain⟨k,z⟩:∃k:Nat,j=i+1+k:=⟨(j-i-1).toNat,U⟩;subst z;clear d
  induction k with
  |zero=>
   have:=(f (i+1) U U).2 U;rw[show i+1-1=i by omega]at this;simpa using this
  |succ k A=>
   have a:=A U;have b:=(f (i+1+((k+1:Nat):Int)) U u).2 U;rw[show i+1+((k+1:Nat):Int)-1=i+1+k by omega]at b;omega
theorem UU(f:l.length<=1000)(d:l.Pairwise (·<·))(v:Int):slices_BinarySearch_int l v=Y (((l.countP (λx=>decide (x<v)):Nat):Int),hasB l v):=by
 unfold slices_BinarySearch_int;rw[ac ⟨b_,d.imp (λh=>U)⟩];congr 2;rw[y!,Bu,List.contains_iff_mem]
def OG(g:d5)(p:BE):Int:=
 if Px p.d3 g.d3.length≠0 then Px p.d3 g.d3.length else if Px p.d4 g.d4.length≠0 then Px p.d4 g.d4.length else
 (fst (λi=>if(hasB p.d3 (AA g.d4 (AA p.d4 i)).ke&&hasB p.d3 (AA g.d4 (AA p.d4 i)).To)=X then W else Y 14) 0 p.d4.length).getD 0
structure Qq(g:d5)(p:BE):Prop where
 ec:(∀x∈p.d3,0<=x/\x<g.d3.length)/\p.d3.Pairwise (·<·)
 eh:(∀x∈p.d4,0<=x/\x<g.d4.length)/\p.d4.Pairwise (·<·)
 ends:∀x∈p.d4,(AA g.d4 x).ke∈p.d3/\(AA g.d4 x).To∈p.d3
variable{g:d5}
theorem Vg{p:BE}(h:OG g p=0):Qq g p:=by
 unfold OG at h;split at h
 .omega
 .split at h
  .omega
  .rename_i f j;refine⟨U0 U,U0 U,λx d=>?_⟩;obtain⟨i,i1,i2,rfl⟩:=BG d;have:=Sl (c:=λi=>if(hasB p.d3 (AA g.d4 (AA p.d4 i)).ke&&hasB p.d3 (AA g.d4 (AA p.d4 i)).To)=X then W else Y 14) (λi=>by
    split<;>simp) h i i1 i2
   split at this
   next hb=>rw[pq,Bu,Bu]at hb;exact hb
   .cases this
def EG(g:d5)(p:BE):Int:=if B2 g≠0 then B2 g else OG g p
structure S9(p:BE):Prop where
 ec:p.d3.length<=1000
 eh:p.d4.length<=1000
theorem jH{p:BE}(d:S9 p):FY g p=Y (EG g p):=by
 unfold FY EG;rw[Ok,bs];refine EC λf=>?_;have o:=DV f;unfold OP OG;rw[sw d.ec,bs,sw d.eh,bs,x_];refine EC λh=>EC λj=>?_;obtain⟨a1,a2⟩:=U0 h;obtain⟨q,u⟩:=U0 j;rw[BW (λi=>if(hasB p.d3 (AA g.d4 (AA p.d4 i)).ke&&hasB p.d3 (AA g.d4 (AA p.d4 i)).To)=X then W else Y 14),Cw];intro i i1 i2 _;have hb:=q _ (AF i1 i2);unfold Mu;rw[AD i1 i2,bs,AD hb.1 hb.2];simp[UU d.ec a2];cases hasB p.d3 (AA g.d4 (AA p.d4 i)).ke<;>cases hasB p.d3 (AA g.d4 (AA p.d4 i)).To<;>rfl
theorem Zb{p:BE}(d:S9 p):Jq g p=Y (EG g p):=by
 unfold Jq EG;rw[NE,bs];refine EC λf=>?_;have j:=DV f;unfold Qd OG;rw[s8 d.ec,bs,s8 d.eh,bs,x_];refine EC λq=>EC λh=>?_;obtain⟨o,u⟩:=U0 h;rw[BW (λi=>if(hasB p.d3 (AA g.d4 (AA p.d4 i)).ke&&hasB p.d3 (AA g.d4 (AA p.d4 i)).To)=X then W else Y 14),Cw];intro i i1 i2 _;have hb:=o _ (AF i1 i2);rw[AD i1 i2,bs,AD hb.1 hb.2];simp[ut];cases hasB p.d3 (AA g.d4 (AA p.d4 i)).ke<;>cases hasB p.d3 (AA g.d4 (AA p.d4 i)).To<;>rfl
def C0(g:d5)(p:BE):d5:=⟨p.d3.map (AA g.d3),p.d4.map λx=>⟨(AA g.d4 x).kg,DL p.d3 (AA g.d4 x).ke,DL p.d3 (AA g.d4 x).To⟩⟩
variable{i:Int}
theorem Iy{α:Type}{f:Int->α}(d:0<=i)(h:i<l.length):(l.take (i+1).toNat).map f=(l.take i.toNat).map f++[f (AA l i)]:=by grind[B5]
theorem UB(w:l.length<=1000)(h:∀x∈l,0<=x/\x<g.d3.length)(es:List Bk):(n8 (λ(u:Int)(o:d5)=>
 (idx l u).bind λd=>
 (idx g.d3 d).bind λf=>
 (AY o.d3 [f]).bind λj=>
 Y (d5.mk j o.d4)) 0 (l.length:Int) (d5.mk [] es))=Y (d5.mk (l.map (AA g.d3)) es):=by
 rw [B0 (λi=>d5.mk ((l.take i.toNat).map (AA g.d3)) es) U V]
 .rw[x?,C!]
 .intro i i1 i2;have q:=h _ (AF i1 i2);rw[AD i1 i2,bs,AD q.1 q.2,bs,AS a_,bs,Iy i1 i2]
theorem YF(y:l.length<=1000)(h:∀x∈l,0<=x/\x<g.d4.length)(ns:Fp)(F:Bk->Bk){f:Bk->List Bk->Option (List Bk)}(hf:∀x∈l,∀s,s.length<=1000->f (AA g.d4 x) s=Y (s++[F (AA g.d4 x)])):(n8 (λ(w:Int)(q:d5)=>
 (idx l w).bind λd=>
 (idx g.d4 d).bind λj=>
 (f j q.d4).bind λo=>
 Y (d5.mk q.d3 o)) 0 (l.length:Int) (d5.mk ns []))=Y (d5.mk ns (l.map λx=>F (AA g.d4 x))):=by
 rw [B0 (λi=>d5.mk ns ((l.take i.toNat).map λx=>F (AA g.d4 x))) U V]
 .rw[x?,C!]
 .intro i i1 i2;have u:=h _ (AF i1 i2);rw[AD i1 i2,bs,AD u.1 u.2,bs,hf _ (AF i1 i2) _ an,bs,Iy i1 i2]
theorem nQ{p:BE}(d:S9 p):FN g p=Y (if EG g p≠0 then(⟨[],[]⟩,⟨[],[]⟩,EG g p)else(C0 g p,⟨p.d3,p.d4⟩,0)):=by
 unfold FN;rw[jH d,bs];refine Dl λh=>?_;have w:B2 g=0/\OG g p=0:=by
  grind [EG]
 have ho:=Vg w.2;rw[UB d.ec ho.ec.1,bs];have:=YF (g:=g) (l:=p.d4) d.eh ho.eh.1 (p.d3.map (AA g.d3)) (λx=>⟨x.kg,DL p.d3 x.ke,DL p.d3 x.To⟩) (f:=λj s=>
  (slices_BinarySearch_int p.d3 j.ke).bind λo=>
  (slices_BinarySearch_int p.d3 j.To).bind λq=>
  AY s [Bk.mk j.kg o.1 q.1]) (λx u s y=>by
   have he:=ho.ends x u;rw[UU d.ec ho.ec.2,bs,UU d.ec ho.ec.2,bs,AS a_,W7 ho.ec.2 he.1,W7 ho.ec.2 he.2])
 simp [w?]at this;rw[this,bs];unfold slices_Clone_int;have z:=d.ec;have A:=d.eh;rw[BR b_,bs,BR b_];rfl
theorem Vk{p:BE}(j:S9 p):Ha g p=Y (if EG g p≠0 then(⟨[],[]⟩,⟨[],[]⟩,EG g p)else(C0 g p,⟨p.d3,p.d4⟩,0)):=by
 unfold Ha;rw[Zb j,bs];refine Dl λh=>?_;have u:B2 g=0/\OG g p=0:=by
  grind [EG]
 have ho:=Vg u.2;rw[UB j.ec ho.ec.1,bs];have:=YF (g:=g) (l:=p.d4) j.eh ho.eh.1 (p.d3.map (AA g.d3)) (λx=>⟨x.kg,DL p.d3 x.ke,DL p.d3 x.To⟩) (f:=λd s=>
  (Jr p.d3 d.ke).bind λo=>
  (Jr p.d3 d.To).bind λq=>
  AY s [Bk.mk d.kg o q]) (λx w s y=>by
   grind [xm,AS,AX])
 simp [w?]at this;rw[this,bs];have z:=j.ec;have A:=j.eh;rw[BR b_,bs,BR b_];rfl
end Go.Sf.Sc
namespace Go.Sf.Sc
open Go Go.Sf
def MU(a b:d5)(m:d6)(i:Int):a5:=
 if AA m.d3 i<0\/b.d3.length<=AA m.d3 i then Y 6 else if AA b.d3 (AA m.d3 i)≠AA a.d3 i then Y 13 else W
def GY(a b:d5)(m:d6)(i:Int):a5:=
 if AA m.d4 i<0\/b.d4.length<=AA m.d4 i then Y 6 else
 if (AA a.d4 i).kg≠(AA b.d4 (AA m.d4 i)).kg then Y 13 else
 if AA m.d3 (AA a.d4 i).ke≠(AA b.d4 (AA m.d4 i)).ke\/AA m.d3 (AA a.d4 i).To≠(AA b.d4 (AA m.d4 i)).To then Y 11 else W
def IY(a b:d5)(m:d6):Int:=
 if B2 a≠0 then B2 a else if B2 b≠0 then B2 b else if m.d3.length≠a.d3.length\/m.d4.length≠a.d4.length then 20 else
 match fst (MU a b m) 0 m.d3.length with
 |some e=>e|none=>(fst (GY a b m) 0 m.d4.length).getD 0
structure Ts(a b:d5)(m:d6):Prop where
 ga:Cc a
 gb:Cc b
 Aak:m.d3.length=a.d3.length
 Aao:m.d4.length=a.d4.length
 node:∀i:Int,0<=i->i<m.d3.length->(0<=AA m.d3 i/\AA m.d3 i<b.d3.length)/\AA b.d3 (AA m.d3 i)=AA a.d3 i
 edge:∀i:Int,0<=i->i<m.d4.length->(0<=AA m.d4 i/\AA m.d4 i<b.d4.length)/\(AA a.d4 i).kg=(AA b.d4 (AA m.d4 i)).kg/\
  AA m.d3 (AA a.d4 i).ke=(AA b.d4 (AA m.d4 i)).ke/\AA m.d3 (AA a.d4 i).To=(AA b.d4 (AA m.d4 i)).To
variable{m:d6}
theorem WD{a b:d5}(h:IY a b m=0):Ts a b m:=by
 unfold IY at h;split at h
 .omega
 split at h
 .omega
 split at h
 .cases h
 rename_i f j o;have d:fst (MU a b m) 0 m.d3.length=W:=by
  grind [CZ,MU]
 rw [d]at h;have he:=Sl (λi=>by
  grind [GY]) h
 refine ⟨DV U,DV U,U,U,λi i1 i2=>?_,λi i1 i2=>?_⟩
 .grind[A5,MU]
 grind [GY]
theorem cT(a b:d5)(m:d6):Du a b m=Y (IY a b m):=by
 unfold Du IY;rw[Ok,bs,Ok,bs];refine EC λha=>EC λhb=>Qs i! λu=>?_;have ga:=DV ha;have gb:=DV hb;rw[BW (MU a b m),DN]
 .cases o:fst (MU a b m) 0 m.d3.length with
  |some e=>rfl|none=>
   have q:=A5.1 o;dsimp only;rw[BW (GY a b m),Cw];intro i i1 i2 _;unfold GY;rw[AD i1 i2,bs];by_cases d:AA m.d4 i<0\/b.d4.length<=AA m.d4 i
   .rw[ac c?,ac d];rfl
   .have hf:=ga.fit _ (AF (l:=a.d4) i1 U);rw[ae c?,ae d,AD i1 U,bs,AD U U,bs];by_cases f:(AA a.d4 i).kg=(AA b.d4 (AA m.d4 i)).kg
    .rw[ae d!,ae d!,AD U U,bs];by_cases h:AA m.d3 (AA a.d4 i).ke=(AA b.d4 (AA m.d4 i)).ke
     .rw[ae b?,AD U U,bs,bs];by_cases j:AA m.d3 (AA a.d4 i).To=(AA b.d4 (AA m.d4 i)).To
      .rw[ae e?,ae (by simp[h,j])];rfl
      .rw[ac e?,ac (.inr j)];rfl
     .rw[ac b?,bs,ac rfl,ac (.inl h)];rfl
    .rw[ac d!,ac f];rfl
 .intro i i1 i2 _;unfold MU;rw[AD i1 i2,bs];by_cases d:AA m.d3 i<0\/b.d3.length<=AA m.d3 i
  .rw[ac c?,ac d];rfl
  .rw[ae c?,ae d,AD U U,bs,AD i1 U,bs];by_cases f:AA b.d3 (AA m.d3 i)=AA a.d3 i
   .rw[ae d!,ae d!];rfl
   .rw[ac d!,ac f];rfl
theorem Vd{x y:Prop}[Decidable x][Decidable y]:(if decide x=X then Y X else Y (decide y))=Y (decide (x\/y)):=m?
theorem cf(a b:d5)(m:d6):IA a b m=Y (IY a b m):=by
 unfold IA IY;rw[NE,bs,NE,bs];refine EC λha=>EC λhb=>Qs i! λu=>?_;have ga:=DV ha;have gb:=DV hb;rw[show(a.d3.length:Int)=m.d3.length by omega,show(a.d4.length:Int)=m.d4.length by omega,BW (MU a b m),DN]
 .cases o:fst (MU a b m) 0 m.d3.length with
  |some e=>rfl|none=>
   have q:=A5.1 o;dsimp only;rw[BW (GY a b m),Cw];intro i i1 i2 _;unfold GY;rw[AD i1 i2];simp only[bs,Vd];by_cases d:AA m.d4 i<0\/b.d4.length<=AA m.d4 i
   .rw[ac c?,ac d];rfl
   .have hf:=ga.fit _ (AF (l:=a.d4) i1 U);rw[ae c?,ae d,AD i1 U,bs,AD U U,bs];by_cases f:(AA a.d4 i).kg=(AA b.d4 (AA m.d4 i)).kg
    .rw[ae d!,ae d!,AD U U,bs];by_cases h:AA m.d3 (AA a.d4 i).ke=(AA b.d4 (AA m.d4 i)).ke
     .rw[ae b?,AD U U,bs,bs];by_cases j:AA m.d3 (AA a.d4 i).To=(AA b.d4 (AA m.d4 i)).To
      .rw[ae e?,ae (by simp[h,j])];rfl
      .rw[ac e?,ac (.inr j)];rfl
     .rw[ac b?,bs,ac rfl,ac (.inl h)];rfl
    .rw[ac d!,ac f];rfl
 .intro i i1 i2 _;unfold MU;rw[AD i1 i2];simp only[bs,Vd];by_cases d:AA m.d3 i<0\/b.d3.length<=AA m.d3 i
  .rw[ac c?,ac d];rfl
  .rw[ae c?,ae d,AD U U,bs,AD i1 U,bs];by_cases f:AA b.d3 (AA m.d3 i)=AA a.d3 i
   .rw[ae d!,ae d!];rfl
   .rw[ac d!,ac f];rfl
def Jl(l:Fp):Bool:=!l3 (λi=>l3 (λj=>decide (AA l i=AA l j)) 0 i) 0 l.length
variable{l:Fp}
theorem Jm:Jl l=X↔l.Nodup:=by grind[Jl,z?,Bm,Wa,H8]
theorem ce(l:Fp):FV l=Y (Jl l):=by
 unfold FV Jl;rw[BS (λi=>l3 (λj=>decide (AA l i=AA l j)) 0 i) T]
 .cases l3 (λi=>l3 (λj=>decide (AA l i=AA l j)) 0 i) 0 l.length<;>rfl
 .intro i i1 i2 _;rw[BS (λj=>decide (AA l i=AA l j)) T]
  .cases l3 (λj=>decide (AA l i=AA l j)) 0 i<;>rfl
  .intro j d f _;rw[AD i1 i2,bs,AD d U,bs,Iv]
theorem fA(f:l.length<=1000):∃k,HO l=Y k/\decide (k=(l.length:Int))=Jl l:=by
 have d:(Sp l).length=l.length:=(RZ l).length_eq;refine⟨((Go.Lib.compact (Sp l)).length:Int),?_,?_⟩
 .grind[HO,slices_Clone_int,slices_Sort_int,slices_Compact_int,BR,AX]
 .rw[y!,Jm,tn,<-(RZ l).nodup_iff,<-Un (SG l),d];omega
def IW(m:d6):Bool:=Jl m.d3&&Jl m.d4
theorem sz{a b:d5}(h:IY a b m=0):Dj a b m=Y (IW m):=by
 have ho:=WD h;have:=ho.ga.ec;have:=ho.ga.eh;have:=ho.Aak;have:=ho.Aao;obtain⟨k,d,f⟩:=fA (l:=m.d3) U;obtain⟨j,o,q⟩:=fA (l:=m.d4) U;unfold Dj IW;rw[cT,h,bs,ac (decide_eq_true rfl),d];simp[o,f,q];cases Jl m.d3<;>rfl
theorem AA9{a b:d5}(h:IY a b m=0):JV a b m=Y (IW m):=by grind[JV,IW,cf,ce,Jl]
def QU(r:ff):Int:=
 if EG r.gp.d5 r.pr≠0 then EG r.gp.d5 r.pr else
 if IY (C0 r.gp.d5 r.pr) r.ei.d5 r.pf≠0 then IY (C0 r.gp.d5 r.pr) r.ei.d5 r.pf else if IW r.pf=T then 11 else 0
variable{r:ff}
theorem xR(d:S9 r.pr):Mn r=Y (QU r):=by
 unfold Mn QU;rw[nQ d,bs];by_cases h:EG r.gp.d5 r.pr=0
 .simp only[h,ne_eq,not_true_eq_false,if_false,decide_true,B_,z_];rw[cT,bs];refine EC λf=>?_;rw[sz f,bs];exact X2 λ_=>rfl
 .simp[h]
def WU(r:ff):Int:=if EG r.gp.d5 r.pr≠0 then EG r.gp.d5 r.pr else IY (C0 r.gp.d5 r.pr) r.ei.d5 r.pf
theorem xx(d:S9 r.pr):Pb r=Y (WU r):=by
 unfold Pb WU;rw[Zb d,bs];refine EC λh=>?_
 grind [Vk,cf]
theorem uF(h:QU r=0):EG r.gp.d5 r.pr=0/\IY (C0 r.gp.d5 r.pr) r.ei.d5 r.pf=0/\IW r.pf=X:=by grind[QU]
def BC(l:Fp)(n:Int):Fp:=((List.range n.toNat).map Int.ofNat).filter λi=>!hasB l i
variable{i:Int}
theorem Pc(l:Fp)(h:0<=i):BC l (i+1)=BC l i++if(!hasB l i)=X then[i]else[]:=by
 unfold BC;rw[show(i+1).toNat=i.toNat+1 by omega,List.range_succ,List.map_append,List.filter_append]
 grind
theorem FW{n x:Int}(h:x∈BC l n):0<=x/\x<n:=by
 unfold BC at h
 grind
theorem S3(l:Fp)(n:Int):(BC l n).length<=n.toNat:=by
 unfold BC
 grind
variable{n:Int}
theorem Vo(q:0<=n)(u:n<=1000){f:Int->K1}(hf:∀i,f i=Y (hasB l i)):(n8 (λ(j:Int)(o:Fp)=>
 (f j).bind λd=>
 if (!d)=X then
 (AY o [j]).bind λh=>
 Y h
 else
 Y o) 0 n [])=Y (BC l n):=by
 refine B0 (BC l) q (by simp[BC]) (λi i1 i2=>?_);have:=S3 l i;rw[hf,bs,Pc l i1];cases hasB l i
 .rw[ac a!,ac a!,AS a_];rfl
 .rw[ae a!,ae a!,List.append_nil]
theorem fD(d:0<=n)(f:n<=1000):Lu l n=Y (BC l n):=by
 unfold Lu;rw[Vo d f (λi=>MO l i)];rfl
theorem oJ(d:0<=n)(f:n<=1000):NP n l=Y (BC l n):=by
 unfold NP;rw[Vo d f (λi=>uu l i)];rfl
def Ek(r:ff):Fp:=BC r.pf.d3 r.ei.d5.d3.length
def Kv(r:ff):Fp:=BC r.pf.d4 r.ei.d5.d4.length
theorem nV(d:Cc r.ei.d5):Mm r=Y (Ek r,Kv r):=by
 have:=d.ec;have:=d.eh;unfold Mm;rw[fD U U,bs,fD U U];rfl
theorem oA(d:Cc r.ei.d5):Ld r=Y (Ek r,Kv r):=by
 have:=d.ec;have:=d.eh;unfold Ld;rw[oJ U U,bs,oJ U U];rfl
def HZ(t:AC)(g:d5)(i:Int):Bool:=K0 t (AA g.d4 i).kg (AA g.d3 (AA g.d4 i).ke) (AA g.d3 (AA g.d4 i).To)
def TI(t:AC)(g:d5)(ec eh:Fp):Bool:=!(ec.any λi=>(AA t.d3 (AA g.d3 i)).qo)&&!(eh.any λi=>!HZ t g i)
variable{t:AC}{g:d5}
theorem AA6(hf:Ar t)(o:Cc g)(q:Cm t g=X){ec eh:Fp}(u:∀x∈ec,0<=x/\x<g.d3.length)(he:∀x∈eh,0<=x/\x<g.d4.length):If t g ec eh=Y (TI t g ec eh):=by
 have h:=He o q;unfold If TI;rw[U5 (p:=λi=>(AA t.d3 (AA g.d3 i)).qo) (λx f=>by
  have d:=u x f;have j:=h.1 _ (AF d.1 d.2);unfold NU;rw[AD d.1 d.2,bs,AD j.1 j.2];rfl),bs,U5 (p:=λi=>!HZ t g i) (λx f=>by
  have d:=he x f;have j:=o.fit _ (AF d.1 d.2);unfold IP;rw[AD d.1 d.2,bs,AD U U,bs,AD U U,bs,nR hf];rfl)]
 grind
theorem ABB(hf:Ar t)(j:Cc g)(o:Cm t g=X){ec eh:Fp}(q:∀x∈ec,0<=x/\x<g.d3.length)(he:∀x∈eh,0<=x/\x<g.d4.length):Ie t g ec eh=Y (TI t g ec eh):=by
 have f:=He j o;unfold Ie TI;rw[JB,JB,BS (λi=>(AA t.d3 (AA g.d3 (AA ec i))).qo) T]
 .rw[BS (λi=>!HZ t g (AA eh i)) T]
  .cases l3 (λi=>(AA t.d3 (AA g.d3 (AA ec i))).qo) 0 ec.length
   .cases l3 (λi=>!HZ t g (AA eh i)) 0 eh.length<;>rfl
   .rfl
  .intro i i1 i2 _;have d:=he _ (AF i1 i2);have h:=j.fit _ (AF d.1 d.2);rw[AD i1 i2,bs,AD d.1 d.2,bs,AD U U,bs,AD U U,bs,Yi hf,bs,Iv];rfl
 .intro i i1 i2 _;have d:=q _ (AF i1 i2);have h:=f.1 _ (AF d.1 d.2);rw[AD i1 i2,bs,AD d.1 d.2,bs,AD h.1 h.2,bs,Iv]
end Go.Sf.Sc
namespace Go.Sf.Sc
open Go Go.Sf
structure Pt(p:ea):Prop where
 ec:p.d5.d3.length<=45
 eh:p.d5.d4.length<=90
 slots:p.ek.length<=15
 tests:p.kl.length<=15
structure jw(m:d6):Prop where
 ec:m.d3.length<=140
 eh:m.d4.length<=140
inductive D9:d7->Prop where
 |mk (c:d7) (hq:Pt c.ea) (hm:jw c.Map) (hk:∀k∈c.fu,D9 k):D9 c
variable{c:d7}
theorem D9.q(h:D9 c):Pt c.ea:=j_
theorem D9.m(h:D9 c):jw c.Map:=j_
theorem D9.k(h:D9 c):∀k∈c.fu,D9 k:=j_
theorem EO{c k:d7}(h:k∈c.fu):SizeOf.sizeOf k<SizeOf.sizeOf c:=by
 have:=List.sizeOf_lt_of_mem h;cases c
 grind
theorem Dk(c:d7):0<SizeOf.sizeOf c:=by
 cases c
 grind
def RR(c:d7):Bool:=decide (c.Map.d3.length=0/\c.Map.d4.length=0/\c.ea.d5.d3.length=0/\c.ea.d5.d4.length=0/\c.ea.ek.length=0/\c.ea.kl.length=0/\c.ea.fd=0)
theorem xJ(hf:D9 c):FR c=Y (RR c):=by
 have d:=hf.q;have f:=hf.m;have:=d.ec;have:=d.eh;have:=d.slots;have:=d.tests;have:=f.ec;have:=f.eh;unfold FR RR;rw[AT (n:=(c.Map.d3.length:Int)+c.Map.d4.length) U U,AT (n:=(c.Map.d3.length:Int)+c.Map.d4.length+c.ea.d5.d3.length) U U,
  AT (n:=(c.Map.d3.length:Int)+c.Map.d4.length+c.ea.d5.d3.length+c.ea.d5.d4.length) U U,
  AT (n:=(c.Map.d3.length:Int)+c.Map.d4.length+c.ea.d5.d3.length+c.ea.d5.d4.length+c.ea.ek.length) U U,
  AT (n:=(c.Map.d3.length:Int)+c.Map.d4.length+c.ea.d5.d3.length+c.ea.d5.d4.length+c.ea.ek.length+c.ea.kl.length) U U]
 congr 1
 grind
theorem q8(hf:D9 c):Ic c=Y (RR c):=by
 have d:=hf.q;have f:=hf.m;have:=d.ec;have:=d.eh;have:=d.slots;have:=d.tests;have:=f.ec;have:=f.eh;unfold Ic RR;rw[AT (n:=(c.Map.d3.length:Int)+c.Map.d4.length) U U,AT (n:=(c.Map.d3.length:Int)+c.Map.d4.length+c.ea.d5.d3.length) U U,
  AT (n:=(c.Map.d3.length:Int)+c.Map.d4.length+c.ea.d5.d3.length+c.ea.d5.d4.length) U U,
  AT (n:=(c.ea.ek.length:Int)+c.ea.kl.length) U U]
 congr 1
 grind
def UE(c:d7):Bool:=
 if c.kq=1 then decide (c.fu.length=0)&&RR c else if c.kq=2 then decide (c.fu.length=1)&&RR c else
 if c.kq=3\/c.kq=4 then decide (1<=c.fu.length)&&RR c else if c.kq=5 then decide (c.fu.length=1)else T
def Tp:Nat->d7->Bool
 |0,_=>T|n+1,c=>UE c&&c.fu.all (Tp n)
theorem xZ:∀(N:Nat)(c:d7),SizeOf.sizeOf c<=N->D9 c->∀n,2*N<=n->BZ n c=Y (Tp N c)
 |0,c,h,_,_,_=>by have:=Dk c;omega|N+1,c,h,hf,n,B=>by
  obtain ⟨n,rfl⟩:∃m,n=m+2:=⟨n-2,U⟩;rw[BZ,Tp,xJ hf];have f:B6 c.fu (Bn (n+1))=Y (!c.fu.all (Tp N)):=by
   rw [dO (p:=λk=>!Tp N k) (λk f=>by
    have:=EO f;rw[Bn,xZ N k U (hf.k k f) n U];rfl),D?,Bool.not_not]
  rw [f];unfold UE;simp only[bs,tn];generalize RR c=b;generalize c.fu.all (Tp N)=w;have y:decide ((c.fu.length:Int)=0)=decide (c.fu.length=0):=i?
  have z:decide ((c.fu.length:Int)=1)=decide (c.fu.length=1):=i?
  have A:decide (1<=(c.fu.length:Int))=decide (1<=c.fu.length):=i?
  simp only[show((c.fu.length:Int)=0)↔c.fu.length=0 by omega,show((c.fu.length:Int)=1)↔c.fu.length=1 by omega,show(1<=(c.fu.length:Int))↔1<=c.fu.length by omega];by_cases j:c.kq=1
  .rw[ac j,ac j];by_cases d:c.fu.length=0<;>cases b<;>cases w<;>simp[d]
  .rw[ae j,ae j];by_cases o:c.kq=2
   .rw[ac o,ac o];by_cases d:c.fu.length=1<;>cases b<;>cases w<;>simp[d]
   .rw[ae o,ae o];by_cases u:c.kq=3
    .simp[u,true_or];by_cases d:1<=c.fu.length<;>cases b<;>cases w<;>simp[d]
    .by_cases x:c.kq=4
     .simp[x,or_true,show¬(4:Int)=3 by decide];by_cases d:1<=c.fu.length<;>cases b<;>cases w<;>simp[d]
     .simp only[u,x,if_false,or_false];by_cases q:c.kq=5
      .rw[ac q,ac q];by_cases d:c.fu.length=1<;>cases w<;>simp[d]
      .rw[ae q,ae q];cases w<;>rfl
theorem xj(hf:D9 c):N1 c=Y (UE c):=by
 unfold N1 UE;rw[q8 hf];simp[tn];generalize RR c=b;simp[show((c.fu.length:Int)=0)↔c.fu.length=0 by omega,show((c.fu.length:Int)=1)↔c.fu.length=1 by omega,show(0<(c.fu.length:Int))↔1<=c.fu.length by omega]
 grind
theorem wQ{α:Type}[Inhabited α]{l:List α}{p:α->Bool}:l.all p=!l3 (λi=>!p (AA l i)) 0 l.length:=by
 rw [D?,JB]
theorem s7:∀(N:Nat)(c:d7),SizeOf.sizeOf c<=N->D9 c->∀n,N<=n->C6 n c=Y (Tp N c)
 |0,c,h,_,_,_=>by have:=Dk c;omega|N+1,c,h,hf,n,f=>by
  obtain ⟨n,rfl⟩:∃m,n=m+1:=⟨n-1,U⟩;rw[C6,Tp,xj hf,bs,wQ,BS (λi=>!Tp N (AA c.fu i)) T]
  .cases UE c
   .rfl
   .cases l3 (λi=>!Tp N (AA c.fu i)) 0 c.fu.length<;>rfl
  .intro i i1 i2 _;have d:=AF (l:=c.fu) i1 i2;have:=EO d;rw[AD i1 i2,bs,s7 N _ U (hf.k _ d) n U,bs,Iv]
noncomputable def jp(c:d7):Bool:=Tp (SizeOf.sizeOf c) c
theorem AA7(hf:D9 c):Hu c=Y (jp c):=Dn (2*SizeOf.sizeOf c) λn d=>xZ _ c (az _) hf n d
theorem ABF(hf:D9 c):NM c=Y (jp c):=Dn (SizeOf.sizeOf c) λn d=>s7 _ c (az _) hf n d
def PG:Nat->d7->Int×Int
 |0,_=>(0,0)|n+1,c=>
  let s:=c.fu.foldl (λs k=>(AJ (s.1+(PG n k).1),max s.2 (PG n k).2)) ((1,0):Int×Int)
  (s.1,if c.kq=5 then AJ (s.2+1)else s.2)
theorem aV{α σ:Type}[Inhabited α]{l:List α}{g:σ->α->σ}{s:σ}{f:Int->σ->Option σ}(h:∀(i:Int)s,0<=i->i<l.length->f i s=Y (g s (AA l i))):n8 f 0 l.length s=Y (l.foldl g s):=by
 rw [B0 (λi=>(l.take i.toNat).foldl g s) U V]
 .rw[x?,C!]
 grind [B5]
theorem nZ:∀(N:Nat)(c:d7),SizeOf.sizeOf c<=N->∀n,N<=n->CX n c=Y (PG N c)
 |0,c,h,_,_=>by have:=Dk c;omega|N+1,c,h,n,d=>by
  obtain ⟨n,rfl⟩:∃m,n=m+1:=⟨n-1,U⟩;rw[CX,PG,aV (g:=λs k=>(AJ (s.1+(PG N k).1),max s.2 (PG N k).2))]
  .grind
  .intro i s i1 i2;have:=EO (AF (l:=c.fu) i1 i2);rw[AD i1 i2,bs,nZ N _ U n U];rfl
theorem oF:∀(N:Nat)(c:d7),SizeOf.sizeOf c<=N->∀n,N<=n->DX n c=Y (PG N c)
 |0,c,h,_,_=>by have:=Dk c;omega|N+1,c,h,n,d=>by
  obtain ⟨n,rfl⟩:∃m,n=m+1:=⟨n-1,U⟩;rw[DX,PG,aV (g:=λs k=>(AJ (s.1+(PG N k).1),max s.2 (PG N k).2))]
  .grind
  .intro i s i1 i2;have:=EO (AF (l:=c.fu) i1 i2);rw[AD i1 i2,bs,oF N _ U n U];rfl
noncomputable def WC(c:d7):Int×Int:=PG (SizeOf.sizeOf c) c
noncomputable def Mr(c:d7):Int:=if jp c=T then 1 else if 12<(WC c).1\/3<(WC c).2 then 3 else 0
theorem ug(hf:D9 c):F1 c=Y (Mr c):=by
 unfold F1 Mr;rw[AA7 hf,bs,show J5 c=Y (WC c)from Dn (SizeOf.sizeOf c) λn d=>nZ _ c (az _) n d,bs]
 grind
theorem u9(hf:D9 c):Jw c=Y (Mr c):=by
 unfold Jw Mr;rw[ABF hf,bs,show OJ c=Y (WC c)from Dn (SizeOf.sizeOf c) λn d=>oF _ c (az _) n d,bs]
 grind
theorem YE(g:d5):B2 g≠9:=by grind[B2]
variable{t:AC}{p:ea}
theorem XQ(d:(A0 t).2=0)(h:E1 t p=0\/E1 t p=9):0<=p.fd/\p.fd<=12:=by grind[YE,E1]
def TH(t:AC)(q:ea)(v:Int):Int:=if E1 t q≠9 then E1 t q else if l3 (λi=>!Hw q i) v q.fd=X then 9 else 0
variable{P:Prop}
theorem chQ{α:Type}[Decidable P]{v:α}{ζ:Option α}{δ:α}(h:P->ζ=Y δ):(if(!decide P)=X then Y v else ζ)=Y (if¬P then v else δ):=m?
theorem AA5(hf:Ar t)(f:(A0 t).2=0){q:ea}{v:Int}(o:0<=v)(h:v<=q.fd):Ej t q v=Y (TH t q v):=by
 unfold Ej TH;rw[Yb hf,bs];refine chQ λd=>?_;have hv:=XQ f (.inr d);rw[Ot (c:=λi=>(if(!Hw q i)=X then Y ()else W).map λ_=>.inr 9) (a:=v) (b:=q.fd) h]
 .rw[KK,Of];cases l3 (λi=>!Hw q i) v q.fd<;>rfl
 .intro i i1 i2 _;rw[ac (by simpa using i2),show(λj=>Iq j i)=(λy=>Y (decide (y.gt.Var=i)))from rfl,iP,bs,show(q.ek.any λy=>decide (y.gt.Var=i))=Hw q i from rfl,d,AT U U];cases Hw q i<;>rfl
 .rw[ae V]
theorem ux(p:ea)(v:Int):Pa p v=Y (Hw p v):=tA p v
theorem ABA(hf:Ar t)(q:ea)(v:Int):Jx t v q=Y (if q.fd<v then 20 else TH t q v):=by
 unfold Jx TH;refine Qs V λ_=>?_;rw[cg hf,bs];refine chQ λd=>?_;rw[d,BS (λi=>!Hw q i) 9]
 .cases l3 (λi=>!Hw q i) v q.fd<;>rfl
 .intro i i1 i2 _;rw[ux,bs,Iv]
def Is:Nat->AC->ea->d7->Int
 |0,_,_,_=>0|N+1,t,p,c=>
  if c.kq=5 then
   if c.ea.fd<p.fd then 20 else if TH t c.ea p.fd≠0 then TH t c.ea p.fd else
   if IY p.d5 c.ea.d5 c.Map≠0 then IY p.d5 c.ea.d5 c.Map else if IW c.Map=T then 1 else
   (fst (λi=>nz (Is N t c.ea (AA c.fu i))) 0 c.fu.length).getD 0
  else (fst (λi=>nz (Is N t p (AA c.fu i))) 0 c.fu.length).getD 0
theorem nc(hf:Ar t)(o:(A0 t).2=0):∀(N:Nat)(c:d7)(p:ea),0<=p.fd->SizeOf.sizeOf c<=N->∀n,N<=n->CF n t p c=Y (Is N t p c)
 |0,c,p,_,h,_,_=>by have:=Dk c;omega|N+1,c,p,A,h,n,B=>by
  obtain ⟨n,rfl⟩:∃m,n=m+1:=⟨n-1,U⟩;rw[CF,Is];have j:∀q:ea,0<=q.fd->(em (jj (ρ:=Int) (λ(w:Int)(_:Unit)=>
    (idx c.fu w).bind λf=>
    (CF n t q f).bind λd=>
    if (!decide (d=0))=X then
    Y (.ret d)
    else
    Y (.next ())) 0 (c.fu.length:Int) ()) (λ_=>
    Y 0) (λx=>Y x))=Y ((fst (λi=>nz (Is N t q (AA c.fu i))) 0 c.fu.length).getD 0):=by
   intro q z;rw[BW (λi=>nz (Is N t q (AA c.fu i))),Cw];intro i i1 i2 _;have:=EO (AF (l:=c.fu) i1 i2);rw[AD i1 i2,bs,nc hf o N _ q z U n U,bs,Nq]
  by_cases u:c.kq=5
  .rw[ac i9,ac u];refine Qs V λhv=>?_;rw[AA5 hf o A U,bs];refine EC λhi=>?_;rw[cT,bs];refine EC λy=>?_;rw[sz y,bs]
   grind
  grind
theorem oH(hf:Ar t):∀(N:Nat)(c:d7)(p:ea),SizeOf.sizeOf c<=N->∀n,N<=n->Dw n t p c=Y (Is N t p c)
 |0,c,p,h,_,_=>by have:=Dk c;omega|N+1,c,p,h,n,y=>by
  obtain ⟨n,rfl⟩:∃m,n=m+1:=⟨n-1,U⟩;rw[Dw,Is];have d:∀q:ea,(em (jj (ρ:=Int) (λ(u:Int)(_:Unit)=>
    (idx c.fu u).bind λo=>
    (Dw n t q o).bind λf=>
    if (!decide (f=0))=X then
    Y (.ret f)
    else
    Y (.next ())) 0 (c.fu.length:Int) ()) (λ_=>
    Y 0) (λw=>Y w))=Y ((fst (λi=>nz (Is N t q (AA c.fu i))) 0 c.fu.length).getD 0):=by
   intro q;rw[BW (λi=>nz (Is N t q (AA c.fu i))),Cw];intro i i1 i2 _;have:=EO (AF (l:=c.fu) i1 i2);rw[AD i1 i2,bs,oH hf N _ q U n U,bs,Nq]
  by_cases j:c.kq=5
  .rw[ac e?,ac j,ABA hf,bs];by_cases hv:c.ea.fd<p.fd
   .simp[hv]
   .simp only[ae hv];refine EC λhi=>?_;rw[cf,bs];refine EC λx=>?_;rw[AA9 x,bs];exact X2 λ_=>d _
  .rw[ae e?,ae j];exact d p
noncomputable def JG(t:AC)(p:ea)(c:d7):Int:=if E1 t p≠0 then E1 t p else if Mr c≠0 then Mr c else Is (SizeOf.sizeOf c) t p c
theorem nT(hf:Ar t)(d:(A0 t).2=0)(p:ea)(f:D9 c):Dd t p c=Y (JG t p c):=by
 unfold Dd JG;rw[Yb hf,bs];refine EC λh=>?_;rw[ug f,bs,x_];exact EC λ_=>Dn (SizeOf.sizeOf c) λn j=>nc hf d _ c p (XQ d (.inl h)).1 (az _) n j
theorem n7(hf:Ar t)(p:ea)(d:D9 c):IE t p c=Y (JG t p c):=by
 unfold IE JG;rw[cg hf,bs];refine EC λh=>?_;rw[u9 d,bs,x_];exact EC λ_=>Dn (SizeOf.sizeOf c) λn f=>oH hf _ c p (az _) n f
end Go.Sf.Sc
namespace Go.Sf.Sc
open Go Go.Sf
structure IQ(r:ff):Prop where
 name:(r.ln.size:Int)<=60
 left:Pt r.gp
 right:Pt r.ei
 fl:S9 r.pr
 into:jw r.pf
 cond:D9 r.d7
noncomputable def DP(t:AC)(r:ff):Int:=
 if (A0 t).2≠0 then(A0 t).2 else if D7 r.ln=T then 2 else if E1 t r.gp≠0 then E1 t r.gp else
 if JZ t r≠0 then JZ t r else if QU r≠0 then QU r else if TI t r.ei.d5 (Ek r) (Kv r)=T then 13 else JG t r.gp r.d7
variable{t:AC}{r:ff}
theorem XX(h:JZ t r=0):Cc r.ei.d5/\Cm t r.ei.d5=X:=by grind[JZ,DV]
theorem fG(hf:Ar t)(hr:IQ r):Ja t r=Y (DP t r):=by
 have o:=hr.name;unfold Ja DP;rw[Ol hf,bs];refine EC λh=>?_;rw[SL U,bs];refine X2 λ_=>?_;rw[Yb hf,bs];refine EC λ_=>?_;rw[uc hf,bs];refine EC λd=>?_;have ho:=XX d;rw[xR hr.fl,bs];refine EC λj=>?_;rw[nV ho.1,bs];dsimp only;rw[AA6 (ec:=Ek r) (eh:=Kv r) hf ho.1 ho.2 (λx f=>FW f) (λx f=>FW f),bs];refine X2 λ_=>?_;rw[nT hf h _ hr.cond,bs]
theorem fV(hf:Ar t)(hr:IQ r):IF t r=Y (DP t r):=by
 have q:=hr.name;unfold IF DP;rw[Rv hf,bs];refine EC λo=>?_;rw[SM U,bs];refine X2 λ_=>?_;rw[cg hf,bs];refine EC λ_=>?_;rw[uy hf,bs];refine EC λd=>?_;have ho:=XX d;rw[xx hr.fl,bs,ce,bs];simp only[ce,bs];have e:(if(!Jl r.pf.d3)=X then Y X else Y (!Jl r.pf.d4))=Y (!IW r.pf):=by
  grind [IW,Jl]
 rw [e,bs];have j:QU r=if WU r≠0 then WU r else if IW r.pf=T then 11 else 0:=by
  grind [QU,WU,EG]
 rw [j];by_cases h:WU r=0
 .simp only[h,ne_eq,not_true_eq_false,if_false,decide_true,B_,z_];cases hi:IW r.pf
  .simp
  .simp only[B_,z_,if_false,not_true_eq_false,Bool.true_eq_false];rw[oA ho.1,bs];dsimp only;rw[ABB (ec:=Ek r) (eh:=Kv r) hf ho.1 ho.2 (λx f=>FW f) (λx f=>FW f),bs];refine X2 λ_=>?_;rw[n7 hf _ hr.cond,bs]
 .simp[h]
def AaR(t:AC)(l:Fp):Bool:=!(l.any λk=>t.d3.any λn=>decide (n.wm=k))
structure mB(t:AC)(r:ff):Prop where
 left:Cc r.gp.d5
 ltyped:Cm t r.gp.d5=X
 right:Cc r.ei.d5
 Abi:Cm t r.ei.d5=X
 rtests:r.ei.kl.length=0
 part:Qq r.gp.d5 r.pr
 mor:Ts (C0 r.gp.d5 r.pr) r.ei.d5 r.pf
 inj:r.pf.d3.Nodup/\r.pf.d4.Nodup
variable{p:ea}
theorem Yf(h:E1 t p=0):Cc p.d5/\Cm t p.d5=X:=by grind[E1,DV]
theorem jV(h:DP t r=0):(A0 t).2=0/\mB t r:=by
 unfold DP at h;split at h
 .omega
 split at h
 .cases h
 split at h
 .omega
 split at h
 .omega
 split at h
 .omega
 rename_i j o q u w;have d:=Yf (t:=t) (p:=r.gp) U;have hr:=XX (t:=t) (r:=r) U;have f:=uF (r:=r) U;have hi:Jl r.pf.d3=X/\Jl r.pf.d4=X:=by
  grind [IW]
 refine ⟨U,d.1,d.2,hr.1,hr.2,?_,?_,WD f.2.1,Jm.1 hi.1,Jm.1 hi.2⟩
 .grind[JZ]
 grind [EG,Vg]
variable{l:Fp}
theorem iL{n:Nat}(h:∀x∈l,0<=x/\x<n)(f:l.Pairwise (·<·)):l.length<=n:=by
 have key:∀i:Int,0<=i->i<l.length->i<=AA l i:=by
  intro i d j;obtain⟨k,rfl⟩:=Int.eq_ofNat_of_zero_le d;clear d
  induction k with
  |zero=>exact(h _ (AF U U)).1|succ k o=>
   grind [H8]
 by_cases d:l.length=0
 .omega
 .have a:=key ((l.length:Int)-1) U U
  grind [AF]
end Go.Sf.Sc
namespace Go.Sf
variable{a b:Int}
theorem WW{ρ:Type}{f:Int->Option (Bo Int ρ)}(p:Int->Bool)(v:ρ)(d:a<=b)(h:∀i,a<=i->i<b->f i=Y (if p i=X then .ret v else .next (i+1)))(hb:f b=Y (.brk b)):Cq f a=Y (if l3 p a b=X then .inr v else .inl b):=by
 rw [Ot (c:=λi=>(if p i=X then Y ()else W).map λ_=>.inr v) d]
 .grind[KK,Of,l3]
 .intro i j o _;rw[h i j o];cases p i<;>rfl
 .exact hb
theorem Oh{α:Type}{e:α->TV}{n:Nat}{l:List α}(h:TV.Sm (.list n (l.map e))):(l.length:Int)<=140737488351232/\∀x∈l,(e x).Sm:=by
 simp [TV.Sm]at h;refine⟨by have:=h.1;unfold reachBytes at this;omega,λx d=>Lv.1 h.2 _ (D'.2 ⟨x,d,rfl⟩)⟩
end Go.Sf
namespace Go.Sf.Sc
open Go Go.Sf
def dL(a:kp):Bool:=(decide (40<(a.ln.size:Int))||decide (25<(a.sr.length:Int)))||l3 (λi=>decide (40<((AA a.sr i).size:Int))) 0 a.sr.length
theorem pU{a:kp}(h:dL a=T):Tr a:=by
 unfold dL at h;simp[decide_eq_false_iff_not,Bm]at h;refine⟨U,U,λx d=>?_⟩
 grind [BG]
variable{t:AC}
theorem Sh(O:(AL t).Sm):∃b,Mc t=Y b/\(b=X->Ar t):=by
 have I:TV.Sms [_,_]:=O;obtain⟨w,L⟩:=Oh (e:=H5) I.1;unfold Mc;by_cases hl:20<t.d3.length\/30<t.d4.length
 .rw[ac an]
  grind
 rw [ae an];rcases XF (f:=(λ(A:Int)(N:Int)=>
 (idx t.d3 A).bind λy=>
 (if(decide (30<(AJ (N+(y.r0.length:Int)))))=X then Y X else((idx t.d3 A).bind λC=>
 Y (decide (40<(C.ln.size:Int))))).bind λD=>
 if D=X then
 Y (Bo.ret T)
 else
 em (Cq (ρ:=Bool) (λ(s2:Int)=>
 (idx t.d3 A).bind λE=>
 if (decide (s2<(E.r0.length:Int)))=X then
 (idx t.d3 A).bind λF=>
 (idx F.r0 s2).bind λq=>
 if ((decide (40<(q.ln.size:Int)))||(decide (25<(q.sr.length:Int))))=X then
 Y (.ret T)
 else
 em (Cq (ρ:=Bool) (λ(x:Int)=>
 if (decide (x<(q.sr.length:Int)))=X then
 (idx q.sr x).bind λG=>
 if (decide (40<(G.size:Int)))=X then
 Y (.ret T)
 else
 Y (.next (AJ (x+1)))
 else
 Y (.brk x)) 0) (λx=>
 Y (.next (AJ (s2+1)))) (λQ=>Y (.ret Q))
 else
 Y (.brk s2)) 0) (λs2=>
 Y (.next (AJ (N+(y.r0.length:Int))))) (λS=>Y (.ret S))))
  (λi s=>0<=s/\s<=30/\∀j,0<=j->j<i->((AA t.d3 j).ln.size:Int)<=40/\(AA t.d3 j).r0.length<=30/\∀a∈(AA t.d3 j).r0,Tr a) (λ_=>False) (λr=>r=T) (a:=0) (b:=t.d3.length) (s:=0) U ⟨U,U,λj z d=>U⟩ (λi s i1 i2 θ=>by
   have ε:=L _ (AF (l:=t.d3) i1 i2);have J:TV.Sms [_,_,_,_]:=ε;obtain⟨ha,M⟩:=Oh (e:=JI) J.2.2.2.1;obtain⟨hI1,hI2,hI3⟩:=θ;have κ:AJ (s+(AA t.d3 i).r0.length)=s+(AA t.d3 i).r0.length:=AT U U;simp only[AD i1 i2,bs,κ,Vd];by_cases η:30<s+(AA t.d3 i).r0.length\/40<((AA t.d3 i).ln.size:Int)
   .grind
   rw [ae (by simpa using η)];rw[WW (λj=>dL (AA (AA t.d3 i).r0 j)) T (b:=(AA t.d3 i).r0.length) U]
   .cases hb:l3 (λj=>dL (AA (AA t.d3 i).r0 j)) 0 (AA t.d3 i).r0.length
    .refine .inl ⟨_,rfl,U,U,λj H B=>?_⟩
     grind [BG,pU,Bm]
    .exact .inr (.inr ⟨_,rfl,rfl⟩)
   .intro j H B;rw[ac (by simpa using B),AD H B,bs];have Z:=M _ (AF (l:=(AA t.d3 i).r0) H B);have K:TV.Sms [_,_,_,_]:=Z;obtain⟨hm,_⟩:=Oh (e:=eS) K.2.2.2.1;unfold dL;cases z:(decide (40<((AA (AA t.d3 i).r0 j).ln.size:Int))||decide (25<((AA (AA t.d3 i).r0 j).sr.length:Int)))
    .rw[ae a!,WW (λk=>decide (40<((AA (AA (AA t.d3 i).r0 j).sr k).size:Int))) T (b:=(AA (AA t.d3 i).r0 j).sr.length) U]
     .cases l3 (λk=>decide (40<((AA (AA (AA t.d3 i).r0 j).sr k).size:Int))) 0 (AA (AA t.d3 i).r0 j).sr.length
      .rw[Bool.or_false,AT (show -9223372036854775808<=j+1 by omega) U];rfl
      .rfl
     .intro k u o;rw[ac g_,AD u o,bs,AT (show -9223372036854775808<=k+1 by omega) U,Iv]
     .rw[ae V]
    .rfl
   .rw[ae V])with⟨s',z,d⟩|⟨r,z,d⟩
 .rw[z];rcases d with d|d
  .rw[Bq,BS (λi=>decide (40<((AA t.d4 i).ln.size:Int))) T]
   .cases hb:l3 (λi=>decide (40<((AA t.d4 i).ln.size:Int))) 0 t.d4.length
    .refine⟨X,rfl,λ_=>⟨U,U,λn w=>?_,λn w=>?_,λn w=>?_,λe he=>?_⟩⟩
     .obtain⟨k,u,o,rfl⟩:=BG w;exact(d.2.2 k u o).1
     .obtain⟨k,u,o,rfl⟩:=BG w;exact(d.2.2 k u o).2.1
     .obtain⟨k,u,o,rfl⟩:=BG w;exact(d.2.2 k u o).2.2
     .obtain⟨k,u,o,rfl⟩:=BG he;have:=Bm.1 hb k u o;simpa using this
    .exact⟨T,rfl,λh=>d_⟩
   .intro i i1 i2 _;rw[AD i1 i2,bs,Iv]
  .exact d.elim
 .rw[z];subst d;exact⟨T,rfl,λh=>d_⟩
theorem TY(p:ea):∃b,Kf p=Y b/\(b=X->Pt p):=by
 refine ⟨_,rfl,λh=>?_⟩;simp[tn]at h;exact⟨U,U,U,U⟩
variable{a b:Int}
theorem ic(ha:0<=a)(d:a<=140737488351232)(hb:0<=b)(f:b<=140737488351232):AJ (a+b)=a+b:=AT U U
variable{m:d6}
theorem ZD(f:(Au m).Sm):∃b,JU m 140=Y b/\(b=X->jw m):=by
 have d:TV.Sms [_,_]:=f;have j:=(Oh (e:=eI) d.1).1;have o:=(Oh (e:=eI) d.2.1).1;refine⟨_,rfl,λh=>?_⟩;rw[ic U j U o]at h;simp[tn]at h;exact⟨U,U⟩
theorem pu{m:BE}(f:(HL m).Sm):∃b,Sz m 140=Y b/\(b=X->S9 m):=by
 have d:TV.Sms [_,_]:=f;have j:=(Oh (e:=eI) d.1).1;have o:=(Oh (e:=eI) d.2.1).1;refine⟨_,rfl,λh=>?_⟩;rw[ic U j U o]at h;simp[tn]at h;exact⟨U,U⟩
variable{c:d7}
theorem iS(h:(AI c).Sm):(Au c.Map).Sm/\(c.fu.length:Int)<=140737488351232/\∀k∈c.fu,(AI k).Sm:=by
 have f:TV.Sms [_,_,_,_,_,_,_,_,_]:=h;obtain⟨_,d,j,o,_⟩:=f;rw[Sb]at d;obtain⟨q,u⟩:=Oh d;exact⟨⟨j,o,trivial⟩,q,u⟩
theorem de:∀(N:Nat)(c:d7),SizeOf.sizeOf c<=N->(AI c).Sm->∀sx:Int,0<=sx->sx<=1000->∃r,(∀n,N<=n->Cy n c sx=Y r)/\-1<=r/\r<=sx-1/\(0<=r->D9 c)
 |0,c,h,_,_,_,_=>by have:=Dk c;omega|N+1,c,h,hs,sx,m0,m1=>by
  obtain ⟨L,M,B⟩:=iS hs;obtain⟨O,E,Q⟩:=TY c.ea;obtain⟨S,H,θ⟩:=ZD L;have step:∀n,N+1<=n->∃m,n=m+1/\N<=m:=λn d=>⟨n-1,U,U⟩;cases O
  .refine⟨-1,λn d=>?_,U,U,λh=>U⟩;obtain⟨n,rfl,_⟩:=step n d;rw[Cy,E];rfl
  cases S
  .refine⟨-1,λn d=>?_,U,U,λh=>U⟩;obtain⟨n,rfl,_⟩:=step n d;rw[Cy,E,bs,H];rfl
  have loop:∀(m:Nat)(k left:Int),0<=k->k+m=c.fu.length->-1<=left->left<=1000->∃f u,(∀n,N<=n->MI (ρ:=Int) (λ(q:Int×Int)=>
    if ((decide (q.2<(c.fu.length:Int)))&&(decide (0<=q.1)))=X then
    (idx c.fu q.2).bind λx=>
    (Cy n x q.1).bind λy=>
    Y (.next (y,AJ (q.2+1)))
    else
    Y (.brk (q.1,q.2))) (left,k) (.inl (f,u)))/\-1<=f/\f<=left/\(0<=f->∀j,k<=j->j<c.fu.length->D9 (AA c.fu j)):=by
   intro m
   induction m with
   |zero=>
    intro k left C I D l1;refine⟨left,k,λn d=>.brk ?_,D,U,λ_ j z w=>U⟩;rw[ae an]
   |succ m Z=>
    intro k left C I D l1;by_cases J:0<=left
    .have o:=AF (l:=c.fu) C U;have:=EO o;obtain⟨r,ε,κ,r3,η⟩:=de N _ U (B _ o) left J l1;obtain⟨f,u,a1,a2,a3,F⟩:=Z (k+1) r U U κ U;refine⟨f,u,λn d=>.next (s':=(r,k+1)) ?_ (a1 n d),a2,U,λA j z w=>?_⟩
     .rw[ac an,AD C U,bs,ε n d,bs,AT U U]
     .by_cases K:j=k
      .subst K;exact η U
      .exact F A j U w
    .refine⟨left,k,λn d=>.brk ?_,D,U,λh=>U⟩;rw[ae an]
  obtain ⟨f,u,a1,a2,a3,F⟩:=loop c.fu.length 0 (sx-1) U U U U;refine⟨f,λn d=>?_,a2,a3,λA=>.mk c (Q rfl) (θ rfl) (λk B=>?_)⟩
  .obtain⟨n,rfl,G⟩:=step n d;rw[Cy,E,bs,H];simp only[bs,B_,z_,if_false];rw[AT (n:=sx-1) U U,(a1 n G).eq,Bq]
  .obtain⟨j,z,w,rfl⟩:=BG B;exact F A j z w
theorem pk(d:(AI c).Sm):∃b,Kg c=Y b/\(b=X->D9 c):=by
 obtain ⟨r,f,_,_,j⟩:=de (SizeOf.sizeOf c) c (az _) d 40 U U;have e:Rf c 40=Y r:=Dn (SizeOf.sizeOf c) f;unfold Kg;rw[e];exact⟨_,rfl,λh=>j b?⟩
theorem MM{b:Bool}{o:K1}{c:Bool}(h:o=Y c):(if b=X then o.bind λx=>Y x else Y T)=Y (b&&c):=by
 subst h;cases b<;>rfl
variable{r:ff}
theorem pv(d:(Bz r).Sm):∃b,Q2 r=Y b/\(b=X->IQ r):=by
 have f:TV.Sms [_,_,_,_,_,_,_,_,_,_,_,_,_,_,_,_,_,_,_,_,_,_,_,_,_]:=d;obtain⟨_,_,_,_,_,_,_,_,_,_,_,j,o,i1,i2,_,q,u,w,x,y,z,c7,c8,A,_⟩:=f;obtain⟨L,B,C⟩:=TY r.gp;obtain⟨M,D,E⟩:=TY r.ei;obtain⟨N,F,G⟩:=pu (m:=r.pr) ⟨j,o,trivial⟩;obtain⟨O,H,I⟩:=ZD (m:=r.pf) ⟨i1,i2,trivial⟩;obtain⟨Q,J,K⟩:=pk (c:=r.d7) ⟨q,u,w,x,y,z,c7,c8,A,trivial⟩;unfold Q2;rw[MM B,bs,MM D,bs,MM F,bs,MM H,bs,MM J,bs];refine⟨_,rfl,λh=>?_⟩;simp[tn]at h;exact⟨h.1.1.1.1.1,C h.1.1.1.1.2,E h.1.1.1.2,G h.1.1.2,I h.1.2,K h.2⟩
end Go.Sf.Sc
