/- Plain lemmas: what the functions of the program and of the reference compute. -/
import Derived.Test.YthcncnllajfkfaaGreatSfRead
import Derived.Test.YthcncnllajfkfaaGreatFns
import Derived.Test.YthcncnllajfkfaaGreatSfPl
set_option linter.all false
set_option maxRecDepth 100000
open Option renaming some->Y,none->W
open Bool renaming true->X,false->T
open Option renaming getD->w_,isSome->w!,bind_assoc->w?,bind_fun_some->x_
open Int renaming le_refl->x!,toNat_natCast->x?
open Bool renaming true_and->y_,eq_iff_iff->y!,false_and->y?,false_eq_true->z_,or_eq_true->z!,not_eq_true'->z?,not_eq_false'->A_,or_eq_false_iff->A',and_eq_false_iff->A!,eq_false_iff->A?,not_true->B_,not_eq_true->B',or_assoc->B!
open List renaming any_eq_false->B?,getElem?_eq_getElem->C_,getD_eq_getElem?_getD->C',take_length->C!,any_eq_true->C?,ext_getElem->D_,mem_map->D',pairwise_iff_getElem->D!,all_eq_not_any_not->D?
namespace Go.Sf
theorem aP{ρ τ:Type}{d:Int->Option ρ}{g:ρ->τ}:∀(n:Nat)(a:Int),FM (λi=>(d i).map g) n a=(FM d n a).map g
 |0,_=>rfl|n+1,a=>by
  rw [FM,FM];cases d a with
  |some r=>rfl|none=>exact aP n (a+1)
variable{a b:Int}
theorem KX{ρ τ:Type}{d:Int->Option ρ}{g:ρ->τ}:fst (λi=>(d i).map g) a b=(fst d a b).map g:=aP _ _
theorem YM{ρ:Type}{d:Int->Option ρ}{r:ρ}:∀{n:Nat}{a:Int},FM d n a=Y r->∃i,a<=i/\i<a+n/\d i=Y r/\∀j,a<=j->j<i->d j=W
 |0,_,h=>d_
 |n+1,a,h=>by
  rw [FM]at h;cases hd:d a with
  |some w=>
   grind
  |none=>
   rw [hd]at h;obtain⟨i,f,o,q,u⟩:=YM h
   grind
theorem Cl{ρ:Type}{d:Int->Option ρ}{r:ρ}(h:fst d a b=Y r):∃i,a<=i/\i<b/\d i=Y r/\∀j,a<=j->j<i->d j=W:=by
 obtain ⟨i,f,o,q,u⟩:=YM h
 grind
def Nx(p:Int->Bool)(s:ByteArray):Int:=(fst (λi=>if p (bt s i)then W else Y i) 0 s.size).getD s.size
theorem V2(p:Int->Bool)(s:ByteArray):0<=Nx p s/\Nx p s<=s.size/\(∀j,0<=j->j<Nx p s->p (bt s j)=X)/\(Nx p s<s.size->p (bt s (Nx p s))=T):=by
 unfold Nx;cases h:fst (λi=>if p (bt s i)then W else Y i) 0 s.size with
 |none=>
  rw [BH]at h
  grind
 |some r=>
  grind [Cl,bt,w_]
variable{s:ByteArray}
theorem gL(h:s≠⟨#[]⟩):0<s.size:=by
 rcases Nat.eq_zero_or_pos s.size with f|f
 .exfalso;apply h;cases s with|mk d=>congr 1;exact Array.eq_empty_of_size_eq_zero f
 .exact f
end Go.Sf
namespace Go.Sf.Sc
open Go Go.Sf
def Gu(c:Int):Bool:=((decide (97<=c))&&(decide (c<=122)))||((decide (65<=c))&&(decide (c<=90)))
def Aaj(c:Int):Bool:=(decide (48<=c))&&(decide (c<=57))
def S9(c:Int):Bool:=Gu c||Aaj c||decide (c=95)
theorem fN(c:Int):M8 c=Y (Gu c):=rfl
theorem Zg(c:Int):MA c=Y (Aaj c):=rfl
theorem fh(c:Int):Mm c=Y (Gu c):=rfl
theorem jc(c:Int):J0 c=Y (Aaj c):=rfl
theorem xi(c:Int):Pw c=Y (S9 c):=by
 unfold Pw S9;rw[fN,bs,Zg]
 grind
variable{s:ByteArray}
theorem lR(d:(s.size:Int)<=4611686018427387904){ok:Int->K1}{p:Int->Bool}(h:∀c,ok c=Y (p c)):IW s ok=Y (Nx p s):=by
 unfold IW;rw[O5 (c:=λi=>(if p (bt s i)then W else Y i).map .inl) (a:=0) (b:=s.size) U]
 .rw[KX];unfold Nx;cases fst (λi=>if p (bt s i)=X then W else Y i) 0 s.size<;>rfl
 .grind[R8,bt,Dv,AT]
 .simp
def EJ(s:ByteArray):Bool:=decide (0<s.size)&&Gu (bt s 0)&&decide (s.size<=20)&&decide (Nx S9 s=s.size)
theorem Ze(l:List ByteArray)(v:ByteArray):∃k,slices_Index_string l v=Y k/\(0<=k↔v∈l):=by
 unfold slices_Index_string;rw[Bj (λi=>if(v==AA l i)=X then Y i else W)]
 .cases h:fst (λi=>if(v==AA l i)=X then Y i else W) 0 l.length with
  |none=>
   rw [BH]at h;refine⟨-1,rfl,U,λo=>?_⟩
   grind [BT]
  |some k=>
   obtain ⟨i,d,f,q,_⟩:=Cl h;have j:(v==AA l i)=X/\i=k:=by
    grind
   obtain ⟨j,rfl⟩:=j;refine⟨i,rfl,λ_=>?_,λ_=>d⟩
   grind [AF]
 .intro i d f _;simp only[AD d f,bs];split<;>rfl
theorem RS(l:List ByteArray)(v:ByteArray):slices_Contains_string l v=Y (l.contains v):=by
 unfold slices_Contains_string;obtain⟨k,d,f⟩:=Ze l v
 grind
theorem xg(z:0<s.size)(w:(s.size:Int)<=4611686018427387904):∃k n e,Lc s=Y (k,n,e)/\(((decide (e=0))&&(decide (k=1)))&&(decide (n=(s.size:Int))))=EJ s:=by
 have hr:=V2 S9 s;unfold Lc EJ;simp only[R8 (x! 0) (show(0:Int)<s.size by omega),bs,fN,Zg,lR w xi,lR w Zg,z,decide_true,y_];by_cases d:Gu (bt s 0)=X
 .rw[ac d];by_cases f:20<Nx S9 s
  .refine⟨0,0,3,u?,?_⟩;simp[d];intro D h;omega
  .refine⟨1,_,0,by rw[ae d!],?_⟩;simp only[d,decide_true,y_];rw[y!];simp only[tn,pq];omega
 .rw[ae d];have j:Gu (bt s 0)=T:=c?
  rw [j,y?,y?];by_cases hd:Aaj (bt s 0)=X
  .rw[ac hd];by_cases x:9<Nx Aaj s
   .exact⟨0,0,3,by simp[x],V⟩
   .exact⟨2,_,0,by rw[ae (by simpa using x)],V⟩
  .rw[ae hd];by_cases y:bt s 0=34
   .have A:=cX (s:=s) (a:=1) (b:=s.size) U U U;have o:∀c,Nj c=Y (((decide (32<=c))&&(decide (c<=126)))&&(!decide (c=34))):=λ_=>rfl;have B:=V2 (λc=>((decide (32<=c))&&(decide (c<=126)))&&(!decide (c=34))) (s.extract (1:Int).toNat (s.size:Int).toNat);have q:∃n e,Iw s=Y (n,e):=by
     unfold Iw;rw[Jo U U U,bs,lR U o,bs];rw[AT U U];by_cases he:1+Nx (λc=>((decide (32<=c))&&(decide (c<=126)))&&(!decide (c=34))) (s.extract (1:Int).toNat (s.size:Int).toNat)=s.size
     .refine⟨0,2,?_⟩;simp only[he,decide_true,if_true,bs]
     .simp only[he,decide_false,z_,if_false];rw[R8 U U];simp only[bs];split
      .exact⟨_,_,rfl⟩
      .split
       .exact⟨_,_,rfl⟩
       .exact⟨_,_,rfl⟩
    obtain ⟨n,e,u⟩:=q;refine⟨3,n,e,by rw[ac (by simpa using y),u];rfl,V⟩
   .rw[ae (by simpa using y)];have C:∃b,Pv s=Y b:=by
     unfold Pv;by_cases h:2<=(s.size:Int)
     .rw[ac b?,Jo U U h];simp only[bs,RS];exact⟨_,rfl⟩
     .rw[ae b?];exact⟨_,rfl⟩
    obtain ⟨b,hb⟩:=C;rw[hb,bs];cases b
    .simp only[z_,if_false,strings_IndexByte,bs];split
     .exact⟨_,_,_,rfl,rfl⟩
     .exact⟨_,_,_,rfl,rfl⟩
    .exact⟨_,_,_,rfl,rfl⟩
theorem SX(d:(s.size:Int)<=4611686018427387904):Ec s=Y (EJ s):=by
 unfold Ec MB;simp only[show decide ((1:Int)=3)=T from rfl,z_,if_false,bs];by_cases he:s=⟨#[]⟩
 .subst he;rfl
 grind [xg,gL]
theorem yH(o:(s.size:Int)<=4611686018427387904)(d:Bool):∃n,Mp s 0 d=Y n/\0<=n/\n<=s.size/\(d=T->n=Nx S9 s):=by
 have hr:=V2 (λc=>Aaj c||(!d&&(Gu c||decide (c=95)))) s;refine⟨Nx (λc=>Aaj c||(!d&&(Gu c||decide (c=95)))) s,?_,hr.1,hr.2.1,λhd=>?_⟩
 .unfold Mp;rw[O5 (c:=λi=>(if(Aaj (bt s i)||(!d&&(Gu (bt s i)||decide (bt s i=95))))then W else Y i).map .inl) (a:=0) (b:=s.size) U]
  .rw[KX];unfold Nx;cases fst (λi=>if(Aaj (bt s i)||(!d&&(Gu (bt s i)||decide (bt s i=95))))=X then W else Y i) 0 s.size<;>rfl
  .intro i j f _;have h:AJ (0+i)=i:=d?
   simp only[h,f,decide_true,if_true,R8 j f,bs,jc,fh]
   grind [Aaj,bt,Gu,Dv,AT]
  .have h:AJ (0+(s.size:Int))=s.size:=d?
   grind
 .subst hd;congr 1
  grind [S9,Gu,Aaj]
theorem rK(q:0<s.size)(u:(s.size:Int)<=4611686018427387904):∃n,Im s 0=Y n/\(n=0\/(2<=n/\n<=s.size)):=by
 unfold Im;rw[O5 (c:=λi=>if decide (bt s i=34)=X then Y (Sum.inr (i+1):Int ⊕ Int)else if(decide (bt s i<32)||decide (126<bt s i))=X then Y (Sum.inr 0)else W) (a:=1) (b:=s.size) U]
 .cases h:fst (λi=>if decide (bt s i=34)=X then Y (Sum.inr (i+1):Int ⊕ Int)else if(decide (bt s i<32)||decide (126<bt s i))=X then Y (Sum.inr 0)else W) 1 s.size with
  |none=>exact⟨0,rfl,.inl rfl⟩|some r=>
   obtain ⟨i,o,f,d,_⟩:=Cl h;split at d
   .cases d;exact⟨_,rfl,.inr U⟩
   .split at d
    .cases d;exact⟨_,rfl,.inl rfl⟩
    .cases d
 .intro i o f _;have j:AJ (0+i)=i:=d?
  simp only[j,f,decide_true,if_true,R8 (show 0<=i by omega) f,bs,AT (show -9223372036854775808<=i+1 by omega) U];split
  .rfl
  .split<;>rfl
 .have j:AJ (0+(s.size:Int))=s.size:=d?
  grind
theorem ABO(O:0<s.size)(Q:(s.size:Int)<=4611686018427387904):∃t n e,Mn s 0=Y (t,n,e)/\(((decide (e=0))&&(decide (n=(s.size:Int))))&&(decide (t.kq=1)))=EJ s:=by
 obtain ⟨m,M,u,w,N⟩:=yH Q (Aaj (bt s 0));unfold Mn EJ;simp only[R8 (x! 0) (show(0:Int)<s.size by omega),bs,fh,jc,O,decide_true,y_,M];have S:AJ (0+m)=m:=d?
 by_cases F:Gu (bt s 0)=X
 .have hd:Aaj (bt s 0)=T:=by
   unfold Gu at F;unfold Aaj
   grind
  have η:=N hd;subst η;simp only[F,if_true,hd,z_,if_false,bs,S];by_cases q:20<Nx S9 s
  .refine⟨_,_,_,by rw[ac v1],?_⟩
   grind
  .rw[ae v1,Jo (x! _) u w];refine⟨_,_,_,rfl,?_⟩
   grind
 .have G:Gu (bt s 0)=T:=by simpa using F
  simp only[G,z_,if_false,bs,y?,S];by_cases hd:Aaj (bt s 0)=X
  .simp only[hd,if_true,bs];by_cases θ:9<m
   .exact⟨_,_,_,by rw[ac (by simpa using θ)],V⟩
   .rw[ae (by simpa using θ),Jo (x! _) u w];exact⟨_,_,_,rfl,V⟩
  .have H:Aaj (bt s 0)=T:=by simpa using hd
   simp only[H,z_,if_false,bs];by_cases ε:bt s 0=34
   .obtain⟨n,hn,y⟩:=rK O Q;rw[ac t_,hn,bs];rcases y with rfl|y
    .grind
    .rw[ae an];split
     .grind
     .have Z:AJ (0+1)=1:=a!
      have e2:AJ (0+n)=n:=d?
      rw [Z,e2,AT (show -9223372036854775808<=n-1 by omega) U,Jo U U U];exact⟨_,_,_,rfl,V⟩
   .rw[ae t_];unfold Qn;rw[bs];generalize hL:([(⟨#[45,62]⟩:ByteArray),(⟨#[60,61]⟩:ByteArray),(⟨#[62,61]⟩:ByteArray),(⟨#[61,61]⟩:ByteArray),(⟨#[33,61]⟩:ByteArray),(⟨#[123]⟩:ByteArray),(⟨#[125]⟩:ByteArray),(⟨#[40]⟩:ByteArray),(⟨#[41]⟩:ByteArray),(⟨#[91]⟩:ByteArray),(⟨#[93]⟩:ByteArray),(⟨#[44]⟩:ByteArray),(⟨#[59]⟩:ByteArray),(⟨#[58]⟩:ByteArray),(⟨#[61]⟩:ByteArray),(⟨#[43]⟩:ByteArray),(⟨#[45]⟩:ByteArray),(⟨#[42]⟩:ByteArray),(⟨#[60]⟩:ByteArray),(⟨#[62]⟩:ByteArray),(⟨#[33]⟩:ByteArray),(⟨#[38]⟩:ByteArray),(⟨#[124]⟩:ByteArray),(⟨#[46]⟩:ByteArray),(⟨#[63]⟩:ByteArray)]:List ByteArray)=L;have I:∀x∈L,x.size<=2:=by subst hL;decide
    rcases XR (f:=(λ(h:Int)(κ:G3)=>
      (idx L h).bind λA=>
      (if(decide ((AJ (0+(A.size:Int)))<=(s.size:Int)))=X then((idx L h).bind λB=>
      (Aam s 0 (AJ (0+(B.size:Int)))).bind λC=>
      (idx L h).bind λD=>
      Y (C==D))else Y T).bind λE=>
      if E=X then
      (idx L h).bind λj=>
      (idx L h).bind λo=>
      Y (B0.ret (G3.mk 4 j 0,(o.size:Int),(0:Int)))
      else
      Y (B0.next κ))) (λ_ s=>True) (λ_=>True) (λr=>r.1.kq=4) (a:=0) (b:=L.length) (s:=G3.mk 0 (⟨#[]⟩:ByteArray) 0) U trivial (λi t d z _=>by
      have hx:=I _ (AF d z);have J:AJ (0+((AA L i).size:Int))=(AA L i).size:=d?
      simp only[AD d z,bs,J];by_cases K:((AA L i).size:Int)<=s.size
      .rw[ac (by simpa using K),Jo U U K];simp only[bs];split
       .exact .inr (.inr ⟨_,rfl,rfl⟩)
       .exact .inl ⟨_,rfl,trivial⟩
      .rw[ae (by simpa using K)];simp only[bs];exact .inl ⟨_,rfl,trivial⟩)with⟨s',d,_⟩|⟨r,d,z⟩
    .rw[d];exact⟨_,_,_,rfl,V⟩
    .rw[d];exact⟨_,_,_,rfl,by simp[z]⟩
theorem SY(d:(s.size:Int)<=4611686018427387904):EY s=Y (EJ s):=by
 unfold EY L0 Rs;simp only[show decide ((1:Int)=3)=T from rfl,z_,if_false,bs];by_cases he:s=⟨#[]⟩
 .subst he;rfl
 grind [ABO,gL]
end Go.Sf.Sc
namespace Go.Sf
variable{ρ β:Type}
def nz(e:Int):a5:=if e=0 then W else Y e
theorem N2(e:Int):(if(!decide (e=0))=X then Y (B0.ret e)else Y (B0.next ()))=Y (TM (nz e)):=by grind[nz,TM]
theorem wn(b:Bool)(r:ρ):(if b=X then Y (B0.ret r)else Y (B0.next ()))=Y (TM (if b=X then Y r else W)):=by
 cases b<;>rfl
variable{kr:ρ->Option β}
theorem B2{σ:Type}{s:σ}{k:σ->Option β}:em (Y (.inl s)) k kr=k s:=rfl
theorem TH{σ:Type}{r:ρ}{k:σ->Option β}:em (Y (.inr r)) k kr=kr r:=rfl
theorem Da(o:Option ρ)(k:Unit->Option β)(kr:ρ->Option β):em (Y (su o)) k kr=match o with|none=>k ()|some r=>kr r:=by
 cases o<;>rfl
theorem C8(o:a5):em (Y (su o)) (λ_=>Y 0) (λv=>Y v)=Y (o.getD 0):=by
 cases o<;>rfl
variable{a b:Int}
theorem Va{c:Int->Int}(h:(fst (λi=>nz (c i)) a b).getD 0=0):∀i,a<=i->i<b->c i=0:=by
 have:fst (λi=>nz (c i)) a b=W:=by
  cases hf:fst (λi=>nz (c i)) a b with
  |none=>rfl|some r=>
   grind [w_,Cl,nz]
 grind [BH,nz]
variable{e:Int}
theorem IX:nz e=W↔e=0:=by grind[nz]
theorem XT{α:Type}[Inhabited α]{l:List α}{f:α->K1}{p:α->Bool}(h:∀x∈l,f x=Y (p x)):
  (em (jj (ρ:=Int) (λ(o:Int)(_:Unit)=>(idx l o).bind λd=>(f d).bind λj=>if j=X then Y (.ret o)else Y (.next ())) 0 (l.length:Int) ()) (λ_=>Y (-1)) (λw=>Y w))=
   Y ((fst (λi=>if p (AA l i)=X then Y i else W) 0 l.length).getD (-1)):=by
 rw [Bj (λi=>if p (AA l i)=X then Y i else W)]
 .rw[Da];cases fst (λi=>if p (AA l i)=X then Y i else W) 0 l.length<;>rfl
 .intro i q u _;rw[AD q u,bs,h _ (AF q u),bs,wn]
theorem aY{α:Type}[Inhabited α]{l:List α}{p:α->Bool}:decide (0<=(fst (λi=>if p (AA l i)=X then Y i else W) 0 l.length).getD (-1))=l.any p:=by
 rw [JO,l3];cases h:fst (λi=>if p (AA l i)=X then Y i else W) 0 l.length with
 |none=>
  grind [BH,w!,Option.isSome_eq_false_iff,Option.isNone_iff_eq_none,AA]
 |some k=>
  grind [Cl,AA,w_,w!,Option.isSome_iff_ne_none,BH]
theorem FA{α:Type}[Inhabited α]{l:List α}{f:α->K1}{p:α->Bool}(h:∀x∈l,f x=Y (p x)):
  ((em (jj (ρ:=Int) (λ(o:Int)(_:Unit)=>(idx l o).bind λd=>(f d).bind λj=>if j=X then Y (.ret o)else Y (.next ())) 0 (l.length:Int) ()) (λ_=>Y (-1)) (λq=>Y q)).bind λu=>Y (decide (0<=u)))=Y (l.any p):=by
 rw [XT h,bs,aY]
end Go.Sf
namespace Go.Sf.Sc
open Go Go.Sf
instance:Inhabited kp:=⟨⟨⟨#[]⟩,0,0,[]⟩⟩
instance:Inhabited Ba:=⟨⟨⟨#[]⟩,0,T,[]⟩⟩
instance:Inhabited Cs:=⟨⟨⟨#[]⟩,0,0,0,0,0,0⟩⟩
instance:Inhabited Bx:=⟨⟨0,0,0⟩⟩
instance:Inhabited CA:=⟨⟨0,0,⟨0,0⟩⟩⟩
instance:Inhabited Test:=⟨⟨0,⟨0,0⟩,⟨0,0⟩⟩⟩
instance:Inhabited d7:=⟨⟨0,[],⟨[],[]⟩,⟨⟨[],[]⟩,[],0,[]⟩⟩⟩
variable{l:Fp}
theorem VJ{f:Int->K1}{p:Int->Bool}(h:∀x∈l,f x=Y (p x)):BF l f=Y (l.any p):=FA h
theorem iZ{l:List Bx}{f:Bx->K1}{p:Bx->Bool}(h:∀x∈l,f x=Y (p x)):Br l f=Y (l.any p):=FA h
theorem db{l:List d7}{f:d7->K1}{p:d7->Bool}(h:∀x∈l,f x=Y (p x)):CI l f=Y (l.any p):=FA h
theorem gv{l:List Ba}{p:Ba->Bool}:Cg l (λx=>Y (p x))=Y (l.any p):=FA (λ_ _=>rfl)
theorem gu{l:List Cs}{p:Cs->Bool}:Cf l (λx=>Y (p x))=Y (l.any p):=FA (λ_ _=>rfl)
theorem t7{l:List kp}{p:kp->Bool}:C5 l (λx=>Y (p x))=Y (l.any p):=FA (λ_ _=>rfl)
theorem dc{p:Int->Bool}:BF l (λx=>Y (p x))=Y (l.any p):=FA (λ_ _=>rfl)
theorem ia{l:List Bx}{p:Bx->Bool}:Br l (λx=>Y (p x))=Y (l.any p):=FA (λ_ _=>rfl)
theorem ib{l:List CA}{p:CA->Bool}:Cm l (λx=>Y (p x))=Y (l.any p):=FA (λ_ _=>rfl)
theorem w8(l:Fp)(v:Int):slices_Index_int l v=Y ((fst (λi=>if decide (v=AA l i)=X then Y i else W) 0 l.length).getD (-1)):=by
 have:=XT (l:=l) (f:=λx=>Y (decide (v=x))) (p:=λx=>decide (v=x)) (λ_ _=>rfl);unfold slices_Index_int
 grind
theorem Mb(l:Fp)(v:Int):slices_Contains_int l v=Y (l.any λx=>decide (v=x)):=by grind[slices_Contains_int,w8,aY]
theorem uA(l:a6)(v:Bool):GM l v=Y (l.any λx=>v==x):=by
 have:=FA (l:=l) (f:=λx=>Y (v==x)) (p:=λx=>v==x) (λ_ _=>rfl);unfold GM KL
 grind
structure T5(a:kp):Prop where
 name:(a.ln.size:Int)<=40
 names:a.sr.length<=25
 each:∀x∈a.sr,(x.size:Int)<=40
structure A3(t:AC):Prop where
 ec:t.d3.length<=20
 eh:t.d4.length<=30
 name:∀n∈t.d3,(n.ln.size:Int)<=40
 Abg:∀n∈t.d3,n.qo.length<=30
 each:∀n∈t.d3,∀a∈n.qo,T5 a
 AbW:∀e∈t.d4,(e.ln.size:Int)<=40
def par(t:AC)(i:Int):Int:=(AA t.d3 i).wl
def E2(t:AC)(k:Int):Prop:=∀i,0<=i->i<k->-1<=par t i/\par t i<i
def B1(t:AC):Nat->Int->List kp
 |0,_=>[]|n+1,a=>if a<0 then[]else B1 t n (par t a)++(AA t.d3 a).qo
def A4(t:AC)(a:Int):List kp:=B1 t (a+1).toNat a
variable{t:AC}{a:Int}
theorem K6{n:Nat}(h:a<0):B1 t n a=[]:=by
 cases n with
 |zero=>rfl|succ n=>rw[B1,ac h]
variable{k:Int}
theorem Oo(d:E2 t k):∀(n m:Nat)(a:Int),a<k->a<n->a<m->B1 t n a=B1 t m a
 |n,m,a,h,j,o=>by
  by_cases f:a<0
  .grind[K6]
  .cases n with
   |zero=>omega|succ n=>
    cases m with
    |zero=>omega|succ m=>
     rw [B1,B1,ae f,ae f];have:=d a U h;rw[Oo d n m (par t a) U U U]
theorem PD(hf:A3 t)(f:k<=t.d3.length)(d:E2 t k):∀(n:Nat)(a:Int),a<k->((B1 t n a).length:Int)<=30*n
 |0,_,_=>by simp[B1]|n+1,a,ha=>by
  rw [B1];split
  .simp;omega
  .rename_i h;have j:=d a U ha;have o:=PD hf f d n (par t a) U;have q:=hf.Abg _ (AF (l:=t.d3) (show 0<=a by omega) U)
   grind
theorem X9(hf:A3 t)(h:k<=t.d3.length)(f:E2 t k):∀(n:Nat)(a:Int),a<k->∀x∈B1 t n a,T5 x
 |0,_,_=>by simp[B1]|n+1,a,ha=>by
  rw [B1];split
  .simp
  .rename_i j;have o:=f a U ha;intro x d;rcases List.mem_append.1 d with d|d
   .exact X9 hf h f n (par t a) U x d
   .exact hf.each _ (AF (l:=t.d3) (show 0<=a by omega) U) x d
theorem H7(hf:A3 t)(d:k<=t.d3.length)(f:E2 t k)(ha:a<k):(A4 t a).length<=600:=by
 have:=PD hf d f (a+1).toNat a ha;have:=hf.ec;unfold A4;omega
theorem PE(hf:A3 t)(d:k<=t.d3.length)(f:E2 t k)(ha:a<k):∀x∈A4 t a,T5 x:=X9 hf d f _ a ha
theorem fG(hf:A3 t)(j:k<=t.d3.length)(h:E2 t k):∀(n:Nat)(a:Int),0<=a->a<k->a<n->Dm n t a=Y (B1 t n a)
 |0,_,_,_,_=>by omega|n+1,a,q,ha,B=>by
  have y:=h a U ha;have u:=PD hf j h n (par t a) U;have z:=hf.Abg _ (AF (l:=t.d3) q U);have A:=hf.ec;rw[Dm,B1,ae U,AD q U];simp only[bs];show((if decide (0<=par t a)=X then(Dm n t (par t a)).bind λf=>Y f else Y []).bind _)=_;have e:(if decide (0<=par t a)=X then(Dm n t (par t a)).bind λf=>Y f else Y [])=Y (B1 t n (par t a)):=by
   by_cases o:0<=par t a
   .rw[ac g_,fG hf j h n (par t a) o U U];rfl
   .rw[ae g_,K6 U]
  have hb:(B1 t n (par t a)).length+(AA t.d3 a).qo.length<=AX:=by
   unfold AX;have:((B1 t n (par t a)).length:Int)<=30*n:=u;have w:B1 t n (par t a)=B1 t 20 (par t a):=by
    by_cases d:par t a<0
    .rw[K6 d,K6 d]
    .exact Oo h n 20 (par t a) U U U
   have x:=PD hf j h 20 (par t a) U;rw[<-w]at x;omega
  rw [e,bs,AS hb];rfl
theorem jO(hf:A3 t)(d:k<=t.d3.length)(f:E2 t k)(h:0<=a)(ha:a<k):OM t a=Y (A4 t a):=
 D0 (a+1).toNat λn j=>by
  grind [fG,A4,Oo]
theorem fY(hf:A3 t)(h:k<=t.d3.length)(f:E2 t k):∀(n:Nat)(a:Int),-1<=a->a<k->a+1<n->EZ n t a=Y (B1 t n a)
 |0,_,_,_,_=>by omega|n+1,a,x,ha,y=>by
  rw [EZ,B1];by_cases d:a<0
  .grind
  .have q:=f a U ha;have u:=hf.Abg _ (AF (l:=t.d3) (show 0<=a by omega) U);have w:=hf.ec;rw[ae c?,ae d,AD U U];simp only[bs];have j:B1 t n (par t a)=B1 t 20 (par t a):=by
    by_cases d:par t a<0
    .rw[K6 d,K6 d]
    .exact Oo f n 20 (par t a) U U U
   have o:=PD hf h f 20 (par t a) U;rw[<-j]at o;have hb:(B1 t n (par t a)).length+(AA t.d3 a).qo.length<=AX:=b_
   rw [show(AA t.d3 a).wl=par t a from rfl,fY hf h f n (par t a) U U U,bs,AS a_];simp only[bs,List.nil_append];rw[AS hb];rfl
theorem ja(hf:A3 t)(d:k<=t.d3.length)(f:E2 t k)(h:0<=a)(ha:a<k):N6 t a=Y (A4 t a):=
 D0 (a+2).toNat λn j=>by
  grind [fY,A4,Oo]
end Go.Sf.Sc
namespace Go.Sf.Sc
open Go Go.Sf
def Mi(l:List ByteArray):Int:=
 if (20:Int)<l.length then 3 else(fst (λi=>if EJ (AA l i)=T then Y 2 else if l3 (λj=>AA l j==AA l i) 0 i=X then Y 5 else W) 0 l.length).getD 0
variable{b:Int}
theorem di{l:List ByteArray}{x:ByteArray}(d:0<=b)(f:b<=l.length):(l.take b.toNat).contains x=l3 (λj=>AA l j==x) 0 b:=by
 rw [List.contains_eq_any_beq,SG d f]
 grind
theorem ul{l:List ByteArray}(o:∀x∈l,(x.size:Int)<=40):KD l=Y (Mi l):=by
 unfold KD Mi;by_cases d:(20:Int)<l.length
 .grind
 .rw[ae c?,ae d];rw[Bj (λi=>if EJ (AA l i)=T then Y 2 else if l3 (λj=>AA l j==AA l i) 0 i=X then Y 5 else W),C8];intro i f h _;have q:=o _ (AF f h);rw[AD f h,bs,SX U,bs,Iv f U];simp only[bs,RS,di f (show i<=l.length by omega)];cases EJ (AA l i)<;>cases l3 (λj=>AA l j==AA l i) 0 i<;>rfl
theorem vF{l:List ByteArray}(o:∀x∈l,(x.size:Int)<=40):J1 l=Y (Mi l):=by
 unfold J1 Mi;by_cases d:(20:Int)<l.length
 .grind
 .rw[ae c?,ae d];rw[Bj (λi=>if EJ (AA l i)=T then Y 2 else if l3 (λj=>AA l j==AA l i) 0 i=X then Y 5 else W),C8];intro i f h _;have q:=o _ (AF f h);rw[AD f h,bs,SY U,bs,Bf (λj=>AA l j==AA l i) 5]
  .cases EJ (AA l i)<;>cases l3 (λj=>AA l j==AA l i) 0 i<;>rfl
  grind [AD]
def ND(all:List kp)(k:Int):Int:=
 let x:=AA all k
 if EJ x.ln=T then 2 else if l3 (λj=>(AA all j).ln==x.ln) 0 k=X then 5 else
 if x.sr.length=0 then(if -1000000<=x.Low/\x.Low<=x.Aaf/\x.Aaf<=1000000 then 0 else 6)else
 if Mi x.sr≠0 then Mi x.sr else if x.Low=0/\x.Aaf=x.sr.length-1 then 0 else 6
variable{k:Int}
theorem iD{d:List kp}(q:∀x∈d,T5 x)(o:0<=k)(u:k<d.length):GO (AA d k) (d.take k.toNat)=Y (ND d k):=by
 have j:=q _ (AF o u);have A:=j.name;unfold GO ND;dsimp only;rw[SX U,bs,show(λf=>KN f (AA d k))=(λf=>Y (f.ln==(AA d k).ln))from rfl,t7,bs,SG o U,ul j.each,bs];have w:=j.names;have y:AJ ((AA d k).sr.length-1)=(AA d k).sr.length-1:=AT U U;rw[y];have z:(AA d k).sr.length=0->Mi (AA d k).sr=0:=λh=>by rw[List.eq_nil_of_length_eq_zero h];rfl
 generalize Mi (AA d k).sr=e at z|-;simp only[bs,tn,z!,pq,z?,decide_eq_false_iff_not,A_,A',A!,ne_eq]
 repeat' (first|rfl|(exfalso;omega;done)|split)
 all_goals (first|rfl|(exfalso;omega)|omega|simp_all|(simp_all;omega))
theorem iF{x:kp}(d:T5 x):GI x=Y (
 if x.sr.length=0 then(if -1000000<=x.Low/\x.Low<=x.Aaf/\x.Aaf<=1000000 then 0 else 6)else
 if Mi x.sr≠0 then Mi x.sr else if x.Low=0/\x.Aaf=x.sr.length-1 then 0 else 6):=by
 have f:=d.names;have h:AJ (x.sr.length-1)=x.sr.length-1:=AT U U;unfold GI ED;simp only[bs,h,vF d.each];generalize Mi x.sr=e;simp only[bs,tn,z!,pq,z?,decide_eq_false_iff_not,A_,A',A!,ne_eq]
 repeat' (first|rfl|(exfalso;omega;done)|split)
 all_goals (first|rfl|(exfalso;omega)|omega|simp_all|(simp_all;omega))
def I3(t:AC)(i:Int):Int:=
 let n:=AA t.d3 i
 if EJ n.ln=T then 2 else if l3 (λj=>(AA t.d3 j).ln==n.ln) 0 i=X then 5 else
 if n.wl< -1\/i<=n.wl then 6 else if 4<n.qo.length\/8<(A4 t i).length then 3 else
 (fst (λk=>nz (ND (A4 t i) k)) ((A4 t i).length-n.qo.length) (A4 t i).length).getD 0
variable{t:AC}{i:Int}
theorem YA(d:0<=i):(AA t.d3 i).qo.length<=(A4 t i).length:=by
 unfold A4;rw[show(i+1).toNat=i.toNat+1 by omega,B1,ae U,b6];omega
theorem E2.next(h:E2 t i)(f:-1<=par t i)(o:par t i<i):E2 t (i+1):=by
 intro j d q;by_cases u:j=i
 .grind
 .exact h j d U
theorem xh(hf:A3 t)(f:0<=i)(u:i<t.d3.length)(z:E2 t i):Lg t i=Y (I3 t i):=by
 have B:=hf.name _ (AF f u);unfold Lg I3;dsimp only;rw[AD f u,bs,SX U,bs,Iv f U,bs,show(λo=>Py o (AA t.d3 i))=(λo=>Y (o.ln==(AA t.d3 i).ln))from rfl,gv,bs,SG f U];cases EJ (AA t.d3 i).ln
 .rfl
 .cases l3 (λj=>(AA t.d3 j).ln==(AA t.d3 i).ln) 0 i
  .by_cases hr:(AA t.d3 i).wl< -1\/i<=(AA t.d3 i).wl
   .rcases hr with hr|hr<;>simp[hr]
   .have d:E2 t (i+1):=z.next (by unfold par;omega) (by unfold par;omega)
    have q:(decide ((AA t.d3 i).wl< -1)||decide (i<=(AA t.d3 i).wl))=T:=by
     rw [A?];simpa using hr
    rw [jO hf (k:=i+1) U d f U,bs];have x:=H7 hf (k:=i+1) (a:=i) U d U;have y:=YA (t:=t) f;have h:=PE hf (k:=i+1) (a:=i) U d U;rw[AT U U,Bj (λk=>nz (ND (A4 t i) k)),C8]
    .simp only[q,hr,B_,z_,if_false];simp only[bs,tn,z!,pq,z?,decide_eq_false_iff_not,A_,A',A!,ne_eq]
     repeat' (first|rfl|(exfalso;omega;done)|split)
     all_goals (first|rfl|(exfalso;omega)|omega|simp_all|(simp_all;omega))
    .intro k A w _;rw[AD U w,bs,Iv U U,bs,iD h U w,bs,N2]
  .rfl
theorem yF(hf:A3 t)(h:0<=i)(q:i<t.d3.length)(z:E2 t i):LM t i=Y (I3 t i):=by
 have D:=hf.name _ (AF h q);have E:=hf.ec;unfold LM I3 ED;dsimp only;rw[AD h q,bs,SY U,bs,Bf (λj=>(AA t.d3 j).ln==(AA t.d3 i).ln) 5]
 .cases EJ (AA t.d3 i).ln
  .rfl
  .cases l3 (λj=>(AA t.d3 j).ln==(AA t.d3 i).ln) 0 i
   .simp only[B_,z_,if_false,B2,bs];rw[AT U U];by_cases hr:(AA t.d3 i).wl< -1\/i<=(AA t.d3 i).wl
    .rw[ac,ae a!,ac hr];simp;omega
    .have d:E2 t (i+1):=z.next (by unfold par;omega) (by unfold par;omega)
     rw [ae an,ae a!,ae hr];rw[ja hf (k:=i+1) U d h U,bs];have w:=H7 hf (k:=i+1) (a:=i) U d U;have x:=YA (t:=t) h;have f:=PE hf (k:=i+1) (a:=i) U d U;rw[AT U U];rw[Bj (λk=>nz (ND (A4 t i) k)),C8]
     .simp only[bs,tn,z!,pq,z?,decide_eq_false_iff_not,A_,A',A!,ne_eq]
      repeat' (first|rfl|(exfalso;omega;done)|split)
      all_goals (first|rfl|(exfalso;omega)|omega|simp_all|(simp_all;omega))
     .intro k u o _;have y:=f _ (AF (show 0<=k by omega) o);have B:=y.name;simp only[AD (show 0<=k by omega) o,bs];rw[SY U,bs,Bf (λj=>(AA (A4 t i) j).ln==(AA (A4 t i) k).ln) 5]
      .rw[iF y];simp only[bs,N2];unfold ND;dsimp only;cases EJ (AA (A4 t i) k).ln
       .rfl
       .cases l3 (λj=>(AA (A4 t i) j).ln==(AA (A4 t i) k).ln) 0 k<;>rfl
      .intro j A C _;rw[AD A U,bs];split<;>rfl
   .rfl
 .intro j u o _;rw[AD u U,bs];split<;>rfl
def Ma(low high:Int):Bool:=((decide (0<=low))&&(decide (low<=40)))&&((decide (high=(-1)))||((decide (low<=high))&&(decide (high<=40))))
theorem u7(low high:Int):L4 low high=Y (Ma low high):=by
 unfold L4 Ma ED
 grind
def LC(t:AC)(i:Int):Int:=
 let x:=AA t.d4 i
 if EJ x.ln=T then 2 else if l3 (λj=>(AA t.d4 j).ln==x.ln) 0 i=X then 5 else
 if (0<=x.ke/\x.ke<t.d3.length)/\(0<=x.To/\x.To<t.d3.length)/\Ma x.AaS x.AaD=X/\Ma x.Abn x.AaU=X then 0 else 6
theorem xY(hf:A3 t)(d:0<=i)(h:i<t.d4.length):Ld t i=Y (LC t i):=by
 have o:=hf.AbW _ (AF d h);unfold Ld LC M9;dsimp only;rw[AD d h,bs,SX U,bs,Iv d U,bs,show(λf=>Px f (AA t.d4 i))=(λf=>Y (f.ln==(AA t.d4 i).ln))from rfl,gu,bs,SG d U];simp[show∀a b,Lu a b=Y (Ma a b)from λ_ _=>rfl];generalize EJ (AA t.d4 i).ln=b1;generalize l3 (λj=>(AA t.d4 j).ln==(AA t.d4 i).ln) 0 i=b2;generalize Ma (AA t.d4 i).AaS (AA t.d4 i).AaD=b3;generalize Ma (AA t.d4 i).Abn (AA t.d4 i).AaU=b4;cases b1
 .rfl
 grind
theorem xy(hf:A3 t)(h:0<=i)(o:i<t.d4.length):LK t i=Y (LC t i):=by
 have q:=hf.AbW _ (AF h o);have u:=hf.ec;unfold LK LC ED;dsimp only;rw[AD h o,bs,SY U,bs,Bf (λj=>(AA t.d4 j).ln==(AA t.d4 i).ln) 5]
 .simp only[AT (show -9223372036854775808<=(t.d3.length:Int)-1 by omega) U,u7,bs];generalize EJ (AA t.d4 i).ln=b1;generalize l3 (λj=>(AA t.d4 j).ln==(AA t.d4 i).ln) 0 i=b2;generalize Ma (AA t.d4 i).AaS (AA t.d4 i).AaD=b3;generalize Ma (AA t.d4 i).Abn (AA t.d4 i).AaU=b4;cases b1
  .rfl
  .cases b2
   .cases b3<;>cases b4
    all_goals
     by_cases ha:0<=(AA t.d4 i).ke/\(AA t.d4 i).ke<t.d3.length
     .have d:(AA t.d4 i).ke<=(t.d3.length:Int)-1:=U
      by_cases hb:0<=(AA t.d4 i).To/\(AA t.d4 i).To<t.d3.length
      .have f:(AA t.d4 i).To<=(t.d3.length:Int)-1:=U
       simp [ha,hb,d,f,B2]
      .have:(decide (0<=(AA t.d4 i).To)&&decide ((AA t.d4 i).To<=(t.d3.length:Int)-1))=T:=e!
       simp [ha,hb,d,this,B2]
     .have:(decide (0<=(AA t.d4 i).ke)&&decide ((AA t.d4 i).ke<=(t.d3.length:Int)-1))=T:=e!
      simp [ha,this,B2]
   .rfl
 grind [AD]
def BC(t:AC):ByteArray×Int:=
 if t.d3.length=0 then(⟨#[]⟩,7)else if 12<t.d3.length\/20<t.d4.length then(⟨#[]⟩,3)else
 match fst (λi=>(nz (I3 t i)).map λe=>((AA t.d3 i).ln,e)) 0 t.d3.length with
 |some r=>r|none=>(fst (λi=>(nz (LC t i)).map λe=>((AA t.d4 i).ln,e)) 0 t.d4.length).getD (⟨#[]⟩,0)
theorem nX(h:I3 t i=0):-1<=par t i/\par t i<i:=by grind[I3,par,AA]
theorem QK{α β:Type}{o:Option α}{g:α->β}:o.map g=W↔o=W:=by cases o<;>simp
theorem Xc(h:∀j,0<=j->j<i->I3 t j=0):E2 t i:=λj d f=>nX (h j d f)
theorem WV{ρ:Type}(e:Int)(n:ByteArray):(if(!decide (e=0))=X then Y (B0.ret (n,e))else Y (B0.next ()))=Y (TM ((nz e).map λe=>(n,e))):=by grind[nz,TM]
theorem O0(hf:A3 t):D9 t=Y (BC t):=by
 unfold D9 BC;rw[Bj (λi=>(nz (I3 t i)).map λe=>((AA t.d3 i).ln,e)),Da]
 .rw[Bj (λi=>(nz (LC t i)).map λe=>((AA t.d4 i).ln,e)),Da]
  .cases fst (λi=>(nz (I3 t i)).map λe=>((AA t.d3 i).ln,e)) 0 t.d3.length<;>cases fst (λi=>(nz (LC t i)).map λe=>((AA t.d4 i).ln,e)) 0 t.d4.length
   all_goals dsimp only
   all_goals try simp only[w_]
   all_goals
    simp only[bs,tn,z!,pq,z?,decide_eq_false_iff_not,A_,A',A!,ne_eq]
    repeat' (first|rfl|(exfalso;omega;done)|split)
    all_goals (first|rfl|(exfalso;omega)|omega|simp_all|(simp_all;omega))
  .intro i d f _;rw[AD d f,bs,xY hf d f,bs];exact WV (ρ:=Unit) _ _
 .intro i d f q;have u:E2 t i:=Xc λj h o=>IX.1 (QK.1 (q j h o));rw[AD d f,bs,xh hf d f u,bs];exact WV (ρ:=Unit) _ _
theorem R7(hf:A3 t):Ee t=Y (BC t):=by
 unfold Ee BC;rw[Bj (λi=>(nz (I3 t i)).map λe=>((AA t.d3 i).ln,e)),Da]
 .rw[Bj (λi=>(nz (LC t i)).map λe=>((AA t.d4 i).ln,e)),Da]
  .cases fst (λi=>(nz (I3 t i)).map λe=>((AA t.d3 i).ln,e)) 0 t.d3.length<;>cases fst (λi=>(nz (LC t i)).map λe=>((AA t.d4 i).ln,e)) 0 t.d4.length
   all_goals dsimp only
   all_goals try simp only[w_]
   all_goals
    simp only[bs,tn,z!,pq,z?,decide_eq_false_iff_not,A_,A',A!,ne_eq]
    repeat' (first|rfl|(exfalso;omega;done)|split)
    all_goals (first|rfl|(exfalso;omega)|omega|simp_all|(simp_all;omega))
  .intro i d f _;simp only[xy hf d f,AD d f,bs];exact WV (ρ:=Unit) _ _
 .intro i d f q;have u:E2 t i:=Xc λj h o=>IX.1 (QK.1 (q j h o));simp only[yF hf d f u,AD d f,bs];exact WV (ρ:=Unit) _ _
end Go.Sf.Sc
namespace Go.Sf.Sc
open Go Go.Sf
theorem I7{α:Type}{c:Bool}{a b:α}:(if c=X then Y a else Y b)=Y (if c=X then a else b):=by cases c<;>rfl
def OR(n:Int):Bool:=(decide (0<=n))&&(decide (n<=99))
def UI(e:Bx)(n:Int):Bool:=OR e.kg&&(decide (0<=e.ke)&&decide (e.ke<n))&&(decide (0<=e.To)&&decide (e.To<n))
def CE(g:d5):Int:=
 if 40<g.d3.length\/80<g.d4.length then 3 else if(g.d3.any λn=>!OR n)=X then 6 else if(g.d4.any λe=>!UI e g.d3.length)=X then 6 else 0
structure Cp(g:d5):Prop where
 ec:g.d3.length<=40
 eh:g.d4.length<=80
 kind:∀n∈g.d3,0<=n/\n<=99
 fit:∀e∈g.d4,(0<=e.kg/\e.kg<=99)/\(0<=e.ke/\e.ke<g.d3.length)/\(0<=e.To/\e.To<g.d3.length)
variable{g:d5}
theorem Dh(h:CE g=0):Cp g:=by
 unfold CE at h;split at h
 .cases h
 .split at h
  .cases h
  .split at h
   .cases h
   .rename_i o f d;refine⟨U,U,λn j=>?_,λe he=>?_⟩
    .rw[B',B?]at f
     grind [OR]
    .rw[B',B?]at d;have:=d e he;simp[UI,OR,z?,tn]at this;omega
theorem xb{e:Bx}{n:Nat}(h:n<=40):PN e n=Y (UI e n):=by
 unfold PN Ii UI OR;simp only[bs,AT (show -9223372036854775808<=(n:Int)-1 by omega) U];have d:decide (e.ke<=(n:Int)-1)=decide (e.ke<n):=i!
 have f:decide (e.To<=(n:Int)-1)=decide (e.To<n):=i!
 rw [d,f];generalize (decide (0<=e.kg)&&decide (e.kg<=99))=b1;generalize (decide (0<=e.ke)&&decide (e.ke<n))=b2;cases b1<;>cases b2<;>simp
theorem Oz(g:d5):DO g=Y (CE g):=by
 unfold DO CE;by_cases h:40<g.d3.length\/80<g.d4.length
 .grind
 .rw[ae an,ae h,show OP=(λn=>Y (!OR n))from rfl,dc,iZ (p:=λe=>!UI e g.d3.length) (λe _=>by
   grind [OQ,xb])]
  grind
theorem NU(g:d5):D7 g=Y (CE g):=by
 unfold D7 CE;by_cases h:40<g.d3.length\/80<g.d4.length
 .grind
 .rw[ae an,ae h,JO,JO,Bf (λi=>!OR (AA g.d3 i)) 6]
  .rw[Bf (λi=>!UI (AA g.d4 i) g.d3.length) 6]
   .cases l3 (λi=>!OR (AA g.d3 i)) 0 g.d3.length
    .cases l3 (λi=>!UI (AA g.d4 i) g.d3.length) 0 g.d4.length<;>rfl
    .rfl
   .intro i d f _;rw[AD d f,bs];unfold Qo UI;simp[show∀n,NV n=Y (OR n)from λ_=>rfl]
    grind
  grind [AD,NV,AA,OR]
def C0(t:AC)(g:d5):Bool:=!(g.d3.any λn=>decide (t.d3.length<=n))&&!(g.d4.any λe=>decide (t.d4.length<=e.kg))
variable{t:AC}
theorem Hq(d:Cp g)(h:C0 t g=X):(∀n∈g.d3,0<=n/\n<t.d3.length)/\∀e∈g.d4,0<=e.kg/\e.kg<t.d4.length:=by
 unfold C0 at h;simp[z?,tn]at h;refine⟨λn f=>?_,λe he=>?_⟩
 .have:=h.1 n f;have:=d.kind n f;omega
 .have:=h.2 e he;have:=d.fit e he;omega
theorem ux(t:AC)(g:d5):LU t g=Y (C0 t g):=by grind[LU,C0,Pr,dc,Ps,Bx,ia]
theorem Zo(h:Cp g):IP t g=Y (C0 t g):=by
 unfold IP C0;rw[JO,JO,Bf (λi=>decide (t.d3.length<=AA g.d3 i)) T]
 .rw[Bf (λi=>decide (t.d4.length<=(AA g.d4 i).kg)) T]
  .cases l3 (λi=>decide (t.d3.length<=AA g.d3 i)) 0 g.d3.length
   .cases l3 (λi=>decide (t.d4.length<=(AA g.d4 i).kg)) 0 g.d4.length<;>rfl
   .rfl
  .intro i d f _;have:=(h.fit _ (AF d f)).1.1;simp[AD d f]
   grind
 .intro i d f _;have:=(h.kind _ (AF d f)).1;simp[AD d f]
  grind
structure Fc(t:AC):Prop where
 ec:t.d3.length<=12
 eh:t.d4.length<=20
 node:∀i:Int,0<=i->i<t.d3.length->I3 t i=0
 edge:∀i:Int,0<=i->i<t.d4.length->LC t i=0
theorem Cq(h:(BC t).2=0):Fc t:=by
 unfold BC at h;split at h
 .cases h
 .split at h
  .cases h
  .rename_i q u;have d:∀i:Int,0<=i->i<t.d3.length->I3 t i=0:=by
    grind [Cl,nz,IX,QK,BH]
   have he:∀i:Int,0<=i->i<t.d4.length->LC t i=0:=by
    split at h
    next r hr=>obtain⟨i,j,o,f,_⟩:=Cl hr;rw[d i j o]at f;cases f
    .cases hr:fst (λi=>(nz (LC t i)).map λe=>((AA t.d4 i).ln,e)) 0 t.d4.length with
     |some r=>
      grind [Cl,nz]
     |none=>
      grind [IX,QK,BH]
   exact ⟨U,U,d,he⟩
theorem Fc.par(h:Fc t):E2 t t.d3.length:=Xc h.node
variable{i:Int}
theorem Fc.ends(h:Fc t)(d:0<=i)(f:i<t.d4.length):(0<=(AA t.d4 i).ke/\(AA t.d4 i).ke<t.d3.length)/\(0<=(AA t.d4 i).To/\(AA t.d4 i).To<t.d3.length):=by
 have:=h.edge i d f
 grind [LC]
def MI(t:AC)(a:Int):Bool:=decide (0<=a)&&decide (a<t.d3.length)
variable{a:Int}
theorem NP:MI t a=X↔0<=a/\a<t.d3.length:=by unfold MI;simp
theorem Zh(hf:A3 t)(l:Fp):HK t l=Y (if(BC t).2≠0 then(BC t).2 else if(l.all (MI t))=X then 0 else 6):=by
 unfold HK;rw[O0 hf,bs,VJ (p:=λa=>!MI t a) (λa _=>by unfold Od MI;rw[show decide (a<0)=!decide (0<=a)from by rw[<-decide_not,decide_eq_decide];omega,show decide ((t.d3.length:Int)<=a)=!decide (a<t.d3.length)from by rw[<-decide_not,decide_eq_decide];omega,Bool.not_and]),bs]
 grind
theorem je(hf:A3 t)(a b:Int):IL t a b=Y (if(BC t).2≠0 then(BC t).2 else if(MI t a&&MI t b)=X then 0 else 6):=by
 have d:=hf.ec;have e:∀a,decide (a<=(t.d3.length:Int)-1)=decide (a<(t.d3.length:Int)):=λa=>i!
 unfold IL ED;rw[R7 hf,bs]
 grind [AT,BC,MI]
theorem oo{α:Type}[Inhabited α]{l:List α}(d:0<=i)(f:i<l.length):BE l i (AA l i)=l:=by grind[BE,AA,C_,List.set_getElem_self]
theorem CH{α:Type}[Inhabited α]{l:List α}(d:0<=i)(f:i<l.length):l.take (i+1).toNat=l.take i.toNat++[AA l i]:=by
 unfold AA;rw[show(i+1).toNat=i.toNat+1 by omega,List.take_add_one,C',C_ U];rfl
theorem Be{α:Type}{l:List α}(h:l.length<=AX):AY [] l=Y l:=by grind[AS]
def Ff(t:AC)(a:Int):List kp×Int:=if(BC t).2≠0 then([],(BC t).2)else if MI t a=X then(A4 t a,0)else([],6)
theorem Ts(hf:A3 t)(a:Int):FI t a=Y (Ff t a):=by
 unfold FI Ff;rw[Zh hf,bs];by_cases h:(BC t).2=0
 .have j:=Cq h;have e:[a].all (MI t)=MI t a:=V
  rw [e];simp[h];cases hi:MI t a
  .rfl
  .rw[ac rfl,ac rfl];have hr:=NP.1 hi;have C:=H7 hf (x! _) j.par hr.2;have A:=PE hf (x! _) j.par hr.2;rw[ae a!,jO hf (x! _) j.par hr.1 hr.2,bs];obtain⟨s',B,rfl⟩:=QG (f:=(λ(o:Int)(q:List kp)=>
 (idx q o).bind λu=>
 (slices_Clone_string u.sr).bind λw=>
 (idx q o).bind λd=>
 Y (BE q o (kp.mk d.ln d.Low d.Aaf w)))) (λ_ s=>s=A4 t a) (a:=0) (b:=(A4 t a).length) (s:=A4 t a) U rfl (λi s x y z=>by
     subst z;have:=(A _ (AF x y)).names;refine⟨A4 t a,?_,rfl⟩;unfold slices_Clone_string;rw[AD x y,bs,Be b_,bs,bs];congr 1;exact oo x y)
   rw [B];rfl
 .simp[h,not_false_eq_true,decide_false]
theorem O1(hf:A3 t)(a:Int):Ds t a=Y (Ff t a):=by
 unfold Ds Ff;rw[je hf,bs];by_cases h:(BC t).2=0
 .have d:=Cq h;rw[Bool.and_self];simp only[h,ne_eq,not_true_eq_false,if_false];cases hi:MI t a
  .rfl
  .rw[ac rfl,ac rfl];have hr:=NP.1 hi;have q:=H7 hf (x! _) d.par hr.2;have o:=PE hf (x! _) d.par hr.2;rw[ae a!,ja hf (x! _) d.par hr.1 hr.2,bs];rw[CC (λi=>(A4 t a).take i.toNat) U V]
   .rw[bs,x?,C!]
   .intro i f j;have:=(o _ (AF f j)).names;rw[AD f j,bs,Be b_,bs,AS (by rw[bk];simp;unfold AX;omega),CH f j];rfl
 grind
theorem EI(h:Cp g):CE g=0:=by
 have:=h.ec;have:=h.eh;unfold CE;rw[ae U,ae,ae]
 .intro k;obtain⟨e,he,k⟩:=C?.1 k;have:=h.fit e he;simp[UI,OR]at k;omega
 .intro k;obtain⟨n,d,k⟩:=C?.1 k;have:=h.kind n d;simp[OR]at k;omega
end Go.Sf.Sc
namespace Go.Sf.Sc
open Go Go.Sf
def Kk(t:AC):Nat->Int->Fp
 |0,_=>[]|n+1,a=>if a<0 then[]else a::Kk t n (par t a)
variable{t:AC}{k:Int}
theorem pK(f:E2 t k):∀(n m:Nat)(a:Int),a<k->a<n->a<m->Kk t n a=Kk t m a
 |n,m,a,h,j,o=>by
  by_cases d:a<0
  .cases n<;>cases m<;>simp[Kk,d]
  .cases n with
   |zero=>omega|succ n=>
    cases m with
    |zero=>omega|succ m=>
     rw [Kk,Kk,ae d,ae d];have:=f a U h;rw[pK f n m (par t a) U U U]
theorem j6(t:AC):∀(n:Nat)(a:Int),(Kk t n a).length<=n
 |0,_=>by simp[Kk]|n+1,a=>by
  rw [Kk];split
  .simp
  .have:=j6 t n (par t a);simp;omega
def G2(t:AC)(a b:Int):Bool:=(Kk t (a+1).toNat a).any λx=>decide (b=x)
theorem jG(f:t.d3.length<=12)(q:E2 t t.d3.length):∀(n:Nat)(a:Int)(l:Fp),a<t.d3.length->a<n->l.length+n<=1000 ->
  ∃x,MU (ρ:=Fp) (λ(d:Int×Fp)=>
 if (decide (0<=d.1))=X then
 (AY d.2 [d.1]).bind λh=>
 (idx t.d3 d.1).bind λj=>
 Y (.next (j.wl,h))
 else
 Y (.brk (d.1,d.2))) (a,l) (.inl (x,l++Kk t n a))
 |0,a,l,o,u,_=>by
  refine ⟨a,.brk ?_⟩
  grind [Kk]
 |n+1,a,l,o,u,A=>by
  by_cases w:a<0
  .refine⟨a,.brk ?_⟩
   grind [Kk]
  .have y:=q a U o;obtain⟨x,z⟩:=jG f q n (par t a) (l++[a]) U U an;refine⟨x,.next (s':=(par t a,l++[a])) ?_ ?_⟩
   .rw[ac an,AS a_,bs,AD U o];rfl
   grind [Kk,par]
variable{a b:Int}
theorem ql(h:Fc t)(ha:0<=a)(d:a<t.d3.length):Lf t a b=Y (G2 t a b):=by
 have f:=h.ec;obtain⟨x,j⟩:=jG f h.par (a+1).toNat a [] d U an;have o:=j6 t (a+1).toNat a;unfold Lf Nk;rw[j.eq,B2]
 grind [slices_Reverse_int,AX,Mb,G2]
theorem Xg(d:E2 t t.d3.length)(hb:0<=b):∀(n m:Nat)(a:Int),-1<=a->a<t.d3.length->a+1<n->a<m->D2 n t a b=Y ((Kk t m a).any λx=>decide (b=x))
 |0,_,_,_,_,_,_=>by omega|n+1,m,a,j,f,o,q=>by
  rw [D2];by_cases ha:a<0
  .rw[ae an,ae an];cases m<;>simp[Kk,ha]
  .cases m with
   |zero=>omega|succ m=>
    have h:=d a U f;rw[Kk,ae ha,List.any_cons,ac (show decide (0<=a)=X by simp;omega),AD U f];simp;rw[show(AA t.d3 a).wl=par t a from rfl,Xg d hb n m (par t a) U U U U]
    grind
theorem We(h:Fc t)(ha:0<=a)(d:a<t.d3.length)(hb:0<=b):FE t a b=Y (G2 t a b):=
 D0 (a+2).toNat λn f=>Xg h.par hb n (a+1).toNat a U d U U
def LE(t:AC)(e f g:Int):Bool:=
 decide ((BC t).2=0)&&(MI t f&&MI t g)&&(decide (0<=e)&&decide (e<t.d4.length))&&(G2 t f (AA t.d4 e).ke&&G2 t g (AA t.d4 e).To)
theorem ng(hf:A3 t)(e f g:Int):Jt t e f g=Y (LE t e f g):=by
 unfold Jt LE;rw[Zh hf,bs,show[f,g].all (MI t)=(MI t f&&MI t g)by simp];by_cases h:(BC t).2=0
 .simp only[h,ne_eq,not_true_eq_false,if_false];have d:=Cq h;cases hi:(MI t f&&MI t g)
  .rfl
  .rw[pq,NP,NP]at hi;by_cases he:0<=e/\e<t.d4.length
   .rw[ae an,AD he.1 he.2];simp[ql d hi.1.1 hi.1.2,ql d hi.2.1 hi.2.2,he.1,he.2,decide_true]
    grind
   grind
 .simp[h]
theorem Yu(hf:A3 t)(e f g:Int):HC t e f g=Y (LE t e f g):=by
 have u:=hf.eh;unfold HC LE ED;rw[je hf,bs];by_cases h:(BC t).2=0
 .simp only[h,ne_eq,not_true_eq_false,if_false];have d:=Cq h;cases hi:(MI t f&&MI t g)
  .rfl
  .rw[pq,NP,NP]at hi;rw[AT U U];simp only[bs];by_cases he:0<=e/\e<t.d4.length
   .have j:=d.ends he.1 he.2;have o:e<=(t.d4.length:Int)-1:=U
    rw [ae V,bs,ae (by simp[he.1,o]),AD he.1 he.2];simp[We d hi.1.1 hi.1.2 j.1.1,We d hi.2.1 hi.2.2 j.2.1,he.1,he.2,decide_true];cases G2 t f (AA t.d4 e).ke<;>rfl
   .have:(decide (0<=e)&&decide (e<t.d4.length))=T:=by rw[A?];simpa using he
    have q:(decide (0<=e)&&decide (e<=(t.d4.length:Int)-1))=T:=e!
    rw [this,q];simp
 .simp[h]
def Oc(n:Int)(x:gt):Bool:=(((decide ((-1)<=x.Var))&&(decide (x.Var<n)))&&(decide ((-1000000)<=x.Add)))&&(decide (x.Add<=1000000))
def Lb(n:Int)(x:Test):Int:=if¬x.kq=1/\¬x.kq=2 then 1 else if(Oc n x.gp&&Oc n x.ei)=X then 0 else 6
def Js(n:Int)(l:List Test):Int:=if n<0\/12<n then 6 else if 40<l.length then 3 else(fst (λi=>nz (Lb n (AA l i))) 0 l.length).getD 0
theorem xk(n:Int)(x:Test):KU n x=Y (Lb n x):=by
 unfold KU Lb;simp only[show∀n x,JT n x=Y (Oc n x)from λ_ _=>rfl,bs];generalize Oc n x.gp=b1;generalize Oc n x.ei=b2;cases b1<;>cases b2
 all_goals
  simp only[bs,tn,z!,pq,z?,decide_eq_false_iff_not,A_,A',A!,ne_eq]
  repeat' (first|rfl|(exfalso;omega;done)|split)
  all_goals (first|rfl|(exfalso;omega)|omega|simp_all|(simp_all;omega))
theorem rN(n:Int)(x:gt):Kb n x=Y (if Oc n x=X then 0 else 6):=by
 unfold Kb Oc;simp only[bs,tn,z!,pq,z?,decide_eq_false_iff_not,A_,A',A!,ne_eq]
 repeat' (first|rfl|(exfalso;omega;done)|split)
 all_goals (first|rfl|(exfalso;omega)|omega|simp_all|(simp_all;omega))
theorem yK(n:Int)(x:Test):RC n x=Y (Lb n x):=by
 unfold RC Lb;simp only[rN,bs];generalize Oc n x.gp=b1;generalize Oc n x.ei=b2;cases b1<;>cases b2
 all_goals
  simp only[bs,tn,z!,pq,z?,decide_eq_false_iff_not,A_,A',A!,ne_eq]
  repeat' (first|rfl|(exfalso;omega;done)|split)
  all_goals (first|rfl|(exfalso;omega)|omega|simp_all|(simp_all;omega))
theorem uw(n:Int)(l:List Test):Ig n l=Y (Js n l):=by
 unfold Ig Js;rw[Bj (λi=>nz (Lb n (AA l i))),C8]
 .simp only[bs,tn,z!,pq,z?,decide_eq_false_iff_not,A_,A',A!,ne_eq]
  repeat' (first|rfl|(exfalso;omega;done)|split)
  all_goals (first|rfl|(exfalso;omega)|omega|simp_all|(simp_all;omega))
 .intro i d f _;rw[AD d f,bs,xk,bs,N2]
theorem vN(n:Int)(l:List Test):N5 n l=Y (Js n l):=by
 unfold N5 Js;rw[Bj (λi=>nz (Lb n (AA l i))),C8]
 .simp only[bs,tn,z!,pq,z?,decide_eq_false_iff_not,A_,A',A!,ne_eq]
  repeat' (first|rfl|(exfalso;omega;done)|split)
  all_goals (first|rfl|(exfalso;omega)|omega|simp_all|(simp_all;omega))
 .intro i d f _;rw[AD d f,bs,yK,bs,N2]
def Sr(t:AC)(p:ea)(node ix:Int):kp×Bool:=
 if node<0\/p.d5.d3.length<=node then(default,T)else
 let l:=(Ff t (AA p.d5.d3 node)).1
 if ix<0\/l.length<=ix then(default,T)else(AA l ix,X)
theorem UB(hf:A3 t)(a:Int):(Ff t a).1.length<=600/\((Ff t a).2≠0->(Ff t a).1=[]):=by
 unfold Ff;split
 .simp
 .rename_i h;have d:=Cq (t:=t) U;split
  next hi=>exact⟨H7 hf (x! _) d.par (NP.1 hi).2,V⟩
  .simp
variable{p:ea}
theorem ue(hf:A3 t)(d:Cp p.d5)(s:CA):Gn t p s=Y (Sr t p s.po s.kp):=by
 have j:=d.ec;unfold Gn Sr C4;dsimp only;rw[AT U U,bs];by_cases h:s.po<0\/p.d5.d3.length<=s.po
 .rw[ac an,ac h];rfl
 .rw[ae an,ae h,AD U U,bs,Ts hf,bs];have o:=(UB hf (AA p.d5.d3 s.po)).1;rw[AT U U,bs];by_cases f:s.kp<0\/(Ff t (AA p.d5.d3 s.po)).1.length<=s.kp
  .rw[ac an,ac f];rfl
  grind [AD]
theorem u0(hf:A3 t)(node d:Int):LR t p node d=Y (Sr t p node d):=by
 unfold LR Sr;dsimp only;by_cases h:node<0\/p.d5.d3.length<=node
 .rw[ac an,ac h];rfl
 .rw[ae an,ae h,AD U U,bs,O1 hf,bs];have j:=(UB hf (AA p.d5.d3 node)).2;by_cases f:d<0\/(Ff t (AA p.d5.d3 node)).1.length<=d
  .rw[ac an,ac f];rfl
  grind [Ff,AA,AD]
end Go.Sf.Sc
namespace Go.Sf
variable{σ ρ:Type}
def bS(s:σ)(o:Option ρ):B0 σ ρ:=match o with
 |none=>.next s|some r=>.ret r
def ox(s:σ)(o:Option ρ):σ ⊕ ρ:=match o with
 |none=>.inl s|some r=>.inr r
theorem eF{f:Int->σ->Option (B0 σ ρ)}(g:Int->σ)(c:Int->Option ρ):∀(n:Nat)(a:Int),
  (∀i,a<=i->i<a+n->(∀j,a<=j->j<i->c j=W)->f i (g i)=Y (bS (g (i+1)) (c i)))->z1 f n a (g a)=Y (ox (g (a+n)) (FM c n a))
 |0,a,_=>by simp[z1,FM,ox]|n+1,a,h=>by
  have q:=h a (x! _) U (λj d o=>U);rw[GF,q,FM];cases y:c a with
  |some r=>rfl|none=>
   simp only[bS];rw[show a+((n+1:Nat):Int)=a+1+n by omega];refine eF g c n (a+1) (λi d o u=>h i U U (λj w x=>?_))
   grind
variable{a b:Int}
theorem Gt{f:Int->σ->Option (B0 σ ρ)}(g:Int->σ)(c:Int->Option ρ){s:σ}(d:a<=b)(o:s=g a)(h:∀i,a<=i->i<b->(∀j,a<=j->j<i->c j=W)->f i (g i)=Y (bS (g (i+1)) (c i))):jj f a b s=Y (ox (g b) (fst c a b)):=by
 subst o;unfold jj fst;have:=eF g c (b-a).toNat a (λi q w u=>h i q U u)
 grind
variable{α:Type}
variable{e:Int}
theorem EO{ζ:a5}{δ:Int}(h:e=0->ζ=Y δ):(if(!decide (e=0))=X then Y e else ζ)=Y (if e≠0 then e else δ):=m?
variable{v:α}{ζ:Option α}{δ:α}
theorem Dy(h:e=0->ζ=Y δ):(if(!decide (e=0))=X then Y v else ζ)=Y (if e≠0 then v else δ):=m?
variable{P:Prop}
theorem Q4[Decidable P]{b:Bool}(hb:b=X↔P)(h:¬P->ζ=Y δ):(if b=X then Y v else ζ)=Y (if P then v else δ):=m?
theorem YE{b:Bool}(h:b=X->ζ=Y δ):(if(!b)=X then Y v else ζ)=Y (if b=T then v else δ):=m?
theorem de{b:Bool}(h:b=T->ζ=Y δ):(if b=X then Y v else ζ)=Y (if b=X then v else δ):=m?
end Go.Sf
namespace Go.Sf.Sc
open Go Go.Sf
def TN(t:AC)(p:ea)(s:CA):Bool:=!(Sr t p s.po s.kp).2||decide (s.gt.Var< -1)||decide (p.fd<=s.gt.Var)||(decide (s.gt.Add< -1000000)||decide (1000000<s.gt.Add))
def IB(p:ea)(v:Int):Bool:=p.ek.any λs=>decide (s.gt.Var=v)
def FD(t:AC)(p:ea):Int:=
 if (BC t).2≠0 then(BC t).2 else if CE p.d5≠0 then CE p.d5 else if C0 t p.d5=T then 13 else
 if p.fd<0\/12<p.fd then 6 else if 10<p.ek.length\/10<p.kl.length then 3 else
 if (p.ek.any (TN t p))=X then 6 else if Js p.fd p.kl≠0 then Js p.fd p.kl else
 if l3 (λv=>!IB p v) 0 p.fd=X then 9 else 0
def Lh(p:ea)(i:Int):a6:=(List.range p.fd.toNat).map λ(v:Nat)=>(p.ek.take i.toNat).any λs=>decide (s.gt.Var=(v:Int))
variable{p:ea}
theorem mF:Lh p 0=List.replicate p.fd.toNat T:=by
 unfold Lh;refine D_ V (λn d f=>V)
theorem pM(p:ea)(i:Int):(Lh p i).length=p.fd.toNat:=by simp[Lh]
variable{i:Int}
theorem pN(d:0<=i)(f:i<p.ek.length)(hv:0<=(AA p.ek i).gt.Var):BE (Lh p i) (AA p.ek i).gt.Var X=Lh p (i+1):=by
 unfold BE;refine D_ (by simp[Lh]) (λn h j=>?_);simp[Lh,CH d f]
 grind
theorem mE(d:0<=i)(f:i<p.ek.length)(hv:(AA p.ek i).gt.Var<0):Lh p i=Lh p (i+1):=by
 refine D_ (by simp[Lh]) (λn h j=>?_);simp[Lh,CH d f]
 grind
theorem pL(p:ea):((Lh p p.ek.length).any λx=>T==x)=l3 (λv=>!IB p v) 0 p.fd:=by
 rw [y!,C?,Cu];simp only[Lh,x?,C!,D',List.mem_range];constructor
 .rintro⟨x,⟨v,hv,rfl⟩,d⟩;refine⟨v,U,U,?_⟩
  grind [IB]
 .rintro⟨v,f,h,d⟩;refine⟨_,⟨v.toNat,U,rfl⟩,?_⟩
  grind [Int.toNat_of_nonneg,IB]
theorem jB{α ρ:Type}[Inhabited α]{l:List α}{q:α->Bool}{v:ρ}:fst (λi=>if q (AA l i)=X then Y v else W) 0 l.length=if l.any q=X then Y v else W:=by
 rw [Ou,JO]
variable{t:AC}
theorem Yn(hf:A3 t)(p:ea):Do t p=Y (FD t p):=by
 unfold Do FD;rw[O0 hf,bs,Oz,bs];refine EO λE=>EO λC=>?_;have w:=Dh C;have e:((BF p.d5.d3 (λd=>Ht d t)).bind λj=>
   (if j=X then Y X else((Br p.d5.d4 (λd=>Hu d t)).bind λo=>Y (o))))=Y (!C0 t p.d5):=by
  unfold C0;rw[show(λd=>Ht d t)=(λ(n:Int)=>Y (decide (t.d3.length<=n)))from rfl,dc,show(λd=>Hu d t)=(λ(e:Bx)=>Y (decide (t.d4.length<=e.kg)))from rfl,ia];simp only[bs];cases p.d5.d3.any λn=>decide (t.d3.length<=n)<;>simp
 rw [<-w?,e,bs];refine YE λD=>?_;unfold C4;simp only[bs];refine Q4 i? λhv=>Q4 i? λF=>?_;unfold He;rw[ac U,bs,<-mF,AT (show -9223372036854775808<=p.fd-1 by omega) U,Gt (Lh p) (λi=>if TN t p (AA p.ek i)=X then Y 6 else W) U rfl,jB]
 .cases hb:p.ek.any (TN t p)
  .simp only[z_,if_false,ox,B2,uw,bs,uA,pL];by_cases f:Js p.fd p.kl=0
   .simp[f];cases l3 (λv=>!IB p v) 0 p.fd<;>rfl
   .simp[f]
  .rfl
 .intro i q u _;rw[AD q u,bs,ue hf w,bs];unfold TN;by_cases hb:(Sr t p (AA p.ek i).po (AA p.ek i).kp).2=X
  .by_cases B:(AA p.ek i).gt.Var< -1\/p.fd<=(AA p.ek i).gt.Var
   .have x:(decide (-1<=(AA p.ek i).gt.Var)&&decide ((AA p.ek i).gt.Var<=p.fd-1))=T:=e!
    have y:(decide ((AA p.ek i).gt.Var< -1)||decide (p.fd<=(AA p.ek i).gt.Var))=X:=an
    rw [hb,x,B! (!X),y];rfl
   .have x:(decide (-1<=(AA p.ek i).gt.Var)&&decide ((AA p.ek i).gt.Var<=p.fd-1))=X:=an
    have y:(decide ((AA p.ek i).gt.Var< -1)||decide (p.fd<=(AA p.ek i).gt.Var))=T:=e!
    rw [hb,x,B! (!X),y];by_cases ha:(AA p.ek i).gt.Add< -1000000\/1000000<(AA p.ek i).gt.Add
    .have z:(decide (-1000000<=(AA p.ek i).gt.Add)&&decide ((AA p.ek i).gt.Add<=1000000))=T:=e!
     have A:(decide ((AA p.ek i).gt.Add< -1000000)||decide (1000000<(AA p.ek i).gt.Add))=X:=an
     rw [z,A];rfl
    .have z:(decide (-1000000<=(AA p.ek i).gt.Add)&&decide ((AA p.ek i).gt.Add<=1000000))=X:=an
     have A:(decide ((AA p.ek i).gt.Add< -1000000)||decide (1000000<(AA p.ek i).gt.Add))=T:=e!
     rw [z,A];by_cases h:0<=(AA p.ek i).gt.Var
     .simp[h,decide_true];rw[AD h (by rw[pM];omega),bs,pN q u h];rfl
     .simp[h,decide_false];rw[mE q u U];rfl
  .rw[B']at hb;rw[hb];rfl
theorem tM(p:ea)(v:Int):Mt p v=Y (IB p v):=by
 unfold Mt IB;rw[Bf (λi=>decide ((AA p.ek i).gt.Var=v)) X,JO]
 .cases l3 (λi=>decide ((AA p.ek i).gt.Var=v)) 0 p.ek.length<;>rfl
 .intro i d f _;rw[AD d f,bs,I7]
theorem cy(hf:A3 t)(p:ea):F4 t p=Y (FD t p):=by
 unfold F4 FD;rw[R7 hf,bs,NU,bs];refine EO λu=>EO λo=>?_;have f:=Dh o;rw[Zo f,bs];refine YE λq=>Q4 i? λhv=>Q4 i? λw=>?_;rw[Bf (λi=>TN t p (AA p.ek i)) 6,<-JO]
 .cases hb:p.ek.any (TN t p)
  .simp only[z_,if_false,B2,vN,bs];by_cases d:Js p.fd p.kl=0
   .simp only[d];rw[Bf (λv=>!IB p v) 9]
    .cases l3 (λv=>!IB p v) 0 p.fd<;>rfl
    .intro i h j _;rw[tM,bs,I7]
   .simp[d]
  .rfl
 .intro i h j _;rw[AD h j,bs,u0 hf,bs];unfold TN OU
  grind
def Oa(t:AC)(p:ea)(i:Int):Int:=
 let s:=AA p.ek i
 if s.po<0\/p.d5.d3.length<=s.po then 6 else
 let l:=(Ff t (AA p.d5.d3 s.po)).1
 if ((((((decide (s.kp<0))||(decide ((l.length:Int)<=s.kp)))||(decide (s.gt.Var<(-1))))||(decide (p.fd<=s.gt.Var)))||(decide (s.gt.Add<(-1000000))))||(decide (1000000<s.gt.Add)))=X then 6 else
 if l3 (λj=>(decide ((AA p.ek j).po=s.po))&&(decide ((AA p.ek j).kp=s.kp))) 0 i=X then 5 else 0
theorem xj(hf:A3 t)(r:ff)(d:0<=i)(f:i<r.ei.ek.length):M1 t r i=Y (Oa t r.ei i):=by
 unfold M1 Oa;dsimp only;rw[AD d f,bs];refine Q4 V λh=>?_;rw[AD U U,bs,Ts hf,bs,Iv d U,bs,
  show (λj=>Qx j (AA r.ei.ek i))=(λy=>Y ((decide (y.po=(AA r.ei.ek i).po))&&(decide (y.kp=(AA r.ei.ek i).kp))))from rfl,ib,bs,SG d U]
 grind
theorem yI(hf:A3 t)(p:ea)(d:0<=i)(f:i<p.ek.length):LS t p i=Y (Oa t p i):=by
 unfold LS Oa;dsimp only;rw[AD d f,bs];refine Q4 V λh=>?_;rw[AD U U,bs,O1 hf,bs,
  Bf (λj=>(decide ((AA p.ek j).po=(AA p.ek i).po))&&(decide ((AA p.ek j).kp=(AA p.ek i).kp))) 5]
 .refine de λ_=>?_;cases l3 (λj=>(decide ((AA p.ek j).po=(AA p.ek i).po))&&(decide ((AA p.ek j).kp=(AA p.ek i).kp))) 0 i<;>rfl
 grind [AD,AA,kp]
def Jl(t:AC)(r:ff):Int:=
 if CE r.ei.d5≠0 then CE r.ei.d5 else if C0 t r.ei.d5=T then 13 else
 if r.ei.fd≠r.gp.fd\/0<r.ei.kl.length then 1 else if 10<r.ei.ek.length then 3 else
 (fst (λi=>nz (Oa t r.ei i)) 0 r.ei.ek.length).getD 0
theorem uq(hf:A3 t)(r:ff):LT t r=Y (Jl t r):=by
 unfold LT Jl;rw[Oz,bs,ux,bs,Bj (λi=>nz (Oa t r.ei i)),C8]
 .grind
 grind [xj,N2]
theorem vH(hf:A3 t)(r:ff):KA t r=Y (Jl t r):=by
 unfold KA Jl;rw[NU,bs];refine EO λd=>?_;rw[Zo (Dh d),bs,Bj (λi=>nz (Oa t r.ei i)),C8]
 .grind
 grind [yI,N2]
end Go.Sf.Sc
namespace Go.Sf
variable{a b:Int}
theorem ko{ρ:Type}{c d:Int->Option ρ}(h:∀i,c i=d i):fst c a b=fst d a b:=by rw[funext h]
def DY(l:Fp)(v:Int):Int:=(fst (λi=>if decide (v=AA l i)=X then Y i else W) 0 l.length).getD (-1)
variable{l:Fp}
theorem Hd{v:Int}(h:v∈l):0<=DY l v/\DY l v<l.length/\AA l (DY l v)=v/\∀j,0<=j->j<DY l v->AA l j≠v:=by
 unfold DY;cases hf:fst (λi=>if decide (v=AA l i)=X then Y i else W) 0 l.length with
 |none=>
  grind [BT,BH]
 |some k=>
  grind [Cl,AA]
variable{R:Int->Int->Prop}
theorem IK(h:l.Pairwise R){i j:Int}(d:0<=i)(f:i<j)(o:j<l.length):R (AA l i) (AA l j):=by grind[D!,AA,C_]
theorem Wn(h:∀i j:Int,0<=i->i<j->j<l.length->R (AA l i) (AA l j)):l.Pairwise R:=by
 refine D!.2 (λi j d f o=>?_);have:=h i j U U U;unfold AA at this
 grind
theorem XJ(u:l.Pairwise (·<·)){v:Int}(h:v∈l):(l.countP (λx=>decide (x<v)):Int)=DY l v:=by
 obtain ⟨w,y,o,_⟩:=Hd h;generalize C:DY l v=k at w y o;have e:l=l.take k.toNat++l.drop k.toNat:=(List.take_append_drop _ _).symm;have z:(l.take k.toNat).countP (λx=>decide (x<v))=k.toNat:=by
  rw [List.countP_eq_length.2 (λx d=>?_),bk]
  .omega
  .obtain⟨i,i1,i2,rfl⟩:=BT d;rw[bk]at i2;rw[x8 U,tn,<-o];exact IK u i1 U y
 have A:(l.drop k.toNat).countP (λx=>decide (x<v))=0:=by
  rw [List.countP_eq_zero];intro x d;obtain⟨n,q⟩:=List.getElem?_of_mem d;rw[List.getElem?_drop]at q;have B:=(List.getElem?_eq_some_iff.1 q).1;have f:x=AA l (k+n):=by
   unfold AA;rw[C',show(k+(n:Int)).toNat=k.toNat+n by omega,q];rfl
  rw [tn,f,<-o];by_cases j:n=0
  .subst j;simp
  .have:=IK u w (show k<k+(n:Int)by omega) U;omega
 rw [e,List.countP_append,z,A];omega
end Go.Sf
namespace Go.Sf.Sc
open Go Go.Sf
theorem uP(l:Fp)(n:Int):(em (jj (ρ:=Int) (λ(h:Int)(_:Unit)=>
 (idx l h).bind λd=>
 if (decide (d=n))=X then
 Y (.ret h)
 else
 Y (.next ())) 0 (l.length:Int) ()) (λ_=>
 Y (-1)) (λj=>Y j))=Y (DY l n):=by
 have:=XT (l:=l) (f:=λx=>Y (decide (x=n))) (p:=λx=>decide (x=n)) (λ_ _=>rfl);simp only[bs]at this;rw[this];unfold DY;congr 2;exact ko λi=>by simp[eq_comm]
theorem yE(l:Fp)(v:Int):J3 l v=Y (DY l v):=uP l v
def hasB(l:Fp)(v:Int):Bool:=l.any λx=>decide (v=x)
variable{l:Fp}
theorem B6{v:Int}:hasB l v=X↔v∈l:=by
 unfold hasB
 grind
theorem QI(l:Fp)(n:Int):(em (jj (ρ:=Bool) (λ(f:Int)(_:Unit)=>
 (idx l f).bind λd=>
 if (decide (d=n))=X then
 Y (.ret X)
 else
 Y (.next ())) 0 (l.length:Int) ()) (λ_=>
 Y T) (λh=>Y h))=Y (hasB l n):=by
 unfold hasB;rw[Bf (λi=>decide (n=AA l i)) X,JO]
 .cases l3 (λi=>decide (n=AA l i)) 0 l.length<;>rfl
 .intro i j o _;rw[AD j o,bs,I7];simp[eq_comm]
theorem vD(l:Fp)(v:Int):TC l v=Y (hasB l v):=QI l v
theorem vC(l:Fp)(v:Int):RD l v=Y (hasB l v):=QI l v
def P9(l:Fp)(n:Int):Int:=(fst (λi=>if AA l i<0\/n<=AA l i then Y 6 else if 0<i/\AA l i<=AA l (i-1)then Y 12 else W) 0 l.length).getD 0
theorem tH(q:l.length<=1000)(n:Int):JH l n=Y (P9 l n):=by
 unfold JH P9;rw[Bj (λi=>if AA l i<0\/n<=AA l i then Y 6 else if 0<i/\AA l i<=AA l (i-1)then Y 12 else W),C8];intro i j o _;rw[AD j o,bs];by_cases h:AA l i<0\/n<=AA l i
 .rw[ac b?,ac h];rfl
 .rw[ae b?,ae h];by_cases d:0<i
  .rw[ac c?,AT U U,AD U U,bs,bs];by_cases f:AA l i<=AA l (i-1)
   .rw[ac d!,ac ⟨d,f⟩];rfl
   .rw[ae d!,ae (λh=>f h.2)];rfl
  .rw[ae c?,bs,ae a!,ae (λh=>d h.1)];rfl
theorem tK(u:l.length<=1000)(n:Int):Hh l n=Y (P9 l n):=by
 unfold Hh P9;rw[Bj (λi=>if AA l i<0\/n<=AA l i then Y 6 else if 0<i/\AA l i<=AA l (i-1)then Y 12 else W),C8];intro i j o _;rw[AD j o];simp only[bs];by_cases h:AA l i<0\/n<=AA l i
 .have:(if decide (AA l i<0)=X then Y X else Y (decide (n<=AA l i)))=Y X:=by
   rcases h with h|h
   .simp[h]
   .by_cases q:AA l i<0<;>simp[h,q]
  rw [this,bs,ac rfl,ac h];rfl
 .have:(if decide (AA l i<0)=X then Y X else Y (decide (n<=AA l i)))=Y T:=by
   rw [ae an,decide_eq_false U]
  rw [this,bs,ae a!,ae h];by_cases d:0<i
  .rw[ac c?,AT U U,AD U U,bs,bs];by_cases f:AA l i<=AA l (i-1)
   .rw[ac d!,ac ⟨d,f⟩];rfl
   .rw[ae d!,ae (λh=>f h.2)];rfl
  .rw[ae c?,bs,ae a!,ae (λh=>d h.1)];rfl
variable{a b:Int}
theorem S0{c:Int->a5}(d:∀i,c i≠Y 0)(h:(fst c a b).getD 0=0):∀i,a<=i->i<b->c i=W:=by
 have:fst c a b=W:=by
  cases hf:fst c a b with
  |none=>rfl|some r=>
   grind [w_,Cl]
 exact BH.1 this
variable{n:Int}
theorem VF(h:P9 l n=0):(∀x∈l,0<=x/\x<n)/\l.Pairwise (·<·):=by
 have y:=S0 (c:=λi=>if AA l i<0\/n<=AA l i then Y 6 else if 0<i/\AA l i<=AA l (i-1)then Y 12 else W) (λi=>by
  split
  .simp
  .split<;>simp) h
 have f:∀i:Int,0<=i->i<l.length->(0<=AA l i/\AA l i<n)/\(0<i->AA l (i-1)<AA l i):=by
  intro i o w;have:=y i o w;split at this
  .cases this
  .split at this
   .cases this
   .omega
 refine ⟨λx q=>?_,Wn (λi j o d u=>?_)⟩
 .obtain⟨i,i1,i2,rfl⟩:=BT q;exact(f i i1 i2).1
 .obtain⟨k,z⟩:∃k:Nat,j=i+1+k:=⟨(j-i-1).toNat,U⟩;subst z;clear d
  induction k with
  |zero=>
   have:=(f (i+1) U U).2 U;rw[show i+1-1=i by omega]at this;simpa using this
  |succ k A=>
   have a:=A U;have b:=(f (i+1+((k+1:Nat):Int)) U u).2 U;rw[show i+1+((k+1:Nat):Int)-1=i+1+k by omega]at b;omega
theorem Ug(f:l.length<=1000)(d:l.Pairwise (·<·))(v:Int):slices_BinarySearch_int l v=Y (((l.countP (λx=>decide (x<v)):Nat):Int),hasB l v):=by
 unfold slices_BinarySearch_int;rw[ac ⟨b_,d.imp (λh=>U)⟩];congr 2;rw[y!,B6,List.contains_iff_mem]
def OS(g:d5)(p:BR):Int:=
 if P9 p.d3 g.d3.length≠0 then P9 p.d3 g.d3.length else if P9 p.d4 g.d4.length≠0 then P9 p.d4 g.d4.length else
 (fst (λi=>if(hasB p.d3 (AA g.d4 (AA p.d4 i)).ke&&hasB p.d3 (AA g.d4 (AA p.d4 i)).To)=X then W else Y 14) 0 p.d4.length).getD 0
structure Q2(g:d5)(p:BR):Prop where
 ec:(∀x∈p.d3,0<=x/\x<g.d3.length)/\p.d3.Pairwise (·<·)
 eh:(∀x∈p.d4,0<=x/\x<g.d4.length)/\p.d4.Pairwise (·<·)
 ends:∀x∈p.d4,(AA g.d4 x).ke∈p.d3/\(AA g.d4 x).To∈p.d3
variable{g:d5}
theorem Vs{p:BR}(h:OS g p=0):Q2 g p:=by
 unfold OS at h;split at h
 .omega
 .split at h
  .omega
  .rename_i f j;refine⟨VF U,VF U,λx d=>?_⟩;obtain⟨i,i1,i2,rfl⟩:=BT d;have:=S0 (c:=λi=>if(hasB p.d3 (AA g.d4 (AA p.d4 i)).ke&&hasB p.d3 (AA g.d4 (AA p.d4 i)).To)=X then W else Y 14) (λi=>by
    split<;>simp) h i i1 i2
   split at this
   next hb=>rw[pq,B6,B6]at hb;exact hb
   .cases this
def ES(g:d5)(p:BR):Int:=if CE g≠0 then CE g else OS g p
structure TL(p:BR):Prop where
 ec:p.d3.length<=1000
 eh:p.d4.length<=1000
theorem jT{p:BR}(d:TL p):Fu g p=Y (ES g p):=by
 unfold Fu ES;rw[Oz,bs];refine EO λf=>?_;have o:=Dh f;unfold Ob OS;rw[tH d.ec,bs,tH d.eh,bs,x_];refine EO λh=>EO λj=>?_;obtain⟨a1,a2⟩:=VF h;obtain⟨q,u⟩:=VF j;rw[Bj (λi=>if(hasB p.d3 (AA g.d4 (AA p.d4 i)).ke&&hasB p.d3 (AA g.d4 (AA p.d4 i)).To)=X then W else Y 14),C8];intro i i1 i2 _;have hb:=q _ (AF i1 i2);unfold M6;rw[AD i1 i2,bs,AD hb.1 hb.2];simp[Ug d.ec a2];cases hasB p.d3 (AA g.d4 (AA p.d4 i)).ke<;>cases hasB p.d3 (AA g.d4 (AA p.d4 i)).To<;>rfl
theorem Zn{p:BR}(d:TL p):J2 g p=Y (ES g p):=by
 unfold J2 ES;rw[NU,bs];refine EO λf=>?_;have j:=Dh f;unfold Qp OS;rw[tK d.ec,bs,tK d.eh,bs,x_];refine EO λq=>EO λh=>?_;obtain⟨o,u⟩:=VF h;rw[Bj (λi=>if(hasB p.d3 (AA g.d4 (AA p.d4 i)).ke&&hasB p.d3 (AA g.d4 (AA p.d4 i)).To)=X then W else Y 14),C8];intro i i1 i2 _;have hb:=o _ (AF i1 i2);rw[AD i1 i2,bs,AD hb.1 hb.2];simp[vC];cases hasB p.d3 (AA g.d4 (AA p.d4 i)).ke<;>cases hasB p.d3 (AA g.d4 (AA p.d4 i)).To<;>rfl
def DC(g:d5)(p:BR):d5:=⟨p.d3.map (AA g.d3),p.d4.map λx=>⟨(AA g.d4 x).kg,DY p.d3 (AA g.d4 x).ke,DY p.d3 (AA g.d4 x).To⟩⟩
variable{i:Int}
theorem JA{α:Type}{f:Int->α}(d:0<=i)(h:i<l.length):(l.take (i+1).toNat).map f=(l.take i.toNat).map f++[f (AA l i)]:=by grind[CH]
theorem UN(w:l.length<=1000)(h:∀x∈l,0<=x/\x<g.d3.length)(es:List Bx):(n8 (λ(u:Int)(o:d5)=>
 (idx l u).bind λd=>
 (idx g.d3 d).bind λf=>
 (AY o.d3 [f]).bind λj=>
 Y (d5.mk j o.d4)) 0 (l.length:Int) (d5.mk [] es))=Y (d5.mk (l.map (AA g.d3)) es):=by
 rw [CC (λi=>d5.mk ((l.take i.toNat).map (AA g.d3)) es) U V]
 .rw[x?,C!]
 .intro i i1 i2;have q:=h _ (AF i1 i2);rw[AD i1 i2,bs,AD q.1 q.2,bs,AS a_,bs,JA i1 i2]
theorem YR(y:l.length<=1000)(h:∀x∈l,0<=x/\x<g.d4.length)(ns:Fp)(F:Bx->Bx){f:Bx->List Bx->Option (List Bx)}(hf:∀x∈l,∀s,s.length<=1000->f (AA g.d4 x) s=Y (s++[F (AA g.d4 x)])):(n8 (λ(w:Int)(q:d5)=>
 (idx l w).bind λd=>
 (idx g.d4 d).bind λj=>
 (f j q.d4).bind λo=>
 Y (d5.mk q.d3 o)) 0 (l.length:Int) (d5.mk ns []))=Y (d5.mk ns (l.map λx=>F (AA g.d4 x))):=by
 rw [CC (λi=>d5.mk ns ((l.take i.toNat).map λx=>F (AA g.d4 x))) U V]
 .rw[x?,C!]
 .intro i i1 i2;have u:=h _ (AF i1 i2);rw[AD i1 i2,bs,AD u.1 u.2,bs,hf _ (AF i1 i2) _ an,bs,JA i1 i2]
theorem nf{p:BR}(d:TL p):Fa g p=Y (if ES g p≠0 then(⟨[],[]⟩,⟨[],[]⟩,ES g p)else(DC g p,⟨p.d3,p.d4⟩,0)):=by
 unfold Fa;rw[jT d,bs];refine Dy λh=>?_;have w:CE g=0/\OS g p=0:=by
  grind [ES]
 have ho:=Vs w.2;rw[UN d.ec ho.ec.1,bs];have:=YR (g:=g) (l:=p.d4) d.eh ho.eh.1 (p.d3.map (AA g.d3)) (λx=>⟨x.kg,DY p.d3 x.ke,DY p.d3 x.To⟩) (f:=λj s=>
  (slices_BinarySearch_int p.d3 j.ke).bind λo=>
  (slices_BinarySearch_int p.d3 j.To).bind λq=>
  AY s [Bx.mk j.kg o.1 q.1]) (λx u s y=>by
   have he:=ho.ends x u;rw[Ug d.ec ho.ec.2,bs,Ug d.ec ho.ec.2,bs,AS a_,XJ ho.ec.2 he.1,XJ ho.ec.2 he.2])
 simp [w?]at this;rw[this,bs];unfold slices_Clone_int;have z:=d.ec;have A:=d.eh;rw[Be b_,bs,Be b_];rfl
theorem Vw{p:BR}(j:TL p):Hm g p=Y (if ES g p≠0 then(⟨[],[]⟩,⟨[],[]⟩,ES g p)else(DC g p,⟨p.d3,p.d4⟩,0)):=by
 unfold Hm;rw[Zn j,bs];refine Dy λh=>?_;have u:CE g=0/\OS g p=0:=by
  grind [ES]
 have ho:=Vs u.2;rw[UN j.ec ho.ec.1,bs];have:=YR (g:=g) (l:=p.d4) j.eh ho.eh.1 (p.d3.map (AA g.d3)) (λx=>⟨x.kg,DY p.d3 x.ke,DY p.d3 x.To⟩) (f:=λd s=>
  (J3 p.d3 d.ke).bind λo=>
  (J3 p.d3 d.To).bind λq=>
  AY s [Bx.mk d.kg o q]) (λx w s y=>by
   grind [yE,AS,AX])
 simp [w?]at this;rw[this,bs];have z:=j.ec;have A:=j.eh;rw[Be b_,bs,Be b_];rfl
end Go.Sf.Sc
namespace Go.Sf.Sc
open Go Go.Sf
def Mh(a b:d5)(m:d6)(i:Int):a5:=
 if AA m.d3 i<0\/b.d3.length<=AA m.d3 i then Y 6 else if AA b.d3 (AA m.d3 i)≠AA a.d3 i then Y 13 else W
def Gl(a b:d5)(m:d6)(i:Int):a5:=
 if AA m.d4 i<0\/b.d4.length<=AA m.d4 i then Y 6 else
 if (AA a.d4 i).kg≠(AA b.d4 (AA m.d4 i)).kg then Y 13 else
 if AA m.d3 (AA a.d4 i).ke≠(AA b.d4 (AA m.d4 i)).ke\/AA m.d3 (AA a.d4 i).To≠(AA b.d4 (AA m.d4 i)).To then Y 11 else W
def Il(a b:d5)(m:d6):Int:=
 if CE a≠0 then CE a else if CE b≠0 then CE b else if m.d3.length≠a.d3.length\/m.d4.length≠a.d4.length then 20 else
 match fst (Mh a b m) 0 m.d3.length with
 |some e=>e|none=>(fst (Gl a b m) 0 m.d4.length).getD 0
structure T6(a b:d5)(m:d6):Prop where
 ga:Cp a
 gb:Cp b
 Aal:m.d3.length=a.d3.length
 Aap:m.d4.length=a.d4.length
 node:∀i:Int,0<=i->i<m.d3.length->(0<=AA m.d3 i/\AA m.d3 i<b.d3.length)/\AA b.d3 (AA m.d3 i)=AA a.d3 i
 edge:∀i:Int,0<=i->i<m.d4.length->(0<=AA m.d4 i/\AA m.d4 i<b.d4.length)/\(AA a.d4 i).kg=(AA b.d4 (AA m.d4 i)).kg/\
  AA m.d3 (AA a.d4 i).ke=(AA b.d4 (AA m.d4 i)).ke/\AA m.d3 (AA a.d4 i).To=(AA b.d4 (AA m.d4 i)).To
variable{m:d6}
theorem WS{a b:d5}(h:Il a b m=0):T6 a b m:=by
 unfold Il at h;split at h
 .omega
 split at h
 .omega
 split at h
 .cases h
 rename_i f j o;have d:fst (Mh a b m) 0 m.d3.length=W:=by
  grind [Cl,Mh]
 rw [d]at h;have he:=S0 (λi=>by
  grind [Gl]) h
 refine ⟨Dh U,Dh U,U,U,λi i1 i2=>?_,λi i1 i2=>?_⟩
 .grind[BH,Mh]
 grind [Gl]
theorem cl(a b:d5)(m:d6):D6 a b m=Y (Il a b m):=by
 unfold D6 Il;rw[Oz,bs,Oz,bs];refine EO λha=>EO λhb=>Q4 i? λu=>?_;have ga:=Dh ha;have gb:=Dh hb;rw[Bj (Mh a b m),Da]
 .cases o:fst (Mh a b m) 0 m.d3.length with
  |some e=>rfl|none=>
   have q:=BH.1 o;dsimp only;rw[Bj (Gl a b m),C8];intro i i1 i2 _;unfold Gl;rw[AD i1 i2,bs];by_cases d:AA m.d4 i<0\/b.d4.length<=AA m.d4 i
   .rw[ac c?,ac d];rfl
   .have hf:=ga.fit _ (AF (l:=a.d4) i1 U);rw[ae c?,ae d,AD i1 U,bs,AD U U,bs];by_cases f:(AA a.d4 i).kg=(AA b.d4 (AA m.d4 i)).kg
    .rw[ae d!,ae d!,AD U U,bs];by_cases h:AA m.d3 (AA a.d4 i).ke=(AA b.d4 (AA m.d4 i)).ke
     .rw[ae b?,AD U U,bs,bs];by_cases j:AA m.d3 (AA a.d4 i).To=(AA b.d4 (AA m.d4 i)).To
      .rw[ae e?,ae (by simp[h,j])];rfl
      .rw[ac e?,ac (.inr j)];rfl
     .rw[ac b?,bs,ac rfl,ac (.inl h)];rfl
    .rw[ac d!,ac f];rfl
 .intro i i1 i2 _;unfold Mh;rw[AD i1 i2,bs];by_cases d:AA m.d3 i<0\/b.d3.length<=AA m.d3 i
  .rw[ac c?,ac d];rfl
  .rw[ae c?,ae d,AD U U,bs,AD i1 U,bs];by_cases f:AA b.d3 (AA m.d3 i)=AA a.d3 i
   .rw[ae d!,ae d!];rfl
   .rw[ac d!,ac f];rfl
theorem Vp{x y:Prop}[Decidable x][Decidable y]:(if decide x=X then Y X else Y (decide y))=Y (decide (x\/y)):=m?
theorem cx(a b:d5)(m:d6):IM a b m=Y (Il a b m):=by
 unfold IM Il;rw[NU,bs,NU,bs];refine EO λha=>EO λhb=>Q4 i? λu=>?_;have ga:=Dh ha;have gb:=Dh hb;rw[show(a.d3.length:Int)=m.d3.length by omega,show(a.d4.length:Int)=m.d4.length by omega,Bj (Mh a b m),Da]
 .cases o:fst (Mh a b m) 0 m.d3.length with
  |some e=>rfl|none=>
   have q:=BH.1 o;dsimp only;rw[Bj (Gl a b m),C8];intro i i1 i2 _;unfold Gl;rw[AD i1 i2];simp only[bs,Vp];by_cases d:AA m.d4 i<0\/b.d4.length<=AA m.d4 i
   .rw[ac c?,ac d];rfl
   .have hf:=ga.fit _ (AF (l:=a.d4) i1 U);rw[ae c?,ae d,AD i1 U,bs,AD U U,bs];by_cases f:(AA a.d4 i).kg=(AA b.d4 (AA m.d4 i)).kg
    .rw[ae d!,ae d!,AD U U,bs];by_cases h:AA m.d3 (AA a.d4 i).ke=(AA b.d4 (AA m.d4 i)).ke
     .rw[ae b?,AD U U,bs,bs];by_cases j:AA m.d3 (AA a.d4 i).To=(AA b.d4 (AA m.d4 i)).To
      .rw[ae e?,ae (by simp[h,j])];rfl
      .rw[ac e?,ac (.inr j)];rfl
     .rw[ac b?,bs,ac rfl,ac (.inl h)];rfl
    .rw[ac d!,ac f];rfl
 .intro i i1 i2 _;unfold Mh;rw[AD i1 i2];simp only[bs,Vp];by_cases d:AA m.d3 i<0\/b.d3.length<=AA m.d3 i
  .rw[ac c?,ac d];rfl
  .rw[ae c?,ae d,AD U U,bs,AD i1 U,bs];by_cases f:AA b.d3 (AA m.d3 i)=AA a.d3 i
   .rw[ae d!,ae d!];rfl
   .rw[ac d!,ac f];rfl
def Jx(l:Fp):Bool:=!l3 (λi=>l3 (λj=>decide (AA l i=AA l j)) 0 i) 0 l.length
variable{l:Fp}
theorem Jy:Jx l=X↔l.Nodup:=by grind[Jx,z?,By,Wn,IK]
theorem cw(l:Fp):Fo l=Y (Jx l):=by
 unfold Fo Jx;rw[Bf (λi=>l3 (λj=>decide (AA l i=AA l j)) 0 i) T]
 .cases l3 (λi=>l3 (λj=>decide (AA l i=AA l j)) 0 i) 0 l.length<;>rfl
 .intro i i1 i2 _;rw[Bf (λj=>decide (AA l i=AA l j)) T]
  .cases l3 (λj=>decide (AA l i=AA l j)) 0 i<;>rfl
  .intro j d f _;rw[AD i1 i2,bs,AD d U,bs,I7]
theorem fM(f:l.length<=1000):∃k,Hf l=Y k/\decide (k=(l.length:Int))=Jx l:=by
 have d:(S3 l).length=l.length:=(Rm l).length_eq;refine⟨((Go.Lib.compact (S3 l)).length:Int),?_,?_⟩
 .grind[Hf,slices_Clone_int,slices_Sort_int,slices_Compact_int,Be,AX]
 .rw[y!,Jy,tn,<-(Rm l).nodup_iff,<-Uz (SS l),d];omega
def Ij(m:d6):Bool:=Jx m.d3&&Jx m.d4
theorem tI{a b:d5}(h:Il a b m=0):Dw a b m=Y (Ij m):=by
 have ho:=WS h;have:=ho.ga.ec;have:=ho.ga.eh;have:=ho.Aal;have:=ho.Aap;obtain⟨k,d,f⟩:=fM (l:=m.d3) U;obtain⟨j,o,q⟩:=fM (l:=m.d4) U;unfold Dw Ij;rw[cl,h,bs,ac (decide_eq_true rfl),d];simp[o,f,q];cases Jx m.d3<;>rfl
theorem ABL{a b:d5}(h:Il a b m=0):Jh a b m=Y (Ij m):=by grind[Jh,Ij,cx,cw,Jx]
def Qg(r:ff):Int:=
 if ES r.gp.d5 r.pr≠0 then ES r.gp.d5 r.pr else
 if Il (DC r.gp.d5 r.pr) r.ei.d5 r.pf≠0 then Il (DC r.gp.d5 r.pr) r.ei.d5 r.pf else if Ij r.pf=T then 11 else 0
variable{r:ff}
theorem xd(d:TL r.pr):M0 r=Y (Qg r):=by
 unfold M0 Qg;rw[nf d,bs];by_cases h:ES r.gp.d5 r.pr=0
 .simp only[h,ne_eq,not_true_eq_false,if_false,decide_true,B_,z_];rw[cl,bs];refine EO λf=>?_;rw[tI f,bs];exact YE λ_=>rfl
 .simp[h]
def Wg(r:ff):Int:=if ES r.gp.d5 r.pr≠0 then ES r.gp.d5 r.pr else Il (DC r.gp.d5 r.pr) r.ei.d5 r.pf
theorem yJ(d:TL r.pr):Po r=Y (Wg r):=by
 unfold Po Wg;rw[Zn d,bs];refine EO λh=>?_
 grind [Vw,cx]
theorem uR(h:Qg r=0):ES r.gp.d5 r.pr=0/\Il (DC r.gp.d5 r.pr) r.ei.d5 r.pf=0/\Ij r.pf=X:=by grind[Qg]
def BP(l:Fp)(n:Int):Fp:=((List.range n.toNat).map Int.ofNat).filter λi=>!hasB l i
variable{i:Int}
theorem Pp(l:Fp)(h:0<=i):BP l (i+1)=BP l i++if(!hasB l i)=X then[i]else[]:=by
 unfold BP;rw[show(i+1).toNat=i.toNat+1 by omega,List.range_succ,List.map_append,List.filter_append]
 grind
theorem Fr{n x:Int}(h:x∈BP l n):0<=x/\x<n:=by
 unfold BP at h
 grind
theorem TF(l:Fp)(n:Int):(BP l n).length<=n.toNat:=by
 unfold BP
 grind
variable{n:Int}
theorem V0(q:0<=n)(u:n<=1000){f:Int->K1}(hf:∀i,f i=Y (hasB l i)):(n8 (λ(j:Int)(o:Fp)=>
 (f j).bind λd=>
 if (!d)=X then
 (AY o [j]).bind λh=>
 Y h
 else
 Y o) 0 n [])=Y (BP l n):=by
 refine CC (BP l) q (by simp[BP]) (λi i1 i2=>?_);have:=TF l i;rw[hf,bs,Pp l i1];cases hasB l i
 .rw[ac a!,ac a!,AS a_];rfl
 .rw[ae a!,ae a!,List.append_nil]
theorem fP(d:0<=n)(f:n<=1000):L8 l n=Y (BP l n):=by
 unfold L8;rw[V0 d f (λi=>Mb l i)];rfl
theorem oX(d:0<=n)(f:n<=1000):Nc n l=Y (BP l n):=by
 unfold Nc;rw[V0 d f (λi=>vD l i)];rfl
def E0(r:ff):Fp:=BP r.pf.d3 r.ei.d5.d3.length
def K9(r:ff):Fp:=BP r.pf.d4 r.ei.d5.d4.length
theorem np(d:Cp r.ei.d5):Mz r=Y (E0 r,K9 r):=by
 have:=d.ec;have:=d.eh;unfold Mz;rw[fP U U,bs,fP U U];rfl
theorem oM(d:Cp r.ei.d5):Ls r=Y (E0 r,K9 r):=by
 have:=d.ec;have:=d.eh;unfold Ls;rw[oX U U,bs,oX U U];rfl
def Hl(t:AC)(g:d5)(i:Int):Bool:=LE t (AA g.d4 i).kg (AA g.d3 (AA g.d4 i).ke) (AA g.d3 (AA g.d4 i).To)
def TU(t:AC)(g:d5)(ec eh:Fp):Bool:=!(ec.any λi=>(AA t.d3 (AA g.d3 i)).sc)&&!(eh.any λi=>!Hl t g i)
variable{t:AC}{g:d5}
theorem ABI(hf:A3 t)(o:Cp g)(q:C0 t g=X){ec eh:Fp}(u:∀x∈ec,0<=x/\x<g.d3.length)(he:∀x∈eh,0<=x/\x<g.d4.length):Is t g ec eh=Y (TU t g ec eh):=by
 have h:=Hq o q;unfold Is TU;rw[VJ (p:=λi=>(AA t.d3 (AA g.d3 i)).sc) (λx f=>by
  have d:=u x f;have j:=h.1 _ (AF d.1 d.2);unfold Nh;rw[AD d.1 d.2,bs,AD j.1 j.2];rfl),bs,VJ (p:=λi=>!Hl t g i) (λx f=>by
  have d:=he x f;have j:=o.fit _ (AF d.1 d.2);unfold Ib;rw[AD d.1 d.2,bs,AD U U,bs,AD U U,bs,ng hf];rfl)]
 grind
theorem ABN(hf:A3 t)(j:Cp g)(o:C0 t g=X){ec eh:Fp}(q:∀x∈ec,0<=x/\x<g.d3.length)(he:∀x∈eh,0<=x/\x<g.d4.length):Ir t g ec eh=Y (TU t g ec eh):=by
 have f:=Hq j o;unfold Ir TU;rw[JO,JO,Bf (λi=>(AA t.d3 (AA g.d3 (AA ec i))).sc) T]
 .rw[Bf (λi=>!Hl t g (AA eh i)) T]
  .cases l3 (λi=>(AA t.d3 (AA g.d3 (AA ec i))).sc) 0 ec.length
   .cases l3 (λi=>!Hl t g (AA eh i)) 0 eh.length<;>rfl
   .rfl
  .intro i i1 i2 _;have d:=he _ (AF i1 i2);have h:=j.fit _ (AF d.1 d.2);rw[AD i1 i2,bs,AD d.1 d.2,bs,AD U U,bs,AD U U,bs,Yu hf,bs,I7];rfl
 .intro i i1 i2 _;have d:=q _ (AF i1 i2);have h:=f.1 _ (AF d.1 d.2);rw[AD i1 i2,bs,AD d.1 d.2,bs,AD h.1 h.2,bs,I7]
end Go.Sf.Sc
namespace Go.Sf.Sc
open Go Go.Sf
structure P5(p:ea):Prop where
 ec:p.d5.d3.length<=45
 eh:p.d5.d4.length<=90
 slots:p.ek.length<=15
 tests:p.kl.length<=15
structure kD(m:d6):Prop where
 ec:m.d3.length<=140
 eh:m.d4.length<=140
inductive EL:d7->Prop where
 |mk (c:d7) (hq:P5 c.ea) (hm:kD c.Map) (hk:∀k∈c.fu,EL k):EL c
variable{c:d7}
theorem EL.q(h:EL c):P5 c.ea:=j_
theorem EL.m(h:EL c):kD c.Map:=j_
theorem EL.k(h:EL c):∀k∈c.fu,EL k:=j_
theorem Eb{c k:d7}(h:k∈c.fu):SizeOf.sizeOf k<SizeOf.sizeOf c:=by
 have:=List.sizeOf_lt_of_mem h;cases c
 grind
theorem Dx(c:d7):0<SizeOf.sizeOf c:=by
 cases c
 grind
def Rf(c:d7):Bool:=decide (c.Map.d3.length=0/\c.Map.d4.length=0/\c.ea.d5.d3.length=0/\c.ea.d5.d4.length=0/\c.ea.ek.length=0/\c.ea.kl.length=0/\c.ea.fd=0)
theorem xV(hf:EL c):Fg c=Y (Rf c):=by
 have d:=hf.q;have f:=hf.m;have:=d.ec;have:=d.eh;have:=d.slots;have:=d.tests;have:=f.ec;have:=f.eh;unfold Fg Rf;rw[AT (n:=(c.Map.d3.length:Int)+c.Map.d4.length) U U,AT (n:=(c.Map.d3.length:Int)+c.Map.d4.length+c.ea.d5.d3.length) U U,
  AT (n:=(c.Map.d3.length:Int)+c.Map.d4.length+c.ea.d5.d3.length+c.ea.d5.d4.length) U U,
  AT (n:=(c.Map.d3.length:Int)+c.Map.d4.length+c.ea.d5.d3.length+c.ea.d5.d4.length+c.ea.ek.length) U U,
  AT (n:=(c.Map.d3.length:Int)+c.Map.d4.length+c.ea.d5.d3.length+c.ea.d5.d4.length+c.ea.ek.length+c.ea.kl.length) U U]
 congr 1
 grind
theorem rM(hf:EL c):Iq c=Y (Rf c):=by
 have d:=hf.q;have f:=hf.m;have:=d.ec;have:=d.eh;have:=d.slots;have:=d.tests;have:=f.ec;have:=f.eh;unfold Iq Rf;rw[AT (n:=(c.Map.d3.length:Int)+c.Map.d4.length) U U,AT (n:=(c.Map.d3.length:Int)+c.Map.d4.length+c.ea.d5.d3.length) U U,
  AT (n:=(c.Map.d3.length:Int)+c.Map.d4.length+c.ea.d5.d3.length+c.ea.d5.d4.length) U U,
  AT (n:=(c.ea.ek.length:Int)+c.ea.kl.length) U U]
 congr 1
 grind
def UQ(c:d7):Bool:=
 if c.kq=1 then decide (c.fu.length=0)&&Rf c else if c.kq=2 then decide (c.fu.length=1)&&Rf c else
 if c.kq=3\/c.kq=4 then decide (1<=c.fu.length)&&Rf c else if c.kq=5 then decide (c.fu.length=1)else T
def T3:Nat->d7->Bool
 |0,_=>T|n+1,c=>UQ c&&c.fu.all (T3 n)
theorem xr:∀(N:Nat)(c:d7),SizeOf.sizeOf c<=N->EL c->∀n,2*N<=n->Bn n c=Y (T3 N c)
 |0,c,h,_,_,_=>by have:=Dx c;omega|N+1,c,h,hf,n,B=>by
  obtain ⟨n,rfl⟩:∃m,n=m+2:=⟨n-2,U⟩;rw[Bn,T3,xV hf];have f:CI c.fu (Bz (n+1))=Y (!c.fu.all (T3 N)):=by
   rw [db (p:=λk=>!T3 N k) (λk f=>by
    have:=Eb f;rw[Bz,xr N k U (hf.k k f) n U];rfl),D?,Bool.not_not]
  rw [f];unfold UQ;simp only[bs,tn];generalize Rf c=b;generalize c.fu.all (T3 N)=w;have y:decide ((c.fu.length:Int)=0)=decide (c.fu.length=0):=i!
  have z:decide ((c.fu.length:Int)=1)=decide (c.fu.length=1):=i!
  have A:decide (1<=(c.fu.length:Int))=decide (1<=c.fu.length):=i!
  simp only[show((c.fu.length:Int)=0)↔c.fu.length=0 by omega,show((c.fu.length:Int)=1)↔c.fu.length=1 by omega,show(1<=(c.fu.length:Int))↔1<=c.fu.length by omega];by_cases j:c.kq=1
  .rw[ac j,ac j];by_cases d:c.fu.length=0<;>cases b<;>cases w<;>simp[d]
  .rw[ae j,ae j];by_cases o:c.kq=2
   .rw[ac o,ac o];by_cases d:c.fu.length=1<;>cases b<;>cases w<;>simp[d]
   .rw[ae o,ae o];by_cases u:c.kq=3
    .simp[u,true_or];by_cases d:1<=c.fu.length<;>cases b<;>cases w<;>simp[d]
    .by_cases x:c.kq=4
     .simp[x,or_true,show¬(4:Int)=3 by decide];by_cases d:1<=c.fu.length<;>cases b<;>cases w<;>simp[d]
     .simp only[u,x,if_false,or_false];by_cases q:c.kq=5
      .rw[ac q,ac q];by_cases d:c.fu.length=1<;>cases w<;>simp[d]
      .rw[ae q,ae q];cases w<;>rfl
theorem yC(hf:EL c):OD c=Y (UQ c):=by
 unfold OD UQ;rw[rM hf];simp[tn];generalize Rf c=b;simp[show((c.fu.length:Int)=0)↔c.fu.length=0 by omega,show((c.fu.length:Int)=1)↔c.fu.length=1 by omega,show(0<(c.fu.length:Int))↔1<=c.fu.length by omega]
 grind
theorem wg{α:Type}[Inhabited α]{l:List α}{p:α->Bool}:l.all p=!l3 (λi=>!p (AA l i)) 0 l.length:=by
 rw [D?,JO]
theorem tJ:∀(N:Nat)(c:d7),SizeOf.sizeOf c<=N->EL c->∀n,N<=n->DI n c=Y (T3 N c)
 |0,c,h,_,_,_=>by have:=Dx c;omega|N+1,c,h,hf,n,f=>by
  obtain ⟨n,rfl⟩:∃m,n=m+1:=⟨n-1,U⟩;rw[DI,T3,yC hf,bs,wg,Bf (λi=>!T3 N (AA c.fu i)) T]
  .cases UQ c
   .rfl
   .cases l3 (λi=>!T3 N (AA c.fu i)) 0 c.fu.length<;>rfl
  .intro i i1 i2 _;have d:=AF (l:=c.fu) i1 i2;have:=Eb d;rw[AD i1 i2,bs,tJ N _ U (hf.k _ d) n U,bs,I7]
noncomputable def j7(c:d7):Bool:=T3 (SizeOf.sizeOf c) c
theorem ABJ(hf:EL c):H9 c=Y (j7 c):=D0 (2*SizeOf.sizeOf c) λn d=>xr _ c (az _) hf n d
theorem ABR(hf:EL c):NZ c=Y (j7 c):=D0 (SizeOf.sizeOf c) λn d=>tJ _ c (az _) hf n d
def PU:Nat->d7->Int×Int
 |0,_=>(0,0)|n+1,c=>
  let s:=c.fu.foldl (λs k=>(AJ (s.1+(PU n k).1),max s.2 (PU n k).2)) ((1,0):Int×Int)
  (s.1,if c.kq=5 then AJ (s.2+1)else s.2)
theorem am{α σ:Type}[Inhabited α]{l:List α}{g:σ->α->σ}{s:σ}{f:Int->σ->Option σ}(h:∀(i:Int)s,0<=i->i<l.length->f i s=Y (g s (AA l i))):n8 f 0 l.length s=Y (l.foldl g s):=by
 rw [CC (λi=>(l.take i.toNat).foldl g s) U V]
 .rw[x?,C!]
 grind [CH]
theorem nv:∀(N:Nat)(c:d7),SizeOf.sizeOf c<=N->∀n,N<=n->Cj n c=Y (PU N c)
 |0,c,h,_,_=>by have:=Dx c;omega|N+1,c,h,n,d=>by
  obtain ⟨n,rfl⟩:∃m,n=m+1:=⟨n-1,U⟩;rw[Cj,PU,am (g:=λs k=>(AJ (s.1+(PU N k).1),max s.2 (PU N k).2))]
  .grind
  .intro i s i1 i2;have:=Eb (AF (l:=c.fu) i1 i2);rw[AD i1 i2,bs,nv N _ U n U];rfl
theorem oT:∀(N:Nat)(c:d7),SizeOf.sizeOf c<=N->∀n,N<=n->Dj n c=Y (PU N c)
 |0,c,h,_,_=>by have:=Dx c;omega|N+1,c,h,n,d=>by
  obtain ⟨n,rfl⟩:∃m,n=m+1:=⟨n-1,U⟩;rw[Dj,PU,am (g:=λs k=>(AJ (s.1+(PU N k).1),max s.2 (PU N k).2))]
  .grind
  .intro i s i1 i2;have:=Eb (AF (l:=c.fu) i1 i2);rw[AD i1 i2,bs,oT N _ U n U];rfl
noncomputable def WR(c:d7):Int×Int:=PU (SizeOf.sizeOf c) c
noncomputable def M3(c:d7):Int:=if j7 c=T then 1 else if 12<(WR c).1\/3<(WR c).2 then 3 else 0
theorem uv(hf:EL c):GE c=Y (M3 c):=by
 unfold GE M3;rw[ABJ hf,bs,show KH c=Y (WR c)from D0 (SizeOf.sizeOf c) λn d=>nv _ c (az _) n d,bs]
 grind
theorem vL(hf:EL c):J8 c=Y (M3 c):=by
 unfold J8 M3;rw[ABR hf,bs,show OV c=Y (WR c)from D0 (SizeOf.sizeOf c) λn d=>oT _ c (az _) n d,bs]
 grind
theorem YQ(g:d5):CE g≠9:=by grind[CE]
variable{t:AC}{p:ea}
theorem Xd(d:(BC t).2=0)(h:FD t p=0\/FD t p=9):0<=p.fd/\p.fd<=12:=by grind[YQ,FD]
def TT(t:AC)(q:ea)(v:Int):Int:=if FD t q≠9 then FD t q else if l3 (λi=>!IB q i) v q.fd=X then 9 else 0
variable{P:Prop}
theorem chQ{α:Type}[Decidable P]{v:α}{ζ:Option α}{δ:α}(h:P->ζ=Y δ):(if(!decide P)=X then Y v else ζ)=Y (if¬P then v else δ):=m?
theorem ABH(hf:A3 t)(f:(BC t).2=0){q:ea}{v:Int}(o:0<=v)(h:v<=q.fd):Ez t q v=Y (TT t q v):=by
 unfold Ez TT;rw[Yn hf,bs];refine chQ λd=>?_;have hv:=Xd f (.inr d);rw[O5 (c:=λi=>(if(!IB q i)=X then Y ()else W).map λ_=>.inr 9) (a:=v) (b:=q.fd) h]
 .rw[KX,Ou];cases l3 (λi=>!IB q i) v q.fd<;>rfl
 .intro i i1 i2 _;rw[ac (by simpa using i2),show(λj=>I2 j i)=(λy=>Y (decide (y.gt.Var=i)))from rfl,ib,bs,show(q.ek.any λy=>decide (y.gt.Var=i))=IB q i from rfl,d,AT U U];cases IB q i<;>rfl
 .rw[ae V]
theorem vG(p:ea)(v:Int):Pn p v=Y (IB p v):=tM p v
theorem ABM(hf:A3 t)(q:ea)(v:Int):J9 t v q=Y (if q.fd<v then 20 else TT t q v):=by
 unfold J9 TT;refine Q4 V λ_=>?_;rw[cy hf,bs];refine chQ λd=>?_;rw[d,Bf (λi=>!IB q i) 9]
 .cases l3 (λi=>!IB q i) v q.fd<;>rfl
 .intro i i1 i2 _;rw[vG,bs,I7]
def I4:Nat->AC->ea->d7->Int
 |0,_,_,_=>0|N+1,t,p,c=>
  if c.kq=5 then
   if c.ea.fd<p.fd then 20 else if TT t c.ea p.fd≠0 then TT t c.ea p.fd else
   if Il p.d5 c.ea.d5 c.Map≠0 then Il p.d5 c.ea.d5 c.Map else if Ij c.Map=T then 1 else
   (fst (λi=>nz (I4 N t c.ea (AA c.fu i))) 0 c.fu.length).getD 0
  else (fst (λi=>nz (I4 N t p (AA c.fu i))) 0 c.fu.length).getD 0
theorem nx(hf:A3 t)(o:(BC t).2=0):∀(N:Nat)(c:d7)(p:ea),0<=p.fd->SizeOf.sizeOf c<=N->∀n,N<=n->CS n t p c=Y (I4 N t p c)
 |0,c,p,_,h,_,_=>by have:=Dx c;omega|N+1,c,p,A,h,n,B=>by
  obtain ⟨n,rfl⟩:∃m,n=m+1:=⟨n-1,U⟩;rw[CS,I4];have j:∀q:ea,0<=q.fd->(em (jj (ρ:=Int) (λ(w:Int)(_:Unit)=>
    (idx c.fu w).bind λf=>
    (CS n t q f).bind λd=>
    if (!decide (d=0))=X then
    Y (.ret d)
    else
    Y (.next ())) 0 (c.fu.length:Int) ()) (λ_=>
    Y 0) (λx=>Y x))=Y ((fst (λi=>nz (I4 N t q (AA c.fu i))) 0 c.fu.length).getD 0):=by
   intro q z;rw[Bj (λi=>nz (I4 N t q (AA c.fu i))),C8];intro i i1 i2 _;have:=Eb (AF (l:=c.fu) i1 i2);rw[AD i1 i2,bs,nx hf o N _ q z U n U,bs,N2]
  by_cases u:c.kq=5
  .rw[ac i9,ac u];refine Q4 V λhv=>?_;rw[ABH hf o A U,bs];refine EO λhi=>?_;rw[cl,bs];refine EO λy=>?_;rw[tI y,bs]
   grind
  grind
theorem oV(hf:A3 t):∀(N:Nat)(c:d7)(p:ea),SizeOf.sizeOf c<=N->∀n,N<=n->D8 n t p c=Y (I4 N t p c)
 |0,c,p,h,_,_=>by have:=Dx c;omega|N+1,c,p,h,n,y=>by
  obtain ⟨n,rfl⟩:∃m,n=m+1:=⟨n-1,U⟩;rw[D8,I4];have d:∀q:ea,(em (jj (ρ:=Int) (λ(u:Int)(_:Unit)=>
    (idx c.fu u).bind λo=>
    (D8 n t q o).bind λf=>
    if (!decide (f=0))=X then
    Y (.ret f)
    else
    Y (.next ())) 0 (c.fu.length:Int) ()) (λ_=>
    Y 0) (λw=>Y w))=Y ((fst (λi=>nz (I4 N t q (AA c.fu i))) 0 c.fu.length).getD 0):=by
   intro q;rw[Bj (λi=>nz (I4 N t q (AA c.fu i))),C8];intro i i1 i2 _;have:=Eb (AF (l:=c.fu) i1 i2);rw[AD i1 i2,bs,oV hf N _ q U n U,bs,N2]
  by_cases j:c.kq=5
  .rw[ac e?,ac j,ABM hf,bs];by_cases hv:c.ea.fd<p.fd
   .simp[hv]
   .simp only[ae hv];refine EO λhi=>?_;rw[cx,bs];refine EO λx=>?_;rw[ABL x,bs];exact YE λ_=>d _
  .rw[ae e?,ae j];exact d p
noncomputable def JS(t:AC)(p:ea)(c:d7):Int:=if FD t p≠0 then FD t p else if M3 c≠0 then M3 c else I4 (SizeOf.sizeOf c) t p c
theorem nj(hf:A3 t)(d:(BC t).2=0)(p:ea)(f:EL c):Dp t p c=Y (JS t p c):=by
 unfold Dp JS;rw[Yn hf,bs];refine EO λh=>?_;rw[uv f,bs,x_];exact EO λ_=>D0 (SizeOf.sizeOf c) λn j=>nx hf d _ c p (Xd d (.inl h)).1 (az _) n j
theorem oK(hf:A3 t)(p:ea)(d:EL c):IR t p c=Y (JS t p c):=by
 unfold IR JS;rw[cy hf,bs];refine EO λh=>?_;rw[vL d,bs,x_];exact EO λ_=>D0 (SizeOf.sizeOf c) λn f=>oV hf _ c p (az _) n f
end Go.Sf.Sc
namespace Go.Sf.Sc
open Go Go.Sf
structure Ic(r:ff):Prop where
 name:(r.ln.size:Int)<=60
 left:P5 r.gp
 right:P5 r.ei
 fl:TL r.pr
 into:kD r.pf
 cond:EL r.d7
noncomputable def Dc(t:AC)(r:ff):Int:=
 if (BC t).2≠0 then(BC t).2 else if EJ r.ln=T then 2 else if FD t r.gp≠0 then FD t r.gp else
 if Jl t r≠0 then Jl t r else if Qg r≠0 then Qg r else if TU t r.ei.d5 (E0 r) (K9 r)=T then 13 else JS t r.gp r.d7
variable{t:AC}{r:ff}
theorem Xj(h:Jl t r=0):Cp r.ei.d5/\C0 t r.ei.d5=X:=by grind[Jl,Dh]
theorem fS(hf:A3 t)(hr:Ic r):Jm t r=Y (Dc t r):=by
 have o:=hr.name;unfold Jm Dc;rw[O0 hf,bs];refine EO λh=>?_;rw[SX U,bs];refine YE λ_=>?_;rw[Yn hf,bs];refine EO λ_=>?_;rw[uq hf,bs];refine EO λd=>?_;have ho:=Xj d;rw[xd hr.fl,bs];refine EO λj=>?_;rw[np ho.1,bs];dsimp only;rw[ABI (ec:=E0 r) (eh:=K9 r) hf ho.1 ho.2 (λx f=>Fr f) (λx f=>Fr f),bs];refine YE λ_=>?_;rw[nj hf h _ hr.cond,bs]
theorem fm(hf:A3 t)(hr:Ic r):IS t r=Y (Dc t r):=by
 have q:=hr.name;unfold IS Dc;rw[R7 hf,bs];refine EO λo=>?_;rw[SY U,bs];refine YE λ_=>?_;rw[cy hf,bs];refine EO λ_=>?_;rw[vH hf,bs];refine EO λd=>?_;have ho:=Xj d;rw[yJ hr.fl,bs,cw,bs];simp only[cw,bs];have e:(if(!Jx r.pf.d3)=X then Y X else Y (!Jx r.pf.d4))=Y (!Ij r.pf):=by
  grind [Ij,Jx]
 rw [e,bs];have j:Qg r=if Wg r≠0 then Wg r else if Ij r.pf=T then 11 else 0:=by
  grind [Qg,Wg,ES]
 rw [j];by_cases h:Wg r=0
 .simp only[h,ne_eq,not_true_eq_false,if_false,decide_true,B_,z_];cases hi:Ij r.pf
  .simp
  .simp only[B_,z_,if_false,not_true_eq_false,Bool.true_eq_false];rw[oM ho.1,bs];dsimp only;rw[ABN (ec:=E0 r) (eh:=K9 r) hf ho.1 ho.2 (λx f=>Fr f) (λx f=>Fr f),bs];refine YE λ_=>?_;rw[oK hf _ hr.cond,bs]
 .simp[h]
def AaR(t:AC)(l:Fp):Bool:=!(l.any λk=>t.d3.any λn=>decide (n.wl=k))
structure mO(t:AC)(r:ff):Prop where
 left:Cp r.gp.d5
 ltyped:C0 t r.gp.d5=X
 right:Cp r.ei.d5
 Abi:C0 t r.ei.d5=X
 rtests:r.ei.kl.length=0
 part:Q2 r.gp.d5 r.pr
 mor:T6 (DC r.gp.d5 r.pr) r.ei.d5 r.pf
 inj:r.pf.d3.Nodup/\r.pf.d4.Nodup
variable{p:ea}
theorem Yr(h:FD t p=0):Cp p.d5/\C0 t p.d5=X:=by grind[FD,Dh]
theorem jk(h:Dc t r=0):(BC t).2=0/\mO t r:=by
 unfold Dc at h;split at h
 .omega
 split at h
 .cases h
 split at h
 .omega
 split at h
 .omega
 split at h
 .omega
 rename_i j o q u w;have d:=Yr (t:=t) (p:=r.gp) U;have hr:=Xj (t:=t) (r:=r) U;have f:=uR (r:=r) U;have hi:Jx r.pf.d3=X/\Jx r.pf.d4=X:=by
  grind [Ij]
 refine ⟨U,d.1,d.2,hr.1,hr.2,?_,?_,WS f.2.1,Jy.1 hi.1,Jy.1 hi.2⟩
 .grind[Jl]
 grind [ES,Vs]
variable{l:Fp}
theorem iX{n:Nat}(h:∀x∈l,0<=x/\x<n)(f:l.Pairwise (·<·)):l.length<=n:=by
 have key:∀i:Int,0<=i->i<l.length->i<=AA l i:=by
  intro i d j;obtain⟨k,rfl⟩:=Int.eq_ofNat_of_zero_le d;clear d
  induction k with
  |zero=>exact(h _ (AF U U)).1|succ k o=>
   grind [IK]
 by_cases d:l.length=0
 .omega
 .have a:=key ((l.length:Int)-1) U U
  grind [AF]
end Go.Sf.Sc
namespace Go.Sf
variable{a b:Int}
theorem Wi{ρ:Type}{f:Int->Option (B0 Int ρ)}(p:Int->Bool)(v:ρ)(d:a<=b)(h:∀i,a<=i->i<b->f i=Y (if p i=X then .ret v else .next (i+1)))(hb:f b=Y (.brk b)):C3 f a=Y (if l3 p a b=X then .inr v else .inl b):=by
 rw [O5 (c:=λi=>(if p i=X then Y ()else W).map λ_=>.inr v) d]
 .grind[KX,Ou,l3]
 .intro i j o _;rw[h i j o];cases p i<;>rfl
 .exact hb
theorem Ow{α:Type}{e:α->TV}{n:Nat}{l:List α}(h:TV.Sm (.list n (l.map e))):(l.length:Int)<=140737488351232/\∀x∈l,(e x).Sm:=by
 simp [TV.Sm]at h;refine⟨by have:=h.1;unfold reachBytes at this;omega,λx d=>L9.1 h.2 _ (D'.2 ⟨x,d,rfl⟩)⟩
end Go.Sf
namespace Go.Sf.Sc
open Go Go.Sf
def dY(a:kp):Bool:=(decide (40<(a.ln.size:Int))||decide (25<(a.sr.length:Int)))||l3 (λi=>decide (40<((AA a.sr i).size:Int))) 0 a.sr.length
theorem pw{a:kp}(h:dY a=T):T5 a:=by
 unfold dY at h;simp[decide_eq_false_iff_not,By]at h;refine⟨U,U,λx d=>?_⟩
 grind [BT]
variable{t:AC}
theorem Sw(O:(AL t).Sm):∃b,Mq t=Y b/\(b=X->A3 t):=by
 have I:TV.Sms [_,_]:=O;obtain⟨w,L⟩:=Ow (e:=IH) I.1;unfold Mq;by_cases hl:20<t.d3.length\/30<t.d4.length
 .rw[ac an]
  grind
 rw [ae an];rcases XR (f:=(λ(A:Int)(N:Int)=>
 (idx t.d3 A).bind λy=>
 (if(decide (30<(AJ (N+(y.qo.length:Int)))))=X then Y X else((idx t.d3 A).bind λC=>
 Y (decide (40<(C.ln.size:Int))))).bind λD=>
 if D=X then
 Y (B0.ret T)
 else
 em (C3 (ρ:=Bool) (λ(s2:Int)=>
 (idx t.d3 A).bind λE=>
 if (decide (s2<(E.qo.length:Int)))=X then
 (idx t.d3 A).bind λF=>
 (idx F.qo s2).bind λq=>
 if ((decide (40<(q.ln.size:Int)))||(decide (25<(q.sr.length:Int))))=X then
 Y (.ret T)
 else
 em (C3 (ρ:=Bool) (λ(x:Int)=>
 if (decide (x<(q.sr.length:Int)))=X then
 (idx q.sr x).bind λG=>
 if (decide (40<(G.size:Int)))=X then
 Y (.ret T)
 else
 Y (.next (AJ (x+1)))
 else
 Y (.brk x)) 0) (λx=>
 Y (.next (AJ (s2+1)))) (λQ=>Y (.ret Q))
 else
 Y (.brk s2)) 0) (λs2=>
 Y (.next (AJ (N+(y.qo.length:Int))))) (λS=>Y (.ret S))))
  (λi s=>0<=s/\s<=30/\∀j,0<=j->j<i->((AA t.d3 j).ln.size:Int)<=40/\(AA t.d3 j).qo.length<=30/\∀a∈(AA t.d3 j).qo,T5 a) (λ_=>False) (λr=>r=T) (a:=0) (b:=t.d3.length) (s:=0) U ⟨U,U,λj z d=>U⟩ (λi s i1 i2 θ=>by
   have ε:=L _ (AF (l:=t.d3) i1 i2);have J:TV.Sms [_,_,_,_]:=ε;obtain⟨ha,M⟩:=Ow (e:=JU) J.2.2.2.1;obtain⟨hI1,hI2,hI3⟩:=θ;have κ:AJ (s+(AA t.d3 i).qo.length)=s+(AA t.d3 i).qo.length:=AT U U;simp only[AD i1 i2,bs,κ,Vp];by_cases η:30<s+(AA t.d3 i).qo.length\/40<((AA t.d3 i).ln.size:Int)
   .grind
   rw [ae (by simpa using η)];rw[Wi (λj=>dY (AA (AA t.d3 i).qo j)) T (b:=(AA t.d3 i).qo.length) U]
   .cases hb:l3 (λj=>dY (AA (AA t.d3 i).qo j)) 0 (AA t.d3 i).qo.length
    .refine .inl ⟨_,rfl,U,U,λj H B=>?_⟩
     grind [BT,pw,By]
    .exact .inr (.inr ⟨_,rfl,rfl⟩)
   .intro j H B;rw[ac (by simpa using B),AD H B,bs];have Z:=M _ (AF (l:=(AA t.d3 i).qo) H B);have K:TV.Sms [_,_,_,_]:=Z;obtain⟨hm,_⟩:=Ow (e:=eS) K.2.2.2.1;unfold dY;cases z:(decide (40<((AA (AA t.d3 i).qo j).ln.size:Int))||decide (25<((AA (AA t.d3 i).qo j).sr.length:Int)))
    .rw[ae a!,Wi (λk=>decide (40<((AA (AA (AA t.d3 i).qo j).sr k).size:Int))) T (b:=(AA (AA t.d3 i).qo j).sr.length) U]
     .cases l3 (λk=>decide (40<((AA (AA (AA t.d3 i).qo j).sr k).size:Int))) 0 (AA (AA t.d3 i).qo j).sr.length
      .rw[Bool.or_false,AT (show -9223372036854775808<=j+1 by omega) U];rfl
      .rfl
     .intro k u o;rw[ac g_,AD u o,bs,AT (show -9223372036854775808<=k+1 by omega) U,I7]
     .rw[ae V]
    .rfl
   .rw[ae V])with⟨s',z,d⟩|⟨r,z,d⟩
 .rw[z];rcases d with d|d
  .rw[B2,Bf (λi=>decide (40<((AA t.d4 i).ln.size:Int))) T]
   .cases hb:l3 (λi=>decide (40<((AA t.d4 i).ln.size:Int))) 0 t.d4.length
    .refine⟨X,rfl,λ_=>⟨U,U,λn w=>?_,λn w=>?_,λn w=>?_,λe he=>?_⟩⟩
     .obtain⟨k,u,o,rfl⟩:=BT w;exact(d.2.2 k u o).1
     .obtain⟨k,u,o,rfl⟩:=BT w;exact(d.2.2 k u o).2.1
     .obtain⟨k,u,o,rfl⟩:=BT w;exact(d.2.2 k u o).2.2
     .obtain⟨k,u,o,rfl⟩:=BT he;have:=By.1 hb k u o;simpa using this
    .exact⟨T,rfl,λh=>d_⟩
   .intro i i1 i2 _;rw[AD i1 i2,bs,I7]
  .exact d.elim
 .rw[z];subst d;exact⟨T,rfl,λh=>d_⟩
theorem Tk(p:ea):∃b,Ks p=Y b/\(b=X->P5 p):=by
 refine ⟨_,rfl,λh=>?_⟩;simp[tn]at h;exact⟨U,U,U,U⟩
variable{a b:Int}
theorem iz(ha:0<=a)(d:a<=140737488351232)(hb:0<=b)(f:b<=140737488351232):AJ (a+b)=a+b:=AT U U
variable{m:d6}
theorem ZQ(f:(A6 m).Sm):∃b,Jg m 140=Y b/\(b=X->kD m):=by
 have d:TV.Sms [_,_]:=f;have j:=(Ow (e:=eI) d.1).1;have o:=(Ow (e:=eI) d.2.1).1;refine⟨_,rfl,λh=>?_⟩;rw[iz U j U o]at h;simp[tn]at h;exact⟨U,U⟩
theorem qB{m:BR}(f:(Hc m).Sm):∃b,TB m 140=Y b/\(b=X->TL m):=by
 have d:TV.Sms [_,_]:=f;have j:=(Ow (e:=eI) d.1).1;have o:=(Ow (e:=eI) d.2.1).1;refine⟨_,rfl,λh=>?_⟩;rw[iz U j U o]at h;simp[tn]at h;exact⟨U,U⟩
variable{c:d7}
theorem ii(h:(AI c).Sm):(A6 c.Map).Sm/\(c.fu.length:Int)<=140737488351232/\∀k∈c.fu,(AI k).Sm:=by
 have f:TV.Sms [_,_,_,_,_,_,_,_,_]:=h;obtain⟨_,d,j,o,_⟩:=f;rw[Ss]at d;obtain⟨q,u⟩:=Ow d;exact⟨⟨j,o,trivial⟩,q,u⟩
theorem du:∀(N:Nat)(c:d7),SizeOf.sizeOf c<=N->(AI c).Sm->∀sx:Int,0<=sx->sx<=1000->∃r,(∀n,N<=n->DA n c sx=Y r)/\-1<=r/\r<=sx-1/\(0<=r->EL c)
 |0,c,h,_,_,_,_=>by have:=Dx c;omega|N+1,c,h,hs,sx,m0,m1=>by
  obtain ⟨L,M,B⟩:=ii hs;obtain⟨O,E,Q⟩:=Tk c.ea;obtain⟨S,H,θ⟩:=ZQ L;have step:∀n,N+1<=n->∃m,n=m+1/\N<=m:=λn d=>⟨n-1,U,U⟩;cases O
  .refine⟨-1,λn d=>?_,U,U,λh=>U⟩;obtain⟨n,rfl,_⟩:=step n d;rw[DA,E];rfl
  cases S
  .refine⟨-1,λn d=>?_,U,U,λh=>U⟩;obtain⟨n,rfl,_⟩:=step n d;rw[DA,E,bs,H];rfl
  have loop:∀(m:Nat)(k left:Int),0<=k->k+m=c.fu.length->-1<=left->left<=1000->∃f u,(∀n,N<=n->MU (ρ:=Int) (λ(q:Int×Int)=>
    if ((decide (q.2<(c.fu.length:Int)))&&(decide (0<=q.1)))=X then
    (idx c.fu q.2).bind λx=>
    (DA n x q.1).bind λy=>
    Y (.next (y,AJ (q.2+1)))
    else
    Y (.brk (q.1,q.2))) (left,k) (.inl (f,u)))/\-1<=f/\f<=left/\(0<=f->∀j,k<=j->j<c.fu.length->EL (AA c.fu j)):=by
   intro m
   induction m with
   |zero=>
    intro k left C I D l1;refine⟨left,k,λn d=>.brk ?_,D,U,λ_ j z w=>U⟩;rw[ae an]
   |succ m Z=>
    intro k left C I D l1;by_cases J:0<=left
    .have o:=AF (l:=c.fu) C U;have:=Eb o;obtain⟨r,ε,κ,r3,η⟩:=du N _ U (B _ o) left J l1;obtain⟨f,u,a1,a2,a3,F⟩:=Z (k+1) r U U κ U;refine⟨f,u,λn d=>.next (s':=(r,k+1)) ?_ (a1 n d),a2,U,λA j z w=>?_⟩
     .rw[ac an,AD C U,bs,ε n d,bs,AT U U]
     .by_cases K:j=k
      .subst K;exact η U
      .exact F A j U w
    .refine⟨left,k,λn d=>.brk ?_,D,U,λh=>U⟩;rw[ae an]
  obtain ⟨f,u,a1,a2,a3,F⟩:=loop c.fu.length 0 (sx-1) U U U U;refine⟨f,λn d=>?_,a2,a3,λA=>.mk c (Q rfl) (θ rfl) (λk B=>?_)⟩
  .obtain⟨n,rfl,G⟩:=step n d;rw[DA,E,bs,H];simp only[bs,B_,z_,if_false];rw[AT (n:=sx-1) U U,(a1 n G).eq,B2]
  .obtain⟨j,z,w,rfl⟩:=BT B;exact F A j z w
theorem qA(d:(AI c).Sm):∃b,Kt c=Y b/\(b=X->EL c):=by
 obtain ⟨r,f,_,_,j⟩:=du (SizeOf.sizeOf c) c (az _) d 40 U U;have e:Rt c 40=Y r:=D0 (SizeOf.sizeOf c) f;unfold Kt;rw[e];exact⟨_,rfl,λh=>j b?⟩
theorem MZ{b:Bool}{o:K1}{c:Bool}(h:o=Y c):(if b=X then o.bind λx=>Y x else Y T)=Y (b&&c):=by
 subst h;cases b<;>rfl
variable{r:ff}
theorem qC(d:(CB r).Sm):∃b,RE r=Y b/\(b=X->Ic r):=by
 have f:TV.Sms [_,_,_,_,_,_,_,_,_,_,_,_,_,_,_,_,_,_,_,_,_,_,_,_,_]:=d;obtain⟨_,_,_,_,_,_,_,_,_,_,_,j,o,i1,i2,_,q,u,w,x,y,z,c7,c8,A,_⟩:=f;obtain⟨L,B,C⟩:=Tk r.gp;obtain⟨M,D,E⟩:=Tk r.ei;obtain⟨N,F,G⟩:=qB (m:=r.pr) ⟨j,o,trivial⟩;obtain⟨O,H,I⟩:=ZQ (m:=r.pf) ⟨i1,i2,trivial⟩;obtain⟨Q,J,K⟩:=qA (c:=r.d7) ⟨q,u,w,x,y,z,c7,c8,A,trivial⟩;unfold RE;rw[MZ B,bs,MZ D,bs,MZ F,bs,MZ H,bs,MZ J,bs];refine⟨_,rfl,λh=>?_⟩;simp[tn]at h;exact⟨h.1.1.1.1.1,C h.1.1.1.1.2,E h.1.1.1.2,G h.1.1.2,I h.1.2,K h.2⟩
end Go.Sf.Sc
