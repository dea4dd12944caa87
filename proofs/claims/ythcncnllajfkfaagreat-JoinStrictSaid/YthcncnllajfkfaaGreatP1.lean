/- Plain lemmas: what the functions of the program and of the reference compute. -/
import Derived.Test.YthcncnllajfkfaaGreatSfRead
import Derived.Test.YthcncnllajfkfaaGreatFns
import Derived.Test.YthcncnllajfkfaaGreatSfPl
set_option linter.all false
set_option maxRecDepth 100000
open Option renaming some->Y,none->W
open Bool renaming true->X,false->T
open Option renaming getD->v1,isSome->v5,bind_assoc->v6,bind_fun_some->v_
open Int renaming le_refl->v!,toNat_natCast->v?
open Bool renaming true_and->w_,eq_iff_iff->w!,false_and->w?,false_eq_true->x_,or_eq_true->x!,not_eq_true'->x?,not_eq_false'->y_,or_eq_false_iff->y!,and_eq_false_iff->y?,eq_false_iff->z_,not_true->z!,not_eq_true->z?,or_assoc->A_
open List renaming any_eq_false->A',getElem?_eq_getElem->A!,getD_eq_getElem?_getD->A?,take_length->B_,any_eq_true->B',ext_getElem->B!,mem_map->B?,pairwise_iff_getElem->C_,all_eq_not_any_not->C'
namespace Go.Sf
theorem am{ρ τ:Type}{d:Int->Option ρ}{g:ρ->τ}:∀(n:Nat)(a:Int),Ec (λi=>(d i).map g) n a=(Ec d n a).map g
 |0,_=>rfl|n+1,a=>by
  rw [Ec,Ec];cases d a with
  |some r=>rfl|none=>exact am n (a+1)
variable{a b:Int}
theorem Gl{ρ τ:Type}{d:Int->Option ρ}{g:ρ->τ}:fst (λi=>(d i).map g) a b=(fst d a b).map g:=am _ _
theorem YG{ρ:Type}{d:Int->Option ρ}{r:ρ}:∀{n:Nat}{a:Int},Ec d n a=Y r->∃i,a<=i/\i<a+n/\d i=Y r/\∀j,a<=j->j<i->d j=W
 |0,_,h=>c_
 |n+1,a,h=>by
  rw [Ec]at h;cases hd:d a with
  |some w=>
   grind
  |none=>
   rw [hd]at h;obtain⟨i,f,o,q,u⟩:=YG h
   grind
theorem Cc{ρ:Type}{d:Int->Option ρ}{r:ρ}(h:fst d a b=Y r):∃i,a<=i/\i<b/\d i=Y r/\∀j,a<=j->j<i->d j=W:=by
 obtain ⟨i,f,o,q,u⟩:=YG h
 grind
def Nx(p:Int->Bool)(s:ByteArray):Int:=(fst (λi=>if p (bt s i)then W else Y i) 0 s.size).getD s.size
theorem Vm(p:Int->Bool)(s:ByteArray):0<=Nx p s/\Nx p s<=s.size/\(∀j,0<=j->j<Nx p s->p (bt s j)=X)/\(Nx p s<s.size->p (bt s (Nx p s))=T):=by
 unfold Nx;cases h:fst (λi=>if p (bt s i)then W else Y i) 0 s.size with
 |none=>
  rw [Bf]at h
  grind
 |some r=>
  grind [Cc,bt,v1]
variable{s:ByteArray}
theorem iJ(h:s≠⟨#[]⟩):0<s.size:=by
 rcases Nat.eq_zero_or_pos s.size with f|f
 .exfalso;apply h;cases s with|mk d=>congr 1;exact Array.eq_empty_of_size_eq_zero f
 .exact f
end Go.Sf
namespace Go.Sf.Sc
open Go Go.Sf
def HH(c:Int):Bool:=((decide (97<=c))&&(decide (c<=122)))||((decide (65<=c))&&(decide (c<=90)))
def x7(c:Int):Bool:=(decide (48<=c))&&(decide (c<=57))
def Sw(c:Int):Bool:=HH c||x7 c||decide (c=95)
theorem gB(c:Int):NB c=Y (HH c):=rfl
theorem Zz(c:Int):MH c=Y (x7 c):=rfl
theorem gY(c:Int):Mt c=Y (HH c):=rfl
theorem kR(c:Int):KF c=Y (x7 c):=rfl
theorem yS(c:Int):Py c=Y (Sw c):=by
 unfold Py Sw;rw[gB,bs,Zz]
 grind
variable{s:ByteArray}
theorem mQ(d:(s.size:Int)<=4611686018427387904){ok:Int->K1}{p:Int->Bool}(h:∀c,ok c=Y (p c)):Ip s ok=Y (Nx p s):=by
 unfold Ip;rw[O4 (c:=λi=>(if p (bt s i)then W else Y i).map .inl) (a:=0) (b:=s.size) U]
 .rw[Gl];unfold Nx;cases fst (λi=>if p (bt s i)=X then W else Y i) 0 s.size<;>rfl
 .grind[R1,bt,Do,A1]
 .simp
def GD(s:ByteArray):Bool:=decide (0<s.size)&&HH (bt s 0)&&decide (s.size<=20)&&decide (Nx Sw s=s.size)
theorem Zx(l:List ByteArray)(v:ByteArray):∃k,slices_Index_string l v=Y k/\(0<=k↔v∈l):=by
 unfold slices_Index_string;rw[B9 (λi=>if(v==AA l i)=X then Y i else W)]
 .cases h:fst (λi=>if(v==AA l i)=X then Y i else W) 0 l.length with
  |none=>
   rw [Bf]at h;refine⟨-1,rfl,U,λo=>?_⟩
   grind [Bh]
  |some k=>
   obtain ⟨i,d,f,q,_⟩:=Cc h;have j:(v==AA l i)=X/\i=k:=by
    grind
   obtain ⟨j,rfl⟩:=j;refine⟨i,rfl,λ_=>?_,λ_=>d⟩
   grind [AI]
 .intro i d f _;simp only[AD d f,bs];split<;>rfl
theorem RL(l:List ByteArray)(v:ByteArray):slices_Contains_string l v=Y (l.contains v):=by
 unfold slices_Contains_string;obtain⟨k,d,f⟩:=Zx l v
 grind
theorem yQ(z:0<s.size)(w:(s.size:Int)<=4611686018427387904):∃k n e,Lj s=Y (k,n,e)/\(((decide (e=0))&&(decide (k=1)))&&(decide (n=(s.size:Int))))=GD s:=by
 have hr:=Vm Sw s;unfold Lj GD;simp only[R1 (v! 0) (show(0:Int)<s.size by omega),bs,gB,Zz,mQ w yS,mQ w Zz,z,decide_true,w_];by_cases d:HH (bt s 0)=X
 .rw[a6 d];by_cases f:20<Nx Sw s
  .refine⟨0,0,3,by simp[f],?_⟩;simp[d];intro D h;omega
  .refine⟨1,_,0,by rw[ac d?],?_⟩;simp only[d,decide_true,w_];rw[w!];simp only[sA,ne];omega
 .rw[ac d];have j:HH (bt s 0)=T:=c!
  rw [j,w?,w?];by_cases hd:x7 (bt s 0)=X
  .rw[a6 hd];by_cases x:9<Nx x7 s
   .exact⟨0,0,3,by simp[x],V⟩
   .exact⟨2,_,0,by rw[ac (by simpa using x)],V⟩
  .rw[ac hd];by_cases y:bt s 0=34
   .have A:=cZ (s:=s) (a:=1) (b:=s.size) U U U;have o:∀c,Nk c=Y (((decide (32<=c))&&(decide (c<=126)))&&(!decide (c=34))):=λ_=>rfl;have B:=Vm (λc=>((decide (32<=c))&&(decide (c<=126)))&&(!decide (c=34))) (s.extract (1:Int).toNat (s.size:Int).toNat);have q:∃n e,JC s=Y (n,e):=by
     unfold JC;rw[O3 U U U,bs,mQ U o,bs];rw[A1 U U];by_cases he:1+Nx (λc=>((decide (32<=c))&&(decide (c<=126)))&&(!decide (c=34))) (s.extract (1:Int).toNat (s.size:Int).toNat)=s.size
     .refine⟨0,2,?_⟩;simp only[he,decide_true,if_true,bs]
     .simp only[he,decide_false,x_,if_false];rw[R1 U U];simp only[bs];split
      .exact⟨_,_,rfl⟩
      .split
       .exact⟨_,_,rfl⟩
       .exact⟨_,_,rfl⟩
    obtain ⟨n,e,u⟩:=q;refine⟨3,n,e,by rw[a6 (by simpa using y),u];rfl,V⟩
   .rw[ac (by simpa using y)];have C:∃b,Px s=Y b:=by
     unfold Px;by_cases h:2<=(s.size:Int)
     .rw[a6 c?,O3 U U h];simp only[bs,RL];exact⟨_,rfl⟩
     .rw[ac c?];exact⟨_,rfl⟩
    obtain ⟨b,hb⟩:=C;rw[hb,bs];cases b
    .simp only[x_,if_false,strings_IndexByte,bs];split
     .exact⟨_,_,_,rfl,rfl⟩
     .exact⟨_,_,_,rfl,rfl⟩
    .exact⟨_,_,_,rfl,rfl⟩
theorem SM(d:(s.size:Int)<=4611686018427387904):Ep s=Y (GD s):=by
 unfold Ep MI;simp only[show decide ((1:Int)=3)=T from rfl,x_,if_false,bs];by_cases he:s=⟨#[]⟩
 .subst he;rfl
 grind [yQ,iJ]
theorem ym(o:(s.size:Int)<=4611686018427387904)(d:Bool):∃n,Mv s 0 d=Y n/\0<=n/\n<=s.size/\(d=T->n=Nx Sw s):=by
 have hr:=Vm (λc=>x7 c||(!d&&(HH c||decide (c=95)))) s;refine⟨Nx (λc=>x7 c||(!d&&(HH c||decide (c=95)))) s,?_,hr.1,hr.2.1,λhd=>?_⟩
 .unfold Mv;rw[O4 (c:=λi=>(if(x7 (bt s i)||(!d&&(HH (bt s i)||decide (bt s i=95))))then W else Y i).map .inl) (a:=0) (b:=s.size) U]
  .rw[Gl];unfold Nx;cases fst (λi=>if(x7 (bt s i)||(!d&&(HH (bt s i)||decide (bt s i=95))))=X then W else Y i) 0 s.size<;>rfl
  .intro i j f _;have h:At (0+i)=i:=e_
   simp only[h,f,decide_true,if_true,R1 j f,bs,kR,gY]
   grind [x7,bt,HH,Do,A1]
  .have h:At (0+(s.size:Int))=s.size:=e_
   grind
 .subst hd;congr 1
  grind [Sw,HH,x7]
theorem rh(q:0<s.size)(u:(s.size:Int)<=4611686018427387904):∃n,I3 s 0=Y n/\(n=0\/(2<=n/\n<=s.size)):=by
 unfold I3;rw[O4 (c:=λi=>if decide (bt s i=34)=X then Y (Sum.inr (i+1):Int ⊕ Int)else if(decide (bt s i<32)||decide (126<bt s i))=X then Y (Sum.inr 0)else W) (a:=1) (b:=s.size) U]
 .cases h:fst (λi=>if decide (bt s i=34)=X then Y (Sum.inr (i+1):Int ⊕ Int)else if(decide (bt s i<32)||decide (126<bt s i))=X then Y (Sum.inr 0)else W) 1 s.size with
  |none=>exact⟨0,rfl,.inl rfl⟩|some r=>
   obtain ⟨i,o,f,d,_⟩:=Cc h;split at d
   .cases d;exact⟨_,rfl,.inr U⟩
   .split at d
    .cases d;exact⟨_,rfl,.inl rfl⟩
    .cases d
 .intro i o f _;have j:At (0+i)=i:=e_
  simp only[j,f,decide_true,if_true,R1 (show 0<=i by omega) f,bs,A1 (show -9223372036854775808<=i+1 by omega) U];split
  .rfl
  .split<;>rfl
 .have j:At (0+(s.size:Int))=s.size:=e_
  grind
theorem ABo(O:0<s.size)(Q:(s.size:Int)<=4611686018427387904):∃t n e,Mu s 0=Y (t,n,e)/\(((decide (e=0))&&(decide (n=(s.size:Int))))&&(decide (t.jj=1)))=GD s:=by
 obtain ⟨m,M,u,w,N⟩:=ym Q (x7 (bt s 0));unfold Mu GD;simp only[R1 (v! 0) (show(0:Int)<s.size by omega),bs,gY,kR,O,decide_true,w_,M];have S:At (0+m)=m:=e_
 by_cases F:HH (bt s 0)=X
 .have hd:x7 (bt s 0)=T:=by
   unfold HH at F;unfold x7
   grind
  have η:=N hd;subst η;simp only[F,if_true,hd,x_,if_false,bs,S];by_cases q:20<Nx Sw s
  .refine⟨_,_,_,by rw[a6 t?],?_⟩
   grind
  .rw[ac t?,O3 (v! _) u w];refine⟨_,_,_,rfl,?_⟩
   grind
 .have G:HH (bt s 0)=T:=by simpa using F
  simp only[G,x_,if_false,bs,w?,S];by_cases hd:x7 (bt s 0)=X
  .simp only[hd,if_true,bs];by_cases θ:9<m
   .exact⟨_,_,_,by rw[a6 (by simpa using θ)],V⟩
   .rw[ac (by simpa using θ),O3 (v! _) u w];exact⟨_,_,_,rfl,V⟩
  .have H:x7 (bt s 0)=T:=by simpa using hd
   simp only[H,x_,if_false,bs];by_cases ε:bt s 0=34
   .obtain⟨n,hn,y⟩:=rh O Q;rw[a6 s_,hn,bs];rcases y with rfl|y
    .grind
    .rw[ac a_];split
     .grind
     .have Z:At (0+1)=1:=a!
      have e2:At (0+n)=n:=e_
      rw [Z,e2,A1 (show -9223372036854775808<=n-1 by omega) U,O3 U U U];exact⟨_,_,_,rfl,V⟩
   .rw[ac s_];unfold Qc;rw[bs];generalize hL:([(⟨#[45,62]⟩:ByteArray),(⟨#[60,61]⟩:ByteArray),(⟨#[62,61]⟩:ByteArray),(⟨#[61,61]⟩:ByteArray),(⟨#[33,61]⟩:ByteArray),(⟨#[123]⟩:ByteArray),(⟨#[125]⟩:ByteArray),(⟨#[40]⟩:ByteArray),(⟨#[41]⟩:ByteArray),(⟨#[91]⟩:ByteArray),(⟨#[93]⟩:ByteArray),(⟨#[44]⟩:ByteArray),(⟨#[59]⟩:ByteArray),(⟨#[58]⟩:ByteArray),(⟨#[61]⟩:ByteArray),(⟨#[43]⟩:ByteArray),(⟨#[45]⟩:ByteArray),(⟨#[42]⟩:ByteArray),(⟨#[60]⟩:ByteArray),(⟨#[62]⟩:ByteArray),(⟨#[33]⟩:ByteArray),(⟨#[38]⟩:ByteArray),(⟨#[124]⟩:ByteArray),(⟨#[46]⟩:ByteArray),(⟨#[63]⟩:ByteArray)]:List ByteArray)=L;have I:∀x∈L,x.size<=2:=by subst hL;decide
    rcases XB (f:=(λ(h:Int)(κ:HQ)=>
      (idx L h).bind λA=>
      (if(decide ((At (0+(A.size:Int)))<=(s.size:Int)))=X then((idx L h).bind λB=>
      (Aaq s 0 (At (0+(B.size:Int)))).bind λC=>
      (idx L h).bind λD=>
      Y (C==D))else Y T).bind λE=>
      if E=X then
      (idx L h).bind λj=>
      (idx L h).bind λo=>
      Y (CF.ret (HQ.mk 4 j 0,(o.size:Int),(0:Int)))
      else
      Y (CF.next κ))) (λ_ s=>True) (λ_=>True) (λr=>r.1.jj=4) (a:=0) (b:=L.length) (s:=HQ.mk 0 (⟨#[]⟩:ByteArray) 0) U trivial (λi t d z _=>by
      have hx:=I _ (AI d z);have J:At (0+((AA L i).size:Int))=(AA L i).size:=e_
      simp only[AD d z,bs,J];by_cases K:((AA L i).size:Int)<=s.size
      .rw[a6 (by simpa using K),O3 U U K];simp only[bs];split
       .exact .inr (.inr ⟨_,rfl,rfl⟩)
       .exact .inl ⟨_,rfl,trivial⟩
      .rw[ac (by simpa using K)];simp only[bs];exact .inl ⟨_,rfl,trivial⟩)with⟨s',d,_⟩|⟨r,d,z⟩
    .rw[d];exact⟨_,_,_,rfl,V⟩
    .rw[d];exact⟨_,_,_,rfl,by simp[z]⟩
theorem SN(d:(s.size:Int)<=4611686018427387904):Ei s=Y (GD s):=by
 unfold Ei L6 Rg;simp only[show decide ((1:Int)=3)=T from rfl,x_,if_false,bs];by_cases he:s=⟨#[]⟩
 .subst he;rfl
 grind [ABo,iJ]
end Go.Sf.Sc
namespace Go.Sf
variable{ρ β:Type}
def nz(e:Int):QQ:=if e=0 then W else Y e
theorem N2(e:Int):(if(!decide (e=0))=X then Y (CF.ret e)else Y (CF.next ()))=Y (S8 (nz e)):=by grind[nz,S8]
theorem xO(b:Bool)(r:ρ):(if b=X then Y (CF.ret r)else Y (CF.next ()))=Y (S8 (if b=X then Y r else W)):=by
 cases b<;>rfl
variable{kr:ρ->Option β}
theorem B1{σ:Type}{s:σ}{k:σ->Option β}:ei (Y (.inl s)) k kr=k s:=rfl
theorem S4{σ:Type}{r:ρ}{k:σ->Option β}:ei (Y (.inr r)) k kr=kr r:=rfl
theorem Eo(o:Option ρ)(k:Unit->Option β)(kr:ρ->Option β):ei (Y (tY o)) k kr=match o with|none=>k ()|some r=>kr r:=by
 cases o<;>rfl
theorem DI(o:QQ):ei (Y (tY o)) (λ_=>Y 0) (λv=>Y v)=Y (o.getD 0):=by
 cases o<;>rfl
variable{a b:Int}
theorem VG{c:Int->Int}(h:(fst (λi=>nz (c i)) a b).getD 0=0):∀i,a<=i->i<b->c i=0:=by
 have:fst (λi=>nz (c i)) a b=W:=by
  cases hf:fst (λi=>nz (c i)) a b with
  |none=>rfl|some r=>
   grind [v1,Cc,nz]
 grind [Bf,nz]
variable{e:Int}
theorem L5:nz e=W↔e=0:=by grind[nz]
theorem XC{α:Type}[Inhabited α]{l:List α}{f:α->K1}{p:α->Bool}(h:∀x∈l,f x=Y (p x)):
  (ei (gt (ρ:=Int) (λ(o:Int)(_:Unit)=>(idx l o).bind λd=>(f d).bind λj=>if j=X then Y (.ret o)else Y (.next ())) 0 (l.length:Int) ()) (λ_=>Y (-1)) (λw=>Y w))=
   Y ((fst (λi=>if p (AA l i)=X then Y i else W) 0 l.length).getD (-1)):=by
 rw [B9 (λi=>if p (AA l i)=X then Y i else W)]
 .rw[Eo];cases fst (λi=>if p (AA l i)=X then Y i else W) 0 l.length<;>rfl
 .intro i q u _;rw[AD q u,bs,h _ (AI q u),bs,xO]
theorem a7{α:Type}[Inhabited α]{l:List α}{p:α->Bool}:decide (0<=(fst (λi=>if p (AA l i)=X then Y i else W) 0 l.length).getD (-1))=l.any p:=by
 rw [Iz,kg];cases h:fst (λi=>if p (AA l i)=X then Y i else W) 0 l.length with
 |none=>
  grind [Bf,v5,Option.isSome_eq_false_iff,Option.isNone_iff_eq_none,AA]
 |some k=>
  grind [Cc,AA,v1,v5,Option.isSome_iff_ne_none,Bf]
theorem FU{α:Type}[Inhabited α]{l:List α}{f:α->K1}{p:α->Bool}(h:∀x∈l,f x=Y (p x)):
  ((ei (gt (ρ:=Int) (λ(o:Int)(_:Unit)=>(idx l o).bind λd=>(f d).bind λj=>if j=X then Y (.ret o)else Y (.next ())) 0 (l.length:Int) ()) (λ_=>Y (-1)) (λq=>Y q)).bind λu=>Y (decide (0<=u)))=Y (l.any p):=by
 rw [XC h,bs,a7]
end Go.Sf
namespace Go.Sf.Sc
open Go Go.Sf
instance:Inhabited ke:=⟨⟨⟨#[]⟩,0,0,[]⟩⟩
instance:Inhabited Cv:=⟨⟨⟨#[]⟩,0,T,[]⟩⟩
instance:Inhabited C7:=⟨⟨⟨#[]⟩,0,0,0,0,0,0⟩⟩
instance:Inhabited CN:=⟨⟨0,0,0⟩⟩
instance:Inhabited C4:=⟨⟨0,0,⟨0,0⟩⟩⟩
instance:Inhabited Test:=⟨⟨0,⟨0,0⟩,⟨0,0⟩⟩⟩
instance:Inhabited d5:=⟨⟨0,[],⟨[],[]⟩,⟨⟨[],[]⟩,[],0,[]⟩⟩⟩
variable{l:Fp}
theorem R9{f:Int->K1}{p:Int->Bool}(h:∀x∈l,f x=Y (p x)):BE l f=Y (l.any p):=FU h
theorem jZ{l:List CN}{f:CN->K1}{p:CN->Bool}(h:∀x∈l,f x=Y (p x)):Bw l f=Y (l.any p):=FU h
theorem di{l:List d5}{f:d5->K1}{p:d5->Bool}(h:∀x∈l,f x=Y (p x)):CR l f=Y (l.any p):=FU h
theorem ip{l:List Cv}{p:Cv->Bool}:Cq l (λx=>Y (p x))=Y (l.any p):=FU (λ_ _=>rfl)
theorem im{l:List C7}{p:C7->Bool}:Cp l (λx=>Y (p x))=Y (l.any p):=FU (λ_ _=>rfl)
theorem uf{l:List ke}{p:ke->Bool}:DG l (λx=>Y (p x))=Y (l.any p):=FU (λ_ _=>rfl)
theorem dj{p:Int->Bool}:BE l (λx=>Y (p x))=Y (l.any p):=FU (λ_ _=>rfl)
theorem ja{l:List CN}{p:CN->Bool}:Bw l (λx=>Y (p x))=Y (l.any p):=FU (λ_ _=>rfl)
theorem jc{l:List C4}{p:C4->Bool}:Cy l (λx=>Y (p x))=Y (l.any p):=FU (λ_ _=>rfl)
theorem xb(l:Fp)(v:Int):slices_Index_int l v=Y ((fst (λi=>if decide (v=AA l i)=X then Y i else W) 0 l.length).getD (-1)):=by
 have:=XC (l:=l) (f:=λx=>Y (decide (v=x))) (p:=λx=>decide (v=x)) (λ_ _=>rfl);unfold slices_Index_int
 grind
theorem Mm(l:Fp)(v:Int):slices_Contains_int l v=Y (l.any λx=>decide (v=x)):=by grind[slices_Contains_int,xb,a7]
theorem uh(l:a5)(v:Bool):Gg l v=Y (l.any λx=>v==x):=by
 have:=FU (l:=l) (f:=λx=>Y (v==x)) (p:=λx=>v==x) (λ_ _=>rfl);unfold Gg Kd
 grind
structure Ws(a:ke):Prop where
 name:(a.kq.size:Int)<=40
 names:a.pc.length<=25
 each:∀x∈a.pc,(x.size:Int)<=40
structure A0(t:AC):Prop where
 ea:t.dl.length<=20
 eg:t.d3.length<=30
 name:∀n∈t.dl,(n.kq.size:Int)<=40
 AbG:∀n∈t.dl,n.po.length<=30
 each:∀n∈t.dl,∀a∈n.po,Ws a
 ename:∀e∈t.d3,(e.kq.size:Int)<=40
def par(t:AC)(i:Int):Int:=(AA t.dl i).t1
def Ff(t:AC)(k:Int):Prop:=∀i,0<=i->i<k->-1<=par t i/\par t i<i
def Cg(t:AC):Nat->Int->List ke
 |0,_=>[]|n+1,a=>if a<0 then[]else Cg t n (par t a)++(AA t.dl a).po
def BL(t:AC)(a:Int):List ke:=Cg t (a+1).toNat a
variable{t:AC}{a:Int}
theorem LH{n:Nat}(h:a<0):Cg t n a=[]:=by
 cases n with
 |zero=>rfl|succ n=>rw[Cg,a6 h]
variable{k:Int}
theorem Oo(d:Ff t k):∀(n m:Nat)(a:Int),a<k->a<n->a<m->Cg t n a=Cg t m a
 |n,m,a,h,j,o=>by
  by_cases f:a<0
  .grind[LH]
  .cases n with
   |zero=>omega|succ n=>
    cases m with
    |zero=>omega|succ m=>
     rw [Cg,Cg,ac f,ac f];have:=d a U h;rw[Oo d n m (par t a) U U U]
theorem PE(hf:A0 t)(f:k<=t.dl.length)(d:Ff t k):∀(n:Nat)(a:Int),a<k->((Cg t n a).length:Int)<=30*n
 |0,_,_=>by simp[Cg]|n+1,a,ha=>by
  rw [Cg];split
  .simp;omega
  .rename_i h;have j:=d a U ha;have o:=PE hf f d n (par t a) U;have q:=hf.AbG _ (AI (l:=t.dl) (show 0<=a by omega) U)
   grind
theorem Xw(hf:A0 t)(h:k<=t.dl.length)(f:Ff t k):∀(n:Nat)(a:Int),a<k->∀x∈Cg t n a,Ws x
 |0,_,_=>by simp[Cg]|n+1,a,ha=>by
  rw [Cg];split
  .simp
  .rename_i j;have o:=f a U ha;intro x d;rcases List.mem_append.1 d with d|d
   .exact Xw hf h f n (par t a) U x d
   .exact hf.each _ (AI (l:=t.dl) (show 0<=a by omega) U) x d
theorem IP(hf:A0 t)(d:k<=t.dl.length)(f:Ff t k)(ha:a<k):(BL t a).length<=600:=by
 have:=PE hf d f (a+1).toNat a ha;have:=hf.ea;unfold BL;omega
theorem PF(hf:A0 t)(d:k<=t.dl.length)(f:Ff t k)(ha:a<k):∀x∈BL t a,Ws x:=Xw hf d f _ a ha
theorem fk(hf:A0 t)(j:k<=t.dl.length)(h:Ff t k):∀(n:Nat)(a:Int),0<=a->a<k->a<n->Dw n t a=Y (Cg t n a)
 |0,_,_,_,_=>by omega|n+1,a,q,ha,B=>by
  have y:=h a U ha;have u:=PE hf j h n (par t a) U;have z:=hf.AbG _ (AI (l:=t.dl) q U);have A:=hf.ea;rw[Dw,Cg,ac U,AD q U];simp only[bs];show((if decide (0<=par t a)=X then(Dw n t (par t a)).bind λf=>Y f else Y []).bind _)=_;have e:(if decide (0<=par t a)=X then(Dw n t (par t a)).bind λf=>Y f else Y [])=Y (Cg t n (par t a)):=by
   by_cases o:0<=par t a
   .rw[a6 h!,fk hf j h n (par t a) o U U];rfl
   .rw[ac h!,LH U]
  have hb:(Cg t n (par t a)).length+(AA t.dl a).po.length<=AY:=by
   unfold AY;have:((Cg t n (par t a)).length:Int)<=30*n:=u;have w:Cg t n (par t a)=Cg t 20 (par t a):=by
    by_cases d:par t a<0
    .rw[LH d,LH d]
    .exact Oo h n 20 (par t a) U U U
   have x:=PE hf j h 20 (par t a) U;rw[<-w]at x;omega
  rw [e,bs,AV hb];rfl
theorem kF(hf:A0 t)(d:k<=t.dl.length)(f:Ff t k)(h:0<=a)(ha:a<k):OH t a=Y (BL t a):=
 DV (a+1).toNat λn j=>by
  grind [fk,BL,Oo]
theorem gP(hf:A0 t)(h:k<=t.dl.length)(f:Ff t k):∀(n:Nat)(a:Int),-1<=a->a<k->a+1<n->Ej n t a=Y (Cg t n a)
 |0,_,_,_,_=>by omega|n+1,a,x,ha,y=>by
  rw [Ej,Cg];by_cases d:a<0
  .grind
  .have q:=f a U ha;have u:=hf.AbG _ (AI (l:=t.dl) (show 0<=a by omega) U);have w:=hf.ea;rw[ac c!,ac d,AD U U];simp only[bs];have j:Cg t n (par t a)=Cg t 20 (par t a):=by
    by_cases d:par t a<0
    .rw[LH d,LH d]
    .exact Oo f n 20 (par t a) U U U
   have o:=PE hf h f 20 (par t a) U;rw[<-j]at o;have hb:(Cg t n (par t a)).length+(AA t.dl a).po.length<=AY:=a?
   rw [show(AA t.dl a).t1=par t a from rfl,gP hf h f n (par t a) U U U,bs,AV b_];simp only[bs,List.nil_append];rw[AV hb];rfl
theorem kQ(hf:A0 t)(d:k<=t.dl.length)(f:Ff t k)(h:0<=a)(ha:a<k):N7 t a=Y (BL t a):=
 DV (a+2).toNat λn j=>by
  grind [gP,BL,Oo]
end Go.Sf.Sc
namespace Go.Sf.Sc
open Go Go.Sf
def Mr(l:List ByteArray):Int:=
 if (20:Int)<l.length then 3 else(fst (λi=>if GD (AA l i)=T then Y 2 else if kg (λj=>AA l j==AA l i) 0 i=X then Y 5 else W) 0 l.length).getD 0
variable{b:Int}
theorem dt{l:List ByteArray}{x:ByteArray}(d:0<=b)(f:b<=l.length):(l.take b.toNat).contains x=kg (λj=>AA l j==x) 0 b:=by
 rw [List.contains_eq_any_beq,R6 d f]
 grind
theorem vS{l:List ByteArray}(o:∀x∈l,(x.size:Int)<=40):KW l=Y (Mr l):=by
 unfold KW Mr;by_cases d:(20:Int)<l.length
 .grind
 .rw[ac c!,ac d];rw[B9 (λi=>if GD (AA l i)=T then Y 2 else if kg (λj=>AA l j==AA l i) 0 i=X then Y 5 else W),DI];intro i f h _;have q:=o _ (AI f h);rw[AD f h,bs,SM U,bs,H9 f U];simp only[bs,RL,dt f (show i<=l.length by omega)];cases GD (AA l i)<;>cases kg (λj=>AA l j==AA l i) 0 i<;>rfl
theorem vp{l:List ByteArray}(o:∀x∈l,(x.size:Int)<=40):KG l=Y (Mr l):=by
 unfold KG Mr;by_cases d:(20:Int)<l.length
 .grind
 .rw[ac c!,ac d];rw[B9 (λi=>if GD (AA l i)=T then Y 2 else if kg (λj=>AA l j==AA l i) 0 i=X then Y 5 else W),DI];intro i f h _;have q:=o _ (AI f h);rw[AD f h,bs,SN U,bs,Bk (λj=>AA l j==AA l i) 5]
  .cases GD (AA l i)<;>cases kg (λj=>AA l j==AA l i) 0 i<;>rfl
  grind [AD]
def OI(all:List ke)(k:Int):Int:=
 let x:=AA all k
 if GD x.kq=T then 2 else if kg (λj=>(AA all j).kq==x.kq) 0 k=X then 5 else
 if x.pc.length=0 then(if -1000000<=x.Low/\x.Low<=x.Aab/\x.Aab<=1000000 then 0 else 6)else
 if Mr x.pc≠0 then Mr x.pc else if x.Low=0/\x.Aab=x.pc.length-1 then 0 else 6
variable{k:Int}
theorem jE{d:List ke}(q:∀x∈d,Ws x)(o:0<=k)(u:k<d.length):Gi (AA d k) (d.take k.toNat)=Y (OI d k):=by
 have j:=q _ (AI o u);have A:=j.name;unfold Gi OI;dsimp only;rw[SM U,bs,show(λf=>Ke f (AA d k))=(λf=>Y (f.kq==(AA d k).kq))from rfl,uf,bs,R6 o U,vS j.each,bs];have w:=j.names;have y:At ((AA d k).pc.length-1)=(AA d k).pc.length-1:=A1 U U;rw[y];have z:(AA d k).pc.length=0->Mr (AA d k).pc=0:=λh=>by rw[List.eq_nil_of_length_eq_zero h];rfl
 generalize Mr (AA d k).pc=e at z|-;simp only[bs,sA,x!,ne,x?,decide_eq_false_iff_not,y_,y!,y?,ne_eq]
 repeat' (first|rfl|(exfalso;omega;done)|split)
 all_goals (first|rfl|(exfalso;omega)|omega|simp_all|(simp_all;omega))
theorem jG{x:ke}(d:Ws x):Gc x=Y (
 if x.pc.length=0 then(if -1000000<=x.Low/\x.Low<=x.Aab/\x.Aab<=1000000 then 0 else 6)else
 if Mr x.pc≠0 then Mr x.pc else if x.Low=0/\x.Aab=x.pc.length-1 then 0 else 6):=by
 have f:=d.names;have h:At (x.pc.length-1)=x.pc.length-1:=A1 U U;unfold Gc EM;simp only[bs,h,vp d.each];generalize Mr x.pc=e;simp only[bs,sA,x!,ne,x?,decide_eq_false_iff_not,y_,y!,y?,ne_eq]
 repeat' (first|rfl|(exfalso;omega;done)|split)
 all_goals (first|rfl|(exfalso;omega)|omega|simp_all|(simp_all;omega))
def Ka(t:AC)(i:Int):Int:=
 let n:=AA t.dl i
 if GD n.kq=T then 2 else if kg (λj=>(AA t.dl j).kq==n.kq) 0 i=X then 5 else
 if n.t1< -1\/i<=n.t1 then 6 else if 4<n.po.length\/8<(BL t i).length then 3 else
 (fst (λk=>nz (OI (BL t i) k)) ((BL t i).length-n.po.length) (BL t i).length).getD 0
variable{t:AC}{i:Int}
theorem Xy(d:0<=i):(AA t.dl i).po.length<=(BL t i).length:=by
 unfold BL;rw[show(i+1).toNat=i.toNat+1 by omega,Cg,ac U,az];omega
theorem Ff.next(h:Ff t i)(f:-1<=par t i)(o:par t i<i):Ff t (i+1):=by
 intro j d q;by_cases u:j=i
 .grind
 .exact h j d U
theorem yR(hf:A0 t)(f:0<=i)(u:i<t.dl.length)(z:Ff t i):Ln t i=Y (Ka t i):=by
 have B:=hf.name _ (AI f u);unfold Ln Ka;dsimp only;rw[AD f u,bs,SM U,bs,H9 f U,bs,show(λo=>P0 o (AA t.dl i))=(λo=>Y (o.kq==(AA t.dl i).kq))from rfl,ip,bs,R6 f U];cases GD (AA t.dl i).kq
 .rfl
 .cases kg (λj=>(AA t.dl j).kq==(AA t.dl i).kq) 0 i
  .by_cases hr:(AA t.dl i).t1< -1\/i<=(AA t.dl i).t1
   .rcases hr with hr|hr<;>simp[hr]
   .have d:Ff t (i+1):=z.next (by unfold par;omega) (by unfold par;omega)
    have q:(decide ((AA t.dl i).t1< -1)||decide (i<=(AA t.dl i).t1))=T:=by
     rw [z_];simpa using hr
    rw [kF hf (k:=i+1) U d f U,bs];have x:=IP hf (k:=i+1) (a:=i) U d U;have y:=Xy (t:=t) f;have h:=PF hf (k:=i+1) (a:=i) U d U;rw[A1 U U,B9 (λk=>nz (OI (BL t i) k)),DI]
    .simp only[q,hr,z!,x_,if_false];simp only[bs,sA,x!,ne,x?,decide_eq_false_iff_not,y_,y!,y?,ne_eq]
     repeat' (first|rfl|(exfalso;omega;done)|split)
     all_goals (first|rfl|(exfalso;omega)|omega|simp_all|(simp_all;omega))
    .intro k A w _;rw[AD U w,bs,H9 U U,bs,jE h U w,bs,N2]
  .rfl
theorem yk(hf:A0 t)(h:0<=i)(q:i<t.dl.length)(z:Ff t i):LT t i=Y (Ka t i):=by
 have D:=hf.name _ (AI h q);have E:=hf.ea;unfold LT Ka EM;dsimp only;rw[AD h q,bs,SN U,bs,Bk (λj=>(AA t.dl j).kq==(AA t.dl i).kq) 5]
 .cases GD (AA t.dl i).kq
  .rfl
  .cases kg (λj=>(AA t.dl j).kq==(AA t.dl i).kq) 0 i
   .simp only[z!,x_,if_false,B1,bs];rw[A1 U U];by_cases hr:(AA t.dl i).t1< -1\/i<=(AA t.dl i).t1
    .rw[a6,ac a!,a6 hr];simp;omega
    .have d:Ff t (i+1):=z.next (by unfold par;omega) (by unfold par;omega)
     rw [ac a_,ac a!,ac hr];rw[kQ hf (k:=i+1) U d h U,bs];have w:=IP hf (k:=i+1) (a:=i) U d U;have x:=Xy (t:=t) h;have f:=PF hf (k:=i+1) (a:=i) U d U;rw[A1 U U];rw[B9 (λk=>nz (OI (BL t i) k)),DI]
     .simp only[bs,sA,x!,ne,x?,decide_eq_false_iff_not,y_,y!,y?,ne_eq]
      repeat' (first|rfl|(exfalso;omega;done)|split)
      all_goals (first|rfl|(exfalso;omega)|omega|simp_all|(simp_all;omega))
     .intro k u o _;have y:=f _ (AI (show 0<=k by omega) o);have B:=y.name;simp only[AD (show 0<=k by omega) o,bs];rw[SN U,bs,Bk (λj=>(AA (BL t i) j).kq==(AA (BL t i) k).kq) 5]
      .rw[jG y];simp only[bs,N2];unfold OI;dsimp only;cases GD (AA (BL t i) k).kq
       .rfl
       .cases kg (λj=>(AA (BL t i) j).kq==(AA (BL t i) k).kq) 0 k<;>rfl
      .intro j A C _;rw[AD A U,bs];split<;>rfl
   .rfl
 .intro j u o _;rw[AD u U,bs];split<;>rfl
def PG(low high:Int):Bool:=((decide (0<=low))&&(decide (low<=40)))&&((decide (high=(-1)))||((decide (low<=high))&&(decide (high<=40))))
theorem vg(low high:Int):L8 low high=Y (PG low high):=by
 unfold L8 PG EM
 grind
def NM(t:AC)(i:Int):Int:=
 let x:=AA t.d3 i
 if GD x.kq=T then 2 else if kg (λj=>(AA t.d3 j).kq==x.kq) 0 i=X then 5 else
 if (0<=x.hV/\x.hV<t.dl.length)/\(0<=x.To/\x.To<t.dl.length)/\PG x.AaQ x.Aay=X/\PG x.Abh x.AaT=X then 0 else 6
theorem yI(hf:A0 t)(d:0<=i)(h:i<t.d3.length):Lk t i=Y (NM t i):=by
 have o:=hf.ename _ (AI d h);unfold Lk NM NC;dsimp only;rw[AD d h,bs,SM U,bs,H9 d U,bs,show(λf=>Pz f (AA t.d3 i))=(λf=>Y (f.kq==(AA t.d3 i).kq))from rfl,im,bs,R6 d U];simp[show∀a b,L0 a b=Y (PG a b)from λ_ _=>rfl];generalize GD (AA t.d3 i).kq=b1;generalize kg (λj=>(AA t.d3 j).kq==(AA t.d3 i).kq) 0 i=b2;generalize PG (AA t.d3 i).AaQ (AA t.d3 i).Aay=b3;generalize PG (AA t.d3 i).Abh (AA t.d3 i).AaT=b4;cases b1
 .rfl
 grind
theorem yc(hf:A0 t)(h:0<=i)(o:i<t.d3.length):LS t i=Y (NM t i):=by
 have q:=hf.ename _ (AI h o);have u:=hf.ea;unfold LS NM EM;dsimp only;rw[AD h o,bs,SN U,bs,Bk (λj=>(AA t.d3 j).kq==(AA t.d3 i).kq) 5]
 .simp only[A1 (show -9223372036854775808<=(t.dl.length:Int)-1 by omega) U,vg,bs];generalize GD (AA t.d3 i).kq=b1;generalize kg (λj=>(AA t.d3 j).kq==(AA t.d3 i).kq) 0 i=b2;generalize PG (AA t.d3 i).AaQ (AA t.d3 i).Aay=b3;generalize PG (AA t.d3 i).Abh (AA t.d3 i).AaT=b4;cases b1
  .rfl
  .cases b2
   .cases b3<;>cases b4
    all_goals
     by_cases ha:0<=(AA t.d3 i).hV/\(AA t.d3 i).hV<t.dl.length
     .have d:(AA t.d3 i).hV<=(t.dl.length:Int)-1:=U
      by_cases hb:0<=(AA t.d3 i).To/\(AA t.d3 i).To<t.dl.length
      .have f:(AA t.d3 i).To<=(t.dl.length:Int)-1:=U
       simp [ha,hb,d,f,B1]
      .have:(decide (0<=(AA t.d3 i).To)&&decide ((AA t.d3 i).To<=(t.dl.length:Int)-1))=T:=e?
       simp [ha,hb,d,this,B1]
     .have:(decide (0<=(AA t.d3 i).hV)&&decide ((AA t.d3 i).hV<=(t.dl.length:Int)-1))=T:=e?
      simp [ha,this,B1]
   .rfl
 grind [AD]
def BF(t:AC):ByteArray×Int:=
 if t.dl.length=0 then(⟨#[]⟩,7)else if 12<t.dl.length\/20<t.d3.length then(⟨#[]⟩,3)else
 match fst (λi=>(nz (Ka t i)).map λe=>((AA t.dl i).kq,e)) 0 t.dl.length with
 |some r=>r|none=>(fst (λi=>(nz (NM t i)).map λe=>((AA t.d3 i).kq,e)) 0 t.d3.length).getD (⟨#[]⟩,0)
theorem oJ(h:Ka t i=0):-1<=par t i/\par t i<i:=by grind[Ka,par,AA]
theorem Oh{α β:Type}{o:Option α}{g:α->β}:o.map g=W↔o=W:=by cases o<;>simp
theorem XO(h:∀j,0<=j->j<i->Ka t j=0):Ff t i:=λj d f=>oJ (h j d f)
theorem WA{ρ:Type}(e:Int)(n:ByteArray):(if(!decide (e=0))=X then Y (CF.ret (n,e))else Y (CF.next ()))=Y (S8 ((nz e).map λe=>(n,e))):=by grind[nz,S8]
theorem Oy(hf:A0 t):EG t=Y (BF t):=by
 unfold EG BF;rw[B9 (λi=>(nz (Ka t i)).map λe=>((AA t.dl i).kq,e)),Eo]
 .rw[B9 (λi=>(nz (NM t i)).map λe=>((AA t.d3 i).kq,e)),Eo]
  .cases fst (λi=>(nz (Ka t i)).map λe=>((AA t.dl i).kq,e)) 0 t.dl.length<;>cases fst (λi=>(nz (NM t i)).map λe=>((AA t.d3 i).kq,e)) 0 t.d3.length
   all_goals dsimp only
   all_goals try simp only[v1]
   all_goals
    simp only[bs,sA,x!,ne,x?,decide_eq_false_iff_not,y_,y!,y?,ne_eq]
    repeat' (first|rfl|(exfalso;omega;done)|split)
    all_goals (first|rfl|(exfalso;omega)|omega|simp_all|(simp_all;omega))
  .intro i d f _;rw[AD d f,bs,yI hf d f,bs];exact WA (ρ:=Unit) _ _
 .intro i d f q;have u:Ff t i:=XO λj h o=>L5.1 (Oh.1 (q j h o));rw[AD d f,bs,yR hf d f u,bs];exact WA (ρ:=Unit) _ _
theorem R0(hf:A0 t):Er t=Y (BF t):=by
 unfold Er BF;rw[B9 (λi=>(nz (Ka t i)).map λe=>((AA t.dl i).kq,e)),Eo]
 .rw[B9 (λi=>(nz (NM t i)).map λe=>((AA t.d3 i).kq,e)),Eo]
  .cases fst (λi=>(nz (Ka t i)).map λe=>((AA t.dl i).kq,e)) 0 t.dl.length<;>cases fst (λi=>(nz (NM t i)).map λe=>((AA t.d3 i).kq,e)) 0 t.d3.length
   all_goals dsimp only
   all_goals try simp only[v1]
   all_goals
    simp only[bs,sA,x!,ne,x?,decide_eq_false_iff_not,y_,y!,y?,ne_eq]
    repeat' (first|rfl|(exfalso;omega;done)|split)
    all_goals (first|rfl|(exfalso;omega)|omega|simp_all|(simp_all;omega))
  .intro i d f _;simp only[yc hf d f,AD d f,bs];exact WA (ρ:=Unit) _ _
 .intro i d f q;have u:Ff t i:=XO λj h o=>L5.1 (Oh.1 (q j h o));simp only[yk hf d f u,AD d f,bs];exact WA (ρ:=Unit) _ _
end Go.Sf.Sc
namespace Go.Sf.Sc
open Go Go.Sf
theorem JO{α:Type}{c:Bool}{a b:α}:(if c=X then Y a else Y b)=Y (if c=X then a else b):=by cases c<;>rfl
def OO(n:Int):Bool:=(decide (0<=n))&&(decide (n<=99))
def T6(e:CN)(n:Int):Bool:=OO e.ia&&(decide (0<=e.hV)&&decide (e.hV<n))&&(decide (0<=e.To)&&decide (e.To<n))
def CL(g:dr):Int:=
 if 40<g.dl.length\/80<g.d3.length then 3 else if(g.dl.any λn=>!OO n)=X then 6 else if(g.d3.any λe=>!T6 e g.dl.length)=X then 6 else 0
structure D6(g:dr):Prop where
 ea:g.dl.length<=40
 eg:g.d3.length<=80
 kind:∀n∈g.dl,0<=n/\n<=99
 fit:∀e∈g.d3,(0<=e.ia/\e.ia<=99)/\(0<=e.hV/\e.hV<g.dl.length)/\(0<=e.To/\e.To<g.dl.length)
variable{g:dr}
theorem Dp(h:CL g=0):D6 g:=by
 unfold CL at h;split at h
 .cases h
 .split at h
  .cases h
  .split at h
   .cases h
   .rename_i o f d;refine⟨U,U,λn j=>?_,λe he=>?_⟩
    .rw[z?,A']at f
     grind [OO]
    .rw[z?,A']at d;have:=d e he;simp[T6,OO,x?,sA]at this;omega
theorem yL{e:CN}{n:Nat}(h:n<=40):PT e n=Y (T6 e n):=by
 unfold PT I2 T6 OO;simp only[bs,A1 (show -9223372036854775808<=(n:Int)-1 by omega) U];have d:decide (e.hV<=(n:Int)-1)=decide (e.hV<n):=i?
 have f:decide (e.To<=(n:Int)-1)=decide (e.To<n):=i?
 rw [d,f];generalize (decide (0<=e.ia)&&decide (e.ia<=99))=b1;generalize (decide (0<=e.hV)&&decide (e.hV<n))=b2;cases b1<;>cases b2<;>simp
theorem NV(g:dr):Db g=Y (CL g):=by
 unfold Db CL;by_cases h:40<g.dl.length\/80<g.d3.length
 .grind
 .rw[ac a_,ac h,show OM=(λn=>Y (!OO n))from rfl,dj,jZ (p:=λe=>!T6 e g.dl.length) (λe _=>by
   grind [ON,yL])]
  grind
theorem Oz(g:dr):Es g=Y (CL g):=by
 unfold Es CL;by_cases h:40<g.dl.length\/80<g.d3.length
 .grind
 .rw[ac a_,ac h,Iz,Iz,Bk (λi=>!OO (AA g.dl i)) 6]
  .rw[Bk (λi=>!T6 (AA g.d3 i) g.dl.length) 6]
   .cases kg (λi=>!OO (AA g.dl i)) 0 g.dl.length
    .cases kg (λi=>!T6 (AA g.d3 i) g.dl.length) 0 g.d3.length<;>rfl
    .rfl
   .intro i d f _;rw[AD d f,bs];unfold Qd T6;simp[show∀n,NY n=Y (OO n)from λ_=>rfl]
    grind
  grind [AD,NY,AA,OO]
def DZ(t:AC)(g:dr):Bool:=!(g.dl.any λn=>decide (t.dl.length<=n))&&!(g.d3.any λe=>decide (t.d3.length<=e.ia))
variable{t:AC}
theorem IA(d:D6 g)(h:DZ t g=X):(∀n∈g.dl,0<=n/\n<t.dl.length)/\∀e∈g.d3,0<=e.ia/\e.ia<t.d3.length:=by
 unfold DZ at h;simp[x?,sA]at h;refine⟨λn f=>?_,λe he=>?_⟩
 .have:=h.1 n f;have:=d.kind n f;omega
 .have:=h.2 e he;have:=d.fit e he;omega
theorem vc(t:AC)(g:dr):Ld t g=Y (DZ t g):=by grind[Ld,DZ,Ps,dj,Pt,CN,ja]
theorem Z4(h:D6 g):Ig t g=Y (DZ t g):=by
 unfold Ig DZ;rw[Iz,Iz,Bk (λi=>decide (t.dl.length<=AA g.dl i)) T]
 .rw[Bk (λi=>decide (t.d3.length<=(AA g.d3 i).ia)) T]
  .cases kg (λi=>decide (t.dl.length<=AA g.dl i)) 0 g.dl.length
   .cases kg (λi=>decide (t.d3.length<=(AA g.d3 i).ia)) 0 g.d3.length<;>rfl
   .rfl
  .intro i d f _;have:=(h.fit _ (AI d f)).1.1;simp[AD d f]
   grind
 .intro i d f _;have:=(h.kind _ (AI d f)).1;simp[AD d f]
  grind
structure F6(t:AC):Prop where
 ea:t.dl.length<=12
 eg:t.d3.length<=20
 node:∀i:Int,0<=i->i<t.dl.length->Ka t i=0
 edge:∀i:Int,0<=i->i<t.d3.length->NM t i=0
theorem C6(h:(BF t).2=0):F6 t:=by
 unfold BF at h;split at h
 .cases h
 .split at h
  .cases h
  .rename_i q u;have d:∀i:Int,0<=i->i<t.dl.length->Ka t i=0:=by
    grind [Cc,nz,L5,Oh,Bf]
   have he:∀i:Int,0<=i->i<t.d3.length->NM t i=0:=by
    split at h
    next r hr=>obtain⟨i,j,o,f,_⟩:=Cc hr;rw[d i j o]at f;cases f
    .cases hr:fst (λi=>(nz (NM t i)).map λe=>((AA t.d3 i).kq,e)) 0 t.d3.length with
     |some r=>
      grind [Cc,nz]
     |none=>
      grind [L5,Oh,Bf]
   exact ⟨U,U,d,he⟩
theorem F6.par(h:F6 t):Ff t t.dl.length:=XO h.node
variable{i:Int}
theorem F6.ends(h:F6 t)(d:0<=i)(f:i<t.d3.length):(0<=(AA t.d3 i).hV/\(AA t.d3 i).hV<t.dl.length)/\(0<=(AA t.d3 i).To/\(AA t.d3 i).To<t.dl.length):=by
 have:=h.edge i d f
 grind [NM]
def MT(t:AC)(a:Int):Bool:=decide (0<=a)&&decide (a<t.dl.length)
variable{a:Int}
theorem NP:MT t a=X↔0<=a/\a<t.dl.length:=by unfold MT;simp
theorem Z0(hf:A0 t)(l:Fp):Hg t l=Y (if(BF t).2≠0 then(BF t).2 else if(l.all (MT t))=X then 0 else 6):=by
 unfold Hg;rw[Oy hf,bs,R9 (p:=λa=>!MT t a) (λa _=>by unfold OZ MT;rw[show decide (a<0)=!decide (0<=a)from by rw[<-decide_not,decide_eq_decide];omega,show decide ((t.dl.length:Int)<=a)=!decide (a<t.dl.length)from by rw[<-decide_not,decide_eq_decide];omega,Bool.not_and]),bs]
 grind
theorem kT(hf:A0 t)(a b:Int):Ic t a b=Y (if(BF t).2≠0 then(BF t).2 else if(MT t a&&MT t b)=X then 0 else 6):=by
 have d:=hf.ea;have e:∀a,decide (a<=(t.dl.length:Int)-1)=decide (a<(t.dl.length:Int)):=λa=>i?
 unfold Ic EM;rw[R0 hf,bs]
 grind [A1,BF,MT]
theorem pQ{α:Type}[Inhabited α]{l:List α}(d:0<=i)(f:i<l.length):BR l i (AA l i)=l:=by grind[BR,AA,A!,List.set_getElem_self]
theorem BU{α:Type}[Inhabited α]{l:List α}(d:0<=i)(f:i<l.length):l.take (i+1).toNat=l.take i.toNat++[AA l i]:=by
 unfold AA;rw[show(i+1).toNat=i.toNat+1 by omega,List.take_add_one,A?,A! U];rfl
theorem Be{α:Type}{l:List α}(h:l.length<=AY):Aw [] l=Y l:=by grind[AV]
def IF(t:AC)(a:Int):List ke×Int:=if(BF t).2≠0 then([],(BF t).2)else if MT t a=X then(BL t a,0)else([],6)
theorem TU(hf:A0 t)(a:Int):Fd t a=Y (IF t a):=by
 unfold Fd IF;rw[Z0 hf,bs];by_cases h:(BF t).2=0
 .have j:=C6 h;have e:[a].all (MT t)=MT t a:=V
  rw [e];simp[h];cases hi:MT t a
  .rfl
  .rw[a6 rfl,a6 rfl];have hr:=NP.1 hi;have C:=IP hf (v! _) j.par hr.2;have A:=PF hf (v! _) j.par hr.2;rw[ac a!,kF hf (v! _) j.par hr.1 hr.2,bs];obtain⟨s',B,rfl⟩:=SB (f:=(λ(o:Int)(q:List ke)=>
 (idx q o).bind λu=>
 (slices_Clone_string u.pc).bind λw=>
 (idx q o).bind λd=>
 Y (BR q o (ke.mk d.kq d.Low d.Aab w)))) (λ_ s=>s=BL t a) (a:=0) (b:=(BL t a).length) (s:=BL t a) U rfl (λi s x y z=>by
     subst z;have:=(A _ (AI x y)).names;refine⟨BL t a,?_,rfl⟩;unfold slices_Clone_string;rw[AD x y,bs,Be a?,bs,bs];congr 1;exact pQ x y)
   rw [B];rfl
 .simp[h,not_false_eq_true,decide_false]
theorem TW(hf:A0 t)(a:Int):FZ t a=Y (IF t a):=by
 unfold FZ IF;rw[kT hf,bs];by_cases h:(BF t).2=0
 .have d:=C6 h;rw[Bool.and_self];simp only[h,ne_eq,not_true_eq_false,if_false];cases hi:MT t a
  .rfl
  .rw[a6 rfl,a6 rfl];have hr:=NP.1 hi;have q:=IP hf (v! _) d.par hr.2;have o:=PF hf (v! _) d.par hr.2;rw[ac a!,kQ hf (v! _) d.par hr.1 hr.2,bs];rw[By (λi=>(BL t a).take i.toNat) U V]
   .rw[bs,v?,B_]
   .intro i f j;have:=(o _ (AI f j)).names;rw[AD f j,bs,Be a?,bs,AV (by rw[bk];simp;unfold AY;omega),BU f j];rfl
 grind
theorem YL(h:D6 g):CL g=0:=by
 have:=h.ea;have:=h.eg;unfold CL;rw[ac U,ac,ac]
 .intro k;obtain⟨e,he,k⟩:=B'.1 k;have:=h.fit e he;simp[T6,OO]at k;omega
 .intro k;obtain⟨n,d,k⟩:=B'.1 k;have:=h.kind n d;simp[OO]at k;omega
end Go.Sf.Sc
namespace Go.Sf.Sc
open Go Go.Sf
def Kz(t:AC):Nat->Int->Fp
 |0,_=>[]|n+1,a=>if a<0 then[]else a::Kz t n (par t a)
variable{t:AC}{k:Int}
theorem p6(f:Ff t k):∀(n m:Nat)(a:Int),a<k->a<n->a<m->Kz t n a=Kz t m a
 |n,m,a,h,j,o=>by
  by_cases d:a<0
  .cases n<;>cases m<;>simp[Kz,d]
  .cases n with
   |zero=>omega|succ n=>
    cases m with
    |zero=>omega|succ m=>
     rw [Kz,Kz,ac d,ac d];have:=f a U h;rw[p6 f n m (par t a) U U U]
theorem k9(t:AC):∀(n:Nat)(a:Int),(Kz t n a).length<=n
 |0,_=>by simp[Kz]|n+1,a=>by
  rw [Kz];split
  .simp
  .have:=k9 t n (par t a);simp;omega
def HP(t:AC)(a b:Int):Bool:=(Kz t (a+1).toNat a).any λx=>decide (b=x)
theorem j6(f:t.dl.length<=12)(q:Ff t t.dl.length):∀(n:Nat)(a:Int)(l:Fp),a<t.dl.length->a<n->l.length+n<=1000 ->
  ∃x,MJ (ρ:=Fp) (λ(d:Int×Fp)=>
 if (decide (0<=d.1))=X then
 (Aw d.2 [d.1]).bind λh=>
 (idx t.dl d.1).bind λj=>
 Y (.next (j.t1,h))
 else
 Y (.brk (d.1,d.2))) (a,l) (.inl (x,l++Kz t n a))
 |0,a,l,o,u,_=>by
  refine ⟨a,.brk ?_⟩
  grind [Kz]
 |n+1,a,l,o,u,A=>by
  by_cases w:a<0
  .refine⟨a,.brk ?_⟩
   grind [Kz]
  .have y:=q a U o;obtain⟨x,z⟩:=j6 f q n (par t a) (l++[a]) U U a_;refine⟨x,.next (s':=(par t a,l++[a])) ?_ ?_⟩
   .rw[a6 a_,AV b_,bs,AD U o];rfl
   grind [Kz,par]
variable{a b:Int}
theorem rR(h:F6 t)(ha:0<=a)(d:a<t.dl.length):Ll t a b=Y (HP t a b):=by
 have f:=h.ea;obtain⟨x,j⟩:=j6 f h.par (a+1).toNat a [] d U a_;have o:=k9 t (a+1).toNat a;unfold Ll Nl;rw[j.eq,B1]
 grind [slices_Reverse_int,AY,Mm,HP]
theorem gR(d:Ff t t.dl.length)(hb:0<=b):∀(n m:Nat)(a:Int),-1<=a->a<t.dl.length->a+1<n->a<m->EA n t a b=Y ((Kz t m a).any λx=>decide (b=x))
 |0,_,_,_,_,_,_=>by omega|n+1,m,a,j,f,o,q=>by
  rw [EA];by_cases ha:a<0
  .rw[ac a_,ac a_];cases m<;>simp[Kz,ha]
  .cases m with
   |zero=>omega|succ m=>
    have h:=d a U f;rw[Kz,ac ha,List.any_cons,a6 (show decide (0<=a)=X by simp;omega),AD U f];simp;rw[show(AA t.dl a).t1=par t a from rfl,gR d hb n m (par t a) U U U U]
    grind
theorem WL(h:F6 t)(ha:0<=a)(d:a<t.dl.length)(hb:0<=b):Hk t a b=Y (HP t a b):=
 DV (a+2).toNat λn f=>gR h.par hb n (a+1).toNat a U d U U
def OK(t:AC)(e f g:Int):Bool:=
 decide ((BF t).2=0)&&(MT t f&&MT t g)&&(decide (0<=e)&&decide (e<t.d3.length))&&(HP t f (AA t.d3 e).hV&&HP t g (AA t.d3 e).To)
theorem oS(hf:A0 t)(e f g:Int):J3 t e f g=Y (OK t e f g):=by
 unfold J3 OK;rw[Z0 hf,bs,show[f,g].all (MT t)=(MT t f&&MT t g)by simp];by_cases h:(BF t).2=0
 .simp only[h,ne_eq,not_true_eq_false,if_false];have d:=C6 h;cases hi:(MT t f&&MT t g)
  .rfl
  .rw[ne,NP,NP]at hi;by_cases he:0<=e/\e<t.d3.length
   .rw[ac a_,AD he.1 he.2];simp[rR d hi.1.1 hi.1.2,rR d hi.2.1 hi.2.2,he.1,he.2,decide_true]
    grind
   grind
 .simp[h]
theorem ot(hf:A0 t)(e f g:Int):Js t e f g=Y (OK t e f g):=by
 have u:=hf.eg;unfold Js OK EM;rw[kT hf,bs];by_cases h:(BF t).2=0
 .simp only[h,ne_eq,not_true_eq_false,if_false];have d:=C6 h;cases hi:(MT t f&&MT t g)
  .rfl
  .rw[ne,NP,NP]at hi;rw[A1 U U];simp only[bs];by_cases he:0<=e/\e<t.d3.length
   .have j:=d.ends he.1 he.2;have o:e<=(t.d3.length:Int)-1:=U
    rw [ac V,bs,ac (by simp[he.1,o]),AD he.1 he.2];simp[WL d hi.1.1 hi.1.2 j.1.1,WL d hi.2.1 hi.2.2 j.2.1,he.1,he.2,decide_true];cases HP t f (AA t.d3 e).hV<;>rfl
   .have:(decide (0<=e)&&decide (e<t.d3.length))=T:=by rw[z_];simpa using he
    have q:(decide (0<=e)&&decide (e<=(t.d3.length:Int)-1))=T:=e?
    rw [this,q];simp
 .simp[h]
def Pw(n:Int)(x:gl):Bool:=(((decide ((-1)<=x.Var))&&(decide (x.Var<n)))&&(decide ((-1000000)<=x.Add)))&&(decide (x.Add<=1000000))
def Qp(n:Int)(x:Test):Int:=if¬x.jj=1/\¬x.jj=2 then 1 else if(Pw n x.fu&&Pw n x.ec)=X then 0 else 6
def Lz(n:Int)(l:List Test):Int:=if n<0\/12<n then 6 else if 40<l.length then 3 else(fst (λi=>nz (Qp n (AA l i))) 0 l.length).getD 0
theorem yU(n:Int)(x:Test):Kj n x=Y (Qp n x):=by
 unfold Kj Qp;simp only[show∀n x,Jh n x=Y (Pw n x)from λ_ _=>rfl,bs];generalize Pw n x.fu=b1;generalize Pw n x.ec=b2;cases b1<;>cases b2
 all_goals
  simp only[bs,sA,x!,ne,x?,decide_eq_false_iff_not,y_,y!,y?,ne_eq]
  repeat' (first|rfl|(exfalso;omega;done)|split)
  all_goals (first|rfl|(exfalso;omega)|omega|simp_all|(simp_all;omega))
theorem rj(n:Int)(x:gl):Kq n x=Y (if Pw n x=X then 0 else 6):=by
 unfold Kq Pw;simp only[bs,sA,x!,ne,x?,decide_eq_false_iff_not,y_,y!,y?,ne_eq]
 repeat' (first|rfl|(exfalso;omega;done)|split)
 all_goals (first|rfl|(exfalso;omega)|omega|simp_all|(simp_all;omega))
theorem yq(n:Int)(x:Test):Q1 n x=Y (Qp n x):=by
 unfold Q1 Qp;simp only[rj,bs];generalize Pw n x.fu=b1;generalize Pw n x.ec=b2;cases b1<;>cases b2
 all_goals
  simp only[bs,sA,x!,ne,x?,decide_eq_false_iff_not,y_,y!,y?,ne_eq]
  repeat' (first|rfl|(exfalso;omega;done)|split)
  all_goals (first|rfl|(exfalso;omega)|omega|simp_all|(simp_all;omega))
theorem vb(n:Int)(l:List Test):I0 n l=Y (Lz n l):=by
 unfold I0 Lz;rw[B9 (λi=>nz (Qp n (AA l i))),DI]
 .simp only[bs,sA,x!,ne,x?,decide_eq_false_iff_not,y_,y!,y?,ne_eq]
  repeat' (first|rfl|(exfalso;omega;done)|split)
  all_goals (first|rfl|(exfalso;omega)|omega|simp_all|(simp_all;omega))
 .intro i d f _;rw[AD d f,bs,yU,bs,N2]
theorem v7(n:Int)(l:List Test):N6 n l=Y (Lz n l):=by
 unfold N6 Lz;rw[B9 (λi=>nz (Qp n (AA l i))),DI]
 .simp only[bs,sA,x!,ne,x?,decide_eq_false_iff_not,y_,y!,y?,ne_eq]
  repeat' (first|rfl|(exfalso;omega;done)|split)
  all_goals (first|rfl|(exfalso;omega)|omega|simp_all|(simp_all;omega))
 .intro i d f _;rw[AD d f,bs,yq,bs,N2]
def Tr(t:AC)(p:d7)(node ix:Int):ke×Bool:=
 if node<0\/p.dr.dl.length<=node then(default,T)else
 let l:=(IF t (AA p.dr.dl node)).1
 if ix<0\/l.length<=ix then(default,T)else(AA l ix,X)
theorem Xx(hf:A0 t)(a:Int):(IF t a).1.length<=600/\((IF t a).2≠0->(IF t a).1=[]):=by
 unfold IF;split
 .simp
 .rename_i h;have d:=C6 (t:=t) U;split
  next hi=>exact⟨IP hf (v! _) d.par (NP.1 hi).2,V⟩
  .simp
variable{p:d7}
theorem vK(hf:A0 t)(d:D6 p.dr)(s:C4):G9 t p s=Y (Tr t p s.o4 s.ke):=by
 have j:=d.ea;unfold G9 Tr DF;dsimp only;rw[A1 U U,bs];by_cases h:s.o4<0\/p.dr.dl.length<=s.o4
 .rw[a6 a_,a6 h];rfl
 .rw[ac a_,ac h,AD U U,bs,TU hf,bs];have o:=(Xx hf (AA p.dr.dl s.o4)).1;rw[A1 U U,bs];by_cases f:s.ke<0\/(IF t (AA p.dr.dl s.o4)).1.length<=s.ke
  .rw[a6 a_,a6 f];rfl
  grind [AD]
theorem vf(hf:A0 t)(node d:Int):LZ t p node d=Y (Tr t p node d):=by
 unfold LZ Tr;dsimp only;by_cases h:node<0\/p.dr.dl.length<=node
 .rw[a6 a_,a6 h];rfl
 .rw[ac a_,ac h,AD U U,bs,TW hf,bs];have j:=(Xx hf (AA p.dr.dl node)).2;by_cases f:d<0\/(IF t (AA p.dr.dl node)).1.length<=d
  .rw[a6 a_,a6 f];rfl
  grind [IF,AA,AD]
end Go.Sf.Sc
namespace Go.Sf
variable{σ ρ:Type}
def Y5(s:σ)(o:Option ρ):CF σ ρ:=match o with
 |none=>.next s|some r=>.ret r
def iM(s:σ)(o:Option ρ):σ ⊕ ρ:=match o with
 |none=>.inl s|some r=>.inr r
theorem eR{f:Int->σ->Option (CF σ ρ)}(g:Int->σ)(c:Int->Option ρ):∀(n:Nat)(a:Int),
  (∀i,a<=i->i<a+n->(∀j,a<=j->j<i->c j=W)->f i (g i)=Y (Y5 (g (i+1)) (c i)))->tl f n a (g a)=Y (iM (g (a+n)) (Ec c n a))
 |0,a,_=>by simp[tl,Ec,iM]|n+1,a,h=>by
  have q:=h a (v! _) U (λj d o=>U);rw[Ew,q,Ec];cases y:c a with
  |some r=>rfl|none=>
   simp only[Y5];rw[show a+((n+1:Nat):Int)=a+1+n by omega];refine eR g c n (a+1) (λi d o u=>h i U U (λj w x=>?_))
   grind
variable{a b:Int}
theorem EY{f:Int->σ->Option (CF σ ρ)}(g:Int->σ)(c:Int->Option ρ){s:σ}(d:a<=b)(o:s=g a)(h:∀i,a<=i->i<b->(∀j,a<=j->j<i->c j=W)->f i (g i)=Y (Y5 (g (i+1)) (c i))):gt f a b s=Y (iM (g b) (fst c a b)):=by
 subst o;unfold gt fst;have:=eR g c (b-a).toNat a (λi q w u=>h i q U u)
 grind
variable{α:Type}
variable{e:Int}
theorem EX{ζ:QQ}{δ:Int}(h:e=0->ζ=Y δ):(if(!decide (e=0))=X then Y e else ζ)=Y (if e≠0 then e else δ):=l?
variable{v:α}{ζ:Option α}{δ:α}
theorem D2(h:e=0->ζ=Y δ):(if(!decide (e=0))=X then Y v else ζ)=Y (if e≠0 then v else δ):=l?
variable{P:Prop}
theorem Qt[Decidable P]{b:Bool}(hb:b=X↔P)(h:¬P->ζ=Y δ):(if b=X then Y v else ζ)=Y (if P then v else δ):=l?
theorem X4{b:Bool}(h:b=X->ζ=Y δ):(if(!b)=X then Y v else ζ)=Y (if b=T then v else δ):=l?
theorem dk{b:Bool}(h:b=T->ζ=Y δ):(if b=X then Y v else ζ)=Y (if b=X then v else δ):=l?
end Go.Sf
namespace Go.Sf.Sc
open Go Go.Sf
def Tu(t:AC)(p:d7)(s:C4):Bool:=!(Tr t p s.o4 s.ke).2||decide (s.gl.Var< -1)||decide (p.ey<=s.gl.Var)||(decide (s.gl.Add< -1000000)||decide (1000000<s.gl.Add))
def Ms(p:d7)(v:Int):Bool:=p.ek.any λs=>decide (s.gl.Var=v)
def JP(t:AC)(p:d7):Int:=
 if (BF t).2≠0 then(BF t).2 else if CL p.dr≠0 then CL p.dr else if DZ t p.dr=T then 13 else
 if p.ey<0\/12<p.ey then 6 else if 10<p.ek.length\/10<p.j4.length then 3 else
 if (p.ek.any (Tu t p))=X then 6 else if Lz p.ey p.j4≠0 then Lz p.ey p.j4 else
 if kg (λv=>!Ms p v) 0 p.ey=X then 9 else 0
def Lp(p:d7)(i:Int):a5:=(List.range p.ey.toNat).map λ(v:Nat)=>(p.ek.take i.toNat).any λs=>decide (s.gl.Var=(v:Int))
variable{p:d7}
theorem nI:Lp p 0=List.replicate p.ey.toNat T:=by
 unfold Lp;refine B! V (λn d f=>V)
theorem p8(p:d7)(i:Int):(Lp p i).length=p.ey.toNat:=by simp[Lp]
variable{i:Int}
theorem p9(d:0<=i)(f:i<p.ek.length)(hv:0<=(AA p.ek i).gl.Var):BR (Lp p i) (AA p.ek i).gl.Var X=Lp p (i+1):=by
 unfold BR;refine B! (by simp[Lp]) (λn h j=>?_);simp[Lp,BU d f]
 grind
theorem nH(d:0<=i)(f:i<p.ek.length)(hv:(AA p.ek i).gl.Var<0):Lp p i=Lp p (i+1):=by
 refine B! (by simp[Lp]) (λn h j=>?_);simp[Lp,BU d f]
 grind
theorem p7(p:d7):((Lp p p.ek.length).any λx=>T==x)=kg (λv=>!Ms p v) 0 p.ey:=by
 rw [w!,B',Ee];simp only[Lp,v?,B_,B?,List.mem_range];constructor
 .rintro⟨x,⟨v,hv,rfl⟩,d⟩;refine⟨v,U,U,?_⟩
  grind [Ms]
 .rintro⟨v,f,h,d⟩;refine⟨_,⟨v.toNat,U,rfl⟩,?_⟩
  grind [Int.toNat_of_nonneg,Ms]
theorem jv{α ρ:Type}[Inhabited α]{l:List α}{q:α->Bool}{v:ρ}:fst (λi=>if q (AA l i)=X then Y v else W) 0 l.length=if l.any q=X then Y v else W:=by
 rw [Ot,Iz]
variable{t:AC}
theorem Ym(hf:A0 t)(p:d7):Dz t p=Y (JP t p):=by
 unfold Dz JP;rw[Oy hf,bs,NV,bs];refine EX λE=>EX λC=>?_;have w:=Dp C;have e:((BE p.dr.dl (λd=>ID d t)).bind λj=>
   (if j=X then Y X else((Bw p.dr.d3 (λd=>IE d t)).bind λo=>Y (o))))=Y (!DZ t p.dr):=by
  unfold DZ;rw[show(λd=>ID d t)=(λ(n:Int)=>Y (decide (t.dl.length<=n)))from rfl,dj,show(λd=>IE d t)=(λ(e:CN)=>Y (decide (t.d3.length<=e.ia)))from rfl,ja];simp only[bs];cases p.dr.dl.any λn=>decide (t.dl.length<=n)<;>simp
 rw [<-v6,e,bs];refine X4 λD=>?_;unfold DF;simp only[bs];refine Qt i! λhv=>Qt i! λF=>?_;unfold Hv;rw[a6 U,bs,<-nI,A1 (show -9223372036854775808<=p.ey-1 by omega) U,EY (Lp p) (λi=>if Tu t p (AA p.ek i)=X then Y 6 else W) U rfl,jv]
 .cases hb:p.ek.any (Tu t p)
  .simp only[x_,if_false,iM,B1,vb,bs,uh,p7];by_cases f:Lz p.ey p.j4=0
   .simp[f];cases kg (λv=>!Ms p v) 0 p.ey<;>rfl
   .simp[f]
  .rfl
 .intro i q u _;rw[AD q u,bs,vK hf w,bs];unfold Tu;by_cases hb:(Tr t p (AA p.ek i).o4 (AA p.ek i).ke).2=X
  .by_cases B:(AA p.ek i).gl.Var< -1\/p.ey<=(AA p.ek i).gl.Var
   .have x:(decide (-1<=(AA p.ek i).gl.Var)&&decide ((AA p.ek i).gl.Var<=p.ey-1))=T:=e?
    have y:(decide ((AA p.ek i).gl.Var< -1)||decide (p.ey<=(AA p.ek i).gl.Var))=X:=a_
    rw [hb,x,A_ (!X),y];rfl
   .have x:(decide (-1<=(AA p.ek i).gl.Var)&&decide ((AA p.ek i).gl.Var<=p.ey-1))=X:=a_
    have y:(decide ((AA p.ek i).gl.Var< -1)||decide (p.ey<=(AA p.ek i).gl.Var))=T:=e?
    rw [hb,x,A_ (!X),y];by_cases ha:(AA p.ek i).gl.Add< -1000000\/1000000<(AA p.ek i).gl.Add
    .have z:(decide (-1000000<=(AA p.ek i).gl.Add)&&decide ((AA p.ek i).gl.Add<=1000000))=T:=e?
     have A:(decide ((AA p.ek i).gl.Add< -1000000)||decide (1000000<(AA p.ek i).gl.Add))=X:=a_
     rw [z,A];rfl
    .have z:(decide (-1000000<=(AA p.ek i).gl.Add)&&decide ((AA p.ek i).gl.Add<=1000000))=X:=a_
     have A:(decide ((AA p.ek i).gl.Add< -1000000)||decide (1000000<(AA p.ek i).gl.Add))=T:=e?
     rw [z,A];by_cases h:0<=(AA p.ek i).gl.Var
     .simp[h,decide_true];rw[AD h (by rw[p8];omega),bs,p9 q u h];rfl
     .simp[h,decide_false];rw[nH q u U];rfl
  .rw[z?]at hb;rw[hb];rfl
theorem uH(p:d7)(v:Int):My p v=Y (Ms p v):=by
 unfold My Ms;rw[Bk (λi=>decide ((AA p.ek i).gl.Var=v)) X,Iz]
 .cases kg (λi=>decide ((AA p.ek i).gl.Var=v)) 0 p.ek.length<;>rfl
 .intro i d f _;rw[AD d f,bs,JO]
theorem dI(hf:A0 t)(p:d7):GN t p=Y (JP t p):=by
 unfold GN JP;rw[R0 hf,bs,Oz,bs];refine EX λu=>EX λo=>?_;have f:=Dp o;rw[Z4 f,bs];refine X4 λq=>Qt i! λhv=>Qt i! λw=>?_;rw[Bk (λi=>Tu t p (AA p.ek i)) 6,<-Iz]
 .cases hb:p.ek.any (Tu t p)
  .simp only[x_,if_false,B1,v7,bs];by_cases d:Lz p.ey p.j4=0
   .simp only[d];rw[Bk (λv=>!Ms p v) 9]
    .cases kg (λv=>!Ms p v) 0 p.ey<;>rfl
    .intro i h j _;rw[uH,bs,JO]
   .simp[d]
  .rfl
 .intro i h j _;rw[AD h j,bs,vf hf,bs];unfold Tu OR
  grind
def Qm(t:AC)(p:d7)(i:Int):Int:=
 let s:=AA p.ek i
 if s.o4<0\/p.dr.dl.length<=s.o4 then 6 else
 let l:=(IF t (AA p.dr.dl s.o4)).1
 if ((((((decide (s.ke<0))||(decide ((l.length:Int)<=s.ke)))||(decide (s.gl.Var<(-1))))||(decide (p.ey<=s.gl.Var)))||(decide (s.gl.Add<(-1000000))))||(decide (1000000<s.gl.Add)))=X then 6 else
 if kg (λj=>(decide ((AA p.ek j).o4=s.o4))&&(decide ((AA p.ek j).ke=s.ke))) 0 i=X then 5 else 0
theorem yT(hf:A0 t)(r:eh)(d:0<=i)(f:i<r.ec.ek.length):M6 t r i=Y (Qm t r.ec i):=by
 unfold M6 Qm;dsimp only;rw[AD d f,bs];refine Qt V λh=>?_;rw[AD U U,bs,TU hf,bs,H9 d U,bs,
  show (λj=>Ql j (AA r.ec.ek i))=(λy=>Y ((decide (y.o4=(AA r.ec.ek i).o4))&&(decide (y.ke=(AA r.ec.ek i).ke))))from rfl,jc,bs,R6 d U]
 grind
theorem yo(hf:A0 t)(p:d7)(d:0<=i)(f:i<p.ek.length):La t p i=Y (Qm t p i):=by
 unfold La Qm;dsimp only;rw[AD d f,bs];refine Qt V λh=>?_;rw[AD U U,bs,TW hf,bs,
  Bk (λj=>(decide ((AA p.ek j).o4=(AA p.ek i).o4))&&(decide ((AA p.ek j).ke=(AA p.ek i).ke))) 5]
 .refine dk λ_=>?_;cases kg (λj=>(decide ((AA p.ek j).o4=(AA p.ek i).o4))&&(decide ((AA p.ek j).ke=(AA p.ek i).ke))) 0 i<;>rfl
 grind [AD,AA,ke]
def Lx(t:AC)(r:eh):Int:=
 if CL r.ec.dr≠0 then CL r.ec.dr else if DZ t r.ec.dr=T then 13 else
 if r.ec.ey≠r.fu.ey\/0<r.ec.j4.length then 1 else if 10<r.ec.ek.length then 3 else
 (fst (λi=>nz (Qm t r.ec i)) 0 r.ec.ek.length).getD 0
theorem vV(hf:A0 t)(r:eh):Lc t r=Y (Lx t r):=by
 unfold Lc Lx;rw[NV,bs,vc,bs,B9 (λi=>nz (Qm t r.ec i)),DI]
 .grind
 grind [yT,N2]
theorem vr(hf:A0 t)(r:eh):KP t r=Y (Lx t r):=by
 unfold KP Lx;rw[Oz,bs];refine EX λd=>?_;rw[Z4 (Dp d),bs,B9 (λi=>nz (Qm t r.ec i)),DI]
 .grind
 grind [yo,N2]
end Go.Sf.Sc
namespace Go.Sf
variable{a b:Int}
theorem lw{ρ:Type}{c d:Int->Option ρ}(h:∀i,c i=d i):fst c a b=fst d a b:=by rw[funext h]
def Di(l:Fp)(v:Int):Int:=(fst (λi=>if decide (v=AA l i)=X then Y i else W) 0 l.length).getD (-1)
variable{l:Fp}
theorem JR{v:Int}(h:v∈l):0<=Di l v/\Di l v<l.length/\AA l (Di l v)=v/\∀j,0<=j->j<Di l v->AA l j≠v:=by
 unfold Di;cases hf:fst (λi=>if decide (v=AA l i)=X then Y i else W) 0 l.length with
 |none=>
  grind [Bh,Bf]
 |some k=>
  grind [Cc,AA]
variable{R:Int->Int->Prop}
theorem N4(h:l.Pairwise R){i j:Int}(d:0<=i)(f:i<j)(o:j<l.length):R (AA l i) (AA l j):=by grind[C_,AA,A!]
theorem WW(h:∀i j:Int,0<=i->i<j->j<l.length->R (AA l i) (AA l j)):l.Pairwise R:=by
 refine C_.2 (λi j d f o=>?_);have:=h i j U U U;unfold AA at this
 grind
theorem W4(u:l.Pairwise (·<·)){v:Int}(h:v∈l):(l.countP (λx=>decide (x<v)):Int)=Di l v:=by
 obtain ⟨w,y,o,_⟩:=JR h;generalize C:Di l v=k at w y o;have e:l=l.take k.toNat++l.drop k.toNat:=(List.take_append_drop _ _).symm;have z:(l.take k.toNat).countP (λx=>decide (x<v))=k.toNat:=by
  rw [List.countP_eq_length.2 (λx d=>?_),bk]
  .omega
  .obtain⟨i,i1,i2,rfl⟩:=Bh d;rw[bk]at i2;rw[t5 U,sA,<-o];exact N4 u i1 U y
 have A:(l.drop k.toNat).countP (λx=>decide (x<v))=0:=by
  rw [List.countP_eq_zero];intro x d;obtain⟨n,q⟩:=List.getElem?_of_mem d;rw[List.getElem?_drop]at q;have B:=(List.getElem?_eq_some_iff.1 q).1;have f:x=AA l (k+n):=by
   unfold AA;rw[A?,show(k+(n:Int)).toNat=k.toNat+n by omega,q];rfl
  rw [sA,f,<-o];by_cases j:n=0
  .subst j;simp
  .have:=N4 u w (show k<k+(n:Int)by omega) U;omega
 rw [e,List.countP_append,z,A];omega
end Go.Sf
namespace Go.Sf.Sc
open Go Go.Sf
theorem uz(l:Fp)(n:Int):(ei (gt (ρ:=Int) (λ(h:Int)(_:Unit)=>
 (idx l h).bind λd=>
 if (decide (d=n))=X then
 Y (.ret h)
 else
 Y (.next ())) 0 (l.length:Int) ()) (λ_=>
 Y (-1)) (λj=>Y j))=Y (Di l n):=by
 have:=XC (l:=l) (f:=λx=>Y (decide (x=n))) (p:=λx=>decide (x=n)) (λ_ _=>rfl);simp only[bs]at this;rw[this];unfold Di;congr 2;exact lw λi=>by simp[eq_comm]
theorem yj(l:Fp)(v:Int):KI l v=Y (Di l v):=uz l v
def hasB(l:Fp)(v:Int):Bool:=l.any λx=>decide (v=x)
variable{l:Fp}
theorem CQ{v:Int}:hasB l v=X↔v∈l:=by
 unfold hasB
 grind
theorem LP(l:Fp)(n:Int):(ei (gt (ρ:=Bool) (λ(f:Int)(_:Unit)=>
 (idx l f).bind λd=>
 if (decide (d=n))=X then
 Y (.ret X)
 else
 Y (.next ())) 0 (l.length:Int) ()) (λ_=>
 Y T) (λh=>Y h))=Y (hasB l n):=by
 unfold hasB;rw[Bk (λi=>decide (n=AA l i)) X,Iz]
 .cases kg (λi=>decide (n=AA l i)) 0 l.length<;>rfl
 .intro i j o _;rw[AD j o,bs,JO];simp[eq_comm]
theorem vn(l:Fp)(v:Int):S0 l v=Y (hasB l v):=LP l v
theorem vk(l:Fp)(v:Int):Q2 l v=Y (hasB l v):=LP l v
def R7(l:Fp)(n:Int):Int:=(fst (λi=>if AA l i<0\/n<=AA l i then Y 6 else if 0<i/\AA l i<=AA l (i-1)then Y 12 else W) 0 l.length).getD 0
theorem uC(q:l.length<=1000)(n:Int):JY l n=Y (R7 l n):=by
 unfold JY R7;rw[B9 (λi=>if AA l i<0\/n<=AA l i then Y 6 else if 0<i/\AA l i<=AA l (i-1)then Y 12 else W),DI];intro i j o _;rw[AD j o,bs];by_cases h:AA l i<0\/n<=AA l i
 .rw[a6 c?,a6 h];rfl
 .rw[ac c?,ac h];by_cases d:0<i
  .rw[a6 c!,A1 U U,AD U U,bs,bs];by_cases f:AA l i<=AA l (i-1)
   .rw[a6 d?,a6 ⟨d,f⟩];rfl
   .rw[ac d?,ac (λh=>f h.2)];rfl
  .rw[ac c!,bs,ac a!,ac (λh=>d h.1)];rfl
theorem uF(u:l.length<=1000)(n:Int):Hy l n=Y (R7 l n):=by
 unfold Hy R7;rw[B9 (λi=>if AA l i<0\/n<=AA l i then Y 6 else if 0<i/\AA l i<=AA l (i-1)then Y 12 else W),DI];intro i j o _;rw[AD j o];simp only[bs];by_cases h:AA l i<0\/n<=AA l i
 .have:(if decide (AA l i<0)=X then Y X else Y (decide (n<=AA l i)))=Y X:=by
   rcases h with h|h
   .simp[h]
   .by_cases q:AA l i<0<;>simp[h,q]
  rw [this,bs,a6 rfl,a6 h];rfl
 .have:(if decide (AA l i<0)=X then Y X else Y (decide (n<=AA l i)))=Y T:=by
   rw [ac a_,decide_eq_false U]
  rw [this,bs,ac a!,ac h];by_cases d:0<i
  .rw[a6 c!,A1 U U,AD U U,bs,bs];by_cases f:AA l i<=AA l (i-1)
   .rw[a6 d?,a6 ⟨d,f⟩];rfl
   .rw[ac d?,ac (λh=>f h.2)];rfl
  .rw[ac c!,bs,ac a!,ac (λh=>d h.1)];rfl
variable{a b:Int}
theorem Sj{c:Int->QQ}(d:∀i,c i≠Y 0)(h:(fst c a b).getD 0=0):∀i,a<=i->i<b->c i=W:=by
 have:fst c a b=W:=by
  cases hf:fst c a b with
  |none=>rfl|some r=>
   grind [v1,Cc]
 exact Bf.1 this
variable{n:Int}
theorem U3(h:R7 l n=0):(∀x∈l,0<=x/\x<n)/\l.Pairwise (·<·):=by
 have y:=Sj (c:=λi=>if AA l i<0\/n<=AA l i then Y 6 else if 0<i/\AA l i<=AA l (i-1)then Y 12 else W) (λi=>by
  split
  .simp
  .split<;>simp) h
 have f:∀i:Int,0<=i->i<l.length->(0<=AA l i/\AA l i<n)/\(0<i->AA l (i-1)<AA l i):=by
  intro i o w;have:=y i o w;split at this
  .cases this
  .split at this
   .cases this
   .omega
 refine ⟨λx q=>?_,WW (λi j o d u=>?_)⟩
 .obtain⟨i,i1,i2,rfl⟩:=Bh q;exact(f i i1 i2).1
 .obtain⟨k,z⟩:∃k:Nat,j=i+1+k:=⟨(j-i-1).toNat,U⟩;subst z;clear d
  induction k with
  |zero=>
   have:=(f (i+1) U U).2 U;rw[show i+1-1=i by omega]at this;simpa using this
  |succ k A=>
   have a:=A U;have b:=(f (i+1+((k+1:Nat):Int)) U u).2 U;rw[show i+1+((k+1:Nat):Int)-1=i+1+k by omega]at b;omega
theorem UT(f:l.length<=1000)(d:l.Pairwise (·<·))(v:Int):slices_BinarySearch_int l v=Y (((l.countP (λx=>decide (x<v)):Nat):Int),hasB l v):=by
 unfold slices_BinarySearch_int;rw[a6 ⟨a?,d.imp (λh=>U)⟩];congr 2;rw[w!,CQ,List.contains_iff_mem]
def Qa(g:dr)(p:BN):Int:=
 if R7 p.dl g.dl.length≠0 then R7 p.dl g.dl.length else if R7 p.d3 g.d3.length≠0 then R7 p.d3 g.d3.length else
 (fst (λi=>if(hasB p.dl (AA g.d3 (AA p.d3 i)).hV&&hasB p.dl (AA g.d3 (AA p.d3 i)).To)=X then W else Y 14) 0 p.d3.length).getD 0
structure dQ(g:dr)(p:BN):Prop where
 ea:(∀x∈p.dl,0<=x/\x<g.dl.length)/\p.dl.Pairwise (·<·)
 eg:(∀x∈p.d3,0<=x/\x<g.d3.length)/\p.d3.Pairwise (·<·)
 ends:∀x∈p.d3,(AA g.d3 x).hV∈p.dl/\(AA g.d3 x).To∈p.dl
variable{g:dr}
theorem Vd{p:BN}(h:Qa g p=0):dQ g p:=by
 unfold Qa at h;split at h
 .omega
 .split at h
  .omega
  .rename_i f j;refine⟨U3 U,U3 U,λx d=>?_⟩;obtain⟨i,i1,i2,rfl⟩:=Bh d;have:=Sj (c:=λi=>if(hasB p.dl (AA g.d3 (AA p.d3 i)).hV&&hasB p.dl (AA g.d3 (AA p.d3 i)).To)=X then W else Y 14) (λi=>by
    split<;>simp) h i i1 i2
   split at this
   next hb=>rw[ne,CQ,CQ]at hb;exact hb
   .cases this
def Fo(g:dr)(p:BN):Int:=if CL g≠0 then CL g else Qa g p
structure S6(p:BN):Prop where
 ea:p.dl.length<=1000
 eg:p.d3.length<=1000
theorem kL{p:BN}(d:S6 p):GF g p=Y (Fo g p):=by
 unfold GF Fo;rw[NV,bs];refine EX λf=>?_;have o:=Dp f;unfold OY Qa;rw[uC d.ea,bs,uC d.eg,bs,v_];refine EX λh=>EX λj=>?_;obtain⟨a1,q⟩:=U3 h;obtain⟨u,w⟩:=U3 j;rw[B9 (λi=>if(hasB p.dl (AA g.d3 (AA p.d3 i)).hV&&hasB p.dl (AA g.d3 (AA p.d3 i)).To)=X then W else Y 14),DI];intro i i1 i2 _;have hb:=u _ (AI i1 i2);unfold NA;rw[AD i1 i2,bs,AD hb.1 hb.2];simp[UT d.ea q];cases hasB p.dl (AA g.d3 (AA p.d3 i)).hV<;>cases hasB p.dl (AA g.d3 (AA p.d3 i)).To<;>rfl
theorem Z3{p:BN}(d:S6 p):KH g p=Y (Fo g p):=by
 unfold KH Fo;rw[Oz,bs];refine EX λf=>?_;have j:=Dp f;unfold Qe Qa;rw[uF d.ea,bs,uF d.eg,bs,v_];refine EX λq=>EX λh=>?_;obtain⟨o,u⟩:=U3 h;rw[B9 (λi=>if(hasB p.dl (AA g.d3 (AA p.d3 i)).hV&&hasB p.dl (AA g.d3 (AA p.d3 i)).To)=X then W else Y 14),DI];intro i i1 i2 _;have hb:=o _ (AI i1 i2);rw[AD i1 i2,bs,AD hb.1 hb.2];simp[vk];cases hasB p.dl (AA g.d3 (AA p.d3 i)).hV<;>cases hasB p.dl (AA g.d3 (AA p.d3 i)).To<;>rfl
def Pj(g:dr)(p:BN):dr:=⟨p.dl.map (AA g.dl),p.d3.map λx=>⟨(AA g.d3 x).ia,Di p.dl (AA g.d3 x).hV,Di p.dl (AA g.d3 x).To⟩⟩
variable{i:Int}
theorem JS{α:Type}{f:Int->α}(d:0<=i)(h:i<l.length):(l.take (i+1).toNat).map f=(l.take i.toNat).map f++[f (AA l i)]:=by grind[BU]
theorem UB(w:l.length<=1000)(h:∀x∈l,0<=x/\x<g.dl.length)(es:List CN):(ls (λ(u:Int)(o:dr)=>
 (idx l u).bind λd=>
 (idx g.dl d).bind λf=>
 (Aw o.dl [f]).bind λj=>
 Y (dr.mk j o.d3)) 0 (l.length:Int) (dr.mk [] es))=Y (dr.mk (l.map (AA g.dl)) es):=by
 rw [By (λi=>dr.mk ((l.take i.toNat).map (AA g.dl)) es) U V]
 .rw[v?,B_]
 .intro i i1 i2;have q:=h _ (AI i1 i2);rw[AD i1 i2,bs,AD q.1 q.2,bs,AV b_,bs,JS i1 i2]
theorem YM(y:l.length<=1000)(h:∀x∈l,0<=x/\x<g.d3.length)(ns:Fp)(F:CN->CN){f:CN->List CN->Option (List CN)}(hf:∀x∈l,∀s,s.length<=1000->f (AA g.d3 x) s=Y (s++[F (AA g.d3 x)])):(ls (λ(w:Int)(q:dr)=>
 (idx l w).bind λd=>
 (idx g.d3 d).bind λj=>
 (f j q.d3).bind λo=>
 Y (dr.mk q.dl o)) 0 (l.length:Int) (dr.mk ns []))=Y (dr.mk ns (l.map λx=>F (AA g.d3 x))):=by
 rw [By (λi=>dr.mk ns ((l.take i.toNat).map λx=>F (AA g.d3 x))) U V]
 .rw[v?,B_]
 .intro i i1 i2;have u:=h _ (AI i1 i2);rw[AD i1 i2,bs,AD u.1 u.2,bs,hf _ (AI i1 i2) _ a_,bs,JS i1 i2]
theorem oR{p:BN}(d:S6 p):F5 g p=Y (if Fo g p≠0 then(⟨[],[]⟩,⟨[],[]⟩,Fo g p)else(Pj g p,⟨p.dl,p.d3⟩,0)):=by
 unfold F5;rw[kL d,bs];refine D2 λh=>?_;have w:CL g=0/\Qa g p=0:=by
  grind [Fo]
 have ho:=Vd w.2;rw[UB d.ea ho.ea.1,bs];have:=YM (g:=g) (l:=p.d3) d.eg ho.eg.1 (p.dl.map (AA g.dl)) (λx=>⟨x.ia,Di p.dl x.hV,Di p.dl x.To⟩) (f:=λj s=>
  (slices_BinarySearch_int p.dl j.hV).bind λo=>
  (slices_BinarySearch_int p.dl j.To).bind λq=>
  Aw s [CN.mk j.ia o.1 q.1]) (λx u s y=>by
   have he:=ho.ends x u;rw[UT d.ea ho.ea.2,bs,UT d.ea ho.ea.2,bs,AV b_,W4 ho.ea.2 he.1,W4 ho.ea.2 he.2])
 simp [v6]at this;rw[this,bs];unfold slices_Clone_int;have z:=d.ea;have A:=d.eg;rw[Be a?,bs,Be a?];rfl
theorem bX{p:BN}(j:S6 p):JT g p=Y (if Fo g p≠0 then(⟨[],[]⟩,⟨[],[]⟩,Fo g p)else(Pj g p,⟨p.dl,p.d3⟩,0)):=by
 unfold JT;rw[Z3 j,bs];refine D2 λh=>?_;have u:CL g=0/\Qa g p=0:=by
  grind [Fo]
 have ho:=Vd u.2;rw[UB j.ea ho.ea.1,bs];have:=YM (g:=g) (l:=p.d3) j.eg ho.eg.1 (p.dl.map (AA g.dl)) (λx=>⟨x.ia,Di p.dl x.hV,Di p.dl x.To⟩) (f:=λd s=>
  (KI p.dl d.hV).bind λo=>
  (KI p.dl d.To).bind λq=>
  Aw s [CN.mk d.ia o q]) (λx w s y=>by
   grind [yj,AV,AY])
 simp [v6]at this;rw[this,bs];have z:=j.ea;have A:=j.eg;rw[Be a?,bs,Be a?];rfl
end Go.Sf.Sc
namespace Go.Sf.Sc
open Go Go.Sf
def N1(a b:dr)(m:d4)(i:Int):QQ:=
 if AA m.dl i<0\/b.dl.length<=AA m.dl i then Y 6 else if AA b.dl (AA m.dl i)≠AA a.dl i then Y 13 else W
def Hj(a b:dr)(m:d4)(i:Int):QQ:=
 if AA m.d3 i<0\/b.d3.length<=AA m.d3 i then Y 6 else
 if (AA a.d3 i).ia≠(AA b.d3 (AA m.d3 i)).ia then Y 13 else
 if AA m.dl (AA a.d3 i).hV≠(AA b.d3 (AA m.d3 i)).hV\/AA m.dl (AA a.d3 i).To≠(AA b.d3 (AA m.d3 i)).To then Y 11 else W
def Ko(a b:dr)(m:d4):Int:=
 if CL a≠0 then CL a else if CL b≠0 then CL b else if m.dl.length≠a.dl.length\/m.d3.length≠a.d3.length then 20 else
 match fst (N1 a b m) 0 m.dl.length with
 |some e=>e|none=>(fst (Hj a b m) 0 m.d3.length).getD 0
structure cg(a b:dr)(m:d4):Prop where
 ga:D6 a
 gb:D6 b
 t2:m.dl.length=a.dl.length
 wi:m.d3.length=a.d3.length
 node:∀i:Int,0<=i->i<m.dl.length->(0<=AA m.dl i/\AA m.dl i<b.dl.length)/\AA b.dl (AA m.dl i)=AA a.dl i
 edge:∀i:Int,0<=i->i<m.d3.length->(0<=AA m.d3 i/\AA m.d3 i<b.d3.length)/\(AA a.d3 i).ia=(AA b.d3 (AA m.d3 i)).ia/\
  AA m.dl (AA a.d3 i).hV=(AA b.d3 (AA m.d3 i)).hV/\AA m.dl (AA a.d3 i).To=(AA b.d3 (AA m.d3 i)).To
variable{m:d4}
theorem V8{a b:dr}(h:Ko a b m=0):cg a b m:=by
 unfold Ko at h;split at h
 .omega
 split at h
 .omega
 split at h
 .cases h
 rename_i f j o;have d:fst (N1 a b m) 0 m.dl.length=W:=by
  grind [Cc,N1]
 rw [d]at h;have he:=Sj (λi=>by
  grind [Hj]) h
 refine ⟨Dp U,Dp U,U,U,λi i1 i2=>?_,λi i1 i2=>?_⟩
 .grind[Bf,N1]
 grind [Hj]
theorem ct(a b:dr)(m:d4):EE a b m=Y (Ko a b m):=by
 unfold EE Ko;rw[NV,bs,NV,bs];refine EX λha=>EX λhb=>Qt i! λu=>?_;have ga:=Dp ha;have gb:=Dp hb;rw[B9 (N1 a b m),Eo]
 .cases o:fst (N1 a b m) 0 m.dl.length with
  |some e=>rfl|none=>
   have q:=Bf.1 o;dsimp only;rw[B9 (Hj a b m),DI];intro i i1 i2 _;unfold Hj;rw[AD i1 i2,bs];by_cases d:AA m.d3 i<0\/b.d3.length<=AA m.d3 i
   .rw[a6 c!,a6 d];rfl
   .have hf:=ga.fit _ (AI (l:=a.d3) i1 U);rw[ac c!,ac d,AD i1 U,bs,AD U U,bs];by_cases f:(AA a.d3 i).ia=(AA b.d3 (AA m.d3 i)).ia
    .rw[ac d?,ac d?,AD U U,bs];by_cases h:AA m.dl (AA a.d3 i).hV=(AA b.d3 (AA m.d3 i)).hV
     .rw[ac c?,AD U U,bs,bs];by_cases j:AA m.dl (AA a.d3 i).To=(AA b.d3 (AA m.d3 i)).To
      .rw[ac f_,ac (by simp[h,j])];rfl
      .rw[a6 f_,a6 (.inr j)];rfl
     .rw[a6 c?,bs,a6 rfl,a6 (.inl h)];rfl
    .rw[a6 d?,a6 f];rfl
 .intro i i1 i2 _;unfold N1;rw[AD i1 i2,bs];by_cases d:AA m.dl i<0\/b.dl.length<=AA m.dl i
  .rw[a6 c!,a6 d];rfl
  .rw[ac c!,ac d,AD U U,bs,AD i1 U,bs];by_cases f:AA b.dl (AA m.dl i)=AA a.dl i
   .rw[ac d?,ac d?];rfl
   .rw[a6 d?,a6 f];rfl
theorem VZ{x y:Prop}[Decidable x][Decidable y]:(if decide x=X then Y X else Y (decide y))=Y (decide (x\/y)):=l?
theorem dH(a b:dr)(m:d4):Ie a b m=Y (Ko a b m):=by
 unfold Ie Ko;rw[Oz,bs,Oz,bs];refine EX λha=>EX λhb=>Qt i! λu=>?_;have ga:=Dp ha;have gb:=Dp hb;rw[show(a.dl.length:Int)=m.dl.length by omega,show(a.d3.length:Int)=m.d3.length by omega,B9 (N1 a b m),Eo]
 .cases o:fst (N1 a b m) 0 m.dl.length with
  |some e=>rfl|none=>
   have q:=Bf.1 o;dsimp only;rw[B9 (Hj a b m),DI];intro i i1 i2 _;unfold Hj;rw[AD i1 i2];simp only[bs,VZ];by_cases d:AA m.d3 i<0\/b.d3.length<=AA m.d3 i
   .rw[a6 c!,a6 d];rfl
   .have hf:=ga.fit _ (AI (l:=a.d3) i1 U);rw[ac c!,ac d,AD i1 U,bs,AD U U,bs];by_cases f:(AA a.d3 i).ia=(AA b.d3 (AA m.d3 i)).ia
    .rw[ac d?,ac d?,AD U U,bs];by_cases h:AA m.dl (AA a.d3 i).hV=(AA b.d3 (AA m.d3 i)).hV
     .rw[ac c?,AD U U,bs,bs];by_cases j:AA m.dl (AA a.d3 i).To=(AA b.d3 (AA m.d3 i)).To
      .rw[ac f_,ac (by simp[h,j])];rfl
      .rw[a6 f_,a6 (.inr j)];rfl
     .rw[a6 c?,bs,a6 rfl,a6 (.inl h)];rfl
    .rw[a6 d?,a6 f];rfl
 .intro i i1 i2 _;unfold N1;rw[AD i1 i2];simp only[bs,VZ];by_cases d:AA m.dl i<0\/b.dl.length<=AA m.dl i
  .rw[a6 c!,a6 d];rfl
  .rw[ac c!,ac d,AD U U,bs,AD i1 U,bs];by_cases f:AA b.dl (AA m.dl i)=AA a.dl i
   .rw[ac d?,ac d?];rfl
   .rw[a6 d?,a6 f];rfl
def J8(l:Fp):Bool:=!kg (λi=>kg (λj=>decide (AA l i=AA l j)) 0 i) 0 l.length
variable{l:Fp}
theorem QB:J8 l=X↔l.Nodup:=by grind[J8,x?,B6,WW,N4]
theorem dG(l:Fp):GE l=Y (J8 l):=by
 unfold GE J8;rw[Bk (λi=>kg (λj=>decide (AA l i=AA l j)) 0 i) T]
 .cases kg (λi=>kg (λj=>decide (AA l i=AA l j)) 0 i) 0 l.length<;>rfl
 .intro i i1 i2 _;rw[Bk (λj=>decide (AA l i=AA l j)) T]
  .cases kg (λj=>decide (AA l i=AA l j)) 0 i<;>rfl
  .intro j d f _;rw[AD i1 i2,bs,AD d U,bs,JO]
theorem gA(f:l.length<=1000):∃k,Hw l=Y k/\decide (k=(l.length:Int))=J8 l:=by
 have d:(So l).length=l.length:=(Ra l).length_eq;refine⟨((Go.Lib.compact (So l)).length:Int),?_,?_⟩
 .grind[Hw,slices_Clone_int,slices_Sort_int,slices_Compact_int,Be,AY]
 .rw[w!,QB,sA,<-(Ra l).nodup_iff,<-Uq (SE l),d];omega
def MP(m:d4):Bool:=J8 m.dl&&J8 m.d3
theorem uD{a b:dr}(h:Ko a b m=0):D4 a b m=Y (MP m):=by
 have ho:=V8 h;have:=ho.ga.ea;have:=ho.ga.eg;have:=ho.t2;have:=ho.wi;obtain⟨k,d,f⟩:=gA (l:=m.dl) U;obtain⟨j,o,q⟩:=gA (l:=m.d3) U;unfold D4 MP;rw[ct,h,bs,a6 (decide_eq_true rfl),d];simp[o,f,q];cases J8 m.dl<;>rfl
theorem ABl{a b:dr}(h:Ko a b m=0):Jv a b m=Y (MP m):=by grind[Jv,MP,dH,dG,J8]
def Sr(r:eh):Int:=
 if Fo r.fu.dr r.o3≠0 then Fo r.fu.dr r.o3 else
 if Ko (Pj r.fu.dr r.o3) r.ec.dr r.mo≠0 then Ko (Pj r.fu.dr r.o3) r.ec.dr r.mo else if MP r.mo=T then 11 else 0
variable{r:eh}
theorem yO(d:S6 r.o3):M5 r=Y (Sr r):=by
 unfold M5 Sr;rw[oR d,bs];by_cases h:Fo r.fu.dr r.o3=0
 .simp only[h,ne_eq,not_true_eq_false,if_false,decide_true,z!,x_];rw[ct,bs];refine EX λf=>?_;rw[uD f,bs];exact X4 λ_=>rfl
 .simp[h]
def WR(r:eh):Int:=if Fo r.fu.dr r.o3≠0 then Fo r.fu.dr r.o3 else Ko (Pj r.fu.dr r.o3) r.ec.dr r.mo
theorem yp(d:S6 r.o3):Pm r=Y (WR r):=by
 unfold Pm WR;rw[Z3 d,bs];refine EX λh=>?_
 grind [bX,dH]
theorem u7(h:Sr r=0):Fo r.fu.dr r.o3=0/\Ko (Pj r.fu.dr r.o3) r.ec.dr r.mo=0/\MP r.mo=X:=by grind[Sr]
def Bc(l:Fp)(n:Int):Fp:=((List.range n.toNat).map Int.ofNat).filter λi=>!hasB l i
variable{i:Int}
theorem Pp(l:Fp)(h:0<=i):Bc l (i+1)=Bc l i++if(!hasB l i)=X then[i]else[]:=by
 unfold Bc;rw[show(i+1).toNat=i.toNat+1 by omega,List.range_succ,List.map_append,List.filter_append]
 grind
theorem Gu{n x:Int}(h:x∈Bc l n):0<=x/\x<n:=by
 unfold Bc at h
 grind
theorem S3(l:Fp)(n:Int):(Bc l n).length<=n.toNat:=by
 unfold Bc
 grind
variable{n:Int}
theorem Vk(q:0<=n)(u:n<=1000){f:Int->K1}(hf:∀i,f i=Y (hasB l i)):(ls (λ(j:Int)(o:Fp)=>
 (f j).bind λd=>
 if (!d)=X then
 (Aw o [j]).bind λh=>
 Y h
 else
 Y o) 0 n [])=Y (Bc l n):=by
 refine By (Bc l) q (by simp[Bc]) (λi i1 i2=>?_);have:=S3 l i;rw[hf,bs,Pp l i1];cases hasB l i
 .rw[a6 a!,a6 a!,AV b_];rfl
 .rw[ac a!,ac a!,List.append_nil]
theorem gE(d:0<=n)(f:n<=1000):MG l n=Y (Bc l n):=by
 unfold MG;rw[Vk d f (λi=>Mm l i)];rfl
theorem pB(d:0<=n)(f:n<=1000):Nc n l=Y (Bc l n):=by
 unfold Nc;rw[Vk d f (λi=>vn l i)];rfl
def FE(r:eh):Fp:=Bc r.mo.dl r.ec.dr.dl.length
def LJ(r:eh):Fp:=Bc r.mo.d3 r.ec.dr.d3.length
theorem oW(d:D6 r.ec.dr):M4 r=Y (FE r,LJ r):=by
 have:=d.ea;have:=d.eg;unfold M4;rw[gE U U,bs,gE U U];rfl
theorem oz(d:D6 r.ec.dr):Lw r=Y (FE r,LJ r):=by
 have:=d.ea;have:=d.eg;unfold Lw;rw[pB U U,bs,pB U U];rfl
def J9(t:AC)(g:dr)(i:Int):Bool:=OK t (AA g.d3 i).ia (AA g.dl (AA g.d3 i).hV) (AA g.dl (AA g.d3 i).To)
def XI(t:AC)(g:dr)(ea eg:Fp):Bool:=!(ea.any λi=>(AA t.dl (AA g.dl i)).up)&&!(eg.any λi=>!J9 t g i)
variable{t:AC}{g:dr}
theorem ABj(hf:A0 t)(o:D6 g)(q:DZ t g=X){ea eg:Fp}(u:∀x∈ea,0<=x/\x<g.dl.length)(he:∀x∈eg,0<=x/\x<g.d3.length):I9 t g ea eg=Y (XI t g ea eg):=by
 have h:=IA o q;unfold I9 XI;rw[R9 (p:=λi=>(AA t.dl (AA g.dl i)).up) (λx f=>by
  have d:=u x f;have j:=h.1 _ (AI d.1 d.2);unfold Ni;rw[AD d.1 d.2,bs,AD j.1 j.2];rfl),bs,R9 (p:=λi=>!J9 t g i) (λx f=>by
  have d:=he x f;have j:=o.fit _ (AI d.1 d.2);unfold Iv;rw[AD d.1 d.2,bs,AD U U,bs,AD U U,bs,oS hf];rfl)]
 grind
theorem ABn(hf:A0 t)(j:D6 g)(o:DZ t g=X){ea eg:Fp}(q:∀x∈ea,0<=x/\x<g.dl.length)(he:∀x∈eg,0<=x/\x<g.d3.length):I8 t g ea eg=Y (XI t g ea eg):=by
 have f:=IA j o;unfold I8 XI;rw[Iz,Iz,Bk (λi=>(AA t.dl (AA g.dl (AA ea i))).up) T]
 .rw[Bk (λi=>!J9 t g (AA eg i)) T]
  .cases kg (λi=>(AA t.dl (AA g.dl (AA ea i))).up) 0 ea.length
   .cases kg (λi=>!J9 t g (AA eg i)) 0 eg.length<;>rfl
   .rfl
  .intro i i1 i2 _;have d:=he _ (AI i1 i2);have h:=j.fit _ (AI d.1 d.2);rw[AD i1 i2,bs,AD d.1 d.2,bs,AD U U,bs,AD U U,bs,ot hf,bs,JO];rfl
 .intro i i1 i2 _;have d:=q _ (AI i1 i2);have h:=f.1 _ (AI d.1 d.2);rw[AD i1 i2,bs,AD d.1 d.2,bs,AD h.1 h.2,bs,JO]
end Go.Sf.Sc
namespace Go.Sf.Sc
open Go Go.Sf
structure P7(p:d7):Prop where
 ea:p.dr.dl.length<=45
 eg:p.dr.d3.length<=90
 slots:p.ek.length<=15
 tests:p.j4.length<=15
structure lL(m:d4):Prop where
 ea:m.dl.length<=140
 eg:m.d3.length<=140
inductive ET:d5->Prop where
 |mk (c:d5) (hq:P7 c.d7) (hm:lL c.Map) (hk:∀k∈c.em,ET k):ET c
variable{c:d5}
theorem ET.q(h:ET c):P7 c.d7:=j_
theorem ET.m(h:ET c):lL c.Map:=j_
theorem ET.k(h:ET c):∀k∈c.em,ET k:=j_
theorem FG{c k:d5}(h:k∈c.em):SizeOf.sizeOf k<SizeOf.sizeOf c:=by
 have:=List.sizeOf_lt_of_mem h;cases c
 grind
theorem EI(c:d5):0<SizeOf.sizeOf c:=by
 cases c
 grind
def RR(c:d5):Bool:=decide (c.Map.dl.length=0/\c.Map.d3.length=0/\c.d7.dr.dl.length=0/\c.d7.dr.d3.length=0/\c.d7.ek.length=0/\c.d7.j4.length=0/\c.d7.ey=0)
theorem yF(hf:ET c):F8 c=Y (RR c):=by
 have d:=hf.q;have f:=hf.m;have:=d.ea;have:=d.eg;have:=d.slots;have:=d.tests;have:=f.ea;have:=f.eg;unfold F8 RR;rw[A1 (n:=(c.Map.dl.length:Int)+c.Map.d3.length) U U,A1 (n:=(c.Map.dl.length:Int)+c.Map.d3.length+c.d7.dr.dl.length) U U,
  A1 (n:=(c.Map.dl.length:Int)+c.Map.d3.length+c.d7.dr.dl.length+c.d7.dr.d3.length) U U,
  A1 (n:=(c.Map.dl.length:Int)+c.Map.d3.length+c.d7.dr.dl.length+c.d7.dr.d3.length+c.d7.ek.length) U U,
  A1 (n:=(c.Map.dl.length:Int)+c.Map.d3.length+c.d7.dr.dl.length+c.d7.dr.d3.length+c.d7.ek.length+c.d7.j4.length) U U]
 congr 1
 grind
theorem ri(hf:ET c):I7 c=Y (RR c):=by
 have d:=hf.q;have f:=hf.m;have:=d.ea;have:=d.eg;have:=d.slots;have:=d.tests;have:=f.ea;have:=f.eg;unfold I7 RR;rw[A1 (n:=(c.Map.dl.length:Int)+c.Map.d3.length) U U,A1 (n:=(c.Map.dl.length:Int)+c.Map.d3.length+c.d7.dr.dl.length) U U,
  A1 (n:=(c.Map.dl.length:Int)+c.Map.d3.length+c.d7.dr.dl.length+c.d7.dr.d3.length) U U,
  A1 (n:=(c.d7.ek.length:Int)+c.d7.j4.length) U U]
 congr 1
 grind
def UD(c:d5):Bool:=
 if c.jj=1 then decide (c.em.length=0)&&RR c else if c.jj=2 then decide (c.em.length=1)&&RR c else
 if c.jj=3\/c.jj=4 then decide (1<=c.em.length)&&RR c else if c.jj=5 then decide (c.em.length=1)else T
def Tj:Nat->d5->Bool
 |0,_=>T|n+1,c=>UD c&&c.em.all (Tj n)
theorem yW:∀(N:Nat)(c:d5),SizeOf.sizeOf c<=N->ET c->∀n,2*N<=n->Bt n c=Y (Tj N c)
 |0,c,h,_,_,_=>by have:=EI c;omega|N+1,c,h,hf,n,B=>by
  obtain ⟨n,rfl⟩:∃m,n=m+2:=⟨n-2,U⟩;rw[Bt,Tj,yF hf];have f:CR c.em (B7 (n+1))=Y (!c.em.all (Tj N)):=by
   rw [di (p:=λk=>!Tj N k) (λk f=>by
    have:=FG f;rw[B7,yW N k U (hf.k k f) n U];rfl),C',Bool.not_not]
  rw [f];unfold UD;simp only[bs,sA];generalize RR c=b;generalize c.em.all (Tj N)=w;have y:decide ((c.em.length:Int)=0)=decide (c.em.length=0):=i?
  have z:decide ((c.em.length:Int)=1)=decide (c.em.length=1):=i?
  have A:decide (1<=(c.em.length:Int))=decide (1<=c.em.length):=i?
  simp only[show((c.em.length:Int)=0)↔c.em.length=0 by omega,show((c.em.length:Int)=1)↔c.em.length=1 by omega,show(1<=(c.em.length:Int))↔1<=c.em.length by omega];by_cases j:c.jj=1
  .rw[a6 j,a6 j];by_cases d:c.em.length=0<;>cases b<;>cases w<;>simp[d]
  .rw[ac j,ac j];by_cases o:c.jj=2
   .rw[a6 o,a6 o];by_cases d:c.em.length=1<;>cases b<;>cases w<;>simp[d]
   .rw[ac o,ac o];by_cases u:c.jj=3
    .simp[u,true_or];by_cases d:1<=c.em.length<;>cases b<;>cases w<;>simp[d]
    .by_cases x:c.jj=4
     .simp[x,or_true,show¬(4:Int)=3 by decide];by_cases d:1<=c.em.length<;>cases b<;>cases w<;>simp[d]
     .simp only[u,x,if_false,or_false];by_cases q:c.jj=5
      .rw[a6 q,a6 q];by_cases d:c.em.length=1<;>cases w<;>simp[d]
      .rw[ac q,ac q];cases w<;>rfl
theorem yh(hf:ET c):OA c=Y (UD c):=by
 unfold OA UD;rw[ri hf];simp[sA];generalize RR c=b;simp[show((c.em.length:Int)=0)↔c.em.length=0 by omega,show((c.em.length:Int)=1)↔c.em.length=1 by omega,show(0<(c.em.length:Int))↔1<=c.em.length by omega]
 grind
theorem xM{α:Type}[Inhabited α]{l:List α}{p:α->Bool}:l.all p=!kg (λi=>!p (AA l i)) 0 l.length:=by
 rw [C',Iz]
theorem uE:∀(N:Nat)(c:d5),SizeOf.sizeOf c<=N->ET c->∀n,N<=n->DW n c=Y (Tj N c)
 |0,c,h,_,_,_=>by have:=EI c;omega|N+1,c,h,hf,n,f=>by
  obtain ⟨n,rfl⟩:∃m,n=m+1:=⟨n-1,U⟩;rw[DW,Tj,yh hf,bs,xM,Bk (λi=>!Tj N (AA c.em i)) T]
  .cases UD c
   .rfl
   .cases kg (λi=>!Tj N (AA c.em i)) 0 c.em.length<;>rfl
  .intro i i1 i2 _;have d:=AI (l:=c.em) i1 i2;have:=FG d;rw[AD i1 i2,bs,uE N _ U (hf.k _ d) n U,bs,JO]
noncomputable def uR(c:d5):Bool:=Tj (SizeOf.sizeOf c) c
theorem ABk(hf:ET c):IR c=Y (uR c):=DV (2*SizeOf.sizeOf c) λn d=>yW _ c (ae _) hf n d
theorem ABq(hf:ET c):Nb c=Y (uR c):=DV (SizeOf.sizeOf c) λn d=>uE _ c (ae _) hf n d
def PZ:Nat->d5->Int×Int
 |0,_=>(0,0)|n+1,c=>
  let s:=c.em.foldl (λs k=>(At (s.1+(PZ n k).1),max s.2 (PZ n k).2)) ((1,0):Int×Int)
  (s.1,if c.jj=5 then At (s.2+1)else s.2)
theorem bK{α σ:Type}[Inhabited α]{l:List α}{g:σ->α->σ}{s:σ}{f:Int->σ->Option σ}(h:∀(i:Int)s,0<=i->i<l.length->f i s=Y (g s (AA l i))):ls f 0 l.length s=Y (l.foldl g s):=by
 rw [By (λi=>(l.take i.toNat).foldl g s) U V]
 .rw[v?,B_]
 grind [BU]
theorem oZ:∀(N:Nat)(c:d5),SizeOf.sizeOf c<=N->∀n,N<=n->Cw n c=Y (PZ N c)
 |0,c,h,_,_=>by have:=EI c;omega|N+1,c,h,n,d=>by
  obtain ⟨n,rfl⟩:∃m,n=m+1:=⟨n-1,U⟩;rw[Cw,PZ,bK (g:=λs k=>(At (s.1+(PZ N k).1),max s.2 (PZ N k).2))]
  .grind
  .intro i s i1 i2;have:=FG (AI (l:=c.em) i1 i2);rw[AD i1 i2,bs,oZ N _ U n U];rfl
theorem o9:∀(N:Nat)(c:d5),SizeOf.sizeOf c<=N->∀n,N<=n->Ds n c=Y (PZ N c)
 |0,c,h,_,_=>by have:=EI c;omega|N+1,c,h,n,d=>by
  obtain ⟨n,rfl⟩:∃m,n=m+1:=⟨n-1,U⟩;rw[Ds,PZ,bK (g:=λs k=>(At (s.1+(PZ N k).1),max s.2 (PZ N k).2))]
  .grind
  .intro i s i1 i2;have:=FG (AI (l:=c.em) i1 i2);rw[AD i1 i2,bs,o9 N _ U n U];rfl
noncomputable def cq(c:d5):Int×Int:=PZ (SizeOf.sizeOf c) c
noncomputable def ST(c:d5):Int:=if uR c=T then 1 else if 12<(cq c).1\/3<(cq c).2 then 3 else 0
theorem vZ(hf:ET c):GX c=Y (ST c):=by
 unfold GX ST;rw[ABk hf,bs,show KY c=Y (cq c)from DV (SizeOf.sizeOf c) λn d=>oZ _ c (ae _) n d,bs]
 grind
theorem vz(hf:ET c):KN c=Y (ST c):=by
 unfold KN ST;rw[ABq hf,bs,show OS c=Y (cq c)from DV (SizeOf.sizeOf c) λn d=>o9 _ c (ae _) n d,bs]
 grind
theorem YK(g:dr):CL g≠9:=by grind[CL]
variable{t:AC}{p:d7}
theorem gM(d:(BF t).2=0)(h:JP t p=0\/JP t p=9):0<=p.ey/\p.ey<=12:=by grind[YK,JP]
def VM(t:AC)(q:d7)(v:Int):Int:=if JP t q≠9 then JP t q else if kg (λi=>!Ms q i) v q.ey=X then 9 else 0
variable{P:Prop}
theorem chQ{α:Type}[Decidable P]{v:α}{ζ:Option α}{δ:α}(h:P->ζ=Y δ):(if(!decide P)=X then Y v else ζ)=Y (if¬P then v else δ):=l?
theorem ABi(hf:A0 t)(f:(BF t).2=0){q:d7}{v:Int}(o:0<=v)(h:v<=q.ey):FD t q v=Y (VM t q v):=by
 unfold FD VM;rw[Ym hf,bs];refine chQ λd=>?_;have hv:=gM f (.inr d);rw[O4 (c:=λi=>(if(!Ms q i)=X then Y ()else W).map λ_=>.inr 9) (a:=v) (b:=q.ey) h]
 .rw[Gl,Ot];cases kg (λi=>!Ms q i) v q.ey<;>rfl
 .intro i i1 i2 _;rw[a6 (by simpa using i2),show(λj=>JJ j i)=(λy=>Y (decide (y.gl.Var=i)))from rfl,jc,bs,show(q.ek.any λy=>decide (y.gl.Var=i))=Ms q i from rfl,d,A1 U U];cases Ms q i<;>rfl
 .rw[ac V]
theorem vq(p:d7)(v:Int):Pk p v=Y (Ms p v):=uH p v
theorem ABm(hf:A0 t)(q:d7)(v:Int):KO t v q=Y (if q.ey<v then 20 else VM t q v):=by
 unfold KO VM;refine Qt V λ_=>?_;rw[dI hf,bs];refine chQ λd=>?_;rw[d,Bk (λi=>!Ms q i) 9]
 .cases kg (λi=>!Ms q i) v q.ey<;>rfl
 .intro i i1 i2 _;rw[vq,bs,JO]
def Ma:Nat->AC->d7->d5->Int
 |0,_,_,_=>0|N+1,t,p,c=>
  if c.jj=5 then
   if c.d7.ey<p.ey then 20 else if VM t c.d7 p.ey≠0 then VM t c.d7 p.ey else
   if Ko p.dr c.d7.dr c.Map≠0 then Ko p.dr c.d7.dr c.Map else if MP c.Map=T then 1 else
   (fst (λi=>nz (Ma N t c.d7 (AA c.em i))) 0 c.em.length).getD 0
  else (fst (λi=>nz (Ma N t p (AA c.em i))) 0 c.em.length).getD 0
theorem ob(hf:A0 t)(o:(BF t).2=0):∀(N:Nat)(c:d5)(p:d7),0<=p.ey->SizeOf.sizeOf c<=N->∀n,N<=n->Ce n t p c=Y (Ma N t p c)
 |0,c,p,_,h,_,_=>by have:=EI c;omega|N+1,c,p,A,h,n,B=>by
  obtain ⟨n,rfl⟩:∃m,n=m+1:=⟨n-1,U⟩;rw[Ce,Ma];have j:∀q:d7,0<=q.ey->(ei (gt (ρ:=Int) (λ(w:Int)(_:Unit)=>
    (idx c.em w).bind λf=>
    (Ce n t q f).bind λd=>
    if (!decide (d=0))=X then
    Y (.ret d)
    else
    Y (.next ())) 0 (c.em.length:Int) ()) (λ_=>
    Y 0) (λx=>Y x))=Y ((fst (λi=>nz (Ma N t q (AA c.em i))) 0 c.em.length).getD 0):=by
   intro q z;rw[B9 (λi=>nz (Ma N t q (AA c.em i))),DI];intro i i1 i2 _;have:=FG (AI (l:=c.em) i1 i2);rw[AD i1 i2,bs,ob hf o N _ q z U n U,bs,N2]
  by_cases u:c.jj=5
  .rw[a6 g_,a6 u];refine Qt V λhv=>?_;rw[ABi hf o A U,bs];refine EX λhi=>?_;rw[ct,bs];refine EX λy=>?_;rw[uD y,bs]
   grind
  grind
theorem pA(hf:A0 t):∀(N:Nat)(c:d5)(p:d7),SizeOf.sizeOf c<=N->∀n,N<=n->EF n t p c=Y (Ma N t p c)
 |0,c,p,h,_,_=>by have:=EI c;omega|N+1,c,p,h,n,y=>by
  obtain ⟨n,rfl⟩:∃m,n=m+1:=⟨n-1,U⟩;rw[EF,Ma];have d:∀q:d7,(ei (gt (ρ:=Int) (λ(u:Int)(_:Unit)=>
    (idx c.em u).bind λo=>
    (EF n t q o).bind λf=>
    if (!decide (f=0))=X then
    Y (.ret f)
    else
    Y (.next ())) 0 (c.em.length:Int) ()) (λ_=>
    Y 0) (λw=>Y w))=Y ((fst (λi=>nz (Ma N t q (AA c.em i))) 0 c.em.length).getD 0):=by
   intro q;rw[B9 (λi=>nz (Ma N t q (AA c.em i))),DI];intro i i1 i2 _;have:=FG (AI (l:=c.em) i1 i2);rw[AD i1 i2,bs,pA hf N _ q U n U,bs,N2]
  by_cases j:c.jj=5
  .rw[a6 f_,a6 j,ABm hf,bs];by_cases hv:c.d7.ey<p.ey
   .simp[hv]
   .simp only[ac hv];refine EX λhi=>?_;rw[dH,bs];refine EX λx=>?_;rw[ABl x,bs];exact X4 λ_=>d _
  .rw[ac f_,ac j];exact d p
noncomputable def PK(t:AC)(p:d7)(c:d5):Int:=if JP t p≠0 then JP t p else if ST c≠0 then ST c else Ma (SizeOf.sizeOf c) t p c
theorem oT(hf:A0 t)(d:(BF t).2=0)(p:d7)(f:ET c):D0 t p c=Y (PK t p c):=by
 unfold D0 PK;rw[Ym hf,bs];refine EX λh=>?_;rw[vZ f,bs,v_];exact EX λ_=>DV (SizeOf.sizeOf c) λn j=>ob hf d _ c p (gM d (.inl h)).1 (ae _) n j
theorem oy(hf:A0 t)(p:d7)(d:ET c):Ij t p c=Y (PK t p c):=by
 unfold Ij PK;rw[dI hf,bs];refine EX λh=>?_;rw[vz d,bs,v_];exact EX λ_=>DV (SizeOf.sizeOf c) λn f=>pA hf _ c p (ae _) n f
end Go.Sf.Sc
namespace Go.Sf.Sc
open Go Go.Sf
structure H0(r:eh):Prop where
 name:(r.kq.size:Int)<=60
 left:P7 r.fu
 right:P7 r.ec
 fq:S6 r.o3
 into:lL r.mo
 cond:ET r.d5
noncomputable def ES(t:AC)(r:eh):Int:=
 if (BF t).2≠0 then(BF t).2 else if GD r.kq=T then 2 else if JP t r.fu≠0 then JP t r.fu else
 if Lx t r≠0 then Lx t r else if Sr r≠0 then Sr r else if XI t r.ec.dr (FE r) (LJ r)=T then 13 else PK t r.fu r.d5
variable{t:AC}{r:eh}
theorem XW(h:Lx t r=0):D6 r.ec.dr/\DZ t r.ec.dr=X:=by grind[Lx,Dp]
theorem gI(hf:A0 t)(hr:H0 r):Jy t r=Y (ES t r):=by
 have o:=hr.name;unfold Jy ES;rw[Oy hf,bs];refine EX λh=>?_;rw[SM U,bs];refine X4 λ_=>?_;rw[Ym hf,bs];refine EX λ_=>?_;rw[vV hf,bs];refine EX λd=>?_;have ho:=XW d;rw[yO hr.fq,bs];refine EX λj=>?_;rw[oW ho.1,bs];dsimp only;rw[ABj (ea:=FE r) (eg:=LJ r) hf ho.1 ho.2 (λx f=>Gu f) (λx f=>Gu f),bs];refine X4 λ_=>?_;rw[oT hf h _ hr.cond,bs]
theorem gi(hf:A0 t)(hr:H0 r):Ik t r=Y (ES t r):=by
 have q:=hr.name;unfold Ik ES;rw[R0 hf,bs];refine EX λo=>?_;rw[SN U,bs];refine X4 λ_=>?_;rw[dI hf,bs];refine EX λ_=>?_;rw[vr hf,bs];refine EX λd=>?_;have ho:=XW d;rw[yp hr.fq,bs,dG,bs];simp only[dG,bs];have e:(if(!J8 r.mo.dl)=X then Y X else Y (!J8 r.mo.d3))=Y (!MP r.mo):=by
  grind [MP,J8]
 rw [e,bs];have j:Sr r=if WR r≠0 then WR r else if MP r.mo=T then 11 else 0:=by
  grind [Sr,WR,Fo]
 rw [j];by_cases h:WR r=0
 .simp only[h,ne_eq,not_true_eq_false,if_false,decide_true,z!,x_];cases hi:MP r.mo
  .simp
  .simp only[z!,x_,if_false,not_true_eq_false,Bool.true_eq_false];rw[oz ho.1,bs];dsimp only;rw[ABn (ea:=FE r) (eg:=LJ r) hf ho.1 ho.2 (λx f=>Gu f) (λx f=>Gu f),bs];refine X4 λ_=>?_;rw[oy hf _ hr.cond,bs]
 .simp[h]
def AaC(t:AC)(l:Fp):Bool:=!(l.any λk=>t.dl.any λn=>decide (n.t1=k))
structure nP(t:AC)(r:eh):Prop where
 left:D6 r.fu.dr
 ltyped:DZ t r.fu.dr=X
 right:D6 r.ec.dr
 Aa5:DZ t r.ec.dr=X
 rtests:r.ec.j4.length=0
 part:dQ r.fu.dr r.o3
 mor:cg (Pj r.fu.dr r.o3) r.ec.dr r.mo
 inj:r.mo.dl.Nodup/\r.mo.d3.Nodup
variable{p:d7}
theorem oj(h:JP t p=0):D6 p.dr/\DZ t p.dr=X:=by grind[JP,Dp]
theorem kc(h:ES t r=0):(BF t).2=0/\nP t r:=by
 unfold ES at h;split at h
 .omega
 split at h
 .cases h
 split at h
 .omega
 split at h
 .omega
 split at h
 .omega
 rename_i j o q u w;have d:=oj (t:=t) (p:=r.fu) U;have hr:=XW (t:=t) (r:=r) U;have f:=u7 (r:=r) U;have hi:J8 r.mo.dl=X/\J8 r.mo.d3=X:=by
  grind [MP]
 refine ⟨U,d.1,d.2,hr.1,hr.2,?_,?_,V8 f.2.1,QB.1 hi.1,QB.1 hi.2⟩
 .grind[Lx]
 grind [Fo,Vd]
end Go.Sf.Sc
namespace Go.Sf
variable{a b:Int}
theorem WT{ρ:Type}{f:Int->Option (CF Int ρ)}(p:Int->Bool)(v:ρ)(d:a<=b)(h:∀i,a<=i->i<b->f i=Y (if p i=X then .ret v else .next (i+1)))(hb:f b=Y (.brk b)):D5 f a=Y (if kg p a b=X then .inr v else .inl b):=by
 rw [O4 (c:=λi=>(if p i=X then Y ()else W).map λ_=>.inr v) d]
 .grind[Gl,Ot,kg]
 .intro i j o _;rw[h i j o];cases p i<;>rfl
 .exact hb
theorem NS{α:Type}{e:α->TV}{n:Nat}{l:List α}(h:TV.Sm (.list n (l.map e))):(l.length:Int)<=140737488351232/\∀x∈l,(e x).Sm:=by
 simp [TV.Sm]at h;refine⟨by have:=h.1;unfold reachBytes at this;omega,λx d=>WQ.1 h.2 _ (B?.2 ⟨x,d,rfl⟩)⟩
end Go.Sf
namespace Go.Sf.Sc
open Go Go.Sf
def df(a:ke):Bool:=(decide (40<(a.kq.size:Int))||decide (25<(a.pc.length:Int)))||kg (λi=>decide (40<((AA a.pc i).size:Int))) 0 a.pc.length
theorem qQ{a:ke}(h:df a=T):Ws a:=by
 unfold df at h;simp[decide_eq_false_iff_not,B6]at h;refine⟨U,U,λx d=>?_⟩
 grind [Bh]
variable{t:AC}
theorem Se(O:(AK t).Sm):∃b,Mw t=Y b/\(b=X->A0 t):=by
 have I:TV.Sms [_,_]:=O;obtain⟨w,L⟩:=NS (e:=FM) I.1;unfold Mw;by_cases hl:20<t.dl.length\/30<t.d3.length
 .rw[a6 a_]
  grind
 rw [ac a_];rcases XB (f:=(λ(A:Int)(N:Int)=>
 (idx t.dl A).bind λy=>
 (if(decide (30<(At (N+(y.po.length:Int)))))=X then Y X else((idx t.dl A).bind λC=>
 Y (decide (40<(C.kq.size:Int))))).bind λD=>
 if D=X then
 Y (CF.ret T)
 else
 ei (D5 (ρ:=Bool) (λ(s2:Int)=>
 (idx t.dl A).bind λE=>
 if (decide (s2<(E.po.length:Int)))=X then
 (idx t.dl A).bind λF=>
 (idx F.po s2).bind λq=>
 if ((decide (40<(q.kq.size:Int)))||(decide (25<(q.pc.length:Int))))=X then
 Y (.ret T)
 else
 ei (D5 (ρ:=Bool) (λ(x:Int)=>
 if (decide (x<(q.pc.length:Int)))=X then
 (idx q.pc x).bind λG=>
 if (decide (40<(G.size:Int)))=X then
 Y (.ret T)
 else
 Y (.next (At (x+1)))
 else
 Y (.brk x)) 0) (λx=>
 Y (.next (At (s2+1)))) (λQ=>Y (.ret Q))
 else
 Y (.brk s2)) 0) (λs2=>
 Y (.next (At (N+(y.po.length:Int))))) (λS=>Y (.ret S))))
  (λi s=>0<=s/\s<=30/\∀j,0<=j->j<i->((AA t.dl j).kq.size:Int)<=40/\(AA t.dl j).po.length<=30/\∀a∈(AA t.dl j).po,Ws a) (λ_=>False) (λr=>r=T) (a:=0) (b:=t.dl.length) (s:=0) U ⟨U,U,λj z d=>U⟩ (λi s i1 i2 θ=>by
   have ε:=L _ (AI (l:=t.dl) i1 i2);have J:TV.Sms [_,_,_,_]:=ε;obtain⟨ha,M⟩:=NS (e:=HT) J.2.2.2.1;obtain⟨hI1,hI2,hI3⟩:=θ;have κ:At (s+(AA t.dl i).po.length)=s+(AA t.dl i).po.length:=A1 U U;simp only[AD i1 i2,bs,κ,VZ];by_cases η:30<s+(AA t.dl i).po.length\/40<((AA t.dl i).kq.size:Int)
   .grind
   rw [ac (by simpa using η)];rw[WT (λj=>df (AA (AA t.dl i).po j)) T (b:=(AA t.dl i).po.length) U]
   .cases hb:kg (λj=>df (AA (AA t.dl i).po j)) 0 (AA t.dl i).po.length
    .refine .inl ⟨_,rfl,U,U,λj H B=>?_⟩
     grind [Bh,qQ,B6]
    .exact .inr (.inr ⟨_,rfl,rfl⟩)
   .intro j H B;rw[a6 (by simpa using B),AD H B,bs];have Z:=M _ (AI (l:=(AA t.dl i).po) H B);have K:TV.Sms [_,_,_,_]:=Z;obtain⟨hm,_⟩:=NS (e:=eS) K.2.2.2.1;unfold df;cases z:(decide (40<((AA (AA t.dl i).po j).kq.size:Int))||decide (25<((AA (AA t.dl i).po j).pc.length:Int)))
    .rw[ac a!,WT (λk=>decide (40<((AA (AA (AA t.dl i).po j).pc k).size:Int))) T (b:=(AA (AA t.dl i).po j).pc.length) U]
     .cases kg (λk=>decide (40<((AA (AA (AA t.dl i).po j).pc k).size:Int))) 0 (AA (AA t.dl i).po j).pc.length
      .rw[Bool.or_false,A1 (show -9223372036854775808<=j+1 by omega) U];rfl
      .rfl
     .intro k u o;rw[a6 h!,AD u o,bs,A1 (show -9223372036854775808<=k+1 by omega) U,JO]
     .rw[ac V]
    .rfl
   .rw[ac V])with⟨s',z,d⟩|⟨r,z,d⟩
 .rw[z];rcases d with d|d
  .rw[B1,Bk (λi=>decide (40<((AA t.d3 i).kq.size:Int))) T]
   .cases hb:kg (λi=>decide (40<((AA t.d3 i).kq.size:Int))) 0 t.d3.length
    .refine⟨X,rfl,λ_=>⟨U,U,λn w=>?_,λn w=>?_,λn w=>?_,λe he=>?_⟩⟩
     .obtain⟨k,u,o,rfl⟩:=Bh w;exact(d.2.2 k u o).1
     .obtain⟨k,u,o,rfl⟩:=Bh w;exact(d.2.2 k u o).2.1
     .obtain⟨k,u,o,rfl⟩:=Bh w;exact(d.2.2 k u o).2.2
     .obtain⟨k,u,o,rfl⟩:=Bh he;have:=B6.1 hb k u o;simpa using this
    .exact⟨T,rfl,λh=>c_⟩
   .intro i i1 i2 _;rw[AD i1 i2,bs,JO]
  .exact d.elim
 .rw[z];subst d;exact⟨T,rfl,λh=>c_⟩
theorem TO(p:d7):∃b,K9 p=Y b/\(b=X->P7 p):=by
 refine ⟨_,rfl,λh=>?_⟩;simp[sA]at h;exact⟨U,U,U,U⟩
variable{a b:Int}
theorem jq(ha:0<=a)(d:a<=140737488351232)(hb:0<=b)(f:b<=140737488351232):At (a+b)=a+b:=A1 U U
variable{m:d4}
theorem ZO(f:(Az m).Sm):∃b,Ju m 140=Y b/\(b=X->lL m):=by
 have d:TV.Sms [_,_]:=f;have j:=(NS (e:=eI) d.1).1;have o:=(NS (e:=eI) d.2.1).1;refine⟨_,rfl,λh=>?_⟩;rw[jq U j U o]at h;simp[sA]at h;exact⟨U,U⟩
theorem qZ{m:BN}(f:(FN m).Sm):∃b,Sz m 140=Y b/\(b=X->S6 m):=by
 have d:TV.Sms [_,_]:=f;have j:=(NS (e:=eI) d.1).1;have o:=(NS (e:=eI) d.2.1).1;refine⟨_,rfl,λh=>?_⟩;rw[jq U j U o]at h;simp[sA]at h;exact⟨U,U⟩
variable{c:d5}
theorem jf(h:(AJ c).Sm):(Az c.Map).Sm/\(c.em.length:Int)<=140737488351232/\∀k∈c.em,(AJ k).Sm:=by
 have f:TV.Sms [_,_,_,_,_,_,_,_,_]:=h;obtain⟨_,d,j,o,_⟩:=f;rw[MR]at d;obtain⟨q,u⟩:=NS d;exact⟨⟨j,o,trivial⟩,q,u⟩
theorem eA:∀(N:Nat)(c:d5),SizeOf.sizeOf c<=N->(AJ c).Sm->∀pf:Int,0<=pf->pf<=1000->∃r,(∀n,N<=n->DK n c pf=Y r)/\-1<=r/\r<=pf-1/\(0<=r->ET c)
 |0,c,h,_,_,_,_=>by have:=EI c;omega|N+1,c,h,hs,pf,m0,m1=>by
  obtain ⟨O,Q,B⟩:=jf hs;obtain⟨S,E,θ⟩:=TO c.d7;obtain⟨ε,I,κ⟩:=ZO O;have step:∀n,N+1<=n->∃m,n=m+1/\N<=m:=λn d=>⟨n-1,U,U⟩;cases S
  .refine⟨-1,λn d=>?_,U,U,λh=>U⟩;obtain⟨n,rfl,_⟩:=step n d;rw[DK,E];rfl
  cases ε
  .refine⟨-1,λn d=>?_,U,U,λh=>U⟩;obtain⟨n,rfl,_⟩:=step n d;rw[DK,E,bs,I];rfl
  have loop:∀(m:Nat)(k left:Int),0<=k->k+m=c.em.length->-1<=left->left<=1000->∃f u,(∀n,N<=n->MJ (ρ:=Int) (λ(q:Int×Int)=>
    if ((decide (q.2<(c.em.length:Int)))&&(decide (0<=q.1)))=X then
    (idx c.em q.2).bind λx=>
    (DK n x q.1).bind λy=>
    Y (.next (y,At (q.2+1)))
    else
    Y (.brk (q.1,q.2))) (left,k) (.inl (f,u)))/\-1<=f/\f<=left/\(0<=f->∀j,k<=j->j<c.em.length->ET (AA c.em j)):=by
   intro m
   induction m with
   |zero=>
    intro k left C K D l1;refine⟨left,k,λn d=>.brk ?_,D,U,λ_ j z w=>U⟩;rw[ac a_]
   |succ m ih=>
    intro k left C K D l1;by_cases L:0<=left
    .have o:=AI (l:=c.em) C U;have:=FG o;obtain⟨r,η,Z,r3,r4⟩:=eA N _ U (B _ o) left L l1;obtain⟨f,u,a1,F,J,G⟩:=ih (k+1) r U U Z U;refine⟨f,u,λn d=>.next (s':=(r,k+1)) ?_ (a1 n d),F,U,λA j z w=>?_⟩
     .rw[a6 a_,AD C U,bs,η n d,bs,A1 U U]
     .by_cases M:j=k
      .subst M;exact r4 U
      .exact G A j U w
    .refine⟨left,k,λn d=>.brk ?_,D,U,λh=>U⟩;rw[ac a_]
  obtain ⟨f,u,a1,F,J,G⟩:=loop c.em.length 0 (pf-1) U U U U;refine⟨f,λn d=>?_,F,J,λA=>.mk c (θ rfl) (κ rfl) (λk B=>?_)⟩
  .obtain⟨n,rfl,H⟩:=step n d;rw[DK,E,bs,I];simp only[bs,z!,x_,if_false];rw[A1 (n:=pf-1) U U,(a1 n H).eq,B1]
  .obtain⟨j,z,w,rfl⟩:=Bh B;exact G A j z w
theorem qY(d:(AJ c).Sm):∃b,LA c=Y b/\(b=X->ET c):=by
 obtain ⟨r,f,_,_,j⟩:=eA (SizeOf.sizeOf c) c (ae _) d 40 U U;have e:Ri c 40=Y r:=DV (SizeOf.sizeOf c) f;unfold LA;rw[e];exact⟨_,rfl,λh=>j c?⟩
theorem Mk{b:Bool}{o:K1}{c:Bool}(h:o=Y c):(if b=X then o.bind λx=>Y x else Y T)=Y (b&&c):=by
 subst h;cases b<;>rfl
variable{r:eh}
theorem qa(d:(B3 r).Sm):∃b,Q3 r=Y b/\(b=X->H0 r):=by
 have f:TV.Sms [_,_,_,_,_,_,_,_,_,_,_,_,_,_,_,_,_,_,_,_,_,_,_,_,_]:=d;obtain⟨_,_,_,_,_,_,_,_,_,_,_,j,o,i1,i2,_,q,u,c3,c4,w,x,y,c8,z,_⟩:=f;obtain⟨K,A,B⟩:=TO r.fu;obtain⟨L,C,D⟩:=TO r.ec;obtain⟨M,E,F⟩:=qZ (m:=r.o3) ⟨j,o,trivial⟩;obtain⟨N,G,H⟩:=ZO (m:=r.mo) ⟨i1,i2,trivial⟩;obtain⟨O,I,J⟩:=qY (c:=r.d5) ⟨q,u,c3,c4,w,x,y,c8,z,trivial⟩;unfold Q3;rw[Mk A,bs,Mk C,bs,Mk E,bs,Mk G,bs,Mk I,bs];refine⟨_,rfl,λh=>?_⟩;simp[sA]at h;exact⟨h.1.1.1.1.1,B h.1.1.1.1.2,D h.1.1.1.2,F h.1.1.2,H h.1.2,J h.2⟩
end Go.Sf.Sc
