/- Plain lemmas: what the functions of the program and of the reference compute. -/
import Derived.Test.YthcncnllajfkfaaGreatSfRead
import Derived.Test.YthcncnllajfkfaaGreatFns
import Derived.Test.YthcncnllajfkfaaGreatSfPl
set_option linter.all false
set_option maxRecDepth 100000
open Option renaming some->Y,none->W
open Bool renaming true->X,false->T
open Option renaming getD->v5,isSome->v6,bind_assoc->v_,bind_fun_some->v!
open Int renaming le_refl->v?,toNat_natCast->w_
open Bool renaming true_and->w!,eq_iff_iff->w?,false_and->x_,false_eq_true->x!,or_eq_true->x?,not_eq_true'->y_,not_eq_false'->y!,or_eq_false_iff->y?,and_eq_false_iff->z_,eq_false_iff->z!,not_true->z?,not_eq_true->A_,or_assoc->A'
open List renaming any_eq_false->A!,getElem?_eq_getElem->A?,getD_eq_getElem?_getD->B_,take_length->B',any_eq_true->B!,ext_getElem->B?,mem_map->C_,pairwise_iff_getElem->C',all_eq_not_any_not->C!
namespace Go.Sf
theorem af{ρ τ:Type}{d:Int->Option ρ}{g:ρ->τ}:∀(n:Nat)(a:Int),ER (λi=>(d i).map g) n a=(ER d n a).map g
 |0,_=>rfl|n+1,a=>by
  rw [ER,ER];cases d a with
  |some r=>rfl|none=>exact af n (a+1)
variable{a b:Int}
theorem Gb{ρ τ:Type}{d:Int->Option ρ}{g:ρ->τ}:fst (λi=>(d i).map g) a b=(fst d a b).map g:=af _ _
theorem YB{ρ:Type}{d:Int->Option ρ}{r:ρ}:∀{n:Nat}{a:Int},ER d n a=Y r->∃i,a<=i/\i<a+n/\d i=Y r/\∀j,a<=j->j<i->d j=W
 |0,_,h=>c_
 |n+1,a,h=>by
  rw [ER]at h;cases hd:d a with
  |some w=>
   grind
  |none=>
   rw [hd]at h;obtain⟨i,f,o,q,u⟩:=YB h
   grind
theorem CQ{ρ:Type}{d:Int->Option ρ}{r:ρ}(h:fst d a b=Y r):∃i,a<=i/\i<b/\d i=Y r/\∀j,a<=j->j<i->d j=W:=by
 obtain ⟨i,f,o,q,u⟩:=YB h
 grind
def Nl(p:Int->Bool)(s:ByteArray):Int:=(fst (λi=>if p (bt s i)then W else Y i) 0 s.size).getD s.size
theorem Vd(p:Int->Bool)(s:ByteArray):0<=Nl p s/\Nl p s<=s.size/\(∀j,0<=j->j<Nl p s->p (bt s j)=X)/\(Nl p s<s.size->p (bt s (Nl p s))=T):=by
 unfold Nl;cases h:fst (λi=>if p (bt s i)then W else Y i) 0 s.size with
 |none=>
  rw [BU]at h
  grind
 |some r=>
  grind [CQ,bt,v5]
variable{s:ByteArray}
theorem iD(h:s≠⟨#[]⟩):0<s.size:=by
 rcases Nat.eq_zero_or_pos s.size with f|f
 .exfalso;apply h;cases s with|mk d=>congr 1;exact Array.eq_empty_of_size_eq_zero f
 .exact f
end Go.Sf
namespace Go.Sf.Sc
open Go Go.Sf
def G4(c:Int):Bool:=((decide (97<=c))&&(decide (c<=122)))||((decide (65<=c))&&(decide (c<=90)))
def x7(c:Int):Bool:=(decide (48<=c))&&(decide (c<=57))
def Sj(c:Int):Bool:=G4 c||x7 c||decide (c=95)
theorem fo(c:Int):M2 c=Y (G4 c):=rfl
theorem Zu(c:Int):L6 c=Y (x7 c):=rfl
theorem gR(c:Int):Mh c=Y (G4 c):=rfl
theorem kI(c:Int):J5 c=Y (x7 c):=rfl
theorem yI(c:Int):Po c=Y (Sj c):=by
 unfold Po Sj;rw[fo,bs,Zu]
 grind
variable{s:ByteArray}
theorem mH(d:(s.size:Int)<=4611686018427387904){ok:Int->K1}{p:Int->Bool}(h:∀c,ok c=Y (p c)):Ie s ok=Y (Nl p s):=by
 unfold Ie;rw[Ou (c:=λi=>(if p (bt s i)then W else Y i).map .inl) (a:=0) (b:=s.size) U]
 .rw[Gb];unfold Nl;cases fst (λi=>if p (bt s i)=X then W else Y i) 0 s.size<;>rfl
 .grind[Rr,bt,De,Ar]
 .simp
def F3(s:ByteArray):Bool:=decide (0<s.size)&&G4 (bt s 0)&&decide (s.size<=20)&&decide (Nl Sj s=s.size)
theorem Zs(l:List ByteArray)(v:ByteArray):∃k,slices_Index_string l v=Y k/\(0<=k↔v∈l):=by
 unfold slices_Index_string;rw[Bz (λi=>if(v==AA l i)=X then Y i else W)]
 .cases h:fst (λi=>if(v==AA l i)=X then Y i else W) 0 l.length with
  |none=>
   rw [BU]at h;refine⟨-1,rfl,U,λo=>?_⟩
   grind [BW]
  |some k=>
   obtain ⟨i,d,f,q,_⟩:=CQ h;have j:(v==AA l i)=X/\i=k:=by
    grind
   obtain ⟨j,rfl⟩:=j;refine⟨i,rfl,λ_=>?_,λ_=>d⟩
   grind [AI]
 .intro i d f _;simp only[AD d f,bs];split<;>rfl
theorem RB(l:List ByteArray)(v:ByteArray):slices_Contains_string l v=Y (l.contains v):=by
 unfold slices_Contains_string;obtain⟨k,d,f⟩:=Zs l v
 grind
theorem yG(z:0<s.size)(w:(s.size:Int)<=4611686018427387904):∃k n e,LY s=Y (k,n,e)/\(((decide (e=0))&&(decide (k=1)))&&(decide (n=(s.size:Int))))=F3 s:=by
 have hr:=Vd Sj s;unfold LY F3;simp only[Rr (v? 0) (show(0:Int)<s.size by omega),bs,fo,Zu,mH w yI,mH w Zu,z,decide_true,w!];by_cases d:G4 (bt s 0)=X
 .rw[a6 d];by_cases f:20<Nl Sj s
  .refine⟨0,0,3,by simp[f],?_⟩;simp[d];intro D h;omega
  .refine⟨1,_,0,by rw[ac d?],?_⟩;simp only[d,decide_true,w!];rw[w?];simp only[sA,ne];omega
 .rw[ac d];have j:G4 (bt s 0)=T:=c!
  rw [j,x_,x_];by_cases hd:x7 (bt s 0)=X
  .rw[a6 hd];by_cases x:9<Nl x7 s
   .exact⟨0,0,3,by simp[x],V⟩
   .exact⟨2,_,0,by rw[ac (by simpa using x)],V⟩
  .rw[ac hd];by_cases y:bt s 0=34
   .have A:=cT (s:=s) (a:=1) (b:=s.size) U U U;have o:∀c,Na c=Y (((decide (32<=c))&&(decide (c<=126)))&&(!decide (c=34))):=λ_=>rfl;have B:=Vd (λc=>((decide (32<=c))&&(decide (c<=126)))&&(!decide (c=34))) (s.extract (1:Int).toNat (s.size:Int).toNat);have q:∃n e,I2 s=Y (n,e):=by
     unfold I2;rw[Ot U U U,bs,mH U o,bs];rw[Ar U U];by_cases he:1+Nl (λc=>((decide (32<=c))&&(decide (c<=126)))&&(!decide (c=34))) (s.extract (1:Int).toNat (s.size:Int).toNat)=s.size
     .refine⟨0,2,?_⟩;simp only[he,decide_true,if_true,bs]
     .simp only[he,decide_false,x!,if_false];rw[Rr U U];simp only[bs];split
      .exact⟨_,_,rfl⟩
      .split
       .exact⟨_,_,rfl⟩
       .exact⟨_,_,rfl⟩
    obtain ⟨n,e,u⟩:=q;refine⟨3,n,e,by rw[a6 (by simpa using y),u];rfl,V⟩
   .rw[ac (by simpa using y)];have C:∃b,Pn s=Y b:=by
     unfold Pn;by_cases h:2<=(s.size:Int)
     .rw[a6 c?,Ot U U h];simp only[bs,RB];exact⟨_,rfl⟩
     .rw[ac c?];exact⟨_,rfl⟩
    obtain ⟨b,hb⟩:=C;rw[hb,bs];cases b
    .simp only[x!,if_false,strings_IndexByte,bs];split
     .exact⟨_,_,_,rfl,rfl⟩
     .exact⟨_,_,_,rfl,rfl⟩
    .exact⟨_,_,_,rfl,rfl⟩
theorem SC(d:(s.size:Int)<=4611686018427387904):Ef s=Y (F3 s):=by
 unfold Ef L7;simp only[show decide ((1:Int)=3)=T from rfl,x!,if_false,bs];by_cases he:s=⟨#[]⟩
 .subst he;rfl
 grind [yG,iD]
theorem yb(o:(s.size:Int)<=4611686018427387904)(d:Bool):∃n,Mj s 0 d=Y n/\0<=n/\n<=s.size/\(d=T->n=Nl Sj s):=by
 have hr:=Vd (λc=>x7 c||(!d&&(G4 c||decide (c=95)))) s;refine⟨Nl (λc=>x7 c||(!d&&(G4 c||decide (c=95)))) s,?_,hr.1,hr.2.1,λhd=>?_⟩
 .unfold Mj;rw[Ou (c:=λi=>(if(x7 (bt s i)||(!d&&(G4 (bt s i)||decide (bt s i=95))))then W else Y i).map .inl) (a:=0) (b:=s.size) U]
  .rw[Gb];unfold Nl;cases fst (λi=>if(x7 (bt s i)||(!d&&(G4 (bt s i)||decide (bt s i=95))))=X then W else Y i) 0 s.size<;>rfl
  .intro i j f _;have h:Al (0+i)=i:=e_
   simp only[h,f,decide_true,if_true,Rr j f,bs,kI,gR]
   grind [x7,bt,G4,De,Ar]
  .have h:Al (0+(s.size:Int))=s.size:=e_
   grind
 .subst hd;congr 1
  grind [Sj,G4,x7]
theorem rW(q:0<s.size)(u:(s.size:Int)<=4611686018427387904):∃n,It s 0=Y n/\(n=0\/(2<=n/\n<=s.size)):=by
 unfold It;rw[Ou (c:=λi=>if decide (bt s i=34)=X then Y (Sum.inr (i+1):Int ⊕ Int)else if(decide (bt s i<32)||decide (126<bt s i))=X then Y (Sum.inr 0)else W) (a:=1) (b:=s.size) U]
 .cases h:fst (λi=>if decide (bt s i=34)=X then Y (Sum.inr (i+1):Int ⊕ Int)else if(decide (bt s i<32)||decide (126<bt s i))=X then Y (Sum.inr 0)else W) 1 s.size with
  |none=>exact⟨0,rfl,.inl rfl⟩|some r=>
   obtain ⟨i,o,f,d,_⟩:=CQ h;split at d
   .cases d;exact⟨_,rfl,.inr U⟩
   .split at d
    .cases d;exact⟨_,rfl,.inl rfl⟩
    .cases d
 .intro i o f _;have j:Al (0+i)=i:=e_
  simp only[j,f,decide_true,if_true,Rr (show 0<=i by omega) f,bs,Ar (show -9223372036854775808<=i+1 by omega) U];split
  .rfl
  .split<;>rfl
 .have j:Al (0+(s.size:Int))=s.size:=e_
  grind
theorem ABf(O:0<s.size)(Q:(s.size:Int)<=4611686018427387904):∃t n e,Mi s 0=Y (t,n,e)/\(((decide (e=0))&&(decide (n=(s.size:Int))))&&(decide (t.jj=1)))=F3 s:=by
 obtain ⟨m,M,u,w,N⟩:=yb Q (x7 (bt s 0));unfold Mi F3;simp only[Rr (v? 0) (show(0:Int)<s.size by omega),bs,gR,kI,O,decide_true,w!,M];have S:Al (0+m)=m:=e_
 by_cases F:G4 (bt s 0)=X
 .have hd:x7 (bt s 0)=T:=by
   unfold G4 at F;unfold x7
   grind
  have η:=N hd;subst η;simp only[F,if_true,hd,x!,if_false,bs,S];by_cases q:20<Nl Sj s
  .refine⟨_,_,_,by rw[a6 u_],?_⟩
   grind
  .rw[ac u_,Ot (v? _) u w];refine⟨_,_,_,rfl,?_⟩
   grind
 .have G:G4 (bt s 0)=T:=by simpa using F
  simp only[G,x!,if_false,bs,x_,S];by_cases hd:x7 (bt s 0)=X
  .simp only[hd,if_true,bs];by_cases θ:9<m
   .exact⟨_,_,_,by rw[a6 (by simpa using θ)],V⟩
   .rw[ac (by simpa using θ),Ot (v? _) u w];exact⟨_,_,_,rfl,V⟩
  .have H:x7 (bt s 0)=T:=by simpa using hd
   simp only[H,x!,if_false,bs];by_cases ε:bt s 0=34
   .obtain⟨n,hn,y⟩:=rW O Q;rw[a6 s?,hn,bs];rcases y with rfl|y
    .grind
    .rw[ac a_];split
     .grind
     .have Z:Al (0+1)=1:=a!
      have e2:Al (0+n)=n:=e_
      rw [Z,e2,Ar (show -9223372036854775808<=n-1 by omega) U,Ot U U U];exact⟨_,_,_,rfl,V⟩
   .rw[ac s?];unfold QS;rw[bs];generalize hL:([(⟨#[45,62]⟩:ByteArray),(⟨#[60,61]⟩:ByteArray),(⟨#[62,61]⟩:ByteArray),(⟨#[61,61]⟩:ByteArray),(⟨#[33,61]⟩:ByteArray),(⟨#[123]⟩:ByteArray),(⟨#[125]⟩:ByteArray),(⟨#[40]⟩:ByteArray),(⟨#[41]⟩:ByteArray),(⟨#[91]⟩:ByteArray),(⟨#[93]⟩:ByteArray),(⟨#[44]⟩:ByteArray),(⟨#[59]⟩:ByteArray),(⟨#[58]⟩:ByteArray),(⟨#[61]⟩:ByteArray),(⟨#[43]⟩:ByteArray),(⟨#[45]⟩:ByteArray),(⟨#[42]⟩:ByteArray),(⟨#[60]⟩:ByteArray),(⟨#[62]⟩:ByteArray),(⟨#[33]⟩:ByteArray),(⟨#[38]⟩:ByteArray),(⟨#[124]⟩:ByteArray),(⟨#[46]⟩:ByteArray),(⟨#[63]⟩:ByteArray)]:List ByteArray)=L;have I:∀x∈L,x.size<=2:=by subst hL;decide
    rcases W5 (f:=(λ(h:Int)(κ:HE)=>
      (idx L h).bind λA=>
      (if(decide ((Al (0+(A.size:Int)))<=(s.size:Int)))=X then((idx L h).bind λB=>
      (Aaq s 0 (Al (0+(B.size:Int)))).bind λC=>
      (idx L h).bind λD=>
      Y (C==D))else Y T).bind λE=>
      if E=X then
      (idx L h).bind λj=>
      (idx L h).bind λo=>
      Y (B5.ret (HE.mk 4 j 0,(o.size:Int),(0:Int)))
      else
      Y (B5.next κ))) (λ_ s=>True) (λ_=>True) (λr=>r.1.jj=4) (a:=0) (b:=L.length) (s:=HE.mk 0 (⟨#[]⟩:ByteArray) 0) U trivial (λi t d z _=>by
      have hx:=I _ (AI d z);have J:Al (0+((AA L i).size:Int))=(AA L i).size:=e_
      simp only[AD d z,bs,J];by_cases K:((AA L i).size:Int)<=s.size
      .rw[a6 (by simpa using K),Ot U U K];simp only[bs];split
       .exact .inr (.inr ⟨_,rfl,rfl⟩)
       .exact .inl ⟨_,rfl,trivial⟩
      .rw[ac (by simpa using K)];simp only[bs];exact .inl ⟨_,rfl,trivial⟩)with⟨s',d,_⟩|⟨r,d,z⟩
    .rw[d];exact⟨_,_,_,rfl,V⟩
    .rw[d];exact⟨_,_,_,rfl,by simp[z]⟩
theorem SD(d:(s.size:Int)<=4611686018427387904):EZ s=Y (F3 s):=by
 unfold EZ Lu RU;simp only[show decide ((1:Int)=3)=T from rfl,x!,if_false,bs];by_cases he:s=⟨#[]⟩
 .subst he;rfl
 grind [ABf,iD]
end Go.Sf.Sc
namespace Go.Sf
variable{ρ β:Type}
def nz(e:Int):QQ:=if e=0 then W else Y e
theorem Ns(e:Int):(if(!decide (e=0))=X then Y (B5.ret e)else Y (B5.next ()))=Y (Sx (nz e)):=by grind[nz,Sx]
theorem xE(b:Bool)(r:ρ):(if b=X then Y (B5.ret r)else Y (B5.next ()))=Y (Sx (if b=X then Y r else W)):=by
 cases b<;>rfl
variable{kr:ρ->Option β}
theorem Br{σ:Type}{s:σ}{k:σ->Option β}:ei (Y (.inl s)) k kr=k s:=rfl
theorem St{σ:Type}{r:ρ}{k:σ->Option β}:ei (Y (.inr r)) k kr=kr r:=rfl
theorem Ee(o:Option ρ)(k:Unit->Option β)(kr:ρ->Option β):ei (Y (tN o)) k kr=match o with|none=>k ()|some r=>kr r:=by
 cases o<;>rfl
theorem C8(o:QQ):ei (Y (tN o)) (λ_=>Y 0) (λv=>Y v)=Y (o.getD 0):=by
 cases o<;>rfl
variable{a b:Int}
theorem U7{c:Int->Int}(h:(fst (λi=>nz (c i)) a b).getD 0=0):∀i,a<=i->i<b->c i=0:=by
 have:fst (λi=>nz (c i)) a b=W:=by
  cases hf:fst (λi=>nz (c i)) a b with
  |none=>rfl|some r=>
   grind [v5,CQ,nz]
 grind [BU,nz]
variable{e:Int}
theorem Lt:nz e=W↔e=0:=by grind[nz]
theorem W6{α:Type}[Inhabited α]{l:List α}{f:α->K1}{p:α->Bool}(h:∀x∈l,f x=Y (p x)):
  (ei (gt (ρ:=Int) (λ(o:Int)(_:Unit)=>(idx l o).bind λd=>(f d).bind λj=>if j=X then Y (.ret o)else Y (.next ())) 0 (l.length:Int) ()) (λ_=>Y (-1)) (λw=>Y w))=
   Y ((fst (λi=>if p (AA l i)=X then Y i else W) 0 l.length).getD (-1)):=by
 rw [Bz (λi=>if p (AA l i)=X then Y i else W)]
 .rw[Ee];cases fst (λi=>if p (AA l i)=X then Y i else W) 0 l.length<;>rfl
 .intro i q u _;rw[AD q u,bs,h _ (AI q u),bs,xE]
theorem aq{α:Type}[Inhabited α]{l:List α}{p:α->Bool}:decide (0<=(fst (λi=>if p (AA l i)=X then Y i else W) 0 l.length).getD (-1))=l.any p:=by
 rw [Ip,kl];cases h:fst (λi=>if p (AA l i)=X then Y i else W) 0 l.length with
 |none=>
  grind [BU,v6,Option.isSome_eq_false_iff,Option.isNone_iff_eq_none,AA]
 |some k=>
  grind [CQ,AA,v5,v6,Option.isSome_iff_ne_none,BU]
theorem FJ{α:Type}[Inhabited α]{l:List α}{f:α->K1}{p:α->Bool}(h:∀x∈l,f x=Y (p x)):
  ((ei (gt (ρ:=Int) (λ(o:Int)(_:Unit)=>(idx l o).bind λd=>(f d).bind λj=>if j=X then Y (.ret o)else Y (.next ())) 0 (l.length:Int) ()) (λ_=>Y (-1)) (λq=>Y q)).bind λu=>Y (decide (0<=u)))=Y (l.any p):=by
 rw [W6 h,bs,aq]
end Go.Sf
namespace Go.Sf.Sc
open Go Go.Sf
instance:Inhabited ke:=⟨⟨⟨#[]⟩,0,0,[]⟩⟩
instance:Inhabited Cj:=⟨⟨⟨#[]⟩,0,T,[]⟩⟩
instance:Inhabited Cx:=⟨⟨⟨#[]⟩,0,0,0,0,0,0⟩⟩
instance:Inhabited CC:=⟨⟨0,0,0⟩⟩
instance:Inhabited Cu:=⟨⟨0,0,⟨0,0⟩⟩⟩
instance:Inhabited Test:=⟨⟨0,⟨0,0⟩,⟨0,0⟩⟩⟩
instance:Inhabited d5:=⟨⟨0,[],⟨[],[]⟩,⟨⟨[],[]⟩,[],0,[]⟩⟩⟩
variable{l:Fp}
theorem Rz{f:Int->K1}{p:Int->Bool}(h:∀x∈l,f x=Y (p x)):A4 l f=Y (l.any p):=FJ h
theorem jQ{l:List CC}{f:CC->K1}{p:CC->Bool}(h:∀x∈l,f x=Y (p x)):Bm l f=Y (l.any p):=FJ h
theorem db{l:List d5}{f:d5->K1}{p:d5->Bool}(h:∀x∈l,f x=Y (p x)):CG l f=Y (l.any p):=FJ h
theorem iY{l:List Cj}{p:Cj->Bool}:Cf l (λx=>Y (p x))=Y (l.any p):=FJ (λ_ _=>rfl)
theorem iX{l:List Cx}{p:Cx->Bool}:Ce l (λx=>Y (p x))=Y (l.any p):=FJ (λ_ _=>rfl)
theorem uV{l:List ke}{p:ke->Bool}:C6 l (λx=>Y (p x))=Y (l.any p):=FJ (λ_ _=>rfl)
theorem dc{p:Int->Bool}:A4 l (λx=>Y (p x))=Y (l.any p):=FJ (λ_ _=>rfl)
theorem jR{l:List CC}{p:CC->Bool}:Bm l (λx=>Y (p x))=Y (l.any p):=FJ (λ_ _=>rfl)
theorem jS{l:List Cu}{p:Cu->Bool}:Cm l (λx=>Y (p x))=Y (l.any p):=FJ (λ_ _=>rfl)
theorem xR(l:Fp)(v:Int):slices_Index_int l v=Y ((fst (λi=>if decide (v=AA l i)=X then Y i else W) 0 l.length).getD (-1)):=by
 have:=W6 (l:=l) (f:=λx=>Y (decide (v=x))) (p:=λx=>decide (v=x)) (λ_ _=>rfl);unfold slices_Index_int
 grind
theorem Mb(l:Fp)(v:Int):slices_Contains_int l v=Y (l.any λx=>decide (v=x)):=by grind[slices_Contains_int,xR,aq]
theorem uX(l:a5)(v:Bool):GX l v=Y (l.any λx=>v==x):=by
 have:=FJ (l:=l) (f:=λx=>Y (v==x)) (p:=λx=>v==x) (λ_ _=>rfl);unfold GX KT
 grind
structure Wm(a:ke):Prop where
 name:(a.kq.size:Int)<=40
 names:a.pc.length<=25
 each:∀x∈a.pc,(x.size:Int)<=40
structure Aq(t:AC):Prop where
 ea:t.dl.length<=20
 eh:t.d3.length<=30
 name:∀n∈t.dl,(n.kq.size:Int)<=40
 AbE:∀n∈t.dl,n.po.length<=30
 each:∀n∈t.dl,∀a∈n.po,Wm a
 ename:∀e∈t.d3,(e.kq.size:Int)<=40
def par(t:AC)(i:Int):Int:=(AA t.dl i).t2
def FT(t:AC)(k:Int):Prop:=∀i,0<=i->i<k->-1<=par t i/\par t i<i
def CW(t:AC):Nat->Int->List ke
 |0,_=>[]|n+1,a=>if a<0 then[]else CW t n (par t a)++(AA t.dl a).po
def BA(t:AC)(a:Int):List ke:=CW t (a+1).toNat a
variable{t:AC}{a:Int}
theorem K7{n:Nat}(h:a<0):CW t n a=[]:=by
 cases n with
 |zero=>rfl|succ n=>rw[CW,a6 h]
variable{k:Int}
theorem Oe(d:FT t k):∀(n m:Nat)(a:Int),a<k->a<n->a<m->CW t n a=CW t m a
 |n,m,a,h,j,o=>by
  by_cases f:a<0
  .grind[K7]
  .cases n with
   |zero=>omega|succ n=>
    cases m with
    |zero=>omega|succ m=>
     rw [CW,CW,ac f,ac f];have:=d a U h;rw[Oe d n m (par t a) U U U]
theorem O3(hf:Aq t)(f:k<=t.dl.length)(d:FT t k):∀(n:Nat)(a:Int),a<k->((CW t n a).length:Int)<=30*n
 |0,_,_=>by simp[CW]|n+1,a,ha=>by
  rw [CW];split
  .simp;omega
  .rename_i h;have j:=d a U ha;have o:=O3 hf f d n (par t a) U;have q:=hf.AbE _ (AI (l:=t.dl) (show 0<=a by omega) U)
   grind
theorem Xs(hf:Aq t)(h:k<=t.dl.length)(f:FT t k):∀(n:Nat)(a:Int),a<k->∀x∈CW t n a,Wm x
 |0,_,_=>by simp[CW]|n+1,a,ha=>by
  rw [CW];split
  .simp
  .rename_i j;have o:=f a U ha;intro x d;rcases List.mem_append.1 d with d|d
   .exact Xs hf h f n (par t a) U x d
   .exact hf.each _ (AI (l:=t.dl) (show 0<=a by omega) U) x d
theorem IE(hf:Aq t)(d:k<=t.dl.length)(f:FT t k)(ha:a<k):(BA t a).length<=600:=by
 have:=O3 hf d f (a+1).toNat a ha;have:=hf.ea;unfold BA;omega
theorem O4(hf:Aq t)(d:k<=t.dl.length)(f:FT t k)(ha:a<k):∀x∈BA t a,Wm x:=Xs hf d f _ a ha
theorem fc(hf:Aq t)(j:k<=t.dl.length)(h:FT t k):∀(n:Nat)(a:Int),0<=a->a<k->a<n->Dl n t a=Y (CW t n a)
 |0,_,_,_,_=>by omega|n+1,a,q,ha,B=>by
  have y:=h a U ha;have u:=O3 hf j h n (par t a) U;have z:=hf.AbE _ (AI (l:=t.dl) q U);have A:=hf.ea;rw[Dl,CW,ac U,AD q U];simp only[bs];show((if decide (0<=par t a)=X then(Dl n t (par t a)).bind λf=>Y f else Y []).bind _)=_;have e:(if decide (0<=par t a)=X then(Dl n t (par t a)).bind λf=>Y f else Y [])=Y (CW t n (par t a)):=by
   by_cases o:0<=par t a
   .rw[a6 h_,fc hf j h n (par t a) o U U];rfl
   .rw[ac h_,K7 U]
  have hb:(CW t n (par t a)).length+(AA t.dl a).po.length<=AY:=by
   unfold AY;have:((CW t n (par t a)).length:Int)<=30*n:=u;have w:CW t n (par t a)=CW t 20 (par t a):=by
    by_cases d:par t a<0
    .rw[K7 d,K7 d]
    .exact Oe h n 20 (par t a) U U U
   have x:=O3 hf j h 20 (par t a) U;rw[<-w]at x;omega
  rw [e,bs,AV hb];rfl
theorem j6(hf:Aq t)(d:k<=t.dl.length)(f:FT t k)(h:0<=a)(ha:a<k):N7 t a=Y (BA t a):=
 DK (a+1).toNat λn j=>by
  grind [fc,BA,Oe]
theorem gJ(hf:Aq t)(h:k<=t.dl.length)(f:FT t k):∀(n:Nat)(a:Int),-1<=a->a<k->a+1<n->Ea n t a=Y (CW t n a)
 |0,_,_,_,_=>by omega|n+1,a,x,ha,y=>by
  rw [Ea,CW];by_cases d:a<0
  .grind
  .have q:=f a U ha;have u:=hf.AbE _ (AI (l:=t.dl) (show 0<=a by omega) U);have w:=hf.ea;rw[ac c!,ac d,AD U U];simp only[bs];have j:CW t n (par t a)=CW t 20 (par t a):=by
    by_cases d:par t a<0
    .rw[K7 d,K7 d]
    .exact Oe f n 20 (par t a) U U U
   have o:=O3 hf h f 20 (par t a) U;rw[<-j]at o;have hb:(CW t n (par t a)).length+(AA t.dl a).po.length<=AY:=a?
   rw [show(AA t.dl a).t2=par t a from rfl,gJ hf h f n (par t a) U U U,bs,AV b_];simp only[bs,List.nil_append];rw[AV hb];rfl
theorem kH(hf:Aq t)(d:k<=t.dl.length)(f:FT t k)(h:0<=a)(ha:a<k):Nx t a=Y (BA t a):=
 DK (a+2).toNat λn j=>by
  grind [gJ,BA,Oe]
end Go.Sf.Sc
namespace Go.Sf.Sc
open Go Go.Sf
def Mf(l:List ByteArray):Int:=
 if (20:Int)<l.length then 3 else(fst (λi=>if F3 (AA l i)=T then Y 2 else if kl (λj=>AA l j==AA l i) 0 i=X then Y 5 else W) 0 l.length).getD 0
variable{b:Int}
theorem dh{l:List ByteArray}{x:ByteArray}(d:0<=b)(f:b<=l.length):(l.take b.toNat).contains x=kl (λj=>AA l j==x) 0 b:=by
 rw [List.contains_eq_any_beq,Rw d f]
 grind
theorem vI{l:List ByteArray}(o:∀x∈l,(x.size:Int)<=40):KL l=Y (Mf l):=by
 unfold KL Mf;by_cases d:(20:Int)<l.length
 .grind
 .rw[ac c!,ac d];rw[Bz (λi=>if F3 (AA l i)=T then Y 2 else if kl (λj=>AA l j==AA l i) 0 i=X then Y 5 else W),C8];intro i f h _;have q:=o _ (AI f h);rw[AD f h,bs,SC U,bs,Hw f U];simp only[bs,RB,dh f (show i<=l.length by omega)];cases F3 (AA l i)<;>cases kl (λj=>AA l j==AA l i) 0 i<;>rfl
theorem vc{l:List ByteArray}(o:∀x∈l,(x.size:Int)<=40):J6 l=Y (Mf l):=by
 unfold J6 Mf;by_cases d:(20:Int)<l.length
 .grind
 .rw[ac c!,ac d];rw[Bz (λi=>if F3 (AA l i)=T then Y 2 else if kl (λj=>AA l j==AA l i) 0 i=X then Y 5 else W),C8];intro i f h _;have q:=o _ (AI f h);rw[AD f h,bs,SD U,bs,BZ (λj=>AA l j==AA l i) 5]
  .cases F3 (AA l i)<;>cases kl (λj=>AA l j==AA l i) 0 i<;>rfl
  grind [AD]
def N8(all:List ke)(k:Int):Int:=
 let x:=AA all k
 if F3 x.kq=T then 2 else if kl (λj=>(AA all j).kq==x.kq) 0 k=X then 5 else
 if x.pc.length=0 then(if -1000000<=x.Low/\x.Low<=x.z5/\x.z5<=1000000 then 0 else 6)else
 if Mf x.pc≠0 then Mf x.pc else if x.Low=0/\x.z5=x.pc.length-1 then 0 else 6
variable{k:Int}
theorem iy{d:List ke}(q:∀x∈d,Wm x)(o:0<=k)(u:k<d.length):GZ (AA d k) (d.take k.toNat)=Y (N8 d k):=by
 have j:=q _ (AI o u);have A:=j.name;unfold GZ N8;dsimp only;rw[SC U,bs,show(λf=>KU f (AA d k))=(λf=>Y (f.kq==(AA d k).kq))from rfl,uV,bs,Rw o U,vI j.each,bs];have w:=j.names;have y:Al ((AA d k).pc.length-1)=(AA d k).pc.length-1:=Ar U U;rw[y];have z:(AA d k).pc.length=0->Mf (AA d k).pc=0:=λh=>by rw[List.eq_nil_of_length_eq_zero h];rfl
 generalize Mf (AA d k).pc=e at z|-;simp only[bs,sA,x?,ne,y_,decide_eq_false_iff_not,y!,y?,z_,ne_eq]
 repeat' (first|rfl|(exfalso;omega;done)|split)
 all_goals (first|rfl|(exfalso;omega)|omega|simp_all|(simp_all;omega))
theorem i7{x:ke}(d:Wm x):GR x=Y (
 if x.pc.length=0 then(if -1000000<=x.Low/\x.Low<=x.z5/\x.z5<=1000000 then 0 else 6)else
 if Mf x.pc≠0 then Mf x.pc else if x.Low=0/\x.z5=x.pc.length-1 then 0 else 6):=by
 have f:=d.names;have h:Al (x.pc.length-1)=x.pc.length-1:=Ar U U;unfold GR EC;simp only[bs,h,vc d.each];generalize Mf x.pc=e;simp only[bs,sA,x?,ne,y_,decide_eq_false_iff_not,y!,y?,z_,ne_eq]
 repeat' (first|rfl|(exfalso;omega;done)|split)
 all_goals (first|rfl|(exfalso;omega)|omega|simp_all|(simp_all;omega))
def KP(t:AC)(i:Int):Int:=
 let n:=AA t.dl i
 if F3 n.kq=T then 2 else if kl (λj=>(AA t.dl j).kq==n.kq) 0 i=X then 5 else
 if n.t2< -1\/i<=n.t2 then 6 else if 4<n.po.length\/8<(BA t i).length then 3 else
 (fst (λk=>nz (N8 (BA t i) k)) ((BA t i).length-n.po.length) (BA t i).length).getD 0
variable{t:AC}{i:Int}
theorem Xu(d:0<=i):(AA t.dl i).po.length<=(BA t i).length:=by
 unfold BA;rw[show(i+1).toNat=i.toNat+1 by omega,CW,ac U,az];omega
theorem FT.next(h:FT t i)(f:-1<=par t i)(o:par t i<i):FT t (i+1):=by
 intro j d q;by_cases u:j=i
 .grind
 .exact h j d U
theorem yH(hf:Aq t)(f:0<=i)(u:i<t.dl.length)(z:FT t i):Lb t i=Y (KP t i):=by
 have B:=hf.name _ (AI f u);unfold Lb KP;dsimp only;rw[AD f u,bs,SC U,bs,Hw f U,bs,show(λo=>Pq o (AA t.dl i))=(λo=>Y (o.kq==(AA t.dl i).kq))from rfl,iY,bs,Rw f U];cases F3 (AA t.dl i).kq
 .rfl
 .cases kl (λj=>(AA t.dl j).kq==(AA t.dl i).kq) 0 i
  .by_cases hr:(AA t.dl i).t2< -1\/i<=(AA t.dl i).t2
   .rcases hr with hr|hr<;>simp[hr]
   .have d:FT t (i+1):=z.next (by unfold par;omega) (by unfold par;omega)
    have q:(decide ((AA t.dl i).t2< -1)||decide (i<=(AA t.dl i).t2))=T:=by
     rw [z!];simpa using hr
    rw [j6 hf (k:=i+1) U d f U,bs];have x:=IE hf (k:=i+1) (a:=i) U d U;have y:=Xu (t:=t) f;have h:=O4 hf (k:=i+1) (a:=i) U d U;rw[Ar U U,Bz (λk=>nz (N8 (BA t i) k)),C8]
    .simp only[q,hr,z?,x!,if_false];simp only[bs,sA,x?,ne,y_,decide_eq_false_iff_not,y!,y?,z_,ne_eq]
     repeat' (first|rfl|(exfalso;omega;done)|split)
     all_goals (first|rfl|(exfalso;omega)|omega|simp_all|(simp_all;omega))
    .intro k A w _;rw[AD U w,bs,Hw U U,bs,iy h U w,bs,Ns]
  .rfl
theorem yZ(hf:Aq t)(h:0<=i)(q:i<t.dl.length)(z:FT t i):LH t i=Y (KP t i):=by
 have D:=hf.name _ (AI h q);have E:=hf.ea;unfold LH KP EC;dsimp only;rw[AD h q,bs,SD U,bs,BZ (λj=>(AA t.dl j).kq==(AA t.dl i).kq) 5]
 .cases F3 (AA t.dl i).kq
  .rfl
  .cases kl (λj=>(AA t.dl j).kq==(AA t.dl i).kq) 0 i
   .simp only[z?,x!,if_false,Br,bs];rw[Ar U U];by_cases hr:(AA t.dl i).t2< -1\/i<=(AA t.dl i).t2
    .rw[a6,ac a!,a6 hr];simp;omega
    .have d:FT t (i+1):=z.next (by unfold par;omega) (by unfold par;omega)
     rw [ac a_,ac a!,ac hr];rw[kH hf (k:=i+1) U d h U,bs];have w:=IE hf (k:=i+1) (a:=i) U d U;have x:=Xu (t:=t) h;have f:=O4 hf (k:=i+1) (a:=i) U d U;rw[Ar U U];rw[Bz (λk=>nz (N8 (BA t i) k)),C8]
     .simp only[bs,sA,x?,ne,y_,decide_eq_false_iff_not,y!,y?,z_,ne_eq]
      repeat' (first|rfl|(exfalso;omega;done)|split)
      all_goals (first|rfl|(exfalso;omega)|omega|simp_all|(simp_all;omega))
     .intro k u o _;have y:=f _ (AI (show 0<=k by omega) o);have B:=y.name;simp only[AD (show 0<=k by omega) o,bs];rw[SD U,bs,BZ (λj=>(AA (BA t i) j).kq==(AA (BA t i) k).kq) 5]
      .rw[i7 y];simp only[bs,Ns];unfold N8;dsimp only;cases F3 (AA (BA t i) k).kq
       .rfl
       .cases kl (λj=>(AA (BA t i) j).kq==(AA (BA t i) k).kq) 0 k<;>rfl
      .intro j A C _;rw[AD A U,bs];split<;>rfl
   .rfl
 .intro j u o _;rw[AD u U,bs];split<;>rfl
def O5(low high:Int):Bool:=((decide (0<=low))&&(decide (low<=40)))&&((decide (high=(-1)))||((decide (low<=high))&&(decide (high<=40))))
theorem vW(low high:Int):Lw low high=Y (O5 low high):=by
 unfold Lw O5 EC
 grind
def NA(t:AC)(i:Int):Int:=
 let x:=AA t.d3 i
 if F3 x.kq=T then 2 else if kl (λj=>(AA t.d3 j).kq==x.kq) 0 i=X then 5 else
 if (0<=x.hV/\x.hV<t.dl.length)/\(0<=x.To/\x.To<t.dl.length)/\O5 x.AaT x.Aaz=X/\O5 x.Abf x.AaR=X then 0 else 6
theorem xy(hf:Aq t)(d:0<=i)(h:i<t.d3.length):LZ t i=Y (NA t i):=by
 have o:=hf.ename _ (AI d h);unfold LZ NA M3;dsimp only;rw[AD d h,bs,SC U,bs,Hw d U,bs,show(λf=>Pp f (AA t.d3 i))=(λf=>Y (f.kq==(AA t.d3 i).kq))from rfl,iX,bs,Rw d U];simp[show∀a b,Lq a b=Y (O5 a b)from λ_ _=>rfl];generalize F3 (AA t.d3 i).kq=b1;generalize kl (λj=>(AA t.d3 j).kq==(AA t.d3 i).kq) 0 i=b2;generalize O5 (AA t.d3 i).AaT (AA t.d3 i).Aaz=b3;generalize O5 (AA t.d3 i).Abf (AA t.d3 i).AaR=b4;cases b1
 .rfl
 grind
theorem yS(hf:Aq t)(h:0<=i)(o:i<t.d3.length):LG t i=Y (NA t i):=by
 have q:=hf.ename _ (AI h o);have u:=hf.ea;unfold LG NA EC;dsimp only;rw[AD h o,bs,SD U,bs,BZ (λj=>(AA t.d3 j).kq==(AA t.d3 i).kq) 5]
 .simp only[Ar (show -9223372036854775808<=(t.dl.length:Int)-1 by omega) U,vW,bs];generalize F3 (AA t.d3 i).kq=b1;generalize kl (λj=>(AA t.d3 j).kq==(AA t.d3 i).kq) 0 i=b2;generalize O5 (AA t.d3 i).AaT (AA t.d3 i).Aaz=b3;generalize O5 (AA t.d3 i).Abf (AA t.d3 i).AaR=b4;cases b1
  .rfl
  .cases b2
   .cases b3<;>cases b4
    all_goals
     by_cases ha:0<=(AA t.d3 i).hV/\(AA t.d3 i).hV<t.dl.length
     .have d:(AA t.d3 i).hV<=(t.dl.length:Int)-1:=U
      by_cases hb:0<=(AA t.d3 i).To/\(AA t.d3 i).To<t.dl.length
      .have f:(AA t.d3 i).To<=(t.dl.length:Int)-1:=U
       simp [ha,hb,d,f,Br]
      .have:(decide (0<=(AA t.d3 i).To)&&decide ((AA t.d3 i).To<=(t.dl.length:Int)-1))=T:=f_
       simp [ha,hb,d,this,Br]
     .have:(decide (0<=(AA t.d3 i).hV)&&decide ((AA t.d3 i).hV<=(t.dl.length:Int)-1))=T:=f_
      simp [ha,this,Br]
   .rfl
 grind [AD]
def A5(t:AC):ByteArray×Int:=
 if t.dl.length=0 then(⟨#[]⟩,7)else if 12<t.dl.length\/20<t.d3.length then(⟨#[]⟩,3)else
 match fst (λi=>(nz (KP t i)).map λe=>((AA t.dl i).kq,e)) 0 t.dl.length with
 |some r=>r|none=>(fst (λi=>(nz (NA t i)).map λe=>((AA t.d3 i).kq,e)) 0 t.d3.length).getD (⟨#[]⟩,0)
theorem oA(h:KP t i=0):-1<=par t i/\par t i<i:=by grind[KP,par,AA]
theorem OX{α β:Type}{o:Option α}{g:α->β}:o.map g=W↔o=W:=by cases o<;>simp
theorem XI(h:∀j,0<=j->j<i->KP t j=0):FT t i:=λj d f=>oA (h j d f)
theorem V3{ρ:Type}(e:Int)(n:ByteArray):(if(!decide (e=0))=X then Y (B5.ret (n,e))else Y (B5.next ()))=Y (Sx ((nz e).map λe=>(n,e))):=by grind[nz,Sx]
theorem Ol(hf:Aq t):D6 t=Y (A5 t):=by
 unfold D6 A5;rw[Bz (λi=>(nz (KP t i)).map λe=>((AA t.dl i).kq,e)),Ee]
 .rw[Bz (λi=>(nz (NA t i)).map λe=>((AA t.d3 i).kq,e)),Ee]
  .cases fst (λi=>(nz (KP t i)).map λe=>((AA t.dl i).kq,e)) 0 t.dl.length<;>cases fst (λi=>(nz (NA t i)).map λe=>((AA t.d3 i).kq,e)) 0 t.d3.length
   all_goals dsimp only
   all_goals try simp only[v5]
   all_goals
    simp only[bs,sA,x?,ne,y_,decide_eq_false_iff_not,y!,y?,z_,ne_eq]
    repeat' (first|rfl|(exfalso;omega;done)|split)
    all_goals (first|rfl|(exfalso;omega)|omega|simp_all|(simp_all;omega))
  .intro i d f _;rw[AD d f,bs,xy hf d f,bs];exact V3 (ρ:=Unit) _ _
 .intro i d f q;have u:FT t i:=XI λj h o=>Lt.1 (OX.1 (q j h o));rw[AD d f,bs,yH hf d f u,bs];exact V3 (ρ:=Unit) _ _
theorem Rp(hf:Aq t):Eg t=Y (A5 t):=by
 unfold Eg A5;rw[Bz (λi=>(nz (KP t i)).map λe=>((AA t.dl i).kq,e)),Ee]
 .rw[Bz (λi=>(nz (NA t i)).map λe=>((AA t.d3 i).kq,e)),Ee]
  .cases fst (λi=>(nz (KP t i)).map λe=>((AA t.dl i).kq,e)) 0 t.dl.length<;>cases fst (λi=>(nz (NA t i)).map λe=>((AA t.d3 i).kq,e)) 0 t.d3.length
   all_goals dsimp only
   all_goals try simp only[v5]
   all_goals
    simp only[bs,sA,x?,ne,y_,decide_eq_false_iff_not,y!,y?,z_,ne_eq]
    repeat' (first|rfl|(exfalso;omega;done)|split)
    all_goals (first|rfl|(exfalso;omega)|omega|simp_all|(simp_all;omega))
  .intro i d f _;simp only[yS hf d f,AD d f,bs];exact V3 (ρ:=Unit) _ _
 .intro i d f q;have u:FT t i:=XI λj h o=>Lt.1 (OX.1 (q j h o));simp only[yZ hf d f u,AD d f,bs];exact V3 (ρ:=Unit) _ _
end Go.Sf.Sc
namespace Go.Sf.Sc
open Go Go.Sf
theorem JE{α:Type}{c:Bool}{a b:α}:(if c=X then Y a else Y b)=Y (if c=X then a else b):=by cases c<;>rfl
def OE(n:Int):Bool:=(decide (0<=n))&&(decide (n<=99))
def Tu(e:CC)(n:Int):Bool:=OE e.ia&&(decide (0<=e.hV)&&decide (e.hV<n))&&(decide (0<=e.To)&&decide (e.To<n))
def CA(g:dr):Int:=
 if 40<g.dl.length\/80<g.d3.length then 3 else if(g.dl.any λn=>!OE n)=X then 6 else if(g.d3.any λe=>!Tu e g.dl.length)=X then 6 else 0
structure Dw(g:dr):Prop where
 ea:g.dl.length<=40
 eh:g.d3.length<=80
 kind:∀n∈g.dl,0<=n/\n<=99
 fit:∀e∈g.d3,(0<=e.ia/\e.ia<=99)/\(0<=e.hV/\e.hV<g.dl.length)/\(0<=e.To/\e.To<g.dl.length)
variable{g:dr}
theorem Df(h:CA g=0):Dw g:=by
 unfold CA at h;split at h
 .cases h
 .split at h
  .cases h
  .split at h
   .cases h
   .rename_i o f d;refine⟨U,U,λn j=>?_,λe he=>?_⟩
    .rw[A_,A!]at f
     grind [OE]
    .rw[A_,A!]at d;have:=d e he;simp[Tu,OE,y_,sA]at this;omega
theorem yB{e:CC}{n:Nat}(h:n<=40):PH e n=Y (Tu e n):=by
 unfold PH Is Tu OE;simp only[bs,Ar (show -9223372036854775808<=(n:Int)-1 by omega) U];have d:decide (e.hV<=(n:Int)-1)=decide (e.hV<n):=i?
 have f:decide (e.To<=(n:Int)-1)=decide (e.To<n):=i?
 rw [d,f];generalize (decide (0<=e.ia)&&decide (e.ia<=99))=b1;generalize (decide (0<=e.hV)&&decide (e.hV<n))=b2;cases b1<;>cases b2<;>simp
theorem NJ(g:dr):DQ g=Y (CA g):=by
 unfold DQ CA;by_cases h:40<g.dl.length\/80<g.d3.length
 .grind
 .rw[ac a_,ac h,show OC=(λn=>Y (!OE n))from rfl,dc,jQ (p:=λe=>!Tu e g.dl.length) (λe _=>by
   grind [OD,yB])]
  grind
theorem Om(g:dr):Eh g=Y (CA g):=by
 unfold Eh CA;by_cases h:40<g.dl.length\/80<g.d3.length
 .grind
 .rw[ac a_,ac h,Ip,Ip,BZ (λi=>!OE (AA g.dl i)) 6]
  .rw[BZ (λi=>!Tu (AA g.d3 i) g.dl.length) 6]
   .cases kl (λi=>!OE (AA g.dl i)) 0 g.dl.length
    .cases kl (λi=>!Tu (AA g.d3 i) g.dl.length) 0 g.d3.length<;>rfl
    .rfl
   .intro i d f _;rw[AD d f,bs];unfold QT Tu;simp[show∀n,NO n=Y (OE n)from λ_=>rfl]
    grind
  grind [AD,NO,AA,OE]
def DO(t:AC)(g:dr):Bool:=!(g.dl.any λn=>decide (t.dl.length<=n))&&!(g.d3.any λe=>decide (t.d3.length<=e.ia))
variable{t:AC}
theorem Hx(d:Dw g)(h:DO t g=X):(∀n∈g.dl,0<=n/\n<t.dl.length)/\∀e∈g.d3,0<=e.ia/\e.ia<t.d3.length:=by
 unfold DO at h;simp[y_,sA]at h;refine⟨λn f=>?_,λe he=>?_⟩
 .have:=h.1 n f;have:=d.kind n f;omega
 .have:=h.2 e he;have:=d.fit e he;omega
theorem vS(t:AC)(g:dr):LS t g=Y (DO t g):=by grind[LS,DO,Ph,dc,Pj,CC,jR]
theorem Zz(h:Dw g):IV t g=Y (DO t g):=by
 unfold IV DO;rw[Ip,Ip,BZ (λi=>decide (t.dl.length<=AA g.dl i)) T]
 .rw[BZ (λi=>decide (t.d3.length<=(AA g.d3 i).ia)) T]
  .cases kl (λi=>decide (t.dl.length<=AA g.dl i)) 0 g.dl.length
   .cases kl (λi=>decide (t.d3.length<=(AA g.d3 i).ia)) 0 g.d3.length<;>rfl
   .rfl
  .intro i d f _;have:=(h.fit _ (AI d f)).1.1;simp[AD d f]
   grind
 .intro i d f _;have:=(h.kind _ (AI d f)).1;simp[AD d f]
  grind
structure Fv(t:AC):Prop where
 ea:t.dl.length<=12
 eh:t.d3.length<=20
 node:∀i:Int,0<=i->i<t.dl.length->KP t i=0
 edge:∀i:Int,0<=i->i<t.d3.length->NA t i=0
theorem Cw(h:(A5 t).2=0):Fv t:=by
 unfold A5 at h;split at h
 .cases h
 .split at h
  .cases h
  .rename_i q u;have d:∀i:Int,0<=i->i<t.dl.length->KP t i=0:=by
    grind [CQ,nz,Lt,OX,BU]
   have he:∀i:Int,0<=i->i<t.d3.length->NA t i=0:=by
    split at h
    next r hr=>obtain⟨i,j,o,f,_⟩:=CQ hr;rw[d i j o]at f;cases f
    .cases hr:fst (λi=>(nz (NA t i)).map λe=>((AA t.d3 i).kq,e)) 0 t.d3.length with
     |some r=>
      grind [CQ,nz]
     |none=>
      grind [Lt,OX,BU]
   exact ⟨U,U,d,he⟩
theorem Fv.par(h:Fv t):FT t t.dl.length:=XI h.node
variable{i:Int}
theorem Fv.ends(h:Fv t)(d:0<=i)(f:i<t.d3.length):(0<=(AA t.d3 i).hV/\(AA t.d3 i).hV<t.dl.length)/\(0<=(AA t.d3 i).To/\(AA t.d3 i).To<t.dl.length):=by
 have:=h.edge i d f
 grind [NA]
def MJ(t:AC)(a:Int):Bool:=decide (0<=a)&&decide (a<t.dl.length)
variable{a:Int}
theorem ND:MJ t a=X↔0<=a/\a<t.dl.length:=by unfold MJ;simp
theorem Zv(hf:Aq t)(l:Fp):HT t l=Y (if(A5 t).2≠0 then(A5 t).2 else if(l.all (MJ t))=X then 0 else 6):=by
 unfold HT;rw[Ol hf,bs,Rz (p:=λa=>!MJ t a) (λa _=>by unfold OP MJ;rw[show decide (a<0)=!decide (0<=a)from by rw[<-decide_not,decide_eq_decide];omega,show decide ((t.dl.length:Int)<=a)=!decide (a<t.dl.length)from by rw[<-decide_not,decide_eq_decide];omega,Bool.not_and]),bs]
 grind
theorem kK(hf:Aq t)(a b:Int):IS t a b=Y (if(A5 t).2≠0 then(A5 t).2 else if(MJ t a&&MJ t b)=X then 0 else 6):=by
 have d:=hf.ea;have e:∀a,decide (a<=(t.dl.length:Int)-1)=decide (a<(t.dl.length:Int)):=λa=>i?
 unfold IS EC;rw[Rp hf,bs]
 grind [Ar,A5,MJ]
theorem pG{α:Type}[Inhabited α]{l:List α}(d:0<=i)(f:i<l.length):BG l i (AA l i)=l:=by grind[BG,AA,A?,List.set_getElem_self]
theorem BJ{α:Type}[Inhabited α]{l:List α}(d:0<=i)(f:i<l.length):l.take (i+1).toNat=l.take i.toNat++[AA l i]:=by
 unfold AA;rw[show(i+1).toNat=i.toNat+1 by omega,List.take_add_one,B_,A? U];rfl
theorem BT{α:Type}{l:List α}(h:l.length<=AY):Am [] l=Y l:=by grind[AV]
def H5(t:AC)(a:Int):List ke×Int:=if(A5 t).2≠0 then([],(A5 t).2)else if MJ t a=X then(BA t a,0)else([],6)
theorem TK(hf:Aq t)(a:Int):FR t a=Y (H5 t a):=by
 unfold FR H5;rw[Zv hf,bs];by_cases h:(A5 t).2=0
 .have j:=Cw h;have e:[a].all (MJ t)=MJ t a:=V
  rw [e];simp[h];cases hi:MJ t a
  .rfl
  .rw[a6 rfl,a6 rfl];have hr:=ND.1 hi;have C:=IE hf (v? _) j.par hr.2;have A:=O4 hf (v? _) j.par hr.2;rw[ac a!,j6 hf (v? _) j.par hr.1 hr.2,bs];obtain⟨s',B,rfl⟩:=R1 (f:=(λ(o:Int)(q:List ke)=>
 (idx q o).bind λu=>
 (slices_Clone_string u.pc).bind λw=>
 (idx q o).bind λd=>
 Y (BG q o (ke.mk d.kq d.Low d.z5 w)))) (λ_ s=>s=BA t a) (a:=0) (b:=(BA t a).length) (s:=BA t a) U rfl (λi s x y z=>by
     subst z;have:=(A _ (AI x y)).names;refine⟨BA t a,?_,rfl⟩;unfold slices_Clone_string;rw[AD x y,bs,BT a?,bs,bs];congr 1;exact pG x y)
   rw [B];rfl
 .simp[h,not_false_eq_true,decide_false]
theorem TL(hf:Aq t)(a:Int):FO t a=Y (H5 t a):=by
 unfold FO H5;rw[kK hf,bs];by_cases h:(A5 t).2=0
 .have d:=Cw h;rw[Bool.and_self];simp only[h,ne_eq,not_true_eq_false,if_false];cases hi:MJ t a
  .rfl
  .rw[a6 rfl,a6 rfl];have hr:=ND.1 hi;have q:=IE hf (v? _) d.par hr.2;have o:=O4 hf (v? _) d.par hr.2;rw[ac a!,kH hf (v? _) d.par hr.1 hr.2,bs];rw[Bo (λi=>(BA t a).take i.toNat) U V]
   .rw[bs,w_,B']
   .intro i f j;have:=(o _ (AI f j)).names;rw[AD f j,bs,BT a?,bs,AV (by rw[bk];simp;unfold AY;omega),BJ f j];rfl
 grind
theorem YG(h:Dw g):CA g=0:=by
 have:=h.ea;have:=h.eh;unfold CA;rw[ac U,ac,ac]
 .intro k;obtain⟨e,he,k⟩:=B!.1 k;have:=h.fit e he;simp[Tu,OE]at k;omega
 .intro k;obtain⟨n,d,k⟩:=B!.1 k;have:=h.kind n d;simp[OE]at k;omega
end Go.Sf.Sc
namespace Go.Sf.Sc
open Go Go.Sf
def Ko(t:AC):Nat->Int->Fp
 |0,_=>[]|n+1,a=>if a<0 then[]else a::Ko t n (par t a)
variable{t:AC}{k:Int}
theorem pi(f:FT t k):∀(n m:Nat)(a:Int),a<k->a<n->a<m->Ko t n a=Ko t m a
 |n,m,a,h,j,o=>by
  by_cases d:a<0
  .cases n<;>cases m<;>simp[Ko,d]
  .cases n with
   |zero=>omega|succ n=>
    cases m with
    |zero=>omega|succ m=>
     rw [Ko,Ko,ac d,ac d];have:=f a U h;rw[pi f n m (par t a) U U U]
theorem km(t:AC):∀(n:Nat)(a:Int),(Ko t n a).length<=n
 |0,_=>by simp[Ko]|n+1,a=>by
  rw [Ko];split
  .simp
  .have:=km t n (par t a);simp;omega
def HD(t:AC)(a b:Int):Bool:=(Ko t (a+1).toNat a).any λx=>decide (b=x)
theorem jr(f:t.dl.length<=12)(q:FT t t.dl.length):∀(n:Nat)(a:Int)(l:Fp),a<t.dl.length->a<n->l.length+n<=1000 ->
  ∃x,L8 (ρ:=Fp) (λ(d:Int×Fp)=>
 if (decide (0<=d.1))=X then
 (Am d.2 [d.1]).bind λh=>
 (idx t.dl d.1).bind λj=>
 Y (.next (j.t2,h))
 else
 Y (.brk (d.1,d.2))) (a,l) (.inl (x,l++Ko t n a))
 |0,a,l,o,u,_=>by
  refine ⟨a,.brk ?_⟩
  grind [Ko]
 |n+1,a,l,o,u,A=>by
  by_cases w:a<0
  .refine⟨a,.brk ?_⟩
   grind [Ko]
  .have y:=q a U o;obtain⟨x,z⟩:=jr f q n (par t a) (l++[a]) U U a_;refine⟨x,.next (s':=(par t a,l++[a])) ?_ ?_⟩
   .rw[a6 a_,AV b_,bs,AD U o];rfl
   grind [Ko,par]
variable{a b:Int}
theorem rF(h:Fv t)(ha:0<=a)(d:a<t.dl.length):La t a b=Y (HD t a b):=by
 have f:=h.ea;obtain⟨x,j⟩:=jr f h.par (a+1).toNat a [] d U a_;have o:=km t (a+1).toNat a;unfold La Nb;rw[j.eq,Br]
 grind [slices_Reverse_int,AY,Mb,HD]
theorem gL(d:FT t t.dl.length)(hb:0<=b):∀(n m:Nat)(a:Int),-1<=a->a<t.dl.length->a+1<n->a<m->D0 n t a b=Y ((Ko t m a).any λx=>decide (b=x))
 |0,_,_,_,_,_,_=>by omega|n+1,m,a,j,f,o,q=>by
  rw [D0];by_cases ha:a<0
  .rw[ac a_,ac a_];cases m<;>simp[Ko,ha]
  .cases m with
   |zero=>omega|succ m=>
    have h:=d a U f;rw[Ko,ac ha,List.any_cons,a6 (show decide (0<=a)=X by simp;omega),AD U f];simp;rw[show(AA t.dl a).t2=par t a from rfl,gL d hb n m (par t a) U U U U]
    grind
theorem WD(h:Fv t)(ha:0<=a)(d:a<t.dl.length)(hb:0<=b):Ha t a b=Y (HD t a b):=
 DK (a+2).toNat λn f=>gL h.par hb n (a+1).toNat a U d U U
def OA(t:AC)(e f g:Int):Bool:=
 decide ((A5 t).2=0)&&(MJ t f&&MJ t g)&&(decide (0<=e)&&decide (e<t.d3.length))&&(HD t f (AA t.d3 e).hV&&HD t g (AA t.d3 e).To)
theorem oH(hf:Aq t)(e f g:Int):Jt t e f g=Y (OA t e f g):=by
 unfold Jt OA;rw[Zv hf,bs,show[f,g].all (MJ t)=(MJ t f&&MJ t g)by simp];by_cases h:(A5 t).2=0
 .simp only[h,ne_eq,not_true_eq_false,if_false];have d:=Cw h;cases hi:(MJ t f&&MJ t g)
  .rfl
  .rw[ne,ND,ND]at hi;by_cases he:0<=e/\e<t.d3.length
   .rw[ac a_,AD he.1 he.2];simp[rF d hi.1.1 hi.1.2,rF d hi.2.1 hi.2.2,he.1,he.2,decide_true]
    grind
   grind
 .simp[h]
theorem oc(hf:Aq t)(e f g:Int):Ji t e f g=Y (OA t e f g):=by
 have u:=hf.eh;unfold Ji OA EC;rw[kK hf,bs];by_cases h:(A5 t).2=0
 .simp only[h,ne_eq,not_true_eq_false,if_false];have d:=Cw h;cases hi:(MJ t f&&MJ t g)
  .rfl
  .rw[ne,ND,ND]at hi;rw[Ar U U];simp only[bs];by_cases he:0<=e/\e<t.d3.length
   .have j:=d.ends he.1 he.2;have o:e<=(t.d3.length:Int)-1:=U
    rw [ac V,bs,ac (by simp[he.1,o]),AD he.1 he.2];simp[WD d hi.1.1 hi.1.2 j.1.1,WD d hi.2.1 hi.2.2 j.2.1,he.1,he.2,decide_true];cases HD t f (AA t.d3 e).hV<;>rfl
   .have:(decide (0<=e)&&decide (e<t.d3.length))=T:=by rw[z!];simpa using he
    have q:(decide (0<=e)&&decide (e<=(t.d3.length:Int)-1))=T:=f_
    rw [this,q];simp
 .simp[h]
def Pm(n:Int)(x:gl):Bool:=(((decide ((-1)<=x.Var))&&(decide (x.Var<n)))&&(decide ((-1000000)<=x.Add)))&&(decide (x.Add<=1000000))
def Qf(n:Int)(x:Test):Int:=if¬x.jj=1/\¬x.jj=2 then 1 else if(Pm n x.fu&&Pm n x.ec)=X then 0 else 6
def Lp(n:Int)(l:List Test):Int:=if n<0\/12<n then 6 else if 40<l.length then 3 else(fst (λi=>nz (Qf n (AA l i))) 0 l.length).getD 0
theorem yK(n:Int)(x:Test):KZ n x=Y (Qf n x):=by
 unfold KZ Qf;simp only[show∀n x,JX n x=Y (Pm n x)from λ_ _=>rfl,bs];generalize Pm n x.fu=b1;generalize Pm n x.ec=b2;cases b1<;>cases b2
 all_goals
  simp only[bs,sA,x?,ne,y_,decide_eq_false_iff_not,y!,y?,z_,ne_eq]
  repeat' (first|rfl|(exfalso;omega;done)|split)
  all_goals (first|rfl|(exfalso;omega)|omega|simp_all|(simp_all;omega))
theorem rY(n:Int)(x:gl):Kf n x=Y (if Pm n x=X then 0 else 6):=by
 unfold Kf Pm;simp only[bs,sA,x?,ne,y_,decide_eq_false_iff_not,y!,y?,z_,ne_eq]
 repeat' (first|rfl|(exfalso;omega;done)|split)
 all_goals (first|rfl|(exfalso;omega)|omega|simp_all|(simp_all;omega))
theorem yf(n:Int)(x:Test):Qr n x=Y (Qf n x):=by
 unfold Qr Qf;simp only[rY,bs];generalize Pm n x.fu=b1;generalize Pm n x.ec=b2;cases b1<;>cases b2
 all_goals
  simp only[bs,sA,x?,ne,y_,decide_eq_false_iff_not,y!,y?,z_,ne_eq]
  repeat' (first|rfl|(exfalso;omega;done)|split)
  all_goals (first|rfl|(exfalso;omega)|omega|simp_all|(simp_all;omega))
theorem vR(n:Int)(l:List Test):Iq n l=Y (Lp n l):=by
 unfold Iq Lp;rw[Bz (λi=>nz (Qf n (AA l i))),C8]
 .simp only[bs,sA,x?,ne,y_,decide_eq_false_iff_not,y!,y?,z_,ne_eq]
  repeat' (first|rfl|(exfalso;omega;done)|split)
  all_goals (first|rfl|(exfalso;omega)|omega|simp_all|(simp_all;omega))
 .intro i d f _;rw[AD d f,bs,yK,bs,Ns]
theorem vk(n:Int)(l:List Test):Nw n l=Y (Lp n l):=by
 unfold Nw Lp;rw[Bz (λi=>nz (Qf n (AA l i))),C8]
 .simp only[bs,sA,x?,ne,y_,decide_eq_false_iff_not,y!,y?,z_,ne_eq]
  repeat' (first|rfl|(exfalso;omega;done)|split)
  all_goals (first|rfl|(exfalso;omega)|omega|simp_all|(simp_all;omega))
 .intro i d f _;rw[AD d f,bs,yf,bs,Ns]
def Tg(t:AC)(p:d7)(node ix:Int):ke×Bool:=
 if node<0\/p.dr.dl.length<=node then(default,T)else
 let l:=(H5 t (AA p.dr.dl node)).1
 if ix<0\/l.length<=ix then(default,T)else(AA l ix,X)
theorem Xt(hf:Aq t)(a:Int):(H5 t a).1.length<=600/\((H5 t a).2≠0->(H5 t a).1=[]):=by
 unfold H5;split
 .simp
 .rename_i h;have d:=Cw (t:=t) U;split
  next hi=>exact⟨IE hf (v? _) d.par (ND.1 hi).2,V⟩
  .simp
variable{p:d7}
theorem vA(hf:Aq t)(d:Dw p.dr)(s:Cu):Gy t p s=Y (Tg t p s.o3 s.ke):=by
 have j:=d.ea;unfold Gy Tg C5;dsimp only;rw[Ar U U,bs];by_cases h:s.o3<0\/p.dr.dl.length<=s.o3
 .rw[a6 a_,a6 h];rfl
 .rw[ac a_,ac h,AD U U,bs,TK hf,bs];have o:=(Xt hf (AA p.dr.dl s.o3)).1;rw[Ar U U,bs];by_cases f:s.ke<0\/(H5 t (AA p.dr.dl s.o3)).1.length<=s.ke
  .rw[a6 a_,a6 f];rfl
  grind [AD]
theorem vV(hf:Aq t)(node d:Int):LN t p node d=Y (Tg t p node d):=by
 unfold LN Tg;dsimp only;by_cases h:node<0\/p.dr.dl.length<=node
 .rw[a6 a_,a6 h];rfl
 .rw[ac a_,ac h,AD U U,bs,TL hf,bs];have j:=(Xt hf (AA p.dr.dl node)).2;by_cases f:d<0\/(H5 t (AA p.dr.dl node)).1.length<=d
  .rw[a6 a_,a6 f];rfl
  grind [H5,AA,AD]
end Go.Sf.Sc
namespace Go.Sf
variable{σ ρ:Type}
def Y0(s:σ)(o:Option ρ):B5 σ ρ:=match o with
 |none=>.next s|some r=>.ret r
def iG(s:σ)(o:Option ρ):σ ⊕ ρ:=match o with
 |none=>.inl s|some r=>.inr r
theorem eH{f:Int->σ->Option (B5 σ ρ)}(g:Int->σ)(c:Int->Option ρ):∀(n:Nat)(a:Int),
  (∀i,a<=i->i<a+n->(∀j,a<=j->j<i->c j=W)->f i (g i)=Y (Y0 (g (i+1)) (c i)))->tn f n a (g a)=Y (iG (g (a+n)) (ER c n a))
 |0,a,_=>by simp[tn,ER,iG]|n+1,a,h=>by
  have q:=h a (v? _) U (λj d o=>U);rw[Ek,q,ER];cases y:c a with
  |some r=>rfl|none=>
   simp only[Y0];rw[show a+((n+1:Nat):Int)=a+1+n by omega];refine eH g c n (a+1) (λi d o u=>h i U U (λj w x=>?_))
   grind
variable{a b:Int}
theorem EN{f:Int->σ->Option (B5 σ ρ)}(g:Int->σ)(c:Int->Option ρ){s:σ}(d:a<=b)(o:s=g a)(h:∀i,a<=i->i<b->(∀j,a<=j->j<i->c j=W)->f i (g i)=Y (Y0 (g (i+1)) (c i))):gt f a b s=Y (iG (g b) (fst c a b)):=by
 subst o;unfold gt fst;have:=eH g c (b-a).toNat a (λi q w u=>h i q U u)
 grind
variable{α:Type}
variable{e:Int}
theorem EM{ζ:QQ}{δ:Int}(h:e=0->ζ=Y δ):(if(!decide (e=0))=X then Y e else ζ)=Y (if e≠0 then e else δ):=m?
variable{v:α}{ζ:Option α}{δ:α}
theorem Ds(h:e=0->ζ=Y δ):(if(!decide (e=0))=X then Y v else ζ)=Y (if e≠0 then v else δ):=m?
variable{P:Prop}
theorem Qj[Decidable P]{b:Bool}(hb:b=X↔P)(h:¬P->ζ=Y δ):(if b=X then Y v else ζ)=Y (if P then v else δ):=m?
theorem Xy{b:Bool}(h:b=X->ζ=Y δ):(if(!b)=X then Y v else ζ)=Y (if b=T then v else δ):=m?
theorem de{b:Bool}(h:b=T->ζ=Y δ):(if b=X then Y v else ζ)=Y (if b=X then v else δ):=m?
end Go.Sf
namespace Go.Sf.Sc
open Go Go.Sf
def Tj(t:AC)(p:d7)(s:Cu):Bool:=!(Tg t p s.o3 s.ke).2||decide (s.gl.Var< -1)||decide (p.ey<=s.gl.Var)||(decide (s.gl.Add< -1000000)||decide (1000000<s.gl.Add))
def Mg(p:d7)(v:Int):Bool:=p.ek.any λs=>decide (s.gl.Var=v)
def JF(t:AC)(p:d7):Int:=
 if (A5 t).2≠0 then(A5 t).2 else if CA p.dr≠0 then CA p.dr else if DO t p.dr=T then 13 else
 if p.ey<0\/12<p.ey then 6 else if 10<p.ek.length\/10<p.j4.length then 3 else
 if (p.ek.any (Tj t p))=X then 6 else if Lp p.ey p.j4≠0 then Lp p.ey p.j4 else
 if kl (λv=>!Mg p v) 0 p.ey=X then 9 else 0
def Lc(p:d7)(i:Int):a5:=(List.range p.ey.toNat).map λ(v:Nat)=>(p.ek.take i.toNat).any λs=>decide (s.gl.Var=(v:Int))
variable{p:d7}
theorem m9:Lc p 0=List.replicate p.ey.toNat T:=by
 unfold Lc;refine B? V (λn d f=>V)
theorem pk(p:d7)(i:Int):(Lc p i).length=p.ey.toNat:=by simp[Lc]
variable{i:Int}
theorem pu(d:0<=i)(f:i<p.ek.length)(hv:0<=(AA p.ek i).gl.Var):BG (Lc p i) (AA p.ek i).gl.Var X=Lc p (i+1):=by
 unfold BG;refine B? (by simp[Lc]) (λn h j=>?_);simp[Lc,BJ d f]
 grind
theorem m8(d:0<=i)(f:i<p.ek.length)(hv:(AA p.ek i).gl.Var<0):Lc p i=Lc p (i+1):=by
 refine B? (by simp[Lc]) (λn h j=>?_);simp[Lc,BJ d f]
 grind
theorem pj(p:d7):((Lc p p.ek.length).any λx=>T==x)=kl (λv=>!Mg p v) 0 p.ey:=by
 rw [w?,B!,EU];simp only[Lc,w_,B',C_,List.mem_range];constructor
 .rintro⟨x,⟨v,hv,rfl⟩,d⟩;refine⟨v,U,U,?_⟩
  grind [Mg]
 .rintro⟨v,f,h,d⟩;refine⟨_,⟨v.toNat,U,rfl⟩,?_⟩
  grind [Int.toNat_of_nonneg,Mg]
theorem jk{α ρ:Type}[Inhabited α]{l:List α}{q:α->Bool}{v:ρ}:fst (λi=>if q (AA l i)=X then Y v else W) 0 l.length=if l.any q=X then Y v else W:=by
 rw [Og,Ip]
variable{t:AC}
theorem Yh(hf:Aq t)(p:d7):Do t p=Y (JF t p):=by
 unfold Do JF;rw[Ol hf,bs,NJ,bs];refine EM λE=>EM λC=>?_;have w:=Df C;have e:((A4 p.dr.dl (λd=>H0 d t)).bind λj=>
   (if j=X then Y X else((Bm p.dr.d3 (λd=>H4 d t)).bind λo=>Y (o))))=Y (!DO t p.dr):=by
  unfold DO;rw[show(λd=>H0 d t)=(λ(n:Int)=>Y (decide (t.dl.length<=n)))from rfl,dc,show(λd=>H4 d t)=(λ(e:CC)=>Y (decide (t.d3.length<=e.ia)))from rfl,jR];simp only[bs];cases p.dr.dl.any λn=>decide (t.dl.length<=n)<;>simp
 rw [<-v_,e,bs];refine Xy λD=>?_;unfold C5;simp only[bs];refine Qj i! λhv=>Qj i! λF=>?_;unfold Hl;rw[a6 U,bs,<-m9,Ar (show -9223372036854775808<=p.ey-1 by omega) U,EN (Lc p) (λi=>if Tj t p (AA p.ek i)=X then Y 6 else W) U rfl,jk]
 .cases hb:p.ek.any (Tj t p)
  .simp only[x!,if_false,iG,Br,vR,bs,uX,pj];by_cases f:Lp p.ey p.j4=0
   .simp[f];cases kl (λv=>!Mg p v) 0 p.ey<;>rfl
   .simp[f]
  .rfl
 .intro i q u _;rw[AD q u,bs,vA hf w,bs];unfold Tj;by_cases hb:(Tg t p (AA p.ek i).o3 (AA p.ek i).ke).2=X
  .by_cases B:(AA p.ek i).gl.Var< -1\/p.ey<=(AA p.ek i).gl.Var
   .have x:(decide (-1<=(AA p.ek i).gl.Var)&&decide ((AA p.ek i).gl.Var<=p.ey-1))=T:=f_
    have y:(decide ((AA p.ek i).gl.Var< -1)||decide (p.ey<=(AA p.ek i).gl.Var))=X:=a_
    rw [hb,x,A' (!X),y];rfl
   .have x:(decide (-1<=(AA p.ek i).gl.Var)&&decide ((AA p.ek i).gl.Var<=p.ey-1))=X:=a_
    have y:(decide ((AA p.ek i).gl.Var< -1)||decide (p.ey<=(AA p.ek i).gl.Var))=T:=f_
    rw [hb,x,A' (!X),y];by_cases ha:(AA p.ek i).gl.Add< -1000000\/1000000<(AA p.ek i).gl.Add
    .have z:(decide (-1000000<=(AA p.ek i).gl.Add)&&decide ((AA p.ek i).gl.Add<=1000000))=T:=f_
     have A:(decide ((AA p.ek i).gl.Add< -1000000)||decide (1000000<(AA p.ek i).gl.Add))=X:=a_
     rw [z,A];rfl
    .have z:(decide (-1000000<=(AA p.ek i).gl.Add)&&decide ((AA p.ek i).gl.Add<=1000000))=X:=a_
     have A:(decide ((AA p.ek i).gl.Add< -1000000)||decide (1000000<(AA p.ek i).gl.Add))=T:=f_
     rw [z,A];by_cases h:0<=(AA p.ek i).gl.Var
     .simp[h,decide_true];rw[AD h (by rw[pk];omega),bs,pu q u h];rfl
     .simp[h,decide_false];rw[m8 q u U];rfl
  .rw[A_]at hb;rw[hb];rfl
theorem t6(p:d7)(v:Int):Mn p v=Y (Mg p v):=by
 unfold Mn Mg;rw[BZ (λi=>decide ((AA p.ek i).gl.Var=v)) X,Ip]
 .cases kl (λi=>decide ((AA p.ek i).gl.Var=v)) 0 p.ek.length<;>rfl
 .intro i d f _;rw[AD d f,bs,JE]
theorem dA(hf:Aq t)(p:d7):GE t p=Y (JF t p):=by
 unfold GE JF;rw[Rp hf,bs,Om,bs];refine EM λu=>EM λo=>?_;have f:=Df o;rw[Zz f,bs];refine Xy λq=>Qj i! λhv=>Qj i! λw=>?_;rw[BZ (λi=>Tj t p (AA p.ek i)) 6,<-Ip]
 .cases hb:p.ek.any (Tj t p)
  .simp only[x!,if_false,Br,vk,bs];by_cases d:Lp p.ey p.j4=0
   .simp only[d];rw[BZ (λv=>!Mg p v) 9]
    .cases kl (λv=>!Mg p v) 0 p.ey<;>rfl
    .intro i h j _;rw[t6,bs,JE]
   .simp[d]
  .rfl
 .intro i h j _;rw[AD h j,bs,vV hf,bs];unfold Tj OH
  grind
def Qc(t:AC)(p:d7)(i:Int):Int:=
 let s:=AA p.ek i
 if s.o3<0\/p.dr.dl.length<=s.o3 then 6 else
 let l:=(H5 t (AA p.dr.dl s.o3)).1
 if ((((((decide (s.ke<0))||(decide ((l.length:Int)<=s.ke)))||(decide (s.gl.Var<(-1))))||(decide (p.ey<=s.gl.Var)))||(decide (s.gl.Add<(-1000000))))||(decide (1000000<s.gl.Add)))=X then 6 else
 if kl (λj=>(decide ((AA p.ek j).o3=s.o3))&&(decide ((AA p.ek j).ke=s.ke))) 0 i=X then 5 else 0
theorem yJ(hf:Aq t)(r:eg)(d:0<=i)(f:i<r.ec.ek.length):Mw t r i=Y (Qc t r.ec i):=by
 unfold Mw Qc;dsimp only;rw[AD d f,bs];refine Qj V λh=>?_;rw[AD U U,bs,TK hf,bs,Hw d U,bs,
  show (λj=>Qb j (AA r.ec.ek i))=(λy=>Y ((decide (y.o3=(AA r.ec.ek i).o3))&&(decide (y.ke=(AA r.ec.ek i).ke))))from rfl,jS,bs,Rw d U]
 grind
theorem yc(hf:Aq t)(p:d7)(d:0<=i)(f:i<p.ek.length):LP t p i=Y (Qc t p i):=by
 unfold LP Qc;dsimp only;rw[AD d f,bs];refine Qj V λh=>?_;rw[AD U U,bs,TL hf,bs,
  BZ (λj=>(decide ((AA p.ek j).o3=(AA p.ek i).o3))&&(decide ((AA p.ek j).ke=(AA p.ek i).ke))) 5]
 .refine de λ_=>?_;cases kl (λj=>(decide ((AA p.ek j).o3=(AA p.ek i).o3))&&(decide ((AA p.ek j).ke=(AA p.ek i).ke))) 0 i<;>rfl
 grind [AD,AA,ke]
def Ll(t:AC)(r:eg):Int:=
 if CA r.ec.dr≠0 then CA r.ec.dr else if DO t r.ec.dr=T then 13 else
 if r.ec.ey≠r.fu.ey\/0<r.ec.j4.length then 1 else if 10<r.ec.ek.length then 3 else
 (fst (λi=>nz (Qc t r.ec i)) 0 r.ec.ek.length).getD 0
theorem vL(hf:Aq t)(r:eg):LR t r=Y (Ll t r):=by
 unfold LR Ll;rw[NJ,bs,vS,bs,Bz (λi=>nz (Qc t r.ec i)),C8]
 .grind
 grind [yJ,Ns]
theorem ve(hf:Aq t)(r:eg):KF t r=Y (Ll t r):=by
 unfold KF Ll;rw[Om,bs];refine EM λd=>?_;rw[Zz (Df d),bs,Bz (λi=>nz (Qc t r.ec i)),C8]
 .grind
 grind [yc,Ns]
end Go.Sf.Sc
namespace Go.Sf
variable{a b:Int}
theorem lg{ρ:Type}{c d:Int->Option ρ}(h:∀i,c i=d i):fst c a b=fst d a b:=by rw[funext h]
def DY(l:Fp)(v:Int):Int:=(fst (λi=>if decide (v=AA l i)=X then Y i else W) 0 l.length).getD (-1)
variable{l:Fp}
theorem JH{v:Int}(h:v∈l):0<=DY l v/\DY l v<l.length/\AA l (DY l v)=v/\∀j,0<=j->j<DY l v->AA l j≠v:=by
 unfold DY;cases hf:fst (λi=>if decide (v=AA l i)=X then Y i else W) 0 l.length with
 |none=>
  grind [BW,BU]
 |some k=>
  grind [CQ,AA]
variable{R:Int->Int->Prop}
theorem Nu(h:l.Pairwise R){i j:Int}(d:0<=i)(f:i<j)(o:j<l.length):R (AA l i) (AA l j):=by grind[C',AA,A?]
theorem WQ(h:∀i j:Int,0<=i->i<j->j<l.length->R (AA l i) (AA l j)):l.Pairwise R:=by
 refine C'.2 (λi j d f o=>?_);have:=h i j U U U;unfold AA at this
 grind
theorem Wu(u:l.Pairwise (·<·)){v:Int}(h:v∈l):(l.countP (λx=>decide (x<v)):Int)=DY l v:=by
 obtain ⟨w,y,o,_⟩:=JH h;generalize C:DY l v=k at w y o;have e:l=l.take k.toNat++l.drop k.toNat:=(List.take_append_drop _ _).symm;have z:(l.take k.toNat).countP (λx=>decide (x<v))=k.toNat:=by
  rw [List.countP_eq_length.2 (λx d=>?_),bk]
  .omega
  .obtain⟨i,i1,i2,rfl⟩:=BW d;rw[bk]at i2;rw[t5 U,sA,<-o];exact Nu u i1 U y
 have A:(l.drop k.toNat).countP (λx=>decide (x<v))=0:=by
  rw [List.countP_eq_zero];intro x d;obtain⟨n,q⟩:=List.getElem?_of_mem d;rw[List.getElem?_drop]at q;have B:=(List.getElem?_eq_some_iff.1 q).1;have f:x=AA l (k+n):=by
   unfold AA;rw[B_,show(k+(n:Int)).toNat=k.toNat+n by omega,q];rfl
  rw [sA,f,<-o];by_cases j:n=0
  .subst j;simp
  .have:=Nu u w (show k<k+(n:Int)by omega) U;omega
 rw [e,List.countP_append,z,A];omega
end Go.Sf
namespace Go.Sf.Sc
open Go Go.Sf
theorem um(l:Fp)(n:Int):(ei (gt (ρ:=Int) (λ(h:Int)(_:Unit)=>
 (idx l h).bind λd=>
 if (decide (d=n))=X then
 Y (.ret h)
 else
 Y (.next ())) 0 (l.length:Int) ()) (λ_=>
 Y (-1)) (λj=>Y j))=Y (DY l n):=by
 have:=W6 (l:=l) (f:=λx=>Y (decide (x=n))) (p:=λx=>decide (x=n)) (λ_ _=>rfl);simp only[bs]at this;rw[this];unfold DY;congr 2;exact lg λi=>by simp[eq_comm]
theorem yY(l:Fp)(v:Int):J8 l v=Y (DY l v):=um l v
def hasB(l:Fp)(v:Int):Bool:=l.any λx=>decide (v=x)
variable{l:Fp}
theorem CF{v:Int}:hasB l v=X↔v∈l:=by
 unfold hasB
 grind
theorem LD(l:Fp)(n:Int):(ei (gt (ρ:=Bool) (λ(f:Int)(_:Unit)=>
 (idx l f).bind λd=>
 if (decide (d=n))=X then
 Y (.ret X)
 else
 Y (.next ())) 0 (l.length:Int) ()) (λ_=>
 Y T) (λh=>Y h))=Y (hasB l n):=by
 unfold hasB;rw[BZ (λi=>decide (n=AA l i)) X,Ip]
 .cases kl (λi=>decide (n=AA l i)) 0 l.length<;>rfl
 .intro i j o _;rw[AD j o,bs,JE];simp[eq_comm]
theorem va(l:Fp)(v:Int):So l v=Y (hasB l v):=LD l v
theorem vZ(l:Fp)(v:Int):Qs l v=Y (hasB l v):=LD l v
def Rx(l:Fp)(n:Int):Int:=(fst (λi=>if AA l i<0\/n<=AA l i then Y 6 else if 0<i/\AA l i<=AA l (i-1)then Y 12 else W) 0 l.length).getD 0
theorem tj(q:l.length<=1000)(n:Int):JO l n=Y (Rx l n):=by
 unfold JO Rx;rw[Bz (λi=>if AA l i<0\/n<=AA l i then Y 6 else if 0<i/\AA l i<=AA l (i-1)then Y 12 else W),C8];intro i j o _;rw[AD j o,bs];by_cases h:AA l i<0\/n<=AA l i
 .rw[a6 c?,a6 h];rfl
 .rw[ac c?,ac h];by_cases d:0<i
  .rw[a6 c!,Ar U U,AD U U,bs,bs];by_cases f:AA l i<=AA l (i-1)
   .rw[a6 d?,a6 ⟨d,f⟩];rfl
   .rw[ac d?,ac (λh=>f h.2)];rfl
  .rw[ac c!,bs,ac a!,ac (λh=>d h.1)];rfl
theorem tw(u:l.length<=1000)(n:Int):Ho l n=Y (Rx l n):=by
 unfold Ho Rx;rw[Bz (λi=>if AA l i<0\/n<=AA l i then Y 6 else if 0<i/\AA l i<=AA l (i-1)then Y 12 else W),C8];intro i j o _;rw[AD j o];simp only[bs];by_cases h:AA l i<0\/n<=AA l i
 .have:(if decide (AA l i<0)=X then Y X else Y (decide (n<=AA l i)))=Y X:=by
   rcases h with h|h
   .simp[h]
   .by_cases q:AA l i<0<;>simp[h,q]
  rw [this,bs,a6 rfl,a6 h];rfl
 .have:(if decide (AA l i<0)=X then Y X else Y (decide (n<=AA l i)))=Y T:=by
   rw [ac a_,decide_eq_false U]
  rw [this,bs,ac a!,ac h];by_cases d:0<i
  .rw[a6 c!,Ar U U,AD U U,bs,bs];by_cases f:AA l i<=AA l (i-1)
   .rw[a6 d?,a6 ⟨d,f⟩];rfl
   .rw[ac d?,ac (λh=>f h.2)];rfl
  .rw[ac c!,bs,ac a!,ac (λh=>d h.1)];rfl
variable{a b:Int}
theorem SX{c:Int->QQ}(d:∀i,c i≠Y 0)(h:(fst c a b).getD 0=0):∀i,a<=i->i<b->c i=W:=by
 have:fst c a b=W:=by
  cases hf:fst c a b with
  |none=>rfl|some r=>
   grind [v5,CQ]
 exact BU.1 this
variable{n:Int}
theorem Ut(h:Rx l n=0):(∀x∈l,0<=x/\x<n)/\l.Pairwise (·<·):=by
 have y:=SX (c:=λi=>if AA l i<0\/n<=AA l i then Y 6 else if 0<i/\AA l i<=AA l (i-1)then Y 12 else W) (λi=>by
  split
  .simp
  .split<;>simp) h
 have f:∀i:Int,0<=i->i<l.length->(0<=AA l i/\AA l i<n)/\(0<i->AA l (i-1)<AA l i):=by
  intro i o w;have:=y i o w;split at this
  .cases this
  .split at this
   .cases this
   .omega
 refine ⟨λx q=>?_,WQ (λi j o d u=>?_)⟩
 .obtain⟨i,i1,i2,rfl⟩:=BW q;exact(f i i1 i2).1
 .obtain⟨k,z⟩:∃k:Nat,j=i+1+k:=⟨(j-i-1).toNat,U⟩;subst z;clear d
  induction k with
  |zero=>
   have:=(f (i+1) U U).2 U;rw[show i+1-1=i by omega]at this;simpa using this
  |succ k A=>
   have a:=A U;have b:=(f (i+1+((k+1:Nat):Int)) U u).2 U;rw[show i+1+((k+1:Nat):Int)-1=i+1+k by omega]at b;omega
theorem UJ(f:l.length<=1000)(d:l.Pairwise (·<·))(v:Int):slices_BinarySearch_int l v=Y (((l.countP (λx=>decide (x<v)):Nat):Int),hasB l v):=by
 unfold slices_BinarySearch_int;rw[a6 ⟨a?,d.imp (λh=>U)⟩];congr 2;rw[w?,CF,List.contains_iff_mem]
def QP(g:dr)(p:BC):Int:=
 if Rx p.dl g.dl.length≠0 then Rx p.dl g.dl.length else if Rx p.d3 g.d3.length≠0 then Rx p.d3 g.d3.length else
 (fst (λi=>if(hasB p.dl (AA g.d3 (AA p.d3 i)).hV&&hasB p.dl (AA g.d3 (AA p.d3 i)).To)=X then W else Y 14) 0 p.d3.length).getD 0
structure dK(g:dr)(p:BC):Prop where
 ea:(∀x∈p.dl,0<=x/\x<g.dl.length)/\p.dl.Pairwise (·<·)
 eh:(∀x∈p.d3,0<=x/\x<g.d3.length)/\p.d3.Pairwise (·<·)
 ends:∀x∈p.d3,(AA g.d3 x).hV∈p.dl/\(AA g.d3 x).To∈p.dl
variable{g:dr}
theorem VU{p:BC}(h:QP g p=0):dK g p:=by
 unfold QP at h;split at h
 .omega
 .split at h
  .omega
  .rename_i f j;refine⟨Ut U,Ut U,λx d=>?_⟩;obtain⟨i,i1,i2,rfl⟩:=BW d;have:=SX (c:=λi=>if(hasB p.dl (AA g.d3 (AA p.d3 i)).hV&&hasB p.dl (AA g.d3 (AA p.d3 i)).To)=X then W else Y 14) (λi=>by
    split<;>simp) h i i1 i2
   split at this
   next hb=>rw[ne,CF,CF]at hb;exact hb
   .cases this
def FX(g:dr)(p:BC):Int:=if CA g≠0 then CA g else QP g p
structure Sv(p:BC):Prop where
 ea:p.dl.length<=1000
 eh:p.d3.length<=1000
theorem kC{p:BC}(d:Sv p):F5 g p=Y (FX g p):=by
 unfold F5 FX;rw[NJ,bs];refine EM λf=>?_;have o:=Df f;unfold OO QP;rw[tj d.ea,bs,tj d.eh,bs,v!];refine EM λh=>EM λj=>?_;obtain⟨a1,q⟩:=Ut h;obtain⟨u,w⟩:=Ut j;rw[Bz (λi=>if(hasB p.dl (AA g.d3 (AA p.d3 i)).hV&&hasB p.dl (AA g.d3 (AA p.d3 i)).To)=X then W else Y 14),C8];intro i i1 i2 _;have hb:=u _ (AI i1 i2);unfold M1;rw[AD i1 i2,bs,AD hb.1 hb.2];simp[UJ d.ea q];cases hasB p.dl (AA g.d3 (AA p.d3 i)).hV<;>cases hasB p.dl (AA g.d3 (AA p.d3 i)).To<;>rfl
theorem Zy{p:BC}(d:Sv p):J7 g p=Y (FX g p):=by
 unfold J7 FX;rw[Om,bs];refine EM λf=>?_;have j:=Df f;unfold QU QP;rw[tw d.ea,bs,tw d.eh,bs,v!];refine EM λq=>EM λh=>?_;obtain⟨o,u⟩:=Ut h;rw[Bz (λi=>if(hasB p.dl (AA g.d3 (AA p.d3 i)).hV&&hasB p.dl (AA g.d3 (AA p.d3 i)).To)=X then W else Y 14),C8];intro i i1 i2 _;have hb:=o _ (AI i1 i2);rw[AD i1 i2,bs,AD hb.1 hb.2];simp[vZ];cases hasB p.dl (AA g.d3 (AA p.d3 i)).hV<;>cases hasB p.dl (AA g.d3 (AA p.d3 i)).To<;>rfl
def PY(g:dr)(p:BC):dr:=⟨p.dl.map (AA g.dl),p.d3.map λx=>⟨(AA g.d3 x).ia,DY p.dl (AA g.d3 x).hV,DY p.dl (AA g.d3 x).To⟩⟩
variable{i:Int}
theorem JI{α:Type}{f:Int->α}(d:0<=i)(h:i<l.length):(l.take (i+1).toNat).map f=(l.take i.toNat).map f++[f (AA l i)]:=by grind[BJ]
theorem Tz(w:l.length<=1000)(h:∀x∈l,0<=x/\x<g.dl.length)(es:List CC):(ls (λ(u:Int)(o:dr)=>
 (idx l u).bind λd=>
 (idx g.dl d).bind λf=>
 (Am o.dl [f]).bind λj=>
 Y (dr.mk j o.d3)) 0 (l.length:Int) (dr.mk [] es))=Y (dr.mk (l.map (AA g.dl)) es):=by
 rw [Bo (λi=>dr.mk ((l.take i.toNat).map (AA g.dl)) es) U V]
 .rw[w_,B']
 .intro i i1 i2;have q:=h _ (AI i1 i2);rw[AD i1 i2,bs,AD q.1 q.2,bs,AV b_,bs,JI i1 i2]
theorem YH(y:l.length<=1000)(h:∀x∈l,0<=x/\x<g.d3.length)(ns:Fp)(F:CC->CC){f:CC->List CC->Option (List CC)}(hf:∀x∈l,∀s,s.length<=1000->f (AA g.d3 x) s=Y (s++[F (AA g.d3 x)])):(ls (λ(w:Int)(q:dr)=>
 (idx l w).bind λd=>
 (idx g.d3 d).bind λj=>
 (f j q.d3).bind λo=>
 Y (dr.mk q.dl o)) 0 (l.length:Int) (dr.mk ns []))=Y (dr.mk ns (l.map λx=>F (AA g.d3 x))):=by
 rw [Bo (λi=>dr.mk ns ((l.take i.toNat).map λx=>F (AA g.d3 x))) U V]
 .rw[w_,B']
 .intro i i1 i2;have u:=h _ (AI i1 i2);rw[AD i1 i2,bs,AD u.1 u.2,bs,hf _ (AI i1 i2) _ a_,bs,JI i1 i2]
theorem oG{p:BC}(d:Sv p):Fu g p=Y (if FX g p≠0 then(⟨[],[]⟩,⟨[],[]⟩,FX g p)else(PY g p,⟨p.dl,p.d3⟩,0)):=by
 unfold Fu;rw[kC d,bs];refine Ds λh=>?_;have w:CA g=0/\QP g p=0:=by
  grind [FX]
 have ho:=VU w.2;rw[Tz d.ea ho.ea.1,bs];have:=YH (g:=g) (l:=p.d3) d.eh ho.eh.1 (p.dl.map (AA g.dl)) (λx=>⟨x.ia,DY p.dl x.hV,DY p.dl x.To⟩) (f:=λj s=>
  (slices_BinarySearch_int p.dl j.hV).bind λo=>
  (slices_BinarySearch_int p.dl j.To).bind λq=>
  Am s [CC.mk j.ia o.1 q.1]) (λx u s y=>by
   have he:=ho.ends x u;rw[UJ d.ea ho.ea.2,bs,UJ d.ea ho.ea.2,bs,AV b_,Wu ho.ea.2 he.1,Wu ho.ea.2 he.2])
 simp [v_]at this;rw[this,bs];unfold slices_Clone_int;have z:=d.ea;have A:=d.eh;rw[BT a?,bs,BT a?];rfl
theorem bQ{p:BC}(j:Sv p):JJ g p=Y (if FX g p≠0 then(⟨[],[]⟩,⟨[],[]⟩,FX g p)else(PY g p,⟨p.dl,p.d3⟩,0)):=by
 unfold JJ;rw[Zy j,bs];refine Ds λh=>?_;have u:CA g=0/\QP g p=0:=by
  grind [FX]
 have ho:=VU u.2;rw[Tz j.ea ho.ea.1,bs];have:=YH (g:=g) (l:=p.d3) j.eh ho.eh.1 (p.dl.map (AA g.dl)) (λx=>⟨x.ia,DY p.dl x.hV,DY p.dl x.To⟩) (f:=λd s=>
  (J8 p.dl d.hV).bind λo=>
  (J8 p.dl d.To).bind λq=>
  Am s [CC.mk d.ia o q]) (λx w s y=>by
   grind [yY,AV,AY])
 simp [v_]at this;rw[this,bs];have z:=j.ea;have A:=j.eh;rw[BT a?,bs,BT a?];rfl
end Go.Sf.Sc
namespace Go.Sf.Sc
open Go Go.Sf
def Nr(a b:dr)(m:d4)(i:Int):QQ:=
 if AA m.dl i<0\/b.dl.length<=AA m.dl i then Y 6 else if AA b.dl (AA m.dl i)≠AA a.dl i then Y 13 else W
def HZ(a b:dr)(m:d4)(i:Int):QQ:=
 if AA m.d3 i<0\/b.d3.length<=AA m.d3 i then Y 6 else
 if (AA a.d3 i).ia≠(AA b.d3 (AA m.d3 i)).ia then Y 13 else
 if AA m.dl (AA a.d3 i).hV≠(AA b.d3 (AA m.d3 i)).hV\/AA m.dl (AA a.d3 i).To≠(AA b.d3 (AA m.d3 i)).To then Y 11 else W
def Ke(a b:dr)(m:d4):Int:=
 if CA a≠0 then CA a else if CA b≠0 then CA b else if m.dl.length≠a.dl.length\/m.d3.length≠a.d3.length then 20 else
 match fst (Nr a b m) 0 m.dl.length with
 |some e=>e|none=>(fst (HZ a b m) 0 m.d3.length).getD 0
structure cY(a b:dr)(m:d4):Prop where
 ga:Dw a
 gb:Dw b
 t1:m.dl.length=a.dl.length
 wl:m.d3.length=a.d3.length
 node:∀i:Int,0<=i->i<m.dl.length->(0<=AA m.dl i/\AA m.dl i<b.dl.length)/\AA b.dl (AA m.dl i)=AA a.dl i
 edge:∀i:Int,0<=i->i<m.d3.length->(0<=AA m.d3 i/\AA m.d3 i<b.d3.length)/\(AA a.d3 i).ia=(AA b.d3 (AA m.d3 i)).ia/\
  AA m.dl (AA a.d3 i).hV=(AA b.d3 (AA m.d3 i)).hV/\AA m.dl (AA a.d3 i).To=(AA b.d3 (AA m.d3 i)).To
variable{m:d4}
theorem V1{a b:dr}(h:Ke a b m=0):cY a b m:=by
 unfold Ke at h;split at h
 .omega
 split at h
 .omega
 split at h
 .cases h
 rename_i f j o;have d:fst (Nr a b m) 0 m.dl.length=W:=by
  grind [CQ,Nr]
 rw [d]at h;have he:=SX (λi=>by
  grind [HZ]) h
 refine ⟨Df U,Df U,U,U,λi i1 i2=>?_,λi i1 i2=>?_⟩
 .grind[BU,Nr]
 grind [HZ]
theorem cj(a b:dr)(m:d4):D4 a b m=Y (Ke a b m):=by
 unfold D4 Ke;rw[NJ,bs,NJ,bs];refine EM λha=>EM λhb=>Qj i! λu=>?_;have ga:=Df ha;have gb:=Df hb;rw[Bz (Nr a b m),Ee]
 .cases o:fst (Nr a b m) 0 m.dl.length with
  |some e=>rfl|none=>
   have q:=BU.1 o;dsimp only;rw[Bz (HZ a b m),C8];intro i i1 i2 _;unfold HZ;rw[AD i1 i2,bs];by_cases d:AA m.d3 i<0\/b.d3.length<=AA m.d3 i
   .rw[a6 c!,a6 d];rfl
   .have hf:=ga.fit _ (AI (l:=a.d3) i1 U);rw[ac c!,ac d,AD i1 U,bs,AD U U,bs];by_cases f:(AA a.d3 i).ia=(AA b.d3 (AA m.d3 i)).ia
    .rw[ac d?,ac d?,AD U U,bs];by_cases h:AA m.dl (AA a.d3 i).hV=(AA b.d3 (AA m.d3 i)).hV
     .rw[ac c?,AD U U,bs,bs];by_cases j:AA m.dl (AA a.d3 i).To=(AA b.d3 (AA m.d3 i)).To
      .rw[ac f?,ac (by simp[h,j])];rfl
      .rw[a6 f?,a6 (.inr j)];rfl
     .rw[a6 c?,bs,a6 rfl,a6 (.inl h)];rfl
    .rw[a6 d?,a6 f];rfl
 .intro i i1 i2 _;unfold Nr;rw[AD i1 i2,bs];by_cases d:AA m.dl i<0\/b.dl.length<=AA m.dl i
  .rw[a6 c!,a6 d];rfl
  .rw[ac c!,ac d,AD U U,bs,AD i1 U,bs];by_cases f:AA b.dl (AA m.dl i)=AA a.dl i
   .rw[ac d?,ac d?];rfl
   .rw[a6 d?,a6 f];rfl
theorem VQ{x y:Prop}[Decidable x][Decidable y]:(if decide x=X then Y X else Y (decide y))=Y (decide (x\/y)):=m?
theorem cz(a b:dr)(m:d4):IT a b m=Y (Ke a b m):=by
 unfold IT Ke;rw[Om,bs,Om,bs];refine EM λha=>EM λhb=>Qj i! λu=>?_;have ga:=Df ha;have gb:=Df hb;rw[show(a.dl.length:Int)=m.dl.length by omega,show(a.d3.length:Int)=m.d3.length by omega,Bz (Nr a b m),Ee]
 .cases o:fst (Nr a b m) 0 m.dl.length with
  |some e=>rfl|none=>
   have q:=BU.1 o;dsimp only;rw[Bz (HZ a b m),C8];intro i i1 i2 _;unfold HZ;rw[AD i1 i2];simp only[bs,VQ];by_cases d:AA m.d3 i<0\/b.d3.length<=AA m.d3 i
   .rw[a6 c!,a6 d];rfl
   .have hf:=ga.fit _ (AI (l:=a.d3) i1 U);rw[ac c!,ac d,AD i1 U,bs,AD U U,bs];by_cases f:(AA a.d3 i).ia=(AA b.d3 (AA m.d3 i)).ia
    .rw[ac d?,ac d?,AD U U,bs];by_cases h:AA m.dl (AA a.d3 i).hV=(AA b.d3 (AA m.d3 i)).hV
     .rw[ac c?,AD U U,bs,bs];by_cases j:AA m.dl (AA a.d3 i).To=(AA b.d3 (AA m.d3 i)).To
      .rw[ac f?,ac (by simp[h,j])];rfl
      .rw[a6 f?,a6 (.inr j)];rfl
     .rw[a6 c?,bs,a6 rfl,a6 (.inl h)];rfl
    .rw[a6 d?,a6 f];rfl
 .intro i i1 i2 _;unfold Nr;rw[AD i1 i2];simp only[bs,VQ];by_cases d:AA m.dl i<0\/b.dl.length<=AA m.dl i
  .rw[a6 c!,a6 d];rfl
  .rw[ac c!,ac d,AD U U,bs,AD i1 U,bs];by_cases f:AA b.dl (AA m.dl i)=AA a.dl i
   .rw[ac d?,ac d?];rfl
   .rw[a6 d?,a6 f];rfl
def Jy(l:Fp):Bool:=!kl (λi=>kl (λj=>decide (AA l i=AA l j)) 0 i) 0 l.length
variable{l:Fp}
theorem P1:Jy l=X↔l.Nodup:=by grind[Jy,y_,Bw,WQ,Nu]
theorem cy(l:Fp):F4 l=Y (Jy l):=by
 unfold F4 Jy;rw[BZ (λi=>kl (λj=>decide (AA l i=AA l j)) 0 i) T]
 .cases kl (λi=>kl (λj=>decide (AA l i=AA l j)) 0 i) 0 l.length<;>rfl
 .intro i i1 i2 _;rw[BZ (λj=>decide (AA l i=AA l j)) T]
  .cases kl (λj=>decide (AA l i=AA l j)) 0 i<;>rfl
  .intro j d f _;rw[AD i1 i2,bs,AD d U,bs,JE]
theorem fm(f:l.length<=1000):∃k,Hm l=Y k/\decide (k=(l.length:Int))=Jy l:=by
 have d:(Sa l).length=l.length:=(RP l).length_eq;refine⟨((Go.Lib.compact (Sa l)).length:Int),?_,?_⟩
 .grind[Hm,slices_Clone_int,slices_Sort_int,slices_Compact_int,BT,AY]
 .rw[w?,P1,sA,<-(RP l).nodup_iff,<-Ug (R4 l),d];omega
def ME(m:d4):Bool:=Jy m.dl&&Jy m.d3
theorem tq{a b:dr}(h:Ke a b m=0):Du a b m=Y (ME m):=by
 have ho:=V1 h;have:=ho.ga.ea;have:=ho.ga.eh;have:=ho.t1;have:=ho.wl;obtain⟨k,d,f⟩:=fm (l:=m.dl) U;obtain⟨j,o,q⟩:=fm (l:=m.d3) U;unfold Du ME;rw[cj,h,bs,a6 (decide_eq_true rfl),d];simp[o,f,q];cases Jy m.dl<;>rfl
theorem ABc{a b:dr}(h:Ke a b m=0):Jl a b m=Y (ME m):=by grind[Jl,ME,cz,cy,Jy]
def Sd(r:eg):Int:=
 if FX r.fu.dr r.o4≠0 then FX r.fu.dr r.o4 else
 if Ke (PY r.fu.dr r.o4) r.ec.dr r.mo≠0 then Ke (PY r.fu.dr r.o4) r.ec.dr r.mo else if ME r.mo=T then 11 else 0
variable{r:eg}
theorem yE(d:Sv r.o4):Mv r=Y (Sd r):=by
 unfold Mv Sd;rw[oG d,bs];by_cases h:FX r.fu.dr r.o4=0
 .simp only[h,ne_eq,not_true_eq_false,if_false,decide_true,z?,x!];rw[cj,bs];refine EM λf=>?_;rw[tq f,bs];exact Xy λ_=>rfl
 .simp[h]
def WI(r:eg):Int:=if FX r.fu.dr r.o4≠0 then FX r.fu.dr r.o4 else Ke (PY r.fu.dr r.o4) r.ec.dr r.mo
theorem yd(d:Sv r.o4):Pb r=Y (WI r):=by
 unfold Pb WI;rw[Zy d,bs];refine EM λh=>?_
 grind [bQ,cz]
theorem uq(h:Sd r=0):FX r.fu.dr r.o4=0/\Ke (PY r.fu.dr r.o4) r.ec.dr r.mo=0/\ME r.mo=X:=by grind[Sd]
def BS(l:Fp)(n:Int):Fp:=((List.range n.toNat).map Int.ofNat).filter λi=>!hasB l i
variable{i:Int}
theorem Pe(l:Fp)(h:0<=i):BS l (i+1)=BS l i++if(!hasB l i)=X then[i]else[]:=by
 unfold BS;rw[show(i+1).toNat=i.toNat+1 by omega,List.range_succ,List.map_append,List.filter_append]
 grind
theorem Gk{n x:Int}(h:x∈BS l n):0<=x/\x<n:=by
 unfold BS at h
 grind
theorem Ss(l:Fp)(n:Int):(BS l n).length<=n.toNat:=by
 unfold BS
 grind
variable{n:Int}
theorem Vb(q:0<=n)(u:n<=1000){f:Int->K1}(hf:∀i,f i=Y (hasB l i)):(ls (λ(j:Int)(o:Fp)=>
 (f j).bind λd=>
 if (!d)=X then
 (Am o [j]).bind λh=>
 Y h
 else
 Y o) 0 n [])=Y (BS l n):=by
 refine Bo (BS l) q (by simp[BS]) (λi i1 i2=>?_);have:=Ss l i;rw[hf,bs,Pe l i1];cases hasB l i
 .rw[a6 a!,a6 a!,AV b_];rfl
 .rw[ac a!,ac a!,List.append_nil]
theorem fw(d:0<=n)(f:n<=1000):L5 l n=Y (BS l n):=by
 unfold L5;rw[Vb d f (λi=>Mb l i)];rfl
theorem oy(d:0<=n)(f:n<=1000):NS n l=Y (BS l n):=by
 unfold NS;rw[Vb d f (λi=>va l i)];rfl
def E4(r:eg):Fp:=BS r.mo.dl r.ec.dr.dl.length
def K9(r:eg):Fp:=BS r.mo.d3 r.ec.dr.d3.length
theorem oL(d:Dw r.ec.dr):Mu r=Y (E4 r,K9 r):=by
 have:=d.ea;have:=d.eh;unfold Mu;rw[fw U U,bs,fw U U];rfl
theorem oj(d:Dw r.ec.dr):Lk r=Y (E4 r,K9 r):=by
 have:=d.ea;have:=d.eh;unfold Lk;rw[oy U U,bs,oy U U];rfl
def Jz(t:AC)(g:dr)(i:Int):Bool:=OA t (AA g.d3 i).ia (AA g.dl (AA g.d3 i).hV) (AA g.dl (AA g.d3 i).To)
def XC(t:AC)(g:dr)(ea eh:Fp):Bool:=!(ea.any λi=>(AA t.dl (AA g.dl i)).up)&&!(eh.any λi=>!Jz t g i)
variable{t:AC}{g:dr}
theorem ABa(hf:Aq t)(o:Dw g)(q:DO t g=X){ea eh:Fp}(u:∀x∈ea,0<=x/\x<g.dl.length)(he:∀x∈eh,0<=x/\x<g.d3.length):Iz t g ea eh=Y (XC t g ea eh):=by
 have h:=Hx o q;unfold Iz XC;rw[Rz (p:=λi=>(AA t.dl (AA g.dl i)).up) (λx f=>by
  have d:=u x f;have j:=h.1 _ (AI d.1 d.2);unfold NY;rw[AD d.1 d.2,bs,AD j.1 j.2];rfl),bs,Rz (p:=λi=>!Jz t g i) (λx f=>by
  have d:=he x f;have j:=o.fit _ (AI d.1 d.2);unfold Ik;rw[AD d.1 d.2,bs,AD U U,bs,AD U U,bs,oH hf];rfl)]
 grind
theorem ABe(hf:Aq t)(j:Dw g)(o:DO t g=X){ea eh:Fp}(q:∀x∈ea,0<=x/\x<g.dl.length)(he:∀x∈eh,0<=x/\x<g.d3.length):Iy t g ea eh=Y (XC t g ea eh):=by
 have f:=Hx j o;unfold Iy XC;rw[Ip,Ip,BZ (λi=>(AA t.dl (AA g.dl (AA ea i))).up) T]
 .rw[BZ (λi=>!Jz t g (AA eh i)) T]
  .cases kl (λi=>(AA t.dl (AA g.dl (AA ea i))).up) 0 ea.length
   .cases kl (λi=>!Jz t g (AA eh i)) 0 eh.length<;>rfl
   .rfl
  .intro i i1 i2 _;have d:=he _ (AI i1 i2);have h:=j.fit _ (AI d.1 d.2);rw[AD i1 i2,bs,AD d.1 d.2,bs,AD U U,bs,AD U U,bs,oc hf,bs,JE];rfl
 .intro i i1 i2 _;have d:=q _ (AI i1 i2);have h:=f.1 _ (AI d.1 d.2);rw[AD i1 i2,bs,AD d.1 d.2,bs,AD h.1 h.2,bs,JE]
end Go.Sf.Sc
namespace Go.Sf.Sc
open Go Go.Sf
structure Px(p:d7):Prop where
 ea:p.dr.dl.length<=45
 eh:p.dr.d3.length<=90
 slots:p.ek.length<=15
 tests:p.j4.length<=15
structure k8(m:d4):Prop where
 ea:m.dl.length<=140
 eh:m.d3.length<=140
inductive EJ:d5->Prop where
 |mk (c:d5) (hq:Px c.d7) (hm:k8 c.Map) (hk:∀k∈c.em,EJ k):EJ c
variable{c:d5}
theorem EJ.q(h:EJ c):Px c.d7:=j_
theorem EJ.m(h:EJ c):k8 c.Map:=j_
theorem EJ.k(h:EJ c):∀k∈c.em,EJ k:=j_
theorem E5{c k:d5}(h:k∈c.em):SizeOf.sizeOf k<SizeOf.sizeOf c:=by
 have:=List.sizeOf_lt_of_mem h;cases c
 grind
theorem D8(c:d5):0<SizeOf.sizeOf c:=by
 cases c
 grind
def RH(c:d5):Bool:=decide (c.Map.dl.length=0/\c.Map.d3.length=0/\c.d7.dr.dl.length=0/\c.d7.dr.d3.length=0/\c.d7.ek.length=0/\c.d7.j4.length=0/\c.d7.ey=0)
theorem xu(hf:EJ c):Fx c=Y (RH c):=by
 have d:=hf.q;have f:=hf.m;have:=d.ea;have:=d.eh;have:=d.slots;have:=d.tests;have:=f.ea;have:=f.eh;unfold Fx RH;rw[Ar (n:=(c.Map.dl.length:Int)+c.Map.d3.length) U U,Ar (n:=(c.Map.dl.length:Int)+c.Map.d3.length+c.d7.dr.dl.length) U U,
  Ar (n:=(c.Map.dl.length:Int)+c.Map.d3.length+c.d7.dr.dl.length+c.d7.dr.d3.length) U U,
  Ar (n:=(c.Map.dl.length:Int)+c.Map.d3.length+c.d7.dr.dl.length+c.d7.dr.d3.length+c.d7.ek.length) U U,
  Ar (n:=(c.Map.dl.length:Int)+c.Map.d3.length+c.d7.dr.dl.length+c.d7.dr.d3.length+c.d7.ek.length+c.d7.j4.length) U U]
 congr 1
 grind
theorem rX(hf:EJ c):Ix c=Y (RH c):=by
 have d:=hf.q;have f:=hf.m;have:=d.ea;have:=d.eh;have:=d.slots;have:=d.tests;have:=f.ea;have:=f.eh;unfold Ix RH;rw[Ar (n:=(c.Map.dl.length:Int)+c.Map.d3.length) U U,Ar (n:=(c.Map.dl.length:Int)+c.Map.d3.length+c.d7.dr.dl.length) U U,
  Ar (n:=(c.Map.dl.length:Int)+c.Map.d3.length+c.d7.dr.dl.length+c.d7.dr.d3.length) U U,
  Ar (n:=(c.d7.ek.length:Int)+c.d7.j4.length) U U]
 congr 1
 grind
def T3(c:d5):Bool:=
 if c.jj=1 then decide (c.em.length=0)&&RH c else if c.jj=2 then decide (c.em.length=1)&&RH c else
 if c.jj=3\/c.jj=4 then decide (1<=c.em.length)&&RH c else if c.jj=5 then decide (c.em.length=1)else T
def TZ:Nat->d5->Bool
 |0,_=>T|n+1,c=>T3 c&&c.em.all (TZ n)
theorem yM:∀(N:Nat)(c:d5),SizeOf.sizeOf c<=N->EJ c->∀n,2*N<=n->Bi n c=Y (TZ N c)
 |0,c,h,_,_,_=>by have:=D8 c;omega|N+1,c,h,hf,n,B=>by
  obtain ⟨n,rfl⟩:∃m,n=m+2:=⟨n-2,U⟩;rw[Bi,TZ,xu hf];have f:CG c.em (Bx (n+1))=Y (!c.em.all (TZ N)):=by
   rw [db (p:=λk=>!TZ N k) (λk f=>by
    have:=E5 f;rw[Bx,yM N k U (hf.k k f) n U];rfl),C!,Bool.not_not]
  rw [f];unfold T3;simp only[bs,sA];generalize RH c=b;generalize c.em.all (TZ N)=w;have y:decide ((c.em.length:Int)=0)=decide (c.em.length=0):=i?
  have z:decide ((c.em.length:Int)=1)=decide (c.em.length=1):=i?
  have A:decide (1<=(c.em.length:Int))=decide (1<=c.em.length):=i?
  simp only[show((c.em.length:Int)=0)↔c.em.length=0 by omega,show((c.em.length:Int)=1)↔c.em.length=1 by omega,show(1<=(c.em.length:Int))↔1<=c.em.length by omega];by_cases j:c.jj=1
  .rw[a6 j,a6 j];by_cases d:c.em.length=0<;>cases b<;>cases w<;>simp[d]
  .rw[ac j,ac j];by_cases o:c.jj=2
   .rw[a6 o,a6 o];by_cases d:c.em.length=1<;>cases b<;>cases w<;>simp[d]
   .rw[ac o,ac o];by_cases u:c.jj=3
    .simp[u,true_or];by_cases d:1<=c.em.length<;>cases b<;>cases w<;>simp[d]
    .by_cases x:c.jj=4
     .simp[x,or_true,show¬(4:Int)=3 by decide];by_cases d:1<=c.em.length<;>cases b<;>cases w<;>simp[d]
     .simp only[u,x,if_false,or_false];by_cases q:c.jj=5
      .rw[a6 q,a6 q];by_cases d:c.em.length=1<;>cases w<;>simp[d]
      .rw[ac q,ac q];cases w<;>rfl
theorem yW(hf:EJ c):N0 c=Y (T3 c):=by
 unfold N0 T3;rw[rX hf];simp[sA];generalize RH c=b;simp[show((c.em.length:Int)=0)↔c.em.length=0 by omega,show((c.em.length:Int)=1)↔c.em.length=1 by omega,show(0<(c.em.length:Int))↔1<=c.em.length by omega]
 grind
theorem xC{α:Type}[Inhabited α]{l:List α}{p:α->Bool}:l.all p=!kl (λi=>!p (AA l i)) 0 l.length:=by
 rw [C!,Ip]
theorem tu:∀(N:Nat)(c:d5),SizeOf.sizeOf c<=N->EJ c->∀n,N<=n->DL n c=Y (TZ N c)
 |0,c,h,_,_,_=>by have:=D8 c;omega|N+1,c,h,hf,n,f=>by
  obtain ⟨n,rfl⟩:∃m,n=m+1:=⟨n-1,U⟩;rw[DL,TZ,yW hf,bs,xC,BZ (λi=>!TZ N (AA c.em i)) T]
  .cases T3 c
   .rfl
   .cases kl (λi=>!TZ N (AA c.em i)) 0 c.em.length<;>rfl
  .intro i i1 i2 _;have d:=AI (l:=c.em) i1 i2;have:=E5 d;rw[AD i1 i2,bs,tu N _ U (hf.k _ d) n U,bs,JE]
noncomputable def uH(c:d5):Bool:=TZ (SizeOf.sizeOf c) c
theorem ABb(hf:EJ c):IG c=Y (uH c):=DK (2*SizeOf.sizeOf c) λn d=>yM _ c (ae _) hf n d
theorem ABh(hf:EJ c):NR c=Y (uH c):=DK (SizeOf.sizeOf c) λn d=>tu _ c (ae _) hf n d
def PO:Nat->d5->Int×Int
 |0,_=>(0,0)|n+1,c=>
  let s:=c.em.foldl (λs k=>(Al (s.1+(PO n k).1),max s.2 (PO n k).2)) ((1,0):Int×Int)
  (s.1,if c.jj=5 then Al (s.2+1)else s.2)
theorem bE{α σ:Type}[Inhabited α]{l:List α}{g:σ->α->σ}{s:σ}{f:Int->σ->Option σ}(h:∀(i:Int)s,0<=i->i<l.length->f i s=Y (g s (AA l i))):ls f 0 l.length s=Y (l.foldl g s):=by
 rw [Bo (λi=>(l.take i.toNat).foldl g s) U V]
 .rw[w_,B']
 grind [BJ]
theorem oQ:∀(N:Nat)(c:d5),SizeOf.sizeOf c<=N->∀n,N<=n->Ck n c=Y (PO N c)
 |0,c,h,_,_=>by have:=D8 c;omega|N+1,c,h,n,d=>by
  obtain ⟨n,rfl⟩:∃m,n=m+1:=⟨n-1,U⟩;rw[Ck,PO,bE (g:=λs k=>(Al (s.1+(PO N k).1),max s.2 (PO N k).2))]
  .grind
  .intro i s i1 i2;have:=E5 (AI (l:=c.em) i1 i2);rw[AD i1 i2,bs,oQ N _ U n U];rfl
theorem ov:∀(N:Nat)(c:d5),SizeOf.sizeOf c<=N->∀n,N<=n->Dh n c=Y (PO N c)
 |0,c,h,_,_=>by have:=D8 c;omega|N+1,c,h,n,d=>by
  obtain ⟨n,rfl⟩:∃m,n=m+1:=⟨n-1,U⟩;rw[Dh,PO,bE (g:=λs k=>(Al (s.1+(PO N k).1),max s.2 (PO N k).2))]
  .grind
  .intro i s i1 i2;have:=E5 (AI (l:=c.em) i1 i2);rw[AD i1 i2,bs,ov N _ U n U];rfl
noncomputable def cf(c:d5):Int×Int:=PO (SizeOf.sizeOf c) c
noncomputable def SJ(c:d5):Int:=if uH c=T then 1 else if 12<(cf c).1\/3<(cf c).2 then 3 else 0
theorem vP(hf:EJ c):GM c=Y (SJ c):=by
 unfold GM SJ;rw[ABb hf,bs,show KN c=Y (cf c)from DK (SizeOf.sizeOf c) λn d=>oQ _ c (ae _) n d,bs]
 grind
theorem vj(hf:EJ c):KD c=Y (SJ c):=by
 unfold KD SJ;rw[ABh hf,bs,show OI c=Y (cf c)from DK (SizeOf.sizeOf c) λn d=>ov _ c (ae _) n d,bs]
 grind
theorem YF(g:dr):CA g≠9:=by grind[CA]
variable{t:AC}{p:d7}
theorem gG(d:(A5 t).2=0)(h:JF t p=0\/JF t p=9):0<=p.ey/\p.ey<=12:=by grind[YF,JF]
def VC(t:AC)(q:d7)(v:Int):Int:=if JF t q≠9 then JF t q else if kl (λi=>!Mg q i) v q.ey=X then 9 else 0
variable{P:Prop}
theorem chQ{α:Type}[Decidable P]{v:α}{ζ:Option α}{δ:α}(h:P->ζ=Y δ):(if(!decide P)=X then Y v else ζ)=Y (if¬P then v else δ):=m?
theorem ABZ(hf:Aq t)(f:(A5 t).2=0){q:d7}{v:Int}(o:0<=v)(h:v<=q.ey):E3 t q v=Y (VC t q v):=by
 unfold E3 VC;rw[Yh hf,bs];refine chQ λd=>?_;have hv:=gG f (.inr d);rw[Ou (c:=λi=>(if(!Mg q i)=X then Y ()else W).map λ_=>.inr 9) (a:=v) (b:=q.ey) h]
 .rw[Gb,Og];cases kl (λi=>!Mg q i) v q.ey<;>rfl
 .intro i i1 i2 _;rw[a6 (by simpa using i2),show(λj=>I8 j i)=(λy=>Y (decide (y.gl.Var=i)))from rfl,jS,bs,show(q.ek.any λy=>decide (y.gl.Var=i))=Mg q i from rfl,d,Ar U U];cases Mg q i<;>rfl
 .rw[ac V]
theorem vd(p:d7)(v:Int):PZ p v=Y (Mg p v):=t6 p v
theorem ABd(hf:Aq t)(q:d7)(v:Int):KE t v q=Y (if q.ey<v then 20 else VC t q v):=by
 unfold KE VC;refine Qj V λ_=>?_;rw[dA hf,bs];refine chQ λd=>?_;rw[d,BZ (λi=>!Mg q i) 9]
 .cases kl (λi=>!Mg q i) v q.ey<;>rfl
 .intro i i1 i2 _;rw[vd,bs,JE]
def MP:Nat->AC->d7->d5->Int
 |0,_,_,_=>0|N+1,t,p,c=>
  if c.jj=5 then
   if c.d7.ey<p.ey then 20 else if VC t c.d7 p.ey≠0 then VC t c.d7 p.ey else
   if Ke p.dr c.d7.dr c.Map≠0 then Ke p.dr c.d7.dr c.Map else if ME c.Map=T then 1 else
   (fst (λi=>nz (MP N t c.d7 (AA c.em i))) 0 c.em.length).getD 0
  else (fst (λi=>nz (MP N t p (AA c.em i))) 0 c.em.length).getD 0
theorem oS(hf:Aq t)(o:(A5 t).2=0):∀(N:Nat)(c:d5)(p:d7),0<=p.ey->SizeOf.sizeOf c<=N->∀n,N<=n->CS n t p c=Y (MP N t p c)
 |0,c,p,_,h,_,_=>by have:=D8 c;omega|N+1,c,p,A,h,n,B=>by
  obtain ⟨n,rfl⟩:∃m,n=m+1:=⟨n-1,U⟩;rw[CS,MP];have j:∀q:d7,0<=q.ey->(ei (gt (ρ:=Int) (λ(w:Int)(_:Unit)=>
    (idx c.em w).bind λf=>
    (CS n t q f).bind λd=>
    if (!decide (d=0))=X then
    Y (.ret d)
    else
    Y (.next ())) 0 (c.em.length:Int) ()) (λ_=>
    Y 0) (λx=>Y x))=Y ((fst (λi=>nz (MP N t q (AA c.em i))) 0 c.em.length).getD 0):=by
   intro q z;rw[Bz (λi=>nz (MP N t q (AA c.em i))),C8];intro i i1 i2 _;have:=E5 (AI (l:=c.em) i1 i2);rw[AD i1 i2,bs,oS hf o N _ q z U n U,bs,Ns]
  by_cases u:c.jj=5
  .rw[a6 g_,a6 u];refine Qj V λhv=>?_;rw[ABZ hf o A U,bs];refine EM λhi=>?_;rw[cj,bs];refine EM λy=>?_;rw[tq y,bs]
   grind
  grind
theorem ox(hf:Aq t):∀(N:Nat)(c:d5)(p:d7),SizeOf.sizeOf c<=N->∀n,N<=n->D5 n t p c=Y (MP N t p c)
 |0,c,p,h,_,_=>by have:=D8 c;omega|N+1,c,p,h,n,y=>by
  obtain ⟨n,rfl⟩:∃m,n=m+1:=⟨n-1,U⟩;rw[D5,MP];have d:∀q:d7,(ei (gt (ρ:=Int) (λ(u:Int)(_:Unit)=>
    (idx c.em u).bind λo=>
    (D5 n t q o).bind λf=>
    if (!decide (f=0))=X then
    Y (.ret f)
    else
    Y (.next ())) 0 (c.em.length:Int) ()) (λ_=>
    Y 0) (λw=>Y w))=Y ((fst (λi=>nz (MP N t q (AA c.em i))) 0 c.em.length).getD 0):=by
   intro q;rw[Bz (λi=>nz (MP N t q (AA c.em i))),C8];intro i i1 i2 _;have:=E5 (AI (l:=c.em) i1 i2);rw[AD i1 i2,bs,ox hf N _ q U n U,bs,Ns]
  by_cases j:c.jj=5
  .rw[a6 f?,a6 j,ABd hf,bs];by_cases hv:c.d7.ey<p.ey
   .simp[hv]
   .simp only[ac hv];refine EM λhi=>?_;rw[cz,bs];refine EM λx=>?_;rw[ABc x,bs];exact Xy λ_=>d _
  .rw[ac f?,ac j];exact d p
noncomputable def O9(t:AC)(p:d7)(c:d5):Int:=if JF t p≠0 then JF t p else if SJ c≠0 then SJ c else MP (SizeOf.sizeOf c) t p c
theorem oI(hf:Aq t)(d:(A5 t).2=0)(p:d7)(f:EJ c):Dp t p c=Y (O9 t p c):=by
 unfold Dp O9;rw[Yh hf,bs];refine EM λh=>?_;rw[vP f,bs,v!];exact EM λ_=>DK (SizeOf.sizeOf c) λn j=>oS hf d _ c p (gG d (.inl h)).1 (ae _) n j
theorem oi(hf:Aq t)(p:d7)(d:EJ c):IY t p c=Y (O9 t p c):=by
 unfold IY O9;rw[dA hf,bs];refine EM λh=>?_;rw[vj d,bs,v!];exact EM λ_=>DK (SizeOf.sizeOf c) λn f=>ox hf _ c p (ae _) n f
end Go.Sf.Sc
namespace Go.Sf.Sc
open Go Go.Sf
structure Hq(r:eg):Prop where
 name:(r.kq.size:Int)<=60
 left:Px r.fu
 right:Px r.ec
 fq:Sv r.o4
 into:k8 r.mo
 cond:EJ r.d5
noncomputable def EI(t:AC)(r:eg):Int:=
 if (A5 t).2≠0 then(A5 t).2 else if F3 r.kq=T then 2 else if JF t r.fu≠0 then JF t r.fu else
 if Ll t r≠0 then Ll t r else if Sd r≠0 then Sd r else if XC t r.ec.dr (E4 r) (K9 r)=T then 13 else O9 t r.fu r.d5
variable{t:AC}{r:eg}
theorem XP(h:Ll t r=0):Dw r.ec.dr/\DO t r.ec.dr=X:=by grind[Ll,Df]
theorem gC(hf:Aq t)(hr:Hq r):Jo t r=Y (EI t r):=by
 have o:=hr.name;unfold Jo EI;rw[Ol hf,bs];refine EM λh=>?_;rw[SC U,bs];refine Xy λ_=>?_;rw[Yh hf,bs];refine EM λ_=>?_;rw[vL hf,bs];refine EM λd=>?_;have ho:=XP d;rw[yE hr.fq,bs];refine EM λj=>?_;rw[oL ho.1,bs];dsimp only;rw[ABa (ea:=E4 r) (eh:=K9 r) hf ho.1 ho.2 (λx f=>Gk f) (λx f=>Gk f),bs];refine Xy λ_=>?_;rw[oI hf h _ hr.cond,bs]
theorem gX(hf:Aq t)(hr:Hq r):IZ t r=Y (EI t r):=by
 have q:=hr.name;unfold IZ EI;rw[Rp hf,bs];refine EM λo=>?_;rw[SD U,bs];refine Xy λ_=>?_;rw[dA hf,bs];refine EM λ_=>?_;rw[ve hf,bs];refine EM λd=>?_;have ho:=XP d;rw[yd hr.fq,bs,cy,bs];simp only[cy,bs];have e:(if(!Jy r.mo.dl)=X then Y X else Y (!Jy r.mo.d3))=Y (!ME r.mo):=by
  grind [ME,Jy]
 rw [e,bs];have j:Sd r=if WI r≠0 then WI r else if ME r.mo=T then 11 else 0:=by
  grind [Sd,WI,FX]
 rw [j];by_cases h:WI r=0
 .simp only[h,ne_eq,not_true_eq_false,if_false,decide_true,z?,x!];cases hi:ME r.mo
  .simp
  .simp only[z?,x!,if_false,not_true_eq_false,Bool.true_eq_false];rw[oj ho.1,bs];dsimp only;rw[ABe (ea:=E4 r) (eh:=K9 r) hf ho.1 ho.2 (λx f=>Gk f) (λx f=>Gk f),bs];refine Xy λ_=>?_;rw[oi hf _ hr.cond,bs]
 .simp[h]
def AaD(t:AC)(l:Fp):Bool:=!(l.any λk=>t.dl.any λn=>decide (n.t2=k))
structure nG(t:AC)(r:eg):Prop where
 left:Dw r.fu.dr
 ltyped:DO t r.fu.dr=X
 right:Dw r.ec.dr
 Aa4:DO t r.ec.dr=X
 rtests:r.ec.j4.length=0
 part:dK r.fu.dr r.o4
 mor:cY (PY r.fu.dr r.o4) r.ec.dr r.mo
 inj:r.mo.dl.Nodup/\r.mo.d3.Nodup
variable{p:d7}
theorem oY(h:JF t p=0):Dw p.dr/\DO t p.dr=X:=by grind[JF,Df]
theorem kR(h:EI t r=0):(A5 t).2=0/\nG t r:=by
 unfold EI at h;split at h
 .omega
 split at h
 .cases h
 split at h
 .omega
 split at h
 .omega
 split at h
 .omega
 rename_i j o q u w;have d:=oY (t:=t) (p:=r.fu) U;have hr:=XP (t:=t) (r:=r) U;have f:=uq (r:=r) U;have hi:Jy r.mo.dl=X/\Jy r.mo.d3=X:=by
  grind [ME]
 refine ⟨U,d.1,d.2,hr.1,hr.2,?_,?_,V1 f.2.1,P1.1 hi.1,P1.1 hi.2⟩
 .grind[Ll]
 grind [FX,VU]
end Go.Sf.Sc
namespace Go.Sf
variable{a b:Int}
theorem WK{ρ:Type}{f:Int->Option (B5 Int ρ)}(p:Int->Bool)(v:ρ)(d:a<=b)(h:∀i,a<=i->i<b->f i=Y (if p i=X then .ret v else .next (i+1)))(hb:f b=Y (.brk b)):Dv f a=Y (if kl p a b=X then .inr v else .inl b):=by
 rw [Ou (c:=λi=>(if p i=X then Y ()else W).map λ_=>.inr v) d]
 .grind[Gb,Og,kl]
 .intro i j o _;rw[h i j o];cases p i<;>rfl
 .exact hb
theorem NG{α:Type}{e:α->TV}{n:Nat}{l:List α}(h:TV.Sm (.list n (l.map e))):(l.length:Int)<=140737488351232/\∀x∈l,(e x).Sm:=by
 simp [TV.Sm]at h;refine⟨by have:=h.1;unfold reachBytes at this;omega,λx d=>WH.1 h.2 _ (C_.2 ⟨x,d,rfl⟩)⟩
end Go.Sf
namespace Go.Sf.Sc
open Go Go.Sf
def dY(a:ke):Bool:=(decide (40<(a.kq.size:Int))||decide (25<(a.pc.length:Int)))||kl (λi=>decide (40<((AA a.pc i).size:Int))) 0 a.pc.length
theorem qG{a:ke}(h:dY a=T):Wm a:=by
 unfold dY at h;simp[decide_eq_false_iff_not,Bw]at h;refine⟨U,U,λx d=>?_⟩
 grind [BW]
variable{t:AC}
theorem ST(O:(AK t).Sm):∃b,Mk t=Y b/\(b=X->Aq t):=by
 have I:TV.Sms [_,_]:=O;obtain⟨w,L⟩:=NG (e:=FB) I.1;unfold Mk;by_cases hl:20<t.dl.length\/30<t.d3.length
 .rw[a6 a_]
  grind
 rw [ac a_];rcases W5 (f:=(λ(A:Int)(N:Int)=>
 (idx t.dl A).bind λy=>
 (if(decide (30<(Al (N+(y.po.length:Int)))))=X then Y X else((idx t.dl A).bind λC=>
 Y (decide (40<(C.kq.size:Int))))).bind λD=>
 if D=X then
 Y (B5.ret T)
 else
 ei (Dv (ρ:=Bool) (λ(s2:Int)=>
 (idx t.dl A).bind λE=>
 if (decide (s2<(E.po.length:Int)))=X then
 (idx t.dl A).bind λF=>
 (idx F.po s2).bind λq=>
 if ((decide (40<(q.kq.size:Int)))||(decide (25<(q.pc.length:Int))))=X then
 Y (.ret T)
 else
 ei (Dv (ρ:=Bool) (λ(x:Int)=>
 if (decide (x<(q.pc.length:Int)))=X then
 (idx q.pc x).bind λG=>
 if (decide (40<(G.size:Int)))=X then
 Y (.ret T)
 else
 Y (.next (Al (x+1)))
 else
 Y (.brk x)) 0) (λx=>
 Y (.next (Al (s2+1)))) (λQ=>Y (.ret Q))
 else
 Y (.brk s2)) 0) (λs2=>
 Y (.next (Al (N+(y.po.length:Int))))) (λS=>Y (.ret S))))
  (λi s=>0<=s/\s<=30/\∀j,0<=j->j<i->((AA t.dl j).kq.size:Int)<=40/\(AA t.dl j).po.length<=30/\∀a∈(AA t.dl j).po,Wm a) (λ_=>False) (λr=>r=T) (a:=0) (b:=t.dl.length) (s:=0) U ⟨U,U,λj z d=>U⟩ (λi s i1 i2 θ=>by
   have ε:=L _ (AI (l:=t.dl) i1 i2);have J:TV.Sms [_,_,_,_]:=ε;obtain⟨ha,M⟩:=NG (e:=HF) J.2.2.2.1;obtain⟨hI1,hI2,hI3⟩:=θ;have κ:Al (s+(AA t.dl i).po.length)=s+(AA t.dl i).po.length:=Ar U U;simp only[AD i1 i2,bs,κ,VQ];by_cases η:30<s+(AA t.dl i).po.length\/40<((AA t.dl i).kq.size:Int)
   .grind
   rw [ac (by simpa using η)];rw[WK (λj=>dY (AA (AA t.dl i).po j)) T (b:=(AA t.dl i).po.length) U]
   .cases hb:kl (λj=>dY (AA (AA t.dl i).po j)) 0 (AA t.dl i).po.length
    .refine .inl ⟨_,rfl,U,U,λj H B=>?_⟩
     grind [BW,qG,Bw]
    .exact .inr (.inr ⟨_,rfl,rfl⟩)
   .intro j H B;rw[a6 t?,AD H B,bs];have Z:=M _ (AI (l:=(AA t.dl i).po) H B);have K:TV.Sms [_,_,_,_]:=Z;obtain⟨hm,_⟩:=NG (e:=eS) K.2.2.2.1;unfold dY;cases z:(decide (40<((AA (AA t.dl i).po j).kq.size:Int))||decide (25<((AA (AA t.dl i).po j).pc.length:Int)))
    .rw[ac a!,WK (λk=>decide (40<((AA (AA (AA t.dl i).po j).pc k).size:Int))) T (b:=(AA (AA t.dl i).po j).pc.length) U]
     .cases kl (λk=>decide (40<((AA (AA (AA t.dl i).po j).pc k).size:Int))) 0 (AA (AA t.dl i).po j).pc.length
      .rw[Bool.or_false,Ar (show -9223372036854775808<=j+1 by omega) U];rfl
      .rfl
     .intro k u o;rw[a6 h_,AD u o,bs,Ar (show -9223372036854775808<=k+1 by omega) U,JE]
     .rw[ac V]
    .rfl
   .rw[ac V])with⟨s',z,d⟩|⟨r,z,d⟩
 .rw[z];rcases d with d|d
  .rw[Br,BZ (λi=>decide (40<((AA t.d3 i).kq.size:Int))) T]
   .cases hb:kl (λi=>decide (40<((AA t.d3 i).kq.size:Int))) 0 t.d3.length
    .refine⟨X,rfl,λ_=>⟨U,U,λn w=>?_,λn w=>?_,λn w=>?_,λe he=>?_⟩⟩
     .obtain⟨k,u,o,rfl⟩:=BW w;exact(d.2.2 k u o).1
     .obtain⟨k,u,o,rfl⟩:=BW w;exact(d.2.2 k u o).2.1
     .obtain⟨k,u,o,rfl⟩:=BW w;exact(d.2.2 k u o).2.2
     .obtain⟨k,u,o,rfl⟩:=BW he;have:=Bw.1 hb k u o;simpa using this
    .exact⟨T,rfl,λh=>c_⟩
   .intro i i1 i2 _;rw[AD i1 i2,bs,JE]
  .exact d.elim
 .rw[z];subst d;exact⟨T,rfl,λh=>c_⟩
theorem TE(p:d7):∃b,Kx p=Y b/\(b=X->Px p):=by
 refine ⟨_,rfl,λh=>?_⟩;simp[sA]at h;exact⟨U,U,U,U⟩
variable{a b:Int}
theorem jf(ha:0<=a)(d:a<=140737488351232)(hb:0<=b)(f:b<=140737488351232):Al (a+b)=a+b:=Ar U U
variable{m:d4}
theorem ZJ(f:(Ap m).Sm):∃b,Jk m 140=Y b/\(b=X->k8 m):=by
 have d:TV.Sms [_,_]:=f;have j:=(NG (e:=eI) d.1).1;have o:=(NG (e:=eI) d.2.1).1;refine⟨_,rfl,λh=>?_⟩;rw[jf U j U o]at h;simp[sA]at h;exact⟨U,U⟩
theorem qP{m:BC}(f:(FC m).Sm):∃b,Sn m 140=Y b/\(b=X->Sv m):=by
 have d:TV.Sms [_,_]:=f;have j:=(NG (e:=eI) d.1).1;have o:=(NG (e:=eI) d.2.1).1;refine⟨_,rfl,λh=>?_⟩;rw[jf U j U o]at h;simp[sA]at h;exact⟨U,U⟩
variable{c:d5}
theorem jU(h:(AJ c).Sm):(Ap c.Map).Sm/\(c.em.length:Int)<=140737488351232/\∀k∈c.em,(AJ k).Sm:=by
 have f:TV.Sms [_,_,_,_,_,_,_,_,_]:=h;obtain⟨_,d,j,o,_⟩:=f;rw[MH]at d;obtain⟨q,u⟩:=NG d;exact⟨⟨j,o,trivial⟩,q,u⟩
theorem dw:∀(N:Nat)(c:d5),SizeOf.sizeOf c<=N->(AJ c).Sm->∀pf:Int,0<=pf->pf<=1000->∃r,(∀n,N<=n->DA n c pf=Y r)/\-1<=r/\r<=pf-1/\(0<=r->EJ c)
 |0,c,h,_,_,_,_=>by have:=D8 c;omega|N+1,c,h,hs,pf,m0,m1=>by
  obtain ⟨O,Q,B⟩:=jU hs;obtain⟨S,E,θ⟩:=TE c.d7;obtain⟨ε,I,κ⟩:=ZJ O;have step:∀n,N+1<=n->∃m,n=m+1/\N<=m:=λn d=>⟨n-1,U,U⟩;cases S
  .refine⟨-1,λn d=>?_,U,U,λh=>U⟩;obtain⟨n,rfl,_⟩:=step n d;rw[DA,E];rfl
  cases ε
  .refine⟨-1,λn d=>?_,U,U,λh=>U⟩;obtain⟨n,rfl,_⟩:=step n d;rw[DA,E,bs,I];rfl
  have loop:∀(m:Nat)(k left:Int),0<=k->k+m=c.em.length->-1<=left->left<=1000->∃f u,(∀n,N<=n->L8 (ρ:=Int) (λ(q:Int×Int)=>
    if ((decide (q.2<(c.em.length:Int)))&&(decide (0<=q.1)))=X then
    (idx c.em q.2).bind λx=>
    (DA n x q.1).bind λy=>
    Y (.next (y,Al (q.2+1)))
    else
    Y (.brk (q.1,q.2))) (left,k) (.inl (f,u)))/\-1<=f/\f<=left/\(0<=f->∀j,k<=j->j<c.em.length->EJ (AA c.em j)):=by
   intro m
   induction m with
   |zero=>
    intro k left C K D l1;refine⟨left,k,λn d=>.brk ?_,D,U,λ_ j z w=>U⟩;rw[ac a_]
   |succ m ih=>
    intro k left C K D l1;by_cases L:0<=left
    .have o:=AI (l:=c.em) C U;have:=E5 o;obtain⟨r,η,Z,r3,r4⟩:=dw N _ U (B _ o) left L l1;obtain⟨f,u,a1,F,J,G⟩:=ih (k+1) r U U Z U;refine⟨f,u,λn d=>.next (s':=(r,k+1)) ?_ (a1 n d),F,U,λA j z w=>?_⟩
     .rw[a6 a_,AD C U,bs,η n d,bs,Ar U U]
     .by_cases M:j=k
      .subst M;exact r4 U
      .exact G A j U w
    .refine⟨left,k,λn d=>.brk ?_,D,U,λh=>U⟩;rw[ac a_]
  obtain ⟨f,u,a1,F,J,G⟩:=loop c.em.length 0 (pf-1) U U U U;refine⟨f,λn d=>?_,F,J,λA=>.mk c (θ rfl) (κ rfl) (λk B=>?_)⟩
  .obtain⟨n,rfl,H⟩:=step n d;rw[DA,E,bs,I];simp only[bs,z?,x!,if_false];rw[Ar (n:=pf-1) U U,(a1 n H).eq,Br]
  .obtain⟨j,z,w,rfl⟩:=BW B;exact G A j z w
theorem qO(d:(AJ c).Sm):∃b,Ky c=Y b/\(b=X->EJ c):=by
 obtain ⟨r,f,_,_,j⟩:=dw (SizeOf.sizeOf c) c (ae _) d 40 U U;have e:RX c 40=Y r:=DK (SizeOf.sizeOf c) f;unfold Ky;rw[e];exact⟨_,rfl,λh=>j c?⟩
theorem Ma{b:Bool}{o:K1}{c:Bool}(h:o=Y c):(if b=X then o.bind λx=>Y x else Y T)=Y (b&&c):=by
 subst h;cases b<;>rfl
variable{r:eg}
theorem qQ(d:(Bt r).Sm):∃b,Qt r=Y b/\(b=X->Hq r):=by
 have f:TV.Sms [_,_,_,_,_,_,_,_,_,_,_,_,_,_,_,_,_,_,_,_,_,_,_,_,_]:=d;obtain⟨_,_,_,_,_,_,_,_,_,_,_,j,o,i1,i2,_,q,u,c3,c4,w,x,y,c8,z,_⟩:=f;obtain⟨K,A,B⟩:=TE r.fu;obtain⟨L,C,D⟩:=TE r.ec;obtain⟨M,E,F⟩:=qP (m:=r.o4) ⟨j,o,trivial⟩;obtain⟨N,G,H⟩:=ZJ (m:=r.mo) ⟨i1,i2,trivial⟩;obtain⟨O,I,J⟩:=qO (c:=r.d5) ⟨q,u,c3,c4,w,x,y,c8,z,trivial⟩;unfold Qt;rw[Ma A,bs,Ma C,bs,Ma E,bs,Ma G,bs,Ma I,bs];refine⟨_,rfl,λh=>?_⟩;simp[sA]at h;exact⟨h.1.1.1.1.1,B h.1.1.1.1.2,D h.1.1.1.2,F h.1.1.2,H h.1.2,J h.2⟩
end Go.Sf.Sc
