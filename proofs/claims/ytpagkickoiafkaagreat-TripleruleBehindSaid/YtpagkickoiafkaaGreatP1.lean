/- Plain lemmas: what the functions of the program and of the reference compute. -/
import Derived.Test.YtpagkickoiafkaaGreatSfRead
import Derived.Test.YtpagkickoiafkaaGreatFns
import Derived.Test.YtpagkickoiafkaaGreatSfPl
set_option linter.all false
set_option maxRecDepth 100000
open Option renaming some->Y,none->W
open Bool renaming true->X,false->T
open Option renaming getD->v?,isSome->w_,bind_assoc->w!,bind_fun_some->w?
open Int renaming le_refl->x_,toNat_natCast->x!,toNat_of_nonneg->x?,ofNat->y_,natCast_nonneg->y!,natCast_add->y?,tmod_eq_emod_of_nonneg->z_
open Bool renaming true_and->z!,eq_iff_iff->z?,false_and->A_,false_eq_true->A',or_eq_true->A!,not_eq_true'->A?,not_eq_false'->B_,or_eq_false_iff->B',and_eq_false_iff->B!,eq_false_iff->B?,not_true->C_,not_eq_true->C',or_assoc->C!,true_eq_false->C?,or_false->D_,and_true->D'
open List renaming mem_append->D!,any_eq_false->D?,getElem?_eq_getElem->E_,getD_eq_getElem?_getD->E',take_length->E!,any_eq_true->E?,range->F_,replicate->F!,ext_getElem->F?,mem_map->G_,mem_range->G!,pairwise_iff_getElem->G?,range_succ->H_,map_append->H',filter_append->H!,append_nil->H?,all_eq_not_any_not->I_,map_cons->I',map_nil->I!,filter_cons->I?,mem_filter->J_,length_nil->J',getElem?_map->J!,mem_singleton->J?,length->K_
open Nat renaming zero_add->K!,zero_le->K?
namespace Go.Sf
theorem ZY{ρ τ:Type}{d:Int->Option ρ}{g:ρ->τ}:∀(n:Nat)(a:Int),FG (λi=>(d i).map g) n a=(FG d n a).map g
 |0,_=>rfl|n+1,a=>by
  rw [FG,FG];cases d a with
  |some r=>rfl|none=>exact ZY n (a+1)
variable{a b:Int}
theorem Qs{ρ τ:Type}{d:Int->Option ρ}{g:ρ->τ}:fst (λi=>(d i).map g) a b=(fst d a b).map g:=ZY _ _
theorem XZ{ρ:Type}{d:Int->Option ρ}{r:ρ}:∀{n:Nat}{a:Int},FG d n a=Y r->∃i,a<=i/\i<a+n/\d i=Y r/\∀j,a<=j->j<i->d j=W
 |0,_,h=>d!
 |n+1,a,h=>by
  rw [FG]at h;cases hd:d a with
  |some z=>
   grind
  |none=>
   rw [hd]at h;obtain⟨i,f,u,w,y⟩:=XZ h
   grind
theorem DG{ρ:Type}{d:Int->Option ρ}{r:ρ}(h:fst d a b=Y r):∃i,a<=i/\i<b/\d i=Y r/\∀j,a<=j->j<i->d j=W:=by
 obtain ⟨i,f,u,w,y⟩:=XZ h
 grind
def ML(p:Int->Bool)(s:ByteArray):Int:=(fst (λi=>if p (bt s i)then W else Y i) 0 s.size).getD s.size
theorem VK(p:Int->Bool)(s:ByteArray):0<=ML p s/\ML p s<=s.size/\(∀j,0<=j->j<ML p s->p (bt s j)=X)/\(ML p s<s.size->p (bt s (ML p s))=T):=by
 unfold ML;cases h:fst (λi=>if p (bt s i)then W else Y i) 0 s.size with
 |none=>
  rw [BQ]at h
  grind
 |some r=>
  grind [DG,bt,v?]
variable{s:ByteArray}
theorem dc(h:s≠⟨#[]⟩):0<s.size:=by
 rcases Nat.eq_zero_or_pos s.size with f|f
 .exfalso;apply h;cases s with|mk d=>congr 1;exact Array.eq_empty_of_size_eq_zero f
 .exact f
end Go.Sf
namespace Go.Sf.Sc
open Go Go.Sf
def F9(c:Int):Bool:=((decide (97<=c))&&(decide (c<=122)))||((decide (65<=c))&&(decide (c<=90)))
def sN(c:Int):Bool:=(decide (48<=c))&&(decide (c<=57))
def Rz(c:Int):Bool:=F9 c||sN c||decide (c=95)
theorem cp(c:Int):Ld c=Y (F9 c):=rfl
theorem Yn(c:Int):Kq c=Y (sN c):=rfl
theorem dJ(c:Int):LM c=Y (F9 c):=rfl
theorem gX(c:Int):Ix c=Y (sN c):=rfl
theorem vp(c:Int):OS c=Y (Rz c):=by
 unfold OS Rz;rw[cp,bs,Yn]
 grind
variable{s:ByteArray}
theorem ja(d:(s.size:Int)<=4611686018427387904){ok:Int->I1}{p:Int->Bool}(h:∀c,ok c=Y (p c)):Lf s ok=Y (ML p s):=by
 unfold Lf;rw[Q1 (c:=λi=>(if p (bt s i)then W else Y i).map .inl) (a:=0) (b:=s.size) U]
 .rw[Qs];unfold ML;cases fst (λi=>if p (bt s i)=X then W else Y i) 0 s.size<;>rfl
 .grind[Qz,bt,DM,Ar]
 .simp
def Dl(s:ByteArray):Bool:=decide (0<s.size)&&F9 (bt s 0)&&decide (s.size<=20)&&decide (ML Rz s=s.size)
theorem Yl(l:List ByteArray)(v:ByteArray):∃k,slices_Index_string l v=Y k/\(0<=k↔v∈l):=by
 unfold slices_Index_string;rw[Bk (λi=>if(v==AA l i)=X then Y i else W)]
 .cases h:fst (λi=>if(v==AA l i)=X then Y i else W) 0 l.length with
  |none=>
   rw [BQ]at h;refine⟨-1,rfl,U,λw=>?_⟩
   grind [A9]
  |some k=>
   obtain ⟨i,d,f,y,_⟩:=DG h;have u:(v==AA l i)=X/\i=k:=by
    grind
   obtain ⟨u,rfl⟩:=u;refine⟨i,rfl,λ_=>?_,λ_=>d⟩
   grind [AG]
 .intro i d f _;simp only[AD d f,bs];split<;>rfl
theorem QI(l:List ByteArray)(v:ByteArray):slices_Contains_string l v=Y (l.contains v):=by
 unfold slices_Contains_string;obtain⟨k,d,f⟩:=Yl l v
 grind
theorem vn(D:0<s.size)(A:(s.size:Int)<=4611686018427387904):∃k n e,OQ s=Y (k,n,e)/\(((decide (e=0))&&(decide (k=1)))&&(decide (n=(s.size:Int))))=Dl s:=by
 have J:=VK Rz s;unfold OQ Dl;simp only[Qz (x_ 0) (show(0:Int)<s.size by omega),bs,cp,Yn,ja A vp,ja A Yn,D,decide_true,z!];by_cases d:F9 (bt s 0)=X
 .rw[QQ d];by_cases f:20<ML Rz s
  .refine⟨0,0,3,by simp[f],?_⟩;simp[d];intro I h;omega
  .refine⟨1,_,0,by rw[aE d_],?_⟩;simp only[d,decide_true,z!];rw[z?];simp only[ml,gN];omega
 .rw[aE d];have u:F9 (bt s 0)=T:=b?
  rw [u,A_,A_];by_cases hd:sN (bt s 0)=X
  .rw[QQ hd];by_cases B:9<ML sN s
   .exact⟨0,0,3,by simp[B],V⟩
   .exact⟨2,_,0,by rw[aE q!],V⟩
  .rw[aE hd];by_cases C:bt s 0=34
   .have E:=af (s:=s) (a:=1) (b:=s.size) U U U;have w:∀c,MG c=Y (((decide (32<=c))&&(decide (c<=126)))&&(!decide (c=34))):=λ_=>rfl;have F:=VK (λc=>((decide (32<=c))&&(decide (c<=126)))&&(!decide (c=34))) (s.extract (1:Int).toNat (s.size:Int).toNat);have y:∃n e,Le s=Y (n,e):=by
     unfold Le;rw[NW U U U,bs,ja U w,bs];rw[Ar U U];by_cases he:1+ML (λc=>((decide (32<=c))&&(decide (c<=126)))&&(!decide (c=34))) (s.extract (1:Int).toNat (s.size:Int).toNat)=s.size
     .refine⟨0,2,?_⟩;simp only[he,decide_true,if_true,bs]
     .simp only[he,decide_false,A',if_false];rw[Qz U U];simp only[bs];split
      .exact⟨_,_,rfl⟩
      .split
       .exact⟨_,_,rfl⟩
       .exact⟨_,_,rfl⟩
    obtain ⟨n,e,z⟩:=y;refine⟨3,n,e,by rw[QQ (by simpa using C),z];rfl,V⟩
   .rw[aE (by simpa using C)];have G:∃b,OR s=Y b:=by
     unfold OR;by_cases h:2<=(s.size:Int)
     .rw[QQ c?,NW U U h];simp only[bs,QI];exact⟨_,rfl⟩
     .rw[aE c?];exact⟨_,rfl⟩
    obtain ⟨b,H⟩:=G;rw[H,bs];cases b
    .simp only[A',if_false,strings_IndexByte,bs];split
     .exact⟨_,_,_,rfl,rfl⟩
     .exact⟨_,_,_,rfl,rfl⟩
    .exact⟨_,_,_,rfl,rfl⟩
theorem RK(d:(s.size:Int)<=4611686018427387904):Fc s=Y (Dl s):=by
 unfold Fc PY;simp only[show decide ((1:Int)=3)=T from rfl,A',if_false,bs];by_cases he:s=⟨#[]⟩
 .subst he;rfl
 grind [vn,dc]
theorem wN(y:(s.size:Int)<=4611686018427387904)(d:Bool):∃n,Ps s 0 d=Y n/\0<=n/\n<=s.size/\(d=T->n=ML Rz s):=by
 have h:=VK (λc=>sN c||(!d&&(F9 c||decide (c=95)))) s;refine⟨ML (λc=>sN c||(!d&&(F9 c||decide (c=95)))) s,?_,h.1,h.2.1,λhd=>?_⟩
 .unfold Ps;rw[Q1 (c:=λi=>(if(sN (bt s i)||(!d&&(F9 (bt s i)||decide (bt s i=95))))then W else Y i).map .inl) (a:=0) (b:=s.size) U]
  .rw[Qs];unfold ML;cases fst (λi=>if(sN (bt s i)||(!d&&(F9 (bt s i)||decide (bt s i=95))))=X then W else Y i) 0 s.size<;>rfl
  .intro i w f _;have u:Ag (0+i)=i:=d?
   simp only[u,f,decide_true,if_true,Qz w f,bs,gX,dJ]
   grind [sN,bt,F9,DM,Ar]
  .have u:Ag (0+(s.size:Int))=s.size:=d?
   grind
 .subst hd;congr 1
  grind [Rz,F9,sN]
theorem pA(y:0<s.size)(z:(s.size:Int)<=4611686018427387904):∃n,LN s 0=Y n/\(n=0\/(2<=n/\n<=s.size)):=by
 unfold LN;rw[Q1 (c:=λi=>if decide (bt s i=34)=X then Y (Sum.inr (i+1):Int ⊕ Int)else if(decide (bt s i<32)||decide (126<bt s i))=X then Y (Sum.inr 0)else W) (a:=1) (b:=s.size) U]
 .cases h:fst (λi=>if decide (bt s i=34)=X then Y (Sum.inr (i+1):Int ⊕ Int)else if(decide (bt s i<32)||decide (126<bt s i))=X then Y (Sum.inr 0)else W) 1 s.size with
  |none=>exact⟨0,rfl,.inl rfl⟩|some r=>
   obtain ⟨i,w,f,d,_⟩:=DG h;split at d
   .cases d;exact⟨_,rfl,.inr U⟩
   .split at d
    .cases d;exact⟨_,rfl,.inl rfl⟩
    .cases d
 .intro i w f _;have u:Ag (0+i)=i:=d?
  simp only[u,f,decide_true,if_true,Qz (show 0<=i by omega) f,bs,Ar (show -9223372036854775808<=i+1 by omega) U];split
  .rfl
  .split<;>rfl
 .have u:Ag (0+(s.size:Int))=s.size:=d?
  grind
theorem zN(θ:0<s.size)(ε:(s.size:Int)<=4611686018427387904):∃t n e,Pr s 0=Y (t,n,e)/\(((decide (e=0))&&(decide (n=(s.size:Int))))&&(decide (t.fu=1)))=Dl s:=by
 obtain ⟨m,Q,z,A,S⟩:=wN ε (sN (bt s 0));unfold Pr Dl;simp only[Qz (x_ 0) (show(0:Int)<s.size by omega),bs,dJ,gX,θ,decide_true,z!,Q];have κ:Ag (0+m)=m:=d?
 by_cases I:F9 (bt s 0)=X
 .have hd:sN (bt s 0)=T:=by
   unfold F9 at I;unfold sN
   grind
  have hm:=S hd;subst hm;simp only[I,if_true,hd,A',if_false,bs,κ];by_cases y:20<ML Rz s
  .refine⟨_,_,_,by rw[QQ i!],?_⟩
   grind
  .rw[aE i!,NW (x_ _) z A];refine⟨_,_,_,rfl,?_⟩
   grind
 .have J:F9 (bt s 0)=T:=by simpa using I
  simp only[J,A',if_false,bs,A_,κ];by_cases hd:sN (bt s 0)=X
  .simp only[hd,if_true,bs];by_cases η:9<m
   .exact⟨_,_,_,by rw[QQ (by simpa using η)],V⟩
   .rw[aE (by simpa using η),NW (x_ _) z A];exact⟨_,_,_,rfl,V⟩
  .have K:sN (bt s 0)=T:=by simpa using hd
   simp only[K,A',if_false,bs];by_cases Z:bt s 0=34
   .obtain⟨n,hn,B⟩:=pA θ ε;rw[QQ (by simpa using Z),hn,bs];rcases B with rfl|B
    .grind
    .rw[aE an];split
     .grind
     .have e1:Ag (0+1)=1:=a_
      have e2:Ag (0+n)=n:=d?
      rw [e1,e2,Ar (show -9223372036854775808<=n-1 by omega) U,NW U U U];exact⟨_,_,_,rfl,V⟩
   .rw[aE (by simpa using Z)];unfold PJ;rw[bs];generalize hL:([(⟨#[45,62]⟩:ByteArray),(⟨#[60,61]⟩:ByteArray),(⟨#[62,61]⟩:ByteArray),(⟨#[61,61]⟩:ByteArray),(⟨#[33,61]⟩:ByteArray),(⟨#[123]⟩:ByteArray),(⟨#[125]⟩:ByteArray),(⟨#[40]⟩:ByteArray),(⟨#[41]⟩:ByteArray),(⟨#[91]⟩:ByteArray),(⟨#[93]⟩:ByteArray),(⟨#[44]⟩:ByteArray),(⟨#[59]⟩:ByteArray),(⟨#[58]⟩:ByteArray),(⟨#[61]⟩:ByteArray),(⟨#[43]⟩:ByteArray),(⟨#[45]⟩:ByteArray),(⟨#[42]⟩:ByteArray),(⟨#[60]⟩:ByteArray),(⟨#[62]⟩:ByteArray),(⟨#[33]⟩:ByteArray),(⟨#[38]⟩:ByteArray),(⟨#[124]⟩:ByteArray),(⟨#[46]⟩:ByteArray),(⟨#[63]⟩:ByteArray)]:List ByteArray)=L;have M:∀x∈L,x.size<=2:=by subst hL;decide
    rcases Wc (f:=(λ(h:Int)(s0:GI)=>
      (idx L h).bind λD=>
      (if(decide ((Ag (0+(D.size:Int)))<=(s.size:Int)))=X then((idx L h).bind λE=>
      (Aag s 0 (Ag (0+(E.size:Int)))).bind λF=>
      (idx L h).bind λG=>
      Y (F==G))else Y T).bind λH=>
      if H=X then
      (idx L h).bind λu=>
      (idx L h).bind λw=>
      Y (B3.ret (GI.mk 4 u 0,(w.size:Int),(0:Int)))
      else
      Y (B3.next s0))) (λ_ s=>True) (λ_=>True) (λr=>r.1.fu=4) (a:=0) (b:=L.length) (s:=GI.mk 0 (⟨#[]⟩:ByteArray) 0) U trivial (λi t d C _=>by
      have hx:=M _ (AG d C);have N:Ag (0+((AA L i).size:Int))=(AA L i).size:=d?
      simp only[AD d C,bs,N];by_cases O:((AA L i).size:Int)<=s.size
      .rw[QQ (by simpa using O),NW U U O];simp only[bs];split
       .exact .inr (.inr ⟨_,rfl,rfl⟩)
       .exact .inl ⟨_,rfl,trivial⟩
      .rw[aE (by simpa using O)];simp only[bs];exact .inl ⟨_,rfl,trivial⟩)with⟨s',d,_⟩|⟨r,d,C⟩
    .rw[d];exact⟨_,_,_,rfl,V⟩
    .rw[d];exact⟨_,_,_,rfl,by simp[C]⟩
theorem RN(d:(s.size:Int)<=4611686018427387904):FV s=Y (Dl s):=by
 unfold FV PI Qb;simp only[show decide ((1:Int)=3)=T from rfl,A',if_false,bs];by_cases he:s=⟨#[]⟩
 .subst he;rfl
 grind [zN,dc]
end Go.Sf.Sc
namespace Go.Sf
variable{ρ β:Type}
def nz(e:Int):K1:=if e=0 then W else Y e
theorem Nx(e:Int):(if(!decide (e=0))=X then Y (B3.ret e)else Y (B3.next ()))=Y (SB (nz e)):=by grind[nz,SB]
theorem um(b:Bool)(r:ρ):(if b=X then Y (B3.ret r)else Y (B3.next ()))=Y (SB (if b=X then Y r else W)):=by
 cases b<;>rfl
variable{kr:ρ->Option β}
theorem Bj{σ:Type}{s:σ}{k:σ->Option β}:AL (Y (.inl s)) k kr=k s:=rfl
theorem R6{σ:Type}{r:ρ}{k:σ->Option β}:AL (Y (.inr r)) k kr=kr r:=rfl
theorem Dz(o:Option ρ)(k:Unit->Option β)(kr:ρ->Option β):AL (Y (ql o)) k kr=match o with|none=>k ()|some r=>kr r:=by
 cases o<;>rfl
theorem Cr(o:K1):AL (Y (ql o)) (λ_=>Y 0) (λv=>Y v)=Y (o.getD 0):=by
 cases o<;>rfl
variable{a b:Int}
theorem Uq{c:Int->Int}(h:(fst (λi=>nz (c i)) a b).getD 0=0):∀i,a<=i->i<b->c i=0:=by
 have:fst (λi=>nz (c i)) a b=W:=by
  cases hf:fst (λi=>nz (c i)) a b with
  |none=>rfl|some r=>
   grind [v?,DG,nz]
 grind [BQ,nz]
variable{e:Int}
theorem Qv:nz e=W↔e=0:=by grind[nz]
theorem Wg{α:Type}[Inhabited α]{l:List α}{f:α->I1}{p:α->Bool}(h:∀x∈l,f x=Y (p x)):
  (AL (Aj (ρ:=Int) (λ(w:Int)(_:Unit)=>(idx l w).bind λd=>(f d).bind λu=>if u=X then Y (.ret w)else Y (.next ())) 0 (l.length:Int) ()) (λ_=>Y (-1)) (λA=>Y A))=
   Y ((fst (λi=>if p (AA l i)=X then Y i else W) 0 l.length).getD (-1)):=by
 rw [Bk (λi=>if p (AA l i)=X then Y i else W)]
 .rw[Dz];cases fst (λi=>if p (AA l i)=X then Y i else W) 0 l.length<;>rfl
 .intro i y z _;rw[AD y z,bs,h _ (AG y z),bs,um]
theorem Zh{α:Type}[Inhabited α]{l:List α}{p:α->Bool}:decide (0<=(fst (λi=>if p (AA l i)=X then Y i else W) 0 l.length).getD (-1))=l.any p:=by
 rw [He,gp];cases h:fst (λi=>if p (AA l i)=X then Y i else W) 0 l.length with
 |none=>
  grind [BQ,w_,Option.isSome_eq_false_iff,Option.isNone_iff_eq_none,AA]
 |some k=>
  grind [DG,AA,v?,w_,Option.isSome_iff_ne_none,BQ]
theorem FJ{α:Type}[Inhabited α]{l:List α}{f:α->I1}{p:α->Bool}(h:∀x∈l,f x=Y (p x)):
  ((AL (Aj (ρ:=Int) (λ(w:Int)(_:Unit)=>(idx l w).bind λd=>(f d).bind λu=>if u=X then Y (.ret w)else Y (.next ())) 0 (l.length:Int) ()) (λ_=>Y (-1)) (λy=>Y y)).bind λz=>Y (decide (0<=z)))=Y (l.any p):=by
 rw [Wg h,bs,Zh]
end Go.Sf
namespace Go.Sf.Sc
open Go Go.Sf
instance:Inhabited gt:=⟨⟨⟨#[]⟩,0,0,[]⟩⟩
instance:Inhabited Cd:=⟨⟨⟨#[]⟩,0,T,[]⟩⟩
instance:Inhabited DC:=⟨⟨⟨#[]⟩,0,0,0,0,0,0⟩⟩
instance:Inhabited Bu:=⟨⟨0,0,0⟩⟩
instance:Inhabited Cz:=⟨⟨0,0,⟨0,0⟩⟩⟩
instance:Inhabited Test:=⟨⟨0,⟨0,0⟩,⟨0,0⟩⟩⟩
instance:Inhabited c9:=⟨⟨0,[],⟨[],[]⟩,⟨⟨[],[]⟩,[],0,[]⟩⟩⟩
variable{l:Fp}
theorem Uj{f:Int->I1}{p:Int->Bool}(h:∀x∈l,f x=Y (p x)):BX l f=Y (l.any p):=FJ h
theorem fK{l:List Bu}{f:Bu->I1}{p:Bu->Bool}(h:∀x∈l,f x=Y (p x)):B9 l f=Y (l.any p):=FJ h
theorem bW{l:List c9}{f:c9->I1}{p:c9->Bool}(h:∀x∈l,f x=Y (p x)):C7 l f=Y (l.any p):=FJ h
theorem V6{l:List Cd}{p:Cd->Bool}:DH l (λx=>Y (p x))=Y (l.any p):=FJ (λ_ _=>rfl)
theorem eC{l:List DC}{p:DC->Bool}:ED l (λx=>Y (p x))=Y (l.any p):=FJ (λ_ _=>rfl)
theorem rm{l:List gt}{p:gt->Bool}:FY l (λx=>Y (p x))=Y (l.any p):=FJ (λ_ _=>rfl)
theorem bX{p:Int->Bool}:BX l (λx=>Y (p x))=Y (l.any p):=FJ (λ_ _=>rfl)
theorem fL{l:List Bu}{p:Bu->Bool}:B9 l (λx=>Y (p x))=Y (l.any p):=FJ (λ_ _=>rfl)
theorem fM{l:List Cz}{p:Cz->Bool}:Dy l (λx=>Y (p x))=Y (l.any p):=FJ (λ_ _=>rfl)
theorem lH(l:Fp)(v:Int):slices_Index_int l v=Y ((fst (λi=>if decide (v=AA l i)=X then Y i else W) 0 l.length).getD (-1)):=by
 have:=Wg (l:=l) (f:=λx=>Y (decide (v=x))) (p:=λx=>decide (v=x)) (λ_ _=>rfl);unfold slices_Index_int
 grind
theorem LD(l:Fp)(v:Int):slices_Contains_int l v=Y (l.any λx=>decide (v=x)):=by grind[slices_Contains_int,lH,Zh]
theorem rx(l:Ne)(v:Bool):FZ l v=Y (l.any λx=>v==x):=by
 have:=FJ (l:=l) (f:=λx=>Y (v==x)) (p:=λx=>v==x) (λ_ _=>rfl);unfold FZ JE
 grind
structure WQ(a:gt):Prop where
 name:(a.gi.size:Int)<=40
 names:a.kg.length<=25
 each:∀x∈a.kg,(x.size:Int)<=40
structure Ay(t:AC):Prop where
 d6:t.bq.length<=20
 d7:t.ca.length<=30
 name:∀n∈t.bq,(n.gi.size:Int)<=40
 Abq:∀n∈t.bq,n.kl.length<=30
 each:∀n∈t.bq,∀a∈n.kl,WQ a
 AbA:∀e∈t.ca,(e.gi.size:Int)<=40
def par(t:AC)(i:Int):Int:=(AA t.bq i).kq
def D6(t:AC)(k:Int):Prop:=∀i,0<=i->i<k->-1<=par t i/\par t i<i
def CF(t:AC):Nat->Int->List gt
 |0,_=>[]|n+1,a=>if a<0 then[]else CF t n (par t a)++(AA t.bq a).kl
def A4(t:AC)(a:Int):List gt:=CF t (a+1).toNat a
variable{t:AC}{a:Int}
theorem Jv{n:Nat}(h:a<0):CF t n a=[]:=by
 cases n with
 |zero=>rfl|succ n=>rw[CF,QQ h]
variable{k:Int}
theorem NB(d:D6 t k):∀(n m:Nat)(a:Int),a<k->a<n->a<m->CF t n a=CF t m a
 |n,m,a,h,hn,u=>by
  by_cases f:a<0
  .grind[Jv]
  .cases n with
   |zero=>omega|succ n=>
    cases m with
    |zero=>omega|succ m=>
     rw [CF,CF,aE f,aE f];have:=d a U h;rw[NB d n m (par t a) U U U]
theorem Nf(hf:Ay t)(f:k<=t.bq.length)(d:D6 t k):∀(n:Nat)(a:Int),a<k->((CF t n a).length:Int)<=30*n
 |0,_,_=>by simp[CF]|n+1,a,h=>by
  rw [CF];split
  .simp;omega
  .rename_i u;have w:=d a U h;have y:=Nf hf f d n (par t a) U;have z:=hf.Abq _ (AG (l:=t.bq) (show 0<=a by omega) U)
   grind
theorem XG(hf:Ay t)(h:k<=t.bq.length)(f:D6 t k):∀(n:Nat)(a:Int),a<k->∀x∈CF t n a,WQ x
 |0,_,_=>by simp[CF]|n+1,a,u=>by
  rw [CF];split
  .simp
  .rename_i w;have y:=f a U u;intro x d;rcases D!.1 d with d|d
   .exact XG hf h f n (par t a) U x d
   .exact hf.each _ (AG (l:=t.bq) (show 0<=a by omega) U) x d
theorem G5(hf:Ay t)(d:k<=t.bq.length)(f:D6 t k)(h:a<k):(A4 t a).length<=600:=by
 have:=Nf hf d f (a+1).toNat a h;have:=hf.d6;unfold A4;omega
theorem Ng(hf:Ay t)(d:k<=t.bq.length)(f:D6 t k)(h:a<k):∀x∈A4 t a,WQ x:=XG hf d f _ a h
theorem cg(hf:Ay t)(u:k<=t.bq.length)(h:D6 t k):∀(n:Nat)(a:Int),0<=a->a<k->a<n->Ej n t a=Y (CF t n a)
 |0,_,_,_,_=>by omega|n+1,a,y,D,hn=>by
  have E:=h a U D;have z:=Nf hf u h n (par t a) U;have F:=hf.Abq _ (AG (l:=t.bq) y U);have G:=hf.d6;rw[Ej,CF,aE U,AD y U];simp only[bs];show((if decide (0<=par t a)=X then(Ej n t (par t a)).bind λf=>Y f else Y []).bind _)=_;have e:(if decide (0<=par t a)=X then(Ej n t (par t a)).bind λf=>Y f else Y [])=Y (CF t n (par t a)):=by
   by_cases w:0<=par t a
   .rw[QQ n?,cg hf u h n (par t a) w U U];rfl
   .rw[aE n?,Jv U]
  have A:(CF t n (par t a)).length+(AA t.bq a).kl.length<=AY:=by
   unfold AY;have:((CF t n (par t a)).length:Int)<=30*n:=z;have B:CF t n (par t a)=CF t 20 (par t a):=by
    by_cases d:par t a<0
    .rw[Jv d,Jv d]
    .exact NB h n 20 (par t a) U U U
   have C:=Nf hf u h 20 (par t a) U;rw[<-B]at C;omega
  rw [e,bs,AU A];rfl
theorem gL(hf:Ay t)(d:k<=t.bq.length)(f:D6 t k)(h:0<=a)(u:a<k):Pa t a=Y (A4 t a):=
 EG (a+1).toNat λn hn=>by
  grind [cg,A4,NB]
theorem dB(hf:Ay t)(h:k<=t.bq.length)(f:D6 t k):∀(n:Nat)(a:Int),-1<=a->a<k->a+1<n->GX n t a=Y (CF t n a)
 |0,_,_,_,_=>by omega|n+1,a,D,z,hn=>by
  rw [GX,CF];by_cases d:a<0
  .grind
  .have A:=f a U z;have B:=hf.Abq _ (AG (l:=t.bq) (show 0<=a by omega) U);have C:=hf.d6;rw[aE b?,aE d,AD U U];simp only[bs];have u:CF t n (par t a)=CF t 20 (par t a):=by
    by_cases d:par t a<0
    .rw[Jv d,Jv d]
    .exact NB f n 20 (par t a) U U U
   have w:=Nf hf h f 20 (par t a) U;rw[<-u]at w;have y:(CF t n (par t a)).length+(AA t.bq a).kl.length<=AY:=a?
   rw [show(AA t.bq a).kq=par t a from rfl,dB hf h f n (par t a) U U U,bs,AU a!];simp only[bs,List.nil_append];rw[AU y];rfl
theorem gW(hf:Ay t)(d:k<=t.bq.length)(f:D6 t k)(h:0<=a)(u:a<k):PK t a=Y (A4 t a):=
 EG (a+2).toNat λn hn=>by
  grind [dB,A4,NB]
end Go.Sf.Sc
namespace Go.Sf.Sc
open Go Go.Sf
def LI(l:List ByteArray):Int:=
 if (20:Int)<l.length then 3 else(fst (λi=>if Dl (AA l i)=T then Y 2 else if gp (λj=>AA l j==AA l i) 0 i=X then Y 5 else W) 0 l.length).getD 0
variable{b:Int}
theorem bd{l:List ByteArray}{x:ByteArray}(d:0<=b)(f:b<=l.length):(l.take b.toNat).contains x=gp (λj=>AA l j==x) 0 b:=by
 rw [List.contains_eq_any_beq,Q8 d f]
 grind
theorem se{l:List ByteArray}(u:∀x∈l,(x.size:Int)<=40):Mk l=Y (LI l):=by
 unfold Mk LI;by_cases d:(20:Int)<l.length
 .grind
 .rw[aE b?,aE d];rw[Bk (λi=>if Dl (AA l i)=T then Y 2 else if gp (λj=>AA l j==AA l i) 0 i=X then Y 5 else W),Cr];intro i f h _;have w:=u _ (AG f h);rw[AD f h,bs,RK U,bs,Lb f U];simp only[bs,QI,bd f (show i<=l.length by omega)];cases Dl (AA l i)<;>cases gp (λj=>AA l j==AA l i) 0 i<;>rfl
theorem tI{l:List ByteArray}(u:∀x∈l,(x.size:Int)<=40):MS l=Y (LI l):=by
 unfold MS LI;by_cases d:(20:Int)<l.length
 .grind
 .rw[aE b?,aE d];rw[Bk (λi=>if Dl (AA l i)=T then Y 2 else if gp (λj=>AA l j==AA l i) 0 i=X then Y 5 else W),Cr];intro i f h _;have w:=u _ (AG f h);rw[AD f h,bs,RN U,bs,BT (λj=>AA l j==AA l i) 5]
  .cases Dl (AA l i)<;>cases gp (λj=>AA l j==AA l i) 0 i<;>rfl
  grind [AD]
def Mm(all:List gt)(k:Int):Int:=
 let x:=AA all k
 if Dl x.gi=T then 2 else if gp (λj=>(AA all j).gi==x.gi) 0 k=X then 5 else
 if x.kg.length=0 then(if -1000000<=x.Low/\x.Low<=x.vB/\x.vB<=1000000 then 0 else 6)else
 if LI x.kg≠0 then LI x.kg else if x.Low=0/\x.vB=x.kg.length-1 then 0 else 6
variable{k:Int}
theorem eY{d:List gt}(y:∀x∈d,WQ x)(w:0<=k)(z:k<d.length):Iu (AA d k) (d.take k.toNat)=Y (Mm d k):=by
 have u:=y _ (AG w z);have hn:=u.name;unfold Iu Mm;dsimp only;rw[RK U,bs,show(λf=>JF f (AA d k))=(λf=>Y (f.gi==(AA d k).gi))from rfl,rm,bs,Q8 w U,se u.each,bs];have A:=u.names;have B:Ag ((AA d k).kg.length-1)=(AA d k).kg.length-1:=Ar U U;rw[B];have C:(AA d k).kg.length=0->LI (AA d k).kg=0:=λh=>by rw[List.eq_nil_of_length_eq_zero h];rfl
 generalize LI (AA d k).kg=e at C|-;simp only[bs,ml,A!,gN,A?,decide_eq_false_iff_not,B_,B',B!,ne_eq]
 repeat' (first|rfl|(exfalso;omega;done)|split)
 all_goals (first|rfl|(exfalso;omega)|omega|simp_all|(simp_all;omega))
theorem ee{x:gt}(d:WQ x):Ig x=Y (
 if x.kg.length=0 then(if -1000000<=x.Low/\x.Low<=x.vB/\x.vB<=1000000 then 0 else 6)else
 if LI x.kg≠0 then LI x.kg else if x.Low=0/\x.vB=x.kg.length-1 then 0 else 6):=by
 have f:=d.names;have h:Ag (x.kg.length-1)=x.kg.length-1:=Ar U U;unfold Ig Dg;simp only[bs,h,tI d.each];generalize LI x.kg=e;simp only[bs,ml,A!,gN,A?,decide_eq_false_iff_not,B_,B',B!,ne_eq]
 repeat' (first|rfl|(exfalso;omega;done)|split)
 all_goals (first|rfl|(exfalso;omega)|omega|simp_all|(simp_all;omega))
def JB(t:AC)(i:Int):Int:=
 let n:=AA t.bq i
 if Dl n.gi=T then 2 else if gp (λj=>(AA t.bq j).gi==n.gi) 0 i=X then 5 else
 if n.kq< -1\/i<=n.kq then 6 else if 4<n.kl.length\/8<(A4 t i).length then 3 else
 (fst (λk=>nz (Mm (A4 t i) k)) ((A4 t i).length-n.kl.length) (A4 t i).length).getD 0
variable{t:AC}{i:Int}
theorem XI(d:0<=i):(AA t.bq i).kl.length<=(A4 t i).length:=by
 unfold A4;rw[show(i+1).toNat=i.toNat+1 by omega,CF,aE U,a5];omega
theorem D6.next(h:D6 t i)(f:-1<=par t i)(u:par t i<i):D6 t (i+1):=by
 intro j d w;by_cases y:j=i
 .grind
 .exact h j d U
theorem vo(hf:Ay t)(f:0<=i)(z:i<t.bq.length)(D:D6 t i):OV t i=Y (JB t i):=by
 have hn:=hf.name _ (AG f z);unfold OV JB;dsimp only;rw[AD f z,bs,RK U,bs,Lb f U,bs,show(λw=>OW w (AA t.bq i))=(λw=>Y (w.gi==(AA t.bq i).gi))from rfl,V6,bs,Q8 f U];cases Dl (AA t.bq i).gi
 .rfl
 .cases gp (λj=>(AA t.bq j).gi==(AA t.bq i).gi) 0 i
  .by_cases h:(AA t.bq i).kq< -1\/i<=(AA t.bq i).kq
   .rcases h with h|h<;>simp[h]
   .have d:D6 t (i+1):=D.next (by unfold par;omega) (by unfold par;omega)
    have y:(decide ((AA t.bq i).kq< -1)||decide (i<=(AA t.bq i).kq))=T:=by
     rw [B?];simpa using h
    rw [gL hf (k:=i+1) U d f U,bs];have B:=G5 hf (k:=i+1) (a:=i) U d U;have C:=XI (t:=t) f;have u:=Ng hf (k:=i+1) (a:=i) U d U;rw[Ar U U,Bk (λk=>nz (Mm (A4 t i) k)),Cr]
    .simp only[y,h,C_,A',if_false];simp only[bs,ml,A!,gN,A?,decide_eq_false_iff_not,B_,B',B!,ne_eq]
     repeat' (first|rfl|(exfalso;omega;done)|split)
     all_goals (first|rfl|(exfalso;omega)|omega|simp_all|(simp_all;omega))
    .intro k E A _;rw[AD U A,bs,Lb U U,bs,eY u U A,bs,Nx]
  .rfl
theorem wM(hf:Ay t)(h:0<=i)(w:i<t.bq.length)(D:D6 t i):N3 t i=Y (JB t i):=by
 have hn:=hf.name _ (AG h w);have H:=hf.d6;unfold N3 JB Dg;dsimp only;rw[AD h w,bs,RN U,bs,BT (λj=>(AA t.bq j).gi==(AA t.bq i).gi) 5]
 .cases Dl (AA t.bq i).gi
  .rfl
  .cases gp (λj=>(AA t.bq j).gi==(AA t.bq i).gi) 0 i
   .simp only[C_,A',if_false,Bj,bs];rw[Ar U U];by_cases z:(AA t.bq i).kq< -1\/i<=(AA t.bq i).kq
    .rw[QQ,aE a_,QQ z];simp;omega
    .have d:D6 t (i+1):=D.next (by unfold par;omega) (by unfold par;omega)
     rw [aE an,aE a_,aE z];rw[gW hf (k:=i+1) U d h U,bs];have A:=G5 hf (k:=i+1) (a:=i) U d U;have B:=XI (t:=t) h;have f:=Ng hf (k:=i+1) (a:=i) U d U;rw[Ar U U];rw[Bk (λk=>nz (Mm (A4 t i) k)),Cr]
     .simp only[bs,ml,A!,gN,A?,decide_eq_false_iff_not,B_,B',B!,ne_eq]
      repeat' (first|rfl|(exfalso;omega;done)|split)
      all_goals (first|rfl|(exfalso;omega)|omega|simp_all|(simp_all;omega))
     .intro k y u _;have C:=f _ (AG (show 0<=k by omega) u);have F:=C.name;simp only[AD (show 0<=k by omega) u,bs];rw[RN U,bs,BT (λj=>(AA (A4 t i) j).gi==(AA (A4 t i) k).gi) 5]
      .rw[ee C];simp only[bs,Nx];unfold Mm;dsimp only;cases Dl (AA (A4 t i) k).gi
       .rfl
       .cases gp (λj=>(AA (A4 t i) j).gi==(AA (A4 t i) k).gi) 0 k<;>rfl
      .intro j E G _;rw[AD E U,bs];split<;>rfl
   .rfl
 .intro j y u _;rw[AD y U,bs];split<;>rfl
def Nh(low high:Int):Bool:=((decide (0<=low))&&(decide (low<=40)))&&((decide (high=(-1)))||((decide (low<=high))&&(decide (high<=40))))
theorem tC(low high:Int):Kg low high=Y (Nh low high):=by
 unfold Kg Nh Dg
 grind
def Ls(t:AC)(i:Int):Int:=
 let x:=AA t.ca i
 if Dl x.gi=T then 2 else if gp (λj=>(AA t.ca j).gi==x.gi) 0 i=X then 5 else
 if (0<=x.fd/\x.fd<t.bq.length)/\(0<=x.To/\x.To<t.bq.length)/\Nh x.AaI x.Aap=X/\Nh x.Aba x.AaJ=X then 0 else 6
theorem ve(hf:Ay t)(d:0<=i)(h:i<t.ca.length):OT t i=Y (Ls t i):=by
 have hn:=hf.AbA _ (AG d h);unfold OT Ls Lh;dsimp only;rw[AD d h,bs,RK U,bs,Lb d U,bs,show(λf=>OU f (AA t.ca i))=(λf=>Y (f.gi==(AA t.ca i).gi))from rfl,eC,bs,Q8 d U];simp[show∀a b,Ka a b=Y (Nh a b)from λ_ _=>rfl];generalize Dl (AA t.ca i).gi=b1;generalize gp (λj=>(AA t.ca j).gi==(AA t.ca i).gi) 0 i=b2;generalize Nh (AA t.ca i).AaI (AA t.ca i).Aap=b3;generalize Nh (AA t.ca i).Aba (AA t.ca i).AaJ=b4;cases b1
 .rfl
 grind
theorem wE(hf:Ay t)(u:0<=i)(w:i<t.ca.length):N2 t i=Y (Ls t i):=by
 have hn:=hf.AbA _ (AG u w);have z:=hf.d6;unfold N2 Ls Dg;dsimp only;rw[AD u w,bs,RN U,bs,BT (λj=>(AA t.ca j).gi==(AA t.ca i).gi) 5]
 .simp only[Ar (show -9223372036854775808<=(t.bq.length:Int)-1 by omega) U,tC,bs];generalize Dl (AA t.ca i).gi=b1;generalize gp (λj=>(AA t.ca j).gi==(AA t.ca i).gi) 0 i=b2;generalize Nh (AA t.ca i).AaI (AA t.ca i).Aap=b3;generalize Nh (AA t.ca i).Aba (AA t.ca i).AaJ=b4;cases b1
  .rfl
  .cases b2
   .cases b3<;>cases b4
    all_goals
     by_cases f:0<=(AA t.ca i).fd/\(AA t.ca i).fd<t.bq.length
     .have d:(AA t.ca i).fd<=(t.bq.length:Int)-1:=U
      by_cases y:0<=(AA t.ca i).To/\(AA t.ca i).To<t.bq.length
      .have h:(AA t.ca i).To<=(t.bq.length:Int)-1:=U
       simp [f,y,d,h,Bj]
      .have:(decide (0<=(AA t.ca i).To)&&decide ((AA t.ca i).To<=(t.bq.length:Int)-1))=T:=e?
       simp [f,y,d,this,Bj]
     .have:(decide (0<=(AA t.ca i).fd)&&decide ((AA t.ca i).fd<=(t.bq.length:Int)-1))=T:=e?
      simp [f,this,Bj]
   .rfl
 grind [AD]
def A8(t:AC):ByteArray×Int:=
 if t.bq.length=0 then(⟨#[]⟩,7)else if 12<t.bq.length\/20<t.ca.length then(⟨#[]⟩,3)else
 match fst (λi=>(nz (JB t i)).map λe=>((AA t.bq i).gi,e)) 0 t.bq.length with
 |some r=>r|none=>(fst (λi=>(nz (Ls t i)).map λe=>((AA t.ca i).gi,e)) 0 t.ca.length).getD (⟨#[]⟩,0)
theorem lQ(h:JB t i=0):-1<=par t i/\par t i<i:=by grind[JB,par,AA]
theorem On{α β:Type}{o:Option α}{g:α->β}:o.map g=W↔o=W:=by cases o<;>simp
theorem Wl(h:∀j,0<=j->j<i->JB t j=0):D6 t i:=λj d f=>lQ (h j d f)
theorem Vp{ρ:Type}(e:Int)(n:ByteArray):(if(!decide (e=0))=X then Y (B3.ret (n,e))else Y (B3.next ()))=Y (SB ((nz e).map λe=>(n,e))):=by grind[nz,SB]
theorem Ov(hf:Ay t):Ei t=Y (A8 t):=by
 unfold Ei A8;rw[Bk (λi=>(nz (JB t i)).map λe=>((AA t.bq i).gi,e)),Dz]
 .rw[Bk (λi=>(nz (Ls t i)).map λe=>((AA t.ca i).gi,e)),Dz]
  .cases fst (λi=>(nz (JB t i)).map λe=>((AA t.bq i).gi,e)) 0 t.bq.length<;>cases fst (λi=>(nz (Ls t i)).map λe=>((AA t.ca i).gi,e)) 0 t.ca.length
   all_goals dsimp only
   all_goals try simp only[v?]
   all_goals
    simp only[bs,ml,A!,gN,A?,decide_eq_false_iff_not,B_,B',B!,ne_eq]
    repeat' (first|rfl|(exfalso;omega;done)|split)
    all_goals (first|rfl|(exfalso;omega)|omega|simp_all|(simp_all;omega))
  .intro i d f _;rw[AD d f,bs,ve hf d f,bs];exact Vp (ρ:=Unit) _ _
 .intro i d f w;have y:D6 t i:=Wl λj h u=>Qv.1 (On.1 (w j h u));rw[AD d f,bs,vo hf d f y,bs];exact Vp (ρ:=Unit) _ _
theorem Sn(hf:Ay t):GM t=Y (A8 t):=by
 unfold GM A8;rw[Bk (λi=>(nz (JB t i)).map λe=>((AA t.bq i).gi,e)),Dz]
 .rw[Bk (λi=>(nz (Ls t i)).map λe=>((AA t.ca i).gi,e)),Dz]
  .cases fst (λi=>(nz (JB t i)).map λe=>((AA t.bq i).gi,e)) 0 t.bq.length<;>cases fst (λi=>(nz (Ls t i)).map λe=>((AA t.ca i).gi,e)) 0 t.ca.length
   all_goals dsimp only
   all_goals try simp only[v?]
   all_goals
    simp only[bs,ml,A!,gN,A?,decide_eq_false_iff_not,B_,B',B!,ne_eq]
    repeat' (first|rfl|(exfalso;omega;done)|split)
    all_goals (first|rfl|(exfalso;omega)|omega|simp_all|(simp_all;omega))
  .intro i d f _;simp only[wE hf d f,AD d f,bs];exact Vp (ρ:=Unit) _ _
 .intro i d f w;have y:D6 t i:=Wl λj h u=>Qv.1 (On.1 (w j h u));simp only[wM hf d f y,AD d f,bs];exact Vp (ρ:=Unit) _ _
end Go.Sf.Sc
namespace Go.Sf.Sc
open Go Go.Sf
theorem Hk{α:Type}{c:Bool}{a b:α}:(if c=X then Y a else Y b)=Y (if c=X then a else b):=by cases c<;>rfl
def Kw(n:Int):Bool:=(decide (0<=n))&&(decide (n<=99))
def SJ(e:Bu)(n:Int):Bool:=Kw e.fa&&(decide (0<=e.fd)&&decide (e.fd<n))&&(decide (0<=e.To)&&decide (e.To<n))
def Bt(g:ci):Int:=
 if 40<g.bq.length\/80<g.ca.length then 3 else if(g.bq.any λn=>!Kw n)=X then 6 else if(g.ca.any λe=>!SJ e g.bq.length)=X then 6 else 0
structure BW(g:ci):Prop where
 d6:g.bq.length<=40
 d7:g.ca.length<=80
 kind:∀n∈g.bq,0<=n/\n<=99
 fit:∀e∈g.ca,(0<=e.fa/\e.fa<=99)/\(0<=e.fd/\e.fd<g.bq.length)/\(0<=e.To/\e.To<g.bq.length)
variable{g:ci}
theorem DQ(h:Bt g=0):BW g:=by
 unfold Bt at h;split at h
 .cases h
 .split at h
  .cases h
  .split at h
   .cases h
   .rename_i u f d;refine⟨U,U,λn hn=>?_,λe he=>?_⟩
    .rw[C',D?]at f
     grind [Kw]
    .rw[C',D?]at d;have:=d e he;simp[SJ,Kw,A?,ml]at this;omega
theorem vj{e:Bu}{n:Nat}(h:n<=40):Nq e n=Y (SJ e n):=by
 unfold Nq Hi SJ Kw;simp only[bs,Ar (show -9223372036854775808<=(n:Int)-1 by omega) U];have d:decide (e.fd<=(n:Int)-1)=decide (e.fd<n):=h!
 have f:decide (e.To<=(n:Int)-1)=decide (e.To<n):=h!
 rw [d,f];generalize (decide (0<=e.fa)&&decide (e.fa<=99))=b1;generalize (decide (0<=e.fd)&&decide (e.fd<n))=b2;cases b1<;>cases b2<;>simp
theorem NN(g:ci):D2 g=Y (Bt g):=by
 unfold D2 Bt;by_cases h:40<g.bq.length\/80<g.ca.length
 .grind
 .rw[aE an,aE h,show Mp=(λn=>Y (!Kw n))from rfl,bX,fK (p:=λe=>!SJ e g.bq.length) (λe _=>by
   grind [Mq,vj])]
  grind
theorem NO(g:ci):D3 g=Y (Bt g):=by
 unfold D3 Bt;by_cases h:40<g.bq.length\/80<g.ca.length
 .grind
 .rw[aE an,aE h,He,He,BT (λi=>!Kw (AA g.bq i)) 6]
  .rw[BT (λi=>!SJ (AA g.ca i) g.bq.length) 6]
   .cases gp (λi=>!Kw (AA g.bq i)) 0 g.bq.length
    .cases gp (λi=>!SJ (AA g.ca i) g.bq.length) 0 g.ca.length<;>rfl
    .rfl
   .intro i d f _;rw[AD d f,bs];unfold PM SJ;simp[show∀n,Lz n=Y (Kw n)from λ_=>rfl]
    grind
  grind [AD,Lz,AA,Kw]
def CS(t:AC)(g:ci):Bool:=!(g.bq.any λn=>decide (t.bq.length<=n))&&!(g.ca.any λe=>decide (t.ca.length<=e.fa))
variable{t:AC}
theorem Ez(d:BW g)(h:CS t g=X):(∀n∈g.bq,0<=n/\n<t.bq.length)/\∀e∈g.ca,0<=e.fa/\e.fa<t.ca.length:=by
 unfold CS at h;simp[A?,ml]at h;refine⟨λn hn=>?_,λe he=>?_⟩
 .have:=h.1 n hn;have:=d.kind n hn;omega
 .have:=h.2 e he;have:=d.fit e he;omega
theorem s7(t:AC)(g:ci):OH t g=Y (CS t g):=by grind[OH,CS,OI,bX,OJ,Bu,fL]
theorem Yx(h:BW g):HN t g=Y (CS t g):=by
 unfold HN CS;rw[He,He,BT (λi=>decide (t.bq.length<=AA g.bq i)) T]
 .rw[BT (λi=>decide (t.ca.length<=(AA g.ca i).fa)) T]
  .cases gp (λi=>decide (t.bq.length<=AA g.bq i)) 0 g.bq.length
   .cases gp (λi=>decide (t.ca.length<=(AA g.ca i).fa)) 0 g.ca.length<;>rfl
   .rfl
  .intro i d f _;have:=(h.fit _ (AG d f)).1.1;simp[AD d f]
   grind
 .intro i d f _;have:=(h.kind _ (AG d f)).1;simp[AD d f]
  grind
structure D7(t:AC):Prop where
 d6:t.bq.length<=12
 d7:t.ca.length<=20
 node:∀i:Int,0<=i->i<t.bq.length->JB t i=0
 edge:∀i:Int,0<=i->i<t.ca.length->Ls t i=0
theorem CY(h:(A8 t).2=0):D7 t:=by
 unfold A8 at h;split at h
 .cases h
 .split at h
  .cases h
  .rename_i y z;have hn:∀i:Int,0<=i->i<t.bq.length->JB t i=0:=by
    grind [DG,nz,Qv,On,BQ]
   have he:∀i:Int,0<=i->i<t.ca.length->Ls t i=0:=by
    split at h
    next r d=>obtain⟨i,u,w,f,_⟩:=DG d;rw[hn i u w]at f;cases f
    .cases d:fst (λi=>(nz (Ls t i)).map λe=>((AA t.ca i).gi,e)) 0 t.ca.length with
     |some r=>
      grind [DG,nz]
     |none=>
      grind [Qv,On,BQ]
   exact ⟨U,U,hn,he⟩
theorem D7.par(h:D7 t):D6 t t.bq.length:=Wl h.node
variable{i:Int}
theorem D7.ends(h:D7 t)(d:0<=i)(f:i<t.ca.length):(0<=(AA t.ca i).fd/\(AA t.ca i).fd<t.bq.length)/\(0<=(AA t.ca i).To/\(AA t.ca i).To<t.bq.length):=by
 have:=h.edge i d f
 grind [Ls]
def Kv(t:AC)(a:Int):Bool:=decide (0<=a)&&decide (a<t.bq.length)
variable{a:Int}
theorem Lx:Kv t a=X↔0<=a/\a<t.bq.length:=by unfold Kv;simp
theorem Yo(hf:Ay t)(l:Fp):I7 t l=Y (if(A8 t).2≠0 then(A8 t).2 else if(l.all (Kv t))=X then 0 else 6):=by
 unfold I7;rw[Ov hf,bs,Uj (p:=λa=>!Kv t a) (λa _=>by unfold My Kv;rw[show decide (a<0)=!decide (0<=a)from by rw[<-decide_not,decide_eq_decide];omega,show decide ((t.bq.length:Int)<=a)=!decide (a<t.bq.length)from by rw[<-decide_not,decide_eq_decide];omega,Bool.not_and]),bs]
 grind
theorem gY(hf:Ay t)(a b:Int):Kh t a b=Y (if(A8 t).2≠0 then(A8 t).2 else if(Kv t a&&Kv t b)=X then 0 else 6):=by
 have d:=hf.d6;have e:∀a,decide (a<=(t.bq.length:Int)-1)=decide (a<(t.bq.length:Int)):=λa=>h!
 unfold Kh Dg;rw[Sn hf,bs]
 grind [Ar,A8,Kv]
theorem me{α:Type}[Inhabited α]{l:List α}(d:0<=i)(f:i<l.length):BM l i (AA l i)=l:=by grind[BM,AA,E_,List.set_getElem_self]
theorem Cb{α:Type}[Inhabited α]{l:List α}(d:0<=i)(f:i<l.length):l.take (i+1).toNat=l.take i.toNat++[AA l i]:=by
 unfold AA;rw[show(i+1).toNat=i.toNat+1 by omega,List.take_add_one,E',E_ U];rfl
theorem BO{α:Type}{l:List α}(h:l.length<=AY):Al [] l=Y l:=by grind[AU]
def GR(t:AC)(a:Int):List gt×Int:=if(A8 t).2≠0 then([],(A8 t).2)else if Kv t a=X then(A4 t a,0)else([],6)
theorem Sj(hf:Ay t)(a:Int):GQ t a=Y (GR t a):=by
 unfold GQ GR;rw[Yo hf,bs];by_cases h:(A8 t).2=0
 .have u:=CY h;have e:[a].all (Kv t)=Kv t a:=V
  rw [e];simp[h];cases hi:Kv t a
  .rfl
  .rw[QQ rfl,QQ rfl];have w:=Lx.1 hi;have H:=G5 hf (x_ _) u.par w.2;have F:=Ng hf (x_ _) u.par w.2;rw[aE a_,gL hf (x_ _) u.par w.1 w.2,bs];obtain⟨s',G,rfl⟩:=Ok (f:=(λ(y:Int)(z:List gt)=>
 (idx z y).bind λA=>
 (slices_Clone_string A.kg).bind λB=>
 (idx z y).bind λd=>
 Y (BM z y (gt.mk d.gi d.Low d.vB B)))) (λ_ s=>s=A4 t a) (a:=0) (b:=(A4 t a).length) (s:=A4 t a) U rfl (λi s C D E=>by
     subst E;have:=(F _ (AG C D)).names;refine⟨A4 t a,?_,rfl⟩;unfold slices_Clone_string;rw[AD C D,bs,BO a?,bs,bs];congr 1;exact me C D)
   rw [G];rfl
 .simp[h,not_false_eq_true,decide_false]
theorem Qy(hf:Ay t)(a:Int):Ed t a=Y (GR t a):=by
 unfold Ed GR;rw[gY hf,bs];by_cases h:(A8 t).2=0
 .have d:=CY h;rw[Bool.and_self];simp only[h,ne_eq,not_true_eq_false,if_false];cases hi:Kv t a
  .rfl
  .rw[QQ rfl,QQ rfl];have f:=Lx.1 hi;have z:=G5 hf (x_ _) d.par f.2;have y:=Ng hf (x_ _) d.par f.2;rw[aE a_,gW hf (x_ _) d.par f.1 f.2,bs];rw[BR (λi=>(A4 t a).take i.toNat) U V]
   .rw[bs,x!,E!]
   .intro i u w;have:=(y _ (AG u w)).names;rw[AD u w,bs,BO a?,bs,AU (by rw[a6];simp;unfold AY;omega),Cb u w];rfl
 grind
theorem Lw(h:BW g):Bt g=0:=by
 have:=h.d6;have:=h.d7;unfold Bt;rw[aE U,aE,aE]
 .intro k;obtain⟨e,he,k⟩:=E?.1 k;have:=h.fit e he;simp[SJ,Kw]at k;omega
 .intro k;obtain⟨n,hn,k⟩:=E?.1 k;have:=h.kind n hn;simp[Kw]at k;omega
end Go.Sf.Sc
namespace Go.Sf.Sc
open Go Go.Sf
def F3(t:AC):Nat->Int->Fp
 |0,_=>[]|n+1,a=>if a<0 then[]else a::F3 t n (par t a)
variable{t:AC}{k:Int}
theorem nJ(f:D6 t k):∀(n m:Nat)(a:Int),a<k->a<n->a<m->F3 t n a=F3 t m a
 |n,m,a,h,hn,u=>by
  by_cases d:a<0
  .cases n<;>cases m<;>simp[F3,d]
  .cases n with
   |zero=>omega|succ n=>
    cases m with
    |zero=>omega|succ m=>
     rw [F3,F3,aE d,aE d];have:=f a U h;rw[nJ f n m (par t a) U U U]
theorem iH(t:AC):∀(n:Nat)(a:Int),(F3 t n a).length<=n
 |0,_=>by simp[F3]|n+1,a=>by
  rw [F3];split
  .simp
  .have:=iH t n (par t a);simp;omega
def x9(t:AC)(a b:Int):Bool:=(F3 t (a+1).toNat a).any λx=>decide (b=x)
theorem fx(f:t.bq.length<=12)(y:D6 t t.bq.length):∀(n:Nat)(a:Int)(l:Fp),a<t.bq.length->a<n->l.length+n<=1000 ->
  ∃x,LB (ρ:=Fp) (λ(d:Int×Fp)=>
 if (decide (0<=d.1))=X then
 (Al d.2 [d.1]).bind λh=>
 (idx t.bq d.1).bind λu=>
 Y (.next (u.kq,h))
 else
 Y (.brk (d.1,d.2))) (a,l) (.inl (x,l++F3 t n a))
 |0,a,l,w,z,_=>by
  refine ⟨a,.brk ?_⟩
  grind [F3]
 |n+1,a,l,w,z,D=>by
  by_cases A:a<0
  .refine⟨a,.brk ?_⟩
   grind [F3]
  .have B:=y a U w;obtain⟨x,C⟩:=fx f y n (par t a) (l++[a]) U U an;refine⟨x,.next (s':=(par t a,l++[a])) ?_ ?_⟩
   .rw[QQ an,AU a!,bs,AD U w];rfl
   grind [F3,par]
variable{a b:Int}
theorem oj(h:D7 t)(w:0<=a)(d:a<t.bq.length):M6 t a b=Y (x9 t a b):=by
 have f:=h.d6;obtain⟨x,u⟩:=fx f h.par (a+1).toNat a [] d U an;have y:=iH t (a+1).toNat a;unfold M6 Qp;rw[u.eq,Bj]
 grind [slices_Reverse_int,AY,LD,x9]
theorem dF(d:D6 t t.bq.length)(u:0<=b):∀(n m:Nat)(a:Int),-1<=a->a<t.bq.length->a+1<n->a<m->Fr n t a b=Y ((F3 t m a).any λx=>decide (b=x))
 |0,_,_,_,_,_,_=>by omega|n+1,m,a,y,h,z,A=>by
  rw [Fr];by_cases f:a<0
  .rw[aE an,aE an];cases m<;>simp[F3,f]
  .cases m with
   |zero=>omega|succ m=>
    have w:=d a U h;rw[F3,aE f,List.any_cons,QQ (show decide (0<=a)=X by simp;omega),AD U h];simp;rw[show(AA t.bq a).kq=par t a from rfl,dF d u n m (par t a) U U U U]
    grind
theorem Vx(h:D7 t)(u:0<=a)(d:a<t.bq.length)(f:0<=b):Hl t a b=Y (x9 t a b):=
 EG (a+2).toNat λn hn=>dF h.par f n (a+1).toNat a U d U U
def Fw(t:AC)(e f g:Int):Bool:=
 decide ((A8 t).2=0)&&(Kv t f&&Kv t g)&&(decide (0<=e)&&decide (e<t.ca.length))&&(x9 t f (AA t.ca e).fd&&x9 t g (AA t.ca e).To)
theorem cd(hf:Ay t)(e f g:Int):KH t e f g=Y (Fw t e f g):=by
 unfold KH Fw;rw[Yo hf,bs,show[f,g].all (Kv t)=(Kv t f&&Kv t g)by simp];by_cases h:(A8 t).2=0
 .simp only[h,ne_eq,not_true_eq_false,if_false];have d:=CY h;cases hi:(Kv t f&&Kv t g)
  .rfl
  .rw[gN,Lx,Lx]at hi;by_cases he:0<=e/\e<t.ca.length
   .rw[aE an,AD he.1 he.2];simp[oj d hi.1.1 hi.1.2,oj d hi.2.1 hi.2.2,he.1,he.2,decide_true]
    grind
   grind
 .simp[h]
theorem X5(hf:Ay t)(e f g:Int):GL t e f g=Y (Fw t e f g):=by
 have z:=hf.d7;unfold GL Fw Dg;rw[gY hf,bs];by_cases h:(A8 t).2=0
 .simp only[h,ne_eq,not_true_eq_false,if_false];have d:=CY h;cases hi:(Kv t f&&Kv t g)
  .rfl
  .rw[gN,Lx,Lx]at hi;rw[Ar U U];simp only[bs];by_cases he:0<=e/\e<t.ca.length
   .have u:=d.ends he.1 he.2;have w:e<=(t.ca.length:Int)-1:=U
    rw [aE V,bs,aE (by simp[he.1,w]),AD he.1 he.2];simp[Vx d hi.1.1 hi.1.2 u.1.1,Vx d hi.2.1 hi.2.2 u.2.1,he.1,he.2,decide_true];cases x9 t f (AA t.ca e).fd<;>rfl
   .have:(decide (0<=e)&&decide (e<t.ca.length))=T:=by rw[B?];simpa using he
    have y:(decide (0<=e)&&decide (e<=(t.ca.length:Int)-1))=T:=e?
    rw [this,y];simp
 .simp[h]
def OP(n:Int)(x:fb):Bool:=(((decide ((-1)<=x.Var))&&(decide (x.Var<n)))&&(decide ((-1000000)<=x.Add)))&&(decide (x.Add<=1000000))
def PX(n:Int)(x:Test):Int:=if¬x.fu=1/\¬x.fu=2 then 1 else if(OP n x.eh&&OP n x.d5)=X then 0 else 6
def KZ(n:Int)(l:List Test):Int:=if n<0\/12<n then 6 else if 40<l.length then 3 else(fst (λi=>nz (PX n (AA l i))) 0 l.length).getD 0
theorem vr(n:Int)(x:Test):JL n x=Y (PX n x):=by
 unfold JL PX;simp only[show∀n x,IV n x=Y (OP n x)from λ_ _=>rfl,bs];generalize OP n x.eh=b1;generalize OP n x.d5=b2;cases b1<;>cases b2
 all_goals
  simp only[bs,ml,A!,gN,A?,decide_eq_false_iff_not,B_,B',B!,ne_eq]
  repeat' (first|rfl|(exfalso;omega;done)|split)
  all_goals (first|rfl|(exfalso;omega)|omega|simp_all|(simp_all;omega))
theorem pF(n:Int)(x:fb):JR n x=Y (if OP n x=X then 0 else 6):=by
 unfold JR OP;simp only[bs,ml,A!,gN,A?,decide_eq_false_iff_not,B_,B',B!,ne_eq]
 repeat' (first|rfl|(exfalso;omega;done)|split)
 all_goals (first|rfl|(exfalso;omega)|omega|simp_all|(simp_all;omega))
theorem wQ(n:Int)(x:Test):Pt n x=Y (PX n x):=by
 unfold Pt PX;simp only[pF,bs];generalize OP n x.eh=b1;generalize OP n x.d5=b2;cases b1<;>cases b2
 all_goals
  simp only[bs,ml,A!,gN,A?,decide_eq_false_iff_not,B_,B',B!,ne_eq]
  repeat' (first|rfl|(exfalso;omega;done)|split)
  all_goals (first|rfl|(exfalso;omega)|omega|simp_all|(simp_all;omega))
theorem sz(n:Int)(l:List Test):Hf n l=Y (KZ n l):=by
 unfold Hf KZ;rw[Bk (λi=>nz (PX n (AA l i))),Cr]
 .simp only[bs,ml,A!,gN,A?,decide_eq_false_iff_not,B_,B',B!,ne_eq]
  repeat' (first|rfl|(exfalso;omega;done)|split)
  all_goals (first|rfl|(exfalso;omega)|omega|simp_all|(simp_all;omega))
 .intro i d f _;rw[AD d f,bs,vr,bs,Nx]
theorem tO(n:Int)(l:List Test):MR n l=Y (KZ n l):=by
 unfold MR KZ;rw[Bk (λi=>nz (PX n (AA l i))),Cr]
 .simp only[bs,ml,A!,gN,A?,decide_eq_false_iff_not,B_,B',B!,ne_eq]
  repeat' (first|rfl|(exfalso;omega;done)|split)
  all_goals (first|rfl|(exfalso;omega)|omega|simp_all|(simp_all;omega))
 .intro i d f _;rw[AD d f,bs,wQ,bs,Nx]
def TB(t:AC)(p:d4)(node ix:Int):gt×Bool:=
 if node<0\/p.ci.bq.length<=node then(default,T)else
 let l:=(GR t (AA p.ci.bq node)).1
 if ix<0\/l.length<=ix then(default,T)else(AA l ix,X)
theorem XH(hf:Ay t)(a:Int):(GR t a).1.length<=600/\((GR t a).2≠0->(GR t a).1=[]):=by
 unfold GR;split
 .simp
 .rename_i h;have d:=CY (t:=t) U;split
  next hi=>exact⟨G5 hf (x_ _) d.par (Lx.1 hi).2,V⟩
  .simp
variable{p:d4}
theorem sX(hf:Ay t)(d:BW p.ci)(s:Cz):JK t p s=Y (TB t p s.j0 s.gt):=by
 have hn:=d.d6;unfold JK TB Ck;dsimp only;rw[Ar U U,bs];by_cases h:s.j0<0\/p.ci.bq.length<=s.j0
 .rw[QQ an,QQ h];rfl
 .rw[aE an,aE h,AD U U,bs,Sj hf,bs];have u:=(XH hf (AA p.ci.bq s.j0)).1;rw[Ar U U,bs];by_cases f:s.gt<0\/(GR t (AA p.ci.bq s.j0)).1.length<=s.gt
  .rw[QQ an,QQ f];rfl
  grind [AD]
theorem tA(hf:Ay t)(node d:Int):N7 t p node d=Y (TB t p node d):=by
 unfold N7 TB;dsimp only;by_cases h:node<0\/p.ci.bq.length<=node
 .rw[QQ an,QQ h];rfl
 .rw[aE an,aE h,AD U U,bs,Qy hf,bs];have u:=(XH hf (AA p.ci.bq node)).2;by_cases f:d<0\/(GR t (AA p.ci.bq node)).1.length<=d
  .rw[QQ an,QQ f];rfl
  grind [GR,AA,AD]
end Go.Sf.Sc
namespace Go.Sf
variable{σ ρ:Type}
def mn(s:σ)(o:Option ρ):B3 σ ρ:=match o with
 |none=>.next s|some r=>.ret r
def rX(s:σ)(o:Option ρ):σ ⊕ ρ:=match o with
 |none=>.inl s|some r=>.inr r
theorem b8{f:Int->σ->Option (B3 σ ρ)}(g:Int->σ)(c:Int->Option ρ):∀(n:Nat)(a:Int),
  (∀i,a<=i->i<a+n->(∀j,a<=j->j<i->c j=W)->f i (g i)=Y (mn (g (i+1)) (c i)))->FR f n a (g a)=Y (rX (g (a+n)) (FG c n a))
 |0,a,_=>by simp[FR,FG,rX]|n+1,a,h=>by
  have w:=h a (x_ _) U (λj d u=>U);rw[Em,w,FG];cases B:c a with
  |some r=>rfl|none=>
   simp only[mn];rw[show a+((n+1:Nat):Int)=a+1+n by omega];refine b8 g c n (a+1) (λi d u y=>h i U U (λj z A=>?_))
   grind
variable{a b:Int}
theorem Lt{f:Int->σ->Option (B3 σ ρ)}(g:Int->σ)(c:Int->Option ρ){s:σ}(d:a<=b)(u:s=g a)(h:∀i,a<=i->i<b->(∀j,a<=j->j<i->c j=W)->f i (g i)=Y (mn (g (i+1)) (c i))):Aj f a b s=Y (rX (g b) (fst c a b)):=by
 subst u;unfold Aj fst;have:=b8 g c (b-a).toNat a (λi w z y=>h i w U y)
 grind
variable{α:Type}
variable{e:Int}
theorem Di{ζ:K1}{δ:Int}(h:e=0->ζ=Y δ):(if(!decide (e=0))=X then Y e else ζ)=Y (if e≠0 then e else δ):=m_
variable{v:α}{ζ:Option α}{δ:α}
theorem Do(h:e=0->ζ=Y δ):(if(!decide (e=0))=X then Y v else ζ)=Y (if e≠0 then v else δ):=m_
variable{P:Prop}
theorem QG[Decidable P]{b:Bool}(d:b=X↔P)(h:¬P->ζ=Y δ):(if b=X then Y v else ζ)=Y (if P then v else δ):=m_
theorem V7{b:Bool}(h:b=X->ζ=Y δ):(if(!b)=X then Y v else ζ)=Y (if b=T then v else δ):=m_
theorem ZC{b:Bool}(h:b=T->ζ=Y δ):(if b=X then Y v else ζ)=Y (if b=X then v else δ):=m_
end Go.Sf
namespace Go.Sf.Sc
open Go Go.Sf
def TE(t:AC)(p:d4)(s:Cz):Bool:=!(TB t p s.j0 s.gt).2||decide (s.fb.Var< -1)||decide (p.ek<=s.fb.Var)||(decide (s.fb.Add< -1000000)||decide (1000000<s.fb.Add))
def LK(p:d4)(v:Int):Bool:=p.ed.any λs=>decide (s.fb.Var=v)
def GW(t:AC)(p:d4):Int:=
 if (A8 t).2≠0 then(A8 t).2 else if Bt p.ci≠0 then Bt p.ci else if CS t p.ci=T then 13 else
 if p.ek<0\/12<p.ek then 6 else if 10<p.ed.length\/10<p.f0.length then 3 else
 if (p.ed.any (TE t p))=X then 6 else if KZ p.ek p.f0≠0 then KZ p.ek p.f0 else
 if gp (λv=>!LK p v) 0 p.ek=X then 9 else 0
def KI(p:d4)(i:Int):Ne:=(F_ p.ek.toNat).map λ(v:Nat)=>(p.ed.take i.toNat).any λs=>decide (s.fb.Var=(v:Int))
variable{p:d4}
theorem kG:KI p 0=F! p.ek.toNat T:=by
 unfold KI;refine F? V (λn d f=>V)
theorem nL(p:d4)(i:Int):(KI p i).length=p.ek.toNat:=by simp[KI]
variable{i:Int}
theorem nM(d:0<=i)(f:i<p.ed.length)(hv:0<=(AA p.ed i).fb.Var):BM (KI p i) (AA p.ed i).fb.Var X=KI p (i+1):=by
 unfold BM;refine F? (by simp[KI]) (λn h u=>?_);simp[KI,Cb d f]
 grind
theorem kF(d:0<=i)(f:i<p.ed.length)(hv:(AA p.ed i).fb.Var<0):KI p i=KI p (i+1):=by
 refine F? (by simp[KI]) (λn h u=>?_);simp[KI,Cb d f]
 grind
theorem nK(p:d4):((KI p p.ed.length).any λx=>T==x)=gp (λv=>!LK p v) 0 p.ek:=by
 rw [z?,E?,C3];simp only[KI,x!,E!,G_,G!];constructor
 .rintro⟨x,⟨v,hv,rfl⟩,d⟩;refine⟨v,U,U,?_⟩
  grind [LK]
 .rintro⟨v,f,h,d⟩;refine⟨_,⟨v.toNat,U,rfl⟩,?_⟩
  grind [x?,LK]
theorem fi{α ρ:Type}[Inhabited α]{l:List α}{q:α->Bool}{v:ρ}:fst (λi=>if q (AA l i)=X then Y v else W) 0 l.length=if l.any q=X then Y v else W:=by
 rw [NC,He]
variable{t:AC}
theorem Xz(hf:Ay t)(p:d4):EQ t p=Y (GW t p):=by
 unfold EQ GW;rw[Ov hf,bs,NN,bs];refine Di λJ=>Di λH=>?_;have B:=DQ H;have e:((BX p.ci.bq (λd=>Gs d t)).bind λw=>
   (if w=X then Y X else((B9 p.ci.ca (λd=>Gt d t)).bind λy=>Y (y))))=Y (!CS t p.ci):=by
  unfold CS;rw[show(λd=>Gs d t)=(λ(n:Int)=>Y (decide (t.bq.length<=n)))from rfl,bX,show(λd=>Gt d t)=(λ(e:Bu)=>Y (decide (t.ca.length<=e.fa)))from rfl,fL];simp only[bs];cases p.ci.bq.any λn=>decide (t.bq.length<=n)<;>simp
 rw [<-w!,e,bs];refine V7 λI=>?_;unfold Ck;simp only[bs];refine QG j! λhv=>QG j! λK=>?_;unfold GV;rw[QQ U,bs,<-kG,Ar (show -9223372036854775808<=p.ek-1 by omega) U,Lt (KI p) (λi=>if TE t p (AA p.ed i)=X then Y 6 else W) U rfl,fi]
 .cases f:p.ed.any (TE t p)
  .simp only[A',if_false,rX,Bj,sz,bs,rx,nK];by_cases h:KZ p.ek p.f0=0
   .simp[h];cases gp (λv=>!LK p v) 0 p.ek<;>rfl
   .simp[h]
  .rfl
 .intro i z A _;rw[AD z A,bs,sX hf B,bs];unfold TE;by_cases f:(TB t p (AA p.ed i).j0 (AA p.ed i).gt).2=X
  .by_cases G:(AA p.ed i).fb.Var< -1\/p.ek<=(AA p.ed i).fb.Var
   .have C:(decide (-1<=(AA p.ed i).fb.Var)&&decide ((AA p.ed i).fb.Var<=p.ek-1))=T:=e?
    have D:(decide ((AA p.ed i).fb.Var< -1)||decide (p.ek<=(AA p.ed i).fb.Var))=X:=an
    rw [f,C,C! (!X),D];rfl
   .have C:(decide (-1<=(AA p.ed i).fb.Var)&&decide ((AA p.ed i).fb.Var<=p.ek-1))=X:=an
    have D:(decide ((AA p.ed i).fb.Var< -1)||decide (p.ek<=(AA p.ed i).fb.Var))=T:=e?
    rw [f,C,C! (!X),D];by_cases M:(AA p.ed i).fb.Add< -1000000\/1000000<(AA p.ed i).fb.Add
    .have E:(decide (-1000000<=(AA p.ed i).fb.Add)&&decide ((AA p.ed i).fb.Add<=1000000))=T:=e?
     have F:(decide ((AA p.ed i).fb.Add< -1000000)||decide (1000000<(AA p.ed i).fb.Add))=X:=an
     rw [E,F];rfl
    .have E:(decide (-1000000<=(AA p.ed i).fb.Add)&&decide ((AA p.ed i).fb.Add<=1000000))=X:=an
     have F:(decide ((AA p.ed i).fb.Add< -1000000)||decide (1000000<(AA p.ed i).fb.Add))=T:=e?
     rw [E,F];by_cases u:0<=(AA p.ed i).fb.Var
     .simp[u,decide_true];rw[AD u (by rw[nL];omega),bs,nM z A u];rfl
     .simp[u,decide_false];rw[kF z A U];rfl
  .rw[C']at f;rw[f];rfl
theorem rH(p:d4)(v:Int):LQ p v=Y (LK p v):=by
 unfold LQ LK;rw[BT (λi=>decide ((AA p.ed i).fb.Var=v)) X,He]
 .cases gp (λi=>decide ((AA p.ed i).fb.Var=v)) 0 p.ed.length<;>rfl
 .intro i d f _;rw[AD d f,bs,Hk]
theorem bB(hf:Ay t)(p:d4):HP t p=Y (GW t p):=by
 unfold HP GW;rw[Sn hf,bs,NO,bs];refine Di λz=>Di λw=>?_;have f:=DQ w;rw[Yx f,bs];refine V7 λy=>QG j! λhv=>QG j! λA=>?_;rw[BT (λi=>TE t p (AA p.ed i)) 6,<-He]
 .cases B:p.ed.any (TE t p)
  .simp only[A',if_false,Bj,tO,bs];by_cases d:KZ p.ek p.f0=0
   .simp only[d];rw[BT (λv=>!LK p v) 9]
    .cases gp (λv=>!LK p v) 0 p.ek<;>rfl
    .intro i h u _;rw[rH,bs,Hk]
   .simp[d]
  .rfl
 .intro i h u _;rw[AD h u,bs,tA hf,bs];unfold TE Mt
  grind
def PV(t:AC)(p:d4)(i:Int):Int:=
 let s:=AA p.ed i
 if s.j0<0\/p.ci.bq.length<=s.j0 then 6 else
 let l:=(GR t (AA p.ci.bq s.j0)).1
 if ((((((decide (s.gt<0))||(decide ((l.length:Int)<=s.gt)))||(decide (s.fb.Var<(-1))))||(decide (p.ek<=s.fb.Var)))||(decide (s.fb.Add<(-1000000))))||(decide (1000000<s.fb.Add)))=X then 6 else
 if gp (λj=>(decide ((AA p.ed j).j0=s.j0))&&(decide ((AA p.ed j).gt=s.gt))) 0 i=X then 5 else 0
theorem vq(hf:Ay t)(r:ec)(d:0<=i)(f:i<r.d5.ed.length):P2 t r i=Y (PV t r.d5 i):=by
 unfold P2 PV;dsimp only;rw[AD d f,bs];refine QG V λh=>?_;rw[AD U U,bs,Sj hf,bs,Lb d U,bs,
  show (λu=>PU u (AA r.d5.ed i))=(λy=>Y ((decide (y.j0=(AA r.d5.ed i).j0))&&(decide (y.gt=(AA r.d5.ed i).gt))))from rfl,fM,bs,Q8 d U]
 grind
theorem wO(hf:Ay t)(p:d4)(d:0<=i)(f:i<p.ed.length):OA t p i=Y (PV t p i):=by
 unfold OA PV;dsimp only;rw[AD d f,bs];refine QG V λh=>?_;rw[AD U U,bs,Qy hf,bs,
  BT (λj=>(decide ((AA p.ed j).j0=(AA p.ed i).j0))&&(decide ((AA p.ed j).gt=(AA p.ed i).gt))) 5]
 .refine ZC λ_=>?_;cases gp (λj=>(decide ((AA p.ed j).j0=(AA p.ed i).j0))&&(decide ((AA p.ed j).gt=(AA p.ed i).gt))) 0 i<;>rfl
 grind [AD,AA,gt]
def Ip(t:AC)(r:ec):Int:=
 if Bt r.d5.ci≠0 then Bt r.d5.ci else if CS t r.d5.ci=T then 13 else
 if r.d5.ek≠r.eh.ek\/0<r.d5.f0.length then 1 else if 10<r.d5.ed.length then 3 else
 (fst (λi=>nz (PV t r.d5 i)) 0 r.d5.ed.length).getD 0
theorem sf(hf:Ay t)(r:ec):OG t r=Y (Ip t r):=by
 unfold OG Ip;rw[NN,bs,s7,bs,Bk (λi=>nz (PV t r.d5 i)),Cr]
 .grind
 grind [vq,Nx]
theorem tK(hf:Ay t)(r:ec):Md t r=Y (Ip t r):=by
 unfold Md Ip;rw[NO,bs];refine Di λd=>?_;rw[Yx (DQ d),bs,Bk (λi=>nz (PV t r.d5 i)),Cr]
 .grind
 grind [wO,Nx]
end Go.Sf.Sc
namespace Go.Sf
variable{a b:Int}
theorem jD{ρ:Type}{c d:Int->Option ρ}(h:∀i,c i=d i):fst c a b=fst d a b:=by rw[funext h]
def Ao(l:Fp)(v:Int):Int:=(fst (λi=>if decide (v=AA l i)=X then Y i else W) 0 l.length).getD (-1)
variable{l:Fp}
theorem BH{v:Int}(h:v∈l):0<=Ao l v/\Ao l v<l.length/\AA l (Ao l v)=v/\∀j,0<=j->j<Ao l v->AA l j≠v:=by
 unfold Ao;cases hf:fst (λi=>if decide (v=AA l i)=X then Y i else W) 0 l.length with
 |none=>
  grind [A9,BQ]
 |some k=>
  grind [DG,AA]
variable{i j:Int}
theorem HL{R:Int->Int->Prop}(h:l.Pairwise R)(d:0<=i)(f:i<j)(u:j<l.length):R (AA l i) (AA l j):=by grind[G?,AA,E_]
theorem SC{R:Int->Int->Prop}(h:∀i j:Int,0<=i->i<j->j<l.length->R (AA l i) (AA l j)):l.Pairwise R:=by
 refine G?.2 (λi j d f u=>?_);have:=h i j U U U;unfold AA at this
 grind
theorem WX(y:l.Pairwise (·<·)){v:Int}(h:v∈l):(l.countP (λx=>decide (x<v)):Int)=Ao l v:=by
 obtain ⟨z,A,w,_⟩:=BH h;generalize G:Ao l v=k at z A w;have e:l=l.take k.toNat++l.drop k.toNat:=(List.take_append_drop _ _).symm;have B:(l.take k.toNat).countP (λx=>decide (x<v))=k.toNat:=by
  rw [List.countP_eq_length.2 (λx d=>?_),a6]
  .omega
  .obtain⟨i,E,F,rfl⟩:=A9 d;rw[a6]at F;rw[Qr U,ml,<-w];exact HL y E U A
 have C:(l.drop k.toNat).countP (λx=>decide (x<v))=0:=by
  rw [List.countP_eq_zero];intro x d;obtain⟨n,hn⟩:=List.getElem?_of_mem d;rw[List.getElem?_drop]at hn;have D:=(List.getElem?_eq_some_iff.1 hn).1;have f:x=AA l (k+n):=by
   unfold AA;rw[E',show(k+(n:Int)).toNat=k.toNat+n by omega,hn];rfl
  rw [ml,f,<-w];by_cases u:n=0
  .subst u;simp
  .have:=HL y z (show k<k+(n:Int)by omega) U;omega
 rw [e,List.countP_append,B,C];omega
end Go.Sf
namespace Go.Sf.Sc
open Go Go.Sf
theorem Qt(l:Fp)(v:Int):slices_Index_int l v=Y (Ao l v):=lH l v
theorem sI(l:Fp)(n:Int):(AL (Aj (ρ:=Int) (λ(h:Int)(_:Unit)=>
 (idx l h).bind λd=>
 if (decide (d=n))=X then
 Y (.ret h)
 else
 Y (.next ())) 0 (l.length:Int) ()) (λ_=>
 Y (-1)) (λu=>Y u))=Y (Ao l n):=by
 have:=Wg (l:=l) (f:=λx=>Y (decide (x=n))) (p:=λx=>decide (x=n)) (λ_ _=>rfl);simp only[bs]at this;rw[this];unfold Ao;congr 2;exact jD λi=>by simp[eq_comm]
theorem wK(l:Fp)(v:Int):Iz l v=Y (Ao l v):=sI l v
def hasB(l:Fp)(v:Int):Bool:=l.any λx=>decide (v=x)
variable{l:Fp}
theorem Aq{v:Int}:hasB l v=X↔v∈l:=by
 unfold hasB
 grind
theorem Ol(l:Fp)(n:Int):(AL (Aj (ρ:=Bool) (λ(f:Int)(_:Unit)=>
 (idx l f).bind λd=>
 if (decide (d=n))=X then
 Y (.ret X)
 else
 Y (.next ())) 0 (l.length:Int) ()) (λ_=>
 Y T) (λh=>Y h))=Y (hasB l n):=by
 unfold hasB;rw[BT (λi=>decide (n=AA l i)) X,He]
 .cases gp (λi=>decide (n=AA l i)) 0 l.length<;>rfl
 .intro i u w _;rw[AD u w,bs,Hk];simp[eq_comm]
theorem tG(l:Fp)(v:Int):R2 l v=Y (hasB l v):=Ol l v
theorem tF(l:Fp)(v:Int):Pv l v=Y (hasB l v):=Ol l v
def M1(l:Fp)(n:Int):Int:=(fst (λi=>if AA l i<0\/n<=AA l i then Y 6 else if 0<i/\AA l i<=AA l (i-1)then Y 12 else W) 0 l.length).getD 0
theorem q9(y:l.length<=1000)(n:Int):IG l n=Y (M1 l n):=by
 unfold IG M1;rw[Bk (λi=>if AA l i<0\/n<=AA l i then Y 6 else if 0<i/\AA l i<=AA l (i-1)then Y 12 else W),Cr];intro i u w _;rw[AD u w,bs];by_cases h:AA l i<0\/n<=AA l i
 .rw[QQ c?,QQ h];rfl
 .rw[aE c?,aE h];by_cases d:0<i
  .rw[QQ b?,Ar U U,AD U U,bs,bs];by_cases f:AA l i<=AA l (i-1)
   .rw[QQ d_,QQ ⟨d,f⟩];rfl
   .rw[aE d_,aE (λh=>f h.2)];rfl
  .rw[aE b?,bs,aE a_,aE (λh=>d h.1)];rfl
theorem rE(z:l.length<=1000)(n:Int):Gk l n=Y (M1 l n):=by
 unfold Gk M1;rw[Bk (λi=>if AA l i<0\/n<=AA l i then Y 6 else if 0<i/\AA l i<=AA l (i-1)then Y 12 else W),Cr];intro i u w _;rw[AD u w];simp only[bs];by_cases h:AA l i<0\/n<=AA l i
 .have:(if decide (AA l i<0)=X then Y X else Y (decide (n<=AA l i)))=Y X:=by
   rcases h with h|h
   .simp[h]
   .by_cases y:AA l i<0<;>simp[h,y]
  rw [this,bs,QQ rfl,QQ h];rfl
 .have:(if decide (AA l i<0)=X then Y X else Y (decide (n<=AA l i)))=Y T:=by
   rw [aE an,decide_eq_false U]
  rw [this,bs,aE a_,aE h];by_cases d:0<i
  .rw[QQ b?,Ar U U,AD U U,bs,bs];by_cases f:AA l i<=AA l (i-1)
   .rw[QQ d_,QQ ⟨d,f⟩];rfl
   .rw[aE d_,aE (λh=>f h.2)];rfl
  .rw[aE b?,bs,aE a_,aE (λh=>d h.1)];rfl
variable{a b:Int}
theorem Pj{c:Int->K1}(d:∀i,c i≠Y 0)(h:(fst c a b).getD 0=0):∀i,a<=i->i<b->c i=W:=by
 have:fst c a b=W:=by
  cases hf:fst c a b with
  |none=>rfl|some r=>
   grind [v?,DG]
 exact BQ.1 this
variable{n:Int}
theorem Ug(h:M1 l n=0):(∀x∈l,0<=x/\x<n)/\l.Pairwise (·<·):=by
 have A:=Pj (c:=λi=>if AA l i<0\/n<=AA l i then Y 6 else if 0<i/\AA l i<=AA l (i-1)then Y 12 else W) (λi=>by
  split
  .simp
  .split<;>simp) h
 have f:∀i:Int,0<=i->i<l.length->(0<=AA l i/\AA l i<n)/\(0<i->AA l (i-1)<AA l i):=by
  intro i u z;have:=A i u z;split at this
  .cases this
  .split at this
   .cases this
   .omega
 refine ⟨λx w=>?_,SC (λi j u d y=>?_)⟩
 .obtain⟨i,B,C,rfl⟩:=A9 w;exact(f i B C).1
 .obtain⟨k,D⟩:∃k:Nat,j=i+1+k:=⟨(j-i-1).toNat,U⟩;subst D;clear d
  induction k with
  |zero=>
   have:=(f (i+1) U U).2 U;rw[show i+1-1=i by omega]at this;simpa using this
  |succ k E=>
   have a:=E U;have b:=(f (i+1+((k+1:Nat):Int)) U y).2 U;rw[show i+1+((k+1:Nat):Int)-1=i+1+k by omega]at b;omega
theorem Th(f:l.length<=1000)(d:l.Pairwise (·<·))(v:Int):slices_BinarySearch_int l v=Y (((l.countP (λx=>decide (x<v)):Nat):Int),hasB l v):=by
 unfold slices_BinarySearch_int;rw[QQ ⟨a?,d.imp (λh=>U)⟩];congr 2;rw[z?,Aq,List.contains_iff_mem]
def Ms(g:ci)(p:A3):Int:=
 if M1 p.bq g.bq.length≠0 then M1 p.bq g.bq.length else if M1 p.ca g.ca.length≠0 then M1 p.ca g.ca.length else
 (fst (λi=>if(hasB p.bq (AA g.ca (AA p.ca i)).fd&&hasB p.bq (AA g.ca (AA p.ca i)).To)=X then W else Y 14) 0 p.ca.length).getD 0
structure bJ(g:ci)(p:A3):Prop where
 d6:(∀x∈p.bq,0<=x/\x<g.bq.length)/\p.bq.Pairwise (·<·)
 d7:(∀x∈p.ca,0<=x/\x<g.ca.length)/\p.ca.Pairwise (·<·)
 ends:∀x∈p.ca,(AA g.ca x).fd∈p.bq/\(AA g.ca x).To∈p.bq
variable{g:ci}
theorem VA{p:A3}(h:Ms g p=0):bJ g p:=by
 unfold Ms at h;split at h
 .omega
 .split at h
  .omega
  .rename_i y z;refine⟨Ug U,Ug U,λx f=>?_⟩;obtain⟨i,u,w,rfl⟩:=A9 f;have:=Pj (c:=λi=>if(hasB p.bq (AA g.ca (AA p.ca i)).fd&&hasB p.bq (AA g.ca (AA p.ca i)).To)=X then W else Y 14) (λi=>by
    split<;>simp) h i u w
   split at this
   next d=>rw[gN,Aq,Aq]at d;exact d
   .cases this
def DU(g:ci)(p:A3):Int:=if Bt g≠0 then Bt g else Ms g p
structure R9(p:A3):Prop where
 d6:p.bq.length<=1000
 d7:p.ca.length<=1000
theorem gO{p:A3}(d:R9 p):Ha g p=Y (DU g p):=by
 unfold Ha DU;rw[NN,bs];refine Di λw=>?_;have A:=DQ w;unfold Mx Ms;rw[q9 d.d6,bs,q9 d.d7,bs,w?];refine Di λy=>Di λz=>?_;obtain⟨a1,a2⟩:=Ug y;obtain⟨B,C⟩:=Ug z;rw[Bk (λi=>if(hasB p.bq (AA g.ca (AA p.ca i)).fd&&hasB p.bq (AA g.ca (AA p.ca i)).To)=X then W else Y 14),Cr];intro i f h _;have u:=B _ (AG f h);unfold Lc;rw[AD f h,bs,AD u.1 u.2];simp[Th d.d6 a2];cases hasB p.bq (AA g.ca (AA p.ca i)).fd<;>cases hasB p.bq (AA g.ca (AA p.ca i)).To<;>rfl
theorem Yv{p:A3}(d:R9 p):Iy g p=Y (DU g p):=by
 unfold Iy DU;rw[NO,bs];refine Di λw=>?_;have z:=DQ w;unfold PN Ms;rw[rE d.d6,bs,rE d.d7,bs,w?];refine Di λB=>Di λy=>?_;obtain⟨A,C⟩:=Ug y;rw[Bk (λi=>if(hasB p.bq (AA g.ca (AA p.ca i)).fd&&hasB p.bq (AA g.ca (AA p.ca i)).To)=X then W else Y 14),Cr];intro i f h _;have u:=A _ (AG f h);rw[AD f h,bs,AD u.1 u.2];simp[tF];cases hasB p.bq (AA g.ca (AA p.ca i)).fd<;>cases hasB p.bq (AA g.ca (AA p.ca i)).To<;>rfl
def CQ(g:ci)(p:A3):ci:=⟨p.bq.map (AA g.bq),p.ca.map λx=>⟨(AA g.ca x).fa,Ao p.bq (AA g.ca x).fd,Ao p.bq (AA g.ca x).To⟩⟩
variable{i:Int}
theorem Fm{α:Type}{f:Int->α}(d:0<=i)(h:i<l.length):(l.take (i+1).toNat).map f=(l.take i.toNat).map f++[f (AA l i)]:=by grind[Cb]
theorem TP(C:l.length<=1000)(h:∀x∈l,0<=x/\x<g.bq.length)(es:List Bu):(BB (λ(B:Int)(z:ci)=>
 (idx l B).bind λd=>
 (idx g.bq d).bind λf=>
 (Al z.bq [f]).bind λu=>
 Y (ci.mk u z.ca)) 0 (l.length:Int) (ci.mk [] es))=Y (ci.mk (l.map (AA g.bq)) es):=by
 rw [BR (λi=>ci.mk ((l.take i.toNat).map (AA g.bq)) es) U V]
 .rw[x!,E!]
 .intro i w y;have A:=h _ (AG w y);rw[AD w y,bs,AD A.1 A.2,bs,AU a!,bs,Fm w y]
theorem Xe(D:l.length<=1000)(h:∀x∈l,0<=x/\x<g.ca.length)(ns:Fp)(F:Bu->Bu){f:Bu->List Bu->Option (List Bu)}(hf:∀x∈l,∀s,s.length<=1000->f (AA g.ca x) s=Y (s++[F (AA g.ca x)])):(BB (λ(C:Int)(A:ci)=>
 (idx l C).bind λw=>
 (idx g.ca w).bind λy=>
 (f y A.ca).bind λz=>
 Y (ci.mk A.bq z)) 0 (l.length:Int) (ci.mk ns []))=Y (ci.mk ns (l.map λx=>F (AA g.ca x))):=by
 rw [BR (λi=>ci.mk ns ((l.take i.toNat).map λx=>F (AA g.ca x))) U V]
 .rw[x!,E!]
 .intro i d u;have B:=h _ (AG d u);rw[AD d u,bs,AD B.1 B.2,bs,hf _ (AG d u) _ an,bs,Fm d u]
theorem lb{p:A3}(d:R9 p):Hu g p=Y (if DU g p≠0 then(⟨[],[]⟩,⟨[],[]⟩,DU g p)else(CQ g p,⟨p.bq,p.ca⟩,0)):=by
 unfold Hu;rw[gO d,bs];refine Do λh=>?_;have A:Bt g=0/\Ms g p=0:=by
  grind [DU]
 have ho:=VA A.2;rw[TP d.d6 ho.d6.1,bs];have:=Xe (g:=g) (l:=p.ca) d.d7 ho.d7.1 (p.bq.map (AA g.bq)) (λx=>⟨x.fa,Ao p.bq x.fd,Ao p.bq x.To⟩) (f:=λu s=>
  (slices_BinarySearch_int p.bq u.fd).bind λw=>
  (slices_BinarySearch_int p.bq u.To).bind λy=>
  Al s [Bu.mk u.fa w.1 y.1]) (λx z s B=>by
   have he:=ho.ends x z;rw[Th d.d6 ho.d6.2,bs,Th d.d6 ho.d6.2,bs,AU a!,WX ho.d6.2 he.1,WX ho.d6.2 he.2])
 simp [w!]at this;rw[this,bs];unfold slices_Clone_int;have C:=d.d6;have D:=d.d7;rw[BO a?,bs,BO a?];rfl
theorem Z3{p:A3}(u:R9 p):IA g p=Y (if DU g p≠0 then(⟨[],[]⟩,⟨[],[]⟩,DU g p)else(CQ g p,⟨p.bq,p.ca⟩,0)):=by
 unfold IA;rw[Yv u,bs];refine Do λh=>?_;have z:Bt g=0/\Ms g p=0:=by
  grind [DU]
 have ho:=VA z.2;rw[TP u.d6 ho.d6.1,bs];have:=Xe (g:=g) (l:=p.ca) u.d7 ho.d7.1 (p.bq.map (AA g.bq)) (λx=>⟨x.fa,Ao p.bq x.fd,Ao p.bq x.To⟩) (f:=λd s=>
  (Iz p.bq d.fd).bind λw=>
  (Iz p.bq d.To).bind λy=>
  Al s [Bu.mk d.fa w y]) (λx A s B=>by
   grind [wK,AU,AY])
 simp [w!]at this;rw[this,bs];have C:=u.d6;have D:=u.d7;rw[BO a?,bs,BO a?];rfl
end Go.Sf.Sc
namespace Go.Sf.Sc
open Go Go.Sf
def JP(a b:ci)(m:cE)(i:Int):K1:=
 if AA m.bq i<0\/b.bq.length<=AA m.bq i then Y 6 else if AA b.bq (AA m.bq i)≠AA a.bq i then Y 13 else W
def Dm(a b:ci)(m:cE)(i:Int):K1:=
 if AA m.ca i<0\/b.ca.length<=AA m.ca i then Y 6 else
 if (AA a.ca i).fa≠(AA b.ca (AA m.ca i)).fa then Y 13 else
 if AA m.bq (AA a.ca i).fd≠(AA b.ca (AA m.ca i)).fd\/AA m.bq (AA a.ca i).To≠(AA b.ca (AA m.ca i)).To then Y 11 else W
def Gp(a b:ci)(m:cE):Int:=
 if Bt a≠0 then Bt a else if Bt b≠0 then Bt b else if m.bq.length≠a.bq.length\/m.ca.length≠a.ca.length then 20 else
 match fst (JP a b m) 0 m.bq.length with
 |some e=>e|none=>(fst (Dm a b m) 0 m.ca.length).getD 0
structure ai(a b:ci)(m:cE):Prop where
 ga:BW a
 gb:BW b
 pr:m.bq.length=a.bq.length
 sr:m.ca.length=a.ca.length
 node:∀i:Int,0<=i->i<m.bq.length->(0<=AA m.bq i/\AA m.bq i<b.bq.length)/\AA b.bq (AA m.bq i)=AA a.bq i
 edge:∀i:Int,0<=i->i<m.ca.length->(0<=AA m.ca i/\AA m.ca i<b.ca.length)/\(AA a.ca i).fa=(AA b.ca (AA m.ca i)).fa/\
  AA m.bq (AA a.ca i).fd=(AA b.ca (AA m.ca i)).fd/\AA m.bq (AA a.ca i).To=(AA b.ca (AA m.ca i)).To
variable{m:cE}
theorem Vn{a b:ci}(h:Gp a b m=0):ai a b m:=by
 unfold Gp at h;split at h
 .omega
 split at h
 .omega
 split at h
 .cases h
 rename_i u w y;have hn:fst (JP a b m) 0 m.bq.length=W:=by
  grind [DG,JP]
 rw [hn]at h;have he:=Pj (λi=>by
  grind [Dm]) h
 refine ⟨DQ U,DQ U,U,U,λi d f=>?_,λi d f=>?_⟩
 .grind[BQ,JP]
 grind [Dm]
theorem ar(a b:ci)(m:cE):E6 a b m=Y (Gp a b m):=by
 unfold E6 Gp;rw[NN,bs,NN,bs];refine Di λz=>Di λA=>QG j! λC=>?_;have ga:=DQ z;have gb:=DQ A;rw[Bk (JP a b m),Dz]
 .cases hn:fst (JP a b m) 0 m.bq.length with
  |some e=>rfl|none=>
   have B:=BQ.1 hn;dsimp only;rw[Bk (Dm a b m),Cr];intro i h y _;unfold Dm;rw[AD h y,bs];by_cases d:AA m.ca i<0\/b.ca.length<=AA m.ca i
   .rw[QQ b?,QQ d];rfl
   .have hf:=ga.fit _ (AG (l:=a.ca) h U);rw[aE b?,aE d,AD h U,bs,AD U U,bs];by_cases f:(AA a.ca i).fa=(AA b.ca (AA m.ca i)).fa
    .rw[aE d_,aE d_,AD U U,bs];by_cases u:AA m.bq (AA a.ca i).fd=(AA b.ca (AA m.ca i)).fd
     .rw[aE e_,AD U U,bs,bs];by_cases w:AA m.bq (AA a.ca i).To=(AA b.ca (AA m.ca i)).To
      .rw[aE n?,aE (by simp[u,w])];rfl
      .rw[QQ n?,QQ (.inr w)];rfl
     .rw[QQ e_,bs,QQ rfl,QQ (.inl u)];rfl
    .rw[QQ d_,QQ f];rfl
 .intro i h y _;unfold JP;rw[AD h y,bs];by_cases d:AA m.bq i<0\/b.bq.length<=AA m.bq i
  .rw[QQ b?,QQ d];rfl
  .rw[aE b?,aE d,AD U U,bs,AD h U,bs];by_cases f:AA b.bq (AA m.bq i)=AA a.bq i
   .rw[aE d_,aE d_];rfl
   .rw[QQ d_,QQ f];rfl
theorem U8{x y:Prop}[Decidable x][Decidable y]:(if decide x=X then Y X else Y (decide y))=Y (decide (x\/y)):=m_
theorem bA(a b:ci)(m:cE):HM a b m=Y (Gp a b m):=by
 unfold HM Gp;rw[NO,bs,NO,bs];refine Di λz=>Di λA=>QG j! λC=>?_;have ga:=DQ z;have gb:=DQ A;rw[show(a.bq.length:Int)=m.bq.length by omega,show(a.ca.length:Int)=m.ca.length by omega,Bk (JP a b m),Dz]
 .cases hn:fst (JP a b m) 0 m.bq.length with
  |some e=>rfl|none=>
   have B:=BQ.1 hn;dsimp only;rw[Bk (Dm a b m),Cr];intro i h y _;unfold Dm;rw[AD h y];simp only[bs,U8];by_cases d:AA m.ca i<0\/b.ca.length<=AA m.ca i
   .rw[QQ b?,QQ d];rfl
   .have hf:=ga.fit _ (AG (l:=a.ca) h U);rw[aE b?,aE d,AD h U,bs,AD U U,bs];by_cases f:(AA a.ca i).fa=(AA b.ca (AA m.ca i)).fa
    .rw[aE d_,aE d_,AD U U,bs];by_cases u:AA m.bq (AA a.ca i).fd=(AA b.ca (AA m.ca i)).fd
     .rw[aE e_,AD U U,bs,bs];by_cases w:AA m.bq (AA a.ca i).To=(AA b.ca (AA m.ca i)).To
      .rw[aE n?,aE (by simp[u,w])];rfl
      .rw[QQ n?,QQ (.inr w)];rfl
     .rw[QQ e_,bs,QQ rfl,QQ (.inl u)];rfl
    .rw[QQ d_,QQ f];rfl
 .intro i h y _;unfold JP;rw[AD h y];simp only[bs,U8];by_cases d:AA m.bq i<0\/b.bq.length<=AA m.bq i
  .rw[QQ b?,QQ d];rfl
  .rw[aE b?,aE d,AD U U,bs,AD h U,bs];by_cases f:AA b.bq (AA m.bq i)=AA a.bq i
   .rw[aE d_,aE d_];rfl
   .rw[QQ d_,QQ f];rfl
def JM(l:Fp):Bool:=!gp (λi=>gp (λj=>decide (AA l i=AA l j)) 0 i) 0 l.length
variable{l:Fp}
theorem Hg:JM l=X↔l.Nodup:=by grind[JM,A?,BY,SC,HL]
theorem a8(l:Fp):E7 l=Y (JM l):=by
 unfold E7 JM;rw[BT (λi=>gp (λj=>decide (AA l i=AA l j)) 0 i) T]
 .cases gp (λi=>gp (λj=>decide (AA l i=AA l j)) 0 i) 0 l.length<;>rfl
 .intro i d f _;rw[BT (λj=>decide (AA l i=AA l j)) T]
  .cases gp (λj=>decide (AA l i=AA l j)) 0 i<;>rfl
  .intro j h u _;rw[AD d f,bs,AD h U,bs,Hk]
theorem cm(f:l.length<=1000):∃k,Gi l=Y k/\decide (k=(l.length:Int))=JM l:=by
 have d:(QY l).length=l.length:=(G8 l).length_eq;refine⟨((Go.Lib.compact (QY l)).length:Int),?_,?_⟩
 .grind[Gi,slices_Clone_int,slices_Sort_int,slices_Compact_int,BO,AY]
 .rw[z?,Hg,ml,<-(G8 l).nodup_iff,<-UR (JO l),d];omega
def G7(m:cE):Bool:=JM m.bq&&JM m.ca
theorem rA{a b:ci}(h:Gp a b m=0):E5 a b m=Y (G7 m):=by
 have ho:=Vn h;have:=ho.ga.d6;have:=ho.ga.d7;have:=ho.pr;have:=ho.sr;obtain⟨k,d,f⟩:=cm (l:=m.bq) U;obtain⟨j,u,w⟩:=cm (l:=m.ca) U;unfold E5 G7;rw[ar,h,bs,QQ (decide_eq_true rfl),d];simp[u,f,w];cases JM m.bq<;>rfl
theorem zJ{a b:ci}(h:Gp a b m=0):Ih a b m=Y (G7 m):=by grind[Ih,G7,bA,a8,JM]
def PB(r:ec):Int:=
 if DU r.eh.ci r.im≠0 then DU r.eh.ci r.im else
 if Gp (CQ r.eh.ci r.im) r.d5.ci r.eE≠0 then Gp (CQ r.eh.ci r.im) r.d5.ci r.eE else if G7 r.eE=T then 11 else 0
variable{r:ec}
theorem vl(d:R9 r.im):P1 r=Y (PB r):=by
 unfold P1 PB;rw[lb d,bs];by_cases h:DU r.eh.ci r.im=0
 .simp only[h,ne_eq,not_true_eq_false,if_false,decide_true,C_,A'];rw[ar,bs];refine Di λf=>?_;rw[rA f,bs];exact V7 λ_=>rfl
 .simp[h]
def V0(r:ec):Int:=if DU r.eh.ci r.im≠0 then DU r.eh.ci r.im else Gp (CQ r.eh.ci r.im) r.d5.ci r.eE
theorem wP(d:R9 r.im):OB r=Y (V0 r):=by
 unfold OB V0;rw[Yv d,bs];refine Di λh=>?_
 grind [Z3,bA]
theorem sK(h:PB r=0):DU r.eh.ci r.im=0/\Gp (CQ r.eh.ci r.im) r.d5.ci r.eE=0/\G7 r.eE=X:=by grind[PB]
def AX(l:Fp)(n:Int):Fp:=((F_ n.toNat).map y_).filter λi=>!hasB l i
variable{i:Int}
theorem Io(l:Fp)(h:0<=i):AX l (i+1)=AX l i++if(!hasB l i)=X then[i]else[]:=by
 unfold AX;rw[show(i+1).toNat=i.toNat+1 by omega,H_,H',H!]
 grind
variable{n x:Int}
theorem Db(h:x∈AX l n):0<=x/\x<n:=by
 unfold AX at h
 grind
theorem Jm(l:Fp)(n:Int):(AX l n).length<=n.toNat:=by
 unfold AX
 grind
theorem VH(y:0<=n)(A:n<=1000){f:Int->I1}(hf:∀i,f i=Y (hasB l i)):(BB (λ(u:Int)(w:Fp)=>
 (f u).bind λd=>
 if (!d)=X then
 (Al w [u]).bind λh=>
 Y h
 else
 Y w) 0 n [])=Y (AX l n):=by
 refine BR (AX l) y (by simp[AX]) (λi z B=>?_);have:=Jm l i;rw[hf,bs,Io l z];cases hasB l i
 .rw[QQ a_,QQ a_,AU a!];rfl
 .rw[aE a_,aE a_,H?]
theorem cq(d:0<=n)(f:n<=1000):Km l n=Y (AX l n):=by
 unfold Km;rw[VH d f (λi=>LD l i)];rfl
theorem mN(d:0<=n)(f:n<=1000):L6 n l=Y (AX l n):=by
 unfold L6;rw[VH d f (λi=>tG l i)];rfl
def DT(r:ec):Fp:=AX r.eE.bq r.d5.ci.bq.length
def F7(r:ec):Fp:=AX r.eE.ca r.d5.ci.ca.length
theorem lf(d:BW r.d5.ci):LW r=Y (DT r,F7 r):=by
 have:=d.d6;have:=d.d7;unfold LW;rw[cq U U,bs,cq U U];rfl
theorem mF(d:BW r.d5.ci):KW r=Y (DT r,F7 r):=by
 have:=d.d6;have:=d.d7;unfold KW;rw[mN U U,bs,mN U U];rfl
def De(t:AC)(g:ci)(i:Int):Bool:=Fw t (AA g.ca i).fa (AA g.bq (AA g.ca i).fd) (AA g.bq (AA g.ca i).To)
def QB(t:AC)(g:ci)(d6 d7:Fp):Bool:=!(d6.any λi=>(AA t.bq (AA g.bq i)).o3)&&!(d7.any λi=>!De t g i)
variable{t:AC}{g:ci}
theorem zH(hf:Ay t)(w:BW g)(y:CS t g=X){d6 d7:Fp}(hn:∀x∈d6,0<=x/\x<g.bq.length)(he:∀x∈d7,0<=x/\x<g.ca.length):LX t g d6 d7=Y (QB t g d6 d7):=by
 have h:=Ez w y;unfold LX QB;rw[Uj (p:=λi=>(AA t.bq (AA g.bq i)).o3) (λx f=>by
  have d:=hn x f;have u:=h.1 _ (AG d.1 d.2);unfold MC;rw[AD d.1 d.2,bs,AD u.1 u.2];rfl),bs,Uj (p:=λi=>!De t g i) (λx f=>by
  have d:=he x f;have u:=w.fit _ (AG d.1 d.2);unfold MD;rw[AD d.1 d.2,bs,AD U U,bs,AD U U,bs,cd hf];rfl)]
 grind
theorem zL(hf:Ay t)(y:BW g)(z:CS t g=X){d6 d7:Fp}(hn:∀x∈d6,0<=x/\x<g.bq.length)(he:∀x∈d7,0<=x/\x<g.ca.length):LS t g d6 d7=Y (QB t g d6 d7):=by
 have u:=Ez y z;unfold LS QB;rw[He,He,BT (λi=>(AA t.bq (AA g.bq (AA d6 i))).o3) T]
 .rw[BT (λi=>!De t g (AA d7 i)) T]
  .cases gp (λi=>(AA t.bq (AA g.bq (AA d6 i))).o3) 0 d6.length
   .cases gp (λi=>!De t g (AA d7 i)) 0 d7.length<;>rfl
   .rfl
  .intro i f h _;have d:=he _ (AG f h);have w:=y.fit _ (AG d.1 d.2);rw[AD f h,bs,AD d.1 d.2,bs,AD U U,bs,AD U U,bs,X5 hf,bs,Hk];rfl
 .intro i f h _;have d:=hn _ (AG f h);have w:=u.1 _ (AG d.1 d.2);rw[AD f h,bs,AD d.1 d.2,bs,AD w.1 w.2,bs,Hk]
end Go.Sf.Sc
namespace Go.Sf.Sc
open Go Go.Sf
structure SA(p:d4):Prop where
 d6:p.ci.bq.length<=45
 d7:p.ci.ca.length<=90
 slots:p.ed.length<=15
 tests:p.f0.length<=15
structure iS(m:cE):Prop where
 d6:m.bq.length<=140
 d7:m.ca.length<=140
inductive Dn:c9->Prop where
 |mk (c:c9) (hq:SA c.d4) (hm:iS c.Map) (hk:∀k∈c.ej,Dn k):Dn c
variable{c:c9}
theorem Dn.q(h:Dn c):SA c.d4:=h?
theorem Dn.m(h:Dn c):iS c.Map:=h?
theorem Dn.k(h:Dn c):∀k∈c.ej,Dn k:=h?
theorem Ey{c k:c9}(h:k∈c.ej):SizeOf.sizeOf k<SizeOf.sizeOf c:=by
 have:=List.sizeOf_lt_of_mem h;cases c
 grind
theorem DP(c:c9):0<SizeOf.sizeOf c:=by
 cases c
 grind
def QP(c:c9):Bool:=decide (c.Map.bq.length=0/\c.Map.ca.length=0/\c.d4.ci.bq.length=0/\c.d4.ci.ca.length=0/\c.d4.ed.length=0/\c.d4.f0.length=0/\c.d4.ek=0)
theorem vc(hf:Dn c):E1 c=Y (QP c):=by
 have d:=hf.q;have f:=hf.m;have:=d.d6;have:=d.d7;have:=d.slots;have:=d.tests;have:=f.d6;have:=f.d7;unfold E1 QP;rw[Ar (n:=(c.Map.bq.length:Int)+c.Map.ca.length) U U,Ar (n:=(c.Map.bq.length:Int)+c.Map.ca.length+c.d4.ci.bq.length) U U,
  Ar (n:=(c.Map.bq.length:Int)+c.Map.ca.length+c.d4.ci.bq.length+c.d4.ci.ca.length) U U,
  Ar (n:=(c.Map.bq.length:Int)+c.Map.ca.length+c.d4.ci.bq.length+c.d4.ci.ca.length+c.d4.ed.length) U U,
  Ar (n:=(c.Map.bq.length:Int)+c.Map.ca.length+c.d4.ci.bq.length+c.d4.ci.ca.length+c.d4.ed.length+c.d4.f0.length) U U]
 congr 1
 grind
theorem pC(hf:Dn c):Ho c=Y (QP c):=by
 have d:=hf.q;have f:=hf.m;have:=d.d6;have:=d.d7;have:=d.slots;have:=d.tests;have:=f.d6;have:=f.d7;unfold Ho QP;rw[Ar (n:=(c.Map.bq.length:Int)+c.Map.ca.length) U U,Ar (n:=(c.Map.bq.length:Int)+c.Map.ca.length+c.d4.ci.bq.length) U U,
  Ar (n:=(c.Map.bq.length:Int)+c.Map.ca.length+c.d4.ci.bq.length+c.d4.ci.ca.length) U U,
  Ar (n:=(c.d4.ed.length:Int)+c.d4.f0.length) U U]
 congr 1
 grind
def Rs(c:c9):Bool:=
 if c.fu=1 then decide (c.ej.length=0)&&QP c else if c.fu=2 then decide (c.ej.length=1)&&QP c else
 if c.fu=3\/c.fu=4 then decide (1<=c.ej.length)&&QP c else if c.fu=5 then decide (c.ej.length=1)else T
def R7:Nat->c9->Bool
 |0,_=>T|n+1,c=>Rs c&&c.ej.all (R7 n)
theorem vu:∀(N:Nat)(c:c9),SizeOf.sizeOf c<=N->Dn c->∀n,2*N<=n->CX n c=Y (R7 N c)
 |0,c,h,_,_,_=>by have:=DP c;omega|N+1,c,h,hf,n,hn=>by
  obtain ⟨n,rfl⟩:∃m,n=m+2:=⟨n-2,U⟩;rw[CX,R7,vc hf];have f:C7 c.ej (CH (n+1))=Y (!c.ej.all (R7 N)):=by
   rw [bW (p:=λk=>!R7 N k) (λk f=>by
    have:=Ey f;rw[CH,vu N k U (hf.k k f) n U];rfl),I_,Bool.not_not]
  rw [f];unfold Rs;simp only[bs,ml];generalize QP c=b;generalize c.ej.all (R7 N)=w;have e0:decide ((c.ej.length:Int)=0)=decide (c.ej.length=0):=h!
  have C:decide ((c.ej.length:Int)=1)=decide (c.ej.length=1):=h!
  have D:decide (1<=(c.ej.length:Int))=decide (1<=c.ej.length):=h!
  simp only[show((c.ej.length:Int)=0)↔c.ej.length=0 by omega,show((c.ej.length:Int)=1)↔c.ej.length=1 by omega,show(1<=(c.ej.length:Int))↔1<=c.ej.length by omega];by_cases u:c.fu=1
  .rw[QQ u,QQ u];by_cases d:c.ej.length=0<;>cases b<;>cases w<;>simp[d]
  .rw[aE u,aE u];by_cases y:c.fu=2
   .rw[QQ y,QQ y];by_cases d:c.ej.length=1<;>cases b<;>cases w<;>simp[d]
   .rw[aE y,aE y];by_cases A:c.fu=3
    .simp[A,true_or];by_cases d:1<=c.ej.length<;>cases b<;>cases w<;>simp[d]
    .by_cases B:c.fu=4
     .simp[B,or_true,show¬(4:Int)=3 by decide];by_cases d:1<=c.ej.length<;>cases b<;>cases w<;>simp[d]
     .simp only[A,B,if_false,or_false];by_cases z:c.fu=5
      .rw[QQ z,QQ z];by_cases d:c.ej.length=1<;>cases w<;>simp[d]
      .rw[aE z,aE z];cases w<;>rfl
theorem wI(hf:Dn c):Mb c=Y (Rs c):=by
 unfold Mb Rs;rw[pC hf];simp[ml];generalize QP c=b;simp[show((c.ej.length:Int)=0)↔c.ej.length=0 by omega,show((c.ej.length:Int)=1)↔c.ej.length=1 by omega,show(0<(c.ej.length:Int))↔1<=c.ej.length by omega]
 grind
theorem uk{α:Type}[Inhabited α]{l:List α}{p:α->Bool}:l.all p=!gp (λi=>!p (AA l i)) 0 l.length:=by
 rw [I_,He]
theorem rD:∀(N:Nat)(c:c9),SizeOf.sizeOf c<=N->Dn c->∀n,N<=n->EW n c=Y (R7 N c)
 |0,c,h,_,_,_=>by have:=DP c;omega|N+1,c,h,hf,n,hn=>by
  obtain ⟨n,rfl⟩:∃m,n=m+1:=⟨n-1,U⟩;rw[EW,R7,wI hf,bs,uk,BT (λi=>!R7 N (AA c.ej i)) T]
  .cases Rs c
   .rfl
   .cases gp (λi=>!R7 N (AA c.ej i)) 0 c.ej.length<;>rfl
  .intro i d f _;have u:=AG (l:=c.ej) d f;have:=Ey u;rw[AD d f,bs,rD N _ U (hf.k _ u) n U,bs,Hk]
noncomputable def du(c:c9):Bool:=R7 (SizeOf.sizeOf c) c
theorem zI(hf:Dn c):Jx c=Y (du c):=EG (2*SizeOf.sizeOf c) λn hn=>vu _ c (aN _) hf n hn
theorem zQ(hf:Dn c):Oz c=Y (du c):=EG (SizeOf.sizeOf c) λn hn=>rD _ c (aN _) hf n hn
def Ns:Nat->c9->Int×Int
 |0,_=>(0,0)|n+1,c=>
  let s:=c.ej.foldl (λs k=>(Ag (s.1+(Ns n k).1),max s.2 (Ns n k).2)) ((1,0):Int×Int)
  (s.1,if c.fu=5 then Ag (s.2+1)else s.2)
theorem Zu{α σ:Type}[Inhabited α]{l:List α}{g:σ->α->σ}{s:σ}{f:Int->σ->Option σ}(h:∀(i:Int)s,0<=i->i<l.length->f i s=Y (g s (AA l i))):BB f 0 l.length s=Y (l.foldl g s):=by
 rw [BR (λi=>(l.take i.toNat).foldl g s) U V]
 .rw[x!,E!]
 grind [Cb]
theorem lj:∀(N:Nat)(c:c9),SizeOf.sizeOf c<=N->∀n,N<=n->DN n c=Y (Ns N c)
 |0,c,h,_,_=>by have:=DP c;omega|N+1,c,h,n,hn=>by
  obtain ⟨n,rfl⟩:∃m,n=m+1:=⟨n-1,U⟩;rw[DN,Ns,Zu (g:=λs k=>(Ag (s.1+(Ns N k).1),max s.2 (Ns N k).2))]
  .grind
  .intro i s d f;have:=Ey (AG (l:=c.ej) d f);rw[AD d f,bs,lj N _ U n U];rfl
theorem mL:∀(N:Nat)(c:c9),SizeOf.sizeOf c<=N->∀n,N<=n->E8 n c=Y (Ns N c)
 |0,c,h,_,_=>by have:=DP c;omega|N+1,c,h,n,hn=>by
  obtain ⟨n,rfl⟩:∃m,n=m+1:=⟨n-1,U⟩;rw[E8,Ns,Zu (g:=λs k=>(Ag (s.1+(Ns N k).1),max s.2 (Ns N k).2))]
  .grind
  .intro i s d f;have:=Ey (AG (l:=c.ej) d f);rw[AD d f,bs,mL N _ U n U];rfl
noncomputable def ap(c:c9):Int×Int:=Ns (SizeOf.sizeOf c) c
noncomputable def La(c:c9):Int:=if du c=T then 1 else if 12<(ap c).1\/3<(ap c).2 then 3 else 0
theorem su(hf:Dn c):IU c=Y (La c):=by
 unfold IU La;rw[zI hf,bs,show MJ c=Y (ap c)from EG (SizeOf.sizeOf c) λn hn=>lj _ c (aN _) n hn,bs]
 grind
theorem tN(hf:Dn c):MZ c=Y (La c):=by
 unfold MZ La;rw[zQ hf,bs,show QE c=Y (ap c)from EG (SizeOf.sizeOf c) λn hn=>mL _ c (aN _) n hn,bs]
 grind
theorem Xd(g:ci):Bt g≠9:=by grind[Bt]
variable{t:AC}{p:d4}
theorem cy(d:(A8 t).2=0)(h:GW t p=0\/GW t p=9):0<=p.ek/\p.ek<=12:=by grind[Xd,GW]
def Uv(t:AC)(q:d4)(v:Int):Int:=if GW t q≠9 then GW t q else if gp (λi=>!LK q i) v q.ek=X then 9 else 0
variable{P:Prop}
theorem zx{α:Type}[Decidable P]{v:α}{ζ:Option α}{δ:α}(h:P->ζ=Y δ):(if(!decide P)=X then Y v else ζ)=Y (if¬P then v else δ):=m_
theorem zF(hf:Ay t)(f:(A8 t).2=0){q:d4}{v:Int}(z:0<=v)(h:v<=q.ek):Gw t q v=Y (Uv t q v):=by
 unfold Gw Uv;rw[Xz hf,bs];refine zx λd=>?_;have hv:=cy f (.inr d);rw[Q1 (c:=λi=>(if(!LK q i)=X then Y ()else W).map λ_=>.inr 9) (a:=v) (b:=q.ek) h]
 .rw[Qs,NC];cases gp (λi=>!LK q i) v q.ek<;>rfl
 .intro i A w _;rw[QQ n?,show(λu=>H0 u i)=(λy=>Y (decide (y.fb.Var=i)))from rfl,fM,bs,show(q.ed.any λy=>decide (y.fb.Var=i))=LK q i from rfl,d,Ar U U];cases LK q i<;>rfl
 .rw[aE V]
theorem tJ(p:d4)(v:Int):N8 p v=Y (LK p v):=rH p v
theorem zK(hf:Ay t)(q:d4)(v:Int):Ma t v q=Y (if q.ek<v then 20 else Uv t q v):=by
 unfold Ma Uv;refine QG V λ_=>?_;rw[bB hf,bs];refine zx λd=>?_;rw[d,BT (λi=>!LK q i) 9]
 .cases gp (λi=>!LK q i) v q.ek<;>rfl
 .intro i f h _;rw[tJ,bs,Hk]
def J5:Nat->AC->d4->c9->Int
 |0,_,_,_=>0|N+1,t,p,c=>
  if c.fu=5 then
   if c.d4.ek<p.ek then 20 else if Uv t c.d4 p.ek≠0 then Uv t c.d4 p.ek else
   if Gp p.ci c.d4.ci c.Map≠0 then Gp p.ci c.d4.ci c.Map else if G7 c.Map=T then 1 else
   (fst (λi=>nz (J5 N t c.d4 (AA c.ej i))) 0 c.ej.length).getD 0
  else (fst (λi=>nz (J5 N t p (AA c.ej i))) 0 c.ej.length).getD 0
theorem lq(hf:Ay t)(w:(A8 t).2=0):∀(N:Nat)(c:c9)(p:d4),0<=p.ek->SizeOf.sizeOf c<=N->∀n,N<=n->Cv n t p c=Y (J5 N t p c)
 |0,c,p,_,h,_,_=>by have:=DP c;omega|N+1,c,p,F,h,n,hn=>by
  obtain ⟨n,rfl⟩:∃m,n=m+1:=⟨n-1,U⟩;rw[Cv,J5];have u:∀q:d4,0<=q.ek->(AL (Aj (ρ:=Int) (λ(B:Int)(_:Unit)=>
    (idx c.ej B).bind λf=>
    (Cv n t q f).bind λd=>
    if (!decide (d=0))=X then
    Y (.ret d)
    else
    Y (.next ())) 0 (c.ej.length:Int) ()) (λ_=>
    Y 0) (λC=>Y C))=Y ((fst (λi=>nz (J5 N t q (AA c.ej i))) 0 c.ej.length).getD 0):=by
   intro q E;rw[Bk (λi=>nz (J5 N t q (AA c.ej i))),Cr];intro i y z _;have:=Ey (AG (l:=c.ej) y z);rw[AD y z,bs,lq hf w N _ q E U n U,bs,Nx]
  by_cases A:c.fu=5
  .rw[QQ u',QQ A];refine QG V λhv=>?_;rw[zF hf w F U,bs];refine Di λhi=>?_;rw[ar,bs];refine Di λD=>?_;rw[rA D,bs]
   grind
  grind
theorem mM(hf:Ay t):∀(N:Nat)(c:c9)(p:d4),SizeOf.sizeOf c<=N->∀n,N<=n->FL n t p c=Y (J5 N t p c)
 |0,c,p,h,_,_=>by have:=DP c;omega|N+1,c,p,h,n,hn=>by
  obtain ⟨n,rfl⟩:∃m,n=m+1:=⟨n-1,U⟩;rw[FL,J5];have d:∀q:d4,(AL (Aj (ρ:=Int) (λ(A:Int)(_:Unit)=>
    (idx c.ej A).bind λw=>
    (FL n t q w).bind λf=>
    if (!decide (f=0))=X then
    Y (.ret f)
    else
    Y (.next ())) 0 (c.ej.length:Int) ()) (λ_=>
    Y 0) (λB=>Y B))=Y ((fst (λi=>nz (J5 N t q (AA c.ej i))) 0 c.ej.length).getD 0):=by
   intro q;rw[Bk (λi=>nz (J5 N t q (AA c.ej i))),Cr];intro i y z _;have:=Ey (AG (l:=c.ej) y z);rw[AD y z,bs,mM hf N _ q U n U,bs,Nx]
  by_cases u:c.fu=5
  .rw[QQ e_,QQ u,zK hf,bs];by_cases hv:c.d4.ek<p.ek
   .simp[hv]
   .simp only[aE hv];refine Di λhi=>?_;rw[bA,bs];refine Di λC=>?_;rw[zJ C,bs];exact V7 λ_=>d _
  .rw[aE e_,aE u];exact d p
noncomputable def Lp(t:AC)(p:d4)(c:c9):Int:=if GW t p≠0 then GW t p else if La c≠0 then La c else J5 (SizeOf.sizeOf c) t p c
theorem lc(hf:Ay t)(d:(A8 t).2=0)(p:d4)(f:Dn c):ES t p c=Y (Lp t p c):=by
 unfold ES Lp;rw[Xz hf,bs];refine Di λh=>?_;rw[su f,bs,w?];exact Di λ_=>EG (SizeOf.sizeOf c) λn hn=>lq hf d _ c p (cy d (.inl h)).1 (aN _) n hn
theorem mC(hf:Ay t)(p:d4)(d:Dn c):Kj t p c=Y (Lp t p c):=by
 unfold Kj Lp;rw[bB hf,bs];refine Di λh=>?_;rw[tN d,bs,w?];exact Di λ_=>EG (SizeOf.sizeOf c) λn hn=>mM hf _ c p (aN _) n hn
end Go.Sf.Sc
namespace Go.Sf.Sc
open Go Go.Sf
structure EK(r:ec):Prop where
 name:(r.gi.size:Int)<=60
 left:SA r.eh
 right:SA r.d5
 em:R9 r.im
 into:iS r.eE
 cond:Dn r.c9
noncomputable def Ds(t:AC)(r:ec):Int:=
 if (A8 t).2≠0 then(A8 t).2 else if Dl r.gi=T then 2 else if GW t r.eh≠0 then GW t r.eh else
 if Ip t r≠0 then Ip t r else if PB r≠0 then PB r else if QB t r.d5.ci (DT r) (F7 r)=T then 13 else Lp t r.eh r.c9
variable{t:AC}{r:ec}
theorem Wq(h:Ip t r=0):BW r.d5.ci/\CS t r.d5.ci=X:=by grind[Ip,DQ]
theorem lr(hf:Ay t)(d:EK r):MB t r=Y (Ds t r):=by
 have hn:=d.name;unfold MB Ds;rw[Ov hf,bs];refine Di λu=>?_;rw[RK U,bs];refine V7 λ_=>?_;rw[Xz hf,bs];refine Di λ_=>?_;rw[sf hf,bs];refine Di λf=>?_;have ho:=Wq f;rw[vl d.em,bs];refine Di λw=>?_;rw[lf ho.1,bs];dsimp only;rw[zH (d6:=DT r) (d7:=F7 r) hf ho.1 ho.2 (λx h=>Db h) (λx h=>Db h),bs];refine V7 λ_=>?_;rw[lc hf u _ d.cond,bs]
theorem mO(hf:Ay t)(d:EK r):Mc t r=Y (Ds t r):=by
 have hn:=d.name;unfold Mc Ds;rw[Sn hf,bs];refine Di λy=>?_;rw[RN U,bs];refine V7 λ_=>?_;rw[bB hf,bs];refine Di λ_=>?_;rw[tK hf,bs];refine Di λf=>?_;have ho:=Wq f;rw[wP d.em,bs,a8,bs];simp only[a8,bs];have e:(if(!JM r.eE.bq)=X then Y X else Y (!JM r.eE.ca))=Y (!G7 r.eE):=by
  grind [G7,JM]
 rw [e,bs];have w:PB r=if V0 r≠0 then V0 r else if G7 r.eE=T then 11 else 0:=by
  grind [PB,V0,DU]
 rw [w];by_cases u:V0 r=0
 .simp only[u,ne_eq,not_true_eq_false,if_false,decide_true,C_,A'];cases hi:G7 r.eE
  .simp
  .simp only[C_,A',if_false,not_true_eq_false,C?];rw[mF ho.1,bs];dsimp only;rw[zL (d6:=DT r) (d7:=F7 r) hf ho.1 ho.2 (λx h=>Db h) (λx h=>Db h),bs];refine V7 λ_=>?_;rw[mC hf _ d.cond,bs]
 .simp[u]
def Tt(n:Int):Bool:=(decide (1<=n))&&(decide (n<=3))
def RS(t:AC)(s:A5)(i:Int):K1:=
 if Tt (AA s.bq i)=T then Y 6 else if 0<=par t i/\AA s.bq (par t i)≠AA s.bq i then Y 13 else W
def VN(t:AC)(s:A5)(i:Int):Int:=
 if Tt (AA s.ca i)=T then 6 else
 if ((!decide (AA s.bq (AA t.ca i).fd=AA s.ca i))||((decide (AA s.bq (AA t.ca i).To=AA s.ca i))==(decide (AA s.ca i=2))))=X then 13 else 0
def Je(t:AC)(s:A5):Int:=
 if (A8 t).2≠0 then(A8 t).2 else if s.bq.length≠t.bq.length\/s.ca.length≠t.ca.length then 20 else
 match fst (RS t s) 0 t.bq.length with
 |some e=>e|none=>(fst (λi=>nz (VN t s i)) 0 t.ca.length).getD 0
structure YR(t:AC)(s:A5):Prop where
 types:D7 t
 pr:s.bq.length=t.bq.length
 sr:s.ca.length=t.ca.length
theorem Tu{s:A5}(h:Je t s=0):(A8 t).2=0/\YR t s:=by
 unfold Je at h;split at h
 .omega
 .split at h
  .cases h
  .exact⟨U,CY U,U,U⟩
variable{o:I1}
theorem rg{x:Prop}[Decidable x]{b:Bool}(h:x->o=Y b):(if decide x=X then o else Y T)=Y (decide x&&b):=m_
theorem sw(hf:Ay t)(s:A5):Lg t s=Y (Je t s):=by
 unfold Lg Je;rw[Ov hf,bs];refine Di λu=>QG j! λw=>?_;have ho:=CY u;rw[show(s.bq.length:Int)=t.bq.length by omega,show(s.ca.length:Int)=t.ca.length by omega,Bk (RS t s),Dz]
 .cases fst (RS t s) 0 t.bq.length with
  |some e=>rfl|none=>
   dsimp only;rw[Bk (λi=>nz (VN t s i)),Cr];intro i d f _;have he:=ho.ends d f;have e:Mi t s i=Y (VN t s i):=by
    unfold Mi VN;rw[AD d U,bs,show NY (AA s.ca i)=Y (Tt (AA s.ca i))from rfl,bs];refine V7 λ_=>?_;rw[AD d f,bs,AD U U,bs,bs,AD U U,bs];exact ZC λ_=>rfl
   rw [e,bs,Nx]
 .intro i d f _;have y:=ho.par i d f;unfold RS;rw[AD d U,bs,show NY (AA s.bq i)=Y (Tt (AA s.bq i))from rfl,bs,AD d f,bs];cases Tt (AA s.bq i)
  .rfl
  .simp only[C_,A',if_false,C?];rw[show(AA t.bq i).kq=par t i from rfl,rg (b:=!decide (AA s.bq (par t i)=AA s.bq i)) (λh=>by rw[AD h U];rfl),bs];by_cases h:0<=par t i/\AA s.bq (par t i)≠AA s.bq i
   .rw[QQ c?,QQ h];rfl
   .rw[aE c?,aE h];rfl
variable{l:Fp}
theorem Zz(B:l.length<=1000):∃m,Hb l=Y m:=by
 unfold Hb slices_Clone_int;rw[BO a?,bs];obtain⟨m,A,D⟩:=Ok (f:=(λ(d:Int)(h:Fp)=>
 (idx h d).bind λu=>
 (idx h d).bind λw=>
 Y (BM h d (Ag (4-u))))) (λ_ s=>s.length=l.length) (a:=0) (b:=l.length) (s:=l) U rfl (λi s y C z=>by
  refine ⟨_,by rw[AD y U,bs,bs],?_⟩;simp[BM,z])
 rw [A];exact⟨m,rfl⟩
theorem oo(hf:Ay t)(s:A5):Hw t s=Y (Je t s):=by
 unfold Hw PZ;rw[sw hf,bs];by_cases h:Je t s=0
 .have ho:=(Tu h).2;have:=ho.pr;have:=ho.sr;have:=ho.types.d6;have:=ho.types.d7;obtain⟨m,d⟩:=Zz (l:=s.bq) U;obtain⟨k,f⟩:=Zz (l:=s.ca) U;rw[aE c?,d,bs,f,h];rfl
 .rw[QQ c?];rfl
def QR(r:ec):Bool:=decide (r.eh.ed.length=0/\r.eh.f0.length=0/\r.d5.ed.length=0/\r.eh.ek=0)&&r.ff&&decide (r.c9.fu=1)&&decide (r.im.bq.length=r.eh.ci.bq.length/\r.im.ca.length=r.eh.ci.ca.length)
def vA(t:AC)(l:Fp):Bool:=!(l.any λk=>t.bq.any λn=>decide (n.kq=k))
def jA(t:AC)(g:ci):Bool:=!gp (λi=>!De t g i) 0 g.ca.length
noncomputable def CW(t:AC)(s:A5)(r:ec):Int:=
 if Je t s≠0 then Je t s else if Ds t r≠0 then Ds t r else if QR r=T then 8 else
 if (vA t r.eh.ci.bq&&vA t r.d5.ci.bq&&jA t r.eh.ci)=X then 0 else 13
structure Pc(t:AC)(r:ec):Prop where
 left:BW r.eh.ci
 Abp:CS t r.eh.ci=X
 right:BW r.d5.ci
 Aah:CS t r.d5.ci=X
 rtests:r.d5.f0.length=0
 part:bJ r.eh.ci r.im
 mor:ai (CQ r.eh.ci r.im) r.d5.ci r.eE
 inj:r.eE.bq.Nodup/\r.eE.ca.Nodup
variable{p:d4}
theorem vw(h:GW t p=0):BW p.ci/\CS t p.ci=X:=by grind[GW,DQ]
theorem Sr(h:Ds t r=0):(A8 t).2=0/\Pc t r:=by
 unfold Ds at h;split at h
 .omega
 split at h
 .cases h
 split at h
 .omega
 split at h
 .omega
 split at h
 .omega
 rename_i w y z A B;have d:=vw (t:=t) (p:=r.eh) U;have f:=Wq (t:=t) (r:=r) U;have u:=sK (r:=r) U;have hi:JM r.eE.bq=X/\JM r.eE.ca=X:=by
  grind [G7]
 refine ⟨U,d.1,d.2,f.1,f.2,?_,?_,Vn u.2.1,Hg.1 hi.1,Hg.1 hi.2⟩
 .grind[Ip]
 grind [DU,VA]
theorem fF{n:Nat}(h:∀x∈l,0<=x/\x<n)(f:l.Pairwise (·<·)):l.length<=n:=by
 have key:∀i:Int,0<=i->i<l.length->i<=AA l i:=by
  intro i d u;obtain⟨k,rfl⟩:=Int.eq_ofNat_of_zero_le d;clear d
  induction k with
  |zero=>exact(h _ (AG U U)).1|succ k w=>
   grind [HL]
 by_cases d:l.length=0
 .omega
 .have a:=key ((l.length:Int)-1) U U
  grind [AG]
theorem oe{a b:Fp}(z:a.length<=1000)(A:b.length<=1000):Gy [a,b]=Y (a++b):=by
 have w:Ag (0+(a.length:Int))=a.length:=d?
 have y:Ag ((a.length:Int)+(b.length:Int))=a.length+b.length:=Ar U U;have d:idx [a,b] 0=Y a:=rfl;have f:idx [a,b] 1=Y b:=rfl;unfold Gy;rw[show(([a,b]:List Fp).length:Int)=2 from rfl];rw[BR (a:=0) (b:=2) (s:=(0:Int)) (λi=>if i=0 then 0 else if i=1 then(a.length:Int)else a.length+b.length) a_ rfl]
 .rw[bs,aE a_,aE a_];unfold Ir;rw[QQ ⟨rfl,U,a?⟩,bs];rw[BR (a:=0) (b:=2) (s:=([]:Fp)) (λi=>if i=0 then[]else if i=1 then a else a++b) a_ rfl]
  .rfl
  .intro i h u;have:i=0\/i=1:=U
   rcases this with rfl|rfl
   .rw[d,bs,QQ rfl,aE a_,QQ a_,BO a?];rfl
   .rw[f,bs,aE a_,QQ rfl,aE a_,aE a_,AU a?];rfl
 .intro i h u;have:i=0\/i=1:=U
  rcases this with rfl|rfl
  .rw[d,bs,QQ rfl,w,aE V];rfl
  .rw[f,bs];show(if decide (Ag ((a.length:Int)+b.length)<0)=X then W else Y (Ag ((a.length:Int)+b.length)))=Y ((a.length:Int)+b.length);rw[y,aE an]
theorem ly(hf:Ay t){s:A5}(d:EK r):GG t s r=Y (CW t s r):=by
 unfold GG CW;rw[oo hf,bs];refine Di λz=>?_;rw[lr hf d,bs];refine Di λf=>?_;have ho:=(Sr f).2;have y:=(Sr f).1;have l1:=d.left.slots;have l2:=d.left.tests;have B:=d.right.slots;have C:=d.right.tests;have D:=fF ho.part.d6.1 ho.part.d6.2;have E:=fF ho.part.d7.1 ho.part.d7.2;have F:=ho.rtests;rw[Ar (n:=(r.eh.ed.length:Int)+r.eh.f0.length) U U,Ar (n:=(r.eh.ed.length:Int)+r.eh.f0.length+r.d5.ed.length) U U,Ar (n:=(r.eh.ed.length:Int)+r.eh.f0.length+r.d5.ed.length+r.d5.f0.length) U U];refine QG ?_ λA=>?_
 .unfold QR;cases r.ff
  .simp
  .simp only[C_,D_,D',A!,gN,A?,ml,decide_eq_false_iff_not,B!];omega
 rw [oe (by have:=ho.left.d6;omega) (by have:=ho.right.d6;omega),bs,BT (λi=>t.bq.any λn=>decide (n.kq=AA (r.eh.ci.bq++r.d5.ci.bq) i)) 13]
 .rw[<-He (l:=r.eh.ci.bq++r.d5.ci.bq) (p:=λk=>t.bq.any λn=>decide (n.kq=k)),List.any_append,BT (λi=>!De t r.eh.ci i) 13]
  .unfold vA jA;cases(r.eh.ci.bq.any λk=>t.bq.any λn=>decide (n.kq=k))<;>cases(r.d5.ci.bq.any λk=>t.bq.any λn=>decide (n.kq=k))<;>cases gp (λi=>!De t r.eh.ci i) 0 r.eh.ci.ca.length<;>rfl
  .intro i h u _;have G:=ho.left.fit _ (AG h u);rw[AD h u,bs,AD U U,bs,AD U U,bs,cd hf,bs,Hk];rfl
 .intro i h u _;rw[AD h u,bs,show(λw=>Is w (AA (r.eh.ci.bq++r.d5.ci.bq) i))=(λn=>Y (decide (n.kq=AA (r.eh.ci.bq++r.d5.ci.bq) i)))from rfl,V6,bs,Hk]
end Go.Sf.Sc
namespace Go.Sf
variable{a b:Int}
theorem V2{ρ:Type}{f:Int->Option (B3 Int ρ)}(p:Int->Bool)(v:ρ)(d:a<=b)(h:∀i,a<=i->i<b->f i=Y (if p i=X then .ret v else .next (i+1)))(u:f b=Y (.brk b)):EI f a=Y (if gp p a b=X then .inr v else .inl b):=by
 rw [Q1 (c:=λi=>(if p i=X then Y ()else W).map λ_=>.inr v) d]
 .grind[Qs,NC,gp]
 .intro i w y _;rw[h i w y];cases p i<;>rfl
 .exact u
theorem NI{α:Type}{e:α->TV}{n:Nat}{l:List α}(h:TV.Sm (.list n (l.map e))):(l.length:Int)<=140737488351232/\∀x∈l,(e x).Sm:=by
 simp [TV.Sm]at h;refine⟨by have:=h.1;unfold reachBytes at this;omega,λx d=>Ko.1 h.2 _ (G_.2 ⟨x,d,rfl⟩)⟩
end Go.Sf
namespace Go.Sf.Sc
open Go Go.Sf
def bU(a:gt):Bool:=(decide (40<(a.gi.size:Int))||decide (25<(a.kg.length:Int)))||gp (λi=>decide (40<((AA a.kg i).size:Int))) 0 a.kg.length
theorem nc{a:gt}(h:bU a=T):WQ a:=by
 unfold bU at h;simp[decide_eq_false_iff_not,BY]at h;refine⟨U,U,λx d=>?_⟩
 grind [A9]
variable{t:AC}
theorem ZN(η:(AO t).Sm):∃b,NP t=Y b/\(b=X->Ay t):=by
 have N:TV.Sms [_,_]:=η;obtain⟨hn,S⟩:=NI (e:=GT) N.1;unfold NP;by_cases hl:20<t.bq.length\/30<t.ca.length
 .rw[QQ an]
  grind
 rw [aE an];rcases Wc (f:=(λ(C:Int)(ε:Int)=>
 (idx t.bq C).bind λA=>
 (if(decide (30<(Ag (ε+(A.kl.length:Int)))))=X then Y X else((idx t.bq C).bind λG=>
 Y (decide (40<(G.gi.size:Int))))).bind λH=>
 if H=X then
 Y (B3.ret T)
 else
 AL (EI (ρ:=Bool) (λ(s2:Int)=>
 (idx t.bq C).bind λI=>
 if (decide (s2<(I.kl.length:Int)))=X then
 (idx t.bq C).bind λJ=>
 (idx J.kl s2).bind λw=>
 if ((decide (40<(w.gi.size:Int)))||(decide (25<(w.kg.length:Int))))=X then
 Y (.ret T)
 else
 AL (EI (ρ:=Bool) (λ(z:Int)=>
 if (decide (z<(w.kg.length:Int)))=X then
 (idx w.kg z).bind λK=>
 if (decide (40<(K.size:Int)))=X then
 Y (.ret T)
 else
 Y (.next (Ag (z+1)))
 else
 Y (.brk z)) 0) (λz=>
 Y (.next (Ag (s2+1)))) (λZ=>Y (.ret Z))
 else
 Y (.brk s2)) 0) (λs2=>
 Y (.next (Ag (ε+(A.kl.length:Int))))) (λv2=>Y (.ret v2))))
  (λi s=>0<=s/\s<=30/\∀j,0<=j->j<i->((AA t.bq j).gi.size:Int)<=40/\(AA t.bq j).kl.length<=30/\∀a∈(AA t.bq j).kl,WQ a) (λ_=>False) (λr=>r=T) (a:=0) (b:=t.bq.length) (s:=0) U ⟨U,U,λj B d=>U⟩ (λi s D E hI=>by
   have hx:=S _ (AG (l:=t.bq) D E);have O:TV.Sms [_,_,_,_]:=hx;obtain⟨ha,θ⟩:=NI (e:=IW) O.2.2.2.1;obtain⟨hI1,hI2,hI3⟩:=hI;have hw:Ag (s+(AA t.bq i).kl.length)=s+(AA t.bq i).kl.length:=Ar U U;simp only[AD D E,bs,hw,U8];by_cases hc:30<s+(AA t.bq i).kl.length\/40<((AA t.bq i).gi.size:Int)
   .grind
   rw [aE (by simpa using hc)];rw[V2 (λj=>bU (AA (AA t.bq i).kl j)) T (b:=(AA t.bq i).kl.length) U]
   .cases κ:gp (λj=>bU (AA (AA t.bq i).kl j)) 0 (AA t.bq i).kl.length
    .refine .inl ⟨_,rfl,U,U,λj M F=>?_⟩
     grind [A9,nc,BY]
    .exact .inr (.inr ⟨_,rfl,rfl⟩)
   .intro j M F;rw[QQ (by simpa using F),AD M F,bs];have hy:=θ _ (AG (l:=(AA t.bq i).kl) M F);have Q:TV.Sms [_,_,_,_]:=hy;obtain⟨hm,_⟩:=NI (e:=eS) Q.2.2.2.1;unfold bU;cases B:(decide (40<((AA (AA t.bq i).kl j).gi.size:Int))||decide (25<((AA (AA t.bq i).kl j).kg.length:Int)))
    .rw[aE a_,V2 (λk=>decide (40<((AA (AA (AA t.bq i).kl j).kg k).size:Int))) T (b:=(AA (AA t.bq i).kl j).kg.length) U]
     .cases gp (λk=>decide (40<((AA (AA (AA t.bq i).kl j).kg k).size:Int))) 0 (AA (AA t.bq i).kl j).kg.length
      .rw[D_,Ar (show -9223372036854775808<=j+1 by omega) U];rfl
      .rfl
     .intro k y u;rw[QQ e_,AD y u,bs,Ar (show -9223372036854775808<=k+1 by omega) U,Hk]
     .rw[aE V]
    .rfl
   .rw[aE V])with⟨s',B,d⟩|⟨r,B,d⟩
 .rw[B];rcases d with d|d
  .rw[Bj,BT (λi=>decide (40<((AA t.ca i).gi.size:Int))) T]
   .cases κ:gp (λi=>decide (40<((AA t.ca i).gi.size:Int))) 0 t.ca.length
    .refine⟨X,rfl,λ_=>⟨U,U,λn hn=>?_,λn hn=>?_,λn hn=>?_,λe he=>?_⟩⟩
     .obtain⟨k,y,u,rfl⟩:=A9 hn;exact(d.2.2 k y u).1
     .obtain⟨k,y,u,rfl⟩:=A9 hn;exact(d.2.2 k y u).2.1
     .obtain⟨k,y,u,rfl⟩:=A9 hn;exact(d.2.2 k y u).2.2
     .obtain⟨k,y,u,rfl⟩:=A9 he;have:=BY.1 κ k y u;simpa using this
    .exact⟨T,rfl,λh=>d!⟩
   .intro i D E _;rw[AD D E,bs,Hk]
  .exact d.elim
 .rw[B];subst d;exact⟨T,rfl,λh=>d!⟩
theorem Sa(p:d4):∃b,Jk p=Y b/\(b=X->SA p):=by
 refine ⟨_,rfl,λh=>?_⟩;simp[ml]at h;exact⟨U,U,U,U⟩
variable{a b:Int}
theorem fe(h:0<=a)(d:a<=140737488351232)(u:0<=b)(f:b<=140737488351232):Ag (a+b)=a+b:=Ar U U
variable{m:cE}
theorem Yd(f:(Aw m).Sm):∃b,Pu m 140=Y b/\(b=X->iS m):=by
 have d:TV.Sms [_,_]:=f;have u:=(NI (e:=eI) d.1).1;have w:=(NI (e:=eI) d.2.1).1;refine⟨_,rfl,λh=>?_⟩;rw[fe U u U w]at h;simp[ml]at h;exact⟨U,U⟩
theorem n7{m:A3}(f:(FP m).Sm):∃b,R1 m 140=Y b/\(b=X->R9 m):=by
 have d:TV.Sms [_,_]:=f;have u:=(NI (e:=eI) d.1).1;have w:=(NI (e:=eI) d.2.1).1;refine⟨_,rfl,λh=>?_⟩;rw[fe U u U w]at h;simp[ml]at h;exact⟨U,U⟩
variable{c:c9}
theorem fO(h:(AI c).Sm):(Aw c.Map).Sm/\(c.ej.length:Int)<=140737488351232/\∀k∈c.ej,(AI k).Sm:=by
 have f:TV.Sms [_,_,_,_,_,_,_,_,_]:=h;obtain⟨_,d,u,w,_⟩:=f;rw[Rf]at d;obtain⟨y,z⟩:=NI d;exact⟨⟨u,w,trivial⟩,y,z⟩
theorem bm:∀(N:Nat)(c:c9),SizeOf.sizeOf c<=N->(AI c).Sm->∀kp:Int,0<=kp->kp<=1000->∃r,(∀n,N<=n->Cw n c kp=Y r)/\-1<=r/\r<=kp-1/\(0<=r->Dn c)
 |0,c,h,_,_,_,_=>by have:=DP c;omega|N+1,c,h,hs,kp,m0,m1=>by
  obtain ⟨S,θ,D⟩:=fO hs;obtain⟨ε,G,κ⟩:=Sa c.d4;obtain⟨η,J,Z⟩:=Yd S;have step:∀n,N+1<=n->∃m,n=m+1/\N<=m:=λn hn=>⟨n-1,U,U⟩;cases ε
  .refine⟨-1,λn hn=>?_,U,U,λh=>U⟩;obtain⟨n,rfl,_⟩:=step n hn;rw[Cw,G];rfl
  cases η
  .refine⟨-1,λn hn=>?_,U,U,λh=>U⟩;obtain⟨n,rfl,_⟩:=step n hn;rw[Cw,G,bs,J];rfl
  have loop:∀(m:Nat)(k left:Int),0<=k->k+m=c.ej.length->-1<=left->left<=1000->∃d w,(∀n,N<=n->LB (ρ:=Int) (λ(u:Int×Int)=>
    if ((decide (u.2<(c.ej.length:Int)))&&(decide (0<=u.1)))=X then
    (idx c.ej u.2).bind λz=>
    (Cw n z u.1).bind λA=>
    Y (.next (A,Ag (u.2+1)))
    else
    Y (.brk (u.1,u.2))) (left,k) (.inl (d,w)))/\-1<=d/\d<=left/\(0<=d->∀j,k<=j->j<c.ej.length->Dn (AA c.ej j)):=by
   intro m
   induction m with
   |zero=>
    intro k left E M F l1;refine⟨left,k,λn hn=>.brk ?_,F,U,λ_ j B y=>U⟩;rw[aE an]
   |succ m ih=>
    intro k left E M F l1;by_cases O:0<=left
    .have f:=AG (l:=c.ej) E U;have:=Ey f;obtain⟨r,r1,r2,r3,r4⟩:=bm N _ U (D _ f) left O l1;obtain⟨d,w,a1,a2,K,H⟩:=ih (k+1) r U U r2 U;refine⟨d,w,λn hn=>.next (s':=(r,k+1)) ?_ (a1 n hn),a2,U,λC j B y=>?_⟩
     .rw[QQ an,AD E U,bs,r1 n hn,bs,Ar U U]
     .by_cases Q:j=k
      .subst Q;exact r4 U
      .exact H C j U y
    .refine⟨left,k,λn hn=>.brk ?_,F,U,λh=>U⟩;rw[aE an]
  obtain ⟨d,w,a1,a2,K,H⟩:=loop c.ej.length 0 (kp-1) U U U U;refine⟨d,λn hn=>?_,a2,K,λC=>.mk c (κ rfl) (Z rfl) (λk D=>?_)⟩
  .obtain⟨n,rfl,I⟩:=step n hn;rw[Cw,G,bs,J];simp only[bs,C_,A',if_false];rw[Ar (n:=kp-1) U U,(a1 n I).eq,Bj]
  .obtain⟨j,B,y,rfl⟩:=A9 D;exact H C j B y
theorem nw(d:(AI c).Sm):∃b,Jl c=Y b/\(b=X->Dn c):=by
 obtain ⟨r,f,_,_,u⟩:=bm (SizeOf.sizeOf c) c (aN _) d 40 U U;have e:Qd c 40=Y r:=EG (SizeOf.sizeOf c) f;unfold Jl;rw[e];exact⟨_,rfl,λh=>u c?⟩
variable{o:I1}
theorem LC{b:Bool}{c:Bool}(h:o=Y c):(if b=X then o.bind λx=>Y x else Y T)=Y (b&&c):=by
 subst h;cases b<;>rfl
variable{r:ec}
theorem n9(d:(CE r).Sm):∃b,Py r=Y b/\(b=X->EK r):=by
 have f:TV.Sms [_,_,_,_,_,_,_,_,_,_,_,_,_,_,_,_,_,_,_,_,_,_,_,_,_]:=d;obtain⟨_,_,_,_,_,_,_,_,_,_,_,u,w,y,z,_,A,B,c3,c4,C,c6,D,E,F,_⟩:=f;obtain⟨θ,G,H⟩:=Sa r.eh;obtain⟨ε,I,J⟩:=Sa r.d5;obtain⟨κ,K,M⟩:=n7 (m:=r.im) ⟨u,w,trivial⟩;obtain⟨η,N,O⟩:=Yd (m:=r.eE) ⟨y,z,trivial⟩;obtain⟨Z,Q,S⟩:=nw (c:=r.c9) ⟨A,B,c3,c4,C,c6,D,E,F,trivial⟩;unfold Py;rw[LC G,bs,LC I,bs,LC K,bs,LC N,bs,LC Q,bs];refine⟨_,rfl,λh=>?_⟩;simp[ml]at h;exact⟨h.1.1.1.1.1,H h.1.1.1.1.2,J h.1.1.1.2,M h.1.1.2,O h.1.2,S h.2⟩
end Go.Sf.Sc
namespace Go.Sf
def B5(q:Int->Bool)(n:Int):Fp:=((F_ n.toNat).map y_).filter q
variable{i:Int}
theorem R5(q:Int->Bool)(h:0<=i):B5 q (i+1)=B5 q i++if q i=X then[i]else[]:=by
 unfold B5;rw[show(i+1).toNat=i.toNat+1 by omega,H_,H',H!];congr 1;simp only[I',I!,I?,List.filter_nil,show y_ i.toNat=i from x? h]
variable{q:Int->Bool}{n x:Int}
theorem O1(h:x∈B5 q n):0<=x/\x<n:=by
 unfold B5 at h;obtain⟨d,_⟩:=J_.1 h;obtain⟨k,f,rfl⟩:=G_.1 d;have:=G!.1 f;constructor
 .exact y! k
 .show(k:Int)<n;omega
theorem GF(q:Int->Bool)(n:Int):(B5 q n).length<=n.toNat:=by
 unfold B5;exact Nat.le_trans (List.length_filter_le _ _) V
def Bm(n:Int):Fp:=(F_ n.toNat).map y_
theorem Po(h:0<=i):Bm (i+1)=Bm i++[i]:=by
 unfold Bm;rw[show(i+1).toNat=i.toNat+1 by omega,H_,H'];simp only[I',I!,show y_ i.toNat=i from x? h]
theorem CM(n:Int):(Bm n).length=n.toNat:=by simp[Bm]
end Go.Sf
namespace Go.Sf.Sc
open Go Go.Sf
def G9(s:A5)(g:ci)(sort i:Int):Bool:=decide (AA s.bq (AA g.bq i)=sort)
def Jy(s:A5)(g:ci)(sort i:Int):Bool:=decide (AA s.ca (AA g.ca i).fa=sort)
def AS(s:A5)(g:ci)(sort:Int):A3:=⟨B5 (G9 s g sort) g.bq.length,B5 (Jy s g sort) g.ca.length⟩
structure Sorted(s:A5)(g:ci):Prop where
 ok:BW g
 node:∀n∈g.bq,0<=n/\n<s.bq.length
 edge:∀e∈g.ca,0<=e.fa/\e.fa<s.ca.length
variable{t:AC}{g:ci}
theorem P4{s:A5}(d:YR t s)(f:BW g)(h:CS t g=X):Sorted s g:=by
 have:=Ez f h;refine⟨f,λn hn=>?_,λe he=>?_⟩
 .rw[d.pr];exact this.1 n hn
 .rw[d.sr];exact this.2 e he
theorem db{s:A5}(h:BW g)(sort:Int):(AS s g sort).bq.length<=1000/\(AS s g sort).ca.length<=1000:=by
 have:=h.d6;have:=h.d7;have d:=GF (G9 s g sort) g.bq.length;have f:=GF (Jy s g sort) g.ca.length;unfold AS;constructor
 .show(B5 (G9 s g sort) g.bq.length).length<=1000;omega
 .show(B5 (Jy s g sort) g.ca.length).length<=1000;omega
theorem Yp{s:A5}(h:Sorted s g)(sort:Int):Fh g s sort=Y ⟨CQ g (AS s g sort),(AS s g sort).bq,(AS s g sort).ca⟩:=by
 have:=h.ok.d6;have:=h.ok.d7;unfold Fh G3;rw[BR (λi=>CC.mk ⟨(B5 (G9 s g sort) i).map (AA g.bq),[]⟩ (B5 (G9 s g sort) i) []) U l?,bs,
  BR (λi=>CC.mk ⟨(B5 (G9 s g sort) g.bq.length).map (AA g.bq),(B5 (Jy s g sort) i).map λx=>⟨(AA g.ca x).fa,Ao (B5 (G9 s g sort) g.bq.length) (AA g.ca x).fd,Ao (B5 (G9 s g sort) g.bq.length) (AA g.ca x).To⟩⟩ (B5 (G9 s g sort) g.bq.length) (B5 (Jy s g sort) i)) U l?]
 .rfl
 .intro i d f;have u:=h.edge _ (AG d f);have w:=GF (Jy s g sort) i;rw[AD d f,bs];unfold H5;dsimp only;rw[AD d f,bs,AD u.1 u.2,bs,bs,R5 _ d];change (if Jy s g sort i=X then _ else _)=_;cases Jy s g sort i
  .simp only[A',if_false,H?]
  .simp only[if_true,Qt,bs];rw[AU a!,bs,AU a!,bs,H'];rfl
 .intro i d f;have u:=h.node _ (AG d f);have w:=GF (G9 s g sort) i;rw[AD d f,bs];unfold H4;dsimp only;rw[AD d f,bs,AD u.1 u.2,bs,bs,R5 _ d];change (if G9 s g sort i=X then _ else _)=_;cases G9 s g sort i
  .simp only[A',if_false,H?]
  .simp only[if_true];rw[AU a!,bs,AU a!,bs,H'];rfl
theorem s8(h:g.bq.length<=1000/\g.ca.length<=1000):Hx g=Y ⟨Bm g.bq.length,Bm g.ca.length⟩:=by
 unfold Hx;rw[BR (λi=>A3.mk (Bm i) []) U l?,bs,BR (λi=>A3.mk (Bm g.bq.length) (Bm i)) U l?]
 .rfl
 .intro i d f;have:=CM i;rw[AU a!,Po d];rfl
 .intro i d f;have:=CM i;rw[AU a!,Po d];rfl
variable{n:Int}
theorem Z8(d:0<=n)(h:n<=1000):H9 0 n=Y (Bm n):=by
 unfold H9;rw[BR Bm d l?]
 .rfl
 .intro i f u;have:=CM i;rw[show(0:Int)+i=i by omega,Ar U U,AU a!,Po f];rfl
theorem tQ(h:g.bq.length<=1000/\g.ca.length<=1000):Mg g=Y ⟨Bm g.bq.length,Bm g.ca.length⟩:=by
 unfold Mg;rw[Z8 U U,bs,Z8 U U];rfl
def Nl(k:Int):c9:=⟨k,[],⟨[],[]⟩,⟨⟨[],[]⟩,[],0,[]⟩⟩
def Cf(name:ByteArray)(l r:ci)(into:cE):ec:=⟨name,⟨l,[],0,[]⟩,⟨r,[],0,[]⟩,⟨Bm l.bq.length,Bm l.ca.length⟩,into,X,Nl 1⟩
def bF:ec:=⟨⟨#[]⟩,⟨⟨[],[]⟩,[],0,[]⟩,⟨⟨[],[]⟩,[],0,[]⟩,⟨[],[]⟩,⟨[],[]⟩,T,Nl 0⟩
theorem li{l:ci}(h:l.bq.length<=1000/\l.ca.length<=1000)(x:ec)(r:ci)(into:cE):Gl x l r into=Y (Cf x.gi l r into):=by
 unfold Gl;rw[s8 h];rfl
theorem wL{l:ci}(h:l.bq.length<=1000/\l.ca.length<=1000)(x:ec)(r:ci)(into:cE):L9 x l r into=Y (Cf x.gi l r into):=by
 unfold L9;rw[tQ h];rfl
def FH(a b l:Fp):Fp:=a.map λi=>Ao b (AA l i)
def Ci(s:A5)(r:ec)(sort:Int):ec:=
 let a:=AS s r.eh.ci sort
 let b:=AS s r.d5.ci sort
 Cf r.gi (CQ r.eh.ci a) (CQ r.d5.ci b) ⟨FH a.bq b.bq r.eE.bq,FH a.ca b.ca r.eE.ca⟩
variable{r:ec}
theorem FA{s:A5}(h:CW t s r=0):YR t s/\Pc t r/\r.eE.bq.length=r.eh.ci.bq.length/\r.eE.ca.length=r.eh.ci.ca.length:=by
 unfold CW at h;split at h
 .omega
 split at h
 .omega
 split at h
 .cases h
 rename_i A B y;have z:=(Tu (t:=t) (s:=s) U).2;have d:=(Sr (t:=t) (r:=r) U).2;have f:QR r=X:=i!
 unfold QR at f;simp only[gN,ml]at f;have u:=d.mor.pr;have w:=d.mor.sr;unfold CQ at u w;simp only[az]at u w;exact⟨z,d,U,U⟩
theorem Dv(g:ci)(p:A3):(CQ g p).bq.length=p.bq.length/\(CQ g p).ca.length=p.ca.length:=by simp[CQ]
theorem gR(hf:Ay t){s:A5}(y:EK r)(sort:Int):It t s r sort=Y (if CW t s r≠0 then(bF,CW t s r)else(Ci s r sort,0)):=by
 unfold It;rw[ly hf y,bs];refine Do λh=>?_;obtain⟨w,ho,l1,l2⟩:=FA h;have z:=P4 w ho.left ho.Abp;have A:=P4 w ho.right ho.Aah;have B:=db (s:=s) ho.left sort;rw[Yp z,bs,Yp A,bs];dsimp only;rw[BR (λi=>cE.mk (FH ((AS s r.eh.ci sort).bq.take i.toNat) (AS s r.d5.ci sort).bq r.eE.bq) []) U (by simp[FH]),bs,
  BR (λi=>cE.mk (FH ((AS s r.eh.ci sort).bq.take (AS s r.eh.ci sort).bq.length) (AS s r.d5.ci sort).bq r.eE.bq) (FH ((AS s r.eh.ci sort).ca.take i.toNat) (AS s r.d5.ci sort).ca r.eE.ca)) U (by simp[FH]),bs,li (by rw[(Dv _ _).1,(Dv _ _).2];exact B)]
 .simp only[x!,E!];rfl
 .intro i d f;have u:=O1 (AG (l:=(AS s r.eh.ci sort).ca) d f);rw[AD d f,bs,AD u.1 U,bs,Qt,bs,AU (by simp[FH];unfold AY;omega),bs];unfold FH;rw[Fm d f]
 .intro i d f;have u:=O1 (AG (l:=(AS s r.eh.ci sort).bq) d f);rw[AD d f,bs,AD u.1 U,bs,Qt,bs,AU (by simp[FH];unfold AY;omega),bs];unfold FH;rw[Fm d f]
end Go.Sf.Sc
namespace Go.Sf.Sc
open Go Go.Sf
def Mr(a:Int)(k:Nat):Fp:=(F_ k).map λ(j:Nat)=>a+(j:Int)
theorem Xn(a:Int)(k:Nat):Mr a (k+1)=Mr a k++[a+k]:=by
 unfold Mr;rw[H_,H'];rfl
theorem Zr(a:Int)(k:Nat):(Mr a k).length=k:=by simp[Mr]
def Nv(s:A5)(r:ec)(l:Fp)(i:Int):Bool:=!hasB r.eE.bq i&&hasB l (AA s.bq (AA r.d5.ci.bq i))
def Nu(s:A5)(r:ec)(l:Fp)(i:Int):Bool:=!hasB r.eE.ca i&&hasB l (AA s.ca (AA r.d5.ci.ca i).fa)
def C8(s:A5)(r:ec)(l:Fp):Fp:=B5 (Nv s r l) r.d5.ci.bq.length
def Ch(s:A5)(r:ec)(l:Fp):Fp:=B5 (Nu s r l) r.d5.ci.ca.length
def Ri(r:ec)(into:Fp)(i:Int):Bu:=⟨(AA r.d5.ci.ca i).fa,Ao into (AA r.d5.ci.ca i).fd,Ao into (AA r.d5.ci.ca i).To⟩
def A0(s:A5)(r:ec)(l:Fp):Fp:=r.eE.bq++C8 s r l
def By(s:A5)(r:ec)(l:Fp):ec:=
 Cf r.gi ⟨r.eh.ci.bq++(C8 s r l).map (AA r.d5.ci.bq),r.eh.ci.ca++(Ch s r l).map (Ri r (A0 s r l))⟩ r.d5.ci ⟨A0 s r l,r.eE.ca++Ch s r l⟩
def YK(s:A5)(r:ec)(l:Fp):A3:=⟨Mr r.eh.ci.bq.length (C8 s r l).length,Mr r.eh.ci.ca.length (Ch s r l).length⟩
theorem Vg(l:Fp)(v:Int):slices_Contains_int l v=Y (hasB l v):=LD l v
variable{o:I1}
theorem k9{b:Bool}{c:Bool}(h:o=Y c):(if(!b)=X then o else Y T)=Y (!b&&c):=by
 subst h;cases b<;>rfl
variable{t:AC}{r:ec}
theorem gQ(hf:Ay t){s:A5}(z:EK r)(l:Fp):Eh t s r l=Y (if CW t s r≠0 then(bF,⟨[],[]⟩,CW t s r)else(By s r l,YK s r l,0)):=by
 unfold Eh;rw[ly hf z,bs];refine Do λh=>?_;obtain⟨B,ho,l1,l2⟩:=FA h;have w:=ho.left;have y:=P4 B ho.right ho.Aah;have C:=w.d6;have D:=w.d7;have E:=ho.right.d6;have F:=ho.right.d7;unfold slices_Clone_int DA;rw[BO a?,bs,BO a?,bs,BO a?,bs,BO a?,bs];rw[BR (λi=>(ci.mk (r.eh.ci.bq++(B5 (Nv s r l) i).map (AA r.d5.ci.bq)) r.eh.ci.ca,cE.mk (r.eE.bq++B5 (Nv s r l) i) r.eE.ca,A3.mk (Mr r.eh.ci.bq.length (B5 (Nv s r l) i).length) [])) U (by simp[B5,Mr]),bs,
  BR (λi=>(ci.mk (r.eh.ci.bq++(C8 s r l).map (AA r.d5.ci.bq)) (r.eh.ci.ca++(B5 (Nu s r l) i).map (Ri r (A0 s r l))),cE.mk (A0 s r l) (r.eE.ca++B5 (Nu s r l) i),A3.mk (Mr r.eh.ci.bq.length (C8 s r l).length) (Mr r.eh.ci.ca.length (B5 (Nu s r l) i).length))) U (by simp[B5,Mr,A0,C8]),bs]
 .have G:=GF (Nv s r l) r.d5.ci.bq.length;have H:=GF (Nu s r l) r.d5.ci.ca.length;rw[BO a?,bs,BO a?,bs,li (by simp[C8];omega)];rfl
 .intro i d f;have u:=y.edge _ (AG d f);have A:=GF (Nu s r l) i;rw[AD d f,bs,Vg,bs,k9 (b:=hasB r.eE.ca i) (c:=hasB l (AA s.ca (AA r.d5.ci.ca i).fa)) (by rw[AD u.1 u.2,bs,Vg];rfl),bs,R5 _ d];change (if Nu s r l i=X then _ else _)=_;cases Nu s r l i
  .simp only[A',if_false,H?]
  .simp only[if_true,Qt,bs];rw[AU (by simp[Zr];unfold AY;omega),bs,AU a!,bs,AU a!,bs];simp only[H',I',I!,a5,az,ae,J',bk,K!,Xn,y?];rfl
 .intro i d f;have u:=y.node _ (AG d f);have A:=GF (Nv s r l) i;rw[AD d f,bs,Vg,bs,k9 (b:=hasB r.eE.bq i) (c:=hasB l (AA s.bq (AA r.d5.ci.bq i))) (by rw[AD u.1 u.2,bs,Vg];rfl),bs,R5 _ d];change (if Nv s r l i=X then _ else _)=_;cases Nv s r l i
  .simp only[A',if_false,H?]
  .simp only[if_true];rw[AU (by simp[Zr];unfold AY;omega),bs,AU a!,bs,AU a!,bs];simp only[H',I',I!,a5,az,ae,J',bk,K!,Xn,y?]
theorem mc{α:Type}[Inhabited α][DecidableEq α](l:List α):Aj (ρ:=Bool) (λ(h:Int)(_:Unit)=>
 (idx l h).bind λd=>
 (idx l h).bind λf=>
 if (!decide (d=f))=X then
 Y (.ret T)
 else
 Y (.next ())) 0 (l.length:Int) ()=Y (.inl ()):=by
 rw [BT (λ_=>T) T]
 .rw[BY.2 (λ_ _ _=>rfl)];rfl
 .intro i u w _;rw[AD u w,bs,bs];simp
theorem kc(l:Fp):slices_Equal_int l l=Y X:=by
 unfold slices_Equal_int;rw[mc];simp[Bj]
def BL:AC:=⟨[⟨⟨#[67,108,97,115,115]⟩,-1,T,[]⟩,⟨⟨#[65,116,116,114,105,98,117,116,101]⟩,-1,T,[]⟩,⟨⟨#[84,97,98,108,101]⟩,-1,T,[]⟩,⟨⟨#[67,111,108,117,109,110]⟩,-1,T,[]⟩,⟨⟨#[77,97,112]⟩,-1,T,[]⟩],
 [⟨⟨#[104,97,115]⟩,0,1,0,-1,0,-1⟩,⟨⟨#[119,105,116,104]⟩,2,3,0,-1,0,-1⟩,⟨⟨#[111,102,67,108,97,115,115]⟩,4,0,0,-1,0,-1⟩,⟨⟨#[111,102,65,116,116,114,105,98,117,116,101]⟩,4,1,0,-1,0,-1⟩,⟨⟨#[116,111,84,97,98,108,101]⟩,4,2,0,-1,0,-1⟩,⟨⟨#[116,111,67,111,108,117,109,110]⟩,4,3,0,-1,0,-1⟩]⟩
def AP:A5:=⟨[1,1,3,3,2],[1,3,2,2,2,2]⟩
def bh:ec:=⟨⟨#[99,108,97,115,115,101,115]⟩,⟨⟨[],[]⟩,[],0,[]⟩,⟨⟨[0,2,4],[⟨2,2,0⟩,⟨4,2,1⟩]⟩,[],0,[]⟩,⟨[],[]⟩,⟨[],[]⟩,X,Nl 1⟩
theorem bi:IC=Y (BL,AP):=rfl
theorem u0:KS=Y bh:=rfl
theorem Dq:Ay BL:=by
 have h:∀n∈BL.bq,n.kl=[]:=a_
 refine ⟨a_,a_,a_,λn hn=>?_,λn hn a d=>?_,a_⟩
 .rw[h n hn];decide
 .rw[h n hn]at d;cases d
theorem QS(k:Int):Dn (Nl k):=.mk _ ⟨K? _,K? _,K? _,K? _⟩ ⟨K? _,K? _⟩ (λk d=>by cases d)
theorem fZ:EK bh:=⟨a_,⟨a_,a_,a_,a_⟩,⟨a_,a_,a_,a_⟩,⟨a_,a_⟩,⟨a_,a_⟩,QS 1⟩
theorem exE:CW BL AP bh=0:=b!
theorem xk:Ke=Y X:=by
 unfold Ke Fg FB;rw[bi,bs,u0,bs];dsimp only;rw[gR Dq fZ,exE];simp only[gQ Dq fZ,exE,ne_eq,not_true_eq_false,if_false,bs,decide_true,if_true];rw[show(Ci AP bh 1).d5.ci.bq=[0]by decide,show(By AP bh [1]).eh.ci.bq=[0]by decide,show(YK AP bh [1]).bq=[0]by decide,show(By AP bh [1]).d5.ci.bq=[0,2,4]by decide,kc];rfl
end Go.Sf.Sc
namespace Go.Sf
end Go.Sf
namespace Go.Sf.Sc
open Go Go.Sf
variable{g:ci}
theorem o0(d:g.bq.length<=1000)(f:g.ca.length<=1000):FW g=Y g:=by
 unfold FW;rw[BO a?,bs,BO a?];rfl
end Go.Sf.Sc
namespace Go.Sf.Sc
open Go Go.Sf
end Go.Sf.Sc
namespace Go.Sf.Sc
open Go Go.Sf
end Go.Sf.Sc
namespace Go.Sf
variable{i:Int}
theorem H7{α:Type}[Inhabited α]{l m:List α}(d:i.toNat<l.length):AA (l++m) i=AA l i:=by
 unfold AA;rw[E',E',List.getElem?_append_left d]
theorem Vd{α:Type}[Inhabited α]{l m:List α}(d:l.length<=i):AA (l++m) i=AA m (i-l.length):=by
 unfold AA;rw[E',E',List.getElem?_append_right U,show i.toNat-l.length=(i-l.length).toNat by omega]
theorem NA{α β:Type}[Inhabited α][Inhabited β]{l:List α}{g:α->β}(d:0<=i)(f:i<l.length):AA (l.map g) i=g (AA l i):=by
 have h:=AD d f;have:=(Wf h).2.2;unfold AA at *;rw[E',J!,this];rfl
variable{n:Int}
theorem KN(d:0<=i)(f:i<n):AA (Bm n) i=i:=by
 unfold Bm;have:((F_ n.toNat).map y_)[i.toNat]?=Y i:=by
  rw [J!,List.getElem?_range U];simp;omega
 unfold AA;rw[E',this];rfl
variable{x:Int}
theorem Sg:x∈Bm n↔0<=x/\x<n:=by
 unfold Bm;rw[G_];constructor
 .rintro⟨k,d,rfl⟩;have:=G!.1 d;exact⟨y! k,by show(k:Int)<n;omega⟩
 .rintro⟨f,h⟩;exact⟨x.toNat,G!.2 U,x? f⟩
variable{l:Fp}{j:Int}
theorem cT(h:l.Nodup)(f:0<=i)(u:i<l.length)(w:0<=j)(y:j<l.length)(e:AA l i=AA l j):i=j:=by
 rcases Int.lt_trichotomy i j with d|d|d
 .exact absurd e (HL h f d y)
 .exact d
 .exact absurd e.symm (HL h w d u)
theorem gD(n:Int):(Bm n).Pairwise (·<·):=by
 refine SC λi j d f h=>?_;rw[CM]at h;rw[KN d U,KN U U];exact f
theorem Zw(n:Int):(Bm n).Nodup:=(gD n).imp (λh=>U)
theorem lJ(d:0<=x)(f:x<n):Ao (Bm n) x=x:=by
 obtain ⟨a,b,c,_⟩:=BH (Sg.2 ⟨d,f⟩);rw[CM]at b;rw[KN a U]at c;exact c
theorem ta(q:Int->Bool)(n:Int):(B5 q n).Pairwise (·<·):=(gD n).filter _
variable{q:Int->Bool}
theorem Gh:x∈B5 q n↔(0<=x/\x<n)/\q x=X:=by
 unfold B5;rw[J_];exact and_congr_left λ_=>Sg (n:=n)
end Go.Sf
namespace Go.Sf.Sc
open Go Go.Sf
structure Cp(g:ci):Prop where
 pr:g.bq.length<=20
 sr:g.ca.length<=20
 node:∀n∈g.bq,0<=n/\n<5
 edge:∀e∈g.ca,(0<=e.fa/\e.fa<6)/\(0<=e.fd/\e.fd<g.bq.length)/\(0<=e.To/\e.To<g.bq.length)/\Fw BL e.fa (AA g.bq e.fd) (AA g.bq e.To)=X
variable{g:ci}
theorem Cp.e0(h:Cp g):Bt g=0:=by
 have:=h.pr;have:=h.sr;unfold Bt;rw[aE U,aE,aE]
 .rw[C',D?];intro e he;have:=h.edge e he;simp[SJ,Kw];omega
 .rw[C',D?];intro n hn;have:=h.node n hn;simp[Kw];omega
theorem Cp.ok(h:Cp g):BW g:=DQ h.e0
theorem Ya:BL.bq.length=5/\BL.ca.length=6:=⟨rfl,rfl⟩
theorem Cp.typed(h:Cp g):CS BL g=X:=by
 unfold CS;rw[Ya.1,Ya.2,gN,A?,A?,D?,D?];refine⟨λn hn=>?_,λe he=>?_⟩
 .have:=h.node n hn;simp;omega
 .have:=h.edge e he;simp;omega
theorem exV:(A8 BL).2=0:=b!
theorem Cp.pat(h:Cp g):GW BL ⟨g,[],0,[]⟩=0:=by
 unfold GW;rw[exV,h.e0,h.typed];rfl
structure EP(L R:ci)(m:cE):Prop where
 l:Cp L
 r:Cp R
 pr:m.bq.length=L.bq.length
 sr:m.ca.length=L.ca.length
 node:∀i:Int,0<=i->i<L.bq.length->(0<=AA m.bq i/\AA m.bq i<R.bq.length)/\AA R.bq (AA m.bq i)=AA L.bq i
 edge:∀i:Int,0<=i->i<L.ca.length->(0<=AA m.ca i/\AA m.ca i<R.ca.length)/\(AA L.ca i).fa=(AA R.ca (AA m.ca i)).fa/\
  AA m.bq (AA L.ca i).fd=(AA R.ca (AA m.ca i)).fd/\AA m.bq (AA L.ca i).To=(AA R.ca (AA m.ca i)).To
 nn:m.bq.Nodup
 ne:m.ca.Nodup
variable{n:Int}
theorem fG{k:Nat}(h:n=k):M1 (Bm n) k=0:=by
 subst h;unfold M1;have:fst (λi=>if AA (Bm k) i<0\/(k:Int)<=AA (Bm k) i then Y (6:Int)else if 0<i/\AA (Bm k) i<=AA (Bm k) (i-1)then Y 12 else W) 0 (Bm k).length=W:=by
  rw [BQ];intro i d f;rw[CM]at f;rw[KN d U,aE U];by_cases u:0<i
  .rw[KN U U,aE U]
  .rw[aE U]
 rw [this];rfl
def S5(g:ci):A3:=⟨Bm g.bq.length,Bm g.ca.length⟩
theorem jc(h:Cp g):DU g (S5 g)=0:=by
 unfold DU;rw[h.e0,aE a_];unfold Ms S5;rw[fG rfl,fG rfl,aE a_,aE a_];have:fst (λi=>if(hasB (Bm g.bq.length) (AA g.ca (AA (Bm g.ca.length) i)).fd&&hasB (Bm g.bq.length) (AA g.ca (AA (Bm g.ca.length) i)).To)=X then W else Y (14:Int)) 0 (Bm g.ca.length).length=W:=by
  rw [BQ];intro i d f;rw[CM]at f;rw[KN d U];have he:=h.edge _ (AG (l:=g.ca) d U);rw[QQ];rw[gN,Aq,Aq,Sg,Sg];exact⟨he.2.1,he.2.2.1⟩
 rw [this];rfl
theorem eb(h:Cp g):CQ g (S5 g)=g:=by
 have u:(Bm g.bq.length).map (AA g.bq)=g.bq:=by
  refine Uh (by simp[CM]) λi d f=>?_;simp only[az,CM]at f;rw[NA d (by rw[CM];omega),KN d U]
 have w:(Bm g.ca.length).map (λx=>(⟨(AA g.ca x).fa,Ao (Bm g.bq.length) (AA g.ca x).fd,Ao (Bm g.bq.length) (AA g.ca x).To⟩:Bu))=g.ca:=by
  refine Uh (by simp[CM]) λi d f=>?_;simp only[az,CM]at f;have he:=h.edge _ (AG (l:=g.ca) d U);rw[NA d (by rw[CM];omega),KN d U,lJ he.2.1.1 he.2.1.2,lJ he.2.2.1.1 he.2.2.1.2]
 unfold CQ S5;rw[u,w]
variable{L R:ci}{m:cE}
theorem oL(h:EP L R m):Gp L R m=0:=by
 unfold Gp;rw[h.l.e0,h.r.e0,aE a_,aE a_,aE (by have:=h.pr;have:=h.sr;omega)];have u:fst (JP L R m) 0 m.bq.length=W:=by
  rw [BQ];intro i d f;have:=h.node i d (by have:=h.pr;omega);unfold JP;rw[aE U,aE (by simpa using this.2)]
 have w:fst (Dm L R m) 0 m.ca.length=W:=by
  rw [BQ];intro i d f;have:=h.edge i d (by have:=h.sr;omega);unfold Dm;rw[aE U,aE (by simpa using this.2.1),aE (by simp[this.2.2.1,this.2.2.2])]
 rw [u,w];rfl
theorem uz:∀n:Int,0<=n->n<5->(AA BL.bq n).o3=T:=by
 intro n d f;have:n=0\/n=1\/n=2\/n=3\/n=4:=U
 rcases this with rfl|rfl|rfl|rfl|rfl<;>rfl
variable{i:Int}
theorem Cp.fits(h:Cp g)(d:0<=i)(f:i<g.ca.length):De BL g i=X:=(h.edge _ (AG d f)).2.2.2
theorem oK(h:Cp R){ns es:Fp}(hn:∀x∈ns,0<=x/\x<R.bq.length)(he:∀x∈es,0<=x/\x<R.ca.length):QB BL R ns es=X:=by
 unfold QB;rw[gN,A?,A?,D?,D?];refine⟨λx f=>?_,λx f=>?_⟩
 .have d:=hn x f;have u:=h.node _ (AG d.1 d.2);rw[uz _ u.1 u.2];decide
 .have d:=he x f;rw[h.fits d.1 d.2];decide
theorem ob(N:Nat)(t:AC)(p:d4):J5 N t p (Nl 1)=0:=by
 cases N with
 |zero=>rfl|succ N=>rfl
theorem wn:La (Nl 1)=0:=b!
variable{nm:ByteArray}
theorem ky(h:EP L R m)(hn:Dl nm=X):Ds BL (Cf nm L R m)=0:=by
 have f:PB (Cf nm L R m)=0:=by
  unfold PB;show(if DU L (S5 L)≠0 then _ else if Gp (CQ L (S5 L)) R m≠0 then _ else if G7 m=T then 11 else 0)=0;rw[jc h.l,eb h.l,oL h,aE a_,aE a_,aE];unfold G7;rw[Hg.2 h.nn,Hg.2 h.ne];decide
 have u:Ip BL (Cf nm L R m)=0:=by
  unfold Ip;show(if Bt R≠0 then _ else if CS BL R=T then 13 else _)=0;rw[h.r.e0,h.r.typed];rfl
 unfold Ds;rw[exV,aE a_,aE (by show¬Dl nm=T;rw[hn];decide),show GW BL (Cf nm L R m).eh=0 from h.l.pat,aE a_,u,aE a_,f,aE a_,oK (R:=(Cf nm L R m).d5.ci) (ns:=DT (Cf nm L R m)) (es:=F7 (Cf nm L R m)) h.r (λx d=>Db d) (λx d=>Db d),aE a_];unfold Lp;rw[show GW BL (Cf nm L R m).eh=0 from h.l.pat,aE a_,show La (Cf nm L R m).c9=0 from wn,aE a_];exact ob _ _ _
theorem Wd(h:EP L R m)(hn:(nm.size:Int)<=60):EK (Cf nm L R m):=by
 have a:=h.l.pr;have b:=h.l.sr;have c:=h.r.pr;have d:=h.r.sr;have e:=h.pr;have f:=h.sr;refine⟨hn,⟨?_,?_,K? _,K? _⟩,⟨?_,?_,K? _,K? _⟩,⟨?_,?_⟩,⟨?_,?_⟩,QS 1⟩
 .show L.bq.length<=45;omega
 .show L.ca.length<=90;omega
 .show R.bq.length<=45;omega
 .show R.ca.length<=90;omega
 .show(Bm L.bq.length).length<=1000;rw[CM];omega
 .show(Bm L.ca.length).length<=1000;rw[CM];omega
 .show m.bq.length<=140;omega
 .show m.ca.length<=140;omega
theorem yh:∀n∈BL.bq,n.kq=-1:=a_
variable{l:Fp}
theorem fw(h:∀n∈l,0<=n):vA BL l=X:=by
 unfold vA;rw[A?,D?];intro k d;rw[C',D?];intro n hn;have:=h k d;rw[yh n hn,ml];omega
theorem Uu(h:EP L R m)(hn:Dl nm=X){S:A5}(d:Je BL S=0):CW BL S (Cf nm L R m)=0:=by
 unfold CW;rw[d,aE a_,ky h hn,aE a_,aE,QQ]
 .rw[gN,gN];refine⟨⟨fw λn hn=>(h.l.node n hn).1,fw λn hn=>(h.r.node n hn).1⟩,?_⟩;unfold jA;rw[A?,BY];intro i f u;rw[show De BL (Cf nm L R m).eh.ci i=X from h.l.fits f u];rfl
 .rw[Bool.not_eq_false];unfold QR;simp only[gN,ml];refine⟨⟨⟨⟨rfl,rfl,rfl,rfl⟩,rfl⟩,rfl⟩,?_,?_⟩
  .show(Bm L.bq.length).length=L.bq.length;rw[CM];omega
  .show(Bm L.ca.length).length=L.ca.length;rw[CM];omega
end Go.Sf.Sc
namespace Go.Sf
variable{a b:Int}
theorem V3{σ ρ:Type}{f:σ×Int->Option (B3 (σ×Int) ρ)}(I:Int->σ->Prop){s:σ}(u:a<=b)(w:I a s)(h:∀i s,a<=i->i<b->I i s->∃s',f (s,i)=Y (.next (s',i+1))/\I (i+1) s')(y:∀s,I b s->f (s,b)=Y (.brk (s,b))):∃s',EI f (s,a)=Y (.inl (s',b))/\I b s':=by
 have key:∀(n:Nat)(i:Int)(s:σ),a<=i->i+n=b->I i s->∃s',LB f (s,i) (.inl (s',b))/\I b s':=by
  intro n
  induction n with
  |zero=>
   intro i s _ hi d;have:i=b:=U
   subst this;exact⟨s,.brk (y s d),d⟩
  |succ n F=>
   intro i s z G d;obtain⟨A,B,C⟩:=h i s z U d;obtain⟨s2,D,E⟩:=F (i+1) A U U C;exact⟨s2,.next B D,E⟩
 obtain ⟨s',e,d⟩:=key (b-a).toNat a s (x_ _) U w;exact⟨s',e.eq,d⟩
variable{x n:Int}
theorem Jo(d:0<=x)(hn:0<n):∃y,Jn x n=Y y/\0<=y/\y<n:=by
 unfold Jn;rw[aE U];refine⟨_,rfl,?_,?_⟩
 .rw[z_ d];exact Int.emod_nonneg _ U
 .rw[z_ d];exact Int.emod_lt_of_pos _ hn
theorem YE{q d:Int->Bool}(h:∀i,0<=i->i<n->q i=d i):B5 q n=B5 d n:=by
 unfold B5;refine List.filter_congr λx f=>?_;have:=Sg.1 f;exact h x this.1 this.2
end Go.Sf
namespace Go.Sf.Sc
open Go Go.Sf
theorem Cp.nil:Cp ⟨[],[]⟩:=⟨a_,a_,V,V⟩
variable{g:ci}{x:Int}
theorem Cp.addN(h:Cp g)(w:g.bq.length<20)(d:0<=x)(x1:x<5):Cp ⟨g.bq++[x],g.ca⟩:=by
 refine ⟨an,h.sr,λn hn=>?_,λe he=>?_⟩
 .rcases D!.1 hn with hn|hn
  .exact h.node n hn
  .rw[J?.1 hn];exact⟨d,x1⟩
 .obtain⟨f,y,z,u⟩:=h.edge e he;simp only[a5,ae,J'];refine⟨f,U,U,?_⟩;rw[H7 U,H7 U];exact u
theorem Cp.addE(h:Cp g)(w:g.ca.length<20){t a b:Int}(d:0<=t/\t<6)(f:0<=a/\a<g.bq.length)(u:0<=b/\b<g.bq.length)(hf:Fw BL t (AA g.bq a) (AA g.bq b)=X):Cp ⟨g.bq,g.ca++[⟨t,a,b⟩]⟩:=by
 refine ⟨h.pr,an,h.node,λe he=>?_⟩;rcases D!.1 he with he|he
 .exact h.edge e he
 .rw[J?.1 he];exact⟨d,f,u,hf⟩
def Na(x:Int):Prop:=0<=x/\x<=255
structure VZ(d:Ee):Prop where
 d6:∀x∈d.bq,Na x.a0/\Na x.a1
 d7:∀x∈d.ca,Na x.a0/\Na x.a1/\Na x.a2
instance:Inhabited YN:=⟨⟨0,0⟩⟩
instance:Inhabited VW:=⟨⟨0,0,0⟩⟩
theorem Lj(h:Na x):Ag x=x:=Ar (by have:=h.1;omega) (by have:=h.2;omega)
theorem jf:JT BL=Y [0,1,2,3,4]:=by
 unfold JT;rw[BR Bm U l?]
 .rfl
 .intro i d f;have h:(BL.bq.length:Int)=5:=rfl;have hn:=CM i;rw[AD d f,bs,uz i d U,QQ a_,AU a!,Po d];rfl
variable{n:Int}
theorem fY(d:0<=n)(f:n<5):GR BL n=([],0):=by
 have:n=0\/n=1\/n=2\/n=3\/n=4:=U
 rcases this with rfl|rfl|rfl|rfl|rfl<;>decide +kernel
variable{i:Int}
theorem AAq(d:0<=i)(f:i<5):idx ([0,1,2,3,4]:Fp) i=Y i:=by
 have:i=0\/i=1\/i=2\/i=3\/i=4:=U
 rcases this with rfl|rfl|rfl|rfl|rfl<;>rfl
theorem Z4{d:Ee}(hd:VZ d)(hn:d.bq.length<=8)(he:d.ca.length<=10):∃h,J7 BL d=Y h/\Cp h.ci/\h.ci.bq.length<=d.bq.length/\h.ci.ca.length<=d.ca.length/\h.eg=F! h.ci.bq.length []:=by
 unfold J7;rw[jf,bs];obtain⟨w,e1,g1,n1,v1⟩:=V3 (ρ:=AH) (f:=(λ(A:AH×Int)=>
  if (((decide (A.2<(d.bq.length:Int)))&&(decide (A.2<8)))&&(decide (0<(([0,1,2,3,4]:Fp).length:Int))))=X then
  (idx d.bq A.2).bind λx38=>
  (Jn (Ag x38.a0) (([0,1,2,3,4]:Fp).length:Int)).bind λx44=>
  (idx ([0,1,2,3,4]:Fp) x44).bind λH=>
  (Ed BL H).bind λB=>
  (BB (λ(η:Int)(s2:Fp)=>
  (idx B.1 η).bind λx63=>
  (idx d.bq A.2).bind λx69=>
  (idx B.1 η).bind λx78=>
  (idx B.1 η).bind λx83=>
  (Jn (Ag ((Ag x69.a1)+(Ag (7*η)))) (Ag ((Ag (x78.vB-x83.Low))+1))).bind λx88=>
  (Al s2 [Ag (x63.Low+x88)]).bind λx91=>
  Y x91) 0 (B.1.length:Int) []).bind λs2=>
  (Al A.1.ci.bq [H]).bind λx97=>
  (Al A.1.eg [s2]).bind λI=>
  Y (.next (AH.mk (ci.mk x97 A.1.ci.ca) I,Ag (A.2+1)))
  else
  Y (.brk (A.1,A.2)))) (λi h=>Cp h.ci/\(h.ci.bq.length=i/\h.ci.ca=[])/\h.eg=F! h.ci.bq.length []) (a:=0) (b:=d.bq.length) (s:=AH.mk (ci.mk [] []) []) U ⟨Cp.nil,⟨rfl,rfl⟩,rfl⟩ (λi h J K M=>by
   obtain ⟨Z,⟨hl,hE⟩,hv⟩:=M;have C:=(hd.d6 _ (AG J K)).1;obtain⟨y,y1,G,y3⟩:=Jo (n:=5) C.1 U;refine⟨⟨⟨h.ci.bq++[y],h.ci.ca⟩,h.eg++[[]]⟩,?_,Z.addN U G y3,⟨an,hE⟩,by rw[hv,a5,List.length_singleton,List.replicate_succ']⟩;rw[QQ an,AD J K,bs,Lj C];show((Jn _ 5).bind _)=_;rw[y1,bs,AAq G y3,bs,Qy Dq,bs,fY G y3];rw[jC V,bs,AU a!,bs,AU (by rw[hv];simp;unfold AY;omega),bs,Ar U U]) (λh M=>by
   rw [aE V])
 rw [e1,Bj];by_cases h0:w.ci.bq.length=0
 .refine⟨w,?_,g1,U,by rw[n1.2];exact K? _,v1⟩;rw[(LB.brk (s:=(w,(0:Int))) (s':=(w,0)) (by rw[aE (by dsimp only;rw[h0];simp)])).eq];rfl
 .obtain⟨h2,e2,g2,n2,v2⟩:=V3 (ρ:=AH) (f:=(λ(u:AH×Int)=>
   if ((((decide (u.2<(d.ca.length:Int)))&&(decide (u.2<10)))&&(decide (0<(w.ci.bq.length:Int))))&&(decide (0<(BL.ca.length:Int))))=X then
   (idx d.ca u.2).bind λN=>
   (Jn (Ag N.a0) (BL.ca.length:Int)).bind λD=>
   (idx d.ca u.2).bind λO=>
   (Jn (Ag O.a1) (w.ci.bq.length:Int)).bind λE=>
   (idx d.ca u.2).bind λQ=>
   (Jn (Ag Q.a2) (w.ci.bq.length:Int)).bind λF=>
   (idx u.1.ci.bq E).bind λS=>
   (idx u.1.ci.bq F).bind λθ=>
   (GL BL D S θ).bind λε=>
   if ε=X then
   (Al u.1.ci.ca [Bu.mk D E F]).bind λκ=>
   Y (.next (AH.mk (ci.mk u.1.ci.bq κ) u.1.eg,Ag (u.2+1)))
   else
   Y (.next (u.1,Ag (u.2+1)))
   else
   Y (.brk (u.1,u.2)))) (λi h=>Cp h.ci/\h.ci.bq.length=w.ci.bq.length/\h.ci.ca.length<=i/\h.eg=w.eg) (a:=0) (b:=d.ca.length) (s:=w) U ⟨g1,rfl,by rw[n1.2];decide,rfl⟩ (λi h J K M=>by
    obtain ⟨Z,hl,hE,hV⟩:=M;have C:=hd.d7 _ (AG J K);obtain⟨x,x1,x2,x3⟩:=Jo (n:=6) C.1.1 U;obtain⟨y,y1,G,y3⟩:=Jo (n:=w.ci.bq.length) C.2.1.1 U;obtain⟨z,z1,z2,z3⟩:=Jo (n:=w.ci.bq.length) C.2.2.1 U;rw[QQ (by simp[Ya.2];omega),AD J K];simp only[bs,Lj C.1,Lj C.2.1,Lj C.2.2];rw[show(BL.ca.length:Int)=6 from rfl,x1,bs,y1,bs,z1,bs,AD G U,bs,AD z2 U,bs,X5 Dq,bs,Ar U U];cases hf:Fw BL x (AA h.ci.bq y) (AA h.ci.bq z)
    .exact⟨h,rfl,Z,hl,U,hV⟩
    .refine⟨⟨⟨h.ci.bq,h.ci.ca++[⟨x,y,z⟩]⟩,h.eg⟩,?_,Z.addE U ⟨x2,x3⟩ ⟨G,U⟩ ⟨z2,U⟩ hf,hl,an,hV⟩;rw[QQ rfl,AU a!];rfl) (λh M=>by
    rw [aE V])
  rw [e2,Bj];exact⟨h2,rfl,g2,U,U,by rw[v2.2,v1,n2]⟩
theorem lY{n:Nat}(h:n<=1000):JQ n=Y (Bm n):=by
 unfold JQ;rw[BR Bm U l?]
 .rfl
 .intro i d f;have:=CM i;rw[AU a!,Po d];rfl
theorem oz{d:Ee}(hd:VZ d)(hn:d.bq.length<=3)(he:d.ca.length<=3):∃h,J7 BL d=Y h/\Cp h.ci/\h.ci.bq.length<=3/\h.ci.ca.length<=3:=by
 obtain ⟨h,e,g,n,m,_⟩:=Z4 hd U U;exact⟨h,e,g,U,U⟩
structure Y1(d:GO):Prop where
 left:VZ d.eh
 d6:∀x∈d.bq,Na x
 d7:∀x∈d.ca,Na x.a0/\Na x.a1/\Na x.a2
theorem wo{α:Type}(l:List α):∃m,slc l 0 (min 3 (l.length:Int))=Y m/\m.length<=3/\∀x∈m,x∈l:=by
 refine ⟨_,Lb U U,v_,λx d=>List.mem_of_mem_take d⟩
theorem mA{d:GO}(hd:Y1 d):∃L R,OD d=Y (Cf ⟨#[114]⟩ L R ⟨Bm L.bq.length,Bm L.ca.length⟩)/\EP L R ⟨Bm L.bq.length,Bm L.ca.length⟩/\L.bq.length<=3/\L.ca.length<=3/\R.bq.length<=6/\R.ca.length<=7/\(∃A,R.bq=L.bq++A)/\∃B,R.ca=L.ca++B:=by
 unfold OD;obtain⟨a,a1,a2,a3⟩:=wo d.eh.bq;obtain⟨b,b1,b2,b3⟩:=wo d.eh.ca;obtain⟨h,h1,h2,h3,h4⟩:=oz (d:=⟨a,b⟩) ⟨λx hx=>hd.left.d6 x (a3 x hx),λx hx=>hd.left.d7 x (b3 x hx)⟩ a2 b2;rw[bi,bs,a1,bs,b1,bs,h1,bs,o0 U U,bs];obtain⟨w,e1,u⟩:=V3 (ρ:=ec) (f:=(λ(G:ci×Int)=>
  if ((decide (G.2<(d.bq.length:Int)))&&(decide (G.2<3)))=X then
  (idx d.bq G.2).bind λx55=>
  (Jn (Ag x55) ((BL,AP).1.bq.length:Int)).bind λx61=>
  (Al G.1.bq [x61]).bind λx63=>
  Y (.next (ci.mk x63 G.1.ca,Ag (G.2+1)))
  else
  Y (.brk (G.1,G.2)))) (λi g=>Cp g/\g.bq.length<=3+i/\g.ca=h.ci.ca/\∃A,g.bq=h.ci.bq++A) (a:=0) (b:=min d.bq.length 3) (s:=h.ci) U ⟨h2,U,rfl,[],V⟩ (λi g C u N=>by
   obtain ⟨M,K,hE,A,hA⟩:=N;have u:i<(d.bq.length:Int)/\i<3:=U
   have D:=hd.d6 _ (AG C u.1);obtain⟨y,y1,y2,y3⟩:=Jo (n:=5) D.1 U;refine⟨⟨g.bq++[y],g.ca⟩,?_,M.addN U y2 y3,an,hE,A++[y],by rw[hA,bk]⟩;rw[QQ e_,AD C u.1,bs,Lj D];show((Jn _ 5).bind _)=_;rw[y1,bs,AU a!,bs,Ar U U]) (λg N=>by
   rw [aE an])
 obtain ⟨i2,i3,i4,A,i5⟩:=u;rw[e1,Bj];have fin:∀(k:Int)(g:ci),Cp g->g.bq=w.bq->g.ca.length<=7->(∃B,g.ca=h.ci.ca++B)->∀(F:ci×Int->Option (B3 (ci×Int) ec)),EI F (w,0)=Y (.inl (g,k)) ->
   ∃L R,(AL (EI F (w,0)) (λs2=>(RO h.ci).bind λO=>
    (L9 (ec.mk (⟨#[114]⟩:ByteArray) (d4.mk (ci.mk [] []) [] 0 []) (d4.mk (ci.mk [] []) [] 0 []) (A3.mk [] []) (cE.mk [] []) T (c9.mk 0 [] (cE.mk [] []) (d4.mk (ci.mk [] []) [] 0 []))) h.ci s2.1 O).bind λQ=>
    Y Q) (λv2=>Y v2))=Y (Cf ⟨#[114]⟩ L R ⟨Bm L.bq.length,Bm L.ca.length⟩)/\EP L R ⟨Bm L.bq.length,Bm L.ca.length⟩/\L.bq.length<=3/\L.ca.length<=3/\R.bq.length<=6/\R.ca.length<=7/\(∃A,R.bq=L.bq++A)/\∃B,R.ca=L.ca++B:=by
  intro k g M hN hEl J F hF;obtain⟨B,J⟩:=J;refine⟨h.ci,g,?_,⟨h2,M,by simp[CM],by simp[CM],λi C u=>?_,λi C u=>?_,Zw _,Zw _⟩,h3,h4,by rw[hN];omega,hEl,⟨A,by rw[hN,i5]⟩,B,J⟩
  .rw[hF,Bj];unfold RO;rw[lY U,bs,lY U,bs,bs,wL ⟨U,U⟩];rfl
  .dsimp only;rw[KN C u,hN,i5,H7 U];exact⟨⟨C,l'⟩,rfl⟩
  .dsimp only;have E:=h2.edge _ (AG (l:=h.ci.ca) C u);rw[KN C u,J,H7 U,KN E.2.1.1 E.2.1.2,KN E.2.2.1.1 E.2.2.1.2];exact⟨⟨C,l'⟩,rfl,rfl,rfl⟩
 by_cases h0:w.bq.length=0
 .refine fin 0 w i2 rfl (by rw[i4];omega) ⟨[],by rw[i4];simp⟩ _ ?_;exact(LB.brk (s:=(w,(0:Int))) (s':=(w,0)) (by rw[aE (by dsimp only;rw[h0];simp)])).eq
 .obtain⟨g2,e2,j2,j3,j4,j5⟩:=V3 (ρ:=ec) (f:=(λ(s2:ci×Int)=>
   if (((decide (s2.2<(d.ca.length:Int)))&&(decide (s2.2<4)))&&(decide (0<(w.bq.length:Int))))=X then
   (idx d.ca s2.2).bind λx86=>
   (Jn (Ag x86.a0) ((BL,AP).1.ca.length:Int)).bind λS=>
   (idx d.ca s2.2).bind λx97=>
   (Jn (Ag x97.a1) (w.bq.length:Int)).bind λH=>
   (idx d.ca s2.2).bind λθ=>
   (Jn (Ag θ.a2) (w.bq.length:Int)).bind λI=>
   (idx s2.1.bq H).bind λε=>
   (idx s2.1.bq I).bind λκ=>
   (GL (BL,AP).1 S ε κ).bind λη=>
   if η=X then
   (Al s2.1.ca [Bu.mk S H I]).bind λZ=>
   Y (.next (ci.mk s2.1.bq Z,Ag (s2.2+1)))
   else
   Y (.next (s2.1,Ag (s2.2+1)))
   else
   Y (.brk (s2.1,s2.2)))) (λi g=>Cp g/\g.bq=w.bq/\g.ca.length<=3+i/\∃B,g.ca=h.ci.ca++B) (a:=0) (b:=min d.ca.length 4) (s:=w) U ⟨i2,rfl,by rw[i4];omega,[],by rw[i4];simp⟩ (λi g C u N=>by
    obtain ⟨M,K,hE,B,J⟩:=N;have u:i<(d.ca.length:Int)/\i<4:=U
    have D:=hd.d7 _ (AG C u.1);obtain⟨x,x1,x2,x3⟩:=Jo (n:=6) D.1.1 U;obtain⟨y,y1,y2,y3⟩:=Jo (n:=w.bq.length) D.2.1.1 U;obtain⟨z,z1,z2,z3⟩:=Jo (n:=w.bq.length) D.2.2.1 U;rw[QQ an,AD C u.1];simp only[bs,Lj D.1,Lj D.2.1,Lj D.2.2];rw[show(BL.ca.length:Int)=6 from rfl,x1,bs,y1,bs,z1,bs,AD y2 (by rw[K];exact y3),bs,AD z2 (by rw[K];exact z3),bs,X5 Dq,bs,Ar U U];cases hf:Fw BL x (AA g.bq y) (AA g.bq z)
    .exact⟨g,rfl,M,K,U,B,J⟩
    .refine⟨⟨g.bq,g.ca++[⟨x,y,z⟩]⟩,?_,M.addE U ⟨x2,x3⟩ ⟨y2,by rw[K];exact y3⟩ ⟨z2,by rw[K];exact z3⟩ hf,K,an,B++[⟨x,y,z⟩],by rw[J,bk]⟩;rw[QQ rfl,AU a!];rfl) (λg N=>by
    rw [aE an])
  exact fin _ g2 j2 j3 U j5 _ e2
end Go.Sf.Sc
namespace Go.Sf.Sc
open Go Go.Sf
variable{x:Int}
theorem K7(h:(Oa x).WF):Na x:=h
theorem Q0{α:Type}{e:α->TV}{n:Nat}{l:List α}(h:(eL n e l).WF):∀x∈l,(e x).WF:=by
 have f:_/\TV.k7 (l.map e):=h;intro x d;exact(Bn.1 f.2) _ (G_.2 ⟨x,d,rfl⟩)
theorem iu{d:GO}(h:(GU d).WF):Y1 d:=by
 have u:TV.k7 [_,_,_,_]:=h;obtain⟨w,y,z,A,_⟩:=u;refine⟨⟨λx f=>?_,λx f=>?_⟩,λx f=>K7 (Q0 z x f),λx f=>?_⟩
 .have a:TV.k7 [_,_]:=Q0 w x f;exact⟨K7 a.1,K7 a.2.1⟩
 .have a:TV.k7 [_,_,_]:=Q0 y x f;exact⟨K7 a.1,K7 a.2.1,K7 a.2.2.1⟩
 .have a:TV.k7 [_,_,_]:=Q0 A x f;exact⟨K7 a.1,K7 a.2.1,K7 a.2.2.1⟩
theorem al:Je BL AP=0:=b!
variable{g:ci}{i:Int}
theorem Cp.Aao(h:Cp g)(d:0<=i)(f:i<g.bq.length):0<=AA g.bq i/\AA g.bq i<5:=h.node _ (AG d f)
theorem cR:Dl ⟨#[114]⟩=X:=a_
end Go.Sf.Sc
namespace Go.Sf.Sc
open Go Go.Sf
theorem u9:∀(t:Fin 6)(a b:Fin 5),Fw BL (t.val:Int) (a.val:Int) (b.val:Int)=X->AA AP.ca (t.val:Int)≠2->AA AP.bq (a.val:Int)=AA AP.ca (t.val:Int)/\AA AP.bq (b.val:Int)=AA AP.ca (t.val:Int):=b!
theorem bv{t a b:Int}(d:0<=t/\t<6)(f:0<=a/\a<5)(u:0<=b/\b<5)(h:Fw BL t a b=X)(w:AA AP.ca t≠2):AA AP.bq a=AA AP.ca t/\AA AP.bq b=AA AP.ca t:=by
 have:=u9 ⟨t.toNat,U⟩ ⟨a.toNat,U⟩ ⟨b.toNat,U⟩;simp only[x? d.1,x? f.1,x? u.1]at this;exact this h w
theorem LJ{a b:Fp}(d:a.Nodup)(f:b.Nodup)(h:∀x∈b,¬x∈a):(a++b).Nodup:=by
 rw [List.nodup_append];exact⟨d,f,λx u y w e=>h y w (e▸u)⟩
theorem Dc(q:Int->Bool)(n:Int):(B5 q n).Nodup:=(ta q n).imp (λh=>U)
theorem Su(q:Int->Bool)(n:Nat):(B5 q n).length<=n:=by
 have:=GF q n;omega
variable{l:Fp}{x:Int}
theorem cG(h:(!hasB l x)=X):¬x∈l:=λd=>by rw[Aq.2 d]at h;cases h
variable{L R:ci}{m:cE}{nm:ByteArray}
theorem Xc(h:EP L R m)(l:Fp)(Z:hasB l 2=T)(hn:L.bq.length+R.bq.length<=20)(he:L.ca.length+R.ca.length<=20):
  EP (By AP (Cf nm L R m) l).eh.ci R (By AP (Cf nm L R m) l).eE:=by
 let r:=Cf nm L R m
 have B:∀x∈C8 AP r l,(0<=x/\x<R.bq.length)/\Nv AP r l x=X:=λx d=>Gh.1 d;have w:∀x∈Ch AP r l,(0<=x/\x<R.ca.length)/\Nu AP r l x=X:=λx d=>Gh.1 d;have lN:(C8 AP r l).length<=R.bq.length:=Su _ _;have lE:(Ch AP r l).length<=R.ca.length:=Su _ _;have E:(By AP r l).eh.ci.bq=L.bq++(C8 AP r l).map (AA R.bq):=rfl;have M:(By AP r l).eh.ci.ca=L.ca++(Ch AP r l).map (Ri r (A0 AP r l)):=rfl;have iN:(By AP r l).eE.bq=A0 AP r l:=rfl;have F:A0 AP r l=m.bq++C8 AP r l:=rfl;have iE:(By AP r l).eE.ca=m.ca++Ch AP r l:=rfl;have S:=h.pr;have n2:=h.sr;have y:(By AP r l).eh.ci.bq.length=(A0 AP r l).length:=by rw[E,F];simp;omega
 have node:∀i:Int,0<=i->i<(By AP r l).eh.ci.bq.length->(0<=AA (A0 AP r l) i/\AA (A0 AP r l) i<R.bq.length)/\AA R.bq (AA (A0 AP r l) i)=AA (By AP r l).eh.ci.bq i:=by
  intro i J K;rw[E,F];by_cases hi:i<L.bq.length
  .rw[H7 U,H7 U];exact h.node i J hi
  .rw[E]at K;simp only[a5,az,y?]at K;rw[Vd U,Vd U,S,NA U U];exact⟨(B _ (AG U U)).1,rfl⟩
 have f:∀x∈Ch AP r l,(AA R.ca x).fd∈A0 AP r l/\(AA R.ca x).To∈A0 AP r l:=by
  intro x d;obtain⟨⟨x0,x1⟩,hq⟩:=w x d;obtain⟨C,z,A,D⟩:=h.r.edge _ (AG (l:=R.ca) x0 x1);have θ:hasB l (AA AP.ca (AA R.ca x).fa)=X:=by
   have:(!hasB m.ca x&&hasB l (AA AP.ca (AA R.ca x).fa))=X:=hq;rw[gN]at this;exact this.2
  have h2:AA AP.ca (AA R.ca x).fa≠2:=λe=>by rw[e,Z]at θ;cases θ
  obtain ⟨e1,η⟩:=bv C (h.r.Aao z.1 z.2) (h.r.Aao A.1 A.2) D h2;have key:∀n:Int,0<=n->n<R.bq.length->AA AP.bq (AA R.bq n)=AA AP.ca (AA R.ca x).fa->n∈A0 AP r l:=by
   intro n n0 S e;rw[F,D!];by_cases ε:n∈m.bq
   .exact .inl ε
   .refine .inr (Gh.2 ⟨⟨n0,S⟩,?_⟩);show(!hasB m.bq n&&hasB l (AA AP.bq (AA R.bq n)))=X;rw[e,θ,D',A?];cases hb:hasB m.bq n
    .rfl
    .exact absurd (Aq.1 hb) ε
  exact ⟨key _ z.1 z.2 e1,key _ A.1 A.2 η⟩
 have G:∀v∈A0 AP r l,(0<=Ao (A0 AP r l) v/\Ao (A0 AP r l) v<(By AP r l).eh.ci.bq.length)/\AA (A0 AP r l) (Ao (A0 AP r l) v)=v:=by
  intro v hv;obtain⟨a,b,c,_⟩:=BH hv;exact⟨⟨a,by rw[y];exact b⟩,c⟩
 have H:∀v∈A0 AP r l,AA (By AP r l).eh.ci.bq (Ao (A0 AP r l) v)=AA R.bq v:=by
  intro v hv;obtain⟨⟨a,b⟩,c⟩:=G v hv;rw[<-(node _ a b).2,c]
 refine ⟨⟨?_,?_,λn d=>?_,λe d=>?_⟩,h.r,?_,?_,?_,λi J K=>?_,?_,?_⟩
 .show(By AP r l).eh.ci.bq.length<=20;rw[E];simp;omega
 .show(By AP r l).eh.ci.ca.length<=20;rw[M];simp;omega
 .have u:n∈(By AP r l).eh.ci.bq:=d;rw[E,D!]at u;rcases u with d|d
  .exact h.l.node n d
  .obtain⟨x,N,rfl⟩:=G_.1 d;have:=(B x N).1;exact h.r.Aao this.1 this.2
 .have u:e∈(By AP r l).eh.ci.ca:=d;rw[M,D!]at u;show _/\(_/\_<((By AP r l).eh.ci.bq.length:Int))/\(_/\_<((By AP r l).eh.ci.bq.length:Int))/\Fw BL e.fa (AA (By AP r l).eh.ci.bq e.fd) (AA (By AP r l).eh.ci.bq e.To)=X;rcases u with d|d
  .obtain⟨C,z,A,D⟩:=h.l.edge e d;rw[E,H7 U,H7 U,a5];exact⟨C,U,U,D⟩
  .obtain⟨x,N,rfl⟩:=G_.1 d;have κ:=(w x N).1;obtain⟨C,z,A,D⟩:=h.r.edge _ (AG (l:=R.ca) κ.1 κ.2);obtain⟨O,Q⟩:=f x N;show(0<=(AA R.ca x).fa/\(AA R.ca x).fa<6)/\(0<=Ao (A0 AP r l) (AA R.ca x).fd/\Ao (A0 AP r l) (AA R.ca x).fd<_)/\(0<=Ao (A0 AP r l) (AA R.ca x).To/\Ao (A0 AP r l) (AA R.ca x).To<_)/\
    Fw BL (AA R.ca x).fa (AA _ (Ao (A0 AP r l) (AA R.ca x).fd)) (AA _ (Ao (A0 AP r l) (AA R.ca x).To))=X
   rw [H _ O,H _ Q];exact⟨C,(G _ O).1,(G _ Q).1,D⟩
 .show(A0 AP r l).length=(By AP r l).eh.ci.bq.length;exact y.symm
 .show(m.ca++Ch AP r l).length=(By AP r l).eh.ci.ca.length;rw[M];simp;omega
 .exact node
 .show(0<=AA (m.ca++Ch AP r l) i/\AA (m.ca++Ch AP r l) i<_)/\(AA (By AP r l).eh.ci.ca i).fa=(AA R.ca (AA (m.ca++Ch AP r l) i)).fa/\
   AA (A0 AP r l) (AA (By AP r l).eh.ci.ca i).fd=(AA R.ca (AA (m.ca++Ch AP r l) i)).fd/\AA (A0 AP r l) (AA (By AP r l).eh.ci.ca i).To=(AA R.ca (AA (m.ca++Ch AP r l) i)).To
  have I:i<(By AP r l).eh.ci.ca.length:=K;rw[M]at I|-;simp only[a5,az,y?]at I;by_cases hi:i<L.ca.length
  .rw[H7 U,H7 U];obtain⟨C,z,A,D⟩:=h.edge i J hi;obtain⟨_,η,e3,_⟩:=h.l.edge _ (AG (l:=L.ca) J hi);refine⟨C,z,?_,?_⟩
   .rw[F,H7 U];exact A
   .rw[F,H7 U];exact D
  .rw[Vd U,Vd U,n2,NA U U];have d:=AG (l:=Ch AP r l) (i:=i-L.ca.length) U U;obtain⟨O,Q⟩:=f _ d;exact⟨(w _ d).1,rfl,(G _ O).2,(G _ Q).2⟩
 .show(m.bq++C8 AP r l).Nodup;refine LJ h.nn (Dc _ _) λx d=>?_;have:(!hasB m.bq x&&hasB l _)=X:=(B x d).2;rw[gN]at this;exact cG this.1
 .show(m.ca++Ch AP r l).Nodup;refine LJ h.ne (Dc _ _) λx d=>?_;have:(!hasB m.ca x&&hasB l _)=X:=(w x d).2;rw[gN]at this;exact cG this.1
end Go.Sf.Sc
namespace Go.Sf
theorem Rw{a b:Fp}(d:a.Nodup)(h:∀x∈a,x∈b):a.length<=b.length:=by
 induction a generalizing b with
 |nil=>exact K? _|cons x a w=>
  rw [List.nodup_cons]at d;have u:=h x V;have:=w (b:=b.erase x) d.2 (λy f=>(List.mem_erase_of_ne (λ(e:y=x)=>d.1 (by rw[<-e];exact f))).2 (h y (by simp[f])));rw[List.length_erase_of_mem u]at this;have z:0<b.length:=List.length_pos_of_mem u;simp only[ae];omega
theorem Zv{a b:Fp}(f:a.Nodup)(u:b.Nodup)(h:∀x,x∈a↔x∈b):a.length=b.length:=
 Nat.le_antisymm (Rw f λx d=>(h x).1 d) (Rw u λx d=>(h x).2 d)
variable{l:Fp}
theorem Zq{f:Int->Int}(h:l.Nodup)(hf:∀x∈l,∀y∈l,f x=f y->x=y):(l.map f).Nodup:=by
 unfold List.Nodup;rw[List.pairwise_map];refine List.Pairwise.imp_of_mem ?_ h;intro a b u w d e;exact d (hf a u b w e)
theorem aI(q p:Int->Bool)(n:Int):(B5 q n).length=(B5 (λi=>q i&&p i) n).length+(B5 (λi=>q i&&!p i) n).length:=by
 unfold B5;generalize (F_ n.toNat).map y_=l
 induction l with
 |nil=>rfl|cons x l d=>
  simp only[I?];cases q x<;>cases p x<;>simp<;>omega
end Go.Sf
namespace Go.Sf.Sc
open Go Go.Sf
variable{g:ci}{k x:Int}
theorem DO:x∈(AS AP g k).bq↔(0<=x/\x<g.bq.length)/\AA AP.bq (AA g.bq x)=k:=by
 rw [show(AS AP g k).bq=B5 (G9 AP g k) g.bq.length from rfl,Gh];unfold G9;rw[ml]
theorem ET:x∈(AS AP g k).ca↔(0<=x/\x<g.ca.length)/\AA AP.ca (AA g.ca x).fa=k:=by
 rw [show(AS AP g k).ca=B5 (Jy AP g k) g.ca.length from rfl,Gh];unfold Jy;rw[ml]
theorem Rj(h:Cp g)(y:k≠2)(z:x∈(AS AP g k).ca):(AA g.ca x).fd∈(AS AP g k).bq/\(AA g.ca x).To∈(AS AP g k).bq:=by
 obtain ⟨w,d⟩:=ET.1 z;obtain⟨A,f,u,B⟩:=h.edge _ (AG (l:=g.ca) w.1 w.2);obtain⟨C,D⟩:=bv A (h.Aao f.1 f.2) (h.Aao u.1 u.2) B (by rw[d];exact y);exact⟨DO.2 ⟨f,by rw[C,d]⟩,DO.2 ⟨u,by rw[D,d]⟩⟩
variable{i:Int}
theorem Of{p:A3}(d:0<=i)(f:i<p.bq.length):AA (CQ g p).bq i=AA g.bq (AA p.bq i):=NA d f
theorem S9{p:A3}(d:0<=i)(f:i<p.ca.length):AA (CQ g p).ca i=⟨(AA g.ca (AA p.ca i)).fa,Ao p.bq (AA g.ca (AA p.ca i)).fd,Ao p.bq (AA g.ca (AA p.ca i)).To⟩:=NA d f
theorem Zp(h:Cp g)(y:k≠2):Cp (CQ g (AS AP g k)):=by
 have l1:(AS AP g k).bq.length<=g.bq.length:=Su _ _;have l2:(AS AP g k).ca.length<=g.ca.length:=Su _ _;have F:=h.pr;have G:=h.sr;refine⟨by rw[(Dv _ _).1];omega,by rw[(Dv _ _).2];omega,λn hn=>?_,λe he=>?_⟩
 .obtain⟨x,d,rfl⟩:=G_.1 hn;have:=(DO.1 d).1;exact h.Aao this.1 this.2
 .obtain⟨x,d,rfl⟩:=G_.1 he;have f:=(ET.1 d).1;obtain⟨z,H,I,A⟩:=h.edge _ (AG (l:=g.ca) f.1 f.2);obtain⟨B,C⟩:=Rj h y d;obtain⟨a1,a2,D,_⟩:=BH B;obtain⟨u,w,E,_⟩:=BH C;rw[(Dv _ _).1];refine⟨z,⟨a1,a2⟩,⟨u,w⟩,?_⟩;show Fw BL (AA g.ca x).fa (AA (CQ g (AS AP g k)).bq (Ao (AS AP g k).bq (AA g.ca x).fd)) (AA (CQ g (AS AP g k)).bq (Ao (AS AP g k).bq (AA g.ca x).To))=X;rw[Of a1 a2,Of u w,D,E];exact A
variable{L R:ci}{m:cE}
theorem QX(h:EP L R m)(f:x∈(AS AP L k).bq):AA m.bq x∈(AS AP R k).bq:=by
 obtain ⟨d,u⟩:=DO.1 f;obtain⟨a,b⟩:=h.node x d.1 d.2;exact DO.2 ⟨a,by rw[b];exact u⟩
theorem QW(h:EP L R m)(f:x∈(AS AP L k).ca):AA m.ca x∈(AS AP R k).ca:=by
 obtain ⟨d,u⟩:=ET.1 f;obtain⟨a,b,_⟩:=h.edge x d.1 d.2;exact ET.2 ⟨a,by rw[<-b];exact u⟩
variable{l:Fp}
theorem Se{x y:Int}(d:x∈l)(f:y∈l)(e:Ao l x=Ao l y):x=y:=by
 rw [<-(BH d).2.2.1,<-(BH f).2.2.1,e]
theorem TT{a b l:Fp}(w:a.Nodup)(z:l.Nodup)(d:∀x∈a,0<=x/\x<l.length)(u:∀x∈a,AA l x∈b):(FH a b l).Nodup:=by
 refine Zq w λx f y h e=>?_;exact cT z (d x f).1 (d x f).2 (d y h).1 (d y h).2 (Se (u x f) (u y h) e)
theorem kz(nm:ByteArray)(h:EP L R m)(B:k≠2):EP (Ci AP (Cf nm L R m) k).eh.ci (Ci AP (Cf nm L R m) k).d5.ci (Ci AP (Cf nm L R m) k).eE:=by
 show EP (CQ L (AS AP L k)) (CQ R (AS AP R k)) ⟨FH (AS AP L k).bq (AS AP R k).bq m.bq,FH (AS AP L k).ca (AS AP R k).ca m.ca⟩;have D:=h.pr;have E:=h.sr;have C:∀{i:Int},0<=i->i<(AS AP L k).bq.length->AA (FH (AS AP L k).bq (AS AP R k).bq m.bq) i=Ao (AS AP R k).bq (AA m.bq (AA (AS AP L k).bq i)):=λu f=>NA u f;have F:∀{i:Int},0<=i->i<(AS AP L k).ca.length->AA (FH (AS AP L k).ca (AS AP R k).ca m.ca) i=Ao (AS AP R k).ca (AA m.ca (AA (AS AP L k).ca i)):=λu f=>NA u f;have ends:∀{v:Int},v∈(AS AP L k).bq->AA (FH (AS AP L k).bq (AS AP R k).bq m.bq) (Ao (AS AP L k).bq v)=Ao (AS AP R k).bq (AA m.bq v):=by
  intro v hv;obtain⟨w,y,A,_⟩:=BH hv;rw[C w y,A]
 refine ⟨Zp h.l B,Zp h.r B,?_,?_,λi u f=>?_,λi u f=>?_,?_,?_⟩
 .rw[(Dv _ _).1];exact az _
 .rw[(Dv _ _).2];exact az _
 .rw[(Dv _ _).1]at f;have d:=AG u f;obtain⟨w,y,A,_⟩:=BH (QX h d);have z:=(DO.1 d).1;dsimp only;rw[C u f,(Dv _ _).1,Of w y,Of u f,A];exact⟨⟨w,y⟩,(h.node _ z.1 z.2).2⟩
 .rw[(Dv _ _).2]at f;have d:=AG u f;obtain⟨w,y,A,_⟩:=BH (QW h d);have z:=(ET.1 d).1;obtain⟨M,G,H,I⟩:=h.edge _ z.1 z.2;obtain⟨J,K⟩:=Rj h.l B d;dsimp only;rw[F u f,(Dv _ _).2,S9 w y,S9 u f,A];dsimp only;rw[ends J,ends K,H,I];exact⟨⟨w,y⟩,G,rfl,rfl⟩
 .exact TT (Dc _ _) h.nn (λx d=>by rw[D];exact(DO.1 d).1) (λx d=>QX h d)
 .exact TT (Dc _ _) h.ne (λx d=>by rw[E];exact(ET.1 d).1) (λx d=>QW h d)
theorem pJ(l:Fp)(n:Int):AX l n=B5 (λi=>!hasB l i) n:=rfl
theorem pI{n:Nat}(u:l.Nodup)(h:∀x∈l,0<=x/\x<n):(AX l n).length+l.length=n:=by
 have f:=aI (λ_=>X) (hasB l) n;have w:(B5 (λi=>X&&hasB l i) n).length=l.length:=Zv (Dc _ _) u λx=>by
  rw [Gh,z!,Aq];exact⟨λd=>d.2,λd=>⟨h x d,d⟩⟩
 have y:(B5 (λ_=>X) (n:Int)).length=n:=by unfold B5;rw[List.filter_eq_self.2 (λ_ _=>rfl)];simp
 rw [w,y]at f;rw[pJ];simp only[z!]at f;omega
variable{q:Int->Bool}
theorem YF{n:Nat}{l a:Fp}(w:a.Nodup)(z:l.Nodup)(f:∀x∈a,0<=x/\x<l.length)(h:∀x,(x∈B5 q n/\x∈l)↔∃y∈a,AA l y=x):
  (B5 (λi=>!hasB l i&&q i) n).length=(AX (FH a (B5 q n) l) (B5 q n).length).length:=by
 have C:=aI q (hasB l) n;have D:(B5 (λi=>q i&&hasB l i) n).length=a.length:=by
  rw [show a.length=(a.map (AA l)).length from(az _).symm];refine Zv (Dc _ _) (Zq w λx d y u e=>cT z (f x d).1 (f x d).2 (f y u).1 (f y u).2 e) λx=>?_;rw[Gh,gN,Aq,G_,<-h x,Gh];exact⟨λd=>⟨⟨d.1,d.2.1⟩,d.2.2⟩,λd=>⟨d.1.1,d.1.2,d.2⟩⟩
 have A:∀x∈a,AA l x∈B5 q n:=λx d=>((h _).2 ⟨x,d,rfl⟩).1;have E:=pI (n:=(B5 q n).length) (TT (b:=B5 q n) w z f A) (λx d=>by
  obtain ⟨y,u,rfl⟩:=G_.1 d;have:=BH (A y u);exact⟨this.1,this.2.1⟩)
 have F:(FH a (B5 q n) l).length=a.length:=az _;have B:(λi=>!hasB l i&&q i)=λi=>q i&&!hasB l i:=funext λi=>Bool.and_comm _ _;rw[B];omega
end Go.Sf.Sc
namespace Go.Sf.Sc
open Go Go.Sf
variable{k x:Int}
theorem Vl:hasB [k] x=decide (x=k):=by
 rw [z?,Aq,ml,J?]
variable{L R:ci}{m:cE}
theorem eK(h:EP L R m):(C8 AP (Cf ⟨#[114]⟩ L R m) [1]).length=(AX (FH (AS AP L 1).bq (AS AP R 1).bq m.bq) (CQ R (AS AP R 1)).bq.length).length:=by
 have:=h.pr;rw[(Dv _ _).1];refine Eq.trans ?_ (YF (q:=G9 AP R 1) (n:=R.bq.length) (l:=m.bq) (a:=(AS AP L 1).bq) (Dc _ _) h.nn (λx u=>by rw[this];exact(DO.1 u).1) (λx=>?_))
 .unfold C8;refine congrArg K_ (YE λi _ _=>?_);unfold Nv G9;rw[Vl];rfl
 .constructor
  .rintro⟨z,A⟩;obtain⟨y,f,B,rfl⟩:=A9 A;have d:=h.node y f U;refine⟨y,DO.2 ⟨⟨f,U⟩,?_⟩,rfl⟩;rw[<-d.2];exact((DO (g:=R)).1 z).2
  .rintro⟨y,d,rfl⟩;have w:=(DO.1 d).1;exact⟨QX h d,AG w.1 U⟩
theorem eJ(h:EP L R m):(Ch AP (Cf ⟨#[114]⟩ L R m) [1]).length=(AX (FH (AS AP L 1).ca (AS AP R 1).ca m.ca) (CQ R (AS AP R 1)).ca.length).length:=by
 have:=h.sr;rw[(Dv _ _).2];refine Eq.trans ?_ (YF (q:=Jy AP R 1) (n:=R.ca.length) (l:=m.ca) (a:=(AS AP L 1).ca) (Dc _ _) h.ne (λx u=>by rw[this];exact(ET.1 u).1) (λx=>?_))
 .unfold Ch;refine congrArg K_ (YE λi _ _=>?_);unfold Nu Jy;rw[Vl];rfl
 .constructor
  .rintro⟨z,A⟩;obtain⟨y,f,B,rfl⟩:=A9 A;have d:=h.edge y f U;refine⟨y,ET.2 ⟨⟨f,U⟩,?_⟩,rfl⟩;rw[d.2.1];exact((ET (g:=R)).1 z).2
  .rintro⟨y,d,rfl⟩;have w:=(ET.1 d).1;exact⟨QW h d,AG w.1 U⟩
end Go.Sf.Sc
