/- Plain lemmas: what the functions of the program and of the reference compute. -/
import Derived.Test.YtbmgmpeimdomoaaGreatSfRead
import Derived.Test.YtbmgmpeimdomoaaGreatFns
import Derived.Test.YtbmgmpeimdomoaaGreatSfPl
set_option linter.all false
set_option maxRecDepth 100000
open Option renaming some->Y,none->W
open Bool renaming true->X,false->T
open Option renaming getD->w_,isSome->w!,bind_assoc->w?,bind_fun_some->x_
open Int renaming le_refl->x!,toNat_natCast->x?,toNat_of_nonneg->y_,ofNat->y!,tmod_eq_emod_of_nonneg->y?
open Bool renaming true_and->z_,eq_iff_iff->z!,false_and->z?,false_eq_true->A_,or_eq_true->A',not_eq_true'->A!,not_eq_false'->A?,or_eq_false_iff->B_,and_eq_false_iff->B',eq_false_iff->B!,not_true->B?,not_eq_true->C_,or_assoc->C',true_eq_false->C!,or_false->C?
open List renaming mem_append->D_,any_eq_false->D',getElem?_eq_getElem->D!,getD_eq_getElem?_getD->D?,take_length->E_,any_eq_true->E',range->E!,ext_getElem->E?,mem_map->F_,pairwise_iff_getElem->F!,range_succ->F?,map_append->G_,filter_append->G!,all_eq_not_any_not->G?,map_cons->H_,map_nil->H',mem_singleton->H!
open Nat renaming zero_le->H?
namespace Go.Sf
theorem aa{ρ τ:Type}{d:Int->Option ρ}{g:ρ->τ}:∀(n:Nat)(a:Int),F3 (λi=>(d i).map g) n a=(F3 d n a).map g
 |0,_=>rfl|n+1,a=>by
  rw [F3,F3];cases d a with
  |some r=>rfl|none=>exact aa n (a+1)
variable{a b:Int}
theorem Q8{ρ τ:Type}{d:Int->Option ρ}{g:ρ->τ}:fst (λi=>(d i).map g) a b=(fst d a b).map g:=aa _ _
theorem Ym{ρ:Type}{d:Int->Option ρ}{r:ρ}:∀{n:Nat}{a:Int},F3 d n a=Y r->∃i,a<=i/\i<a+n/\d i=Y r/\∀j,a<=j->j<i->d j=W
 |0,_,h=>d_
 |n+1,a,h=>by
  rw [F3]at h;cases hd:d a with
  |some y=>
   grind
  |none=>
   rw [hd]at h;obtain⟨i,f,q,u,w⟩:=Ym h
   grind
theorem Dx{ρ:Type}{d:Int->Option ρ}{r:ρ}(h:fst d a b=Y r):∃i,a<=i/\i<b/\d i=Y r/\∀j,a<=j->j<i->d j=W:=by
 obtain ⟨i,f,q,u,w⟩:=Ym h
 grind
def NB(p:Int->Bool)(s:ByteArray):Int:=(fst (λi=>if p (bt s i)then W else Y i) 0 s.size).getD s.size
theorem VX(p:Int->Bool)(s:ByteArray):0<=NB p s/\NB p s<=s.size/\(∀j,0<=j->j<NB p s->p (bt s j)=X)/\(NB p s<s.size->p (bt s (NB p s))=T):=by
 unfold NB;cases h:fst (λi=>if p (bt s i)then W else Y i) 0 s.size with
 |none=>
  rw [Bb]at h
  grind
 |some r=>
  grind [Dx,bt,w_]
variable{s:ByteArray}
theorem fT(h:s≠⟨#[]⟩):0<s.size:=by
 rcases Nat.eq_zero_or_pos s.size with f|f
 .exfalso;apply h;cases s with|mk d=>congr 1;exact Array.eq_empty_of_size_eq_zero f
 .exact f
end Go.Sf
namespace Go.Sf.Sc
open Go Go.Sf
def G0(c:Int):Bool:=((decide (97<=c))&&(decide (c<=122)))||((decide (65<=c))&&(decide (c<=90)))
def x6(c:Int):Bool:=(decide (48<=c))&&(decide (c<=57))
def SG(c:Int):Bool:=G0 c||x6 c||decide (c=95)
theorem eP(c:Int):MW c=Y (G0 c):=rfl
theorem Zu(c:Int):LS c=Y (x6 c):=rfl
theorem ey(c:Int):MA c=Y (G0 c):=rfl
theorem jA(c:Int):Jl c=Y (x6 c):=rfl
theorem wq(c:Int):O8 c=Y (SG c):=by
 unfold O8 SG;rw[eP,bs,Zu]
 grind
variable{s:ByteArray}
theorem kf(d:(s.size:Int)<=4611686018427387904){ok:Int->I1}{p:Int->Bool}(h:∀c,ok c=Y (p c)):IN s ok=Y (NB p s):=by
 unfold IN;rw[TM (c:=λi=>(if p (bt s i)then W else Y i).map .inl) (a:=0) (b:=s.size) U]
 .rw[Q8];unfold NB;cases fst (λi=>if p (bt s i)=X then W else Y i) 0 s.size<;>rfl
 .grind[RG,bt,GH,Ap]
 .simp
def Fm(s:ByteArray):Bool:=decide (0<s.size)&&G0 (bt s 0)&&decide (s.size<=20)&&decide (NB SG s=s.size)
theorem Zs(l:List ByteArray)(v:ByteArray):∃k,slices_Index_string l v=Y k/\(0<=k↔v∈l):=by
 unfold slices_Index_string;rw[Ba (λi=>if(v==AA l i)=X then Y i else W)]
 .cases h:fst (λi=>if(v==AA l i)=X then Y i else W) 0 l.length with
  |none=>
   rw [Bb]at h;refine⟨-1,rfl,U,λq=>?_⟩
   grind [Ay]
  |some k=>
   obtain ⟨i,d,f,u,_⟩:=Dx h;have j:(v==AA l i)=X/\i=k:=by
    grind
   obtain ⟨j,rfl⟩:=j;refine⟨i,rfl,λ_=>?_,λ_=>d⟩
   grind [AG]
 .intro i d f _;simp only[AD d f,bs];split<;>rfl
theorem Qn(l:List ByteArray)(v:ByteArray):slices_Contains_string l v=Y (l.contains v):=by
 unfold slices_Contains_string;obtain⟨k,d,f⟩:=Zs l v
 grind
theorem wn(B:0<s.size)(y:(s.size:Int)<=4611686018427387904):∃k n e,Kv s=Y (k,n,e)/\(((decide (e=0))&&(decide (k=1)))&&(decide (n=(s.size:Int))))=Fm s:=by
 have H:=VX SG s;unfold Kv Fm;simp only[RG (x! 0) (show(0:Int)<s.size by omega),bs,eP,Zu,kf y wq,kf y Zu,B,decide_true,z_];by_cases d:G0 (bt s 0)=X
 .rw[Ne d];by_cases f:20<NB SG s
  .refine⟨0,0,3,by simp[f],?_⟩;simp[d];intro G h;omega
  .refine⟨1,_,0,by rw[QQ e!],?_⟩;simp only[d,decide_true,z_];rw[z!];simp only[o4,gR];omega
 .rw[QQ d];have j:G0 (bt s 0)=T:=c_
  rw [j,z?,z?];by_cases hd:x6 (bt s 0)=X
  .rw[Ne hd];by_cases z:9<NB x6 s
   .exact⟨0,0,3,by simp[z],V⟩
   .exact⟨2,_,0,by rw[QQ n!],V⟩
  .rw[QQ hd];by_cases A:bt s 0=34
   .have C:=b9 (s:=s) (a:=1) (b:=s.size) U U U;have q:∀c,M3 c=Y (((decide (32<=c))&&(decide (c<=126)))&&(!decide (c=34))):=λ_=>rfl;have D:=VX (λc=>((decide (32<=c))&&(decide (c<=126)))&&(!decide (c=34))) (s.extract (1:Int).toNat (s.size:Int).toNat);have u:∃n e,Ir s=Y (n,e):=by
     unfold Ir;rw[ON U U U,bs,kf U q,bs];rw[Ap U U];by_cases he:1+NB (λc=>((decide (32<=c))&&(decide (c<=126)))&&(!decide (c=34))) (s.extract (1:Int).toNat (s.size:Int).toNat)=s.size
     .refine⟨0,2,?_⟩;simp only[he,decide_true,if_true,bs]
     .simp only[he,decide_false,A_,if_false];rw[RG U U];simp only[bs];split
      .exact⟨_,_,rfl⟩
      .split
       .exact⟨_,_,rfl⟩
       .exact⟨_,_,rfl⟩
    obtain ⟨n,e,w⟩:=u;refine⟨3,n,e,by rw[Ne s_,w];rfl,V⟩
   .rw[QQ s_];have E:∃b,O7 s=Y b:=by
     unfold O7;by_cases h:2<=(s.size:Int)
     .rw[Ne c!,ON U U h];simp only[bs,Qn];exact⟨_,rfl⟩
     .rw[QQ c!];exact⟨_,rfl⟩
    obtain ⟨b,F⟩:=E;rw[F,bs];cases b
    .simp only[A_,if_false,strings_IndexByte,bs];split
     .exact⟨_,_,_,rfl,rfl⟩
     .exact⟨_,_,_,rfl,rfl⟩
    .exact⟨_,_,_,rfl,rfl⟩
theorem RY(d:(s.size:Int)<=4611686018427387904):EZ s=Y (Fm s):=by
 unfold EZ LT;simp only[show decide ((1:Int)=3)=T from rfl,A_,if_false,bs];by_cases he:s=⟨#[]⟩
 .subst he;rfl
 grind [wn,fT]
theorem xI(u:(s.size:Int)<=4611686018427387904)(d:Bool):∃n,MC s 0 d=Y n/\0<=n/\n<=s.size/\(d=T->n=NB SG s):=by
 have h:=VX (λc=>x6 c||(!d&&(G0 c||decide (c=95)))) s;refine⟨NB (λc=>x6 c||(!d&&(G0 c||decide (c=95)))) s,?_,h.1,h.2.1,λhd=>?_⟩
 .unfold MC;rw[TM (c:=λi=>(if(x6 (bt s i)||(!d&&(G0 (bt s i)||decide (bt s i=95))))then W else Y i).map .inl) (a:=0) (b:=s.size) U]
  .rw[Q8];unfold NB;cases fst (λi=>if(x6 (bt s i)||(!d&&(G0 (bt s i)||decide (bt s i=95))))=X then W else Y i) 0 s.size<;>rfl
  .intro i q f _;have j:AZ (0+i)=i:=d?
   simp only[j,f,decide_true,if_true,RG q f,bs,jA,ey]
   grind [x6,bt,G0,GH,Ap]
  .have j:AZ (0+(s.size:Int))=s.size:=d?
   grind
 .subst hd;congr 1
  grind [SG,G0,x6]
theorem qR(u:0<s.size)(w:(s.size:Int)<=4611686018427387904):∃n,Ih s 0=Y n/\(n=0\/(2<=n/\n<=s.size)):=by
 unfold Ih;rw[TM (c:=λi=>if decide (bt s i=34)=X then Y (Sum.inr (i+1):Int ⊕ Int)else if(decide (bt s i<32)||decide (126<bt s i))=X then Y (Sum.inr 0)else W) (a:=1) (b:=s.size) U]
 .cases h:fst (λi=>if decide (bt s i=34)=X then Y (Sum.inr (i+1):Int ⊕ Int)else if(decide (bt s i<32)||decide (126<bt s i))=X then Y (Sum.inr 0)else W) 1 s.size with
  |none=>exact⟨0,rfl,.inl rfl⟩|some r=>
   obtain ⟨i,q,f,d,_⟩:=Dx h;split at d
   .cases d;exact⟨_,rfl,.inr U⟩
   .split at d
    .cases d;exact⟨_,rfl,.inl rfl⟩
    .cases d
 .intro i q f _;have j:AZ (0+i)=i:=d?
  simp only[j,f,decide_true,if_true,RG (show 0<=i by omega) f,bs,Ap (show -9223372036854775808<=i+1 by omega) U];split
  .rfl
  .split<;>rfl
 .have j:AZ (0+(s.size:Int))=s.size:=d?
  grind
theorem AAW(Q:0<s.size)(S:(s.size:Int)<=4611686018427387904):∃t n e,MB s 0=Y (t,n,e)/\(((decide (e=0))&&(decide (n=(s.size:Int))))&&(decide (t.fu=1)))=Fm s:=by
 obtain ⟨m,N,w,y,O⟩:=xI S (x6 (bt s 0));unfold MB Fm;simp only[RG (x! 0) (show(0:Int)<s.size by omega),bs,ey,jA,Q,decide_true,z_,N];have θ:AZ (0+m)=m:=d?
 by_cases G:G0 (bt s 0)=X
 .have hd:x6 (bt s 0)=T:=by
   unfold G0 at G;unfold x6
   grind
  have Z:=O hd;subst Z;simp only[G,if_true,hd,A_,if_false,bs,θ];by_cases u:20<NB SG s
  .refine⟨_,_,_,by rw[Ne e_],?_⟩
   grind
  .rw[QQ e_,ON (x! _) w y];refine⟨_,_,_,rfl,?_⟩
   grind
 .have H:G0 (bt s 0)=T:=by simpa using G
  simp only[H,A_,if_false,bs,z?,θ];by_cases hd:x6 (bt s 0)=X
  .simp only[hd,if_true,bs];by_cases ε:9<m
   .exact⟨_,_,_,by rw[Ne (by simpa using ε)],V⟩
   .rw[QQ (by simpa using ε),ON (x! _) w y];exact⟨_,_,_,rfl,V⟩
  .have I:x6 (bt s 0)=T:=by simpa using hd
   simp only[I,A_,if_false,bs];by_cases κ:bt s 0=34
   .obtain⟨n,hn,z⟩:=qR Q S;rw[Ne (by simpa using κ),hn,bs];rcases z with rfl|z
    .grind
    .rw[QQ an];split
     .grind
     .have e1:AZ (0+1)=1:=a_
      have e2:AZ (0+n)=n:=d?
      rw [e1,e2,Ap (show -9223372036854775808<=n-1 by omega) U,ON U U U];exact⟨_,_,_,rfl,V⟩
   .rw[QQ (by simpa using κ)];unfold Px;rw[bs];generalize hL:([(⟨#[45,62]⟩:ByteArray),(⟨#[60,61]⟩:ByteArray),(⟨#[62,61]⟩:ByteArray),(⟨#[61,61]⟩:ByteArray),(⟨#[33,61]⟩:ByteArray),(⟨#[123]⟩:ByteArray),(⟨#[125]⟩:ByteArray),(⟨#[40]⟩:ByteArray),(⟨#[41]⟩:ByteArray),(⟨#[91]⟩:ByteArray),(⟨#[93]⟩:ByteArray),(⟨#[44]⟩:ByteArray),(⟨#[59]⟩:ByteArray),(⟨#[58]⟩:ByteArray),(⟨#[61]⟩:ByteArray),(⟨#[43]⟩:ByteArray),(⟨#[45]⟩:ByteArray),(⟨#[42]⟩:ByteArray),(⟨#[60]⟩:ByteArray),(⟨#[62]⟩:ByteArray),(⟨#[33]⟩:ByteArray),(⟨#[38]⟩:ByteArray),(⟨#[124]⟩:ByteArray),(⟨#[46]⟩:ByteArray),(⟨#[63]⟩:ByteArray)]:List ByteArray)=L;have J:∀x∈L,x.size<=2:=by subst hL;decide
    rcases Xl (f:=(λ(h:Int)(η:G6)=>
      (idx L h).bind λB=>
      (if(decide ((AZ (0+(B.size:Int)))<=(s.size:Int)))=X then((idx L h).bind λC=>
      (Aaw s 0 (AZ (0+(C.size:Int)))).bind λD=>
      (idx L h).bind λE=>
      Y (D==E))else Y T).bind λF=>
      if F=X then
      (idx L h).bind λj=>
      (idx L h).bind λq=>
      Y (B3.ret (G6.mk 4 j 0,(q.size:Int),(0:Int)))
      else
      Y (B3.next η))) (λ_ s=>True) (λ_=>True) (λr=>r.1.fu=4) (a:=0) (b:=L.length) (s:=G6.mk 0 (⟨#[]⟩:ByteArray) 0) U trivial (λi t d A _=>by
      have hx:=J _ (AG d A);have K:AZ (0+((AA L i).size:Int))=(AA L i).size:=d?
      simp only[AD d A,bs,K];by_cases M:((AA L i).size:Int)<=s.size
      .rw[Ne (by simpa using M),ON U U M];simp only[bs];split
       .exact .inr (.inr ⟨_,rfl,rfl⟩)
       .exact .inl ⟨_,rfl,trivial⟩
      .rw[QQ (by simpa using M)];simp only[bs];exact .inl ⟨_,rfl,trivial⟩)with⟨s',d,_⟩|⟨r,d,A⟩
    .rw[d];exact⟨_,_,_,rfl,V⟩
    .rw[d];exact⟨_,_,_,rfl,by simp[A]⟩
theorem Rb(d:(s.size:Int)<=4611686018427387904):ET s=Y (Fm s):=by
 unfold ET LH Qy;simp only[show decide ((1:Int)=3)=T from rfl,A_,if_false,bs];by_cases he:s=⟨#[]⟩
 .subst he;rfl
 grind [AAW,fT]
end Go.Sf.Sc
namespace Go.Sf
variable{ρ β:Type}
def nz(e:Int):K1:=if e=0 then W else Y e
theorem L6(e:Int):(if(!decide (e=0))=X then Y (B3.ret e)else Y (B3.next ()))=Y (Nw (nz e)):=by grind[nz,Nw]
theorem vo(b:Bool)(r:ρ):(if b=X then Y (B3.ret r)else Y (B3.next ()))=Y (Nw (if b=X then Y r else W)):=by
 cases b<;>rfl
variable{kr:ρ->Option β}
theorem CB{σ:Type}{s:σ}{k:σ->Option β}:eb (Y (.inl s)) k kr=k s:=rfl
theorem Vf{σ:Type}{r:ρ}{k:σ->Option β}:eb (Y (.inr r)) k kr=kr r:=rfl
theorem EA(o:Option ρ)(k:Unit->Option β)(kr:ρ->Option β):eb (Y (r9 o)) k kr=match o with|none=>k ()|some r=>kr r:=by
 cases o<;>rfl
theorem Cj(o:K1):eb (Y (r9 o)) (λ_=>Y 0) (λv=>Y v)=Y (o.getD 0):=by
 cases o<;>rfl
variable{a b:Int}
theorem S4{c:Int->Int}(h:(fst (λi=>nz (c i)) a b).getD 0=0):∀i,a<=i->i<b->c i=0:=by
 have:fst (λi=>nz (c i)) a b=W:=by
  cases hf:fst (λi=>nz (c i)) a b with
  |none=>rfl|some r=>
   grind [w_,Dx,nz]
 grind [Bb,nz]
variable{e:Int}
theorem RA:nz e=W↔e=0:=by grind[nz]
theorem Xq{α:Type}[Inhabited α]{l:List α}{f:α->I1}{p:α->Bool}(h:∀x∈l,f x=Y (p x)):
  (eb (eE (ρ:=Int) (λ(q:Int)(_:Unit)=>(idx l q).bind λd=>(f d).bind λj=>if j=X then Y (.ret q)else Y (.next ())) 0 (l.length:Int) ()) (λ_=>Y (-1)) (λy=>Y y))=
   Y ((fst (λi=>if p (AA l i)=X then Y i else W) 0 l.length).getD (-1)):=by
 rw [Ba (λi=>if p (AA l i)=X then Y i else W)]
 .rw[EA];cases fst (λi=>if p (AA l i)=X then Y i else W) 0 l.length<;>rfl
 .intro i u w _;rw[AD u w,bs,h _ (AG u w),bs,vo]
theorem ap{α:Type}[Inhabited α]{l:List α}{p:α->Bool}:decide (0<=(fst (λi=>if p (AA l i)=X then Y i else W) 0 l.length).getD (-1))=l.any p:=by
 rw [Gi,fq];cases h:fst (λi=>if p (AA l i)=X then Y i else W) 0 l.length with
 |none=>
  grind [Bb,w!,Option.isSome_eq_false_iff,Option.isNone_iff_eq_none,AA]
 |some k=>
  grind [Dx,AA,w_,w!,Option.isSome_iff_ne_none,Bb]
theorem FI{α:Type}[Inhabited α]{l:List α}{f:α->I1}{p:α->Bool}(h:∀x∈l,f x=Y (p x)):
  ((eb (eE (ρ:=Int) (λ(q:Int)(_:Unit)=>(idx l q).bind λd=>(f d).bind λj=>if j=X then Y (.ret q)else Y (.next ())) 0 (l.length:Int) ()) (λ_=>Y (-1)) (λu=>Y u)).bind λw=>Y (decide (0<=w)))=Y (l.any p):=by
 rw [Xq h,bs,ap]
end Go.Sf
namespace Go.Sf.Sc
open Go Go.Sf
instance:Inhabited ff:=⟨⟨⟨#[]⟩,0,0,[]⟩⟩
instance:Inhabited B2:=⟨⟨⟨#[]⟩,0,T,[]⟩⟩
instance:Inhabited Cy:=⟨⟨⟨#[]⟩,0,0,0,0,0,0⟩⟩
instance:Inhabited B1:=⟨⟨0,0,0⟩⟩
instance:Inhabited DW:=⟨⟨0,0,⟨0,0⟩⟩⟩
instance:Inhabited Test:=⟨⟨0,⟨0,0⟩,⟨0,0⟩⟩⟩
instance:Inhabited ca:=⟨⟨0,[],⟨[],[]⟩,⟨⟨[],[]⟩,[],0,[]⟩⟩⟩
theorem fx{l:List B2}{f:B2->I1}{p:B2->Bool}(h:∀x∈l,f x=Y (p x)):BS l f=Y (l.any p):=FI h
variable{l:Fp}
theorem Sv{f:Int->I1}{p:Int->Bool}(h:∀x∈l,f x=Y (p x)):BA l f=Y (l.any p):=FI h
theorem Ze{l:List B1}{f:B1->I1}{p:B1->Bool}(h:∀x∈l,f x=Y (p x)):BR l f=Y (l.any p):=FI h
theorem dG{l:List ca}{f:ca->I1}{p:ca->Bool}(h:∀x∈l,f x=Y (p x)):CA l f=Y (l.any p):=FI h
theorem XI{l:List B2}{p:B2->Bool}:BS l (λx=>Y (p x))=Y (l.any p):=FI (λ_ _=>rfl)
theorem fy{l:List Cy}{p:Cy->Bool}:Cc l (λx=>Y (p x))=Y (l.any p):=FI (λ_ _=>rfl)
theorem tJ{l:List ff}{p:ff->Bool}:C7 l (λx=>Y (p x))=Y (l.any p):=FI (λ_ _=>rfl)
theorem dH{p:Int->Bool}:BA l (λx=>Y (p x))=Y (l.any p):=FI (λ_ _=>rfl)
theorem g9{l:List B1}{p:B1->Bool}:BR l (λx=>Y (p x))=Y (l.any p):=FI (λ_ _=>rfl)
theorem hU{l:List DW}{p:DW->Bool}:Cp l (λx=>Y (p x))=Y (l.any p):=FI (λ_ _=>rfl)
theorem mY(l:Fp)(v:Int):slices_Index_int l v=Y ((fst (λi=>if decide (v=AA l i)=X then Y i else W) 0 l.length).getD (-1)):=by
 have:=Xq (l:=l) (f:=λx=>Y (decide (v=x))) (p:=λx=>decide (v=x)) (λ_ _=>rfl);unfold slices_Index_int
 grind
theorem Lv(l:Fp)(v:Int):slices_Contains_int l v=Y (l.any λx=>decide (v=x)):=by grind[slices_Contains_int,mY,ap]
theorem iC(l:MV)(v:Bool):DM l v=Y (l.any λx=>v==x):=by
 have:=FI (l:=l) (f:=λx=>Y (v==x)) (p:=λx=>v==x) (λ_ _=>rfl);unfold DM J7
 grind
structure XZ(a:ff):Prop where
 name:(a.gi.size:Int)<=40
 names:a.l3.length<=25
 each:∀x∈a.l3,(x.size:Int)<=40
structure Ao(t:AC):Prop where
 cE:t.az.length<=20
 c9:t.bi.length<=30
 name:∀n∈t.az,(n.gi.size:Int)<=40
 AbK:∀n∈t.az,n.iN.length<=30
 each:∀n∈t.az,∀a∈n.iN,XZ a
 AbR:∀e∈t.bi,(e.gi.size:Int)<=40
def par(t:AC)(i:Int):Int:=(AA t.az i).kg
def Eg(t:AC)(k:Int):Prop:=∀i,0<=i->i<k->-1<=par t i/\par t i<i
def CI(t:AC):Nat->Int->List ff
 |0,_=>[]|n+1,a=>if a<0 then[]else CI t n (par t a)++(AA t.az a).iN
def A5(t:AC)(a:Int):List ff:=CI t (a+1).toNat a
variable{t:AC}{a:Int}
theorem Kc{n:Nat}(h:a<0):CI t n a=[]:=by
 cases n with
 |zero=>rfl|succ n=>rw[CI,Ne h]
variable{k:Int}
theorem N8(d:Eg t k):∀(n m:Nat)(a:Int),a<k->a<n->a<m->CI t n a=CI t m a
 |n,m,a,h,j,q=>by
  by_cases f:a<0
  .grind[Kc]
  .cases n with
   |zero=>omega|succ n=>
    cases m with
    |zero=>omega|succ m=>
     rw [CI,CI,QQ f,QQ f];have:=d a U h;rw[N8 d n m (par t a) U U U]
theorem OW(hf:Ao t)(f:k<=t.az.length)(d:Eg t k):∀(n:Nat)(a:Int),a<k->((CI t n a).length:Int)<=30*n
 |0,_,_=>by simp[CI]|n+1,a,h=>by
  rw [CI];split
  .simp;omega
  .rename_i j;have q:=d a U h;have u:=OW hf f d n (par t a) U;have w:=hf.AbK _ (AG (l:=t.az) (show 0<=a by omega) U)
   grind
theorem YU(hf:Ao t)(h:k<=t.az.length)(f:Eg t k):∀(n:Nat)(a:Int),a<k->∀x∈CI t n a,XZ x
 |0,_,_=>by simp[CI]|n+1,a,j=>by
  rw [CI];split
  .simp
  .rename_i q;have u:=f a U j;intro x d;rcases D_.1 d with d|d
   .exact YU hf h f n (par t a) U x d
   .exact hf.each _ (AG (l:=t.az) (show 0<=a by omega) U) x d
theorem JI(hf:Ao t)(d:k<=t.az.length)(f:Eg t k)(h:a<k):(A5 t a).length<=600:=by
 have:=OW hf d f (a+1).toNat a h;have:=hf.cE;unfold A5;omega
theorem OX(hf:Ao t)(d:k<=t.az.length)(f:Eg t k)(h:a<k):∀x∈A5 t a,XZ x:=YU hf d f _ a h
theorem eJ(hf:Ao t)(j:k<=t.az.length)(h:Eg t k):∀(n:Nat)(a:Int),0<=a->a<k->a<n->Dg n t a=Y (CI t n a)
 |0,_,_,_,_=>by omega|n+1,a,u,B,F=>by
  have C:=h a U B;have w:=OW hf j h n (par t a) U;have D:=hf.AbK _ (AG (l:=t.az) u U);have E:=hf.cE;rw[Dg,CI,QQ U,AD u U];simp only[bs];show((if decide (0<=par t a)=X then(Dg n t (par t a)).bind λf=>Y f else Y []).bind _)=_;have e:(if decide (0<=par t a)=X then(Dg n t (par t a)).bind λf=>Y f else Y [])=Y (CI t n (par t a)):=by
   by_cases q:0<=par t a
   .rw[Ne l?,eJ hf j h n (par t a) q U U];rfl
   .rw[QQ l?,Kc U]
  have y:(CI t n (par t a)).length+(AA t.az a).iN.length<=AW:=by
   unfold AW;have:((CI t n (par t a)).length:Int)<=30*n:=w;have z:CI t n (par t a)=CI t 20 (par t a):=by
    by_cases d:par t a<0
    .rw[Kc d,Kc d]
    .exact N8 h n 20 (par t a) U U U
   have A:=OW hf j h 20 (par t a) U;rw[<-z]at A;omega
  rw [e,bs,AS y];rfl
theorem ii(hf:Ao t)(d:k<=t.az.length)(f:Eg t k)(h:0<=a)(j:a<k):Nf t a=Y (A5 t a):=
 Gp (a+1).toNat λn q=>by
  grind [eJ,A5,N8]
theorem ee(hf:Ao t)(h:k<=t.az.length)(f:Eg t k):∀(n:Nat)(a:Int),-1<=a->a<k->a+1<n->EU n t a=Y (CI t n a)
 |0,_,_,_,_=>by omega|n+1,a,B,w,C=>by
  rw [EU,CI];by_cases d:a<0
  .grind
  .have y:=f a U w;have z:=hf.AbK _ (AG (l:=t.az) (show 0<=a by omega) U);have A:=hf.cE;rw[QQ c_,QQ d,AD U U];simp only[bs];have j:CI t n (par t a)=CI t 20 (par t a):=by
    by_cases d:par t a<0
    .rw[Kc d,Kc d]
    .exact N8 f n 20 (par t a) U U U
   have q:=OW hf h f 20 (par t a) U;rw[<-j]at q;have u:(CI t n (par t a)).length+(AA t.az a).iN.length<=AW:=b_
   rw [show(AA t.az a).kg=par t a from rfl,ee hf h f n (par t a) U U U,bs,AS a?];simp only[bs,List.nil_append];rw[AS u];rfl
theorem i7(hf:Ao t)(d:k<=t.az.length)(f:Eg t k)(h:0<=a)(j:a<k):NM t a=Y (A5 t a):=
 Gp (a+2).toNat λn q=>by
  grind [ee,A5,N8]
end Go.Sf.Sc
namespace Go.Sf.Sc
open Go Go.Sf
def L5(l:List ByteArray):Int:=
 if (20:Int)<l.length then 3 else(fst (λi=>if Fm (AA l i)=T then Y 2 else if fq (λj=>AA l j==AA l i) 0 i=X then Y 5 else W) 0 l.length).getD 0
variable{b:Int}
theorem dN{l:List ByteArray}{x:ByteArray}(d:0<=b)(f:b<=l.length):(l.take b.toNat).contains x=fq (λj=>AA l j==x) 0 b:=by
 rw [List.contains_eq_any_beq,RO d f]
 grind
theorem uG{l:List ByteArray}(q:∀x∈l,(x.size:Int)<=40):Jx l=Y (L5 l):=by
 unfold Jx L5;by_cases d:(20:Int)<l.length
 .grind
 .rw[QQ c_,QQ d];rw[Ba (λi=>if Fm (AA l i)=T then Y 2 else if fq (λj=>AA l j==AA l i) 0 i=X then Y 5 else W),Cj];intro i f h _;have u:=q _ (AG f h);rw[AD f h,bs,RY U,bs,MS f U];simp only[bs,Qn,dN f (show i<=l.length by omega)];cases Fm (AA l i)<;>cases fq (λj=>AA l j==AA l i) 0 i<;>rfl
theorem uZ{l:List ByteArray}(q:∀x∈l,(x.size:Int)<=40):Jm l=Y (L5 l):=by
 unfold Jm L5;by_cases d:(20:Int)<l.length
 .grind
 .rw[QQ c_,QQ d];rw[Ba (λi=>if Fm (AA l i)=T then Y 2 else if fq (λj=>AA l j==AA l i) 0 i=X then Y 5 else W),Cj];intro i f h _;have u:=q _ (AG f h);rw[AD f h,bs,Rb U,bs,BO (λj=>AA l j==AA l i) 5]
  .cases Fm (AA l i)<;>cases fq (λj=>AA l j==AA l i) 0 i<;>rfl
  grind [AD]
def Ng(all:List ff)(k:Int):Int:=
 let x:=AA all k
 if Fm x.gi=T then 2 else if fq (λj=>(AA all j).gi==x.gi) 0 k=X then 5 else
 if x.l3.length=0 then(if -1000000<=x.Low/\x.Low<=x.Aab/\x.Aab<=1000000 then 0 else 6)else
 if L5 x.l3≠0 then L5 x.l3 else if x.Low=0/\x.Aab=x.l3.length-1 then 0 else 6
variable{k:Int}
theorem gK{d:List ff}(u:∀x∈d,XZ x)(q:0<=k)(w:k<d.length):GX (AA d k) (d.take k.toNat)=Y (Ng d k):=by
 have j:=u _ (AG q w);have B:=j.name;unfold GX Ng;dsimp only;rw[RY U,bs,show(λf=>J8 f (AA d k))=(λf=>Y (f.gi==(AA d k).gi))from rfl,tJ,bs,RO q U,uG j.each,bs];have y:=j.names;have z:AZ ((AA d k).l3.length-1)=(AA d k).l3.length-1:=Ap U U;rw[z];have A:(AA d k).l3.length=0->L5 (AA d k).l3=0:=λh=>by rw[List.eq_nil_of_length_eq_zero h];rfl
 generalize L5 (AA d k).l3=e at A|-;simp only[bs,o4,A',gR,A!,decide_eq_false_iff_not,A?,B_,B',ne_eq]
 repeat' (first|rfl|(exfalso;omega;done)|split)
 all_goals (first|rfl|(exfalso;omega)|omega|simp_all|(simp_all;omega))
theorem gM{x:ff}(d:XZ x):GM x=Y (
 if x.l3.length=0 then(if -1000000<=x.Low/\x.Low<=x.Aab/\x.Aab<=1000000 then 0 else 6)else
 if L5 x.l3≠0 then L5 x.l3 else if x.Low=0/\x.Aab=x.l3.length-1 then 0 else 6):=by
 have f:=d.names;have h:AZ (x.l3.length-1)=x.l3.length-1:=Ap U U;unfold GM EE;simp only[bs,h,uZ d.each];generalize L5 x.l3=e;simp only[bs,o4,A',gR,A!,decide_eq_false_iff_not,A?,B_,B',ne_eq]
 repeat' (first|rfl|(exfalso;omega;done)|split)
 all_goals (first|rfl|(exfalso;omega)|omega|simp_all|(simp_all;omega))
def J3(t:AC)(i:Int):Int:=
 let n:=AA t.az i
 if Fm n.gi=T then 2 else if fq (λj=>(AA t.az j).gi==n.gi) 0 i=X then 5 else
 if n.kg< -1\/i<=n.kg then 6 else if 4<n.iN.length\/8<(A5 t i).length then 3 else
 (fst (λk=>nz (Ng (A5 t i) k)) ((A5 t i).length-n.iN.length) (A5 t i).length).getD 0
variable{t:AC}{i:Int}
theorem YW(d:0<=i):(AA t.az i).iN.length<=(A5 t i).length:=by
 unfold A5;rw[show(i+1).toNat=i.toNat+1 by omega,CI,QQ U,aE];omega
theorem Eg.next(h:Eg t i)(f:-1<=par t i)(q:par t i<i):Eg t (i+1):=by
 intro j d u;by_cases w:j=i
 .grind
 .exact h j d U
theorem wo(hf:Ao t)(f:0<=i)(y:i<t.az.length)(C:Eg t i):Ky t i=Y (J3 t i):=by
 have E:=hf.name _ (AG f y);unfold Ky J3;dsimp only;rw[AD f y,bs,RY U,bs,MS f U,bs,show(λu=>PB u (AA t.az i))=(λu=>Y (u.gi==(AA t.az i).gi))from rfl,XI,bs,RO f U];cases Fm (AA t.az i).gi
 .rfl
 .cases fq (λj=>(AA t.az j).gi==(AA t.az i).gi) 0 i
  .by_cases h:(AA t.az i).kg< -1\/i<=(AA t.az i).kg
   .rcases h with h|h<;>simp[h]
   .have d:Eg t (i+1):=C.next (by unfold par;omega) (by unfold par;omega)
    have w:(decide ((AA t.az i).kg< -1)||decide (i<=(AA t.az i).kg))=T:=by
     rw [B!];simpa using h
    rw [ii hf (k:=i+1) U d f U,bs];have A:=JI hf (k:=i+1) (a:=i) U d U;have B:=YW (t:=t) f;have q:=OX hf (k:=i+1) (a:=i) U d U;rw[Ap U U,Ba (λk=>nz (Ng (A5 t i) k)),Cj]
    .simp only[w,h,B?,A_,if_false];simp only[bs,o4,A',gR,A!,decide_eq_false_iff_not,A?,B_,B',ne_eq]
     repeat' (first|rfl|(exfalso;omega;done)|split)
     all_goals (first|rfl|(exfalso;omega)|omega|simp_all|(simp_all;omega))
    .intro k D z _;rw[AD U z,bs,MS U U,bs,gK q U z,bs,L6]
  .rfl
theorem xH(hf:Ao t)(h:0<=i)(u:i<t.az.length)(C:Eg t i):Kk t i=Y (J3 t i):=by
 have G:=hf.name _ (AG h u);have H:=hf.cE;unfold Kk J3 EE;dsimp only;rw[AD h u,bs,Rb U,bs,BO (λj=>(AA t.az j).gi==(AA t.az i).gi) 5]
 .cases Fm (AA t.az i).gi
  .rfl
  .cases fq (λj=>(AA t.az j).gi==(AA t.az i).gi) 0 i
   .simp only[B?,A_,if_false,CB,bs];rw[Ap U U];by_cases y:(AA t.az i).kg< -1\/i<=(AA t.az i).kg
    .rw[Ne,QQ a_,Ne y];simp;omega
    .have d:Eg t (i+1):=C.next (by unfold par;omega) (by unfold par;omega)
     rw [QQ an,QQ a_,QQ y];rw[i7 hf (k:=i+1) U d h U,bs];have z:=JI hf (k:=i+1) (a:=i) U d U;have A:=YW (t:=t) h;have f:=OX hf (k:=i+1) (a:=i) U d U;rw[Ap U U];rw[Ba (λk=>nz (Ng (A5 t i) k)),Cj]
     .simp only[bs,o4,A',gR,A!,decide_eq_false_iff_not,A?,B_,B',ne_eq]
      repeat' (first|rfl|(exfalso;omega;done)|split)
      all_goals (first|rfl|(exfalso;omega)|omega|simp_all|(simp_all;omega))
     .intro k w q _;have B:=f _ (AG (show 0<=k by omega) q);have E:=B.name;simp only[AD (show 0<=k by omega) q,bs];rw[Rb U,bs,BO (λj=>(AA (A5 t i) j).gi==(AA (A5 t i) k).gi) 5]
      .rw[gM B];simp only[bs,L6];unfold Ng;dsimp only;cases Fm (AA (A5 t i) k).gi
       .rfl
       .cases fq (λj=>(AA (A5 t i) j).gi==(AA (A5 t i) k).gi) 0 k<;>rfl
      .intro j D F _;rw[AD D U,bs];split<;>rfl
   .rfl
 .intro j w q _;rw[AD w U,bs];split<;>rfl
def OY(low high:Int):Bool:=((decide (0<=low))&&(decide (low<=40)))&&((decide (high=(-1)))||((decide (low<=high))&&(decide (high<=40))))
theorem uS(low high:Int):LJ low high=Y (OY low high):=by
 unfold LJ OY EE
 grind
def Mf(t:AC)(i:Int):Int:=
 let x:=AA t.bi i
 if Fm x.gi=T then 2 else if fq (λj=>(AA t.bi j).gi==x.gi) 0 i=X then 5 else
 if (0<=x.fb/\x.fb<t.az.length)/\(0<=x.To/\x.To<t.az.length)/\OY x.Aa1 x.AaG=X/\OY x.Abq x.Aa0=X then 0 else 6
theorem wc(hf:Ao t)(d:0<=i)(h:i<t.bi.length):Kw t i=Y (Mf t i):=by
 have q:=hf.AbR _ (AG d h);unfold Kw Mf MY;dsimp only;rw[AD d h,bs,RY U,bs,MS d U,bs,show(λf=>PA f (AA t.bi i))=(λf=>Y (f.gi==(AA t.bi i).gi))from rfl,fy,bs,RO d U];simp[show∀a b,LC a b=Y (OY a b)from λ_ _=>rfl];generalize Fm (AA t.bi i).gi=b1;generalize fq (λj=>(AA t.bi j).gi==(AA t.bi i).gi) 0 i=b2;generalize OY (AA t.bi i).Aa1 (AA t.bi i).AaG=b3;generalize OY (AA t.bi i).Abq (AA t.bi i).Aa0=b4;cases b1
 .rfl
 grind
theorem w9(hf:Ao t)(q:0<=i)(u:i<t.bi.length):Kj t i=Y (Mf t i):=by
 have y:=hf.AbR _ (AG q u);have z:=hf.cE;unfold Kj Mf EE;dsimp only;rw[AD q u,bs,Rb U,bs,BO (λj=>(AA t.bi j).gi==(AA t.bi i).gi) 5]
 .simp only[Ap (show -9223372036854775808<=(t.az.length:Int)-1 by omega) U,uS,bs];generalize Fm (AA t.bi i).gi=b1;generalize fq (λj=>(AA t.bi j).gi==(AA t.bi i).gi) 0 i=b2;generalize OY (AA t.bi i).Aa1 (AA t.bi i).AaG=b3;generalize OY (AA t.bi i).Abq (AA t.bi i).Aa0=b4;cases b1
  .rfl
  .cases b2
   .cases b3<;>cases b4
    all_goals
     by_cases f:0<=(AA t.bi i).fb/\(AA t.bi i).fb<t.az.length
     .have d:(AA t.bi i).fb<=(t.az.length:Int)-1:=U
      by_cases w:0<=(AA t.bi i).To/\(AA t.bi i).To<t.az.length
      .have h:(AA t.bi i).To<=(t.az.length:Int)-1:=U
       simp [f,w,d,h,CB]
      .have:(decide (0<=(AA t.bi i).To)&&decide ((AA t.bi i).To<=(t.az.length:Int)-1))=T:=g_
       simp [f,w,d,this,CB]
     .have:(decide (0<=(AA t.bi i).fb)&&decide ((AA t.bi i).fb<=(t.az.length:Int)-1))=T:=g_
      simp [f,this,CB]
   .rfl
 grind [AD]
def A0(t:AC):ByteArray×Int:=
 if t.az.length=0 then(⟨#[]⟩,7)else if 12<t.az.length\/20<t.bi.length then(⟨#[]⟩,3)else
 match fst (λi=>(nz (J3 t i)).map λe=>((AA t.az i).gi,e)) 0 t.az.length with
 |some r=>r|none=>(fst (λi=>(nz (Mf t i)).map λe=>((AA t.bi i).gi,e)) 0 t.bi.length).getD (⟨#[]⟩,0)
theorem mn(h:J3 t i=0):-1<=par t i/\par t i<i:=by grind[J3,par,AA]
theorem PW{α β:Type}{o:Option α}{g:α->β}:o.map g=W↔o=W:=by cases o<;>simp
theorem X0(h:∀j,0<=j->j<i->J3 t j=0):Eg t i:=λj d f=>mn (h j d f)
theorem Wo{ρ:Type}(e:Int)(n:ByteArray):(if(!decide (e=0))=X then Y (B3.ret (n,e))else Y (B3.next ()))=Y (Nw ((nz e).map λe=>(n,e))):=by grind[nz,Nw]
theorem Pb(hf:Ao t):D8 t=Y (A0 t):=by
 unfold D8 A0;rw[Ba (λi=>(nz (J3 t i)).map λe=>((AA t.az i).gi,e)),EA]
 .rw[Ba (λi=>(nz (Mf t i)).map λe=>((AA t.bi i).gi,e)),EA]
  .cases fst (λi=>(nz (J3 t i)).map λe=>((AA t.az i).gi,e)) 0 t.az.length<;>cases fst (λi=>(nz (Mf t i)).map λe=>((AA t.bi i).gi,e)) 0 t.bi.length
   all_goals dsimp only
   all_goals try simp only[w_]
   all_goals
    simp only[bs,o4,A',gR,A!,decide_eq_false_iff_not,A?,B_,B',ne_eq]
    repeat' (first|rfl|(exfalso;omega;done)|split)
    all_goals (first|rfl|(exfalso;omega)|omega|simp_all|(simp_all;omega))
  .intro i d f _;rw[AD d f,bs,wc hf d f,bs];exact Wo (ρ:=Unit) _ _
 .intro i d f u;have w:Eg t i:=X0 λj h q=>RA.1 (PW.1 (u j h q));rw[AD d f,bs,wo hf d f w,bs];exact Wo (ρ:=Unit) _ _
theorem RE(hf:Ao t):Ec t=Y (A0 t):=by
 unfold Ec A0;rw[Ba (λi=>(nz (J3 t i)).map λe=>((AA t.az i).gi,e)),EA]
 .rw[Ba (λi=>(nz (Mf t i)).map λe=>((AA t.bi i).gi,e)),EA]
  .cases fst (λi=>(nz (J3 t i)).map λe=>((AA t.az i).gi,e)) 0 t.az.length<;>cases fst (λi=>(nz (Mf t i)).map λe=>((AA t.bi i).gi,e)) 0 t.bi.length
   all_goals dsimp only
   all_goals try simp only[w_]
   all_goals
    simp only[bs,o4,A',gR,A!,decide_eq_false_iff_not,A?,B_,B',ne_eq]
    repeat' (first|rfl|(exfalso;omega;done)|split)
    all_goals (first|rfl|(exfalso;omega)|omega|simp_all|(simp_all;omega))
  .intro i d f _;simp only[w9 hf d f,AD d f,bs];exact Wo (ρ:=Unit) _ _
 .intro i d f u;have w:Eg t i:=X0 λj h q=>RA.1 (PW.1 (u j h q));simp only[xH hf d f w,AD d f,bs];exact Wo (ρ:=Unit) _ _
end Go.Sf.Sc
namespace Go.Sf.Sc
open Go Go.Sf
theorem Iw{α:Type}{c:Bool}{a b:α}:(if c=X then Y a else Y b)=Y (if c=X then a else b):=by cases c<;>rfl
def Lb(n:Int):Bool:=(decide (0<=n))&&(decide (n<=99))
def Sa(e:B1)(n:Int):Bool:=Lb e.em&&(decide (0<=e.fb)&&decide (e.fb<n))&&(decide (0<=e.To)&&decide (e.To<n))
def B5(g:bk):Int:=
 if 40<g.az.length\/80<g.bi.length then 3 else if(g.az.any λn=>!Lb n)=X then 6 else if(g.bi.any λe=>!Sa e g.az.length)=X then 6 else 0
structure BW(g:bk):Prop where
 cE:g.az.length<=40
 c9:g.bi.length<=80
 kind:∀n∈g.az,0<=n/\n<=99
 fit:∀e∈g.bi,(0<=e.em/\e.em<=99)/\(0<=e.fb/\e.fb<g.az.length)/\(0<=e.To/\e.To<g.az.length)
variable{g:bk}
theorem Dt(h:B5 g=0):BW g:=by
 unfold B5 at h;split at h
 .cases h
 .split at h
  .cases h
  .split at h
   .cases h
   .rename_i q f d;refine⟨U,U,λn j=>?_,λe he=>?_⟩
    .rw[C_,D']at f
     grind [Lb]
    .rw[C_,D']at d;have:=d e he;simp[Sa,Lb,A!,o4]at this;omega
theorem wg{e:B1}{n:Nat}(h:n<=40):Oe e n=Y (Sa e n):=by
 unfold Oe Ic Sa Lb;simp only[bs,Ap (show -9223372036854775808<=(n:Int)-1 by omega) U];have d:decide (e.fb<=(n:Int)-1)=decide (e.fb<n):=k_
 have f:decide (e.To<=(n:Int)-1)=decide (e.To<n):=k_
 rw [d,f];generalize (decide (0<=e.em)&&decide (e.em<=99))=b1;generalize (decide (0<=e.fb)&&decide (e.fb<n))=b2;cases b1<;>cases b2<;>simp
theorem OF(g:bk):Dk g=Y (B5 g):=by
 unfold Dk B5;by_cases h:40<g.az.length\/80<g.bi.length
 .grind
 .rw[QQ an,QQ h,show Nk=(λn=>Y (!Lb n))from rfl,dH,Ze (p:=λe=>!Sa e g.az.length) (λe _=>by
   grind [Nl,wg])]
  grind
theorem OH(g:bk):Ed g=Y (B5 g):=by
 unfold Ed B5;by_cases h:40<g.az.length\/80<g.bi.length
 .grind
 .rw[QQ an,QQ h,Gi,Gi,BO (λi=>!Lb (AA g.az i)) 6]
  .rw[BO (λi=>!Sa (AA g.bi i) g.az.length) 6]
   .cases fq (λi=>!Lb (AA g.az i)) 0 g.az.length
    .cases fq (λi=>!Sa (AA g.bi i) g.az.length) 0 g.bi.length<;>rfl
    .rfl
   .intro i d f _;rw[AD d f,bs];unfold Py Sa;simp[show∀n,Mr n=Y (Lb n)from λ_=>rfl]
    grind
  grind [AD,Mr,AA,Lb]
def CW(t:AC)(g:bk):Bool:=!(g.az.any λn=>decide (t.az.length<=n))&&!(g.bi.any λe=>decide (t.bi.length<=e.em))
variable{t:AC}
theorem Cw(d:BW g)(h:CW t g=X):(∀n∈g.az,0<=n/\n<t.az.length)/\∀e∈g.bi,0<=e.em/\e.em<t.bi.length:=by
 unfold CW at h;simp[A!,o4]at h;refine⟨λn f=>?_,λe he=>?_⟩
 .have:=h.1 n f;have:=d.kind n f;omega
 .have:=h.2 e he;have:=d.fit e he;omega
theorem uL(t:AC)(g:bk):Kq t g=Y (CW t g):=by grind[Kq,CW,O2,dH,O3,B1,g9]
theorem Z0(h:BW g):IJ t g=Y (CW t g):=by
 unfold IJ CW;rw[Gi,Gi,BO (λi=>decide (t.az.length<=AA g.az i)) T]
 .rw[BO (λi=>decide (t.bi.length<=(AA g.bi i).em)) T]
  .cases fq (λi=>decide (t.az.length<=AA g.az i)) 0 g.az.length
   .cases fq (λi=>decide (t.bi.length<=(AA g.bi i).em)) 0 g.bi.length<;>rfl
   .rfl
  .intro i d f _;have:=(h.fit _ (AG d f)).1.1;simp[AD d f]
   grind
 .intro i d f _;have:=(h.kind _ (AG d f)).1;simp[AD d f]
  grind
structure Eh(t:AC):Prop where
 cE:t.az.length<=12
 c9:t.bi.length<=20
 node:∀i:Int,0<=i->i<t.az.length->J3 t i=0
 edge:∀i:Int,0<=i->i<t.bi.length->Mf t i=0
theorem Ck(h:(A0 t).2=0):Eh t:=by
 unfold A0 at h;split at h
 .cases h
 .split at h
  .cases h
  .rename_i w y;have f:∀i:Int,0<=i->i<t.az.length->J3 t i=0:=by
    grind [Dx,nz,RA,PW,Bb]
   have he:∀i:Int,0<=i->i<t.bi.length->Mf t i=0:=by
    split at h
    next r d=>obtain⟨i,q,u,j,_⟩:=Dx d;rw[f i q u]at j;cases j
    .cases d:fst (λi=>(nz (Mf t i)).map λe=>((AA t.bi i).gi,e)) 0 t.bi.length with
     |some r=>
      grind [Dx,nz]
     |none=>
      grind [RA,PW,Bb]
   exact ⟨U,U,f,he⟩
theorem Eh.par(h:Eh t):Eg t t.az.length:=X0 h.node
variable{i:Int}
theorem Eh.ends(h:Eh t)(d:0<=i)(f:i<t.bi.length):(0<=(AA t.bi i).fb/\(AA t.bi i).fb<t.az.length)/\(0<=(AA t.bi i).To/\(AA t.bi i).To<t.az.length):=by
 have:=h.edge i d f
 grind [Mf]
def La(t:AC)(a:Int):Bool:=decide (0<=a)&&decide (a<t.az.length)
variable{a:Int}
theorem Mm:La t a=X↔0<=a/\a<t.az.length:=by unfold La;simp
theorem Zv(hf:Ao t)(l:Fp):HK t l=Y (if(A0 t).2≠0 then(A0 t).2 else if(l.all (La t))=X then 0 else 6):=by
 unfold HK;rw[Pb hf,bs,Sv (p:=λa=>!La t a) (λa _=>by unfold Nt La;rw[show decide (a<0)=!decide (0<=a)from by rw[<-decide_not,decide_eq_decide];omega,show decide ((t.az.length:Int)<=a)=!decide (a<t.az.length)from by rw[<-decide_not,decide_eq_decide];omega,Bool.not_and]),bs]
 grind
theorem jB(hf:Ao t)(a b:Int):IG t a b=Y (if(A0 t).2≠0 then(A0 t).2 else if(La t a&&La t b)=X then 0 else 6):=by
 have d:=hf.cE;have e:∀a,decide (a<=(t.az.length:Int)-1)=decide (a<(t.az.length:Int)):=λa=>k_
 unfold IG EE;rw[RE hf,bs]
 grind [Ap,A0,La]
theorem nu{α:Type}[Inhabited α]{l:List α}(d:0<=i)(f:i<l.length):BB l i (AA l i)=l:=by grind[BB,AA,D!,List.set_getElem_self]
theorem CU{α:Type}[Inhabited α]{l:List α}(d:0<=i)(f:i<l.length):l.take (i+1).toNat=l.take i.toNat++[AA l i]:=by
 unfold AA;rw[show(i+1).toNat=i.toNat+1 by omega,List.take_add_one,D?,D! U];rfl
theorem BL{α:Type}{l:List α}(h:l.length<=AW):Al [] l=Y l:=by grind[AS]
def HN(t:AC)(a:Int):List ff×Int:=if(A0 t).2≠0 then([],(A0 t).2)else if La t a=X then(A5 t a,0)else([],6)
theorem TA(hf:Ao t)(a:Int):FU t a=Y (HN t a):=by
 unfold FU HN;rw[Zv hf,bs];by_cases h:(A0 t).2=0
 .have j:=Ck h;have e:[a].all (La t)=La t a:=V
  rw [e];simp[h];cases hi:La t a
  .rfl
  .rw[Ne rfl,Ne rfl];have q:=Mm.1 hi;have F:=JI hf (x! _) j.par q.2;have D:=OX hf (x! _) j.par q.2;rw[QQ a_,ii hf (x! _) j.par q.1 q.2,bs];obtain⟨s',E,rfl⟩:=PU (f:=(λ(u:Int)(w:List ff)=>
 (idx w u).bind λy=>
 (slices_Clone_string y.l3).bind λz=>
 (idx w u).bind λd=>
 Y (BB w u (ff.mk d.gi d.Low d.Aab z)))) (λ_ s=>s=A5 t a) (a:=0) (b:=(A5 t a).length) (s:=A5 t a) U rfl (λi s A B C=>by
     subst C;have:=(D _ (AG A B)).names;refine⟨A5 t a,?_,rfl⟩;unfold slices_Clone_string;rw[AD A B,bs,BL b_,bs,bs];congr 1;exact nu A B)
   rw [E];rfl
 .simp[h,not_false_eq_true,decide_false]
theorem RD(hf:Ao t)(a:Int):D7 t a=Y (HN t a):=by
 unfold D7 HN;rw[jB hf,bs];by_cases h:(A0 t).2=0
 .have d:=Ck h;rw[Bool.and_self];simp only[h,ne_eq,not_true_eq_false,if_false];cases hi:La t a
  .rfl
  .rw[Ne rfl,Ne rfl];have f:=Mm.1 hi;have w:=JI hf (x! _) d.par f.2;have u:=OX hf (x! _) d.par f.2;rw[QQ a_,i7 hf (x! _) d.par f.1 f.2,bs];rw[BQ (λi=>(A5 t a).take i.toNat) U V]
   .rw[bs,x?,E_]
   .intro i j q;have:=(u _ (AG j q)).names;rw[AD j q,bs,BL b_,bs,AS (by rw[aN];simp;unfold AW;omega),CU j q];rfl
 grind
theorem HC(h:BW g):B5 g=0:=by
 have:=h.cE;have:=h.c9;unfold B5;rw[QQ U,QQ,QQ]
 .intro k;obtain⟨e,he,k⟩:=E'.1 k;have:=h.fit e he;simp[Sa,Lb]at k;omega
 .intro k;obtain⟨n,d,k⟩:=E'.1 k;have:=h.kind n d;simp[Lb]at k;omega
end Go.Sf.Sc
namespace Go.Sf.Sc
open Go Go.Sf
def Gs(t:AC):Nat->Int->Fp
 |0,_=>[]|n+1,a=>if a<0 then[]else a::Gs t n (par t a)
variable{t:AC}{k:Int}
theorem oT(f:Eg t k):∀(n m:Nat)(a:Int),a<k->a<n->a<m->Gs t n a=Gs t m a
 |n,m,a,h,j,q=>by
  by_cases d:a<0
  .cases n<;>cases m<;>simp[Gs,d]
  .cases n with
   |zero=>omega|succ n=>
    cases m with
    |zero=>omega|succ m=>
     rw [Gs,Gs,QQ d,QQ d];have:=f a U h;rw[oT f n m (par t a) U U U]
theorem jT(t:AC):∀(n:Nat)(a:Int),(Gs t n a).length<=n
 |0,_=>by simp[Gs]|n+1,a=>by
  rw [Gs];split
  .simp
  .have:=jT t n (par t a);simp;omega
def isB(t:AC)(a b:Int):Bool:=(Gs t (a+1).toNat a).any λx=>decide (b=x)
theorem iV(f:t.az.length<=12)(u:Eg t t.az.length):∀(n:Nat)(a:Int)(l:Fp),a<t.az.length->a<n->l.length+n<=1000 ->
  ∃x,Ls (ρ:=Fp) (λ(d:Int×Fp)=>
 if (decide (0<=d.1))=X then
 (Al d.2 [d.1]).bind λh=>
 (idx t.az d.1).bind λj=>
 Y (.next (j.kg,h))
 else
 Y (.brk (d.1,d.2))) (a,l) (.inl (x,l++Gs t n a))
 |0,a,l,q,w,_=>by
  refine ⟨a,.brk ?_⟩
  grind [Gs]
 |n+1,a,l,q,w,B=>by
  by_cases y:a<0
  .refine⟨a,.brk ?_⟩
   grind [Gs]
  .have z:=u a U q;obtain⟨x,A⟩:=iV f u n (par t a) (l++[a]) U U an;refine⟨x,.next (s':=(par t a,l++[a])) ?_ ?_⟩
   .rw[Ne an,AS a?,bs,AD U q];rfl
   grind [Gs,par]
variable{a b:Int}
theorem p9(h:Eh t)(q:0<=a)(d:a<t.az.length):Kx t a b=Y (isB t a b):=by
 have f:=h.cE;obtain⟨x,j⟩:=iV f h.par (a+1).toNat a [] d U an;have u:=jT t (a+1).toNat a;unfold Kx M4;rw[j.eq,CB]
 grind [slices_Reverse_int,AW,Lv,isB]
theorem eh(d:Eg t t.az.length)(j:0<=b):∀(n m:Nat)(a:Int),-1<=a->a<t.az.length->a+1<n->a<m->D3 n t a b=Y ((Gs t m a).any λx=>decide (b=x))
 |0,_,_,_,_,_,_=>by omega|n+1,m,a,u,h,w,y=>by
  rw [D3];by_cases f:a<0
  .rw[QQ an,QQ an];cases m<;>simp[Gs,f]
  .cases m with
   |zero=>omega|succ m=>
    have q:=d a U h;rw[Gs,QQ f,List.any_cons,Ne (show decide (0<=a)=X by simp;omega),AD U h];simp;rw[show(AA t.az a).kg=par t a from rfl,eh d j n m (par t a) U U U U]
    grind
theorem Wy(h:Eh t)(j:0<=a)(d:a<t.az.length)(f:0<=b):HQ t a b=Y (isB t a b):=
 Gp (a+2).toNat λn q=>eh h.par f n (a+1).toNat a U d U U
def Iu(t:AC)(e f g:Int):Bool:=
 decide ((A0 t).2=0)&&(La t f&&La t g)&&(decide (0<=e)&&decide (e<t.bi.length))&&(isB t f (AA t.bi e).fb&&isB t g (AA t.bi e).To)
theorem eF(hf:Ao t)(e f g:Int):IC t e f g=Y (Iu t e f g):=by
 unfold IC Iu;rw[Zv hf,bs,show[f,g].all (La t)=(La t f&&La t g)by simp];by_cases h:(A0 t).2=0
 .simp only[h,ne_eq,not_true_eq_false,if_false];have d:=Ck h;cases hi:(La t f&&La t g)
  .rfl
  .rw[gR,Mm,Mm]at hi;by_cases he:0<=e/\e<t.bi.length
   .rw[QQ an,AD he.1 he.2];simp[p9 d hi.1.1 hi.1.2,p9 d hi.2.1 hi.2.2,he.1,he.2,decide_true]
    grind
   grind
 .simp[h]
theorem VT(hf:Ao t)(e f g:Int):Em t e f g=Y (Iu t e f g):=by
 have w:=hf.c9;unfold Em Iu EE;rw[jB hf,bs];by_cases h:(A0 t).2=0
 .simp only[h,ne_eq,not_true_eq_false,if_false];have d:=Ck h;cases hi:(La t f&&La t g)
  .rfl
  .rw[gR,Mm,Mm]at hi;rw[Ap U U];simp only[bs];by_cases he:0<=e/\e<t.bi.length
   .have j:=d.ends he.1 he.2;have q:e<=(t.bi.length:Int)-1:=U
    rw [QQ V,bs,QQ (by simp[he.1,q]),AD he.1 he.2];simp[Wy d hi.1.1 hi.1.2 j.1.1,Wy d hi.2.1 hi.2.2 j.2.1,he.1,he.2,decide_true];cases isB t f (AA t.bi e).fb<;>rfl
   .have:(decide (0<=e)&&decide (e<t.bi.length))=T:=by rw[B!];simpa using he
    have u:(decide (0<=e)&&decide (e<=(t.bi.length:Int)-1))=T:=g_
    rw [this,u];simp
 .simp[h]
def O6(n:Int)(x:ez):Bool:=(((decide ((-1)<=x.Var))&&(decide (x.Var<n)))&&(decide ((-1000000)<=x.Add)))&&(decide (x.Add<=1000000))
def P7(n:Int)(x:Test):Int:=if¬x.fu=1/\¬x.fu=2 then 1 else if(O6 n x.ea&&O6 n x.ci)=X then 0 else 6
def LB(n:Int)(l:List Test):Int:=if n<0\/12<n then 6 else if 40<l.length then 3 else(fst (λi=>nz (P7 n (AA l i))) 0 l.length).getD 0
theorem wv(n:Int)(x:Test):KD n x=Y (P7 n x):=by
 unfold KD P7;simp only[show∀n x,JK n x=Y (O6 n x)from λ_ _=>rfl,bs];generalize O6 n x.ea=b1;generalize O6 n x.ci=b2;cases b1<;>cases b2
 all_goals
  simp only[bs,o4,A',gR,A!,decide_eq_false_iff_not,A?,B_,B',ne_eq]
  repeat' (first|rfl|(exfalso;omega;done)|split)
  all_goals (first|rfl|(exfalso;omega)|omega|simp_all|(simp_all;omega))
theorem qT(n:Int)(x:ez):KI n x=Y (if O6 n x=X then 0 else 6):=by
 unfold KI O6;simp only[bs,o4,A',gR,A!,decide_eq_false_iff_not,A?,B_,B',ne_eq]
 repeat' (first|rfl|(exfalso;omega;done)|split)
 all_goals (first|rfl|(exfalso;omega)|omega|simp_all|(simp_all;omega))
theorem xL(n:Int)(x:Test):QP n x=Y (P7 n x):=by
 unfold QP P7;simp only[qT,bs];generalize O6 n x.ea=b1;generalize O6 n x.ci=b2;cases b1<;>cases b2
 all_goals
  simp only[bs,o4,A',gR,A!,decide_eq_false_iff_not,A?,B_,B',ne_eq]
  repeat' (first|rfl|(exfalso;omega;done)|split)
  all_goals (first|rfl|(exfalso;omega)|omega|simp_all|(simp_all;omega))
theorem uK(n:Int)(l:List Test):Ia n l=Y (LB n l):=by
 unfold Ia LB;rw[Ba (λi=>nz (P7 n (AA l i))),Cj]
 .simp only[bs,o4,A',gR,A!,decide_eq_false_iff_not,A?,B_,B',ne_eq]
  repeat' (first|rfl|(exfalso;omega;done)|split)
  all_goals (first|rfl|(exfalso;omega)|omega|simp_all|(simp_all;omega))
 .intro i d f _;rw[AD d f,bs,wv,bs,L6]
theorem ud(n:Int)(l:List Test):NJ n l=Y (LB n l):=by
 unfold NJ LB;rw[Ba (λi=>nz (P7 n (AA l i))),Cj]
 .simp only[bs,o4,A',gR,A!,decide_eq_false_iff_not,A?,B_,B',ne_eq]
  repeat' (first|rfl|(exfalso;omega;done)|split)
  all_goals (first|rfl|(exfalso;omega)|omega|simp_all|(simp_all;omega))
 .intro i d f _;rw[AD d f,bs,xL,bs,L6]
def TU(t:AC)(p:c7)(node ix:Int):ff×Bool:=
 if node<0\/p.bk.az.length<=node then(default,T)else
 let l:=(HN t (AA p.bk.az node)).1
 if ix<0\/l.length<=ix then(default,T)else(AA l ix,X)
theorem YV(hf:Ao t)(a:Int):(HN t a).1.length<=600/\((HN t a).2≠0->(HN t a).1=[]):=by
 unfold HN;split
 .simp
 .rename_i h;have d:=Ck (t:=t) U;split
  next hi=>exact⟨JI hf (x! _) d.par (Mm.1 hi).2,V⟩
  .simp
variable{p:c7}
theorem uA(hf:Ao t)(d:BW p.bk)(s:DW):Gu t p s=Y (TU t p s.ln s.ff):=by
 have j:=d.cE;unfold Gu TU C5;dsimp only;rw[Ap U U,bs];by_cases h:s.ln<0\/p.bk.az.length<=s.ln
 .rw[Ne an,Ne h];rfl
 .rw[QQ an,QQ h,AD U U,bs,TA hf,bs];have q:=(YV hf (AA p.bk.az s.ln)).1;rw[Ap U U,bs];by_cases f:s.ff<0\/(HN t (AA p.bk.az s.ln)).1.length<=s.ff
  .rw[Ne an,Ne f];rfl
  grind [AD]
theorem uR(hf:Ao t)(node d:Int):Ow t p node d=Y (TU t p node d):=by
 unfold Ow TU;dsimp only;by_cases h:node<0\/p.bk.az.length<=node
 .rw[Ne an,Ne h];rfl
 .rw[QQ an,QQ h,AD U U,bs,RD hf,bs];have j:=(YV hf (AA p.bk.az node)).2;by_cases f:d<0\/(HN t (AA p.bk.az node)).1.length<=d
  .rw[Ne an,Ne f];rfl
  grind [HN,AA,AD]
end Go.Sf.Sc
namespace Go.Sf
variable{σ ρ:Type}
def n8(s:σ)(o:Option ρ):B3 σ ρ:=match o with
 |none=>.next s|some r=>.ret r
def sq(s:σ)(o:Option ρ):σ ⊕ ρ:=match o with
 |none=>.inl s|some r=>.inr r
theorem de{f:Int->σ->Option (B3 σ ρ)}(g:Int->σ)(c:Int->Option ρ):∀(n:Nat)(a:Int),
  (∀i,a<=i->i<a+n->(∀j,a<=j->j<i->c j=W)->f i (g i)=Y (n8 (g (i+1)) (c i)))->sr f n a (g a)=Y (sq (g (a+n)) (F3 c n a))
 |0,a,_=>by simp[sr,F3,sq]|n+1,a,h=>by
  have u:=h a (x! _) U (λj d q=>U);rw[FW,u,F3];cases A:c a with
  |some r=>rfl|none=>
   simp only[n8];rw[show a+((n+1:Nat):Int)=a+1+n by omega];refine de g c n (a+1) (λi d q w=>h i U U (λj y z=>?_))
   grind
variable{a b:Int}
theorem Mh{f:Int->σ->Option (B3 σ ρ)}(g:Int->σ)(c:Int->Option ρ){s:σ}(d:a<=b)(q:s=g a)(h:∀i,a<=i->i<b->(∀j,a<=j->j<i->c j=W)->f i (g i)=Y (n8 (g (i+1)) (c i))):eE f a b s=Y (sq (g b) (fst c a b)):=by
 subst q;unfold eE fst;have:=de g c (b-a).toNat a (λi u y w=>h i u U w)
 grind
variable{α:Type}
variable{e:Int}
theorem Dy{ζ:K1}{δ:Int}(h:e=0->ζ=Y δ):(if(!decide (e=0))=X then Y e else ζ)=Y (if e≠0 then e else δ):=o!
variable{v:α}{ζ:Option α}{δ:α}
theorem Dd(h:e=0->ζ=Y δ):(if(!decide (e=0))=X then Y v else ζ)=Y (if e≠0 then v else δ):=o!
variable{P:Prop}
theorem QB[Decidable P]{b:Bool}(d:b=X↔P)(h:¬P->ζ=Y δ):(if b=X then Y v else ζ)=Y (if P then v else δ):=o!
theorem Us{b:Bool}(h:b=X->ζ=Y δ):(if(!b)=X then Y v else ζ)=Y (if b=T then v else δ):=o!
theorem aH{b:Bool}(h:b=T->ζ=Y δ):(if b=X then Y v else ζ)=Y (if b=X then v else δ):=o!
end Go.Sf
namespace Go.Sf.Sc
open Go Go.Sf
def TX(t:AC)(p:c7)(s:DW):Bool:=!(TU t p s.ln s.ff).2||decide (s.ez.Var< -1)||decide (p.ei<=s.ez.Var)||(decide (s.ez.Add< -1000000)||decide (1000000<s.ez.Add))
def L7(p:c7)(v:Int):Bool:=p.d5.any λs=>decide (s.ez.Var=v)
def H7(t:AC)(p:c7):Int:=
 if (A0 t).2≠0 then(A0 t).2 else if B5 p.bk≠0 then B5 p.bk else if CW t p.bk=T then 13 else
 if p.ei<0\/12<p.ei then 6 else if 10<p.d5.length\/10<p.f0.length then 3 else
 if (p.d5.any (TX t p))=X then 6 else if LB p.ei p.f0≠0 then LB p.ei p.f0 else
 if fq (λv=>!L7 p v) 0 p.ei=X then 9 else 0
def Kz(p:c7)(i:Int):MV:=(E! p.ei.toNat).map λ(v:Nat)=>(p.d5.take i.toNat).any λs=>decide (s.ez.Var=(v:Int))
variable{p:c7}
theorem lc:Kz p 0=List.replicate p.ei.toNat T:=by
 unfold Kz;refine E? V (λn d f=>V)
theorem oW(p:c7)(i:Int):(Kz p i).length=p.ei.toNat:=by simp[Kz]
variable{i:Int}
theorem oX(d:0<=i)(f:i<p.d5.length)(hv:0<=(AA p.d5 i).ez.Var):BB (Kz p i) (AA p.d5 i).ez.Var X=Kz p (i+1):=by
 unfold BB;refine E? (by simp[Kz]) (λn h j=>?_);simp[Kz,CU d f]
 grind
theorem lb(d:0<=i)(f:i<p.d5.length)(hv:(AA p.d5 i).ez.Var<0):Kz p i=Kz p (i+1):=by
 refine E? (by simp[Kz]) (λn h j=>?_);simp[Kz,CU d f]
 grind
theorem oV(p:c7):((Kz p p.d5.length).any λx=>T==x)=fq (λv=>!L7 p v) 0 p.ei:=by
 rw [z!,E',Dv];simp only[Kz,x?,E_,F_,List.mem_range];constructor
 .rintro⟨x,⟨v,hv,rfl⟩,d⟩;refine⟨v,U,U,?_⟩
  grind [L7]
 .rintro⟨v,f,h,d⟩;refine⟨_,⟨v.toNat,U,rfl⟩,?_⟩
  grind [y_,L7]
theorem iO{α ρ:Type}[Inhabited α]{l:List α}{q:α->Bool}{v:ρ}:fst (λi=>if q (AA l i)=X then Y v else W) 0 l.length=if l.any q=X then Y v else W:=by
 rw [OA,Gi]
variable{t:AC}
theorem ZB(hf:Ao t)(p:c7):Di t p=Y (H7 t p):=by
 unfold Di H7;rw[Pb hf,bs,OF,bs];refine Dy λH=>Dy λF=>?_;have z:=Dt F;have e:((BA p.bk.az (λd=>Hr d t)).bind λq=>
   (if q=X then Y X else((BR p.bk.bi (λd=>Hs d t)).bind λu=>Y (u))))=Y (!CW t p.bk):=by
  unfold CW;rw[show(λd=>Hr d t)=(λ(n:Int)=>Y (decide (t.az.length<=n)))from rfl,dH,show(λd=>Hs d t)=(λ(e:B1)=>Y (decide (t.bi.length<=e.em)))from rfl,g9];simp only[bs];cases p.bk.az.any λn=>decide (t.az.length<=n)<;>simp
 rw [<-w?,e,bs];refine Us λG=>?_;unfold C5;simp only[bs];refine QB j? λhv=>QB j? λI=>?_;unfold FA;rw[Ne U,bs,<-lc,Ap (show -9223372036854775808<=p.ei-1 by omega) U,Mh (Kz p) (λi=>if TX t p (AA p.d5 i)=X then Y 6 else W) U rfl,iO]
 .cases f:p.d5.any (TX t p)
  .simp only[A_,if_false,sq,CB,uK,bs,iC,oV];by_cases h:LB p.ei p.f0=0
   .simp[h];cases fq (λv=>!L7 p v) 0 p.ei<;>rfl
   .simp[h]
  .rfl
 .intro i w y _;rw[AD w y,bs,uA hf z,bs];unfold TX;by_cases f:(TU t p (AA p.d5 i).ln (AA p.d5 i).ff).2=X
  .by_cases E:(AA p.d5 i).ez.Var< -1\/p.ei<=(AA p.d5 i).ez.Var
   .have A:(decide (-1<=(AA p.d5 i).ez.Var)&&decide ((AA p.d5 i).ez.Var<=p.ei-1))=T:=g_
    have B:(decide ((AA p.d5 i).ez.Var< -1)||decide (p.ei<=(AA p.d5 i).ez.Var))=X:=an
    rw [f,A,C' (!X),B];rfl
   .have A:(decide (-1<=(AA p.d5 i).ez.Var)&&decide ((AA p.d5 i).ez.Var<=p.ei-1))=X:=an
    have B:(decide ((AA p.d5 i).ez.Var< -1)||decide (p.ei<=(AA p.d5 i).ez.Var))=T:=g_
    rw [f,A,C' (!X),B];by_cases J:(AA p.d5 i).ez.Add< -1000000\/1000000<(AA p.d5 i).ez.Add
    .have C:(decide (-1000000<=(AA p.d5 i).ez.Add)&&decide ((AA p.d5 i).ez.Add<=1000000))=T:=g_
     have D:(decide ((AA p.d5 i).ez.Add< -1000000)||decide (1000000<(AA p.d5 i).ez.Add))=X:=an
     rw [C,D];rfl
    .have C:(decide (-1000000<=(AA p.d5 i).ez.Add)&&decide ((AA p.d5 i).ez.Add<=1000000))=X:=an
     have D:(decide ((AA p.d5 i).ez.Add< -1000000)||decide (1000000<(AA p.d5 i).ez.Add))=T:=g_
     rw [C,D];by_cases j:0<=(AA p.d5 i).ez.Var
     .simp[j,decide_true];rw[AD j (by rw[oW];omega),bs,oX w y j];rfl
     .simp[j,decide_false];rw[lb w y U];rfl
  .rw[C_]at f;rw[f];rfl
theorem sX(p:c7)(v:Int):MG p v=Y (L7 p v):=by
 unfold MG L7;rw[BO (λi=>decide ((AA p.d5 i).ez.Var=v)) X,Gi]
 .cases fq (λi=>decide ((AA p.d5 i).ez.Var=v)) 0 p.d5.length<;>rfl
 .intro i d f _;rw[AD d f,bs,Iw]
theorem cU(hf:Ao t)(p:c7):IK t p=Y (H7 t p):=by
 unfold IK H7;rw[RE hf,bs,OH,bs];refine Dy λw=>Dy λq=>?_;have f:=Dt q;rw[Z0 f,bs];refine Us λu=>QB j? λhv=>QB j? λy=>?_;rw[BO (λi=>TX t p (AA p.d5 i)) 6,<-Gi]
 .cases z:p.d5.any (TX t p)
  .simp only[A_,if_false,CB,ud,bs];by_cases d:LB p.ei p.f0=0
   .simp only[d];rw[BO (λv=>!L7 p v) 9]
    .cases fq (λv=>!L7 p v) 0 p.ei<;>rfl
    .intro i h j _;rw[sX,bs,Iw]
   .simp[d]
  .rfl
 .intro i h j _;rw[AD h j,bs,uR hf,bs];unfold TX Np
  grind
def P5(t:AC)(p:c7)(i:Int):Int:=
 let s:=AA p.d5 i
 if s.ln<0\/p.bk.az.length<=s.ln then 6 else
 let l:=(HN t (AA p.bk.az s.ln)).1
 if ((((((decide (s.ff<0))||(decide ((l.length:Int)<=s.ff)))||(decide (s.ez.Var<(-1))))||(decide (p.ei<=s.ez.Var)))||(decide (s.ez.Add<(-1000000))))||(decide (1000000<s.ez.Add)))=X then 6 else
 if fq (λj=>(decide ((AA p.d5 j).ln=s.ln))&&(decide ((AA p.d5 j).ff=s.ff))) 0 i=X then 5 else 0
theorem ws(hf:Ao t)(r:d4)(d:0<=i)(f:i<r.ci.d5.length):MP t r i=Y (P5 t r.ci i):=by
 unfold MP P5;dsimp only;rw[AD d f,bs];refine QB V λh=>?_;rw[AD U U,bs,TA hf,bs,MS d U,bs,
  show (λj=>P4 j (AA r.ci.d5 i))=(λy=>Y ((decide (y.ln=(AA r.ci.d5 i).ln))&&(decide (y.ff=(AA r.ci.d5 i).ff))))from rfl,hU,bs,RO d U]
 grind
theorem xJ(hf:Ao t)(p:c7)(d:0<=i)(f:i<p.d5.length):Oy t p i=Y (P5 t p i):=by
 unfold Oy P5;dsimp only;rw[AD d f,bs];refine QB V λh=>?_;rw[AD U U,bs,RD hf,bs,
  BO (λj=>(decide ((AA p.d5 j).ln=(AA p.d5 i).ln))&&(decide ((AA p.d5 j).ff=(AA p.d5 i).ff))) 5]
 .refine aH λ_=>?_;cases fq (λj=>(decide ((AA p.d5 j).ln=(AA p.d5 i).ln))&&(decide ((AA p.d5 j).ff=(AA p.d5 i).ff))) 0 i<;>rfl
 grind [AD,AA,ff]
def K9(t:AC)(r:d4):Int:=
 if B5 r.ci.bk≠0 then B5 r.ci.bk else if CW t r.ci.bk=T then 13 else
 if r.ci.ei≠r.ea.ei\/0<r.ci.f0.length then 1 else if 10<r.ci.d5.length then 3 else
 (fst (λi=>nz (P5 t r.ci i)) 0 r.ci.d5.length).getD 0
theorem uH(hf:Ao t)(r:d4):Ko t r=Y (K9 t r):=by
 unfold Ko K9;rw[OF,bs,uL,bs,Ba (λi=>nz (P5 t r.ci i)),Cj]
 .grind
 grind [ws,L6]
theorem ub(hf:Ao t)(r:d4):NV t r=Y (K9 t r):=by
 unfold NV K9;rw[OH,bs];refine Dy λd=>?_;rw[Z0 (Dt d),bs,Ba (λi=>nz (P5 t r.ci i)),Cj]
 .grind
 grind [xJ,L6]
end Go.Sf.Sc
namespace Go.Sf
variable{a b:Int}
theorem kD{ρ:Type}{c d:Int->Option ρ}(h:∀i,c i=d i):fst c a b=fst d a b:=by rw[funext h]
def A1(l:Fp)(v:Int):Int:=(fst (λi=>if decide (v=AA l i)=X then Y i else W) 0 l.length).getD (-1)
variable{l:Fp}
theorem BP{v:Int}(h:v∈l):0<=A1 l v/\A1 l v<l.length/\AA l (A1 l v)=v/\∀j,0<=j->j<A1 l v->AA l j≠v:=by
 unfold A1;cases hf:fst (λi=>if decide (v=AA l i)=X then Y i else W) 0 l.length with
 |none=>
  grind [Ay,Bb]
 |some k=>
  grind [Dx,AA]
variable{R:Int->Int->Prop}
theorem LG(h:l.Pairwise R){i j:Int}(d:0<=i)(f:i<j)(q:j<l.length):R (AA l i) (AA l j):=by grind[F!,AA,D!]
theorem SV(h:∀i j:Int,0<=i->i<j->j<l.length->R (AA l i) (AA l j)):l.Pairwise R:=by
 refine F!.2 (λi j d f q=>?_);have:=h i j U U U;unfold AA at this
 grind
theorem Xg(w:l.Pairwise (·<·)){v:Int}(h:v∈l):(l.countP (λx=>decide (x<v)):Int)=A1 l v:=by
 obtain ⟨y,z,q,_⟩:=BP h;generalize F:A1 l v=k at y z q;have e:l=l.take k.toNat++l.drop k.toNat:=(List.take_append_drop _ _).symm;have A:(l.take k.toNat).countP (λx=>decide (x<v))=k.toNat:=by
  rw [List.countP_eq_length.2 (λx d=>?_),aN]
  .omega
  .obtain⟨i,D,E,rfl⟩:=Ay d;rw[aN]at E;rw[Q7 U,o4,<-q];exact LG w D U z
 have B:(l.drop k.toNat).countP (λx=>decide (x<v))=0:=by
  rw [List.countP_eq_zero];intro x d;obtain⟨n,u⟩:=List.getElem?_of_mem d;rw[List.getElem?_drop]at u;have C:=(List.getElem?_eq_some_iff.1 u).1;have f:x=AA l (k+n):=by
   unfold AA;rw[D?,show(k+(n:Int)).toNat=k.toNat+n by omega,u];rfl
  rw [o4,f,<-q];by_cases j:n=0
  .subst j;simp
  .have:=LG w y (show k<k+(n:Int)by omega) U;omega
 rw [e,List.countP_append,A,B];omega
end Go.Sf
namespace Go.Sf.Sc
open Go Go.Sf
theorem Zp(l:Fp)(v:Int):slices_Index_int l v=Y (A1 l v):=mY l v
theorem td(l:Fp)(n:Int):(eb (eE (ρ:=Int) (λ(h:Int)(_:Unit)=>
 (idx l h).bind λd=>
 if (decide (d=n))=X then
 Y (.ret h)
 else
 Y (.next ())) 0 (l.length:Int) ()) (λ_=>
 Y (-1)) (λj=>Y j))=Y (A1 l n):=by
 have:=Xq (l:=l) (f:=λx=>Y (decide (x=n))) (p:=λx=>decide (x=n)) (λ_ _=>rfl);simp only[bs]at this;rw[this];unfold A1;congr 2;exact kD λi=>by simp[eq_comm]
theorem xF(l:Fp)(v:Int):Jo l v=Y (A1 l v):=td l v
def hasB(l:Fp)(v:Int):Bool:=l.any λx=>decide (v=x)
variable{l:Fp}
theorem Ag{v:Int}:hasB l v=X↔v∈l:=by
 unfold hasB
 grind
theorem PV(l:Fp)(n:Int):(eb (eE (ρ:=Bool) (λ(f:Int)(_:Unit)=>
 (idx l f).bind λd=>
 if (decide (d=n))=X then
 Y (.ret X)
 else
 Y (.next ())) 0 (l.length:Int) ()) (λ_=>
 Y T) (λh=>Y h))=Y (hasB l n):=by
 unfold hasB;rw[BO (λi=>decide (n=AA l i)) X,Gi]
 .cases fq (λi=>decide (n=AA l i)) 0 l.length<;>rfl
 .intro i j q _;rw[AD j q,bs,Iw];simp[eq_comm]
theorem uX(l:Fp)(v:Int):SK l v=Y (hasB l v):=PV l v
theorem uW(l:Fp)(v:Int):QU l v=Y (hasB l v):=PV l v
def Lu(l:Fp)(n:Int):Int:=(fst (λi=>if AA l i<0\/n<=AA l i then Y 6 else if 0<i/\AA l i<=AA l (i-1)then Y 12 else W) 0 l.length).getD 0
theorem sQ(u:l.length<=1000)(n:Int):JA l n=Y (Lu l n):=by
 unfold JA Lu;rw[Ba (λi=>if AA l i<0\/n<=AA l i then Y 6 else if 0<i/\AA l i<=AA l (i-1)then Y 12 else W),Cj];intro i j q _;rw[AD j q,bs];by_cases h:AA l i<0\/n<=AA l i
 .rw[Ne c!,Ne h];rfl
 .rw[QQ c!,QQ h];by_cases d:0<i
  .rw[Ne c_,Ap U U,AD U U,bs,bs];by_cases f:AA l i<=AA l (i-1)
   .rw[Ne e!,Ne ⟨d,f⟩];rfl
   .rw[QQ e!,QQ (λh=>f h.2)];rfl
  .rw[QQ c_,bs,QQ a_,QQ (λh=>d h.1)];rfl
theorem sW(w:l.length<=1000)(n:Int):Hi l n=Y (Lu l n):=by
 unfold Hi Lu;rw[Ba (λi=>if AA l i<0\/n<=AA l i then Y 6 else if 0<i/\AA l i<=AA l (i-1)then Y 12 else W),Cj];intro i j q _;rw[AD j q];simp only[bs];by_cases h:AA l i<0\/n<=AA l i
 .have:(if decide (AA l i<0)=X then Y X else Y (decide (n<=AA l i)))=Y X:=by
   rcases h with h|h
   .simp[h]
   .by_cases u:AA l i<0<;>simp[h,u]
  rw [this,bs,Ne rfl,Ne h];rfl
 .have:(if decide (AA l i<0)=X then Y X else Y (decide (n<=AA l i)))=Y T:=by
   rw [QQ an,decide_eq_false U]
  rw [this,bs,QQ a_,QQ h];by_cases d:0<i
  .rw[Ne c_,Ap U U,AD U U,bs,bs];by_cases f:AA l i<=AA l (i-1)
   .rw[Ne e!,Ne ⟨d,f⟩];rfl
   .rw[QQ e!,QQ (λh=>f h.2)];rfl
  .rw[QQ c_,bs,QQ a_,QQ (λh=>d h.1)];rfl
variable{a b:Int}
theorem QG{c:Int->K1}(d:∀i,c i≠Y 0)(h:(fst c a b).getD 0=0):∀i,a<=i->i<b->c i=W:=by
 have:fst c a b=W:=by
  cases hf:fst c a b with
  |none=>rfl|some r=>
   grind [w_,Dx]
 exact Bb.1 this
variable{n:Int}
theorem Uq(h:Lu l n=0):(∀x∈l,0<=x/\x<n)/\l.Pairwise (·<·):=by
 have z:=QG (c:=λi=>if AA l i<0\/n<=AA l i then Y 6 else if 0<i/\AA l i<=AA l (i-1)then Y 12 else W) (λi=>by
  split
  .simp
  .split<;>simp) h
 have f:∀i:Int,0<=i->i<l.length->(0<=AA l i/\AA l i<n)/\(0<i->AA l (i-1)<AA l i):=by
  intro i q y;have:=z i q y;split at this
  .cases this
  .split at this
   .cases this
   .omega
 refine ⟨λx u=>?_,SV (λi j q d w=>?_)⟩
 .obtain⟨i,A,B,rfl⟩:=Ay u;exact(f i A B).1
 .obtain⟨k,C⟩:∃k:Nat,j=i+1+k:=⟨(j-i-1).toNat,U⟩;subst C;clear d
  induction k with
  |zero=>
   have:=(f (i+1) U U).2 U;rw[show i+1-1=i by omega]at this;simpa using this
  |succ k D=>
   have a:=D U;have b:=(f (i+1+((k+1:Nat):Int)) U w).2 U;rw[show i+1+((k+1:Nat):Int)-1=i+1+k by omega]at b;omega
theorem Ty(f:l.length<=1000)(d:l.Pairwise (·<·))(v:Int):slices_BinarySearch_int l v=Y (((l.countP (λx=>decide (x<v)):Nat):Int),hasB l v):=by
 unfold slices_BinarySearch_int;rw[Ne ⟨b_,d.imp (λh=>U)⟩];congr 2;rw[z!,Ag,List.contains_iff_mem]
def Nn(g:bk)(p:BN):Int:=
 if Lu p.az g.az.length≠0 then Lu p.az g.az.length else if Lu p.bi g.bi.length≠0 then Lu p.bi g.bi.length else
 (fst (λi=>if(hasB p.az (AA g.bi (AA p.bi i)).fb&&hasB p.az (AA g.bi (AA p.bi i)).To)=X then W else Y 14) 0 p.bi.length).getD 0
structure ce(g:bk)(p:BN):Prop where
 cE:(∀x∈p.az,0<=x/\x<g.az.length)/\p.az.Pairwise (·<·)
 c9:(∀x∈p.bi,0<=x/\x<g.bi.length)/\p.bi.Pairwise (·<·)
 ends:∀x∈p.bi,(AA g.bi x).fb∈p.az/\(AA g.bi x).To∈p.az
variable{g:bk}
theorem VO{p:BN}(h:Nn g p=0):ce g p:=by
 unfold Nn at h;split at h
 .omega
 .split at h
  .omega
  .rename_i u w;refine⟨Uq U,Uq U,λx f=>?_⟩;obtain⟨i,j,q,rfl⟩:=Ay f;have:=QG (c:=λi=>if(hasB p.az (AA g.bi (AA p.bi i)).fb&&hasB p.az (AA g.bi (AA p.bi i)).To)=X then W else Y 14) (λi=>by
    split<;>simp) h i j q
   split at this
   next d=>rw[gR,Ag,Ag]at d;exact d
   .cases this
def D5(g:bk)(p:BN):Int:=if B5 g≠0 then B5 g else Nn g p
structure SU(p:BN):Prop where
 cE:p.az.length<=1000
 c9:p.bi.length<=1000
theorem ip{p:BN}(d:SU p):Fu g p=Y (D5 g p):=by
 unfold Fu D5;rw[OF,bs];refine Dy λq=>?_;have y:=Dt q;unfold Ns Nn;rw[sQ d.cE,bs,sQ d.c9,bs,x_];refine Dy λu=>Dy λw=>?_;obtain⟨a1,a2⟩:=Uq u;obtain⟨z,A⟩:=Uq w;rw[Ba (λi=>if(hasB p.az (AA g.bi (AA p.bi i)).fb&&hasB p.az (AA g.bi (AA p.bi i)).To)=X then W else Y 14),Cj];intro i f h _;have j:=z _ (AG f h);unfold MU;rw[AD f h,bs,AD j.1 j.2];simp[Ty d.cE a2];cases hasB p.az (AA g.bi (AA p.bi i)).fb<;>cases hasB p.az (AA g.bi (AA p.bi i)).To<;>rfl
theorem Zz{p:BN}(d:SU p):Jn g p=Y (D5 g p):=by
 unfold Jn D5;rw[OH,bs];refine Dy λq=>?_;have w:=Dt q;unfold Pz Nn;rw[sW d.cE,bs,sW d.c9,bs,x_];refine Dy λz=>Dy λu=>?_;obtain⟨y,A⟩:=Uq u;rw[Ba (λi=>if(hasB p.az (AA g.bi (AA p.bi i)).fb&&hasB p.az (AA g.bi (AA p.bi i)).To)=X then W else Y 14),Cj];intro i f h _;have j:=y _ (AG f h);rw[AD f h,bs,AD j.1 j.2];simp[uW];cases hasB p.az (AA g.bi (AA p.bi i)).fb<;>cases hasB p.az (AA g.bi (AA p.bi i)).To<;>rfl
def Gf(g:bk)(p:BN):bk:=⟨p.az.map (AA g.az),p.bi.map λx=>⟨(AA g.bi x).em,A1 p.az (AA g.bi x).fb,A1 p.az (AA g.bi x).To⟩⟩
variable{i:Int}
theorem I3{α:Type}{f:Int->α}(d:0<=i)(h:i<l.length):(l.take (i+1).toNat).map f=(l.take i.toNat).map f++[f (AA l i)]:=by grind[CU]
theorem Ti(A:l.length<=1000)(h:∀x∈l,0<=x/\x<g.az.length)(es:List B1):(gp (λ(z:Int)(w:bk)=>
 (idx l z).bind λd=>
 (idx g.az d).bind λf=>
 (Al w.az [f]).bind λj=>
 Y (bk.mk j w.bi)) 0 (l.length:Int) (bk.mk [] es))=Y (bk.mk (l.map (AA g.az)) es):=by
 rw [BQ (λi=>bk.mk ((l.take i.toNat).map (AA g.az)) es) U V]
 .rw[x?,E_]
 .intro i q u;have y:=h _ (AG q u);rw[AD q u,bs,AD y.1 y.2,bs,AS a?,bs,I3 q u]
theorem Yq(C:l.length<=1000)(h:∀x∈l,0<=x/\x<g.bi.length)(q:Fp)(F:B1->B1){f:B1->List B1->Option (List B1)}(hf:∀x∈l,∀s,s.length<=1000->f (AA g.bi x) s=Y (s++[F (AA g.bi x)])):(gp (λ(B:Int)(z:bk)=>
 (idx l B).bind λu=>
 (idx g.bi u).bind λw=>
 (f w z.bi).bind λy=>
 Y (bk.mk z.az y)) 0 (l.length:Int) (bk.mk q []))=Y (bk.mk q (l.map λx=>F (AA g.bi x))):=by
 rw [BQ (λi=>bk.mk q ((l.take i.toNat).map λx=>F (AA g.bi x))) U V]
 .rw[x?,E_]
 .intro i d j;have A:=h _ (AG d j);rw[AD d j,bs,AD A.1 A.2,bs,hf _ (AG d j) _ an,bs,I3 d j]
theorem bB{p:BN}(d:SU p):EY g p=Y (if D5 g p≠0 then(⟨[],[]⟩,⟨[],[]⟩,D5 g p)else(Gf g p,⟨p.az,p.bi⟩,0)):=by
 unfold EY;rw[ip d,bs];refine Dd λh=>?_;have y:B5 g=0/\Nn g p=0:=by
  grind [D5]
 have ho:=VO y.2;rw[Ti d.cE ho.cE.1,bs];have:=Yq (g:=g) (l:=p.bi) d.c9 ho.c9.1 (p.az.map (AA g.az)) (λx=>⟨x.em,A1 p.az x.fb,A1 p.az x.To⟩) (f:=λj s=>
  (slices_BinarySearch_int p.az j.fb).bind λq=>
  (slices_BinarySearch_int p.az j.To).bind λu=>
  Al s [B1.mk j.em q.1 u.1]) (λx w s z=>by
   have he:=ho.ends x w;rw[Ty d.cE ho.cE.2,bs,Ty d.cE ho.cE.2,bs,AS a?,Xg ho.cE.2 he.1,Xg ho.cE.2 he.2])
 simp [w?]at this;rw[this,bs];unfold slices_Clone_int;have A:=d.cE;have B:=d.c9;rw[BL b_,bs,BL b_];rfl
theorem bI{p:BN}(j:SU p):I5 g p=Y (if D5 g p≠0 then(⟨[],[]⟩,⟨[],[]⟩,D5 g p)else(Gf g p,⟨p.az,p.bi⟩,0)):=by
 unfold I5;rw[Zz j,bs];refine Dd λh=>?_;have w:B5 g=0/\Nn g p=0:=by
  grind [D5]
 have ho:=VO w.2;rw[Ti j.cE ho.cE.1,bs];have:=Yq (g:=g) (l:=p.bi) j.c9 ho.c9.1 (p.az.map (AA g.az)) (λx=>⟨x.em,A1 p.az x.fb,A1 p.az x.To⟩) (f:=λd s=>
  (Jo p.az d.fb).bind λq=>
  (Jo p.az d.To).bind λu=>
  Al s [B1.mk d.em q u]) (λx y s z=>by
   grind [xF,AS,AW])
 simp [w?]at this;rw[this,bs];have A:=j.cE;have B:=j.c9;rw[BL b_,bs,BL b_];rfl
end Go.Sf.Sc
namespace Go.Sf.Sc
open Go Go.Sf
def L4(a b:bk)(m:bn)(i:Int):K1:=
 if AA m.az i<0\/b.az.length<=AA m.az i then Y 6 else if AA b.az (AA m.az i)≠AA a.az i then Y 13 else W
def Es(a b:bk)(m:bn)(i:Int):K1:=
 if AA m.bi i<0\/b.bi.length<=AA m.bi i then Y 6 else
 if (AA a.bi i).em≠(AA b.bi (AA m.bi i)).em then Y 13 else
 if AA m.az (AA a.bi i).fb≠(AA b.bi (AA m.bi i)).fb\/AA m.az (AA a.bi i).To≠(AA b.bi (AA m.bi i)).To then Y 11 else W
def Hm(a b:bk)(m:bn):Int:=
 if B5 a≠0 then B5 a else if B5 b≠0 then B5 b else if m.az.length≠a.az.length\/m.bi.length≠a.bi.length then 20 else
 match fst (L4 a b m) 0 m.az.length with
 |some e=>e|none=>(fst (Es a b m) 0 m.bi.length).getD 0
structure cD(a b:bk)(m:bn):Prop where
 ga:BW a
 gb:BW b
 tc:m.az.length=a.az.length
 wi:m.bi.length=a.bi.length
 node:∀i:Int,0<=i->i<m.az.length->(0<=AA m.az i/\AA m.az i<b.az.length)/\AA b.az (AA m.az i)=AA a.az i
 edge:∀i:Int,0<=i->i<m.bi.length->(0<=AA m.bi i/\AA m.bi i<b.bi.length)/\(AA a.bi i).em=(AA b.bi (AA m.bi i)).em/\
  AA m.az (AA a.bi i).fb=(AA b.bi (AA m.bi i)).fb/\AA m.az (AA a.bi i).To=(AA b.bi (AA m.bi i)).To
variable{m:bn}
theorem SC{a b:bk}(h:Hm a b m=0):cD a b m:=by
 unfold Hm at h;split at h
 .omega
 split at h
 .omega
 split at h
 .cases h
 rename_i q u w;have j:fst (L4 a b m) 0 m.az.length=W:=by
  grind [Dx,L4]
 rw [j]at h;have he:=QG (λi=>by
  grind [Es]) h
 refine ⟨Dt U,Dt U,U,U,λi d f=>?_,λi d f=>?_⟩
 .grind[Bb,L4]
 grind [Es]
theorem Wv(a b:bk)(m:bn):Df a b m=Y (Hm a b m):=by
 unfold Df Hm;rw[OF,bs,OF,bs];refine Dy λw=>Dy λy=>QB j? λB=>?_;have ga:=Dt w;have gb:=Dt y;rw[Ba (L4 a b m),EA]
 .cases z:fst (L4 a b m) 0 m.az.length with
  |some e=>rfl|none=>
   have A:=Bb.1 z;dsimp only;rw[Ba (Es a b m),Cj];intro i h u _;unfold Es;rw[AD h u,bs];by_cases d:AA m.bi i<0\/b.bi.length<=AA m.bi i
   .rw[Ne c_,Ne d];rfl
   .have hf:=ga.fit _ (AG (l:=a.bi) h U);rw[QQ c_,QQ d,AD h U,bs,AD U U,bs];by_cases f:(AA a.bi i).em=(AA b.bi (AA m.bi i)).em
    .rw[QQ e!,QQ e!,AD U U,bs];by_cases j:AA m.az (AA a.bi i).fb=(AA b.bi (AA m.bi i)).fb
     .rw[QQ h_,AD U U,bs,bs];by_cases q:AA m.az (AA a.bi i).To=(AA b.bi (AA m.bi i)).To
      .rw[QQ l?,QQ (by simp[j,q])];rfl
      .rw[Ne l?,Ne (.inr q)];rfl
     .rw[Ne h_,bs,Ne rfl,Ne (.inl j)];rfl
    .rw[Ne e!,Ne f];rfl
 .intro i h u _;unfold L4;rw[AD h u,bs];by_cases d:AA m.az i<0\/b.az.length<=AA m.az i
  .rw[Ne c_,Ne d];rfl
  .rw[QQ c_,QQ d,AD U U,bs,AD h U,bs];by_cases f:AA b.az (AA m.az i)=AA a.az i
   .rw[QQ e!,QQ e!];rfl
   .rw[Ne e!,Ne f];rfl
theorem VM{x y:Prop}[Decidable x][Decidable y]:(if decide x=X then Y X else Y (decide y))=Y (decide (x\/y)):=o!
theorem cT(a b:bk)(m:bn):IH a b m=Y (Hm a b m):=by
 unfold IH Hm;rw[OH,bs,OH,bs];refine Dy λw=>Dy λy=>QB j? λB=>?_;have ga:=Dt w;have gb:=Dt y;rw[show(a.az.length:Int)=m.az.length by omega,show(a.bi.length:Int)=m.bi.length by omega,Ba (L4 a b m),EA]
 .cases z:fst (L4 a b m) 0 m.az.length with
  |some e=>rfl|none=>
   have A:=Bb.1 z;dsimp only;rw[Ba (Es a b m),Cj];intro i h u _;unfold Es;rw[AD h u];simp only[bs,VM];by_cases d:AA m.bi i<0\/b.bi.length<=AA m.bi i
   .rw[Ne c_,Ne d];rfl
   .have hf:=ga.fit _ (AG (l:=a.bi) h U);rw[QQ c_,QQ d,AD h U,bs,AD U U,bs];by_cases f:(AA a.bi i).em=(AA b.bi (AA m.bi i)).em
    .rw[QQ e!,QQ e!,AD U U,bs];by_cases j:AA m.az (AA a.bi i).fb=(AA b.bi (AA m.bi i)).fb
     .rw[QQ h_,AD U U,bs,bs];by_cases q:AA m.az (AA a.bi i).To=(AA b.bi (AA m.bi i)).To
      .rw[QQ l?,QQ (by simp[j,q])];rfl
      .rw[Ne l?,Ne (.inr q)];rfl
     .rw[Ne h_,bs,Ne rfl,Ne (.inl j)];rfl
    .rw[Ne e!,Ne f];rfl
 .intro i h u _;unfold L4;rw[AD h u];simp only[bs,VM];by_cases d:AA m.az i<0\/b.az.length<=AA m.az i
  .rw[Ne c_,Ne d];rfl
  .rw[QQ c_,QQ d,AD U U,bs,AD h U,bs];by_cases f:AA b.az (AA m.az i)=AA a.az i
   .rw[QQ e!,QQ e!];rfl
   .rw[Ne e!,Ne f];rfl
def KE(l:Fp):Bool:=!fq (λi=>fq (λj=>decide (AA l i=AA l j)) 0 i) 0 l.length
variable{l:Fp}
theorem Gy:KE l=X↔l.Nodup:=by grind[KE,A!,BV,SV,LG]
theorem cR(l:Fp):Fr l=Y (KE l):=by
 unfold Fr KE;rw[BO (λi=>fq (λj=>decide (AA l i=AA l j)) 0 i) T]
 .cases fq (λi=>fq (λj=>decide (AA l i=AA l j)) 0 i) 0 l.length<;>rfl
 .intro i d f _;rw[BO (λj=>decide (AA l i=AA l j)) T]
  .cases fq (λj=>decide (AA l i=AA l j)) 0 i<;>rfl
  .intro j h q _;rw[AD d f,bs,AD h U,bs,Iw]
theorem Tw(f:l.length<=1000):∃k,FB l=Y k/\decide (k=(l.length:Int))=KE l:=by
 have d:(R8 l).length=l.length:=(Qw l).length_eq;refine⟨((Go.Lib.compact (R8 l)).length:Int),?_,?_⟩
 .grind[FB,slices_Clone_int,slices_Sort_int,slices_Compact_int,BL,AW]
 .rw[z!,Gy,o4,<-(Qw l).nodup_iff,<-UR (RS l),d];omega
def Gz(m:bn):Bool:=KE m.az&&KE m.bi
theorem kZ{a b:bk}(h:Hm a b m=0):Cn a b m=Y (Gz m):=by
 have ho:=SC h;have:=ho.ga.cE;have:=ho.ga.c9;have:=ho.tc;have:=ho.wi;obtain⟨k,d,f⟩:=Tw (l:=m.az) U;obtain⟨j,q,u⟩:=Tw (l:=m.bi) U;unfold Cn Gz;rw[Wv,h,bs,Ne (decide_eq_true rfl),d];simp[q,f,u];cases KE m.az<;>rfl
theorem AAT{a b:bk}(h:Hm a b m=0):JU a b m=Y (Gz m):=by grind[JU,Gz,cT,cR,KE]
def SA(r:d4):Int:=
 if D5 r.ea.bk r.kx≠0 then D5 r.ea.bk r.kx else
 if Hm (Gf r.ea.bk r.kx) r.ci.bk r.ed≠0 then Hm (Gf r.ea.bk r.kx) r.ci.bk r.ed else if Gz r.ed=T then 11 else 0
variable{r:d4}
theorem wl(d:SU r.kx):MO r=Y (SA r):=by
 unfold MO SA;rw[bB d,bs];by_cases h:D5 r.ea.bk r.kx=0
 .simp only[h,ne_eq,not_true_eq_false,if_false,decide_true,B?,A_];rw[Wv,bs];refine Dy λf=>?_;rw[kZ f,bs];exact Us λ_=>rfl
 .simp[h]
def W5(r:d4):Int:=if D5 r.ea.bk r.kx≠0 then D5 r.ea.bk r.kx else Hm (Gf r.ea.bk r.kx) r.ci.bk r.ed
theorem xK(d:SU r.kx):Oz r=Y (W5 r):=by
 unfold Oz W5;rw[Zz d,bs];refine Dy λh=>?_
 grind [bI,cT]
theorem tf(h:SA r=0):D5 r.ea.bk r.kx=0/\Hm (Gf r.ea.bk r.kx) r.ci.bk r.ed=0/\Gz r.ed=X:=by grind[SA]
def AJ(l:Fp)(n:Int):Fp:=((E! n.toNat).map y!).filter λi=>!hasB l i
variable{i:Int}
theorem JX(l:Fp)(h:0<=i):AJ l (i+1)=AJ l i++if(!hasB l i)=X then[i]else[]:=by
 unfold AJ;rw[show(i+1).toNat=i.toNat+1 by omega,F?,G_,G!]
 grind
variable{n x:Int}
theorem CP(h:x∈AJ l n):0<=x/\x<n:=by
 unfold AJ at h
 grind
theorem IL(l:Fp)(n:Int):(AJ l n).length<=n.toNat:=by
 unfold AJ
 grind
theorem SO(u:0<=n)(y:n<=1000){f:Int->I1}(hf:∀i,f i=Y (hasB l i)):(gp (λ(j:Int)(q:Fp)=>
 (f j).bind λd=>
 if (!d)=X then
 (Al q [j]).bind λh=>
 Y h
 else
 Y q) 0 n [])=Y (AJ l n):=by
 refine BQ (AJ l) u (by simp[AJ]) (λi w z=>?_);have:=IL l i;rw[hf,bs,JX l w];cases hasB l i
 .rw[Ne a_,Ne a_,AS a?];rfl
 .rw[QQ a_,QQ a_,List.append_nil]
theorem eQ(d:0<=n)(f:n<=1000):LQ l n=Y (AJ l n):=by
 unfold LQ;rw[SO d f (λi=>Lv l i)];rfl
theorem nZ(d:0<=n)(f:n<=1000):Mu n l=Y (AJ l n):=by
 unfold Mu;rw[SO d f (λi=>uX l i)];rfl
def EQ(r:d4):Fp:=AJ r.ed.az r.ci.bk.az.length
def IZ(r:d4):Fp:=AJ r.ed.bi r.ci.bk.bi.length
theorem m8(d:BW r.ci.bk):MN r=Y (EQ r,IZ r):=by
 have:=d.cE;have:=d.c9;unfold MN;rw[eQ U U,bs,eQ U U];rfl
theorem nU(d:BW r.ci.bk):K8 r=Y (EQ r,IZ r):=by
 have:=d.cE;have:=d.c9;unfold K8;rw[nZ U U,bs,nZ U U];rfl
def DG(t:AC)(g:bk)(i:Int):Bool:=Iu t (AA g.bi i).em (AA g.az (AA g.bi i).fb) (AA g.az (AA g.bi i).To)
def Sd(t:AC)(g:bk)(cE c9:Fp):Bool:=!(cE.any λi=>(AA t.az (AA g.az i)).pq)&&!(c9.any λi=>!DG t g i)
variable{t:AC}{g:bk}
theorem AAO(hf:Ao t)(q:BW g)(u:CW t g=X){cE c9:Fp}(w:∀x∈cE,0<=x/\x<g.az.length)(he:∀x∈c9,0<=x/\x<g.bi.length):Io t g cE c9=Y (Sd t g cE c9):=by
 have h:=Cw q u;unfold Io Sd;rw[Sv (p:=λi=>(AA t.az (AA g.az i)).pq) (λx f=>by
  have d:=w x f;have j:=h.1 _ (AG d.1 d.2);unfold Mz;rw[AD d.1 d.2,bs,AD j.1 j.2];rfl),bs,Sv (p:=λi=>!DG t g i) (λx f=>by
  have d:=he x f;have j:=q.fit _ (AG d.1 d.2);unfold IQ;rw[AD d.1 d.2,bs,AD U U,bs,AD U U,bs,eF hf];rfl)]
 grind
theorem AAV(hf:Ao t)(u:BW g)(w:CW t g=X){cE c9:Fp}(y:∀x∈cE,0<=x/\x<g.az.length)(he:∀x∈c9,0<=x/\x<g.bi.length):MI t g cE c9=Y (Sd t g cE c9):=by
 have j:=Cw u w;unfold MI Sd;rw[Gi,Gi,BO (λi=>(AA t.az (AA g.az (AA cE i))).pq) T]
 .rw[BO (λi=>!DG t g (AA c9 i)) T]
  .cases fq (λi=>(AA t.az (AA g.az (AA cE i))).pq) 0 cE.length
   .cases fq (λi=>!DG t g (AA c9 i)) 0 c9.length<;>rfl
   .rfl
  .intro i f h _;have d:=he _ (AG f h);have q:=u.fit _ (AG d.1 d.2);rw[AD f h,bs,AD d.1 d.2,bs,AD U U,bs,AD U U,bs,VT hf,bs,Iw];rfl
 .intro i f h _;have d:=y _ (AG f h);have q:=j.1 _ (AG d.1 d.2);rw[AD f h,bs,AD d.1 d.2,bs,AD q.1 q.2,bs,Iw]
end Go.Sf.Sc
namespace Go.Sf.Sc
open Go Go.Sf
structure cZ(p:c7):Prop where
 cE:p.bk.az.length<=45
 c9:p.bk.bi.length<=90
 slots:p.d5.length<=15
 tests:p.f0.length<=15
structure je(m:bn):Prop where
 cE:m.az.length<=140
 c9:m.bi.length<=140
inductive GB:ca->Prop where
 |mk (c:ca) (hq:cZ c.c7) (hm:je c.Map) (hk:∀k∈c.ew,GB k):GB c
variable{c:ca}
theorem GB.q(h:GB c):cZ c.c7:=k?
theorem GB.m(h:GB c):je c.Map:=k?
theorem GB.k(h:GB c):∀k∈c.ew,GB k:=k?
theorem Jv{c k:ca}(h:k∈c.ew):SizeOf.sizeOf k<SizeOf.sizeOf c:=by
 have:=List.sizeOf_lt_of_mem h;cases c
 grind
theorem Gd(c:ca):0<SizeOf.sizeOf c:=by
 cases c
 grind
def Qs(c:ca):Bool:=decide (c.Map.az.length=0/\c.Map.bi.length=0/\c.c7.bk.az.length=0/\c.c7.bk.bi.length=0/\c.c7.d5.length=0/\c.c7.f0.length=0/\c.c7.ei=0)
theorem wZ(hf:GB c):Fg c=Y (Qs c):=by
 have d:=hf.q;have f:=hf.m;have:=d.cE;have:=d.c9;have:=d.slots;have:=d.tests;have:=f.cE;have:=f.c9;unfold Fg Qs;rw[Ap (n:=(c.Map.az.length:Int)+c.Map.bi.length) U U,Ap (n:=(c.Map.az.length:Int)+c.Map.bi.length+c.c7.bk.az.length) U U,
  Ap (n:=(c.Map.az.length:Int)+c.Map.bi.length+c.c7.bk.az.length+c.c7.bk.bi.length) U U,
  Ap (n:=(c.Map.az.length:Int)+c.Map.bi.length+c.c7.bk.az.length+c.c7.bk.bi.length+c.c7.d5.length) U U,
  Ap (n:=(c.Map.az.length:Int)+c.Map.bi.length+c.c7.bk.az.length+c.c7.bk.bi.length+c.c7.d5.length+c.c7.f0.length) U U]
 congr 1
 grind
theorem qS(hf:GB c):Ik c=Y (Qs c):=by
 have d:=hf.q;have f:=hf.m;have:=d.cE;have:=d.c9;have:=d.slots;have:=d.tests;have:=f.cE;have:=f.c9;unfold Ik Qs;rw[Ap (n:=(c.Map.az.length:Int)+c.Map.bi.length) U U,Ap (n:=(c.Map.az.length:Int)+c.Map.bi.length+c.c7.bk.az.length) U U,
  Ap (n:=(c.Map.az.length:Int)+c.Map.bi.length+c.c7.bk.az.length+c.c7.bk.bi.length) U U,
  Ap (n:=(c.c7.d5.length:Int)+c.c7.f0.length) U U]
 congr 1
 grind
def R5(c:ca):Bool:=
 if c.fu=1 then decide (c.ew.length=0)&&Qs c else if c.fu=2 then decide (c.ew.length=1)&&Qs c else
 if c.fu=3\/c.fu=4 then decide (1<=c.ew.length)&&Qs c else if c.fu=5 then decide (c.ew.length=1)else T
def ST:Nat->ca->Bool
 |0,_=>T|n+1,c=>R5 c&&c.ew.all (ST n)
theorem wy:∀(N:Nat)(c:ca),SizeOf.sizeOf c<=N->GB c->∀n,2*N<=n->Bg n c=Y (ST N c)
 |0,c,h,_,_,_=>by have:=Gd c;omega|N+1,c,h,hf,n,C=>by
  obtain ⟨n,rfl⟩:∃m,n=m+2:=⟨n-2,U⟩;rw[Bg,ST,wZ hf];have f:CA c.ew (Bq (n+1))=Y (!c.ew.all (ST N)):=by
   rw [dG (p:=λk=>!ST N k) (λk f=>by
    have:=Jv f;rw[Bq,wy N k U (hf.k k f) n U];rfl),G?,Bool.not_not]
  rw [f];unfold R5;simp only[bs,o4];generalize Qs c=b;generalize c.ew.all (ST N)=w;have e0:decide ((c.ew.length:Int)=0)=decide (c.ew.length=0):=k_
  have A:decide ((c.ew.length:Int)=1)=decide (c.ew.length=1):=k_
  have B:decide (1<=(c.ew.length:Int))=decide (1<=c.ew.length):=k_
  simp only[show((c.ew.length:Int)=0)↔c.ew.length=0 by omega,show((c.ew.length:Int)=1)↔c.ew.length=1 by omega,show(1<=(c.ew.length:Int))↔1<=c.ew.length by omega];by_cases j:c.fu=1
  .rw[Ne j,Ne j];by_cases d:c.ew.length=0<;>cases b<;>cases w<;>simp[d]
  .rw[QQ j,QQ j];by_cases q:c.fu=2
   .rw[Ne q,Ne q];by_cases d:c.ew.length=1<;>cases b<;>cases w<;>simp[d]
   .rw[QQ q,QQ q];by_cases y:c.fu=3
    .simp[y,true_or];by_cases d:1<=c.ew.length<;>cases b<;>cases w<;>simp[d]
    .by_cases z:c.fu=4
     .simp[z,or_true,show¬(4:Int)=3 by decide];by_cases d:1<=c.ew.length<;>cases b<;>cases w<;>simp[d]
     .simp only[y,z,if_false,or_false];by_cases u:c.fu=5
      .rw[Ne u,Ne u];by_cases d:c.ew.length=1<;>cases w<;>simp[d]
      .rw[QQ u,QQ u];cases w<;>rfl
theorem xD(hf:GB c):NU c=Y (R5 c):=by
 unfold NU R5;rw[qS hf];simp[o4];generalize Qs c=b;simp[show((c.ew.length:Int)=0)↔c.ew.length=0 by omega,show((c.ew.length:Int)=1)↔c.ew.length=1 by omega,show(0<(c.ew.length:Int))↔1<=c.ew.length by omega]
 grind
theorem vl{α:Type}[Inhabited α]{l:List α}{p:α->Bool}:l.all p=!fq (λi=>!p (AA l i)) 0 l.length:=by
 rw [G?,Gi]
theorem sV:∀(N:Nat)(c:ca),SizeOf.sizeOf c<=N->GB c->∀n,N<=n->FD n c=Y (ST N c)
 |0,c,h,_,_,_=>by have:=Gd c;omega|N+1,c,h,hf,n,q=>by
  obtain ⟨n,rfl⟩:∃m,n=m+1:=⟨n-1,U⟩;rw[FD,ST,xD hf,bs,vl,BO (λi=>!ST N (AA c.ew i)) T]
  .cases R5 c
   .rfl
   .cases fq (λi=>!ST N (AA c.ew i)) 0 c.ew.length<;>rfl
  .intro i d f _;have j:=AG (l:=c.ew) d f;have:=Jv j;rw[AD d f,bs,sV N _ U (hf.k _ j) n U,bs,Iw]
noncomputable def fi(c:ca):Bool:=ST (SizeOf.sizeOf c) c
theorem AAR(hf:GB c):H0 c=Y (fi c):=Gp (2*SizeOf.sizeOf c) λn d=>wy _ c (R0 _) hf n d
theorem AAY(hf:GB c):Pe c=Y (fi c):=Gp (SizeOf.sizeOf c) λn d=>sV _ c (R0 _) hf n d
def Oh:Nat->ca->Int×Int
 |0,_=>(0,0)|n+1,c=>
  let s:=c.ew.foldl (λs k=>(AZ (s.1+(Oh n k).1),max s.2 (Oh n k).2)) ((1,0):Int×Int)
  (s.1,if c.fu=5 then AZ (s.2+1)else s.2)
theorem a8{α σ:Type}[Inhabited α]{l:List α}{g:σ->α->σ}{s:σ}{f:Int->σ->Option σ}(h:∀(i:Int)s,0<=i->i<l.length->f i s=Y (g s (AA l i))):gp f 0 l.length s=Y (l.foldl g s):=by
 rw [BQ (λi=>(l.take i.toNat).foldl g s) U V]
 .rw[x?,E_]
 grind [CU]
theorem nG:∀(N:Nat)(c:ca),SizeOf.sizeOf c<=N->∀n,N<=n->Cl n c=Y (Oh N c)
 |0,c,h,_,_=>by have:=Gd c;omega|N+1,c,h,n,j=>by
  obtain ⟨n,rfl⟩:∃m,n=m+1:=⟨n-1,U⟩;rw[Cl,Oh,a8 (g:=λs k=>(AZ (s.1+(Oh N k).1),max s.2 (Oh N k).2))]
  .grind
  .intro i s d f;have:=Jv (AG (l:=c.ew) d f);rw[AD d f,bs,nG N _ U n U];rfl
theorem nX:∀(N:Nat)(c:ca),SizeOf.sizeOf c<=N->∀n,N<=n->Ft n c=Y (Oh N c)
 |0,c,h,_,_=>by have:=Gd c;omega|N+1,c,h,n,j=>by
  obtain ⟨n,rfl⟩:∃m,n=m+1:=⟨n-1,U⟩;rw[Ft,Oh,a8 (g:=λs k=>(AZ (s.1+(Oh N k).1),max s.2 (Oh N k).2))]
  .grind
  .intro i s d f;have:=Jv (AG (l:=c.ew) d f);rw[AD d f,bs,nX N _ U n U];rfl
noncomputable def cI(c:ca):Int×Int:=Oh (SizeOf.sizeOf c) c
noncomputable def O4(c:ca):Int:=if fi c=T then 1 else if 12<(cI c).1\/3<(cI c).2 then 3 else 0
theorem uI(hf:GB c):GJ c=Y (O4 c):=by
 unfold GJ O4;rw[AAR hf,bs,show J0 c=Y (cI c)from Gp (SizeOf.sizeOf c) λn d=>nG _ c (R0 _) n d,bs]
 grind
theorem uc(hf:GB c):NQ c=Y (O4 c):=by
 unfold NQ O4;rw[AAY hf,bs,show Qk c=Y (cI c)from Gp (SizeOf.sizeOf c) λn d=>nX _ c (R0 _) n d,bs]
 grind
theorem Yp(g:bk):B5 g≠9:=by grind[B5]
variable{t:AC}{p:c7}
theorem eX(d:(A0 t).2=0)(h:H7 t p=0\/H7 t p=9):0<=p.ei/\p.ei<=12:=by grind[Yp,H7]
def U7(t:AC)(q:c7)(v:Int):Int:=if H7 t q≠9 then H7 t q else if fq (λi=>!L7 q i) v q.ei=X then 9 else 0
variable{P:Prop}
theorem chQ{α:Type}[Decidable P]{v:α}{ζ:Option α}{δ:α}(h:P->ζ=Y δ):(if(!decide P)=X then Y v else ζ)=Y (if¬P then v else δ):=o!
theorem AAN(hf:Ao t)(f:(A0 t).2=0){q:c7}{v:Int}(w:0<=v)(h:v<=q.ei):E1 t q v=Y (U7 t q v):=by
 unfold E1 U7;rw[ZB hf,bs];refine chQ λd=>?_;have hv:=eX f (.inr d);rw[TM (c:=λi=>(if(!L7 q i)=X then Y ()else W).map λ_=>.inr 9) (a:=v) (b:=q.ei) h]
 .rw[Q8,OA];cases fq (λi=>!L7 q i) v q.ei<;>rfl
 .intro i z u _;rw[Ne e_,show(λj=>It j i)=(λy=>Y (decide (y.ez.Var=i)))from rfl,hU,bs,show(q.d5.any λy=>decide (y.ez.Var=i))=L7 q i from rfl,d,Ap U U];cases L7 q i<;>rfl
 .rw[QQ V]
theorem ua(p:c7)(v:Int):Ox p v=Y (L7 p v):=sX p v
theorem AAU(hf:Ao t)(q:c7)(v:Int):NS t v q=Y (if q.ei<v then 20 else U7 t q v):=by
 unfold NS U7;refine QB V λ_=>?_;rw[cU hf,bs];refine chQ λd=>?_;rw[d,BO (λi=>!L7 q i) 9]
 .cases fq (λi=>!L7 q i) v q.ei<;>rfl
 .intro i f h _;rw[ua,bs,Iw]
def Lj:Nat->AC->c7->ca->Int
 |0,_,_,_=>0|N+1,t,p,c=>
  if c.fu=5 then
   if c.c7.ei<p.ei then 20 else if U7 t c.c7 p.ei≠0 then U7 t c.c7 p.ei else
   if Hm p.bk c.c7.bk c.Map≠0 then Hm p.bk c.c7.bk c.Map else if Gz c.Map=T then 1 else
   (fst (λi=>nz (Lj N t c.c7 (AA c.ew i))) 0 c.ew.length).getD 0
  else (fst (λi=>nz (Lj N t p (AA c.ew i))) 0 c.ew.length).getD 0
theorem nI(hf:Ao t)(u:(A0 t).2=0):∀(N:Nat)(c:ca)(p:c7),0<=p.ei->SizeOf.sizeOf c<=N->∀n,N<=n->CN n t p c=Y (Lj N t p c)
 |0,c,p,_,h,_,_=>by have:=Gd c;omega|N+1,c,p,E,h,n,F=>by
  obtain ⟨n,rfl⟩:∃m,n=m+1:=⟨n-1,U⟩;rw[CN,Lj];have j:∀q:c7,0<=q.ei->(eb (eE (ρ:=Int) (λ(A:Int)(_:Unit)=>
    (idx c.ew A).bind λf=>
    (CN n t q f).bind λd=>
    if (!decide (d=0))=X then
    Y (.ret d)
    else
    Y (.next ())) 0 (c.ew.length:Int) ()) (λ_=>
    Y 0) (λB=>Y B))=Y ((fst (λi=>nz (Lj N t q (AA c.ew i))) 0 c.ew.length).getD 0):=by
   intro q D;rw[Ba (λi=>nz (Lj N t q (AA c.ew i))),Cj];intro i w y _;have:=Jv (AG (l:=c.ew) w y);rw[AD w y,bs,nI hf u N _ q D U n U,bs,L6]
  by_cases z:c.fu=5
  .rw[Ne n!,Ne z];refine QB V λhv=>?_;rw[AAN hf u E U,bs];refine Dy λhi=>?_;rw[Wv,bs];refine Dy λC=>?_;rw[kZ C,bs]
   grind
  grind
theorem nY(hf:Ao t):∀(N:Nat)(c:ca)(p:c7),SizeOf.sizeOf c<=N->∀n,N<=n->F8 n t p c=Y (Lj N t p c)
 |0,c,p,h,_,_=>by have:=Gd c;omega|N+1,c,p,h,n,C=>by
  obtain ⟨n,rfl⟩:∃m,n=m+1:=⟨n-1,U⟩;rw[F8,Lj];have d:∀q:c7,(eb (eE (ρ:=Int) (λ(z:Int)(_:Unit)=>
    (idx c.ew z).bind λu=>
    (F8 n t q u).bind λf=>
    if (!decide (f=0))=X then
    Y (.ret f)
    else
    Y (.next ())) 0 (c.ew.length:Int) ()) (λ_=>
    Y 0) (λA=>Y A))=Y ((fst (λi=>nz (Lj N t q (AA c.ew i))) 0 c.ew.length).getD 0):=by
   intro q;rw[Ba (λi=>nz (Lj N t q (AA c.ew i))),Cj];intro i w y _;have:=Jv (AG (l:=c.ew) w y);rw[AD w y,bs,nY hf N _ q U n U,bs,L6]
  by_cases j:c.fu=5
  .rw[Ne h_,Ne j,AAU hf,bs];by_cases hv:c.c7.ei<p.ei
   .simp[hv]
   .simp only[QQ hv];refine Dy λhi=>?_;rw[cT,bs];refine Dy λB=>?_;rw[AAT B,bs];exact Us λ_=>d _
  .rw[QQ h_,QQ j];exact d p
noncomputable def Ni(t:AC)(p:c7)(c:ca):Int:=if H7 t p≠0 then H7 t p else if O4 c≠0 then O4 c else Lj (SizeOf.sizeOf c) t p c
theorem m7(hf:Ao t)(d:(A0 t).2=0)(p:c7)(f:GB c):Dj t p c=Y (Ni t p c):=by
 unfold Dj Ni;rw[ZB hf,bs];refine Dy λh=>?_;rw[uI f,bs,x_];exact Dy λ_=>Gp (SizeOf.sizeOf c) λn j=>nI hf d _ c p (eX d (.inl h)).1 (R0 _) n j
theorem w7(hf:Ao t)(p:c7)(d:GB c):NR t p c=Y (Ni t p c):=by
 unfold NR Ni;rw[cU hf,bs];refine Dy λh=>?_;rw[uc d,bs,x_];exact Dy λ_=>Gp (SizeOf.sizeOf c) λn f=>nY hf _ c p (R0 _) n f
end Go.Sf.Sc
namespace Go.Sf.Sc
open Go Go.Sf
structure DN(r:d4):Prop where
 name:(r.gi.size:Int)<=60
 left:cZ r.ea
 right:cZ r.ci
 ek:SU r.kx
 into:je r.ed
 cond:GB r.ca
noncomputable def FE(t:AC)(r:d4):Int:=
 if (A0 t).2≠0 then(A0 t).2 else if Fm r.gi=T then 2 else if H7 t r.ea≠0 then H7 t r.ea else
 if K9 t r≠0 then K9 t r else if SA r≠0 then SA r else if Sd t r.ci.bk (EQ r) (IZ r)=T then 13 else Ni t r.ea r.ca
variable{t:AC}{r:d4}
theorem YA(h:K9 t r=0):BW r.ci.bk/\CW t r.ci.bk=X:=by grind[K9,Dt]
theorem nJ(hf:Ao t)(d:DN r):JZ t r=Y (FE t r):=by
 have u:=d.name;unfold JZ FE;rw[Pb hf,bs];refine Dy λj=>?_;rw[RY U,bs];refine Us λ_=>?_;rw[ZB hf,bs];refine Dy λ_=>?_;rw[uH hf,bs];refine Dy λf=>?_;have ho:=YA f;rw[wl d.ek,bs];refine Dy λq=>?_;rw[m8 ho.1,bs];dsimp only;rw[AAO (cE:=EQ r) (c9:=IZ r) hf ho.1 ho.2 (λx h=>CP h) (λx h=>CP h),bs];refine Us λ_=>?_;rw[m7 hf j _ d.cond,bs]
theorem fB(hf:Ao t)(d:DN r):LM t r=Y (FE t r):=by
 have w:=d.name;unfold LM FE;rw[RE hf,bs];refine Dy λu=>?_;rw[Rb U,bs];refine Us λ_=>?_;rw[cU hf,bs];refine Dy λ_=>?_;rw[ub hf,bs];refine Dy λf=>?_;have ho:=YA f;rw[xK d.ek,bs,cR,bs];simp only[cR,bs];have e:(if(!KE r.ed.az)=X then Y X else Y (!KE r.ed.bi))=Y (!Gz r.ed):=by
  grind [Gz,KE]
 rw [e,bs];have q:SA r=if W5 r≠0 then W5 r else if Gz r.ed=T then 11 else 0:=by
  grind [SA,W5,D5]
 rw [q];by_cases j:W5 r=0
 .simp only[j,ne_eq,not_true_eq_false,if_false,decide_true,B?,A_];cases hi:Gz r.ed
  .simp
  .simp only[B?,A_,if_false,not_true_eq_false,C!];rw[nU ho.1,bs];dsimp only;rw[AAV (cE:=EQ r) (c9:=IZ r) hf ho.1 ho.2 (λx h=>CP h) (λx h=>CP h),bs];refine Us λ_=>?_;rw[w7 hf _ d.cond,bs]
 .simp[j]
def Ln(n:Int):Bool:=(decide (1<=n))&&(decide (n<=3))
def Nb(t:AC)(s:Ak)(i:Int):K1:=
 if Ln (AA s.az i)=T then Y 6 else if 0<=par t i/\AA s.az (par t i)≠AA s.az i then Y 13 else W
def Rh(t:AC)(s:Ak)(i:Int):Int:=
 if Ln (AA s.bi i)=T then 6 else
 if ((!decide (AA s.az (AA t.bi i).fb=AA s.bi i))||((decide (AA s.az (AA t.bi i).To=AA s.bi i))==(decide (AA s.bi i=2))))=X then 13 else 0
def Gq(t:AC)(s:Ak):Int:=
 if (A0 t).2≠0 then(A0 t).2 else if s.az.length≠t.az.length\/s.bi.length≠t.bi.length then 20 else
 match fst (Nb t s) 0 t.az.length with
 |some e=>e|none=>(fst (λi=>nz (Rh t s i)) 0 t.bi.length).getD 0
structure ZZ(t:AC)(s:Ak):Prop where
 types:Eh t
 tc:s.az.length=t.az.length
 wi:s.bi.length=t.bi.length
theorem Pj{s:Ak}(h:Gq t s=0):(A0 t).2=0/\ZZ t s:=by
 unfold Gq at h;split at h
 .omega
 .split at h
  .cases h
  .exact⟨U,Ck U,U,U⟩
variable{o:I1}
theorem gu{x:Prop}[Decidable x]{b:Bool}(h:x->o=Y b):(if decide x=X then o else Y T)=Y (decide x&&b):=o!
theorem Zx(hf:Ao t)(s:Ak):Ha t s=Y (Gq t s):=by
 unfold Ha Gq;rw[Pb hf,bs];refine Dy λj=>QB j? λq=>?_;have ho:=Ck j;rw[show(s.az.length:Int)=t.az.length by omega,show(s.bi.length:Int)=t.bi.length by omega,Ba (Nb t s),EA]
 .cases fst (Nb t s) 0 t.az.length with
  |some e=>rfl|none=>
   dsimp only;rw[Ba (λi=>nz (Rh t s i)),Cj];intro i d f _;have he:=ho.ends d f;have e:Nc t s i=Y (Rh t s i):=by
    unfold Nc Rh;rw[AD d U,bs,show OQ (AA s.bi i)=Y (Ln (AA s.bi i))from rfl,bs];refine Us λ_=>?_;rw[AD d f,bs,AD U U,bs,bs,AD U U,bs];exact aH λ_=>rfl
   rw [e,bs,L6]
 .intro i d f _;have u:=ho.par i d f;unfold Nb;rw[AD d U,bs,show OQ (AA s.az i)=Y (Ln (AA s.az i))from rfl,bs,AD d f,bs];cases Ln (AA s.az i)
  .rfl
  .simp only[B?,A_,if_false,C!];rw[show(AA t.az i).kg=par t i from rfl,gu (b:=!decide (AA s.az (par t i)=AA s.az i)) (λh=>by rw[AD h U];rfl),bs];by_cases h:0<=par t i/\AA s.az (par t i)≠AA s.az i
   .rw[Ne c!,Ne h];rfl
   .rw[QQ c!,QQ h];rfl
theorem jE(hf:Ao t)(s:Ak):LN t s=Y (Gq t s):=by
 unfold LN Gq;rw[RE hf,bs];refine Dy λw=>QB j? λA=>?_;have ho:=Ck w;rw[Ba (Nb t s),EA]
 .cases fst (Nb t s) 0 t.az.length with
  |some e=>rfl|none=>
   dsimp only;rw[Ba (λi=>nz (Rh t s i)),Cj];intro i d f _;have he:=ho.ends d f;unfold Rh;rw[AD (l:=s.bi) d U];simp only[bs,show Mx (AA s.bi i)=Y (Ln (AA s.bi i))from rfl];cases Ln (AA s.bi i)
   .rfl
   .rw[QQ a_,QQ a_,AD d f];simp only[bs];rw[AD (l:=s.az) (i:=(AA t.bi i).fb) U U,bs,AD (l:=s.az) (i:=(AA t.bi i).To) U U,bs];generalize AA s.az (AA t.bi i).fb=x;generalize AA s.az (AA t.bi i).To=y;generalize AA s.bi i=z;by_cases j:x=z
    .by_cases u:z=2
     .by_cases q:y=z
      .simp[j,u,q,nz,Nw]
      .have:¬y=2:=λh=>q U;simp[j,u,this,nz,Nw]
     .by_cases q:y=z
      .simp[j,u,q,nz,Nw]
      .simp[j,u,q,nz,Nw]
    .simp[j,nz,Nw]
 .intro i d f _;have B:=ho.par i d f;unfold Nb;rw[AD (l:=s.az) d U,bs,show Mx (AA s.az i)=Y (Ln (AA s.az i))from rfl,bs,AD d f,bs];cases Ln (AA s.az i)
  .rfl
  .simp only[B?,A_,if_false,C!];rw[show(AA t.az i).kg=par t i from rfl,gu (b:=!decide (AA s.az (par t i)=AA s.az i)) (λh=>by rw[AD h U,bs,bs]),bs];by_cases h:0<=par t i/\AA s.az (par t i)≠AA s.az i
   .rw[Ne c!,Ne h];rfl
   .rw[QQ c!,QQ h];rfl
variable{l:Fp}
theorem SF(z:l.length<=1000):∃m,IT l=Y m:=by
 unfold IT slices_Clone_int;rw[BL b_,bs];obtain⟨m,y,B⟩:=PU (f:=(λ(d:Int)(h:Fp)=>
 (idx h d).bind λj=>
 (idx h d).bind λq=>
 Y (BB h d (AZ (4-j))))) (λ_ s=>s.length=l.length) (a:=0) (b:=l.length) (s:=l) U rfl (λi s u A w=>by
  refine ⟨_,by rw[AD u U,bs,bs],?_⟩;simp[BB,w])
 rw [y];exact⟨m,rfl⟩
theorem qB(hf:Ao t)(s:Ak):Fd t s=Y (Gq t s):=by
 unfold Fd HI;rw[Zx hf,bs];by_cases h:Gq t s=0
 .have ho:=(Pj h).2;have:=ho.tc;have:=ho.wi;have:=ho.types.cE;have:=ho.types.c9;obtain⟨m,d⟩:=SF (l:=s.az) U;obtain⟨k,f⟩:=SF (l:=s.bi) U;rw[QQ c!,d,bs,f,h];rfl
 .rw[Ne c!];rfl
def Pq(r:d4):Bool:=decide (r.ea.d5.length=0/\r.ea.f0.length=0/\r.ci.d5.length=0/\r.ea.ei=0)&&r.fd&&decide (r.ca.fu=1)&&decide (r.kx.az.length=r.ea.bk.az.length/\r.kx.bi.length=r.ea.bk.bi.length)
def x5(t:AC)(l:Fp):Bool:=!(l.any λk=>t.az.any λn=>decide (n.kg=k))
def Yh(t:AC)(g:bk):Bool:=!fq (λi=>!DG t g i) 0 g.bi.length
noncomputable def B8(t:AC)(s:Ak)(r:d4):Int:=
 if Gq t s≠0 then Gq t s else if FE t r≠0 then FE t r else if Pq r=T then 8 else
 if (x5 t r.ea.bk.az&&x5 t r.ci.bk.az&&Yh t r.ea.bk)=X then 0 else 13
structure So(t:AC)(r:d4):Prop where
 left:BW r.ea.bk
 ltyped:CW t r.ea.bk=X
 right:BW r.ci.bk
 Aam:CW t r.ci.bk=X
 rtests:r.ci.f0.length=0
 part:ce r.ea.bk r.kx
 mor:cD (Gf r.ea.bk r.kx) r.ci.bk r.ed
 inj:r.ed.az.Nodup/\r.ed.bi.Nodup
variable{p:c7}
theorem wz(h:H7 t p=0):BW p.bk/\CW t p.bk=X:=by grind[H7,Dt]
theorem RF(h:FE t r=0):(A0 t).2=0/\So t r:=by
 unfold FE at h;split at h
 .omega
 split at h
 .cases h
 split at h
 .omega
 split at h
 .omega
 split at h
 .omega
 rename_i q u w y z;have d:=wz (t:=t) (p:=r.ea) U;have f:=YA (t:=t) (r:=r) U;have j:=tf (r:=r) U;have hi:KE r.ed.az=X/\KE r.ed.bi=X:=by
  grind [Gz]
 refine ⟨U,d.1,d.2,f.1,f.2,?_,?_,SC j.2.1,Gy.1 hi.1,Gy.1 hi.2⟩
 .grind[K9]
 grind [D5,VO]
theorem gv{n:Nat}(h:∀x∈l,0<=x/\x<n)(f:l.Pairwise (·<·)):l.length<=n:=by
 have key:∀i:Int,0<=i->i<l.length->i<=AA l i:=by
  intro i d j;obtain⟨k,rfl⟩:=Int.eq_ofNat_of_zero_le d;clear d
  induction k with
  |zero=>exact(h _ (AG U U)).1|succ k q=>
   grind [LG]
 by_cases d:l.length=0
 .omega
 .have a:=key ((l.length:Int)-1) U U
  grind [AG]
theorem p6{a b:Fp}(w:a.length<=1000)(y:b.length<=1000):Hw [a,b]=Y (a++b):=by
 have q:AZ (0+(a.length:Int))=a.length:=d?
 have u:AZ ((a.length:Int)+(b.length:Int))=a.length+b.length:=Ap U U;have d:idx [a,b] 0=Y a:=rfl;have f:idx [a,b] 1=Y b:=rfl;unfold Hw;rw[show(([a,b]:List Fp).length:Int)=2 from rfl];rw[BQ (a:=0) (b:=2) (s:=(0:Int)) (λi=>if i=0 then 0 else if i=1 then(a.length:Int)else a.length+b.length) a_ rfl]
 .rw[bs,QQ a_,QQ a_];unfold Jb;rw[Ne ⟨rfl,U,b_⟩,bs];rw[BQ (a:=0) (b:=2) (s:=([]:Fp)) (λi=>if i=0 then[]else if i=1 then a else a++b) a_ rfl]
  .rfl
  .intro i h j;have:i=0\/i=1:=U
   rcases this with rfl|rfl
   .rw[d,bs,Ne rfl,QQ a_,Ne a_,BL b_];rfl
   .rw[f,bs,QQ a_,Ne rfl,QQ a_,QQ a_,AS b_];rfl
 .intro i h j;have:i=0\/i=1:=U
  rcases this with rfl|rfl
  .rw[d,bs,Ne rfl,q,QQ V];rfl
  .rw[f,bs];show(if decide (AZ ((a.length:Int)+b.length)<0)=X then W else Y (AZ ((a.length:Int)+b.length)))=Y ((a.length:Int)+b.length);rw[u,QQ an]
theorem ww(hf:Ao t){s:Ak}(d:DN r):Fc t s r=Y (B8 t s r):=by
 unfold Fc B8;rw[qB hf,bs];refine Dy λw=>?_;rw[nJ hf d,bs];refine Dy λf=>?_;have ho:=(RF f).2;have u:=(RF f).1;have l1:=d.left.slots;have l2:=d.left.tests;have z:=d.right.slots;have A:=d.right.tests;have B:=gv ho.part.cE.1 ho.part.cE.2;have C:=gv ho.part.c9.1 ho.part.c9.2;have D:=ho.rtests;rw[Ap (n:=(r.ea.d5.length:Int)+r.ea.f0.length) U U,Ap (n:=(r.ea.d5.length:Int)+r.ea.f0.length+r.ci.d5.length) U U,Ap (n:=(r.ea.d5.length:Int)+r.ea.f0.length+r.ci.d5.length+r.ci.f0.length) U U];refine QB ?_ λy=>?_
 .unfold Pq;cases r.fd
  .simp
  .simp only[B?,C?,Bool.and_true,A',gR,A!,o4,decide_eq_false_iff_not,B'];omega
 rw [p6 (by have:=ho.left.cE;omega) (by have:=ho.right.cE;omega),bs,BO (λi=>t.az.any λn=>decide (n.kg=AA (r.ea.bk.az++r.ci.bk.az) i)) 13]
 .rw[<-Gi (l:=r.ea.bk.az++r.ci.bk.az) (p:=λk=>t.az.any λn=>decide (n.kg=k)),List.any_append,BO (λi=>!DG t r.ea.bk i) 13]
  .unfold x5 Yh;cases(r.ea.bk.az.any λk=>t.az.any λn=>decide (n.kg=k))<;>cases(r.ci.bk.az.any λk=>t.az.any λn=>decide (n.kg=k))<;>cases fq (λi=>!DG t r.ea.bk i) 0 r.ea.bk.bi.length<;>rfl
  .intro i h j _;have E:=ho.left.fit _ (AG h j);rw[AD h j,bs,AD U U,bs,AD U U,bs,eF hf,bs,Iw];rfl
 .intro i h j _;rw[AD h j,bs,show(λq=>Je q (AA (r.ea.bk.az++r.ci.bk.az) i))=(λn=>Y (decide (n.kg=AA (r.ea.bk.az++r.ci.bk.az) i)))from rfl,XI,bs,Iw]
theorem ex(t:AC)(g:bk):KQ t g=Y (x5 t g.az):=by
 unfold KQ x5;rw[Gi,BO (λi=>t.az.any λn=>decide (n.kg=AA g.az i)) T]
 .cases fq (λi=>t.az.any λn=>decide (n.kg=AA g.az i)) 0 g.az.length<;>rfl
 .intro i d f _;rw[Gi,BO (λj=>decide ((AA t.az j).kg=AA g.az i)) T]
  .cases fq (λj=>decide ((AA t.az j).kg=AA g.az i)) 0 t.az.length<;>rfl
  .intro j h q _;rw[AD h q,bs,AD d f,bs,Iw]
variable{g:bk}
theorem uU(hf:Ao t)(h:BW g):O0 t g=Y (Yh t g):=by
 unfold O0 Yh;rw[BO (λi=>!DG t g i) T]
 .cases fq (λi=>!DG t g i) 0 g.bi.length<;>rfl
 .intro i d f _;have j:=h.fit _ (AG d f);rw[AD d f,bs,AD U U,bs,AD U U,bs,VT hf,bs,Iw];rfl
theorem xM(hf:Ao t){s:Ak}(d:DN r):NX t s r=Y (B8 t s r):=by
 unfold NX B8;rw[jE hf,bs];refine Dy λh=>?_;rw[fB hf d,bs];refine Dy λf=>?_;have ho:=(RF f).2;have l1:=d.left.slots;have l2:=d.left.tests;have j:=d.right.slots;have e:KP r=Y (Pq r):=by
  unfold KP Pq;rw[Ap (n:=(r.ea.d5.length:Int)+r.ci.d5.length) U U,Ap (n:=(r.ea.d5.length:Int)+r.ci.d5.length+r.ea.f0.length) U U];congr 1;cases r.fd
  .simp
  .rw[z!];simp only[gR,o4,and_true];omega
 rw [e,bs];refine Us λ_=>?_;rw[ex,bs,ex,uU hf ho.left];simp only[bs];cases x5 t r.ea.bk.az<;>cases x5 t r.ci.bk.az<;>cases Yh t r.ea.bk<;>rfl
end Go.Sf.Sc
namespace Go.Sf
variable{a b:Int}
theorem W7{ρ:Type}{f:Int->Option (B3 Int ρ)}(p:Int->Bool)(v:ρ)(d:a<=b)(h:∀i,a<=i->i<b->f i=Y (if p i=X then .ret v else .next (i+1)))(j:f b=Y (.brk b)):Fx f a=Y (if fq p a b=X then .inr v else .inl b):=by
 rw [TM (c:=λi=>(if p i=X then Y ()else W).map λ_=>.inr v) d]
 .grind[Q8,OA,fq]
 .intro i q u _;rw[h i q u];cases p i<;>rfl
 .exact j
theorem OC{α:Type}{e:α->TV}{n:Nat}{l:List α}(h:TV.Sm (.list n (l.map e))):(l.length:Int)<=140737488351232/\∀x∈l,(e x).Sm:=by
 simp [TV.Sm]at h;refine⟨by have:=h.1;unfold reachBytes at this;omega,λx d=>LR.1 h.2 _ (F_.2 ⟨x,d,rfl⟩)⟩
end Go.Sf
namespace Go.Sf.Sc
open Go Go.Sf
def dB(a:ff):Bool:=(decide (40<(a.gi.size:Int))||decide (25<(a.l3.length:Int)))||fq (λi=>decide (40<((AA a.l3 i).size:Int))) 0 a.l3.length
theorem oo{a:ff}(h:dB a=T):XZ a:=by
 unfold dB at h;simp[decide_eq_false_iff_not,BV]at h;refine⟨U,U,λx d=>?_⟩
 grind [Ay]
variable{t:AC}
theorem mH(κ:(AN t).Sm):∃b,QR t=Y b/\(b=X->Ao t):=by
 have M:TV.Sms [_,_]:=κ;obtain⟨y,Q⟩:=OC (e:=D9) M.1;unfold QR;by_cases hl:20<t.az.length\/30<t.bi.length
 .rw[Ne an]
  grind
 rw [QQ an];rcases Xl (f:=(λ(C:Int)(θ:Int)=>
 (idx t.az C).bind λA=>
 (if(decide (30<(AZ (θ+(A.iN.length:Int)))))=X then Y X else((idx t.az C).bind λG=>
 Y (decide (40<(G.gi.size:Int))))).bind λH=>
 if H=X then
 Y (B3.ret T)
 else
 eb (Fx (ρ:=Bool) (λ(s2:Int)=>
 (idx t.az C).bind λI=>
 if (decide (s2<(I.iN.length:Int)))=X then
 (idx t.az C).bind λJ=>
 (idx J.iN s2).bind λu=>
 if ((decide (40<(u.gi.size:Int)))||(decide (25<(u.l3.length:Int))))=X then
 Y (.ret T)
 else
 eb (Fx (ρ:=Bool) (λ(z:Int)=>
 if (decide (z<(u.l3.length:Int)))=X then
 (idx u.l3 z).bind λK=>
 if (decide (40<(K.size:Int)))=X then
 Y (.ret T)
 else
 Y (.next (AZ (z+1)))
 else
 Y (.brk z)) 0) (λz=>
 Y (.next (AZ (s2+1)))) (λη=>Y (.ret η))
 else
 Y (.brk s2)) 0) (λs2=>
 Y (.next (AZ (θ+(A.iN.length:Int))))) (λZ=>Y (.ret Z))))
  (λi s=>0<=s/\s<=30/\∀j,0<=j->j<i->((AA t.az j).gi.size:Int)<=40/\(AA t.az j).iN.length<=30/\∀a∈(AA t.az j).iN,XZ a) (λ_=>False) (λr=>r=T) (a:=0) (b:=t.az.length) (s:=0) U ⟨U,U,λj B d=>U⟩ (λi s D E hI=>by
   have hx:=Q _ (AG (l:=t.az) D E);have N:TV.Sms [_,_,_,_]:=hx;obtain⟨ha,S⟩:=OC (e:=JL) N.2.2.2.1;obtain⟨hI1,hI2,hI3⟩:=hI;have hw:AZ (s+(AA t.az i).iN.length)=s+(AA t.az i).iN.length:=Ap U U;simp only[AD D E,bs,hw,VM];by_cases hc:30<s+(AA t.az i).iN.length\/40<((AA t.az i).gi.size:Int)
   .grind
   rw [QQ (by simpa using hc)];rw[W7 (λj=>dB (AA (AA t.az i).iN j)) T (b:=(AA t.az i).iN.length) U]
   .cases ε:fq (λj=>dB (AA (AA t.az i).iN j)) 0 (AA t.az i).iN.length
    .refine .inl ⟨_,rfl,U,U,λj L F=>?_⟩
     grind [Ay,oo,BV]
    .exact .inr (.inr ⟨_,rfl,rfl⟩)
   .intro j L F;rw[Ne (by simpa using F),AD L F,bs];have hy:=S _ (AG (l:=(AA t.az i).iN) L F);have O:TV.Sms [_,_,_,_]:=hy;obtain⟨hm,_⟩:=OC (e:=eS) O.2.2.2.1;unfold dB;cases B:(decide (40<((AA (AA t.az i).iN j).gi.size:Int))||decide (25<((AA (AA t.az i).iN j).l3.length:Int)))
    .rw[QQ a_,W7 (λk=>decide (40<((AA (AA (AA t.az i).iN j).l3 k).size:Int))) T (b:=(AA (AA t.az i).iN j).l3.length) U]
     .cases fq (λk=>decide (40<((AA (AA (AA t.az i).iN j).l3 k).size:Int))) 0 (AA (AA t.az i).iN j).l3.length
      .rw[C?,Ap (show -9223372036854775808<=j+1 by omega) U];rfl
      .rfl
     .intro k w q;rw[Ne l?,AD w q,bs,Ap (show -9223372036854775808<=k+1 by omega) U,Iw]
     .rw[QQ V]
    .rfl
   .rw[QQ V])with⟨s',B,d⟩|⟨r,B,d⟩
 .rw[B];rcases d with d|d
  .rw[CB,BO (λi=>decide (40<((AA t.bi i).gi.size:Int))) T]
   .cases ε:fq (λi=>decide (40<((AA t.bi i).gi.size:Int))) 0 t.bi.length
    .refine⟨X,rfl,λ_=>⟨U,U,λn y=>?_,λn y=>?_,λn y=>?_,λe he=>?_⟩⟩
     .obtain⟨k,w,q,rfl⟩:=Ay y;exact(d.2.2 k w q).1
     .obtain⟨k,w,q,rfl⟩:=Ay y;exact(d.2.2 k w q).2.1
     .obtain⟨k,w,q,rfl⟩:=Ay y;exact(d.2.2 k w q).2.2
     .obtain⟨k,w,q,rfl⟩:=Ay he;have:=BV.1 ε k w q;simpa using this
    .exact⟨T,rfl,λh=>d_⟩
   .intro i D E _;rw[AD D E,bs,Iw]
  .exact d.elim
 .rw[B];subst d;exact⟨T,rfl,λh=>d_⟩
theorem Zk(p:c7):∃b,OJ p=Y b/\(b=X->cZ p):=by
 refine ⟨_,rfl,λh=>?_⟩;simp[o4]at h;exact⟨U,U,U,U⟩
variable{a b:Int}
theorem iK(h:0<=a)(d:a<=140737488351232)(j:0<=b)(f:b<=140737488351232):AZ (a+b)=a+b:=Ap U U
variable{m:bn}
theorem iJ(f:(A4 m).Sm):∃b,QT m 140=Y b/\(b=X->je m):=by
 have d:TV.Sms [_,_]:=f;have j:=(OC (e:=eI) d.1).1;have q:=(OC (e:=eI) d.2.1).1;refine⟨_,rfl,λh=>?_⟩;rw[iK U j U q]at h;simp[o4]at h;exact⟨U,U⟩
theorem pF{m:BN}(f:(G7 m).Sm):∃b,SJ m 140=Y b/\(b=X->SU m):=by
 have d:TV.Sms [_,_]:=f;have j:=(OC (e:=eI) d.1).1;have q:=(OC (e:=eI) d.2.1).1;refine⟨_,rfl,λh=>?_⟩;rw[iK U j U q]at h;simp[o4]at h;exact⟨U,U⟩
variable{c:ca}
theorem tN(h:(AQ c).Sm):(A4 c.Map).Sm/\(c.ew.length:Int)<=140737488351232/\∀k∈c.ew,(AQ k).Sm:=by
 have f:TV.Sms [_,_,_,_,_,_,_,_,_]:=h;obtain⟨_,d,j,q,_⟩:=f;rw[Rw]at d;obtain⟨u,w⟩:=OC d;exact⟨⟨j,q,trivial⟩,u,w⟩
theorem dV:∀(N:Nat)(c:ca),SizeOf.sizeOf c<=N->(AQ c).Sm->∀mo:Int,0<=mo->mo<=1000->∃r,(∀n,N<=n->FO n c mo=Y r)/\-1<=r/\r<=mo-1/\(0<=r->GB c)
 |0,c,h,_,_,_,_=>by have:=Gd c;omega|N+1,c,h,hs,mo,m0,m1=>by
  obtain ⟨Q,S,D⟩:=tN hs;obtain⟨θ,G,ε⟩:=Zk c.c7;obtain⟨κ,J,η⟩:=iJ Q;have step:∀n,N+1<=n->∃m,n=m+1/\N<=m:=λn d=>⟨n-1,U,U⟩;cases θ
  .refine⟨-1,λn d=>?_,U,U,λh=>U⟩;obtain⟨n,rfl,_⟩:=step n d;rw[FO,G];rfl
  cases κ
  .refine⟨-1,λn d=>?_,U,U,λh=>U⟩;obtain⟨n,rfl,_⟩:=step n d;rw[FO,G,bs,J];rfl
  have loop:∀(m:Nat)(k left:Int),0<=k->k+m=c.ew.length->-1<=left->left<=1000->∃f w,(∀n,N<=n->Ls (ρ:=Int) (λ(u:Int×Int)=>
    if ((decide (u.2<(c.ew.length:Int)))&&(decide (0<=u.1)))=X then
    (idx c.ew u.2).bind λz=>
    (FO n z u.1).bind λA=>
    Y (.next (A,AZ (u.2+1)))
    else
    Y (.brk (u.1,u.2))) (left,k) (.inl (f,w)))/\-1<=f/\f<=left/\(0<=f->∀j,k<=j->j<c.ew.length->GB (AA c.ew j)):=by
   intro m
   induction m with
   |zero=>
    intro k left E L F l1;refine⟨left,k,λn d=>.brk ?_,F,U,λ_ j B y=>U⟩;rw[QQ an]
   |succ m ih=>
    intro k left E L F l1;by_cases M:0<=left
    .have q:=AG (l:=c.ew) E U;have:=Jv q;obtain⟨r,Z,r2,r3,r4⟩:=dV N _ U (D _ q) left M l1;obtain⟨f,w,a1,a2,K,H⟩:=ih (k+1) r U U r2 U;refine⟨f,w,λn d=>.next (s':=(r,k+1)) ?_ (a1 n d),a2,U,λC j B y=>?_⟩
     .rw[Ne an,AD E U,bs,Z n d,bs,Ap U U]
     .by_cases O:j=k
      .subst O;exact r4 U
      .exact H C j U y
    .refine⟨left,k,λn d=>.brk ?_,F,U,λh=>U⟩;rw[QQ an]
  obtain ⟨f,w,a1,a2,K,H⟩:=loop c.ew.length 0 (mo-1) U U U U;refine⟨f,λn d=>?_,a2,K,λC=>.mk c (ε rfl) (η rfl) (λk D=>?_)⟩
  .obtain⟨n,rfl,I⟩:=step n d;rw[FO,G,bs,J];simp only[bs,B?,A_,if_false];rw[Ap (n:=mo-1) U U,(a1 n I).eq,CB]
  .obtain⟨j,B,y,rfl⟩:=Ay D;exact H C j B y
theorem pC(d:(AQ c).Sm):∃b,QX c=Y b/\(b=X->GB c):=by
 obtain ⟨r,f,_,_,j⟩:=dV (SizeOf.sizeOf c) c (R0 _) d 40 U U;have e:T4 c 40=Y r:=Gp (SizeOf.sizeOf c) f;unfold QX;rw[e];exact⟨_,rfl,λh=>j c!⟩
variable{o:I1}
theorem IY{b:Bool}{c:Bool}(h:o=Y c):(if b=X then o.bind λx=>Y x else Y T)=Y (b&&c):=by
 subst h;cases b<;>rfl
variable{r:d4}
theorem pG(d:(Bp r).Sm):∃b,QY r=Y b/\(b=X->DN r):=by
 have f:TV.Sms [_,_,_,_,_,_,_,_,_,_,_,_,_,_,_,_,_,_,_,_,_,_,_,_,_]:=d;obtain⟨_,_,_,_,_,_,_,_,_,_,_,j,q,u,w,_,y,z,A,c4,c5,c6,B,C,D,_⟩:=f;obtain⟨O,E,F⟩:=Zk r.ea;obtain⟨Q,G,H⟩:=Zk r.ci;obtain⟨S,I,J⟩:=pF (m:=r.kx) ⟨j,q,trivial⟩;obtain⟨θ,K,L⟩:=iJ (m:=r.ed) ⟨u,w,trivial⟩;obtain⟨ε,M,N⟩:=pC (c:=r.ca) ⟨y,z,A,c4,c5,c6,B,C,D,trivial⟩;unfold QY;rw[IY E,bs,IY G,bs,IY I,bs,IY K,bs,IY M,bs];refine⟨_,rfl,λh=>?_⟩;simp[o4]at h;exact⟨h.1.1.1.1.1,F h.1.1.1.1.2,H h.1.1.1.2,J h.1.1.2,L h.1.2,N h.2⟩
theorem iI{s:Ak}(d:(AN t).Sm)(f:(Bp r).Sm):∃b,MK t s r=Y b/\(b=X->Ao t/\DN r):=by
 obtain ⟨y,j,q⟩:=mH d;obtain⟨z,u,w⟩:=pG f;unfold MK;rw[j,bs,IY (o:=SL s) rfl,bs,IY u,bs];refine⟨_,rfl,λh=>?_⟩;simp only[gR]at h;exact⟨q h.1.1,w h.2⟩
end Go.Sf.Sc
namespace Go.Sf
def FT(q:Int->Bool)(n:Int):Fp:=((E! n.toNat).map y!).filter q
variable{i:Int}
theorem SP(q:Int->Bool)(h:0<=i):FT q (i+1)=FT q i++if q i=X then[i]else[]:=by
 unfold FT;rw[show(i+1).toNat=i.toNat+1 by omega,F?,G_,G!];congr 1;simp only[H_,H',List.filter_cons,List.filter_nil,show y! i.toNat=i from y_ h]
theorem G5(q:Int->Bool)(n:Int):(FT q n).length<=n.toNat:=by
 unfold FT;exact Nat.le_trans (List.length_filter_le _ _) V
def FN(n:Int):Fp:=(E! n.toNat).map y!
theorem VJ(h:0<=i):FN (i+1)=FN i++[i]:=by
 unfold FN;rw[show(i+1).toNat=i.toNat+1 by omega,F?,G_];simp only[H_,H',show y! i.toNat=i from y_ h]
theorem Jk(n:Int):(FN n).length=n.toNat:=by simp[FN]
end Go.Sf
namespace Go.Sf.Sc
open Go Go.Sf
def SD(s:Ak)(g:bk)(sort i:Int):Bool:=decide (AA s.az (AA g.az i)=sort)
def Td(s:Ak)(g:bk)(sort i:Int):Bool:=decide (AA s.bi (AA g.bi i).em=sort)
def CZ(s:Ak)(g:bk)(sort:Int):BN:=⟨FT (SD s g sort) g.az.length,FT (Td s g sort) g.bi.length⟩
structure Sorted(s:Ak)(g:bk):Prop where
 ok:BW g
 node:∀n∈g.az,0<=n/\n<s.az.length
 edge:∀e∈g.bi,0<=e.em/\e.em<s.bi.length
variable{t:AC}{g:bk}
theorem SR{s:Ak}(d:ZZ t s)(f:BW g)(h:CW t g=X):Sorted s g:=by
 have:=Cw f h;refine⟨f,λn j=>?_,λe he=>?_⟩
 .rw[d.tc];exact this.1 n j
 .rw[d.wi];exact this.2 e he
theorem qp{s:Ak}(h:BW g)(d:Int):(CZ s g d).az.length<=1000/\(CZ s g d).bi.length<=1000:=by
 have:=h.cE;have:=h.c9;have f:=G5 (SD s g d) g.az.length;have j:=G5 (Td s g d) g.bi.length;unfold CZ;constructor
 .show(FT (SD s g d) g.az.length).length<=1000;omega
 .show(FT (Td s g d) g.bi.length).length<=1000;omega
variable{n:Int}
theorem bN(d:0<=n)(h:n<=1000):I4 0 n=Y (FN n):=by
 unfold I4;rw[BQ FN d o?]
 .rfl
 .intro i f j;have:=Jk i;rw[show(0:Int)+i=i by omega,Ap U U,AS a?,VJ f];rfl
theorem ue(h:g.az.length<=1000/\g.bi.length<=1000):NY g=Y ⟨FN g.az.length,FN g.bi.length⟩:=by
 unfold NY;rw[bN U U,bs,bN U U];rfl
def dR(k:Int):ca:=⟨k,[],⟨[],[]⟩,⟨⟨[],[]⟩,[],0,[]⟩⟩
def ZP(name:ByteArray)(l r:bk)(into:bn):d4:=⟨name,⟨l,[],0,[]⟩,⟨r,[],0,[]⟩,⟨FN l.az.length,FN l.bi.length⟩,into,X,dR 1⟩
theorem xG{l:bk}(h:l.az.length<=1000/\l.bi.length<=1000)(x:d4)(r:bk)(into:bn):My x l r into=Y (ZP x.gi l r into):=by
 unfold My;rw[ue h];rfl
variable{r:d4}
theorem DB{s:Ak}(h:B8 t s r=0):ZZ t s/\So t r/\r.ed.az.length=r.ea.bk.az.length/\r.ed.bi.length=r.ea.bk.bi.length:=by
 unfold B8 at h;split at h
 .omega
 split at h
 .omega
 split at h
 .cases h
 rename_i y z u;have w:=(Pj (t:=t) (s:=s) U).2;have d:=(RF (t:=t) (r:=r) U).2;have f:Pq r=X:=e_
 unfold Pq at f;simp only[gR,o4]at f;have j:=d.mor.tc;have q:=d.mor.wi;unfold Gf at j q;simp only[a6]at j q;exact⟨w,d,U,U⟩
end Go.Sf.Sc
namespace Go.Sf.Sc
open Go Go.Sf
def Ok(s:Ak)(r:d4)(l:Fp)(i:Int):Bool:=!hasB r.ed.az i&&hasB l (AA s.az (AA r.ci.bk.az i))
def Oj(s:Ak)(r:d4)(l:Fp)(i:Int):Bool:=!hasB r.ed.bi i&&hasB l (AA s.bi (AA r.ci.bk.bi i).em)
def DX(s:Ak)(r:d4)(l:Fp):Fp:=FT (Ok s r l) r.ci.bk.az.length
def EH(s:Ak)(r:d4)(l:Fp):Fp:=FT (Oj s r l) r.ci.bk.bi.length
def Wi(r:d4)(into:Fp)(i:Int):B1:=⟨(AA r.ci.bk.bi i).em,A1 into (AA r.ci.bk.bi i).fb,A1 into (AA r.ci.bk.bi i).To⟩
def At(s:Ak)(r:d4)(l:Fp):Fp:=r.ed.az++DX s r l
theorem Sz(l:Fp)(v:Int):slices_Contains_int l v=Y (hasB l v):=Lv l v
def Dz:AC:=⟨[⟨⟨#[67,108,97,115,115]⟩,-1,T,[]⟩,⟨⟨#[65,116,116,114,105,98,117,116,101]⟩,-1,T,[]⟩,⟨⟨#[84,97,98,108,101]⟩,-1,T,[]⟩,⟨⟨#[67,111,108,117,109,110]⟩,-1,T,[]⟩,⟨⟨#[77,97,112]⟩,-1,T,[]⟩],
 [⟨⟨#[104,97,115]⟩,0,1,0,-1,0,-1⟩,⟨⟨#[119,105,116,104]⟩,2,3,0,-1,0,-1⟩,⟨⟨#[111,102,67,108,97,115,115]⟩,4,0,0,-1,0,-1⟩,⟨⟨#[111,102,65,116,116,114,105,98,117,116,101]⟩,4,1,0,-1,0,-1⟩,⟨⟨#[116,111,84,97,98,108,101]⟩,4,2,0,-1,0,-1⟩,⟨⟨#[116,111,67,111,108,117,109,110]⟩,4,3,0,-1,0,-1⟩]⟩
def Gk:Ak:=⟨[1,1,3,3,2],[1,3,2,2,2,2]⟩
theorem mF:I7=Y (Dz,Gk):=rfl
theorem CE:Ao Dz:=by
 have h:∀n∈Dz.az,n.iN=[]:=a_
 refine ⟨a_,a_,a_,λn d=>?_,λn d a f=>?_,a_⟩
 .rw[h n d];decide
 .rw[h n d]at f;cases f
theorem j7(k:Int):GB (dR k):=.mk _ ⟨H? _,H? _,H? _,H? _⟩ ⟨H? _,H? _⟩ (λk d=>by cases d)
end Go.Sf.Sc
namespace Go.Sf
end Go.Sf
namespace Go.Sf.Sc
open Go Go.Sf
variable{g:bk}
theorem qL(d:g.az.length<=1000)(f:g.bi.length<=1000):GN g=Y g:=by
 unfold GN;rw[BL b_,bs,BL b_];rfl
end Go.Sf.Sc
namespace Go.Sf.Sc
open Go Go.Sf
end Go.Sf.Sc
namespace Go.Sf.Sc
open Go Go.Sf
end Go.Sf.Sc
namespace Go.Sf
variable{i:Int}
theorem We{α:Type}[Inhabited α]{l m:List α}(d:i.toNat<l.length):AA (l++m) i=AA l i:=by
 unfold AA;rw[D?,D?,List.getElem?_append_left d]
variable{n:Int}
theorem Sr(d:0<=i)(f:i<n):AA (FN n) i=i:=by
 unfold FN;have:((E! n.toNat).map y!)[i.toNat]?=Y i:=by
  rw [List.getElem?_map,List.getElem?_range U];simp;omega
 unfold AA;rw[D?,this];rfl
theorem tz(n:Int):(FN n).Pairwise (·<·):=by
 refine SV λi j d f h=>?_;rw[Jk]at h;rw[Sr d U,Sr U U];exact f
theorem bA(n:Int):(FN n).Nodup:=(tz n).imp (λh=>U)
end Go.Sf
namespace Go.Sf.Sc
open Go Go.Sf
structure Ee(g:bk):Prop where
 tc:g.az.length<=20
 wi:g.bi.length<=20
 node:∀n∈g.az,0<=n/\n<5
 edge:∀e∈g.bi,(0<=e.em/\e.em<6)/\(0<=e.fb/\e.fb<g.az.length)/\(0<=e.To/\e.To<g.az.length)/\Iu Dz e.em (AA g.az e.fb) (AA g.az e.To)=X
variable{g:bk}
theorem Ee.e0(h:Ee g):B5 g=0:=by
 have:=h.tc;have:=h.wi;unfold B5;rw[QQ U,QQ,QQ]
 .rw[C_,D'];intro e he;have:=h.edge e he;simp[Sa,Lb];omega
 .rw[C_,D'];intro n d;have:=h.node n d;simp[Lb];omega
theorem Ee.ok(h:Ee g):BW g:=Dt h.e0
theorem Zi:Dz.az.length=5/\Dz.bi.length=6:=⟨rfl,rfl⟩
theorem Ee.typed(h:Ee g):CW Dz g=X:=by
 unfold CW;rw[Zi.1,Zi.2,gR,A!,A!,D',D'];refine⟨λn d=>?_,λe he=>?_⟩
 .have:=h.node n d;simp;omega
 .have:=h.edge e he;simp;omega
theorem exV:(A0 Dz).2=0:=b!
theorem Ee.pat(h:Ee g):H7 Dz ⟨g,[],0,[]⟩=0:=by
 unfold H7;rw[exV,h.e0,h.typed];rfl
structure jg(L R:bk)(m:bn):Prop where
 l:Ee L
 r:Ee R
 tc:m.az.length=L.az.length
 wi:m.bi.length=L.bi.length
 node:∀i:Int,0<=i->i<L.az.length->(0<=AA m.az i/\AA m.az i<R.az.length)/\AA R.az (AA m.az i)=AA L.az i
 edge:∀i:Int,0<=i->i<L.bi.length->(0<=AA m.bi i/\AA m.bi i<R.bi.length)/\(AA L.bi i).em=(AA R.bi (AA m.bi i)).em/\
  AA m.az (AA L.bi i).fb=(AA R.bi (AA m.bi i)).fb/\AA m.az (AA L.bi i).To=(AA R.bi (AA m.bi i)).To
 nn:m.az.Nodup
 ne:m.bi.Nodup
theorem exA:∀n:Int,0<=n->n<5->(AA Dz.az n).pq=T:=by
 intro n d f;have:n=0\/n=1\/n=2\/n=3\/n=4:=U
 rcases this with rfl|rfl|rfl|rfl|rfl<;>rfl
variable{i:Int}
theorem Ee.fits(h:Ee g)(d:0<=i)(f:i<g.bi.length):DG Dz g i=X:=(h.edge _ (AG d f)).2.2.2
variable{m:bn}
theorem pS{L R:bk}(h:jg L R m){j:ByteArray}(q:(j.size:Int)<=60):DN (ZP j L R m):=by
 have a:=h.l.tc;have b:=h.l.wi;have c:=h.r.tc;have d:=h.r.wi;have e:=h.tc;have f:=h.wi;refine⟨q,⟨?_,?_,H? _,H? _⟩,⟨?_,?_,H? _,H? _⟩,⟨?_,?_⟩,⟨?_,?_⟩,j7 1⟩
 .show L.az.length<=45;omega
 .show L.bi.length<=90;omega
 .show R.az.length<=45;omega
 .show R.bi.length<=90;omega
 .show(FN L.az.length).length<=1000;rw[Jk];omega
 .show(FN L.bi.length).length<=1000;rw[Jk];omega
 .show m.az.length<=140;omega
 .show m.bi.length<=140;omega
end Go.Sf.Sc
namespace Go.Sf
variable{a b:Int}
theorem W8{σ ρ:Type}{f:σ×Int->Option (B3 (σ×Int) ρ)}(I:Int->σ->Prop){s:σ}(j:a<=b)(q:I a s)(h:∀i s,a<=i->i<b->I i s->∃s',f (s,i)=Y (.next (s',i+1))/\I (i+1) s')(u:∀s,I b s->f (s,b)=Y (.brk (s,b))):∃s',Fx f (s,a)=Y (.inl (s',b))/\I b s':=by
 have key:∀(n:Nat)(i:Int)(s:σ),a<=i->i+n=b->I i s->∃s',Ls f (s,i) (.inl (s',b))/\I b s':=by
  intro n
  induction n with
  |zero=>
   intro i s _ hi d;have:i=b:=U
   subst this;exact⟨s,.brk (u s d),d⟩
  |succ n D=>
   intro i s w E d;obtain⟨y,z,A⟩:=h i s w U d;obtain⟨s2,B,C⟩:=D (i+1) y U U A;exact⟨s2,.next z B,C⟩
 obtain ⟨s',e,d⟩:=key (b-a).toNat a s (x! _) U q;exact⟨s',e.eq,d⟩
variable{x n:Int}
theorem JY(d:0<=x)(f:0<n):∃y,KS x n=Y y/\0<=y/\y<n:=by
 unfold KS;rw[QQ U];refine⟨_,rfl,?_,?_⟩
 .rw[y? d];exact Int.emod_nonneg _ U
 .rw[y? d];exact Int.emod_lt_of_pos _ f
end Go.Sf
namespace Go.Sf.Sc
open Go Go.Sf
theorem Ee.nil:Ee ⟨[],[]⟩:=⟨a_,a_,V,V⟩
variable{g:bk}{x:Int}
theorem Ee.addN(h:Ee g)(u:g.az.length<20)(f:0<=x)(x1:x<5):Ee ⟨g.az++[x],g.bi⟩:=by
 refine ⟨an,h.wi,λn d=>?_,λe he=>?_⟩
 .rcases D_.1 d with d|d
  .exact h.node n d
  .rw[H!.1 d];exact⟨f,x1⟩
 .obtain⟨j,w,y,q⟩:=h.edge e he;simp only[aE,a5,List.length_nil];refine⟨j,U,U,?_⟩;rw[We U,We U];exact q
theorem Ee.addE(h:Ee g)(q:g.bi.length<20){t a b:Int}(d:0<=t/\t<6)(f:0<=a/\a<g.az.length)(j:0<=b/\b<g.az.length)(hf:Iu Dz t (AA g.az a) (AA g.az b)=X):Ee ⟨g.az,g.bi++[⟨t,a,b⟩]⟩:=by
 refine ⟨h.tc,an,h.node,λe he=>?_⟩;rcases D_.1 he with he|he
 .exact h.edge e he
 .rw[H!.1 he];exact⟨d,f,j,hf⟩
def Hd(x:Int):Prop:=0<=x/\x<=255
structure gf(d:II):Prop where
 cE:∀x∈d.az,Hd x.a0/\Hd x.a1
 c9:∀x∈d.bi,Hd x.a0/\Hd x.a1/\Hd x.a2
instance:Inhabited Q6:=⟨⟨0,0⟩⟩
instance:Inhabited Ix:=⟨⟨0,0,0⟩⟩
theorem MZ(h:Hd x):AZ x=x:=Ap (by have:=h.1;omega) (by have:=h.2;omega)
theorem km:KK Dz=Y [0,1,2,3,4]:=by
 unfold KK;rw[BQ FN U o?]
 .rfl
 .intro i d f;have h:(Dz.az.length:Int)=5:=rfl;have j:=Jk i;rw[AD d f,bs,exA i d U,Ne a_,AS a?,VJ d];rfl
variable{n:Int}
theorem tS(d:0<=n)(f:n<5):HN Dz n=([],0):=by
 have:n=0\/n=1\/n=2\/n=3\/n=4:=U
 rcases this with rfl|rfl|rfl|rfl|rfl<;>decide +kernel
variable{i:Int}
theorem ABT(d:0<=i)(f:i<5):idx ([0,1,2,3,4]:Fp) i=Y i:=by
 have:i=0\/i=1\/i=2\/i=3\/i=4:=U
 rcases this with rfl|rfl|rfl|rfl|rfl<;>rfl
theorem qK{d:II}(hd:gf d)(hn:d.az.length<=3)(he:d.bi.length<=3):∃h,Km Dz d=Y h/\Ee h.bk/\h.bk.az.length<=3/\h.bk.bi.length<=3:=by
 unfold Km;rw[km,bs];obtain⟨q,e1,g1,n1,v1⟩:=W8 (ρ:=AH) (f:=(λ(u:AH×Int)=>
  if (((decide (u.2<(d.az.length:Int)))&&(decide (u.2<8)))&&(decide (0<(([0,1,2,3,4]:Fp).length:Int))))=X then
  (idx d.az u.2).bind λη=>
  (KS (AZ η.a0) (([0,1,2,3,4]:Fp).length:Int)).bind λZ=>
  (idx ([0,1,2,3,4]:Fp) Z).bind λF=>
  (D7 Dz F).bind λw=>
  (gp (λ(θ:Int)(s2:Fp)=>
  (idx w.1 θ).bind λx63=>
  (idx d.az u.2).bind λx69=>
  (idx w.1 θ).bind λx78=>
  (idx w.1 θ).bind λx83=>
  (KS (AZ ((AZ x69.a1)+(AZ (7*θ)))) (AZ ((AZ (x78.Aab-x83.Low))+1))).bind λx88=>
  (Al s2 [AZ (x63.Low+x88)]).bind λx91=>
  Y x91) 0 (w.1.length:Int) []).bind λs2=>
  (Al u.1.bk.az [F]).bind λx97=>
  (Al u.1.d6 [s2]).bind λG=>
  Y (.next (AH.mk (bk.mk x97 u.1.bk.bi) G,AZ (u.2+1)))
  else
  Y (.brk (u.1,u.2)))) (λi h=>Ee h.bk/\(h.bk.az.length=i/\h.bk.bi=[])/\h.d6.length=i) (a:=0) (b:=d.az.length) (s:=AH.mk (bk.mk [] []) []) U ⟨Ee.nil,⟨rfl,rfl⟩,rfl⟩ (λi h H I J=>by
   obtain ⟨ε,⟨hl,hE⟩,hv⟩:=J;have A:=(hd.cE _ (AG H I)).1;obtain⟨y,y1,E,κ⟩:=JY (n:=5) A.1 U;refine⟨⟨⟨h.bk.az++[y],h.bk.bi⟩,h.d6++[[]]⟩,?_,ε.addN U E κ,⟨an,hE⟩,an⟩;rw[Ne an,AD H I,bs,MZ A];show((KS _ 5).bind _)=_;rw[y1,bs,ABT E κ,bs,RD CE,bs,tS E κ];rw[kC V,bs,AS a?,bs,AS a?,bs,Ap U U]) (λh J=>by
   rw [QQ V])
 rw [e1,CB];by_cases h0:q.bk.az.length=0
 .refine⟨q,?_,g1,U,by rw[n1.2];decide⟩;rw[(Ls.brk (s:=(q,(0:Int))) (s':=(q,0)) (by rw[QQ (by dsimp only;rw[h0];simp)])).eq];rfl
 .obtain⟨h2,e2,g2,n2,v2⟩:=W8 (ρ:=AH) (f:=(λ(j:AH×Int)=>
   if ((((decide (j.2<(d.bi.length:Int)))&&(decide (j.2<10)))&&(decide (0<(q.bk.az.length:Int))))&&(decide (0<(Dz.bi.length:Int))))=X then
   (idx d.bi j.2).bind λK=>
   (KS (AZ K.a0) (Dz.bi.length:Int)).bind λB=>
   (idx d.bi j.2).bind λL=>
   (KS (AZ L.a1) (q.bk.az.length:Int)).bind λC=>
   (idx d.bi j.2).bind λM=>
   (KS (AZ M.a2) (q.bk.az.length:Int)).bind λD=>
   (idx j.1.bk.az C).bind λN=>
   (idx j.1.bk.az D).bind λO=>
   (Em Dz B N O).bind λQ=>
   if Q=X then
   (Al j.1.bk.bi [B1.mk B C D]).bind λS=>
   Y (.next (AH.mk (bk.mk j.1.bk.az S) j.1.d6,AZ (j.2+1)))
   else
   Y (.next (j.1,AZ (j.2+1)))
   else
   Y (.brk (j.1,j.2)))) (λi h=>Ee h.bk/\h.bk.az.length=q.bk.az.length/\h.bk.bi.length<=i) (a:=0) (b:=d.bi.length) (s:=q) U ⟨g1,rfl,by rw[n1.2];decide⟩ (λi h H I J=>by
    obtain ⟨ε,hl,hE⟩:=J;have A:=hd.c9 _ (AG H I);obtain⟨x,x1,x2,x3⟩:=JY (n:=6) A.1.1 U;obtain⟨y,y1,E,κ⟩:=JY (n:=q.bk.az.length) A.2.1.1 U;obtain⟨z,z1,z2,z3⟩:=JY (n:=q.bk.az.length) A.2.2.1 U;rw[Ne (by simp[Zi.2];omega),AD H I];simp only[bs,MZ A.1,MZ A.2.1,MZ A.2.2];rw[show(Dz.bi.length:Int)=6 from rfl,x1,bs,y1,bs,z1,bs,AD E U,bs,AD z2 U,bs,VT CE,bs,Ap U U];cases hf:Iu Dz x (AA h.bk.az y) (AA h.bk.az z)
    .exact⟨h,rfl,ε,hl,U⟩
    .refine⟨⟨⟨h.bk.az,h.bk.bi++[⟨x,y,z⟩]⟩,h.d6⟩,?_,ε.addE U ⟨x2,x3⟩ ⟨E,U⟩ ⟨z2,U⟩ hf,hl,an⟩;rw[Ne rfl,AS a?];rfl) (λh J=>by
    rw [QQ V])
  rw [e2,CB];exact⟨h2,rfl,g2,U,U⟩
theorem mw{n:Nat}(h:n<=1000):KH n=Y (FN n):=by
 unfold KH;rw[BQ FN U o?]
 .rfl
 .intro i d f;have:=Jk i;rw[AS a?,VJ d];rfl
structure P9(d:F9):Prop where
 left:gf d.ea
 cE:∀x∈d.az,Hd x
 c9:∀x∈d.bi,Hd x.a0/\Hd x.a1/\Hd x.a2
theorem xb{α:Type}(l:List α):∃m,slc l 0 (min 3 (l.length:Int))=Y m/\m.length<=3/\∀x∈m,x∈l:=by
 refine ⟨_,MS U U,i_,λx d=>List.mem_of_mem_take d⟩
theorem nS{d:F9}(hd:P9 d):∃L R,HE d=Y (ZP ⟨#[114]⟩ L R ⟨FN L.az.length,FN L.bi.length⟩)/\jg L R ⟨FN L.az.length,FN L.bi.length⟩/\L.az.length<=3/\L.bi.length<=3/\R.az.length<=6/\R.bi.length<=7/\(∃A,R.az=L.az++A)/\∃B,R.bi=L.bi++B:=by
 unfold HE;obtain⟨a,a1,a2,a3⟩:=xb d.ea.az;obtain⟨b,b1,b2,b3⟩:=xb d.ea.bi;obtain⟨h,h1,h2,h3,h4⟩:=qK (d:=⟨a,b⟩) ⟨λx hx=>hd.left.cE x (a3 x hx),λx hx=>hd.left.c9 x (b3 x hx)⟩ a2 b2;rw[mF,bs,a1,bs,b1,bs,h1,bs,qL U U,bs];obtain⟨q,e1,j⟩:=W8 (ρ:=d4) (f:=(λ(D:bk×Int)=>
  if ((decide (D.2<(d.az.length:Int)))&&(decide (D.2<3)))=X then
  (idx d.az D.2).bind λx55=>
  (KS (AZ x55) ((Dz,Gk).1.az.length:Int)).bind λx61=>
  (Al D.1.az [x61]).bind λx63=>
  Y (.next (bk.mk x63 D.1.bi,AZ (D.2+1)))
  else
  Y (.brk (D.1,D.2)))) (λi g=>Ee g/\g.az.length<=3+i/\g.bi=h.bk.bi/\∃A,g.az=h.bk.az++A) (a:=0) (b:=min d.az.length 3) (s:=h.bk) U ⟨h2,U,rfl,[],V⟩ (λi g u j K=>by
   obtain ⟨J,I,hE,A,hA⟩:=K;have j:i<(d.az.length:Int)/\i<3:=U
   have w:=hd.cE _ (AG u j.1);obtain⟨y,y1,Z,y3⟩:=JY (n:=5) w.1 U;refine⟨⟨g.az++[y],g.bi⟩,?_,J.addN U Z y3,an,hE,A++[y],by rw[hA,ae]⟩;rw[Ne h_,AD u j.1,bs,MZ w];show((KS _ 5).bind _)=_;rw[y1,bs,AS a?,bs,Ap U U]) (λg K=>by
   rw [QQ an])
 obtain ⟨i2,i3,i4,A,i5⟩:=j;rw[e1,CB];have η:∀(k:Int)(g:bk),Ee g->g.az=q.az->g.bi.length<=7->(∃B,g.bi=h.bk.bi++B)->∀(F:bk×Int->Option (B3 (bk×Int) d4)),Fx F (q,0)=Y (.inl (g,k)) ->
   ∃L R,(eb (Fx F (q,0)) (λs2=>(Rc h.bk).bind λM=>
    (My (d4.mk (⟨#[114]⟩:ByteArray) (c7.mk (bk.mk [] []) [] 0 []) (c7.mk (bk.mk [] []) [] 0 []) (BN.mk [] []) (bn.mk [] []) T (ca.mk 0 [] (bn.mk [] []) (c7.mk (bk.mk [] []) [] 0 []))) h.bk s2.1 M).bind λN=>
    Y N) (λv2=>Y v2))=Y (ZP ⟨#[114]⟩ L R ⟨FN L.az.length,FN L.bi.length⟩)/\jg L R ⟨FN L.az.length,FN L.bi.length⟩/\L.az.length<=3/\L.bi.length<=3/\R.az.length<=6/\R.bi.length<=7/\(∃A,R.az=L.az++A)/\∃B,R.bi=L.bi++B:=by
  intro k g J hN hEl H F hF;obtain⟨B,H⟩:=H;refine⟨h.bk,g,?_,⟨h2,J,by simp[Jk],by simp[Jk],λi u j=>?_,λi u j=>?_,bA _,bA _⟩,h3,h4,by rw[hN];omega,hEl,⟨A,by rw[hN,i5]⟩,B,H⟩
  .rw[hF,CB];unfold Rc;rw[mw U,bs,mw U,bs,bs,xG ⟨U,U⟩];rfl
  .dsimp only;rw[Sr u j,hN,i5,We U];exact⟨⟨u,to⟩,rfl⟩
  .dsimp only;have C:=h2.edge _ (AG (l:=h.bk.bi) u j);rw[Sr u j,H,We U,Sr C.2.1.1 C.2.1.2,Sr C.2.2.1.1 C.2.2.1.2];exact⟨⟨u,to⟩,rfl,rfl,rfl⟩
 by_cases h0:q.az.length=0
 .refine η 0 q i2 rfl (by rw[i4];omega) ⟨[],by rw[i4];simp⟩ _ ?_;exact(Ls.brk (s:=(q,(0:Int))) (s':=(q,0)) (by rw[QQ (by dsimp only;rw[h0];simp)])).eq
 .obtain⟨g2,e2,j2,j3,j4,j5⟩:=W8 (ρ:=d4) (f:=(λ(s2:bk×Int)=>
   if (((decide (s2.2<(d.bi.length:Int)))&&(decide (s2.2<4)))&&(decide (0<(q.az.length:Int))))=X then
   (idx d.bi s2.2).bind λx86=>
   (KS (AZ x86.a0) ((Dz,Gk).1.bi.length:Int)).bind λO=>
   (idx d.bi s2.2).bind λx97=>
   (KS (AZ x97.a1) (q.az.length:Int)).bind λE=>
   (idx d.bi s2.2).bind λQ=>
   (KS (AZ Q.a2) (q.az.length:Int)).bind λG=>
   (idx s2.1.az E).bind λS=>
   (idx s2.1.az G).bind λθ=>
   (Em (Dz,Gk).1 O S θ).bind λε=>
   if ε=X then
   (Al s2.1.bi [B1.mk O E G]).bind λκ=>
   Y (.next (bk.mk s2.1.az κ,AZ (s2.2+1)))
   else
   Y (.next (s2.1,AZ (s2.2+1)))
   else
   Y (.brk (s2.1,s2.2)))) (λi g=>Ee g/\g.az=q.az/\g.bi.length<=3+i/\∃B,g.bi=h.bk.bi++B) (a:=0) (b:=min d.bi.length 4) (s:=q) U ⟨i2,rfl,by rw[i4];omega,[],by rw[i4];simp⟩ (λi g u j K=>by
    obtain ⟨J,I,hE,B,H⟩:=K;have j:i<(d.bi.length:Int)/\i<4:=U
    have w:=hd.c9 _ (AG u j.1);obtain⟨x,x1,x2,x3⟩:=JY (n:=6) w.1.1 U;obtain⟨y,y1,Z,y3⟩:=JY (n:=q.az.length) w.2.1.1 U;obtain⟨z,z1,z2,z3⟩:=JY (n:=q.az.length) w.2.2.1 U;rw[Ne an,AD u j.1];simp only[bs,MZ w.1,MZ w.2.1,MZ w.2.2];rw[show(Dz.bi.length:Int)=6 from rfl,x1,bs,y1,bs,z1,bs,AD Z (by rw[I];exact y3),bs,AD z2 (by rw[I];exact z3),bs,VT CE,bs,Ap U U];cases hf:Iu Dz x (AA g.az y) (AA g.az z)
    .exact⟨g,rfl,J,I,U,B,H⟩
    .refine⟨⟨g.az,g.bi++[⟨x,y,z⟩]⟩,?_,J.addE U ⟨x2,x3⟩ ⟨Z,by rw[I];exact y3⟩ ⟨z2,by rw[I];exact z3⟩ hf,I,an,B++[⟨x,y,z⟩],by rw[H,ae]⟩;rw[Ne rfl,AS a?];rfl) (λg K=>by
    rw [QQ an])
  exact η _ g2 j2 j3 U j5 _ e2
end Go.Sf.Sc
namespace Go.Sf.Sc
open Go Go.Sf
variable{x:Int}
theorem P8(h:(M8 x).WF):Hd x:=h
theorem RH{α:Type}{e:α->TV}{n:Nat}{l:List α}(h:(eL n e l).WF):∀x∈l,(e x).WF:=by
 have f:_/\TV.nm (l.map e):=h;intro x d;exact(Bt.1 f.2) _ (F_.2 ⟨x,d,rfl⟩)
theorem jy{d:F9}(h:(Ib d).WF):P9 d:=by
 have j:TV.nm [_,_,_,_]:=h;obtain⟨q,u,w,y,_⟩:=j;refine⟨⟨λx f=>?_,λx f=>?_⟩,λx f=>P8 (RH w x f),λx f=>?_⟩
 .have a:TV.nm [_,_]:=RH q x f;exact⟨P8 a.1,P8 a.2.1⟩
 .have a:TV.nm [_,_,_]:=RH u x f;exact⟨P8 a.1,P8 a.2.1,P8 a.2.2.1⟩
 .have a:TV.nm [_,_,_]:=RH y x f;exact⟨P8 a.1,P8 a.2.1,P8 a.2.2.1⟩
end Go.Sf.Sc
