/- Plain lemmas: what the functions of the program and of the reference compute. -/
import Derived.Test.YtiaddfklojalbaaGreatSfRead
import Derived.Test.YtiaddfklojalbaaGreatFns
import Derived.Test.YtiaddfklojalbaaGreatSfPl
set_option linter.all false
set_option maxRecDepth 100000
open Option renaming some->Y,none->W
open Bool renaming true->X,false->T
open Option renaming getD->w?,isSome->x_,bind_assoc->x!,bind_fun_some->x?
open Int renaming le_refl->y_,toNat_natCast->y!,toNat_of_nonneg->y?,ofNat->z_
open Bool renaming true_and->z!,eq_iff_iff->z?,false_and->A_,false_eq_true->A',or_eq_true->A!,not_eq_true'->A?,not_eq_false'->B_,or_eq_false_iff->B',and_eq_false_iff->B!,eq_false_iff->B?,not_true->C_,not_eq_true->C',or_assoc->C!,true_eq_false->C?,or_false->D_
open List renaming any_eq_false->D',getElem?_eq_getElem->D!,getD_eq_getElem?_getD->D?,take_length->E_,any_eq_true->E',range->E!,ext_getElem->E?,mem_map->F_,pairwise_iff_getElem->F!,range_succ->F?,map_append->G_,filter_append->G!,all_eq_not_any_not->G?
namespace Go.Sf
theorem Zf{ρ τ:Type}{d:Int->Option ρ}{g:ρ->τ}:∀(n:Nat)(a:Int),Fm (λi=>(d i).map g) n a=(Fm d n a).map g
 |0,_=>rfl|n+1,a=>by
  rw [Fm,Fm];cases d a with
  |some r=>rfl|none=>exact Zf n (a+1)
variable{a b:Int}
theorem Vp{ρ τ:Type}{d:Int->Option ρ}{g:ρ->τ}:fst (λi=>(d i).map g) a b=(fst d a b).map g:=Zf _ _
theorem Xl{ρ:Type}{d:Int->Option ρ}{r:ρ}:∀{n:Nat}{a:Int},Fm d n a=Y r->∃i,a<=i/\i<a+n/\d i=Y r/\∀j,a<=j->j<i->d j=W
 |0,_,h=>e_
 |n+1,a,h=>by
  rw [Fm]at h;cases hd:d a with
  |some y=>
   grind
  |none=>
   rw [hd]at h;obtain⟨i,f,q,u,w⟩:=Xl h
   grind
theorem Db{ρ:Type}{d:Int->Option ρ}{r:ρ}(h:fst d a b=Y r):∃i,a<=i/\i<b/\d i=Y r/\∀j,a<=j->j<i->d j=W:=by
 obtain ⟨i,f,q,u,w⟩:=Xl h
 grind
def L9(p:Int->Bool)(s:ByteArray):Int:=(fst (λi=>if p (bt s i)then W else Y i) 0 s.size).getD s.size
theorem VW(p:Int->Bool)(s:ByteArray):0<=L9 p s/\L9 p s<=s.size/\(∀j,0<=j->j<L9 p s->p (bt s j)=X)/\(L9 p s<s.size->p (bt s (L9 p s))=T):=by
 unfold L9;cases h:fst (λi=>if p (bt s i)then W else Y i) 0 s.size with
 |none=>
  rw [BY]at h
  grind
 |some r=>
  grind [Db,bt,w?]
variable{s:ByteArray}
theorem dm(h:s≠⟨#[]⟩):0<s.size:=by
 rcases Nat.eq_zero_or_pos s.size with f|f
 .exfalso;apply h;cases s with|mk d=>congr 1;exact Array.eq_empty_of_size_eq_zero f
 .exact f
end Go.Sf
namespace Go.Sf.Sc
open Go Go.Sf
def Gk(c:Int):Bool:=((decide (97<=c))&&(decide (c<=122)))||((decide (65<=c))&&(decide (c<=90)))
def x6(c:Int):Bool:=(decide (48<=c))&&(decide (c<=57))
def Q9(c:Int):Bool:=Gk c||x6 c||decide (c=95)
theorem cf(c:Int):LY c=Y (Gk c):=rfl
theorem Y1(c:Int):Ki c=Y (x6 c):=rfl
theorem dE(c:Int):LF c=Y (Gk c):=rfl
theorem gV(c:Int):I1 c=Y (x6 c):=rfl
theorem ux(c:Int):N5 c=Y (Q9 c):=by
 unfold N5 Q9;rw[cf,bs,Y1]
 grind
variable{s:ByteArray}
theorem jS(d:(s.size:Int)<=4611686018427387904){ok:Int->K1}{p:Int->Bool}(h:∀c,ok c=Y (p c)):Hk s ok=Y (L9 p s):=by
 unfold Hk;rw[P5 (c:=λi=>(if p (bt s i)then W else Y i).map .inl) (a:=0) (b:=s.size) U]
 .rw[Vp];unfold L9;cases fst (λi=>if p (bt s i)=X then W else Y i) 0 s.size<;>rfl
 .grind[P4,bt,G8,Au]
 .simp
def FT(s:ByteArray):Bool:=decide (0<s.size)&&Gk (bt s 0)&&decide (s.size<=20)&&decide (L9 Q9 s=s.size)
theorem Yz(l:List ByteArray)(v:ByteArray):∃k,slices_Index_string l v=Y k/\(0<=k↔v∈l):=by
 unfold slices_Index_string;rw[Bp (λi=>if(v==AA l i)=X then Y i else W)]
 .cases h:fst (λi=>if(v==AA l i)=X then Y i else W) 0 l.length with
  |none=>
   rw [BY]at h;refine⟨-1,rfl,U,λq=>?_⟩
   grind [BT]
  |some k=>
   obtain ⟨i,d,f,u,_⟩:=Db h;have j:(v==AA l i)=X/\i=k:=by
    grind
   obtain ⟨j,rfl⟩:=j;refine⟨i,rfl,λ_=>?_,λ_=>d⟩
   grind [AI]
 .intro i d f _;simp only[AD d f,bs];split<;>rfl
theorem Pa(l:List ByteArray)(v:ByteArray):slices_Contains_string l v=Y (l.contains v):=by
 unfold slices_Contains_string;obtain⟨k,d,f⟩:=Yz l v
 grind
theorem uv(B:0<s.size)(y:(s.size:Int)<=4611686018427387904):∃k n e,KD s=Y (k,n,e)/\(((decide (e=0))&&(decide (k=1)))&&(decide (n=(s.size:Int))))=FT s:=by
 have H:=VW Q9 s;unfold KD FT;simp only[P4 (y_ 0) (show(0:Int)<s.size by omega),bs,cf,Y1,jS y ux,jS y Y1,B,decide_true,z!];by_cases d:Gk (bt s 0)=X
 .rw[aE d];by_cases f:20<L9 Q9 s
  .refine⟨0,0,3,by simp[f],?_⟩;simp[d];intro G h;omega
  .refine⟨1,_,0,by rw[aN f_],?_⟩;simp only[d,decide_true,z!];rw[z?];simp only[p0,kp];omega
 .rw[aN d];have j:Gk (bt s 0)=T:=c!
  rw [j,A_,A_];by_cases hd:x6 (bt s 0)=X
  .rw[aE hd];by_cases z:9<L9 x6 s
   .exact⟨0,0,3,by simp[z],V⟩
   .exact⟨2,_,0,by rw[aN (by simpa using z)],V⟩
  .rw[aN hd];by_cases A:bt s 0=34
   .have C:=aT (s:=s) (a:=1) (b:=s.size) U U U;have q:∀c,Lx c=Y (((decide (32<=c))&&(decide (c<=126)))&&(!decide (c=34))):=λ_=>rfl;have D:=VW (λc=>((decide (32<=c))&&(decide (c<=126)))&&(!decide (c=34))) (s.extract (1:Int).toNat (s.size:Int).toNat);have u:∃n e,IB s=Y (n,e):=by
     unfold IB;rw[NB U U U,bs,jS U q,bs];rw[Au U U];by_cases he:1+L9 (λc=>((decide (32<=c))&&(decide (c<=126)))&&(!decide (c=34))) (s.extract (1:Int).toNat (s.size:Int).toNat)=s.size
     .refine⟨0,2,?_⟩;simp only[he,decide_true,if_true,bs]
     .simp only[he,decide_false,A',if_false];rw[P4 U U];simp only[bs];split
      .exact⟨_,_,rfl⟩
      .split
       .exact⟨_,_,rfl⟩
       .exact⟨_,_,rfl⟩
    obtain ⟨n,e,w⟩:=u;refine⟨3,n,e,by rw[aE o!,w];rfl,V⟩
   .rw[aN o!];have E:∃b,N4 s=Y b:=by
     unfold N4;by_cases h:2<=(s.size:Int)
     .rw[aE c_,NB U U h];simp only[bs,Pa];exact⟨_,rfl⟩
     .rw[aN c_];exact⟨_,rfl⟩
    obtain ⟨b,F⟩:=E;rw[F,bs];cases b
    .simp only[A',if_false,strings_IndexByte,bs];split
     .exact⟨_,_,_,rfl,rfl⟩
     .exact⟨_,_,_,rfl,rfl⟩
    .exact⟨_,_,_,rfl,rfl⟩
theorem QO(d:(s.size:Int)<=4611686018427387904):ES s=Y (FT s):=by
 unfold ES Kj;simp only[show decide ((1:Int)=3)=T from rfl,A',if_false,bs];by_cases he:s=⟨#[]⟩
 .subst he;rfl
 grind [uv,dm]
theorem vO(u:(s.size:Int)<=4611686018427387904)(d:Bool):∃n,LH s 0 d=Y n/\0<=n/\n<=s.size/\(d=T->n=L9 Q9 s):=by
 have h:=VW (λc=>x6 c||(!d&&(Gk c||decide (c=95)))) s;refine⟨L9 (λc=>x6 c||(!d&&(Gk c||decide (c=95)))) s,?_,h.1,h.2.1,λhd=>?_⟩
 .unfold LH;rw[P5 (c:=λi=>(if(x6 (bt s i)||(!d&&(Gk (bt s i)||decide (bt s i=95))))then W else Y i).map .inl) (a:=0) (b:=s.size) U]
  .rw[Vp];unfold L9;cases fst (λi=>if(x6 (bt s i)||(!d&&(Gk (bt s i)||decide (bt s i=95))))=X then W else Y i) 0 s.size<;>rfl
  .intro i q f _;have j:Ag (0+i)=i:=e!
   simp only[j,f,decide_true,if_true,P4 q f,bs,gV,dE]
   grind [x6,bt,Gk,G8,Au]
  .have j:Ag (0+(s.size:Int))=s.size:=e!
   grind
 .subst hd;congr 1
  grind [Q9,Gk,x6]
theorem oV(u:0<s.size)(w:(s.size:Int)<=4611686018427387904):∃n,H0 s 0=Y n/\(n=0\/(2<=n/\n<=s.size)):=by
 unfold H0;rw[P5 (c:=λi=>if decide (bt s i=34)=X then Y (Sum.inr (i+1):Int ⊕ Int)else if(decide (bt s i<32)||decide (126<bt s i))=X then Y (Sum.inr 0)else W) (a:=1) (b:=s.size) U]
 .cases h:fst (λi=>if decide (bt s i=34)=X then Y (Sum.inr (i+1):Int ⊕ Int)else if(decide (bt s i<32)||decide (126<bt s i))=X then Y (Sum.inr 0)else W) 1 s.size with
  |none=>exact⟨0,rfl,.inl rfl⟩|some r=>
   obtain ⟨i,q,f,d,_⟩:=Db h;split at d
   .cases d;exact⟨_,rfl,.inr U⟩
   .split at d
    .cases d;exact⟨_,rfl,.inl rfl⟩
    .cases d
 .intro i q f _;have j:Ag (0+i)=i:=e!
  simp only[j,f,decide_true,if_true,P4 (show 0<=i by omega) f,bs,Au (show -9223372036854775808<=i+1 by omega) U];split
  .rfl
  .split<;>rfl
 .have j:Ag (0+(s.size:Int))=s.size:=e!
  grind
theorem yd(Q:0<s.size)(S:(s.size:Int)<=4611686018427387904):∃t n e,LG s 0=Y (t,n,e)/\(((decide (e=0))&&(decide (n=(s.size:Int))))&&(decide (t.gN=1)))=FT s:=by
 obtain ⟨m,N,w,y,O⟩:=vO S (x6 (bt s 0));unfold LG FT;simp only[P4 (y_ 0) (show(0:Int)<s.size by omega),bs,dE,gV,Q,decide_true,z!,N];have θ:Ag (0+m)=m:=e!
 by_cases G:Gk (bt s 0)=X
 .have hd:x6 (bt s 0)=T:=by
   unfold Gk at G;unfold x6
   grind
  have Z:=O hd;subst Z;simp only[G,if_true,hd,A',if_false,bs,θ];by_cases u:20<L9 Q9 s
  .refine⟨_,_,_,by rw[aE d_],?_⟩
   grind
  .rw[aN d_,NB (y_ _) w y];refine⟨_,_,_,rfl,?_⟩
   grind
 .have H:Gk (bt s 0)=T:=by simpa using G
  simp only[H,A',if_false,bs,A_,θ];by_cases hd:x6 (bt s 0)=X
  .simp only[hd,if_true,bs];by_cases ε:9<m
   .exact⟨_,_,_,by rw[aE (by simpa using ε)],V⟩
   .rw[aN (by simpa using ε),NB (y_ _) w y];exact⟨_,_,_,rfl,V⟩
  .have I:x6 (bt s 0)=T:=by simpa using hd
   simp only[I,A',if_false,bs];by_cases κ:bt s 0=34
   .obtain⟨n,hn,z⟩:=oV Q S;rw[aE (by simpa using κ),hn,bs];rcases z with rfl|z
    .grind
    .rw[aN a!];split
     .grind
     .have e1:Ag (0+1)=1:=a_
      have e2:Ag (0+n)=n:=e!
      rw [e1,e2,Au (show -9223372036854775808<=n-1 by omega) U,NB U U U];exact⟨_,_,_,rfl,V⟩
   .rw[aN (by simpa using κ)];unfold Ol;rw[bs];generalize hL:([(⟨#[45,62]⟩:ByteArray),(⟨#[60,61]⟩:ByteArray),(⟨#[62,61]⟩:ByteArray),(⟨#[61,61]⟩:ByteArray),(⟨#[33,61]⟩:ByteArray),(⟨#[123]⟩:ByteArray),(⟨#[125]⟩:ByteArray),(⟨#[40]⟩:ByteArray),(⟨#[41]⟩:ByteArray),(⟨#[91]⟩:ByteArray),(⟨#[93]⟩:ByteArray),(⟨#[44]⟩:ByteArray),(⟨#[59]⟩:ByteArray),(⟨#[58]⟩:ByteArray),(⟨#[61]⟩:ByteArray),(⟨#[43]⟩:ByteArray),(⟨#[45]⟩:ByteArray),(⟨#[42]⟩:ByteArray),(⟨#[60]⟩:ByteArray),(⟨#[62]⟩:ByteArray),(⟨#[33]⟩:ByteArray),(⟨#[38]⟩:ByteArray),(⟨#[124]⟩:ByteArray),(⟨#[46]⟩:ByteArray),(⟨#[63]⟩:ByteArray)]:List ByteArray)=L;have J:∀x∈L,x.size<=2:=by subst hL;decide
    rcases Ws (f:=(λ(h:Int)(η:Gn)=>
      (idx L h).bind λB=>
      (if(decide ((Ag (0+(B.size:Int)))<=(s.size:Int)))=X then((idx L h).bind λC=>
      (Aax s 0 (Ag (0+(C.size:Int)))).bind λD=>
      (idx L h).bind λE=>
      Y (D==E))else Y T).bind λF=>
      if F=X then
      (idx L h).bind λj=>
      (idx L h).bind λq=>
      Y (CF.ret (Gn.mk 4 j 0,(q.size:Int),(0:Int)))
      else
      Y (CF.next η))) (λ_ s=>True) (λ_=>True) (λr=>r.1.gN=4) (a:=0) (b:=L.length) (s:=Gn.mk 0 (⟨#[]⟩:ByteArray) 0) U trivial (λi t d A _=>by
      have hx:=J _ (AI d A);have K:Ag (0+((AA L i).size:Int))=(AA L i).size:=e!
      simp only[AD d A,bs,K];by_cases M:((AA L i).size:Int)<=s.size
      .rw[aE (by simpa using M),NB U U M];simp only[bs];split
       .exact .inr (.inr ⟨_,rfl,rfl⟩)
       .exact .inl ⟨_,rfl,trivial⟩
      .rw[aN (by simpa using M)];simp only[bs];exact .inl ⟨_,rfl,trivial⟩)with⟨s',d,_⟩|⟨r,d,A⟩
    .rw[d];exact⟨_,_,_,rfl,V⟩
    .rw[d];exact⟨_,_,_,rfl,by simp[A]⟩
theorem QR(d:(s.size:Int)<=4611686018427387904):EP s=Y (FT s):=by
 unfold EP Kb Pq;simp only[show decide ((1:Int)=3)=T from rfl,A',if_false,bs];by_cases he:s=⟨#[]⟩
 .subst he;rfl
 grind [yd,dm]
end Go.Sf.Sc
namespace Go.Sf
variable{ρ β:Type}
def nz(e:Int):Ne:=if e=0 then W else Y e
theorem LC(e:Int):(if(!decide (e=0))=X then Y (CF.ret e)else Y (CF.next ()))=Y (Mt (nz e)):=by grind[nz,Mt]
theorem uB(b:Bool)(r:ρ):(if b=X then Y (CF.ret r)else Y (CF.next ()))=Y (Mt (if b=X then Y r else W)):=by
 cases b<;>rfl
variable{kr:ρ->Option β}
theorem CI{σ:Type}{s:σ}{k:σ->Option β}:eg (Y (.inl s)) k kr=k s:=rfl
theorem RI{σ:Type}{r:ρ}{k:σ->Option β}:eg (Y (.inr r)) k kr=kr r:=rfl
theorem E4(o:Option ρ)(k:Unit->Option β)(kr:ρ->Option β):eg (Y (qE o)) k kr=match o with|none=>k ()|some r=>kr r:=by
 cases o<;>rfl
theorem Ck(o:Ne):eg (Y (qE o)) (λ_=>Y 0) (λv=>Y v)=Y (o.getD 0):=by
 cases o<;>rfl
variable{a b:Int}
theorem SK{c:Int->Int}(h:(fst (λi=>nz (c i)) a b).getD 0=0):∀i,a<=i->i<b->c i=0:=by
 have:fst (λi=>nz (c i)) a b=W:=by
  cases hf:fst (λi=>nz (c i)) a b with
  |none=>rfl|some r=>
   grind [w?,Db,nz]
 grind [BY,nz]
variable{e:Int}
theorem OQ:nz e=W↔e=0:=by grind[nz]
theorem Wu{α:Type}[Inhabited α]{l:List α}{f:α->K1}{p:α->Bool}(h:∀x∈l,f x=Y (p x)):
  (eg (fq (ρ:=Int) (λ(q:Int)(_:Unit)=>(idx l q).bind λd=>(f d).bind λj=>if j=X then Y (.ret q)else Y (.next ())) 0 (l.length:Int) ()) (λ_=>Y (-1)) (λy=>Y y))=
   Y ((fst (λi=>if p (AA l i)=X then Y i else W) 0 l.length).getD (-1)):=by
 rw [Bp (λi=>if p (AA l i)=X then Y i else W)]
 .rw[E4];cases fst (λi=>if p (AA l i)=X then Y i else W) 0 l.length<;>rfl
 .intro i u w _;rw[AD u w,bs,h _ (AI u w),bs,uB]
theorem Zp{α:Type}[Inhabited α]{l:List α}{p:α->Bool}:decide (0<=(fst (λi=>if p (AA l i)=X then Y i else W) 0 l.length).getD (-1))=l.any p:=by
 rw [GY,gh];cases h:fst (λi=>if p (AA l i)=X then Y i else W) 0 l.length with
 |none=>
  grind [BY,x_,Option.isSome_eq_false_iff,Option.isNone_iff_eq_none,AA]
 |some k=>
  grind [Db,AA,w?,x_,Option.isSome_iff_ne_none,BY]
theorem E8{α:Type}[Inhabited α]{l:List α}{f:α->K1}{p:α->Bool}(h:∀x∈l,f x=Y (p x)):
  ((eg (fq (ρ:=Int) (λ(q:Int)(_:Unit)=>(idx l q).bind λd=>(f d).bind λj=>if j=X then Y (.ret q)else Y (.next ())) 0 (l.length:Int) ()) (λ_=>Y (-1)) (λu=>Y u)).bind λw=>Y (decide (0<=w)))=Y (l.any p):=by
 rw [Wu h,bs,Zp]
end Go.Sf
namespace Go.Sf.Sc
open Go Go.Sf
instance:Inhabited gi:=⟨⟨⟨#[]⟩,0,0,[]⟩⟩
instance:Inhabited B6:=⟨⟨⟨#[]⟩,0,T,[]⟩⟩
instance:Inhabited Cy:=⟨⟨⟨#[]⟩,0,0,0,0,0,0⟩⟩
instance:Inhabited B3:=⟨⟨0,0,0⟩⟩
instance:Inhabited Dj:=⟨⟨0,0,⟨0,0⟩⟩⟩
instance:Inhabited Test:=⟨⟨0,⟨0,0⟩,⟨0,0⟩⟩⟩
instance:Inhabited c8:=⟨⟨0,[],⟨[],[]⟩,⟨⟨[],[]⟩,[],0,[]⟩⟩⟩
theorem eW{l:List B6}{f:B6->K1}{p:B6->Bool}(h:∀x∈l,f x=Y (p x)):BW l f=Y (l.any p):=E8 h
variable{l:Fp}
theorem SH{f:Int->K1}{p:Int->Bool}(h:∀x∈l,f x=Y (p x)):BE l f=Y (l.any p):=E8 h
theorem Yf{l:List B3}{f:B3->K1}{p:B3->Bool}(h:∀x∈l,f x=Y (p x)):BV l f=Y (l.any p):=E8 h
theorem bQ{l:List c8}{f:c8->K1}{p:c8->Bool}(h:∀x∈l,f x=Y (p x)):CC l f=Y (l.any p):=E8 h
theorem WK{l:List B6}{p:B6->Bool}:BW l (λx=>Y (p x))=Y (l.any p):=E8 (λ_ _=>rfl)
theorem eX{l:List Cy}{p:Cy->Bool}:Cd l (λx=>Y (p x))=Y (l.any p):=E8 (λ_ _=>rfl)
theorem rF{l:List gi}{p:gi->Bool}:C7 l (λx=>Y (p x))=Y (l.any p):=E8 (λ_ _=>rfl)
theorem bR{p:Int->Bool}:BE l (λx=>Y (p x))=Y (l.any p):=E8 (λ_ _=>rfl)
theorem fX{l:List B3}{p:B3->Bool}:BV l (λx=>Y (p x))=Y (l.any p):=E8 (λ_ _=>rfl)
theorem fY{l:List Dj}{p:Dj->Bool}:Cp l (λx=>Y (p x))=Y (l.any p):=E8 (λ_ _=>rfl)
theorem lF(l:Fp)(v:Int):slices_Index_int l v=Y ((fst (λi=>if decide (v=AA l i)=X then Y i else W) 0 l.length).getD (-1)):=by
 have:=Wu (l:=l) (f:=λx=>Y (decide (v=x))) (p:=λx=>decide (v=x)) (λ_ _=>rfl);unfold slices_Index_int
 grind
theorem K5(l:Fp)(v:Int):slices_Contains_int l v=Y (l.any λx=>decide (v=x)):=by grind[slices_Contains_int,lF,Zp]
theorem fe(l:QQ)(v:Bool):DI l v=Y (l.any λx=>v==x):=by
 have:=E8 (l:=l) (f:=λx=>Y (v==x)) (p:=λx=>v==x) (λ_ _=>rfl);unfold DI JI
 grind
structure Wb(a:gi):Prop where
 name:(a.gp.size:Int)<=40
 names:a.mo.length<=25
 each:∀x∈a.mo,(x.size:Int)<=40
structure A0(t:AC):Prop where
 c9:t.bq.length<=20
 d6:t.ca.length<=30
 name:∀n∈t.bq,(n.gp.size:Int)<=40
 AbP:∀n∈t.bq,n.kl.length<=30
 each:∀n∈t.bq,∀a∈n.kl,Wb a
 ename:∀e∈t.ca,(e.gp.size:Int)<=40
def par(t:AC)(i:Int):Int:=(AA t.bq i).k7
def Ea(t:AC)(k:Int):Prop:=∀i,0<=i->i<k->-1<=par t i/\par t i<i
def CH(t:AC):Nat->Int->List gi
 |0,_=>[]|n+1,a=>if a<0 then[]else CH t n (par t a)++(AA t.bq a).kl
def BC(t:AC)(a:Int):List gi:=CH t (a+1).toNat a
variable{t:AC}{a:Int}
theorem Jt{n:Nat}(h:a<0):CH t n a=[]:=by
 cases n with
 |zero=>rfl|succ n=>rw[CH,aE h]
variable{k:Int}
theorem Mz(d:Ea t k):∀(n m:Nat)(a:Int),a<k->a<n->a<m->CH t n a=CH t m a
 |n,m,a,h,j,q=>by
  by_cases f:a<0
  .grind[Jt]
  .cases n with
   |zero=>omega|succ n=>
    cases m with
    |zero=>omega|succ m=>
     rw [CH,CH,aN f,aN f];have:=d a U h;rw[Mz d n m (par t a) U U U]
theorem NM(hf:A0 t)(f:k<=t.bq.length)(d:Ea t k):∀(n:Nat)(a:Int),a<k->((CH t n a).length:Int)<=30*n
 |0,_,_=>by simp[CH]|n+1,a,h=>by
  rw [CH];split
  .simp;omega
  .rename_i j;have q:=d a U h;have u:=NM hf f d n (par t a) U;have w:=hf.AbP _ (AI (l:=t.bq) (show 0<=a by omega) U)
   grind
theorem XW(hf:A0 t)(h:k<=t.bq.length)(f:Ea t k):∀(n:Nat)(a:Int),a<k->∀x∈CH t n a,Wb x
 |0,_,_=>by simp[CH]|n+1,a,j=>by
  rw [CH];split
  .simp
  .rename_i q;have u:=f a U j;intro x d;rcases List.mem_append.1 d with d|d
   .exact XW hf h f n (par t a) U x d
   .exact hf.each _ (AI (l:=t.bq) (show 0<=a by omega) U) x d
theorem Ju(hf:A0 t)(d:k<=t.bq.length)(f:Ea t k)(h:a<k):(BC t a).length<=600:=by
 have:=NM hf d f (a+1).toNat a h;have:=hf.c9;unfold BC;omega
theorem NN(hf:A0 t)(d:k<=t.bq.length)(f:Ea t k)(h:a<k):∀x∈BC t a,Wb x:=XW hf d f _ a h
theorem cb(hf:A0 t)(j:k<=t.bq.length)(h:Ea t k):∀(n:Nat)(a:Int),0<=a->a<k->a<n->De n t a=Y (CH t n a)
 |0,_,_,_,_=>by omega|n+1,a,u,B,F=>by
  have C:=h a U B;have w:=NM hf j h n (par t a) U;have D:=hf.AbP _ (AI (l:=t.bq) u U);have E:=hf.c9;rw[De,CH,aN U,AD u U];simp only[bs];show((if decide (0<=par t a)=X then(De n t (par t a)).bind λf=>Y f else Y []).bind _)=_;have e:(if decide (0<=par t a)=X then(De n t (par t a)).bind λf=>Y f else Y [])=Y (CH t n (par t a)):=by
   by_cases q:0<=par t a
   .rw[aE j?,cb hf j h n (par t a) q U U];rfl
   .rw[aN j?,Jt U]
  have y:(CH t n (par t a)).length+(AA t.bq a).kl.length<=Ak:=by
   unfold Ak;have:((CH t n (par t a)).length:Int)<=30*n:=w;have z:CH t n (par t a)=CH t 20 (par t a):=by
    by_cases d:par t a<0
    .rw[Jt d,Jt d]
    .exact Mz h n 20 (par t a) U U U
   have A:=NM hf j h 20 (par t a) U;rw[<-z]at A;omega
  rw [e,bs,Ao y];rfl
theorem gI(hf:A0 t)(d:k<=t.bq.length)(f:Ea t k)(h:0<=a)(j:a<k):Ma t a=Y (BC t a):=
 Gb (a+1).toNat λn q=>by
  grind [cb,BC,Mz]
theorem cw(hf:A0 t)(h:k<=t.bq.length)(f:Ea t k):∀(n:Nat)(a:Int),-1<=a->a<k->a+1<n->EQ n t a=Y (CH t n a)
 |0,_,_,_,_=>by omega|n+1,a,B,w,C=>by
  rw [EQ,CH];by_cases d:a<0
  .grind
  .have y:=f a U w;have z:=hf.AbP _ (AI (l:=t.bq) (show 0<=a by omega) U);have A:=hf.c9;rw[aN c!,aN d,AD U U];simp only[bs];have j:CH t n (par t a)=CH t 20 (par t a):=by
    by_cases d:par t a<0
    .rw[Jt d,Jt d]
    .exact Mz f n 20 (par t a) U U U
   have q:=NM hf h f 20 (par t a) U;rw[<-j]at q;have u:(CH t n (par t a)).length+(AA t.bq a).kl.length<=Ak:=a?
   rw [show(AA t.bq a).k7=par t a from rfl,cw hf h f n (par t a) U U U,bs,Ao b_];simp only[bs,List.nil_append];rw[Ao u];rfl
theorem gU(hf:A0 t)(d:k<=t.bq.length)(f:Ea t k)(h:0<=a)(j:a<k):MI t a=Y (BC t a):=
 Gb (a+2).toNat λn q=>by
  grind [cw,BC,Mz]
end Go.Sf.Sc
namespace Go.Sf.Sc
open Go Go.Sf
def JY(l:List ByteArray):Int:=
 if (20:Int)<l.length then 3 else(fst (λi=>if FT (AA l i)=T then Y 2 else if gh (λj=>AA l j==AA l i) 0 i=X then Y 5 else W) 0 l.length).getD 0
variable{b:Int}
theorem bX{l:List ByteArray}{x:ByteArray}(d:0<=b)(f:b<=l.length):(l.take b.toNat).contains x=gh (λj=>AA l j==x) 0 b:=by
 rw [List.contains_eq_any_beq,QC d f]
 grind
theorem rz{l:List ByteArray}(q:∀x∈l,(x.size:Int)<=40):I9 l=Y (JY l):=by
 unfold I9 JY;by_cases d:(20:Int)<l.length
 .grind
 .rw[aN c!,aN d];rw[Bp (λi=>if FT (AA l i)=T then Y 2 else if gh (λj=>AA l j==AA l i) 0 i=X then Y 5 else W),Ck];intro i f h _;have u:=q _ (AI f h);rw[AD f h,bs,QO U,bs,Mv f U];simp only[bs,Pa,bX f (show i<=l.length by omega)];cases FT (AA l i)<;>cases gh (λj=>AA l j==AA l i) 0 i<;>rfl
theorem sM{l:List ByteArray}(q:∀x∈l,(x.size:Int)<=40):I2 l=Y (JY l):=by
 unfold I2 JY;by_cases d:(20:Int)<l.length
 .grind
 .rw[aN c!,aN d];rw[Bp (λi=>if FT (AA l i)=T then Y 2 else if gh (λj=>AA l j==AA l i) 0 i=X then Y 5 else W),Ck];intro i f h _;have u:=q _ (AI f h);rw[AD f h,bs,QR U,bs,BX (λj=>AA l j==AA l i) 5]
  .cases FT (AA l i)<;>cases gh (λj=>AA l j==AA l i) 0 i<;>rfl
  grind [AD]
def Ko(all:List gi)(k:Int):Int:=
 let x:=AA all k
 if FT x.gp=T then 2 else if gh (λj=>(AA all j).gp==x.gp) 0 k=X then 5 else
 if x.mo.length=0 then(if -1000000<=x.Low/\x.Low<=x.Aag/\x.Aag<=1000000 then 0 else 6)else
 if JY x.mo≠0 then JY x.mo else if x.Low=0/\x.Aag=x.mo.length-1 then 0 else 6
variable{k:Int}
theorem fC{d:List gi}(u:∀x∈d,Wb x)(q:0<=k)(w:k<d.length):GH (AA d k) (d.take k.toNat)=Y (Ko d k):=by
 have j:=u _ (AI q w);have B:=j.name;unfold GH Ko;dsimp only;rw[QO U,bs,show(λf=>JK f (AA d k))=(λf=>Y (f.gp==(AA d k).gp))from rfl,rF,bs,QC q U,rz j.each,bs];have y:=j.names;have z:Ag ((AA d k).mo.length-1)=(AA d k).mo.length-1:=Au U U;rw[z];have A:(AA d k).mo.length=0->JY (AA d k).mo=0:=λh=>by rw[List.eq_nil_of_length_eq_zero h];rfl
 generalize JY (AA d k).mo=e at A|-;simp only[bs,p0,A!,kp,A?,decide_eq_false_iff_not,B_,B',B!,ne_eq]
 repeat' (first|rfl|(exfalso;omega;done)|split)
 all_goals (first|rfl|(exfalso;omega)|omega|simp_all|(simp_all;omega))
theorem fE{x:gi}(d:Wb x):F9 x=Y (
 if x.mo.length=0 then(if -1000000<=x.Low/\x.Low<=x.Aag/\x.Aag<=1000000 then 0 else 6)else
 if JY x.mo≠0 then JY x.mo else if x.Low=0/\x.Aag=x.mo.length-1 then 0 else 6):=by
 have f:=d.names;have h:Ag (x.mo.length-1)=x.mo.length-1:=Au U U;unfold F9 D7;simp only[bs,h,sM d.each];generalize JY x.mo=e;simp only[bs,p0,A!,kp,A?,decide_eq_false_iff_not,B_,B',B!,ne_eq]
 repeat' (first|rfl|(exfalso;omega;done)|split)
 all_goals (first|rfl|(exfalso;omega)|omega|simp_all|(simp_all;omega))
def IG(t:AC)(i:Int):Int:=
 let n:=AA t.bq i
 if FT n.gp=T then 2 else if gh (λj=>(AA t.bq j).gp==n.gp) 0 i=X then 5 else
 if n.k7< -1\/i<=n.k7 then 6 else if 4<n.kl.length\/8<(BC t i).length then 3 else
 (fst (λk=>nz (Ko (BC t i) k)) ((BC t i).length-n.kl.length) (BC t i).length).getD 0
variable{t:AC}{i:Int}
theorem XY(d:0<=i):(AA t.bq i).kl.length<=(BC t i).length:=by
 unfold BC;rw[show(i+1).toNat=i.toNat+1 by omega,CH,aN U,a6];omega
theorem Ea.next(h:Ea t i)(f:-1<=par t i)(q:par t i<i):Ea t (i+1):=by
 intro j d u;by_cases w:j=i
 .grind
 .exact h j d U
theorem uw(hf:A0 t)(f:0<=i)(y:i<t.bq.length)(C:Ea t i):KG t i=Y (IG t i):=by
 have E:=hf.name _ (AI f y);unfold KG IG;dsimp only;rw[AD f y,bs,QO U,bs,Mv f U,bs,show(λu=>N8 u (AA t.bq i))=(λu=>Y (u.gp==(AA t.bq i).gp))from rfl,WK,bs,QC f U];cases FT (AA t.bq i).gp
 .rfl
 .cases gh (λj=>(AA t.bq j).gp==(AA t.bq i).gp) 0 i
  .by_cases h:(AA t.bq i).k7< -1\/i<=(AA t.bq i).k7
   .rcases h with h|h<;>simp[h]
   .have d:Ea t (i+1):=C.next (by unfold par;omega) (by unfold par;omega)
    have w:(decide ((AA t.bq i).k7< -1)||decide (i<=(AA t.bq i).k7))=T:=by
     rw [B?];simpa using h
    rw [gI hf (k:=i+1) U d f U,bs];have A:=Ju hf (k:=i+1) (a:=i) U d U;have B:=XY (t:=t) f;have q:=NN hf (k:=i+1) (a:=i) U d U;rw[Au U U,Bp (λk=>nz (Ko (BC t i) k)),Ck]
    .simp only[w,h,C_,A',if_false];simp only[bs,p0,A!,kp,A?,decide_eq_false_iff_not,B_,B',B!,ne_eq]
     repeat' (first|rfl|(exfalso;omega;done)|split)
     all_goals (first|rfl|(exfalso;omega)|omega|simp_all|(simp_all;omega))
    .intro k D z _;rw[AD U z,bs,Mv U U,bs,fC q U z,bs,LC]
  .rfl
theorem vL(hf:A0 t)(h:0<=i)(u:i<t.bq.length)(C:Ea t i):J3 t i=Y (IG t i):=by
 have G:=hf.name _ (AI h u);have H:=hf.c9;unfold J3 IG D7;dsimp only;rw[AD h u,bs,QR U,bs,BX (λj=>(AA t.bq j).gp==(AA t.bq i).gp) 5]
 .cases FT (AA t.bq i).gp
  .rfl
  .cases gh (λj=>(AA t.bq j).gp==(AA t.bq i).gp) 0 i
   .simp only[C_,A',if_false,CI,bs];rw[Au U U];by_cases y:(AA t.bq i).k7< -1\/i<=(AA t.bq i).k7
    .rw[aE,aN a_,aE y];simp;omega
    .have d:Ea t (i+1):=C.next (by unfold par;omega) (by unfold par;omega)
     rw [aN a!,aN a_,aN y];rw[gU hf (k:=i+1) U d h U,bs];have z:=Ju hf (k:=i+1) (a:=i) U d U;have A:=XY (t:=t) h;have f:=NN hf (k:=i+1) (a:=i) U d U;rw[Au U U];rw[Bp (λk=>nz (Ko (BC t i) k)),Ck]
     .simp only[bs,p0,A!,kp,A?,decide_eq_false_iff_not,B_,B',B!,ne_eq]
      repeat' (first|rfl|(exfalso;omega;done)|split)
      all_goals (first|rfl|(exfalso;omega)|omega|simp_all|(simp_all;omega))
     .intro k w q _;have B:=f _ (AI (show 0<=k by omega) q);have E:=B.name;simp only[AD (show 0<=k by omega) q,bs];rw[QR U,bs,BX (λj=>(AA (BC t i) j).gp==(AA (BC t i) k).gp) 5]
      .rw[fE B];simp only[bs,LC];unfold Ko;dsimp only;cases FT (AA (BC t i) k).gp
       .rfl
       .cases gh (λj=>(AA (BC t i) j).gp==(AA (BC t i) k).gp) 0 k<;>rfl
      .intro j D F _;rw[AD D U,bs];split<;>rfl
   .rfl
 .intro j w q _;rw[AD w U,bs];split<;>rfl
def NO(low high:Int):Bool:=((decide (0<=low))&&(decide (low<=40)))&&((decide (high=(-1)))||((decide (low<=high))&&(decide (high<=40))))
theorem sH(low high:Int):Kc low high=Y (NO low high):=by
 unfold Kc NO D7
 grind
def JE(t:AC)(i:Int):Int:=
 let x:=AA t.ca i
 if FT x.gp=T then 2 else if gh (λj=>(AA t.ca j).gp==x.gp) 0 i=X then 5 else
 if (0<=x.fu/\x.fu<t.bq.length)/\(0<=x.To/\x.To<t.bq.length)/\NO x.Aa0 x.AaF=X/\NO x.Abq x.AaZ=X then 0 else 6
theorem uk(hf:A0 t)(d:0<=i)(h:i<t.ca.length):KE t i=Y (JE t i):=by
 have q:=hf.ename _ (AI d h);unfold KE JE LZ;dsimp only;rw[AD d h,bs,QO U,bs,Mv d U,bs,show(λf=>N7 f (AA t.ca i))=(λf=>Y (f.gp==(AA t.ca i).gp))from rfl,eX,bs,QC d U];simp[show∀a b,KX a b=Y (NO a b)from λ_ _=>rfl];generalize FT (AA t.ca i).gp=b1;generalize gh (λj=>(AA t.ca j).gp==(AA t.ca i).gp) 0 i=b2;generalize NO (AA t.ca i).Aa0 (AA t.ca i).AaF=b3;generalize NO (AA t.ca i).Abq (AA t.ca i).AaZ=b4;cases b1
 .rfl
 grind
theorem vH(hf:A0 t)(q:0<=i)(u:i<t.ca.length):J2 t i=Y (JE t i):=by
 have y:=hf.ename _ (AI q u);have z:=hf.c9;unfold J2 JE D7;dsimp only;rw[AD q u,bs,QR U,bs,BX (λj=>(AA t.ca j).gp==(AA t.ca i).gp) 5]
 .simp only[Au (show -9223372036854775808<=(t.bq.length:Int)-1 by omega) U,sH,bs];generalize FT (AA t.ca i).gp=b1;generalize gh (λj=>(AA t.ca j).gp==(AA t.ca i).gp) 0 i=b2;generalize NO (AA t.ca i).Aa0 (AA t.ca i).AaF=b3;generalize NO (AA t.ca i).Abq (AA t.ca i).AaZ=b4;cases b1
  .rfl
  .cases b2
   .cases b3<;>cases b4
    all_goals
     by_cases f:0<=(AA t.ca i).fu/\(AA t.ca i).fu<t.bq.length
     .have d:(AA t.ca i).fu<=(t.bq.length:Int)-1:=U
      by_cases w:0<=(AA t.ca i).To/\(AA t.ca i).To<t.bq.length
      .have h:(AA t.ca i).To<=(t.bq.length:Int)-1:=U
       simp [f,w,d,h,CI]
      .have:(decide (0<=(AA t.ca i).To)&&decide ((AA t.ca i).To<=(t.bq.length:Int)-1))=T:=g_
       simp [f,w,d,this,CI]
     .have:(decide (0<=(AA t.ca i).fu)&&decide ((AA t.ca i).fu<=(t.bq.length:Int)-1))=T:=g_
      simp [f,this,CI]
   .rfl
 grind [AD]
def BF(t:AC):ByteArray×Int:=
 if t.bq.length=0 then(⟨#[]⟩,7)else if 12<t.bq.length\/20<t.ca.length then(⟨#[]⟩,3)else
 match fst (λi=>(nz (IG t i)).map λe=>((AA t.bq i).gp,e)) 0 t.bq.length with
 |some r=>r|none=>(fst (λi=>(nz (JE t i)).map λe=>((AA t.ca i).gp,e)) 0 t.ca.length).getD (⟨#[]⟩,0)
theorem lP(h:IG t i=0):-1<=par t i/\par t i<i:=by grind[IG,par,AA]
theorem OP{α β:Type}{o:Option α}{g:α->β}:o.map g=W↔o=W:=by cases o<;>simp
theorem W4(h:∀j,0<=j->j<i->IG t j=0):Ea t i:=λj d f=>lP (h j d f)
theorem Vu{ρ:Type}(e:Int)(n:ByteArray):(if(!decide (e=0))=X then Y (CF.ret (n,e))else Y (CF.next ()))=Y (Mt ((nz e).map λe=>(n,e))):=by grind[nz,Mt]
theorem OU(hf:A0 t):Dy t=Y (BF t):=by
 unfold Dy BF;rw[Bp (λi=>(nz (IG t i)).map λe=>((AA t.bq i).gp,e)),E4]
 .rw[Bp (λi=>(nz (JE t i)).map λe=>((AA t.ca i).gp,e)),E4]
  .cases fst (λi=>(nz (IG t i)).map λe=>((AA t.bq i).gp,e)) 0 t.bq.length<;>cases fst (λi=>(nz (JE t i)).map λe=>((AA t.ca i).gp,e)) 0 t.ca.length
   all_goals dsimp only
   all_goals try simp only[w?]
   all_goals
    simp only[bs,p0,A!,kp,A?,decide_eq_false_iff_not,B_,B',B!,ne_eq]
    repeat' (first|rfl|(exfalso;omega;done)|split)
    all_goals (first|rfl|(exfalso;omega)|omega|simp_all|(simp_all;omega))
  .intro i d f _;rw[AD d f,bs,uk hf d f,bs];exact Vu (ρ:=Unit) _ _
 .intro i d f u;have w:Ea t i:=W4 λj h q=>OQ.1 (OP.1 (u j h q));rw[AD d f,bs,uw hf d f w,bs];exact Vu (ρ:=Unit) _ _
theorem P1(hf:A0 t):EW t=Y (BF t):=by
 unfold EW BF;rw[Bp (λi=>(nz (IG t i)).map λe=>((AA t.bq i).gp,e)),E4]
 .rw[Bp (λi=>(nz (JE t i)).map λe=>((AA t.ca i).gp,e)),E4]
  .cases fst (λi=>(nz (IG t i)).map λe=>((AA t.bq i).gp,e)) 0 t.bq.length<;>cases fst (λi=>(nz (JE t i)).map λe=>((AA t.ca i).gp,e)) 0 t.ca.length
   all_goals dsimp only
   all_goals try simp only[w?]
   all_goals
    simp only[bs,p0,A!,kp,A?,decide_eq_false_iff_not,B_,B',B!,ne_eq]
    repeat' (first|rfl|(exfalso;omega;done)|split)
    all_goals (first|rfl|(exfalso;omega)|omega|simp_all|(simp_all;omega))
  .intro i d f _;simp only[vH hf d f,AD d f,bs];exact Vu (ρ:=Unit) _ _
 .intro i d f u;have w:Ea t i:=W4 λj h q=>OQ.1 (OP.1 (u j h q));simp only[vL hf d f w,AD d f,bs];exact Vu (ρ:=Unit) _ _
end Go.Sf.Sc
namespace Go.Sf.Sc
open Go Go.Sf
theorem Jy{α:Type}{c:Bool}{a b:α}:(if c=X then Y a else Y b)=Y (if c=X then a else b):=by cases c<;>rfl
def Mf(n:Int):Bool:=(decide (0<=n))&&(decide (n<=99))
def TS(e:B3)(n:Int):Bool:=Mf e.fd&&(decide (0<=e.fu)&&decide (e.fu<n))&&(decide (0<=e.To)&&decide (e.To<n))
def B8(g:ci):Int:=
 if 40<g.bq.length\/80<g.ca.length then 3 else if(g.bq.any λn=>!Mf n)=X then 6 else if(g.ca.any λe=>!TS e g.bq.length)=X then 6 else 0
structure Bz(g:ci):Prop where
 c9:g.bq.length<=40
 d6:g.ca.length<=80
 kind:∀n∈g.bq,0<=n/\n<=99
 fit:∀e∈g.ca,(0<=e.fd/\e.fd<=99)/\(0<=e.fu/\e.fu<g.bq.length)/\(0<=e.To/\e.To<g.bq.length)
variable{g:ci}
theorem Dw(h:B8 g=0):Bz g:=by
 unfold B8 at h;split at h
 .cases h
 .split at h
  .cases h
  .split at h
   .cases h
   .rename_i q f d;refine⟨U,U,λn j=>?_,λe he=>?_⟩
    .rw[C',D']at f
     grind [Mf]
    .rw[C',D']at d;have:=d e he;simp[TS,Mf,A?,p0]at this;omega
theorem uo{e:B3}{n:Nat}(h:n<=40):NW e n=Y (TS e n):=by
 unfold NW Hv TS Mf;simp only[bs,Au (show -9223372036854775808<=(n:Int)-1 by omega) U];have d:decide (e.fu<=(n:Int)-1)=decide (e.fu<n):=i!
 have f:decide (e.To<=(n:Int)-1)=decide (e.To<n):=i!
 rw [d,f];generalize (decide (0<=e.fd)&&decide (e.fd<=99))=b1;generalize (decide (0<=e.fu)&&decide (e.fu<n))=b2;cases b1<;>cases b2<;>simp
theorem M5(g:ci):Dh g=Y (B8 g):=by
 unfold Dh B8;by_cases h:40<g.bq.length\/80<g.ca.length
 .grind
 .rw[aN a!,aN h,show Md=(λn=>Y (!Mf n))from rfl,bR,Yf (p:=λe=>!TS e g.bq.length) (λe _=>by
   grind [Me,uo])]
  grind
theorem M6(g:ci):EX g=Y (B8 g):=by
 unfold EX B8;by_cases h:40<g.bq.length\/80<g.ca.length
 .grind
 .rw[aN a!,aN h,GY,GY,BX (λi=>!Mf (AA g.bq i)) 6]
  .rw[BX (λi=>!TS (AA g.ca i) g.bq.length) 6]
   .cases gh (λi=>!Mf (AA g.bq i)) 0 g.bq.length
    .cases gh (λi=>!TS (AA g.ca i) g.bq.length) 0 g.ca.length<;>rfl
    .rfl
   .intro i d f _;rw[AD d f,bs];unfold Om TS;simp[show∀n,Lk n=Y (Mf n)from λ_=>rfl]
    grind
  grind [AD,Lk,AA,Mf]
def C1(t:AC)(g:ci):Bool:=!(g.bq.any λn=>decide (t.bq.length<=n))&&!(g.ca.any λe=>decide (t.ca.length<=e.fd))
variable{t:AC}
theorem ET(d:Bz g)(h:C1 t g=X):(∀n∈g.bq,0<=n/\n<t.bq.length)/\∀e∈g.ca,0<=e.fd/\e.fd<t.ca.length:=by
 unfold C1 at h;simp[A?,p0]at h;refine⟨λn f=>?_,λe he=>?_⟩
 .have:=h.1 n f;have:=d.kind n f;omega
 .have:=h.2 e he;have:=d.fit e he;omega
theorem sA(t:AC)(g:ci):J7 t g=Y (C1 t g):=by grind[J7,C1,Ny,bR,Nz,B3,fX]
theorem Y7(h:Bz g):Hi t g=Y (C1 t g):=by
 unfold Hi C1;rw[GY,GY,BX (λi=>decide (t.bq.length<=AA g.bq i)) T]
 .rw[BX (λi=>decide (t.ca.length<=(AA g.ca i).fd)) T]
  .cases gh (λi=>decide (t.bq.length<=AA g.bq i)) 0 g.bq.length
   .cases gh (λi=>decide (t.ca.length<=(AA g.ca i).fd)) 0 g.ca.length<;>rfl
   .rfl
  .intro i d f _;have:=(h.fit _ (AI d f)).1.1;simp[AD d f]
   grind
 .intro i d f _;have:=(h.kind _ (AI d f)).1;simp[AD d f]
  grind
structure Eb(t:AC):Prop where
 c9:t.bq.length<=12
 d6:t.ca.length<=20
 node:∀i:Int,0<=i->i<t.bq.length->IG t i=0
 edge:∀i:Int,0<=i->i<t.ca.length->JE t i=0
theorem DT(h:(BF t).2=0):Eb t:=by
 unfold BF at h;split at h
 .cases h
 .split at h
  .cases h
  .rename_i w y;have f:∀i:Int,0<=i->i<t.bq.length->IG t i=0:=by
    grind [Db,nz,OQ,OP,BY]
   have he:∀i:Int,0<=i->i<t.ca.length->JE t i=0:=by
    split at h
    next r d=>obtain⟨i,q,u,j,_⟩:=Db d;rw[f i q u]at j;cases j
    .cases d:fst (λi=>(nz (JE t i)).map λe=>((AA t.ca i).gp,e)) 0 t.ca.length with
     |some r=>
      grind [Db,nz]
     |none=>
      grind [OQ,OP,BY]
   exact ⟨U,U,f,he⟩
theorem Eb.par(h:Eb t):Ea t t.bq.length:=W4 h.node
variable{i:Int}
theorem Eb.ends(h:Eb t)(d:0<=i)(f:i<t.ca.length):(0<=(AA t.ca i).fu/\(AA t.ca i).fu<t.bq.length)/\(0<=(AA t.ca i).To/\(AA t.ca i).To<t.bq.length):=by
 have:=h.edge i d f
 grind [JE]
def Kq(t:AC)(a:Int):Bool:=decide (0<=a)&&decide (a<t.bq.length)
variable{a:Int}
theorem Li:Kq t a=X↔0<=a/\a<t.bq.length:=by unfold Kq;simp
theorem Y2(hf:A0 t)(l:Fp):Gs t l=Y (if(BF t).2≠0 then(BF t).2 else if(l.all (Kq t))=X then 0 else 6):=by
 unfold Gs;rw[OU hf,bs,SH (p:=λa=>!Kq t a) (λa _=>by unfold Mp Kq;rw[show decide (a<0)=!decide (0<=a)from by rw[<-decide_not,decide_eq_decide];omega,show decide ((t.bq.length:Int)<=a)=!decide (a<t.bq.length)from by rw[<-decide_not,decide_eq_decide];omega,Bool.not_and]),bs]
 grind
theorem gW(hf:A0 t)(a b:Int):Hh t a b=Y (if(BF t).2≠0 then(BF t).2 else if(Kq t a&&Kq t b)=X then 0 else 6):=by
 have d:=hf.c9;have e:∀a,decide (a<=(t.bq.length:Int)-1)=decide (a<(t.bq.length:Int)):=λa=>i!
 unfold Hh D7;rw[P1 hf,bs]
 grind [Au,BF,Kq]
theorem mQ{α:Type}[Inhabited α]{l:List α}(d:0<=i)(f:i<l.length):BN l i (AA l i)=l:=by grind[BN,AA,D!,List.set_getElem_self]
theorem Cw{α:Type}[Inhabited α]{l:List α}(d:0<=i)(f:i<l.length):l.take (i+1).toNat=l.take i.toNat++[AA l i]:=by
 unfold AA;rw[show(i+1).toNat=i.toNat+1 by omega,List.take_add_one,D?,D! U];rfl
theorem BM{α:Type}{l:List α}(h:l.length<=Ak):Ax [] l=Y l:=by grind[Ao]
def HQ(t:AC)(a:Int):List gi×Int:=if(BF t).2≠0 then([],(BF t).2)else if Kq t a=X then(BC t a,0)else([],6)
theorem SQ(hf:A0 t)(a:Int):FG t a=Y (HQ t a):=by
 unfold FG HQ;rw[Y2 hf,bs];by_cases h:(BF t).2=0
 .have j:=DT h;have e:[a].all (Kq t)=Kq t a:=V
  rw [e];simp[h];cases hi:Kq t a
  .rfl
  .rw[aE rfl,aE rfl];have q:=Li.1 hi;have F:=Ju hf (y_ _) j.par q.2;have D:=NN hf (y_ _) j.par q.2;rw[aN a_,gI hf (y_ _) j.par q.1 q.2,bs];obtain⟨s',E,rfl⟩:=QG (f:=(λ(u:Int)(w:List gi)=>
 (idx w u).bind λy=>
 (slices_Clone_string y.mo).bind λz=>
 (idx w u).bind λd=>
 Y (BN w u (gi.mk d.gp d.Low d.Aag z)))) (λ_ s=>s=BC t a) (a:=0) (b:=(BC t a).length) (s:=BC t a) U rfl (λi s A B C=>by
     subst C;have:=(D _ (AI A B)).names;refine⟨BC t a,?_,rfl⟩;unfold slices_Clone_string;rw[AD A B,bs,BM a?,bs,bs];congr 1;exact mQ A B)
   rw [E];rfl
 .simp[h,not_false_eq_true,decide_false]
theorem Y4(hf:A0 t)(a:Int):Fr t a=Y (HQ t a):=by
 unfold Fr HQ;rw[gW hf,bs];by_cases h:(BF t).2=0
 .have d:=DT h;rw[Bool.and_self];simp only[h,ne_eq,not_true_eq_false,if_false];cases hi:Kq t a
  .rfl
  .rw[aE rfl,aE rfl];have f:=Li.1 hi;have w:=Ju hf (y_ _) d.par f.2;have u:=NN hf (y_ _) d.par f.2;rw[aN a_,gU hf (y_ _) d.par f.1 f.2,bs];rw[Bs (λi=>(BC t a).take i.toNat) U V]
   .rw[bs,y!,E_]
   .intro i j q;have:=(u _ (AI j q)).names;rw[AD j q,bs,BM a?,bs,Ao (by rw[ae];simp;unfold Ak;omega),Cw j q];rfl
 grind
theorem Hb(h:Bz g):B8 g=0:=by
 have:=h.c9;have:=h.d6;unfold B8;rw[aN U,aN,aN]
 .intro k;obtain⟨e,he,k⟩:=E'.1 k;have:=h.fit e he;simp[TS,Mf]at k;omega
 .intro k;obtain⟨n,d,k⟩:=E'.1 k;have:=h.kind n d;simp[Mf]at k;omega
end Go.Sf.Sc
namespace Go.Sf.Sc
open Go Go.Sf
def Gc(t:AC):Nat->Int->Fp
 |0,_=>[]|n+1,a=>if a<0 then[]else a::Gc t n (par t a)
variable{t:AC}{k:Int}
theorem mw(f:Ea t k):∀(n m:Nat)(a:Int),a<k->a<n->a<m->Gc t n a=Gc t m a
 |n,m,a,h,j,q=>by
  by_cases d:a<0
  .cases n<;>cases m<;>simp[Gc,d]
  .cases n with
   |zero=>omega|succ n=>
    cases m with
    |zero=>omega|succ m=>
     rw [Gc,Gc,aN d,aN d];have:=f a U h;rw[mw f n m (par t a) U U U]
theorem hU(t:AC):∀(n:Nat)(a:Int),(Gc t n a).length<=n
 |0,_=>by simp[Gc]|n+1,a=>by
  rw [Gc];split
  .simp
  .have:=hU t n (par t a);simp;omega
def isB(t:AC)(a b:Int):Bool:=(Gc t (a+1).toNat a).any λx=>decide (b=x)
theorem fz(f:t.bq.length<=12)(u:Ea t t.bq.length):∀(n:Nat)(a:Int)(l:Fp),a<t.bq.length->a<n->l.length+n<=1000 ->
  ∃x,Ms (ρ:=Fp) (λ(d:Int×Fp)=>
 if (decide (0<=d.1))=X then
 (Ax d.2 [d.1]).bind λh=>
 (idx t.bq d.1).bind λj=>
 Y (.next (j.k7,h))
 else
 Y (.brk (d.1,d.2))) (a,l) (.inl (x,l++Gc t n a))
 |0,a,l,q,w,_=>by
  refine ⟨a,.brk ?_⟩
  grind [Gc]
 |n+1,a,l,q,w,B=>by
  by_cases y:a<0
  .refine⟨a,.brk ?_⟩
   grind [Gc]
  .have z:=u a U q;obtain⟨x,A⟩:=fz f u n (par t a) (l++[a]) U U a!;refine⟨x,.next (s':=(par t a,l++[a])) ?_ ?_⟩
   .rw[aE a!,Ao b_,bs,AD U q];rfl
   grind [Gc,par]
variable{a b:Int}
theorem oL(h:Eb t)(q:0<=a)(d:a<t.bq.length):KF t a b=Y (isB t a b):=by
 have f:=h.c9;obtain⟨x,j⟩:=fz f h.par (a+1).toNat a [] d U a!;have u:=hU t (a+1).toNat a;unfold KF Ly;rw[j.eq,CI]
 grind [slices_Reverse_int,Ak,K5,isB]
theorem cy(d:Ea t t.bq.length)(j:0<=b):∀(n m:Nat)(a:Int),-1<=a->a<t.bq.length->a+1<n->a<m->Dt n t a b=Y ((Gc t m a).any λx=>decide (b=x))
 |0,_,_,_,_,_,_=>by omega|n+1,m,a,u,h,w,y=>by
  rw [Dt];by_cases f:a<0
  .rw[aN a!,aN a!];cases m<;>simp[Gc,f]
  .cases m with
   |zero=>omega|succ m=>
    have q:=d a U h;rw[Gc,aN f,List.any_cons,aE (show decide (0<=a)=X by simp;omega),AD U h];simp;rw[show(AA t.bq a).k7=par t a from rfl,cy d j n m (par t a) U U U U]
    grind
theorem Y5(h:Eb t)(j:0<=a)(d:a<t.bq.length)(f:0<=b):H4 t a b=Y (isB t a b):=
 Gb (a+2).toNat λn q=>cy h.par f n (a+1).toNat a U d U U
def Ld(t:AC)(e f g:Int):Bool:=
 decide ((BF t).2=0)&&(Kq t f&&Kq t g)&&(decide (0<=e)&&decide (e<t.ca.length))&&(isB t f (AA t.ca e).fu&&isB t g (AA t.ca e).To)
theorem cY(hf:A0 t)(e f g:Int):Hf t e f g=Y (Ld t e f g):=by
 unfold Hf Ld;rw[Y2 hf,bs,show[f,g].all (Kq t)=(Kq t f&&Kq t g)by simp];by_cases h:(BF t).2=0
 .simp only[h,ne_eq,not_true_eq_false,if_false];have d:=DT h;cases hi:(Kq t f&&Kq t g)
  .rfl
  .rw[kp,Li,Li]at hi;by_cases he:0<=e/\e<t.ca.length
   .rw[aN a!,AD he.1 he.2];simp[oL d hi.1.1 hi.1.2,oL d hi.2.1 hi.2.2,he.1,he.2,decide_true]
    grind
   grind
 .simp[h]
theorem cv(hf:A0 t)(e f g:Int):F8 t e f g=Y (Ld t e f g):=by
 have w:=hf.d6;unfold F8 Ld D7;rw[gW hf,bs];by_cases h:(BF t).2=0
 .simp only[h,ne_eq,not_true_eq_false,if_false];have d:=DT h;cases hi:(Kq t f&&Kq t g)
  .rfl
  .rw[kp,Li,Li]at hi;rw[Au U U];simp only[bs];by_cases he:0<=e/\e<t.ca.length
   .have j:=d.ends he.1 he.2;have q:e<=(t.ca.length:Int)-1:=U
    rw [aN V,bs,aN (by simp[he.1,q]),AD he.1 he.2];simp[Y5 d hi.1.1 hi.1.2 j.1.1,Y5 d hi.2.1 hi.2.2 j.2.1,he.1,he.2,decide_true];cases isB t f (AA t.ca e).fu<;>rfl
   .have:(decide (0<=e)&&decide (e<t.ca.length))=T:=by rw[B?];simpa using he
    have u:(decide (0<=e)&&decide (e<=(t.ca.length:Int)-1))=T:=g_
    rw [this,u];simp
 .simp[h]
def N3(n:Int)(x:f0):Bool:=(((decide ((-1)<=x.Var))&&(decide (x.Var<n)))&&(decide ((-1000000)<=x.Add)))&&(decide (x.Add<=1000000))
def Oy(n:Int)(x:Test):Int:=if¬x.gN=1/\¬x.gN=2 then 1 else if(N3 n x.ec&&N3 n x.d4)=X then 0 else 6
def KW(n:Int)(l:List Test):Int:=if n<0\/12<n then 6 else if 40<l.length then 3 else(fst (λi=>nz (Oy n (AA l i))) 0 l.length).getD 0
theorem u7(n:Int)(x:Test):JT n x=Y (Oy n x):=by
 unfold JT Oy;simp only[show∀n x,Ic n x=Y (N3 n x)from λ_ _=>rfl,bs];generalize N3 n x.ec=b1;generalize N3 n x.d4=b2;cases b1<;>cases b2
 all_goals
  simp only[bs,p0,A!,kp,A?,decide_eq_false_iff_not,B_,B',B!,ne_eq]
  repeat' (first|rfl|(exfalso;omega;done)|split)
  all_goals (first|rfl|(exfalso;omega)|omega|simp_all|(simp_all;omega))
theorem oY(n:Int)(x:f0):Jd n x=Y (if N3 n x=X then 0 else 6):=by
 unfold Jd N3;simp only[bs,p0,A!,kp,A?,decide_eq_false_iff_not,B_,B',B!,ne_eq]
 repeat' (first|rfl|(exfalso;omega;done)|split)
 all_goals (first|rfl|(exfalso;omega)|omega|simp_all|(simp_all;omega))
theorem vR(n:Int)(x:Test):O9 n x=Y (Oy n x):=by
 unfold O9 Oy;simp only[oY,bs];generalize N3 n x.ec=b1;generalize N3 n x.d4=b2;cases b1<;>cases b2
 all_goals
  simp only[bs,p0,A!,kp,A?,decide_eq_false_iff_not,B_,B',B!,ne_eq]
  repeat' (first|rfl|(exfalso;omega;done)|split)
  all_goals (first|rfl|(exfalso;omega)|omega|simp_all|(simp_all;omega))
theorem r9(n:Int)(l:List Test):Hu n l=Y (KW n l):=by
 unfold Hu KW;rw[Bp (λi=>nz (Oy n (AA l i))),Ck]
 .simp only[bs,p0,A!,kp,A?,decide_eq_false_iff_not,B_,B',B!,ne_eq]
  repeat' (first|rfl|(exfalso;omega;done)|split)
  all_goals (first|rfl|(exfalso;omega)|omega|simp_all|(simp_all;omega))
 .intro i d f _;rw[AD d f,bs,u7,bs,LC]
theorem sS(n:Int)(l:List Test):MH n l=Y (KW n l):=by
 unfold MH KW;rw[Bp (λi=>nz (Oy n (AA l i))),Ck]
 .simp only[bs,p0,A!,kp,A?,decide_eq_false_iff_not,B_,B',B!,ne_eq]
  repeat' (first|rfl|(exfalso;omega;done)|split)
  all_goals (first|rfl|(exfalso;omega)|omega|simp_all|(simp_all;omega))
 .intro i d f _;rw[AD d f,bs,vR,bs,LC]
def TK(t:AC)(p:d5)(node ix:Int):gi×Bool:=
 if node<0\/p.ci.bq.length<=node then(default,T)else
 let l:=(HQ t (AA p.ci.bq node)).1
 if ix<0\/l.length<=ix then(default,T)else(AA l ix,X)
theorem XX(hf:A0 t)(a:Int):(HQ t a).1.length<=600/\((HQ t a).2≠0->(HQ t a).1=[]):=by
 unfold HQ;split
 .simp
 .rename_i h;have d:=DT (t:=t) U;split
  next hi=>exact⟨Ju hf (y_ _) d.par (Li.1 hi).2,V⟩
  .simp
variable{p:d5}
theorem rn(hf:A0 t)(d:Bz p.ci)(s:Dj):Ge t p s=Y (TK t p s.nd s.gi):=by
 have j:=d.c9;unfold Ge TK C5;dsimp only;rw[Au U U,bs];by_cases h:s.nd<0\/p.ci.bq.length<=s.nd
 .rw[aE a!,aE h];rfl
 .rw[aN a!,aN h,AD U U,bs,SQ hf,bs];have q:=(XX hf (AA p.ci.bq s.nd)).1;rw[Au U U,bs];by_cases f:s.gi<0\/(HQ t (AA p.ci.bq s.nd)).1.length<=s.gi
  .rw[aE a!,aE f];rfl
  grind [AD]
theorem sG(hf:A0 t)(node d:Int):Nr t p node d=Y (TK t p node d):=by
 unfold Nr TK;dsimp only;by_cases h:node<0\/p.ci.bq.length<=node
 .rw[aE a!,aE h];rfl
 .rw[aN a!,aN h,AD U U,bs,Y4 hf,bs];have j:=(XX hf (AA p.ci.bq node)).2;by_cases f:d<0\/(HQ t (AA p.ci.bq node)).1.length<=d
  .rw[aE a!,aE f];rfl
  grind [HQ,AA,AD]
end Go.Sf.Sc
namespace Go.Sf
variable{σ ρ:Type}
def vg(s:σ)(o:Option ρ):CF σ ρ:=match o with
 |none=>.next s|some r=>.ret r
def qr(s:σ)(o:Option ρ):σ ⊕ ρ:=match o with
 |none=>.inl s|some r=>.inr r
theorem bv{f:Int->σ->Option (CF σ ρ)}(g:Int->σ)(c:Int->Option ρ):∀(n:Nat)(a:Int),
  (∀i,a<=i->i<a+n->(∀j,a<=j->j<i->c j=W)->f i (g i)=Y (vg (g (i+1)) (c i)))->tl f n a (g a)=Y (qr (g (a+n)) (Fm c n a))
 |0,a,_=>by simp[tl,Fm,qr]|n+1,a,h=>by
  have u:=h a (y_ _) U (λj d q=>U);rw[FJ,u,Fm];cases A:c a with
  |some r=>rfl|none=>
   simp only[vg];rw[show a+((n+1:Nat):Int)=a+1+n by omega];refine bv g c n (a+1) (λi d q w=>h i U U (λj y z=>?_))
   grind
variable{a b:Int}
theorem Vo{f:Int->σ->Option (CF σ ρ)}(g:Int->σ)(c:Int->Option ρ){s:σ}(d:a<=b)(q:s=g a)(h:∀i,a<=i->i<b->(∀j,a<=j->j<i->c j=W)->f i (g i)=Y (vg (g (i+1)) (c i))):fq f a b s=Y (qr (g b) (fst c a b)):=by
 subst q;unfold fq fst;have:=bv g c (b-a).toNat a (λi u y w=>h i u U w)
 grind
variable{α:Type}
variable{e:Int}
theorem Dz{ζ:Ne}{δ:Int}(h:e=0->ζ=Y δ):(if(!decide (e=0))=X then Y e else ζ)=Y (if e≠0 then e else δ):=o2
variable{v:α}{ζ:Option α}{δ:α}
theorem Gf(h:e=0->ζ=Y δ):(if(!decide (e=0))=X then Y v else ζ)=Y (if e≠0 then v else δ):=o2
variable{P:Prop}
theorem PY[Decidable P]{b:Bool}(d:b=X↔P)(h:¬P->ζ=Y δ):(if b=X then Y v else ζ)=Y (if P then v else δ):=o2
theorem Uq{b:Bool}(h:b=X->ζ=Y δ):(if(!b)=X then Y v else ζ)=Y (if b=T then v else δ):=o2
theorem fZ{b:Bool}(h:b=T->ζ=Y δ):(if b=X then Y v else ζ)=Y (if b=X then v else δ):=o2
end Go.Sf
namespace Go.Sf.Sc
open Go Go.Sf
def TM(t:AC)(p:d5)(s:Dj):Bool:=!(TK t p s.nd s.gi).2||decide (s.f0.Var< -1)||decide (p.eT<=s.f0.Var)||(decide (s.f0.Add< -1000000)||decide (1000000<s.f0.Add))
def LD(p:d5)(v:Int):Bool:=p.em.any λs=>decide (s.f0.Var=v)
def IL(t:AC)(p:d5):Int:=
 if (BF t).2≠0 then(BF t).2 else if B8 p.ci≠0 then B8 p.ci else if C1 t p.ci=T then 13 else
 if p.eT<0\/12<p.eT then 6 else if 10<p.em.length\/10<p.j4.length then 3 else
 if (p.em.any (TM t p))=X then 6 else if KW p.eT p.j4≠0 then KW p.eT p.j4 else
 if gh (λv=>!LD p v) 0 p.eT=X then 9 else 0
def KH(p:d5)(i:Int):QQ:=(E! p.eT.toNat).map λ(v:Nat)=>(p.em.take i.toNat).any λs=>decide (s.f0.Var=(v:Int))
variable{p:d5}
theorem kE:KH p 0=List.replicate p.eT.toNat T:=by
 unfold KH;refine E? V (λn d f=>V)
theorem mz(p:d5)(i:Int):(KH p i).length=p.eT.toNat:=by simp[KH]
variable{i:Int}
theorem m7(d:0<=i)(f:i<p.em.length)(hv:0<=(AA p.em i).f0.Var):BN (KH p i) (AA p.em i).f0.Var X=KH p (i+1):=by
 unfold BN;refine E? (by simp[KH]) (λn h j=>?_);simp[KH,Cw d f]
 grind
theorem kD(d:0<=i)(f:i<p.em.length)(hv:(AA p.em i).f0.Var<0):KH p i=KH p (i+1):=by
 refine E? (by simp[KH]) (λn h j=>?_);simp[KH,Cw d f]
 grind
theorem my(p:d5):((KH p p.em.length).any λx=>T==x)=gh (λv=>!LD p v) 0 p.eT:=by
 rw [z?,E',D1];simp only[KH,y!,E_,F_,List.mem_range];constructor
 .rintro⟨x,⟨v,hv,rfl⟩,d⟩;refine⟨v,U,U,?_⟩
  grind [LD]
 .rintro⟨v,f,h,d⟩;refine⟨_,⟨v.toNat,U,rfl⟩,?_⟩
  grind [y?,LD]
theorem rP{α ρ:Type}[Inhabited α]{l:List α}{q:α->Bool}{v:ρ}:fst (λi=>if q (AA l i)=X then Y v else W) 0 l.length=if l.any q=X then Y v else W:=by
 rw [O4,GY]
variable{t:AC}
theorem YA(hf:A0 t)(p:d5):Df t p=Y (IL t p):=by
 unfold Df IL;rw[OU hf,bs,M5,bs];refine Dz λH=>Dz λF=>?_;have z:=Dw F;have e:((BE p.ci.bq (λd=>HO d t)).bind λq=>
   (if q=X then Y X else((BV p.ci.ca (λd=>HP d t)).bind λu=>Y (u))))=Y (!C1 t p.ci):=by
  unfold C1;rw[show(λd=>HO d t)=(λ(n:Int)=>Y (decide (t.bq.length<=n)))from rfl,bR,show(λd=>HP d t)=(λ(e:B3)=>Y (decide (t.ca.length<=e.fd)))from rfl,fX];simp only[bs];cases p.ci.bq.any λn=>decide (t.bq.length<=n)<;>simp
 rw [<-x!,e,bs];refine Uq λG=>?_;unfold C5;simp only[bs];refine PY k! λhv=>PY k! λI=>?_;unfold FV;rw[aE U,bs,<-kE,Au (show -9223372036854775808<=p.eT-1 by omega) U,Vo (KH p) (λi=>if TM t p (AA p.em i)=X then Y 6 else W) U rfl,rP]
 .cases f:p.em.any (TM t p)
  .simp only[A',if_false,qr,CI,r9,bs,fe,my];by_cases h:KW p.eT p.j4=0
   .simp[h];cases gh (λv=>!LD p v) 0 p.eT<;>rfl
   .simp[h]
  .rfl
 .intro i w y _;rw[AD w y,bs,rn hf z,bs];unfold TM;by_cases f:(TK t p (AA p.em i).nd (AA p.em i).gi).2=X
  .by_cases E:(AA p.em i).f0.Var< -1\/p.eT<=(AA p.em i).f0.Var
   .have A:(decide (-1<=(AA p.em i).f0.Var)&&decide ((AA p.em i).f0.Var<=p.eT-1))=T:=g_
    have B:(decide ((AA p.em i).f0.Var< -1)||decide (p.eT<=(AA p.em i).f0.Var))=X:=a!
    rw [f,A,C! (!X),B];rfl
   .have A:(decide (-1<=(AA p.em i).f0.Var)&&decide ((AA p.em i).f0.Var<=p.eT-1))=X:=a!
    have B:(decide ((AA p.em i).f0.Var< -1)||decide (p.eT<=(AA p.em i).f0.Var))=T:=g_
    rw [f,A,C! (!X),B];by_cases J:(AA p.em i).f0.Add< -1000000\/1000000<(AA p.em i).f0.Add
    .have C:(decide (-1000000<=(AA p.em i).f0.Add)&&decide ((AA p.em i).f0.Add<=1000000))=T:=g_
     have D:(decide ((AA p.em i).f0.Add< -1000000)||decide (1000000<(AA p.em i).f0.Add))=X:=a!
     rw [C,D];rfl
    .have C:(decide (-1000000<=(AA p.em i).f0.Add)&&decide ((AA p.em i).f0.Add<=1000000))=X:=a!
     have D:(decide ((AA p.em i).f0.Add< -1000000)||decide (1000000<(AA p.em i).f0.Add))=T:=g_
     rw [C,D];by_cases j:0<=(AA p.em i).f0.Var
     .simp[j,decide_true];rw[AD j (by rw[mz];omega),bs,m7 w y j];rfl
     .simp[j,decide_false];rw[kD w y U];rfl
  .rw[C']at f;rw[f];rfl
theorem qY(p:d5)(v:Int):LI p v=Y (LD p v):=by
 unfold LI LD;rw[BX (λi=>decide ((AA p.em i).f0.Var=v)) X,GY]
 .cases gh (λi=>decide ((AA p.em i).f0.Var=v)) 0 p.em.length<;>rfl
 .intro i d f _;rw[AD d f,bs,Jy]
theorem je(hf:A0 t)(p:d5):I5 t p=Y (IL t p):=by
 unfold I5 IL;rw[P1 hf,bs,M6,bs];refine Dz λw=>Dz λq=>?_;have f:=Dw q;rw[Y7 f,bs];refine Uq λu=>PY k! λhv=>PY k! λy=>?_;rw[BX (λi=>TM t p (AA p.em i)) 6,<-GY]
 .cases z:p.em.any (TM t p)
  .simp only[A',if_false,CI,sS,bs];by_cases d:KW p.eT p.j4=0
   .simp only[d];rw[BX (λv=>!LD p v) 9]
    .cases gh (λv=>!LD p v) 0 p.eT<;>rfl
    .intro i h j _;rw[qY,bs,Jy]
   .simp[d]
  .rfl
 .intro i h j _;rw[AD h j,bs,sG hf,bs];unfold TM Mj
  grind
def Ow(t:AC)(p:d5)(i:Int):Int:=
 let s:=AA p.em i
 if s.nd<0\/p.ci.bq.length<=s.nd then 6 else
 let l:=(HQ t (AA p.ci.bq s.nd)).1
 if ((((((decide (s.gi<0))||(decide ((l.length:Int)<=s.gi)))||(decide (s.f0.Var<(-1))))||(decide (p.eT<=s.f0.Var)))||(decide (s.f0.Add<(-1000000))))||(decide (1000000<s.f0.Add)))=X then 6 else
 if gh (λj=>(decide ((AA p.em j).nd=s.nd))&&(decide ((AA p.em j).gi=s.gi))) 0 i=X then 5 else 0
theorem uy(hf:A0 t)(r:ei)(d:0<=i)(f:i<r.d4.em.length):LQ t r i=Y (Ow t r.d4 i):=by
 unfold LQ Ow;dsimp only;rw[AD d f,bs];refine PY V λh=>?_;rw[AD U U,bs,SQ hf,bs,Mv d U,bs,
  show (λj=>Ov j (AA r.d4.em i))=(λy=>Y ((decide (y.nd=(AA r.d4.em i).nd))&&(decide (y.gi=(AA r.d4.em i).gi))))from rfl,fY,bs,QC d U]
 grind
theorem vP(hf:A0 t)(p:d5)(d:0<=i)(f:i<p.em.length):Nt t p i=Y (Ow t p i):=by
 unfold Nt Ow;dsimp only;rw[AD d f,bs];refine PY V λh=>?_;rw[AD U U,bs,Y4 hf,bs,
  BX (λj=>(decide ((AA p.em j).nd=(AA p.em i).nd))&&(decide ((AA p.em j).gi=(AA p.em i).gi))) 5]
 .refine fZ λ_=>?_;cases gh (λj=>(decide ((AA p.em j).nd=(AA p.em i).nd))&&(decide ((AA p.em j).gi=(AA p.em i).gi))) 0 i<;>rfl
 grind [AD,AA,gi]
def KU(t:AC)(r:ei):Int:=
 if B8 r.d4.ci≠0 then B8 r.d4.ci else if C1 t r.d4.ci=T then 13 else
 if r.d4.eT≠r.ec.eT\/0<r.d4.j4.length then 1 else if 10<r.d4.em.length then 3 else
 (fst (λi=>nz (Ow t r.d4 i)) 0 r.d4.em.length).getD 0
theorem r6(hf:A0 t)(r:ei):J6 t r=Y (KU t r):=by
 unfold J6 KU;rw[M5,bs,sA,bs,Bp (λi=>nz (Ow t r.d4 i)),Ck]
 .grind
 grind [uy,LC]
theorem sP(hf:A0 t)(r:ei):MQ t r=Y (KU t r):=by
 unfold MQ KU;rw[M6,bs];refine Dz λd=>?_;rw[Y7 (Dw d),bs,Bp (λi=>nz (Ow t r.d4 i)),Ck]
 .grind
 grind [vP,LC]
end Go.Sf.Sc
namespace Go.Sf
variable{a b:Int}
theorem ip{ρ:Type}{c d:Int->Option ρ}(h:∀i,c i=d i):fst c a b=fst d a b:=by rw[funext h]
def A4(l:Fp)(v:Int):Int:=(fst (λi=>if decide (v=AA l i)=X then Y i else W) 0 l.length).getD (-1)
variable{l:Fp}
theorem B0{v:Int}(h:v∈l):0<=A4 l v/\A4 l v<l.length/\AA l (A4 l v)=v/\∀j,0<=j->j<A4 l v->AA l j≠v:=by
 unfold A4;cases hf:fst (λi=>if decide (v=AA l i)=X then Y i else W) 0 l.length with
 |none=>
  grind [BT,BY]
 |some k=>
  grind [Db,AA]
variable{R:Int->Int->Prop}
theorem Ka(h:l.Pairwise R){i j:Int}(d:0<=i)(f:i<j)(q:j<l.length):R (AA l i) (AA l j):=by grind[F!,AA,D!]
theorem WH(h:∀i j:Int,0<=i->i<j->j<l.length->R (AA l i) (AA l j)):l.Pairwise R:=by
 refine F!.2 (λi j d f q=>?_);have:=h i j U U U;unfold AA at this
 grind
theorem Wn(w:l.Pairwise (·<·)){v:Int}(h:v∈l):(l.countP (λx=>decide (x<v)):Int)=A4 l v:=by
 obtain ⟨y,z,q,_⟩:=B0 h;generalize F:A4 l v=k at y z q;have e:l=l.take k.toNat++l.drop k.toNat:=(List.take_append_drop _ _).symm;have A:(l.take k.toNat).countP (λx=>decide (x<v))=k.toNat:=by
  rw [List.countP_eq_length.2 (λx d=>?_),ae]
  .omega
  .obtain⟨i,D,E,rfl⟩:=BT d;rw[ae]at E;rw[Py U,p0,<-q];exact Ka w D U z
 have B:(l.drop k.toNat).countP (λx=>decide (x<v))=0:=by
  rw [List.countP_eq_zero];intro x d;obtain⟨n,u⟩:=List.getElem?_of_mem d;rw[List.getElem?_drop]at u;have C:=(List.getElem?_eq_some_iff.1 u).1;have f:x=AA l (k+n):=by
   unfold AA;rw[D?,show(k+(n:Int)).toNat=k.toNat+n by omega,u];rfl
  rw [p0,f,<-q];by_cases j:n=0
  .subst j;simp
  .have:=Ka w y (show k<k+(n:Int)by omega) U;omega
 rw [e,List.countP_append,A,B];omega
end Go.Sf
namespace Go.Sf.Sc
open Go Go.Sf
theorem Yu(l:Fp)(v:Int):slices_Index_int l v=Y (A4 l v):=lF l v
theorem rZ(l:Fp)(n:Int):(eg (fq (ρ:=Int) (λ(h:Int)(_:Unit)=>
 (idx l h).bind λd=>
 if (decide (d=n))=X then
 Y (.ret h)
 else
 Y (.next ())) 0 (l.length:Int) ()) (λ_=>
 Y (-1)) (λj=>Y j))=Y (A4 l n):=by
 have:=Wu (l:=l) (f:=λx=>Y (decide (x=n))) (p:=λx=>decide (x=n)) (λ_ _=>rfl);simp only[bs]at this;rw[this];unfold A4;congr 2;exact ip λi=>by simp[eq_comm]
theorem vK(l:Fp)(v:Int):I4 l v=Y (A4 l v):=rZ l v
def hasB(l:Fp)(v:Int):Bool:=l.any λx=>decide (v=x)
variable{l:Fp}
theorem Ah{v:Int}:hasB l v=X↔v∈l:=by
 unfold hasB
 grind
theorem b8(l:Fp)(n:Int):(eg (fq (ρ:=Bool) (λ(f:Int)(_:Unit)=>
 (idx l f).bind λd=>
 if (decide (d=n))=X then
 Y (.ret X)
 else
 Y (.next ())) 0 (l.length:Int) ()) (λ_=>
 Y T) (λh=>Y h))=Y (hasB l n):=by
 unfold hasB;rw[BX (λi=>decide (n=AA l i)) X,GY]
 .cases gh (λi=>decide (n=AA l i)) 0 l.length<;>rfl
 .intro i j q _;rw[AD j q,bs,Jy];simp[eq_comm]
theorem sK(l:Fp)(v:Int):RD l v=Y (hasB l v):=b8 l v
theorem sJ(l:Fp)(v:Int):PE l v=Y (hasB l v):=b8 l v
def OJ(l:Fp)(n:Int):Int:=(fst (λi=>if AA l i<0\/n<=AA l i then Y 6 else if 0<i/\AA l i<=AA l (i-1)then Y 12 else W) 0 l.length).getD 0
theorem qS(u:l.length<=1000)(n:Int):IV l n=Y (OJ l n):=by
 unfold IV OJ;rw[Bp (λi=>if AA l i<0\/n<=AA l i then Y 6 else if 0<i/\AA l i<=AA l (i-1)then Y 12 else W),Ck];intro i j q _;rw[AD j q,bs];by_cases h:AA l i<0\/n<=AA l i
 .rw[aE c_,aE h];rfl
 .rw[aN c_,aN h];by_cases d:0<i
  .rw[aE c!,Au U U,AD U U,bs,bs];by_cases f:AA l i<=AA l (i-1)
   .rw[aE f_,aE ⟨d,f⟩];rfl
   .rw[aN f_,aN (λh=>f h.2)];rfl
  .rw[aN c!,bs,aN a_,aN (λh=>d h.1)];rfl
theorem qX(w:l.length<=1000)(n:Int):HF l n=Y (OJ l n):=by
 unfold HF OJ;rw[Bp (λi=>if AA l i<0\/n<=AA l i then Y 6 else if 0<i/\AA l i<=AA l (i-1)then Y 12 else W),Ck];intro i j q _;rw[AD j q];simp only[bs];by_cases h:AA l i<0\/n<=AA l i
 .have:(if decide (AA l i<0)=X then Y X else Y (decide (n<=AA l i)))=Y X:=by
   rcases h with h|h
   .simp[h]
   .by_cases u:AA l i<0<;>simp[h,u]
  rw [this,bs,aE rfl,aE h];rfl
 .have:(if decide (AA l i<0)=X then Y X else Y (decide (n<=AA l i)))=Y T:=by
   rw [aN a!,decide_eq_false U]
  rw [this,bs,aN a_,aN h];by_cases d:0<i
  .rw[aE c!,Au U U,AD U U,bs,bs];by_cases f:AA l i<=AA l (i-1)
   .rw[aE f_,aE ⟨d,f⟩];rfl
   .rw[aN f_,aN (λh=>f h.2)];rfl
  .rw[aN c!,bs,aN a_,aN (λh=>d h.1)];rfl
variable{a b:Int}
theorem Qz{c:Int->Ne}(d:∀i,c i≠Y 0)(h:(fst c a b).getD 0=0):∀i,a<=i->i<b->c i=W:=by
 have:fst c a b=W:=by
  cases hf:fst c a b with
  |none=>rfl|some r=>
   grind [w?,Db]
 exact BY.1 this
variable{n:Int}
theorem Uo(h:OJ l n=0):(∀x∈l,0<=x/\x<n)/\l.Pairwise (·<·):=by
 have z:=Qz (c:=λi=>if AA l i<0\/n<=AA l i then Y 6 else if 0<i/\AA l i<=AA l (i-1)then Y 12 else W) (λi=>by
  split
  .simp
  .split<;>simp) h
 have f:∀i:Int,0<=i->i<l.length->(0<=AA l i/\AA l i<n)/\(0<i->AA l (i-1)<AA l i):=by
  intro i q y;have:=z i q y;split at this
  .cases this
  .split at this
   .cases this
   .omega
 refine ⟨λx u=>?_,WH (λi j q d w=>?_)⟩
 .obtain⟨i,A,B,rfl⟩:=BT u;exact(f i A B).1
 .obtain⟨k,C⟩:∃k:Nat,j=i+1+k:=⟨(j-i-1).toNat,U⟩;subst C;clear d
  induction k with
  |zero=>
   have:=(f (i+1) U U).2 U;rw[show i+1-1=i by omega]at this;simpa using this
  |succ k D=>
   have a:=D U;have b:=(f (i+1+((k+1:Nat):Int)) U w).2 U;rw[show i+1+((k+1:Nat):Int)-1=i+1+k by omega]at b;omega
theorem Tp(f:l.length<=1000)(d:l.Pairwise (·<·))(v:Int):slices_BinarySearch_int l v=Y (((l.countP (λx=>decide (x<v)):Nat):Int),hasB l v):=by
 unfold slices_BinarySearch_int;rw[aE ⟨a?,d.imp (λh=>U)⟩];congr 2;rw[z?,Ah,List.contains_iff_mem]
def Nh(g:ci)(p:B7):Int:=
 if OJ p.bq g.bq.length≠0 then OJ p.bq g.bq.length else if OJ p.ca g.ca.length≠0 then OJ p.ca g.ca.length else
 (fst (λi=>if(hasB p.bq (AA g.ca (AA p.ca i)).fu&&hasB p.bq (AA g.ca (AA p.ca i)).To)=X then W else Y 14) 0 p.ca.length).getD 0
structure ay(g:ci)(p:B7):Prop where
 c9:(∀x∈p.bq,0<=x/\x<g.bq.length)/\p.bq.Pairwise (·<·)
 d6:(∀x∈p.ca,0<=x/\x<g.ca.length)/\p.ca.Pairwise (·<·)
 ends:∀x∈p.ca,(AA g.ca x).fu∈p.bq/\(AA g.ca x).To∈p.bq
variable{g:ci}
theorem VK{p:B7}(h:Nh g p=0):ay g p:=by
 unfold Nh at h;split at h
 .omega
 .split at h
  .omega
  .rename_i u w;refine⟨Uo U,Uo U,λx f=>?_⟩;obtain⟨i,j,q,rfl⟩:=BT f;have:=Qz (c:=λi=>if(hasB p.bq (AA g.ca (AA p.ca i)).fu&&hasB p.bq (AA g.ca (AA p.ca i)).To)=X then W else Y 14) (λi=>by
    split<;>simp) h i j q
   split at this
   next d=>rw[kp,Ah,Ah]at d;exact d
   .cases this
def EG(g:ci)(p:B7):Int:=if B8 g≠0 then B8 g else Nh g p
structure TH(p:B7):Prop where
 c9:p.bq.length<=1000
 d6:p.ca.length<=1000
theorem gK{p:B7}(d:TH p):FY g p=Y (EG g p):=by
 unfold FY EG;rw[M5,bs];refine Dz λq=>?_;have y:=Dw q;unfold Mn Nh;rw[qS d.c9,bs,qS d.d6,bs,x?];refine Dz λu=>Dz λw=>?_;obtain⟨a1,a2⟩:=Uo u;obtain⟨z,A⟩:=Uo w;rw[Bp (λi=>if(hasB p.bq (AA g.ca (AA p.ca i)).fu&&hasB p.bq (AA g.ca (AA p.ca i)).To)=X then W else Y 14),Ck];intro i f h _;have j:=z _ (AI f h);unfold LV;rw[AD f h,bs,AD j.1 j.2];simp[Tp d.c9 a2];cases hasB p.bq (AA g.ca (AA p.ca i)).fu<;>cases hasB p.bq (AA g.ca (AA p.ca i)).To<;>rfl
theorem gX{p:B7}(d:TH p):Kd g p=Y (EG g p):=by
 unfold Kd EG;rw[M6,bs];refine Dz λq=>?_;have w:=Dw q;unfold On Nh;rw[qX d.c9,bs,qX d.d6,bs,x?];refine Dz λz=>Dz λu=>?_;obtain⟨y,A⟩:=Uo u;rw[Bp (λi=>if(hasB p.bq (AA g.ca (AA p.ca i)).fu&&hasB p.bq (AA g.ca (AA p.ca i)).To)=X then W else Y 14),Ck];intro i f h _;have j:=y _ (AI f h);rw[AD f h,bs,AD j.1 j.2];simp[sJ];cases hasB p.bq (AA g.ca (AA p.ca i)).fu<;>cases hasB p.bq (AA g.ca (AA p.ca i)).To<;>rfl
def Mg(g:ci)(p:B7):ci:=⟨p.bq.map (AA g.bq),p.ca.map λx=>⟨(AA g.ca x).fd,A4 p.bq (AA g.ca x).fu,A4 p.bq (AA g.ca x).To⟩⟩
variable{i:Int}
theorem KO{α:Type}{f:Int->α}(d:0<=i)(h:i<l.length):(l.take (i+1).toNat).map f=(l.take i.toNat).map f++[f (AA l i)]:=by grind[Cw]
theorem TY(A:l.length<=1000)(h:∀x∈l,0<=x/\x<g.bq.length)(es:List B3):(kx (λ(z:Int)(w:ci)=>
 (idx l z).bind λd=>
 (idx g.bq d).bind λf=>
 (Ax w.bq [f]).bind λj=>
 Y (ci.mk j w.ca)) 0 (l.length:Int) (ci.mk [] es))=Y (ci.mk (l.map (AA g.bq)) es):=by
 rw [Bs (λi=>ci.mk ((l.take i.toNat).map (AA g.bq)) es) U V]
 .rw[y!,E_]
 .intro i q u;have y:=h _ (AI q u);rw[AD q u,bs,AD y.1 y.2,bs,Ao b_,bs,KO q u]
theorem Xp(C:l.length<=1000)(h:∀x∈l,0<=x/\x<g.ca.length)(q:Fp)(F:B3->B3){f:B3->List B3->Option (List B3)}(hf:∀x∈l,∀s,s.length<=1000->f (AA g.ca x) s=Y (s++[F (AA g.ca x)])):(kx (λ(B:Int)(z:ci)=>
 (idx l B).bind λu=>
 (idx g.ca u).bind λw=>
 (f w z.ca).bind λy=>
 Y (ci.mk z.bq y)) 0 (l.length:Int) (ci.mk q []))=Y (ci.mk q (l.map λx=>F (AA g.ca x))):=by
 rw [Bs (λi=>ci.mk q ((l.take i.toNat).map λx=>F (AA g.ca x))) U V]
 .rw[y!,E_]
 .intro i d j;have A:=h _ (AI d j);rw[AD d j,bs,AD A.1 A.2,bs,hf _ (AI d j) _ a!,bs,KO d j]
theorem Zx{p:B7}(d:TH p):ER g p=Y (if EG g p≠0 then(⟨[],[]⟩,⟨[],[]⟩,EG g p)else(Mg g p,⟨p.bq,p.ca⟩,0)):=by
 unfold ER;rw[gK d,bs];refine Gf λh=>?_;have y:B8 g=0/\Nh g p=0:=by
  grind [EG]
 have ho:=VK y.2;rw[TY d.c9 ho.c9.1,bs];have:=Xp (g:=g) (l:=p.ca) d.d6 ho.d6.1 (p.bq.map (AA g.bq)) (λx=>⟨x.fd,A4 p.bq x.fu,A4 p.bq x.To⟩) (f:=λj s=>
  (slices_BinarySearch_int p.bq j.fu).bind λq=>
  (slices_BinarySearch_int p.bq j.To).bind λu=>
  Ax s [B3.mk j.fd q.1 u.1]) (λx w s z=>by
   have he:=ho.ends x w;rw[Tp d.c9 ho.c9.2,bs,Tp d.c9 ho.c9.2,bs,Ao b_,Wn ho.c9.2 he.1,Wn ho.c9.2 he.2])
 simp [x!]at this;rw[this,bs];unfold slices_Clone_int;have A:=d.c9;have B:=d.d6;rw[BM a?,bs,BM a?];rfl
theorem l7{p:B7}(j:TH p):KP g p=Y (if EG g p≠0 then(⟨[],[]⟩,⟨[],[]⟩,EG g p)else(Mg g p,⟨p.bq,p.ca⟩,0)):=by
 unfold KP;rw[gX j,bs];refine Gf λh=>?_;have w:B8 g=0/\Nh g p=0:=by
  grind [EG]
 have ho:=VK w.2;rw[TY j.c9 ho.c9.1,bs];have:=Xp (g:=g) (l:=p.ca) j.d6 ho.d6.1 (p.bq.map (AA g.bq)) (λx=>⟨x.fd,A4 p.bq x.fu,A4 p.bq x.To⟩) (f:=λd s=>
  (I4 p.bq d.fu).bind λq=>
  (I4 p.bq d.To).bind λu=>
  Ax s [B3.mk d.fd q u]) (λx y s z=>by
   grind [vK,Ao,Ak])
 simp [x!]at this;rw[this,bs];have A:=j.c9;have B:=j.d6;rw[BM a?,bs,BM a?];rfl
end Go.Sf.Sc
namespace Go.Sf.Sc
open Go Go.Sf
def KN(a b:ci)(m:cE)(i:Int):Ne:=
 if AA m.bq i<0\/b.bq.length<=AA m.bq i then Y 6 else if AA b.bq (AA m.bq i)≠AA a.bq i then Y 13 else W
def Hy(a b:ci)(m:cE)(i:Int):Ne:=
 if AA m.ca i<0\/b.ca.length<=AA m.ca i then Y 6 else
 if (AA a.ca i).fd≠(AA b.ca (AA m.ca i)).fd then Y 13 else
 if AA m.bq (AA a.ca i).fu≠(AA b.ca (AA m.ca i)).fu\/AA m.bq (AA a.ca i).To≠(AA b.ca (AA m.ca i)).To then Y 11 else W
def HL(a b:ci)(m:cE):Int:=
 if B8 a≠0 then B8 a else if B8 b≠0 then B8 b else if m.bq.length≠a.bq.length\/m.ca.length≠a.ca.length then 20 else
 match fst (KN a b m) 0 m.bq.length with
 |some e=>e|none=>(fst (Hy a b m) 0 m.ca.length).getD 0
structure aV(a b:ci)(m:cE):Prop where
 ga:Bz a
 gb:Bz b
 z5:m.bq.length=a.bq.length
 Aaf:m.ca.length=a.ca.length
 node:∀i:Int,0<=i->i<m.bq.length->(0<=AA m.bq i/\AA m.bq i<b.bq.length)/\AA b.bq (AA m.bq i)=AA a.bq i
 edge:∀i:Int,0<=i->i<m.ca.length->(0<=AA m.ca i/\AA m.ca i<b.ca.length)/\(AA a.ca i).fd=(AA b.ca (AA m.ca i)).fd/\
  AA m.bq (AA a.ca i).fu=(AA b.ca (AA m.ca i)).fu/\AA m.bq (AA a.ca i).To=(AA b.ca (AA m.ca i)).To
variable{m:cE}
theorem Vs{a b:ci}(h:HL a b m=0):aV a b m:=by
 unfold HL at h;split at h
 .omega
 split at h
 .omega
 split at h
 .cases h
 rename_i q u w;have j:fst (KN a b m) 0 m.bq.length=W:=by
  grind [Db,KN]
 rw [j]at h;have he:=Qz (λi=>by
  grind [Hy]) h
 refine ⟨Dw U,Dw U,U,U,λi d f=>?_,λi d f=>?_⟩
 .grind[BY,KN]
 grind [Hy]
theorem V2(a b:ci)(m:cE):Dd a b m=Y (HL a b m):=by
 unfold Dd HL;rw[M5,bs,M5,bs];refine Dz λw=>Dz λy=>PY k! λB=>?_;have ga:=Dw w;have gb:=Dw y;rw[Bp (KN a b m),E4]
 .cases z:fst (KN a b m) 0 m.bq.length with
  |some e=>rfl|none=>
   have A:=BY.1 z;dsimp only;rw[Bp (Hy a b m),Ck];intro i h u _;unfold Hy;rw[AD h u,bs];by_cases d:AA m.ca i<0\/b.ca.length<=AA m.ca i
   .rw[aE c!,aE d];rfl
   .have hf:=ga.fit _ (AI (l:=a.ca) h U);rw[aN c!,aN d,AD h U,bs,AD U U,bs];by_cases f:(AA a.ca i).fd=(AA b.ca (AA m.ca i)).fd
    .rw[aN f_,aN f_,AD U U,bs];by_cases j:AA m.bq (AA a.ca i).fu=(AA b.ca (AA m.ca i)).fu
     .rw[aN g!,AD U U,bs,bs];by_cases q:AA m.bq (AA a.ca i).To=(AA b.ca (AA m.ca i)).To
      .rw[aN j?,aN (by simp[j,q])];rfl
      .rw[aE j?,aE (.inr q)];rfl
     .rw[aE g!,bs,aE rfl,aE (.inl j)];rfl
    .rw[aE f_,aE f];rfl
 .intro i h u _;unfold KN;rw[AD h u,bs];by_cases d:AA m.bq i<0\/b.bq.length<=AA m.bq i
  .rw[aE c!,aE d];rfl
  .rw[aN c!,aN d,AD U U,bs,AD h U,bs];by_cases f:AA b.bq (AA m.bq i)=AA a.bq i
   .rw[aN f_,aN f_];rfl
   .rw[aE f_,aE f];rfl
theorem cW{x y:Prop}[Decidable x][Decidable y]:(if decide x=X then Y X else Y (decide y))=Y (decide (x\/y)):=o2
theorem jc(a b:ci)(m:cE):I3 a b m=Y (HL a b m):=by
 unfold I3 HL;rw[M6,bs,M6,bs];refine Dz λw=>Dz λy=>PY k! λB=>?_;have ga:=Dw w;have gb:=Dw y;rw[show(a.bq.length:Int)=m.bq.length by omega,show(a.ca.length:Int)=m.ca.length by omega,Bp (KN a b m),E4]
 .cases z:fst (KN a b m) 0 m.bq.length with
  |some e=>rfl|none=>
   have A:=BY.1 z;dsimp only;rw[Bp (Hy a b m),Ck];intro i h u _;unfold Hy;rw[AD h u];simp only[bs,cW];by_cases d:AA m.ca i<0\/b.ca.length<=AA m.ca i
   .rw[aE c!,aE d];rfl
   .have hf:=ga.fit _ (AI (l:=a.ca) h U);rw[aN c!,aN d,AD h U,bs,AD U U,bs];by_cases f:(AA a.ca i).fd=(AA b.ca (AA m.ca i)).fd
    .rw[aN f_,aN f_,AD U U,bs];by_cases j:AA m.bq (AA a.ca i).fu=(AA b.ca (AA m.ca i)).fu
     .rw[aN g!,AD U U,bs,bs];by_cases q:AA m.bq (AA a.ca i).To=(AA b.ca (AA m.ca i)).To
      .rw[aN j?,aN (by simp[j,q])];rfl
      .rw[aE j?,aE (.inr q)];rfl
     .rw[aE g!,bs,aE rfl,aE (.inl j)];rfl
    .rw[aE f_,aE f];rfl
 .intro i h u _;unfold KN;rw[AD h u];simp only[bs,cW];by_cases d:AA m.bq i<0\/b.bq.length<=AA m.bq i
  .rw[aE c!,aE d];rfl
  .rw[aN c!,aN d,AD U U,bs,AD h U,bs];by_cases f:AA b.bq (AA m.bq i)=AA a.bq i
   .rw[aN f_,aN f_];rfl
   .rw[aE f_,aE f];rfl
def Kk(l:Fp):Bool:=!gh (λi=>gh (λj=>decide (AA l i=AA l j)) 0 i) 0 l.length
variable{l:Fp}
theorem K6:Kk l=X↔l.Nodup:=by grind[Kk,A?,Bt,WH,Ka]
theorem ja(l:Fp):FW l=Y (Kk l):=by
 unfold FW Kk;rw[BX (λi=>gh (λj=>decide (AA l i=AA l j)) 0 i) T]
 .cases gh (λi=>gh (λj=>decide (AA l i=AA l j)) 0 i) 0 l.length<;>rfl
 .intro i d f _;rw[BX (λj=>decide (AA l i=AA l j)) T]
  .cases gh (λj=>decide (AA l i=AA l j)) 0 i<;>rfl
  .intro j h q _;rw[AD d f,bs,AD h U,bs,Jy]
theorem Tm(f:l.length<=1000):∃k,Ez l=Y k/\decide (k=(l.length:Int))=Kk l:=by
 have d:(Q3 l).length=l.length:=(Pn l).length_eq;refine⟨((Go.Lib.compact (Q3 l)).length:Int),?_,?_⟩
 .grind[Ez,slices_Clone_int,slices_Sort_int,slices_Compact_int,BM,Ak]
 .rw[z?,K6,p0,<-(Pn l).nodup_iff,<-Ud (QH l),d];omega
def JW(m:cE):Bool:=Kk m.bq&&Kk m.ca
theorem jQ{a b:ci}(h:HL a b m=0):Cn a b m=Y (JW m):=by
 have ho:=Vs h;have:=ho.ga.c9;have:=ho.ga.d6;have:=ho.z5;have:=ho.Aaf;obtain⟨k,d,f⟩:=Tm (l:=m.bq) U;obtain⟨j,q,u⟩:=Tm (l:=m.ca) U;unfold Cn JW;rw[V2,h,bs,aE (decide_eq_true rfl),d];simp[q,f,u];cases Kk m.bq<;>rfl
theorem ya{a b:ci}(h:HL a b m=0):Il a b m=Y (JW m):=by grind[Il,JW,jc,ja,Kk]
def Q4(r:ei):Int:=
 if EG r.ec.ci r.ne≠0 then EG r.ec.ci r.ne else
 if HL (Mg r.ec.ci r.ne) r.d4.ci r.ed≠0 then HL (Mg r.ec.ci r.ne) r.d4.ci r.ed else if JW r.ed=T then 11 else 0
variable{r:ei}
theorem ut(d:TH r.ne):LP r=Y (Q4 r):=by
 unfold LP Q4;rw[Zx d,bs];by_cases h:EG r.ec.ci r.ne=0
 .simp only[h,ne_eq,not_true_eq_false,if_false,decide_true,C_,A'];rw[V2,bs];refine Dz λf=>?_;rw[jQ f,bs];exact Uq λ_=>rfl
 .simp[h]
def WA(r:ei):Int:=if EG r.ec.ci r.ne≠0 then EG r.ec.ci r.ne else HL (Mg r.ec.ci r.ne) r.d4.ci r.ed
theorem vQ(d:TH r.ne):Nu r=Y (WA r):=by
 unfold Nu WA;rw[gX d,bs];refine Dz λh=>?_
 grind [l7,jc]
theorem rb(h:Q4 r=0):EG r.ec.ci r.ne=0/\HL (Mg r.ec.ci r.ne) r.d4.ci r.ed=0/\JW r.ed=X:=by grind[Q4]
def AM(l:Fp)(n:Int):Fp:=((E! n.toNat).map z_).filter λi=>!hasB l i
variable{i:Int}
theorem Iq(l:Fp)(h:0<=i):AM l (i+1)=AM l i++if(!hasB l i)=X then[i]else[]:=by
 unfold AM;rw[show(i+1).toNat=i.toNat+1 by omega,F?,G_,G!]
 grind
theorem Dn{n x:Int}(h:x∈AM l n):0<=x/\x<n:=by
 unfold AM at h
 grind
theorem E3(l:Fp)(n:Int):(AM l n).length<=n.toNat:=by
 unfold AM
 grind
variable{n:Int}
theorem VU(u:0<=n)(y:n<=1000){f:Int->K1}(hf:∀i,f i=Y (hasB l i)):(kx (λ(j:Int)(q:Fp)=>
 (f j).bind λd=>
 if (!d)=X then
 (Ax q [j]).bind λh=>
 Y h
 else
 Y q) 0 n [])=Y (AM l n):=by
 refine Bs (AM l) u (by simp[AM]) (λi w z=>?_);have:=E3 l i;rw[hf,bs,Iq l w];cases hasB l i
 .rw[aE a_,aE a_,Ao b_];rfl
 .rw[aN a_,aN a_,List.append_nil]
theorem cg(d:0<=n)(f:n<=1000):Kh l n=Y (AM l n):=by
 unfold Kh;rw[VU d f (λi=>K5 l i)];rfl
theorem mG(d:0<=n)(f:n<=1000):Ln n l=Y (AM l n):=by
 unfold Ln;rw[VU d f (λi=>sK l i)];rfl
def EK(r:ei):Fp:=AM r.ed.bq r.d4.ci.bq.length
def Ht(r:ei):Fp:=AM r.ed.ca r.d4.ci.ca.length
theorem lY(d:Bz r.d4.ci):LN r=Y (EK r,Ht r):=by
 have:=d.c9;have:=d.d6;unfold LN;rw[cg U U,bs,cg U U];rfl
theorem mA(d:Bz r.d4.ci):KS r=Y (EK r,Ht r):=by
 have:=d.c9;have:=d.d6;unfold KS;rw[mG U U,bs,mG U U];rfl
def D4(t:AC)(g:ci)(i:Int):Bool:=Ld t (AA g.ca i).fd (AA g.bq (AA g.ca i).fu) (AA g.bq (AA g.ca i).To)
def RQ(t:AC)(g:ci)(c9 d6:Fp):Bool:=!(c9.any λi=>(AA t.bq (AA g.bq i)).tn)&&!(d6.any λi=>!D4 t g i)
variable{t:AC}{g:ci}
theorem yS(hf:A0 t)(q:Bz g)(u:C1 t g=X){c9 d6:Fp}(w:∀x∈c9,0<=x/\x<g.bq.length)(he:∀x∈d6,0<=x/\x<g.ca.length):H7 t g c9 d6=Y (RQ t g c9 d6):=by
 have h:=ET q u;unfold H7 RQ;rw[SH (p:=λi=>(AA t.bq (AA g.bq i)).tn) (λx f=>by
  have d:=w x f;have j:=h.1 _ (AI d.1 d.2);unfold Lt;rw[AD d.1 d.2,bs,AD j.1 j.2];rfl),bs,SH (p:=λi=>!D4 t g i) (λx f=>by
  have d:=he x f;have j:=q.fit _ (AI d.1 d.2);unfold Hl;rw[AD d.1 d.2,bs,AD U U,bs,AD U U,bs,cY hf];rfl)]
 grind
theorem yc(hf:A0 t)(u:Bz g)(w:C1 t g=X){c9 d6:Fp}(y:∀x∈c9,0<=x/\x<g.bq.length)(he:∀x∈d6,0<=x/\x<g.ca.length):LJ t g c9 d6=Y (RQ t g c9 d6):=by
 have j:=ET u w;unfold LJ RQ;rw[GY,GY,BX (λi=>(AA t.bq (AA g.bq (AA c9 i))).tn) T]
 .rw[BX (λi=>!D4 t g (AA d6 i)) T]
  .cases gh (λi=>(AA t.bq (AA g.bq (AA c9 i))).tn) 0 c9.length
   .cases gh (λi=>!D4 t g (AA d6 i)) 0 d6.length<;>rfl
   .rfl
  .intro i f h _;have d:=he _ (AI f h);have q:=u.fit _ (AI d.1 d.2);rw[AD f h,bs,AD d.1 d.2,bs,AD U U,bs,AD U U,bs,cv hf,bs,Jy];rfl
 .intro i f h _;have d:=y _ (AI f h);have q:=j.1 _ (AI d.1 d.2);rw[AD f h,bs,AD d.1 d.2,bs,AD q.1 q.2,bs,Jy]
end Go.Sf.Sc
namespace Go.Sf.Sc
open Go Go.Sf
structure ar(p:d5):Prop where
 c9:p.ci.bq.length<=45
 d6:p.ci.ca.length<=90
 slots:p.em.length<=15
 tests:p.j4.length<=15
structure iI(m:cE):Prop where
 c9:m.bq.length<=140
 d6:m.ca.length<=140
inductive GQ:c8->Prop where
 |mk (c:c8) (hq:ar c.d5) (hm:iI c.Map) (hk:∀k∈c.ff,GQ k):GQ c
variable{c:c8}
theorem GQ.q(h:GQ c):ar c.d5:=i?
theorem GQ.m(h:GQ c):iI c.Map:=i?
theorem GQ.k(h:GQ c):∀k∈c.ff,GQ k:=i?
theorem KA{c k:c8}(h:k∈c.ff):SizeOf.sizeOf k<SizeOf.sizeOf c:=by
 have:=List.sizeOf_lt_of_mem h;cases c
 grind
theorem G3(c:c8):0<SizeOf.sizeOf c:=by
 cases c
 grind
def Pf(c:c8):Bool:=decide (c.Map.bq.length=0/\c.Map.ca.length=0/\c.d5.ci.bq.length=0/\c.d5.ci.ca.length=0/\c.d5.em.length=0/\c.d5.j4.length=0/\c.d5.eT=0)
theorem ui(hf:GQ c):FQ c=Y (Pf c):=by
 have d:=hf.q;have f:=hf.m;have:=d.c9;have:=d.d6;have:=d.slots;have:=d.tests;have:=f.c9;have:=f.d6;unfold FQ Pf;rw[Au (n:=(c.Map.bq.length:Int)+c.Map.ca.length) U U,Au (n:=(c.Map.bq.length:Int)+c.Map.ca.length+c.d5.ci.bq.length) U U,
  Au (n:=(c.Map.bq.length:Int)+c.Map.ca.length+c.d5.ci.bq.length+c.d5.ci.ca.length) U U,
  Au (n:=(c.Map.bq.length:Int)+c.Map.ca.length+c.d5.ci.bq.length+c.d5.ci.ca.length+c.d5.em.length) U U,
  Au (n:=(c.Map.bq.length:Int)+c.Map.ca.length+c.d5.ci.bq.length+c.d5.ci.ca.length+c.d5.em.length+c.d5.j4.length) U U]
 congr 1
 grind
theorem oX(hf:GQ c):H6 c=Y (Pf c):=by
 have d:=hf.q;have f:=hf.m;have:=d.c9;have:=d.d6;have:=d.slots;have:=d.tests;have:=f.c9;have:=f.d6;unfold H6 Pf;rw[Au (n:=(c.Map.bq.length:Int)+c.Map.ca.length) U U,Au (n:=(c.Map.bq.length:Int)+c.Map.ca.length+c.d5.ci.bq.length) U U,
  Au (n:=(c.Map.bq.length:Int)+c.Map.ca.length+c.d5.ci.bq.length+c.d5.ci.ca.length) U U,
  Au (n:=(c.d5.em.length:Int)+c.d5.j4.length) U U]
 congr 1
 grind
def Q0(c:c8):Bool:=
 if c.gN=1 then decide (c.ff.length=0)&&Pf c else if c.gN=2 then decide (c.ff.length=1)&&Pf c else
 if c.gN=3\/c.gN=4 then decide (1<=c.ff.length)&&Pf c else if c.gN=5 then decide (c.ff.length=1)else T
def RJ:Nat->c8->Bool
 |0,_=>T|n+1,c=>Q0 c&&c.ff.all (RJ n)
theorem vB:∀(N:Nat)(c:c8),SizeOf.sizeOf c<=N->GQ c->∀n,2*N<=n->Bf n c=Y (RJ N c)
 |0,c,h,_,_,_=>by have:=G3 c;omega|N+1,c,h,hf,n,D=>by
  obtain ⟨n,rfl⟩:∃m,n=m+2:=⟨n-2,U⟩;rw[Bf,RJ,ui hf];have f:CC c.ff (Bv (n+1))=Y (!c.ff.all (RJ N)):=by
   rw [bQ (p:=λk=>!RJ N k) (λk f=>by
    have:=KA f;rw[Bv,vB N k U (hf.k k f) n U];rfl),G?,Bool.not_not]
  rw [f];unfold Q0;simp only[bs,p0];generalize Pf c=b;generalize c.ff.all (RJ N)=w;have A:decide ((c.ff.length:Int)=0)=decide (c.ff.length=0):=i!
  have B:decide ((c.ff.length:Int)=1)=decide (c.ff.length=1):=i!
  have C:decide (1<=(c.ff.length:Int))=decide (1<=c.ff.length):=i!
  simp only[show((c.ff.length:Int)=0)↔c.ff.length=0 by omega,show((c.ff.length:Int)=1)↔c.ff.length=1 by omega,show(1<=(c.ff.length:Int))↔1<=c.ff.length by omega];by_cases j:c.gN=1
  .rw[aE j,aE j];by_cases d:c.ff.length=0<;>cases b<;>cases w<;>simp[d]
  .rw[aN j,aN j];by_cases q:c.gN=2
   .rw[aE q,aE q];by_cases d:c.ff.length=1<;>cases b<;>cases w<;>simp[d]
   .rw[aN q,aN q];by_cases y:c.gN=3
    .simp[y,true_or];by_cases d:1<=c.ff.length<;>cases b<;>cases w<;>simp[d]
    .by_cases z:c.gN=4
     .simp[z,or_true,show¬(4:Int)=3 by decide];by_cases d:1<=c.ff.length<;>cases b<;>cases w<;>simp[d]
     .simp only[y,z,if_false,or_false];by_cases u:c.gN=5
      .rw[aE u,aE u];by_cases d:c.ff.length=1<;>cases w<;>simp[d]
      .rw[aN u,aN u];cases w<;>rfl
theorem vJ(hf:GQ c):MO c=Y (Q0 c):=by
 unfold MO Q0;rw[oX hf];simp[p0];generalize Pf c=b;simp[show((c.ff.length:Int)=0)↔c.ff.length=0 by omega,show((c.ff.length:Int)=1)↔c.ff.length=1 by omega,show(0<(c.ff.length:Int))↔1<=c.ff.length by omega]
 grind
theorem t6{α:Type}[Inhabited α]{l:List α}{p:α->Bool}:l.all p=!gh (λi=>!p (AA l i)) 0 l.length:=by
 rw [G?,GY]
theorem qW:∀(N:Nat)(c:c8),SizeOf.sizeOf c<=N->GQ c->∀n,N<=n->E1 n c=Y (RJ N c)
 |0,c,h,_,_,_=>by have:=G3 c;omega|N+1,c,h,hf,n,q=>by
  obtain ⟨n,rfl⟩:∃m,n=m+1:=⟨n-1,U⟩;rw[E1,RJ,vJ hf,bs,t6,BX (λi=>!RJ N (AA c.ff i)) T]
  .cases Q0 c
   .rfl
   .cases gh (λi=>!RJ N (AA c.ff i)) 0 c.ff.length<;>rfl
  .intro i d f _;have j:=AI (l:=c.ff) d f;have:=KA j;rw[AD d f,bs,qW N _ U (hf.k _ j) n U,bs,Jy]
noncomputable def eH(c:c8):Bool:=RJ (SizeOf.sizeOf c) c
theorem yV(hf:GQ c):HZ c=Y (eH c):=Gb (2*SizeOf.sizeOf c) λn d=>vB _ c (a5 _) hf n d
theorem yg(hf:GQ c):OX c=Y (eH c):=Gb (SizeOf.sizeOf c) λn d=>qW _ c (a5 _) hf n d
def Na:Nat->c8->Int×Int
 |0,_=>(0,0)|n+1,c=>
  let s:=c.ff.foldl (λs k=>(Ag (s.1+(Na n k).1),max s.2 (Na n k).2)) ((1,0):Int×Int)
  (s.1,if c.gN=5 then Ag (s.2+1)else s.2)
theorem Zw{α σ:Type}[Inhabited α]{l:List α}{g:σ->α->σ}{s:σ}{f:Int->σ->Option σ}(h:∀(i:Int)s,0<=i->i<l.length->f i s=Y (g s (AA l i))):kx f 0 l.length s=Y (l.foldl g s):=by
 rw [Bs (λi=>(l.take i.toNat).foldl g s) U V]
 .rw[y!,E_]
 grind [Cw]
theorem li:∀(N:Nat)(c:c8),SizeOf.sizeOf c<=N->∀n,N<=n->Cl n c=Y (Na N c)
 |0,c,h,_,_=>by have:=G3 c;omega|N+1,c,h,n,j=>by
  obtain ⟨n,rfl⟩:∃m,n=m+1:=⟨n-1,U⟩;rw[Cl,Na,Zw (g:=λs k=>(Ag (s.1+(Na N k).1),max s.2 (Na N k).2))]
  .grind
  .intro i s d f;have:=KA (AI (l:=c.ff) d f);rw[AD d f,bs,li N _ U n U];rfl
theorem mC:∀(N:Nat)(c:c8),SizeOf.sizeOf c<=N->∀n,N<=n->FX n c=Y (Na N c)
 |0,c,h,_,_=>by have:=G3 c;omega|N+1,c,h,n,j=>by
  obtain ⟨n,rfl⟩:∃m,n=m+1:=⟨n-1,U⟩;rw[FX,Na,Zw (g:=λs k=>(Ag (s.1+(Na N k).1),max s.2 (Na N k).2))]
  .grind
  .intro i s d f;have:=KA (AI (l:=c.ff) d f);rw[AD d f,bs,mC N _ U n U];rfl
noncomputable def aY(c:c8):Int×Int:=Na (SizeOf.sizeOf c) c
noncomputable def N0(c:c8):Int:=if eH c=T then 1 else if 12<(aY c).1\/3<(aY c).2 then 3 else 0
theorem r7(hf:GQ c):F3 c=Y (N0 c):=by
 unfold F3 N0;rw[yV hf,bs,show JB c=Y (aY c)from Gb (SizeOf.sizeOf c) λn d=>li _ c (a5 _) n d,bs]
 grind
theorem sR(hf:GQ c):ML c=Y (N0 c):=by
 unfold ML N0;rw[yg hf,bs,show PW c=Y (aY c)from Gb (SizeOf.sizeOf c) λn d=>mC _ c (a5 _) n d,bs]
 grind
theorem Xo(g:ci):B8 g≠9:=by grind[B8]
variable{t:AC}{p:d5}
theorem ct(d:(BF t).2=0)(h:IL t p=0\/IL t p=9):0<=p.eT/\p.eT<=12:=by grind[Xo,IL]
def U4(t:AC)(q:d5)(v:Int):Int:=if IL t q≠9 then IL t q else if gh (λi=>!LD q i) v q.eT=X then 9 else 0
variable{P:Prop}
theorem zD{α:Type}[Decidable P]{v:α}{ζ:Option α}{δ:α}(h:P->ζ=Y δ):(if(!decide P)=X then Y v else ζ)=Y (if¬P then v else δ):=o2
theorem yR(hf:A0 t)(f:(BF t).2=0){q:d5}{v:Int}(w:0<=v)(h:v<=q.eT):Eo t q v=Y (U4 t q v):=by
 unfold Eo U4;rw[YA hf,bs];refine zD λd=>?_;have hv:=ct f (.inr d);rw[P5 (c:=λi=>(if(!LD q i)=X then Y ()else W).map λ_=>.inr 9) (a:=v) (b:=q.eT) h]
 .rw[Vp,O4];cases gh (λi=>!LD q i) v q.eT<;>rfl
 .intro i z u _;rw[aE d_,show(λj=>IE j i)=(λy=>Y (decide (y.f0.Var=i)))from rfl,fY,bs,show(q.em.any λy=>decide (y.f0.Var=i))=LD q i from rfl,d,Au U U];cases LD q i<;>rfl
 .rw[aN V]
theorem sO(p:d5)(v:Int):Ns p v=Y (LD p v):=qY p v
theorem yb(hf:A0 t)(q:d5)(v:Int):MN t v q=Y (if q.eT<v then 20 else U4 t q v):=by
 unfold MN U4;refine PY V λ_=>?_;rw[je hf,bs];refine zD λd=>?_;rw[d,BX (λi=>!LD q i) 9]
 .cases gh (λi=>!LD q i) v q.eT<;>rfl
 .intro i f h _;rw[sO,bs,Jy]
def Kx:Nat->AC->d5->c8->Int
 |0,_,_,_=>0|N+1,t,p,c=>
  if c.gN=5 then
   if c.d5.eT<p.eT then 20 else if U4 t c.d5 p.eT≠0 then U4 t c.d5 p.eT else
   if HL p.ci c.d5.ci c.Map≠0 then HL p.ci c.d5.ci c.Map else if JW c.Map=T then 1 else
   (fst (λi=>nz (Kx N t c.d5 (AA c.ff i))) 0 c.ff.length).getD 0
  else (fst (λi=>nz (Kx N t p (AA c.ff i))) 0 c.ff.length).getD 0
theorem ll(hf:A0 t)(u:(BF t).2=0):∀(N:Nat)(c:c8)(p:d5),0<=p.eT->SizeOf.sizeOf c<=N->∀n,N<=n->CP n t p c=Y (Kx N t p c)
 |0,c,p,_,h,_,_=>by have:=G3 c;omega|N+1,c,p,E,h,n,F=>by
  obtain ⟨n,rfl⟩:∃m,n=m+1:=⟨n-1,U⟩;rw[CP,Kx];have j:∀q:d5,0<=q.eT->(eg (fq (ρ:=Int) (λ(A:Int)(_:Unit)=>
    (idx c.ff A).bind λf=>
    (CP n t q f).bind λd=>
    if (!decide (d=0))=X then
    Y (.ret d)
    else
    Y (.next ())) 0 (c.ff.length:Int) ()) (λ_=>
    Y 0) (λB=>Y B))=Y ((fst (λi=>nz (Kx N t q (AA c.ff i))) 0 c.ff.length).getD 0):=by
   intro q D;rw[Bp (λi=>nz (Kx N t q (AA c.ff i))),Ck];intro i w y _;have:=KA (AI (l:=c.ff) w y);rw[AD w y,bs,ll hf u N _ q D U n U,bs,LC]
  by_cases z:c.gN=5
  .rw[aE (by simpa using z),aE z];refine PY V λhv=>?_;rw[yR hf u E U,bs];refine Dz λhi=>?_;rw[V2,bs];refine Dz λC=>?_;rw[jQ C,bs]
   grind
  grind
theorem mF(hf:A0 t):∀(N:Nat)(c:c8)(p:d5),SizeOf.sizeOf c<=N->∀n,N<=n->Ft n t p c=Y (Kx N t p c)
 |0,c,p,h,_,_=>by have:=G3 c;omega|N+1,c,p,h,n,C=>by
  obtain ⟨n,rfl⟩:∃m,n=m+1:=⟨n-1,U⟩;rw[Ft,Kx];have d:∀q:d5,(eg (fq (ρ:=Int) (λ(z:Int)(_:Unit)=>
    (idx c.ff z).bind λu=>
    (Ft n t q u).bind λf=>
    if (!decide (f=0))=X then
    Y (.ret f)
    else
    Y (.next ())) 0 (c.ff.length:Int) ()) (λ_=>
    Y 0) (λA=>Y A))=Y ((fst (λi=>nz (Kx N t q (AA c.ff i))) 0 c.ff.length).getD 0):=by
   intro q;rw[Bp (λi=>nz (Kx N t q (AA c.ff i))),Ck];intro i w y _;have:=KA (AI (l:=c.ff) w y);rw[AD w y,bs,mF hf N _ q U n U,bs,LC]
  by_cases j:c.gN=5
  .rw[aE g!,aE j,yb hf,bs];by_cases hv:c.d5.eT<p.eT
   .simp[hv]
   .simp only[aN hv];refine Dz λhi=>?_;rw[jc,bs];refine Dz λB=>?_;rw[ya B,bs];exact Uq λ_=>d _
  .rw[aN g!,aN j];exact d p
noncomputable def Mc(t:AC)(p:d5)(c:c8):Int:=if IL t p≠0 then IL t p else if N0 c≠0 then N0 c else Kx (SizeOf.sizeOf c) t p c
theorem lW(hf:A0 t)(d:(BF t).2=0)(p:d5)(f:GQ c):Dg t p c=Y (Mc t p c):=by
 unfold Dg Mc;rw[YA hf,bs];refine Dz λh=>?_;rw[r7 f,bs,x?];exact Dz λ_=>Gb (SizeOf.sizeOf c) λn j=>ll hf d _ c p (ct d (.inl h)).1 (a5 _) n j
theorem vF(hf:A0 t)(p:d5)(d:GQ c):MM t p c=Y (Mc t p c):=by
 unfold MM Mc;rw[je hf,bs];refine Dz λh=>?_;rw[sR d,bs,x?];exact Dz λ_=>Gb (SizeOf.sizeOf c) λn f=>mF hf _ c p (a5 _) n f
end Go.Sf.Sc
namespace Go.Sf.Sc
open Go Go.Sf
structure E6(r:ei):Prop where
 name:(r.gp.size:Int)<=60
 left:ar r.ec
 right:ar r.d4
 eE:TH r.ne
 into:iI r.ed
 cond:GQ r.c8
noncomputable def GV(t:AC)(r:ei):Int:=
 if (BF t).2≠0 then(BF t).2 else if FT r.gp=T then 2 else if IL t r.ec≠0 then IL t r.ec else
 if KU t r≠0 then KU t r else if Q4 r≠0 then Q4 r else if RQ t r.d4.ci (EK r) (Ht r)=T then 13 else Mc t r.ec r.c8
variable{t:AC}{r:ei}
theorem XC(h:KU t r=0):Bz r.d4.ci/\C1 t r.d4.ci=X:=by grind[KU,Dw]
theorem lm(hf:A0 t)(d:E6 r):Is t r=Y (GV t r):=by
 have u:=d.name;unfold Is GV;rw[OU hf,bs];refine Dz λj=>?_;rw[QO U,bs];refine Uq λ_=>?_;rw[YA hf,bs];refine Dz λ_=>?_;rw[r6 hf,bs];refine Dz λf=>?_;have ho:=XC f;rw[ut d.eE,bs];refine Dz λq=>?_;rw[lY ho.1,bs];dsimp only;rw[yS (c9:=EK r) (d6:=Ht r) hf ho.1 ho.2 (λx h=>Dn h) (λx h=>Dn h),bs];refine Uq λ_=>?_;rw[lW hf j _ d.cond,bs]
theorem vN(hf:A0 t)(d:E6 r):MP t r=Y (GV t r):=by
 have w:=d.name;unfold MP GV;rw[P1 hf,bs];refine Dz λu=>?_;rw[QR U,bs];refine Uq λ_=>?_;rw[je hf,bs];refine Dz λ_=>?_;rw[sP hf,bs];refine Dz λf=>?_;have ho:=XC f;rw[vQ d.eE,bs,ja,bs];simp only[ja,bs];have e:(if(!Kk r.ed.bq)=X then Y X else Y (!Kk r.ed.ca))=Y (!JW r.ed):=by
  grind [JW,Kk]
 rw [e,bs];have q:Q4 r=if WA r≠0 then WA r else if JW r.ed=T then 11 else 0:=by
  grind [Q4,WA,EG]
 rw [q];by_cases j:WA r=0
 .simp only[j,ne_eq,not_true_eq_false,if_false,decide_true,C_,A'];cases hi:JW r.ed
  .simp
  .simp only[C_,A',if_false,not_true_eq_false,C?];rw[mA ho.1,bs];dsimp only;rw[yc (c9:=EK r) (d6:=Ht r) hf ho.1 ho.2 (λx h=>Dn h) (λx h=>Dn h),bs];refine Uq λ_=>?_;rw[vF hf _ d.cond,bs]
 .simp[j]
def JJ(n:Int):Bool:=(decide (1<=n))&&(decide (n<=3))
def LR(t:AC)(s:Ap)(i:Int):Ne:=
 if JJ (AA s.bq i)=T then Y 6 else if 0<=par t i/\AA s.bq (par t i)≠AA s.bq i then Y 13 else W
def PM(t:AC)(s:Ap)(i:Int):Int:=
 if JJ (AA s.ca i)=T then 6 else
 if ((!decide (AA s.bq (AA t.ca i).fu=AA s.ca i))||((decide (AA s.bq (AA t.ca i).To=AA s.ca i))==(decide (AA s.ca i=2))))=X then 13 else 0
def DJ(t:AC)(s:Ap):Int:=
 if (BF t).2≠0 then(BF t).2 else if s.bq.length≠t.bq.length\/s.ca.length≠t.ca.length then 20 else
 match fst (LR t s) 0 t.bq.length with
 |some e=>e|none=>(fst (λi=>nz (PM t s i)) 0 t.ca.length).getD 0
structure Yb(t:AC)(s:Ap):Prop where
 types:Eb t
 z5:s.bq.length=t.bq.length
 Aaf:s.ca.length=t.ca.length
theorem LT{s:Ap}(h:DJ t s=0):(BF t).2=0/\Yb t s:=by
 unfold DJ at h;split at h
 .omega
 .split at h
  .cases h
  .exact⟨U,DT U,U,U⟩
variable{x:Prop}{o:K1}
theorem fT[Decidable x]{b:Bool}(h:x->o=Y b):(if decide x=X then o else Y T)=Y (decide x&&b):=o2
theorem V3(hf:A0 t)(s:Ap):G5 t s=Y (DJ t s):=by
 unfold G5 DJ;rw[OU hf,bs];refine Dz λj=>PY k! λq=>?_;have ho:=DT j;rw[show(s.bq.length:Int)=t.bq.length by omega,show(s.ca.length:Int)=t.ca.length by omega,Bp (LR t s),E4]
 .cases fst (LR t s) 0 t.bq.length with
  |some e=>rfl|none=>
   dsimp only;rw[Bp (λi=>nz (PM t s i)),Ck];intro i d f _;have he:=ho.ends d f;have e:MY t s i=Y (PM t s i):=by
    unfold MY PM;rw[AD d U,bs,show ND (AA s.ca i)=Y (JJ (AA s.ca i))from rfl,bs];refine Uq λ_=>?_;rw[AD d f,bs,AD U U,bs,bs,AD U U,bs];exact fZ λ_=>rfl
   rw [e,bs,LC]
 .intro i d f _;have u:=ho.par i d f;unfold LR;rw[AD d U,bs,show ND (AA s.bq i)=Y (JJ (AA s.bq i))from rfl,bs,AD d f,bs];cases JJ (AA s.bq i)
  .rfl
  .simp only[C_,A',if_false,C?];rw[show(AA t.bq i).k7=par t i from rfl,fT (b:=!decide (AA s.bq (par t i)=AA s.bq i)) (λh=>by rw[AD h U];rfl),bs];by_cases h:0<=par t i/\AA s.bq (par t i)≠AA s.bq i
   .rw[aE c_,aE h];rfl
   .rw[aN c_,aN h];rfl
theorem gY(hf:A0 t)(s:Ap):Kf t s=Y (DJ t s):=by
 unfold Kf DJ;rw[P1 hf,bs];refine Dz λw=>PY k! λA=>?_;have ho:=DT w;rw[Bp (LR t s),E4]
 .cases fst (LR t s) 0 t.bq.length with
  |some e=>rfl|none=>
   dsimp only;rw[Bp (λi=>nz (PM t s i)),Ck];intro i d f _;have he:=ho.ends d f;unfold PM;rw[AD (l:=s.ca) d U];simp only[bs,show Lp (AA s.ca i)=Y (JJ (AA s.ca i))from rfl];cases JJ (AA s.ca i)
   .rfl
   .rw[aN a_,aN a_,AD d f];simp only[bs];rw[AD (l:=s.bq) (i:=(AA t.ca i).fu) U U,bs,AD (l:=s.bq) (i:=(AA t.ca i).To) U U,bs];generalize AA s.bq (AA t.ca i).fu=x;generalize AA s.bq (AA t.ca i).To=y;generalize AA s.ca i=z;by_cases j:x=z
    .by_cases u:z=2
     .by_cases q:y=z
      .simp[j,u,q,nz,Mt]
      .have:¬y=2:=λh=>q U;simp[j,u,this,nz,Mt]
     .by_cases q:y=z
      .simp[j,u,q,nz,Mt]
      .simp[j,u,q,nz,Mt]
    .simp[j,nz,Mt]
 .intro i d f _;have B:=ho.par i d f;unfold LR;rw[AD (l:=s.bq) d U,bs,show Lp (AA s.bq i)=Y (JJ (AA s.bq i))from rfl,bs,AD d f,bs];cases JJ (AA s.bq i)
  .rfl
  .simp only[C_,A',if_false,C?];rw[show(AA t.bq i).k7=par t i from rfl,fT (b:=!decide (AA s.bq (par t i)=AA s.bq i)) (λh=>by rw[AD h U,bs,bs]),bs];by_cases h:0<=par t i/\AA s.bq (par t i)≠AA s.bq i
   .rw[aE c_,aE h];rfl
   .rw[aN c_,aN h];rfl
variable{l:Fp}
theorem Q8(z:l.length<=1000):∃m,Fa l=Y m:=by
 unfold Fa slices_Clone_int;rw[BM a?,bs];obtain⟨m,y,B⟩:=QG (f:=(λ(d:Int)(h:Fp)=>
 (idx h d).bind λj=>
 (idx h d).bind λq=>
 Y (BN h d (Ag (4-j))))) (λ_ s=>s.length=l.length) (a:=0) (b:=l.length) (s:=l) U rfl (λi s u A w=>by
  refine ⟨_,by rw[AD u U,bs,bs],?_⟩;simp[BN,w])
 rw [y];exact⟨m,rfl⟩
theorem oR(hf:A0 t)(s:Ap):FO t s=Y (DJ t s):=by
 unfold FO EY;rw[V3 hf,bs];by_cases h:DJ t s=0
 .have ho:=(LT h).2;have:=ho.z5;have:=ho.Aaf;have:=ho.types.c9;have:=ho.types.d6;obtain⟨m,d⟩:=Q8 (l:=s.bq) U;obtain⟨k,f⟩:=Q8 (l:=s.ca) U;rw[aN c_,d,bs,f,h];rfl
 .rw[aE c_];rfl
def Of(r:ei):Bool:=decide (r.ec.em.length=0/\r.ec.j4.length=0/\r.d4.em.length=0/\r.ec.eT=0)&&r.jj&&decide (r.c8.gN=1)&&decide (r.ne.bq.length=r.ec.ci.bq.length/\r.ne.ca.length=r.ec.ci.ca.length)
def x5(t:AC)(l:Fp):Bool:=!(l.any λk=>t.bq.any λn=>decide (n.k7=k))
def Xi(t:AC)(g:ci):Bool:=!gh (λi=>!D4 t g i) 0 g.ca.length
noncomputable def Ca(t:AC)(s:Ap)(r:ei):Int:=
 if DJ t s≠0 then DJ t s else if GV t r≠0 then GV t r else if Of r=T then 8 else
 if (x5 t r.ec.ci.bq&&x5 t r.d4.ci.bq&&Xi t r.ec.ci)=X then 0 else 13
structure SD(t:AC)(r:ei):Prop where
 left:Bz r.ec.ci
 ltyped:C1 t r.ec.ci=X
 right:Bz r.d4.ci
 Aat:C1 t r.d4.ci=X
 rtests:r.d4.j4.length=0
 part:ay r.ec.ci r.ne
 mor:aV (Mg r.ec.ci r.ne) r.d4.ci r.ed
 inj:r.ed.bq.Nodup/\r.ed.ca.Nodup
variable{p:d5}
theorem vC(h:IL t p=0):Bz p.ci/\C1 t p.ci=X:=by grind[IL,Dw]
theorem P3(h:GV t r=0):(BF t).2=0/\SD t r:=by
 unfold GV at h;split at h
 .omega
 split at h
 .cases h
 split at h
 .omega
 split at h
 .omega
 split at h
 .omega
 rename_i q u w y z;have d:=vC (t:=t) (p:=r.ec) U;have f:=XC (t:=t) (r:=r) U;have j:=rb (r:=r) U;have hi:Kk r.ed.bq=X/\Kk r.ed.ca=X:=by
  grind [JW]
 refine ⟨U,d.1,d.2,f.1,f.2,?_,?_,Vs j.2.1,K6.1 hi.1,K6.1 hi.2⟩
 .grind[KU]
 grind [EG,VK]
theorem fU{n:Nat}(h:∀x∈l,0<=x/\x<n)(f:l.Pairwise (·<·)):l.length<=n:=by
 have key:∀i:Int,0<=i->i<l.length->i<=AA l i:=by
  intro i d j;obtain⟨k,rfl⟩:=Int.eq_ofNat_of_zero_le d;clear d
  induction k with
  |zero=>exact(h _ (AI U U)).1|succ k q=>
   grind [Ka]
 by_cases d:l.length=0
 .omega
 .have a:=key ((l.length:Int)-1) U U
  grind [AI]
theorem oI{a b:Fp}(w:a.length<=1000)(y:b.length<=1000):HU [a,b]=Y (a++b):=by
 have q:Ag (0+(a.length:Int))=a.length:=e!
 have u:Ag ((a.length:Int)+(b.length:Int))=a.length+b.length:=Au U U;have d:idx [a,b] 0=Y a:=rfl;have f:idx [a,b] 1=Y b:=rfl;unfold HU;rw[show(([a,b]:List Fp).length:Int)=2 from rfl];rw[Bs (a:=0) (b:=2) (s:=(0:Int)) (λi=>if i=0 then 0 else if i=1 then(a.length:Int)else a.length+b.length) a_ rfl]
 .rw[bs,aN a_,aN a_];unfold Iu;rw[aE ⟨rfl,U,a?⟩,bs];rw[Bs (a:=0) (b:=2) (s:=([]:Fp)) (λi=>if i=0 then[]else if i=1 then a else a++b) a_ rfl]
  .rfl
  .intro i h j;have:i=0\/i=1:=U
   rcases this with rfl|rfl
   .rw[d,bs,aE rfl,aN a_,aE a_,BM a?];rfl
   .rw[f,bs,aN a_,aE rfl,aN a_,aN a_,Ao a?];rfl
 .intro i h j;have:i=0\/i=1:=U
  rcases this with rfl|rfl
  .rw[d,bs,aE rfl,q,aN V];rfl
  .rw[f,bs];show(if decide (Ag ((a.length:Int)+b.length)<0)=X then W else Y (Ag ((a.length:Int)+b.length)))=Y ((a.length:Int)+b.length);rw[u,aN a!]
theorem u9(hf:A0 t){s:Ap}(d:E6 r):FN t s r=Y (Ca t s r):=by
 unfold FN Ca;rw[oR hf,bs];refine Dz λw=>?_;rw[lm hf d,bs];refine Dz λf=>?_;have ho:=(P3 f).2;have u:=(P3 f).1;have l1:=d.left.slots;have l2:=d.left.tests;have z:=d.right.slots;have A:=d.right.tests;have B:=fU ho.part.c9.1 ho.part.c9.2;have C:=fU ho.part.d6.1 ho.part.d6.2;have D:=ho.rtests;rw[Au (n:=(r.ec.em.length:Int)+r.ec.j4.length) U U,Au (n:=(r.ec.em.length:Int)+r.ec.j4.length+r.d4.em.length) U U,Au (n:=(r.ec.em.length:Int)+r.ec.j4.length+r.d4.em.length+r.d4.j4.length) U U];refine PY ?_ λy=>?_
 .unfold Of;cases r.jj
  .simp
  .simp only[C_,D_,Bool.and_true,A!,kp,A?,p0,decide_eq_false_iff_not,B!];omega
 rw [oI (by have:=ho.left.c9;omega) (by have:=ho.right.c9;omega),bs,BX (λi=>t.bq.any λn=>decide (n.k7=AA (r.ec.ci.bq++r.d4.ci.bq) i)) 13]
 .rw[<-GY (l:=r.ec.ci.bq++r.d4.ci.bq) (p:=λk=>t.bq.any λn=>decide (n.k7=k)),List.any_append,BX (λi=>!D4 t r.ec.ci i) 13]
  .unfold x5 Xi;cases(r.ec.ci.bq.any λk=>t.bq.any λn=>decide (n.k7=k))<;>cases(r.d4.ci.bq.any λk=>t.bq.any λn=>decide (n.k7=k))<;>cases gh (λi=>!D4 t r.ec.ci i) 0 r.ec.ci.ca.length<;>rfl
  .intro i h j _;have E:=ho.left.fit _ (AI h j);rw[AD h j,bs,AD U U,bs,AD U U,bs,cY hf,bs,Jy];rfl
 .intro i h j _;rw[AD h j,bs,show(λq=>Ix q (AA (r.ec.ci.bq++r.d4.ci.bq) i))=(λn=>Y (decide (n.k7=AA (r.ec.ci.bq++r.d4.ci.bq) i)))from rfl,WK,bs,Jy]
theorem dB(t:AC)(g:ci):Jg t g=Y (x5 t g.bq):=by
 unfold Jg x5;rw[GY,BX (λi=>t.bq.any λn=>decide (n.k7=AA g.bq i)) T]
 .cases gh (λi=>t.bq.any λn=>decide (n.k7=AA g.bq i)) 0 g.bq.length<;>rfl
 .intro i d f _;rw[GY,BX (λj=>decide ((AA t.bq j).k7=AA g.bq i)) T]
  .cases gh (λj=>decide ((AA t.bq j).k7=AA g.bq i)) 0 t.bq.length<;>rfl
  .intro j h q _;rw[AD h q,bs,AD d f,bs,Jy]
variable{g:ci}
theorem sI(hf:A0 t)(h:Bz g):Nv t g=Y (Xi t g):=by
 unfold Nv Xi;rw[BX (λi=>!D4 t g i) T]
 .cases gh (λi=>!D4 t g i) 0 g.ca.length<;>rfl
 .intro i d f _;have j:=h.fit _ (AI d f);rw[AD d f,bs,AD U U,bs,AD U U,bs,cv hf,bs,Jy];rfl
theorem vS(hf:A0 t){s:Ap}(d:E6 r):MR t s r=Y (Ca t s r):=by
 unfold MR Ca;rw[gY hf,bs];refine Dz λh=>?_;rw[vN hf d,bs];refine Dz λf=>?_;have ho:=(P3 f).2;have l1:=d.left.slots;have l2:=d.left.tests;have j:=d.right.slots;have e:Jf r=Y (Of r):=by
  unfold Jf Of;rw[Au (n:=(r.ec.em.length:Int)+r.d4.em.length) U U,Au (n:=(r.ec.em.length:Int)+r.d4.em.length+r.ec.j4.length) U U];congr 1;cases r.jj
  .simp
  .rw[z?];simp only[kp,p0,and_true];omega
 rw [e,bs];refine Uq λ_=>?_;rw[dB,bs,dB,sI hf ho.left];simp only[bs];cases x5 t r.ec.ci.bq<;>cases x5 t r.d4.ci.bq<;>cases Xi t r.ec.ci<;>rfl
end Go.Sf.Sc
namespace Go.Sf
variable{a b:Int}
theorem WD{ρ:Type}{f:Int->Option (CF Int ρ)}(p:Int->Bool)(v:ρ)(d:a<=b)(h:∀i,a<=i->i<b->f i=Y (if p i=X then .ret v else .next (i+1)))(j:f b=Y (.brk b)):GP f a=Y (if gh p a b=X then .inr v else .inl b):=by
 rw [P5 (c:=λi=>(if p i=X then Y ()else W).map λ_=>.inr v) d]
 .grind[Vp,O4,gh]
 .intro i q u _;rw[h i q u];cases p i<;>rfl
 .exact j
theorem Lj{α:Type}{e:α->TV}{n:Nat}{l:List α}(h:TV.Sm (.list n (l.map e))):(l.length:Int)<=140737488351232/\∀x∈l,(e x).Sm:=by
 simp [TV.Sm]at h;refine⟨by have:=h.1;unfold reachBytes at this;omega,λx d=>V9.1 h.2 _ (F_.2 ⟨x,d,rfl⟩)⟩
end Go.Sf
namespace Go.Sf.Sc
open Go Go.Sf
def bN(a:gi):Bool:=(decide (40<(a.gp.size:Int))||decide (25<(a.mo.length:Int)))||gh (λi=>decide (40<((AA a.mo i).size:Int))) 0 a.mo.length
theorem nK{a:gi}(h:bN a=T):Wb a:=by
 unfold bN at h;simp[decide_eq_false_iff_not,Bt]at h;refine⟨U,U,λx d=>?_⟩
 grind [BT]
variable{t:AC}
theorem kf(η:(AS t).Sm):∃b,PA t=Y b/\(b=X->A0 t):=by
 have N:TV.Sms [_,_]:=η;obtain⟨y,S⟩:=Lj (e:=CZ) N.1;unfold PA;by_cases hl:20<t.bq.length\/30<t.ca.length
 .rw[aE a!]
  grind
 rw [aN a!];rcases Ws (f:=(λ(D:Int)(ε:Int)=>
 (idx t.bq D).bind λB=>
 (if(decide (30<(Ag (ε+(B.kl.length:Int)))))=X then Y X else((idx t.bq D).bind λH=>
 Y (decide (40<(H.gp.size:Int))))).bind λI=>
 if I=X then
 Y (CF.ret T)
 else
 eg (GP (ρ:=Bool) (λ(z:Int)=>
 (idx t.bq D).bind λJ=>
 if (decide (z<(J.kl.length:Int)))=X then
 (idx t.bq D).bind λK=>
 (idx K.kl z).bind λu=>
 if ((decide (40<(u.gp.size:Int)))||(decide (25<(u.mo.length:Int))))=X then
 Y (.ret T)
 else
 eg (GP (ρ:=Bool) (λ(A:Int)=>
 if (decide (A<(u.mo.length:Int)))=X then
 (idx u.mo A).bind λL=>
 if (decide (40<(L.size:Int)))=X then
 Y (.ret T)
 else
 Y (.next (Ag (A+1)))
 else
 Y (.brk A)) 0) (λA=>
 Y (.next (Ag (z+1)))) (λZ=>Y (.ret Z))
 else
 Y (.brk z)) 0) (λz=>
 Y (.next (Ag (ε+(B.kl.length:Int))))) (λv2=>Y (.ret v2))))
  (λi s=>0<=s/\s<=30/\∀j,0<=j->j<i->((AA t.bq j).gp.size:Int)<=40/\(AA t.bq j).kl.length<=30/\∀a∈(AA t.bq j).kl,Wb a) (λ_=>False) (λr=>r=T) (a:=0) (b:=t.bq.length) (s:=0) U ⟨U,U,λj C d=>U⟩ (λi s E F hI=>by
   have hx:=S _ (AI (l:=t.bq) E F);have O:TV.Sms [_,_,_,_]:=hx;obtain⟨ha,θ⟩:=Lj (e:=F4) O.2.2.2.1;obtain⟨hI1,hI2,hI3⟩:=hI;have hw:Ag (s+(AA t.bq i).kl.length)=s+(AA t.bq i).kl.length:=Au U U;simp only[AD E F,bs,hw,cW];by_cases hc:30<s+(AA t.bq i).kl.length\/40<((AA t.bq i).gp.size:Int)
   .grind
   rw [aN (by simpa using hc)];rw[WD (λj=>bN (AA (AA t.bq i).kl j)) T (b:=(AA t.bq i).kl.length) U]
   .cases κ:gh (λj=>bN (AA (AA t.bq i).kl j)) 0 (AA t.bq i).kl.length
    .refine .inl ⟨_,rfl,U,U,λj M G=>?_⟩
     grind [BT,nK,Bt]
    .exact .inr (.inr ⟨_,rfl,rfl⟩)
   .intro j M G;rw[aE (by simpa using G),AD M G,bs];have hy:=θ _ (AI (l:=(AA t.bq i).kl) M G);have Q:TV.Sms [_,_,_,_]:=hy;obtain⟨hm,_⟩:=Lj (e:=eS) Q.2.2.2.1;unfold bN;cases C:(decide (40<((AA (AA t.bq i).kl j).gp.size:Int))||decide (25<((AA (AA t.bq i).kl j).mo.length:Int)))
    .rw[aN a_,WD (λk=>decide (40<((AA (AA (AA t.bq i).kl j).mo k).size:Int))) T (b:=(AA (AA t.bq i).kl j).mo.length) U]
     .cases gh (λk=>decide (40<((AA (AA (AA t.bq i).kl j).mo k).size:Int))) 0 (AA (AA t.bq i).kl j).mo.length
      .rw[D_,Au (show -9223372036854775808<=j+1 by omega) U];rfl
      .rfl
     .intro k w q;rw[aE j?,AD w q,bs,Au (show -9223372036854775808<=k+1 by omega) U,Jy]
     .rw[aN V]
    .rfl
   .rw[aN V])with⟨s',C,d⟩|⟨r,C,d⟩
 .rw[C];rcases d with d|d
  .rw[CI,BX (λi=>decide (40<((AA t.ca i).gp.size:Int))) T]
   .cases κ:gh (λi=>decide (40<((AA t.ca i).gp.size:Int))) 0 t.ca.length
    .refine⟨X,rfl,λ_=>⟨U,U,λn y=>?_,λn y=>?_,λn y=>?_,λe he=>?_⟩⟩
     .obtain⟨k,w,q,rfl⟩:=BT y;exact(d.2.2 k w q).1
     .obtain⟨k,w,q,rfl⟩:=BT y;exact(d.2.2 k w q).2.1
     .obtain⟨k,w,q,rfl⟩:=BT y;exact(d.2.2 k w q).2.2
     .obtain⟨k,w,q,rfl⟩:=BT he;have:=Bt.1 κ k w q;simpa using this
    .exact⟨T,rfl,λh=>e_⟩
   .intro i E F _;rw[AD E F,bs,Jy]
  .exact d.elim
 .rw[C];subst d;exact⟨T,rfl,λh=>e_⟩
theorem Yp(p:d5):∃b,M7 p=Y b/\(b=X->ar p):=by
 refine ⟨_,rfl,λh=>?_⟩;simp[p0]at h;exact⟨U,U,U,U⟩
variable{a b:Int}
theorem fm(h:0<=a)(d:a<=140737488351232)(j:0<=b)(f:b<=140737488351232):Ag (a+b)=a+b:=Au U U
variable{m:cE}
theorem fl(f:(BR m).Sm):∃b,PD m 140=Y b/\(b=X->iI m):=by
 have d:TV.Sms [_,_]:=f;have j:=(Lj (e:=eI) d.1).1;have q:=(Lj (e:=eI) d.2.1).1;refine⟨_,rfl,λh=>?_⟩;rw[fm U j U q]at h;simp[p0]at h;exact⟨U,U⟩
theorem nX{m:B7}(f:(If m).Sm):∃b,RC m 140=Y b/\(b=X->TH m):=by
 have d:TV.Sms [_,_]:=f;have j:=(Lj (e:=eI) d.1).1;have q:=(Lj (e:=eI) d.2.1).1;refine⟨_,rfl,λh=>?_⟩;rw[fm U j U q]at h;simp[p0]at h;exact⟨U,U⟩
variable{c:c8}
theorem rH(h:(AR c).Sm):(BR c.Map).Sm/\(c.ff.length:Int)<=140737488351232/\∀k∈c.ff,(AR k).Sm:=by
 have f:TV.Sms [_,_,_,_,_,_,_,_,_]:=h;obtain⟨_,d,j,q,_⟩:=f;rw[Ie]at d;obtain⟨u,w⟩:=Lj d;exact⟨⟨j,q,trivial⟩,u,w⟩
theorem bi:∀(N:Nat)(c:c8),SizeOf.sizeOf c<=N->(AR c).Sm->∀o3:Int,0<=o3->o3<=1000->∃r,(∀n,N<=n->FB n c o3=Y r)/\-1<=r/\r<=o3-1/\(0<=r->GQ c)
 |0,c,h,_,_,_,_=>by have:=G3 c;omega|N+1,c,h,hs,o3,m0,m1=>by
  obtain ⟨Q,S,D⟩:=rH hs;obtain⟨θ,G,ε⟩:=Yp c.d5;obtain⟨κ,J,η⟩:=fl Q;have step:∀n,N+1<=n->∃m,n=m+1/\N<=m:=λn d=>⟨n-1,U,U⟩;cases θ
  .refine⟨-1,λn d=>?_,U,U,λh=>U⟩;obtain⟨n,rfl,_⟩:=step n d;rw[FB,G];rfl
  cases κ
  .refine⟨-1,λn d=>?_,U,U,λh=>U⟩;obtain⟨n,rfl,_⟩:=step n d;rw[FB,G,bs,J];rfl
  have loop:∀(m:Nat)(k left:Int),0<=k->k+m=c.ff.length->-1<=left->left<=1000->∃f w,(∀n,N<=n->Ms (ρ:=Int) (λ(u:Int×Int)=>
    if ((decide (u.2<(c.ff.length:Int)))&&(decide (0<=u.1)))=X then
    (idx c.ff u.2).bind λz=>
    (FB n z u.1).bind λA=>
    Y (.next (A,Ag (u.2+1)))
    else
    Y (.brk (u.1,u.2))) (left,k) (.inl (f,w)))/\-1<=f/\f<=left/\(0<=f->∀j,k<=j->j<c.ff.length->GQ (AA c.ff j)):=by
   intro m
   induction m with
   |zero=>
    intro k left E L F l1;refine⟨left,k,λn d=>.brk ?_,F,U,λ_ j B y=>U⟩;rw[aN a!]
   |succ m ih=>
    intro k left E L F l1;by_cases M:0<=left
    .have q:=AI (l:=c.ff) E U;have:=KA q;obtain⟨r,Z,r2,r3,r4⟩:=bi N _ U (D _ q) left M l1;obtain⟨f,w,a1,a2,K,H⟩:=ih (k+1) r U U r2 U;refine⟨f,w,λn d=>.next (s':=(r,k+1)) ?_ (a1 n d),a2,U,λC j B y=>?_⟩
     .rw[aE a!,AD E U,bs,Z n d,bs,Au U U]
     .by_cases O:j=k
      .subst O;exact r4 U
      .exact H C j U y
    .refine⟨left,k,λn d=>.brk ?_,F,U,λh=>U⟩;rw[aN a!]
  obtain ⟨f,w,a1,a2,K,H⟩:=loop c.ff.length 0 (o3-1) U U U U;refine⟨f,λn d=>?_,a2,K,λC=>.mk c (ε rfl) (η rfl) (λk D=>?_)⟩
  .obtain⟨n,rfl,I⟩:=step n d;rw[FB,G,bs,J];simp only[bs,C_,A',if_false];rw[Au (n:=o3-1) U U,(a1 n I).eq,CI]
  .obtain⟨j,B,y,rfl⟩:=BT D;exact H C j B y
theorem nW(d:(AR c).Sm):∃b,PI c=Y b/\(b=X->GQ c):=by
 obtain ⟨r,f,_,_,j⟩:=bi (SizeOf.sizeOf c) c (a5 _) d 40 U U;have e:Tt c 40=Y r:=Gb (SizeOf.sizeOf c) f;unfold PI;rw[e];exact⟨_,rfl,λh=>j c_⟩
variable{o:K1}
theorem Hs{b:Bool}{c:Bool}(h:o=Y c):(if b=X then o.bind λx=>Y x else Y T)=Y (b&&c):=by
 subst h;cases b<;>rfl
variable{r:ei}
theorem nY(d:(Bb r).Sm):∃b,PJ r=Y b/\(b=X->E6 r):=by
 have f:TV.Sms [_,_,_,_,_,_,_,_,_,_,_,_,_,_,_,_,_,_,_,_,_,_,_,_,_]:=d;obtain⟨_,_,_,_,_,_,_,_,_,_,_,j,q,u,w,_,y,z,c3,c4,c5,c6,A,B,C,_⟩:=f;obtain⟨N,D,E⟩:=Yp r.ec;obtain⟨O,F,G⟩:=Yp r.d4;obtain⟨Q,H,I⟩:=nX (m:=r.ne) ⟨j,q,trivial⟩;obtain⟨S,J,K⟩:=fl (m:=r.ed) ⟨u,w,trivial⟩;obtain⟨θ,L,M⟩:=nW (c:=r.c8) ⟨y,z,c3,c4,c5,c6,A,B,C,trivial⟩;unfold PJ;rw[Hs D,bs,Hs F,bs,Hs H,bs,Hs J,bs,Hs L,bs];refine⟨_,rfl,λh=>?_⟩;simp[p0]at h;exact⟨h.1.1.1.1.1,E h.1.1.1.1.2,G h.1.1.1.2,I h.1.1.2,K h.1.2,M h.2⟩
theorem fk{s:Ap}(d:(AS t).Sm)(f:(Bb r).Sm):∃b,LK t s r=Y b/\(b=X->A0 t/\E6 r):=by
 obtain ⟨y,j,q⟩:=kf d;obtain⟨z,u,w⟩:=nY f;unfold LK;rw[j,bs,Hs (o:=RE s) rfl,bs,Hs u,bs];refine⟨_,rfl,λh=>?_⟩;simp only[kp]at h;exact⟨q h.1.1,w h.2⟩
end Go.Sf.Sc
namespace Go.Sf
def Dk(q:Int->Bool)(n:Int):Fp:=((E! n.toNat).map z_).filter q
variable{i:Int}
theorem M9(q:Int->Bool)(h:0<=i):Dk q (i+1)=Dk q i++if q i=X then[i]else[]:=by
 unfold Dk;rw[show(i+1).toNat=i.toNat+1 by omega,F?,G_,G!];congr 1;simp only[List.map_cons,List.map_nil,List.filter_cons,List.filter_nil,show z_ i.toNat=i from y? h]
theorem I6(q:Int->Bool)(n:Int):(Dk q n).length<=n.toNat:=by
 unfold Dk;exact Nat.le_trans (List.length_filter_le _ _) V
end Go.Sf
namespace Go.Sf.Sc
open Go Go.Sf
def Tf(s:Ap)(g:ci)(sort i:Int):Bool:=decide (AA s.bq (AA g.bq i)=sort)
def Vn(s:Ap)(g:ci)(sort i:Int):Bool:=decide (AA s.ca (AA g.ca i).fd=sort)
def ak(s:Ap)(g:ci)(sort:Int):B7:=⟨Dk (Tf s g sort) g.bq.length,Dk (Vn s g sort) g.ca.length⟩
structure Sorted(s:Ap)(g:ci):Prop where
 ok:Bz g
 node:∀n∈g.bq,0<=n/\n<s.bq.length
 edge:∀e∈g.ca,0<=e.fd/\e.fd<s.ca.length
variable{t:AC}{g:ci}
theorem PO{s:Ap}(d:Yb t s)(f:Bz g)(h:C1 t g=X):Sorted s g:=by
 have:=ET f h;refine⟨f,λn j=>?_,λe he=>?_⟩
 .rw[d.z5];exact this.1 n j
 .rw[d.Aaf];exact this.2 e he
variable{r:ei}
theorem Eg{s:Ap}(h:Ca t s r=0):Yb t s/\SD t r/\r.ed.bq.length=r.ec.ci.bq.length/\r.ed.ca.length=r.ec.ci.ca.length:=by
 unfold Ca at h;split at h
 .omega
 split at h
 .omega
 split at h
 .cases h
 rename_i y z u;have w:=(LT (t:=t) (s:=s) U).2;have d:=(P3 (t:=t) (r:=r) U).2;have f:Of r=X:=d_
 unfold Of at f;simp only[kp,p0]at f;have j:=d.mor.z5;have q:=d.mor.Aaf;unfold Mg at j q;simp only[bd]at j q;exact⟨w,d,U,U⟩
end Go.Sf.Sc
namespace Go.Sf.Sc
open Go Go.Sf
def JZ(s:Ap)(r:ei)(l:Fp)(i:Int):Bool:=!hasB r.ed.bq i&&hasB l (AA s.bq (AA r.d4.ci.bq i))
def Hz(s:Ap)(r:ei)(l:Fp)(i:Int):Bool:=!hasB r.ed.ca i&&hasB l (AA s.ca (AA r.d4.ci.ca i).fd)
def Ee(s:Ap)(r:ei)(l:Fp):Fp:=Dk (JZ s r l) r.d4.ci.bq.length
def FM(s:Ap)(r:ei)(l:Fp):Fp:=Dk (Hz s r l) r.d4.ci.ca.length
def TR(r:ei)(into:Fp)(i:Int):B3:=⟨(AA r.d4.ci.ca i).fd,A4 into (AA r.d4.ci.ca i).fu,A4 into (AA r.d4.ci.ca i).To⟩
def An(s:Ap)(r:ei)(l:Fp):Fp:=r.ed.bq++Ee s r l
theorem Yj(l:Fp)(v:Int):slices_Contains_int l v=Y (hasB l v):=K5 l v
end Go.Sf.Sc
namespace Go.Sf
variable{a b:Int}
theorem YX{σ ρ:Type}{f:σ->Option (CF σ ρ)}(g:Int->σ){s:σ}(d:a<=b)(j:s=g a)(h:∀i,a<=i->i<b->f (g i)=Y (.next (g (i+1))))(q:f (g b)=Y (.brk (g b))):GP f s=Y (.inl (g b)):=by
 subst j;have key:∀(n:Nat)(i:Int),a<=i->i+n=b->Ms f (g i) (.inl (g b)):=by
  intro n
  induction n with
  |zero=>
   intro i _ hi;have:i=b:=U
   subst this;exact .brk q
  |succ n w=>
   intro i u y;exact .next (h i u U) (w (i+1) U U)
 exact (key (b-a).toNat a (y_ _) U).eq
end Go.Sf
namespace Go.Sf.Sc
open Go Go.Sf
variable{g:ci}
theorem cz(d:g.bq.length<=1000)(f:g.ca.length<=1000):H5 g=Y g:=by
 unfold H5;rw[BM a?,bs,BM a?];rfl
end Go.Sf.Sc
