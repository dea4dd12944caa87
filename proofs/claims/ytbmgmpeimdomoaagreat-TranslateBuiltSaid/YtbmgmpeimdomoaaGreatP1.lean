/- Plain lemmas: what the functions of the program and of the reference compute. -/
import Derived.Test.YtbmgmpeimdomoaaGreatSfRead
import Derived.Test.YtbmgmpeimdomoaaGreatFns
import Derived.Test.YtbmgmpeimdomoaaGreatSfPl
set_option linter.all false
set_option maxRecDepth 100000
open Option renaming some->Y,none->W
open Bool renaming true->X,false->T
open Option renaming getD->w!,isSome->w?,bind_assoc->x_,bind_fun_some->x!
open Int renaming le_refl->x?,toNat_natCast->y_,toNat_of_nonneg->y!,ofNat->y?,tmod_eq_emod_of_nonneg->z_
open Bool renaming true_and->z!,eq_iff_iff->z?,false_and->A_,false_eq_true->A',or_eq_true->A!,not_eq_true'->A?,not_eq_false'->B_,or_eq_false_iff->B',and_eq_false_iff->B!,eq_false_iff->B?,not_true->C_,not_eq_true->C',or_assoc->C!,true_eq_false->C?,or_false->D_
open List renaming mem_append->D',any_eq_false->D!,getElem?_eq_getElem->D?,getD_eq_getElem?_getD->E_,take_length->E',any_eq_true->E!,range->E?,ext_getElem->F_,mem_map->F!,pairwise_iff_getElem->F?,range_succ->G_,map_append->G!,filter_append->G?,all_eq_not_any_not->H_,map_cons->H',map_nil->H!,mem_singleton->H?
open Nat renaming zero_le->I_
namespace Go.Sf
theorem ZU{ρ τ:Type}{d:Int->Option ρ}{g:ρ->τ}:∀(n:Nat)(a:Int),Fh (λi=>(d i).map g) n a=(Fh d n a).map g
 |0,_=>rfl|n+1,a=>by
  rw [Fh,Fh];cases d a with
  |some r=>rfl|none=>exact ZU n (a+1)
variable{a b:Int}
theorem Qv{ρ τ:Type}{d:Int->Option ρ}{g:ρ->τ}:fst (λi=>(d i).map g) a b=(fst d a b).map g:=ZU _ _
theorem Xl{ρ:Type}{d:Int->Option ρ}{r:ρ}:∀{n:Nat}{a:Int},Fh d n a=Y r->∃i,a<=i/\i<a+n/\d i=Y r/\∀j,a<=j->j<i->d j=W
 |0,_,h=>c?
 |n+1,a,h=>by
  rw [Fh]at h;cases hd:d a with
  |some y=>
   grind
  |none=>
   rw [hd]at h;obtain⟨i,f,q,u,w⟩:=Xl h
   grind
theorem DW{ρ:Type}{d:Int->Option ρ}{r:ρ}(h:fst d a b=Y r):∃i,a<=i/\i<b/\d i=Y r/\∀j,a<=j->j<i->d j=W:=by
 obtain ⟨i,f,q,u,w⟩:=Xl h
 grind
def Mt(p:Int->Bool)(s:ByteArray):Int:=(fst (λi=>if p (bt s i)then W else Y i) 0 s.size).getD s.size
theorem Uz(p:Int->Bool)(s:ByteArray):0<=Mt p s/\Mt p s<=s.size/\(∀j,0<=j->j<Mt p s->p (bt s j)=X)/\(Mt p s<s.size->p (bt s (Mt p s))=T):=by
 unfold Mt;cases h:fst (λi=>if p (bt s i)then W else Y i) 0 s.size with
 |none=>
  rw [Bc]at h
  grind
 |some r=>
  grind [DW,bt,w!]
variable{s:ByteArray}
theorem db(h:s≠⟨#[]⟩):0<s.size:=by
 rcases Nat.eq_zero_or_pos s.size with f|f
 .exfalso;apply h;cases s with|mk d=>congr 1;exact Array.eq_empty_of_size_eq_zero f
 .exact f
end Go.Sf
namespace Go.Sf.Sc
open Go Go.Sf
def Gi(c:Int):Bool:=((decide (97<=c))&&(decide (c<=122)))||((decide (65<=c))&&(decide (c<=90)))
def x6(c:Int):Bool:=(decide (48<=c))&&(decide (c<=57))
def Ry(c:Int):Bool:=Gi c||x6 c||decide (c=95)
theorem cl(c:Int):MA c=Y (Gi c):=rfl
theorem Ys(c:Int):K9 c=Y (x6 c):=rfl
theorem dF(c:Int):Ln c=Y (Gi c):=rfl
theorem gK(c:Int):JR c=Y (x6 c):=rfl
theorem vL(c:Int):Ow c=Y (Ry c):=by
 unfold Ow Ry;rw[cl,bs,Ys]
 grind
variable{s:ByteArray}
theorem jO(d:(s.size:Int)<=4611686018427387904){ok:Int->I1}{p:Int->Bool}(h:∀c,ok c=Y (p c)):H0 s ok=Y (Mt p s):=by
 unfold H0;rw[Q5 (c:=λi=>(if p (bt s i)then W else Y i).map .inl) (a:=0) (b:=s.size) U]
 .rw[Qv];unfold Mt;cases fst (λi=>if p (bt s i)=X then W else Y i) 0 s.size<;>rfl
 .grind[Q3,bt,F2,Ao]
 .simp
def FV(s:ByteArray):Bool:=decide (0<s.size)&&Gi (bt s 0)&&decide (s.size<=20)&&decide (Mt Ry s=s.size)
theorem Yq(l:List ByteArray)(v:ByteArray):∃k,slices_Index_string l v=Y k/\(0<=k↔v∈l):=by
 unfold slices_Index_string;rw[BU (λi=>if(v==AA l i)=X then Y i else W)]
 .cases h:fst (λi=>if(v==AA l i)=X then Y i else W) 0 l.length with
  |none=>
   rw [Bc]at h;refine⟨-1,rfl,U,λq=>?_⟩
   grind [BC]
  |some k=>
   obtain ⟨i,d,f,u,_⟩:=DW h;have j:(v==AA l i)=X/\i=k:=by
    grind
   obtain ⟨j,rfl⟩:=j;refine⟨i,rfl,λ_=>?_,λ_=>d⟩
   grind [AG]
 .intro i d f _;simp only[AD d f,bs];split<;>rfl
theorem Qb(l:List ByteArray)(v:ByteArray):slices_Contains_string l v=Y (l.contains v):=by
 unfold slices_Contains_string;obtain⟨k,d,f⟩:=Yq l v
 grind
theorem vJ(B:0<s.size)(y:(s.size:Int)<=4611686018427387904):∃k n e,Ka s=Y (k,n,e)/\(((decide (e=0))&&(decide (k=1)))&&(decide (n=(s.size:Int))))=FV s:=by
 have H:=Uz Ry s;unfold Ka FV;simp only[Q3 (x? 0) (show(0:Int)<s.size by omega),bs,cl,Ys,jO y vL,jO y Ys,B,decide_true,z!];by_cases d:Gi (bt s 0)=X
 .rw[Ne d];by_cases f:20<Mt Ry s
  .refine⟨0,0,3,by simp[f],?_⟩;simp[d];intro G h;omega
  .refine⟨1,_,0,by rw[QQ e!],?_⟩;simp only[d,decide_true,z!];rw[z?];simp only[pE,gN];omega
 .rw[QQ d];have j:Gi (bt s 0)=T:=b?
  rw [j,A_,A_];by_cases hd:x6 (bt s 0)=X
  .rw[Ne hd];by_cases z:9<Mt x6 s
   .exact⟨0,0,3,by simp[z],V⟩
   .exact⟨2,_,0,by rw[QQ n_],V⟩
  .rw[QQ hd];by_cases A:bt s 0=34
   .have C:=aQ (s:=s) (a:=1) (b:=s.size) U U U;have q:∀c,Mi c=Y (((decide (32<=c))&&(decide (c<=126)))&&(!decide (c=34))):=λ_=>rfl;have D:=Uz (λc=>((decide (32<=c))&&(decide (c<=126)))&&(!decide (c=34))) (s.extract (1:Int).toNat (s.size:Int).toNat);have u:∃n e,IT s=Y (n,e):=by
     unfold IT;rw[N3 U U U,bs,jO U q,bs];rw[Ao U U];by_cases he:1+Mt (λc=>((decide (32<=c))&&(decide (c<=126)))&&(!decide (c=34))) (s.extract (1:Int).toNat (s.size:Int).toNat)=s.size
     .refine⟨0,2,?_⟩;simp only[he,decide_true,if_true,bs]
     .simp only[he,decide_false,A',if_false];rw[Q3 U U];simp only[bs];split
      .exact⟨_,_,rfl⟩
      .split
       .exact⟨_,_,rfl⟩
       .exact⟨_,_,rfl⟩
    obtain ⟨n,e,w⟩:=u;refine⟨3,n,e,by rw[Ne so,w];rfl,V⟩
   .rw[QQ so];have E:∃b,Ov s=Y b:=by
     unfold Ov;by_cases h:2<=(s.size:Int)
     .rw[Ne c_,N3 U U h];simp only[bs,Qb];exact⟨_,rfl⟩
     .rw[QQ c_];exact⟨_,rfl⟩
    obtain ⟨b,F⟩:=E;rw[F,bs];cases b
    .simp only[A',if_false,strings_IndexByte,bs];split
     .exact⟨_,_,_,rfl,rfl⟩
     .exact⟨_,_,_,rfl,rfl⟩
    .exact⟨_,_,_,rfl,rfl⟩
theorem RL(d:(s.size:Int)<=4611686018427387904):EL s=Y (FV s):=by
 unfold EL LA;simp only[show decide ((1:Int)=3)=T from rfl,A',if_false,bs];by_cases he:s=⟨#[]⟩
 .subst he;rfl
 grind [vJ,db]
theorem vo(u:(s.size:Int)<=4611686018427387904)(d:Bool):∃n,Lq s 0 d=Y n/\0<=n/\n<=s.size/\(d=T->n=Mt Ry s):=by
 have h:=Uz (λc=>x6 c||(!d&&(Gi c||decide (c=95)))) s;refine⟨Mt (λc=>x6 c||(!d&&(Gi c||decide (c=95)))) s,?_,h.1,h.2.1,λhd=>?_⟩
 .unfold Lq;rw[Q5 (c:=λi=>(if(x6 (bt s i)||(!d&&(Gi (bt s i)||decide (bt s i=95))))then W else Y i).map .inl) (a:=0) (b:=s.size) U]
  .rw[Qv];unfold Mt;cases fst (λi=>if(x6 (bt s i)||(!d&&(Gi (bt s i)||decide (bt s i=95))))=X then W else Y i) 0 s.size<;>rfl
  .intro i q f _;have j:AW (0+i)=i:=d?
   simp only[j,f,decide_true,if_true,Q3 q f,bs,gK,dF]
   grind [x6,bt,Gi,F2,Ao]
  .have j:AW (0+(s.size:Int))=s.size:=d?
   grind
 .subst hd;congr 1
  grind [Ry,Gi,x6]
theorem oo(u:0<s.size)(w:(s.size:Int)<=4611686018427387904):∃n,IJ s 0=Y n/\(n=0\/(2<=n/\n<=s.size)):=by
 unfold IJ;rw[Q5 (c:=λi=>if decide (bt s i=34)=X then Y (Sum.inr (i+1):Int ⊕ Int)else if(decide (bt s i<32)||decide (126<bt s i))=X then Y (Sum.inr 0)else W) (a:=1) (b:=s.size) U]
 .cases h:fst (λi=>if decide (bt s i=34)=X then Y (Sum.inr (i+1):Int ⊕ Int)else if(decide (bt s i<32)||decide (126<bt s i))=X then Y (Sum.inr 0)else W) 1 s.size with
  |none=>exact⟨0,rfl,.inl rfl⟩|some r=>
   obtain ⟨i,q,f,d,_⟩:=DW h;split at d
   .cases d;exact⟨_,rfl,.inr U⟩
   .split at d
    .cases d;exact⟨_,rfl,.inl rfl⟩
    .cases d
 .intro i q f _;have j:AW (0+i)=i:=d?
  simp only[j,f,decide_true,if_true,Q3 (show 0<=i by omega) f,bs,Ao (show -9223372036854775808<=i+1 by omega) U];split
  .rfl
  .split<;>rfl
 .have j:AW (0+(s.size:Int))=s.size:=d?
  grind
theorem y9(Q:0<s.size)(S:(s.size:Int)<=4611686018427387904):∃t n e,Lp s 0=Y (t,n,e)/\(((decide (e=0))&&(decide (n=(s.size:Int))))&&(decide (t.fq=1)))=FV s:=by
 obtain ⟨m,N,w,y,O⟩:=vo S (x6 (bt s 0));unfold Lp FV;simp only[Q3 (x? 0) (show(0:Int)<s.size by omega),bs,dF,gK,Q,decide_true,z!,N];have θ:AW (0+m)=m:=d?
 by_cases G:Gi (bt s 0)=X
 .have hd:x6 (bt s 0)=T:=by
   unfold Gi at G;unfold x6
   grind
  have Z:=O hd;subst Z;simp only[G,if_true,hd,A',if_false,bs,θ];by_cases u:20<Mt Ry s
  .refine⟨_,_,_,by rw[Ne e_],?_⟩
   grind
  .rw[QQ e_,N3 (x? _) w y];refine⟨_,_,_,rfl,?_⟩
   grind
 .have H:Gi (bt s 0)=T:=by simpa using G
  simp only[H,A',if_false,bs,A_,θ];by_cases hd:x6 (bt s 0)=X
  .simp only[hd,if_true,bs];by_cases ε:9<m
   .exact⟨_,_,_,by rw[Ne (by simpa using ε)],V⟩
   .rw[QQ (by simpa using ε),N3 (x? _) w y];exact⟨_,_,_,rfl,V⟩
  .have I:x6 (bt s 0)=T:=by simpa using hd
   simp only[I,A',if_false,bs];by_cases κ:bt s 0=34
   .obtain⟨n,hn,z⟩:=oo Q S;rw[Ne (by simpa using κ),hn,bs];rcases z with rfl|z
    .grind
    .rw[QQ an];split
     .grind
     .have e1:AW (0+1)=1:=a_
      have e2:AW (0+n)=n:=d?
      rw [e1,e2,Ao (show -9223372036854775808<=n-1 by omega) U,N3 U U U];exact⟨_,_,_,rfl,V⟩
   .rw[QQ (by simpa using κ)];unfold Pl;rw[bs];generalize hL:([(⟨#[45,62]⟩:ByteArray),(⟨#[60,61]⟩:ByteArray),(⟨#[62,61]⟩:ByteArray),(⟨#[61,61]⟩:ByteArray),(⟨#[33,61]⟩:ByteArray),(⟨#[123]⟩:ByteArray),(⟨#[125]⟩:ByteArray),(⟨#[40]⟩:ByteArray),(⟨#[41]⟩:ByteArray),(⟨#[91]⟩:ByteArray),(⟨#[93]⟩:ByteArray),(⟨#[44]⟩:ByteArray),(⟨#[59]⟩:ByteArray),(⟨#[58]⟩:ByteArray),(⟨#[61]⟩:ByteArray),(⟨#[43]⟩:ByteArray),(⟨#[45]⟩:ByteArray),(⟨#[42]⟩:ByteArray),(⟨#[60]⟩:ByteArray),(⟨#[62]⟩:ByteArray),(⟨#[33]⟩:ByteArray),(⟨#[38]⟩:ByteArray),(⟨#[124]⟩:ByteArray),(⟨#[46]⟩:ByteArray),(⟨#[63]⟩:ByteArray)]:List ByteArray)=L;have J:∀x∈L,x.size<=2:=by subst hL;decide
    rcases Wf (f:=(λ(h:Int)(η:Gn)=>
      (idx L h).bind λB=>
      (if(decide ((AW (0+(B.size:Int)))<=(s.size:Int)))=X then((idx L h).bind λC=>
      (Aau s 0 (AW (0+(C.size:Int)))).bind λD=>
      (idx L h).bind λE=>
      Y (D==E))else Y T).bind λF=>
      if F=X then
      (idx L h).bind λj=>
      (idx L h).bind λq=>
      Y (B2.ret (Gn.mk 4 j 0,(q.size:Int),(0:Int)))
      else
      Y (B2.next η))) (λ_ s=>True) (λ_=>True) (λr=>r.1.fq=4) (a:=0) (b:=L.length) (s:=Gn.mk 0 (⟨#[]⟩:ByteArray) 0) U trivial (λi t d A _=>by
      have hx:=J _ (AG d A);have K:AW (0+((AA L i).size:Int))=(AA L i).size:=d?
      simp only[AD d A,bs,K];by_cases M:((AA L i).size:Int)<=s.size
      .rw[Ne (by simpa using M),N3 U U M];simp only[bs];split
       .exact .inr (.inr ⟨_,rfl,rfl⟩)
       .exact .inl ⟨_,rfl,trivial⟩
      .rw[QQ (by simpa using M)];simp only[bs];exact .inl ⟨_,rfl,trivial⟩)with⟨s',d,_⟩|⟨r,d,A⟩
    .rw[d];exact⟨_,_,_,rfl,V⟩
    .rw[d];exact⟨_,_,_,rfl,by simp[A]⟩
theorem RN(d:(s.size:Int)<=4611686018427387904):EH s=Y (FV s):=by
 unfold EH Kx Ql;simp only[show decide ((1:Int)=3)=T from rfl,A',if_false,bs];by_cases he:s=⟨#[]⟩
 .subst he;rfl
 grind [y9,db]
end Go.Sf.Sc
namespace Go.Sf
variable{ρ β:Type}
def nz(e:Int):K1:=if e=0 then W else Y e
theorem Lj(e:Int):(if(!decide (e=0))=X then Y (B2.ret e)else Y (B2.next ()))=Y (NY (nz e)):=by grind[nz,NY]
theorem uQ(b:Bool)(r:ρ):(if b=X then Y (B2.ret r)else Y (B2.next ()))=Y (NY (if b=X then Y r else W)):=by
 cases b<;>rfl
variable{kr:ρ->Option β}
theorem B0{σ:Type}{s:σ}{k:σ->Option β}:d6 (Y (.inl s)) k kr=k s:=rfl
theorem SA{σ:Type}{r:ρ}{k:σ->Option β}:d6 (Y (.inr r)) k kr=kr r:=rfl
theorem Dz(o:Option ρ)(k:Unit->Option β)(kr:ρ->Option β):d6 (Y (qO o)) k kr=match o with|none=>k ()|some r=>kr r:=by
 cases o<;>rfl
theorem Cf(o:K1):d6 (Y (qO o)) (λ_=>Y 0) (λv=>Y v)=Y (o.getD 0):=by
 cases o<;>rfl
variable{a b:Int}
theorem Si{c:Int->Int}(h:(fst (λi=>nz (c i)) a b).getD 0=0):∀i,a<=i->i<b->c i=0:=by
 have:fst (λi=>nz (c i)) a b=W:=by
  cases hf:fst (λi=>nz (c i)) a b with
  |none=>rfl|some r=>
   grind [w!,DW,nz]
 grind [Bc,nz]
variable{e:Int}
theorem Qx:nz e=W↔e=0:=by grind[nz]
theorem Wl{α:Type}[Inhabited α]{l:List α}{f:α->I1}{p:α->Bool}(h:∀x∈l,f x=Y (p x)):
  (d6 (eE (ρ:=Int) (λ(q:Int)(_:Unit)=>(idx l q).bind λd=>(f d).bind λj=>if j=X then Y (.ret q)else Y (.next ())) 0 (l.length:Int) ()) (λ_=>Y (-1)) (λy=>Y y))=
   Y ((fst (λi=>if p (AA l i)=X then Y i else W) 0 l.length).getD (-1)):=by
 rw [BU (λi=>if p (AA l i)=X then Y i else W)]
 .rw[Dz];cases fst (λi=>if p (AA l i)=X then Y i else W) 0 l.length<;>rfl
 .intro i u w _;rw[AD u w,bs,h _ (AG u w),bs,uQ]
theorem Ze{α:Type}[Inhabited α]{l:List α}{p:α->Bool}:decide (0<=(fst (λi=>if p (AA l i)=X then Y i else W) 0 l.length).getD (-1))=l.any p:=by
 rw [GV,fu];cases h:fst (λi=>if p (AA l i)=X then Y i else W) 0 l.length with
 |none=>
  grind [Bc,w?,Option.isSome_eq_false_iff,Option.isNone_iff_eq_none,AA]
 |some k=>
  grind [DW,AA,w!,w?,Option.isSome_iff_ne_none,Bc]
theorem E6{α:Type}[Inhabited α]{l:List α}{f:α->I1}{p:α->Bool}(h:∀x∈l,f x=Y (p x)):
  ((d6 (eE (ρ:=Int) (λ(q:Int)(_:Unit)=>(idx l q).bind λd=>(f d).bind λj=>if j=X then Y (.ret q)else Y (.next ())) 0 (l.length:Int) ()) (λ_=>Y (-1)) (λu=>Y u)).bind λw=>Y (decide (0<=w)))=Y (l.any p):=by
 rw [Wl h,bs,Ze]
end Go.Sf
namespace Go.Sf.Sc
open Go Go.Sf
instance:Inhabited ff:=⟨⟨⟨#[]⟩,0,0,[]⟩⟩
instance:Inhabited Bx:=⟨⟨⟨#[]⟩,0,T,[]⟩⟩
instance:Inhabited Cq:=⟨⟨⟨#[]⟩,0,0,0,0,0,0⟩⟩
instance:Inhabited Bw:=⟨⟨0,0,0⟩⟩
instance:Inhabited DN:=⟨⟨0,0,⟨0,0⟩⟩⟩
instance:Inhabited Test:=⟨⟨0,⟨0,0⟩,⟨0,0⟩⟩⟩
instance:Inhabited bq:=⟨⟨0,[],⟨[],[]⟩,⟨⟨[],[]⟩,[],0,[]⟩⟩⟩
theorem eA{l:List Bx}{f:Bx->I1}{p:Bx->Bool}(h:∀x∈l,f x=Y (p x)):BP l f=Y (l.any p):=E6 h
variable{l:Fp}
theorem SY{f:Int->I1}{p:Int->Bool}(h:∀x∈l,f x=Y (p x)):A9 l f=Y (l.any p):=E6 h
theorem Yc{l:List Bw}{f:Bw->I1}{p:Bw->Bool}(h:∀x∈l,f x=Y (p x)):BO l f=Y (l.any p):=E6 h
theorem bV{l:List bq}{f:bq->I1}{p:bq->Bool}(h:∀x∈l,f x=Y (p x)):B5 l f=Y (l.any p):=E6 h
theorem V8{l:List Bx}{p:Bx->Bool}:BP l (λx=>Y (p x))=Y (l.any p):=E6 (λ_ _=>rfl)
theorem eC{l:List Cq}{p:Cq->Bool}:CX l (λx=>Y (p x))=Y (l.any p):=E6 (λ_ _=>rfl)
theorem rX{l:List ff}{p:ff->Bool}:C1 l (λx=>Y (p x))=Y (l.any p):=E6 (λ_ _=>rfl)
theorem bW{p:Int->Bool}:A9 l (λx=>Y (p x))=Y (l.any p):=E6 (λ_ _=>rfl)
theorem fI{l:List Bw}{p:Bw->Bool}:BO l (λx=>Y (p x))=Y (l.any p):=E6 (λ_ _=>rfl)
theorem fJ{l:List DN}{p:DN->Bool}:Ck l (λx=>Y (p x))=Y (l.any p):=E6 (λ_ _=>rfl)
theorem ku(l:Fp)(v:Int):slices_Index_int l v=Y ((fst (λi=>if decide (v=AA l i)=X then Y i else W) 0 l.length).getD (-1)):=by
 have:=Wl (l:=l) (f:=λx=>Y (decide (v=x))) (p:=λx=>decide (v=x)) (λ_ _=>rfl);unfold slices_Index_int
 grind
theorem LY(l:Fp)(v:Int):slices_Contains_int l v=Y (l.any λx=>decide (v=x)):=by grind[slices_Contains_int,ku,Ze]
theorem fM(l:MV)(v:Bool):DE l v=Y (l.any λx=>v==x):=by
 have:=E6 (l:=l) (f:=λx=>Y (v==x)) (p:=λx=>v==x) (λ_ _=>rfl);unfold DE Jn
 grind
structure WT(a:ff):Prop where
 name:(a.f0.size:Int)<=40
 names:a.kx.length<=25
 each:∀x∈a.kx,(x.size:Int)<=40
structure Ap(t:AC):Prop where
 ci:t.az.length<=20
 c8:t.be.length<=30
 name:∀n∈t.az,(n.f0.size:Int)<=40
 AbK:∀n∈t.az,n.gR.length<=30
 each:∀n∈t.az,∀a∈n.gR,WT a
 AbP:∀e∈t.be,(e.f0.size:Int)<=40
def par(t:AC)(i:Int):Int:=(AA t.az i).gT
def ES(t:AC)(k:Int):Prop:=∀i,0<=i->i<k->-1<=par t i/\par t i<i
def CE(t:AC):Nat->Int->List ff
 |0,_=>[]|n+1,a=>if a<0 then[]else CE t n (par t a)++(AA t.az a).gR
def A3(t:AC)(a:Int):List ff:=CE t (a+1).toNat a
variable{t:AC}{a:Int}
theorem KG{n:Nat}(h:a<0):CE t n a=[]:=by
 cases n with
 |zero=>rfl|succ n=>rw[CE,Ne h]
variable{k:Int}
theorem Nl(d:ES t k):∀(n m:Nat)(a:Int),a<k->a<n->a<m->CE t n a=CE t m a
 |n,m,a,h,j,q=>by
  by_cases f:a<0
  .grind[KG]
  .cases n with
   |zero=>omega|succ n=>
    cases m with
    |zero=>omega|succ m=>
     rw [CE,CE,QQ f,QQ f];have:=d a U h;rw[Nl d n m (par t a) U U U]
theorem OC(hf:Ap t)(f:k<=t.az.length)(d:ES t k):∀(n:Nat)(a:Int),a<k->((CE t n a).length:Int)<=30*n
 |0,_,_=>by simp[CE]|n+1,a,h=>by
  rw [CE];split
  .simp;omega
  .rename_i j;have q:=d a U h;have u:=OC hf f d n (par t a) U;have w:=hf.AbK _ (AG (l:=t.az) (show 0<=a by omega) U)
   grind
theorem XT(hf:Ap t)(h:k<=t.az.length)(f:ES t k):∀(n:Nat)(a:Int),a<k->∀x∈CE t n a,WT x
 |0,_,_=>by simp[CE]|n+1,a,j=>by
  rw [CE];split
  .simp
  .rename_i q;have u:=f a U j;intro x d;rcases D'.1 d with d|d
   .exact XT hf h f n (par t a) U x d
   .exact hf.each _ (AG (l:=t.az) (show 0<=a by omega) U) x d
theorem Iv(hf:Ap t)(d:k<=t.az.length)(f:ES t k)(h:a<k):(A3 t a).length<=600:=by
 have:=OC hf d f (a+1).toNat a h;have:=hf.ci;unfold A3;omega
theorem OD(hf:Ap t)(d:k<=t.az.length)(f:ES t k)(h:a<k):∀x∈A3 t a,WT x:=XT hf d f _ a h
theorem cf(hf:Ap t)(j:k<=t.az.length)(h:ES t k):∀(n:Nat)(a:Int),0<=a->a<k->a<n->DZ n t a=Y (CE t n a)
 |0,_,_,_,_=>by omega|n+1,a,u,B,F=>by
  have C:=h a U B;have w:=OC hf j h n (par t a) U;have D:=hf.AbK _ (AG (l:=t.az) u U);have E:=hf.ci;rw[DZ,CE,QQ U,AD u U];simp only[bs];show((if decide (0<=par t a)=X then(DZ n t (par t a)).bind λf=>Y f else Y []).bind _)=_;have e:(if decide (0<=par t a)=X then(DZ n t (par t a)).bind λf=>Y f else Y [])=Y (CE t n (par t a)):=by
   by_cases q:0<=par t a
   .rw[Ne l!,cf hf j h n (par t a) q U U];rfl
   .rw[QQ l!,KG U]
  have y:(CE t n (par t a)).length+(AA t.az a).gR.length<=AX:=by
   unfold AX;have:((CE t n (par t a)).length:Int)<=30*n:=w;have z:CE t n (par t a)=CE t 20 (par t a):=by
    by_cases d:par t a<0
    .rw[KG d,KG d]
    .exact Nl h n 20 (par t a) U U U
   have A:=OC hf j h 20 (par t a) U;rw[<-z]at A;omega
  rw [e,bs,AV y];rfl
theorem fy(hf:Ap t)(d:k<=t.az.length)(f:ES t k)(h:0<=a)(j:a<k):NG t a=Y (A3 t a):=
 GZ (a+1).toNat λn q=>by
  grind [cf,A3,Nl]
theorem cx(hf:Ap t)(h:k<=t.az.length)(f:ES t k):∀(n:Nat)(a:Int),-1<=a->a<k->a+1<n->EI n t a=Y (CE t n a)
 |0,_,_,_,_=>by omega|n+1,a,B,w,C=>by
  rw [EI,CE];by_cases d:a<0
  .grind
  .have y:=f a U w;have z:=hf.AbK _ (AG (l:=t.az) (show 0<=a by omega) U);have A:=hf.ci;rw[QQ b?,QQ d,AD U U];simp only[bs];have j:CE t n (par t a)=CE t 20 (par t a):=by
    by_cases d:par t a<0
    .rw[KG d,KG d]
    .exact Nl f n 20 (par t a) U U U
   have q:=OC hf h f 20 (par t a) U;rw[<-j]at q;have u:(CE t n (par t a)).length+(AA t.az a).gR.length<=AX:=a?
   rw [show(AA t.az a).gT=par t a from rfl,cx hf h f n (par t a) U U U,bs,AV a!];simp only[bs,List.nil_append];rw[AV u];rfl
theorem gJ(hf:Ap t)(d:k<=t.az.length)(f:ES t k)(h:0<=a)(j:a<k):M0 t a=Y (A3 t a):=
 GZ (a+2).toNat λn q=>by
  grind [cx,A3,Nl]
end Go.Sf.Sc
namespace Go.Sf.Sc
open Go Go.Sf
def Lh(l:List ByteArray):Int:=
 if (20:Int)<l.length then 3 else(fst (λi=>if FV (AA l i)=T then Y 2 else if fu (λj=>AA l j==AA l i) 0 i=X then Y 5 else W) 0 l.length).getD 0
variable{b:Int}
theorem bf{l:List ByteArray}{x:ByteArray}(d:0<=b)(f:b<=l.length):(l.take b.toNat).contains x=fu (λj=>AA l j==x) 0 b:=by
 rw [List.contains_eq_any_beq,RC d f]
 grind
theorem sK{l:List ByteArray}(q:∀x∈l,(x.size:Int)<=40):Jd l=Y (Lh l):=by
 unfold Jd Lh;by_cases d:(20:Int)<l.length
 .grind
 .rw[QQ b?,QQ d];rw[BU (λi=>if FV (AA l i)=T then Y 2 else if fu (λj=>AA l j==AA l i) 0 i=X then Y 5 else W),Cf];intro i f h _;have u:=q _ (AG f h);rw[AD f h,bs,RL U,bs,L7 f U];simp only[bs,Qb,bf f (show i<=l.length by omega)];cases FV (AA l i)<;>cases fu (λj=>AA l j==AA l i) 0 i<;>rfl
theorem sf{l:List ByteArray}(q:∀x∈l,(x.size:Int)<=40):JS l=Y (Lh l):=by
 unfold JS Lh;by_cases d:(20:Int)<l.length
 .grind
 .rw[QQ b?,QQ d];rw[BU (λi=>if FV (AA l i)=T then Y 2 else if fu (λj=>AA l j==AA l i) 0 i=X then Y 5 else W),Cf];intro i f h _;have u:=q _ (AG f h);rw[AD f h,bs,RN U,bs,BN (λj=>AA l j==AA l i) 5]
  .cases FV (AA l i)<;>cases fu (λj=>AA l j==AA l i) 0 i<;>rfl
  grind [AD]
def NI(all:List ff)(k:Int):Int:=
 let x:=AA all k
 if FV x.f0=T then 2 else if fu (λj=>(AA all j).f0==x.f0) 0 k=X then 5 else
 if x.kx.length=0 then(if -1000000<=x.Low/\x.Low<=x.z5/\x.z5<=1000000 then 0 else 6)else
 if Lh x.kx≠0 then Lh x.kx else if x.Low=0/\x.z5=x.kx.length-1 then 0 else 6
variable{k:Int}
theorem eT{d:List ff}(u:∀x∈d,WT x)(q:0<=k)(w:k<d.length):GK (AA d k) (d.take k.toNat)=Y (NI d k):=by
 have j:=u _ (AG q w);have B:=j.name;unfold GK NI;dsimp only;rw[RL U,bs,show(λf=>Jo f (AA d k))=(λf=>Y (f.f0==(AA d k).f0))from rfl,rX,bs,RC q U,sK j.each,bs];have y:=j.names;have z:AW ((AA d k).kx.length-1)=(AA d k).kx.length-1:=Ao U U;rw[z];have A:(AA d k).kx.length=0->Lh (AA d k).kx=0:=λh=>by rw[List.eq_nil_of_length_eq_zero h];rfl
 generalize Lh (AA d k).kx=e at A|-;simp only[bs,pE,A!,gN,A?,decide_eq_false_iff_not,B_,B',B!,ne_eq]
 repeat' (first|rfl|(exfalso;omega;done)|split)
 all_goals (first|rfl|(exfalso;omega)|omega|simp_all|(simp_all;omega))
theorem eV{x:ff}(d:WT x):GA x=Y (
 if x.kx.length=0 then(if -1000000<=x.Low/\x.Low<=x.z5/\x.z5<=1000000 then 0 else 6)else
 if Lh x.kx≠0 then Lh x.kx else if x.Low=0/\x.z5=x.kx.length-1 then 0 else 6):=by
 have f:=d.names;have h:AW (x.kx.length-1)=x.kx.length-1:=Ao U U;unfold GA D4;simp only[bs,h,sf d.each];generalize Lh x.kx=e;simp only[bs,pE,A!,gN,A?,decide_eq_false_iff_not,B_,B',B!,ne_eq]
 repeat' (first|rfl|(exfalso;omega;done)|split)
 all_goals (first|rfl|(exfalso;omega)|omega|simp_all|(simp_all;omega))
def Jj(t:AC)(i:Int):Int:=
 let n:=AA t.az i
 if FV n.f0=T then 2 else if fu (λj=>(AA t.az j).f0==n.f0) 0 i=X then 5 else
 if n.gT< -1\/i<=n.gT then 6 else if 4<n.gR.length\/8<(A3 t i).length then 3 else
 (fst (λk=>nz (NI (A3 t i) k)) ((A3 t i).length-n.gR.length) (A3 t i).length).getD 0
variable{t:AC}{i:Int}
theorem XW(d:0<=i):(AA t.az i).gR.length<=(A3 t i).length:=by
 unfold A3;rw[show(i+1).toNat=i.toNat+1 by omega,CE,QQ U,aE];omega
theorem ES.next(h:ES t i)(f:-1<=par t i)(q:par t i<i):ES t (i+1):=by
 intro j d u;by_cases w:j=i
 .grind
 .exact h j d U
theorem vK(hf:Ap t)(f:0<=i)(y:i<t.az.length)(C:ES t i):Kd t i=Y (Jj t i):=by
 have E:=hf.name _ (AG f y);unfold Kd Jj;dsimp only;rw[AD f y,bs,RL U,bs,L7 f U,bs,show(λu=>Oy u (AA t.az i))=(λu=>Y (u.f0==(AA t.az i).f0))from rfl,V8,bs,RC f U];cases FV (AA t.az i).f0
 .rfl
 .cases fu (λj=>(AA t.az j).f0==(AA t.az i).f0) 0 i
  .by_cases h:(AA t.az i).gT< -1\/i<=(AA t.az i).gT
   .rcases h with h|h<;>simp[h]
   .have d:ES t (i+1):=C.next (by unfold par;omega) (by unfold par;omega)
    have w:(decide ((AA t.az i).gT< -1)||decide (i<=(AA t.az i).gT))=T:=by
     rw [B?];simpa using h
    rw [fy hf (k:=i+1) U d f U,bs];have A:=Iv hf (k:=i+1) (a:=i) U d U;have B:=XW (t:=t) f;have q:=OD hf (k:=i+1) (a:=i) U d U;rw[Ao U U,BU (λk=>nz (NI (A3 t i) k)),Cf]
    .simp only[w,h,C_,A',if_false];simp only[bs,pE,A!,gN,A?,decide_eq_false_iff_not,B_,B',B!,ne_eq]
     repeat' (first|rfl|(exfalso;omega;done)|split)
     all_goals (first|rfl|(exfalso;omega)|omega|simp_all|(simp_all;omega))
    .intro k D z _;rw[AD U z,bs,L7 U U,bs,eT q U z,bs,Lj]
  .rfl
theorem vn(hf:Ap t)(h:0<=i)(u:i<t.az.length)(C:ES t i):KO t i=Y (Jj t i):=by
 have G:=hf.name _ (AG h u);have H:=hf.ci;unfold KO Jj D4;dsimp only;rw[AD h u,bs,RN U,bs,BN (λj=>(AA t.az j).f0==(AA t.az i).f0) 5]
 .cases FV (AA t.az i).f0
  .rfl
  .cases fu (λj=>(AA t.az j).f0==(AA t.az i).f0) 0 i
   .simp only[C_,A',if_false,B0,bs];rw[Ao U U];by_cases y:(AA t.az i).gT< -1\/i<=(AA t.az i).gT
    .rw[Ne,QQ a_,Ne y];simp;omega
    .have d:ES t (i+1):=C.next (by unfold par;omega) (by unfold par;omega)
     rw [QQ an,QQ a_,QQ y];rw[gJ hf (k:=i+1) U d h U,bs];have z:=Iv hf (k:=i+1) (a:=i) U d U;have A:=XW (t:=t) h;have f:=OD hf (k:=i+1) (a:=i) U d U;rw[Ao U U];rw[BU (λk=>nz (NI (A3 t i) k)),Cf]
     .simp only[bs,pE,A!,gN,A?,decide_eq_false_iff_not,B_,B',B!,ne_eq]
      repeat' (first|rfl|(exfalso;omega;done)|split)
      all_goals (first|rfl|(exfalso;omega)|omega|simp_all|(simp_all;omega))
     .intro k w q _;have B:=f _ (AG (show 0<=k by omega) q);have E:=B.name;simp only[AD (show 0<=k by omega) q,bs];rw[RN U,bs,BN (λj=>(AA (A3 t i) j).f0==(AA (A3 t i) k).f0) 5]
      .rw[eV B];simp only[bs,Lj];unfold NI;dsimp only;cases FV (AA (A3 t i) k).f0
       .rfl
       .cases fu (λj=>(AA (A3 t i) j).f0==(AA (A3 t i) k).f0) 0 k<;>rfl
      .intro j D F _;rw[AD D U,bs];split<;>rfl
   .rfl
 .intro j w q _;rw[AD w U,bs];split<;>rfl
def OE(low high:Int):Bool:=((decide (0<=low))&&(decide (low<=40)))&&((decide (high=(-1)))||((decide (low<=high))&&(decide (high<=40))))
theorem sY(low high:Int):Kz low high=Y (OE low high):=by
 unfold Kz OE D4
 grind
def MJ(t:AC)(i:Int):Int:=
 let x:=AA t.be i
 if FV x.f0=T then 2 else if fu (λj=>(AA t.be j).f0==x.f0) 0 i=X then 5 else
 if (0<=x.fb/\x.fb<t.az.length)/\(0<=x.To/\x.To<t.az.length)/\OE x.AaX x.AaE=X/\OE x.Abq x.Aa0=X then 0 else 6
theorem vB(hf:Ap t)(d:0<=i)(h:i<t.be.length):Kb t i=Y (MJ t i):=by
 have q:=hf.AbP _ (AG d h);unfold Kb MJ MB;dsimp only;rw[AD d h,bs,RL U,bs,L7 d U,bs,show(λf=>Ox f (AA t.be i))=(λf=>Y (f.f0==(AA t.be i).f0))from rfl,eC,bs,RC d U];simp[show∀a b,Ks a b=Y (OE a b)from λ_ _=>rfl];generalize FV (AA t.be i).f0=b1;generalize fu (λj=>(AA t.be j).f0==(AA t.be i).f0) 0 i=b2;generalize OE (AA t.be i).AaX (AA t.be i).AaE=b3;generalize OE (AA t.be i).Abq (AA t.be i).Aa0=b4;cases b1
 .rfl
 grind
theorem vd(hf:Ap t)(q:0<=i)(u:i<t.be.length):KN t i=Y (MJ t i):=by
 have y:=hf.AbP _ (AG q u);have z:=hf.ci;unfold KN MJ D4;dsimp only;rw[AD q u,bs,RN U,bs,BN (λj=>(AA t.be j).f0==(AA t.be i).f0) 5]
 .simp only[Ao (show -9223372036854775808<=(t.az.length:Int)-1 by omega) U,sY,bs];generalize FV (AA t.be i).f0=b1;generalize fu (λj=>(AA t.be j).f0==(AA t.be i).f0) 0 i=b2;generalize OE (AA t.be i).AaX (AA t.be i).AaE=b3;generalize OE (AA t.be i).Abq (AA t.be i).Aa0=b4;cases b1
  .rfl
  .cases b2
   .cases b3<;>cases b4
    all_goals
     by_cases f:0<=(AA t.be i).fb/\(AA t.be i).fb<t.az.length
     .have d:(AA t.be i).fb<=(t.az.length:Int)-1:=U
      by_cases w:0<=(AA t.be i).To/\(AA t.be i).To<t.az.length
      .have h:(AA t.be i).To<=(t.az.length:Int)-1:=U
       simp [f,w,d,h,B0]
      .have:(decide (0<=(AA t.be i).To)&&decide ((AA t.be i).To<=(t.az.length:Int)-1))=T:=g_
       simp [f,w,d,this,B0]
     .have:(decide (0<=(AA t.be i).fb)&&decide ((AA t.be i).fb<=(t.az.length:Int)-1))=T:=g_
      simp [f,this,B0]
   .rfl
 grind [AD]
def Az(t:AC):ByteArray×Int:=
 if t.az.length=0 then(⟨#[]⟩,7)else if 12<t.az.length\/20<t.be.length then(⟨#[]⟩,3)else
 match fst (λi=>(nz (Jj t i)).map λe=>((AA t.az i).f0,e)) 0 t.az.length with
 |some r=>r|none=>(fst (λi=>(nz (MJ t i)).map λe=>((AA t.be i).f0,e)) 0 t.be.length).getD (⟨#[]⟩,0)
theorem lG(h:Jj t i=0):-1<=par t i/\par t i<i:=by grind[Jj,par,AA]
theorem PF{α β:Type}{o:Option α}{g:α->β}:o.map g=W↔o=W:=by cases o<;>simp
theorem Wu(h:∀j,0<=j->j<i->Jj t j=0):ES t i:=λj d f=>lG (h j d f)
theorem Vl{ρ:Type}(e:Int)(n:ByteArray):(if(!decide (e=0))=X then Y (B2.ret (n,e))else Y (B2.next ()))=Y (NY ((nz e).map λe=>(n,e))):=by grind[nz,NY]
theorem PO(hf:Ap t):Dx t=Y (Az t):=by
 unfold Dx Az;rw[BU (λi=>(nz (Jj t i)).map λe=>((AA t.az i).f0,e)),Dz]
 .rw[BU (λi=>(nz (MJ t i)).map λe=>((AA t.be i).f0,e)),Dz]
  .cases fst (λi=>(nz (Jj t i)).map λe=>((AA t.az i).f0,e)) 0 t.az.length<;>cases fst (λi=>(nz (MJ t i)).map λe=>((AA t.be i).f0,e)) 0 t.be.length
   all_goals dsimp only
   all_goals try simp only[w!]
   all_goals
    simp only[bs,pE,A!,gN,A?,decide_eq_false_iff_not,B_,B',B!,ne_eq]
    repeat' (first|rfl|(exfalso;omega;done)|split)
    all_goals (first|rfl|(exfalso;omega)|omega|simp_all|(simp_all;omega))
  .intro i d f _;rw[AD d f,bs,vB hf d f,bs];exact Vl (ρ:=Unit) _ _
 .intro i d f u;have w:ES t i:=Wu λj h q=>Qx.1 (PF.1 (u j h q));rw[AD d f,bs,vK hf d f w,bs];exact Vl (ρ:=Unit) _ _
theorem Q1(hf:Ap t):EO t=Y (Az t):=by
 unfold EO Az;rw[BU (λi=>(nz (Jj t i)).map λe=>((AA t.az i).f0,e)),Dz]
 .rw[BU (λi=>(nz (MJ t i)).map λe=>((AA t.be i).f0,e)),Dz]
  .cases fst (λi=>(nz (Jj t i)).map λe=>((AA t.az i).f0,e)) 0 t.az.length<;>cases fst (λi=>(nz (MJ t i)).map λe=>((AA t.be i).f0,e)) 0 t.be.length
   all_goals dsimp only
   all_goals try simp only[w!]
   all_goals
    simp only[bs,pE,A!,gN,A?,decide_eq_false_iff_not,B_,B',B!,ne_eq]
    repeat' (first|rfl|(exfalso;omega;done)|split)
    all_goals (first|rfl|(exfalso;omega)|omega|simp_all|(simp_all;omega))
  .intro i d f _;simp only[vd hf d f,AD d f,bs];exact Vl (ρ:=Unit) _ _
 .intro i d f u;have w:ES t i:=Wu λj h q=>Qx.1 (PF.1 (u j h q));simp only[vn hf d f w,AD d f,bs];exact Vl (ρ:=Unit) _ _
end Go.Sf.Sc
namespace Go.Sf.Sc
open Go Go.Sf
theorem Ib{α:Type}{c:Bool}{a b:α}:(if c=X then Y a else Y b)=Y (if c=X then a else b):=by cases c<;>rfl
def LG(n:Int):Bool:=(decide (0<=n))&&(decide (n<=99))
def SJ(e:Bw)(n:Int):Bool:=LG e.em&&(decide (0<=e.fb)&&decide (e.fb<n))&&(decide (0<=e.To)&&decide (e.To<n))
def Bz(g:bi):Int:=
 if 40<g.az.length\/80<g.be.length then 3 else if(g.az.any λn=>!LG n)=X then 6 else if(g.be.any λe=>!SJ e g.az.length)=X then 6 else 0
structure BV(g:bi):Prop where
 ci:g.az.length<=40
 c8:g.be.length<=80
 kind:∀n∈g.az,0<=n/\n<=99
 fit:∀e∈g.be,(0<=e.em/\e.em<=99)/\(0<=e.fb/\e.fb<g.az.length)/\(0<=e.To/\e.To<g.az.length)
variable{g:bi}
theorem Dm(h:Bz g=0):BV g:=by
 unfold Bz at h;split at h
 .cases h
 .split at h
  .cases h
  .split at h
   .cases h
   .rename_i q f d;refine⟨U,U,λn j=>?_,λe he=>?_⟩
    .rw[C',D!]at f
     grind [LG]
    .rw[C',D!]at d;have:=d e he;simp[SJ,LG,A?,pE]at this;omega
theorem vE{e:Bw}{n:Nat}(h:n<=40):ON e n=Y (SJ e n):=by
 unfold ON II SJ LG;simp only[bs,Ao (show -9223372036854775808<=(n:Int)-1 by omega) U];have d:decide (e.fb<=(n:Int)-1)=decide (e.fb<n):=j!
 have f:decide (e.To<=(n:Int)-1)=decide (e.To<n):=j!
 rw [d,f];generalize (decide (0<=e.em)&&decide (e.em<=99))=b1;generalize (decide (0<=e.fb)&&decide (e.fb<n))=b2;cases b1<;>cases b2<;>simp
theorem Nv(g:bi):Dd g=Y (Bz g):=by
 unfold Dd Bz;by_cases h:40<g.az.length\/80<g.be.length
 .grind
 .rw[QQ an,QQ h,show NO=(λn=>Y (!LG n))from rfl,bW,Yc (p:=λe=>!SJ e g.az.length) (λe _=>by
   grind [NP,vE])]
  grind
theorem Nx(g:bi):EP g=Y (Bz g):=by
 unfold EP Bz;by_cases h:40<g.az.length\/80<g.be.length
 .grind
 .rw[QQ an,QQ h,GV,GV,BN (λi=>!LG (AA g.az i)) 6]
  .rw[BN (λi=>!SJ (AA g.be i) g.az.length) 6]
   .cases fu (λi=>!LG (AA g.az i)) 0 g.az.length
    .cases fu (λi=>!SJ (AA g.be i) g.az.length) 0 g.be.length<;>rfl
    .rfl
   .intro i d f _;rw[AD d f,bs];unfold Pm SJ;simp[show∀n,MU n=Y (LG n)from λ_=>rfl]
    grind
  grind [AD,MU,AA,LG]
def CQ(t:AC)(g:bi):Bool:=!(g.az.any λn=>decide (t.az.length<=n))&&!(g.be.any λe=>decide (t.be.length<=e.em))
variable{t:AC}
theorem Cu(d:BV g)(h:CQ t g=X):(∀n∈g.az,0<=n/\n<t.az.length)/\∀e∈g.be,0<=e.em/\e.em<t.be.length:=by
 unfold CQ at h;simp[A?,pE]at h;refine⟨λn f=>?_,λe he=>?_⟩
 .have:=h.1 n f;have:=d.kind n f;omega
 .have:=h.2 e he;have:=d.fit e he;omega
theorem sQ(t:AC)(g:bi):KU t g=Y (CQ t g):=by grind[KU,CQ,Om,bW,On,Bw,fI]
theorem Yw(h:BV g):Hw t g=Y (CQ t g):=by
 unfold Hw CQ;rw[GV,GV,BN (λi=>decide (t.az.length<=AA g.az i)) T]
 .rw[BN (λi=>decide (t.be.length<=(AA g.be i).em)) T]
  .cases fu (λi=>decide (t.az.length<=AA g.az i)) 0 g.az.length
   .cases fu (λi=>decide (t.be.length<=(AA g.be i).em)) 0 g.be.length<;>rfl
   .rfl
  .intro i d f _;have:=(h.fit _ (AG d f)).1.1;simp[AD d f]
   grind
 .intro i d f _;have:=(h.kind _ (AG d f)).1;simp[AD d f]
  grind
structure ET(t:AC):Prop where
 ci:t.az.length<=12
 c8:t.be.length<=20
 node:∀i:Int,0<=i->i<t.az.length->Jj t i=0
 edge:∀i:Int,0<=i->i<t.be.length->MJ t i=0
theorem Cg(h:(Az t).2=0):ET t:=by
 unfold Az at h;split at h
 .cases h
 .split at h
  .cases h
  .rename_i w y;have f:∀i:Int,0<=i->i<t.az.length->Jj t i=0:=by
    grind [DW,nz,Qx,PF,Bc]
   have he:∀i:Int,0<=i->i<t.be.length->MJ t i=0:=by
    split at h
    next r d=>obtain⟨i,q,u,j,_⟩:=DW d;rw[f i q u]at j;cases j
    .cases d:fst (λi=>(nz (MJ t i)).map λe=>((AA t.be i).f0,e)) 0 t.be.length with
     |some r=>
      grind [DW,nz]
     |none=>
      grind [Qx,PF,Bc]
   exact ⟨U,U,f,he⟩
theorem ET.par(h:ET t):ES t t.az.length:=Wu h.node
variable{i:Int}
theorem ET.ends(h:ET t)(d:0<=i)(f:i<t.be.length):(0<=(AA t.be i).fb/\(AA t.be i).fb<t.az.length)/\(0<=(AA t.be i).To/\(AA t.be i).To<t.az.length):=by
 have:=h.edge i d f
 grind [MJ]
def LF(t:AC)(a:Int):Bool:=decide (0<=a)&&decide (a<t.az.length)
variable{a:Int}
theorem MP:LF t a=X↔0<=a/\a<t.az.length:=by unfold LF;simp
theorem Yt(hf:Ap t)(l:Fp):Gw t l=Y (if(Az t).2≠0 then(Az t).2 else if(l.all (LF t))=X then 0 else 6):=by
 unfold Gw;rw[PO hf,bs,SY (p:=λa=>!LF t a) (λa _=>by unfold NV LF;rw[show decide (a<0)=!decide (0<=a)from by rw[<-decide_not,decide_eq_decide];omega,show decide ((t.az.length:Int)<=a)=!decide (a<t.az.length)from by rw[<-decide_not,decide_eq_decide];omega,Bool.not_and]),bs]
 grind
theorem gL(hf:Ap t)(a b:Int):Ht t a b=Y (if(Az t).2≠0 then(Az t).2 else if(LF t a&&LF t b)=X then 0 else 6):=by
 have d:=hf.ci;have e:∀a,decide (a<=(t.az.length:Int)-1)=decide (a<(t.az.length:Int)):=λa=>j!
 unfold Ht D4;rw[Q1 hf,bs]
 grind [Ao,Az,LF]
theorem mQ{α:Type}[Inhabited α]{l:List α}(d:0<=i)(f:i<l.length):BB l i (AA l i)=l:=by grind[BB,AA,D?,List.set_getElem_self]
theorem CP{α:Type}[Inhabited α]{l:List α}(d:0<=i)(f:i<l.length):l.take (i+1).toNat=l.take i.toNat++[AA l i]:=by
 unfold AA;rw[show(i+1).toNat=i.toNat+1 by omega,List.take_add_one,E_,D? U];rfl
theorem BM{α:Type}{l:List α}(h:l.length<=AX):Ak [] l=Y l:=by grind[AV]
def Gz(t:AC)(a:Int):List ff×Int:=if(Az t).2≠0 then([],(Az t).2)else if LF t a=X then(A3 t a,0)else([],6)
theorem Sr(hf:Ap t)(a:Int):FE t a=Y (Gz t a):=by
 unfold FE Gz;rw[Yt hf,bs];by_cases h:(Az t).2=0
 .have j:=Cg h;have e:[a].all (LF t)=LF t a:=V
  rw [e];simp[h];cases hi:LF t a
  .rfl
  .rw[Ne rfl,Ne rfl];have q:=MP.1 hi;have F:=Iv hf (x? _) j.par q.2;have D:=OD hf (x? _) j.par q.2;rw[QQ a_,fy hf (x? _) j.par q.1 q.2,bs];obtain⟨s',E,rfl⟩:=PB (f:=(λ(u:Int)(w:List ff)=>
 (idx w u).bind λy=>
 (slices_Clone_string y.kx).bind λz=>
 (idx w u).bind λd=>
 Y (BB w u (ff.mk d.f0 d.Low d.z5 z)))) (λ_ s=>s=A3 t a) (a:=0) (b:=(A3 t a).length) (s:=A3 t a) U rfl (λi s A B C=>by
     subst C;have:=(D _ (AG A B)).names;refine⟨A3 t a,?_,rfl⟩;unfold slices_Clone_string;rw[AD A B,bs,BM a?,bs,bs];congr 1;exact mQ A B)
   rw [E];rfl
 .simp[h,not_false_eq_true,decide_false]
theorem Q0(hf:Ap t)(a:Int):Dw t a=Y (Gz t a):=by
 unfold Dw Gz;rw[gL hf,bs];by_cases h:(Az t).2=0
 .have d:=Cg h;rw[Bool.and_self];simp only[h,ne_eq,not_true_eq_false,if_false];cases hi:LF t a
  .rfl
  .rw[Ne rfl,Ne rfl];have f:=MP.1 hi;have w:=Iv hf (x? _) d.par f.2;have u:=OD hf (x? _) d.par f.2;rw[QQ a_,gJ hf (x? _) d.par f.1 f.2,bs];rw[BZ (λi=>(A3 t a).take i.toNat) U V]
   .rw[bs,y_,E']
   .intro i j q;have:=(u _ (AG j q)).names;rw[AD j q,bs,BM a?,bs,AV (by rw[aN];simp;unfold AX;omega),CP j q];rfl
 grind
theorem Hi(h:BV g):Bz g=0:=by
 have:=h.ci;have:=h.c8;unfold Bz;rw[QQ U,QQ,QQ]
 .intro k;obtain⟨e,he,k⟩:=E!.1 k;have:=h.fit e he;simp[SJ,LG]at k;omega
 .intro k;obtain⟨n,d,k⟩:=E!.1 k;have:=h.kind n d;simp[LG]at k;omega
end Go.Sf.Sc
namespace Go.Sf.Sc
open Go Go.Sf
def Gc(t:AC):Nat->Int->Fp
 |0,_=>[]|n+1,a=>if a<0 then[]else a::Gc t n (par t a)
variable{t:AC}{k:Int}
theorem my(f:ES t k):∀(n m:Nat)(a:Int),a<k->a<n->a<m->Gc t n a=Gc t m a
 |n,m,a,h,j,q=>by
  by_cases d:a<0
  .cases n<;>cases m<;>simp[Gc,d]
  .cases n with
   |zero=>omega|succ n=>
    cases m with
    |zero=>omega|succ m=>
     rw [Gc,Gc,QQ d,QQ d];have:=f a U h;rw[my f n m (par t a) U U U]
theorem g6(t:AC):∀(n:Nat)(a:Int),(Gc t n a).length<=n
 |0,_=>by simp[Gc]|n+1,a=>by
  rw [Gc];split
  .simp
  .have:=g6 t n (par t a);simp;omega
def isB(t:AC)(a b:Int):Bool:=(Gc t (a+1).toNat a).any λx=>decide (b=x)
theorem fj(f:t.az.length<=12)(u:ES t t.az.length):∀(n:Nat)(a:Int)(l:Fp),a<t.az.length->a<n->l.length+n<=1000 ->
  ∃x,LV (ρ:=Fp) (λ(d:Int×Fp)=>
 if (decide (0<=d.1))=X then
 (Ak d.2 [d.1]).bind λh=>
 (idx t.az d.1).bind λj=>
 Y (.next (j.gT,h))
 else
 Y (.brk (d.1,d.2))) (a,l) (.inl (x,l++Gc t n a))
 |0,a,l,q,w,_=>by
  refine ⟨a,.brk ?_⟩
  grind [Gc]
 |n+1,a,l,q,w,B=>by
  by_cases y:a<0
  .refine⟨a,.brk ?_⟩
   grind [Gc]
  .have z:=u a U q;obtain⟨x,A⟩:=fj f u n (par t a) (l++[a]) U U an;refine⟨x,.next (s':=(par t a,l++[a])) ?_ ?_⟩
   .rw[Ne an,AV a!,bs,AD U q];rfl
   grind [Gc,par]
variable{a b:Int}
theorem oU(h:ET t)(q:0<=a)(d:a<t.az.length):Kc t a b=Y (isB t a b):=by
 have f:=h.ci;obtain⟨x,j⟩:=fj f h.par (a+1).toNat a [] d U an;have u:=g6 t (a+1).toNat a;unfold Kc Mj;rw[j.eq,B0]
 grind [slices_Reverse_int,AX,LY,isB]
theorem cz(d:ES t t.az.length)(j:0<=b):∀(n m:Nat)(a:Int),-1<=a->a<t.az.length->a+1<n->a<m->Dt n t a b=Y ((Gc t m a).any λx=>decide (b=x))
 |0,_,_,_,_,_,_=>by omega|n+1,m,a,u,h,w,y=>by
  rw [Dt];by_cases f:a<0
  .rw[QQ an,QQ an];cases m<;>simp[Gc,f]
  .cases m with
   |zero=>omega|succ m=>
    have q:=d a U h;rw[Gc,QQ f,List.any_cons,Ne (show decide (0<=a)=X by simp;omega),AD U h];simp;rw[show(AA t.az a).gT=par t a from rfl,cz d j n m (par t a) U U U U]
    grind
theorem Vv(h:ET t)(j:0<=a)(d:a<t.az.length)(f:0<=b):G3 t a b=Y (isB t a b):=
 GZ (a+2).toNat λn q=>cz h.par f n (a+1).toNat a U d U U
def IZ(t:AC)(e f g:Int):Bool:=
 decide ((Az t).2=0)&&(LF t f&&LF t g)&&(decide (0<=e)&&decide (e<t.be.length))&&(isB t f (AA t.be e).fb&&isB t g (AA t.be e).To)
theorem cd(hf:Ap t)(e f g:Int):Hp t e f g=Y (IZ t e f g):=by
 unfold Hp IZ;rw[Yt hf,bs,show[f,g].all (LF t)=(LF t f&&LF t g)by simp];by_cases h:(Az t).2=0
 .simp only[h,ne_eq,not_true_eq_false,if_false];have d:=Cg h;cases hi:(LF t f&&LF t g)
  .rfl
  .rw[gN,MP,MP]at hi;by_cases he:0<=e/\e<t.be.length
   .rw[QQ an,AD he.1 he.2];simp[oU d hi.1.1 hi.1.2,oU d hi.2.1 hi.2.2,he.1,he.2,decide_true]
    grind
   grind
 .simp[h]
theorem Ux(hf:Ap t)(e f g:Int):EY t e f g=Y (IZ t e f g):=by
 have w:=hf.c8;unfold EY IZ D4;rw[gL hf,bs];by_cases h:(Az t).2=0
 .simp only[h,ne_eq,not_true_eq_false,if_false];have d:=Cg h;cases hi:(LF t f&&LF t g)
  .rfl
  .rw[gN,MP,MP]at hi;rw[Ao U U];simp only[bs];by_cases he:0<=e/\e<t.be.length
   .have j:=d.ends he.1 he.2;have q:e<=(t.be.length:Int)-1:=U
    rw [QQ V,bs,QQ (by simp[he.1,q]),AD he.1 he.2];simp[Vv d hi.1.1 hi.1.2 j.1.1,Vv d hi.2.1 hi.2.2 j.2.1,he.1,he.2,decide_true];cases isB t f (AA t.be e).fb<;>rfl
   .have:(decide (0<=e)&&decide (e<t.be.length))=T:=by rw[B?];simpa using he
    have u:(decide (0<=e)&&decide (e<=(t.be.length:Int)-1))=T:=g_
    rw [this,u];simp
 .simp[h]
def Ou(n:Int)(x:ew):Bool:=(((decide ((-1)<=x.Var))&&(decide (x.Var<n)))&&(decide ((-1000000)<=x.Add)))&&(decide (x.Add<=1000000))
def Pv(n:Int)(x:Test):Int:=if¬x.fq=1/\¬x.fq=2 then 1 else if(Ou n x.d7&&Ou n x.ca)=X then 0 else 6
def Kr(n:Int)(l:List Test):Int:=if n<0\/12<n then 6 else if 40<l.length then 3 else(fst (λi=>nz (Pv n (AA l i))) 0 l.length).getD 0
theorem vQ(n:Int)(x:Test):Jt n x=Y (Pv n x):=by
 unfold Jt Pv;simp only[show∀n x,Ix n x=Y (Ou n x)from λ_ _=>rfl,bs];generalize Ou n x.d7=b1;generalize Ou n x.ca=b2;cases b1<;>cases b2
 all_goals
  simp only[bs,pE,A!,gN,A?,decide_eq_false_iff_not,B_,B',B!,ne_eq]
  repeat' (first|rfl|(exfalso;omega;done)|split)
  all_goals (first|rfl|(exfalso;omega)|omega|simp_all|(simp_all;omega))
theorem ou(n:Int)(x:ew):Jx n x=Y (if Ou n x=X then 0 else 6):=by
 unfold Jx Ou;simp only[bs,pE,A!,gN,A?,decide_eq_false_iff_not,B_,B',B!,ne_eq]
 repeat' (first|rfl|(exfalso;omega;done)|split)
 all_goals (first|rfl|(exfalso;omega)|omega|simp_all|(simp_all;omega))
theorem vr(n:Int)(x:Test):QD n x=Y (Pv n x):=by
 unfold QD Pv;simp only[ou,bs];generalize Ou n x.d7=b1;generalize Ou n x.ca=b2;cases b1<;>cases b2
 all_goals
  simp only[bs,pE,A!,gN,A?,decide_eq_false_iff_not,B_,B',B!,ne_eq]
  repeat' (first|rfl|(exfalso;omega;done)|split)
  all_goals (first|rfl|(exfalso;omega)|omega|simp_all|(simp_all;omega))
theorem sP(n:Int)(l:List Test):IF n l=Y (Kr n l):=by
 unfold IF Kr;rw[BU (λi=>nz (Pv n (AA l i))),Cf]
 .simp only[bs,pE,A!,gN,A?,decide_eq_false_iff_not,B_,B',B!,ne_eq]
  repeat' (first|rfl|(exfalso;omega;done)|split)
  all_goals (first|rfl|(exfalso;omega)|omega|simp_all|(simp_all;omega))
 .intro i d f _;rw[AD d f,bs,vQ,bs,Lj]
theorem sv(n:Int)(l:List Test):Mz n l=Y (Kr n l):=by
 unfold Mz Kr;rw[BU (λi=>nz (Pv n (AA l i))),Cf]
 .simp only[bs,pE,A!,gN,A?,decide_eq_false_iff_not,B_,B',B!,ne_eq]
  repeat' (first|rfl|(exfalso;omega;done)|split)
  all_goals (first|rfl|(exfalso;omega)|omega|simp_all|(simp_all;omega))
 .intro i d f _;rw[AD d f,bs,vr,bs,Lj]
def S8(t:AC)(p:cE)(node ix:Int):ff×Bool:=
 if node<0\/p.bi.az.length<=node then(default,T)else
 let l:=(Gz t (AA p.bi.az node)).1
 if ix<0\/l.length<=ix then(default,T)else(AA l ix,X)
theorem XU(hf:Ap t)(a:Int):(Gz t a).1.length<=600/\((Gz t a).2≠0->(Gz t a).1=[]):=by
 unfold Gz;split
 .simp
 .rename_i h;have d:=Cg (t:=t) U;split
  next hi=>exact⟨Iv hf (x? _) d.par (MP.1 hi).2,V⟩
  .simp
variable{p:cE}
theorem sC(hf:Ap t)(d:BV p.bi)(s:DN):Ge t p s=Y (S8 t p s.kp s.ff):=by
 have j:=d.ci;unfold Ge S8 Cz;dsimp only;rw[Ao U U,bs];by_cases h:s.kp<0\/p.bi.az.length<=s.kp
 .rw[Ne an,Ne h];rfl
 .rw[QQ an,QQ h,AD U U,bs,Sr hf,bs];have q:=(XU hf (AA p.bi.az s.kp)).1;rw[Ao U U,bs];by_cases f:s.ff<0\/(Gz t (AA p.bi.az s.kp)).1.length<=s.ff
  .rw[Ne an,Ne f];rfl
  grind [AD]
theorem sX(hf:Ap t)(node d:Int):Og t p node d=Y (S8 t p node d):=by
 unfold Og S8;dsimp only;by_cases h:node<0\/p.bi.az.length<=node
 .rw[Ne an,Ne h];rfl
 .rw[QQ an,QQ h,AD U U,bs,Q0 hf,bs];have j:=(XU hf (AA p.bi.az node)).2;by_cases f:d<0\/(Gz t (AA p.bi.az node)).1.length<=d
  .rw[Ne an,Ne f];rfl
  grind [Gz,AA,AD]
end Go.Sf.Sc
namespace Go.Sf
variable{σ ρ:Type}
def mV(s:σ)(o:Option ρ):B2 σ ρ:=match o with
 |none=>.next s|some r=>.ret r
def rA(s:σ)(o:Option ρ):σ ⊕ ρ:=match o with
 |none=>.inl s|some r=>.inr r
theorem cA{f:Int->σ->Option (B2 σ ρ)}(g:Int->σ)(c:Int->Option ρ):∀(n:Nat)(a:Int),
  (∀i,a<=i->i<a+n->(∀j,a<=j->j<i->c j=W)->f i (g i)=Y (mV (g (i+1)) (c i)))->tc f n a (g a)=Y (rA (g (a+n)) (Fh c n a))
 |0,a,_=>by simp[tc,Fh,rA]|n+1,a,h=>by
  have u:=h a (x? _) U (λj d q=>U);rw[FH,u,Fh];cases A:c a with
  |some r=>rfl|none=>
   simp only[mV];rw[show a+((n+1:Nat):Int)=a+1+n by omega];refine cA g c n (a+1) (λi d q w=>h i U U (λj y z=>?_))
   grind
variable{a b:Int}
theorem ML{f:Int->σ->Option (B2 σ ρ)}(g:Int->σ)(c:Int->Option ρ){s:σ}(d:a<=b)(q:s=g a)(h:∀i,a<=i->i<b->(∀j,a<=j->j<i->c j=W)->f i (g i)=Y (mV (g (i+1)) (c i))):eE f a b s=Y (rA (g b) (fst c a b)):=by
 subst q;unfold eE fst;have:=cA g c (b-a).toNat a (λi u y w=>h i u U w)
 grind
variable{α:Type}
variable{e:Int}
theorem Dp{ζ:K1}{δ:Int}(h:e=0->ζ=Y δ):(if(!decide (e=0))=X then Y e else ζ)=Y (if e≠0 then e else δ):=o2
variable{v:α}{ζ:Option α}{δ:α}
theorem DV(h:e=0->ζ=Y δ):(if(!decide (e=0))=X then Y v else ζ)=Y (if e≠0 then v else δ):=o2
variable{P:Prop}
theorem Pz[Decidable P]{b:Bool}(d:b=X↔P)(h:¬P->ζ=Y δ):(if b=X then Y v else ζ)=Y (if P then v else δ):=o2
theorem UP{b:Bool}(h:b=X->ζ=Y δ):(if(!b)=X then Y v else ζ)=Y (if b=T then v else δ):=o2
theorem ZB{b:Bool}(h:b=T->ζ=Y δ):(if b=X then Y v else ζ)=Y (if b=X then v else δ):=o2
end Go.Sf
namespace Go.Sf.Sc
open Go Go.Sf
def TA(t:AC)(p:cE)(s:DN):Bool:=!(S8 t p s.kp s.ff).2||decide (s.ew.Var< -1)||decide (p.eg<=s.ew.Var)||(decide (s.ew.Add< -1000000)||decide (1000000<s.ew.Add))
def Lk(p:cE)(v:Int):Bool:=p.d4.any λs=>decide (s.ew.Var=v)
def Hk(t:AC)(p:cE):Int:=
 if (Az t).2≠0 then(Az t).2 else if Bz p.bi≠0 then Bz p.bi else if CQ t p.bi=T then 13 else
 if p.eg<0\/12<p.eg then 6 else if 10<p.d4.length\/10<p.fv.length then 3 else
 if (p.d4.any (TA t p))=X then 6 else if Kr p.eg p.fv≠0 then Kr p.eg p.fv else
 if fu (λv=>!Lk p v) 0 p.eg=X then 9 else 0
def Ke(p:cE)(i:Int):MV:=(E? p.eg.toNat).map λ(v:Nat)=>(p.d4.take i.toNat).any λs=>decide (s.ew.Var=(v:Int))
variable{p:cE}
theorem jz:Ke p 0=List.replicate p.eg.toNat T:=by
 unfold Ke;refine F_ V (λn d f=>V)
theorem m8(p:cE)(i:Int):(Ke p i).length=p.eg.toNat:=by simp[Ke]
variable{i:Int}
theorem m9(d:0<=i)(f:i<p.d4.length)(hv:0<=(AA p.d4 i).ew.Var):BB (Ke p i) (AA p.d4 i).ew.Var X=Ke p (i+1):=by
 unfold BB;refine F_ (by simp[Ke]) (λn h j=>?_);simp[Ke,CP d f]
 grind
theorem jy(d:0<=i)(f:i<p.d4.length)(hv:(AA p.d4 i).ew.Var<0):Ke p i=Ke p (i+1):=by
 refine F_ (by simp[Ke]) (λn h j=>?_);simp[Ke,CP d f]
 grind
theorem m7(p:cE):((Ke p p.d4.length).any λx=>T==x)=fu (λv=>!Lk p v) 0 p.eg:=by
 rw [z?,E!,Dn];simp only[Ke,y_,E',F!,List.mem_range];constructor
 .rintro⟨x,⟨v,hv,rfl⟩,d⟩;refine⟨v,U,U,?_⟩
  grind [Lk]
 .rintro⟨v,f,h,d⟩;refine⟨_,⟨v.toNat,U,rfl⟩,?_⟩
  grind [y!,Lk]
theorem fY{α ρ:Type}[Inhabited α]{l:List α}{q:α->Bool}{v:ρ}:fst (λi=>if q (AA l i)=X then Y v else W) 0 l.length=if l.any q=X then Y v else W:=by
 rw [Nq,GV]
variable{t:AC}
theorem YC(hf:Ap t)(p:cE):Db t p=Y (Hk t p):=by
 unfold Db Hk;rw[PO hf,bs,Nv,bs];refine Dp λH=>Dp λF=>?_;have z:=Dm F;have e:((A9 p.bi.az (λd=>HT d t)).bind λq=>
   (if q=X then Y X else((BO p.bi.be (λd=>HU d t)).bind λu=>Y (u))))=Y (!CQ t p.bi):=by
  unfold CQ;rw[show(λd=>HT d t)=(λ(n:Int)=>Y (decide (t.az.length<=n)))from rfl,bW,show(λd=>HU d t)=(λ(e:Bw)=>Y (decide (t.be.length<=e.em)))from rfl,fI];simp only[bs];cases p.bi.az.any λn=>decide (t.az.length<=n)<;>simp
 rw [<-x_,e,bs];refine UP λG=>?_;unfold Cz;simp only[bs];refine Pz j? λhv=>Pz j? λI=>?_;unfold Eu;rw[Ne U,bs,<-jz,Ao (show -9223372036854775808<=p.eg-1 by omega) U,ML (Ke p) (λi=>if TA t p (AA p.d4 i)=X then Y 6 else W) U rfl,fY]
 .cases f:p.d4.any (TA t p)
  .simp only[A',if_false,rA,B0,sP,bs,fM,m7];by_cases h:Kr p.eg p.fv=0
   .simp[h];cases fu (λv=>!Lk p v) 0 p.eg<;>rfl
   .simp[h]
  .rfl
 .intro i w y _;rw[AD w y,bs,sC hf z,bs];unfold TA;by_cases f:(S8 t p (AA p.d4 i).kp (AA p.d4 i).ff).2=X
  .by_cases E:(AA p.d4 i).ew.Var< -1\/p.eg<=(AA p.d4 i).ew.Var
   .have A:(decide (-1<=(AA p.d4 i).ew.Var)&&decide ((AA p.d4 i).ew.Var<=p.eg-1))=T:=g_
    have B:(decide ((AA p.d4 i).ew.Var< -1)||decide (p.eg<=(AA p.d4 i).ew.Var))=X:=an
    rw [f,A,C! (!X),B];rfl
   .have A:(decide (-1<=(AA p.d4 i).ew.Var)&&decide ((AA p.d4 i).ew.Var<=p.eg-1))=X:=an
    have B:(decide ((AA p.d4 i).ew.Var< -1)||decide (p.eg<=(AA p.d4 i).ew.Var))=T:=g_
    rw [f,A,C! (!X),B];by_cases J:(AA p.d4 i).ew.Add< -1000000\/1000000<(AA p.d4 i).ew.Add
    .have C:(decide (-1000000<=(AA p.d4 i).ew.Add)&&decide ((AA p.d4 i).ew.Add<=1000000))=T:=g_
     have D:(decide ((AA p.d4 i).ew.Add< -1000000)||decide (1000000<(AA p.d4 i).ew.Add))=X:=an
     rw [C,D];rfl
    .have C:(decide (-1000000<=(AA p.d4 i).ew.Add)&&decide ((AA p.d4 i).ew.Add<=1000000))=X:=an
     have D:(decide ((AA p.d4 i).ew.Add< -1000000)||decide (1000000<(AA p.d4 i).ew.Add))=T:=g_
     rw [C,D];by_cases j:0<=(AA p.d4 i).ew.Var
     .simp[j,decide_true];rw[AD j (by rw[m8];omega),bs,m9 w y j];rfl
     .simp[j,decide_false];rw[jy w y U];rfl
  .rw[C']at f;rw[f];rfl
theorem qn(p:cE)(v:Int):Lt p v=Y (Lk p v):=by
 unfold Lt Lk;rw[BN (λi=>decide ((AA p.d4 i).ew.Var=v)) X,GV]
 .cases fu (λi=>decide ((AA p.d4 i).ew.Var=v)) 0 p.d4.length<;>rfl
 .intro i d f _;rw[AD d f,bs,Ib]
theorem al(hf:Ap t)(p:cE):Hx t p=Y (Hk t p):=by
 unfold Hx Hk;rw[Q1 hf,bs,Nx,bs];refine Dp λw=>Dp λq=>?_;have f:=Dm q;rw[Yw f,bs];refine UP λu=>Pz j? λhv=>Pz j? λy=>?_;rw[BN (λi=>TA t p (AA p.d4 i)) 6,<-GV]
 .cases z:p.d4.any (TA t p)
  .simp only[A',if_false,B0,sv,bs];by_cases d:Kr p.eg p.fv=0
   .simp only[d];rw[BN (λv=>!Lk p v) 9]
    .cases fu (λv=>!Lk p v) 0 p.eg<;>rfl
    .intro i h j _;rw[qn,bs,Ib]
   .simp[d]
  .rfl
 .intro i h j _;rw[AD h j,bs,sX hf,bs];unfold TA NQ
  grind
def Pt(t:AC)(p:cE)(i:Int):Int:=
 let s:=AA p.d4 i
 if s.kp<0\/p.bi.az.length<=s.kp then 6 else
 let l:=(Gz t (AA p.bi.az s.kp)).1
 if ((((((decide (s.ff<0))||(decide ((l.length:Int)<=s.ff)))||(decide (s.ew.Var<(-1))))||(decide (p.eg<=s.ew.Var)))||(decide (s.ew.Add<(-1000000))))||(decide (1000000<s.ew.Add)))=X then 6 else
 if fu (λj=>(decide ((AA p.d4 j).kp=s.kp))&&(decide ((AA p.d4 j).ff=s.ff))) 0 i=X then 5 else 0
theorem vN(hf:Ap t)(r:d3)(d:0<=i)(f:i<r.ca.d4.length):L4 t r i=Y (Pt t r.ca i):=by
 unfold L4 Pt;dsimp only;rw[AD d f,bs];refine Pz V λh=>?_;rw[AD U U,bs,Sr hf,bs,L7 d U,bs,
  show (λj=>Ps j (AA r.ca.d4 i))=(λy=>Y ((decide (y.kp=(AA r.ca.d4 i).kp))&&(decide (y.ff=(AA r.ca.d4 i).ff))))from rfl,fJ,bs,RC d U]
 grind
theorem vp(hf:Ap t)(p:cE)(d:0<=i)(f:i<p.d4.length):Oi t p i=Y (Pt t p i):=by
 unfold Oi Pt;dsimp only;rw[AD d f,bs];refine Pz V λh=>?_;rw[AD U U,bs,Q0 hf,bs,
  BN (λj=>(decide ((AA p.d4 j).kp=(AA p.d4 i).kp))&&(decide ((AA p.d4 j).ff=(AA p.d4 i).ff))) 5]
 .refine ZB λ_=>?_;cases fu (λj=>(decide ((AA p.d4 j).kp=(AA p.d4 i).kp))&&(decide ((AA p.d4 j).ff=(AA p.d4 i).ff))) 0 i<;>rfl
 grind [AD,AA,ff]
def Ko(t:AC)(r:d3):Int:=
 if Bz r.ca.bi≠0 then Bz r.ca.bi else if CQ t r.ca.bi=T then 13 else
 if r.ca.eg≠r.d7.eg\/0<r.ca.fv.length then 1 else if 10<r.ca.d4.length then 3 else
 (fst (λi=>nz (Pt t r.ca i)) 0 r.ca.d4.length).getD 0
theorem sL(hf:Ap t)(r:d3):KT t r=Y (Ko t r):=by
 unfold KT Ko;rw[Nv,bs,sQ,bs,BU (λi=>nz (Pt t r.ca i)),Cf]
 .grind
 grind [vN,Lj]
theorem si(hf:Ap t)(r:d3):M8 t r=Y (Ko t r):=by
 unfold M8 Ko;rw[Nx,bs];refine Dp λd=>?_;rw[Yw (Dm d),bs,BU (λi=>nz (Pt t r.ca i)),Cf]
 .grind
 grind [vp,Lj]
end Go.Sf.Sc
namespace Go.Sf
variable{a b:Int}
theorem io{ρ:Type}{c d:Int->Option ρ}(h:∀i,c i=d i):fst c a b=fst d a b:=by rw[funext h]
def A8(l:Fp)(v:Int):Int:=(fst (λi=>if decide (v=AA l i)=X then Y i else W) 0 l.length).getD (-1)
variable{l:Fp}
theorem Bn{v:Int}(h:v∈l):0<=A8 l v/\A8 l v<l.length/\AA l (A8 l v)=v/\∀j,0<=j->j<A8 l v->AA l j≠v:=by
 unfold A8;cases hf:fst (λi=>if decide (v=AA l i)=X then Y i else W) 0 l.length with
 |none=>
  grind [BC,Bc]
 |some k=>
  grind [DW,AA]
variable{R:Int->Int->Prop}
theorem Kw(h:l.Pairwise R){i j:Int}(d:0<=i)(f:i<j)(q:j<l.length):R (AA l i) (AA l j):=by grind[F?,AA,D?]
theorem SE(h:∀i j:Int,0<=i->i<j->j<l.length->R (AA l i) (AA l j)):l.Pairwise R:=by
 refine F?.2 (λi j d f q=>?_);have:=h i j U U U;unfold AA at this
 grind
theorem Wa(w:l.Pairwise (·<·)){v:Int}(h:v∈l):(l.countP (λx=>decide (x<v)):Int)=A8 l v:=by
 obtain ⟨y,z,q,_⟩:=Bn h;generalize F:A8 l v=k at y z q;have e:l=l.take k.toNat++l.drop k.toNat:=(List.take_append_drop _ _).symm;have A:(l.take k.toNat).countP (λx=>decide (x<v))=k.toNat:=by
  rw [List.countP_eq_length.2 (λx d=>?_),aN]
  .omega
  .obtain⟨i,D,E,rfl⟩:=BC d;rw[aN]at E;rw[Qu U,pE,<-q];exact Kw w D U z
 have B:(l.drop k.toNat).countP (λx=>decide (x<v))=0:=by
  rw [List.countP_eq_zero];intro x d;obtain⟨n,u⟩:=List.getElem?_of_mem d;rw[List.getElem?_drop]at u;have C:=(List.getElem?_eq_some_iff.1 u).1;have f:x=AA l (k+n):=by
   unfold AA;rw[E_,show(k+(n:Int)).toNat=k.toNat+n by omega,u];rfl
  rw [pE,f,<-q];by_cases j:n=0
  .subst j;simp
  .have:=Kw w y (show k<k+(n:Int)by omega) U;omega
 rw [e,List.countP_append,A,B];omega
end Go.Sf
namespace Go.Sf.Sc
open Go Go.Sf
theorem Yo(l:Fp)(v:Int):slices_Index_int l v=Y (A8 l v):=ku l v
theorem rn(l:Fp)(n:Int):(d6 (eE (ρ:=Int) (λ(h:Int)(_:Unit)=>
 (idx l h).bind λd=>
 if (decide (d=n))=X then
 Y (.ret h)
 else
 Y (.next ())) 0 (l.length:Int) ()) (λ_=>
 Y (-1)) (λj=>Y j))=Y (A8 l n):=by
 have:=Wl (l:=l) (f:=λx=>Y (decide (x=n))) (p:=λx=>decide (x=n)) (λ_ _=>rfl);simp only[bs]at this;rw[this];unfold A8;congr 2;exact io λi=>by simp[eq_comm]
theorem vk(l:Fp)(v:Int):JU l v=Y (A8 l v):=rn l v
def hasB(l:Fp)(v:Int):Bool:=l.any λx=>decide (v=x)
variable{l:Fp}
theorem Aj{v:Int}:hasB l v=X↔v∈l:=by
 unfold hasB
 grind
theorem PD(l:Fp)(n:Int):(d6 (eE (ρ:=Bool) (λ(f:Int)(_:Unit)=>
 (idx l f).bind λd=>
 if (decide (d=n))=X then
 Y (.ret X)
 else
 Y (.next ())) 0 (l.length:Int) ()) (λ_=>
 Y T) (λh=>Y h))=Y (hasB l n):=by
 unfold hasB;rw[BN (λi=>decide (n=AA l i)) X,GV]
 .cases fu (λi=>decide (n=AA l i)) 0 l.length<;>rfl
 .intro i j q _;rw[AD j q,bs,Ib];simp[eq_comm]
theorem sd(l:Fp)(v:Int):R3 l v=Y (hasB l v):=PD l v
theorem sc(l:Fp)(v:Int):QH l v=Y (hasB l v):=PD l v
def O7(l:Fp)(n:Int):Int:=(fst (λi=>if AA l i<0\/n<=AA l i then Y 6 else if 0<i/\AA l i<=AA l (i-1)then Y 12 else W) 0 l.length).getD 0
theorem qe(u:l.length<=1000)(n:Int):Im l n=Y (O7 l n):=by
 unfold Im O7;rw[BU (λi=>if AA l i<0\/n<=AA l i then Y 6 else if 0<i/\AA l i<=AA l (i-1)then Y 12 else W),Cf];intro i j q _;rw[AD j q,bs];by_cases h:AA l i<0\/n<=AA l i
 .rw[Ne c_,Ne h];rfl
 .rw[QQ c_,QQ h];by_cases d:0<i
  .rw[Ne b?,Ao U U,AD U U,bs,bs];by_cases f:AA l i<=AA l (i-1)
   .rw[Ne e!,Ne ⟨d,f⟩];rfl
   .rw[QQ e!,QQ (λh=>f h.2)];rfl
  .rw[QQ b?,bs,QQ a_,QQ (λh=>d h.1)];rfl
theorem ql(w:l.length<=1000)(n:Int):HI l n=Y (O7 l n):=by
 unfold HI O7;rw[BU (λi=>if AA l i<0\/n<=AA l i then Y 6 else if 0<i/\AA l i<=AA l (i-1)then Y 12 else W),Cf];intro i j q _;rw[AD j q];simp only[bs];by_cases h:AA l i<0\/n<=AA l i
 .have:(if decide (AA l i<0)=X then Y X else Y (decide (n<=AA l i)))=Y X:=by
   rcases h with h|h
   .simp[h]
   .by_cases u:AA l i<0<;>simp[h,u]
  rw [this,bs,Ne rfl,Ne h];rfl
 .have:(if decide (AA l i<0)=X then Y X else Y (decide (n<=AA l i)))=Y T:=by
   rw [QQ an,decide_eq_false U]
  rw [this,bs,QQ a_,QQ h];by_cases d:0<i
  .rw[Ne b?,Ao U U,AD U U,bs,bs];by_cases f:AA l i<=AA l (i-1)
   .rw[Ne e!,Ne ⟨d,f⟩];rfl
   .rw[QQ e!,QQ (λh=>f h.2)];rfl
  .rw[QQ b?,bs,QQ a_,QQ (λh=>d h.1)];rfl
variable{a b:Int}
theorem P4{c:Int->K1}(d:∀i,c i≠Y 0)(h:(fst c a b).getD 0=0):∀i,a<=i->i<b->c i=W:=by
 have:fst c a b=W:=by
  cases hf:fst c a b with
  |none=>rfl|some r=>
   grind [w!,DW]
 exact Bc.1 this
variable{n:Int}
theorem UM(h:O7 l n=0):(∀x∈l,0<=x/\x<n)/\l.Pairwise (·<·):=by
 have z:=P4 (c:=λi=>if AA l i<0\/n<=AA l i then Y 6 else if 0<i/\AA l i<=AA l (i-1)then Y 12 else W) (λi=>by
  split
  .simp
  .split<;>simp) h
 have f:∀i:Int,0<=i->i<l.length->(0<=AA l i/\AA l i<n)/\(0<i->AA l (i-1)<AA l i):=by
  intro i q y;have:=z i q y;split at this
  .cases this
  .split at this
   .cases this
   .omega
 refine ⟨λx u=>?_,SE (λi j q d w=>?_)⟩
 .obtain⟨i,A,B,rfl⟩:=BC u;exact(f i A B).1
 .obtain⟨k,C⟩:∃k:Nat,j=i+1+k:=⟨(j-i-1).toNat,U⟩;subst C;clear d
  induction k with
  |zero=>
   have:=(f (i+1) U U).2 U;rw[show i+1-1=i by omega]at this;simpa using this
  |succ k D=>
   have a:=D U;have b:=(f (i+1+((k+1:Nat):Int)) U w).2 U;rw[show i+1+((k+1:Nat):Int)-1=i+1+k by omega]at b;omega
theorem Tb(f:l.length<=1000)(d:l.Pairwise (·<·))(v:Int):slices_BinarySearch_int l v=Y (((l.countP (λx=>decide (x<v)):Nat):Int),hasB l v):=by
 unfold slices_BinarySearch_int;rw[Ne ⟨a?,d.imp (λh=>U)⟩];congr 2;rw[z?,Aj,List.contains_iff_mem]
def OZ(g:bi)(p:Bo):Int:=
 if O7 p.az g.az.length≠0 then O7 p.az g.az.length else if O7 p.be g.be.length≠0 then O7 p.be g.be.length else
 (fst (λi=>if(hasB p.az (AA g.be (AA p.be i)).fb&&hasB p.az (AA g.be (AA p.be i)).To)=X then W else Y 14) 0 p.be.length).getD 0
structure a8(g:bi)(p:Bo):Prop where
 ci:(∀x∈p.az,0<=x/\x<g.az.length)/\p.az.Pairwise (·<·)
 c8:(∀x∈p.be,0<=x/\x<g.be.length)/\p.be.Pairwise (·<·)
 ends:∀x∈p.be,(AA g.be x).fb∈p.az/\(AA g.be x).To∈p.az
variable{g:bi}
theorem Us{p:Bo}(h:OZ g p=0):a8 g p:=by
 unfold OZ at h;split at h
 .omega
 .split at h
  .omega
  .rename_i u w;refine⟨UM U,UM U,λx f=>?_⟩;obtain⟨i,j,q,rfl⟩:=BC f;have:=P4 (c:=λi=>if(hasB p.az (AA g.be (AA p.be i)).fb&&hasB p.az (AA g.be (AA p.be i)).To)=X then W else Y 14) (λi=>by
    split<;>simp) h i j q
   split at this
   next d=>rw[gN,Aj,Aj]at d;exact d
   .cases this
def EC(g:bi)(p:Bo):Int:=if Bz g≠0 then Bz g else OZ g p
structure SD(p:Bo):Prop where
 ci:p.az.length<=1000
 c8:p.be.length<=1000
theorem gA{p:Bo}(d:SD p):FZ g p=Y (EC g p):=by
 unfold FZ EC;rw[Nv,bs];refine Dp λq=>?_;have y:=Dm q;unfold NU OZ;rw[qe d.ci,bs,qe d.c8,bs,x!];refine Dp λu=>Dp λw=>?_;obtain⟨a1,a2⟩:=UM u;obtain⟨z,A⟩:=UM w;rw[BU (λi=>if(hasB p.az (AA g.be (AA p.be i)).fb&&hasB p.az (AA g.be (AA p.be i)).To)=X then W else Y 14),Cf];intro i f h _;have j:=z _ (AG f h);unfold L9;rw[AD f h,bs,AD j.1 j.2];simp[Tb d.ci a2];cases hasB p.az (AA g.be (AA p.be i)).fb<;>cases hasB p.az (AA g.be (AA p.be i)).To<;>rfl
theorem Yv{p:Bo}(d:SD p):JT g p=Y (EC g p):=by
 unfold JT EC;rw[Nx,bs];refine Dp λq=>?_;have w:=Dm q;unfold Pn OZ;rw[ql d.ci,bs,ql d.c8,bs,x!];refine Dp λz=>Dp λu=>?_;obtain⟨y,A⟩:=UM u;rw[BU (λi=>if(hasB p.az (AA g.be (AA p.be i)).fb&&hasB p.az (AA g.be (AA p.be i)).To)=X then W else Y 14),Cf];intro i f h _;have j:=y _ (AG f h);rw[AD f h,bs,AD j.1 j.2];simp[sc];cases hasB p.az (AA g.be (AA p.be i)).fb<;>cases hasB p.az (AA g.be (AA p.be i)).To<;>rfl
def MR(g:bi)(p:Bo):bi:=⟨p.az.map (AA g.az),p.be.map λx=>⟨(AA g.be x).em,A8 p.az (AA g.be x).fb,A8 p.az (AA g.be x).To⟩⟩
variable{i:Int}
theorem If{α:Type}{f:Int->α}(d:0<=i)(h:i<l.length):(l.take (i+1).toNat).map f=(l.take i.toNat).map f++[f (AA l i)]:=by grind[CP]
theorem TL(A:l.length<=1000)(h:∀x∈l,0<=x/\x<g.az.length)(es:List Bw):(gp (λ(z:Int)(w:bi)=>
 (idx l z).bind λd=>
 (idx g.az d).bind λf=>
 (Ak w.az [f]).bind λj=>
 Y (bi.mk j w.be)) 0 (l.length:Int) (bi.mk [] es))=Y (bi.mk (l.map (AA g.az)) es):=by
 rw [BZ (λi=>bi.mk ((l.take i.toNat).map (AA g.az)) es) U V]
 .rw[y_,E']
 .intro i q u;have y:=h _ (AG q u);rw[AD q u,bs,AD y.1 y.2,bs,AV a!,bs,If q u]
theorem Xp(C:l.length<=1000)(h:∀x∈l,0<=x/\x<g.be.length)(q:Fp)(F:Bw->Bw){f:Bw->List Bw->Option (List Bw)}(hf:∀x∈l,∀s,s.length<=1000->f (AA g.be x) s=Y (s++[F (AA g.be x)])):(gp (λ(B:Int)(z:bi)=>
 (idx l B).bind λu=>
 (idx g.be u).bind λw=>
 (f w z.be).bind λy=>
 Y (bi.mk z.az y)) 0 (l.length:Int) (bi.mk q []))=Y (bi.mk q (l.map λx=>F (AA g.be x))):=by
 rw [BZ (λi=>bi.mk q ((l.take i.toNat).map λx=>F (AA g.be x))) U V]
 .rw[y_,E']
 .intro i d j;have A:=h _ (AG d j);rw[AD d j,bs,AD A.1 A.2,bs,hf _ (AG d j) _ an,bs,If d j]
theorem lP{p:Bo}(d:SD p):FM g p=Y (if EC g p≠0 then(⟨[],[]⟩,⟨[],[]⟩,EC g p)else(MR g p,⟨p.az,p.be⟩,0)):=by
 unfold FM;rw[gA d,bs];refine DV λh=>?_;have y:Bz g=0/\OZ g p=0:=by
  grind [EC]
 have ho:=Us y.2;rw[TL d.ci ho.ci.1,bs];have:=Xp (g:=g) (l:=p.be) d.c8 ho.c8.1 (p.az.map (AA g.az)) (λx=>⟨x.em,A8 p.az x.fb,A8 p.az x.To⟩) (f:=λj s=>
  (slices_BinarySearch_int p.az j.fb).bind λq=>
  (slices_BinarySearch_int p.az j.To).bind λu=>
  Ak s [Bw.mk j.em q.1 u.1]) (λx w s z=>by
   have he:=ho.ends x w;rw[Tb d.ci ho.ci.2,bs,Tb d.ci ho.ci.2,bs,AV a!,Wa ho.ci.2 he.1,Wa ho.ci.2 he.2])
 simp [x_]at this;rw[this,bs];unfold slices_Clone_int;have A:=d.ci;have B:=d.c8;rw[BM a?,bs,BM a?];rfl
theorem Zt{p:Bo}(j:SD p):Ih g p=Y (if EC g p≠0 then(⟨[],[]⟩,⟨[],[]⟩,EC g p)else(MR g p,⟨p.az,p.be⟩,0)):=by
 unfold Ih;rw[Yv j,bs];refine DV λh=>?_;have w:Bz g=0/\OZ g p=0:=by
  grind [EC]
 have ho:=Us w.2;rw[TL j.ci ho.ci.1,bs];have:=Xp (g:=g) (l:=p.be) j.c8 ho.c8.1 (p.az.map (AA g.az)) (λx=>⟨x.em,A8 p.az x.fb,A8 p.az x.To⟩) (f:=λd s=>
  (JU p.az d.fb).bind λq=>
  (JU p.az d.To).bind λu=>
  Ak s [Bw.mk d.em q u]) (λx y s z=>by
   grind [vk,AV,AX])
 simp [x_]at this;rw[this,bs];have A:=j.ci;have B:=j.c8;rw[BM a?,bs,BM a?];rfl
end Go.Sf.Sc
namespace Go.Sf.Sc
open Go Go.Sf
def Lg(a b:bi)(m:bk)(i:Int):K1:=
 if AA m.az i<0\/b.az.length<=AA m.az i then Y 6 else if AA b.az (AA m.az i)≠AA a.az i then Y 13 else W
def Ed(a b:bi)(m:bk)(i:Int):K1:=
 if AA m.be i<0\/b.be.length<=AA m.be i then Y 6 else
 if (AA a.be i).em≠(AA b.be (AA m.be i)).em then Y 13 else
 if AA m.az (AA a.be i).fb≠(AA b.be (AA m.be i)).fb\/AA m.az (AA a.be i).To≠(AA b.be (AA m.be i)).To then Y 11 else W
def HN(a b:bi)(m:bk):Int:=
 if Bz a≠0 then Bz a else if Bz b≠0 then Bz b else if m.az.length≠a.az.length\/m.be.length≠a.be.length then 20 else
 match fst (Lg a b m) 0 m.az.length with
 |some e=>e|none=>(fst (Ed a b m) 0 m.be.length).getD 0
structure aS(a b:bi)(m:bk):Prop where
 ga:BV a
 gb:BV b
 t2:m.az.length=a.az.length
 x4:m.be.length=a.be.length
 node:∀i:Int,0<=i->i<m.az.length->(0<=AA m.az i/\AA m.az i<b.az.length)/\AA b.az (AA m.az i)=AA a.az i
 edge:∀i:Int,0<=i->i<m.be.length->(0<=AA m.be i/\AA m.be i<b.be.length)/\(AA a.be i).em=(AA b.be (AA m.be i)).em/\
  AA m.az (AA a.be i).fb=(AA b.be (AA m.be i)).fb/\AA m.az (AA a.be i).To=(AA b.be (AA m.be i)).To
variable{m:bk}
theorem TQ{a b:bi}(h:HN a b m=0):aS a b m:=by
 unfold HN at h;split at h
 .omega
 split at h
 .omega
 split at h
 .cases h
 rename_i q u w;have j:fst (Lg a b m) 0 m.az.length=W:=by
  grind [DW,Lg]
 rw [j]at h;have he:=P4 (λi=>by
  grind [Ed]) h
 refine ⟨Dm U,Dm U,U,U,λi d f=>?_,λi d f=>?_⟩
 .grind[Bc,Lg]
 grind [Ed]
theorem Vs(a b:bi)(m:bk):DY a b m=Y (HN a b m):=by
 unfold DY HN;rw[Nv,bs,Nv,bs];refine Dp λw=>Dp λy=>Pz j? λB=>?_;have ga:=Dm w;have gb:=Dm y;rw[BU (Lg a b m),Dz]
 .cases z:fst (Lg a b m) 0 m.az.length with
  |some e=>rfl|none=>
   have A:=Bc.1 z;dsimp only;rw[BU (Ed a b m),Cf];intro i h u _;unfold Ed;rw[AD h u,bs];by_cases d:AA m.be i<0\/b.be.length<=AA m.be i
   .rw[Ne b?,Ne d];rfl
   .have hf:=ga.fit _ (AG (l:=a.be) h U);rw[QQ b?,QQ d,AD h U,bs,AD U U,bs];by_cases f:(AA a.be i).em=(AA b.be (AA m.be i)).em
    .rw[QQ e!,QQ e!,AD U U,bs];by_cases j:AA m.az (AA a.be i).fb=(AA b.be (AA m.be i)).fb
     .rw[QQ h_,AD U U,bs,bs];by_cases q:AA m.az (AA a.be i).To=(AA b.be (AA m.be i)).To
      .rw[QQ l!,QQ (by simp[j,q])];rfl
      .rw[Ne l!,Ne (.inr q)];rfl
     .rw[Ne h_,bs,Ne rfl,Ne (.inl j)];rfl
    .rw[Ne e!,Ne f];rfl
 .intro i h u _;unfold Lg;rw[AD h u,bs];by_cases d:AA m.az i<0\/b.az.length<=AA m.az i
  .rw[Ne b?,Ne d];rfl
  .rw[QQ b?,QQ d,AD U U,bs,AD h U,bs];by_cases f:AA b.az (AA m.az i)=AA a.az i
   .rw[QQ e!,QQ e!];rfl
   .rw[Ne e!,Ne f];rfl
theorem Up{x y:Prop}[Decidable x][Decidable y]:(if decide x=X then Y X else Y (decide y))=Y (decide (x\/y)):=o2
theorem ak(a b:bi)(m:bk):Hu a b m=Y (HN a b m):=by
 unfold Hu HN;rw[Nx,bs,Nx,bs];refine Dp λw=>Dp λy=>Pz j? λB=>?_;have ga:=Dm w;have gb:=Dm y;rw[show(a.az.length:Int)=m.az.length by omega,show(a.be.length:Int)=m.be.length by omega,BU (Lg a b m),Dz]
 .cases z:fst (Lg a b m) 0 m.az.length with
  |some e=>rfl|none=>
   have A:=Bc.1 z;dsimp only;rw[BU (Ed a b m),Cf];intro i h u _;unfold Ed;rw[AD h u];simp only[bs,Up];by_cases d:AA m.be i<0\/b.be.length<=AA m.be i
   .rw[Ne b?,Ne d];rfl
   .have hf:=ga.fit _ (AG (l:=a.be) h U);rw[QQ b?,QQ d,AD h U,bs,AD U U,bs];by_cases f:(AA a.be i).em=(AA b.be (AA m.be i)).em
    .rw[QQ e!,QQ e!,AD U U,bs];by_cases j:AA m.az (AA a.be i).fb=(AA b.be (AA m.be i)).fb
     .rw[QQ h_,AD U U,bs,bs];by_cases q:AA m.az (AA a.be i).To=(AA b.be (AA m.be i)).To
      .rw[QQ l!,QQ (by simp[j,q])];rfl
      .rw[Ne l!,Ne (.inr q)];rfl
     .rw[Ne h_,bs,Ne rfl,Ne (.inl j)];rfl
    .rw[Ne e!,Ne f];rfl
 .intro i h u _;unfold Lg;rw[AD h u];simp only[bs,Up];by_cases d:AA m.az i<0\/b.az.length<=AA m.az i
  .rw[Ne b?,Ne d];rfl
  .rw[QQ b?,QQ d,AD U U,bs,AD h U,bs];by_cases f:AA b.az (AA m.az i)=AA a.az i
   .rw[QQ e!,QQ e!];rfl
   .rw[Ne e!,Ne f];rfl
def Ju(l:Fp):Bool:=!fu (λi=>fu (λj=>decide (AA l i=AA l j)) 0 i) 0 l.length
variable{l:Fp}
theorem IG:Ju l=X↔l.Nodup:=by grind[Ju,A?,Bg,SE,Kw]
theorem aj(l:Fp):FX l=Y (Ju l):=by
 unfold FX Ju;rw[BN (λi=>fu (λj=>decide (AA l i=AA l j)) 0 i) T]
 .cases fu (λi=>fu (λj=>decide (AA l i=AA l j)) 0 i) 0 l.length<;>rfl
 .intro i d f _;rw[BN (λj=>decide (AA l i=AA l j)) T]
  .cases fu (λj=>decide (AA l i=AA l j)) 0 i<;>rfl
  .intro j h q _;rw[AD d f,bs,AD h U,bs,Ib]
theorem TZ(f:l.length<=1000):∃k,Ew l=Y k/\decide (k=(l.length:Int))=Ju l:=by
 have d:(Rs l).length=l.length:=(Qj l).length_eq;refine⟨((Go.Lib.compact (Rs l)).length:Int),?_,?_⟩
 .grind[Ew,slices_Clone_int,slices_Sort_int,slices_Compact_int,BM,AX]
 .rw[z?,IG,pE,<-(Qj l).nodup_iff,<-T3 (RG l),d];omega
def G2(m:bk):Bool:=Ju m.az&&Ju m.be
theorem jM{a b:bi}(h:HN a b m=0):Cj a b m=Y (G2 m):=by
 have ho:=TQ h;have:=ho.ga.ci;have:=ho.ga.c8;have:=ho.t2;have:=ho.x4;obtain⟨k,d,f⟩:=TZ (l:=m.az) U;obtain⟨j,q,u⟩:=TZ (l:=m.be) U;unfold Cj G2;rw[Vs,h,bs,Ne (decide_eq_true rfl),d];simp[q,f,u];cases Ju m.az<;>rfl
theorem y6{a b:bi}(h:HN a b m=0):I9 a b m=Y (G2 m):=by grind[I9,G2,ak,aj,Ju]
def Ru(r:d3):Int:=
 if EC r.d7.bi r.kg≠0 then EC r.d7.bi r.kg else
 if HN (MR r.d7.bi r.kg) r.ca.bi r.ec≠0 then HN (MR r.d7.bi r.kg) r.ca.bi r.ec else if G2 r.ec=T then 11 else 0
variable{r:d3}
theorem vH(d:SD r.kg):L3 r=Y (Ru r):=by
 unfold L3 Ru;rw[lP d,bs];by_cases h:EC r.d7.bi r.kg=0
 .simp only[h,ne_eq,not_true_eq_false,if_false,decide_true,C_,A'];rw[Vs,bs];refine Dp λf=>?_;rw[jM f,bs];exact UP λ_=>rfl
 .simp[h]
def Vy(r:d3):Int:=if EC r.d7.bi r.kg≠0 then EC r.d7.bi r.kg else HN (MR r.d7.bi r.kg) r.ca.bi r.ec
theorem vq(d:SD r.kg):Oj r=Y (Vy r):=by
 unfold Oj Vy;rw[Yv d,bs];refine Dp λh=>?_
 grind [Zt,ak]
theorem rr(h:Ru r=0):EC r.d7.bi r.kg=0/\HN (MR r.d7.bi r.kg) r.ca.bi r.ec=0/\G2 r.ec=X:=by grind[Ru]
def AJ(l:Fp)(n:Int):Fp:=((E? n.toNat).map y?).filter λi=>!hasB l i
variable{i:Int}
theorem JC(l:Fp)(h:0<=i):AJ l (i+1)=AJ l i++if(!hasB l i)=X then[i]else[]:=by
 unfold AJ;rw[show(i+1).toNat=i.toNat+1 by omega,G_,G!,G?]
 grind
variable{n x:Int}
theorem CL(h:x∈AJ l n):0<=x/\x<n:=by
 unfold AJ at h
 grind
theorem Hy(l:Fp)(n:Int):(AJ l n).length<=n.toNat:=by
 unfold AJ
 grind
theorem R7(u:0<=n)(y:n<=1000){f:Int->I1}(hf:∀i,f i=Y (hasB l i)):(gp (λ(j:Int)(q:Fp)=>
 (f j).bind λd=>
 if (!d)=X then
 (Ak q [j]).bind λh=>
 Y h
 else
 Y q) 0 n [])=Y (AJ l n):=by
 refine BZ (AJ l) u (by simp[AJ]) (λi w z=>?_);have:=Hy l i;rw[hf,bs,JC l w];cases hasB l i
 .rw[Ne a_,Ne a_,AV a!];rfl
 .rw[QQ a_,QQ a_,List.append_nil]
theorem cm(d:0<=n)(f:n<=1000):K7 l n=Y (AJ l n):=by
 unfold K7;rw[R7 d f (λi=>LY l i)];rfl
theorem mE(d:0<=n)(f:n<=1000):MZ n l=Y (AJ l n):=by
 unfold MZ;rw[R7 d f (λi=>sd l i)];rfl
def EF(r:d3):Fp:=AJ r.ec.az r.ca.bi.az.length
def IE(r:d3):Fp:=AJ r.ec.be r.ca.bi.be.length
theorem lR(d:BV r.ca.bi):L0 r=Y (EF r,IE r):=by
 have:=d.ci;have:=d.c8;unfold L0;rw[cm U U,bs,cm U U];rfl
theorem l5(d:BV r.ca.bi):Kn r=Y (EF r,IE r):=by
 have:=d.ci;have:=d.c8;unfold Kn;rw[mE U U,bs,mE U U];rfl
def DG(t:AC)(g:bi)(i:Int):Bool:=IZ t (AA g.be i).em (AA g.az (AA g.be i).fb) (AA g.az (AA g.be i).To)
def SK(t:AC)(g:bi)(ci c8:Fp):Bool:=!(ci.any λi=>(AA t.az (AA g.az i)).p0)&&!(c8.any λi=>!DG t g i)
variable{t:AC}{g:bi}
theorem yw(hf:Ap t)(q:BV g)(u:CQ t g=X){ci c8:Fp}(w:∀x∈ci,0<=x/\x<g.az.length)(he:∀x∈c8,0<=x/\x<g.be.length):IQ t g ci c8=Y (SK t g ci c8):=by
 have h:=Cu q u;unfold IQ SK;rw[SY (p:=λi=>(AA t.az (AA g.az i)).p0) (λx f=>by
  have d:=w x f;have j:=h.1 _ (AG d.1 d.2);unfold Me;rw[AD d.1 d.2,bs,AD j.1 j.2];rfl),bs,SY (p:=λi=>!DG t g i) (λx f=>by
  have d:=he x f;have j:=q.fit _ (AG d.1 d.2);unfold H5;rw[AD d.1 d.2,bs,AD U U,bs,AD U U,bs,cd hf];rfl)]
 grind
theorem y8(hf:Ap t)(u:BV g)(w:CQ t g=X){ci c8:Fp}(y:∀x∈ci,0<=x/\x<g.az.length)(he:∀x∈c8,0<=x/\x<g.be.length):Lv t g ci c8=Y (SK t g ci c8):=by
 have j:=Cu u w;unfold Lv SK;rw[GV,GV,BN (λi=>(AA t.az (AA g.az (AA ci i))).p0) T]
 .rw[BN (λi=>!DG t g (AA c8 i)) T]
  .cases fu (λi=>(AA t.az (AA g.az (AA ci i))).p0) 0 ci.length
   .cases fu (λi=>!DG t g (AA c8 i)) 0 c8.length<;>rfl
   .rfl
  .intro i f h _;have d:=he _ (AG f h);have q:=u.fit _ (AG d.1 d.2);rw[AD f h,bs,AD d.1 d.2,bs,AD U U,bs,AD U U,bs,Ux hf,bs,Ib];rfl
 .intro i f h _;have d:=y _ (AG f h);have q:=j.1 _ (AG d.1 d.2);rw[AD f h,bs,AD d.1 d.2,bs,AD q.1 q.2,bs,Ib]
end Go.Sf.Sc
namespace Go.Sf.Sc
open Go Go.Sf
structure ar(p:cE):Prop where
 ci:p.bi.az.length<=45
 c8:p.bi.be.length<=90
 slots:p.d4.length<=15
 tests:p.fv.length<=15
structure iF(m:bk):Prop where
 ci:m.az.length<=140
 c8:m.be.length<=140
inductive Fv:bq->Prop where
 |mk (c:bq) (hq:ar c.cE) (hm:iF c.Map) (hk:∀k∈c.eo,Fv k):Fv c
variable{c:bq}
theorem Fv.q(h:Fv c):ar c.cE:=k_
theorem Fv.m(h:Fv c):iF c.Map:=k_
theorem Fv.k(h:Fv c):∀k∈c.eo,Fv k:=k_
theorem Jb{c k:bq}(h:k∈c.eo):SizeOf.sizeOf k<SizeOf.sizeOf c:=by
 have:=List.sizeOf_lt_of_mem h;cases c
 grind
theorem GQ(c:bq):0<SizeOf.sizeOf c:=by
 cases c
 grind
def Qg(c:bq):Bool:=decide (c.Map.az.length=0/\c.Map.be.length=0/\c.cE.bi.az.length=0/\c.cE.bi.be.length=0/\c.cE.d4.length=0/\c.cE.fv.length=0/\c.cE.eg=0)
theorem u7(hf:Fv c):FQ c=Y (Qg c):=by
 have d:=hf.q;have f:=hf.m;have:=d.ci;have:=d.c8;have:=d.slots;have:=d.tests;have:=f.ci;have:=f.c8;unfold FQ Qg;rw[Ao (n:=(c.Map.az.length:Int)+c.Map.be.length) U U,Ao (n:=(c.Map.az.length:Int)+c.Map.be.length+c.cE.bi.az.length) U U,
  Ao (n:=(c.Map.az.length:Int)+c.Map.be.length+c.cE.bi.az.length+c.cE.bi.be.length) U U,
  Ao (n:=(c.Map.az.length:Int)+c.Map.be.length+c.cE.bi.az.length+c.cE.bi.be.length+c.cE.d4.length) U U,
  Ao (n:=(c.Map.az.length:Int)+c.Map.be.length+c.cE.bi.az.length+c.cE.bi.be.length+c.cE.d4.length+c.cE.fv.length) U U]
 congr 1
 grind
theorem ot(hf:Fv c):IM c=Y (Qg c):=by
 have d:=hf.q;have f:=hf.m;have:=d.ci;have:=d.c8;have:=d.slots;have:=d.tests;have:=f.ci;have:=f.c8;unfold IM Qg;rw[Ao (n:=(c.Map.az.length:Int)+c.Map.be.length) U U,Ao (n:=(c.Map.az.length:Int)+c.Map.be.length+c.cE.bi.az.length) U U,
  Ao (n:=(c.Map.az.length:Int)+c.Map.be.length+c.cE.bi.az.length+c.cE.bi.be.length) U U,
  Ao (n:=(c.cE.d4.length:Int)+c.cE.fv.length) U U]
 congr 1
 grind
def Ro(c:bq):Bool:=
 if c.fq=1 then decide (c.eo.length=0)&&Qg c else if c.fq=2 then decide (c.eo.length=1)&&Qg c else
 if c.fq=3\/c.fq=4 then decide (1<=c.eo.length)&&Qg c else if c.fq=5 then decide (c.eo.length=1)else T
def SC:Nat->bq->Bool
 |0,_=>T|n+1,c=>Ro c&&c.eo.all (SC n)
theorem vT:∀(N:Nat)(c:bq),SizeOf.sizeOf c<=N->Fv c->∀n,2*N<=n->BY n c=Y (SC N c)
 |0,c,h,_,_,_=>by have:=GQ c;omega|N+1,c,h,hf,n,C=>by
  obtain ⟨n,rfl⟩:∃m,n=m+2:=⟨n-2,U⟩;rw[BY,SC,u7 hf];have f:B5 c.eo (Bk (n+1))=Y (!c.eo.all (SC N)):=by
   rw [bV (p:=λk=>!SC N k) (λk f=>by
    have:=Jb f;rw[Bk,vT N k U (hf.k k f) n U];rfl),H_,Bool.not_not]
  rw [f];unfold Ro;simp only[bs,pE];generalize Qg c=b;generalize c.eo.all (SC N)=w;have e0:decide ((c.eo.length:Int)=0)=decide (c.eo.length=0):=j!
  have A:decide ((c.eo.length:Int)=1)=decide (c.eo.length=1):=j!
  have B:decide (1<=(c.eo.length:Int))=decide (1<=c.eo.length):=j!
  simp only[show((c.eo.length:Int)=0)↔c.eo.length=0 by omega,show((c.eo.length:Int)=1)↔c.eo.length=1 by omega,show(1<=(c.eo.length:Int))↔1<=c.eo.length by omega];by_cases j:c.fq=1
  .rw[Ne j,Ne j];by_cases d:c.eo.length=0<;>cases b<;>cases w<;>simp[d]
  .rw[QQ j,QQ j];by_cases q:c.fq=2
   .rw[Ne q,Ne q];by_cases d:c.eo.length=1<;>cases b<;>cases w<;>simp[d]
   .rw[QQ q,QQ q];by_cases y:c.fq=3
    .simp[y,true_or];by_cases d:1<=c.eo.length<;>cases b<;>cases w<;>simp[d]
    .by_cases z:c.fq=4
     .simp[z,or_true,show¬(4:Int)=3 by decide];by_cases d:1<=c.eo.length<;>cases b<;>cases w<;>simp[d]
     .simp only[y,z,if_false,or_false];by_cases u:c.fq=5
      .rw[Ne u,Ne u];by_cases d:c.eo.length=1<;>cases w<;>simp[d]
      .rw[QQ u,QQ u];cases w<;>rfl
theorem vh(hf:Fv c):M7 c=Y (Ro c):=by
 unfold M7 Ro;rw[ot hf];simp[pE];generalize Qg c=b;simp[show((c.eo.length:Int)=0)↔c.eo.length=0 by omega,show((c.eo.length:Int)=1)↔c.eo.length=1 by omega,show(0<(c.eo.length:Int))↔1<=c.eo.length by omega]
 grind
theorem uO{α:Type}[Inhabited α]{l:List α}{p:α->Bool}:l.all p=!fu (λi=>!p (AA l i)) 0 l.length:=by
 rw [H_,GV]
theorem qk:∀(N:Nat)(c:bq),SizeOf.sizeOf c<=N->Fv c->∀n,N<=n->Ez n c=Y (SC N c)
 |0,c,h,_,_,_=>by have:=GQ c;omega|N+1,c,h,hf,n,q=>by
  obtain ⟨n,rfl⟩:∃m,n=m+1:=⟨n-1,U⟩;rw[Ez,SC,vh hf,bs,uO,BN (λi=>!SC N (AA c.eo i)) T]
  .cases Ro c
   .rfl
   .cases fu (λi=>!SC N (AA c.eo i)) 0 c.eo.length<;>rfl
  .intro i d f _;have j:=AG (l:=c.eo) d f;have:=Jb j;rw[AD d f,bs,qk N _ U (hf.k _ j) n U,bs,Ib]
noncomputable def dt(c:bq):Bool:=SC (SizeOf.sizeOf c) c
theorem yz(hf:Fv c):Hg c=Y (dt c):=GZ (2*SizeOf.sizeOf c) λn d=>vT _ c (R0 _) hf n d
theorem zB(hf:Fv c):PS c=Y (dt c):=GZ (SizeOf.sizeOf c) λn d=>qk _ c (R0 _) hf n d
def OS:Nat->bq->Int×Int
 |0,_=>(0,0)|n+1,c=>
  let s:=c.eo.foldl (λs k=>(AW (s.1+(OS n k).1),max s.2 (OS n k).2)) ((1,0):Int×Int)
  (s.1,if c.fq=5 then AW (s.2+1)else s.2)
theorem Zm{α σ:Type}[Inhabited α]{l:List α}{g:σ->α->σ}{s:σ}{f:Int->σ->Option σ}(h:∀(i:Int)s,0<=i->i<l.length->f i s=Y (g s (AA l i))):gp f 0 l.length s=Y (l.foldl g s):=by
 rw [BZ (λi=>(l.take i.toNat).foldl g s) U V]
 .rw[y_,E']
 grind [CP]
theorem lc:∀(N:Nat)(c:bq),SizeOf.sizeOf c<=N->∀n,N<=n->Ch n c=Y (OS N c)
 |0,c,h,_,_=>by have:=GQ c;omega|N+1,c,h,n,j=>by
  obtain ⟨n,rfl⟩:∃m,n=m+1:=⟨n-1,U⟩;rw[Ch,OS,Zm (g:=λs k=>(AW (s.1+(OS N k).1),max s.2 (OS N k).2))]
  .grind
  .intro i s d f;have:=Jb (AG (l:=c.eo) d f);rw[AD d f,bs,lc N _ U n U];rfl
theorem mB:∀(N:Nat)(c:bq),SizeOf.sizeOf c<=N->∀n,N<=n->FY n c=Y (OS N c)
 |0,c,h,_,_=>by have:=GQ c;omega|N+1,c,h,n,j=>by
  obtain ⟨n,rfl⟩:∃m,n=m+1:=⟨n-1,U⟩;rw[FY,OS,Zm (g:=λs k=>(AW (s.1+(OS N k).1),max s.2 (OS N k).2))]
  .grind
  .intro i s d f;have:=Jb (AG (l:=c.eo) d f);rw[AD d f,bs,mB N _ U n U];rfl
noncomputable def aW(c:bq):Int×Int:=OS (SizeOf.sizeOf c) c
noncomputable def Oo(c:bq):Int:=if dt c=T then 1 else if 12<(aW c).1\/3<(aW c).2 then 3 else 0
theorem sM(hf:Fv c):F4 c=Y (Oo c):=by
 unfold F4 Oo;rw[yz hf,bs,show Jg c=Y (aW c)from GZ (SizeOf.sizeOf c) λn d=>lc _ c (R0 _) n d,bs]
 grind
theorem su(hf:Fv c):M4 c=Y (Oo c):=by
 unfold M4 Oo;rw[zB hf,bs,show QX c=Y (aW c)from GZ (SizeOf.sizeOf c) λn d=>mB _ c (R0 _) n d,bs]
 grind
theorem Xo(g:bi):Bz g≠9:=by grind[Bz]
variable{t:AC}{p:cE}
theorem cv(d:(Az t).2=0)(h:Hk t p=0\/Hk t p=9):0<=p.eg/\p.eg<=12:=by grind[Xo,Hk]
def Uc(t:AC)(q:cE)(v:Int):Int:=if Hk t q≠9 then Hk t q else if fu (λi=>!Lk q i) v q.eg=X then 9 else 0
variable{P:Prop}
theorem zj{α:Type}[Decidable P]{v:α}{ζ:Option α}{δ:α}(h:P->ζ=Y δ):(if(!decide P)=X then Y v else ζ)=Y (if¬P then v else δ):=o2
theorem yv(hf:Ap t)(f:(Az t).2=0){q:cE}{v:Int}(w:0<=v)(h:v<=q.eg):Ek t q v=Y (Uc t q v):=by
 unfold Ek Uc;rw[YC hf,bs];refine zj λd=>?_;have hv:=cv f (.inr d);rw[Q5 (c:=λi=>(if(!Lk q i)=X then Y ()else W).map λ_=>.inr 9) (a:=v) (b:=q.eg) h]
 .rw[Qv,Nq];cases fu (λi=>!Lk q i) v q.eg<;>rfl
 .intro i z u _;rw[Ne e_,show(λj=>IX j i)=(λy=>Y (decide (y.ew.Var=i)))from rfl,fJ,bs,show(q.d4.any λy=>decide (y.ew.Var=i))=Lk q i from rfl,d,Ao U U];cases Lk q i<;>rfl
 .rw[QQ V]
theorem sg(p:cE)(v:Int):Oh p v=Y (Lk p v):=qn p v
theorem y7(hf:Ap t)(q:cE)(v:Int):M6 t v q=Y (if q.eg<v then 20 else Uc t q v):=by
 unfold M6 Uc;refine Pz V λ_=>?_;rw[al hf,bs];refine zj λd=>?_;rw[d,BN (λi=>!Lk q i) 9]
 .cases fu (λi=>!Lk q i) v q.eg<;>rfl
 .intro i f h _;rw[sg,bs,Ib]
def LN:Nat->AC->cE->bq->Int
 |0,_,_,_=>0|N+1,t,p,c=>
  if c.fq=5 then
   if c.cE.eg<p.eg then 20 else if Uc t c.cE p.eg≠0 then Uc t c.cE p.eg else
   if HN p.bi c.cE.bi c.Map≠0 then HN p.bi c.cE.bi c.Map else if G2 c.Map=T then 1 else
   (fst (λi=>nz (LN N t c.cE (AA c.eo i))) 0 c.eo.length).getD 0
  else (fst (λi=>nz (LN N t p (AA c.eo i))) 0 c.eo.length).getD 0
theorem lg(hf:Ap t)(u:(Az t).2=0):∀(N:Nat)(c:bq)(p:cE),0<=p.eg->SizeOf.sizeOf c<=N->∀n,N<=n->CI n t p c=Y (LN N t p c)
 |0,c,p,_,h,_,_=>by have:=GQ c;omega|N+1,c,p,E,h,n,F=>by
  obtain ⟨n,rfl⟩:∃m,n=m+1:=⟨n-1,U⟩;rw[CI,LN];have j:∀q:cE,0<=q.eg->(d6 (eE (ρ:=Int) (λ(A:Int)(_:Unit)=>
    (idx c.eo A).bind λf=>
    (CI n t q f).bind λd=>
    if (!decide (d=0))=X then
    Y (.ret d)
    else
    Y (.next ())) 0 (c.eo.length:Int) ()) (λ_=>
    Y 0) (λB=>Y B))=Y ((fst (λi=>nz (LN N t q (AA c.eo i))) 0 c.eo.length).getD 0):=by
   intro q D;rw[BU (λi=>nz (LN N t q (AA c.eo i))),Cf];intro i w y _;have:=Jb (AG (l:=c.eo) w y);rw[AD w y,bs,lg hf u N _ q D U n U,bs,Lj]
  by_cases z:c.fq=5
  .rw[Ne n_,Ne z];refine Pz V λhv=>?_;rw[yv hf u E U,bs];refine Dp λhi=>?_;rw[Vs,bs];refine Dp λC=>?_;rw[jM C,bs]
   grind
  grind
theorem mC(hf:Ap t):∀(N:Nat)(c:bq)(p:cE),SizeOf.sizeOf c<=N->∀n,N<=n->Fr n t p c=Y (LN N t p c)
 |0,c,p,h,_,_=>by have:=GQ c;omega|N+1,c,p,h,n,C=>by
  obtain ⟨n,rfl⟩:∃m,n=m+1:=⟨n-1,U⟩;rw[Fr,LN];have d:∀q:cE,(d6 (eE (ρ:=Int) (λ(z:Int)(_:Unit)=>
    (idx c.eo z).bind λu=>
    (Fr n t q u).bind λf=>
    if (!decide (f=0))=X then
    Y (.ret f)
    else
    Y (.next ())) 0 (c.eo.length:Int) ()) (λ_=>
    Y 0) (λA=>Y A))=Y ((fst (λi=>nz (LN N t q (AA c.eo i))) 0 c.eo.length).getD 0):=by
   intro q;rw[BU (λi=>nz (LN N t q (AA c.eo i))),Cf];intro i w y _;have:=Jb (AG (l:=c.eo) w y);rw[AD w y,bs,mC hf N _ q U n U,bs,Lj]
  by_cases j:c.fq=5
  .rw[Ne h_,Ne j,y7 hf,bs];by_cases hv:c.cE.eg<p.eg
   .simp[hv]
   .simp only[QQ hv];refine Dp λhi=>?_;rw[ak,bs];refine Dp λB=>?_;rw[y6 B,bs];exact UP λ_=>d _
  .rw[QQ h_,QQ j];exact d p
noncomputable def NM(t:AC)(p:cE)(c:bq):Int:=if Hk t p≠0 then Hk t p else if Oo c≠0 then Oo c else LN (SizeOf.sizeOf c) t p c
theorem lQ(hf:Ap t)(d:(Az t).2=0)(p:cE)(f:Fv c):Dc t p c=Y (NM t p c):=by
 unfold Dc NM;rw[YC hf,bs];refine Dp λh=>?_;rw[sM f,bs,x!];exact Dp λ_=>GZ (SizeOf.sizeOf c) λn j=>lg hf d _ c p (cv d (.inl h)).1 (R0 _) n j
theorem vb(hf:Ap t)(p:cE)(d:Fv c):M5 t p c=Y (NM t p c):=by
 unfold M5 NM;rw[al hf,bs];refine Dp λh=>?_;rw[su d,bs,x!];exact Dp λ_=>GZ (SizeOf.sizeOf c) λn f=>mC hf _ c p (R0 _) n f
end Go.Sf.Sc
namespace Go.Sf.Sc
open Go Go.Sf
structure Df(r:d3):Prop where
 name:(r.f0.size:Int)<=60
 left:ar r.d7
 right:ar r.ca
 ei:SD r.kg
 into:iF r.ec
 cond:Fv r.bq
noncomputable def E0(t:AC)(r:d3):Int:=
 if (Az t).2≠0 then(Az t).2 else if FV r.f0=T then 2 else if Hk t r.d7≠0 then Hk t r.d7 else
 if Ko t r≠0 then Ko t r else if Ru r≠0 then Ru r else if SK t r.ca.bi (EF r) (IE r)=T then 13 else NM t r.d7 r.bq
variable{t:AC}{r:d3}
theorem W6(h:Ko t r=0):BV r.ca.bi/\CQ t r.ca.bi=X:=by grind[Ko,Dm]
theorem lh(hf:Ap t)(d:Df r):JF t r=Y (E0 t r):=by
 have u:=d.name;unfold JF E0;rw[PO hf,bs];refine Dp λj=>?_;rw[RL U,bs];refine UP λ_=>?_;rw[YC hf,bs];refine Dp λ_=>?_;rw[sL hf,bs];refine Dp λf=>?_;have ho:=W6 f;rw[vH d.ei,bs];refine Dp λq=>?_;rw[lR ho.1,bs];dsimp only;rw[yw (ci:=EF r) (c8:=IE r) hf ho.1 ho.2 (λx h=>CL h) (λx h=>CL h),bs];refine UP λ_=>?_;rw[lQ hf j _ d.cond,bs]
theorem dI(hf:Ap t)(d:Df r):K3 t r=Y (E0 t r):=by
 have w:=d.name;unfold K3 E0;rw[Q1 hf,bs];refine Dp λu=>?_;rw[RN U,bs];refine UP λ_=>?_;rw[al hf,bs];refine Dp λ_=>?_;rw[si hf,bs];refine Dp λf=>?_;have ho:=W6 f;rw[vq d.ei,bs,aj,bs];simp only[aj,bs];have e:(if(!Ju r.ec.az)=X then Y X else Y (!Ju r.ec.be))=Y (!G2 r.ec):=by
  grind [G2,Ju]
 rw [e,bs];have q:Ru r=if Vy r≠0 then Vy r else if G2 r.ec=T then 11 else 0:=by
  grind [Ru,Vy,EC]
 rw [q];by_cases j:Vy r=0
 .simp only[j,ne_eq,not_true_eq_false,if_false,decide_true,C_,A'];cases hi:G2 r.ec
  .simp
  .simp only[C_,A',if_false,not_true_eq_false,C?];rw[l5 ho.1,bs];dsimp only;rw[y8 (ci:=EF r) (c8:=IE r) hf ho.1 ho.2 (λx h=>CL h) (λx h=>CL h),bs];refine UP λ_=>?_;rw[vb hf _ d.cond,bs]
 .simp[j]
def LR(n:Int):Bool:=(decide (1<=n))&&(decide (n<=3))
def NE(t:AC)(s:An)(i:Int):K1:=
 if LR (AA s.az i)=T then Y 6 else if 0<=par t i/\AA s.az (par t i)≠AA s.az i then Y 13 else W
def RT(t:AC)(s:An)(i:Int):Int:=
 if LR (AA s.be i)=T then 6 else
 if ((!decide (AA s.az (AA t.be i).fb=AA s.be i))||((decide (AA s.az (AA t.be i).To=AA s.be i))==(decide (AA s.be i=2))))=X then 13 else 0
def Ga(t:AC)(s:An):Int:=
 if (Az t).2≠0 then(Az t).2 else if s.az.length≠t.az.length\/s.be.length≠t.be.length then 20 else
 match fst (NE t s) 0 t.az.length with
 |some e=>e|none=>(fst (λi=>nz (RT t s i)) 0 t.be.length).getD 0
structure YY(t:AC)(s:An):Prop where
 types:ET t
 t2:s.az.length=t.az.length
 x4:s.be.length=t.be.length
theorem PW{s:An}(h:Ga t s=0):(Az t).2=0/\YY t s:=by
 unfold Ga at h;split at h
 .omega
 .split at h
  .cases h
  .exact⟨U,Cg U,U,U⟩
variable{o:I1}
theorem fC{x:Prop}[Decidable x]{b:Bool}(h:x->o=Y b):(if decide x=X then o else Y T)=Y (decide x&&b):=o2
theorem gC(hf:Ap t)(s:An):IU t s=Y (Ga t s):=by
 unfold IU Ga;rw[PO hf,bs];refine Dp λj=>Pz j? λq=>?_;have ho:=Cg j;rw[show(s.az.length:Int)=t.az.length by omega,show(s.be.length:Int)=t.be.length by omega,BU (NE t s),Dz]
 .cases fst (NE t s) 0 t.az.length with
  |some e=>rfl|none=>
   dsimp only;rw[BU (λi=>nz (RT t s i)),Cf];intro i d f _;have he:=ho.ends d f;have e:NF t s i=Y (RT t s i):=by
    unfold NF RT;rw[AD d U,bs,show N6 (AA s.be i)=Y (LR (AA s.be i))from rfl,bs];refine UP λ_=>?_;rw[AD d f,bs,AD U U,bs,bs,AD U U,bs];exact ZB λ_=>rfl
   rw [e,bs,Lj]
 .intro i d f _;have u:=ho.par i d f;unfold NE;rw[AD d U,bs,show N6 (AA s.az i)=Y (LR (AA s.az i))from rfl,bs,AD d f,bs];cases LR (AA s.az i)
  .rfl
  .simp only[C_,A',if_false,C?];rw[show(AA t.az i).gT=par t i from rfl,fC (b:=!decide (AA s.az (par t i)=AA s.az i)) (λh=>by rw[AD h U];rfl),bs];by_cases h:0<=par t i/\AA s.az (par t i)≠AA s.az i
   .rw[Ne c_,Ne h];rfl
   .rw[QQ c_,QQ h];rfl
theorem gP(hf:Ap t)(s:An):K4 t s=Y (Ga t s):=by
 unfold K4 Ga;rw[Q1 hf,bs];refine Dp λw=>Pz j? λA=>?_;have ho:=Cg w;rw[BU (NE t s),Dz]
 .cases fst (NE t s) 0 t.az.length with
  |some e=>rfl|none=>
   dsimp only;rw[BU (λi=>nz (RT t s i)),Cf];intro i d f _;have he:=ho.ends d f;unfold RT;rw[AD (l:=s.be) d U];simp only[bs,show Mc (AA s.be i)=Y (LR (AA s.be i))from rfl];cases LR (AA s.be i)
   .rfl
   .rw[QQ a_,QQ a_,AD d f];simp only[bs];rw[AD (l:=s.az) (i:=(AA t.be i).fb) U U,bs,AD (l:=s.az) (i:=(AA t.be i).To) U U,bs];generalize AA s.az (AA t.be i).fb=x;generalize AA s.az (AA t.be i).To=y;generalize AA s.be i=z;by_cases j:x=z
    .by_cases u:z=2
     .by_cases q:y=z
      .simp[j,u,q,nz,NY]
      .have:¬y=2:=λh=>q U;simp[j,u,this,nz,NY]
     .by_cases q:y=z
      .simp[j,u,q,nz,NY]
      .simp[j,u,q,nz,NY]
    .simp[j,nz,NY]
 .intro i d f _;have B:=ho.par i d f;unfold NE;rw[AD (l:=s.az) d U,bs,show Mc (AA s.az i)=Y (LR (AA s.az i))from rfl,bs,AD d f,bs];cases LR (AA s.az i)
  .rfl
  .simp only[C_,A',if_false,C?];rw[show(AA t.az i).gT=par t i from rfl,fC (b:=!decide (AA s.az (par t i)=AA s.az i)) (λh=>by rw[AD h U,bs,bs]),bs];by_cases h:0<=par t i/\AA s.az (par t i)≠AA s.az i
   .rw[Ne c_,Ne h];rfl
   .rw[QQ c_,QQ h];rfl
variable{l:Fp}
theorem Rx(z:l.length<=1000):∃m,H8 l=Y m:=by
 unfold H8 slices_Clone_int;rw[BM a?,bs];obtain⟨m,y,B⟩:=PB (f:=(λ(d:Int)(h:Fp)=>
 (idx h d).bind λj=>
 (idx h d).bind λq=>
 Y (BB h d (AW (4-j))))) (λ_ s=>s.length=l.length) (a:=0) (b:=l.length) (s:=l) U rfl (λi s u A w=>by
  refine ⟨_,by rw[AD u U,bs,bs],?_⟩;simp[BB,w])
 rw [y];exact⟨m,rfl⟩
theorem oV(hf:Ap t)(s:An):FO t s=Y (Ga t s):=by
 unfold FO Gv;rw[gC hf,bs];by_cases h:Ga t s=0
 .have ho:=(PW h).2;have:=ho.t2;have:=ho.x4;have:=ho.types.ci;have:=ho.types.c8;obtain⟨m,d⟩:=Rx (l:=s.az) U;obtain⟨k,f⟩:=Rx (l:=s.be) U;rw[QQ c_,d,bs,f,h];rfl
 .rw[Ne c_];rfl
def Pd(r:d3):Bool:=decide (r.d7.d4.length=0/\r.d7.fv.length=0/\r.ca.d4.length=0/\r.d7.eg=0)&&r.fd&&decide (r.bq.fq=1)&&decide (r.kg.az.length=r.d7.bi.az.length/\r.kg.be.length=r.d7.bi.be.length)
def x5(t:AC)(l:Fp):Bool:=!(l.any λk=>t.az.any λn=>decide (n.gT=k))
def Xg(t:AC)(g:bi):Bool:=!fu (λi=>!DG t g i) 0 g.be.length
noncomputable def B8(t:AC)(s:An)(r:d3):Int:=
 if Ga t s≠0 then Ga t s else if E0 t r≠0 then E0 t r else if Pd r=T then 8 else
 if (x5 t r.d7.bi.az&&x5 t r.ca.bi.az&&Xg t r.d7.bi)=X then 0 else 13
structure SS(t:AC)(r:d3):Prop where
 left:BV r.d7.bi
 ltyped:CQ t r.d7.bi=X
 right:BV r.ca.bi
 Aal:CQ t r.ca.bi=X
 rtests:r.ca.fv.length=0
 part:a8 r.d7.bi r.kg
 mor:aS (MR r.d7.bi r.kg) r.ca.bi r.ec
 inj:r.ec.az.Nodup/\r.ec.be.Nodup
variable{p:cE}
theorem vU(h:Hk t p=0):BV p.bi/\CQ t p.bi=X:=by grind[Hk,Dm]
theorem Q2(h:E0 t r=0):(Az t).2=0/\SS t r:=by
 unfold E0 at h;split at h
 .omega
 split at h
 .cases h
 split at h
 .omega
 split at h
 .omega
 split at h
 .omega
 rename_i q u w y z;have d:=vU (t:=t) (p:=r.d7) U;have f:=W6 (t:=t) (r:=r) U;have j:=rr (r:=r) U;have hi:Ju r.ec.az=X/\Ju r.ec.be=X:=by
  grind [G2]
 refine ⟨U,d.1,d.2,f.1,f.2,?_,?_,TQ j.2.1,IG.1 hi.1,IG.1 hi.2⟩
 .grind[Ko]
 grind [EC,Us]
theorem fD{n:Nat}(h:∀x∈l,0<=x/\x<n)(f:l.Pairwise (·<·)):l.length<=n:=by
 have key:∀i:Int,0<=i->i<l.length->i<=AA l i:=by
  intro i d j;obtain⟨k,rfl⟩:=Int.eq_ofNat_of_zero_le d;clear d
  induction k with
  |zero=>exact(h _ (AG U U)).1|succ k q=>
   grind [Kw]
 by_cases d:l.length=0
 .omega
 .have a:=key ((l.length:Int)-1) U U
  grind [AG]
theorem oR{a b:Fp}(w:a.length<=1000)(y:b.length<=1000):Hc [a,b]=Y (a++b):=by
 have q:AW (0+(a.length:Int))=a.length:=d?
 have u:AW ((a.length:Int)+(b.length:Int))=a.length+b.length:=Ao U U;have d:idx [a,b] 0=Y a:=rfl;have f:idx [a,b] 1=Y b:=rfl;unfold Hc;rw[show(([a,b]:List Fp).length:Int)=2 from rfl];rw[BZ (a:=0) (b:=2) (s:=(0:Int)) (λi=>if i=0 then 0 else if i=1 then(a.length:Int)else a.length+b.length) a_ rfl]
 .rw[bs,QQ a_,QQ a_];unfold JH;rw[Ne ⟨rfl,U,a?⟩,bs];rw[BZ (a:=0) (b:=2) (s:=([]:Fp)) (λi=>if i=0 then[]else if i=1 then a else a++b) a_ rfl]
  .rfl
  .intro i h j;have:i=0\/i=1:=U
   rcases this with rfl|rfl
   .rw[d,bs,Ne rfl,QQ a_,Ne a_,BM a?];rfl
   .rw[f,bs,QQ a_,Ne rfl,QQ a_,QQ a_,AV a?];rfl
 .intro i h j;have:i=0\/i=1:=U
  rcases this with rfl|rfl
  .rw[d,bs,Ne rfl,q,QQ V];rfl
  .rw[f,bs];show(if decide (AW ((a.length:Int)+b.length)<0)=X then W else Y (AW ((a.length:Int)+b.length)))=Y ((a.length:Int)+b.length);rw[u,QQ an]
theorem vR(hf:Ap t){s:An}(d:Df r):FN t s r=Y (B8 t s r):=by
 unfold FN B8;rw[oV hf,bs];refine Dp λw=>?_;rw[lh hf d,bs];refine Dp λf=>?_;have ho:=(Q2 f).2;have u:=(Q2 f).1;have l1:=d.left.slots;have l2:=d.left.tests;have z:=d.right.slots;have A:=d.right.tests;have B:=fD ho.part.ci.1 ho.part.ci.2;have C:=fD ho.part.c8.1 ho.part.c8.2;have D:=ho.rtests;rw[Ao (n:=(r.d7.d4.length:Int)+r.d7.fv.length) U U,Ao (n:=(r.d7.d4.length:Int)+r.d7.fv.length+r.ca.d4.length) U U,Ao (n:=(r.d7.d4.length:Int)+r.d7.fv.length+r.ca.d4.length+r.ca.fv.length) U U];refine Pz ?_ λy=>?_
 .unfold Pd;cases r.fd
  .simp
  .simp only[C_,D_,Bool.and_true,A!,gN,A?,pE,decide_eq_false_iff_not,B!];omega
 rw [oR (by have:=ho.left.ci;omega) (by have:=ho.right.ci;omega),bs,BN (λi=>t.az.any λn=>decide (n.gT=AA (r.d7.bi.az++r.ca.bi.az) i)) 13]
 .rw[<-GV (l:=r.d7.bi.az++r.ca.bi.az) (p:=λk=>t.az.any λn=>decide (n.gT=k)),List.any_append,BN (λi=>!DG t r.d7.bi i) 13]
  .unfold x5 Xg;cases(r.d7.bi.az.any λk=>t.az.any λn=>decide (n.gT=k))<;>cases(r.ca.bi.az.any λk=>t.az.any λn=>decide (n.gT=k))<;>cases fu (λi=>!DG t r.d7.bi i) 0 r.d7.bi.be.length<;>rfl
  .intro i h j _;have E:=ho.left.fit _ (AG h j);rw[AD h j,bs,AD U U,bs,AD U U,bs,cd hf,bs,Ib];rfl
 .intro i h j _;rw[AD h j,bs,show(λq=>JJ q (AA (r.d7.bi.az++r.ca.bi.az) i))=(λn=>Y (decide (n.gT=AA (r.d7.bi.az++r.ca.bi.az) i)))from rfl,V8,bs,Ib]
theorem dE(t:AC)(g:bi):J5 t g=Y (x5 t g.az):=by
 unfold J5 x5;rw[GV,BN (λi=>t.az.any λn=>decide (n.gT=AA g.az i)) T]
 .cases fu (λi=>t.az.any λn=>decide (n.gT=AA g.az i)) 0 g.az.length<;>rfl
 .intro i d f _;rw[GV,BN (λj=>decide ((AA t.az j).gT=AA g.az i)) T]
  .cases fu (λj=>decide ((AA t.az j).gT=AA g.az i)) 0 t.az.length<;>rfl
  .intro j h q _;rw[AD h q,bs,AD d f,bs,Ib]
variable{g:bi}
theorem sa(hf:Ap t)(h:BV g):Ok t g=Y (Xg t g):=by
 unfold Ok Xg;rw[BN (λi=>!DG t g i) T]
 .cases fu (λi=>!DG t g i) 0 g.be.length<;>rfl
 .intro i d f _;have j:=h.fit _ (AG d f);rw[AD d f,bs,AD U U,bs,AD U U,bs,Ux hf,bs,Ib];rfl
theorem vt(hf:Ap t){s:An}(d:Df r):NA t s r=Y (B8 t s r):=by
 unfold NA B8;rw[gP hf,bs];refine Dp λh=>?_;rw[dI hf d,bs];refine Dp λf=>?_;have ho:=(Q2 f).2;have l1:=d.left.slots;have l2:=d.left.tests;have j:=d.right.slots;have e:J4 r=Y (Pd r):=by
  unfold J4 Pd;rw[Ao (n:=(r.d7.d4.length:Int)+r.ca.d4.length) U U,Ao (n:=(r.d7.d4.length:Int)+r.ca.d4.length+r.d7.fv.length) U U];congr 1;cases r.fd
  .simp
  .rw[z?];simp only[gN,pE,and_true];omega
 rw [e,bs];refine UP λ_=>?_;rw[dE,bs,dE,sa hf ho.left];simp only[bs];cases x5 t r.d7.bi.az<;>cases x5 t r.ca.bi.az<;>cases Xg t r.d7.bi<;>rfl
end Go.Sf.Sc
namespace Go.Sf
variable{a b:Int}
theorem V0{ρ:Type}{f:Int->Option (B2 Int ρ)}(p:Int->Bool)(v:ρ)(d:a<=b)(h:∀i,a<=i->i<b->f i=Y (if p i=X then .ret v else .next (i+1)))(j:f b=Y (.brk b)):FK f a=Y (if fu p a b=X then .inr v else .inl b):=by
 rw [Q5 (c:=λi=>(if p i=X then Y ()else W).map λ_=>.inr v) d]
 .grind[Qv,Nq,fu]
 .intro i q u _;rw[h i q u];cases p i<;>rfl
 .exact j
theorem Ns{α:Type}{e:α->TV}{n:Nat}{l:List α}(h:TV.Sm (.list n (l.map e))):(l.length:Int)<=140737488351232/\∀x∈l,(e x).Sm:=by
 simp [TV.Sm]at h;refine⟨by have:=h.1;unfold reachBytes at this;omega,λx d=>K8.1 h.2 _ (F!.2 ⟨x,d,rfl⟩)⟩
end Go.Sf
namespace Go.Sf.Sc
open Go Go.Sf
def bR(a:ff):Bool:=(decide (40<(a.f0.size:Int))||decide (25<(a.kx.length:Int)))||fu (λi=>decide (40<((AA a.kx i).size:Int))) 0 a.kx.length
theorem nN{a:ff}(h:bR a=T):WT a:=by
 unfold bR at h;simp[decide_eq_false_iff_not,Bg]at h;refine⟨U,U,λx d=>?_⟩
 grind [BC]
variable{t:AC}
theorem kR(κ:(AN t).Sm):∃b,QE t=Y b/\(b=X->Ap t):=by
 have M:TV.Sms [_,_]:=κ;obtain⟨y,Q⟩:=Ns (e:=Dy) M.1;unfold QE;by_cases hl:20<t.az.length\/30<t.be.length
 .rw[Ne an]
  grind
 rw [QQ an];rcases Wf (f:=(λ(C:Int)(θ:Int)=>
 (idx t.az C).bind λA=>
 (if(decide (30<(AW (θ+(A.gR.length:Int)))))=X then Y X else((idx t.az C).bind λG=>
 Y (decide (40<(G.f0.size:Int))))).bind λH=>
 if H=X then
 Y (B2.ret T)
 else
 d6 (FK (ρ:=Bool) (λ(s2:Int)=>
 (idx t.az C).bind λI=>
 if (decide (s2<(I.gR.length:Int)))=X then
 (idx t.az C).bind λJ=>
 (idx J.gR s2).bind λu=>
 if ((decide (40<(u.f0.size:Int)))||(decide (25<(u.kx.length:Int))))=X then
 Y (.ret T)
 else
 d6 (FK (ρ:=Bool) (λ(z:Int)=>
 if (decide (z<(u.kx.length:Int)))=X then
 (idx u.kx z).bind λK=>
 if (decide (40<(K.size:Int)))=X then
 Y (.ret T)
 else
 Y (.next (AW (z+1)))
 else
 Y (.brk z)) 0) (λz=>
 Y (.next (AW (s2+1)))) (λη=>Y (.ret η))
 else
 Y (.brk s2)) 0) (λs2=>
 Y (.next (AW (θ+(A.gR.length:Int))))) (λZ=>Y (.ret Z))))
  (λi s=>0<=s/\s<=30/\∀j,0<=j->j<i->((AA t.az j).f0.size:Int)<=40/\(AA t.az j).gR.length<=30/\∀a∈(AA t.az j).gR,WT a) (λ_=>False) (λr=>r=T) (a:=0) (b:=t.az.length) (s:=0) U ⟨U,U,λj B d=>U⟩ (λi s D E hI=>by
   have hx:=Q _ (AG (l:=t.az) D E);have N:TV.Sms [_,_,_,_]:=hx;obtain⟨ha,S⟩:=Ns (e:=Iy) N.2.2.2.1;obtain⟨hI1,hI2,hI3⟩:=hI;have hw:AW (s+(AA t.az i).gR.length)=s+(AA t.az i).gR.length:=Ao U U;simp only[AD D E,bs,hw,Up];by_cases hc:30<s+(AA t.az i).gR.length\/40<((AA t.az i).f0.size:Int)
   .grind
   rw [QQ (by simpa using hc)];rw[V0 (λj=>bR (AA (AA t.az i).gR j)) T (b:=(AA t.az i).gR.length) U]
   .cases ε:fu (λj=>bR (AA (AA t.az i).gR j)) 0 (AA t.az i).gR.length
    .refine .inl ⟨_,rfl,U,U,λj L F=>?_⟩
     grind [BC,nN,Bg]
    .exact .inr (.inr ⟨_,rfl,rfl⟩)
   .intro j L F;rw[Ne (by simpa using F),AD L F,bs];have hy:=S _ (AG (l:=(AA t.az i).gR) L F);have O:TV.Sms [_,_,_,_]:=hy;obtain⟨hm,_⟩:=Ns (e:=eS) O.2.2.2.1;unfold bR;cases B:(decide (40<((AA (AA t.az i).gR j).f0.size:Int))||decide (25<((AA (AA t.az i).gR j).kx.length:Int)))
    .rw[QQ a_,V0 (λk=>decide (40<((AA (AA (AA t.az i).gR j).kx k).size:Int))) T (b:=(AA (AA t.az i).gR j).kx.length) U]
     .cases fu (λk=>decide (40<((AA (AA (AA t.az i).gR j).kx k).size:Int))) 0 (AA (AA t.az i).gR j).kx.length
      .rw[D_,Ao (show -9223372036854775808<=j+1 by omega) U];rfl
      .rfl
     .intro k w q;rw[Ne l!,AD w q,bs,Ao (show -9223372036854775808<=k+1 by omega) U,Ib]
     .rw[QQ V]
    .rfl
   .rw[QQ V])with⟨s',B,d⟩|⟨r,B,d⟩
 .rw[B];rcases d with d|d
  .rw[B0,BN (λi=>decide (40<((AA t.be i).f0.size:Int))) T]
   .cases ε:fu (λi=>decide (40<((AA t.be i).f0.size:Int))) 0 t.be.length
    .refine⟨X,rfl,λ_=>⟨U,U,λn y=>?_,λn y=>?_,λn y=>?_,λe he=>?_⟩⟩
     .obtain⟨k,w,q,rfl⟩:=BC y;exact(d.2.2 k w q).1
     .obtain⟨k,w,q,rfl⟩:=BC y;exact(d.2.2 k w q).2.1
     .obtain⟨k,w,q,rfl⟩:=BC y;exact(d.2.2 k w q).2.2
     .obtain⟨k,w,q,rfl⟩:=BC he;have:=Bg.1 ε k w q;simpa using this
    .exact⟨T,rfl,λh=>c?⟩
   .intro i D E _;rw[AD D E,bs,Ib]
  .exact d.elim
 .rw[B];subst d;exact⟨T,rfl,λh=>c?⟩
theorem Yk(p:cE):∃b,Nz p=Y b/\(b=X->ar p):=by
 refine ⟨_,rfl,λh=>?_⟩;simp[pE]at h;exact⟨U,U,U,U⟩
variable{a b:Int}
theorem fV(h:0<=a)(d:a<=140737488351232)(j:0<=b)(f:b<=140737488351232):AW (a+b)=a+b:=Ao U U
variable{m:bk}
theorem fT(f:(A2 m).Sm):∃b,QG m 140=Y b/\(b=X->iF m):=by
 have d:TV.Sms [_,_]:=f;have j:=(Ns (e:=eI) d.1).1;have q:=(Ns (e:=eI) d.2.1).1;refine⟨_,rfl,λh=>?_⟩;rw[fV U j U q]at h;simp[pE]at h;exact⟨U,U⟩
theorem nf{m:Bo}(f:(IY m).Sm):∃b,R2 m 140=Y b/\(b=X->SD m):=by
 have d:TV.Sms [_,_]:=f;have j:=(Ns (e:=eI) d.1).1;have q:=(Ns (e:=eI) d.2.1).1;refine⟨_,rfl,λh=>?_⟩;rw[fV U j U q]at h;simp[pE]at h;exact⟨U,U⟩
variable{c:bq}
theorem ra(h:(AQ c).Sm):(A2 c.Map).Sm/\(c.eo.length:Int)<=140737488351232/\∀k∈c.eo,(AQ k).Sm:=by
 have f:TV.Sms [_,_,_,_,_,_,_,_,_]:=h;obtain⟨_,d,j,q,_⟩:=f;rw[Rg]at d;obtain⟨u,w⟩:=Ns d;exact⟨⟨j,q,trivial⟩,u,w⟩
theorem bu:∀(N:Nat)(c:bq),SizeOf.sizeOf c<=N->(AQ c).Sm->∀mo:Int,0<=mo->mo<=1000->∃r,(∀n,N<=n->FB n c mo=Y r)/\-1<=r/\r<=mo-1/\(0<=r->Fv c)
 |0,c,h,_,_,_,_=>by have:=GQ c;omega|N+1,c,h,hs,mo,m0,m1=>by
  obtain ⟨Q,S,D⟩:=ra hs;obtain⟨θ,G,ε⟩:=Yk c.cE;obtain⟨κ,J,η⟩:=fT Q;have step:∀n,N+1<=n->∃m,n=m+1/\N<=m:=λn d=>⟨n-1,U,U⟩;cases θ
  .refine⟨-1,λn d=>?_,U,U,λh=>U⟩;obtain⟨n,rfl,_⟩:=step n d;rw[FB,G];rfl
  cases κ
  .refine⟨-1,λn d=>?_,U,U,λh=>U⟩;obtain⟨n,rfl,_⟩:=step n d;rw[FB,G,bs,J];rfl
  have loop:∀(m:Nat)(k left:Int),0<=k->k+m=c.eo.length->-1<=left->left<=1000->∃f w,(∀n,N<=n->LV (ρ:=Int) (λ(u:Int×Int)=>
    if ((decide (u.2<(c.eo.length:Int)))&&(decide (0<=u.1)))=X then
    (idx c.eo u.2).bind λz=>
    (FB n z u.1).bind λA=>
    Y (.next (A,AW (u.2+1)))
    else
    Y (.brk (u.1,u.2))) (left,k) (.inl (f,w)))/\-1<=f/\f<=left/\(0<=f->∀j,k<=j->j<c.eo.length->Fv (AA c.eo j)):=by
   intro m
   induction m with
   |zero=>
    intro k left E L F l1;refine⟨left,k,λn d=>.brk ?_,F,U,λ_ j B y=>U⟩;rw[QQ an]
   |succ m ih=>
    intro k left E L F l1;by_cases M:0<=left
    .have q:=AG (l:=c.eo) E U;have:=Jb q;obtain⟨r,Z,r2,r3,r4⟩:=bu N _ U (D _ q) left M l1;obtain⟨f,w,a1,a2,K,H⟩:=ih (k+1) r U U r2 U;refine⟨f,w,λn d=>.next (s':=(r,k+1)) ?_ (a1 n d),a2,U,λC j B y=>?_⟩
     .rw[Ne an,AD E U,bs,Z n d,bs,Ao U U]
     .by_cases O:j=k
      .subst O;exact r4 U
      .exact H C j U y
    .refine⟨left,k,λn d=>.brk ?_,F,U,λh=>U⟩;rw[QQ an]
  obtain ⟨f,w,a1,a2,K,H⟩:=loop c.eo.length 0 (mo-1) U U U U;refine⟨f,λn d=>?_,a2,K,λC=>.mk c (ε rfl) (η rfl) (λk D=>?_)⟩
  .obtain⟨n,rfl,I⟩:=step n d;rw[FB,G,bs,J];simp only[bs,C_,A',if_false];rw[Ao (n:=mo-1) U U,(a1 n I).eq,B0]
  .obtain⟨j,B,y,rfl⟩:=BC D;exact H C j B y
theorem nc(d:(AQ c).Sm):∃b,QK c=Y b/\(b=X->Fv c):=by
 obtain ⟨r,f,_,_,j⟩:=bu (SizeOf.sizeOf c) c (R0 _) d 40 U U;have e:Te c 40=Y r:=GZ (SizeOf.sizeOf c) f;unfold QK;rw[e];exact⟨_,rfl,λh=>j c_⟩
variable{o:I1}
theorem ID{b:Bool}{c:Bool}(h:o=Y c):(if b=X then o.bind λx=>Y x else Y T)=Y (b&&c):=by
 subst h;cases b<;>rfl
variable{r:d3}
theorem ng(d:(Bm r).Sm):∃b,QL r=Y b/\(b=X->Df r):=by
 have f:TV.Sms [_,_,_,_,_,_,_,_,_,_,_,_,_,_,_,_,_,_,_,_,_,_,_,_,_]:=d;obtain⟨_,_,_,_,_,_,_,_,_,_,_,j,q,u,w,_,y,z,c3,A,B,c6,C,D,E,_⟩:=f;obtain⟨Q,F,G⟩:=Yk r.d7;obtain⟨S,H,I⟩:=Yk r.ca;obtain⟨θ,J,K⟩:=nf (m:=r.kg) ⟨j,q,trivial⟩;obtain⟨ε,L,M⟩:=fT (m:=r.ec) ⟨u,w,trivial⟩;obtain⟨κ,N,O⟩:=nc (c:=r.bq) ⟨y,z,c3,A,B,c6,C,D,E,trivial⟩;unfold QL;rw[ID F,bs,ID H,bs,ID J,bs,ID L,bs,ID N,bs];refine⟨_,rfl,λh=>?_⟩;simp[pE]at h;exact⟨h.1.1.1.1.1,G h.1.1.1.1.2,I h.1.1.1.2,K h.1.1.2,M h.1.2,O h.2⟩
theorem fS{s:An}(d:(AN t).Sm)(f:(Bm r).Sm):∃b,Lx t s r=Y b/\(b=X->Ap t/\Df r):=by
 obtain ⟨y,j,q⟩:=kR d;obtain⟨z,u,w⟩:=ng f;unfold Lx;rw[j,bs,ID (o:=R4 s) rfl,bs,ID u,bs];refine⟨_,rfl,λh=>?_⟩;simp only[gN]at h;exact⟨q h.1.1,w h.2⟩
end Go.Sf.Sc
namespace Go.Sf
def KW(q:Int->Bool)(n:Int):Fp:=((E? n.toNat).map y?).filter q
variable{i:Int}
theorem Z5(q:Int->Bool)(h:0<=i):KW q (i+1)=KW q i++if q i=X then[i]else[]:=by
 unfold KW;rw[show(i+1).toNat=i.toNat+1 by omega,G_,G!,G?];congr 1;simp only[H',H!,List.filter_cons,List.filter_nil,show y? i.toNat=i from y! h]
theorem Ng(q:Int->Bool)(n:Int):(KW q n).length<=n.toNat:=by
 unfold KW;exact Nat.le_trans (List.length_filter_le _ _) V
def FA(n:Int):Fp:=(E? n.toNat).map y?
theorem Um(h:0<=i):FA (i+1)=FA i++[i]:=by
 unfold FA;rw[show(i+1).toNat=i.toNat+1 by omega,G_,G!];simp only[H',H!,show y? i.toNat=i from y! h]
theorem JP(n:Int):(FA n).length=n.toNat:=by simp[FA]
end Go.Sf
namespace Go.Sf.Sc
open Go Go.Sf
structure Sorted(s:An)(g:bi):Prop where
 ok:BV g
 node:∀n∈g.az,0<=n/\n<s.az.length
 edge:∀e∈g.be,0<=e.em/\e.em<s.be.length
variable{t:AC}{g:bi}
theorem R9{s:An}(d:YY t s)(f:BV g)(h:CQ t g=X):Sorted s g:=by
 have:=Cu f h;refine⟨f,λn j=>?_,λe he=>?_⟩
 .rw[d.t2];exact this.1 n j
 .rw[d.x4];exact this.2 e he
variable{n:Int}
theorem Zw(d:0<=n)(h:n<=1000):Ig 0 n=Y (FA n):=by
 unfold Ig;rw[BZ FA d r_]
 .rfl
 .intro i f j;have:=JP i;rw[show(0:Int)+i=i by omega,Ao U U,AV a!,Um f];rfl
theorem sw(h:g.az.length<=1000/\g.be.length<=1000):NB g=Y ⟨FA g.az.length,FA g.be.length⟩:=by
 unfold NB;rw[Zw U U,bs,Zw U U];rfl
def bl(k:Int):bq:=⟨k,[],⟨[],[]⟩,⟨⟨[],[]⟩,[],0,[]⟩⟩
def YO(name:ByteArray)(l r:bi)(into:bk):d3:=⟨name,⟨l,[],0,[]⟩,⟨r,[],0,[]⟩,⟨FA l.az.length,FA l.be.length⟩,into,X,bl 1⟩
theorem vl{l:bi}(h:l.az.length<=1000/\l.be.length<=1000)(x:d3)(r:bi)(into:bk):Md x l r into=Y (YO x.f0 l r into):=by
 unfold Md;rw[sw h];rfl
variable{r:d3}
theorem C4{s:An}(h:B8 t s r=0):YY t s/\SS t r/\r.ec.az.length=r.d7.bi.az.length/\r.ec.be.length=r.d7.bi.be.length:=by
 unfold B8 at h;split at h
 .omega
 split at h
 .omega
 split at h
 .cases h
 rename_i y z u;have w:=(PW (t:=t) (s:=s) U).2;have d:=(Q2 (t:=t) (r:=r) U).2;have f:Pd r=X:=e_
 unfold Pd at f;simp only[gN,pE]at f;have j:=d.mor.t2;have q:=d.mor.x4;unfold MR at j q;simp only[a6]at j q;exact⟨w,d,U,U⟩
end Go.Sf.Sc
namespace Go.Sf.Sc
open Go Go.Sf
def PI(s:An)(r:d3)(l:Fp)(i:Int):Bool:=!hasB r.ec.az i&&hasB l (AA s.az (AA r.ca.bi.az i))
def PH(s:An)(r:d3)(l:Fp)(i:Int):Bool:=!hasB r.ec.be i&&hasB l (AA s.be (AA r.ca.bi.be i).em)
def Di(s:An)(r:d3)(l:Fp):Fp:=KW (PI s r l) r.ca.bi.az.length
def Ea(s:An)(r:d3)(l:Fp):Fp:=KW (PH s r l) r.ca.bi.be.length
def Vg(r:d3)(into:Fp)(i:Int):Bw:=⟨(AA r.ca.bi.be i).em,A8 into (AA r.ca.bi.be i).fb,A8 into (AA r.ca.bi.be i).To⟩
def At(s:An)(r:d3)(l:Fp):Fp:=r.ec.az++Di s r l
theorem Sb(l:Fp)(v:Int):slices_Contains_int l v=Y (hasB l v):=LY l v
def F6:AC:=⟨[⟨⟨#[67,108,97,115,115]⟩,-1,T,[]⟩,⟨⟨#[65,116,116,114,105,98,117,116,101]⟩,-1,T,[]⟩,⟨⟨#[84,97,98,108,101]⟩,-1,T,[]⟩,⟨⟨#[67,111,108,117,109,110]⟩,-1,T,[]⟩,⟨⟨#[77,97,112]⟩,-1,T,[]⟩],
 [⟨⟨#[104,97,115]⟩,0,1,0,-1,0,-1⟩,⟨⟨#[119,105,116,104]⟩,2,3,0,-1,0,-1⟩,⟨⟨#[111,102,67,108,97,115,115]⟩,4,0,0,-1,0,-1⟩,⟨⟨#[111,102,65,116,116,114,105,98,117,116,101]⟩,4,1,0,-1,0,-1⟩,⟨⟨#[116,111,84,97,98,108,101]⟩,4,2,0,-1,0,-1⟩,⟨⟨#[116,111,67,111,108,117,109,110]⟩,4,3,0,-1,0,-1⟩]⟩
def QZ:An:=⟨[1,1,3,3,2],[1,3,2,2,2,2]⟩
theorem kP:Ij=Y (F6,QZ):=rfl
theorem FT:Ap F6:=by
 have h:∀n∈F6.az,n.gR=[]:=a_
 refine ⟨a_,a_,a_,λn d=>?_,λn d a f=>?_,a_⟩
 .rw[h n d];decide
 .rw[h n d]at f;cases f
theorem iZ(k:Int):Fv (bl k):=.mk _ ⟨I_ _,I_ _,I_ _,I_ _⟩ ⟨I_ _,I_ _⟩ (λk d=>by cases d)
end Go.Sf.Sc
namespace Go.Sf
end Go.Sf
namespace Go.Sf.Sc
open Go Go.Sf
variable{g:bi}
theorem oe(d:g.az.length<=1000)(f:g.be.length<=1000):GB g=Y g:=by
 unfold GB;rw[BM a?,bs,BM a?];rfl
end Go.Sf.Sc
namespace Go.Sf.Sc
open Go Go.Sf
end Go.Sf.Sc
namespace Go.Sf.Sc
open Go Go.Sf
end Go.Sf.Sc
namespace Go.Sf
variable{i:Int}
theorem Vc{α:Type}[Inhabited α]{l m:List α}(d:i.toNat<l.length):AA (l++m) i=AA l i:=by
 unfold AA;rw[E_,E_,List.getElem?_append_left d]
variable{n:Int}
theorem SV(d:0<=i)(f:i<n):AA (FA n) i=i:=by
 unfold FA;have:((E? n.toNat).map y?)[i.toNat]?=Y i:=by
  rw [List.getElem?_map,List.getElem?_range U];simp;omega
 unfold AA;rw[E_,this];rfl
theorem r7(n:Int):(FA n).Pairwise (·<·):=by
 refine SE λi j d f h=>?_;rw[JP]at h;rw[SV d U,SV U U];exact f
theorem Zn(n:Int):(FA n).Nodup:=(r7 n).imp (λh=>U)
end Go.Sf
namespace Go.Sf.Sc
open Go Go.Sf
structure EQ(g:bi):Prop where
 t2:g.az.length<=20
 x4:g.be.length<=20
 node:∀n∈g.az,0<=n/\n<5
 edge:∀e∈g.be,(0<=e.em/\e.em<6)/\(0<=e.fb/\e.fb<g.az.length)/\(0<=e.To/\e.To<g.az.length)/\IZ F6 e.em (AA g.az e.fb) (AA g.az e.To)=X
variable{g:bi}
theorem EQ.e0(h:EQ g):Bz g=0:=by
 have:=h.t2;have:=h.x4;unfold Bz;rw[QQ U,QQ,QQ]
 .rw[C',D!];intro e he;have:=h.edge e he;simp[SJ,LG];omega
 .rw[C',D!];intro n d;have:=h.node n d;simp[LG];omega
theorem EQ.ok(h:EQ g):BV g:=Dm h.e0
theorem Yi:F6.az.length=5/\F6.be.length=6:=⟨rfl,rfl⟩
theorem EQ.typed(h:EQ g):CQ F6 g=X:=by
 unfold CQ;rw[Yi.1,Yi.2,gN,A?,A?,D!,D!];refine⟨λn d=>?_,λe he=>?_⟩
 .have:=h.node n d;simp;omega
 .have:=h.edge e he;simp;omega
theorem exV:(Az F6).2=0:=b!
theorem EQ.pat(h:EQ g):Hk F6 ⟨g,[],0,[]⟩=0:=by
 unfold Hk;rw[exV,h.e0,h.typed];rfl
structure iH(L R:bi)(m:bk):Prop where
 l:EQ L
 r:EQ R
 t2:m.az.length=L.az.length
 x4:m.be.length=L.be.length
 node:∀i:Int,0<=i->i<L.az.length->(0<=AA m.az i/\AA m.az i<R.az.length)/\AA R.az (AA m.az i)=AA L.az i
 edge:∀i:Int,0<=i->i<L.be.length->(0<=AA m.be i/\AA m.be i<R.be.length)/\(AA L.be i).em=(AA R.be (AA m.be i)).em/\
  AA m.az (AA L.be i).fb=(AA R.be (AA m.be i)).fb/\AA m.az (AA L.be i).To=(AA R.be (AA m.be i)).To
 nn:m.az.Nodup
 ne:m.be.Nodup
theorem exA:∀n:Int,0<=n->n<5->(AA F6.az n).p0=T:=by
 intro n d f;have:n=0\/n=1\/n=2\/n=3\/n=4:=U
 rcases this with rfl|rfl|rfl|rfl|rfl<;>rfl
variable{i:Int}
theorem EQ.fits(h:EQ g)(d:0<=i)(f:i<g.be.length):DG F6 g i=X:=(h.edge _ (AG d f)).2.2.2
variable{m:bk}
theorem ny{L R:bi}(h:iH L R m){j:ByteArray}(q:(j.size:Int)<=60):Df (YO j L R m):=by
 have a:=h.l.t2;have b:=h.l.x4;have c:=h.r.t2;have d:=h.r.x4;have e:=h.t2;have f:=h.x4;refine⟨q,⟨?_,?_,I_ _,I_ _⟩,⟨?_,?_,I_ _,I_ _⟩,⟨?_,?_⟩,⟨?_,?_⟩,iZ 1⟩
 .show L.az.length<=45;omega
 .show L.be.length<=90;omega
 .show R.az.length<=45;omega
 .show R.be.length<=90;omega
 .show(FA L.az.length).length<=1000;rw[JP];omega
 .show(FA L.be.length).length<=1000;rw[JP];omega
 .show m.az.length<=140;omega
 .show m.be.length<=140;omega
end Go.Sf.Sc
namespace Go.Sf
variable{a b:Int}
theorem V1{σ ρ:Type}{f:σ×Int->Option (B2 (σ×Int) ρ)}(I:Int->σ->Prop){s:σ}(j:a<=b)(q:I a s)(h:∀i s,a<=i->i<b->I i s->∃s',f (s,i)=Y (.next (s',i+1))/\I (i+1) s')(u:∀s,I b s->f (s,b)=Y (.brk (s,b))):∃s',FK f (s,a)=Y (.inl (s',b))/\I b s':=by
 have key:∀(n:Nat)(i:Int)(s:σ),a<=i->i+n=b->I i s->∃s',LV f (s,i) (.inl (s',b))/\I b s':=by
  intro n
  induction n with
  |zero=>
   intro i s _ hi d;have:i=b:=U
   subst this;exact⟨s,.brk (u s d),d⟩
  |succ n D=>
   intro i s w E d;obtain⟨y,z,A⟩:=h i s w U d;obtain⟨s2,B,C⟩:=D (i+1) y U U A;exact⟨s2,.next z B,C⟩
 obtain ⟨s',e,d⟩:=key (b-a).toNat a s (x? _) U q;exact⟨s',e.eq,d⟩
variable{x n:Int}
theorem JE(d:0<=x)(f:0<n):∃y,J6 x n=Y y/\0<=y/\y<n:=by
 unfold J6;rw[QQ U];refine⟨_,rfl,?_,?_⟩
 .rw[z_ d];exact Int.emod_nonneg _ U
 .rw[z_ d];exact Int.emod_lt_of_pos _ f
end Go.Sf
namespace Go.Sf.Sc
open Go Go.Sf
theorem EQ.nil:EQ ⟨[],[]⟩:=⟨a_,a_,V,V⟩
variable{g:bi}{x:Int}
theorem EQ.addN(h:EQ g)(u:g.az.length<20)(f:0<=x)(x1:x<5):EQ ⟨g.az++[x],g.be⟩:=by
 refine ⟨an,h.x4,λn d=>?_,λe he=>?_⟩
 .rcases D'.1 d with d|d
  .exact h.node n d
  .rw[H?.1 d];exact⟨f,x1⟩
 .obtain⟨j,w,y,q⟩:=h.edge e he;simp only[aE,a5,List.length_nil];refine⟨j,U,U,?_⟩;rw[Vc U,Vc U];exact q
theorem EQ.addE(h:EQ g)(q:g.be.length<20){t a b:Int}(d:0<=t/\t<6)(f:0<=a/\a<g.az.length)(j:0<=b/\b<g.az.length)(hf:IZ F6 t (AA g.az a) (AA g.az b)=X):EQ ⟨g.az,g.be++[⟨t,a,b⟩]⟩:=by
 refine ⟨h.t2,an,h.node,λe he=>?_⟩;rcases D'.1 he with he|he
 .exact h.edge e he
 .rw[H?.1 he];exact⟨d,f,j,hf⟩
def HC(x:Int):Prop:=0<=x/\x<=255
structure ey(d:Hv):Prop where
 ci:∀x∈d.az,HC x.a0/\HC x.a1
 c8:∀x∈d.be,HC x.a0/\HC x.a1/\HC x.a2
instance:Inhabited Qt:=⟨⟨0,0⟩⟩
instance:Inhabited Ic:=⟨⟨0,0,0⟩⟩
theorem MC(h:HC x):AW x=x:=Ao (by have:=h.1;omega) (by have:=h.2;omega)
theorem jT:Jz F6=Y [0,1,2,3,4]:=by
 unfold Jz;rw[BZ FA U r_]
 .rfl
 .intro i d f;have h:(F6.az.length:Int)=5:=rfl;have j:=JP i;rw[AD d f,bs,exA i d U,Ne a_,AV a!,Um d];rfl
variable{n:Int}
theorem rc(d:0<=n)(f:n<5):Gz F6 n=([],0):=by
 have:n=0\/n=1\/n=2\/n=3\/n=4:=U
 rcases this with rfl|rfl|rfl|rfl|rfl<;>decide +kernel
variable{i:Int}
theorem AAe(d:0<=i)(f:i<5):idx ([0,1,2,3,4]:Fp) i=Y i:=by
 have:i=0\/i=1\/i=2\/i=3\/i=4:=U
 rcases this with rfl|rfl|rfl|rfl|rfl<;>rfl
theorem od{d:Hv}(hd:ey d)(hn:d.az.length<=3)(he:d.be.length<=3):∃h,KQ F6 d=Y h/\EQ h.bi/\h.bi.az.length<=3/\h.bi.be.length<=3:=by
 unfold KQ;rw[jT,bs];obtain⟨q,e1,g1,n1,v1⟩:=V1 (ρ:=AH) (f:=(λ(u:AH×Int)=>
  if (((decide (u.2<(d.az.length:Int)))&&(decide (u.2<8)))&&(decide (0<(([0,1,2,3,4]:Fp).length:Int))))=X then
  (idx d.az u.2).bind λη=>
  (J6 (AW η.a0) (([0,1,2,3,4]:Fp).length:Int)).bind λZ=>
  (idx ([0,1,2,3,4]:Fp) Z).bind λF=>
  (Dw F6 F).bind λw=>
  (gp (λ(θ:Int)(s2:Fp)=>
  (idx w.1 θ).bind λx63=>
  (idx d.az u.2).bind λx69=>
  (idx w.1 θ).bind λx78=>
  (idx w.1 θ).bind λx83=>
  (J6 (AW ((AW x69.a1)+(AW (7*θ)))) (AW ((AW (x78.z5-x83.Low))+1))).bind λx88=>
  (Ak s2 [AW (x63.Low+x88)]).bind λx91=>
  Y x91) 0 (w.1.length:Int) []).bind λs2=>
  (Ak u.1.bi.az [F]).bind λx97=>
  (Ak u.1.d5 [s2]).bind λG=>
  Y (.next (AH.mk (bi.mk x97 u.1.bi.be) G,AW (u.2+1)))
  else
  Y (.brk (u.1,u.2)))) (λi h=>EQ h.bi/\(h.bi.az.length=i/\h.bi.be=[])/\h.d5.length=i) (a:=0) (b:=d.az.length) (s:=AH.mk (bi.mk [] []) []) U ⟨EQ.nil,⟨rfl,rfl⟩,rfl⟩ (λi h H I J=>by
   obtain ⟨ε,⟨hl,hE⟩,hv⟩:=J;have A:=(hd.ci _ (AG H I)).1;obtain⟨y,y1,E,κ⟩:=JE (n:=5) A.1 U;refine⟨⟨⟨h.bi.az++[y],h.bi.be⟩,h.d5++[[]]⟩,?_,ε.addN U E κ,⟨an,hE⟩,an⟩;rw[Ne an,AD H I,bs,MC A];show((J6 _ 5).bind _)=_;rw[y1,bs,AAe E κ,bs,Q0 FT,bs,rc E κ];rw[ii V,bs,AV a!,bs,AV a!,bs,Ao U U]) (λh J=>by
   rw [QQ V])
 rw [e1,B0];by_cases h0:q.bi.az.length=0
 .refine⟨q,?_,g1,U,by rw[n1.2];decide⟩;rw[(LV.brk (s:=(q,(0:Int))) (s':=(q,0)) (by rw[QQ (by dsimp only;rw[h0];simp)])).eq];rfl
 .obtain⟨h2,e2,g2,n2,v2⟩:=V1 (ρ:=AH) (f:=(λ(j:AH×Int)=>
   if ((((decide (j.2<(d.be.length:Int)))&&(decide (j.2<10)))&&(decide (0<(q.bi.az.length:Int))))&&(decide (0<(F6.be.length:Int))))=X then
   (idx d.be j.2).bind λK=>
   (J6 (AW K.a0) (F6.be.length:Int)).bind λB=>
   (idx d.be j.2).bind λL=>
   (J6 (AW L.a1) (q.bi.az.length:Int)).bind λC=>
   (idx d.be j.2).bind λM=>
   (J6 (AW M.a2) (q.bi.az.length:Int)).bind λD=>
   (idx j.1.bi.az C).bind λN=>
   (idx j.1.bi.az D).bind λO=>
   (EY F6 B N O).bind λQ=>
   if Q=X then
   (Ak j.1.bi.be [Bw.mk B C D]).bind λS=>
   Y (.next (AH.mk (bi.mk j.1.bi.az S) j.1.d5,AW (j.2+1)))
   else
   Y (.next (j.1,AW (j.2+1)))
   else
   Y (.brk (j.1,j.2)))) (λi h=>EQ h.bi/\h.bi.az.length=q.bi.az.length/\h.bi.be.length<=i) (a:=0) (b:=d.be.length) (s:=q) U ⟨g1,rfl,by rw[n1.2];decide⟩ (λi h H I J=>by
    obtain ⟨ε,hl,hE⟩:=J;have A:=hd.c8 _ (AG H I);obtain⟨x,x1,x2,x3⟩:=JE (n:=6) A.1.1 U;obtain⟨y,y1,E,κ⟩:=JE (n:=q.bi.az.length) A.2.1.1 U;obtain⟨z,z1,z2,z3⟩:=JE (n:=q.bi.az.length) A.2.2.1 U;rw[Ne (by simp[Yi.2];omega),AD H I];simp only[bs,MC A.1,MC A.2.1,MC A.2.2];rw[show(F6.be.length:Int)=6 from rfl,x1,bs,y1,bs,z1,bs,AD E U,bs,AD z2 U,bs,Ux FT,bs,Ao U U];cases hf:IZ F6 x (AA h.bi.az y) (AA h.bi.az z)
    .exact⟨h,rfl,ε,hl,U⟩
    .refine⟨⟨⟨h.bi.az,h.bi.be++[⟨x,y,z⟩]⟩,h.d5⟩,?_,ε.addE U ⟨x2,x3⟩ ⟨E,U⟩ ⟨z2,U⟩ hf,hl,an⟩;rw[Ne rfl,AV a!];rfl) (λh J=>by
    rw [QQ V])
  rw [e2,B0];exact⟨h2,rfl,g2,U,U⟩
theorem lM{n:Nat}(h:n<=1000):Jw n=Y (FA n):=by
 unfold Jw;rw[BZ FA U r_]
 .rfl
 .intro i d f;have:=JP i;rw[AV a!,Um d];rfl
structure Px(d:Ft):Prop where
 left:ey d.d7
 ci:∀x∈d.az,HC x
 c8:∀x∈d.be,HC x.a0/\HC x.a1/\HC x.a2
theorem wL{α:Type}(l:List α):∃m,slc l 0 (min 3 (l.length:Int))=Y m/\m.length<=3/\∀x∈m,x∈l:=by
 refine ⟨_,L7 U U,i_,λx d=>List.mem_of_mem_take d⟩
theorem lu{d:Ft}(hd:Px d):∃L R,Gt d=Y (YO ⟨#[114]⟩ L R ⟨FA L.az.length,FA L.be.length⟩)/\iH L R ⟨FA L.az.length,FA L.be.length⟩/\L.az.length<=3/\L.be.length<=3/\R.az.length<=6/\R.be.length<=7/\(∃A,R.az=L.az++A)/\∃B,R.be=L.be++B:=by
 unfold Gt;obtain⟨a,a1,a2,a3⟩:=wL d.d7.az;obtain⟨b,b1,b2,b3⟩:=wL d.d7.be;obtain⟨h,h1,h2,h3,h4⟩:=od (d:=⟨a,b⟩) ⟨λx hx=>hd.left.ci x (a3 x hx),λx hx=>hd.left.c8 x (b3 x hx)⟩ a2 b2;rw[kP,bs,a1,bs,b1,bs,h1,bs,oe U U,bs];obtain⟨q,e1,j⟩:=V1 (ρ:=d3) (f:=(λ(D:bi×Int)=>
  if ((decide (D.2<(d.az.length:Int)))&&(decide (D.2<3)))=X then
  (idx d.az D.2).bind λx55=>
  (J6 (AW x55) ((F6,QZ).1.az.length:Int)).bind λx61=>
  (Ak D.1.az [x61]).bind λx63=>
  Y (.next (bi.mk x63 D.1.be,AW (D.2+1)))
  else
  Y (.brk (D.1,D.2)))) (λi g=>EQ g/\g.az.length<=3+i/\g.be=h.bi.be/\∃A,g.az=h.bi.az++A) (a:=0) (b:=min d.az.length 3) (s:=h.bi) U ⟨h2,U,rfl,[],V⟩ (λi g u j K=>by
   obtain ⟨J,I,hE,A,hA⟩:=K;have j:i<(d.az.length:Int)/\i<3:=U
   have w:=hd.ci _ (AG u j.1);obtain⟨y,y1,Z,y3⟩:=JE (n:=5) w.1 U;refine⟨⟨g.az++[y],g.be⟩,?_,J.addN U Z y3,an,hE,A++[y],by rw[hA,ae]⟩;rw[Ne h_,AD u j.1,bs,MC w];show((J6 _ 5).bind _)=_;rw[y1,bs,AV a!,bs,Ao U U]) (λg K=>by
   rw [QQ an])
 obtain ⟨i2,i3,i4,A,i5⟩:=j;rw[e1,B0];have η:∀(k:Int)(g:bi),EQ g->g.az=q.az->g.be.length<=7->(∃B,g.be=h.bi.be++B)->∀(F:bi×Int->Option (B2 (bi×Int) d3)),FK F (q,0)=Y (.inl (g,k)) ->
   ∃L R,(d6 (FK F (q,0)) (λs2=>(RP h.bi).bind λM=>
    (Md (d3.mk (⟨#[114]⟩:ByteArray) (cE.mk (bi.mk [] []) [] 0 []) (cE.mk (bi.mk [] []) [] 0 []) (Bo.mk [] []) (bk.mk [] []) T (bq.mk 0 [] (bk.mk [] []) (cE.mk (bi.mk [] []) [] 0 []))) h.bi s2.1 M).bind λN=>
    Y N) (λv2=>Y v2))=Y (YO ⟨#[114]⟩ L R ⟨FA L.az.length,FA L.be.length⟩)/\iH L R ⟨FA L.az.length,FA L.be.length⟩/\L.az.length<=3/\L.be.length<=3/\R.az.length<=6/\R.be.length<=7/\(∃A,R.az=L.az++A)/\∃B,R.be=L.be++B:=by
  intro k g J hN hEl H F hF;obtain⟨B,H⟩:=H;refine⟨h.bi,g,?_,⟨h2,J,by simp[JP],by simp[JP],λi u j=>?_,λi u j=>?_,Zn _,Zn _⟩,h3,h4,by rw[hN];omega,hEl,⟨A,by rw[hN,i5]⟩,B,H⟩
  .rw[hF,B0];unfold RP;rw[lM U,bs,lM U,bs,bs,vl ⟨U,U⟩];rfl
  .dsimp only;rw[SV u j,hN,i5,Vc U];exact⟨⟨u,s?⟩,rfl⟩
  .dsimp only;have C:=h2.edge _ (AG (l:=h.bi.be) u j);rw[SV u j,H,Vc U,SV C.2.1.1 C.2.1.2,SV C.2.2.1.1 C.2.2.1.2];exact⟨⟨u,s?⟩,rfl,rfl,rfl⟩
 by_cases h0:q.az.length=0
 .refine η 0 q i2 rfl (by rw[i4];omega) ⟨[],by rw[i4];simp⟩ _ ?_;exact(LV.brk (s:=(q,(0:Int))) (s':=(q,0)) (by rw[QQ (by dsimp only;rw[h0];simp)])).eq
 .obtain⟨g2,e2,j2,j3,j4,j5⟩:=V1 (ρ:=d3) (f:=(λ(s2:bi×Int)=>
   if (((decide (s2.2<(d.be.length:Int)))&&(decide (s2.2<4)))&&(decide (0<(q.az.length:Int))))=X then
   (idx d.be s2.2).bind λx86=>
   (J6 (AW x86.a0) ((F6,QZ).1.be.length:Int)).bind λO=>
   (idx d.be s2.2).bind λx97=>
   (J6 (AW x97.a1) (q.az.length:Int)).bind λE=>
   (idx d.be s2.2).bind λQ=>
   (J6 (AW Q.a2) (q.az.length:Int)).bind λG=>
   (idx s2.1.az E).bind λS=>
   (idx s2.1.az G).bind λθ=>
   (EY (F6,QZ).1 O S θ).bind λε=>
   if ε=X then
   (Ak s2.1.be [Bw.mk O E G]).bind λκ=>
   Y (.next (bi.mk s2.1.az κ,AW (s2.2+1)))
   else
   Y (.next (s2.1,AW (s2.2+1)))
   else
   Y (.brk (s2.1,s2.2)))) (λi g=>EQ g/\g.az=q.az/\g.be.length<=3+i/\∃B,g.be=h.bi.be++B) (a:=0) (b:=min d.be.length 4) (s:=q) U ⟨i2,rfl,by rw[i4];omega,[],by rw[i4];simp⟩ (λi g u j K=>by
    obtain ⟨J,I,hE,B,H⟩:=K;have j:i<(d.be.length:Int)/\i<4:=U
    have w:=hd.c8 _ (AG u j.1);obtain⟨x,x1,x2,x3⟩:=JE (n:=6) w.1.1 U;obtain⟨y,y1,Z,y3⟩:=JE (n:=q.az.length) w.2.1.1 U;obtain⟨z,z1,z2,z3⟩:=JE (n:=q.az.length) w.2.2.1 U;rw[Ne an,AD u j.1];simp only[bs,MC w.1,MC w.2.1,MC w.2.2];rw[show(F6.be.length:Int)=6 from rfl,x1,bs,y1,bs,z1,bs,AD Z (by rw[I];exact y3),bs,AD z2 (by rw[I];exact z3),bs,Ux FT,bs,Ao U U];cases hf:IZ F6 x (AA g.az y) (AA g.az z)
    .exact⟨g,rfl,J,I,U,B,H⟩
    .refine⟨⟨g.az,g.be++[⟨x,y,z⟩]⟩,?_,J.addE U ⟨x2,x3⟩ ⟨Z,by rw[I];exact y3⟩ ⟨z2,by rw[I];exact z3⟩ hf,I,an,B++[⟨x,y,z⟩],by rw[H,ae]⟩;rw[Ne rfl,AV a!];rfl) (λg K=>by
    rw [QQ an])
  exact η _ g2 j2 j3 U j5 _ e2
end Go.Sf.Sc
namespace Go.Sf.Sc
open Go Go.Sf
variable{x:Int}
theorem Pw(h:(Nn x).WF):HC x:=h
theorem Q4{α:Type}{e:α->TV}{n:Nat}{l:List α}(h:(eL n e l).WF):∀x∈l,(e x).WF:=by
 have f:_/\TV.ns (l.map e):=h;intro x d;exact(Bp.1 f.2) _ (F!.2 ⟨x,d,rfl⟩)
theorem iV{d:Ft}(h:(LZ d).WF):Px d:=by
 have j:TV.ns [_,_,_,_]:=h;obtain⟨q,u,w,y,_⟩:=j;refine⟨⟨λx f=>?_,λx f=>?_⟩,λx f=>Pw (Q4 w x f),λx f=>?_⟩
 .have a:TV.ns [_,_]:=Q4 q x f;exact⟨Pw a.1,Pw a.2.1⟩
 .have a:TV.ns [_,_,_]:=Q4 u x f;exact⟨Pw a.1,Pw a.2.1,Pw a.2.2.1⟩
 .have a:TV.ns [_,_,_]:=Q4 y x f;exact⟨Pw a.1,Pw a.2.1,Pw a.2.2.1⟩
end Go.Sf.Sc
