/- Plain lemmas: what the functions of the program and of the reference compute. -/
import Derived.Test.YtfcfkigfmofniaaGreatSfRead
import Derived.Test.YtfcfkigfmofniaaGreatFns
import Derived.Test.YtfcfkigfmofniaaGreatSfPl
set_option linter.all false
set_option maxRecDepth 100000
open Option renaming some->Y,none->W
open Bool renaming true->X,false->T
open Option renaming getD->u!,isSome->u?,bind_assoc->v1,bind_fun_some->v5
open Int renaming le_refl->v6,toNat_natCast->v9
open Bool renaming true_and->v_,eq_iff_iff->v!,false_and->v?,false_eq_true->w_,or_eq_true->w!,not_eq_true'->w?,not_eq_false'->x_,or_eq_false_iff->x!,and_eq_false_iff->x?,eq_false_iff->y_,not_true->y!,not_eq_true->y?,or_assoc->z9
open List renaming any_eq_false->z_,getElem?_eq_getElem->z!,getD_eq_getElem?_getD->z?,take_length->A_,any_eq_true->A',ext_getElem->A!,mem_map->A?,pairwise_iff_getElem->B_,all_eq_not_any_not->B'
namespace Go.Sf
theorem YO{ρ τ:Type}{d:Int->Option ρ}{g:ρ->τ}:∀(n:Nat)(a:Int),Ew (λi=>(d i).map g) n a=(Ew d n a).map g
 |0,_=>rfl|n+1,a=>by
  rw [Ew,Ew];cases d a with
  |some r=>rfl|none=>exact YO n (a+1)
variable{a b:Int}
theorem QS{ρ τ:Type}{d:Int->Option ρ}{g:ρ->τ}:fst (λi=>(d i).map g) a b=(fst d a b).map g:=YO _ _
theorem Wa{ρ:Type}{d:Int->Option ρ}{r:ρ}:∀{n:Nat}{a:Int},Ew d n a=Y r->∃i,a<=i/\i<a+n/\d i=Y r/\∀j,a<=j->j<i->d j=W
 |0,_,h=>c?
 |n+1,a,h=>by
  rw [Ew]at h;cases hd:d a with
  |some w=>
   grind
  |none=>
   rw [hd]at h;obtain⟨i,f,o,q,u⟩:=Wa h
   grind
theorem C2{ρ:Type}{d:Int->Option ρ}{r:ρ}(h:fst d a b=Y r):∃i,a<=i/\i<b/\d i=Y r/\∀j,a<=j->j<i->d j=W:=by
 obtain ⟨i,f,o,q,u⟩:=Wa h
 grind
def L5(p:Int->Bool)(s:ByteArray):Int:=(fst (λi=>if p (bt s i)then W else Y i) 0 s.size).getD s.size
theorem Uc(p:Int->Bool)(s:ByteArray):0<=L5 p s/\L5 p s<=s.size/\(∀j,0<=j->j<L5 p s->p (bt s j)=X)/\(L5 p s<s.size->p (bt s (L5 p s))=T):=by
 unfold L5;cases h:fst (λi=>if p (bt s i)then W else Y i) 0 s.size with
 |none=>
  rw [Az]at h
  grind
 |some r=>
  grind [C2,bt,u!]
variable{s:ByteArray}
theorem be(h:s≠⟨#[]⟩):0<s.size:=by
 rcases Nat.eq_zero_or_pos s.size with f|f
 .exfalso;apply h;cases s with|mk d=>congr 1;exact Array.eq_empty_of_size_eq_zero f
 .exact f
end Go.Sf
namespace Go.Sf.Sc
open Go Go.Sf
def Fy(c:Int):Bool:=((decide (97<=c))&&(decide (c<=122)))||((decide (65<=c))&&(decide (c<=90)))
def yw(c:Int):Bool:=(decide (48<=c))&&(decide (c<=57))
def RJ(c:Int):Bool:=Fy c||yw c||decide (c=95)
theorem am(c:Int):LT c=Y (Fy c):=rfl
theorem Xo(c:Int):Kb c=Y (yw c):=rfl
theorem bE(c:Int):K9 c=Y (Fy c):=rfl
theorem db(c:Int):Ii c=Y (yw c):=rfl
theorem sH(c:Int):OL c=Y (RJ c):=by
 unfold OL RJ;rw[am,bs,Xo]
 grind
variable{s:ByteArray}
theorem fa(d:(s.size:Int)<=4611686018427387904){ok:Int->K1}{p:Int->Bool}(h:∀c,ok c=Y (p c)):G3 s ok=Y (L5 p s):=by
 unfold G3;rw[NN (c:=λi=>(if p (bt s i)then W else Y i).map .inl) (a:=0) (b:=s.size) U]
 .rw[QS];unfold L5;cases fst (λi=>if p (bt s i)=X then W else Y i) 0 s.size<;>rfl
 .grind[QX,bt,EN,AV]
 .simp
def Db(s:ByteArray):Bool:=decide (0<s.size)&&Fy (bt s 0)&&decide (s.size<=20)&&decide (L5 RJ s=s.size)
theorem Xm(l:List ByteArray)(v:ByteArray):∃k,slices_Index_string l v=Y k/\(0<=k↔v∈l):=by
 unfold slices_Index_string;rw[BF (λi=>if(v==AA l i)=X then Y i else W)]
 .cases h:fst (λi=>if(v==AA l i)=X then Y i else W) 0 l.length with
  |none=>
   rw [Az]at h;refine⟨-1,rfl,U,λo=>?_⟩
   grind [BR]
  |some k=>
   obtain ⟨i,d,f,q,_⟩:=C2 h;have j:(v==AA l i)=X/\i=k:=by
    grind
   obtain ⟨j,rfl⟩:=j;refine⟨i,rfl,λ_=>?_,λ_=>d⟩
   grind [AF]
 .intro i d f _;simp only[AC d f,bs];split<;>rfl
theorem P0(l:List ByteArray)(v:ByteArray):slices_Contains_string l v=Y (l.contains v):=by
 unfold slices_Contains_string;obtain⟨k,d,f⟩:=Xm l v
 grind
theorem sE(z:0<s.size)(w:(s.size:Int)<=4611686018427387904):∃k n e,Jw s=Y (k,n,e)/\(((decide (e=0))&&(decide (k=1)))&&(decide (n=(s.size:Int))))=Db s:=by
 have F:=Uc RJ s;unfold Jw Db;simp only[QX (v6 0) (show(0:Int)<s.size by omega),bs,am,Xo,fa w sH,fa w Xo,z,decide_true,v_];by_cases d:Fy (bt s 0)=X
 .rw[ae d];by_cases f:20<L5 RJ s
  .refine⟨0,0,3,by simp[f],?_⟩;simp[d];intro E h;omega
  .refine⟨1,_,0,by rw[az b!],?_⟩;simp only[d,decide_true,v_];rw[v!];simp only[yk,sx];omega
 .rw[az d];have j:Fy (bt s 0)=T:=b?
  rw [j,v?,v?];by_cases hd:yw (bt s 0)=X
  .rw[ae hd];by_cases x:9<L5 yw s
   .exact⟨0,0,3,by simp[x],V⟩
   .exact⟨2,_,0,by rw[az (by simpa using x)],V⟩
  .rw[az hd];by_cases y:bt s 0=34
   .have A:=ZL (s:=s) (a:=1) (b:=s.size) U U U;have o:∀c,Lw c=Y (((decide (32<=c))&&(decide (c<=126)))&&(!decide (c=34))):=λ_=>rfl;have B:=Uc (λc=>((decide (32<=c))&&(decide (c<=126)))&&(!decide (c=34))) (s.extract (1:Int).toNat (s.size:Int).toNat);have q:∃n e,Hd s=Y (n,e):=by
     unfold Hd;rw[IV U U U,bs,fa U o,bs];rw[AV U U];by_cases he:1+L5 (λc=>((decide (32<=c))&&(decide (c<=126)))&&(!decide (c=34))) (s.extract (1:Int).toNat (s.size:Int).toNat)=s.size
     .refine⟨0,2,?_⟩;simp only[he,decide_true,if_true,bs]
     .simp only[he,decide_false,w_,if_false];rw[QX U U];simp only[bs];split
      .exact⟨_,_,rfl⟩
      .split
       .exact⟨_,_,rfl⟩
       .exact⟨_,_,rfl⟩
    obtain ⟨n,e,u⟩:=q;refine⟨3,n,e,by rw[ae k_,u];rfl,V⟩
   .rw[az k_];have C:∃b,OK s=Y b:=by
     unfold OK;by_cases h:2<=(s.size:Int)
     .rw[ae c_,IV U U h];simp only[bs,P0];exact⟨_,rfl⟩
     .rw[az c_];exact⟨_,rfl⟩
    obtain ⟨b,D⟩:=C;rw[D,bs];cases b
    .simp only[w_,if_false,strings_IndexByte,bs];split
     .exact⟨_,_,_,rfl,rfl⟩
     .exact⟨_,_,_,rfl,rfl⟩
    .exact⟨_,_,_,rfl,rfl⟩
theorem Qp(d:(s.size:Int)<=4611686018427387904):Ds s=Y (Db s):=by
 unfold Ds Kc;simp only[show decide ((1:Int)=3)=T from rfl,w_,if_false,bs];by_cases he:s=⟨#[]⟩
 .subst he;rfl
 grind [sE,be]
theorem se(q:(s.size:Int)<=4611686018427387904)(d:Bool):∃n,Pa s 0 d=Y n/\0<=n/\n<=s.size/\(d=T->n=L5 RJ s):=by
 have h:=Uc (λc=>yw c||(!d&&(Fy c||decide (c=95)))) s;refine⟨L5 (λc=>yw c||(!d&&(Fy c||decide (c=95)))) s,?_,h.1,h.2.1,λhd=>?_⟩
 .unfold Pa;rw[NN (c:=λi=>(if(yw (bt s i)||(!d&&(Fy (bt s i)||decide (bt s i=95))))then W else Y i).map .inl) (a:=0) (b:=s.size) U]
  .rw[QS];unfold L5;cases fst (λi=>if(yw (bt s i)||(!d&&(Fy (bt s i)||decide (bt s i=95))))=X then W else Y i) 0 s.size<;>rfl
  .intro i o f _;have j:AH (0+i)=i:=e_
   simp only[j,f,decide_true,if_true,QX o f,bs,db,bE]
   grind [yw,bt,Fy,EN,AV]
  .have j:AH (0+(s.size:Int))=s.size:=e_
   grind
 .subst hd;congr 1
  grind [RJ,Fy,yw]
theorem l8(q:0<s.size)(u:(s.size:Int)<=4611686018427387904):∃n,LA s 0=Y n/\(n=0\/(2<=n/\n<=s.size)):=by
 unfold LA;rw[NN (c:=λi=>if decide (bt s i=34)=X then Y (Sum.inr (i+1):Int ⊕ Int)else if(decide (bt s i<32)||decide (126<bt s i))=X then Y (Sum.inr 0)else W) (a:=1) (b:=s.size) U]
 .cases h:fst (λi=>if decide (bt s i=34)=X then Y (Sum.inr (i+1):Int ⊕ Int)else if(decide (bt s i<32)||decide (126<bt s i))=X then Y (Sum.inr 0)else W) 1 s.size with
  |none=>exact⟨0,rfl,.inl rfl⟩|some r=>
   obtain ⟨i,o,f,d,_⟩:=C2 h;split at d
   .cases d;exact⟨_,rfl,.inr U⟩
   .split at d
    .cases d;exact⟨_,rfl,.inl rfl⟩
    .cases d
 .intro i o f _;have j:AH (0+i)=i:=e_
  simp only[j,f,decide_true,if_true,QX (show 0<=i by omega) f,bs,AV (show -9223372036854775808<=i+1 by omega) U];split
  .rfl
  .split<;>rfl
 .have j:AH (0+(s.size:Int))=s.size:=e_
  grind
theorem wD(O:0<s.size)(Q:(s.size:Int)<=4611686018427387904):∃t n e,PZ s 0=Y (t,n,e)/\(((decide (e=0))&&(decide (n=(s.size:Int))))&&(decide (t.l3=1)))=Db s:=by
 obtain ⟨m,M,u,w,N⟩:=se Q (yw (bt s 0));unfold PZ Db;simp only[QX (v6 0) (show(0:Int)<s.size by omega),bs,bE,db,O,decide_true,v_,M];have S:AH (0+m)=m:=e_
 by_cases F:Fy (bt s 0)=X
 .have hd:yw (bt s 0)=T:=by
   unfold Fy at F;unfold yw
   grind
  have η:=N hd;subst η;simp only[F,if_true,hd,w_,if_false,bs,S];by_cases q:20<L5 RJ s
  .refine⟨_,_,_,by rw[ae j_],?_⟩
   grind
  .rw[az j_,IV (v6 _) u w];refine⟨_,_,_,rfl,?_⟩
   grind
 .have G:Fy (bt s 0)=T:=by simpa using F
  simp only[G,w_,if_false,bs,v?,S];by_cases hd:yw (bt s 0)=X
  .simp only[hd,if_true,bs];by_cases θ:9<m
   .exact⟨_,_,_,by rw[ae n?],V⟩
   .rw[az n?,IV (v6 _) u w];exact⟨_,_,_,rfl,V⟩
  .have H:yw (bt s 0)=T:=by simpa using hd
   simp only[H,w_,if_false,bs];by_cases ε:bt s 0=34
   .obtain⟨n,hn,y⟩:=l8 O Q;rw[ae (by simpa using ε),hn,bs];rcases y with rfl|y
    .grind
    .rw[az an];split
     .grind
     .have Z:AH (0+1)=1:=a?
      have e2:AH (0+n)=n:=e_
      rw [Z,e2,AV (show -9223372036854775808<=n-1 by omega) U,IV U U U];exact⟨_,_,_,rfl,V⟩
   .rw[az (by simpa using ε)];unfold O8;rw[bs];generalize hL:([(⟨#[45,62]⟩:ByteArray),(⟨#[60,61]⟩:ByteArray),(⟨#[62,61]⟩:ByteArray),(⟨#[61,61]⟩:ByteArray),(⟨#[33,61]⟩:ByteArray),(⟨#[123]⟩:ByteArray),(⟨#[125]⟩:ByteArray),(⟨#[40]⟩:ByteArray),(⟨#[41]⟩:ByteArray),(⟨#[91]⟩:ByteArray),(⟨#[93]⟩:ByteArray),(⟨#[44]⟩:ByteArray),(⟨#[59]⟩:ByteArray),(⟨#[58]⟩:ByteArray),(⟨#[61]⟩:ByteArray),(⟨#[43]⟩:ByteArray),(⟨#[45]⟩:ByteArray),(⟨#[42]⟩:ByteArray),(⟨#[60]⟩:ByteArray),(⟨#[62]⟩:ByteArray),(⟨#[33]⟩:ByteArray),(⟨#[38]⟩:ByteArray),(⟨#[124]⟩:ByteArray),(⟨#[46]⟩:ByteArray),(⟨#[63]⟩:ByteArray)]:List ByteArray)=L;have I:∀x∈L,x.size<=2:=by subst hL;decide
    rcases Qk (f:=(λ(h:Int)(κ:F6)=>
      (idx L h).bind λA=>
      (if(decide ((AH (0+(A.size:Int)))<=(s.size:Int)))=X then((idx L h).bind λB=>
      (y6 s 0 (AH (0+(B.size:Int)))).bind λC=>
      (idx L h).bind λD=>
      Y (C==D))else Y T).bind λE=>
      if E=X then
      (idx L h).bind λj=>
      (idx L h).bind λo=>
      Y (Be.ret (F6.mk 4 j 0,(o.size:Int),(0:Int)))
      else
      Y (Be.next κ))) (λ_ s=>True) (λ_=>True) (λr=>r.1.l3=4) (a:=0) (b:=L.length) (s:=F6.mk 0 (⟨#[]⟩:ByteArray) 0) U trivial (λi t d z _=>by
      have hx:=I _ (AF d z);have J:AH (0+((AA L i).size:Int))=(AA L i).size:=e_
      simp only[AC d z,bs,J];by_cases K:((AA L i).size:Int)<=s.size
      .rw[ae (by simpa using K),IV U U K];simp only[bs];split
       .exact .inr (.inr ⟨_,rfl,rfl⟩)
       .exact .inl ⟨_,rfl,trivial⟩
      .rw[az (by simpa using K)];simp only[bs];exact .inl ⟨_,rfl,trivial⟩)with⟨s',d,_⟩|⟨r,d,z⟩
    .rw[d];exact⟨_,_,_,rfl,V⟩
    .rw[d];exact⟨_,_,_,rfl,by simp[z]⟩
theorem Qq(d:(s.size:Int)<=4611686018427387904):FC s=Y (Db s):=by
 unfold FC O7 QH;simp only[show decide ((1:Int)=3)=T from rfl,w_,if_false,bs];by_cases he:s=⟨#[]⟩
 .subst he;rfl
 grind [wD,be]
end Go.Sf.Sc
namespace Go.Sf
variable{ρ β:Type}
def nz(e:Int):a5:=if e=0 then W else Y e
theorem L9(e:Int):(if(!decide (e=0))=X then Y (Be.ret e)else Y (Be.next ()))=Y (Qd (nz e)):=by grind[nz,Qd]
theorem rD(b:Bool)(r:ρ):(if b=X then Y (Be.ret r)else Y (Be.next ()))=Y (Qd (if b=X then Y r else W)):=by
 cases b<;>rfl
variable{kr:ρ->Option β}
theorem Bc{σ:Type}{s:σ}{k:σ->Option β}:ek (Y (.inl s)) k kr=k s:=rfl
theorem RR{σ:Type}{r:ρ}{k:σ->Option β}:ek (Y (.inr r)) k kr=kr r:=rfl
theorem Cy(o:Option ρ)(k:Unit->Option β)(kr:ρ->Option β):ek (Y (nT o)) k kr=match o with|none=>k ()|some r=>kr r:=by
 cases o<;>rfl
theorem CG(o:a5):ek (Y (nT o)) (λ_=>Y 0) (λv=>Y v)=Y (o.getD 0):=by
 cases o<;>rfl
variable{a b:Int}
theorem Wb{c:Int->Int}(h:(fst (λi=>nz (c i)) a b).getD 0=0):∀i,a<=i->i<b->c i=0:=by
 have:fst (λi=>nz (c i)) a b=W:=by
  cases hf:fst (λi=>nz (c i)) a b with
  |none=>rfl|some r=>
   grind [u!,C2,nz]
 grind [Az,nz]
variable{e:Int}
theorem FP:nz e=W↔e=0:=by grind[nz]
theorem Vj{α:Type}[Inhabited α]{l:List α}{f:α->K1}{p:α->Bool}(h:∀x∈l,f x=Y (p x)):
  (ek (kl (ρ:=Int) (λ(o:Int)(_:Unit)=>(idx l o).bind λd=>(f d).bind λj=>if j=X then Y (.ret o)else Y (.next ())) 0 (l.length:Int) ()) (λ_=>Y (-1)) (λw=>Y w))=
   Y ((fst (λi=>if p (AA l i)=X then Y i else W) 0 l.length).getD (-1)):=by
 rw [BF (λi=>if p (AA l i)=X then Y i else W)]
 .rw[Cy];cases fst (λi=>if p (AA l i)=X then Y i else W) 0 l.length<;>rfl
 .intro i q u _;rw[AC q u,bs,h _ (AF q u),bs,rD]
theorem YV{α:Type}[Inhabited α]{l:List α}{p:α->Bool}:decide (0<=(fst (λi=>if p (AA l i)=X then Y i else W) 0 l.length).getD (-1))=l.any p:=by
 rw [H8,nd];cases h:fst (λi=>if p (AA l i)=X then Y i else W) 0 l.length with
 |none=>
  grind [Az,u?,Option.isSome_eq_false_iff,Option.isNone_iff_eq_none,AA]
 |some k=>
  grind [C2,AA,u!,u?,Option.isSome_iff_ne_none,Az]
theorem Ex{α:Type}[Inhabited α]{l:List α}{f:α->K1}{p:α->Bool}(h:∀x∈l,f x=Y (p x)):
  ((ek (kl (ρ:=Int) (λ(o:Int)(_:Unit)=>(idx l o).bind λd=>(f d).bind λj=>if j=X then Y (.ret o)else Y (.next ())) 0 (l.length:Int) ()) (λ_=>Y (-1)) (λq=>Y q)).bind λu=>Y (decide (0<=u)))=Y (l.any p):=by
 rw [Vj h,bs,YV]
end Go.Sf
namespace Go.Sf.Sc
open Go Go.Sf
instance:Inhabited mh:=⟨⟨⟨#[]⟩,0,0,[]⟩⟩
instance:Inhabited BD:=⟨⟨⟨#[]⟩,0,T,[]⟩⟩
instance:Inhabited CI:=⟨⟨⟨#[]⟩,0,0,0,0,0,0⟩⟩
instance:Inhabited Bo:=⟨⟨0,0,0⟩⟩
instance:Inhabited Bw:=⟨⟨0,0,⟨0,0⟩⟩⟩
instance:Inhabited Test:=⟨⟨0,⟨0,0⟩,⟨0,0⟩⟩⟩
instance:Inhabited d5:=⟨⟨0,[],⟨[],[]⟩,⟨⟨[],[]⟩,[],0,[]⟩⟩⟩
variable{l:Fp}
theorem Tu{f:Int->K1}{p:Int->Bool}(h:∀x∈l,f x=Y (p x)):A0 l f=Y (l.any p):=Ex h
theorem cm{l:List Bo}{f:Bo->K1}{p:Bo->Bool}(h:∀x∈l,f x=Y (p x)):BP l f=Y (l.any p):=Ex h
theorem Zu{l:List d5}{f:d5->K1}{p:d5->Bool}(h:∀x∈l,f x=Y (p x)):Bq l f=Y (l.any p):=Ex h
theorem b9{l:List BD}{p:BD->Bool}:B8 l (λx=>Y (p x))=Y (l.any p):=Ex (λ_ _=>rfl)
theorem b8{l:List CI}{p:CI->Bool}:B7 l (λx=>Y (p x))=Y (l.any p):=Ex (λ_ _=>rfl)
theorem oU{l:List mh}{p:mh->Bool}:CW l (λx=>Y (p x))=Y (l.any p):=Ex (λ_ _=>rfl)
theorem Zv{p:Int->Bool}:A0 l (λx=>Y (p x))=Y (l.any p):=Ex (λ_ _=>rfl)
theorem cp{l:List Bo}{p:Bo->Bool}:BP l (λx=>Y (p x))=Y (l.any p):=Ex (λ_ _=>rfl)
theorem cq{l:List Bw}{p:Bw->Bool}:CE l (λx=>Y (p x))=Y (l.any p):=Ex (λ_ _=>rfl)
theorem rX(l:Fp)(v:Int):slices_Index_int l v=Y ((fst (λi=>if decide (v=AA l i)=X then Y i else W) 0 l.length).getD (-1)):=by
 have:=Vj (l:=l) (f:=λx=>Y (decide (v=x))) (p:=λx=>decide (v=x)) (λ_ _=>rfl);unfold slices_Index_int
 grind
theorem L7(l:Fp)(v:Int):slices_Contains_int l v=Y (l.any λx=>decide (v=x)):=by grind[slices_Contains_int,rX,YV]
theorem oW(l:a6)(v:Bool):FJ l v=Y (l.any λx=>v==x):=by
 have:=Ex (l:=l) (f:=λx=>Y (v==x)) (p:=λx=>v==x) (λ_ _=>rfl);unfold FJ Iz
 grind
structure SG(a:mh):Prop where
 name:(a.mt.size:Int)<=40
 names:a.sc.length<=25
 each:∀x∈a.sc,(x.size:Int)<=40
structure Ai(t:eb):Prop where
 ea:t.ca.length<=20
 ec:t.ci.length<=30
 name:∀n∈t.ca,(n.mt.size:Int)<=40
 Aaw:∀n∈t.ca,n.qo.length<=30
 each:∀n∈t.ca,∀a∈n.qo,SG a
 Aa2:∀e∈t.ci,(e.mt.size:Int)<=40
def par(t:eb)(i:Int):Int:=(AA t.ca i).x6
def Et(t:eb)(k:Int):Prop:=∀i,0<=i->i<k->-1<=par t i/\par t i<i
def BZ(t:eb):Nat->Int->List mh
 |0,_=>[]|n+1,a=>if a<0 then[]else BZ t n (par t a)++(AA t.ca a).qo
def Ak(t:eb)(a:Int):List mh:=BZ t (a+1).toNat a
variable{t:eb}{a:Int}
theorem Jf{n:Nat}(h:a<0):BZ t n a=[]:=by
 cases n with
 |zero=>rfl|succ n=>rw[BZ,ae h]
variable{k:Int}
theorem M6(d:Et t k):∀(n m:Nat)(a:Int),a<k->a<n->a<m->BZ t n a=BZ t m a
 |n,m,a,h,j,o=>by
  by_cases f:a<0
  .grind[Jf]
  .cases n with
   |zero=>omega|succ n=>
    cases m with
    |zero=>omega|succ m=>
     rw [BZ,BZ,az f,az f];have:=d a U h;rw[M6 d n m (par t a) U U U]
theorem NS(hf:Ai t)(f:k<=t.ca.length)(d:Et t k):∀(n:Nat)(a:Int),a<k->((BZ t n a).length:Int)<=30*n
 |0,_,_=>by simp[BZ]|n+1,a,h=>by
  rw [BZ];split
  .simp;omega
  .rename_i j;have o:=d a U h;have q:=NS hf f d n (par t a) U;have u:=hf.Aaw _ (AF (l:=t.ca) (show 0<=a by omega) U)
   grind
theorem WJ(hf:Ai t)(h:k<=t.ca.length)(f:Et t k):∀(n:Nat)(a:Int),a<k->∀x∈BZ t n a,SG x
 |0,_,_=>by simp[BZ]|n+1,a,j=>by
  rw [BZ];split
  .simp
  .rename_i o;have q:=f a U j;intro x d;rcases List.mem_append.1 d with d|d
   .exact WJ hf h f n (par t a) U x d
   .exact hf.each _ (AF (l:=t.ca) (show 0<=a by omega) U) x d
theorem Gi(hf:Ai t)(d:k<=t.ca.length)(f:Et t k)(h:a<k):(Ak t a).length<=600:=by
 have:=NS hf d f (a+1).toNat a h;have:=hf.ea;unfold Ak;omega
theorem NU(hf:Ai t)(d:k<=t.ca.length)(f:Et t k)(h:a<k):∀x∈Ak t a,SG x:=WJ hf d f _ a h
theorem ai(hf:Ai t)(j:k<=t.ca.length)(h:Et t k):∀(n:Nat)(a:Int),0<=a->a<k->a<n->C7 n t a=Y (BZ t n a)
 |0,_,_,_,_=>by omega|n+1,a,q,z,D=>by
  have A:=h a U z;have u:=NS hf j h n (par t a) U;have B:=hf.Aaw _ (AF (l:=t.ca) q U);have C:=hf.ea;rw[C7,BZ,az U,AC q U];simp only[bs];show((if decide (0<=par t a)=X then(C7 n t (par t a)).bind λf=>Y f else Y []).bind _)=_;have e:(if decide (0<=par t a)=X then(C7 n t (par t a)).bind λf=>Y f else Y [])=Y (BZ t n (par t a)):=by
   by_cases o:0<=par t a
   .rw[ae e!,ai hf j h n (par t a) o U U];rfl
   .rw[az e!,Jf U]
  have w:(BZ t n (par t a)).length+(AA t.ca a).qo.length<=AU:=by
   unfold AU;have:((BZ t n (par t a)).length:Int)<=30*n:=u;have x:BZ t n (par t a)=BZ t 20 (par t a):=by
    by_cases d:par t a<0
    .rw[Jf d,Jf d]
    .exact M6 h n 20 (par t a) U U U
   have y:=NS hf j h 20 (par t a) U;rw[<-x]at y;omega
  rw [e,bs,AQ w];rfl
theorem dQ(hf:Ai t)(d:k<=t.ca.length)(f:Et t k)(h:0<=a)(j:a<k):MZ t a=Y (Ak t a):=
 D3 (a+1).toNat λn o=>by
  grind [ai,Ak,M6]
theorem ay(hf:Ai t)(h:k<=t.ca.length)(f:Et t k):∀(n:Nat)(a:Int),-1<=a->a<k->a+1<n->GE n t a=Y (BZ t n a)
 |0,_,_,_,_=>by omega|n+1,a,z,u,A=>by
  rw [GE,BZ];by_cases d:a<0
  .grind
  .have w:=f a U u;have x:=hf.Aaw _ (AF (l:=t.ca) (show 0<=a by omega) U);have y:=hf.ea;rw[az b?,az d,AC U U];simp only[bs];have j:BZ t n (par t a)=BZ t 20 (par t a):=by
    by_cases d:par t a<0
    .rw[Jf d,Jf d]
    .exact M6 f n 20 (par t a) U U U
   have o:=NS hf h f 20 (par t a) U;rw[<-j]at o;have q:(BZ t n (par t a)).length+(AA t.ca a).qo.length<=AU:=a_
   rw [show(AA t.ca a).x6=par t a from rfl,ay hf h f n (par t a) U U U,bs,AQ a9];simp only[bs,List.nil_append];rw[AQ q];rfl
theorem da(hf:Ai t)(d:k<=t.ca.length)(f:Et t k)(h:0<=a)(j:a<k):O9 t a=Y (Ak t a):=
 D3 (a+2).toNat λn o=>by
  grind [ay,Ak,M6]
end Go.Sf.Sc
namespace Go.Sf.Sc
open Go Go.Sf
def K7(l:List ByteArray):Int:=
 if (20:Int)<l.length then 3 else(fst (λi=>if Db (AA l i)=T then Y 2 else if nd (λj=>AA l j==AA l i) 0 i=X then Y 5 else W) 0 l.length).getD 0
variable{b:Int}
theorem Z0{l:List ByteArray}{x:ByteArray}(d:0<=b)(f:b<=l.length):(l.take b.toNat).contains x=nd (λj=>AA l j==x) 0 b:=by
 rw [List.contains_eq_any_beq,Qe d f]
 grind
theorem pI{l:List ByteArray}(o:∀x∈l,(x.size:Int)<=40):Iu l=Y (K7 l):=by
 unfold Iu K7;by_cases d:(20:Int)<l.length
 .grind
 .rw[az b?,az d];rw[BF (λi=>if Db (AA l i)=T then Y 2 else if nd (λj=>AA l j==AA l i) 0 i=X then Y 5 else W),CG];intro i f h _;have q:=o _ (AF f h);rw[AC f h,bs,Qp U,bs,DV f U];simp only[bs,P0,Z0 f (show i<=l.length by omega)];cases Db (AA l i)<;>cases nd (λj=>AA l j==AA l i) 0 i<;>rfl
theorem ph{l:List ByteArray}(o:∀x∈l,(x.size:Int)<=40):ME l=Y (K7 l):=by
 unfold ME K7;by_cases d:(20:Int)<l.length
 .grind
 .rw[az b?,az d];rw[BF (λi=>if Db (AA l i)=T then Y 2 else if nd (λj=>AA l j==AA l i) 0 i=X then Y 5 else W),CG];intro i f h _;have q:=o _ (AF f h);rw[AC f h,bs,Qq U,bs,BT (λj=>AA l j==AA l i) 5]
  .cases Db (AA l i)<;>cases nd (λj=>AA l j==AA l i) 0 i<;>rfl
  grind [AC]
def LY(all:List mh)(k:Int):Int:=
 let x:=AA all k
 if Db x.mt=T then 2 else if nd (λj=>(AA all j).mt==x.mt) 0 k=X then 5 else
 if x.sc.length=0 then(if -1000000<=x.zu/\x.zu<=x.yr/\x.yr<=1000000 then 0 else 6)else
 if K7 x.sc≠0 then K7 x.sc else if x.zu=0/\x.yr=x.sc.length-1 then 0 else 6
variable{k:Int}
theorem cN{d:List mh}(q:∀x∈d,SG x)(o:0<=k)(u:k<d.length):FL (AA d k) (d.take k.toNat)=Y (LY d k):=by
 have j:=q _ (AF o u);have A:=j.name;unfold FL LY;dsimp only;rw[Qp U,bs,show(λf=>I0 f (AA d k))=(λf=>Y (f.mt==(AA d k).mt))from rfl,oU,bs,Qe o U,pI j.each,bs];have w:=j.names;have y:AH ((AA d k).sc.length-1)=(AA d k).sc.length-1:=AV U U;rw[y];have z:(AA d k).sc.length=0->K7 (AA d k).sc=0:=λh=>by rw[List.eq_nil_of_length_eq_zero h];rfl
 generalize K7 (AA d k).sc=e at z|-;simp only[bs,yk,w!,sx,w?,decide_eq_false_iff_not,x_,x!,x?,ne_eq]
 repeat' (first|rfl|(exfalso;omega;done)|split)
 all_goals (first|rfl|(exfalso;omega)|omega|simp_all|(simp_all;omega))
theorem cP{x:mh}(d:SG x):IN x=Y (
 if x.sc.length=0 then(if -1000000<=x.zu/\x.zu<=x.yr/\x.yr<=1000000 then 0 else 6)else
 if K7 x.sc≠0 then K7 x.sc else if x.zu=0/\x.yr=x.sc.length-1 then 0 else 6):=by
 have f:=d.names;have h:AH (x.sc.length-1)=x.sc.length-1:=AV U U;unfold IN DU;simp only[bs,h,ph d.each];generalize K7 x.sc=e;simp only[bs,yk,w!,sx,w?,decide_eq_false_iff_not,x_,x!,x?,ne_eq]
 repeat' (first|rfl|(exfalso;omega;done)|split)
 all_goals (first|rfl|(exfalso;omega)|omega|simp_all|(simp_all;omega))
def Hl(t:eb)(i:Int):Int:=
 let n:=AA t.ca i
 if Db n.mt=T then 2 else if nd (λj=>(AA t.ca j).mt==n.mt) 0 i=X then 5 else
 if n.x6< -1\/i<=n.x6 then 6 else if 4<n.qo.length\/8<(Ak t i).length then 3 else
 (fst (λk=>nz (LY (Ak t i) k)) ((Ak t i).length-n.qo.length) (Ak t i).length).getD 0
variable{t:eb}{i:Int}
theorem WL(d:0<=i):(AA t.ca i).qo.length<=(Ak t i).length:=by
 unfold Ak;rw[show(i+1).toNat=i.toNat+1 by omega,BZ,az U,bk];omega
theorem Et.next(h:Et t i)(f:-1<=par t i)(o:par t i<i):Et t (i+1):=by
 intro j d q;by_cases u:j=i
 .grind
 .exact h j d U
theorem sF(hf:Ai t)(f:0<=i)(w:i<t.ca.length)(A:Et t i):Jz t i=Y (Hl t i):=by
 have C:=hf.name _ (AF f w);unfold Jz Hl;dsimp only;rw[AC f w,bs,Qp U,bs,DV f U,bs,show(λq=>ON q (AA t.ca i))=(λq=>Y (q.mt==(AA t.ca i).mt))from rfl,b9,bs,Qe f U];cases Db (AA t.ca i).mt
 .rfl
 .cases nd (λj=>(AA t.ca j).mt==(AA t.ca i).mt) 0 i
  .by_cases h:(AA t.ca i).x6< -1\/i<=(AA t.ca i).x6
   .rcases h with h|h<;>simp[h]
   .have d:Et t (i+1):=A.next (by unfold par;omega) (by unfold par;omega)
    have u:(decide ((AA t.ca i).x6< -1)||decide (i<=(AA t.ca i).x6))=T:=by
     rw [y_];simpa using h
    rw [dQ hf (k:=i+1) U d f U,bs];have y:=Gi hf (k:=i+1) (a:=i) U d U;have z:=WL (t:=t) f;have o:=NU hf (k:=i+1) (a:=i) U d U;rw[AV U U,BF (λk=>nz (LY (Ak t i) k)),CG]
    .simp only[u,h,y!,w_,if_false];simp only[bs,yk,w!,sx,w?,decide_eq_false_iff_not,x_,x!,x?,ne_eq]
     repeat' (first|rfl|(exfalso;omega;done)|split)
     all_goals (first|rfl|(exfalso;omega)|omega|simp_all|(simp_all;omega))
    .intro k B x _;rw[AC U x,bs,DV U U,bs,cN o U x,bs,L9]
  .rfl
theorem sb(hf:Ai t)(h:0<=i)(q:i<t.ca.length)(A:Et t i):Nx t i=Y (Hl t i):=by
 have E:=hf.name _ (AF h q);have F:=hf.ea;unfold Nx Hl DU;dsimp only;rw[AC h q,bs,Qq U,bs,BT (λj=>(AA t.ca j).mt==(AA t.ca i).mt) 5]
 .cases Db (AA t.ca i).mt
  .rfl
  .cases nd (λj=>(AA t.ca j).mt==(AA t.ca i).mt) 0 i
   .simp only[y!,w_,if_false,Bc,bs];rw[AV U U];by_cases w:(AA t.ca i).x6< -1\/i<=(AA t.ca i).x6
    .rw[ae,az a?,ae w];simp;omega
    .have d:Et t (i+1):=A.next (by unfold par;omega) (by unfold par;omega)
     rw [az an,az a?,az w];rw[da hf (k:=i+1) U d h U,bs];have x:=Gi hf (k:=i+1) (a:=i) U d U;have y:=WL (t:=t) h;have f:=NU hf (k:=i+1) (a:=i) U d U;rw[AV U U];rw[BF (λk=>nz (LY (Ak t i) k)),CG]
     .simp only[bs,yk,w!,sx,w?,decide_eq_false_iff_not,x_,x!,x?,ne_eq]
      repeat' (first|rfl|(exfalso;omega;done)|split)
      all_goals (first|rfl|(exfalso;omega)|omega|simp_all|(simp_all;omega))
     .intro k u o _;have z:=f _ (AF (show 0<=k by omega) o);have C:=z.name;simp only[AC (show 0<=k by omega) o,bs];rw[Qq U,bs,BT (λj=>(AA (Ak t i) j).mt==(AA (Ak t i) k).mt) 5]
      .rw[cP z];simp only[bs,L9];unfold LY;dsimp only;cases Db (AA (Ak t i) k).mt
       .rfl
       .cases nd (λj=>(AA (Ak t i) j).mt==(AA (Ak t i) k).mt) 0 k<;>rfl
      .intro j B D _;rw[AC B U,bs];split<;>rfl
   .rfl
 .intro j u o _;rw[AC u U,bs];split<;>rfl
def Kw(low high:Int):Bool:=((decide (0<=low))&&(decide (low<=40)))&&((decide (high=(-1)))||((decide (low<=high))&&(decide (high<=40))))
theorem pU(low high:Int):KK low high=Y (Kw low high):=by
 unfold KK Kw DU
 grind
def Ji(t:eb)(i:Int):Int:=
 let x:=AA t.ci i
 if Db x.mt=T then 2 else if nd (λj=>(AA t.ci j).mt==x.mt) 0 i=X then 5 else
 if (0<=x.kq/\x.kq<t.ca.length)/\(0<=x.To/\x.To<t.ca.length)/\Kw x.zV x.zx=X/\Kw x.Aao x.zU=X then 0 else 6
theorem r6(hf:Ai t)(d:0<=i)(h:i<t.ci.length):Jx t i=Y (Ji t i):=by
 have o:=hf.Aa2 _ (AF d h);unfold Jx Ji LU;dsimp only;rw[AC d h,bs,Qp U,bs,DV d U,bs,show(λf=>OM f (AA t.ci i))=(λf=>Y (f.mt==(AA t.ci i).mt))from rfl,b8,bs,Qe d U];simp[show∀a b,KE a b=Y (Kw a b)from λ_ _=>rfl];generalize Db (AA t.ci i).mt=b1;generalize nd (λj=>(AA t.ci j).mt==(AA t.ci i).mt) 0 i=b2;generalize Kw (AA t.ci i).zV (AA t.ci i).zx=b3;generalize Kw (AA t.ci i).Aao (AA t.ci i).zU=b4;cases b1
 .rfl
 grind
theorem sU(hf:Ai t)(o:0<=i)(q:i<t.ci.length):Nw t i=Y (Ji t i):=by
 have w:=hf.Aa2 _ (AF o q);have x:=hf.ea;unfold Nw Ji DU;dsimp only;rw[AC o q,bs,Qq U,bs,BT (λj=>(AA t.ci j).mt==(AA t.ci i).mt) 5]
 .simp only[AV (show -9223372036854775808<=(t.ca.length:Int)-1 by omega) U,pU,bs];generalize Db (AA t.ci i).mt=b1;generalize nd (λj=>(AA t.ci j).mt==(AA t.ci i).mt) 0 i=b2;generalize Kw (AA t.ci i).zV (AA t.ci i).zx=b3;generalize Kw (AA t.ci i).Aao (AA t.ci i).zU=b4;cases b1
  .rfl
  .cases b2
   .cases b3<;>cases b4
    all_goals
     by_cases f:0<=(AA t.ci i).kq/\(AA t.ci i).kq<t.ca.length
     .have d:(AA t.ci i).kq<=(t.ca.length:Int)-1:=U
      by_cases u:0<=(AA t.ci i).To/\(AA t.ci i).To<t.ca.length
      .have h:(AA t.ci i).To<=(t.ca.length:Int)-1:=U
       simp [f,u,d,h,Bc]
      .have:(decide (0<=(AA t.ci i).To)&&decide ((AA t.ci i).To<=(t.ca.length:Int)-1))=T:=f_
       simp [f,u,d,this,Bc]
     .have:(decide (0<=(AA t.ci i).kq)&&decide ((AA t.ci i).kq<=(t.ca.length:Int)-1))=T:=f_
      simp [f,this,Bc]
   .rfl
 grind [AC]
def As(t:eb):ByteArray×Int:=
 if t.ca.length=0 then(⟨#[]⟩,7)else if 12<t.ca.length\/20<t.ci.length then(⟨#[]⟩,3)else
 match fst (λi=>(nz (Hl t i)).map λe=>((AA t.ca i).mt,e)) 0 t.ca.length with
 |some r=>r|none=>(fst (λi=>(nz (Ji t i)).map λe=>((AA t.ci i).mt,e)) 0 t.ci.length).getD (⟨#[]⟩,0)
theorem iV(h:Hl t i=0):-1<=par t i/\par t i<i:=by grind[Hl,par,AA]
theorem K5{α β:Type}{o:Option α}{g:α->β}:o.map g=W↔o=W:=by cases o<;>simp
theorem Vn(h:∀j,0<=j->j<i->Hl t j=0):Et t i:=λj d f=>iV (h j d f)
theorem U4{ρ:Type}(e:Int)(n:ByteArray):(if(!decide (e=0))=X then Y (Be.ret (n,e))else Y (Be.next ()))=Y (Qd ((nz e).map λe=>(n,e))):=by grind[nz,Qd]
theorem Of(hf:Ai t):DM t=Y (As t):=by
 unfold DM As;rw[BF (λi=>(nz (Hl t i)).map λe=>((AA t.ca i).mt,e)),Cy]
 .rw[BF (λi=>(nz (Ji t i)).map λe=>((AA t.ci i).mt,e)),Cy]
  .cases fst (λi=>(nz (Hl t i)).map λe=>((AA t.ca i).mt,e)) 0 t.ca.length<;>cases fst (λi=>(nz (Ji t i)).map λe=>((AA t.ci i).mt,e)) 0 t.ci.length
   all_goals dsimp only
   all_goals try simp only[u!]
   all_goals
    simp only[bs,yk,w!,sx,w?,decide_eq_false_iff_not,x_,x!,x?,ne_eq]
    repeat' (first|rfl|(exfalso;omega;done)|split)
    all_goals (first|rfl|(exfalso;omega)|omega|simp_all|(simp_all;omega))
  .intro i d f _;rw[AC d f,bs,r6 hf d f,bs];exact U4 (ρ:=Unit) _ _
 .intro i d f q;have u:Et t i:=Vn λj h o=>FP.1 (K5.1 (q j h o));rw[AC d f,bs,sF hf d f u,bs];exact U4 (ρ:=Unit) _ _
theorem QW(hf:Ai t):Ez t=Y (As t):=by
 unfold Ez As;rw[BF (λi=>(nz (Hl t i)).map λe=>((AA t.ca i).mt,e)),Cy]
 .rw[BF (λi=>(nz (Ji t i)).map λe=>((AA t.ci i).mt,e)),Cy]
  .cases fst (λi=>(nz (Hl t i)).map λe=>((AA t.ca i).mt,e)) 0 t.ca.length<;>cases fst (λi=>(nz (Ji t i)).map λe=>((AA t.ci i).mt,e)) 0 t.ci.length
   all_goals dsimp only
   all_goals try simp only[u!]
   all_goals
    simp only[bs,yk,w!,sx,w?,decide_eq_false_iff_not,x_,x!,x?,ne_eq]
    repeat' (first|rfl|(exfalso;omega;done)|split)
    all_goals (first|rfl|(exfalso;omega)|omega|simp_all|(simp_all;omega))
  .intro i d f _;simp only[sU hf d f,AC d f,bs];exact U4 (ρ:=Unit) _ _
 .intro i d f q;have u:Et t i:=Vn λj h o=>FP.1 (K5.1 (q j h o));simp only[sb hf d f u,AC d f,bs];exact U4 (ρ:=Unit) _ _
end Go.Sf.Sc
namespace Go.Sf.Sc
open Go Go.Sf
theorem JF{α:Type}{c:Bool}{a b:α}:(if c=X then Y a else Y b)=Y (if c=X then a else b):=by cases c<;>rfl
def Mf(n:Int):Bool:=(decide (0<=n))&&(decide (n<=99))
def SS(e:Bo)(n:Int):Bool:=Mf e.kp&&(decide (0<=e.kq)&&decide (e.kq<n))&&(decide (0<=e.To)&&decide (e.To<n))
def Bn(g:d3):Int:=
 if 40<g.ca.length\/80<g.ci.length then 3 else if(g.ca.any λn=>!Mf n)=X then 6 else if(g.ci.any λe=>!SS e g.ca.length)=X then 6 else 0
structure CQ(g:d3):Prop where
 ea:g.ca.length<=40
 ec:g.ci.length<=80
 kind:∀n∈g.ca,0<=n/\n<=99
 fit:∀e∈g.ci,(0<=e.kp/\e.kp<=99)/\(0<=e.kq/\e.kq<g.ca.length)/\(0<=e.To/\e.To<g.ca.length)
variable{g:d3}
theorem Cs(h:Bn g=0):CQ g:=by
 unfold Bn at h;split at h
 .cases h
 .split at h
  .cases h
  .split at h
   .cases h
   .rename_i o f d;refine⟨U,U,λn j=>?_,λe he=>?_⟩
    .rw[y?,z_]at f
     grind [Mf]
    .rw[y?,z_]at d;have:=d e he;simp[SS,Mf,w?,yk]at this;omega
theorem sA{e:Bo}{n:Nat}(h:n<=40):Ng e n=Y (SS e n):=by
 unfold Ng HI SS Mf;simp only[bs,AV (show -9223372036854775808<=(n:Int)-1 by omega) U];have d:decide (e.kq<=(n:Int)-1)=decide (e.kq<n):=i9
 have f:decide (e.To<=(n:Int)-1)=decide (e.To<n):=i9
 rw [d,f];generalize (decide (0<=e.kp)&&decide (e.kp<=99))=b1;generalize (decide (0<=e.kq)&&decide (e.kq<n))=b2;cases b1<;>cases b2<;>simp
theorem Lf(g:d3):Cp g=Y (Bn g):=by
 unfold Cp Bn;by_cases h:40<g.ca.length\/80<g.ci.length
 .grind
 .rw[az an,az h,show Md=(λn=>Y (!Mf n))from rfl,Zv,cm (p:=λe=>!SS e g.ca.length) (λe _=>by
   grind [Me,sA])]
  grind
theorem Lg(g:d3):DL g=Y (Bn g):=by
 unfold DL Bn;by_cases h:40<g.ca.length\/80<g.ci.length
 .grind
 .rw[az an,az h,H8,H8,BT (λi=>!Mf (AA g.ca i)) 6]
  .rw[BT (λi=>!SS (AA g.ci i) g.ca.length) 6]
   .cases nd (λi=>!Mf (AA g.ca i)) 0 g.ca.length
    .cases nd (λi=>!SS (AA g.ci i) g.ca.length) 0 g.ci.length<;>rfl
    .rfl
   .intro i d f _;rw[AC d f,bs];unfold PA SS;simp[show∀n,Lh n=Y (Mf n)from λ_=>rfl]
    grind
  grind [AC,Lh,AA,Mf]
def CP(t:eb)(g:d3):Bool:=!(g.ca.any λn=>decide (t.ca.length<=n))&&!(g.ci.any λe=>decide (t.ci.length<=e.kp))
variable{t:eb}
theorem Hg(d:CQ g)(h:CP t g=X):(∀n∈g.ca,0<=n/\n<t.ca.length)/\∀e∈g.ci,0<=e.kp/\e.kp<t.ci.length:=by
 unfold CP at h;simp[w?,yk]at h;refine⟨λn f=>?_,λe he=>?_⟩
 .have:=h.1 n f;have:=d.kind n f;omega
 .have:=h.2 e he;have:=d.fit e he;omega
theorem pO(t:eb)(g:d3):Jq t g=Y (CP t g):=by grind[Jq,CP,OG,Zv,OH,Bo,cp]
theorem Xw(h:CQ g):Gw t g=Y (CP t g):=by
 unfold Gw CP;rw[H8,H8,BT (λi=>decide (t.ca.length<=AA g.ca i)) T]
 .rw[BT (λi=>decide (t.ci.length<=(AA g.ci i).kp)) T]
  .cases nd (λi=>decide (t.ca.length<=AA g.ca i)) 0 g.ca.length
   .cases nd (λi=>decide (t.ci.length<=(AA g.ci i).kp)) 0 g.ci.length<;>rfl
   .rfl
  .intro i d f _;have:=(h.fit _ (AF d f)).1.1;simp[AC d f]
   grind
 .intro i d f _;have:=(h.kind _ (AF d f)).1;simp[AC d f]
  grind
structure Fm(t:eb):Prop where
 ea:t.ca.length<=12
 ec:t.ci.length<=20
 node:∀i:Int,0<=i->i<t.ca.length->Hl t i=0
 edge:∀i:Int,0<=i->i<t.ci.length->Ji t i=0
theorem C6(h:(As t).2=0):Fm t:=by
 unfold As at h;split at h
 .cases h
 .split at h
  .cases h
  .rename_i u w;have f:∀i:Int,0<=i->i<t.ca.length->Hl t i=0:=by
    grind [C2,nz,FP,K5,Az]
   have he:∀i:Int,0<=i->i<t.ci.length->Ji t i=0:=by
    split at h
    next r d=>obtain⟨i,o,q,j,_⟩:=C2 d;rw[f i o q]at j;cases j
    .cases d:fst (λi=>(nz (Ji t i)).map λe=>((AA t.ci i).mt,e)) 0 t.ci.length with
     |some r=>
      grind [C2,nz]
     |none=>
      grind [FP,K5,Az]
   exact ⟨U,U,f,he⟩
theorem Fm.par(h:Fm t):Et t t.ca.length:=Vn h.node
variable{i:Int}
theorem Fm.ends(h:Fm t)(d:0<=i)(f:i<t.ci.length):(0<=(AA t.ci i).kq/\(AA t.ci i).kq<t.ca.length)/\(0<=(AA t.ci i).To/\(AA t.ci i).To<t.ca.length):=by
 have:=h.edge i d f
 grind [Ji]
def Kf(t:eb)(a:Int):Bool:=decide (0<=a)&&decide (a<t.ca.length)
variable{a:Int}
theorem NA:Kf t a=X↔0<=a/\a<t.ca.length:=by unfold Kf;simp
theorem Xp(hf:Ai t)(l:Fp):GB t l=Y (if(As t).2≠0 then(As t).2 else if(l.all (Kf t))=X then 0 else 6):=by
 unfold GB;rw[Of hf,bs,Tu (p:=λa=>!Kf t a) (λa _=>by unfold Ms Kf;rw[show decide (a<0)=!decide (0<=a)from by rw[<-decide_not,decide_eq_decide];omega,show decide ((t.ca.length:Int)<=a)=!decide (a<t.ca.length)from by rw[<-decide_not,decide_eq_decide];omega,Bool.not_and]),bs]
 grind
theorem de(hf:Ai t)(a b:Int):KL t a b=Y (if(As t).2≠0 then(As t).2 else if(Kf t a&&Kf t b)=X then 0 else 6):=by
 have d:=hf.ea;have e:∀a,decide (a<=(t.ca.length:Int)-1)=decide (a<(t.ca.length:Int)):=λa=>i9
 unfold KL DU;rw[QW hf,bs]
 grind [AV,As,Kf]
theorem ji{α:Type}[Inhabited α]{l:List α}(d:0<=i)(f:i<l.length):Av l i (AA l i)=l:=by grind[Av,AA,z!,List.set_getElem_self]
theorem Bb{α:Type}[Inhabited α]{l:List α}(d:0<=i)(f:i<l.length):l.take (i+1).toNat=l.take i.toNat++[AA l i]:=by
 unfold AA;rw[show(i+1).toNat=i.toNat+1 by omega,List.take_add_one,z?,z! U];rfl
theorem Ap{α:Type}{l:List α}(h:l.length<=AU):AT [] l=Y l:=by grind[AQ]
def Eg(t:eb)(a:Int):List mh×Int:=if(As t).2≠0 then([],(As t).2)else if Kf t a=X then(Ak t a,0)else([],6)
theorem R3(hf:Ai t)(a:Int):ES t a=Y (Eg t a):=by
 unfold ES Eg;rw[Xp hf,bs];by_cases h:(As t).2=0
 .have j:=C6 h;have e:[a].all (Kf t)=Kf t a:=V
  rw [e];simp[h];cases hi:Kf t a
  .rfl
  .rw[ae rfl,ae rfl];have o:=NA.1 hi;have D:=Gi hf (v6 _) j.par o.2;have B:=NU hf (v6 _) j.par o.2;rw[az a?,dQ hf (v6 _) j.par o.1 o.2,bs];obtain⟨s',C,rfl⟩:=Mw (f:=(λ(q:Int)(u:List mh)=>
 (idx u q).bind λw=>
 (slices_Clone_string w.sc).bind λx=>
 (idx u q).bind λd=>
 Y (Av u q (mh.mk d.mt d.zu d.yr x)))) (λ_ s=>s=Ak t a) (a:=0) (b:=(Ak t a).length) (s:=Ak t a) U rfl (λi s y z A=>by
     subst A;have:=(B _ (AF y z)).names;refine⟨Ak t a,?_,rfl⟩;unfold slices_Clone_string;rw[AC y z,bs,Ap a_,bs,bs];congr 1;exact ji y z)
   rw [C];rfl
 .simp[h,not_false_eq_true,decide_false]
theorem NF(hf:Ai t)(a:Int):Dv t a=Y (Eg t a):=by
 unfold Dv Eg;rw[de hf,bs];by_cases h:(As t).2=0
 .have d:=C6 h;rw[Bool.and_self];simp only[h,ne_eq,not_true_eq_false,if_false];cases hi:Kf t a
  .rfl
  .rw[ae rfl,ae rfl];have f:=NA.1 hi;have u:=Gi hf (v6 _) d.par f.2;have q:=NU hf (v6 _) d.par f.2;rw[az a?,da hf (v6 _) d.par f.1 f.2,bs];rw[BY (λi=>(Ak t a).take i.toNat) U V]
   .rw[bs,v9,A_]
   .intro i j o;have:=(q _ (AF j o)).names;rw[AC j o,bs,Ap a_,bs,AQ (by rw[cE];simp;unfold AU;omega),Bb j o];rfl
 grind
theorem EY(h:CQ g):Bn g=0:=by
 have:=h.ea;have:=h.ec;unfold Bn;rw[az U,az,az]
 .intro k;obtain⟨e,he,k⟩:=A'.1 k;have:=h.fit e he;simp[SS,Mf]at k;omega
 .intro k;obtain⟨n,d,k⟩:=A'.1 k;have:=h.kind n d;simp[Mf]at k;omega
end Go.Sf.Sc
namespace Go.Sf.Sc
open Go Go.Sf
def P1(t:eb):Nat->Int->Fp
 |0,_=>[]|n+1,a=>if a<0 then[]else a::P1 t n (par t a)
theorem d9(t:eb):∀(n:Nat)(a:Int),(P1 t n a).length<=n
 |0,_=>by simp[P1]|n+1,a=>by
  rw [P1];split
  .simp
  .have:=d9 t n (par t a);simp;omega
def Ho(t:eb)(a b:Int):Bool:=(P1 t (a+1).toNat a).any λx=>decide (b=x)
variable{t:eb}
theorem dI(f:t.ca.length<=12)(q:Et t t.ca.length):∀(n:Nat)(a:Int)(l:Fp),a<t.ca.length->a<n->l.length+n<=1000 ->
  ∃x,Ks (ρ:=Fp) (λ(d:Int×Fp)=>
 if (decide (0<=d.1))=X then
 (AT d.2 [d.1]).bind λh=>
 (idx t.ca d.1).bind λj=>
 Y (.next (j.x6,h))
 else
 Y (.brk (d.1,d.2))) (a,l) (.inl (x,l++P1 t n a))
 |0,a,l,o,u,_=>by
  refine ⟨a,.brk ?_⟩
  grind [P1]
 |n+1,a,l,o,u,A=>by
  by_cases w:a<0
  .refine⟨a,.brk ?_⟩
   grind [P1]
  .have y:=q a U o;obtain⟨x,z⟩:=dI f q n (par t a) (l++[a]) U U an;refine⟨x,.next (s':=(par t a,l++[a])) ?_ ?_⟩
   .rw[ae an,AQ a9,bs,AC U o];rfl
   grind [P1,par]
variable{a b:Int}
theorem lW(h:Fm t)(o:0<=a)(d:a<t.ca.length):Jy t a b=Y (Ho t a b):=by
 have f:=h.ea;obtain⟨x,j⟩:=dI f h.par (a+1).toNat a [] d U an;have q:=d9 t (a+1).toNat a;unfold Jy Lx;rw[j.eq,Bc]
 grind [slices_Reverse_int,AU,L7,Ho]
theorem Vr(d:Et t t.ca.length)(j:0<=b):∀(n m:Nat)(a:Int),-1<=a->a<t.ca.length->a+1<n->a<m->FV n t a b=Y ((P1 t m a).any λx=>decide (b=x))
 |0,_,_,_,_,_,_=>by omega|n+1,m,a,q,h,u,w=>by
  rw [FV];by_cases f:a<0
  .rw[az an,az an];cases m<;>simp[P1,f]
  .cases m with
   |zero=>omega|succ m=>
    have o:=d a U h;rw[P1,az f,List.any_cons,ae (show decide (0<=a)=X by simp;omega),AC U h];simp;rw[show(AA t.ca a).x6=par t a from rfl,Vr d j n m (par t a) U U U U]
    grind
theorem VB(h:Fm t)(j:0<=a)(d:a<t.ca.length)(f:0<=b):FE t a b=Y (Ho t a b):=
 D3 (a+2).toNat λn o=>Vr h.par f n (a+1).toNat a U d U U
def O0(t:eb)(e f g:Int):Bool:=
 decide ((As t).2=0)&&(Kf t f&&Kf t g)&&(decide (0<=e)&&decide (e<t.ci.length))&&(Ho t f (AA t.ci e).kq&&Ho t g (AA t.ci e).To)
theorem ic(hf:Ai t)(e f g:Int):IZ t e f g=Y (O0 t e f g):=by
 unfold IZ O0;rw[Xp hf,bs,show[f,g].all (Kf t)=(Kf t f&&Kf t g)by simp];by_cases h:(As t).2=0
 .simp only[h,ne_eq,not_true_eq_false,if_false];have d:=C6 h;cases hi:(Kf t f&&Kf t g)
  .rfl
  .rw[sx,NA,NA]at hi;by_cases he:0<=e/\e<t.ci.length
   .rw[az an,AC he.1 he.2];simp[lW d hi.1.1 hi.1.2,lW d hi.2.1 hi.2.2,he.1,he.2,decide_true]
    grind
   grind
 .simp[h]
theorem XB(hf:Ai t)(e f g:Int):IM t e f g=Y (O0 t e f g):=by
 have u:=hf.ec;unfold IM O0 DU;rw[de hf,bs];by_cases h:(As t).2=0
 .simp only[h,ne_eq,not_true_eq_false,if_false];have d:=C6 h;cases hi:(Kf t f&&Kf t g)
  .rfl
  .rw[sx,NA,NA]at hi;rw[AV U U];simp only[bs];by_cases he:0<=e/\e<t.ci.length
   .have j:=d.ends he.1 he.2;have o:e<=(t.ci.length:Int)-1:=U
    rw [az V,bs,az (by simp[he.1,o]),AC he.1 he.2];simp[VB d hi.1.1 hi.1.2 j.1.1,VB d hi.2.1 hi.2.2 j.2.1,he.1,he.2,decide_true];cases Ho t f (AA t.ci e).kq<;>rfl
   .have:(decide (0<=e)&&decide (e<t.ci.length))=T:=by rw[y_];simpa using he
    have q:(decide (0<=e)&&decide (e<=(t.ci.length:Int)-1))=T:=f_
    rw [this,q];simp
 .simp[h]
def Mr(n:Int)(x:j4):Bool:=(((decide ((-1)<=x.Var))&&(decide (x.Var<n)))&&(decide ((-1000000)<=x.Add)))&&(decide (x.Add<=1000000))
def Jv(n:Int)(x:Test):Int:=if¬x.l3=1/\¬x.l3=2 then 1 else if(Mr n x.kg&&Mr n x.fq)=X then 0 else 6
def IX(n:Int)(l:List Test):Int:=if n<0\/12<n then 6 else if 40<l.length then 3 else(fst (λi=>nz (Jv n (AA l i))) 0 l.length).getD 0
theorem sK(n:Int)(x:Test):I8 n x=Y (Jv n x):=by
 unfold I8 Jv;simp only[show∀n x,IE n x=Y (Mr n x)from λ_ _=>rfl,bs];generalize Mr n x.kg=b1;generalize Mr n x.fq=b2;cases b1<;>cases b2
 all_goals
  simp only[bs,yk,w!,sx,w?,decide_eq_false_iff_not,x_,x!,x?,ne_eq]
  repeat' (first|rfl|(exfalso;omega;done)|split)
  all_goals (first|rfl|(exfalso;omega)|omega|simp_all|(simp_all;omega))
theorem mA(n:Int)(x:j4):JH n x=Y (if Mr n x=X then 0 else 6):=by
 unfold JH Mr;simp only[bs,yk,w!,sx,w?,decide_eq_false_iff_not,x_,x!,x?,ne_eq]
 repeat' (first|rfl|(exfalso;omega;done)|split)
 all_goals (first|rfl|(exfalso;omega)|omega|simp_all|(simp_all;omega))
theorem si(n:Int)(x:Test):Pb n x=Y (Jv n x):=by
 unfold Pb Jv;simp only[mA,bs];generalize Mr n x.kg=b1;generalize Mr n x.fq=b2;cases b1<;>cases b2
 all_goals
  simp only[bs,yk,w!,sx,w?,decide_eq_false_iff_not,x_,x!,x?,ne_eq]
  repeat' (first|rfl|(exfalso;omega;done)|split)
  all_goals (first|rfl|(exfalso;omega)|omega|simp_all|(simp_all;omega))
theorem pN(n:Int)(l:List Test):HE n l=Y (IX n l):=by
 unfold HE IX;rw[BF (λi=>nz (Jv n (AA l i))),CG]
 .simp only[bs,yk,w!,sx,w?,decide_eq_false_iff_not,x_,x!,x?,ne_eq]
  repeat' (first|rfl|(exfalso;omega;done)|split)
  all_goals (first|rfl|(exfalso;omega)|omega|simp_all|(simp_all;omega))
 .intro i d f _;rw[AC d f,bs,sK,bs,L9]
theorem pw(n:Int)(l:List Test):MD n l=Y (IX n l):=by
 unfold MD IX;rw[BF (λi=>nz (Jv n (AA l i))),CG]
 .simp only[bs,yk,w!,sx,w?,decide_eq_false_iff_not,x_,x!,x?,ne_eq]
  repeat' (first|rfl|(exfalso;omega;done)|split)
  all_goals (first|rfl|(exfalso;omega)|omega|simp_all|(simp_all;omega))
 .intro i d f _;rw[AC d f,bs,si,bs,L9]
def Q4(t:eb)(p:d7)(node ix:Int):mh×Bool:=
 if node<0\/p.d3.ca.length<=node then(default,T)else
 let l:=(Eg t (AA p.d3.ca node)).1
 if ix<0\/l.length<=ix then(default,T)else(AA l ix,X)
theorem SL(hf:Ai t)(a:Int):(Eg t a).1.length<=600/\((Eg t a).2≠0->(Eg t a).1=[]):=by
 unfold Eg;split
 .simp
 .rename_i h;have d:=C6 (t:=t) U;split
  next hi=>exact⟨Gi hf (v6 _) d.par (NA.1 hi).2,V⟩
  .simp
variable{p:d7}
theorem o9(hf:Ai t)(d:CQ p.d3)(s:Bw):Fo t p s=Y (Q4 t p s.po s.mh):=by
 have j:=d.ea;unfold Fo Q4 CU;dsimp only;rw[AV U U,bs];by_cases h:s.po<0\/p.d3.ca.length<=s.po
 .rw[ae an,ae h];rfl
 .rw[az an,az h,AC U U,bs,R3 hf,bs];have o:=(SL hf (AA p.d3.ca s.po)).1;rw[AV U U,bs];by_cases f:s.mh<0\/(Eg t (AA p.d3.ca s.po)).1.length<=s.mh
  .rw[ae an,ae f];rfl
  grind [AC]
theorem pT(hf:Ai t)(node d:Int):N6 t p node d=Y (Q4 t p node d):=by
 unfold N6 Q4;dsimp only;by_cases h:node<0\/p.d3.ca.length<=node
 .rw[ae an,ae h];rfl
 .rw[az an,az h,AC U U,bs,NF hf,bs];have j:=(SL hf (AA p.d3.ca node)).2;by_cases f:d<0\/(Eg t (AA p.d3.ca node)).1.length<=d
  .rw[ae an,ae f];rfl
  grind [Eg,AA,AC]
end Go.Sf.Sc
namespace Go.Sf
variable{σ ρ:Type}
def jo(s:σ)(o:Option ρ):Be σ ρ:=match o with
 |none=>.next s|some r=>.ret r
def oF(s:σ)(o:Option ρ):σ ⊕ ρ:=match o with
 |none=>.inl s|some r=>.inr r
theorem aH{f:Int->σ->Option (Be σ ρ)}(g:Int->σ)(c:Int->Option ρ):∀(n:Nat)(a:Int),
  (∀i,a<=i->i<a+n->(∀j,a<=j->j<i->c j=W)->f i (g i)=Y (jo (g (i+1)) (c i)))->yf f n a (g a)=Y (oF (g (a+n)) (Ew c n a))
 |0,a,_=>by simp[yf,Ew,oF]|n+1,a,h=>by
  have q:=h a (v6 _) U (λj d o=>U);rw[EW,q,Ew];cases y:c a with
  |some r=>rfl|none=>
   simp only[jo];rw[show a+((n+1:Nat):Int)=a+1+n by omega];refine aH g c n (a+1) (λi d o u=>h i U U (λj w x=>?_))
   grind
variable{a b:Int}
theorem JC{f:Int->σ->Option (Be σ ρ)}(g:Int->σ)(c:Int->Option ρ){s:σ}(d:a<=b)(o:s=g a)(h:∀i,a<=i->i<b->(∀j,a<=j->j<i->c j=W)->f i (g i)=Y (jo (g (i+1)) (c i))):kl f a b s=Y (oF (g b) (fst c a b)):=by
 subst o;unfold kl fst;have:=aH g c (b-a).toNat a (λi q w u=>h i q U u)
 grind
variable{α:Type}
variable{e:Int}
theorem DN{ζ:a5}{δ:Int}(h:e=0->ζ=Y δ):(if(!decide (e=0))=X then Y e else ζ)=Y (if e≠0 then e else δ):=l!
variable{v:α}{ζ:Option α}{δ:α}
theorem CL(h:e=0->ζ=Y δ):(if(!decide (e=0))=X then Y v else ζ)=Y (if e≠0 then v else δ):=l!
variable{P:Prop}
theorem GM[Decidable P]{b:Bool}(d:b=X↔P)(h:¬P->ζ=Y δ):(if b=X then Y v else ζ)=Y (if P then v else δ):=l!
theorem WR{b:Bool}(h:b=X->ζ=Y δ):(if(!b)=X then Y v else ζ)=Y (if b=T then v else δ):=l!
theorem Zw{b:Bool}(h:b=T->ζ=Y δ):(if b=X then Y v else ζ)=Y (if b=X then v else δ):=l!
end Go.Sf
namespace Go.Sf.Sc
open Go Go.Sf
def RX(t:eb)(p:d7)(s:Bw):Bool:=!(Q4 t p s.po s.mh).2||decide (s.j4.Var< -1)||decide (p.ff<=s.j4.Var)||(decide (s.j4.Add< -1000000)||decide (1000000<s.j4.Add))
def Gn(p:d7)(v:Int):Bool:=p.ed.any λs=>decide (s.j4.Var=v)
def EQ(t:eb)(p:d7):Int:=
 if (As t).2≠0 then(As t).2 else if Bn p.d3≠0 then Bn p.d3 else if CP t p.d3=T then 13 else
 if p.ff<0\/12<p.ff then 6 else if 10<p.ed.length\/10<p.mo.length then 3 else
 if (p.ed.any (RX t p))=X then 6 else if IX p.ff p.mo≠0 then IX p.ff p.mo else
 if nd (λv=>!Gn p v) 0 p.ff=X then 9 else 0
def J0(p:d7)(i:Int):a6:=(List.range p.ff.toNat).map λ(v:Nat)=>(p.ed.take i.toNat).any λs=>decide (s.j4.Var=(v:Int))
variable{p:d7}
theorem gO:J0 p 0=List.replicate p.ff.toNat T:=by
 unfold J0;refine A! V (λn d f=>V)
theorem kE(p:d7)(i:Int):(J0 p i).length=p.ff.toNat:=by simp[J0]
variable{i:Int}
theorem kF(d:0<=i)(f:i<p.ed.length)(hv:0<=(AA p.ed i).j4.Var):Av (J0 p i) (AA p.ed i).j4.Var X=J0 p (i+1):=by
 unfold Av;refine A! (by simp[J0]) (λn h j=>?_);simp[J0,Bb d f]
 grind
theorem gN(d:0<=i)(f:i<p.ed.length)(hv:(AA p.ed i).j4.Var<0):J0 p i=J0 p (i+1):=by
 refine A! (by simp[J0]) (λn h j=>?_);simp[J0,Bb d f]
 grind
theorem kD(p:d7):((J0 p p.ed.length).any λx=>T==x)=nd (λv=>!Gn p v) 0 p.ff:=by
 rw [v!,A',CN];simp only[J0,v9,A_,A?,List.mem_range];constructor
 .rintro⟨x,⟨v,hv,rfl⟩,d⟩;refine⟨v,U,U,?_⟩
  grind [Gn]
 .rintro⟨v,f,h,d⟩;refine⟨_,⟨v.toNat,U,rfl⟩,?_⟩
  grind [Int.toNat_of_nonneg,Gn]
theorem dE{α ρ:Type}[Inhabited α]{l:List α}{q:α->Bool}{v:ρ}:fst (λi=>if q (AA l i)=X then Y v else W) 0 l.length=if l.any q=X then Y v else W:=by
 rw [M9,H8]
variable{t:eb}
theorem W4(hf:Ai t)(p:d7):C9 t p=Y (EQ t p):=by
 unfold C9 EQ;rw[Of hf,bs,Lf,bs];refine DN λF=>DN λD=>?_;have x:=Cs D;have e:((A0 p.d3.ca (λd=>Gb d t)).bind λo=>
   (if o=X then Y X else((BP p.d3.ci (λd=>Gc d t)).bind λq=>Y (q))))=Y (!CP t p.d3):=by
  unfold CP;rw[show(λd=>Gb d t)=(λ(n:Int)=>Y (decide (t.ca.length<=n)))from rfl,Zv,show(λd=>Gc d t)=(λ(e:Bo)=>Y (decide (t.ci.length<=e.kp)))from rfl,cp];simp only[bs];cases p.d3.ca.any λn=>decide (t.ca.length<=n)<;>simp
 rw [<-v1,e,bs];refine WR λE=>?_;unfold CU;simp only[bs];refine GM d! λhv=>GM d! λG=>?_;unfold GD;rw[ae U,bs,<-gO,AV (show -9223372036854775808<=p.ff-1 by omega) U,JC (J0 p) (λi=>if RX t p (AA p.ed i)=X then Y 6 else W) U rfl,dE]
 .cases f:p.ed.any (RX t p)
  .simp only[w_,if_false,oF,Bc,pN,bs,oW,kD];by_cases h:IX p.ff p.mo=0
   .simp[h];cases nd (λv=>!Gn p v) 0 p.ff<;>rfl
   .simp[h]
  .rfl
 .intro i u w _;rw[AC u w,bs,o9 hf x,bs];unfold RX;by_cases f:(Q4 t p (AA p.ed i).po (AA p.ed i).mh).2=X
  .by_cases C:(AA p.ed i).j4.Var< -1\/p.ff<=(AA p.ed i).j4.Var
   .have y:(decide (-1<=(AA p.ed i).j4.Var)&&decide ((AA p.ed i).j4.Var<=p.ff-1))=T:=f_
    have z:(decide ((AA p.ed i).j4.Var< -1)||decide (p.ff<=(AA p.ed i).j4.Var))=X:=an
    rw [f,y,z9 (!X),z];rfl
   .have y:(decide (-1<=(AA p.ed i).j4.Var)&&decide ((AA p.ed i).j4.Var<=p.ff-1))=X:=an
    have z:(decide ((AA p.ed i).j4.Var< -1)||decide (p.ff<=(AA p.ed i).j4.Var))=T:=f_
    rw [f,y,z9 (!X),z];by_cases H:(AA p.ed i).j4.Add< -1000000\/1000000<(AA p.ed i).j4.Add
    .have A:(decide (-1000000<=(AA p.ed i).j4.Add)&&decide ((AA p.ed i).j4.Add<=1000000))=T:=f_
     have B:(decide ((AA p.ed i).j4.Add< -1000000)||decide (1000000<(AA p.ed i).j4.Add))=X:=an
     rw [A,B];rfl
    .have A:(decide (-1000000<=(AA p.ed i).j4.Add)&&decide ((AA p.ed i).j4.Add<=1000000))=X:=an
     have B:(decide ((AA p.ed i).j4.Add< -1000000)||decide (1000000<(AA p.ed i).j4.Add))=T:=f_
     rw [A,B];by_cases j:0<=(AA p.ed i).j4.Var
     .simp[j,decide_true];rw[AC j (by rw[kE];omega),bs,kF u w j];rfl
     .simp[j,decide_false];rw[gN u w U];rfl
  .rw[y?]at f;rw[f];rfl
theorem nx(p:d7)(v:Int):LE p v=Y (Gn p v):=by
 unfold LE Gn;rw[BT (λi=>decide ((AA p.ed i).j4.Var=v)) X,H8]
 .cases nd (λi=>decide ((AA p.ed i).j4.Var=v)) 0 p.ed.length<;>rfl
 .intro i d f _;rw[AC d f,bs,JF]
theorem Za(hf:Ai t)(p:d7):Gy t p=Y (EQ t p):=by
 unfold Gy EQ;rw[QW hf,bs,Lg,bs];refine DN λu=>DN λo=>?_;have f:=Cs o;rw[Xw f,bs];refine WR λq=>GM d! λhv=>GM d! λw=>?_;rw[BT (λi=>RX t p (AA p.ed i)) 6,<-H8]
 .cases x:p.ed.any (RX t p)
  .simp only[w_,if_false,Bc,pw,bs];by_cases d:IX p.ff p.mo=0
   .simp only[d];rw[BT (λv=>!Gn p v) 9]
    .cases nd (λv=>!Gn p v) 0 p.ff<;>rfl
    .intro i h j _;rw[nx,bs,JF]
   .simp[d]
  .rfl
 .intro i h j _;rw[AC h j,bs,pT hf,bs];unfold RX Mh
  grind
def Mp(t:eb)(p:d7)(i:Int):Int:=
 let s:=AA p.ed i
 if s.po<0\/p.d3.ca.length<=s.po then 6 else
 let l:=(Eg t (AA p.d3.ca s.po)).1
 if ((((((decide (s.mh<0))||(decide ((l.length:Int)<=s.mh)))||(decide (s.j4.Var<(-1))))||(decide (p.ff<=s.j4.Var)))||(decide (s.j4.Add<(-1000000))))||(decide (1000000<s.j4.Add)))=X then 6 else
 if nd (λj=>(decide ((AA p.ed j).po=s.po))&&(decide ((AA p.ed j).mh=s.mh))) 0 i=X then 5 else 0
theorem sI(hf:Ai t)(r:gn)(d:0<=i)(f:i<r.fq.ed.length):LP t r i=Y (Mp t r.fq i):=by
 unfold LP Mp;dsimp only;rw[AC d f,bs];refine GM V λh=>?_;rw[AC U U,bs,R3 hf,bs,DV d U,bs,
  show (λj=>PJ j (AA r.fq.ed i))=(λy=>Y ((decide (y.po=(AA r.fq.ed i).po))&&(decide (y.mh=(AA r.fq.ed i).mh))))from rfl,cq,bs,Qe d U]
 grind
theorem sf(hf:Ai t)(p:d7)(d:0<=i)(f:i<p.ed.length):N9 t p i=Y (Mp t p i):=by
 unfold N9 Mp;dsimp only;rw[AC d f,bs];refine GM V λh=>?_;rw[AC U U,bs,NF hf,bs,
  BT (λj=>(decide ((AA p.ed j).po=(AA p.ed i).po))&&(decide ((AA p.ed j).mh=(AA p.ed i).mh))) 5]
 .refine Zw λ_=>?_;cases nd (λj=>(decide ((AA p.ed j).po=(AA p.ed i).po))&&(decide ((AA p.ed j).mh=(AA p.ed i).mh))) 0 i<;>rfl
 grind [AC,AA,mh]
def IT(t:eb)(r:gn):Int:=
 if Bn r.fq.d3≠0 then Bn r.fq.d3 else if CP t r.fq.d3=T then 13 else
 if r.fq.ff≠r.kg.ff\/0<r.fq.mo.length then 1 else if 10<r.fq.ed.length then 3 else
 (fst (λi=>nz (Mp t r.fq i)) 0 r.fq.ed.length).getD 0
theorem pJ(hf:Ai t)(r:gn):Jp t r=Y (IT t r):=by
 unfold Jp IT;rw[Lf,bs,pO,bs,BF (λi=>nz (Mp t r.fq i)),CG]
 .grind
 grind [sI,L9]
theorem pj(hf:Ai t)(r:gn):MQ t r=Y (IT t r):=by
 unfold MQ IT;rw[Lg,bs];refine DN λd=>?_;rw[Xw (Cs d),bs,BF (λi=>nz (Mp t r.fq i)),CG]
 .grind
 grind [sf,L9]
end Go.Sf.Sc
namespace Go.Sf
variable{a b:Int}
theorem fA{ρ:Type}{c d:Int->Option ρ}(h:∀i,c i=d i):fst c a b=fst d a b:=by rw[funext h]
def C3(l:Fp)(v:Int):Int:=(fst (λi=>if decide (v=AA l i)=X then Y i else W) 0 l.length).getD (-1)
variable{l:Fp}
theorem G4{v:Int}(h:v∈l):0<=C3 l v/\C3 l v<l.length/\AA l (C3 l v)=v/\∀j,0<=j->j<C3 l v->AA l j≠v:=by
 unfold C3;cases hf:fst (λi=>if decide (v=AA l i)=X then Y i else W) 0 l.length with
 |none=>
  grind [BR,Az]
 |some k=>
  grind [C2,AA]
variable{R:Int->Int->Prop}
theorem Gs(h:l.Pairwise R){i j:Int}(d:0<=i)(f:i<j)(o:j<l.length):R (AA l i) (AA l j):=by grind[B_,AA,z!]
theorem VH(h:∀i j:Int,0<=i->i<j->j<l.length->R (AA l i) (AA l j)):l.Pairwise R:=by
 refine B_.2 (λi j d f o=>?_);have:=h i j U U U;unfold AA at this
 grind
theorem Vf(u:l.Pairwise (·<·)){v:Int}(h:v∈l):(l.countP (λx=>decide (x<v)):Int)=C3 l v:=by
 obtain ⟨w,y,o,_⟩:=G4 h;generalize E:C3 l v=k at w y o;have e:l=l.take k.toNat++l.drop k.toNat:=(List.take_append_drop _ _).symm;have z:(l.take k.toNat).countP (λx=>decide (x<v))=k.toNat:=by
  rw [List.countP_eq_length.2 (λx d=>?_),cE]
  .omega
  .obtain⟨i,C,D,rfl⟩:=BR d;rw[cE]at D;rw[KI U,yk,<-o];exact Gs u C U y
 have A:(l.drop k.toNat).countP (λx=>decide (x<v))=0:=by
  rw [List.countP_eq_zero];intro x d;obtain⟨n,q⟩:=List.getElem?_of_mem d;rw[List.getElem?_drop]at q;have B:=(List.getElem?_eq_some_iff.1 q).1;have f:x=AA l (k+n):=by
   unfold AA;rw[z?,show(k+(n:Int)).toNat=k.toNat+n by omega,q];rfl
  rw [yk,f,<-o];by_cases j:n=0
  .subst j;simp
  .have:=Gs u w (show k<k+(n:Int)by omega) U;omega
 rw [e,List.countP_append,z,A];omega
end Go.Sf
namespace Go.Sf.Sc
open Go Go.Sf
theorem oi(l:Fp)(n:Int):(ek (kl (ρ:=Int) (λ(h:Int)(_:Unit)=>
 (idx l h).bind λd=>
 if (decide (d=n))=X then
 Y (.ret h)
 else
 Y (.next ())) 0 (l.length:Int) ()) (λ_=>
 Y (-1)) (λj=>Y j))=Y (C3 l n):=by
 have:=Vj (l:=l) (f:=λx=>Y (decide (x=n))) (p:=λx=>decide (x=n)) (λ_ _=>rfl);simp only[bs]at this;rw[this];unfold C3;congr 2;exact fA λi=>by simp[eq_comm]
theorem sa(l:Fp)(v:Int):Ik l v=Y (C3 l v):=oi l v
def hasB(l:Fp)(v:Int):Bool:=l.any λx=>decide (v=x)
variable{l:Fp}
theorem B3{v:Int}:hasB l v=X↔v∈l:=by
 unfold hasB
 grind
theorem Ob(l:Fp)(n:Int):(ek (kl (ρ:=Bool) (λ(f:Int)(_:Unit)=>
 (idx l f).bind λd=>
 if (decide (d=n))=X then
 Y (.ret X)
 else
 Y (.next ())) 0 (l.length:Int) ()) (λ_=>
 Y T) (λh=>Y h))=Y (hasB l n):=by
 unfold hasB;rw[BT (λi=>decide (n=AA l i)) X,H8]
 .cases nd (λi=>decide (n=AA l i)) 0 l.length<;>rfl
 .intro i j o _;rw[AC j o,bs,JF];simp[eq_comm]
theorem pZ(l:Fp)(v:Int):RL l v=Y (hasB l v):=Ob l v
theorem pY(l:Fp)(v:Int):Pd l v=Y (hasB l v):=Ob l v
def OX(l:Fp)(n:Int):Int:=(fst (λi=>if AA l i<0\/n<=AA l i then Y 6 else if 0<i/\AA l i<=AA l (i-1)then Y 12 else W) 0 l.length).getD 0
theorem nk(q:l.length<=1000)(n:Int):Hy l n=Y (OX l n):=by
 unfold Hy OX;rw[BF (λi=>if AA l i<0\/n<=AA l i then Y 6 else if 0<i/\AA l i<=AA l (i-1)then Y 12 else W),CG];intro i j o _;rw[AC j o,bs];by_cases h:AA l i<0\/n<=AA l i
 .rw[ae c_,ae h];rfl
 .rw[az c_,az h];by_cases d:0<i
  .rw[ae b?,AV U U,AC U U,bs,bs];by_cases f:AA l i<=AA l (i-1)
   .rw[ae b!,ae ⟨d,f⟩];rfl
   .rw[az b!,az (λh=>f h.2)];rfl
  .rw[az b?,bs,az a?,az (λh=>d h.1)];rfl
theorem nv(u:l.length<=1000)(n:Int):GU l n=Y (OX l n):=by
 unfold GU OX;rw[BF (λi=>if AA l i<0\/n<=AA l i then Y 6 else if 0<i/\AA l i<=AA l (i-1)then Y 12 else W),CG];intro i j o _;rw[AC j o];simp only[bs];by_cases h:AA l i<0\/n<=AA l i
 .have:(if decide (AA l i<0)=X then Y X else Y (decide (n<=AA l i)))=Y X:=by
   rcases h with h|h
   .simp[h]
   .by_cases q:AA l i<0<;>simp[h,q]
  rw [this,bs,ae rfl,ae h];rfl
 .have:(if decide (AA l i<0)=X then Y X else Y (decide (n<=AA l i)))=Y T:=by
   rw [az an,decide_eq_false U]
  rw [this,bs,az a?,az h];by_cases d:0<i
  .rw[ae b?,AV U U,AC U U,bs,bs];by_cases f:AA l i<=AA l (i-1)
   .rw[ae b!,ae ⟨d,f⟩];rfl
   .rw[az b!,az (λh=>f h.2)];rfl
  .rw[az b?,bs,az a?,az (λh=>d h.1)];rfl
variable{a b:Int}
theorem PT{c:Int->a5}(d:∀i,c i≠Y 0)(h:(fst c a b).getD 0=0):∀i,a<=i->i<b->c i=W:=by
 have:fst c a b=W:=by
  cases hf:fst c a b with
  |none=>rfl|some r=>
   grind [u!,C2]
 exact Az.1 this
variable{n:Int}
theorem Ts(h:OX l n=0):(∀x∈l,0<=x/\x<n)/\l.Pairwise (·<·):=by
 have y:=PT (c:=λi=>if AA l i<0\/n<=AA l i then Y 6 else if 0<i/\AA l i<=AA l (i-1)then Y 12 else W) (λi=>by
  split
  .simp
  .split<;>simp) h
 have f:∀i:Int,0<=i->i<l.length->(0<=AA l i/\AA l i<n)/\(0<i->AA l (i-1)<AA l i):=by
  intro i o w;have:=y i o w;split at this
  .cases this
  .split at this
   .cases this
   .omega
 refine ⟨λx q=>?_,VH (λi j o d u=>?_)⟩
 .obtain⟨i,z,A,rfl⟩:=BR q;exact(f i z A).1
 .obtain⟨k,B⟩:∃k:Nat,j=i+1+k:=⟨(j-i-1).toNat,U⟩;subst B;clear d
  induction k with
  |zero=>
   have:=(f (i+1) U U).2 U;rw[show i+1-1=i by omega]at this;simpa using this
  |succ k C=>
   have a:=C U;have b:=(f (i+1+((k+1:Nat):Int)) U u).2 U;rw[show i+1+((k+1:Nat):Int)-1=i+1+k by omega]at b;omega
theorem Sp(f:l.length<=1000)(d:l.Pairwise (·<·))(v:Int):slices_BinarySearch_int l v=Y (((l.countP (λx=>decide (x<v)):Nat):Int),hasB l v):=by
 unfold slices_BinarySearch_int;rw[ae ⟨a_,d.imp (λh=>U)⟩];congr 2;rw[v!,B3,List.contains_iff_mem]
def Mg(g:d3)(p:BN):Int:=
 if OX p.ca g.ca.length≠0 then OX p.ca g.ca.length else if OX p.ci g.ci.length≠0 then OX p.ci g.ci.length else
 (fst (λi=>if(hasB p.ca (AA g.ci (AA p.ci i)).kq&&hasB p.ca (AA g.ci (AA p.ci i)).To)=X then W else Y 14) 0 p.ci.length).getD 0
structure PN(g:d3)(p:BN):Prop where
 ea:(∀x∈p.ca,0<=x/\x<g.ca.length)/\p.ca.Pairwise (·<·)
 ec:(∀x∈p.ci,0<=x/\x<g.ci.length)/\p.ci.Pairwise (·<·)
 ends:∀x∈p.ci,(AA g.ci x).kq∈p.ca/\(AA g.ci x).To∈p.ca
variable{g:d3}
theorem W7{p:BN}(h:Mg g p=0):PN g p:=by
 unfold Mg at h;split at h
 .omega
 .split at h
  .omega
  .rename_i q u;refine⟨Ts U,Ts U,λx f=>?_⟩;obtain⟨i,j,o,rfl⟩:=BR f;have:=PT (c:=λi=>if(hasB p.ca (AA g.ci (AA p.ci i)).kq&&hasB p.ca (AA g.ci (AA p.ci i)).To)=X then W else Y 14) (λi=>by
    split<;>simp) h i j o
   split at this
   next d=>rw[sx,B3,B3]at d;exact d
   .cases this
def Dj(g:d3)(p:BN):Int:=if Bn g≠0 then Bn g else Mg g p
structure RU(p:BN):Prop where
 ea:p.ca.length<=1000
 ec:p.ci.length<=1000
theorem dU{p:BN}(d:RU p):Ep g p=Y (Dj g p):=by
 unfold Ep Dj;rw[Lf,bs];refine DN λo=>?_;have w:=Cs o;unfold Mq Mg;rw[nk d.ea,bs,nk d.ec,bs,v5];refine DN λq=>DN λu=>?_;obtain⟨a1,a2⟩:=Ts q;obtain⟨x,y⟩:=Ts u;rw[BF (λi=>if(hasB p.ca (AA g.ci (AA p.ci i)).kq&&hasB p.ca (AA g.ci (AA p.ci i)).To)=X then W else Y 14),CG];intro i f h _;have j:=x _ (AF f h);unfold LS;rw[AC f h,bs,AC j.1 j.2];simp[Sp d.ea a2];cases hasB p.ca (AA g.ci (AA p.ci i)).kq<;>cases hasB p.ca (AA g.ci (AA p.ci i)).To<;>rfl
theorem Xv{p:BN}(d:RU p):Ij g p=Y (Dj g p):=by
 unfold Ij Dj;rw[Lg,bs];refine DN λo=>?_;have u:=Cs o;unfold PB Mg;rw[nv d.ea,bs,nv d.ec,bs,v5];refine DN λx=>DN λq=>?_;obtain⟨w,y⟩:=Ts q;rw[BF (λi=>if(hasB p.ca (AA g.ci (AA p.ci i)).kq&&hasB p.ca (AA g.ci (AA p.ci i)).To)=X then W else Y 14),CG];intro i f h _;have j:=w _ (AF f h);rw[AC f h,bs,AC j.1 j.2];simp[pY];cases hasB p.ca (AA g.ci (AA p.ci i)).kq<;>cases hasB p.ca (AA g.ci (AA p.ci i)).To<;>rfl
def Cg(g:d3)(p:BN):d3:=⟨p.ca.map (AA g.ca),p.ci.map λx=>⟨(AA g.ci x).kp,C3 p.ca (AA g.ci x).kq,C3 p.ca (AA g.ci x).To⟩⟩
variable{i:Int}
theorem Hs{α:Type}{f:Int->α}(d:0<=i)(h:i<l.length):(l.take (i+1).toNat).map f=(l.take i.toNat).map f++[f (AA l i)]:=by grind[Bb]
theorem SV(z:l.length<=1000)(h:∀x∈l,0<=x/\x<g.ca.length)(es:List Bo):(ns (λ(y:Int)(u:d3)=>
 (idx l y).bind λd=>
 (idx g.ca d).bind λf=>
 (AT u.ca [f]).bind λj=>
 Y (d3.mk j u.ci)) 0 (l.length:Int) (d3.mk [] es))=Y (d3.mk (l.map (AA g.ca)) es):=by
 rw [BY (λi=>d3.mk ((l.take i.toNat).map (AA g.ca)) es) U V]
 .rw[v9,A_]
 .intro i o q;have w:=h _ (AF o q);rw[AC o q,bs,AC w.1 w.2,bs,AQ a9,bs,Hs o q]
theorem Wf(B:l.length<=1000)(h:∀x∈l,0<=x/\x<g.ci.length)(o:Fp)(F:Bo->Bo){f:Bo->List Bo->Option (List Bo)}(hf:∀x∈l,∀s,s.length<=1000->f (AA g.ci x) s=Y (s++[F (AA g.ci x)])):(ns (λ(A:Int)(y:d3)=>
 (idx l A).bind λq=>
 (idx g.ci q).bind λu=>
 (f u y.ci).bind λw=>
 Y (d3.mk y.ca w)) 0 (l.length:Int) (d3.mk o []))=Y (d3.mk o (l.map λx=>F (AA g.ci x))):=by
 rw [BY (λi=>d3.mk o ((l.take i.toNat).map λx=>F (AA g.ci x))) U V]
 .rw[v9,A_]
 .intro i d j;have z:=h _ (AF d j);rw[AC d j,bs,AC z.1 z.2,bs,hf _ (AF d j) _ an,bs,Hs d j]
theorem ib{p:BN}(d:RU p):Ee g p=Y (if Dj g p≠0 then(⟨[],[]⟩,⟨[],[]⟩,Dj g p)else(Cg g p,⟨p.ca,p.ci⟩,0)):=by
 unfold Ee;rw[dU d,bs];refine CL λh=>?_;have w:Bn g=0/\Mg g p=0:=by
  grind [Dj]
 have ho:=W7 w.2;rw[SV d.ea ho.ea.1,bs];have:=Wf (g:=g) (l:=p.ci) d.ec ho.ec.1 (p.ca.map (AA g.ca)) (λx=>⟨x.kp,C3 p.ca x.kq,C3 p.ca x.To⟩) (f:=λj s=>
  (slices_BinarySearch_int p.ca j.kq).bind λo=>
  (slices_BinarySearch_int p.ca j.To).bind λq=>
  AT s [Bo.mk j.kp o.1 q.1]) (λx u s y=>by
   have he:=ho.ends x u;rw[Sp d.ea ho.ea.2,bs,Sp d.ea ho.ea.2,bs,AQ a9,Vf ho.ea.2 he.1,Vf ho.ea.2 he.2])
 simp [v1]at this;rw[this,bs];unfold slices_Clone_int;have z:=d.ea;have A:=d.ec;rw[Ap a_,bs,Ap a_];rfl
theorem UU{p:BN}(j:RU p):GY g p=Y (if Dj g p≠0 then(⟨[],[]⟩,⟨[],[]⟩,Dj g p)else(Cg g p,⟨p.ca,p.ci⟩,0)):=by
 unfold GY;rw[Xv j,bs];refine CL λh=>?_;have u:Bn g=0/\Mg g p=0:=by
  grind [Dj]
 have ho:=W7 u.2;rw[SV j.ea ho.ea.1,bs];have:=Wf (g:=g) (l:=p.ci) j.ec ho.ec.1 (p.ca.map (AA g.ca)) (λx=>⟨x.kp,C3 p.ca x.kq,C3 p.ca x.To⟩) (f:=λd s=>
  (Ik p.ca d.kq).bind λo=>
  (Ik p.ca d.To).bind λq=>
  AT s [Bo.mk d.kp o q]) (λx w s y=>by
   grind [sa,AQ,AU])
 simp [v1]at this;rw[this,bs];have z:=j.ea;have A:=j.ec;rw[Ap a_,bs,Ap a_];rfl
end Go.Sf.Sc
namespace Go.Sf.Sc
open Go Go.Sf
def K4(a b:d3)(m:d4)(i:Int):a5:=
 if AA m.ca i<0\/b.ca.length<=AA m.ca i then Y 6 else if AA b.ca (AA m.ca i)≠AA a.ca i then Y 13 else W
def Fg(a b:d3)(m:d4)(i:Int):a5:=
 if AA m.ci i<0\/b.ci.length<=AA m.ci i then Y 6 else
 if (AA a.ci i).kp≠(AA b.ci (AA m.ci i)).kp then Y 13 else
 if AA m.ca (AA a.ci i).kq≠(AA b.ci (AA m.ci i)).kq\/AA m.ca (AA a.ci i).To≠(AA b.ci (AA m.ci i)).To then Y 11 else W
def HM(a b:d3)(m:d4):Int:=
 if Bn a≠0 then Bn a else if Bn b≠0 then Bn b else if m.ca.length≠a.ca.length\/m.ci.length≠a.ci.length then 20 else
 match fst (K4 a b m) 0 m.ca.length with
 |some e=>e|none=>(fst (Fg a b m) 0 m.ci.length).getD 0
structure SH(a b:d3)(m:d4):Prop where
 ga:CQ a
 gb:CQ b
 zf:m.ca.length=a.ca.length
 zt:m.ci.length=a.ci.length
 node:∀i:Int,0<=i->i<m.ca.length->(0<=AA m.ca i/\AA m.ca i<b.ca.length)/\AA b.ca (AA m.ca i)=AA a.ca i
 edge:∀i:Int,0<=i->i<m.ci.length->(0<=AA m.ci i/\AA m.ci i<b.ci.length)/\(AA a.ci i).kp=(AA b.ci (AA m.ci i)).kp/\
  AA m.ca (AA a.ci i).kq=(AA b.ci (AA m.ci i)).kq/\AA m.ca (AA a.ci i).To=(AA b.ci (AA m.ci i)).To
variable{m:d4}
theorem U0{a b:d3}(h:HM a b m=0):SH a b m:=by
 unfold HM at h;split at h
 .omega
 split at h
 .omega
 split at h
 .cases h
 rename_i o q u;have j:fst (K4 a b m) 0 m.ca.length=W:=by
  grind [C2,K4]
 rw [j]at h;have he:=PT (λi=>by
  grind [Fg]) h
 refine ⟨Cs U,Cs U,U,U,λi d f=>?_,λi d f=>?_⟩
 .grind[Az,K4]
 grind [Fg]
theorem ZS(a b:d3)(m:d4):DK a b m=Y (HM a b m):=by
 unfold DK HM;rw[Lf,bs,Lf,bs];refine DN λu=>DN λw=>GM d! λz=>?_;have ga:=Cs u;have gb:=Cs w;rw[BF (K4 a b m),Cy]
 .cases x:fst (K4 a b m) 0 m.ca.length with
  |some e=>rfl|none=>
   have y:=Az.1 x;dsimp only;rw[BF (Fg a b m),CG];intro i h q _;unfold Fg;rw[AC h q,bs];by_cases d:AA m.ci i<0\/b.ci.length<=AA m.ci i
   .rw[ae b?,ae d];rfl
   .have hf:=ga.fit _ (AF (l:=a.ci) h U);rw[az b?,az d,AC h U,bs,AC U U,bs];by_cases f:(AA a.ci i).kp=(AA b.ci (AA m.ci i)).kp
    .rw[az b!,az b!,AC U U,bs];by_cases j:AA m.ca (AA a.ci i).kq=(AA b.ci (AA m.ci i)).kq
     .rw[az d?,AC U U,bs,bs];by_cases o:AA m.ca (AA a.ci i).To=(AA b.ci (AA m.ci i)).To
      .rw[az e!,az (by simp[j,o])];rfl
      .rw[ae e!,ae (.inr o)];rfl
     .rw[ae d?,bs,ae rfl,ae (.inl j)];rfl
    .rw[ae b!,ae f];rfl
 .intro i h q _;unfold K4;rw[AC h q,bs];by_cases d:AA m.ca i<0\/b.ca.length<=AA m.ca i
  .rw[ae b?,ae d];rfl
  .rw[az b?,az d,AC U U,bs,AC h U,bs];by_cases f:AA b.ca (AA m.ca i)=AA a.ca i
   .rw[az b!,az b!];rfl
   .rw[ae b!,ae f];rfl
theorem UP{x y:Prop}[Decidable x][Decidable y]:(if decide x=X then Y X else Y (decide y))=Y (decide (x\/y)):=l!
theorem ZZ(a b:d3)(m:d4):Gu a b m=Y (HM a b m):=by
 unfold Gu HM;rw[Lg,bs,Lg,bs];refine DN λu=>DN λw=>GM d! λz=>?_;have ga:=Cs u;have gb:=Cs w;rw[show(a.ca.length:Int)=m.ca.length by omega,show(a.ci.length:Int)=m.ci.length by omega,BF (K4 a b m),Cy]
 .cases x:fst (K4 a b m) 0 m.ca.length with
  |some e=>rfl|none=>
   have y:=Az.1 x;dsimp only;rw[BF (Fg a b m),CG];intro i h q _;unfold Fg;rw[AC h q];simp only[bs,UP];by_cases d:AA m.ci i<0\/b.ci.length<=AA m.ci i
   .rw[ae b?,ae d];rfl
   .have hf:=ga.fit _ (AF (l:=a.ci) h U);rw[az b?,az d,AC h U,bs,AC U U,bs];by_cases f:(AA a.ci i).kp=(AA b.ci (AA m.ci i)).kp
    .rw[az b!,az b!,AC U U,bs];by_cases j:AA m.ca (AA a.ci i).kq=(AA b.ci (AA m.ci i)).kq
     .rw[az d?,AC U U,bs,bs];by_cases o:AA m.ca (AA a.ci i).To=(AA b.ci (AA m.ci i)).To
      .rw[az e!,az (by simp[j,o])];rfl
      .rw[ae e!,ae (.inr o)];rfl
     .rw[ae d?,bs,ae rfl,ae (.inl j)];rfl
    .rw[ae b!,ae f];rfl
 .intro i h q _;unfold K4;rw[AC h q];simp only[bs,UP];by_cases d:AA m.ca i<0\/b.ca.length<=AA m.ca i
  .rw[ae b?,ae d];rfl
  .rw[az b?,az d,AC U U,bs,AC h U,bs];by_cases f:AA b.ca (AA m.ca i)=AA a.ca i
   .rw[az b!,az b!];rfl
   .rw[ae b!,ae f];rfl
def I9(l:Fp):Bool:=!nd (λi=>nd (λj=>decide (AA l i=AA l j)) 0 i) 0 l.length
variable{l:Fp}
theorem Jh:I9 l=X↔l.Nodup:=by grind[I9,w?,Br,VH,Gs]
theorem ZY(l:Fp):Em l=Y (I9 l):=by
 unfold Em I9;rw[BT (λi=>nd (λj=>decide (AA l i=AA l j)) 0 i) T]
 .cases nd (λi=>nd (λj=>decide (AA l i=AA l j)) 0 i) 0 l.length<;>rfl
 .intro i d f _;rw[BT (λj=>decide (AA l i=AA l j)) T]
  .cases nd (λj=>decide (AA l i=AA l j)) 0 i<;>rfl
  .intro j h o _;rw[AC d f,bs,AC h U,bs,JF]
theorem al(f:l.length<=1000):∃k,GR l=Y k/\decide (k=(l.length:Int))=I9 l:=by
 have d:(RD l).length=l.length:=(QD l).length_eq;refine⟨((Go.Lib.compact (RD l)).length:Int),?_,?_⟩
 .grind[GR,slices_Clone_int,slices_Sort_int,slices_Compact_int,Ap,AU]
 .rw[v!,Jh,yk,<-(QD l).nodup_iff,<-TC (Qm l),d];omega
def HL(m:d4):Bool:=I9 m.ca&&I9 m.ci
theorem np{a b:d3}(h:HM a b m=0):DE a b m=Y (HL m):=by
 have ho:=U0 h;have:=ho.ga.ea;have:=ho.ga.ec;have:=ho.zf;have:=ho.zt;obtain⟨k,d,f⟩:=al (l:=m.ca) U;obtain⟨j,o,q⟩:=al (l:=m.ci) U;unfold DE HL;rw[ZS,h,bs,ae (decide_eq_true rfl),d];simp[o,f,q];cases I9 m.ca<;>rfl
theorem wA{a b:d3}(h:HM a b m=0):IP a b m=Y (HL m):=by grind[IP,HL,ZZ,ZY,I9]
def O1(r:gn):Int:=
 if Dj r.kg.d3 r.r0≠0 then Dj r.kg.d3 r.r0 else
 if HM (Cg r.kg.d3 r.r0) r.fq.d3 r.pc≠0 then HM (Cg r.kg.d3 r.r0) r.fq.d3 r.pc else if HL r.pc=T then 11 else 0
variable{r:gn}
theorem sC(d:RU r.r0):LN r=Y (O1 r):=by
 unfold LN O1;rw[ib d,bs];by_cases h:Dj r.kg.d3 r.r0=0
 .simp only[h,ne_eq,not_true_eq_false,if_false,decide_true,y!,w_];rw[ZS,bs];refine DN λf=>?_;rw[np f,bs];exact WR λ_=>rfl
 .simp[h]
def VD(r:gn):Int:=if Dj r.kg.d3 r.r0≠0 then Dj r.kg.d3 r.r0 else HM (Cg r.kg.d3 r.r0) r.fq.d3 r.pc
theorem sg(d:RU r.r0):OA r=Y (VD r):=by
 unfold OA VD;rw[Xv d,bs];refine DN λh=>?_
 grind [UU,ZZ]
theorem ol(h:O1 r=0):Dj r.kg.d3 r.r0=0/\HM (Cg r.kg.d3 r.r0) r.fq.d3 r.pc=0/\HL r.pc=X:=by grind[O1]
def A2(l:Fp)(n:Int):Fp:=((List.range n.toNat).map Int.ofNat).filter λi=>!hasB l i
variable{i:Int}
theorem OE(l:Fp)(h:0<=i):A2 l (i+1)=A2 l i++if(!hasB l i)=X then[i]else[]:=by
 unfold A2;rw[show(i+1).toNat=i.toNat+1 by omega,List.range_succ,List.map_append,List.filter_append]
 grind
theorem Gz{n x:Int}(h:x∈A2 l n):0<=x/\x<n:=by
 unfold A2 at h
 grind
theorem RP(l:Fp)(n:Int):(A2 l n).length<=n.toNat:=by
 unfold A2
 grind
variable{n:Int}
theorem Ua(q:0<=n)(w:n<=1000){f:Int->K1}(hf:∀i,f i=Y (hasB l i)):(ns (λ(j:Int)(o:Fp)=>
 (f j).bind λd=>
 if (!d)=X then
 (AT o [j]).bind λh=>
 Y h
 else
 Y o) 0 n [])=Y (A2 l n):=by
 refine BY (A2 l) q (by simp[A2]) (λi u x=>?_);have:=RP l i;rw[hf,bs,OE l u];cases hasB l i
 .rw[ae a?,ae a?,AQ a9];rfl
 .rw[az a?,az a?,List.append_nil]
theorem ap(d:0<=n)(f:n<=1000):KZ l n=Y (A2 l n):=by
 unfold KZ;rw[Ua d f (λi=>L7 l i)];rfl
theorem jS(d:0<=n)(f:n<=1000):Ln n l=Y (A2 l n):=by
 unfold Ln;rw[Ua d f (λi=>pZ l i)];rfl
def If(r:gn):Fp:=A2 r.pc.ca r.fq.d3.ca.length
def OZ(r:gn):Fp:=A2 r.pc.ci r.fq.d3.ci.length
theorem ii(d:CQ r.fq.d3):LM r=Y (If r,OZ r):=by
 have:=d.ea;have:=d.ec;unfold LM;rw[ap U U,bs,ap U U];rfl
theorem jH(d:CQ r.fq.d3):KC r=Y (If r,OZ r):=by
 have:=d.ea;have:=d.ec;unfold KC;rw[jS U U,bs,jS U U];rfl
def Jj(t:eb)(g:d3)(i:Int):Bool:=O0 t (AA g.ci i).kp (AA g.ca (AA g.ci i).kq) (AA g.ca (AA g.ci i).To)
def UH(t:eb)(g:d3)(ea ec:Fp):Bool:=!(ea.any λi=>(AA t.ca (AA g.ca i)).tg)&&!(ec.any λi=>!Jj t g i)
variable{t:eb}{g:d3}
theorem vu(hf:Ai t)(o:CQ g)(q:CP t g=X){ea ec:Fp}(u:∀x∈ea,0<=x/\x<g.ca.length)(he:∀x∈ec,0<=x/\x<g.ci.length):HV t g ea ec=Y (UH t g ea ec):=by
 have h:=Hg o q;unfold HV UH;rw[Tu (p:=λi=>(AA t.ca (AA g.ca i)).tg) (λx f=>by
  have d:=u x f;have j:=h.1 _ (AF d.1 d.2);unfold Lr;rw[AC d.1 d.2,bs,AC j.1 j.2];rfl),bs,Tu (p:=λi=>!Jj t g i) (λx f=>by
  have d:=he x f;have j:=o.fit _ (AF d.1 d.2);unfold G9;rw[AC d.1 d.2,bs,AC U U,bs,AC U U,bs,ic hf];rfl)]
 grind
theorem wC(hf:Ai t)(q:CQ g)(u:CP t g=X){ea ec:Fp}(w:∀x∈ea,0<=x/\x<g.ca.length)(he:∀x∈ec,0<=x/\x<g.ci.length):LH t g ea ec=Y (UH t g ea ec):=by
 have j:=Hg q u;unfold LH UH;rw[H8,H8,BT (λi=>(AA t.ca (AA g.ca (AA ea i))).tg) T]
 .rw[BT (λi=>!Jj t g (AA ec i)) T]
  .cases nd (λi=>(AA t.ca (AA g.ca (AA ea i))).tg) 0 ea.length
   .cases nd (λi=>!Jj t g (AA ec i)) 0 ec.length<;>rfl
   .rfl
  .intro i f h _;have d:=he _ (AF f h);have o:=q.fit _ (AF d.1 d.2);rw[AC f h,bs,AC d.1 d.2,bs,AC U U,bs,AC U U,bs,XB hf,bs,JF];rfl
 .intro i f h _;have d:=w _ (AF f h);have o:=j.1 _ (AF d.1 d.2);rw[AC f h,bs,AC d.1 d.2,bs,AC o.1 o.2,bs,JF]
end Go.Sf.Sc
namespace Go.Sf.Sc
open Go Go.Sf
structure OV(p:d7):Prop where
 ea:p.d3.ca.length<=45
 ec:p.d3.ci.length<=90
 slots:p.ed.length<=15
 tests:p.mo.length<=15
structure eH(m:d4):Prop where
 ea:m.ca.length<=140
 ec:m.ci.length<=140
inductive De:d5->Prop where
 |mk (c:d5) (hq:OV c.d7) (hm:eH c.Map) (hk:∀k∈c.gl,De k):De c
variable{c:d5}
theorem De.q(h:De c):OV c.d7:=i_
theorem De.m(h:De c):eH c.Map:=i_
theorem De.k(h:De c):∀k∈c.gl,De k:=i_
theorem EE{c k:d5}(h:k∈c.gl):SizeOf.sizeOf k<SizeOf.sizeOf c:=by
 have:=List.sizeOf_lt_of_mem h;cases c
 grind
theorem DP(c:d5):0<SizeOf.sizeOf c:=by
 cases c
 grind
def QA(c:d5):Bool:=decide (c.Map.ca.length=0/\c.Map.ci.length=0/\c.d7.d3.ca.length=0/\c.d7.d3.ci.length=0/\c.d7.ed.length=0/\c.d7.mo.length=0/\c.d7.ff=0)
theorem ry(hf:De c):Ei c=Y (QA c):=by
 have d:=hf.q;have f:=hf.m;have:=d.ea;have:=d.ec;have:=d.slots;have:=d.tests;have:=f.ea;have:=f.ec;unfold Ei QA;rw[AV (n:=(c.Map.ca.length:Int)+c.Map.ci.length) U U,AV (n:=(c.Map.ca.length:Int)+c.Map.ci.length+c.d7.d3.ca.length) U U,
  AV (n:=(c.Map.ca.length:Int)+c.Map.ci.length+c.d7.d3.ca.length+c.d7.d3.ci.length) U U,
  AV (n:=(c.Map.ca.length:Int)+c.Map.ci.length+c.d7.d3.ca.length+c.d7.d3.ci.length+c.d7.ed.length) U U,
  AV (n:=(c.Map.ca.length:Int)+c.Map.ci.length+c.d7.d3.ca.length+c.d7.d3.ci.length+c.d7.ed.length+c.d7.mo.length) U U]
 congr 1
 grind
theorem l9(hf:De c):HQ c=Y (QA c):=by
 have d:=hf.q;have f:=hf.m;have:=d.ea;have:=d.ec;have:=d.slots;have:=d.tests;have:=f.ea;have:=f.ec;unfold HQ QA;rw[AV (n:=(c.Map.ca.length:Int)+c.Map.ci.length) U U,AV (n:=(c.Map.ca.length:Int)+c.Map.ci.length+c.d7.d3.ca.length) U U,
  AV (n:=(c.Map.ca.length:Int)+c.Map.ci.length+c.d7.d3.ca.length+c.d7.d3.ci.length) U U,
  AV (n:=(c.d7.ed.length:Int)+c.d7.mo.length) U U]
 congr 1
 grind
def SX(c:d5):Bool:=
 if c.l3=1 then decide (c.gl.length=0)&&QA c else if c.l3=2 then decide (c.gl.length=1)&&QA c else
 if c.l3=3\/c.l3=4 then decide (1<=c.gl.length)&&QA c else if c.l3=5 then decide (c.gl.length=1)else T
def SE:Nat->d5->Bool
 |0,_=>T|n+1,c=>SX c&&c.gl.all (SE n)
theorem sM:∀(N:Nat)(c:d5),SizeOf.sizeOf c<=N->De c->∀n,2*N<=n->BJ n c=Y (SE N c)
 |0,c,h,_,_,_=>by have:=DP c;omega|N+1,c,h,hf,n,B=>by
  obtain ⟨n,rfl⟩:∃m,n=m+2:=⟨n-2,U⟩;rw[BJ,SE,ry hf];have f:Bq c.gl (BW (n+1))=Y (!c.gl.all (SE N)):=by
   rw [Zu (p:=λk=>!SE N k) (λk f=>by
    have:=EE f;rw[BW,sM N k U (hf.k k f) n U];rfl),B',Bool.not_not]
  rw [f];unfold SX;simp only[bs,yk];generalize QA c=b;generalize c.gl.all (SE N)=w;have y:decide ((c.gl.length:Int)=0)=decide (c.gl.length=0):=i9
  have z:decide ((c.gl.length:Int)=1)=decide (c.gl.length=1):=i9
  have A:decide (1<=(c.gl.length:Int))=decide (1<=c.gl.length):=i9
  simp only[show((c.gl.length:Int)=0)↔c.gl.length=0 by omega,show((c.gl.length:Int)=1)↔c.gl.length=1 by omega,show(1<=(c.gl.length:Int))↔1<=c.gl.length by omega];by_cases j:c.l3=1
  .rw[ae j,ae j];by_cases d:c.gl.length=0<;>cases b<;>cases w<;>simp[d]
  .rw[az j,az j];by_cases o:c.l3=2
   .rw[ae o,ae o];by_cases d:c.gl.length=1<;>cases b<;>cases w<;>simp[d]
   .rw[az o,az o];by_cases u:c.l3=3
    .simp[u,true_or];by_cases d:1<=c.gl.length<;>cases b<;>cases w<;>simp[d]
    .by_cases x:c.l3=4
     .simp[x,or_true,show¬(4:Int)=3 by decide];by_cases d:1<=c.gl.length<;>cases b<;>cases w<;>simp[d]
     .simp only[u,x,if_false,or_false];by_cases q:c.l3=5
      .rw[ae q,ae q];by_cases d:c.gl.length=1<;>cases w<;>simp[d]
      .rw[az q,az q];cases w<;>rfl
theorem sY(hf:De c):MO c=Y (SX c):=by
 unfold MO SX;rw[l9 hf];simp[yk];generalize QA c=b;simp[show((c.gl.length:Int)=0)↔c.gl.length=0 by omega,show((c.gl.length:Int)=1)↔c.gl.length=1 by omega,show(0<(c.gl.length:Int))↔1<=c.gl.length by omega]
 grind
theorem q9{α:Type}[Inhabited α]{l:List α}{p:α->Bool}:l.all p=!nd (λi=>!p (AA l i)) 0 l.length:=by
 rw [B',H8]
theorem nu:∀(N:Nat)(c:d5),SizeOf.sizeOf c<=N->De c->∀n,N<=n->EL n c=Y (SE N c)
 |0,c,h,_,_,_=>by have:=DP c;omega|N+1,c,h,hf,n,o=>by
  obtain ⟨n,rfl⟩:∃m,n=m+1:=⟨n-1,U⟩;rw[EL,SE,sY hf,bs,q9,BT (λi=>!SE N (AA c.gl i)) T]
  .cases SX c
   .rfl
   .cases nd (λi=>!SE N (AA c.gl i)) 0 c.gl.length<;>rfl
  .intro i d f _;have j:=AF (l:=c.gl) d f;have:=EE j;rw[AC d f,bs,nu N _ U (hf.k _ j) n U,bs,JF]
noncomputable def eA(c:d5):Bool:=SE (SizeOf.sizeOf c) c
theorem vw(hf:De c):Gl c=Y (eA c):=D3 (2*SizeOf.sizeOf c) λn d=>sM _ c (b6 _) hf n d
theorem wG(hf:De c):Oi c=Y (eA c):=D3 (SizeOf.sizeOf c) λn d=>nu _ c (b6 _) hf n d
def Nk:Nat->d5->Int×Int
 |0,_=>(0,0)|n+1,c=>
  let s:=c.gl.foldl (λs k=>(AH (s.1+(Nk n k).1),max s.2 (Nk n k).2)) ((1,0):Int×Int)
  (s.1,if c.l3=5 then AH (s.2+1)else s.2)
theorem Ye{α σ:Type}[Inhabited α]{l:List α}{g:σ->α->σ}{s:σ}{f:Int->σ->Option σ}(h:∀(i:Int)s,0<=i->i<l.length->f i s=Y (g s (AA l i))):ns f 0 l.length s=Y (l.foldl g s):=by
 rw [BY (λi=>(l.take i.toNat).foldl g s) U V]
 .rw[v9,A_]
 grind [Bb]
theorem im:∀(N:Nat)(c:d5),SizeOf.sizeOf c<=N->∀n,N<=n->CC n c=Y (Nk N c)
 |0,c,h,_,_=>by have:=DP c;omega|N+1,c,h,n,j=>by
  obtain ⟨n,rfl⟩:∃m,n=m+1:=⟨n-1,U⟩;rw[CC,Nk,Ye (g:=λs k=>(AH (s.1+(Nk N k).1),max s.2 (Nk N k).2))]
  .grind
  .intro i s d f;have:=EE (AF (l:=c.gl) d f);rw[AC d f,bs,im N _ U n U];rfl
theorem jM:∀(N:Nat)(c:d5),SizeOf.sizeOf c<=N->∀n,N<=n->Eo n c=Y (Nk N c)
 |0,c,h,_,_=>by have:=DP c;omega|N+1,c,h,n,j=>by
  obtain ⟨n,rfl⟩:∃m,n=m+1:=⟨n-1,U⟩;rw[Eo,Nk,Ye (g:=λs k=>(AH (s.1+(Nk N k).1),max s.2 (Nk N k).2))]
  .grind
  .intro i s d f;have:=EE (AF (l:=c.gl) d f);rw[AC d f,bs,jM N _ U n U];rfl
noncomputable def Uz(c:d5):Int×Int:=Nk (SizeOf.sizeOf c) c
noncomputable def LQ(c:d5):Int:=if eA c=T then 1 else if 12<(Uz c).1\/3<(Uz c).2 then 3 else 0
theorem pL(hf:De c):E8 c=Y (LQ c):=by
 unfold E8 LQ;rw[vw hf,bs,show Ix c=Y (Uz c)from D3 (SizeOf.sizeOf c) λn d=>im _ c (b6 _) n d,bs]
 grind
theorem pu(hf:De c):MM c=Y (LQ c):=by
 unfold MM LQ;rw[wG hf,bs,show Pw c=Y (Uz c)from D3 (SizeOf.sizeOf c) λn d=>jM _ c (b6 _) n d,bs]
 grind
theorem We(g:d3):Bn g≠9:=by grind[Bn]
variable{t:eb}{p:d7}
theorem Vo(d:(As t).2=0)(h:EQ t p=0\/EQ t p=9):0<=p.ff/\p.ff<=12:=by grind[We,EQ]
def Rc(t:eb)(q:d7)(v:Int):Int:=if EQ t q≠9 then EQ t q else if nd (λi=>!Gn q i) v q.ff=X then 9 else 0
variable{P:Prop}
theorem ww{α:Type}[Decidable P]{v:α}{ζ:Option α}{δ:α}(h:P->ζ=Y δ):(if(!decide P)=X then Y v else ζ)=Y (if¬P then v else δ):=l!
theorem vt(hf:Ai t)(f:(As t).2=0){q:d7}{v:Int}(u:0<=v)(h:v<=q.ff):EA t q v=Y (Rc t q v):=by
 unfold EA Rc;rw[W4 hf,bs];refine ww λd=>?_;have hv:=Vo f (.inr d);rw[NN (c:=λi=>(if(!Gn q i)=X then Y ()else W).map λ_=>.inr 9) (a:=v) (b:=q.ff) h]
 .rw[QS,M9];cases nd (λi=>!Gn q i) v q.ff<;>rfl
 .intro i w o _;rw[ae e!,show(λj=>Hj j i)=(λy=>Y (decide (y.j4.Var=i)))from rfl,cq,bs,show(q.ed.any λy=>decide (y.j4.Var=i))=Gn q i from rfl,d,AV U U];cases Gn q i<;>rfl
 .rw[az V]
theorem pi(p:d7)(v:Int):N7 p v=Y (Gn p v):=nx p v
theorem wB(hf:Ai t)(q:d7)(v:Int):MN t v q=Y (if q.ff<v then 20 else Rc t q v):=by
 unfold MN Rc;refine GM V λ_=>?_;rw[Za hf,bs];refine ww λd=>?_;rw[d,BT (λi=>!Gn q i) 9]
 .cases nd (λi=>!Gn q i) v q.ff<;>rfl
 .intro i f h _;rw[pi,bs,JF]
def Hm:Nat->eb->d7->d5->Int
 |0,_,_,_=>0|N+1,t,p,c=>
  if c.l3=5 then
   if c.d7.ff<p.ff then 20 else if Rc t c.d7 p.ff≠0 then Rc t c.d7 p.ff else
   if HM p.d3 c.d7.d3 c.Map≠0 then HM p.d3 c.d7.d3 c.Map else if HL c.Map=T then 1 else
   (fst (λi=>nz (Hm N t c.d7 (AA c.gl i))) 0 c.gl.length).getD 0
  else (fst (λi=>nz (Hm N t p (AA c.gl i))) 0 c.gl.length).getD 0
theorem iq(hf:Ai t)(o:(As t).2=0):∀(N:Nat)(c:d5)(p:d7),0<=p.ff->SizeOf.sizeOf c<=N->∀n,N<=n->Bz n t p c=Y (Hm N t p c)
 |0,c,p,_,h,_,_=>by have:=DP c;omega|N+1,c,p,C,h,n,D=>by
  obtain ⟨n,rfl⟩:∃m,n=m+1:=⟨n-1,U⟩;rw[Bz,Hm];have j:∀q:d7,0<=q.ff->(ek (kl (ρ:=Int) (λ(y:Int)(_:Unit)=>
    (idx c.gl y).bind λf=>
    (Bz n t q f).bind λd=>
    if (!decide (d=0))=X then
    Y (.ret d)
    else
    Y (.next ())) 0 (c.gl.length:Int) ()) (λ_=>
    Y 0) (λz=>Y z))=Y ((fst (λi=>nz (Hm N t q (AA c.gl i))) 0 c.gl.length).getD 0):=by
   intro q B;rw[BF (λi=>nz (Hm N t q (AA c.gl i))),CG];intro i u w _;have:=EE (AF (l:=c.gl) u w);rw[AC u w,bs,iq hf o N _ q B U n U,bs,L9]
  by_cases x:c.l3=5
  .rw[ae (by simpa using x),ae x];refine GM V λhv=>?_;rw[vt hf o C U,bs];refine DN λhi=>?_;rw[ZS,bs];refine DN λA=>?_;rw[np A,bs]
   grind
  grind
theorem jP(hf:Ai t):∀(N:Nat)(c:d5)(p:d7),SizeOf.sizeOf c<=N->∀n,N<=n->E0 n t p c=Y (Hm N t p c)
 |0,c,p,h,_,_=>by have:=DP c;omega|N+1,c,p,h,n,A=>by
  obtain ⟨n,rfl⟩:∃m,n=m+1:=⟨n-1,U⟩;rw[E0,Hm];have d:∀q:d7,(ek (kl (ρ:=Int) (λ(x:Int)(_:Unit)=>
    (idx c.gl x).bind λo=>
    (E0 n t q o).bind λf=>
    if (!decide (f=0))=X then
    Y (.ret f)
    else
    Y (.next ())) 0 (c.gl.length:Int) ()) (λ_=>
    Y 0) (λy=>Y y))=Y ((fst (λi=>nz (Hm N t q (AA c.gl i))) 0 c.gl.length).getD 0):=by
   intro q;rw[BF (λi=>nz (Hm N t q (AA c.gl i))),CG];intro i u w _;have:=EE (AF (l:=c.gl) u w);rw[AC u w,bs,jP hf N _ q U n U,bs,L9]
  by_cases j:c.l3=5
  .rw[ae d?,ae j,wB hf,bs];by_cases hv:c.d7.ff<p.ff
   .simp[hv]
   .simp only[az hv];refine DN λhi=>?_;rw[ZZ,bs];refine DN λz=>?_;rw[wA z,bs];exact WR λ_=>d _
  .rw[az d?,az j];exact d p
noncomputable def ID(t:eb)(p:d7)(c:d5):Int:=if EQ t p≠0 then EQ t p else if LQ c≠0 then LQ c else Hm (SizeOf.sizeOf c) t p c
theorem ig(hf:Ai t)(d:(As t).2=0)(p:d7)(f:De c):DA t p c=Y (ID t p c):=by
 unfold DA ID;rw[W4 hf,bs];refine DN λh=>?_;rw[pL f,bs,v5];exact DN λ_=>D3 (SizeOf.sizeOf c) λn j=>iq hf d _ c p (Vo d (.inl h)).1 (b6 _) n j
theorem jG(hf:Ai t)(p:d7)(d:De c):KQ t p c=Y (ID t p c):=by
 unfold KQ ID;rw[Za hf,bs];refine DN λh=>?_;rw[pu d,bs,v5];exact DN λ_=>D3 (SizeOf.sizeOf c) λn f=>jP hf _ c p (b6 _) n f
end Go.Sf.Sc
namespace Go.Sf.Sc
open Go Go.Sf
structure Pm(r:gn):Prop where
 name:(r.mt.size:Int)<=60
 left:OV r.kg
 right:OV r.fq
 fu:RU r.r0
 into:eH r.pc
 cond:De r.d5
noncomputable def Dc(t:eb)(r:gn):Int:=
 if (As t).2≠0 then(As t).2 else if Db r.mt=T then 2 else if EQ t r.kg≠0 then EQ t r.kg else
 if IT t r≠0 then IT t r else if O1 r≠0 then O1 r else if UH t r.fq.d3 (If r) (OZ r)=T then 13 else ID t r.kg r.d5
variable{t:eb}{r:gn}
theorem Vu(h:IT t r=0):CQ r.fq.d3/\CP t r.fq.d3=X:=by grind[IT,Cs]
theorem iu(hf:Ai t)(d:Pm r):IU t r=Y (Dc t r):=by
 have q:=d.name;unfold IU Dc;rw[Of hf,bs];refine DN λj=>?_;rw[Qp U,bs];refine WR λ_=>?_;rw[W4 hf,bs];refine DN λ_=>?_;rw[pJ hf,bs];refine DN λf=>?_;have ho:=Vu f;rw[sC d.fu,bs];refine DN λo=>?_;rw[ii ho.1,bs];dsimp only;rw[vu (ea:=If r) (ec:=OZ r) hf ho.1 ho.2 (λx h=>Gz h) (λx h=>Gz h),bs];refine WR λ_=>?_;rw[ig hf j _ d.cond,bs]
theorem bK(hf:Ai t)(d:Pm r):KS t r=Y (Dc t r):=by
 have u:=d.name;unfold KS Dc;rw[QW hf,bs];refine DN λq=>?_;rw[Qq U,bs];refine WR λ_=>?_;rw[Za hf,bs];refine DN λ_=>?_;rw[pj hf,bs];refine DN λf=>?_;have ho:=Vu f;rw[sg d.fu,bs,ZY,bs];simp only[ZY,bs];have e:(if(!I9 r.pc.ca)=X then Y X else Y (!I9 r.pc.ci))=Y (!HL r.pc):=by
  grind [HL,I9]
 rw [e,bs];have o:O1 r=if VD r≠0 then VD r else if HL r.pc=T then 11 else 0:=by
  grind [O1,VD,Dj]
 rw [o];by_cases j:VD r=0
 .simp only[j,ne_eq,not_true_eq_false,if_false,decide_true,y!,w_];cases hi:HL r.pc
  .simp
  .simp only[y!,w_,if_false,not_true_eq_false,Bool.true_eq_false];rw[jH ho.1,bs];dsimp only;rw[wC (ea:=If r) (ec:=OZ r) hf ho.1 ho.2 (λx h=>Gz h) (λx h=>Gz h),bs];refine WR λ_=>?_;rw[jG hf _ d.cond,bs]
 .simp[j]
def zO(t:eb)(l:Fp):Bool:=!(l.any λk=>t.ca.any λn=>decide (n.x6=k))
structure gc(t:eb)(r:gn):Prop where
 left:CQ r.kg.d3
 ltyped:CP t r.kg.d3=X
 right:CQ r.fq.d3
 AaE:CP t r.fq.d3=X
 rtests:r.fq.mo.length=0
 part:PN r.kg.d3 r.r0
 mor:SH (Cg r.kg.d3 r.r0) r.fq.d3 r.pc
 inj:r.pc.ca.Nodup/\r.pc.ci.Nodup
variable{p:d7}
theorem ax(h:EQ t p=0):CQ p.d3/\CP t p.d3=X:=by grind[EQ,Cs]
theorem dj(h:Dc t r=0):(As t).2=0/\gc t r:=by
 unfold Dc at h;split at h
 .omega
 split at h
 .cases h
 split at h
 .omega
 split at h
 .omega
 split at h
 .omega
 rename_i o q u w x;have d:=ax (t:=t) (p:=r.kg) U;have f:=Vu (t:=t) (r:=r) U;have j:=ol (r:=r) U;have hi:I9 r.pc.ca=X/\I9 r.pc.ci=X:=by
  grind [HL]
 refine ⟨U,d.1,d.2,f.1,f.2,?_,?_,U0 j.2.1,Jh.1 hi.1,Jh.1 hi.2⟩
 .grind[IT]
 grind [Dj,W7]
variable{l:Fp}
theorem cj{n:Nat}(h:∀x∈l,0<=x/\x<n)(f:l.Pairwise (·<·)):l.length<=n:=by
 have key:∀i:Int,0<=i->i<l.length->i<=AA l i:=by
  intro i d j;obtain⟨k,rfl⟩:=Int.eq_ofNat_of_zero_le d;clear d
  induction k with
  |zero=>exact(h _ (AF U U)).1|succ k o=>
   grind [Gs]
 by_cases d:l.length=0
 .omega
 .have a:=key ((l.length:Int)-1) U U
  grind [AF]
end Go.Sf.Sc
namespace Go.Sf
variable{a b:Int}
theorem VF{ρ:Type}{f:Int->Option (Be Int ρ)}(p:Int->Bool)(v:ρ)(d:a<=b)(h:∀i,a<=i->i<b->f i=Y (if p i=X then .ret v else .next (i+1)))(j:f b=Y (.brk b)):CY f a=Y (if nd p a b=X then .inr v else .inl b):=by
 rw [NN (c:=λi=>(if p i=X then Y ()else W).map λ_=>.inr v) d]
 .grind[QS,M9,nd]
 .intro i o q _;rw[h i o q];cases p i<;>rfl
 .exact j
theorem NC{α:Type}{e:α->TV}{n:Nat}{l:List α}(h:TV.Sm (.list n (l.map e))):(l.length:Int)<=140737488351232/\∀x∈l,(e x).Sm:=by
 simp [TV.Sm]at h;refine⟨by have:=h.1;unfold reachBytes at this;omega,λx d=>Ka.1 h.2 _ (A?.2 ⟨x,d,rfl⟩)⟩
end Go.Sf
namespace Go.Sf.Sc
open Go Go.Sf
def Zs(a:mh):Bool:=(decide (40<(a.mt.size:Int))||decide (25<(a.sc.length:Int)))||nd (λi=>decide (40<((AA a.sc i).size:Int))) 0 a.sc.length
theorem kX{a:mh}(h:Zs a=T):SG a:=by
 unfold Zs at h;simp[decide_eq_false_iff_not,Br]at h;refine⟨U,U,λx d=>?_⟩
 grind [BR]
variable{t:eb}
theorem T6(θ:(AJ t).Sm):∃b,LB t=Y b/\(b=X->Ai t):=by
 have K:TV.zQ [_,_]:=θ;obtain⟨w,N⟩:=NC (e:=Gq) K.1;unfold LB;by_cases hl:20<t.ca.length\/30<t.ci.length
 .rw[ae an]
  grind
 rw [az an];rcases Qk (f:=(λ(A:Int)(Q:Int)=>
 (idx t.ca A).bind λy=>
 (if(decide (30<(AH (Q+(y.qo.length:Int)))))=X then Y X else((idx t.ca A).bind λE=>
 Y (decide (40<(E.mt.size:Int))))).bind λF=>
 if F=X then
 Y (Be.ret T)
 else
 ek (CY (ρ:=Bool) (λ(s2:Int)=>
 (idx t.ca A).bind λG=>
 if (decide (s2<(G.qo.length:Int)))=X then
 (idx t.ca A).bind λH=>
 (idx H.qo s2).bind λq=>
 if ((decide (40<(q.mt.size:Int)))||(decide (25<(q.sc.length:Int))))=X then
 Y (.ret T)
 else
 ek (CY (ρ:=Bool) (λ(x:Int)=>
 if (decide (x<(q.sc.length:Int)))=X then
 (idx q.sc x).bind λI=>
 if (decide (40<(I.size:Int)))=X then
 Y (.ret T)
 else
 Y (.next (AH (x+1)))
 else
 Y (.brk x)) 0) (λx=>
 Y (.next (AH (s2+1)))) (λε=>Y (.ret ε))
 else
 Y (.brk s2)) 0) (λs2=>
 Y (.next (AH (Q+(y.qo.length:Int))))) (λκ=>Y (.ret κ))))
  (λi s=>0<=s/\s<=30/\∀j,0<=j->j<i->((AA t.ca j).mt.size:Int)<=40/\(AA t.ca j).qo.length<=30/\∀a∈(AA t.ca j).qo,SG a) (λ_=>False) (λr=>r=T) (a:=0) (b:=t.ca.length) (s:=0) U ⟨U,U,λj z d=>U⟩ (λi s B C η=>by
   have Z:=N _ (AF (l:=t.ca) B C);have L:TV.zQ [_,_,_,_]:=Z;obtain⟨ha,O⟩:=NC (e:=IF) L.2.2.2.1;obtain⟨hI1,hI2,hI3⟩:=η;have hw:AH (s+(AA t.ca i).qo.length)=s+(AA t.ca i).qo.length:=AV U U;simp only[AC B C,bs,hw,UP];by_cases hc:30<s+(AA t.ca i).qo.length\/40<((AA t.ca i).mt.size:Int)
   .grind
   rw [az (by simpa using hc)];rw[VF (λj=>Zs (AA (AA t.ca i).qo j)) T (b:=(AA t.ca i).qo.length) U]
   .cases S:nd (λj=>Zs (AA (AA t.ca i).qo j)) 0 (AA t.ca i).qo.length
    .refine .inl ⟨_,rfl,U,U,λj J D=>?_⟩
     grind [BR,kX,Br]
    .exact .inr (.inr ⟨_,rfl,rfl⟩)
   .intro j J D;rw[ae t9,AC J D,bs];have hy:=O _ (AF (l:=(AA t.ca i).qo) J D);have M:TV.zQ [_,_,_,_]:=hy;obtain⟨hm,_⟩:=NC (e:=eS) M.2.2.2.1;unfold Zs;cases z:(decide (40<((AA (AA t.ca i).qo j).mt.size:Int))||decide (25<((AA (AA t.ca i).qo j).sc.length:Int)))
    .rw[az a?,VF (λk=>decide (40<((AA (AA (AA t.ca i).qo j).sc k).size:Int))) T (b:=(AA (AA t.ca i).qo j).sc.length) U]
     .cases nd (λk=>decide (40<((AA (AA (AA t.ca i).qo j).sc k).size:Int))) 0 (AA (AA t.ca i).qo j).sc.length
      .rw[Bool.or_false,AV (show -9223372036854775808<=j+1 by omega) U];rfl
      .rfl
     .intro k u o;rw[ae e!,AC u o,bs,AV (show -9223372036854775808<=k+1 by omega) U,JF]
     .rw[az V]
    .rfl
   .rw[az V])with⟨s',z,d⟩|⟨r,z,d⟩
 .rw[z];rcases d with d|d
  .rw[Bc,BT (λi=>decide (40<((AA t.ci i).mt.size:Int))) T]
   .cases S:nd (λi=>decide (40<((AA t.ci i).mt.size:Int))) 0 t.ci.length
    .refine⟨X,rfl,λ_=>⟨U,U,λn w=>?_,λn w=>?_,λn w=>?_,λe he=>?_⟩⟩
     .obtain⟨k,u,o,rfl⟩:=BR w;exact(d.2.2 k u o).1
     .obtain⟨k,u,o,rfl⟩:=BR w;exact(d.2.2 k u o).2.1
     .obtain⟨k,u,o,rfl⟩:=BR w;exact(d.2.2 k u o).2.2
     .obtain⟨k,u,o,rfl⟩:=BR he;have:=Br.1 S k u o;simpa using this
    .exact⟨T,rfl,λh=>c?⟩
   .intro i B C _;rw[AC B C,bs,JF]
  .exact d.elim
 .rw[z];subst d;exact⟨T,rfl,λh=>c?⟩
theorem Rw(p:d7):∃b,JX p=Y b/\(b=X->OV p):=by
 refine ⟨_,rfl,λh=>?_⟩;simp[yk]at h;exact⟨U,U,U,U⟩
variable{a b:Int}
theorem cz(h:0<=a)(d:a<=140737488351232)(j:0<=b)(f:b<=140737488351232):AH (a+b)=a+b:=AV U U
variable{m:d4}
theorem Xf(f:(Ao m).Sm):∃b,Pc m 140=Y b/\(b=X->eH m):=by
 have d:TV.zQ [_,_]:=f;have j:=(NC (e:=eI) d.1).1;have o:=(NC (e:=eI) d.2.1).1;refine⟨_,rfl,λh=>?_⟩;rw[cz U j U o]at h;simp[yk]at h;exact⟨U,U⟩
theorem kh{m:BN}(f:(Hk m).Sm):∃b,RK m 140=Y b/\(b=X->RU m):=by
 have d:TV.zQ [_,_]:=f;have j:=(NC (e:=eI) d.1).1;have o:=(NC (e:=eI) d.2.1).1;refine⟨_,rfl,λh=>?_⟩;rw[cz U j U o]at h;simp[yk]at h;exact⟨U,U⟩
variable{c:d5}
theorem ct(h:(AI c).Sm):(Ao c.Map).Sm/\(c.gl.length:Int)<=140737488351232/\∀k∈c.gl,(AI k).Sm:=by
 have f:TV.zQ [_,_,_,_,_,_,_,_,_]:=h;obtain⟨_,d,j,o,_⟩:=f;rw[Q5]at d;obtain⟨q,u⟩:=NC d;exact⟨⟨j,o,trivial⟩,q,u⟩
theorem Z8:∀(N:Nat)(c:d5),SizeOf.sizeOf c<=N->(AI c).Sm->∀tc:Int,0<=tc->tc<=1000->∃r,(∀n,N<=n->Cc n c tc=Y r)/\-1<=r/\r<=tc-1/\(0<=r->De c)
 |0,c,h,_,_,_,_=>by have:=DP c;omega|N+1,c,h,hs,tc,m0,m1=>by
  obtain ⟨L,M,B⟩:=ct hs;obtain⟨O,E,Q⟩:=Rw c.d7;obtain⟨S,H,θ⟩:=Xf L;have step:∀n,N+1<=n->∃m,n=m+1/\N<=m:=λn d=>⟨n-1,U,U⟩;cases O
  .refine⟨-1,λn d=>?_,U,U,λh=>U⟩;obtain⟨n,rfl,_⟩:=step n d;rw[Cc,E];rfl
  cases S
  .refine⟨-1,λn d=>?_,U,U,λh=>U⟩;obtain⟨n,rfl,_⟩:=step n d;rw[Cc,E,bs,H];rfl
  have loop:∀(m:Nat)(k left:Int),0<=k->k+m=c.gl.length->-1<=left->left<=1000->∃f u,(∀n,N<=n->Ks (ρ:=Int) (λ(q:Int×Int)=>
    if ((decide (q.2<(c.gl.length:Int)))&&(decide (0<=q.1)))=X then
    (idx c.gl q.2).bind λx=>
    (Cc n x q.1).bind λy=>
    Y (.next (y,AH (q.2+1)))
    else
    Y (.brk (q.1,q.2))) (left,k) (.inl (f,u)))/\-1<=f/\f<=left/\(0<=f->∀j,k<=j->j<c.gl.length->De (AA c.gl j)):=by
   intro m
   induction m with
   |zero=>
    intro k left C I D l1;refine⟨left,k,λn d=>.brk ?_,D,U,λ_ j z w=>U⟩;rw[az an]
   |succ m Z=>
    intro k left C I D l1;by_cases J:0<=left
    .have o:=AF (l:=c.gl) C U;have:=EE o;obtain⟨r,ε,κ,r3,η⟩:=Z8 N _ U (B _ o) left J l1;obtain⟨f,u,a1,a2,a3,F⟩:=Z (k+1) r U U κ U;refine⟨f,u,λn d=>.next (s':=(r,k+1)) ?_ (a1 n d),a2,U,λA j z w=>?_⟩
     .rw[ae an,AC C U,bs,ε n d,bs,AV U U]
     .by_cases K:j=k
      .subst K;exact η U
      .exact F A j U w
    .refine⟨left,k,λn d=>.brk ?_,D,U,λh=>U⟩;rw[az an]
  obtain ⟨f,u,a1,a2,a3,F⟩:=loop c.gl.length 0 (tc-1) U U U U;refine⟨f,λn d=>?_,a2,a3,λA=>.mk c (Q rfl) (θ rfl) (λk B=>?_)⟩
  .obtain⟨n,rfl,G⟩:=step n d;rw[Cc,E,bs,H];simp only[bs,y!,w_,if_false];rw[AV (n:=tc-1) U U,(a1 n G).eq,Bc]
  .obtain⟨j,z,w,rfl⟩:=BR B;exact F A j z w
theorem kf(d:(AI c).Sm):∃b,JY c=Y b/\(b=X->De c):=by
 obtain ⟨r,f,_,_,j⟩:=Z8 (SizeOf.sizeOf c) c (b6 _) d 40 U U;have e:QJ c 40=Y r:=D3 (SizeOf.sizeOf c) f;unfold JY;rw[e];exact⟨_,rfl,λh=>j c_⟩
theorem Ku{b:Bool}{o:K1}{c:Bool}(h:o=Y c):(if b=X then o.bind λx=>Y x else Y T)=Y (b&&c):=by
 subst h;cases b<;>rfl
variable{r:gn}
theorem ki(d:(BX r).Sm):∃b,Pf r=Y b/\(b=X->Pm r):=by
 have f:TV.zQ [_,_,_,_,_,_,_,_,_,_,_,_,_,_,_,_,_,_,_,_,_,_,_,_,_]:=d;obtain⟨_,_,_,_,_,_,_,_,_,_,_,j,o,q,u,_,w,x,c3,y,c5,z,A,B,C,_⟩:=f;obtain⟨N,D,E⟩:=Rw r.kg;obtain⟨O,F,G⟩:=Rw r.fq;obtain⟨Q,H,I⟩:=kh (m:=r.r0) ⟨j,o,trivial⟩;obtain⟨S,J,K⟩:=Xf (m:=r.pc) ⟨q,u,trivial⟩;obtain⟨θ,L,M⟩:=kf (c:=r.d5) ⟨w,x,c3,y,c5,z,A,B,C,trivial⟩;unfold Pf;rw[Ku D,bs,Ku F,bs,Ku H,bs,Ku J,bs,Ku L,bs];refine⟨_,rfl,λh=>?_⟩;simp[yk]at h;exact⟨h.1.1.1.1.1,E h.1.1.1.1.2,G h.1.1.1.2,I h.1.1.2,K h.1.2,M h.2⟩
end Go.Sf.Sc
