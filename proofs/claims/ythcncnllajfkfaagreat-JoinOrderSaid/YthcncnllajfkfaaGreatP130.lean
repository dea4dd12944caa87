/- Plain lemmas: what the functions of the program and of the reference compute. -/
import Derived.Test.YthcncnllajfkfaaGreatP96
import Derived.Test.YthcncnllajfkfaaGreatP61
set_option linter.all false
set_option maxRecDepth 100000
open Option renaming some->Y,none->W
open Bool renaming true->X,false->T
open Int renaming toNat_natCast->v?,eq_ofNat_of_zero_le->w_
open List renaming nodup_range->w!,getElem?_eq_getElem->w?,mem_filter->x_,length_filter_le->x!,filter_append->x?,mem_map->y_,mem_append->y!,mem_singleton->y?,append_nil->z_,length_singleton->z!,take_sublist->z?,any_eq_false->A_,mem_cons->A',mem_cons_of_mem->A!,getElem?_modify->A?,length_set->B_,getD_eq_getElem?_getD->B',zip_map'->B!,take_length->B?,countP_cons->C_,take_of_length_le->C',replicate->C!,length_replicate->C?,map_congr_left->D_,map->D'
open Bool renaming not_eq_false->D!,not_eq_true'->D?,or_eq_false_iff->E_,not_eq_true->E',or_eq_true->E!,true_and->E?
open Classical renaming not_not->F_,byContradiction->F!
namespace Go.Sf.Sc
open Go Go.Sf
variable{n:Nat}
theorem oL(h:n<=1000):Ll 0 n=Y (Ay n):=by
 unfold Ll;rw[CC (a:=0) (b:=(n:Int)) (s:=[]) (λi=>Ay i.toNat) U rfl,bs,v?];intro i e i1;rw[AS (by rw[A2];simp;unfold AX;omega),bs,Eo e,Int.zero_add,AT U U]
def H8(l:Fp)(n:Nat):Prop:=l.Perm (Ay n)
variable{l:Fp}
theorem H8.len(h:H8 l n):l.length=n:=by rw[h.length_eq,A2]
theorem H8.mem(h:H8 l n){x:Int}:x∈l↔0<=x/\x<n:=by rw[h.mem_iff,C5]
variable{i j:Int}
theorem H8.ne(h:H8 l n)(f:0<=j)(u:j<i)(i1:i<n):AA l j≠AA l i:=by
 have hd:l.Nodup:=h.nodup_iff.2 (by
  unfold Ay;exact List.Pairwise.map _ (λa b h e=>h (Int.ofNat.inj e)) w!)
 have:=h.len;exact IM hd f u U
theorem aw(A:n<=1000){f:Fp}(B:∀x∈f,U8 x):∃l,JB n f=Y l/\H8 l n:=by
 unfold JB;rw[oL A,bs];refine E1 (λi l=>0<=i/\H8 l n) n ⟨U,.refl _⟩ (λi l C⟨a1,a2⟩=>?_) (λi l C⟨a1,a2⟩_=>⟨l,rfl,a2⟩);dsimp only;by_cases u:i<n/\i<f.length
 .left;have z:=B _ (AF a1 u.2);have F:=a2.len;obtain⟨r,e,G,H⟩:=Ca (show 0<=AJ (AA f i)by rw[z.w];exact z.1) (show 0<(n:Int)-i by omega);refine⟨u.1,BF (BF l i (AA l (i+r))) (i+r) (AA l i),?_,U,?_⟩
  .rw[ac i_,AD a1 u.2,bs,AT (n:=(n:Int)-i) U U,e,bs,AT (n:=i+r) U U,AD U U,bs,AD a1 U,bs,bs,AD U so,bs,AT (n:=i+1) U U]
  .refine List.Perm.trans ?_ a2;have D:i.toNat<l.length:=U
   have E:(i+r).toNat<l.length:=U
   have:=@List.set_set_perm _ l _ _ D E;unfold BF
   rwa [show AA l i=l[i.toNat]by grind[AA,w?],show AA l (i+r)=l[(i+r).toNat]by grind[AA,w?]]
 .right;rw[ae i_]
theorem jY(h:H8 l n):GT l=Y 0:=by
 have z:=h.len;unfold GT;rw[Bh (λ_=>(W:a5)),BC.2 (λ_ _ _=>rfl),Db]
 .dsimp only;rw[Bh (λ_=>(W:a5)),BC.2 (λ_ _ _=>rfl),Db];intro i f i1 _;rw[Bh (λ_=>(W:a5)),BC.2 (λ_ _ _=>rfl),Db]
  .rfl
  .intro j u w _;rw[AD f i1,bs,AD u U,bs,ae (by rw[decide_eq_true_iff];exact λe=>h.ne u w U e.symm)];rfl
 .intro i f i1 _;have A:=h.mem.1 (AF f i1);rw[AD f i1,bs,ae an,bs,bs,ae an];rfl
structure ReO(g g':d3)(m:d4):Prop where
 nl:g'.ci.length=g.ci.length
 el:g'.c9.length=g.c9.length
 node:∀i:Int,0<=i->i<g.ci.length->AA g'.ci (AA m.ci i)=AA g.ci i
 edge:∀i:Int,0<=i->i<g.c9.length->AA g'.c9 (AA m.c9 i)=⟨(AA g.c9 i).j4,AA m.ci (AA g.c9 i).jj,AA m.ci (AA g.c9 i).To⟩
variable{g:d3}
theorem SR(e:Cp g):Dj g=Y g:=by
 have:=e.ea;have:=e.eb;unfold Dj;rw[Be b_,bs,Be b_,bs]
variable{m:d4}
theorem oB(C:Cp g)(A:H8 m.ci g.ci.length)(he:H8 m.c9 g.c9.length):∃v,Ln g m=Y v/\v.2=0/\ReO g v.1 m:=by
 have G:=A.len;have H:=he.len;unfold Ln;rw[NN,bs,ae (by simp[EH C]),ae (by simp[G,H]),jY A,bs,ae a!,jY he,bs,ae a!,SR C,bs];refine Oj (λi s=>s.c9=g.c9/\s.ci.length=g.ci.length/\∀k:Int,0<=k->k<i->AA s.ci (AA m.ci k)=AA g.ci k) U ⟨rfl,rfl,λk w D=>U⟩ (λi s f i1⟨a1,a2,a3⟩=>?_) (λs⟨a1,a2,a3⟩=>?_)
 .have z:=A.mem.1 (AF f U);refine⟨⟨BF s.ci (AA m.ci i) (AA g.ci i),s.c9⟩,?_,a1,by rw[DQ];exact a2,λk w D=>?_⟩
  .rw[AD f U,bs,AD f i1,bs,AD z.1 U,bs]
  .by_cases e:k=i
   .rw[e];exact P4 _ z.1 U
   .have J:=A.mem.1 (AF w U);exact(TS _ z.1 J.1 (A.ne w U i1)).trans (a3 k w U)
 refine Oj (λi u=>u.ci=s.ci/\u.c9.length=g.c9.length/\∀k:Int,0<=k->k<i->AA u.c9 (AA m.c9 k)=⟨(AA g.c9 k).j4,AA m.ci (AA g.c9 k).jj,AA m.ci (AA g.c9 k).To⟩) U ⟨rfl,by rw[a1],λk w D=>U⟩ (λi u f i1⟨B,E,F⟩=>?_) (λu⟨B,E,F⟩=>⟨_,rfl,rfl,by rw[B];exact a2,E,λi f i1=>by rw[B];exact a3 i f i1,F⟩);have z:=he.mem.1 (AF f U);have hf:=C.fit _ (AF f i1);refine⟨⟨u.ci,BF u.c9 (AA m.c9 i) ⟨(AA g.c9 i).j4,AA m.ci (AA g.c9 i).jj,AA m.ci (AA g.c9 i).To⟩⟩,?_,B,by rw[DQ];exact E,λk w D=>?_⟩
 .rw[AD f i1,bs,AD f U,bs,AD hf.2.1.1 U,bs,AD hf.2.2.1 U,bs,AD z.1 U,bs]
 .by_cases e:k=i
  .rw[e];exact P4 _ z.1 U
  .have J:=he.mem.1 (AF w U);exact(TS _ z.1 J.1 (he.ne w U i1)).trans (F k w U)
end Go.Sf.Sc
namespace Go.Sf.Sc
open Go Go.Sf
def vp(x:Int):Prop:=0<=x/\x<18446744073709551616
theorem ABG{a b:Int}(ha:vp a)(hb:0<=b):∃r,Gn .u64 .shr a b=Y r:=by
 unfold Gn;dsimp only;have e:(0:Int)<=2^ (min b.toNat IntKind.u64.bits):=Int.pow_nonneg U;have f:=Int.ediv_nonneg ha.1 e;have u:=Int.ediv_le_self (2^ (min b.toNat IntKind.u64.bits)) ha.1;rw[Int.fdiv_eq_ediv_of_nonneg _ e,ac ⟨hb,f,by have:=ha.2;show _<=(18446744073709551615:Int);omega⟩];exact⟨_,rfl⟩
def Yc(l:a6):Fp:=(Ay l.length).filter λi=>AA l i
variable{i:Int}
theorem Sz{l:a6}:i∈Yc l↔(0<=i/\i<l.length)/\AA l i=X:=by
 unfold Yc;rw[x_,C5]
theorem nL(l:a6):(∀x∈Yc l,0<=x/\x<l.length)/\(Yc l).Pairwise (·<·):=by
 refine ⟨λx e=>(Sz.1 e).1,List.Pairwise.filter _ ?_⟩;unfold Ay;exact List.Pairwise.map _ (λa b h=>Int.ofNat_lt.2 h) List.pairwise_lt_range
theorem fc{l:a6}(u:l.length<=1000):Kc l=Y (Yc l):=by
 unfold Kc;rw[CC (a:=0) (b:=(l.length:Int)) (s:=[]) (λi=>(Ay i.toNat).filter λi=>AA l i) U rfl,bs,v?]
 .rfl
 .intro i f i1;have w:((Ay i.toNat).filter λi=>AA l i).length<=i.toNat:=by
   have:=x! (λi=>AA l i) (Ay i.toNat)
   rwa [A2]at this
  rw [AD f i1,bs,Eo f,x?];cases e:AA l i
  .simp[e]
  .rw[ac rfl,AS a_,bs];simp[e]
variable{l:Fp}
theorem dR{n:Int}(h:∀x∈l,0<=x/\x<n)(e:l.Pairwise (·<·)):P3 l n=0:=by
 unfold P3;rw[BC.2]
 .rfl
 intro i f i1;have:=h _ (AF f i1);rw[ae U,ae];rintro⟨u,k⟩;have:=IM e (show 0<=i-1 by omega) (show i-1<i by omega) i1;omega
variable{g:d3}
theorem am{p:BR}(h:Qv g p):OK g p=0:=by
 unfold OK;rw[ae (by simp[dR h.ea.1 h.ea.2]),ae (by simp[dR h.eb.1 h.eb.2]),BC.2]
 .rfl
 intro i e i1;have:=h.ends _ (AF e i1);rw[ac (by rw[pc,By,By];exact this)]
theorem ut(u:Cp g){ea eb:a6}(F:ea.length=g.ci.length)(he:eb.length=g.c9.length):∃p,N1 g ea eb=Y p/\Qv g p:=by
 have N:=u.ea;have O:=u.eb;unfold N1;rw[Be b_,bs];refine Oj (λi s=>s.length=g.ci.length/\∀k:Int,0<=k->k<i->AA eb k=X->AA s (AA g.c9 k).jj=X/\AA s (AA g.c9 k).To=X) U ⟨F,λk w D=>U⟩ (λi s A i1⟨a1,a2⟩=>?_) (λs⟨a1,a2⟩=>?_)
 .rw[AD A i1,bs];cases e:AA eb i
  .refine⟨s,rfl,a1,λk w D z=>?_⟩;by_cases h:k=i
   .rw[h,e]at z;cases z
   .exact a2 k w U z
  .have hf:=(u.fit _ (AF (l:=g.c9) A U)).2;rw[ac rfl,AD A U,bs,bs,AD hf.1.1 U,bs,AD hf.2.1 so,bs];refine⟨_,rfl,by rw[DQ,DQ];exact a1,λk w D z=>?_⟩;have ey:∀{x j:Int}{l:a6},0<=x->x<l.length->0<=j->AA l j=X->AA (BF l x X) j=X:=λ{x j l}x0 x1 G H=>by
    by_cases e:j=x
    .rw[e];exact P4 _ x0 x1
    .rw[TS _ x0 G e];exact H
   have f:=(u.fit _ (AF (l:=g.c9) w U)).2;by_cases K:k=i
   .rw[K];exact⟨ey hf.2.1 so hf.1.1 (P4 _ hf.1.1 U),P4 _ hf.2.1 so⟩
   .obtain⟨B,C⟩:=a2 k w U z;exact⟨ey hf.2.1 so f.1.1 (ey hf.1.1 U f.1.1 B),ey hf.2.1 so f.2.1 (ey hf.1.1 U f.2.1 C)⟩
 .rw[fc U,bs,fc U,bs];have m1:=nL s;have E:=nL eb;rw[a1]at m1;rw[he]at E;refine⟨_,rfl,m1,E,λx J=>?_⟩;obtain⟨⟨x0,x1⟩,M⟩:=Sz.1 J;have hf:=(u.fit _ (AF (l:=g.c9) x0 U)).2;obtain⟨B,C⟩:=a2 x x0 x1 M;exact⟨Sz.2 ⟨⟨hf.1.1,U⟩,B⟩,Sz.2 ⟨⟨hf.2.1,U⟩,C⟩⟩
theorem qw(A:Cp g){set:Int}(G:vp set):∃p,Pa g set=Y p/\Qv g p:=by
 have M:=A.ea;have N:=A.eb;have w:∀{i:Int},0<=i->∃r q,DK i 64=Y r/\Gn .u64 .shr set r=Y q:=λ{i}B=>by
  obtain ⟨r,e,J,_⟩:=Ca B (show(0:Int)<64 by omega);obtain⟨q,z⟩:=ABG G J;exact⟨r,q,e,z⟩
 have nd:∀q:Int,∃r,Gn .u64 .and q 1=Y r:=λq=>⟨_,rfl⟩;unfold Pa;rw[Hi,ac U,bs,Hi,ac U,bs];refine E1 (λi s=>0<=i/\s.length=g.ci.length) g.ci.length ⟨U,V⟩ (λi s B⟨a1,a2⟩=>?_) (λi s B⟨a1,a2⟩_=>?_)
 .dsimp only;by_cases f:i<s.length
  .left;obtain⟨r,q,D,z⟩:=w a1;obtain⟨b,E⟩:=nd q;refine⟨U,BF s i (decide (b=1)),?_,U,by rw[DQ];exact a2⟩;rw[ac d!,D,bs,z,bs,E,bs,AD a1 f,bs,AT U U]
  .right;rw[ae d!]
 dsimp only;refine E1 (λj u=>0<=j/\u.length=g.c9.length) g.c9.length ⟨U,V⟩ (λj u H⟨F,C⟩=>?_) (λj u H⟨F,C⟩_=>?_)
 .dsimp only;by_cases f:j<u.length
  .left;obtain⟨r,q,D,z⟩:=w (show 0<=(s.length:Int)+j by omega);obtain⟨b,E⟩:=nd q;refine⟨U,BF u j (decide (b=1)),?_,U,by rw[DQ];exact C⟩;rw[ac d!,AT (n:=(s.length:Int)+j) U U,D,bs,z,bs,E,bs,AD F f,bs,AT U U]
  .right;rw[ae d!]
 .obtain⟨p,e,K⟩:=ut A a2 C;exact⟨p,by rw[e,bs],K⟩
end Go.Sf.Sc
namespace Go.Sf.Sc
open Go Go.Sf
variable{α:Type}{n:Nat}
theorem Px{f:α->TV}{l:List α}(h:l.length<=1000)(hf:∀x,(f x).Sm):(eL n f l).Sm:=by
 refine ⟨t_,L5.2 λt e=>?_⟩;obtain⟨x,_,rfl⟩:=y_.1 e;exact hf x
theorem Y1(x:Int):(eI x).Sm:=trivial
theorem yO(x:Bt):(B6 x).Sm:=by simp[B6,TV.Sm,TV.Sms,eI]
theorem yP(x:CA):(FK x).Sm:=by simp[FK,TV.Sm,TV.Sms,eI]
theorem yQ(x:Test):(F1 x).Sm:=by simp[F1,TV.Sm,TV.Sms,eI]
def iS(g:d3):Prop:=g.ci.length<=1000/\g.c9.length<=1000
theorem da{c:d5}(w:∀k∈c.fl,(AI k).Sm)(h0:c.fl.length<=1000)(e:c.Map.ci.length<=1000/\c.Map.c9.length<=1000)(f:iS c.d6.d3)(u:c.d6.ei.length<=1000/\c.d6.kg.length<=1000):(AI c).Sm:=by
 refine ⟨trivial,?_,Px e.1 Y1,Px e.2 Y1,Px f.1 Y1,Px f.2 yO,Px u.1 yP,trivial,Px u.2 yQ,trivial⟩;unfold Ef;rw[NC];refine⟨t_,L5.2 λt z=>?_⟩;obtain⟨x,A,rfl⟩:=y_.1 z;exact w x A
variable{r:fd}
theorem oY(h0:r.kp.size<=1000)(e:iS r.gl.d3)(f:r.gl.ei.length<=1000/\r.gl.kg.length<=1000)(u:iS r.ec.d3)(w:r.ec.ei.length<=1000/\r.ec.kg.length<=1000)(z:r.pf.ci.length<=1000/\r.pf.c9.length<=1000)(A:r.o3.ci.length<=1000/\r.o3.c9.length<=1000)(B:(AI r.d5).Sm):(CB r).Sm:=by
 obtain ⟨C,D,E,F,c5,G,H,c8,J,_⟩:=B;exact⟨by show r.kp.size<=reachBytes;unfold reachBytes;omega,Px e.1 Y1,Px e.2 yO,Px f.1 yP,trivial,Px f.2 yQ,Px u.1 Y1,Px u.2 yO,Px w.1 yP,trivial,Px w.2 yQ,Px z.1 Y1,Px z.2 Y1,Px A.1 Y1,Px A.2 Y1,trivial,C,D,E,F,c5,G,H,c8,J,trivial⟩
theorem Fx.sm{t:AC}(h:Fx t):(AL t).Sm:=by
 have hf:=h.few;refine⟨⟨by rw[cL];have:=hf.ea;unfold reachBytes;omega,L5.2 λx f=>?_⟩,⟨by rw[cL];have:=hf.eb;unfold reachBytes;omega,L5.2 λx f=>?_⟩,trivial⟩
 .obtain⟨n,w,rfl⟩:=y_.1 f;have D:=hf.name n w;have E:=hf.Abo n w;refine⟨by show n.kp.size<=reachBytes;unfold reachBytes;omega,trivial,trivial,⟨t_,L5.2 λy A=>?_⟩,trivial⟩;obtain⟨a,ha,rfl⟩:=y_.1 A;have u:=hf.each n w a ha;refine⟨by show a.kp.size<=reachBytes;have:=u.name;unfold reachBytes;omega,trivial,trivial,⟨by rw[cL];have:=u.names;unfold reachBytes;omega,L5.2 λz B=>?_⟩,trivial⟩;obtain⟨s,C,rfl⟩:=y_.1 B;show s.size<=reachBytes;have:=u.each s C;unfold reachBytes;omega
 .obtain⟨e,he,rfl⟩:=y_.1 f;have:=hf.AbZ e he;exact⟨by show e.kp.size<=reachBytes;unfold reachBytes;omega,trivial,trivial,trivial,trivial,trivial,trivial,trivial⟩
structure We(t:AC)(g:d3):Prop where
 ok:Cp g
 kind:∀n∈g.ci,0<=n/\n<t.ci.length
 et:∀e∈g.c9,e.j4<t.c9.length
variable{g:d3}
theorem SZ.okG{t:AC}(f:Fx t)(h:SZ t g):We t g:=⟨(h.ok f).1,h.kind,λe he=>(h.fit e he).1.2⟩
theorem ql{t:AC}{p:BR}(h:We t g)(f:Qv g p):We t (DC g p)/\p.ci.length<=g.ci.length/\p.c9.length<=g.c9.length:=by
 have l1:=iU f.ea.1 f.ea.2;have l2:=iU f.eb.1 f.eb.2;have B:=h.ok.ea;have C:=h.ok.eb;refine⟨⟨⟨by simp[DC];omega,by simp[DC];omega,λn w=>?_,λe he=>?_⟩,λn w=>?_,λe he=>?_⟩,l1,l2⟩
 .obtain⟨x,u,rfl⟩:=y_.1 w;exact h.ok.kind _ (AF (f.ea.1 x u).1 (f.ea.1 x u).2)
 .obtain⟨x,u,rfl⟩:=y_.1 he;have hf:=h.ok.fit _ (AF (f.eb.1 x u).1 (f.eb.1 x u).2);have z:=Hh (f.ends x u).1;have A:=Hh (f.ends x u).2;simp only[DC,cL];exact⟨hf.1,⟨z.1,z.2.1⟩,A.1,A.2.1⟩
 .obtain⟨x,u,rfl⟩:=y_.1 w;exact h.kind _ (AF (f.ea.1 x u).1 (f.ea.1 x u).2)
 .obtain⟨x,u,rfl⟩:=y_.1 he;have:=h.et _ (AF (f.eb.1 x u).1 (f.eb.1 x u).2);exact this
def QT(t:AC):Fp:=(Ay t.ci.length).filter λi=>!(AA t.ci i).p0
variable{i:Int}
theorem P5{t:AC}:i∈QT t↔(0<=i/\i<t.ci.length)/\(AA t.ci i).p0=T:=by
 unfold QT;rw[x_,C5];simp
theorem Zy{t:AC}(h:t.ci.length<=1000):l3 (λ(f:Int)(z:Fp)=>
 (idx t.ci f).bind λu=>
 if (!u.p0)=X then
 (AY z [f]).bind λw=>
 Y w
 else
 Y z) 0 (t.ci.length:Int) []=Y (QT t):=by
 rw [CC (a:=0) (b:=(t.ci.length:Int)) (s:=[]) (λi=>(Ay i.toNat).filter λi=>!(AA t.ci i).p0) U rfl,v?]
 .rfl
 .intro i f i1;have A:((Ay i.toNat).filter λi=>!(AA t.ci i).p0).length<=i.toNat:=by
   have:=x! (λi=>!(AA t.ci i).p0) (Ay i.toNat)
   rwa [A2]at this
  rw [AD f i1,bs,Eo f,x?];cases e:(AA t.ci i).p0
  .rw[ac (show(!T)=X from rfl),AS a_,bs];simp[e]
  .simp[e]
def sX(t:AC)(k g:d3):Prop:=∃xs ys,g=⟨k.ci++xs,k.c9++ys⟩/\xs.length<=2/\ys.length<=2/\(∀x∈xs,x∈QT t)/\∀e∈ys,Uz t g.ci.length e/\LD t e.j4 (AA g.ci e.jj) (AA g.ci e.To)=X
variable{d:F6}
theorem uz{t:AC}(H:Fx t){k:d3}(E:We t k)(O:∀x∈d.ci,U8 x)(he:∀x∈d.c9,U3 x):∃g,N7 t k d=Y g/\sX t k g:=by
 have Z:=E.ok.ea;have h2:=E.ok.eb;have θ:=H.ea;unfold N7 NW;rw[SR E.ok,bs,Zy U,bs,bs];refine E1 (λi s=>(0<=i/\i<=2)/\∃xs:Fp,s=⟨k.ci++xs,k.c9⟩/\(xs.length:Int)<=i/\∀x∈xs,x∈QT t) 2 ⟨U,[],V,V,λx f=>by cases f⟩ (λi s P⟨a1,xs,a2,a3,F⟩=>?_) (λi s P⟨a1,xs,a2,a3,F⟩_=>?_)
 .dsimp only;by_cases z:(i<d.ci.length/\i<2)/\0<((QT t).length:Int)
  .left;have f:=O _ (AF a1.1 z.1.1);obtain⟨r,e,B,A⟩:=Ca (show 0<=AJ (AA d.ci i)by rw[f.w];exact f.1) z.2;refine⟨U,⟨k.ci++(xs++[AA (QT t) r]),k.c9⟩,?_,U,_,rfl,an,λx f=>(y!.1 f).elim (F x) λf=>y?.1 f▸AF B A⟩;rw[ac m_,AD a1.1 z.1.1,bs,e,bs,AD B A,bs,a2,AS a_,bs,AT (n:=i+1) U U,cR]
  .right;rw[ae m_]
 subst a2;dsimp only;refine E1 (λj u=>(0<=j/\j<=2)/\∃ys:List Bt,u=⟨k.ci++xs,k.c9++ys⟩/\(ys.length:Int)<=j/\∀e∈ys,Uz t (k.ci++xs).length e/\LD t e.j4 (AA (k.ci++xs) e.jj) (AA (k.ci++xs) e.To)=X) 2 ⟨U,[],V,V,λx f=>by cases f⟩ (λj u Q⟨B,ys,A,S,D⟩=>?_) (λj u Q⟨B,ys,A,S,D⟩_=>⟨u,rfl,xs,ys,A,U,U,F,by rw[A];exact D⟩);dsimp only;by_cases z:((j<d.c9.length/\j<2)/\0<((k.ci++xs).length:Int))/\0<(t.c9.length:Int)
 .left;have f:=he _ (AF B.1 z.1.1.1);obtain⟨r,ε,κ,η⟩:=Ca (show 0<=AJ (AA d.c9 j).a0 by rw[f.1.w];exact f.1.1) z.2;obtain⟨r1,ζ,J,K⟩:=Ca (show 0<=AJ (AA d.c9 j).a1 by rw[f.2.1.w];exact f.2.1.1) z.1.2;obtain⟨r2,δ,M,N⟩:=Ca (show 0<=AJ (AA d.c9 j).a2 by rw[f.2.2.w];exact f.2.2.1) z.1.2;refine⟨U,?_⟩;rw[ac m_,AD B.1 z.1.1.1,bs,ε,bs,bs,ζ,bs,bs,δ,bs,A];dsimp only;rw[AD J K,bs,AD M N,bs,Yt H.few,bs,AT (n:=j+1) U U];split
  .rename_i C;rw[AS a_,bs,cR];exact⟨_,rfl,U,_,rfl,an,λe G=>(y!.1 G).elim (D e) λG=>by
    rw [y?.1 G];exact⟨⟨⟨κ,η⟩,⟨J,K⟩,M,N⟩,C⟩⟩
  .exact⟨_,rfl,U,ys,rfl,U,D⟩
 .right;rw[A,ae m_]
variable{β σ:Type}{I:σ->Prop}
theorem iq{ζ:Option β}{mk:σ->β}(h:∃r,ζ=Y r/\∃s',r=mk s'/\I s'):∃s',ζ=Y (mk s')/\I s':=by
 obtain ⟨_,e,s',rfl,hi⟩:=h;exact⟨s',e,hi⟩
def dF(t:AC)(g:d3)(v:Int)(l:List CA):Prop:=l.length<=3/\(∀s∈l,RO t g v s)/\∀i j:Int,0<=j->j<i->i<l.length->¬((AA l j).o4=(AA l i).o4/\(AA l j).kh=(AA l i).kh)
variable{v:Int}
theorem vE{t:AC}(J:Fx t)(hg:g.ci.length<=100)(hv:0<=v/\v<=3){l:List KN}(K:∀x∈l,U3 x):∃s,N8 t g v l=Y s/\dF t g v s:=by
 unfold N8;refine E1 (λi s=>(0<=i/\i<=3)/\(s.length:Int)<=i/\(∀x∈s,RO t g v x)/\∀i j:Int,0<=j->j<i->i<s.length->¬((AA s j).o4=(AA s i).o4/\(AA s j).kh=(AA s i).kh)) 3 ⟨U,V,(λx f=>by cases f),λi j A D i1=>h!⟩ (λi s M⟨a1,a2,a3,B⟩=>?_) (λi s M⟨a1,a2,a3,B⟩_=>⟨s,rfl,U,a3,B⟩);dsimp only;by_cases C:(i<l.length/\i<3)/\0<(g.ci.length:Int)
 .left;have f:=K _ (AF a1.1 C.1.1);obtain⟨r,θ,G,H⟩:=Ca (show 0<=AJ (AA l i).a0 by rw[f.1.w];exact f.1.1) C.2;refine⟨U,?_⟩;rw[ac v6,AD a1.1 C.1.1,bs,θ,bs,AD G H,bs,Ou J.few,bs,AT (n:=i+1) U U];by_cases h0:((Fg t (AA g.ci r)).1.length:Int)=0
  .rw[ac (by simpa using h0)];exact⟨s,rfl,U,U,a3,B⟩
  obtain ⟨q,ε,κ,η⟩:=Ca (show 0<=AJ (AA l i).a1 by rw[f.2.1.w];exact f.2.1.1) (show 0<((Fg t (AA g.ci r)).1.length:Int)by omega);obtain⟨u,ζ,d1,d2⟩:=Zg f.2.1.1 (show(0:Int)<16 by omega);have hw:=tQ u;obtain⟨y,δ,f1,f2⟩:=Ca (show 0<=AJ (IntKind.u8.wrap u)by rw[AT U U];omega) (show 0<v+1 by omega);obtain⟨z,Z,g1,g2⟩:=Ca (show 0<=AJ (AA l i).a2 by rw[f.2.2.w];exact f.2.2.1) (show(0:Int)<3 by omega);rw[ae (by simpa using h0),bs,ε,bs,bs,ζ,bs,AT (n:=v+1) U U,δ,bs,bs,Z,bs,AT (n:=y-1) U U];refine iq (mk:=λs'=>Bz.next (s',i+1)) (Oj (λ(k:Int)(b:Bool)=>b=T->∀j:Int,0<=j->j<k->¬((AA s j).o4=r/\(AA s j).kh=q)) U (λ_ j A D=>U) (λk b N O hb=>?_) (λb hb=>?_))
  .cases b
   .rw[ae a!,AD N O,bs,bs];have old:∀{P:Prop},(P->False)->((AA s k).o4=r/\(AA s k).kh=q->P)->∀j:Int,0<=j->j<k+1->¬((AA s j).o4=r/\(AA s j).kh=q):=λ{P}Q S j A D F=>by
     by_cases e:j=k
     .exact Q (S (e▸F))
     .exact hb rfl j A U F
    by_cases E:(AA s k).o4=r
    .rw[ac (by simpa using E),bs,bs];exact⟨_,rfl,λh=>old (P:=(AA s k).kh=q) b? And.right⟩
    .rw[ae (by simpa using E),bs,bs];exact⟨_,rfl,λ_=>old (P:=(AA s k).o4=r) E And.left⟩
   .exact⟨X,rfl,λh=>d_⟩
  .cases b
   .rw[ac a!,AS a_,bs];refine⟨_,rfl,_,rfl,U,an,λx f=>(y!.1 f).elim (a3 x) λf=>?_,λi j A D i1=>?_⟩
    .rw[y?.1 f];exact⟨⟨⟨G,H⟩,κ,η⟩,b!,b!⟩
    .simp at i1;rw[Lj _ _ A U];by_cases e:i=s.length
     .rw[M6 _ _ e];exact hb rfl j A U
     .rw[Lj _ _ U U];exact B i j A D U
   .rw[ae a!];exact⟨_,rfl,_,rfl,U,U,a3,B⟩
 .right;rw[ae v6]
end Go.Sf.Sc
namespace Go.Sf.Sc
open Go Go.Sf
variable{m:d4}
theorem eY{a b:d3}(h:Tu a b m):Im a b m=0:=by
 unfold Im;rw[ae (by simp[EH h.ga]),ae (by simp[EH h.gb]),ae (by simp[h.Aal,h.Aao]),BC.2]
 .dsimp only;rw[BC.2]
  .rfl
  intro i e i1;obtain⟨u,f,w,z⟩:=h.edge i e i1;unfold Gp;rw[ae U,ae s_,ae (by simp[w,z])]
 .intro i e i1;obtain⟨u,f⟩:=h.node i e i1;unfold Mc;rw[ae U,ae s_]
theorem Zn(n:Nat):(Ay n).Nodup:=by
 unfold Ay;exact List.Pairwise.map _ (λa b h e=>h (Int.ofNat.inj e)) w!
theorem wu(g:d3):Ik (Ns g)=X:=by
 unfold Ik Ns;rw[Jx.2 (Zn _),Jx.2 (Zn _)];rfl
def Uw:d5:=⟨1,[],⟨[],[]⟩,⟨⟨[],[]⟩,[],0,[]⟩⟩
theorem VG{t:AC}{p:d6}(h:FD t p=0):JS t p Uw=0:=by
 obtain ⟨n,e⟩:∃n,SizeOf.sizeOf Uw=n+1:=⟨SizeOf.sizeOf Uw-1,by have:=Dx Uw;omega⟩;have f:My Uw=0:=by
  unfold My jx WK;rw[e];rfl
 unfold JS;rw[ae (by simp[h]),ae s_,e];rfl
theorem Y7:(AI Uw).Sm:=da (λk e=>q_) a! a! (by unfold iS;decide) a!
def PE(g:d3)(v:Int)(k:d3):d5:=⟨2,[⟨5,[Uw],Ns g,⟨k,[],v,[]⟩⟩],⟨[],[]⟩,⟨⟨[],[]⟩,[],0,[]⟩⟩
theorem Zz{t:AC}(hv:(BD t).2=0){p:d6}(h:FD t p=0){k:d3}(w:We t k){xs:Fp}{ys:List Bt}(z:k.ci=p.d3.ci++xs)(he:k.c9=p.d3.c9++ys):JS t p (PE p.d3 p.em k)=0:=by
 have u:=XY hv (.inl h);obtain⟨D,_⟩:=Yq h;have C:k.ci.length=p.d3.ci.length+xs.length:=by rw[z,b6]
 have B:k.c9.length=p.d3.c9.length+ys.length:=by rw[he,b6]
 have inn:TK t ⟨k,[],p.em,[]⟩ p.em=0:=by
  have A:FD t ⟨k,[],p.em,[]⟩=0\/FD t ⟨k,[],p.em,[]⟩=9:=by
   unfold FD;rw[ae k_,ae (by simp[EH w.ok]),ae (by simp[Uo (λn z=>(w.kind n z).2) w.et]),ae b!,ae V,ae V,ae (by simp[Ul u.1 u.2])];split
   .exact .inr rfl
   .exact .inl rfl
  unfold TK;rcases A with A|A
  .rw[ac U,A]
  .rw[ae U,ae];rw[Cu];rintro⟨i,f,i1,_⟩;exact absurd i1 b!
 have mor:Im p.d3 k (Ns p.d3)=0:=by
  refine eY ⟨D,w.ok,A2 _,A2 _,λi f i1=>?_,λi f i1=>?_⟩
  .simp only[Ns,A2]at i1|-;rw[Fc _ f i1,z];exact⟨⟨f,an⟩,Lv f i1⟩
  .simp only[Ns,A2]at i1|-;have hf:=(D.fit _ (AF f i1)).2;rw[Fc _ f i1,he,Lv f i1,Fc _ hf.1.1 hf.1.2,Fc _ hf.2.1 hf.2.2];exact⟨⟨f,an⟩,rfl,rfl,rfl⟩
 have E:=Ed (c:=PE p.d3 p.em k) (y?.2 rfl);have s2:=Ed (c:=⟨5,[Uw],Ns p.d3,⟨k,[],p.em,[]⟩⟩) (y?.2 rfl);have F:=Dx Uw;obtain⟨n,e⟩:∃n,SizeOf.sizeOf (PE p.d3 p.em k)=n+3:=⟨SizeOf.sizeOf (PE p.d3 p.em k)-3,U⟩;have sh:My (PE p.d3 p.em k)=0:=by
  unfold My jx WK;rw[e];rfl
 unfold JS;rw[ae (by simp[h]),ae (by simp[sh]),e,I5,ae (show¬(PE p.d3 p.em k).kl=5 from(by decide:¬(2:Int)=5)),BC.2]
 .rfl
 intro i f i1;obtain rfl:i=0:=by
  have:i<1:=i1;omega
 refine IZ.2 ?_;show I5 (n+2) t p ⟨5,[Uw],Ns p.d3,⟨k,[],p.em,[]⟩⟩=0;rw[I5,ac rfl,ae (Int.lt_irrefl _),ae (by simp[inn]),ae (by simp[mor]),ae (by simp[wu]),BC.2]
 .rfl
 intro i f i1;obtain rfl:i=0:=by
  have:i<1:=i1;omega
 refine IZ.2 ?_;show I5 (n+1) t ⟨k,[],p.em,[]⟩ Uw=0;rfl
theorem q8{t:AC}(u:Fx t){p:d6}(E:kA t p){x:V6}(h0:U8 x.a0)(A:U8 x.a1)(F:U8 x.a2)(G:U8 x.a3):∃c,Mq t p x=Y c/\JS t p c=0/\(AI c).Sm:=by
 have B:=E.zero u;have z:=E.g;have ho:=z.ok u;have Q:=z.ea;have N:=z.eb;have S:=u.ea;have θ:=u.eb;have tp:=u.pos;obtain⟨r,e,ε,κ⟩:=Ca h0.1 (show(0:Int)<4 by omega);have sm:∀k:d3,iS k->(AI (PE p.d3 p.em k)).Sm:=λk M=>by
  refine da (λc C=>?_) (by simp[PE]) (by simp[PE]) (by unfold iS;simp[PE]) (by simp[PE]);rw[y?.1 C];refine da (λc C=>?_) V ⟨by simp[Ns,A2];omega,by simp[Ns,A2];omega⟩ M V;rw[y?.1 C];exact Y7
 unfold Mq;rw[SR ho.1,bs,e,bs];by_cases H:r=1
 .obtain⟨a,D,a0,a1⟩:=Ca (show 0<=AJ x.a1 by rw[A.w];exact A.1) (show 0<(t.ci.length:Int)by omega);rw[ac v5,D,bs,AS a_,bs,xu (EH ho.1),bs,bs];refine⟨_,rfl,Zz u.zero B (xs:=[a]) (ys:=[]) ⟨⟨an,b!,λn f=>?_,λe he=>?_⟩,λn f=>?_,λe he=>(z.fit e he).1.2⟩ rfl (z_ _).symm,sm _ ⟨an,b!⟩⟩
  .rcases y!.1 f with f|f
   .exact ho.1.kind n f
   .rw[y?.1 f];omega
  .have:=ho.1.fit e he;simp only[b6,z!];omega
  .rcases y!.1 f with f|f
   .exact z.kind n f
   .rw[y?.1 f];exact⟨a0,a1⟩
 rw [ae v5];by_cases J:r=2
 .rw[ac (by simpa using J)];by_cases K:(p.d3.ci.length:Int)=0\/(t.c9.length:Int)=0
  .rw[ac (by simpa using K)];exact⟨_,rfl,VG B,Y7⟩
  .obtain⟨a,D,a0,a1⟩:=Ca (show 0<=AJ x.a1 by rw[A.w];exact A.1) (show 0<(t.c9.length:Int)by omega);obtain⟨b,O,η,ζ⟩:=Ca (show 0<=AJ x.a2 by rw[F.w];exact F.1) (show 0<(p.d3.ci.length:Int)by omega);obtain⟨c,P,δ,Z⟩:=Ca (show 0<=AJ x.a3 by rw[G.w];exact G.1) (show 0<(p.d3.ci.length:Int)by omega);rw[ae (by simpa using K),D,bs,O,bs,P,bs,AS a_,bs,xu (EH ho.1),bs,bs];refine⟨_,rfl,Zz u.zero B (xs:=[]) (ys:=[⟨a,b,c⟩]) ⟨⟨b!,an,ho.1.kind,λe he=>?_⟩,z.kind,λe he=>?_⟩ (z_ _).symm rfl,sm _ ⟨b!,an⟩⟩
   .rcases y!.1 he with he|he
    .exact ho.1.fit e he
    .rw[y?.1 he];simp only;omega
   .rcases y!.1 he with he|he
    .exact(z.fit e he).1.2
    .rw[y?.1 he];exact a1
 .rw[ae (by simpa using J)];exact⟨_,rfl,VG B,Y7⟩
end Go.Sf.Sc
namespace Go.Sf.Sc
open Go Go.Sf
variable{g:d3}{v i:Int}
theorem lb{t:AC}{l:List CA}(h:dF t g v l)(f:0<=i)(i1:i<l.length):OS t ⟨g,l,v,[]⟩ i=0:=by
 obtain ⟨⟨a1,a2⟩,a3,z⟩:=h.2.1 _ (AF f i1);unfold OS;dsimp only;rw[ae U,ae,ae]
 .rw[Cu];rintro⟨j,u,w,e⟩;simp at e;exact h.2.2 i j u w i1 e
 .simp;omega
theorem bJ{t:AC}(hv:(BD t).2=0){L:d6}(w:FD t L=0)(e:We t g){sl:List CA}(z:dF t g L.em sl){ey:BR}(A:Qv L.d3 ey){into:d4}(B:Tu (DC L.d3 ey) g into)(hi:Ik into=X){b:Bool}{c:d5}(C:JS t L c=0)
  (f:TL t g (BP into.ci g.ci.length) (BP into.c9 g.c9.length)=X):DT t ⟨(⟨#[114]⟩:ByteArray),L,⟨g,sl,L.em,[]⟩,ey,into,b,c⟩=0:=by
 have F:=z.1;have hr:Jk t ⟨(⟨#[114]⟩:ByteArray),L,⟨g,sl,L.em,[]⟩,ey,into,b,c⟩=0:=by
  unfold Jk;dsimp only;rw[ae (by simp[EH e.ok]),ae (by simp[Uo (λn D=>(e.kind n D).2) e.et]),ae V,ae U,BC.2 (λi E i1=>IZ.2 (lb z E i1))];rfl
 have u:Qa ⟨(⟨#[114]⟩:ByteArray),L,⟨g,sl,L.em,[]⟩,ey,into,b,c⟩=0:=by
  have:ES L.d3 ey=0:=by
   unfold ES;rw[ae (by simp[EH (Yq w).1]),am A]
  unfold Qa;dsimp only;rw[ae (by simp[this]),ae (by simp[eY B]),ae (by simp[hi])]
 unfold DT;rw[ae k_,ae (show¬EI (⟨#[114]⟩:ByteArray)=T by decide),ae (by simp[w]),ae (by simp[hr]),ae p?,ae,C];rw[D!];exact f
structure X0(d:F6):Prop where
 left:mE d.gl
 ey:vp d.pf
 ea:∀x∈d.ci,U8 x
 eb:∀x∈d.c9,U3 x
 slots:∀x∈d.ei,U3 x
 Aby:(U8 d.Aah.a0/\U8 d.Aah.a1)/\U8 d.Aah.a2/\U8 d.Aah.a3
 order:∀x∈d.Abw,U8 x
variable{l:Fp}{n:Nat}
theorem H8.at(h:H8 l n){x:Int}(x0:0<=x)(x1:x<n):∃i:Int,(0<=i/\i<n)/\AA l i=x:=by
 obtain ⟨i,f,i1,e⟩:=BT (h.mem.2 ⟨x0,x1⟩);exact⟨i,⟨f,n!⟩,e⟩
theorem H8.inn(h:H8 l n)(e:0<=i)(i1:i<n):0<=AA l i/\AA l i<n:=h.mem.1 (AF e n!)
theorem nA{t:AC}{k g:d3}(u:We t k)(z:k.ci.length<=30)(A:k.c9.length<=60)(h:sX t k g)(he:t.c9.length<=90)(f:t.ci.length<=90):We t g:=by
 obtain ⟨xs,ys,rfl,a1,a2,a3,w⟩:=h;simp only at w;refine⟨⟨an,an,λn f=>?_,λe he=>?_⟩,λn f=>?_,λe he=>?_⟩
 .rcases y!.1 f with f|f
  .exact u.ok.kind n f
  .have:=(P5.1 (a3 n f)).1;omega
 .rcases y!.1 he with he|he
  .have:=u.ok.fit e he;simp only[b6];omega
  .have:=(w e he).1;unfold Uz at this;dsimp only at this|-;omega
 .rcases y!.1 f with f|f
  .exact u.kind n f
  .exact(P5.1 (a3 n f)).1
 .rcases y!.1 he with he|he
  .exact u.et e he
  .exact(w e he).1.1.2
variable{m:d4}
theorem vH{t:AC}{g z:d3}(w:We t g)(A:H8 m.ci g.ci.length)(he:H8 m.c9 g.c9.length)(h:ReO g z m):We t z:=by
 have nd:∀n∈z.ci,n∈g.ci:=λn f=>by
  obtain ⟨j,B,C,rfl⟩:=BT f;obtain⟨i,⟨u,i1⟩,rfl⟩:=A.at B (by rw[<-h.nl];exact C);rw[h.node i u i1];exact AF u i1
 have ed:∀e∈z.c9,∃i:Int,(0<=i/\i<g.c9.length)/\e=⟨(AA g.c9 i).j4,AA m.ci (AA g.c9 i).jj,AA m.ci (AA g.c9 i).To⟩:=λe f=>by
  obtain ⟨j,B,C,rfl⟩:=BT f;obtain⟨i,⟨u,i1⟩,rfl⟩:=he.at B (by rw[<-h.el];exact C);exact⟨i,⟨u,i1⟩,h.edge i u i1⟩
 refine ⟨⟨by rw[h.nl];exact w.ok.ea,by rw[h.el];exact w.ok.eb,λn f=>w.ok.kind n (nd n f),λe f=>?_⟩,λn f=>w.kind n (nd n f),λe f=>?_⟩
 .obtain⟨i,⟨u,i1⟩,rfl⟩:=ed e f;have hf:=w.ok.fit _ (AF u i1);rw[h.nl];exact⟨hf.1,A.inn hf.2.1.1 hf.2.1.2,A.inn hf.2.2.1 hf.2.2.2⟩
 .obtain⟨i,⟨u,i1⟩,rfl⟩:=ed e f;have:=w.et _ (AF u i1);exact this
theorem SA(e:0<=i)(i1:i<n)(f:n<=l.length):AA (l.take n) i=AA l i:=by
 conv=>rhs;rw[<-List.take_append_drop n l]
 exact (Lv e i9).symm
variable{d:F6}
theorem fT{t:AC}(B:Fx t)(hd:X0 d):∃r,NV t d=Y r/\DT t r=0/\(CB r).Sm:=by
 have hv:=B.zero;have n5:=B.eb;have n6:=B.ea;obtain⟨p,e1,C⟩:=oA B hd.left;have hz:=C.zero B;have N:=C.g.okG B;have g8:=C.g.ea;have g10:=C.g.eb;obtain⟨ey,e2,E⟩:=qw N.ok hd.ey;obtain⟨O,k1,k2⟩:=ql N E;have hkn:(DC p.d3 ey).ci.length=ey.ci.length:=by simp[DC]
 have hke:(DC p.d3 ey).c9.length=ey.c9.length:=by simp[DC]
 obtain ⟨g,e3,δ⟩:=uz B O hd.ea hd.eb;have A:=nA O U U δ U U;obtain⟨ns,e4,w⟩:=aw (n:=g.ci.length) (by have:=A.ok.ea;omega) hd.order;obtain⟨es,e5,z⟩:=aw (n:=g.c9.length) (by have:=A.ok.eb;omega) hd.order;obtain⟨v,e6,e7,f⟩:=oB (m:=⟨ns,es⟩) A.ok w z;have hO:=vH A w z f;obtain⟨sl,e8,K⟩:=vE B (g:=v.1) (by have:=hO.ok.ea;omega) C.vars hd.slots;obtain⟨c,e9,hc,Q⟩:=q8 B C hd.Aby.1.1 hd.Aby.1.2 hd.Aby.2.1 hd.Aby.2.2;have lns:=w.len;have les:=z.len;obtain⟨xs,ys,M,x2,y2,S,θ⟩:=δ;have P:g.ci=(DC p.d3 ey).ci++xs:=by rw[M]
 have ge:g.c9=(DC p.d3 ey).c9++ys:=by rw[M]
 have gnl:g.ci.length=(DC p.d3 ey).ci.length+xs.length:=by rw[P,b6]
 have gel:g.c9.length=(DC p.d3 ey).c9.length+ys.length:=by rw[ge,b6]
 have η:Tu (DC p.d3 ey) v.1 ⟨ns.take (DC p.d3 ey).ci.length,es.take (DC p.d3 ey).c9.length⟩:=by
  refine ⟨O.ok,hO.ok,an,an,λi u i1=>?_,λi u i1=>?_⟩
  .simp only[bk]at i1|-;rw[SA u U U,f.nl];refine⟨w.inn u U,(f.node i u U).trans ?_⟩;rw[P];exact Lv u U
  .simp only[bk]at i1|-;have hf:=(O.ok.fit _ (AF (l:=(DC p.d3 ey).c9) u U)).2;rw[SA u U U,f.el,SA hf.1.1 hf.1.2 U,SA hf.2.1 hf.2.2 U,f.edge i u U];refine⟨z.inn u U,?_⟩;rw[ge,Lv u U];exact⟨rfl,rfl,rfl⟩
 have F:∀{l:Fp}{n:Nat},H8 l n->l.Nodup:=λh=>h.nodup_iff.2 (Zn _);have hi:Ik ⟨ns.take (DC p.d3 ey).ci.length,es.take (DC p.d3 ey).c9.length⟩=X:=by
  unfold Ik;rw[Jx.2 ((F w).sublist (z? _ _)),Jx.2 ((F z).sublist (z? _ _))];rfl
 have out:∀{l:Fp}{n:Nat}{k:Nat}{x:Int},H8 l n->k<=n->x∈BP (l.take k) n->∃i:Int,((k:Int)<=i/\i<n)/\AA l i=x:=λ{l n k x}h E D=>by
  have G:=Ft D;obtain⟨i,⟨u,i1⟩,e⟩:=h.at G.1 G.2;refine⟨i,⟨?_,i1⟩,e⟩;have ζ:hasB (l.take k) x=T:=by
   unfold BP at D;rw[x_]at D;simpa using D.2
  rcases Int.lt_or_le i k with ε|κ
  .have hl:=h.len;have h3:x∈l.take k:=by
    rw [<-e,<-SA u ε U];exact AF u i9
   rw [By.2 h3]at ζ;cases ζ
  .exact κ
 have H:TL t v.1 (BP (ns.take (DC p.d3 ey).ci.length) v.1.ci.length) (BP (es.take (DC p.d3 ey).c9.length) v.1.c9.length)=X:=by
  unfold TL;rw[f.nl,f.el,pc,D?,D?,A_,A_];refine⟨λx D=>?_,λx D=>?_⟩
  .obtain⟨i,⟨u,i1⟩,rfl⟩:=out w U D;rw[f.node i U i1,P];obtain⟨j,rfl⟩:∃j:Nat,i=(DC p.d3 ey).ci.length+j:=⟨(i-(DC p.d3 ey).ci.length).toNat,U⟩;rw[X5,(P5.1 (S _ (AF U U))).2];decide
  .obtain⟨i,⟨u,i1⟩,rfl⟩:=out z U D;unfold Hp;have hf:=(A.ok.fit _ (AF (l:=g.c9) (i:=i) U i1)).2;rw[f.edge i U i1];dsimp only;rw[f.node _ hf.1.1 hf.1.2,f.node _ hf.2.1 hf.2.2,ge];obtain⟨j,rfl⟩:∃j:Nat,i=(DC p.d3 ey).c9.length+j:=⟨(i-(DC p.d3 ey).c9.length).toNat,U⟩;rw[X5,(θ _ (AF U U)).2];decide
 have J:FD t ⟨p.d3,[],0,[]⟩=0:=by
  have G:=C.g.ok B;unfold FD;rw[ae k_,ae (by simp[EH G.1]),ae (by simp[G.2]),ae b!,ae V,ae V,ae (by simp[Ul (n:=0) (l:=[])]),ae];rw[Cu];rintro⟨i,u,i1,_⟩;exact absurd i1 b!
 unfold NV;rw[e1,bs,e2,bs,Vn ⟨U,U⟩,bs,ae (by unfold ES;simp[EH N.ok,am E])];dsimp only;rw[e3,bs,e4,bs,e5,bs,e6,bs,Iw U U,bs,Iw U U,bs,e8,bs,e9,bs];split
 .unfold Qm;dsimp only;rw[SR N.ok,bs,SR hO.ok,bs,Be b_,bs,Be b_,bs,Be a_,bs,Be a_,bs,bs];exact⟨_,rfl,bJ (L:=⟨p.d3,[],0,[]⟩) (sl:=[]) (c:=Uw) hv J hO ⟨V,(λs Z=>by cases Z),λi j j0 j1 i1=>h!⟩ E η hi (VG J) H,oY (show 1<=1000 by omega) ⟨b!,b!⟩ V ⟨by have:=hO.ok.ea;simp only;omega,by have:=hO.ok.eb;simp only;omega⟩ V ⟨b!,b!⟩ ⟨an,an⟩ Y7⟩
 .exact⟨_,rfl,bJ hv hz hO K E η hi hc H,oY (show 1<=1000 by omega) ⟨b!,b!⟩ ⟨by have:=C.slots;simp only;omega,by have:=C.tests;simp only;omega⟩ ⟨by have:=hO.ok.ea;simp only;omega,by have:=hO.ok.eb;simp only;omega⟩ ⟨by have:=K.1;simp only;omega,V⟩ ⟨b!,b!⟩ ⟨an,an⟩ Q⟩
end Go.Sf.Sc
namespace Go.Sf.Sc
open Go Go.Sf
structure iQ(d:N2):Prop where
 ea:∀x∈d.ci,U2 x
 eb:∀x∈d.c9,U3 x
def ABn(t:AC)(k:Int)(v:Fp):Prop:=k∈QT t/\v.length=(A4 t k).length/\∀j:Int,0<=j->j<v.length->(AA (A4 t k) j).Low<=AA v j/\AA v j<=(AA (A4 t k) j).Aae
theorem n9{t:AC}(J:Fx t){d:N2}(hd:iQ d):∃h,Pb t d=Y h/\Dd t h=(-1,0):=by
 have hv:=J.zero;have hf:=J.few;have P:=Cq hv;have htn:=J.ea;have hte:=J.eb;unfold Pb NS;rw[Zy U,bs,bs];refine E1 (λi h=>(0<=i/\i<=8)/\((h.d3.ci.length:Int)<=i/\h.eh.length=h.d3.ci.length/\h.d3.c9=[])/\∀k:Int,0<=k->k<h.d3.ci.length->ABn t (AA h.d3.ci k) (AA h.eh k)) 8 ⟨U,V,λk C D=>by simp at D;omega⟩ (λi h K⟨a1,⟨a2,a3,Q⟩,S⟩=>?_) (λi h K⟨a1,⟨a2,a3,Q⟩,S⟩_=>?_)
 .dsimp only;by_cases A:(i<d.ci.length/\i<8)/\0<((QT t).length:Int)
  .left;have B:=hd.ea _ (AF a1.1 A.1.1);obtain⟨r,δ,H,z⟩:=Ca (show 0<=AJ (AA d.ci i).a0 by rw[B.1.w];exact B.1.1) A.2;have F:=AF H z;have f:=(P5.1 F).1;refine⟨U,?_⟩;rw[ac l?,AD a1.1 A.1.1,bs,δ,bs,AD H z,bs,Ou hf,bs,JP hv f.1 f.2,AT (n:=i+1) U U];dsimp only;generalize AA (QT t) r=kd at F f|-;have G:=(RU J.n (kd+1).toNat kd f.2).1;have κ:=RT hf P f.1 f.2;have η:=U7 hf P f.1 f.2;unfold A4 at G;have G:(A4 t kd).length<=(kd+1).toNat:=G;refine iq (mk:=λs'=>Bz.next (s',i+1)) (Oj (a:=0) (b:=((A4 t kd).length:Int)) (s:=([]:Fp)) (λ(k:Int)(s:Fp)=>(s.length:Int)=k/\∀j:Int,0<=j->j<k->(AA (A4 t kd) j).Low<=AA s j/\AA s j<=(AA (A4 t kd) j).Aae) U ⟨rfl,λj E ε=>U⟩ (λk s C D⟨s1,s2⟩=>?_) (λs⟨s1,s2⟩=>?_))
   .have m1:=κ _ (AF C D);have m2:=η _ (AF C D);have m3:=B.2.1;have m4:=B.2.2;rw[AD C D,bs,bs,bs,bs,AT (n:=(AA (A4 t kd) k).Aae-(AA (A4 t kd) k).Low) U U,AT (n:=(AA (A4 t kd) k).Aae-(AA (A4 t kd) k).Low+1) U U,B.2.w,AT (n:=7*k) U U,AT (n:=(AA d.ci i).a1+7*k) U U];obtain⟨q,Z,q0,θ⟩:=Ca (show 0<=(AA d.ci i).a1+7*k by omega) (show 0<(AA (A4 t kd) k).Aae-(AA (A4 t kd) k).Low+1 by omega);rw[Z,bs,AT (n:=(AA (A4 t kd) k).Low+q) U U,AS a_,bs];refine⟨_,rfl,an,λj E ε=>?_⟩;by_cases e:j=k
    .rw[M6 _ _ U,e];omega
    .rw[Lj _ _ E U];exact s2 j E U
   .rw[AS a_,bs,AS a_,bs];refine⟨_,rfl,_,rfl,U,⟨an,an,Q⟩,λk C D=>?_⟩;simp only[b6,z!]at D;by_cases e:k=h.d3.ci.length
    .rw[M6 _ _ e,M6 _ _ U];exact⟨F,U,λj E ε=>s2 j E U⟩
    .rw[Lj _ _ C U,Lj _ _ C U];exact S k C U
  .right;rw[ae l?]
 dsimp only;refine E1 (λj u=>(0<=j/\j<=10)/\(u.d3.ci=h.d3.ci/\u.eh=h.eh/\(u.d3.c9.length:Int)<=j)/\∀e∈u.d3.c9,Uz t h.d3.ci.length e/\LD t e.j4 (AA h.d3.ci e.jj) (AA h.d3.ci e.To)=X) 10 ⟨U,⟨rfl,rfl,by rw[Q];simp⟩,by rw[Q];intro e he;cases he⟩ (λj u E⟨H,⟨z,M,b3⟩,N⟩=>?_) (λj u E⟨H,⟨z,M,b3⟩,N⟩_=>⟨u,rfl,?_⟩)
 .dsimp only;by_cases A:((j<d.c9.length/\j<10)/\0<(h.d3.ci.length:Int))/\0<(t.c9.length:Int)
  .left;have B:=hd.eb _ (AF H.1 A.1.1.1);obtain⟨r,δ,c1,c2⟩:=Ca (show 0<=AJ (AA d.c9 j).a0 by rw[B.1.w];exact B.1.1) A.2;obtain⟨r1,Z,d1,d2⟩:=Ca (show 0<=AJ (AA d.c9 j).a1 by rw[B.2.1.w];exact B.2.1.1) A.1.2;obtain⟨r2,e3,f1,f2⟩:=Ca (show 0<=AJ (AA d.c9 j).a2 by rw[B.2.2.w];exact B.2.2.1) A.1.2;refine⟨U,?_⟩;rw[ac l?,AD H.1 A.1.1.1,bs,δ,bs,bs,Z,bs,bs,e3,bs,z,AD d1 d2,bs,AD f1 f2,bs,Yt hf,bs,AT (n:=j+1) U U];split
   .rename_i O;rw[AS a_,bs];exact⟨_,rfl,U,⟨rfl,M,an⟩,λe F=>(y!.1 F).elim (N e) λF=>by
     rw [y?.1 F];exact⟨⟨⟨c1,c2⟩,⟨d1,d2⟩,f1,f2⟩,O⟩⟩
   .exact⟨u,rfl,U,⟨z,M,U⟩,N⟩
  .right;rw[ae l?]
 .have go:Cp u.d3:=by
   refine ⟨by rw[z];omega,U,λn hn=>?_,λe he=>?_⟩
   .rw[z]at hn;obtain⟨k,C,D,rfl⟩:=BT hn;have:=(P5.1 (S k C D).1).1;omega
   .have:=(N e he).1;unfold Uz at this;rw[z];omega
  unfold Dd;rw[ae k_,ae (by simp[EH go]),ae (by rw[z,M];simpa using a3),BC.2]
  .dsimp only;rw[BC.2]
   .rfl
   intro i K i1;obtain⟨θ,q2⟩:=N _ (AF K i1);have ζ:JZ t u.d3 i=0:=by
    unfold JZ Hp;rw[ae (by have:=θ.1.2;omega),z,q2];rfl
   rw [ζ];rfl
  .intro i K i1;rw[z]at i1;obtain⟨θ,q2,q3⟩:=S i K i1;have q4:=P5.1 θ;have ζ:Gm t (AA u.d3.ci i) (AA u.eh i)=0:=by
    rw [z,M];unfold Gm;rw[ae U,ae (by simp[q4.2]),ae (by simpa using q2),ae];rw[Cu];rintro⟨j,E,ε,e⟩;have:=q3 j E U;simp[RE]at e;omega
   rw [ζ];rfl
end Go.Sf.Sc
namespace Go.Sf.Sc
open Go Go.Sf
instance:Inhabited F6:=⟨⟨⟨⟨[],[]⟩,[],[]⟩,0,[],[],[],T,T,⟨0,0,0,0⟩,[]⟩⟩
end Go.Sf.Sc
namespace Go.Sf.Sc
open Go Go.Sf
end Go.Sf.Sc
namespace Go.Sf.Sc
open Go Go.Sf
variable{k:Int}
theorem bV{t:AC}(f:E2 t k){c:Int}:∀(n m:Nat)(a b:Int),a<k->a<n->b<m->b∈Kk t n a->c∈Kk t m b->c∈Kk t n a
 |0,_,_,_,_,_,_,hb,_=>by simp[Kk]at hb|n+1,m,a,b,ha,z,w,hb,u=>by
  rw [Kk]at hb|-;split at hb
  .cases hb
  .rename_i h0;rw[ae h0];have A:=f a U ha;rcases A'.1 hb with rfl|hb
   .have e:=pC f m (n+1) b ha w z;rw[e,Kk,ae h0]at u;exact u
   .exact A! _ (bV f n m (par t a) b U U w hb u)
theorem aW{t:AC}(h:Fd t){a b c:Int}(ha:a<t.ci.length)(f:G4 t a b=X)(u:G4 t b c=X):G4 t a c=X:=by
 unfold G4 at f u|-;rw[List.any_eq_true]at f u|-;obtain⟨x,z,e⟩:=f;obtain⟨y,A,w⟩:=u;rw[sx]at e w;subst e;subst w;exact⟨c,bV h.par _ _ a b ha U U z A,V⟩
theorem qA{t:AC}(h:Fd t){e f g w z:Int}(hf:0<=w/\w<t.ci.length)(A:0<=z/\z<t.ci.length)(B:G4 t w f=X)(C:G4 t z g=X)(u:LD t e f g=X):LD t e w z=X:=by
 unfold LD at u|-;simp only[pc,NG]at u|-;exact⟨⟨⟨u.1.1.1,hf,A⟩,u.1.2⟩,aW h hf.2 B u.2.1,aW h A.2 C u.2.2⟩
end Go.Sf.Sc
namespace Go.Sf.Sc
open Go Go.Sf
variable{r:fd}
theorem gE{t:AC}(h:DT t r=0):(∀x∈E0 r,(AA t.ci (AA r.ec.d3.ci x)).p0=T)/\∀x∈K8 r,Hp t r.ec.d3 x=X:=by
 have e:TL t r.ec.d3 (E0 r) (K8 r)=X:=by grind[DT]
 unfold TL at e;rw[pc,D?,D?,A_,A_]at e;exact⟨λx f=>by simpa using e.1 x f,λx f=>by simpa using e.2 x f⟩
abbrev gS(t:AC)(r:fd)(h:AG)(m:AQ):AG:=Cw t r (CO h (dS r h m)) (cS r h m)
theorem IH.eb{t:AC}{h:AG}{m:AQ}(s:IH t r h m):∀e∈(gS t r h m).d3.c9,((0<=e.jj/\e.jj<(gS t r h m).d3.ci.length)/\0<=e.To/\e.To<(gS t r h m).d3.ci.length)/\LD t e.j4 (AA (gS t r h m).d3.ci e.jj) (AA (gS t r h m).d3.ci e.To)=X:=by
 intro e he;have el:(gS t r h m).d3.ci=(dS r h m).ci.map (AA h.d3.ci)++(E0 r).map (AA r.ec.d3.ci):=rfl;have he:e∈(dS r h m).c9.map (λx=>XR (Ge h (dS r h m)).ci (AA h.d3.c9 x))++(K8 r).map (λk=>XR (cS r h m).ci (AA r.ec.d3.c9 k)):=he;rcases y!.1 he with he|he
 .obtain⟨x,D,rfl⟩:=y_.1 he;have C:=Vj (fQ s.part).2;have u:=C.eb.1 x D;have f:=C.ends x D;have hf:=(s.hh.g.fit _ (AF u.1 u.2)).2;have J:=(UK s.he).2 x u.1 u.2;have fit:Hp t h.d3 x=X:=by
   unfold JZ at J
   grind
  have at_:∀y,y∈(dS r h m).ci->0<=y->y<h.d3.ci.length->(0<=AA (Ge h (dS r h m)).ci y/\AA (Ge h (dS r h m)).ci y<(gS t r h m).d3.ci.length)/\AA (gS t r h m).d3.ci (AA (Ge h (dS r h m)).ci y)=AA h.d3.ci y:=λy F G H=>by
   have hi:=Hh F;rw[show AA (Ge h (dS r h m)).ci y=Da (dS r h m).ci y from Um G H,el,b6,cL];refine⟨⟨hi.1,by have:=hi.2.1;push_cast;omega⟩,?_⟩;rw[mN hi.1 (by rw[cL];exact hi.2.1),Gk hi.1 hi.2.1,hi.2.2.1]
  obtain ⟨a1,a2⟩:=at_ _ f.1 hf.1.1 hf.1.2;obtain⟨A,B⟩:=at_ _ f.2 hf.2.1 hf.2.2;refine⟨⟨a1,A⟩,?_⟩;simp only[XR];rw[a2,B];exact fit
 .obtain⟨k,E,rfl⟩:=y_.1 he;have w:0<=k/\k<r.ec.d3.c9.length:=Ft E;have hf:=(s.ro.right.fit _ (AF w.1 w.2)).2;obtain⟨a1,a3,a2⟩:=s.AbM hf.1.1 hf.1.2;obtain⟨A,K,B⟩:=s.AbM hf.2.1 hf.2.2;have z:=s.put.kind;refine⟨⟨a1,A⟩,?_⟩;exact qA (Cq s.hv) ⟨(z _ (AF a1.1 a1.2)).1,a3⟩ ⟨(z _ (AF A.1 A.2)).1,K⟩ a2 B ((gE s.re).2 k E)
end Go.Sf.Sc
namespace Go.Sf.Sc
open Go Go.Sf
def kB(t:AC)(k:Int)(v:Fp):Prop:=v.length=(A4 t k).length/\∀j:Int,0<=j->j<v.length->(AA (A4 t k) j).Low<=AA v j/\AA v j<=(AA (A4 t k) j).Aae
def Xv(t:AC)(g:d3)(κ:List Fp):Prop:=κ.length=g.ci.length/\∀i:Int,0<=i->i<g.ci.length->kB t (AA g.ci i) (AA κ i)
variable{x:AG}
theorem m9{t:AC}{κ:List Fp}(h:Xv t x.d3 κ){p:(Int×Int)×Int}(A:Nj t x p=T):Xv t x.d3 (Cc κ p):=by
 unfold Cc;split
 .rename_i h0;refine⟨by rw[List.length_modify];exact h.1,λi B i1=>?_⟩;have hi:=h.2 i B i1;by_cases e:i=p.1.1
  .have f:AA (κ.modify p.1.1.toNat λr=>r.set p.1.2.toNat p.2) i=(AA κ i).set p.1.2.toNat p.2:=by
    have:=h.1;subst e;simp[AA,A?,w? (show p.1.1.toNat<κ.length by omega)]
   rw [f];refine⟨by rw[B_];exact hi.1,λj w z=>?_⟩;rw[B_]at z;by_cases u:j=p.1.2
   .rw[show AA ((AA κ i).set p.1.2.toNat p.2) j=p.2 by rw[u];exact P4 p.2 h0.2 U,u,e];simp[Nj]at A;omega
   .rw[show AA ((AA κ i).set p.1.2.toNat p.2) j=AA (AA κ i) j from TS p.2 h0.2 w u];exact hi.2 j w z
  .have f:AA (κ.modify p.1.1.toNat λr=>r.set p.1.2.toNat p.2) i=AA κ i:=by
    simp [AA,B',A?,show¬p.1.1.toNat=i.toNat by omega]
   rw [f];exact hi
 .exact h
theorem aQ{t:AC}:∀(L:Bi){κ:List Fp},Xv t x.d3 κ->L.any (Nj t x)=T->Xv t x.d3 (L.foldl Cc κ)
 |[],_,h,_=>h|p::L,κ,h,e=>by
  rw [List.any_cons,E_]at e;exact aQ L (m9 h e.1) e.2
variable{r:fd}
theorem IH.ea{t:AC}{h:AG}{m:AQ}(s:IH t r h m):(∀n∈(gS t r h m).d3.ci,(AA t.ci n).p0=T)/\∀v n,(n,v)∈(gS t r h m).d3.ci.zip (gS t r h m).eh->kB t n v:=by
 have F:=Cq s.hv;have el:(gS t r h m).d3.ci=(dS r h m).ci.map (AA h.d3.ci)++(E0 r).map (AA r.ec.d3.ci):=rfl;have ev:(gS t r h m).eh=(dS r h m).ci.map (AA h.eh)++(E0 r).map (λk=>VX t (AA r.ec.d3.ci k)):=rfl;have old:∀x∈(dS r h m).ci,(AA t.ci (AA h.d3.ci x)).p0=T/\kB t (AA h.d3.ci x) (AA h.eh x):=λx f=>by
  have f:=s.rem.ea.1 x f;have u:=(UK s.he).1 x f.1 f.2;unfold Gm at u;split at u
  .cases u
  split at u
  .cases u
  split at u
  .cases u
  split at u
  .cases u
  rename_i a1 a2 a3 G;refine⟨by simpa using a2,F_.1 a3,λj C D=>?_⟩;have:=B0.1 (by simpa using G) j C U;simp[RE]at this;omega
 have new:∀k∈E0 r,kB t (AA r.ec.d3.ci k) (VX t (AA r.ec.d3.ci k)):=λk E=>by
  have A:0<=k/\k<r.ec.d3.ci.length:=Ft E;have B:=(Hu s.ro.right s.ro.Abm).1 _ (AF A.1 A.2);refine⟨by simp[VX],λj C D=>?_⟩;simp only[VX,cL]at D|-;have:=U7 s.hf F B.1 B.2 _ (AF C D);rw[show AA ((A4 t (AA r.ec.d3.ci k)).map λx=>x.Low) j=(AA (A4 t (AA r.ec.d3.ci k)) j).Low by grind[AA,w?]];omega
 refine ⟨λn z=>?_,λv n w=>?_⟩
 .rw[el]at z;rcases y!.1 z with z|z
  .obtain⟨x,f,rfl⟩:=y_.1 z;exact(old x f).1
  .obtain⟨k,E,rfl⟩:=y_.1 z;exact(gE s.re).1 k E
 .rw[el,ev,List.zip_append V]at w;rcases y!.1 w with w|w
  .rw[B!,y_]at w;obtain⟨x,f,e⟩:=w;cases e;exact(old x f).2
  .rw[B!,y_]at w;obtain⟨x,f,e⟩:=w;cases e;exact new x f
end Go.Sf.Sc
namespace Go.Sf.Sc
open Go Go.Sf
variable{α β:Type}{i:Int}
theorem yr[Inhabited α][Inhabited β]{a:List α}{b:List β}(e:0<=i)(f:i<a.length)(u:i<b.length):(AA a i,AA b i)∈a.zip b:=by
 refine List.mem_of_getElem? (i:=i.toNat) ?_;rw[List.getElem?_zip_eq_some]
 grind [AA,w?]
variable{r:fd}
theorem Wf{t:AC}{h:AG}{m:AQ}(s:Qw t r h m):Dd t (O3 t r h m)=(-1,0):=by
 have f:=s.f;have hv:=f.hv;have z:=Cq hv;have put:=f.put;have ed:=f.eb;obtain⟨F,G⟩:=f.ea;have M:=z.ea;have N:=z.eb;have u:Xv t (gS t r h m).d3 (gS t r h m).eh:=⟨put.Ab3,λi w i1=>G _ _ (yr w i1 (by rw[put.Ab3];exact i1))⟩;have good:=aQ (x:=gS t r h m) _ u (fR s.put).2;have A:∀e∈(gS t r h m).d3.c9,0<=e.j4/\e.j4<t.c9.length:=λe he=>by
  have:=(ed e he).2;unfold LD at this;simp only[pc,sx]at this;exact this.1.2
 have go:Cp (gS t r h m).d3:=⟨s.few.1,s.few.2,λn D=>by have:=put.kind n D;omega,λe he=>⟨by have:=A e he;omega,(ed e he).1⟩⟩;have E:(O3 t r h m).d3=(gS t r h m).d3:=rfl;have ev:(O3 t r h m).eh=(CP r (cS r h m) m.em).foldl Cc (gS t r h m).eh:=rfl;unfold Dd;rw[ae k_,E,ev,ae (by simp[EH go]),ae (by simpa using good.1),BC.2]
 .dsimp only;rw[BC.2]
  .rfl
  intro i w i1;have B:=AF w i1;have C:JZ t (gS t r h m).d3 i=0:=by
   unfold JZ Hp;rw[ae (by have:=A _ B;omega),(ed _ B).2];rfl
  rw [C];rfl
 .intro i w i1;have B:=AF w i1;obtain⟨H,J⟩:=good.2 i w i1;have C:Gm t (AA (gS t r h m).d3.ci i) (AA ((CP r (cS r h m) m.em).foldl Cc (gS t r h m).eh) i)=0:=by
   unfold Gm;rw[ae (by have:=put.kind _ B;omega),ae (by simp[F _ B]),ae v5,ae];rw[Cu];rintro⟨j,K,O,e⟩;have:=J j K U;simp[RE]at e;omega
  rw [C];rfl
end Go.Sf.Sc
namespace Go.Sf.Sc
open Go Go.Sf
theorem vJ{t:AC}{rules:List fd}{h:AG}(w:GH t rules h=0):(∀r∈rules,DT t r=0)/\(Dd t h).2=0:=by
 have e:Ec t rules=0/\(Dd t h).2=0:=by grind[GH]
 refine ⟨λr hr=>?_,e.2⟩;obtain⟨i,u,i1,rfl⟩:=BT hr;have f:(fst (λi=>nz (DT t (AA rules i))) 0 rules.length).getD 0=0:=by grind[Ec]
 exact VR f i u i1
variable{r:fd}
theorem te{t:AC}(hf:A3 t){h:AG}(f:DT t r=0)(e:(Dd t h).2=0):(Hm t r h).2=0\/(Hm t r h).2=3:=by
 have w:RZ t r h=0:=by unfold RZ;simp[f,e]
 have u:=(Ui f).1;have z:OL t r.gl h=0:=by unfold OL;simp[u,e]
 obtain ⟨hv,hh⟩:=QB hf e;obtain⟨go,ty⟩:=Yq u;have A:Ep t r.gl.d3 h.d3=0:=by unfold Ep;simp[hv,EH go,hh.ge,ty,hh.ty]
 unfold Hm Lk L8
 grind
theorem m7{t:AC}{rules:List fd}{h:AG}(hv:(BD t).2=0)(u:rules.length<=10)(hr:∀r∈rules,DT t r=0)(hh:(Dd t h).2=0):GH t rules h=0:=by
 have f:Ec t rules=0:=by
  unfold Ec;rw[ae k_,ae U,BC.2 λi e i1=>by rw[hr _ (AF e i1)];rfl];rfl
 unfold GH;rw[ae s_];exact hh
end Go.Sf.Sc
namespace Go.Sf.Sc
open Go Go.Sf
theorem WC(l:Fp)(v:Int):slices_Contains_int l v=Y (hasB l v):=MV l v
def M9(g:d3)(a b:Int):Nat:=g.c9.countP λe=>decide (e.jj=a)&&decide (e.To=b)
variable{g:d3}
theorem UX(h:g.c9.length<=1000)(a b:Int):Jb g a b=Y (M9 g a b:Int):=by
 unfold Jb M9;have u:∀l:List Bt,(l.countP λe=>decide (e.jj=a)&&decide (e.To=b))<=l.length:=λl=>List.countP_le_length;rw[CC (λi=>(((g.c9.take i.toNat).countP λe=>decide (e.jj=a)&&decide (e.To=b)):Int)) U V]
 .rw[bs,v?,B?]
 intro i f i1;have:=u (g.c9.take i.toNat);rw[bk]at this;rw[AD f i1,bs,CH f i1,List.countP_append];by_cases e:((decide ((AA g.c9 i).jj=a))&&(decide ((AA g.c9 i).To=b)))=X
 .rw[ac e,AT U U];simp[C_,e]
 .rw[ae e];simp[C_,e]
def jD(x y:AG)(mn:Fp)(l j:Int):Bool:=
 decide (M9 x.d3 j l=M9 y.d3 (AA mn j) (AA mn l))&&decide (M9 x.d3 l j=M9 y.d3 (AA mn l) (AA mn j))
def Td(x y:AG)(mn:Fp)(l:Int):Bool:=!kq (λj=>!jD x y mn l j) 0 (l+1)
variable{l:Fp}{i j:Int}
theorem x8(e:0<=j)(h:j<i):AA (l.take i.toNat) j=AA l j:=by
 unfold AA;rw[B',B',List.getElem?_take,ac U]
variable{x y:AG}
theorem ni(f:x.d3.c9.length<=1000)(u:y.d3.c9.length<=1000){mn ns es me:Fp}(D:mn.length<=1000){l:Int}(w:0<=l)(l1:l<mn.length):
  Gi ⟨x,y,ns,es,⟨mn.take (l+1).toNat,me⟩⟩=Y (Td x y mn l):=by
 unfold Gi;have C:((mn.take (l+1).toNat).length:Int)=l+1:=i9
 dsimp only;rw[C,show l+1-1=l by omega,AT U U,Bo (λj=>!jD x y mn l j) T]
 .unfold Td;cases kq (λj=>!jD x y mn l j) 0 (l+1)<;>rfl
 intro j z B;rw[AD z U,bs,x8 z B,UX f,bs,AD w U,bs,x8 w U,UX u,bs,UX f,bs,bs,UX u,bs];unfold jD;by_cases e:M9 x.d3 j l=M9 y.d3 (AA mn j) (AA mn l)
 .rw[ae c_,bs];by_cases A:M9 x.d3 l j=M9 y.d3 (AA mn l) (AA mn j)
  .simp[e,A]
  .rw[ac (by simp only[D?,decide_eq_false_iff_not];omega)];simp[e,A]
 .rw[ac (by simp only[D?,decide_eq_false_iff_not];omega),bs,ac rfl];simp[e]
structure yt(x y:AG)(m:d4):Prop where
 nl:m.ci.length=x.d3.ci.length
 el:m.c9.length=x.d3.c9.length
 xn:x.d3.ci.length<=1000
 xe:x.d3.c9.length<=1000
 yn:y.d3.ci.length<=1000
 ye:y.d3.c9.length<=1000
 xv:x.eh.length=x.d3.ci.length
 yv:y.eh.length=y.d3.ci.length
 xends:∀e∈x.d3.c9,(0<=e.jj/\e.jj<x.d3.ci.length)/\0<=e.To/\e.To<x.d3.ci.length
 nin:∀k∈m.ci,0<=k/\k<y.d3.ci.length
 ein:∀k∈m.c9,0<=k/\k<y.d3.c9.length
end Go.Sf.Sc
namespace Go.Sf.Sc
open Go Go.Sf
end Go.Sf.Sc
namespace Go.Sf.Sc
open Go Go.Sf
theorem Xn(n:Nat):(Ay n).Nodup:=by
 unfold Ay;exact List.Pairwise.map _ (λa b h e=>h (Int.ofNat.inj e)) w!
variable{l:Fp}{n:Nat}{i:Int}
theorem mL(f:l.Nodup)(w:l.length=n)(h:∀x∈l,0<=x/\x<n)(u:0<=i)(i1:i<n):i∈l:=by
 by_cases hi:i∈l
 .exact hi
 .have:=XS (l:=i::l) (n:=n) (List.nodup_cons.2 ⟨hi,f⟩) (λx e=>by
   rcases A'.1 e with rfl|e
   .exact⟨u,i1⟩
   .exact h x e)
  simp at this;omega
theorem M2:l.Nodup↔∀i:Int,0<=i->i<l.length->hasB (l.take i.toNat) (AA l i)=T:=by
 rw [<-Jx];unfold Jw;rw[D?,B0];refine⟨λh i u i1=>?_,λh i u i1=>?_⟩
 .have:=h i u i1;rw[B0]at this;rw[<-E',By];intro z;obtain⟨j,f,w,e⟩:=BT z;rw[bk]at w;have A:=this j f U;rw[x8 f U]at e;simp[e]at A
 .rw[B0];intro j f w;have:=h i u i1;rw[<-E',By]at this;simp only[decide_eq_false_iff_not];intro e;refine this ?_;rw[e,<-x8 f w];exact AF f i9
theorem Zx{x y:d3}{mn me:Fp}(nn:mn.length=x.ci.length)(nd:mn.Nodup)(en:me.length=x.c9.length)(ee:x.c9.length=y.c9.length)(ed:me.Nodup)(ein:∀k∈me,0<=k/\k<y.c9.length)
  (ends:∀e∈x.c9,(0<=e.jj/\e.jj<x.ci.length)/\0<=e.To/\e.To<x.ci.length)
  (edge:∀i:Int,0<=i->i<x.c9.length->AA y.c9 (AA me i)=⟨(AA x.c9 i).j4,AA mn (AA x.c9 i).jj,AA mn (AA x.c9 i).To⟩)
  {a b:Int}(a0:0<=a)(a1:a<x.ci.length)(E:0<=b)(F:b<x.ci.length):M9 x a b=M9 y (AA mn a) (AA mn b):=by
 have G:me.Perm (Ay y.c9.length):=(List.perm_ext_iff_of_nodup ed (Xn _)).2 λk=>⟨λw=>C5.2 (ein k w),λw=>mL ed U ein (C5.1 w).1 (C5.1 w).2⟩;have D:=G.map (AA y.c9);rw[TA]at D;have H:x.c9.map (λe=>(⟨e.j4,AA mn e.jj,AA mn e.To⟩:Bt))=me.map (AA y.c9):=by
  rw [eW x.c9,eW me,en];refine DM λj f C=>?_;exact(edge j f C).symm
 unfold M9;rw[<-D.countP_eq,<-H,List.countP_map];refine List.countP_congr λe he=>?_;obtain⟨⟨J,K⟩,M,N⟩:=ends e he;have inj:∀{i j:Int},0<=i->i<x.ci.length->0<=j->j<x.ci.length->AA mn i=AA mn j->i=j:=λ{i j}z i1 f C e=>by
  by_cases A:i<j
  .have:=M2.1 nd j f U;rw[<-E',By]at this;refine absurd ?_ this;rw[<-e,<-x8 z A];exact AF z i9
  by_cases B:j<i
  .have:=M2.1 nd i z U;rw[<-E',By]at this;refine absurd ?_ this;rw[e,<-x8 f B];exact AF f i9
  omega
 simp only[Function.comp_apply,pc,sx];exact⟨λ⟨u,v⟩=>⟨by rw[u],by rw[v]⟩,λ⟨u,v⟩=>⟨inj J K a0 a1 u,inj M N E F v⟩⟩
end Go.Sf.Sc
namespace Go.Sf.Sc
open Go Go.Sf
noncomputable def KT(t:AC)(st:AU):Bool:=decide ((EW t st.fd st.hV st.l4).2=0)&&ii (EW t st.fd st.hV st.l4).1 st
variable{st:AU}
theorem fE{t:AC}(hf:A3 t)(fr:Ie st.fd)(f:Dv st.fd.d5<=40):Jp t st=Y (KT t st):=by
 unfold Jp KT;rw[Yn hf fr f,bs];by_cases e:(EW t st.fd st.hV st.l4).2=0
 .rw[ac c_,ul,bs,bs];simp[e]
 .rw[ae c_,bs];simp[e]
theorem iZ{t:AC}(hf:A3 t)(fr:Ie st.fd)(w:Dv st.fd.d5<=40)(h:KT t st=X):WA st.hV/\L9 st.hV st/\ET st.f0:=by
 unfold KT at h;simp only[pc,sx]at h;obtain⟨s,e⟩:=Tw hf fr w h.1;have f:=WD.1 h.2;rw[e]at f;have u:=pL s;have tk:=s.trk;dsimp only at f;rw[f]at u tk;exact⟨u.b,tk,tk.sm⟩
theorem ml{t:AC}(hf:A3 t){rules:List fd}(hr:Gc rules){d:Ch}(h:Sa t rules d):∀n:Nat,n<=d.ln.length->(Dd t (Jo t rules d.ng (d.ln.take n)).2).2=0
 |0,_=>(WH hf h.given).2.1|n+1,u=>by
  have he:=h.moves n U U;have e:=CH (l:=d.ln) (i:=(n:Int)) U U;rw[show((n:Int)+1).toNat=n+1 by omega,v?]at e;unfold SD at he;rw[v?]at he;obtain⟨_,s,f⟩:=WM hf hr he;rw[e,SV,f];exact congrArg Prod.snd (Wf s)
theorem XJ:∀(l:List AU)(m:d4),(RB m l).ci.length=m.ci.length/\(RB m l).c9.length=m.c9.length
 |[],m=>⟨rfl,rfl⟩|s::l,m=>by
  have:=XJ l (KL m s.po);simp only[KL,EF,cL]at this;exact this
structure sW(t:AC)(d:Ch)(x:AG×d4×Int):Prop where
 small:ET x.1
 ok:If t x.1
 Aal:x.2.1.ci.length=d.ng.d3.ci.length
 Aao:x.2.1.c9.length=d.ng.d3.c9.length
 inn:Ko x.2.1 x.1.d3
theorem UW{l f:Fp}(z:l.length<=1000)(h:∀x∈l,-1<=x/\x<f.length):EJ l f=Y (EF l f):=by
 unfold EJ;rw[UO (F:=λx=>if x<0 then -1 else AA f x) λi s u i1 A=>?_]
 .rfl
 .have w:=h _ (AF u i1);rw[AD u i1,bs];by_cases e:0<=AA l i
  .rw[ac f_,AD e w.2,bs,AS a_,bs,ae U]
  .rw[ae f_,AS a_,bs,ac U,show AA l i=-1 by omega]
variable{x:AG}
theorem nZ(h:ET x):Nu x=Y x:=by
 have:=h.ea;have:=h.eb;have:=h.vals;unfold Nu slices_Clone_int De;rw[Be b_,bs,Be b_,bs];rw[CC (λi=>AG.mk x.d3 (x.eh.take i.toNat)) U s?]
 .rw[v?,B?];rfl
 .intro i e i1;have f:=h.rows _ (AF e i1);rw[AD e i1,bs,Be b_,bs,AS (by rw[bk];simp;unfold AX;omega),bs,CH e i1]
theorem II(l e:Fp):(EF l e).length=l.length:=by unfold EF;rw[cL]
def FX(s:AU)(p:BR):d4:=⟨EF p.ci s.po.ci,EF p.c9 s.po.c9⟩
theorem nB{s:AU}{p:BR}(e:Xx s.hV p)(f:L9 s.hV s):Ko (FX s p) s.f0.d3:=by
 refine ⟨by show(EF _ _).length<=1000;rw[II];exact e.Aal,by show(EF _ _).length<=1000;rw[II];exact e.Aao,?_,?_⟩
 .exact P2 (λx u=>by have:=e.node x u;rw[f.Aal];omega) f.node
 .exact P2 (λx u=>by have:=e.edge x u;rw[f.Aao];omega) f.edge
theorem fD{s:AU}{p:BR}(e:Xx s.hV p)(u:L9 s.hV s)(w:ET s.f0):Ja s p=Y ⟨⟨s.f0,[]⟩,s.f0,FX s p⟩:=by
 unfold Ja;rw[nZ w,bs,UW e.Aal (λx f=>by have:=e.node x f;rw[u.Aal];omega),bs,UW e.Aao (λx f=>by have:=e.edge x f;rw[u.Aao];omega),bs];rfl
theorem qk{t:AC}(hf:A3 t){rules:List fd}(hr:Gc rules){a b:AU}(fa:Ie a.fd)(ka:Dv a.fd.d5<=40)(fb:Ie b.fd)(kb:Dv b.fd.d5<=40):
  Jc t rules a b=Y (if Ec t rules≠0 then Ec t rules else if(KT t a&&KT t b)=T then 1 else if a.hV=b.hV then 0 else 8):=by
 have w:(Zm t rules ⟨⟨⟨[],[]⟩,[]⟩,[]⟩).2.2=Ec t rules:=by
  by_cases h:Ec t rules=0
  .have hv:(BD t).2=0:=by
    unfold Ec at h;split at h
    next k=>exact absurd h k
    next k=>exact F_.1 k
   have hh:(Dd t ⟨⟨[],[]⟩,[]⟩).2=0:=by
    unfold Dd;rw[ae k_,ae (by simp[CE]),ae V,BC.2 (λi u i1=>h!)];dsimp only;rw[BC.2 (λi u i1=>h!)];rfl
   have f:GH t rules ⟨⟨[],[]⟩,[]⟩=0:=by
    unfold GH;rw[ae (by simp[h])];exact hh
   rw [yD (d:=⟨⟨⟨[],[]⟩,[]⟩,[]⟩) ⟨f,V,λi u i1=>h!⟩];exact h.symm
  .have f:GH t rules ⟨⟨[],[]⟩,[]⟩=Ec t rules:=by
    unfold GH;rw[ac h]
   unfold Zm;rw[ac (by rw[f];exact h)];exact f
 unfold Jc Ha;rw[qh hf hr,bs,w];by_cases h:Ec t rules=0
 case neg=>rw[ac b?,ac h]
 rw [ae (by simp[h]),ae (by simp[h]),fE hf fa ka,bs];cases KT t a with
 |false=>rfl|true=>
  rw [ae a!,fE hf fb kb,bs,bs];cases KT t b with
  |false=>rfl|true=>
   rw [ae a!,Ze,bs];by_cases e:a.hV=b.hV
   .rw[ae c_,ae a!,ac e]
   .rw[ac c_,ae a!,ae e]
theorem nH{t:AC}(h:If t x):Cp x.d3/\x.eh.length=x.d3.ci.length/\∀e∈x.d3.c9,(0<=e.jj/\e.jj<x.d3.ci.length)/\0<=e.To/\e.To<x.d3.ci.length:=⟨h.g,h.len,λe he=>(h.g.fit e he).2⟩
end Go.Sf.Sc
namespace Go.Sf.Sc
open Go Go.Sf
structure ACT(t:AC)(a b:AU)(p:BR)(x y:AG×d4×Int)(iso:d4):Prop where
 ha:L9 a.hV a
 hb:L9 b.hV b
 pa:Xx a.hV p
 pb:Xx b.hV p
 fx:∃d,d.ng=a.f0/\sW t d x
 fy:∃d,d.ng=b.f0/\sW t d y
 io:yt x.1 y.1 iso
 i1:iso.ci.length<=1000
 i2:iso.c9.length<=1000
 sa:ET a.f0
 sb:ET b.f0
end Go.Sf.Sc
namespace Go.Sf.Sc
open Go Go.Sf
variable{c:Bool}
theorem UH{b:Bool}{o:K1}(h:b=T->o=Y c):(if b=X then Y X else o.bind λx=>Y (!x))=Y (b||!c):=by
 cases b with
 |true=>rfl|false=>rw[ae a!,h rfl];rfl
structure ACS(t:AC)(rules:List fd)(a b:AU)(j:Aaf):Prop where
 gr:Ec t rules=0
 ga:KT t a=X
 gb:KT t b=X
 before:a.hV=b.hV
 left:j.gl.ng=a.f0
 right:j.ec.ng=b.f0
theorem Xq:∀{l:Fq}(n:Nat),TV.sc l->TV.sc (l.take n)
 |[],n,_=>by cases n<;>trivial
 |x::l,0,_=>trivial|x::l,n+1,h=>⟨h.1,Xq n h.2⟩
theorem Xp:∀{l:Fq}(n:Nat),TV.sc l->TV.sc (l.drop n)
 |[],n,_=>by cases n<;>trivial
 |x::l,0,h=>h|x::l,n+1,h=>Xp n h.2
end Go.Sf.Sc
namespace Go.Sf.Sc
open Go Go.Sf
variable{α:Type}{n:Nat}
theorem I0{e:α->TV}{l:List α}(h:TV.WF (eL n e l)):∀x∈l,(e x).WF:=by
 have z:TV.WF (.list n (l.map e)):=h;simp only[TV.WF]at z;intro x A;have key:∀{u:Fq},TV.sc u->∀t∈u,t.WF:=by
  intro u
  induction u with
  |nil=>intro _ t f;cases f
  |cons a l B=>
   intro w t f;rcases A'.1 f with rfl|f
   .exact w.1
   .exact B w.2 t f
 exact key z.2 _ (y_.2 ⟨x,A,rfl⟩)
theorem Kl{x:Int}(h:(Eh x).WF):U8 x:=by
 have e:IntKind.u8.min<=x/\x<=IntKind.u8.max:=h;rw[show IntKind.u8.min=0 by decide,show IntKind.u8.max=255 by decide]at e;exact⟨e.1,U⟩
theorem gV{x:Lt}(h:(LA x).WF):U2 x:=⟨Kl h.1,Kl h.2.1⟩
theorem V2{x:KN}(h:(DO x).WF):U3 x:=⟨Kl h.1,Kl h.2.1,Kl h.2.2.1⟩
variable{d:F6}
theorem bX(h:(KW d).WF):X0 d:=by
 have u:TV.sc [_,_,_,_,_,_,_,_,_,_,_,_,_,_,_]:=h;obtain⟨w,z,A,_,B,C,D,E,_,_,F,G,H,J,K,_⟩:=u;have f:IntKind.u64.min<=d.pf/\d.pf<=IntKind.u64.max:=B;rw[show IntKind.u64.min=0 by decide,show IntKind.u64.max=18446744073709551615 by decide]at f;exact⟨⟨⟨λx e=>Kl (I0 w x e),λx e=>V2 (I0 z x e)⟩,λx e=>V2 (I0 A x e)⟩,⟨f.1,U⟩,
  λx e=>Kl (I0 C x e),λx e=>V2 (I0 D x e),λx e=>V2 (I0 E x e),⟨⟨Kl F,Kl G⟩,Kl H,Kl J⟩,λx e=>Kl (I0 K x e)⟩
end Go.Sf.Sc
namespace Go.Sf.Sc
open Go Go.Sf
def Nn(x y:AG)(ns mn:Fp)(i j:Int):Bool:=
 (decide (AA ns i<0)||decide (AA ns i=j))&&decide (AA y.d3.ci j=AA x.d3.ci i)&&!hasB mn j&&decide (AA x.eh i=AA y.eh j)
def P7(x y:AG)(es mn me:Fp)(i j:Int):Bool:=
 (decide (AA es i<0)||decide (AA es i=j))&&decide (AA y.d3.c9 j=⟨(AA x.d3.c9 i).j4,AA mn (AA x.d3.c9 i).jj,AA mn (AA x.d3.c9 i).To⟩)&&!hasB me j
def HN(x y:AG)(es mn:Fp):Nat->Fp->Option Fp
 |0,me=>Y me|k+1,me=>fst (λj=>if P7 x y es mn me me.length j=X then HN x y es mn k (me++[j])else W) 0 y.d3.c9.length
def Me(x y:AG)(ns es:Fp):Nat->Fp->Option d4
 |0,mn=>(HN x y es mn x.d3.c9.length []).map (d4.mk mn)|k+1,mn=>fst (λj=>if Nn x y ns mn mn.length j=X then Me x y ns es k (mn++[j])else W) 0 y.d3.ci.length
def ZX(x y:AG)(es mn r:Fp)(n:Int):Prop:=∀i:Int,0<=i->i<n->(0<=AA r i/\AA r i<y.d3.c9.length)/\P7 x y es mn (r.take i.toNat) i (AA r i)=X
def ZY(x y:AG)(ns r:Fp)(n:Int):Prop:=∀i:Int,0<=i->i<n->(0<=AA r i/\AA r i<y.d3.ci.length)/\Nn x y ns (r.take i.toNat) i (AA r i)=X
theorem pX(l:Fp)(j:Int):AA (l++[j]) l.length=j:=by simp[AA]
variable{l:Fp}{j i:Int}
theorem Xk{P:Fp->Int->Int->Prop}(h:∀i:Int,0<=i->i<l.length->P (l.take i.toNat) i (AA l i))(e:P l l.length j)(f:0<=i)(i1:i<(l++[j]).length):P ((l++[j]).take i.toNat) i (AA (l++[j]) i):=by grind[Lj,pX,B?]
variable{x y:AG}
theorem Wl{es mn:Fp}:∀(k:Nat)(me r:Fp),me.length+k=x.d3.c9.length->ZX x y es mn me me.length->HN x y es mn k me=Y r->r.length=x.d3.c9.length/\ZX x y es mn r x.d3.c9.length
 |0,me,r,B,ho,h=>by
  cases h
  grind
 |k+1,me,r,B,ho,h=>by
  obtain ⟨j,w,A,e,_⟩:=Cl h;split at e
  next f=>exact Wl k (me++[j]) r an (λi u i1=>Xk (P:=λp i z=>(0<=z/\z<y.d3.c9.length)/\P7 x y es mn p i z=X) ho ⟨⟨w,A⟩,f⟩ u i1) e
  .cases e
theorem Z3{es mn r:Fp}(w:r.length=x.d3.c9.length)(ho:ZX x y es mn r x.d3.c9.length):∀(k i:Nat),i+k=x.d3.c9.length->HN x y es mn k (r.take i)≠W
 |0,_,_=>by simp[HN]|k+1,i,z=>λh=>by
  rw [HN,BC]at h;obtain⟨⟨a,b⟩,f⟩:=ho i U U;have e:=h _ a b;have u:((r.take i).length:Int)=i:=i9
  have tk:=CH (l:=r) (i:=(i:Int)) U U;rw[u]at e;rw[v?]at f tk;rw[ac f,<-tk]at e;exact Z3 w ho k (i+1) U e
theorem TN{ns es:Fp}:∀(k:Nat)(mn:Fp)(m:d4),mn.length+k=x.d3.ci.length->ZY x y ns mn mn.length->Me x y ns es k mn=Y m ->
  m.ci.length=x.d3.ci.length/\ZY x y ns m.ci x.d3.ci.length/\m.c9.length=x.d3.c9.length/\ZX x y es m.ci m.c9 x.d3.c9.length/\m.ci.take mn.length=mn
 |0,mn,m,C,ho,h=>by
  have e:mn.length=x.d3.ci.length:=U
  rw [Me]at h;cases u:HN x y es mn x.d3.c9.length []with
  |none=>rw[u]at h;cases h
  |some r=>
   rw [u]at h;cases h;obtain⟨a,b⟩:=Wl _ _ _ V (λi w i1=>h!) u
   grind
 |k+1,mn,m,C,ho,h=>by
  obtain ⟨j,A,B,e,_⟩:=Cl h;split at e
  .rename_i f;obtain⟨a,b,c,d,g⟩:=TN k (mn++[j]) m an (λi w i1=>Xk (P:=λp i z=>(0<=z/\z<y.d3.ci.length)/\Nn x y ns p i z=X) ho ⟨⟨A,B⟩,f⟩ w i1) e;refine⟨a,b,c,d,?_⟩;have:=congrArg (List.take mn.length) g
   grind
  .cases e
variable{m:d4}
theorem ai{ns es:Fp}(nl:m.ci.length=x.d3.ci.length)(ho:ZY x y ns m.ci x.d3.ci.length)(el:m.c9.length=x.d3.c9.length)(he:ZX x y es m.ci m.c9 x.d3.c9.length):∀(k i:Nat),i+k=x.d3.ci.length->Me x y ns es k (m.ci.take i)≠W
 |0,i,w=>by
  have:=Z3 el he x.d3.c9.length 0 U;rw[C' U,Me];rw[List.take_zero]at this;cases h:HN x y es m.ci x.d3.c9.length []with
  |none=>exact absurd h this|some r=>simp
 |k+1,i,w=>λh=>by
  rw [Me,BC]at h;obtain⟨⟨a,b⟩,f⟩:=ho i U U;have e:=h _ a b;have u:((m.ci.take i).length:Int)=i:=i9
  have tk:=CH (l:=m.ci) (i:=(i:Int)) U U;rw[u]at e;rw[v?]at f tk;rw[ac f,<-tk]at e;exact ai nl ho el he k (i+1) U e
structure W6(x y:AG)(m:d4):Prop where
 nl:m.ci.length=x.d3.ci.length
 el:m.c9.length=x.d3.c9.length
 nn:x.d3.ci.length=y.d3.ci.length
 ee:x.d3.c9.length=y.d3.c9.length
 nin:∀i:Int,0<=i->i<x.d3.ci.length->0<=AA m.ci i/\AA m.ci i<y.d3.ci.length
 ein:∀i:Int,0<=i->i<x.d3.c9.length->0<=AA m.c9 i/\AA m.c9 i<y.d3.c9.length
 nd:m.ci.Nodup
 ed:m.c9.Nodup
 node:∀i:Int,0<=i->i<x.d3.ci.length->AA y.d3.ci (AA m.ci i)=AA x.d3.ci i/\AA x.eh i=AA y.eh (AA m.ci i)
 edge:∀i:Int,0<=i->i<x.d3.c9.length->AA y.d3.c9 (AA m.c9 i)=⟨(AA x.d3.c9 i).j4,AA m.ci (AA x.d3.c9 i).jj,AA m.ci (AA x.d3.c9 i).To⟩
def cU(ns l:Fp):Prop:=∀i:Int,0<=i->i<l.length->0<=AA ns i->AA l i=AA ns i
theorem XQ{ns es:Fp}(nn:x.d3.ci.length=y.d3.ci.length)(ee:x.d3.c9.length=y.d3.c9.length):
  (m.ci.length=x.d3.ci.length/\ZY x y ns m.ci x.d3.ci.length/\m.c9.length=x.d3.c9.length/\ZX x y es m.ci m.c9 x.d3.c9.length)↔W6 x y m/\cU ns m.ci/\cU es m.c9:=by
 constructor
 .rintro⟨a,b,c,d⟩;refine⟨⟨a,c,nn,ee,λi e i1=>(b i e i1).1,λi e i1=>(d i e i1).1,M2.2 λi e i1=>?_,M2.2 λi e i1=>?_,λi e i1=>?_,λi e i1=>?_⟩,λi e i1 g=>?_,λi e i1 g=>?_⟩
  .have:=(b i e U).2;simp only[Nn,pc,D?]at this;exact this.1.2
  .have:=(d i e U).2;simp only[P7,pc,D?]at this;exact this.2
  .have:=(b i e i1).2;simp only[Nn,pc,sx]at this;exact⟨this.1.1.2,this.2⟩
  .have:=(d i e i1).2;simp only[P7,pc,sx]at this;exact this.1.2
  .have:=(b i e U).2;simp only[Nn,pc,E!,sx]at this;omega
  .have:=(d i e U).2;simp only[P7,pc,E!,sx]at this;omega
 .rintro⟨h,f,u⟩;have l1:=h.nl;have l2:=h.el;refine⟨l1,λi e i1=>⟨h.nin i e i1,?_⟩,l2,λi e i1=>⟨h.ein i e i1,?_⟩⟩
  .have k:=f i e U;simp only[Nn,pc,E!,sx,D?];exact⟨⟨⟨U,(h.node i e i1).1⟩,M2.1 h.nd i e U⟩,(h.node i e i1).2⟩
  .have k:=u i e U;simp only[P7,pc,E!,sx,D?];exact⟨⟨U,h.edge i e i1⟩,M2.1 h.ed i e U⟩
def PQ(x y:AG)(ns es:Fp):Nat->Fp->Option d4
 |0,mn=>(HN x y es mn x.d3.c9.length []).map (d4.mk mn)|k+1,mn=>fst (λj=>if(Nn x y ns mn mn.length j&&Td x y (mn++[j]) mn.length)=X then PQ x y ns es k (mn++[j])else W) 0 y.d3.ci.length
def QU(x:AG):Prop:=∀e∈x.d3.c9,(0<=e.jj/\e.jj<x.d3.ci.length)/\0<=e.To/\e.To<x.d3.ci.length
theorem nI(h:W6 x y m)(ends:QU x)(e:0<=i)(i1:i<x.d3.ci.length):Td x y m.ci i=X:=by
 have l1:=h.nl;have l2:=h.el;have u:=h.ee;have ein:∀k∈m.c9,0<=k/\k<y.d3.c9.length:=λk w=>by
  obtain ⟨i,e,i1,rfl⟩:=BT w;exact h.ein i e U
 unfold Td;rw[D?,B0];intro j f z;unfold jD;rw[<-Zx l1 h.nd l2 u h.ed ein ends h.edge f U e i1,<-Zx l1 h.nd l2 u h.ed ein ends h.edge e i1 f U];simp
variable{n:Nat}
theorem uP(e:0<=i)(h:i<n):Td x y (l.take n) i=Td x y l i:=by
 unfold Td;congr 1;refine Tv λj f u=>?_;unfold jD;rw[Go.Sf.x8 U,Go.Sf.x8 U]
theorem Ws{ns es:Fp}(nn:x.d3.ci.length=y.d3.ci.length)(ee:x.d3.c9.length=y.d3.c9.length)(ends:QU x):∀(k:Nat)(mn:Fp),mn.length+k=x.d3.ci.length->ZY x y ns mn mn.length->PQ x y ns es k mn=Me x y ns es k mn
 |0,_,_,_=>rfl|k+1,mn,C,ho=>by
  rw [PQ,Me];refine aL λj w A _=>?_;by_cases f:Nn x y ns mn mn.length j=X
  case neg=>rw[ae s_,ae f]
  have u:ZY x y ns (mn++[j]) (mn++[j]).length:=λi B i1=>Xk (P:=λp i z=>(0<=z/\z<y.d3.ci.length)/\Nn x y ns p i z=X) ho ⟨⟨w,A⟩,f⟩ B i1;rw[ac f,f,E?];by_cases g:Td x y (mn++[j]) mn.length=X
  .rw[ac g,Ws nn ee ends k _ an u]
  rw [ae g];cases h:Me x y ns es k (mn++[j])with
  |none=>rfl|some m=>
   obtain ⟨a,b,c,d,e⟩:=TN k _ m an u h
   grind [XQ,uP,nI]
end Go.Sf.Sc
namespace Go.Sf.Sc
open Go Go.Sf
def TI:List (Int×Int)->Fp->Option Fp
 |[],o=>Y o|p::r,o=>if decide (p.1<0)≠decide (p.2<0)then W else if p.1<0 then TI r o else if 0<=AA o p.1/\AA o p.1≠p.2 then W else TI r (BF o p.1 p.2)
def dH(f:Int->Int)(ps:List (Int×Int)):Prop:=∀p∈ps,0<=p.1->f p.1=p.2
def Zs(f:Int->Int)(o:Fp):Prop:=∀k:Int,0<=k->k<o.length->0<=AA o k->f k=AA o k
theorem mK{f:Int->Int}{o:Fp}{p:Int×Int}(h0:0<=p.1)(e:p.1<o.length)(u:0<=p.2)(h:¬(0<=AA o p.1/\AA o p.1≠p.2)):Zs f (BF o p.1 p.2)↔f p.1=p.2/\Zs f o:=by grind[Zs,DQ,P4,TS]
theorem SF:∀{e:List (Int×Int)}{o r:Fp},(∀p∈e,p.1<o.length)->TI e o=Y r->r.length=o.length/\(∀p∈e,(p.1<0↔p.2<0))/\∀f:Int->Int,(dH f e/\Zs f o↔Zs f r)
 |[],o,r,_,h=>by
  cases h;exact⟨rfl,λp w=>by simp at w,λf=>⟨λk=>k.2,λk=>⟨λp w=>by simp at w,k⟩⟩⟩
 |p::e,o,r,hi,h=>by
  rw [TI]at h;split at h
  .cases h
  rename_i A;have D:p.1<0↔p.2<0:=l?
  have u:∀q∈e,q.1<o.length:=λq z=>hi q (A! _ z);have E:∀f,dH f (p::e)↔(0<=p.1->f p.1=p.2)/\dH f e:=λf=>by simp[dH]
  split at h
  .rename_i B;obtain⟨a,b,c⟩:=SF u h
   grind
  .rename_i B;split at h
   .cases h
   rename_i C;have w:=hi p (.head _);obtain⟨a,b,c⟩:=SF (by rw[DQ];exact u) h
   grind [DQ,mK]
theorem XM:∀{e:List (Int×Int)}{o:Fp}{f:Int->Int},(∀p∈e,p.1<o.length)->(∀p∈e,(p.1<0↔p.2<0))->dH f e->Zs f o->TI e o≠W
 |[],_,_,_,_,_,_=>by simp[TI]|p::e,o,f,hi,G,ha,B=>by
  have C:=hi p (.head _);have s:=G p (.head _);have w:∀q∈e,q.1<o.length:=λq u=>hi q (A! _ u);have z:∀q∈e,(q.1<0↔q.2<0):=λq u=>G q (A! _ u);have A:dH f e:=λq u=>ha q (A! _ u);rw[TI,ae (by simp[s])];by_cases D:p.1<0
  .rw[ac D];exact XM w z A B
  .have E:f p.1=p.2:=ha p (.head _) U;have F:¬(0<=AA o p.1/\AA o p.1≠p.2):=λ⟨a,b⟩=>b (by rw[<-B p.1 U C a];exact E);rw[ae D,ae F];exact XM (by rw[DQ];exact w) z A ((mK U C U F).2 ⟨E,B⟩)
def Pg(f t l:Fp):Prop:=∀i:Int,0<=i->i<f.length->(AA f i<0↔AA t i<0)/\(0<=AA f i->AA l (AA f i)=AA t i)
def TJ(n:Nat)(f t:Fp):Option Fp:=TI (f.zip t) (C! n (-1))
theorem R3{f t:Fp}(u:f.length=t.length){p:Int×Int}:p∈f.zip t↔∃i:Int,0<=i/\i<f.length/\p=(AA f i,AA t i):=by
 have e:∀i:Int,0<=i->i<f.length->AA (f.zip t) i=(AA f i,AA t i):=λi w i1=>by
  grind [w_,AA,v?,w?]
 grind [BT,AF]
theorem Ue{f t l:Fp}(w:f.length=t.length):Pg f t l↔(∀p∈f.zip t,(p.1<0↔p.2<0))/\dH (AA l) (f.zip t):=by
 constructor
 .intro h;refine⟨λp e=>?_,λp e g=>?_⟩<;>obtain⟨i,u,i1,rfl⟩:=(R3 w).1 e
  .exact(h i u i1).1
  .exact(h i u i1).2 g
 .intro h i u i1;have e:=(R3 w).2 ⟨i,u,i1,rfl⟩;exact⟨h.1 _ e,h.2 _ e⟩
variable{n:Nat}{k v:Int}
theorem tY(e:0<=k)(f:k<n):AA (C! n v) k=v:=by grind[AF]
theorem mJ(f:Int->Int)(n:Nat):Zs f (C! n (-1)):=λk e u g=>by
 grind [C?,tY]
theorem UB{f t r l:Fp}(e:f.length=t.length)(hi:∀x∈f,x<n)(z:l.length=n)(h:TJ n f t=Y r):cU r l↔Pg f t l:=by
 obtain ⟨a,b,c⟩:=SF (λp u=>by obtain⟨i,w,i1,rfl⟩:=(R3 e).1 u;have:=hi _ (AF w i1);simpa using this) h
 grind [C?,Ue,AA,cU,Zs,mJ]
theorem mr{f t l:Fp}(e:f.length=t.length)(hi:∀x∈f,x<n)(h:TJ n f t=W):¬Pg f t l:=λk=>
 XM (λp u=>by obtain⟨i,w,i1,rfl⟩:=(R3 e).1 u;have:=hi _ (AF w i1);simpa using this) ((Ue e).1 k).1 ((Ue e).1 k).2 (mJ _ _) h
def HO(x y:AG)(f t:d4):Option d4:=
 if x.d3.ci.length=y.d3.ci.length/\x.d3.c9.length=y.d3.c9.length then
  match TJ x.d3.ci.length f.ci t.ci,TJ x.d3.c9.length f.c9 t.c9 with
  |some ns,Y es=>Me x y ns es x.d3.ci.length []|_,_=>W
 else W
structure U0(x:AG)(f t:d4):Prop where
 nl:f.ci.length=t.ci.length
 el:f.c9.length=t.c9.length
 nin:∀k∈f.ci,k<x.d3.ci.length
 ein:∀k∈f.c9,k<x.d3.c9.length
variable{x y:AG}
theorem YH{f t m:d4}(hi:U0 x f t)(h:HO x y f t=Y m):W6 x y m/\Pg f.ci t.ci m.ci/\Pg f.c9 t.c9 m.c9:=by
 unfold HO at h;split at h
 case isFalse=>cases h
 rename_i e;split at h
 case h_2=>cases h
 rename_i ns es u w;obtain⟨a,b,c,d,_⟩:=TN _ _ _ V (λi C i1=>h!) h;obtain⟨z,A,B⟩:=(XQ e.1 e.2).1 ⟨a,b,c,d⟩;exact⟨z,(UB hi.nl hi.nin a u).1 A,(UB hi.el hi.ein c w).1 B⟩
theorem XK{f t m:d4}(hi:U0 x f t)(h:W6 x y m)(e:Pg f.ci t.ci m.ci)(u:Pg f.c9 t.c9 m.c9):HO x y f t≠W:=by
 unfold HO;rw[ac ⟨h.nn,h.ee⟩];cases w:TJ x.d3.ci.length f.ci t.ci with
 |none=>exact absurd e (mr hi.nl hi.nin w)|some ns=>
 cases z:TJ x.d3.c9.length f.c9 t.c9 with
 |none=>exact absurd u (mr hi.el hi.ein z)|some es=>
 obtain ⟨a,b,c,d⟩:=(XQ h.nn h.ee).2 ⟨h,(UB hi.nl hi.nin h.nl w).2 e,(UB hi.el hi.ein h.el z).2 u⟩;exact ai a b c d x.d3.ci.length 0 U
def PH(l:Fp):Fp:=(Ay l.length).map λj=>(fst (λi=>if AA l i=j then Y i else W) 0 l.length).getD 0
theorem WI(l:Fp):(PH l).length=l.length:=by unfold PH;rw[cL,A2]
variable{l:Fp}{j:Int}
theorem SJ(nd:l.Nodup)(e:∀i:Int,0<=i->i<l.length->0<=AA l i/\AA l i<l.length)(f:0<=j)(u:j<l.length):(0<=AA (PH l) j/\AA (PH l) j<l.length)/\AA l (AA (PH l) j)=j:=by
 have A:j∈l:=mL nd rfl (λx w=>by obtain⟨i,z,i1,rfl⟩:=BT w;exact e i z i1) f u;unfold PH;rw[Gk f (by rw[A2];exact u),Fc _ f u];cases h:fst (λi=>if AA l i=j then Y i else W) 0 (l.length:Int)with
 |none=>
  grind [BT,BC]
 |some v=>
  grind [Cl]
variable{i:Int}
theorem xB(nd:l.Nodup)(f:0<=i)(i1:i<l.length)(A:0<=j)(u:j<l.length)(e:AA l i=AA l j):i=j:=by
 have z:∀{i j:Int},0<=i->i<j->j<l.length->AA l i=AA l j->False:=λ{i j}f w u e=>by
  have:=M2.1 nd j U u;rw[<-E',By]at this;refine this ?_;rw[<-e,<-Sc.x8 f w]
  grind [AF,bk]
 grind
theorem ZO(nd:l.Nodup)(e:∀i:Int,0<=i->i<l.length->0<=AA l i/\AA l i<l.length)(f:0<=i)(i1:i<l.length):AA (PH l) (AA l i)=i:=by
 obtain ⟨a,b⟩:=e i f i1;obtain⟨c,d⟩:=SJ nd e a b
 grind [xB]
theorem nD(nd:l.Nodup)(f:∀i:Int,0<=i->i<l.length->0<=AA l i/\AA l i<l.length):(PH l).Nodup:=by
 refine M2.2 λi u i1=>?_;rw[<-E',By];intro w;rw[WI]at i1;obtain⟨j,z,A,e⟩:=BT w;rw[bk,WI]at A;rw[Sc.x8 z U]at e;have B:=(SJ nd f u i1).2
 grind [SJ]
def ACF(m:d4):d4:=⟨PH m.ci,PH m.c9⟩
variable{m:d4}
theorem uI(h:W6 x y m)(ends:QU x):W6 y x (ACF m):=by
 have l1:=h.nl;have l2:=h.el;have w:=h.nn;have z:=h.ee;have f:∀i:Int,0<=i->i<m.ci.length->0<=AA m.ci i/\AA m.ci i<m.ci.length:=λi e i1=>by have:=h.nin i e U;omega
 have u:∀i:Int,0<=i->i<m.c9.length->0<=AA m.c9 i/\AA m.c9 i<m.c9.length:=λi e i1=>by have:=h.ein i e U;omega
 refine ⟨by rw[<-w,<-l1];exact WI _,by rw[<-z,<-l2];exact WI _,w.symm,z.symm,λi e i1=>?_,λi e i1=>?_,nD h.nd f,nD h.ed u,λi e i1=>?_,λi e i1=>?_⟩
 .have:=(SJ h.nd f e U).1;rw[<-l1];exact this
 .have:=(SJ h.ed u e U).1;rw[<-l2];exact this
 .obtain⟨a,b⟩:=SJ h.nd f e U;obtain⟨c,d⟩:=h.node _ a.1 U;rw[b]at c d;exact⟨c.symm,d.symm⟩
 .obtain⟨a,b⟩:=SJ h.ed u e U;have c:=h.edge _ a.1 U;obtain⟨⟨A,C⟩,B,D⟩:=ends _ (AF (l:=x.d3.c9) a.1 U);show AA x.d3.c9 (AA (PH m.c9) i)=⟨_,AA (PH m.ci) _,AA (PH m.ci) _⟩;rw[b]at c;rw[c];dsimp only;rw[ZO h.nd f A U,ZO h.nd f B U]
theorem gB{f t l:Fp}(w:f.length=t.length)(nd:l.Nodup)(e:∀i:Int,0<=i->i<l.length->0<=AA l i/\AA l i<l.length)(hf:∀x∈f,x<l.length)(h:Pg f t l):Pg t f (PH l):=λi u i1=>by
 obtain ⟨a,b⟩:=h i u U
 grind [AF,ZO]
theorem mq{f t:d4}(hi:U0 x f t)(B:U0 y t f)(C:QU x)(G:QU y):(HO x y f t).isSome=(HO y x t f).isSome:=by
 have D:∀{x y:AG}{f t:d4},U0 x f t->U0 y t f->QU x->(HO x y f t).isSome=X->(HO y x t f).isSome=X:=λ{x y f t}hi B C h=>by
  obtain ⟨m,e⟩:=Option.isSome_iff_exists.1 h;obtain⟨u,E,F⟩:=YH hi e;have l1:=u.nl;have l2:=u.el;have H:=u.nn;have J:=u.ee;refine Option.isSome_iff_ne_none.2 (XK B (uI u C) (gB hi.nl u.nd (λi w i1=>?_) (λz A=>?_) E) (gB hi.el u.ed (λi w i1=>?_) (λz A=>?_) F))
  .have:=u.nin i w U;omega
  .have:=hi.nin z A;omega
  .have:=u.ein i w U;omega
  .have:=hi.ein z A;omega
 rw [Bool.eq_iff_iff]
 grind
end Go.Sf.Sc
namespace Go.Sf
def Gf{α σ:Type}(g:α->σ->Option σ):List α->σ->Option σ
 |[],s=>Y s|x::l,s=>(g x s).bind (Gf g l)
variable{α σ:Type}
theorem aF{g:α->σ->Option σ}:∀{a b:List α}{s:σ},Gf g (a++b) s=(Gf g a s).bind (Gf g b)
 |[],_,_=>rfl|x::a,b,s=>by
  rw [List.cons_append,Gf,Gf];cases g x s with
  |none=>rfl|some v=>exact aF (a:=a)
variable{I:σ->Prop}
theorem VO{g:α->σ->Option σ}:∀{l:List α}{s r:σ},(∀x∈l,∀s s',I s->g x s=Y s'->I s')->I s->Gf g l s=Y r->I r
 |[],s,r,_,h,e=>by cases e;exact h
 |x::l,s,r,u,h,e=>by
  rw [Gf]at e;cases f:g x s with
  |none=>rw[f]at e;cases e
  |some v=>
   rw [f]at e;exact VO (λy w=>u y (A! _ w)) (u x (.head _) s v h f) e
def de{σ ρ:Type}(e:ρ):Option σ->Bz σ ρ
 |some s=>.next s|none=>.ret e
def gP{σ ρ:Type}(e:ρ):Option σ->σ ⊕ ρ
 |some s=>.inl s|none=>.inr e
variable{σ' ρ:Type}
theorem Wn[Inhabited α]{f:Int->σ->Option (Bz σ ρ)}{l:List α}(enc:σ'->σ)(g:α->σ'->Option σ')(e:ρ)(I:Int->σ'->Prop)(h:∀(i:Int)s,0<=i->i<l.length->I i s->f i (enc s)=Y (de e ((g (AA l i) s).map enc))/\∀s',g (AA l i) s=Y s'->I (i+1) s'):
  ∀(n:Nat)(a:Int)(s:σ'),0<=a->a+n=l.length->I a s->zt f n a (enc s)=Y (gP e ((Gf g (l.drop a.toNat) s).map enc))
 |0,a,s,a0,A,_=>by
  rw [List.drop_eq_nil_of_le U];rfl
 |n+1,a,s,a0,A,B=>by
  obtain ⟨w,z⟩:=h a s a0 U B;have hd:l.drop a.toNat=AA l a::l.drop (a+1).toNat:=by
   rw [List.drop_eq_getElem_cons U,show(a+1).toNat=a.toNat+1 by omega];congr 1;unfold AA;rw[B',w? U];rfl
  rw [GG,w,hd,Gf];cases u:g (AA l a) s with
  |none=>rfl|some v=>exact Wn enc g e I h n (a+1) v U U (z v u)
theorem UC[Inhabited α]{f:Int->σ->Option (Bz σ ρ)}{l:List α}(enc:σ'->σ)(g:α->σ'->Option σ')(e:ρ)(I:Int->σ'->Prop){s:σ'}{w:σ}(u:w=enc s){n:Int}(z:n=l.length)(h0:I 0 s)(h:∀(i:Int)s,0<=i->i<l.length->I i s->f i (enc s)=Y (de e ((g (AA l i) s).map enc))/\∀s',g (AA l i) s=Y s'->I (i+1) s'):ij f 0 n w=Y (gP e ((Gf g l s).map enc)):=by
 subst u z;have:=Wn enc g e I h l.length 0 s U U h0;unfold ij;simpa using this
theorem kV[Inhabited α]{f:Int->σ->Option (Bz σ ρ)}{l:List α}(g:α->σ->Option σ)(e:ρ)(I:σ->Prop){s:σ}(h0:I s)(h:∀(i:Int)s,0<=i->i<l.length->I s->f i s=Y (de e (g (AA l i) s))/\∀s',g (AA l i) s=Y s'->I s'):ij f 0 l.length s=Y (gP e (Gf g l s)):=by
 have:=UC (n:=l.length) (λs=>s) g e (λ_=>I) rfl rfl h0 (λi s u i1 w=>by simpa using h i s u i1 w);simpa using this
end Go.Sf
namespace Go.Sf.Sc
open Go Go.Sf
theorem gi{l a b:Fp}(h:∀x∈l,x<a.length):EF (EF l a) b=EF l (EF a b):=by grind[EF,List.map_map,D_,Gk]
theorem lw{l a b:d4}(e:∀x∈l.ci,x<a.ci.length)(f:∀x∈l.c9,x<a.c9.length):KL (KL l a) b=KL l (KL a b):=by grind[KL,gi]
structure CL where
 moves:List F8
 host:AG
 image:d4
instance:Inhabited CL:=⟨⟨[],⟨⟨[],[]⟩,[]⟩,⟨[],[]⟩⟩⟩
noncomputable def Pn(t:AC)(rules:List fd)(p:CL)(mv:F8):AU:=(EW t (AA rules mv.fd) p.host mv.l4).1
noncomputable def Rg(t:AC)(rules:List fd)(p:CL)(mv:F8):CL:=⟨p.moves++[mv],(Pn t rules p mv).f0,KL p.image (Pn t rules p mv).po⟩
def WJ(p q:CL):Bool:=(HO p.host q.host p.image q.image).isSome
noncomputable def R7(t:AC)(rules:List fd)(p:CL)(mv:F8)(l:List CL):Option (List CL):=
 if 8<(Pn t rules p mv).f0.d3.ci.length then W
 else if l.any (λq=>WJ q (Rg t rules p mv))=X then Y l
 else if l.length=300 then W else Y (l++[Rg t rules p mv])
noncomputable def Ms(t:AC)(rules:List fd)(h:AG)(i:Int):List F8:=(Hm t (AA rules i) h).1.map (F8.mk i)
noncomputable def wd(t:AC)(rules:List fd)(h:AG):Bool:=(Ay rules.length).all λi=>decide ((Hm t (AA rules i) h).2=0)
noncomputable def QY(t:AC)(rules:List fd)(p:CL)(l:List CL):Option (List CL):=
 if wd t rules p.host=X then Gf (R7 t rules p) ((Ay rules.length).flatMap (Ms t rules p.host)) l else W
variable{p:CL}
theorem YR{t:AC}{rules:List fd}:∀{is:Fp}{l:List CL},
  Gf (λi l=>if(Hm t (AA rules i) p.host).2=0 then Gf (R7 t rules p) (Ms t rules p.host i) l else W) is l=if is.all (λi=>decide ((Hm t (AA rules i) p.host).2=0))=X then Gf (R7 t rules p) (is.flatMap (Ms t rules p.host)) l else W
 |[],l=>rfl|i::is,l=>by
  rw [Gf,List.all_cons,List.flatMap_cons,aF];by_cases e:(Hm t (AA rules i) p.host).2=0
  .rw[ac e,decide_eq_true e,E?];cases h:Gf (R7 t rules p) (Ms t rules p.host i) l with
   |none=>
    rw [Option.bind_none,Option.bind_none];split<;>rfl
   |some v=>exact YR
  grind
noncomputable def Nk(t:AC)(rules:List fd)(depth:Int):Nat->Int->List CL->Option (List CL)
 |0,_,l=>Y l|k+1,i,l=>if i<l.length then(if((AA l i).moves.length:Int)=depth then Nk t rules depth k (i+1) l else(QY t rules (AA l i) l).bind (Nk t rules depth k (i+1)))else Y l
noncomputable def cx(t:AC)(rules:List fd)(depth:Int)(p:CL):Option (List CL):=Nk t rules depth 301 0 [p]
structure K0(t:AC)(rules:List fd)(h0:AG)(m0:d4)(p:CL):Prop where
 rep:Sa t rules ⟨h0,p.moves⟩
 host:p.host=(Jo t rules h0 p.moves).2
 image:p.image=KL m0 (RB (Ns h0.d3) (Jo t rules h0 p.moves).1)
 few:p.moves.length<=5
theorem p9(m:d4)(l:List AU)(s:AU):RB m (l++[s])=KL (RB m l) s.po:=by
 unfold RB
 grind
theorem YO{t:AC}(hf:A3 t){rules:List fd}(hr:Gc rules){h0:AG}{m0:d4}(f:Ko m0 h0.d3)(g:K0 t rules h0 m0 p):
  ET p.host/\Ko (RB (Ns h0.d3) (Jo t rules h0 p.moves).1) p.host.d3/\Ko p.image p.host.d3/\(Dd t p.host).2=0/\p.image.ci.length=m0.ci.length/\p.image.c9.length=m0.c9.length:=by
 obtain ⟨z,e⟩:=bG hf hr g.rep p.moves.length (az _);have w:=ml hf hr g.rep p.moves.length (az _);rw[B?]at z e w;have A:=XJ (Jo t rules h0 p.moves).1 (Ns h0.d3);have l1:(RB (Ns h0.d3) (Jo t rules h0 p.moves).1).ci.length=h0.d3.ci.length:=by rw[A.1];exact A2 _
 have l2:(RB (Ns h0.d3) (Jo t rules h0 p.moves).1).c9.length=h0.d3.c9.length:=by rw[A.2];exact A2 _
 rw [<-g.host]at z e w;refine⟨z,e,?_,w,by rw[g.image];exact II _ _,by rw[g.image];exact II _ _⟩;rw[g.image];refine⟨by show(EF _ _).length<=1000;rw[II];exact f.Aal,by show(EF _ _).length<=1000;rw[II];exact f.Aao,?_,?_⟩
 .exact P2 (λy u=>by rw[l1];exact f.node y u) e.node
 .exact P2 (λy u=>by rw[l2];exact f.edge y u) e.edge
variable{mv:F8}
theorem aR{t:AC}(hf:A3 t){rules:List fd}(hr:Gc rules){h0:AG}{m0:d4}(w:Ko m0 h0.d3)(g:K0 t rules h0 m0 p)(e:(GI t rules p.host mv).2=0)(C:p.moves.length<5):K0 t rules h0 m0 (Rg t rules p mv)/\L9 p.host (Pn t rules p mv)/\GI t rules p.host mv=(Pn t rules p mv,0)/\(Pn t rules p mv).l4=mv.l4:=by
 obtain ⟨a,s,B⟩:=WM hf hr e;have ha:Pn t rules p mv=S8 t (AA rules mv.fd) p.host mv.l4:=by
  grind [GI,EW,AA,Pn]
 have z:GI t rules p.host mv=(Pn t rules p mv,0):=by rw[ha];exact B
 have tk:L9 p.host (Pn t rules p mv):=by rw[ha];exact s.trk
 have A:(Jo t rules h0 (p.moves++[mv]))=((Jo t rules h0 p.moves).1++[Pn t rules p mv],(Pn t rules p mv).f0):=by
  rw [SV,<-g.host,z]
 have f:=XJ (Jo t rules h0 p.moves).1 (Ns h0.d3);refine⟨⟨tX g.rep (by show p.moves.length<30;omega) (by show(GI t rules (Jo t rules h0 p.moves).2 mv).2=0;rw[<-g.host];exact e),?_,?_,by show(p.moves++[mv]).length<=5;simp;omega⟩,tk,z,by rw[ha];rfl⟩
 .show(Pn t rules p mv).f0=(Jo t rules h0 (p.moves++[mv])).2;rw[A]
 .show KL p.image (Pn t rules p mv).po=KL m0 (RB _ (Jo t rules h0 (p.moves++[mv])).1);rw[A,g.image,p9,lw]
  .intro x u;rw[f.1];show x<(Ay _).length;rw[A2];exact(w.node x u).2
  .intro x u;rw[f.2];show x<(Ay _).length;rw[A2];exact(w.edge x u).2
end Go.Sf.Sc
namespace Go.Sf.Sc
open Go Go.Sf
structure I2(t:AC)(rules:List fd)(h0:AG)(m0:d4)(depth i:Int)(l:List CL):Prop where
 good:∀p∈l,K0 t rules h0 m0 p/\(p.moves.length:Int)<=depth
 few:l.length<=300
 mono:∀a b:Int,0<=a->a<=b->b<l.length->(AA l a).moves.length<=(AA l b).moves.length
 next:i<l.length->∀q∈l,q.moves.length<=(AA l i).moves.length+1
section
variable{t:AC}{rules:List fd}{h0:AG}{m0:d4}{depth:Int}
variable{mv:F8}{i:Int}
theorem Uh{h:AG}(f:0<=i)(i1:i<rules.length)(e:mv∈Ms t rules h i):(GI t rules h mv).2=0:=by
 obtain ⟨x,u,rfl⟩:=y_.1 e
 grind [GI,mS]
theorem mM{h:AG}(e:mv∈(Ay rules.length).flatMap (Ms t rules h)):(GI t rules h mv).2=0:=by grind[C5,Uh]
def TB(t:AC)(rules:List fd)(h0:AG)(m0:d4)(p:CL)(l s:List CL):Prop:=∃ext,s=l++ext/\s.length<=300/\∀q∈ext,K0 t rules h0 m0 q/\q.moves.length=p.moves.length+1
variable{p:CL}
theorem ZB(hf:A3 t)(hr:Gc rules)(B:Ko m0 h0.d3)(g:K0 t rules h0 m0 p)(C:p.moves.length<5)(e:(GI t rules p.host mv).2=0){l s s':List CL}(h:TB t rules h0 m0 p l s)(f:R7 t rules p mv s=Y s'):TB t rules h0 m0 p l s':=by
 obtain ⟨ext,rfl,z,A⟩:=h;unfold R7 at f;split at f
 .cases f
 split at f
 .cases f;exact⟨ext,rfl,z,A⟩
 split at f
 .cases f
 .rename_i w;cases f;have D:=(aR hf hr B g e C).1;rw[b6]at z;simp only[b6]at w;refine⟨ext++[Rg t rules p mv],by rw[cR],an,λq u=>?_⟩;rcases y!.1 u with u|u
  .exact A q u
  .obtain rfl:=y?.1 u;exact⟨D,by show(p.moves++[mv]).length=_;simp⟩
theorem eF(hf:A3 t)(hr:Gc rules)(u:Ko m0 h0.d3)(g:K0 t rules h0 m0 p)(w:p.moves.length<5){l s:List CL}(z:l.length<=300)(h:QY t rules p l=Y s):TB t rules h0 m0 p l s:=by
 unfold QY at h;split at h
 .exact VO (I:=TB t rules h0 m0 p l) (λmv f s s' A e=>ZB hf hr u g w (mM f) A e) ⟨[],V,z,λq B=>by cases B⟩ h
 .cases h
theorem dU(hf:A3 t)(hr:Gc rules)(C:Ko m0 h0.d3)(hd:depth<=4){l w:List CL}(h:I2 t rules h0 m0 depth i l)(z:0<=i)(i1:i<l.length)(D:((AA l i).moves.length:Int)≠depth)(e:QY t rules (AA l i) l=Y w):I2 t rules h0 m0 depth (i+1) w:=by
 obtain ⟨G,O⟩:=h.good _ (AF z i1);obtain⟨ext,rfl,H,J⟩:=eF hf hr C G U h.few e;have A:∀q∈l++ext,q.moves.length<=(AA l i).moves.length+1:=λq f=>by
  rcases y!.1 f with f|f
  .exact h.next i1 q f
  grind
 have mono:∀a b:Int,0<=a->a<=b->b<(l++ext).length->(AA (l++ext) a).moves.length<=(AA (l++ext) b).moves.length:=λa b a0 E F=>by
  by_cases B:b<l.length
  .rw[Lv a0 U,Lv U B];exact h.mono a b a0 E B
  .have:AA (l++ext) b∈ext:=by
    obtain ⟨n,rfl⟩:=w_ (show 0<=b by omega);rw[b6]at F;have K:=X5 (l:=l) (m:=ext) (n:=n-l.length)
    grind [AF]
   rw [(J _ this).2];exact A _ (AF a0 U)
 refine ⟨λp u=>?_,H,mono,λk q f=>?_⟩
 .rcases y!.1 u with u|u
  .exact h.good p u
  grind
 .have M:=A q f;have N:=mono i (i+1) z U k
  grind [Lv]
theorem XA{l:List CL}(h:I2 t rules h0 m0 depth i l)(e:0<=i)(i1:i<l.length):I2 t rules h0 m0 depth (i+1) l:=⟨h.good,h.few,h.mono,λk q f=>by
 have u:=h.next i1 q f
 have w:=h.mono i (i+1) e U k;omega⟩
theorem ZC:∀(k:Nat)(i:Int)(l:List CL),0<=i->I2 t rules h0 m0 depth i l->(i<l.length->((AA l i).moves.length:Int)=depth)->Nk t rules depth k i l=Y l
 |0,_,_,_,_,_=>rfl|k+1,i,l,e,h,he=>by
  rw [Nk];by_cases i1:i<l.length
  .rw[ac i1,ac (he i1)];refine ZC k (i+1) l U (XA h e i1) λi2=>?_;have f:=he i1;have u:=h.mono i (i+1) e U i2;have w:=(h.good _ (AF (i:=i+1) U i2)).2;omega
  .rw[ae i1]
variable{β ρ:Type}
theorem gc(hf:A3 t)(hr:Gc rules)(A:Ko m0 h0.d3)(hd:depth<=4){f:List β×Int->Option (Bz (List β×Int) ρ)}(enc:List CL->List β)(e:ρ)
  (B:∀i l,0<=i->I2 t rules h0 m0 depth i l->i<l.length->((AA l i).moves.length:Int)≠depth->f (enc l,i)=Y (match QY t rules (AA l i) l with|some G=>.next (enc G,i+1)|none=>.ret e))
  (C:∀i l,0<=i->I2 t rules h0 m0 depth i l->i<l.length->((AA l i).moves.length:Int)=depth->f (enc l,i)=Y (.brk (enc l,i))\/f (enc l,i)=Y (.next (enc l,i+1)))
  (z:∀i l,0<=i->I2 t rules h0 m0 depth i l->(l.length:Int)<=i->f (enc l,i)=Y (.brk (enc l,i))):
  ∀(k:Nat)(i:Int)(l:List CL),0<=i->I2 t rules h0 m0 depth i l->301<=i+k->∃o,MP f (enc l,i) o/\match Nk t rules depth k i l with|some r=>∃j,o=.inl (enc r,j)|none=>o=.inr e
 |0,i,l,w,h,H=>⟨_,.brk (z i l w h (by have:=h.few;omega)),_,rfl⟩|k+1,i,l,w,h,H=>by
  by_cases i1:i<l.length
  case neg=>
   rw [Nk,ae i1];exact⟨_,.brk (z i l w h U),_,rfl⟩
  by_cases ed:((AA l i).moves.length:Int)=depth
  .rcases C i l w h i1 ed with u|u
   .rw[ZC (k+1) i l w h λ_=>ed];exact⟨_,.brk u,_,rfl⟩
   .rw[Nk,ac i1,ac ed];obtain⟨o,E,F⟩:=gc hf hr A hd enc e B C z k (i+1) l U (XA h w i1) U;exact⟨o,.next u E,F⟩
  .have u:=B i l w h i1 ed;rw[Nk,ac i1,ae ed];cases D:QY t rules (AA l i) l with
   |none=>
    rw [D]at u;exact⟨_,.ret u,rfl⟩
   |some G=>
    rw [D]at u;obtain⟨o,E,F⟩:=gc hf hr A hd enc e B C z k (i+1) G U (dU hf hr A hd h w i1 ed D) U;exact⟨o,.next u E,F⟩
theorem T3(hf:A3 t)(hr:Gc rules)(f:Ko m0 h0.d3)(hd:depth<=4):∀(k:Nat)(i:Int)(l r:List CL),0<=i->I2 t rules h0 m0 depth i l->Nk t rules depth k i l=Y r->(∃j,I2 t rules h0 m0 depth j r)/\∃ext,r=l++ext
 |0,i,l,r,w,h,e=>by cases e;exact⟨⟨_,h⟩,[],V⟩
 |k+1,i,l,r,w,h,e=>by
  rw [Nk]at e;split at e
  case isFalse=>cases e;exact⟨⟨_,h⟩,[],V⟩
  rename_i i1;split at e
  .exact T3 hf hr f hd k _ l r U (XA h w i1) e
  .rename_i ed;cases u:QY t rules (AA l i) l with
   |none=>rw[u]at e;cases e
   |some B=>
    rw [u]at e;obtain⟨a,ext,rfl⟩:=T3 hf hr f hd k _ B r U (dU hf hr f hd h w i1 ed u) e;obtain⟨A,C⟩:=h.good _ (AF w i1);obtain⟨z,rfl,_⟩:=eF hf hr f A U h.few u
    grind
theorem PF(hf:A3 t)(hr:Gc rules)(w:GH t rules h0=0)(u:Ko m0 h0.d3)(hd:0<=depth):I2 t rules h0 m0 depth 0 [⟨[],h0,m0⟩]:=by
 have f:KL m0 (Ns h0.d3)=m0:=by
  have e:∀{l:Fp}{n:Nat},(∀x∈l,-1<=x/\x<n)->EF l (Ay n)=l:=λ{l n}h=>by
   unfold EF
   conv=>rhs;rw[<-List.map_id l]
   grind [D_,Fc]
  unfold KL Ns;rw[e u.node,e u.edge]
 refine ⟨λp z=>?_,V,λa b a0 A B=>?_,λ_ q C=>?_⟩
 .obtain rfl:=y?.1 z;exact⟨⟨⟨w,V,λi D i1=>h!⟩,rfl,f.symm,V⟩,by simpa using hd⟩
 .grind
 grind
end
end Go.Sf.Sc
namespace Go.Sf.Sc
open Go Go.Sf
def Aa8(m:d4):Bool:=hasB m.ci (-1)||hasB m.c9 (-1)
def QZ(strict:Bool)(p q:CL):Option d4:=
 if strict=X then(if(Aa8 p.image||Aa8 q.image)=X then W else HO p.host q.host p.image q.image)else HO p.host q.host ⟨[],[]⟩ ⟨[],[]⟩
def PW(strict:Bool)(L R:List CL)(s i k:Int):Option (CL×CL×d4):=
 if ((AA L i).moves.length:Int)+(AA R k).moves.length=s then(QZ strict (AA L i) (AA R k)).map λm=>(AA L i,AA R k,m)else W
def Xm(strict:Bool)(L R:List CL)(s:Int):Option (CL×CL×d4):=fst (λi=>fst (PW strict L R s i) 0 R.length) 0 L.length
def UZ(strict:Bool)(L R:List CL)(depth:Int):Option (CL×CL×d4):=fst (Xm strict L R) 0 (2*depth+1)
variable{L R:List CL}
theorem nw{strict:Bool}{s i k:Int}{r:CL×CL×d4}(h:PW strict L R s i k=Y r):(r.1.moves.length:Int)+r.2.1.moves.length=s/\QZ strict r.1 r.2.1=Y r.2.2/\r.1=AA L i/\r.2.1=AA R k:=by
 unfold PW at h;split at h
 .rename_i e;cases f:QZ strict (AA L i) (AA R k)with
  |none=>rw[f]at h;cases h
  |some m=>
   grind
 .cases h
theorem gQ{strict:Bool}{s:Int}{r:CL×CL×d4}(h:Xm strict L R s=Y r):(r.1.moves.length:Int)+r.2.1.moves.length=s/\QZ strict r.1 r.2.1=Y r.2.2/\r.1∈L/\r.2.1∈R:=by
 obtain ⟨i,u,i1,e,_⟩:=Cl h;obtain⟨k,w,z,f,_⟩:=Cl e;obtain⟨a,b,c,d⟩:=nw f
 grind [AF]
theorem nC(x:AG):U0 x ⟨[],[]⟩ ⟨[],[]⟩:=⟨rfl,rfl,V,V⟩
theorem gA(l:Fp):Pg [] [] l:=λi e i1=>h!
theorem yT{s:Int}(hi:∀p∈L,∀q∈R,U0 p.host p.image q.image)(h:Xm X L R s≠W):Xm T L R s≠W:=by
 intro k;refine h (BC.2 λi u i1=>BC.2 λj w z=>?_);have f:=BC.1 (BC.1 k i u i1) j w z;unfold PW at f|-;split at f
 case isFalse=>rename_i e;rw[ae e]
 rename_i e;rw[ac e];unfold QZ at f|-;rw[ae a!,Option.map_eq_none_iff]at f;rw[ac rfl];split
 .rfl
 cases A:HO (AA L i).host (AA R j).host (AA L i).image (AA R j).image with
 |none=>rfl|some m=>exact absurd f (XK (nC _) (YH (hi _ (AF u i1) _ (AF w z)) A).1 (gA _) (gA _))
end Go.Sf.Sc
namespace Go.Sf
end Go.Sf
namespace Go.Sf.Sc
open Go Go.Sf
theorem SG{b c:Bool}{o:K1}(h:b=X->o=Y c):(if b=X then o else Y T)=Y (b&&c):=m?
theorem P9{b c:Bool}{o:K1}(h:b=T->o=Y c):(if b=X then Y X else o)=Y (b||c):=m?
def SE(p:Int×Int)(o:Fp):Option Fp:=if decide (p.1<0)≠decide (p.2<0)then W else if p.1<0 then Y o else if 0<=AA o p.1/\AA o p.1≠p.2 then W else Y (BF o p.1 p.2)
theorem XL:∀{e:List (Int×Int)}{o:Fp},TI e o=Gf SE e o
 |[],o=>rfl|p::e,o=>by
  rw [TI,Gf];unfold SE;split
  .rfl
  split
  .exact XL
  split
  .rfl
  .exact XL
def lK(o:Option Fp):Fp×Bool:=match o with
 |some r=>(r,X)|none=>([],T)
theorem uA{o:Option Fp}:ej (Y (gP (ρ:=Fp×Bool) ([],T) o)) (λe=>Y (e,X)) (λf=>Y f)=Y (lK o):=by cases o<;>rfl
variable{i:Int}
theorem vh{f t:Fp}(e:f.length=t.length)(u:0<=i)(i1:i<f.length):AA (f.zip t) i=(AA f i,AA t i):=by grind[w_,AA,v?,w?]
section
variable{a b:Int}{o:Fp}
theorem AAZ(h:¬decide (a<0)=decide (b<0)):SE (a,b) o=W:=by unfold SE;rw[ac h]
theorem AAa(h:decide (a<0)=decide (b<0))(e:a<0):SE (a,b) o=Y o:=by grind[SE]
theorem AAb(h:decide (a<0)=decide (b<0))(e:¬a<0)(f:0<=AA o a/\AA o a≠b):SE (a,b) o=W:=by grind[SE]
theorem AAc(h:decide (a<0)=decide (b<0))(e:¬a<0)(f:¬(0<=AA o a/\AA o a≠b)):SE (a,b) o=Y (BF o a b):=by grind[SE]
end
variable{n:Nat}
theorem fG(C:n<=1000){f t:Fp}(A:f.length=t.length)(hi:∀x∈f,x<n):NJ n f t=Y (lK (TJ n f t)):=by
 unfold NJ Df TJ;have B:(f.length:Int)=(f.zip t).length:=by simp[A]
 rw [ac ⟨rfl,U,U⟩,bs,XL,B,<-uA,kV SE ([],T) (λo=>o.length=n) V]
 .simp
 intro i o w i1 ho;have i2:i<f.length:=U
 have D:=hi _ (AF w i2);rw[vh A w i2,AD w i2,bs,AD w U,bs];by_cases e:decide (AA f i<0)=decide (AA t i<0)
 case neg=>rw[AAZ e,ac f_];exact⟨rfl,λs' h=>d_⟩
 rw [ae f_];by_cases u:AA f i<0
 .rw[AAa e u,ac i_];exact⟨rfl,λs' h=>by cases h;exact ho⟩
 rw [ae i_,AD U U];simp only[bs];rw[SG (λ_=>rfl),bs];by_cases z:0<=AA o (AA f i)/\AA o (AA f i)≠AA t i
 .rw[AAb e u z,ac m_];exact⟨rfl,λs' h=>d_⟩
 .rw[AAc e u z,ae m_];exact⟨rfl,λs' h=>by cases h;rw[DQ];exact ho⟩
end Go.Sf.Sc
namespace Go.Sf.Sc
open Go Go.Sf
structure pP(x y:AG)(ns es:Fp):Prop where
 nl:ns.length=x.d3.ci.length
 el:es.length=x.d3.c9.length
 xn:x.d3.ci.length<=1000
 xe:x.d3.c9.length<=1000
 yn:y.d3.ci.length<=1000
 ye:y.d3.c9.length<=1000
 xv:x.eh.length=x.d3.ci.length
 yv:y.eh.length=y.d3.ci.length
 ends:QU x
def fw(x y:AG)(ns es mn me:Fp)(o:Option Fp):Bool×Bc:=match o with
 |some r=>(X,⟨x,y,ns,es,⟨mn,r⟩⟩)|none=>(T,⟨x,y,ns,es,⟨mn,me⟩⟩)
variable{x y:AG}
theorem fF{ns es mn:Fp}(h:pP x y ns es)(w:mn.length=x.d3.ci.length):∀(k:Nat)(me:Fp),me.length+k=x.d3.c9.length->∀n,k<n->CU n ⟨x,y,ns,es,⟨mn,me⟩⟩=Y (fw x y ns es mn me (HN x y es mn k me))
 |0,me,B,n,C=>by
  obtain ⟨n,rfl⟩:∃q,n=q+1:=⟨n-1,U⟩;rw[CU,ac an];rfl
 |k+1,me,B,n,C=>by
  obtain ⟨n,rfl⟩:∃q,n=q+1:=⟨n-1,U⟩;have D:=h.el;have E:=h.xe;have F:=h.ye;have u:=h.ends _ (AF (l:=x.d3.c9) (i:=(me.length:Int)) U U);rw[CU];dsimp only;rw[ae an,AD U U,bs,AD u.1.1 U,bs,AD u.2.1 U,bs,
   Gw (a:=0) (b:=(y.d3.c9.length:Int)) (λ_=>(⟨x,y,ns,es,⟨mn,me⟩⟩:Bc)) (λj=>(if P7 x y es mn me me.length j=X then HN x y es mn k (me++[j])else W).map λr=>(X,(⟨x,y,ns,es,⟨mn,r⟩⟩:Bc))) U rfl,KX]
  .show _=Y (fw x y ns es mn me (fst (λj=>if P7 x y es mn me me.length j=X then HN x y es mn k (me++[j])else W) 0 y.d3.c9.length));cases fst (λj=>if P7 x y es mn me me.length j=X then HN x y es mn k (me++[j])else W) 0 (y.d3.c9.length:Int)<;>rfl
  .intro j z A _;dsimp only;rw[AD z A,bs,AD (l:=es) U U];simp only[bs];rw[SG (λ_=>rfl),bs,WC];simp only[bs];rw[P9 (λ_=>rfl),bs];by_cases f:P7 x y es mn me me.length j=X
   .have e:=f;simp only[P7,pc,E!,sx,D?]at e;rw[ae (by simp[e.1.2,e.2];omega),ac f,AS a_,bs,fF h w k (me++[j]) an n U,bs];cases HN x y es mn k (me++[j])with
    |some r=>rfl|none=>
     rw [ae (by simp[fw])];dsimp only[fw];rw[Iw U an,bs];simp[bN]
   .rw[ac,ae f]
    .rfl
    .refine F! λg=>f ?_;simp only[E!,pc,D?,sx,decide_eq_false_iff_not,not_or,not_and,F_]at g;simp only[P7,pc,E!,sx,D?]
     grind
def Zl(x y:AG)(ns es mn:Fp)(o:Option d4):Bool×Bc:=match o with
 |some r=>(X,⟨x,y,ns,es,r⟩)|none=>(T,⟨x,y,ns,es,⟨mn,[]⟩⟩)
theorem fK{x y:AG}{ns es:Fp}(h:pP x y ns es):∀(k:Nat)(mn:Fp),mn.length+k=x.d3.ci.length->∀n,k<n->CW n ⟨x,y,ns,es,⟨mn,[]⟩⟩=Y (Zl x y ns es mn (PQ x y ns es k mn))
 |0,mn,D,n,z=>by
  obtain ⟨n,rfl⟩:∃q,n=q+1:=⟨n-1,U⟩;rw[CW,ac an];have e:KF ⟨x,y,ns,es,⟨mn,[]⟩⟩=Y (fw x y ns es mn [] (HN x y es mn x.d3.c9.length [])):=D0 (x.d3.c9.length+1) λn z=>fF h U _ _ V n U;rw[e,bs];show _=Y (Zl x y ns es mn ((HN x y es mn x.d3.c9.length []).map (d4.mk mn)));cases HN x y es mn x.d3.c9.length []<;>rfl
 |k+1,mn,D,n,z=>by
  obtain ⟨n,rfl⟩:∃q,n=q+1:=⟨n-1,U⟩;have E:=h.nl;have F:=h.xn;have G:=h.yn;have H:=h.xv;have J:=h.yv;rw[CW];dsimp only;rw[ae an,
   Gw (a:=0) (b:=(y.d3.ci.length:Int)) (λ_=>(⟨x,y,ns,es,⟨mn,[]⟩⟩:Bc)) (λj=>(if(Nn x y ns mn mn.length j&&Td x y (mn++[j]) mn.length)=X then PQ x y ns es k (mn++[j])else W).map λr=>(X,(⟨x,y,ns,es,r⟩:Bc))) U rfl,KX]
  .show _=Y (Zl x y ns es mn (fst (λj=>if(Nn x y ns mn mn.length j&&Td x y (mn++[j]) mn.length)=X then PQ x y ns es k (mn++[j])else W) 0 y.d3.ci.length));cases fst (λj=>if(Nn x y ns mn mn.length j&&Td x y (mn++[j]) mn.length)=X then PQ x y ns es k (mn++[j])else W) 0 (y.d3.ci.length:Int)<;>rfl
  .intro j A C _;dsimp only;rw[AD A C,bs,AD (l:=ns) U U];simp only[bs];rw[SG (λ_=>rfl),bs,AD (l:=x.d3.ci) U U];simp only[bs];rw[P9 (λ_=>rfl),bs,WC];simp only[bs];rw[P9 (λ_=>rfl),bs,AD (l:=x.eh) U U,AD (l:=y.eh) A U];simp only[bs,PX];rw[P9 (λ_=>rfl),bs];by_cases f:Nn x y ns mn mn.length j=X
   .have w:=f;simp only[Nn,pc,E!,sx,D?]at w;have u:=ni (x:=x) (y:=y) (ns:=ns) (es:=es) (me:=[]) h.xe h.ye (mn:=mn++[j]) an (l:=mn.length) U an;rw[C' V]at u;rw[ae (by simp[w.1.1.2,w.1.2,w.2];omega),AS a_,bs,u,bs,f,E?];have B:slc (mn++[j]) 0 (mn.length:Int)=Y mn:=by rw[Iw U an];simp
    cases Td x y (mn++[j]) mn.length with
    |false=>rw[ae a!,ae a!,B];rfl|true=>
     rw [ac rfl,ac rfl,fK h k (mn++[j]) an n U,bs];cases PQ x y ns es k (mn++[j])with
     |some r=>rfl|none=>
      rw [ae (by simp[Zl])];dsimp only[Zl];rw[B];rfl
   .rw[ac,ae s_]
    .rfl
    .refine F! λg=>f ?_;simp only[E!,pc,D?,sx,decide_eq_false_iff_not,not_or,not_and,F_]at g;simp only[Nn,pc,E!,sx,D?];exact⟨⟨⟨by have:=g.1.1.1;omega,g.1.1.2⟩,Bool.eq_false_iff.2 g.1.2⟩,g.2⟩
def ABA(o:Option d4):d4×Bool:=match o with
 |some r=>(r,X)|none=>(⟨[],[]⟩,T)
theorem XW{f t:d4}(z:ET x)(sy:ET y)(xv:x.eh.length=x.d3.ci.length)(yv:y.eh.length=y.d3.ci.length)(ends:QU x)(hi:U0 x f t):Dz x y f t=Y (ABA (HO x y f t)):=by
 have E:=z.ea;have F:=z.eb;have G:=sy.ea;have H:=sy.eb;unfold Dz HO;by_cases e:x.d3.ci.length=y.d3.ci.length/\x.d3.c9.length=y.d3.c9.length
 case neg=>rw[ae e,ac];rfl;simp;omega
 rw [ac e,ae an,fG U hi.nl hi.nin,bs,fG U hi.el hi.ein,bs];cases B:TJ x.d3.ci.length f.ci t.ci with
 |none=>rfl|some ns=>
 cases C:TJ x.d3.c9.length f.c9 t.c9 with
 |none=>rfl|some es=>
 rw [ae (by simp[lK])];have A:=(SF (λp w=>by obtain⟨i,u,i1,rfl⟩:=(R3 hi.nl).1 w;have:=hi.nin _ (AF u i1);simpa using this) B).1;have le:=(SF (λp w=>by obtain⟨i,u,i1,rfl⟩:=(R3 hi.el).1 w;have:=hi.ein _ (AF u i1);simpa using this) C).1;rw[C?]at A le;have g:pP x y ns es:=⟨A,le,U,U,U,U,xv,yv,ends⟩;have en:Hw ⟨x,y,ns,es,⟨[],[]⟩⟩=Y (Zl x y ns es [] (PQ x y ns es x.d3.ci.length [])):=D0 (x.d3.ci.length+1) λn D=>fK g _ _ V n U;show(Hw ⟨x,y,ns,es,⟨[],[]⟩⟩).bind _=_;rw[en,bs,Ws e.1 e.2 ends _ _ V (λi u i1=>h!)];dsimp only;cases Me x y ns es x.d3.ci.length []<;>rfl
end Go.Sf.Sc
namespace Go.Sf.Sc
open Go Go.Sf
end Go.Sf.Sc
namespace Go.Sf.Sc
open Go Go.Sf
def FW(h0:AG)(p:CL):A7:=⟨⟨h0,p.moves⟩,p.host,p.image⟩
instance:Inhabited A7:=⟨FW (default:CL).host default⟩
section
variable{t:AC}{rules:List fd}{h0:AG}{m0:d4}{depth:Int}
structure RM(m0:d4)(p:CL):Prop where
 sm:ET p.host
 vl:p.host.eh.length=p.host.d3.ci.length
 ends:QU p.host
 inn:Ko p.image p.host.d3
 nl:p.image.ci.length=m0.ci.length
 el:p.image.c9.length=m0.c9.length
variable{p:CL}
theorem K0.fact(hf:A3 t)(hr:Gc rules)(u:Ko m0 h0.d3)(g:K0 t rules h0 m0 p):RM m0 p:=by
 obtain ⟨a,_,c,d,e,f⟩:=YO hf hr u g;obtain⟨x,y,z⟩:=nH (QB hf d).2;exact⟨a,y,z,c,e,f⟩
variable{q:CL}
theorem WG(a:RM m0 p)(b:RM m0 q):U0 p.host p.image q.image:=⟨by rw[a.nl,b.nl],by rw[a.el,b.el],λk e=>(a.inn.node k e).2,λk e=>(a.inn.edge k e).2⟩
theorem ue(a:RM m0 p)(b:RM m0 q):G9 (FW h0 p) (FW h0 q)=Y (WJ p q):=by
 unfold G9 NI;show((Dz q.host p.host q.image p.image).bind _).bind _=_;rw[XW b.sm a.sm b.vl a.vl b.ends (WG b a),bs,bs];unfold WJ;rw[mq (WG a b) (WG b a) a.ends b.ends];cases HO q.host p.host q.image p.image<;>rfl
variable{i:Int}
theorem ug(u:Ko m0 h0.d3)(a:RM m0 p)(w:p.moves.length<=5){m:AQ}(tk:L9 p.host (Pn t rules p ⟨i,m⟩))(f:(Pn t rules p ⟨i,m⟩).l4=m):E9 (FW h0 p) i (Pn t rules p ⟨i,m⟩)=Y (FW h0 (Rg t rules p ⟨i,m⟩)):=by
 unfold E9 KI;dsimp only[FW];rw[Be b_,bs,AS a_,bs,UW a.inn.Aal (λx e=>by have:=a.inn.node x e;rw[tk.Aal];exact this),bs,UW a.inn.Aao (λx e=>by have:=a.inn.edge x e;rw[tk.Aao];exact this),bs,f];rfl
theorem md{l s:List CL}(h:TB t rules h0 m0 p l s)(e:0<=i)(i1:i<l.length):AA s i=AA l i/\i<s.length:=by
 obtain ⟨ext,rfl,_,_⟩:=h
 grind [Lv]
theorem py(hf:A3 t)(hr:Gc rules)(f:Ko m0 h0.d3){l s:List CL}(u:∀q∈l,K0 t rules h0 m0 q)(h:TB t rules h0 m0 p l s):∀q∈s,RM m0 q:=by
 obtain ⟨ext,rfl,_,w⟩:=h;intro q e;rcases y!.1 e with e|e
 .exact(u q e).fact hf hr f
 .exact(w q e).1.fact hf hr f
theorem kI{l:List A7}{f:A7->K1}{p:A7->Bool}(h:∀x∈l,f x=Y (p x)):CF l f=Y (l.any p):=FA h
variable{k:Int}{s:List CL}
theorem xI(hf:A3 t)(hr:Gc rules)(u:Ko m0 h0.d3){l:List CL}(M:∀q∈l,K0 t rules h0 m0 q)(C:0<=i)(i1:i<l.length)(S:(AA l i).moves.length<5)(θ:0<=k)(ε:k<rules.length){m:AQ}(E:(GI t rules (AA l i).host ⟨k,m⟩).2=0)(F:TB t rules h0 m0 (AA l i) l s):
  ((idx (s.map (FW h0)) i).bind λG=>
   (FQ t (AA rules k) G.AaJ m).bind λe=>
   if (!decide (e.2=0))=X then
   Y (.ret (([]:List A7),e.2))
   else
   if (decide (8<(e.1.f0.d3.ci.length:Int)))=X then
   Y (.ret ([],3))
   else
   (idx (s.map (FW h0)) i).bind λH=>
   (E9 H k e.1).bind λw=>
   (CF (s.map (FW h0)) (λJ=>G9 J w)).bind λK=>
   if K=X then
   Y (.next (s.map (FW h0)))
   else
   if (decide (((s.map (FW h0)).length:Int)=300))=X then
   Y (.ret ([],3))
   else
   (AY (s.map (FW h0)) [w]).bind λz=>
   Y (.next z))=Y (de ([],3) ((R7 t rules (AA l i) ⟨k,m⟩ s).map (D' (FW h0)))):=by
 have N:=M _ (AF C i1);have η:=N.fact hf hr u;obtain⟨Z,Q⟩:=md F C i1;obtain⟨gn,tk,e3,e4⟩:=aR hf hr u N E S;have ζ:=gn.fact hf hr u;have A:=hr.each _ (AF (l:=rules) θ ε);have δ:EW t (AA rules k) (AA l i).host m=(Pn t rules (AA l i) ⟨k,m⟩,0):=by
  grind [GI]
 rw [AD C (by simpa using Q),Gk C Q,Z];simp only[bs];show((FQ t (AA rules k) (AA l i).host m).bind _)=_;rw[Yn hf A.1 A.2,δ,bs,ae V];dsimp only;unfold R7;by_cases O:8<(Pn t rules (AA l i) ⟨k,m⟩).f0.d3.ci.length
 .rw[ac an,ac O];rfl
 have B:CF (s.map (FW h0)) (λJ=>G9 J (FW h0 (Rg t rules (AA l i) ⟨k,m⟩)))=Y (s.any λq=>WJ q (Rg t rules (AA l i) ⟨k,m⟩)):=by
  rw [kI (p:=λy=>WJ ⟨y.d.ln,y.AaJ,y.fq⟩ (Rg t rules (AA l i) ⟨k,m⟩)),List.any_map]
  .rfl
  .intro x κ;obtain⟨q,hq,rfl⟩:=y_.1 κ;exact ue (py hf hr u M F q hq) ζ
 rw [ae an,ae O,ug u η U tk e4,bs,B,bs];by_cases D:(s.any λq=>WJ q (Rg t rules (AA l i) ⟨k,m⟩))=X
 .rw[ac D,ac D];rfl
 rw [ae D,ae D,cL];by_cases f:s.length=300
 .rw[ac s_,ac f];rfl
 .have P:s.length<=300:=by obtain⟨ext,rfl,h3,_⟩:=F;exact h3
  rw [ae an,ae f,AS a_,bs];simp[de]
end
end Go.Sf.Sc
namespace Go.Sf.Sc
open Go Go.Sf
section
variable{t:AC}{rules:List fd}{h0:AG}{m0:d4}{depth:Int}
theorem vd{β ρ γ:Type}(hf:A3 t)(hr:Gc rules)(A:Ko m0 h0.d3)(hd:depth<=4){f:List β×Int->Option (Bz (List β×Int) ρ)}{k:List β×Int->Option γ}{w:ρ->Option γ}{ζ:Option γ}(enc:List CL->List β)(e:ρ)
  (B:∀i l,0<=i->I2 t rules h0 m0 depth i l->i<l.length->((AA l i).moves.length:Int)≠depth->f (enc l,i)=Y (match QY t rules (AA l i) l with|some H=>.next (enc H,i+1)|none=>.ret e))
  (C:∀i l,0<=i->I2 t rules h0 m0 depth i l->i<l.length->((AA l i).moves.length:Int)=depth->f (enc l,i)=Y (.brk (enc l,i))\/f (enc l,i)=Y (.next (enc l,i+1)))
  (D:∀i l,0<=i->I2 t rules h0 m0 depth i l->(l.length:Int)<=i->f (enc l,i)=Y (.brk (enc l,i)))
  {l:List CL}{z:List β×Int}(E:z=(enc l,0))(F:I2 t rules h0 m0 depth 0 l)(ha:∀r j,Nk t rules depth 301 0 l=Y r->k (enc r,j)=ζ)(hb:Nk t rules depth 301 0 l=W->w e=ζ):ej (C7 f z) k w=ζ:=by
 subst E;obtain⟨o,G,u⟩:=gc hf hr A hd enc e B C D 301 0 l U F U;rw[G.eq];cases h:Nk t rules depth 301 0 l with
 |none=>
  rw [h]at u;subst u;exact hb h
 |some r=>
  rw [h]at u;obtain⟨j,rfl⟩:=u;exact ha r j h
variable{i:Int}
theorem SH{l:List CL}(h:I2 t rules h0 m0 depth i l):∀q∈l,K0 t rules h0 m0 q:=λq e=>(h.good q e).1
variable{p:CL}{k:Int}
theorem mT(hf:A3 t)(hr:Gc rules)(u:Ko m0 h0.d3)(f:K0 t rules h0 m0 p)(w:0<=k)(z:k<rules.length)(e:(Hm t (AA rules k) p.host).2≠0):(Hm t (AA rules k) p.host).2=3:=
 (te hf ((vJ f.rep.given).1 _ (AF w z)) (YO hf hr u f).2.2.2.1).resolve_left e
def Vr{β:Type}(enc:CL->β)(o:Option (List CL)):List β×Int:=match o with
 |some L=>(L.map enc,0)|none=>([],3)
theorem jP(hf:A3 t)(hr:Gc rules)(J:GH t rules h0=0)(D:Ko m0 h0.d3)(K:0<=depth)(hd:depth<=4):IK t rules (FW h0 ⟨[],h0,m0⟩) depth=Y (Vr (FW h0) (cx t rules depth ⟨[],h0,m0⟩)):=by
 unfold IK;refine vd hf hr D hd (D' (FW h0)) ([],3) (λi l f gb i1 E=>?_) (λi l f gb i1 he=>?_) (λi l f gb i1=>?_) (l:=[⟨[],h0,m0⟩]) rfl (PF hf hr J D K) (λr j e=>?_) (λe=>?_)
 .have O:=SH gb;have G:=O _ (AF f i1);have S:=(gb.good _ (AF f i1)).2;have u:=gb.few;have P:(AA l i).moves.length<5:=U
  dsimp only;rw[ac l_,AD f l_,bs,Gk f i1,ae (by show¬decide (((AA l i).moves.length:Int)=depth)=X;simpa using E),AT U U,
   UC (l:=Ay rules.length) (D' (FW h0)) (λk M=>if(Hm t (AA rules k) (AA l i).host).2=0 then Gf (R7 t rules (AA l i)) (Ms t rules (AA l i).host k) M else W) ([],3) (λ_=>TB t rules h0 m0 (AA l i) l) rfl (by rw[A2]) ⟨[],V,u,λq N=>by cases N⟩,YR]
  .show ej (Y (gP _ ((QY t rules (AA l i) l).map _))) _ _=_;cases QY t rules (AA l i) l<;>rfl
  intro k s A w z;rw[A2]at w;have B:=hr.each _ (AF (l:=rules) A w);obtain⟨Q,H⟩:=md z f i1;rw[Fc _ A w,AD A w,bs,AD f v5,bs,Gk f H,Q];show((E8 t (AA rules k) (AA l i).host).bind _)=_/\_;rw[xL hf B.1 B.2,bs];by_cases C:(Hm t (AA rules k) (AA l i).host).2=0
  case neg=>
   rw [ac (by simp[C]),ae C,mT hf hr D G A w C];exact⟨rfl,λs' h=>d_⟩
  rw [ae (by simp[C]),ac C,
   UC (l:=Ms t rules (AA l i).host k) (D' (FW h0)) (R7 t rules (AA l i)) ([],3) (λ_=>TB t rules h0 m0 (AA l i) l) rfl (by simp[Ms]) z]
  .refine⟨by cases Gf (R7 t rules (AA l i)) (Ms t rules (AA l i).host k) s<;>rfl,λs' h=>?_⟩;exact VO (I:=TB t rules h0 m0 (AA l i) l) (λmv F s s' z e=>ZB hf hr D G P (Uh A w F) z e) z h
  grind [Uh,AF,Hm,AA,Ms,Gk,AD,xI,ZB]
 .right;have u:=gb.few;dsimp only;rw[ac l_,AD f l_,bs,Gk f i1,ac (by show decide (((AA l i).moves.length:Int)=depth)=X;simpa using he),AT U U]
 .grind
 .show Y (_,_)=Y (Vr _ (Nk t rules depth 301 0 _));rw[e];rfl
 .show Y (_,_)=Y (Vr _ (Nk t rules depth 301 0 _));rw[e];rfl
end
end Go.Sf.Sc
namespace Go.Sf.Sc
open Go Go.Sf
def Tc(a b:Fp)(n:Nat):Fp:=(Ay n).filter λi=>decide (0<=AA a i)&&decide (0<=AA b i)
def EX(a b:AU):BR:=⟨Tc a.po.ci b.po.ci a.hV.d3.ci.length,Tc a.po.c9 b.po.c9 a.hV.d3.c9.length⟩
variable{σ:Type}{n:Nat}
theorem aY{a b:Fp}(ha:a.length=n)(hb:b.length=n)(C:n<=1000)(mk:Fp->σ){f:Int->σ->Option σ}(hf:∀i l,f i (mk l)=((idx a i).bind λu=>(if(decide (0<=u))=X then((idx b i).bind λw=>Y (decide (0<=w)))else Y T).bind λz=>if z=X then(AY l [i]).bind λA=>Y (mk A)else Y (mk l))){s:σ}(B:s=mk []):l3 f 0 n s=Y (mk (Tc a b n)):=by
 subst B;rw[CC (λi=>mk (((Ay n).take i.toNat).filter λi=>decide (0<=AA a i)&&decide (0<=AA b i))) U V]
 .rw[v?,C' (by rw[A2];omega)];rfl
 intro i e i1;rw[hf,AD e U,bs,AD e U,bs,SG (λ_=>rfl),bs,CH (l:=Ay n) e (by rw[A2];exact i1),Fc _ e i1,x?]
 grind [AA,Ay,take,Nat.le_trans,x!,bk,A2,AS,z!,AX]
section
variable{t:AC}{rules:List fd}{a b:AU}{depth:Int}{strict:Bool}
theorem nX(h:a.hV=b.hV)(ta:L9 a.hV a)(tb:L9 b.hV b)(sm:ET a.hV):G7 a b=Y (EX a b,0):=by
 have u:=ta.Aal;have w:=ta.Aao;have e:=tb.Aal;have f:=tb.Aao;have z:=sm.ea;have A:=sm.eb;rw[<-h]at e f;unfold G7;rw[Ze,bs,ae (by simp[h];rw[<-h];omega),aY u e z (λl=>BR.mk l []) (λ_ _=>rfl) rfl,bs,aY w f A (λl=>BR.mk (Tc a.po.ci b.po.ci a.hV.d3.ci.length) l) (λ_ _=>rfl) rfl,bs];rfl
variable{n:Nat}
theorem Ry{l m:Fp}(e:n<=1000):(Tc l m n).length<=1000/\∀x∈Tc l m n,(0<=x/\x<n)/\0<=AA l x/\0<=AA m x:=by
 refine ⟨Nat.le_trans (x! _ _) (by rw[A2];exact e),λx f=>?_⟩;obtain⟨w,u⟩:=x_.1 f;simp only[pc,sx]at u
 grind [C5]
theorem wg(sm:ET a.hV):Xx a.hV (EX a b):=
 ⟨(Ry sm.ea).1,(Ry sm.eb).1,λx e=>((Ry sm.ea).2 x e).1,λx e=>((Ry sm.eb).2 x e).1⟩
noncomputable def GR(t:AC)(rules:List fd)(a b:AU):Int:=if Ec t rules≠0 then Ec t rules else if(KT t a&&KT t b)=T then 1 else if a.hV=b.hV then 0 else 8
def Ru:Aaf:=⟨Ha,Ha,⟨[],[]⟩⟩
noncomputable def Rf(t:AC)(rules:List fd)(a b:AU)(depth:Int):Option (List CL):=cx t rules depth ⟨[],a.f0,FX a (EX a b)⟩
noncomputable def Pj(t:AC)(rules:List fd)(a b:AU)(depth:Int):Option (List CL):=cx t rules depth ⟨[],b.f0,FX b (EX a b)⟩
def kP(a b:AU)(o:Option (CL×CL×d4)):Aaf×Int:=match o with
 |some r=>(⟨⟨a.f0,r.1.moves⟩,⟨b.f0,r.2.1.moves⟩,r.2.2⟩,0)|none=>(Ru,10)
noncomputable def F2(t:AC)(rules:List fd)(a b:AU)(depth:Int)(strict:Bool):Aaf×Int:=
 if GR t rules a b≠0 then(Ru,GR t rules a b)
 else if depth<0\/4<depth then(Ru,6)
 else if 8<a.f0.d3.ci.length\/8<b.f0.d3.ci.length then(Ru,3)
 else match Rf t rules a b depth,Pj t rules a b depth with
  |some L,Y R=>kP a b (UZ strict L R depth)|_,_=>(Ru,3)
structure Oz(t:AC)(rules:List fd)(a b:AU):Prop where
 rz:Ec t rules=0
 ca:KT t a=X
 cb:KT t b=X
 eq:a.hV=b.hV
theorem Y4(h:GR t rules a b=0):Oz t rules a b:=by
 unfold GR at h;split at h
 .grind
 rename_i k;split at h
 .cases h
 rename_i e;split at h
 next f=>simp only[D!,pc]at e;exact⟨F_.1 k,e.1,e.2,f⟩
 .cases h
end
end Go.Sf.Sc
namespace Go.Sf
end Go.Sf
namespace Go.Sf.Sc
open Go Go.Sf
variable{σ ρ:Type}
theorem jk{s:σ}{o:Option ρ}:ej (Y (oj s o)) (λs2=>Y (Bz.next s2)) (λe=>Y (Bz.ret e))=Y (bN s o):=by cases o<;>rfl
section
variable{t:AC}{rules:List fd}{a b:AU}{depth:Int}{strict:Bool}{m0 m1:d4}
structure cW(m0 m1:d4)(L R:List CL):Prop where
 l:∀p∈L,RM m0 p/\p.moves.length<=5
 r:∀p∈R,RM m1 p/\p.moves.length<=5
 nl:m0.ci.length=m1.ci.length
 el:m0.c9.length=m1.c9.length
variable{L R:List CL}
theorem cW.inn(h:cW m0 m1 L R):∀p∈L,∀q∈R,U0 p.host p.image q.image:=λp u q w=>by
 have f:=(h.l p u).1;have g:=(h.r q w).1;exact⟨by rw[f.nl,g.nl,h.nl],by rw[f.el,g.el,h.el],λk e=>(f.inn.node k e).2,λk e=>(f.inn.edge k e).2⟩
def fA(x y:AG)(r:CL×CL×d4):Aaf×Int:=(⟨⟨x,r.1.moves⟩,⟨y,r.2.1.moves⟩,r.2.2⟩,0)
theorem jM(x:AG)(p:CL):DZ (FW x p)=Y (Aa8 p.image):=by
 unfold DZ Aa8;rw[WC,bs,WC];simp only[bs];rw[P9 (λ_=>rfl),bs];rfl
variable{x y:AG}
theorem uh(h:cW m0 m1 L R){s i k:Int}(J:0<=i)(i1:i<L.length)(F:0<=k)(G:k<R.length){z:Aaf}:
  ((idx (R.map (FW y)) k).bind λu=>
   (if(!decide ((AJ (((FW x (AA L i)).d.ln.length:Int)+(u.d.ln.length:Int)))=s))=X then Y X else((if strict=X then((DZ (FW x (AA L i))).bind λA=>
   (if A=X then Y X else((DZ u).bind λB=>
   Y (B))).bind λC=>
   Y (C))else Y T).bind λD=>
   Y (D))).bind λE=>
   if E=X then
   Y (.next z)
   else
   if strict=X then
   (Dz (FW x (AA L i)).AaJ u.AaJ (FW x (AA L i)).fq u.fq).bind λw=>
   if w.2=X then
   Y (.ret (Aaf.mk (FW x (AA L i)).d u.d w.1,0))
   else
   Y (.next z)
   else
   (Dz (FW x (AA L i)).AaJ u.AaJ (d4.mk [] []) (d4.mk [] [])).bind λw=>
   if w.2=X then
   Y (.ret (Aaf.mk (FW x (AA L i)).d u.d w.1,0))
   else
   Y (.next z))=Y (bN z ((PW strict L R s i k).map (fA x y))):=by
 obtain ⟨f,K⟩:=h.l _ (AF J i1);obtain⟨g,M⟩:=h.r _ (AF F G);have hi:=h.inn _ (AF J i1) _ (AF F G);rw[AD F (by simpa using G),bs,Gk F G,jM,jM];simp only[bs];rw[P9 (λ_=>rfl)];simp only[bs];rw[SG (λ_=>rfl)];simp only[bs];rw[P9 (λ_=>rfl),bs];show(if(!decide (AJ (((AA L i).moves.length:Int)+(AA R k).moves.length)=s)||_)=X then _ else if strict=X then(Dz (AA L i).host (AA R k).host (AA L i).image (AA R k).image).bind _ else(Dz (AA L i).host (AA R k).host _ _).bind _)=_;rw[AT U U];unfold PW QZ;by_cases e:((AA L i).moves.length:Int)+(AA R k).moves.length=s
 case neg=>rw[ac c_,ae e];rfl
 rw [ac e];cases strict with
 |true=>
  rw [ac (rfl:X=X)];by_cases H:(Aa8 (AA L i).image||Aa8 (AA R k).image)=X
  .rw[ac (by simp only[H];simp),ac H];rfl
  .rw[ae (by simp only[e,H];simp),ae H,ac rfl,XW f.sm g.sm f.vl g.vl f.ends hi,bs];cases HO (AA L i).host (AA R k).host (AA L i).image (AA R k).image<;>rfl
 |false=>
  rw [ae c_,ae a!,ae a!,XW f.sm g.sm f.vl g.vl f.ends (nC _),bs];cases HO (AA L i).host (AA R k).host ⟨[],[]⟩ ⟨[],[]⟩<;>rfl
end
end Go.Sf.Sc
namespace Go.Sf.Sc
open Go Go.Sf
structure Tt(t:AC)(rules:List fd)(a b:AU):Prop where
 hf:A3 t
 hr:Gc rules
 fa:Ie a.fd
 ka:Dv a.fd.d5<=40
 fb:Ie b.fd
 kb:Dv b.fd.d5<=40
section
variable{t:AC}{rules:List fd}{a b:AU}{depth:Int}{strict:Bool}
theorem bO(hf:A3 t){s:AU}(fr:Ie s.fd)(u:Dv s.fd.d5<=40)(rz:Ec t rules=0)(h:KT t s=X):GH t rules s.f0=0:=by
 unfold KT at h;simp only[pc,sx]at h;obtain⟨o,e⟩:=Tw hf fr u h.1;have f:=WD.1 h.2;rw[e]at f;have w:s.f0=O3 t s.fd s.hV s.l4:=by
  have:=congrArg AU.f0 f;exact this.symm
 grind [GH,Wf]
structure vo(t:AC)(rules:List fd)(a b:AU):Prop where
 ta:L9 a.hV a
 tb:L9 b.hV b
 wa:WA a.hV
 wb:WA b.hV
 ga:GH t rules a.f0=0
 gb:GH t rules b.f0=0
 ma:Ko (FX a (EX a b)) a.f0.d3
 mb:Ko (FX b (EX a b)) b.f0.d3
 pa:Xx a.hV (EX a b)
 pb:Xx b.hV (EX a b)
theorem LY(f:Tt t rules a b)(v:Oz t rules a b):vo t rules a b:=by
 obtain ⟨wa,ta,sa⟩:=iZ f.hf f.fa f.ka v.ca;obtain⟨wb,tb,sb⟩:=iZ f.hf f.fb f.kb v.cb;have pa:Xx a.hV (EX a b):=wg wa.s;have pb:Xx b.hV (EX a b):=v.eq▸pa;exact⟨ta,tb,wa,wb,bO f.hf f.fa f.ka v.rz v.ca,bO f.hf f.fb f.kb v.rz v.cb,nB pa ta,nB pb tb,pa,pb⟩
variable{L R:List CL}
theorem TP(f:Tt t rules a b)(v:Oz t rules a b)(z:0<=depth)(hd:depth<=4)(A:Rf t rules a b depth=Y L)(B:Pj t rules a b depth=Y R):
  (∀p∈L,K0 t rules a.f0 (FX a (EX a b)) p)/\(∀p∈R,K0 t rules b.f0 (FX b (EX a b)) p)/\cW (FX a (EX a b)) (FX b (EX a b)) L R:=by
 have g:=LY f v;obtain⟨⟨j,u⟩,_⟩:=T3 f.hf f.hr g.ma hd 301 0 _ L U (PF f.hf f.hr g.ga g.ma z) A;obtain⟨⟨C,w⟩,_⟩:=T3 f.hf f.hr g.mb hd 301 0 _ R U (PF f.hf f.hr g.gb g.mb z) B;refine⟨SH u,SH w,λp e=>⟨(SH u p e).fact f.hf f.hr g.ma,(SH u p e).few⟩,λp e=>⟨(SH w p e).fact f.hf f.hr g.mb,(SH w p e).few⟩,?_,?_⟩
 .show(EF _ _).length=(EF _ _).length;rw[II,II]
 .show(EF _ _).length=(EF _ _).length;rw[II,II]
theorem vY(h:Ec t rules=0)(e:KT t a=X/\KT t b=X):GR t rules a b=if a.hV=b.hV then 0 else 8:=by grind[GR]
theorem dt(h:GR t rules a b≠0):F2 t rules a b depth strict=(Ru,GR t rules a b):=by grind[F2]
theorem du(h:GR t rules a b=0)(e:depth<0\/4<depth):F2 t rules a b depth strict=(Ru,6):=by grind[F2]
theorem dw(h:GR t rules a b=0)(e:¬(depth<0\/4<depth))(f:8<a.f0.d3.ci.length\/8<b.f0.d3.ci.length):F2 t rules a b depth strict=(Ru,3):=by grind[F2]
theorem dx(h:GR t rules a b=0)(e:¬(depth<0\/4<depth))(f:¬(8<a.f0.d3.ci.length\/8<b.f0.d3.ci.length)):F2 t rules a b depth strict=(match Rf t rules a b depth,Pj t rules a b depth with
  |some L,Y R=>kP a b (UZ strict L R depth)|_,_=>(Ru,3)):=by grind[F2]
theorem Zc(f:Tt t rules a b):Kr t rules a b depth strict=Y (F2 t rules a b depth strict):=by
 unfold Kr;rw[qk f.hf f.hr f.fa f.ka f.fb f.kb,bs];show(if(!decide (GR t rules a b=0))=X then Y (_,GR t rules a b)else _)=_;by_cases hv:GR t rules a b=0
 case neg=>rw[dt hv,ac k_];rfl
 rw [ae k_];by_cases e:depth<0\/4<depth
 .rw[du hv e,ac f_];rfl
 rw [ae f_];by_cases z:8<a.f0.d3.ci.length\/8<b.f0.d3.ci.length
 .rw[dw hv e z,ac an];rfl
 have v:=Y4 hv;have g:=LY f v;rw[dx hv e z,ae an,nX v.eq g.ta g.tb g.wa.s,bs,ae V,fD g.pa g.ta g.ta.sm,bs];have u:IK t rules ⟨⟨a.f0,[]⟩,a.f0,FX a (EX a b)⟩ depth=Y (Vr (FW a.f0) (Rf t rules a b depth)):=jP f.hf f.hr g.ga g.ma U U;have s2:IK t rules ⟨⟨b.f0,[]⟩,b.f0,FX b (EX a b)⟩ depth=Y (Vr (FW b.f0) (Pj t rules a b depth)):=jP f.hf f.hr g.gb g.mb U U;dsimp only;rw[u,bs];cases A:Rf t rules a b depth with
 |none=>rfl|some L=>
 rw [ae (by simp[Vr]),fD g.pb g.tb g.tb.sm,bs,s2,bs];cases B:Pj t rules a b depth with
 |none=>rfl|some R=>
 rw [ae (by simp[Vr])];obtain⟨_,_,D⟩:=TP f v U U A B;dsimp only[Vr];rw[AT (n:=2*depth) U U,AT (n:=2*depth+1) U U,cL,cL,
  Gw (a:=0) (b:=2*depth+1) (λ_=>(⟨Ha,Ha,⟨[],[]⟩⟩:Aaf)) (λs=>(Xm strict L R s).map (fA a.f0 b.f0)) U rfl,KX]
 .show _=Y (kP a b (fst (Xm strict L R) 0 (2*depth+1)));cases fst (Xm strict L R) 0 (2*depth+1)<;>rfl
 intro s C u _;rw[Gw (a:=0) (b:=(L.length:Int)) (λ_=>(⟨Ha,Ha,⟨[],[]⟩⟩:Aaf)) (λi=>(fst (PW strict L R s i) 0 R.length).map (fA a.f0 b.f0)) U rfl,KX,jk]
 .rfl
 intro i w i1 _;rw[AD w l_,bs,Gk w i1,Gw (a:=0) (b:=(R.length:Int)) (λ_=>(⟨Ha,Ha,⟨[],[]⟩⟩:Aaf)) (λk=>(PW strict L R s i k).map (fA a.f0 b.f0)) U rfl,KX,jk]
 grind [uh]
end
end Go.Sf.Sc
namespace Go.Sf.Sc
open Go Go.Sf
section
variable{t:AC}{rules:List fd}{a b:AU}{depth:Int}{strict:Bool}
theorem t8(f:Tt t rules a b)(e:(F2 t rules a b depth strict).2=0):∃L R r,Oz t rules a b/\(0<=depth/\depth<=4)/\Rf t rules a b depth=Y L/\Pj t rules a b depth=Y R/\UZ strict L R depth=Y r/\F2 t rules a b depth strict=fA a.f0 b.f0 r:=by
 by_cases hv:GR t rules a b=0
 case neg=>rw[dt hv]at e;exact absurd e hv
 by_cases A:depth<0\/4<depth
 .grind[du]
 by_cases B:8<a.f0.d3.ci.length\/8<b.f0.d3.ci.length
 .grind[dw]
 rw [dx hv A B]at e|-;cases u:Rf t rules a b depth with
 |none=>rw[u]at e;cases e
 |some L=>
 cases w:Pj t rules a b depth with
 |none=>rw[u,w]at e;cases e
 |some R=>
 rw [u,w]at e;dsimp only at e|-;cases z:UZ strict L R depth with
 |none=>rw[z]at e;cases e
 |some r=>exact⟨L,R,r,Y4 hv,U,rfl,rfl,z,rfl⟩
end
theorem yR{t:AC}{rules:List fd}{a b:AU}{depth:Int}{e f u:Bool}(w:IW t rules a.hV=Y e)(z:E7 t a=Y f)(A:E7 t b=Y u):∃c,L0 t rules a b depth=Y c/\(c=X->e=X/\f=X/\u=X):=by
 unfold L0 NZ;rw[w,bs,UH (λ_=>z),bs,UH (λ_=>A),bs,UH (λ_=>rfl),bs,UH (λ_=>rfl),bs];split
 .exact⟨T,rfl,λh=>d_⟩
 .rename_i h;simp only[E!,not_or,E',Bool.not_eq_false']at h;obtain⟨⟨⟨⟨C,D⟩,E⟩,_⟩,_⟩:=h;rw[Bo (λi=>!((((decide (((AA rules i).gl.d3.ci.length:Int)<=2))&&(decide (((AA rules i).gl.d3.c9.length:Int)<=2)))&&(decide (((AA rules i).ec.d3.ci.length:Int)<=(AJ (((AA rules i).gl.d3.ci.length:Int)+1)))))&&(decide (((AA rules i).ec.d3.c9.length:Int)<=(AJ (((AA rules i).gl.d3.c9.length:Int)+1)))))) T]
  .split
   .exact⟨T,rfl,λh=>d_⟩
   .exact⟨_,rfl,λ_=>⟨C,D,E⟩⟩
  .intro i B i1 _;rw[AD B i1,bs,bs];split<;>rfl
end Go.Sf.Sc
namespace Go.Sf.Sc
open Go Go.Sf
structure Y8(d:HP):Prop where
 types:∀x∈d.ci,U2 x
 ends:∀x∈d.c9,U2 x
 a:X0 d.A
 b:X0 d.B
 h:iQ d.H
theorem l6{d:HP}(h:(I9 d).WF):Y8 d:=by
 have f:TV.sc (_::_::_):=h;have k:=f.2.2;have ka:(KW d.A).WF:=Xq 15 k;have kb:(KW d.B).WF:=Xq 15 (Xp 15 k);have u:=Xp 30 k;exact⟨λx e=>gV (I0 f.1 x e),λx e=>gV (I0 f.2.1 x e),bX ka,bX kb,λx e=>gV (I0 u.1 x e),λx e=>V2 (I0 u.2.1 x e)⟩
structure Rv(t:AC)(rules:List fd)(h:AG):Prop where
 st:(AL t).Sm
 tz:(BD t).2=0
 hf:A3 t
 hr:Gc rules
 two:rules.length=2
 ok:∀r∈rules,DT t r=0
 sm:∀r∈rules,(CB r).Sm
 host:(Dd t h).2=0
 light:IW t rules h=Y X
theorem oN{d:HP}(hd:Y8 d):∃v,GB d=Y v/\(v.2.2.2=X->Rv v.1 v.2.1 v.2.2.1):=by
 unfold GB;split
 .grind
 .obtain⟨t,et,e⟩:=qv hd.types hd.ends;obtain⟨z,A,B,C⟩:=fT e hd.a;obtain⟨D,E,F,s2⟩:=fT e hd.b;obtain⟨h,G,H⟩:=n9 e hd.h;have f:∀r∈[z,D],(CB r).Sm:=by simp[C,s2]
  obtain ⟨b,u,w⟩:=uO e.sm f h;rw[et,bs,A,bs,E,bs,G,bs,u,bs];exact⟨_,rfl,λhb=>by
   obtain rfl:b=X:=hb;exact⟨e.sm,e.zero,(w rfl).1,(w rfl).2,rfl,by simp[B,F],f,by rw[H],u⟩⟩
structure Qu(t:AC)(rules:List fd)(h:AG)(s:AU):Prop where
 rule:s.fd∈rules
 before:s.hV=h
 chk:KT t s=X
section
variable{t:AC}{rules:List fd}{h:AG}
variable{r:fd}
theorem a8(p:Rv t rules h)(hr:r∈rules):∃l,HI t r h 2=Y l/\∀s∈l,Qu t rules h s:=by
 have f:Ie r/\Dv r.d5<=40:=by
  obtain ⟨i,w,i1,rfl⟩:=BT hr;exact p.hr.each _ (AF w i1)
 have A:=tf (t:=t) (r:=r) (h:=h);unfold HI;rw[xc p.hf f.1 f.2,bs];refine E1 (λi l=>(0<=i/\i<=2)/\(l.length:Int)<=i/\∀s∈l,Qu t rules h s) 2 ⟨U,V,λs u=>by cases u⟩ (λi l w⟨a1,a2,a3⟩=>?_) (λi l w⟨a1,a2,a3⟩_=>⟨l,rfl,a3⟩);dsimp only;by_cases hi:i<(Hm t r h).1.length/\i<2
 .left;have z:=mS (AF a1.1 hi.1);obtain⟨o,e⟩:=Tw p.hf f.1 f.2 z;refine⟨U,l++[S8 t r h (AA (Hm t r h).1 i)],?_,U,an,λs u=>?_⟩
  .rw[ac n_,AD a1.1 hi.1,bs,oS p.hf f.1 f.2,e,bs,AS a_,bs,AT (n:=i+1) U U]
  .rcases y!.1 u with u|u
   .exact a3 s u
   .obtain rfl:=y?.1 u;refine⟨hr,rfl,?_⟩;unfold KT;show(decide ((EW t r h (AA (Hm t r h).1 i)).2=0)&&ii (EW t r h (AA (Hm t r h).1 i)).1 _)=X;rw[e];simp only[decide_true,E?];exact WD.2 rfl
 grind
theorem eV(p:Rv t rules h){a b:AU}(ha:Qu t rules h a)(hb:Qu t rules h b):Tt t rules a b:=by
 obtain ⟨i,u,i1,w⟩:=BT ha.rule;obtain⟨j,z,A,B⟩:=BT hb.rule;have e:=p.hr.each _ (AF u i1);have f:=p.hr.each _ (AF z A);rw[w]at e;rw[B]at f;exact⟨p.hf,p.hr,e.1,e.2,f.1,f.2⟩
theorem ki(p:Rv t rules h){a b:AU}(ha:Qu t rules h a)(hb:Qu t rules h b):Oz t rules a b:=
 ⟨(WH p.hf (m7 p.tz (by have:=p.two;omega) p.ok p.host)).1,ha.chk,hb.chk,by rw[ha.before,hb.before]⟩
theorem iK{a b:AU}(v:Oz t rules a b):GR t rules a b=0:=by
 rw [vY v.rz ⟨v.ca,v.cb⟩,ac v.eq]
theorem Wq(st:(AL t).Sm){s:AU}(u:(CB s.fd).Sm):∃b,E7 t s=Y b:=by
 obtain ⟨z,A,B⟩:=Sn st;obtain⟨C,D,G⟩:=mg (h:=s.f0);have w:∃b,HH t s.fd s.hV=Y b:=by
  cases z with
  |false=>exact⟨T,by unfold HH;rw[A];rfl⟩|true=>
   obtain ⟨b,e,f⟩:=jB (B rfl) st u s.hV;exact⟨b,e⟩
 obtain ⟨E,F⟩:=w;unfold E7 NY Jg;rw[F,bs];cases E with
 |false=>exact⟨T,rfl⟩|true=>
 rw [ac rfl,D,bs,bs];cases C with
 |false=>exact⟨T,rfl⟩|true=>
 exact ⟨_,by simp only[bs,if_true];rw[dP rfl,bs,dP rfl,bs]⟩
theorem vS(p:Rv t rules h){a b:AU}{depth:Int}(ha:Qu t rules h a)(hb:Qu t rules h b):∃c,L0 t rules a b depth=Y c:=by
 obtain ⟨z,u⟩:=Wq p.st (p.sm _ ha.rule);obtain⟨A,w⟩:=Wq p.st (p.sm _ hb.rule);have f:=p.light;rw[<-ha.before]at f;obtain⟨c,e,_⟩:=yR (depth:=depth) f u w;exact⟨c,e⟩
end
variable{ρ:Type}
theorem aJ{f:Int->Unit->Option (Bz Unit ρ)}{a b:Int}(h:∀i,a<=i->i<b->f i ()=Y (.next ())):ij f a b ()=Y (.inl ()):=by
 rw [Bh (λ_=>W) (λi e i1 _=>h i e i1),BC.2 λ_ _ _=>rfl];rfl
end Go.Sf.Sc
namespace Go.Sf.Sc
open Go Go.Sf
section
variable{t:AC}{rules:List fd}{a b:AU}{depth:Int}
variable{L R:List CL}
theorem YG{strict:Bool}(hv:GR t rules a b=0)(hd:0<=depth/\depth<=4)(e:¬(8<a.f0.d3.ci.length\/8<b.f0.d3.ci.length))(f:Rf t rules a b depth=Y L)(u:Pj t rules a b depth=Y R):F2 t rules a b depth strict=kP a b (UZ strict L R depth):=by grind[dx]
theorem kT{strict:Bool}(e:(F2 t rules a b depth strict).2=0):GR t rules a b=0/\¬(depth<0\/4<depth)/\¬(8<a.f0.d3.ci.length\/8<b.f0.d3.ci.length):=by grind[GR,dt,du,dw]
theorem qV(f:Tt t rules a b)(e:(F2 t rules a b depth X).2=0):(F2 t rules a b depth T).2=0/\(F2 t rules a b depth T).1.gl.ln.length+(F2 t rules a b depth T).1.ec.ln.length<=(F2 t rules a b depth X).1.gl.ln.length+(F2 t rules a b depth X).1.ec.ln.length/\(F2 t rules a b depth X).1.gl.ln.length+(F2 t rules a b depth X).1.ec.ln.length<=10:=by
 obtain ⟨L,R,r,v,hd,w,z,E,F⟩:=t8 f e;obtain⟨hv,_,G⟩:=kT e;obtain⟨_,_,u⟩:=TP f v hd.1 hd.2 w z;obtain⟨s,H,J,A,_⟩:=Cl E;have C:=yT u.inn (s:=s) (by rw[A];simp);cases h:UZ T L R depth with
 |none=>exact absurd (BC.1 h s H J) C|some B=>
  obtain ⟨s',K,M,N,θ⟩:=Cl h;have D:s'<=s:=by
   grind
  rw [YG hv hd G w z,h,F];obtain⟨ε,_,O,P⟩:=gQ A;have Q:=(gQ N).1;have m1:=(u.l _ O).2;have S:=(u.r _ P).2;refine⟨rfl,?_,?_⟩
  .show B.1.moves.length+B.2.1.moves.length<=r.1.moves.length+r.2.1.moves.length;omega
  .show r.1.moves.length+r.2.1.moves.length<=10;omega
variable{p:CL}
theorem bL(f:p.moves=[]){h0:AG}{m0:d4}(e:I2 t rules h0 m0 0 0 [p]):cx t rules 0 p=Y [p]:=ZC 301 0 [p] U e λ_=>by
 grind [AA]
theorem nK(f:Tt t rules a b)(v:Oz t rules a b):Rf t rules a b 0=Y [⟨[],a.f0,FX a (EX a b)⟩]:=bL rfl (PF f.hf f.hr (LY f v).ga (LY f v).ma U)
theorem lU(f:Tt t rules a b)(v:Oz t rules a b):Pj t rules a b 0=Y [⟨[],b.f0,FX b (EX a b)⟩]:=bL rfl (PF f.hf f.hr (LY f v).gb (LY f v).mb U)
variable{x:AG}
theorem qL(ends:QU x):W6 x x ⟨Ay x.d3.ci.length,Ay x.d3.c9.length⟩:=by
 refine ⟨A2 _,A2 _,rfl,rfl,λi e i1=>?_,λi e i1=>?_,Xn _,Xn _,λi e i1=>?_,λi e i1=>?_⟩
 .grind[AA,Ay,Fc]
 .grind[AA,Ay,Fc]
 .grind[AA,Ay,Fc]
 .obtain⟨⟨f,u⟩,w,z⟩:=ends _ (AF e i1);show AA x.d3.c9 (AA (Ay _) i)=(⟨_,AA (Ay _) _,AA (Ay _) _⟩:Bt);rw[Fc _ e i1,Fc _ f u,Fc _ w z]
theorem oc(f:Tt t rules a a)(v:Oz t rules a a)(N:a.f0.d3.ci.length<=8):(F2 t rules a a 0 X).2=0/\(F2 t rules a a 0 X).1.gl.ln.length+(F2 t rules a a 0 X).1.ec.ln.length=0:=by
 have B:=nK f v;have C:=lU f v;have g:=LY f v;obtain⟨_,_,M⟩:=TP f v U U B C;obtain⟨z,_⟩:=M.l _ (.head _);rw[YG (iK v) U U B C];have G:=g.wa.s.ea;have H:=g.wa.s.eb;have D:∀x∈(FX a (EX a a)).ci,0<=x/\x<a.f0.d3.ci.length:=λx e=>by
  have E:=g.ma.node x e;obtain⟨y,A,rfl⟩:=y_.1 e;have:=(Ry G).2 y A
  grind
 have F:∀x∈(FX a (EX a a)).c9,0<=x/\x<a.f0.d3.c9.length:=λx e=>by
  have E:=g.ma.edge x e;obtain⟨y,A,rfl⟩:=y_.1 e;have:=(Ry H).2 y A
  grind
 have J:Aa8 (FX a (EX a a))=T:=by
  unfold Aa8;rw[E_];constructor
  .rw[<-E',By];intro h;have:=D _ h;omega
  .rw[<-E',By];intro h;have:=F _ h;omega
 have u:∀{l:Fp}{n:Nat},(∀x∈l,0<=x/\x<n)->Pg l l (Ay n):=λ{l n}h i O i1=>by
  grind [AF,Fc]
 have w:QZ X ⟨[],a.f0,FX a (EX a a)⟩ ⟨[],a.f0,FX a (EX a a)⟩≠W:=by
  unfold QZ;rw[ac rfl,ae (by simp[J])];exact XK (WG z z) (qL z.ends) (u D) (u F)
 cases h:QZ X (⟨[],a.f0,FX a (EX a a)⟩:CL) ⟨[],a.f0,FX a (EX a a)⟩with
 |none=>exact absurd h w|some m=>
  have K:UZ X [⟨[],a.f0,FX a (EX a a)⟩] [⟨[],a.f0,FX a (EX a a)⟩] 0=Y (⟨[],a.f0,FX a (EX a a)⟩,⟨[],a.f0,FX a (EX a a)⟩,m):=by
   have E:PW X [⟨[],a.f0,FX a (EX a a)⟩] [⟨[],a.f0,FX a (EX a a)⟩] 0 0 0=Y (⟨[],a.f0,FX a (EX a a)⟩,⟨[],a.f0,FX a (EX a a)⟩,m):=by
    unfold PW;rw[ac s?];show(QZ X ⟨[],a.f0,FX a (EX a a)⟩ ⟨[],a.f0,FX a (EX a a)⟩).map _=_;rw[h];rfl
   show fst (λs=>fst (λi=>fst (PW X _ _ s i) 0 1) 0 1) 0 1=_
   grind [fst,FL]
  rw [K];exact⟨rfl,rfl⟩
end
theorem Zf(d:HP)(depth:Int)(hd:Y8 d)(B:U8 depth):MJ d depth=Y X:=by
 obtain ⟨⟨t,rules,h,ok⟩,e,k⟩:=oN hd;unfold MJ;rw[e,bs,pZ,bs];cases ok with
 |false=>rfl|true=>
 have p:Rv t rules h:=k rfl;have two:=p.two;have hr:DK depth 2=Y (depth.tmod 2):=rfl;have J:=Int.tmod_nonneg 2 B.1;have K:=Int.tmod_lt_of_pos depth (show(0:Int)<2 by decide);have m0:AA rules 0∈rules:=AF U U;have m1:AA rules 1∈rules:=AF U U;obtain⟨M,D,E⟩:=a8 p m0;obtain⟨l1,F,G⟩:=a8 p m1;dsimp only at two|-;rw[ae V,AD U U,bs,D,bs,aJ]
 .rfl
 intro i u i1;have ha:=E _ (AF u i1);rw[AD u i1,bs,AD (l:=rules) (i:=1) U U,bs,F,bs,aJ]
 .rw[B3];split
  .rfl
  .rename_i C;have A:=eV p ha ha;have vs:=ki p ha ha;obtain⟨N,z2⟩:=oc A vs (by simp only[sx]at C;omega);unfold G8;rw[Zc A,bs,bs,ae];simp only[E!,D?,decide_eq_false_iff_not,not_or,F_]
   grind [AT]
 intro j w z;have hb:=G _ (AF w z);obtain⟨c,H⟩:=vS (depth:=1) p ha hb;rw[AD w z,bs,H,bs];split
 .rfl
 have f:=eV p ha hb;unfold G8 Sv;rw[hr,bs,AT (n:=depth.tmod 2) U U,Zc f,bs,bs,bs,AT (n:=depth.tmod 2) U U,Zc f,bs,bs,ae];simp only[pc,E!,D?,sx,decide_eq_false_iff_not,not_and,not_or,F_]
 grind [qV,AT]
end Go.Sf.Sc
namespace Go.Sf.Sc
open Go Go.Sf
section
variable{t:AC}{rules:List fd}{a b:AU}
end
end Go.Sf.Sc
namespace Go.Sf.Sc
open Go Go.Sf
section
variable{t:AC}{rules:List fd}{a b:AU}{depth:Int}
end
end Go.Sf.Sc
