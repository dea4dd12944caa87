/- Plain lemmas: what the functions of the program and of the reference compute. -/
import Derived.Test.YthcncnllajfkfaaGreatP96
import Derived.Test.YthcncnllajfkfaaGreatP61
set_option linter.all false
set_option maxRecDepth 100000
open Option renaming some->Y,none->W
open Bool renaming true->X,false->T
open Int renaming toNat_natCast->w_,eq_ofNat_of_zero_le->w!
open List renaming nodup_range->w?,getElem?_eq_getElem->x_,mem_filter->x!,length_filter_le->x?,filter_append->y_,mem_map->y!,mem_append->y?,mem_singleton->z_,append_nil->z!,length_singleton->z?,take_sublist->A_,any_eq_false->A',mem_cons->A!,mem_cons_of_mem->A?,getElem?_modify->B_,length_set->B',getD_eq_getElem?_getD->B!,zip_map'->B?,take_length->C_,countP_cons->C',take_of_length_le->C!,replicate->C?,length_replicate->D_,map_congr_left->D',map->D!
open Bool renaming not_eq_false->D?,not_eq_true'->E_,not_eq_true->E',or_eq_true->E!,true_and->E?
open Classical renaming not_not->F_,byContradiction->F!
namespace Go.Sf.Sc
open Go Go.Sf
variable{n:Nat}
theorem oG(h:n<=1000):La 0 n=Y (Ao n):=by
 unfold La;rw[B0 (a:=0) (b:=(n:Int)) (s:=[]) (λi=>Ao i.toNat) U rfl,bs,w_];intro i e i1;rw[AS (by rw[At];simp;unfold AX;omega),bs,Ea e,Int.zero_add,AT U U]
def Hr(l:Fp)(n:Nat):Prop:=l.Perm (Ao n)
variable{l:Fp}
theorem Hr.len(h:Hr l n):l.length=n:=by rw[h.length_eq,At]
theorem Hr.mem(h:Hr l n){x:Int}:x∈l↔0<=x/\x<n:=by rw[h.mem_iff,Cu]
variable{i j:Int}
theorem Hr.ne(h:Hr l n)(f:0<=j)(u:j<i)(i1:i<n):AA l j≠AA l i:=by
 have hd:l.Nodup:=h.nodup_iff.2 (by
  unfold Ao;exact List.Pairwise.map _ (λa b h e=>h (Int.ofNat.inj e)) w?)
 have:=h.len;exact H8 hd f u U
theorem ak(A:n<=1000){f:Fp}(B:∀x∈f,U8 x):∃l,Iz n f=Y l/\Hr l n:=by
 unfold Iz;rw[oG A,bs];refine El (λi l=>0<=i/\Hr l n) n ⟨U,.refl _⟩ (λi l C⟨a1,a2⟩=>?_) (λi l C⟨a1,a2⟩_=>⟨l,rfl,a2⟩);dsimp only;by_cases u:i<n/\i<f.length
 .left;have z:=B _ (AF a1 u.2);have F:=a2.len;obtain⟨r,e,G,H⟩:=CN (show 0<=AJ (AA f i)by rw[z.w];exact z.1) (show 0<(n:Int)-i by omega);refine⟨u.1,A2 (A2 l i (AA l (i+r))) (i+r) (AA l i),?_,U,?_⟩
  .rw[ac i9,AD a1 u.2,bs,AT (n:=(n:Int)-i) U U,e,bs,AT (n:=i+r) U U,AD U U,bs,AD a1 U,bs,bs,AD U s_,bs,AT (n:=i+1) U U]
  .refine List.Perm.trans ?_ a2;have D:i.toNat<l.length:=U
   have E:(i+r).toNat<l.length:=U
   have:=@List.set_set_perm _ l _ _ D E;unfold A2
   rwa [show AA l i=l[i.toNat]by grind[AA,x_],show AA l (i+r)=l[(i+r).toNat]by grind[AA,x_]]
 .right;rw[ae i9]
theorem jS(h:Hr l n):GD l=Y 0:=by
 have z:=h.len;unfold GD;rw[BW (λ_=>(W:a5)),A5.2 (λ_ _ _=>rfl),DN]
 .dsimp only;rw[BW (λ_=>(W:a5)),A5.2 (λ_ _ _=>rfl),DN];intro i f i1 _;rw[BW (λ_=>(W:a5)),A5.2 (λ_ _ _=>rfl),DN]
  .rfl
  .intro j u w _;rw[AD f i1,bs,AD u U,bs,ae (by rw[decide_eq_true_iff];exact λe=>h.ne u w U e.symm)];rfl
 .intro i f i1 _;have A:=h.mem.1 (AF f i1);rw[AD f i1,bs,ae an,bs,bs,ae an];rfl
structure ReO(g g':d5)(m:d6):Prop where
 nl:g'.d3.length=g.d3.length
 el:g'.d4.length=g.d4.length
 node:∀i:Int,0<=i->i<g.d3.length->AA g'.d3 (AA m.d3 i)=AA g.d3 i
 edge:∀i:Int,0<=i->i<g.d4.length->AA g'.d4 (AA m.d4 i)=⟨(AA g.d4 i).kg,AA m.d3 (AA g.d4 i).ke,AA m.d3 (AA g.d4 i).To⟩
variable{g:d5}
theorem SN(e:Cc g):DW g=Y g:=by
 have:=e.ec;have:=e.eh;unfold DW;rw[BR b_,bs,BR b_,bs]
variable{m:d6}
theorem nw(C:Cc g)(A:Hr m.d3 g.d3.length)(he:Hr m.d4 g.d4.length):∃v,Lb g m=Y v/\v.2=0/\ReO g v.1 m:=by
 have G:=A.len;have H:=he.len;unfold Lb;rw[NE,bs,ae (by simp[D6 C]),ae (by simp[G,H]),jS A,bs,ae a!,jS he,bs,ae a!,SN C,bs];refine Oe (λi s=>s.d4=g.d4/\s.d3.length=g.d3.length/\∀k:Int,0<=k->k<i->AA s.d3 (AA m.d3 k)=AA g.d3 k) U ⟨rfl,rfl,λk w D=>U⟩ (λi s f i1⟨a1,a2,a3⟩=>?_) (λs⟨a1,a2,a3⟩=>?_)
 .have z:=A.mem.1 (AF f U);refine⟨⟨A2 s.d3 (AA m.d3 i) (AA g.d3 i),s.d4⟩,?_,a1,by rw[DD];exact a2,λk w D=>?_⟩
  .rw[AD f U,bs,AD f i1,bs,AD z.1 U,bs]
  .by_cases e:k=i
   .rw[e];exact Py _ z.1 U
   .have J:=A.mem.1 (AF w U);exact(TQ _ z.1 J.1 (A.ne w U i1)).trans (a3 k w U)
 refine Oe (λi u=>u.d3=s.d3/\u.d4.length=g.d4.length/\∀k:Int,0<=k->k<i->AA u.d4 (AA m.d4 k)=⟨(AA g.d4 k).kg,AA m.d3 (AA g.d4 k).ke,AA m.d3 (AA g.d4 k).To⟩) U ⟨rfl,by rw[a1],λk w D=>U⟩ (λi u f i1⟨B,E,F⟩=>?_) (λu⟨B,E,F⟩=>⟨_,rfl,rfl,by rw[B];exact a2,E,λi f i1=>by rw[B];exact a3 i f i1,F⟩);have z:=he.mem.1 (AF f U);have hf:=C.fit _ (AF f i1);refine⟨⟨u.d3,A2 u.d4 (AA m.d4 i) ⟨(AA g.d4 i).kg,AA m.d3 (AA g.d4 i).ke,AA m.d3 (AA g.d4 i).To⟩⟩,?_,B,by rw[DD];exact E,λk w D=>?_⟩
 .rw[AD f i1,bs,AD f U,bs,AD hf.2.1.1 U,bs,AD hf.2.2.1 U,bs,AD z.1 U,bs]
 .by_cases e:k=i
  .rw[e];exact Py _ z.1 U
  .have J:=he.mem.1 (AF w U);exact(TQ _ z.1 J.1 (he.ne w U i1)).trans (F k w U)
end Go.Sf.Sc
namespace Go.Sf.Sc
open Go Go.Sf
def vj(x:Int):Prop:=0<=x/\x<18446744073709551616
theorem ABE{a b:Int}(ha:vj a)(hb:0<=b):∃r,GX .u64 .shr a b=Y r:=by
 unfold GX;dsimp only;have e:(0:Int)<=2^ (min b.toNat IntKind.u64.bits):=Int.pow_nonneg U;have f:=Int.ediv_nonneg ha.1 e;have u:=Int.ediv_le_self (2^ (min b.toNat IntKind.u64.bits)) ha.1;rw[Int.fdiv_eq_ediv_of_nonneg _ e,ac ⟨hb,f,by have:=ha.2;show _<=(18446744073709551615:Int);omega⟩];exact⟨_,rfl⟩
def YR(l:a6):Fp:=(Ao l.length).filter λi=>AA l i
variable{i:Int}
theorem St{l:a6}:i∈YR l↔(0<=i/\i<l.length)/\AA l i=X:=by
 unfold YR;rw[x!,Cu]
theorem nG(l:a6):(∀x∈YR l,0<=x/\x<l.length)/\(YR l).Pairwise (·<·):=by
 refine ⟨λx e=>(St.1 e).1,List.Pairwise.filter _ ?_⟩;unfold Ao;exact List.Pairwise.map _ (λa b h=>Int.ofNat_lt.2 h) List.pairwise_lt_range
theorem fS{l:a6}(u:l.length<=1000):KP l=Y (YR l):=by
 unfold KP;rw[B0 (a:=0) (b:=(l.length:Int)) (s:=[]) (λi=>(Ao i.toNat).filter λi=>AA l i) U rfl,bs,w_]
 .rfl
 .intro i f i1;have w:((Ao i.toNat).filter λi=>AA l i).length<=i.toNat:=by
   have:=x? (λi=>AA l i) (Ao i.toNat)
   rwa [At]at this
  rw [AD f i1,bs,Ea f,y_];cases e:AA l i
  .simp[e]
  .rw[ac rfl,AS a_,bs];simp[e]
variable{l:Fp}
theorem dJ{n:Int}(h:∀x∈l,0<=x/\x<n)(e:l.Pairwise (·<·)):Px l n=0:=by
 unfold Px;rw[A5.2]
 .rfl
 intro i f i1;have:=h _ (AF f i1);rw[ae U,ae];rintro⟨u,k⟩;have:=H8 e (show 0<=i-1 by omega) (show i-1<i by omega) i1;omega
variable{g:d5}
theorem aa{p:BE}(h:Qq g p):OG g p=0:=by
 unfold OG;rw[ae (by simp[dJ h.ec.1 h.ec.2]),ae (by simp[dJ h.eh.1 h.eh.2]),A5.2]
 .rfl
 intro i e i1;have:=h.ends _ (AF e i1);rw[ac (by rw[pq,Bu,Bu];exact this)]
theorem uj(u:Cc g){ec eh:a6}(F:ec.length=g.d3.length)(he:eh.length=g.d4.length):∃p,Nw g ec eh=Y p/\Qq g p:=by
 have N:=u.ec;have O:=u.eh;unfold Nw;rw[BR b_,bs];refine Oe (λi s=>s.length=g.d3.length/\∀k:Int,0<=k->k<i->AA eh k=X->AA s (AA g.d4 k).ke=X/\AA s (AA g.d4 k).To=X) U ⟨F,λk w D=>U⟩ (λi s A i1⟨a1,a2⟩=>?_) (λs⟨a1,a2⟩=>?_)
 .rw[AD A i1,bs];cases e:AA eh i
  .refine⟨s,rfl,a1,λk w D z=>?_⟩;by_cases h:k=i
   .rw[h,e]at z;cases z
   .exact a2 k w U z
  .have hf:=(u.fit _ (AF (l:=g.d4) A U)).2;rw[ac rfl,AD A U,bs,bs,AD hf.1.1 U,bs,AD hf.2.1 s_,bs];refine⟨_,rfl,by rw[DD,DD];exact a1,λk w D z=>?_⟩;have fl:∀{x j:Int}{l:a6},0<=x->x<l.length->0<=j->AA l j=X->AA (A2 l x X) j=X:=λ{x j l}x0 x1 G H=>by
    by_cases e:j=x
    .rw[e];exact Py _ x0 x1
    .rw[TQ _ x0 G e];exact H
   have f:=(u.fit _ (AF (l:=g.d4) w U)).2;by_cases K:k=i
   .rw[K];exact⟨fl hf.2.1 s_ hf.1.1 (Py _ hf.1.1 U),Py _ hf.2.1 s_⟩
   .obtain⟨B,C⟩:=a2 k w U z;exact⟨fl hf.2.1 s_ f.1.1 (fl hf.1.1 U f.1.1 B),fl hf.2.1 s_ f.2.1 (fl hf.1.1 U f.2.1 C)⟩
 .rw[fS U,bs,fS U,bs];have m1:=nG s;have E:=nG eh;rw[a1]at m1;rw[he]at E;refine⟨_,rfl,m1,E,λx J=>?_⟩;obtain⟨⟨x0,x1⟩,M⟩:=St.1 J;have hf:=(u.fit _ (AF (l:=g.d4) x0 U)).2;obtain⟨B,C⟩:=a2 x x0 x1 M;exact⟨St.2 ⟨⟨hf.1.1,U⟩,B⟩,St.2 ⟨⟨hf.2.1,U⟩,C⟩⟩
theorem ql(A:Cc g){set:Int}(G:vj set):∃p,PV g set=Y p/\Qq g p:=by
 have M:=A.ec;have N:=A.eh;have w:∀{i:Int},0<=i->∃r q,DM i 64=Y r/\GX .u64 .shr set r=Y q:=λ{i}B=>by
  obtain ⟨r,e,J,_⟩:=CN B (show(0:Int)<64 by omega);obtain⟨q,z⟩:=ABE G J;exact⟨r,q,e,z⟩
 have nd:∀q:Int,∃r,GX .u64 .and q 1=Y r:=λq=>⟨_,rfl⟩;unfold PV;rw[HN,ac U,bs,HN,ac U,bs];refine El (λi s=>0<=i/\s.length=g.d3.length) g.d3.length ⟨U,V⟩ (λi s B⟨a1,a2⟩=>?_) (λi s B⟨a1,a2⟩_=>?_)
 .dsimp only;by_cases f:i<s.length
  .left;obtain⟨r,q,D,z⟩:=w a1;obtain⟨b,E⟩:=nd q;refine⟨U,A2 s i (decide (b=1)),?_,U,by rw[DD];exact a2⟩;rw[ac d!,D,bs,z,bs,E,bs,AD a1 f,bs,AT U U]
  .right;rw[ae d!]
 dsimp only;refine El (λj u=>0<=j/\u.length=g.d4.length) g.d4.length ⟨U,V⟩ (λj u H⟨F,C⟩=>?_) (λj u H⟨F,C⟩_=>?_)
 .dsimp only;by_cases f:j<u.length
  .left;obtain⟨r,q,D,z⟩:=w (show 0<=(s.length:Int)+j by omega);obtain⟨b,E⟩:=nd q;refine⟨U,A2 u j (decide (b=1)),?_,U,by rw[DD];exact C⟩;rw[ac d!,AT (n:=(s.length:Int)+j) U U,D,bs,z,bs,E,bs,AD F f,bs,AT U U]
  .right;rw[ae d!]
 .obtain⟨p,e,K⟩:=uj A a2 C;exact⟨p,by rw[e,bs],K⟩
end Go.Sf.Sc
namespace Go.Sf.Sc
open Go Go.Sf
variable{α:Type}{n:Nat}
theorem Pr{f:α->TV}{l:List α}(h:l.length<=1000)(hf:∀x,(f x).Sm):(eL n f l).Sm:=by
 refine ⟨to,Lv.2 λt e=>?_⟩;obtain⟨x,_,rfl⟩:=y!.1 e;exact hf x
theorem Yr(x:Int):(eI x).Sm:=trivial
theorem yN(x:Bk):(Bt x).Sm:=by simp[Bt,TV.Sm,TV.Sms,eI]
theorem yO(x:By):(E8 x).Sm:=by simp[E8,TV.Sm,TV.Sms,eI]
theorem yP(x:Test):(Ff x).Sm:=by simp[Ff,TV.Sm,TV.Sms,eI]
def iJ(g:d5):Prop:=g.d3.length<=1000/\g.d4.length<=1000
theorem dT{c:d7}(w:∀k∈c.fu,(AI k).Sm)(h0:c.fu.length<=1000)(e:c.Map.d3.length<=1000/\c.Map.d4.length<=1000)(f:iJ c.ea.d5)(u:c.ea.ek.length<=1000/\c.ea.kl.length<=1000):(AI c).Sm:=by
 refine ⟨trivial,?_,Pr e.1 Yr,Pr e.2 Yr,Pr f.1 Yr,Pr f.2 yN,Pr u.1 yO,trivial,Pr u.2 yP,trivial⟩;unfold EQ;rw[M6];refine⟨to,Lv.2 λt z=>?_⟩;obtain⟨x,A,rfl⟩:=y!.1 z;exact w x A
variable{r:ff}
theorem oT(h0:r.ln.size<=1000)(e:iJ r.gp.d5)(f:r.gp.ek.length<=1000/\r.gp.kl.length<=1000)(u:iJ r.ei.d5)(w:r.ei.ek.length<=1000/\r.ei.kl.length<=1000)(z:r.pr.d3.length<=1000/\r.pr.d4.length<=1000)(A:r.pf.d3.length<=1000/\r.pf.d4.length<=1000)(B:(AI r.d7).Sm):(Bz r).Sm:=by
 obtain ⟨C,D,E,F,G,H,c7,c8,J,_⟩:=B;exact⟨by show r.ln.size<=reachBytes;unfold reachBytes;omega,Pr e.1 Yr,Pr e.2 yN,Pr f.1 yO,trivial,Pr f.2 yP,Pr u.1 Yr,Pr u.2 yN,Pr w.1 yO,trivial,Pr w.2 yP,Pr z.1 Yr,Pr z.2 Yr,Pr A.1 Yr,Pr A.2 Yr,trivial,C,D,E,F,G,H,c7,c8,J,trivial⟩
theorem Fc.sm{t:AC}(h:Fc t):(AL t).Sm:=by
 have hf:=h.few;refine⟨⟨by rw[c9];have:=hf.ec;unfold reachBytes;omega,Lv.2 λx f=>?_⟩,⟨by rw[c9];have:=hf.eh;unfold reachBytes;omega,Lv.2 λx f=>?_⟩,trivial⟩
 .obtain⟨n,w,rfl⟩:=y!.1 f;have D:=hf.name n w;have E:=hf.Abm n w;refine⟨by show n.ln.size<=reachBytes;unfold reachBytes;omega,trivial,trivial,⟨to,Lv.2 λy A=>?_⟩,trivial⟩;obtain⟨a,ha,rfl⟩:=y!.1 A;have u:=hf.each n w a ha;refine⟨by show a.ln.size<=reachBytes;have:=u.name;unfold reachBytes;omega,trivial,trivial,⟨by rw[c9];have:=u.names;unfold reachBytes;omega,Lv.2 λz B=>?_⟩,trivial⟩;obtain⟨s,C,rfl⟩:=y!.1 B;show s.size<=reachBytes;have:=u.each s C;unfold reachBytes;omega
 .obtain⟨e,he,rfl⟩:=y!.1 f;have:=hf.AbX e he;exact⟨by show e.ln.size<=reachBytes;unfold reachBytes;omega,trivial,trivial,trivial,trivial,trivial,trivial,trivial⟩
structure WY(t:AC)(g:d5):Prop where
 ok:Cc g
 kind:∀n∈g.d3,0<=n/\n<t.d3.length
 et:∀e∈g.d4,e.kg<t.d4.length
variable{g:d5}
theorem SV.okG{t:AC}(f:Fc t)(h:SV t g):WY t g:=⟨(h.ok f).1,h.kind,λe he=>(h.fit e he).1.2⟩
theorem qa{t:AC}{p:BE}(h:WY t g)(f:Qq g p):WY t (C0 g p)/\p.d3.length<=g.d3.length/\p.d4.length<=g.d4.length:=by
 have l1:=iL f.ec.1 f.ec.2;have l2:=iL f.eh.1 f.eh.2;have B:=h.ok.ec;have C:=h.ok.eh;refine⟨⟨⟨by simp[C0];omega,by simp[C0];omega,λn w=>?_,λe he=>?_⟩,λn w=>?_,λe he=>?_⟩,l1,l2⟩
 .obtain⟨x,u,rfl⟩:=y!.1 w;exact h.ok.kind _ (AF (f.ec.1 x u).1 (f.ec.1 x u).2)
 .obtain⟨x,u,rfl⟩:=y!.1 he;have hf:=h.ok.fit _ (AF (f.eh.1 x u).1 (f.eh.1 x u).2);have z:=HM (f.ends x u).1;have A:=HM (f.ends x u).2;simp only[C0,c9];exact⟨hf.1,⟨z.1,z.2.1⟩,A.1,A.2.1⟩
 .obtain⟨x,u,rfl⟩:=y!.1 w;exact h.kind _ (AF (f.ec.1 x u).1 (f.ec.1 x u).2)
 .obtain⟨x,u,rfl⟩:=y!.1 he;have:=h.et _ (AF (f.eh.1 x u).1 (f.eh.1 x u).2);exact this
def QN(t:AC):Fp:=(Ao t.d3.length).filter λi=>!(AA t.d3 i).qo
variable{i:Int}
theorem P0{t:AC}:i∈QN t↔(0<=i/\i<t.d3.length)/\(AA t.d3 i).qo=T:=by
 unfold QN;rw[x!,Cu];simp
theorem Zr{t:AC}(h:t.d3.length<=1000):n8 (λ(f:Int)(z:Fp)=>
 (idx t.d3 f).bind λu=>
 if (!u.qo)=X then
 (AY z [f]).bind λw=>
 Y w
 else
 Y z) 0 (t.d3.length:Int) []=Y (QN t):=by
 rw [B0 (a:=0) (b:=(t.d3.length:Int)) (s:=[]) (λi=>(Ao i.toNat).filter λi=>!(AA t.d3 i).qo) U rfl,w_]
 .rfl
 .intro i f i1;have A:((Ao i.toNat).filter λi=>!(AA t.d3 i).qo).length<=i.toNat:=by
   have:=x? (λi=>!(AA t.d3 i).qo) (Ao i.toNat)
   rwa [At]at this
  rw [AD f i1,bs,Ea f,y_];cases e:(AA t.d3 i).qo
  .rw[ac (show(!T)=X from rfl),AS a_,bs];simp[e]
  .simp[e]
def sS(t:AC)(k g:d5):Prop:=∃xs ys,g=⟨k.d3++xs,k.d4++ys⟩/\xs.length<=2/\ys.length<=2/\(∀x∈xs,x∈QN t)/\∀e∈ys,Uw t g.d3.length e/\K0 t e.kg (AA g.d3 e.ke) (AA g.d3 e.To)=X
variable{d:Fo}
theorem ur{t:AC}(H:Fc t){k:d5}(E:WY t k)(O:∀x∈d.d3,U8 x)(he:∀x∈d.d4,U3 x):∃g,N2 t k d=Y g/\sS t k g:=by
 have Z:=E.ok.ec;have h2:=E.ok.eh;have θ:=H.ec;unfold N2 NO;rw[SN E.ok,bs,Zr U,bs,bs];refine El (λi s=>(0<=i/\i<=2)/\∃xs:Fp,s=⟨k.d3++xs,k.d4⟩/\(xs.length:Int)<=i/\∀x∈xs,x∈QN t) 2 ⟨U,[],V,V,λx f=>by cases f⟩ (λi s P⟨a1,xs,a2,a3,F⟩=>?_) (λi s P⟨a1,xs,a2,a3,F⟩_=>?_)
 .dsimp only;by_cases z:(i<d.d3.length/\i<2)/\0<((QN t).length:Int)
  .left;have f:=O _ (AF a1.1 z.1.1);obtain⟨r,e,B,A⟩:=CN (show 0<=AJ (AA d.d3 i)by rw[f.w];exact f.1) z.2;refine⟨U,⟨k.d3++(xs++[AA (QN t) r]),k.d4⟩,?_,U,_,rfl,an,λx f=>(y?.1 f).elim (F x) λf=>z_.1 f▸AF B A⟩;rw[ac m_,AD a1.1 z.1.1,bs,e,bs,AD B A,bs,a2,AS a_,bs,AT (n:=i+1) U U,ci]
  .right;rw[ae m_]
 subst a2;dsimp only;refine El (λj u=>(0<=j/\j<=2)/\∃ys:List Bk,u=⟨k.d3++xs,k.d4++ys⟩/\(ys.length:Int)<=j/\∀e∈ys,Uw t (k.d3++xs).length e/\K0 t e.kg (AA (k.d3++xs) e.ke) (AA (k.d3++xs) e.To)=X) 2 ⟨U,[],V,V,λx f=>by cases f⟩ (λj u Q⟨B,ys,A,S,D⟩=>?_) (λj u Q⟨B,ys,A,S,D⟩_=>⟨u,rfl,xs,ys,A,U,U,F,by rw[A];exact D⟩);dsimp only;by_cases z:((j<d.d4.length/\j<2)/\0<((k.d3++xs).length:Int))/\0<(t.d4.length:Int)
 .left;have f:=he _ (AF B.1 z.1.1.1);obtain⟨r,ε,κ,η⟩:=CN (show 0<=AJ (AA d.d4 j).a0 by rw[f.1.w];exact f.1.1) z.2;obtain⟨r1,ζ,J,K⟩:=CN (show 0<=AJ (AA d.d4 j).a1 by rw[f.2.1.w];exact f.2.1.1) z.1.2;obtain⟨r2,δ,M,N⟩:=CN (show 0<=AJ (AA d.d4 j).a2 by rw[f.2.2.w];exact f.2.2.1) z.1.2;refine⟨U,?_⟩;rw[ac m_,AD B.1 z.1.1.1,bs,ε,bs,bs,ζ,bs,bs,δ,bs,A];dsimp only;rw[AD J K,bs,AD M N,bs,Yi H.few,bs,AT (n:=j+1) U U];split
  .rename_i C;rw[AS a_,bs,ci];exact⟨_,rfl,U,_,rfl,an,λe G=>(y?.1 G).elim (D e) λG=>by
    rw [z_.1 G];exact⟨⟨⟨κ,η⟩,⟨J,K⟩,M,N⟩,C⟩⟩
  .exact⟨_,rfl,U,ys,rfl,U,D⟩
 .right;rw[A,ae m_]
variable{β σ:Type}{I:σ->Prop}
theorem ia{ζ:Option β}{mk:σ->β}(h:∃r,ζ=Y r/\∃s',r=mk s'/\I s'):∃s',ζ=Y (mk s')/\I s':=by
 obtain ⟨_,e,s',rfl,hi⟩:=h;exact⟨s',e,hi⟩
def cv(t:AC)(g:d5)(v:Int)(l:List By):Prop:=l.length<=3/\(∀s∈l,RK t g v s)/\∀i j:Int,0<=j->j<i->i<l.length->¬((AA l j).po=(AA l i).po/\(AA l j).kp=(AA l i).kp)
variable{v:Int}
theorem vA{t:AC}(J:Fc t)(hg:g.d3.length<=100)(hv:0<=v/\v<=3){l:List KC}(K:∀x∈l,U3 x):∃s,N3 t g v l=Y s/\cv t g v s:=by
 unfold N3;refine El (λi s=>(0<=i/\i<=3)/\(s.length:Int)<=i/\(∀x∈s,RK t g v x)/\∀i j:Int,0<=j->j<i->i<s.length->¬((AA s j).po=(AA s i).po/\(AA s j).kp=(AA s i).kp)) 3 ⟨U,V,(λx f=>by cases f),λi j A D i1=>i_⟩ (λi s M⟨a1,a2,a3,B⟩=>?_) (λi s M⟨a1,a2,a3,B⟩_=>⟨s,rfl,U,a3,B⟩);dsimp only;by_cases C:(i<l.length/\i<3)/\0<(g.d3.length:Int)
 .left;have f:=K _ (AF a1.1 C.1.1);obtain⟨r,θ,G,H⟩:=CN (show 0<=AJ (AA l i).a0 by rw[f.1.w];exact f.1.1) C.2;refine⟨U,?_⟩;rw[ac v6,AD a1.1 C.1.1,bs,θ,bs,AD G H,bs,Om J.few,bs,AT (n:=i+1) U U];by_cases h0:((FQ t (AA g.d3 r)).1.length:Int)=0
  .rw[ac (by simpa using h0)];exact⟨s,rfl,U,U,a3,B⟩
  obtain ⟨q,ε,κ,η⟩:=CN (show 0<=AJ (AA l i).a1 by rw[f.2.1.w];exact f.2.1.1) (show 0<((FQ t (AA g.d3 r)).1.length:Int)by omega);obtain⟨u,ζ,d1,d2⟩:=ZZ f.2.1.1 (show(0:Int)<16 by omega);have hw:=tK u;obtain⟨y,δ,f1,f2⟩:=CN (show 0<=AJ (IntKind.u8.wrap u)by rw[AT U U];omega) (show 0<v+1 by omega);obtain⟨z,Z,g1,g2⟩:=CN (show 0<=AJ (AA l i).a2 by rw[f.2.2.w];exact f.2.2.1) (show(0:Int)<3 by omega);rw[ae (by simpa using h0),bs,ε,bs,bs,ζ,bs,AT (n:=v+1) U U,δ,bs,bs,Z,bs,AT (n:=y-1) U U];refine ia (mk:=λs'=>Bo.next (s',i+1)) (Oe (λ(k:Int)(b:Bool)=>b=T->∀j:Int,0<=j->j<k->¬((AA s j).po=r/\(AA s j).kp=q)) U (λ_ j A D=>U) (λk b N O hb=>?_) (λb hb=>?_))
  .cases b
   .rw[ae a!,AD N O,bs,bs];have old:∀{P:Prop},(P->False)->((AA s k).po=r/\(AA s k).kp=q->P)->∀j:Int,0<=j->j<k+1->¬((AA s j).po=r/\(AA s j).kp=q):=λ{P}Q S j A D F=>by
     by_cases e:j=k
     .exact Q (S (e▸F))
     .exact hb rfl j A U F
    by_cases E:(AA s k).po=r
    .rw[ac (by simpa using E),bs,bs];exact⟨_,rfl,λh=>old (P:=(AA s k).kp=q) b? And.right⟩
    .rw[ae (by simpa using E),bs,bs];exact⟨_,rfl,λ_=>old (P:=(AA s k).po=r) E And.left⟩
   .exact⟨X,rfl,λh=>d_⟩
  .cases b
   .rw[ac a!,AS a_,bs];refine⟨_,rfl,_,rfl,U,an,λx f=>(y?.1 f).elim (a3 x) λf=>?_,λi j A D i1=>?_⟩
    .rw[z_.1 f];exact⟨⟨⟨G,H⟩,κ,η⟩,b!,b!⟩
    .simp at i1;rw[LY _ _ A U];by_cases e:i=s.length
     .rw[M0 _ _ e];exact hb rfl j A U
     .rw[LY _ _ U U];exact B i j A D U
   .rw[ae a!];exact⟨_,rfl,_,rfl,U,U,a3,B⟩
 .right;rw[ae v6]
end Go.Sf.Sc
namespace Go.Sf.Sc
open Go Go.Sf
variable{m:d6}
theorem eP{a b:d5}(h:Ts a b m):IY a b m=0:=by
 unfold IY;rw[ae (by simp[D6 h.ga]),ae (by simp[D6 h.gb]),ae (by simp[h.Aak,h.Aao]),A5.2]
 .dsimp only;rw[A5.2]
  .rfl
  intro i e i1;obtain⟨u,f,w,z⟩:=h.edge i e i1;unfold GY;rw[ae U,ae u?,ae (by simp[w,z])]
 .intro i e i1;obtain⟨u,f⟩:=h.node i e i1;unfold MU;rw[ae U,ae u?]
theorem Zg(n:Nat):(Ao n).Nodup:=by
 unfold Ao;exact List.Pairwise.map _ (λa b h e=>h (Int.ofNat.inj e)) w?
theorem ws(g:d5):IW (Nk g)=X:=by
 unfold IW Nk;rw[Jm.2 (Zg _),Jm.2 (Zg _)];rfl
def Us:d7:=⟨1,[],⟨[],[]⟩,⟨⟨[],[]⟩,[],0,[]⟩⟩
theorem VC{t:AC}{p:ea}(h:E1 t p=0):JG t p Us=0:=by
 obtain ⟨n,e⟩:∃n,SizeOf.sizeOf Us=n+1:=⟨SizeOf.sizeOf Us-1,by have:=Dk Us;omega⟩;have f:Mr Us=0:=by
  unfold Mr jp WC;rw[e];rfl
 unfold JG;rw[ae s?,ae u?,e];rfl
theorem Yx:(AI Us).Sm:=dT (λk e=>q?) a! a! (by unfold iJ;decide) a!
def O8(g:d5)(v:Int)(k:d5):d7:=⟨2,[⟨5,[Us],Nk g,⟨k,[],v,[]⟩⟩],⟨[],[]⟩,⟨⟨[],[]⟩,[],0,[]⟩⟩
theorem Zs{t:AC}(hv:(A0 t).2=0){p:ea}(h:E1 t p=0){k:d5}(w:WY t k){xs:Fp}{ys:List Bk}(z:k.d3=p.d5.d3++xs)(he:k.d4=p.d5.d4++ys):JG t p (O8 p.d5 p.fd k)=0:=by
 have u:=XQ hv (.inl h);obtain⟨D,_⟩:=Yf h;have C:k.d3.length=p.d5.d3.length+xs.length:=by rw[z,b6]
 have B:k.d4.length=p.d5.d4.length+ys.length:=by rw[he,b6]
 have inn:TH t ⟨k,[],p.fd,[]⟩ p.fd=0:=by
  have A:E1 t ⟨k,[],p.fd,[]⟩=0\/E1 t ⟨k,[],p.fd,[]⟩=9:=by
   unfold E1;rw[ae l_,ae (by simp[D6 w.ok]),ae (by simp[Uk (λn z=>(w.kind n z).2) w.et]),ae b!,ae V,ae V,ae (by simp[Uh u.1 u.2])];split
   .exact .inr rfl
   .exact .inl rfl
  unfold TH;rcases A with A|A
  .rw[ac U,A]
  .rw[ae U,ae];rw[Cg];rintro⟨i,f,i1,_⟩;exact absurd i1 b!
 have mor:IY p.d5 k (Nk p.d5)=0:=by
  refine eP ⟨D,w.ok,At _,At _,λi f i1=>?_,λi f i1=>?_⟩
  .simp only[Nk,At]at i1|-;rw[My _ f i1,z];exact⟨⟨f,an⟩,Ll f i1⟩
  .simp only[Nk,At]at i1|-;have hf:=(D.fit _ (AF f i1)).2;rw[My _ f i1,he,Ll f i1,My _ hf.1.1 hf.1.2,My _ hf.2.1 hf.2.2];exact⟨⟨f,an⟩,rfl,rfl,rfl⟩
 have E:=EO (c:=O8 p.d5 p.fd k) (z_.2 rfl);have s2:=EO (c:=⟨5,[Us],Nk p.d5,⟨k,[],p.fd,[]⟩⟩) (z_.2 rfl);have F:=Dk Us;obtain⟨n,e⟩:∃n,SizeOf.sizeOf (O8 p.d5 p.fd k)=n+3:=⟨SizeOf.sizeOf (O8 p.d5 p.fd k)-3,U⟩;have sh:Mr (O8 p.d5 p.fd k)=0:=by
  unfold Mr jp WC;rw[e];rfl
 unfold JG;rw[ae s?,ae (by simp[sh]),e,Is,ae (show¬(O8 p.d5 p.fd k).kq=5 from(by decide:¬(2:Int)=5)),A5.2]
 .rfl
 intro i f i1;obtain rfl:i=0:=by
  have:i<1:=i1;omega
 refine IK.2 ?_;show Is (n+2) t p ⟨5,[Us],Nk p.d5,⟨k,[],p.fd,[]⟩⟩=0;rw[Is,ac rfl,ae (Int.lt_irrefl _),ae (by simp[inn]),ae (by simp[mor]),ae (by simp[ws]),A5.2]
 .rfl
 intro i f i1;obtain rfl:i=0:=by
  have:i<1:=i1;omega
 refine IK.2 ?_;show Is (n+1) t ⟨k,[],p.fd,[]⟩ Us=0;rfl
theorem qt{t:AC}(u:Fc t){p:ea}(E:jy t p){x:V1}(h0:U8 x.a0)(A:U8 x.a1)(F:U8 x.a2)(G:U8 x.a3):∃c,Mh t p x=Y c/\JG t p c=0/\(AI c).Sm:=by
 have B:=E.zero u;have z:=E.g;have ho:=z.ok u;have Q:=z.ec;have N:=z.eh;have S:=u.ec;have θ:=u.eh;have tp:=u.pos;obtain⟨r,e,ε,κ⟩:=CN h0.1 (show(0:Int)<4 by omega);have sm:∀k:d5,iJ k->(AI (O8 p.d5 p.fd k)).Sm:=λk M=>by
  refine dT (λc C=>?_) (by simp[O8]) (by simp[O8]) (by unfold iJ;simp[O8]) (by simp[O8]);rw[z_.1 C];refine dT (λc C=>?_) V ⟨by simp[Nk,At];omega,by simp[Nk,At];omega⟩ M V;rw[z_.1 C];exact Yx
 unfold Mh;rw[SN ho.1,bs,e,bs];by_cases H:r=1
 .obtain⟨a,D,a0,a1⟩:=CN (show 0<=AJ x.a1 by rw[A.w];exact A.1) (show 0<(t.d3.length:Int)by omega);rw[ac v5,D,bs,AS a_,bs,xt (D6 ho.1),bs,bs];refine⟨_,rfl,Zs u.zero B (xs:=[a]) (ys:=[]) ⟨⟨an,b!,λn f=>?_,λe he=>?_⟩,λn f=>?_,λe he=>(z.fit e he).1.2⟩ rfl (z! _).symm,sm _ ⟨an,b!⟩⟩
  .rcases y?.1 f with f|f
   .exact ho.1.kind n f
   .rw[z_.1 f];omega
  .have:=ho.1.fit e he;simp only[b6,z?];omega
  .rcases y?.1 f with f|f
   .exact z.kind n f
   .rw[z_.1 f];exact⟨a0,a1⟩
 rw [ae v5];by_cases J:r=2
 .rw[ac (by simpa using J)];by_cases K:(p.d5.d3.length:Int)=0\/(t.d4.length:Int)=0
  .rw[ac (by simpa using K)];exact⟨_,rfl,VC B,Yx⟩
  .obtain⟨a,D,a0,a1⟩:=CN (show 0<=AJ x.a1 by rw[A.w];exact A.1) (show 0<(t.d4.length:Int)by omega);obtain⟨b,O,η,ζ⟩:=CN (show 0<=AJ x.a2 by rw[F.w];exact F.1) (show 0<(p.d5.d3.length:Int)by omega);obtain⟨c,P,δ,Z⟩:=CN (show 0<=AJ x.a3 by rw[G.w];exact G.1) (show 0<(p.d5.d3.length:Int)by omega);rw[ae (by simpa using K),D,bs,O,bs,P,bs,AS a_,bs,xt (D6 ho.1),bs,bs];refine⟨_,rfl,Zs u.zero B (xs:=[]) (ys:=[⟨a,b,c⟩]) ⟨⟨b!,an,ho.1.kind,λe he=>?_⟩,z.kind,λe he=>?_⟩ (z! _).symm rfl,sm _ ⟨b!,an⟩⟩
   .rcases y?.1 he with he|he
    .exact ho.1.fit e he
    .rw[z_.1 he];simp only;omega
   .rcases y?.1 he with he|he
    .exact(z.fit e he).1.2
    .rw[z_.1 he];exact a1
 .rw[ae (by simpa using J)];exact⟨_,rfl,VC B,Yx⟩
end Go.Sf.Sc
namespace Go.Sf.Sc
open Go Go.Sf
variable{g:d5}{v i:Int}
theorem lV{t:AC}{l:List By}(h:cv t g v l)(f:0<=i)(i1:i<l.length):OO t ⟨g,l,v,[]⟩ i=0:=by
 obtain ⟨⟨a1,a2⟩,a3,z⟩:=h.2.1 _ (AF f i1);unfold OO;dsimp only;rw[ae U,ae,ae]
 .rw[Cg];rintro⟨j,u,w,e⟩;simp at e;exact h.2.2 i j u w i1 e
 .simp;omega
theorem bB{t:AC}(hv:(A0 t).2=0){L:ea}(w:E1 t L=0)(e:WY t g){sl:List By}(z:cv t g L.fd sl){fl:BE}(A:Qq L.d5 fl){into:d6}(B:Ts (C0 L.d5 fl) g into)(hi:IW into=X){b:Bool}{c:d7}(C:JG t L c=0)
  (f:TI t g (BC into.d3 g.d3.length) (BC into.d4 g.d4.length)=X):DP t ⟨(⟨#[114]⟩:ByteArray),L,⟨g,sl,L.fd,[]⟩,fl,into,b,c⟩=0:=by
 have F:=z.1;have hr:JZ t ⟨(⟨#[114]⟩:ByteArray),L,⟨g,sl,L.fd,[]⟩,fl,into,b,c⟩=0:=by
  unfold JZ;dsimp only;rw[ae (by simp[D6 e.ok]),ae (by simp[Uk (λn D=>(e.kind n D).2) e.et]),ae V,ae U,A5.2 (λi E i1=>IK.2 (lV z E i1))];rfl
 have u:QU ⟨(⟨#[114]⟩:ByteArray),L,⟨g,sl,L.fd,[]⟩,fl,into,b,c⟩=0:=by
  have:EG L.d5 fl=0:=by
   unfold EG;rw[ae (by simp[D6 (Yf w).1]),aa A]
  unfold QU;dsimp only;rw[ae (by simp[this]),ae (by simp[eP B]),ae (by simp[hi])]
 unfold DP;rw[ae l_,ae (show¬D7 (⟨#[114]⟩:ByteArray)=T by decide),ae (by simp[w]),ae (by simp[hr]),ae o!,ae,C];rw[D?];exact f
structure Xr(d:Fo):Prop where
 left:mA d.gp
 fl:vj d.pr
 ec:∀x∈d.d3,U8 x
 eh:∀x∈d.d4,U3 x
 slots:∀x∈d.ek,U3 x
 Abz:(U8 d.Aah.a0/\U8 d.Aah.a1)/\U8 d.Aah.a2/\U8 d.Aah.a3
 order:∀x∈d.Abv,U8 x
variable{l:Fp}{n:Nat}
theorem Hr.at(h:Hr l n){x:Int}(x0:0<=x)(x1:x<n):∃i:Int,(0<=i/\i<n)/\AA l i=x:=by
 obtain ⟨i,f,i1,e⟩:=BG (h.mem.2 ⟨x0,x1⟩);exact⟨i,⟨f,n_⟩,e⟩
theorem Hr.inn(h:Hr l n)(e:0<=i)(i1:i<n):0<=AA l i/\AA l i<n:=h.mem.1 (AF e n_)
theorem mz{t:AC}{k g:d5}(u:WY t k)(z:k.d3.length<=30)(A:k.d4.length<=60)(h:sS t k g)(he:t.d4.length<=90)(f:t.d3.length<=90):WY t g:=by
 obtain ⟨xs,ys,rfl,a1,a2,a3,w⟩:=h;simp only at w;refine⟨⟨an,an,λn f=>?_,λe he=>?_⟩,λn f=>?_,λe he=>?_⟩
 .rcases y?.1 f with f|f
  .exact u.ok.kind n f
  .have:=(P0.1 (a3 n f)).1;omega
 .rcases y?.1 he with he|he
  .have:=u.ok.fit e he;simp only[b6];omega
  .have:=(w e he).1;unfold Uw at this;dsimp only at this|-;omega
 .rcases y?.1 f with f|f
  .exact u.kind n f
  .exact(P0.1 (a3 n f)).1
 .rcases y?.1 he with he|he
  .exact u.et e he
  .exact(w e he).1.1.2
variable{m:d6}
theorem vD{t:AC}{g z:d5}(w:WY t g)(A:Hr m.d3 g.d3.length)(he:Hr m.d4 g.d4.length)(h:ReO g z m):WY t z:=by
 have nd:∀n∈z.d3,n∈g.d3:=λn f=>by
  obtain ⟨j,B,C,rfl⟩:=BG f;obtain⟨i,⟨u,i1⟩,rfl⟩:=A.at B (by rw[<-h.nl];exact C);rw[h.node i u i1];exact AF u i1
 have ed:∀e∈z.d4,∃i:Int,(0<=i/\i<g.d4.length)/\e=⟨(AA g.d4 i).kg,AA m.d3 (AA g.d4 i).ke,AA m.d3 (AA g.d4 i).To⟩:=λe f=>by
  obtain ⟨j,B,C,rfl⟩:=BG f;obtain⟨i,⟨u,i1⟩,rfl⟩:=he.at B (by rw[<-h.el];exact C);exact⟨i,⟨u,i1⟩,h.edge i u i1⟩
 refine ⟨⟨by rw[h.nl];exact w.ok.ec,by rw[h.el];exact w.ok.eh,λn f=>w.ok.kind n (nd n f),λe f=>?_⟩,λn f=>w.kind n (nd n f),λe f=>?_⟩
 .obtain⟨i,⟨u,i1⟩,rfl⟩:=ed e f;have hf:=w.ok.fit _ (AF u i1);rw[h.nl];exact⟨hf.1,A.inn hf.2.1.1 hf.2.1.2,A.inn hf.2.2.1 hf.2.2.2⟩
 .obtain⟨i,⟨u,i1⟩,rfl⟩:=ed e f;have:=w.et _ (AF u i1);exact this
theorem R6(e:0<=i)(i1:i<n)(f:n<=l.length):AA (l.take n) i=AA l i:=by
 conv=>rhs;rw[<-List.take_append_drop n l]
 exact (Ll e h?).symm
variable{d:Fo}
theorem fL{t:AC}(B:Fc t)(hd:Xr d):∃r,NN t d=Y r/\DP t r=0/\(Bz r).Sm:=by
 have hv:=B.zero;have n5:=B.eh;have n6:=B.ec;obtain⟨p,e1,C⟩:=nv B hd.left;have hz:=C.zero B;have N:=C.g.okG B;have g8:=C.g.ec;have g10:=C.g.eh;obtain⟨fl,e2,E⟩:=ql N.ok hd.fl;obtain⟨O,k1,k2⟩:=qa N E;have hkn:(C0 p.d5 fl).d3.length=fl.d3.length:=by simp[C0]
 have hke:(C0 p.d5 fl).d4.length=fl.d4.length:=by simp[C0]
 obtain ⟨g,e3,δ⟩:=ur B O hd.ec hd.eh;have A:=mz O U U δ U U;obtain⟨ns,e4,w⟩:=ak (n:=g.d3.length) (by have:=A.ok.ec;omega) hd.order;obtain⟨es,e5,z⟩:=ak (n:=g.d4.length) (by have:=A.ok.eh;omega) hd.order;obtain⟨v,e6,e7,f⟩:=nw (m:=⟨ns,es⟩) A.ok w z;have hO:=vD A w z f;obtain⟨sl,e8,K⟩:=vA B (g:=v.1) (by have:=hO.ok.ec;omega) C.vars hd.slots;obtain⟨c,e9,hc,Q⟩:=qt B C hd.Abz.1.1 hd.Abz.1.2 hd.Abz.2.1 hd.Abz.2.2;have lns:=w.len;have les:=z.len;obtain⟨xs,ys,M,x2,y2,S,θ⟩:=δ;have P:g.d3=(C0 p.d5 fl).d3++xs:=by rw[M]
 have ge:g.d4=(C0 p.d5 fl).d4++ys:=by rw[M]
 have gnl:g.d3.length=(C0 p.d5 fl).d3.length+xs.length:=by rw[P,b6]
 have gel:g.d4.length=(C0 p.d5 fl).d4.length+ys.length:=by rw[ge,b6]
 have η:Ts (C0 p.d5 fl) v.1 ⟨ns.take (C0 p.d5 fl).d3.length,es.take (C0 p.d5 fl).d4.length⟩:=by
  refine ⟨O.ok,hO.ok,an,an,λi u i1=>?_,λi u i1=>?_⟩
  .simp only[bk]at i1|-;rw[R6 u U U,f.nl];refine⟨w.inn u U,(f.node i u U).trans ?_⟩;rw[P];exact Ll u U
  .simp only[bk]at i1|-;have hf:=(O.ok.fit _ (AF (l:=(C0 p.d5 fl).d4) u U)).2;rw[R6 u U U,f.el,R6 hf.1.1 hf.1.2 U,R6 hf.2.1 hf.2.2 U,f.edge i u U];refine⟨z.inn u U,?_⟩;rw[ge,Ll u U];exact⟨rfl,rfl,rfl⟩
 have F:∀{l:Fp}{n:Nat},Hr l n->l.Nodup:=λh=>h.nodup_iff.2 (Zg _);have hi:IW ⟨ns.take (C0 p.d5 fl).d3.length,es.take (C0 p.d5 fl).d4.length⟩=X:=by
  unfold IW;rw[Jm.2 ((F w).sublist (A_ _ _)),Jm.2 ((F z).sublist (A_ _ _))];rfl
 have out:∀{l:Fp}{n:Nat}{k:Nat}{x:Int},Hr l n->k<=n->x∈BC (l.take k) n->∃i:Int,((k:Int)<=i/\i<n)/\AA l i=x:=λ{l n k x}h E D=>by
  have G:=FW D;obtain⟨i,⟨u,i1⟩,e⟩:=h.at G.1 G.2;refine⟨i,⟨?_,i1⟩,e⟩;have ζ:hasB (l.take k) x=T:=by
   unfold BC at D;rw[x!]at D;simpa using D.2
  rcases Int.lt_or_le i k with ε|κ
  .have hl:=h.len;have h3:x∈l.take k:=by
    rw [<-e,<-R6 u ε U];exact AF u h?
   rw [Bu.2 h3]at ζ;cases ζ
  .exact κ
 have H:TI t v.1 (BC (ns.take (C0 p.d5 fl).d3.length) v.1.d3.length) (BC (es.take (C0 p.d5 fl).d4.length) v.1.d4.length)=X:=by
  unfold TI;rw[f.nl,f.el,pq,E_,E_,A',A'];refine⟨λx D=>?_,λx D=>?_⟩
  .obtain⟨i,⟨u,i1⟩,rfl⟩:=out w U D;rw[f.node i U i1,P];obtain⟨j,rfl⟩:∃j:Nat,i=(C0 p.d5 fl).d3.length+j:=⟨(i-(C0 p.d5 fl).d3.length).toNat,U⟩;rw[Xv,(P0.1 (S _ (AF U U))).2];decide
  .obtain⟨i,⟨u,i1⟩,rfl⟩:=out z U D;unfold HZ;have hf:=(A.ok.fit _ (AF (l:=g.d4) (i:=i) U i1)).2;rw[f.edge i U i1];dsimp only;rw[f.node _ hf.1.1 hf.1.2,f.node _ hf.2.1 hf.2.2,ge];obtain⟨j,rfl⟩:∃j:Nat,i=(C0 p.d5 fl).d4.length+j:=⟨(i-(C0 p.d5 fl).d4.length).toNat,U⟩;rw[Xv,(θ _ (AF U U)).2];decide
 have J:E1 t ⟨p.d5,[],0,[]⟩=0:=by
  have G:=C.g.ok B;unfold E1;rw[ae l_,ae (by simp[D6 G.1]),ae (by simp[G.2]),ae b!,ae V,ae V,ae (by simp[Uh (n:=0) (l:=[])]),ae];rw[Cg];rintro⟨i,u,i1,_⟩;exact absurd i1 b!
 unfold NN;rw[e1,bs,e2,bs,Vk ⟨U,U⟩,bs,ae (by unfold EG;simp[D6 N.ok,aa E])];dsimp only;rw[e3,bs,e4,bs,e5,bs,e6,bs,Ii U U,bs,Ii U U,bs,e8,bs,e9,bs];split
 .unfold Qh;dsimp only;rw[SN N.ok,bs,SN hO.ok,bs,BR b_,bs,BR b_,bs,BR a_,bs,BR a_,bs,bs];exact⟨_,rfl,bB (L:=⟨p.d5,[],0,[]⟩) (sl:=[]) (c:=Us) hv J hO ⟨V,(λs Z=>by cases Z),λi j j0 j1 i1=>i_⟩ E η hi (VC J) H,oT (show 1<=1000 by omega) ⟨b!,b!⟩ V ⟨by have:=hO.ok.ec;simp only;omega,by have:=hO.ok.eh;simp only;omega⟩ V ⟨b!,b!⟩ ⟨an,an⟩ Yx⟩
 .exact⟨_,rfl,bB hv hz hO K E η hi hc H,oT (show 1<=1000 by omega) ⟨b!,b!⟩ ⟨by have:=C.slots;simp only;omega,by have:=C.tests;simp only;omega⟩ ⟨by have:=hO.ok.ec;simp only;omega,by have:=hO.ok.eh;simp only;omega⟩ ⟨by have:=K.1;simp only;omega,V⟩ ⟨b!,b!⟩ ⟨an,an⟩ Q⟩
end Go.Sf.Sc
namespace Go.Sf.Sc
open Go Go.Sf
structure iH(d:Nx):Prop where
 ec:∀x∈d.d3,U2 x
 eh:∀x∈d.d4,U3 x
def ABl(t:AC)(k:Int)(v:Fp):Prop:=k∈QN t/\v.length=(As t k).length/\∀j:Int,0<=j->j<v.length->(AA (As t k) j).Low<=AA v j/\AA v j<=(AA (As t k) j).Aaf
theorem nu{t:AC}(J:Fc t){d:Nx}(hd:iH d):∃h,PW t d=Y h/\De t h=(-1,0):=by
 have hv:=J.zero;have hf:=J.few;have P:=Cd hv;have htn:=J.ec;have hte:=J.eh;unfold PW NJ;rw[Zr U,bs,bs];refine El (λi h=>(0<=i/\i<=8)/\((h.d5.d3.length:Int)<=i/\h.ej.length=h.d5.d3.length/\h.d5.d4=[])/\∀k:Int,0<=k->k<h.d5.d3.length->ABl t (AA h.d5.d3 k) (AA h.ej k)) 8 ⟨U,V,λk C D=>by simp at D;omega⟩ (λi h K⟨a1,⟨a2,a3,Q⟩,S⟩=>?_) (λi h K⟨a1,⟨a2,a3,Q⟩,S⟩_=>?_)
 .dsimp only;by_cases A:(i<d.d3.length/\i<8)/\0<((QN t).length:Int)
  .left;have B:=hd.ec _ (AF a1.1 A.1.1);obtain⟨r,δ,H,z⟩:=CN (show 0<=AJ (AA d.d3 i).a0 by rw[B.1.w];exact B.1.1) A.2;have F:=AF H z;have f:=(P0.1 F).1;refine⟨U,?_⟩;rw[ac l?,AD a1.1 A.1.1,bs,δ,bs,AD H z,bs,Om hf,bs,JC hv f.1 f.2,AT (n:=i+1) U U];dsimp only;generalize AA (QN t) r=kd at F f|-;have G:=(RQ J.n (kd+1).toNat kd f.2).1;have κ:=RP hf P f.1 f.2;have η:=U1 hf P f.1 f.2;unfold As at G;have G:(As t kd).length<=(kd+1).toNat:=G;refine ia (mk:=λs'=>Bo.next (s',i+1)) (Oe (a:=0) (b:=((As t kd).length:Int)) (s:=([]:Fp)) (λ(k:Int)(s:Fp)=>(s.length:Int)=k/\∀j:Int,0<=j->j<k->(AA (As t kd) j).Low<=AA s j/\AA s j<=(AA (As t kd) j).Aaf) U ⟨rfl,λj E ε=>U⟩ (λk s C D⟨s1,s2⟩=>?_) (λs⟨s1,s2⟩=>?_))
   .have m1:=κ _ (AF C D);have m2:=η _ (AF C D);have m3:=B.2.1;have m4:=B.2.2;rw[AD C D,bs,bs,bs,bs,AT (n:=(AA (As t kd) k).Aaf-(AA (As t kd) k).Low) U U,AT (n:=(AA (As t kd) k).Aaf-(AA (As t kd) k).Low+1) U U,B.2.w,AT (n:=7*k) U U,AT (n:=(AA d.d3 i).a1+7*k) U U];obtain⟨q,Z,q0,θ⟩:=CN (show 0<=(AA d.d3 i).a1+7*k by omega) (show 0<(AA (As t kd) k).Aaf-(AA (As t kd) k).Low+1 by omega);rw[Z,bs,AT (n:=(AA (As t kd) k).Low+q) U U,AS a_,bs];refine⟨_,rfl,an,λj E ε=>?_⟩;by_cases e:j=k
    .rw[M0 _ _ U,e];omega
    .rw[LY _ _ E U];exact s2 j E U
   .rw[AS a_,bs,AS a_,bs];refine⟨_,rfl,_,rfl,U,⟨an,an,Q⟩,λk C D=>?_⟩;simp only[b6,z?]at D;by_cases e:k=h.d5.d3.length
    .rw[M0 _ _ e,M0 _ _ U];exact⟨F,U,λj E ε=>s2 j E U⟩
    .rw[LY _ _ C U,LY _ _ C U];exact S k C U
  .right;rw[ae l?]
 dsimp only;refine El (λj u=>(0<=j/\j<=10)/\(u.d5.d3=h.d5.d3/\u.ej=h.ej/\(u.d5.d4.length:Int)<=j)/\∀e∈u.d5.d4,Uw t h.d5.d3.length e/\K0 t e.kg (AA h.d5.d3 e.ke) (AA h.d5.d3 e.To)=X) 10 ⟨U,⟨rfl,rfl,by rw[Q];simp⟩,by rw[Q];intro e he;cases he⟩ (λj u E⟨H,⟨z,M,b3⟩,N⟩=>?_) (λj u E⟨H,⟨z,M,b3⟩,N⟩_=>⟨u,rfl,?_⟩)
 .dsimp only;by_cases A:((j<d.d4.length/\j<10)/\0<(h.d5.d3.length:Int))/\0<(t.d4.length:Int)
  .left;have B:=hd.eh _ (AF H.1 A.1.1.1);obtain⟨r,δ,c1,c2⟩:=CN (show 0<=AJ (AA d.d4 j).a0 by rw[B.1.w];exact B.1.1) A.2;obtain⟨r1,Z,d1,d2⟩:=CN (show 0<=AJ (AA d.d4 j).a1 by rw[B.2.1.w];exact B.2.1.1) A.1.2;obtain⟨r2,e3,f1,f2⟩:=CN (show 0<=AJ (AA d.d4 j).a2 by rw[B.2.2.w];exact B.2.2.1) A.1.2;refine⟨U,?_⟩;rw[ac l?,AD H.1 A.1.1.1,bs,δ,bs,bs,Z,bs,bs,e3,bs,z,AD d1 d2,bs,AD f1 f2,bs,Yi hf,bs,AT (n:=j+1) U U];split
   .rename_i O;rw[AS a_,bs];exact⟨_,rfl,U,⟨rfl,M,an⟩,λe F=>(y?.1 F).elim (N e) λF=>by
     rw [z_.1 F];exact⟨⟨⟨c1,c2⟩,⟨d1,d2⟩,f1,f2⟩,O⟩⟩
   .exact⟨u,rfl,U,⟨z,M,U⟩,N⟩
  .right;rw[ae l?]
 .have go:Cc u.d5:=by
   refine ⟨by rw[z];omega,U,λn hn=>?_,λe he=>?_⟩
   .rw[z]at hn;obtain⟨k,C,D,rfl⟩:=BG hn;have:=(P0.1 (S k C D).1).1;omega
   .have:=(N e he).1;unfold Uw at this;rw[z];omega
  unfold De;rw[ae l_,ae (by simp[D6 go]),ae (by rw[z,M];simpa using a3),A5.2]
  .dsimp only;rw[A5.2]
   .rfl
   intro i K i1;obtain⟨θ,q2⟩:=N _ (AF K i1);have ζ:JN t u.d5 i=0:=by
    unfold JN HZ;rw[ae (by have:=θ.1.2;omega),z,q2];rfl
   rw [ζ];rfl
  .intro i K i1;rw[z]at i1;obtain⟨θ,q2,q3⟩:=S i K i1;have q4:=P0.1 θ;have ζ:GW t (AA u.d5.d3 i) (AA u.ej i)=0:=by
    rw [z,M];unfold GW;rw[ae U,ae (by simp[q4.2]),ae (by simpa using q2),ae];rw[Cg];rintro⟨j,E,ε,e⟩;have:=q3 j E U;simp[RA]at e;omega
   rw [ζ];rfl
end Go.Sf.Sc
namespace Go.Sf.Sc
open Go Go.Sf
instance:Inhabited Fo:=⟨⟨⟨⟨[],[]⟩,[],[]⟩,0,[],[],[],T,T,⟨0,0,0,0⟩,[]⟩⟩
end Go.Sf.Sc
namespace Go.Sf.Sc
open Go Go.Sf
end Go.Sf.Sc
namespace Go.Sf.Sc
open Go Go.Sf
variable{k:Int}
theorem bN{t:AC}(f:Em t k){c:Int}:∀(n m:Nat)(a b:Int),a<k->a<n->b<m->b∈KY t n a->c∈KY t m b->c∈KY t n a
 |0,_,_,_,_,_,_,hb,_=>by simp[KY]at hb|n+1,m,a,b,ha,z,w,hb,u=>by
  rw [KY]at hb|-;split at hb
  .cases hb
  .rename_i h0;rw[ae h0];have A:=f a U ha;rcases A!.1 hb with rfl|hb
   .have e:=o7 f m (n+1) b ha w z;rw[e,KY,ae h0]at u;exact u
   .exact A? _ (bN f n m (par t a) b U U w hb u)
theorem aP{t:AC}(h:FO t){a b c:Int}(ha:a<t.d3.length)(f:Gp t a b=X)(u:Gp t b c=X):Gp t a c=X:=by
 unfold Gp at f u|-;rw[List.any_eq_true]at f u|-;obtain⟨x,z,e⟩:=f;obtain⟨y,A,w⟩:=u;rw[tn]at e w;subst e;subst w;exact⟨c,bN h.par _ _ a b ha U U z A,V⟩
theorem p5{t:AC}(h:FO t){e f g w z:Int}(hf:0<=w/\w<t.d3.length)(A:0<=z/\z<t.d3.length)(B:Gp t w f=X)(C:Gp t z g=X)(u:K0 t e f g=X):K0 t e w z=X:=by
 unfold K0 at u|-;simp only[pq,NA]at u|-;exact⟨⟨⟨u.1.1.1,hf,A⟩,u.1.2⟩,aP h hf.2 B u.2.1,aP h A.2 C u.2.2⟩
end Go.Sf.Sc
namespace Go.Sf.Sc
open Go Go.Sf
variable{r:ff}
theorem fo{t:AC}(h:DP t r=0):(∀x∈Ek r,(AA t.d3 (AA r.ei.d5.d3 x)).qo=T)/\∀x∈Kv r,HZ t r.ei.d5 x=X:=by
 have e:TI t r.ei.d5 (Ek r) (Kv r)=X:=by grind[DP]
 unfold TI at e;rw[pq,E_,E_,A',A']at e;exact⟨λx f=>by simpa using e.1 x f,λx f=>by simpa using e.2 x f⟩
abbrev gS(t:AC)(r:ff)(h:AG)(m:AP):AG:=Ci t r (CB h (dS r h m)) (cS r h m)
theorem H0.eh{t:AC}{h:AG}{m:AP}(s:H0 t r h m):∀e∈(gS t r h m).d5.d4,((0<=e.ke/\e.ke<(gS t r h m).d5.d3.length)/\0<=e.To/\e.To<(gS t r h m).d5.d3.length)/\K0 t e.kg (AA (gS t r h m).d5.d3 e.ke) (AA (gS t r h m).d5.d3 e.To)=X:=by
 intro e he;have el:(gS t r h m).d5.d3=(dS r h m).d3.map (AA h.d5.d3)++(Ek r).map (AA r.ei.d5.d3):=rfl;have he:e∈(dS r h m).d4.map (λx=>XK (GO h (dS r h m)).d3 (AA h.d5.d4 x))++(Kv r).map (λk=>XK (cS r h m).d3 (AA r.ei.d5.d4 k)):=he;rcases y?.1 he with he|he
 .obtain⟨x,D,rfl⟩:=y!.1 he;have C:=Vg (fI s.part).2;have u:=C.eh.1 x D;have f:=C.ends x D;have hf:=(s.hh.g.fit _ (AF u.1 u.2)).2;have J:=(UG s.he).2 x u.1 u.2;have fit:HZ t h.d5 x=X:=by
   unfold JN at J
   grind
  have at_:∀y,y∈(dS r h m).d3->0<=y->y<h.d5.d3.length->(0<=AA (GO h (dS r h m)).d3 y/\AA (GO h (dS r h m)).d3 y<(gS t r h m).d5.d3.length)/\AA (gS t r h m).d5.d3 (AA (GO h (dS r h m)).d3 y)=AA h.d5.d3 y:=λy F G H=>by
   have hi:=HM F;rw[show AA (GO h (dS r h m)).d3 y=DL (dS r h m).d3 y from Ui G H,el,b6,c9];refine⟨⟨hi.1,by have:=hi.2.1;push_cast;omega⟩,?_⟩;rw[mK hi.1 (by rw[c9];exact hi.2.1),GU hi.1 hi.2.1,hi.2.2.1]
  obtain ⟨a1,a2⟩:=at_ _ f.1 hf.1.1 hf.1.2;obtain⟨A,B⟩:=at_ _ f.2 hf.2.1 hf.2.2;refine⟨⟨a1,A⟩,?_⟩;simp only[XK];rw[a2,B];exact fit
 .obtain⟨k,E,rfl⟩:=y!.1 he;have w:0<=k/\k<r.ei.d5.d4.length:=FW E;have hf:=(s.ro.right.fit _ (AF w.1 w.2)).2;obtain⟨a1,a3,a2⟩:=s.AbK hf.1.1 hf.1.2;obtain⟨A,K,B⟩:=s.AbK hf.2.1 hf.2.2;have z:=s.put.kind;refine⟨⟨a1,A⟩,?_⟩;exact p5 (Cd s.hv) ⟨(z _ (AF a1.1 a1.2)).1,a3⟩ ⟨(z _ (AF A.1 A.2)).1,K⟩ a2 B ((fo s.re).2 k E)
end Go.Sf.Sc
namespace Go.Sf.Sc
open Go Go.Sf
def jz(t:AC)(k:Int)(v:Fp):Prop:=v.length=(As t k).length/\∀j:Int,0<=j->j<v.length->(AA (As t k) j).Low<=AA v j/\AA v j<=(AA (As t k) j).Aaf
def Xm(t:AC)(g:d5)(κ:List Fp):Prop:=κ.length=g.d3.length/\∀i:Int,0<=i->i<g.d3.length->jz t (AA g.d3 i) (AA κ i)
variable{x:AG}
theorem my{t:AC}{κ:List Fp}(h:Xm t x.d5 κ){p:(Int×Int)×Int}(A:Nc t x p=T):Xm t x.d5 (CP κ p):=by
 unfold CP;split
 .rename_i h0;refine⟨by rw[List.length_modify];exact h.1,λi B i1=>?_⟩;have hi:=h.2 i B i1;by_cases e:i=p.1.1
  .have f:AA (κ.modify p.1.1.toNat λr=>r.set p.1.2.toNat p.2) i=(AA κ i).set p.1.2.toNat p.2:=by
    have:=h.1;subst e;simp[AA,B_,x_ (show p.1.1.toNat<κ.length by omega)]
   rw [f];refine⟨by rw[B'];exact hi.1,λj w z=>?_⟩;rw[B']at z;by_cases u:j=p.1.2
   .rw[show AA ((AA κ i).set p.1.2.toNat p.2) j=p.2 by rw[u];exact Py p.2 h0.2 U,u,e];simp[Nc]at A;omega
   .rw[show AA ((AA κ i).set p.1.2.toNat p.2) j=AA (AA κ i) j from TQ p.2 h0.2 w u];exact hi.2 j w z
  .have f:AA (κ.modify p.1.1.toNat λr=>r.set p.1.2.toNat p.2) i=AA κ i:=by
    simp [AA,B!,B_,show¬p.1.1.toNat=i.toNat by omega]
   rw [f];exact hi
 .exact h
theorem aJ{t:AC}:∀(L:BX){κ:List Fp},Xm t x.d5 κ->L.any (Nc t x)=T->Xm t x.d5 (L.foldl CP κ)
 |[],_,h,_=>h|p::L,κ,h,e=>by
  rw [List.any_cons,Bool.or_eq_false_iff]at e;exact aJ L (my h e.1) e.2
variable{r:ff}
theorem H0.ec{t:AC}{h:AG}{m:AP}(s:H0 t r h m):(∀n∈(gS t r h m).d5.d3,(AA t.d3 n).qo=T)/\∀v n,(n,v)∈(gS t r h m).d5.d3.zip (gS t r h m).ej->jz t n v:=by
 have F:=Cd s.hv;have el:(gS t r h m).d5.d3=(dS r h m).d3.map (AA h.d5.d3)++(Ek r).map (AA r.ei.d5.d3):=rfl;have ev:(gS t r h m).ej=(dS r h m).d3.map (AA h.ej)++(Ek r).map (λk=>VU t (AA r.ei.d5.d3 k)):=rfl;have old:∀x∈(dS r h m).d3,(AA t.d3 (AA h.d5.d3 x)).qo=T/\jz t (AA h.d5.d3 x) (AA h.ej x):=λx f=>by
  have f:=s.rem.ec.1 x f;have u:=(UG s.he).1 x f.1 f.2;unfold GW at u;split at u
  .cases u
  split at u
  .cases u
  split at u
  .cases u
  split at u
  .cases u
  rename_i a1 a2 a3 G;refine⟨by simpa using a2,F_.1 a3,λj C D=>?_⟩;have:=Bm.1 (by simpa using G) j C U;simp[RA]at this;omega
 have new:∀k∈Ek r,jz t (AA r.ei.d5.d3 k) (VU t (AA r.ei.d5.d3 k)):=λk E=>by
  have A:0<=k/\k<r.ei.d5.d3.length:=FW E;have B:=(He s.ro.right s.ro.Abi).1 _ (AF A.1 A.2);refine⟨by simp[VU],λj C D=>?_⟩;simp only[VU,c9]at D|-;have:=U1 s.hf F B.1 B.2 _ (AF C D);rw[show AA ((As t (AA r.ei.d5.d3 k)).map λx=>x.Low) j=(AA (As t (AA r.ei.d5.d3 k)) j).Low by grind[AA,x_]];omega
 refine ⟨λn z=>?_,λv n w=>?_⟩
 .rw[el]at z;rcases y?.1 z with z|z
  .obtain⟨x,f,rfl⟩:=y!.1 z;exact(old x f).1
  .obtain⟨k,E,rfl⟩:=y!.1 z;exact(fo s.re).1 k E
 .rw[el,ev,List.zip_append V]at w;rcases y?.1 w with w|w
  .rw[B?,y!]at w;obtain⟨x,f,e⟩:=w;cases e;exact(old x f).2
  .rw[B?,y!]at w;obtain⟨x,f,e⟩:=w;cases e;exact new x f
end Go.Sf.Sc
namespace Go.Sf.Sc
open Go Go.Sf
variable{α β:Type}{i:Int}
theorem yp[Inhabited α][Inhabited β]{a:List α}{b:List β}(e:0<=i)(f:i<a.length)(u:i<b.length):(AA a i,AA b i)∈a.zip b:=by
 refine List.mem_of_getElem? (i:=i.toNat) ?_;rw[List.getElem?_zip_eq_some]
 grind [AA,x_]
variable{r:ff}
theorem WZ{t:AC}{h:AG}{m:AP}(s:Qr t r h m):De t (Oy t r h m)=(-1,0):=by
 have f:=s.f;have hv:=f.hv;have z:=Cd hv;have put:=f.put;have ed:=f.eh;obtain⟨F,G⟩:=f.ec;have M:=z.ec;have N:=z.eh;have u:Xm t (gS t r h m).d5 (gS t r h m).ej:=⟨put.Ab3,λi w i1=>G _ _ (yp w i1 (by rw[put.Ab3];exact i1))⟩;have good:=aJ (x:=gS t r h m) _ u (fJ s.put).2;have A:∀e∈(gS t r h m).d5.d4,0<=e.kg/\e.kg<t.d4.length:=λe he=>by
  have:=(ed e he).2;unfold K0 at this;simp only[pq,tn]at this;exact this.1.2
 have go:Cc (gS t r h m).d5:=⟨s.few.1,s.few.2,λn D=>by have:=put.kind n D;omega,λe he=>⟨by have:=A e he;omega,(ed e he).1⟩⟩;have E:(Oy t r h m).d5=(gS t r h m).d5:=rfl;have ev:(Oy t r h m).ej=(CC r (cS r h m) m.fd).foldl CP (gS t r h m).ej:=rfl;unfold De;rw[ae l_,E,ev,ae (by simp[D6 go]),ae (by simpa using good.1),A5.2]
 .dsimp only;rw[A5.2]
  .rfl
  intro i w i1;have B:=AF w i1;have C:JN t (gS t r h m).d5 i=0:=by
   unfold JN HZ;rw[ae (by have:=A _ B;omega),(ed _ B).2];rfl
  rw [C];rfl
 .intro i w i1;have B:=AF w i1;obtain⟨H,J⟩:=good.2 i w i1;have C:GW t (AA (gS t r h m).d5.d3 i) (AA ((CC r (cS r h m) m.fd).foldl CP (gS t r h m).ej) i)=0:=by
   unfold GW;rw[ae (by have:=put.kind _ B;omega),ae (by simp[F _ B]),ae v5,ae];rw[Cg];rintro⟨j,K,O,e⟩;have:=J j K U;simp[RA]at e;omega
  rw [C];rfl
end Go.Sf.Sc
namespace Go.Sf.Sc
open Go Go.Sf
theorem vF{t:AC}{rules:List ff}{h:AG}(w:Gr t rules h=0):(∀r∈rules,DP t r=0)/\(De t h).2=0:=by
 have e:FX t rules=0/\(De t h).2=0:=by grind[Gr]
 refine ⟨λr hr=>?_,e.2⟩;obtain⟨i,u,i1,rfl⟩:=BG hr;have f:(fst (λi=>nz (DP t (AA rules i))) 0 rules.length).getD 0=0:=by grind[FX]
 exact VO f i u i1
variable{r:ff}
theorem tW{t:AC}(hf:Ar t){h:AG}(f:DP t r=0)(e:(De t h).2=0):(HT t r h).2=0\/(HT t r h).2=3:=by
 have w:RW t r h=0:=by unfold RW;simp[f,e]
 have u:=(Ue f).1;have z:OH t r.gp h=0:=by unfold OH;simp[u,e]
 obtain ⟨hv,hh⟩:=P7 hf e;obtain⟨go,ty⟩:=Yf u;have A:Ec t r.gp.d5 h.d5=0:=by unfold Ec;simp[hv,D6 go,hh.ge,ty,hh.ty]
 unfold HT LZ Ly
 grind
end Go.Sf.Sc
namespace Go.Sf.Sc
open Go Go.Sf
theorem V6(l:Fp)(v:Int):slices_Contains_int l v=Y (hasB l v):=MO l v
def M3(g:d5)(a b:Int):Nat:=g.d4.countP λe=>decide (e.ke=a)&&decide (e.To=b)
variable{g:d5}
theorem UT(h:g.d4.length<=1000)(a b:Int):JP g a b=Y (M3 g a b:Int):=by
 unfold JP M3;have u:∀l:List Bk,(l.countP λe=>decide (e.ke=a)&&decide (e.To=b))<=l.length:=λl=>List.countP_le_length;rw[B0 (λi=>(((g.d4.take i.toNat).countP λe=>decide (e.ke=a)&&decide (e.To=b)):Int)) U V]
 .rw[bs,w_,C_]
 intro i f i1;have:=u (g.d4.take i.toNat);rw[bk]at this;rw[AD f i1,bs,B5 f i1,List.countP_append];by_cases e:((decide ((AA g.d4 i).ke=a))&&(decide ((AA g.d4 i).To=b)))=X
 .rw[ac e,AT U U];simp[C',e]
 .rw[ae e];simp[C',e]
def iv(x y:AG)(mn:Fp)(l j:Int):Bool:=
 decide (M3 x.d5 j l=M3 y.d5 (AA mn j) (AA mn l))&&decide (M3 x.d5 l j=M3 y.d5 (AA mn l) (AA mn j))
def Tc(x y:AG)(mn:Fp)(l:Int):Bool:=!l3 (λj=>!iv x y mn l j) 0 (l+1)
variable{l:Fp}{i j:Int}
theorem x8(e:0<=j)(h:j<i):AA (l.take i.toNat) j=AA l j:=by
 unfold AA;rw[B!,B!,List.getElem?_take,ac U]
variable{x y:AG}
theorem nY(f:x.d5.d4.length<=1000)(u:y.d5.d4.length<=1000){mn ns es me:Fp}(D:mn.length<=1000){l:Int}(w:0<=l)(l1:l<mn.length):
  GT ⟨x,y,ns,es,⟨mn.take (l+1).toNat,me⟩⟩=Y (Tc x y mn l):=by
 unfold GT;have C:((mn.take (l+1).toNat).length:Int)=l+1:=h?
 dsimp only;rw[C,show l+1-1=l by omega,AT U U,BS (λj=>!iv x y mn l j) T]
 .unfold Tc;cases l3 (λj=>!iv x y mn l j) 0 (l+1)<;>rfl
 intro j z B;rw[AD z U,bs,x8 z B,UT f,bs,AD w U,bs,x8 w U,UT u,bs,UT f,bs,bs,UT u,bs];unfold iv;by_cases e:M3 x.d5 j l=M3 y.d5 (AA mn j) (AA mn l)
 .rw[ae c_,bs];by_cases A:M3 x.d5 l j=M3 y.d5 (AA mn l) (AA mn j)
  .simp[e,A]
  .rw[ac (by simp only[E_,decide_eq_false_iff_not];omega)];simp[e,A]
 .rw[ac (by simp only[E_,decide_eq_false_iff_not];omega),bs,ac rfl];simp[e]
structure yq(x y:AG)(m:d6):Prop where
 nl:m.d3.length=x.d5.d3.length
 el:m.d4.length=x.d5.d4.length
 xn:x.d5.d3.length<=1000
 xe:x.d5.d4.length<=1000
 yn:y.d5.d3.length<=1000
 ye:y.d5.d4.length<=1000
 xv:x.ej.length=x.d5.d3.length
 yv:y.ej.length=y.d5.d3.length
 xends:∀e∈x.d5.d4,(0<=e.ke/\e.ke<x.d5.d3.length)/\0<=e.To/\e.To<x.d5.d3.length
 nin:∀k∈m.d3,0<=k/\k<y.d5.d3.length
 ein:∀k∈m.d4,0<=k/\k<y.d5.d4.length
end Go.Sf.Sc
namespace Go.Sf.Sc
open Go Go.Sf
end Go.Sf.Sc
namespace Go.Sf.Sc
open Go Go.Sf
theorem sN(n:Nat):(Ao n).Nodup:=by
 unfold Ao;exact List.Pairwise.map _ (λa b h e=>h (Int.ofNat.inj e)) w?
variable{l:Fp}{n:Nat}{i:Int}
theorem mI(f:l.Nodup)(w:l.length=n)(h:∀x∈l,0<=x/\x<n)(u:0<=i)(i1:i<n):i∈l:=by
 by_cases hi:i∈l
 .exact hi
 .have:=XL (l:=i::l) (n:=n) (List.nodup_cons.2 ⟨hi,f⟩) (λx e=>by
   rcases A!.1 e with rfl|e
   .exact⟨u,i1⟩
   .exact h x e)
  simp at this;omega
theorem Mv:l.Nodup↔∀i:Int,0<=i->i<l.length->hasB (l.take i.toNat) (AA l i)=T:=by
 rw [<-Jm];unfold Jl;rw[E_,Bm];refine⟨λh i u i1=>?_,λh i u i1=>?_⟩
 .have:=h i u i1;rw[Bm]at this;rw[<-E',Bu];intro z;obtain⟨j,f,w,e⟩:=BG z;rw[bk]at w;have A:=this j f U;rw[x8 f U]at e;simp[e]at A
 .rw[Bm];intro j f w;have:=h i u i1;rw[<-E',Bu]at this;simp only[decide_eq_false_iff_not];intro e;refine this ?_;rw[e,<-x8 f w];exact AF f h?
theorem Zq{x y:d5}{mn me:Fp}(nn:mn.length=x.d3.length)(nd:mn.Nodup)(en:me.length=x.d4.length)(ee:x.d4.length=y.d4.length)(ed:me.Nodup)(ein:∀k∈me,0<=k/\k<y.d4.length)
  (ends:∀e∈x.d4,(0<=e.ke/\e.ke<x.d3.length)/\0<=e.To/\e.To<x.d3.length)
  (edge:∀i:Int,0<=i->i<x.d4.length->AA y.d4 (AA me i)=⟨(AA x.d4 i).kg,AA mn (AA x.d4 i).ke,AA mn (AA x.d4 i).To⟩)
  {a b:Int}(a0:0<=a)(a1:a<x.d3.length)(E:0<=b)(F:b<x.d3.length):M3 x a b=M3 y (AA mn a) (AA mn b):=by
 have G:me.Perm (Ao y.d4.length):=(List.perm_ext_iff_of_nodup ed (sN _)).2 λk=>⟨λw=>Cu.2 (ein k w),λw=>mI ed U ein (Cu.1 w).1 (Cu.1 w).2⟩;have D:=G.map (AA y.d4);rw[S7]at D;have H:x.d4.map (λe=>(⟨e.kg,AA mn e.ke,AA mn e.To⟩:Bk))=me.map (AA y.d4):=by
  rw [eK x.d4,eK me,en];refine C9 λj f C=>?_;exact(edge j f C).symm
 unfold M3;rw[<-D.countP_eq,<-H,List.countP_map];refine List.countP_congr λe he=>?_;obtain⟨⟨J,K⟩,M,N⟩:=ends e he;have inj:∀{i j:Int},0<=i->i<x.d3.length->0<=j->j<x.d3.length->AA mn i=AA mn j->i=j:=λ{i j}z i1 f C e=>by
  by_cases A:i<j
  .have:=Mv.1 nd j f U;rw[<-E',Bu]at this;refine absurd ?_ this;rw[<-e,<-x8 z A];exact AF z h?
  by_cases B:j<i
  .have:=Mv.1 nd i z U;rw[<-E',Bu]at this;refine absurd ?_ this;rw[e,<-x8 f B];exact AF f h?
  omega
 simp only[Function.comp_apply,pq,tn];exact⟨λ⟨u,v⟩=>⟨by rw[u],by rw[v]⟩,λ⟨u,v⟩=>⟨inj J K a0 a1 u,inj M N E F v⟩⟩
end Go.Sf.Sc
namespace Go.Sf.Sc
open Go Go.Sf
noncomputable def Kt(t:AC)(st:AU):Bool:=decide ((EJ t st.ff st.j4 st.og).2=0)&&iV (EJ t st.ff st.j4 st.og).1 st
variable{st:AU}
theorem eo{t:AC}(hf:Ar t)(fr:IQ st.ff)(f:Di st.ff.d7<=40):Je t st=Y (Kt t st):=by
 unfold Je Kt;rw[Yc hf fr f,bs];by_cases e:(EJ t st.ff st.j4 st.og).2=0
 .rw[ac c_,uf,bs,bs];simp[e]
 .rw[ae c_,bs];simp[e]
theorem iQ{t:AC}(hf:Ar t)(fr:IQ st.ff)(w:Di st.ff.d7<=40)(h:Kt t st=X):Kn st.j4/\L0 st.j4 st/\EH st.hV:=by
 unfold Kt at h;simp only[pq,tn]at h;obtain⟨s,e⟩:=R5 hf fr w h.1;have f:=TW.1 h.2;rw[e]at f;have u:=bR s;have tk:=s.trk;dsimp only at f;rw[f]at u tk;exact⟨u.b,tk,tk.sm⟩
theorem mf{t:AC}(hf:Ar t){rules:List ff}(hr:GM rules){d:CA}(h:SW t rules d):∀n:Nat,n<=d.mo.length->(De t (Jd t rules d.l4 (d.mo.take n)).2).2=0
 |0,_=>(ZG hf h.given).2.1|n+1,u=>by
  have he:=h.moves n U U;have e:=B5 (l:=d.mo) (i:=(n:Int)) U U;rw[show((n:Int)+1).toNat=n+1 by omega,w_]at e;unfold R9 at he;rw[w_]at he;obtain⟨_,s,f⟩:=WE hf hr he;rw[e,SR,f];exact congrArg Prod.snd (WZ s)
theorem XC:∀(l:List AU)(m:d6),(Q7 m l).d3.length=m.d3.length/\(Q7 m l).d4.length=m.d4.length
 |[],m=>⟨rfl,rfl⟩|s::l,m=>by
  have:=XC l (KA m s.p0);simp only[KA,D3,c9]at this;exact this
structure sR(t:AC)(d:CA)(x:AG×d6×Int):Prop where
 small:EH x.1
 ok:IR t x.1
 Aak:x.2.1.d3.length=d.l4.d5.d3.length
 Aao:x.2.1.d4.length=d.l4.d5.d4.length
 inn:Kb x.2.1 x.1.d5
theorem US{l f:Fp}(z:l.length<=1000)(h:∀x∈l,-1<=x/\x<f.length):D8 l f=Y (D3 l f):=by
 unfold D8;rw[UK (F:=λx=>if x<0 then -1 else AA f x) λi s u i1 A=>?_]
 .rfl
 .have w:=h _ (AF u i1);rw[AD u i1,bs];by_cases e:0<=AA l i
  .rw[ac f_,AD e w.2,bs,AS a_,bs,ae U]
  .rw[ae f_,AS a_,bs,ac U,show AA l i=-1 by omega]
variable{x:AG}
theorem nU(h:EH x):Np x=Y x:=by
 have:=h.ec;have:=h.eh;have:=h.vals;unfold Np slices_Clone_int DQ;rw[BR b_,bs,BR b_,bs];rw[B0 (λi=>AG.mk x.d5 (x.ej.take i.toNat)) U t_]
 .rw[w_,C_];rfl
 .intro i e i1;have f:=h.rows _ (AF e i1);rw[AD e i1,bs,BR b_,bs,AS (by rw[bk];simp;unfold AX;omega),bs,B5 e i1]
theorem H4(l e:Fp):(D3 l e).length=l.length:=by unfold D3;rw[c9]
def Lz(s:AU)(p:BE):d6:=⟨D3 p.d3 s.p0.d3,D3 p.d4 s.p0.d4⟩
variable{s:AU}
theorem m7{p:BE}(e:Xo s.j4 p)(f:L0 s.j4 s):Kb (Lz s p) s.hV.d5:=by
 refine ⟨by show(D3 _ _).length<=1000;rw[H4];exact e.Aak,by show(D3 _ _).length<=1000;rw[H4];exact e.Aao,?_,?_⟩
 .exact Pw (λx u=>by have:=e.node x u;rw[f.Aak];omega) f.node
 .exact Pw (λx u=>by have:=e.edge x u;rw[f.Aao];omega) f.edge
theorem ef{p:BE}(e:Xo s.j4 p)(u:L0 s.j4 s)(w:EH s.hV):JO s p=Y ⟨⟨s.hV,[]⟩,s.hV,Lz s p⟩:=by
 unfold JO;rw[nU w,bs,US e.Aak (λx f=>by have:=e.node x f;rw[u.Aak];omega),bs,US e.Aao (λx f=>by have:=e.edge x f;rw[u.Aao];omega),bs];rfl
theorem qZ{t:AC}(hf:Ar t){rules:List ff}(hr:GM rules){a b:AU}(fa:IQ a.ff)(ka:Di a.ff.d7<=40)(fb:IQ b.ff)(kb:Di b.ff.d7<=40):
  JQ t rules a b=Y (if FX t rules≠0 then FX t rules else if(Kt t a&&Kt t b)=T then 1 else if a.j4=b.j4 then 0 else 8):=by
 have w:(Ze t rules ⟨⟨⟨[],[]⟩,[]⟩,[]⟩).2.2=FX t rules:=by
  by_cases h:FX t rules=0
  .have hv:(A0 t).2=0:=by
    unfold FX at h;split at h
    next k=>exact absurd h k
    next k=>exact F_.1 k
   have hh:(De t ⟨⟨[],[]⟩,[]⟩).2=0:=by
    unfold De;rw[ae l_,ae (by simp[B2]),ae V,A5.2 (λi u i1=>i_)];dsimp only;rw[A5.2 (λi u i1=>i_)];rfl
   have f:Gr t rules ⟨⟨[],[]⟩,[]⟩=0:=by
    unfold Gr;rw[ae s?];exact hh
   rw [yC (d:=⟨⟨⟨[],[]⟩,[]⟩,[]⟩) ⟨f,V,λi u i1=>i_⟩];exact h.symm
  .have f:Gr t rules ⟨⟨[],[]⟩,[]⟩=FX t rules:=by
    unfold Gr;rw[ac h]
   unfold Ze;rw[ac (by rw[f];exact h)];exact f
 unfold JQ E6;rw[qX hf hr,bs,w];by_cases h:FX t rules=0
 case neg=>rw[ac b?,ac h]
 rw [ae s?,ae s?,eo hf fa ka,bs];cases Kt t a with
 |false=>rfl|true=>
  rw [ae a!,eo hf fb kb,bs,bs];cases Kt t b with
  |false=>rfl|true=>
   rw [ae a!,ZW,bs];by_cases e:a.j4=b.j4
   .rw[ae c_,ae a!,ac e]
   .rw[ac c_,ae a!,ae e]
theorem nC{t:AC}(h:IR t x):Cc x.d5/\x.ej.length=x.d5.d3.length/\∀e∈x.d5.d4,(0<=e.ke/\e.ke<x.d5.d3.length)/\0<=e.To/\e.To<x.d5.d3.length:=⟨h.g,h.len,λe he=>(h.g.fit e he).2⟩
end Go.Sf.Sc
namespace Go.Sf.Sc
open Go Go.Sf
structure ACQ(t:AC)(a b:AU)(p:BE)(x y:AG×d6×Int)(iso:d6):Prop where
 ha:L0 a.j4 a
 hb:L0 b.j4 b
 pa:Xo a.j4 p
 pb:Xo b.j4 p
 fx:∃d,d.l4=a.hV/\sR t d x
 fy:∃d,d.l4=b.hV/\sR t d y
 io:yq x.1 y.1 iso
 i1:iso.d3.length<=1000
 i2:iso.d4.length<=1000
 sa:EH a.hV
 sb:EH b.hV
end Go.Sf.Sc
namespace Go.Sf.Sc
open Go Go.Sf
variable{c:Bool}
theorem UD{b:Bool}{o:K1}(h:b=T->o=Y c):(if b=X then Y X else o.bind λx=>Y (!x))=Y (b||!c):=by
 cases b with
 |true=>rfl|false=>rw[ae a!,h rfl];rfl
structure ACP(t:AC)(rules:List ff)(a b:AU)(j:Aaa):Prop where
 gr:FX t rules=0
 ga:Kt t a=X
 gb:Kt t b=X
 before:a.j4=b.j4
 left:j.gp.l4=a.hV
 right:j.ei.l4=b.hV
theorem Xh:∀{l:Fq}(n:Nat),TV.tc l->TV.tc (l.take n)
 |[],n,_=>by cases n<;>trivial
 |x::l,0,_=>trivial|x::l,n+1,h=>⟨h.1,Xh n h.2⟩
theorem Xg:∀{l:Fq}(n:Nat),TV.tc l->TV.tc (l.drop n)
 |[],n,_=>by cases n<;>trivial
 |x::l,0,h=>h|x::l,n+1,h=>Xg n h.2
end Go.Sf.Sc
namespace Go.Sf.Sc
open Go Go.Sf
variable{α:Type}{n:Nat}
theorem Im{e:α->TV}{l:List α}(h:TV.WF (eL n e l)):∀x∈l,(e x).WF:=by
 have z:TV.WF (.list n (l.map e)):=h;simp only[TV.WF]at z;intro x A;have key:∀{u:Fq},TV.tc u->∀t∈u,t.WF:=by
  intro u
  induction u with
  |nil=>intro _ t f;cases f
  |cons a l B=>
   intro w t f;rcases A!.1 f with rfl|f
   .exact w.1
   .exact B w.2 t f
 exact key z.2 _ (y!.2 ⟨x,A,rfl⟩)
theorem Lh{x:Int}(h:(Eb x).WF):U8 x:=by
 have e:IntKind.u8.min<=x/\x<=IntKind.u8.max:=h;rw[show IntKind.u8.min=0 by decide,show IntKind.u8.max=255 by decide]at e;exact⟨e.1,U⟩
theorem gL{x:Lj}(h:(Kx x).WF):U2 x:=⟨Lh h.1,Lh h.2.1⟩
theorem Vx{x:KC}(h:(DB x).WF):U3 x:=⟨Lh h.1,Lh h.2.1,Lh h.2.2.1⟩
variable{d:Fo}
theorem bP(h:(KJ d).WF):Xr d:=by
 have u:TV.tc [_,_,_,_,_,_,_,_,_,_,_,_,_,_,_]:=h;obtain⟨w,z,A,_,B,C,D,E,_,_,F,G,H,J,K,_⟩:=u;have f:IntKind.u64.min<=d.pr/\d.pr<=IntKind.u64.max:=B;rw[show IntKind.u64.min=0 by decide,show IntKind.u64.max=18446744073709551615 by decide]at f;exact⟨⟨⟨λx e=>Lh (Im w x e),λx e=>Vx (Im z x e)⟩,λx e=>Vx (Im A x e)⟩,⟨f.1,U⟩,
  λx e=>Lh (Im C x e),λx e=>Vx (Im D x e),λx e=>Vx (Im E x e),⟨⟨Lh F,Lh G⟩,Lh H,Lh J⟩,λx e=>Lh (Im K x e)⟩
end Go.Sf.Sc
namespace Go.Sf.Sc
open Go Go.Sf
def Ng(x y:AG)(ns mn:Fp)(i j:Int):Bool:=
 (decide (AA ns i<0)||decide (AA ns i=j))&&decide (AA y.d5.d3 j=AA x.d5.d3 i)&&!hasB mn j&&decide (AA x.ej i=AA y.ej j)
def P3(x y:AG)(es mn me:Fp)(i j:Int):Bool:=
 (decide (AA es i<0)||decide (AA es i=j))&&decide (AA y.d5.d4 j=⟨(AA x.d5.d4 i).kg,AA mn (AA x.d5.d4 i).ke,AA mn (AA x.d5.d4 i).To⟩)&&!hasB me j
def G5(x y:AG)(es mn:Fp):Nat->Fp->Option Fp
 |0,me=>Y me|k+1,me=>fst (λj=>if P3 x y es mn me me.length j=X then G5 x y es mn k (me++[j])else W) 0 y.d5.d4.length
def MW(x y:AG)(ns es:Fp):Nat->Fp->Option d6
 |0,mn=>(G5 x y es mn x.d5.d4.length []).map (d6.mk mn)|k+1,mn=>fst (λj=>if Ng x y ns mn mn.length j=X then MW x y ns es k (mn++[j])else W) 0 y.d5.d3.length
def ZQ(x y:AG)(es mn r:Fp)(n:Int):Prop:=∀i:Int,0<=i->i<n->(0<=AA r i/\AA r i<y.d5.d4.length)/\P3 x y es mn (r.take i.toNat) i (AA r i)=X
def ZR(x y:AG)(ns r:Fp)(n:Int):Prop:=∀i:Int,0<=i->i<n->(0<=AA r i/\AA r i<y.d5.d3.length)/\Ng x y ns (r.take i.toNat) i (AA r i)=X
theorem pR(l:Fp)(j:Int):AA (l++[j]) l.length=j:=by simp[AA]
variable{l:Fp}{j i:Int}
theorem Xd{P:Fp->Int->Int->Prop}(h:∀i:Int,0<=i->i<l.length->P (l.take i.toNat) i (AA l i))(e:P l l.length j)(f:0<=i)(i1:i<(l++[j]).length):P ((l++[j]).take i.toNat) i (AA (l++[j]) i):=by grind[LY,pR,C_]
variable{x y:AG}
theorem Wd{es mn:Fp}:∀(k:Nat)(me r:Fp),me.length+k=x.d5.d4.length->ZQ x y es mn me me.length->G5 x y es mn k me=Y r->r.length=x.d5.d4.length/\ZQ x y es mn r x.d5.d4.length
 |0,me,r,B,ho,h=>by
  cases h
  grind
 |k+1,me,r,B,ho,h=>by
  obtain ⟨j,w,A,e,_⟩:=CZ h;split at e
  next f=>exact Wd k (me++[j]) r an (λi u i1=>Xd (P:=λp i z=>(0<=z/\z<y.d5.d4.length)/\P3 x y es mn p i z=X) ho ⟨⟨w,A⟩,f⟩ u i1) e
  .cases e
theorem Zw{es mn r:Fp}(w:r.length=x.d5.d4.length)(ho:ZQ x y es mn r x.d5.d4.length):∀(k i:Nat),i+k=x.d5.d4.length->G5 x y es mn k (r.take i)≠W
 |0,_,_=>by simp[G5]|k+1,i,z=>λh=>by
  rw [G5,A5]at h;obtain⟨⟨a,b⟩,f⟩:=ho i U U;have e:=h _ a b;have u:((r.take i).length:Int)=i:=h?
  have tk:=B5 (l:=r) (i:=(i:Int)) U U;rw[u]at e;rw[w_]at f tk;rw[ac f,<-tk]at e;exact Zw w ho k (i+1) U e
theorem TK{ns es:Fp}:∀(k:Nat)(mn:Fp)(m:d6),mn.length+k=x.d5.d3.length->ZR x y ns mn mn.length->MW x y ns es k mn=Y m ->
  m.d3.length=x.d5.d3.length/\ZR x y ns m.d3 x.d5.d3.length/\m.d4.length=x.d5.d4.length/\ZQ x y es m.d3 m.d4 x.d5.d4.length/\m.d3.take mn.length=mn
 |0,mn,m,C,ho,h=>by
  have e:mn.length=x.d5.d3.length:=U
  rw [MW]at h;cases u:G5 x y es mn x.d5.d4.length []with
  |none=>rw[u]at h;cases h
  |some r=>
   rw [u]at h;cases h;obtain⟨a,b⟩:=Wd _ _ _ V (λi w i1=>i_) u
   grind
 |k+1,mn,m,C,ho,h=>by
  obtain ⟨j,A,B,e,_⟩:=CZ h;split at e
  .rename_i f;obtain⟨a,b,c,d,g⟩:=TK k (mn++[j]) m an (λi w i1=>Xd (P:=λp i z=>(0<=z/\z<y.d5.d3.length)/\Ng x y ns p i z=X) ho ⟨⟨A,B⟩,f⟩ w i1) e;refine⟨a,b,c,d,?_⟩;have:=congrArg (List.take mn.length) g
   grind
  .cases e
variable{m:d6}
theorem aW{ns es:Fp}(nl:m.d3.length=x.d5.d3.length)(ho:ZR x y ns m.d3 x.d5.d3.length)(el:m.d4.length=x.d5.d4.length)(he:ZQ x y es m.d3 m.d4 x.d5.d4.length):∀(k i:Nat),i+k=x.d5.d3.length->MW x y ns es k (m.d3.take i)≠W
 |0,i,w=>by
  have:=Zw el he x.d5.d4.length 0 U;rw[C! U,MW];rw[List.take_zero]at this;cases h:G5 x y es m.d3 x.d5.d4.length []with
  |none=>exact absurd h this|some r=>simp
 |k+1,i,w=>λh=>by
  rw [MW,A5]at h;obtain⟨⟨a,b⟩,f⟩:=ho i U U;have e:=h _ a b;have u:((m.d3.take i).length:Int)=i:=h?
  have tk:=B5 (l:=m.d3) (i:=(i:Int)) U U;rw[u]at e;rw[w_]at f tk;rw[ac f,<-tk]at e;exact aW nl ho el he k (i+1) U e
structure Yz(x y:AG)(m:d6):Prop where
 nl:m.d3.length=x.d5.d3.length
 el:m.d4.length=x.d5.d4.length
 nn:x.d5.d3.length=y.d5.d3.length
 ee:x.d5.d4.length=y.d5.d4.length
 nin:∀i:Int,0<=i->i<x.d5.d3.length->0<=AA m.d3 i/\AA m.d3 i<y.d5.d3.length
 ein:∀i:Int,0<=i->i<x.d5.d4.length->0<=AA m.d4 i/\AA m.d4 i<y.d5.d4.length
 nd:m.d3.Nodup
 ed:m.d4.Nodup
 node:∀i:Int,0<=i->i<x.d5.d3.length->AA y.d5.d3 (AA m.d3 i)=AA x.d5.d3 i/\AA x.ej i=AA y.ej (AA m.d3 i)
 edge:∀i:Int,0<=i->i<x.d5.d4.length->AA y.d5.d4 (AA m.d4 i)=⟨(AA x.d5.d4 i).kg,AA m.d3 (AA x.d5.d4 i).ke,AA m.d3 (AA x.d5.d4 i).To⟩
def cL(ns l:Fp):Prop:=∀i:Int,0<=i->i<l.length->0<=AA ns i->AA l i=AA ns i
theorem XJ{ns es:Fp}(nn:x.d5.d3.length=y.d5.d3.length)(ee:x.d5.d4.length=y.d5.d4.length):
  (m.d3.length=x.d5.d3.length/\ZR x y ns m.d3 x.d5.d3.length/\m.d4.length=x.d5.d4.length/\ZQ x y es m.d3 m.d4 x.d5.d4.length)↔Yz x y m/\cL ns m.d3/\cL es m.d4:=by
 constructor
 .rintro⟨a,b,c,d⟩;refine⟨⟨a,c,nn,ee,λi e i1=>(b i e i1).1,λi e i1=>(d i e i1).1,Mv.2 λi e i1=>?_,Mv.2 λi e i1=>?_,λi e i1=>?_,λi e i1=>?_⟩,λi e i1 g=>?_,λi e i1 g=>?_⟩
  .have:=(b i e U).2;simp only[Ng,pq,E_]at this;exact this.1.2
  .have:=(d i e U).2;simp only[P3,pq,E_]at this;exact this.2
  .have:=(b i e i1).2;simp only[Ng,pq,tn]at this;exact⟨this.1.1.2,this.2⟩
  .have:=(d i e i1).2;simp only[P3,pq,tn]at this;exact this.1.2
  .have:=(b i e U).2;simp only[Ng,pq,E!,tn]at this;omega
  .have:=(d i e U).2;simp only[P3,pq,E!,tn]at this;omega
 .rintro⟨h,f,u⟩;have l1:=h.nl;have l2:=h.el;refine⟨l1,λi e i1=>⟨h.nin i e i1,?_⟩,l2,λi e i1=>⟨h.ein i e i1,?_⟩⟩
  .have k:=f i e U;simp only[Ng,pq,E!,tn,E_];exact⟨⟨⟨U,(h.node i e i1).1⟩,Mv.1 h.nd i e U⟩,(h.node i e i1).2⟩
  .have k:=u i e U;simp only[P3,pq,E!,tn,E_];exact⟨⟨U,h.edge i e i1⟩,Mv.1 h.ed i e U⟩
def PJ(x y:AG)(ns es:Fp):Nat->Fp->Option d6
 |0,mn=>(G5 x y es mn x.d5.d4.length []).map (d6.mk mn)|k+1,mn=>fst (λj=>if(Ng x y ns mn mn.length j&&Tc x y (mn++[j]) mn.length)=X then PJ x y ns es k (mn++[j])else W) 0 y.d5.d3.length
def RT(x:AG):Prop:=∀e∈x.d5.d4,(0<=e.ke/\e.ke<x.d5.d3.length)/\0<=e.To/\e.To<x.d5.d3.length
theorem nD(h:Yz x y m)(ends:RT x)(e:0<=i)(i1:i<x.d5.d3.length):Tc x y m.d3 i=X:=by
 have l1:=h.nl;have l2:=h.el;have u:=h.ee;have ein:∀k∈m.d4,0<=k/\k<y.d5.d4.length:=λk w=>by
  obtain ⟨i,e,i1,rfl⟩:=BG w;exact h.ein i e U
 unfold Tc;rw[E_,Bm];intro j f z;unfold iv;rw[<-Zq l1 h.nd l2 u h.ed ein ends h.edge f U e i1,<-Zq l1 h.nd l2 u h.ed ein ends h.edge e i1 f U];simp
variable{n:Nat}
theorem uJ(e:0<=i)(h:i<n):Tc x y (l.take n) i=Tc x y l i:=by
 unfold Tc;congr 1;refine Tt λj f u=>?_;unfold iv;rw[Go.Sf.x8 U,Go.Sf.x8 U]
theorem Wl{ns es:Fp}(nn:x.d5.d3.length=y.d5.d3.length)(ee:x.d5.d4.length=y.d5.d4.length)(ends:RT x):∀(k:Nat)(mn:Fp),mn.length+k=x.d5.d3.length->ZR x y ns mn mn.length->PJ x y ns es k mn=MW x y ns es k mn
 |0,_,_,_=>rfl|k+1,mn,C,ho=>by
  rw [PJ,MW];refine aE λj w A _=>?_;by_cases f:Ng x y ns mn mn.length j=X
  case neg=>rw[ae u?,ae f]
  have u:ZR x y ns (mn++[j]) (mn++[j]).length:=λi B i1=>Xd (P:=λp i z=>(0<=z/\z<y.d5.d3.length)/\Ng x y ns p i z=X) ho ⟨⟨w,A⟩,f⟩ B i1;rw[ac f,f,E?];by_cases g:Tc x y (mn++[j]) mn.length=X
  .rw[ac g,Wl nn ee ends k _ an u]
  rw [ae g];cases h:MW x y ns es k (mn++[j])with
  |none=>rfl|some m=>
   obtain ⟨a,b,c,d,e⟩:=TK k _ m an u h
   grind [XJ,uJ,nD]
end Go.Sf.Sc
namespace Go.Sf.Sc
open Go Go.Sf
def TF:List (Int×Int)->Fp->Option Fp
 |[],o=>Y o|p::r,o=>if decide (p.1<0)≠decide (p.2<0)then W else if p.1<0 then TF r o else if 0<=AA o p.1/\AA o p.1≠p.2 then W else TF r (A2 o p.1 p.2)
def cx(f:Int->Int)(ps:List (Int×Int)):Prop:=∀p∈ps,0<=p.1->f p.1=p.2
def Zl(f:Int->Int)(o:Fp):Prop:=∀k:Int,0<=k->k<o.length->0<=AA o k->f k=AA o k
theorem mH{f:Int->Int}{o:Fp}{p:Int×Int}(h0:0<=p.1)(e:p.1<o.length)(u:0<=p.2)(h:¬(0<=AA o p.1/\AA o p.1≠p.2)):Zl f (A2 o p.1 p.2)↔f p.1=p.2/\Zl f o:=by grind[Zl,DD,Py,TQ]
theorem SB:∀{e:List (Int×Int)}{o r:Fp},(∀p∈e,p.1<o.length)->TF e o=Y r->r.length=o.length/\(∀p∈e,(p.1<0↔p.2<0))/\∀f:Int->Int,(cx f e/\Zl f o↔Zl f r)
 |[],o,r,_,h=>by
  cases h;exact⟨rfl,λp w=>by simp at w,λf=>⟨λk=>k.2,λk=>⟨λp w=>by simp at w,k⟩⟩⟩
 |p::e,o,r,hi,h=>by
  rw [TF]at h;split at h
  .cases h
  rename_i A;have D:p.1<0↔p.2<0:=l?
  have u:∀q∈e,q.1<o.length:=λq z=>hi q (A? _ z);have E:∀f,cx f (p::e)↔(0<=p.1->f p.1=p.2)/\cx f e:=λf=>by simp[cx]
  split at h
  .rename_i B;obtain⟨a,b,c⟩:=SB u h
   grind
  .rename_i B;split at h
   .cases h
   rename_i C;have w:=hi p (.head _);obtain⟨a,b,c⟩:=SB (by rw[DD];exact u) h
   grind [DD,mH]
theorem XE:∀{e:List (Int×Int)}{o:Fp}{f:Int->Int},(∀p∈e,p.1<o.length)->(∀p∈e,(p.1<0↔p.2<0))->cx f e->Zl f o->TF e o≠W
 |[],_,_,_,_,_,_=>by simp[TF]|p::e,o,f,hi,G,ha,B=>by
  have C:=hi p (.head _);have s:=G p (.head _);have w:∀q∈e,q.1<o.length:=λq u=>hi q (A? _ u);have z:∀q∈e,(q.1<0↔q.2<0):=λq u=>G q (A? _ u);have A:cx f e:=λq u=>ha q (A? _ u);rw[TF,ae (by simp[s])];by_cases D:p.1<0
  .rw[ac D];exact XE w z A B
  .have E:f p.1=p.2:=ha p (.head _) U;have F:¬(0<=AA o p.1/\AA o p.1≠p.2):=λ⟨a,b⟩=>b (by rw[<-B p.1 U C a];exact E);rw[ae D,ae F];exact XE (by rw[DD];exact w) z A ((mH U C U F).2 ⟨E,B⟩)
def Rh(f t l:Fp):Prop:=∀i:Int,0<=i->i<f.length->(AA f i<0↔AA t i<0)/\(0<=AA f i->AA l (AA f i)=AA t i)
def TG(n:Nat)(f t:Fp):Option Fp:=TF (f.zip t) (C? n (-1))
theorem Rx{f t:Fp}(u:f.length=t.length){p:Int×Int}:p∈f.zip t↔∃i:Int,0<=i/\i<f.length/\p=(AA f i,AA t i):=by
 have e:∀i:Int,0<=i->i<f.length->AA (f.zip t) i=(AA f i,AA t i):=λi w i1=>by
  grind [w!,AA,w_,x_]
 grind [BG,AF]
theorem Ua{f t l:Fp}(w:f.length=t.length):Rh f t l↔(∀p∈f.zip t,(p.1<0↔p.2<0))/\cx (AA l) (f.zip t):=by
 constructor
 .intro h;refine⟨λp e=>?_,λp e g=>?_⟩<;>obtain⟨i,u,i1,rfl⟩:=(Rx w).1 e
  .exact(h i u i1).1
  .exact(h i u i1).2 g
 .intro h i u i1;have e:=(Rx w).2 ⟨i,u,i1,rfl⟩;exact⟨h.1 _ e,h.2 _ e⟩
variable{n:Nat}{k v:Int}
theorem tT(e:0<=k)(f:k<n):AA (C? n v) k=v:=by grind[AF]
theorem mG(f:Int->Int)(n:Nat):Zl f (C? n (-1)):=λk e u g=>by
 grind [D_,tT]
theorem T7{f t r l:Fp}(e:f.length=t.length)(hi:∀x∈f,x<n)(z:l.length=n)(h:TG n f t=Y r):cL r l↔Rh f t l:=by
 obtain ⟨a,b,c⟩:=SB (λp u=>by obtain⟨i,w,i1,rfl⟩:=(Rx e).1 u;have:=hi _ (AF w i1);simpa using this) h
 grind [D_,Ua,AA,cL,Zl,mG]
theorem mj{f t l:Fp}(e:f.length=t.length)(hi:∀x∈f,x<n)(h:TG n f t=W):¬Rh f t l:=λk=>
 XE (λp u=>by obtain⟨i,w,i1,rfl⟩:=(Rx e).1 u;have:=hi _ (AF w i1);simpa using this) ((Ua e).1 k).1 ((Ua e).1 k).2 (mG _ _) h
def Hj(x y:AG)(f t:d6):Option d6:=
 if x.d5.d3.length=y.d5.d3.length/\x.d5.d4.length=y.d5.d4.length then
  match TG x.d5.d3.length f.d3 t.d3,TG x.d5.d4.length f.d4 t.d4 with
  |some ns,Y es=>MW x y ns es x.d5.d3.length []|_,_=>W
 else W
structure WX(x:AG)(f t:d6):Prop where
 nl:f.d3.length=t.d3.length
 el:f.d4.length=t.d4.length
 nin:∀k∈f.d3,k<x.d5.d3.length
 ein:∀k∈f.d4,k<x.d5.d4.length
variable{x y:AG}
theorem kQ{f t m:d6}(hi:WX x f t)(h:Hj x y f t=Y m):Yz x y m/\Rh f.d3 t.d3 m.d3/\Rh f.d4 t.d4 m.d4:=by
 unfold Hj at h;split at h
 case isFalse=>cases h
 rename_i e;split at h
 case h_2=>cases h
 rename_i ns es u w;obtain⟨a,b,c,d,_⟩:=TK _ _ _ V (λi C i1=>i_) h;obtain⟨z,A,B⟩:=(XJ e.1 e.2).1 ⟨a,b,c,d⟩;exact⟨z,(T7 hi.nl hi.nin a u).1 A,(T7 hi.el hi.ein c w).1 B⟩
theorem pz{f t m:d6}(hi:WX x f t)(h:Yz x y m)(e:Rh f.d3 t.d3 m.d3)(u:Rh f.d4 t.d4 m.d4):Hj x y f t≠W:=by
 unfold Hj;rw[ac ⟨h.nn,h.ee⟩];cases w:TG x.d5.d3.length f.d3 t.d3 with
 |none=>exact absurd e (mj hi.nl hi.nin w)|some ns=>
 cases z:TG x.d5.d4.length f.d4 t.d4 with
 |none=>exact absurd u (mj hi.el hi.ein z)|some es=>
 obtain ⟨a,b,c,d⟩:=(XJ h.nn h.ee).2 ⟨h,(T7 hi.nl hi.nin h.nl w).2 e,(T7 hi.el hi.ein h.el z).2 u⟩;exact aW a b c d x.d5.d3.length 0 U
def PA(l:Fp):Fp:=(Ao l.length).map λj=>(fst (λi=>if AA l i=j then Y i else W) 0 l.length).getD 0
theorem V9(l:Fp):(PA l).length=l.length:=by unfold PA;rw[c9,At]
variable{l:Fp}{j:Int}
theorem SF(nd:l.Nodup)(e:∀i:Int,0<=i->i<l.length->0<=AA l i/\AA l i<l.length)(f:0<=j)(u:j<l.length):(0<=AA (PA l) j/\AA (PA l) j<l.length)/\AA l (AA (PA l) j)=j:=by
 have A:j∈l:=mI nd rfl (λx w=>by obtain⟨i,z,i1,rfl⟩:=BG w;exact e i z i1) f u;unfold PA;rw[GU f (by rw[At];exact u),My _ f u];cases h:fst (λi=>if AA l i=j then Y i else W) 0 (l.length:Int)with
 |none=>
  grind [BG,A5]
 |some v=>
  grind [CZ]
variable{i:Int}
theorem xA(nd:l.Nodup)(f:0<=i)(i1:i<l.length)(A:0<=j)(u:j<l.length)(e:AA l i=AA l j):i=j:=by
 have z:∀{i j:Int},0<=i->i<j->j<l.length->AA l i=AA l j->False:=λ{i j}f w u e=>by
  have:=Mv.1 nd j U u;rw[<-E',Bu]at this;refine this ?_;rw[<-e,<-Sc.x8 f w]
  grind [AF,bk]
 grind
theorem ZH(nd:l.Nodup)(e:∀i:Int,0<=i->i<l.length->0<=AA l i/\AA l i<l.length)(f:0<=i)(i1:i<l.length):AA (PA l) (AA l i)=i:=by
 obtain ⟨a,b⟩:=e i f i1;obtain⟨c,d⟩:=SF nd e a b
 grind [xA]
theorem m8(nd:l.Nodup)(f:∀i:Int,0<=i->i<l.length->0<=AA l i/\AA l i<l.length):(PA l).Nodup:=by
 refine Mv.2 λi u i1=>?_;rw[<-E',Bu];intro w;rw[V9]at i1;obtain⟨j,z,A,e⟩:=BG w;rw[bk,V9]at A;rw[Sc.x8 z U]at e;have B:=(SF nd f u i1).2
 grind [SF]
def ACC(m:d6):d6:=⟨PA m.d3,PA m.d4⟩
variable{m:d6}
theorem uC(h:Yz x y m)(ends:RT x):Yz y x (ACC m):=by
 have l1:=h.nl;have l2:=h.el;have w:=h.nn;have z:=h.ee;have f:∀i:Int,0<=i->i<m.d3.length->0<=AA m.d3 i/\AA m.d3 i<m.d3.length:=λi e i1=>by have:=h.nin i e U;omega
 have u:∀i:Int,0<=i->i<m.d4.length->0<=AA m.d4 i/\AA m.d4 i<m.d4.length:=λi e i1=>by have:=h.ein i e U;omega
 refine ⟨by rw[<-w,<-l1];exact V9 _,by rw[<-z,<-l2];exact V9 _,w.symm,z.symm,λi e i1=>?_,λi e i1=>?_,m8 h.nd f,m8 h.ed u,λi e i1=>?_,λi e i1=>?_⟩
 .have:=(SF h.nd f e U).1;rw[<-l1];exact this
 .have:=(SF h.ed u e U).1;rw[<-l2];exact this
 .obtain⟨a,b⟩:=SF h.nd f e U;obtain⟨c,d⟩:=h.node _ a.1 U;rw[b]at c d;exact⟨c.symm,d.symm⟩
 .obtain⟨a,b⟩:=SF h.ed u e U;have c:=h.edge _ a.1 U;obtain⟨⟨A,C⟩,B,D⟩:=ends _ (AF (l:=x.d5.d4) a.1 U);show AA x.d5.d4 (AA (PA m.d4) i)=⟨_,AA (PA m.d3) _,AA (PA m.d3) _⟩;rw[b]at c;rw[c];dsimp only;rw[ZH h.nd f A U,ZH h.nd f B U]
theorem fj{f t l:Fp}(w:f.length=t.length)(nd:l.Nodup)(e:∀i:Int,0<=i->i<l.length->0<=AA l i/\AA l i<l.length)(hf:∀x∈f,x<l.length)(h:Rh f t l):Rh t f (PA l):=λi u i1=>by
 obtain ⟨a,b⟩:=h i u U
 grind [AF,ZH]
theorem mh{f t:d6}(hi:WX x f t)(B:WX y t f)(C:RT x)(G:RT y):(Hj x y f t).isSome=(Hj y x t f).isSome:=by
 have D:∀{x y:AG}{f t:d6},WX x f t->WX y t f->RT x->(Hj x y f t).isSome=X->(Hj y x t f).isSome=X:=λ{x y f t}hi B C h=>by
  obtain ⟨m,e⟩:=Option.isSome_iff_exists.1 h;obtain⟨u,E,F⟩:=kQ hi e;have l1:=u.nl;have l2:=u.el;have H:=u.nn;have J:=u.ee;refine Option.isSome_iff_ne_none.2 (pz B (uC u C) (fj hi.nl u.nd (λi w i1=>?_) (λz A=>?_) E) (fj hi.el u.ed (λi w i1=>?_) (λz A=>?_) F))
  .have:=u.nin i w U;omega
  .have:=hi.nin z A;omega
  .have:=u.ein i w U;omega
  .have:=hi.ein z A;omega
 rw [Bool.eq_iff_iff]
 grind
end Go.Sf.Sc
namespace Go.Sf
def GP{α σ:Type}(g:α->σ->Option σ):List α->σ->Option σ
 |[],s=>Y s|x::l,s=>(g x s).bind (GP g l)
variable{α σ:Type}
theorem Z8{g:α->σ->Option σ}:∀{a b:List α}{s:σ},GP g (a++b) s=(GP g a s).bind (GP g b)
 |[],_,_=>rfl|x::a,b,s=>by
  rw [List.cons_append,GP,GP];cases g x s with
  |none=>rfl|some v=>exact Z8 (a:=a)
variable{I:σ->Prop}
theorem VL{g:α->σ->Option σ}:∀{l:List α}{s r:σ},(∀x∈l,∀s s',I s->g x s=Y s'->I s')->I s->GP g l s=Y r->I r
 |[],s,r,_,h,e=>by cases e;exact h
 |x::l,s,r,u,h,e=>by
  rw [GP]at e;cases f:g x s with
  |none=>rw[f]at e;cases e
  |some v=>
   rw [f]at e;exact VL (λy w=>u y (A? _ w)) (u x (.head _) s v h f) e
def dW{σ ρ:Type}(e:ρ):Option σ->Bo σ ρ
 |some s=>.next s|none=>.ret e
def gG{σ ρ:Type}(e:ρ):Option σ->σ ⊕ ρ
 |some s=>.inl s|none=>.inr e
variable{σ' ρ:Type}
theorem Wf[Inhabited α]{f:Int->σ->Option (Bo σ ρ)}{l:List α}(enc:σ'->σ)(g:α->σ'->Option σ')(e:ρ)(I:Int->σ'->Prop)(h:∀(i:Int)s,0<=i->i<l.length->I i s->f i (enc s)=Y (dW e ((g (AA l i) s).map enc))/\∀s',g (AA l i) s=Y s'->I (i+1) s'):
  ∀(n:Nat)(a:Int)(s:σ'),0<=a->a+n=l.length->I a s->zt f n a (enc s)=Y (gG e ((GP g (l.drop a.toNat) s).map enc))
 |0,a,s,a0,A,_=>by
  rw [List.drop_eq_nil_of_le U];rfl
 |n+1,a,s,a0,A,B=>by
  obtain ⟨w,z⟩:=h a s a0 U B;have hd:l.drop a.toNat=AA l a::l.drop (a+1).toNat:=by
   rw [List.drop_eq_getElem_cons U,show(a+1).toNat=a.toNat+1 by omega];congr 1;unfold AA;rw[B!,x_ U];rfl
  rw [F2,w,hd,GP];cases u:g (AA l a) s with
  |none=>rfl|some v=>exact Wf enc g e I h n (a+1) v U U (z v u)
theorem T8[Inhabited α]{f:Int->σ->Option (Bo σ ρ)}{l:List α}(enc:σ'->σ)(g:α->σ'->Option σ')(e:ρ)(I:Int->σ'->Prop){s:σ'}{w:σ}(u:w=enc s){n:Int}(z:n=l.length)(h0:I 0 s)(h:∀(i:Int)s,0<=i->i<l.length->I i s->f i (enc s)=Y (dW e ((g (AA l i) s).map enc))/\∀s',g (AA l i) s=Y s'->I (i+1) s'):jj f 0 n w=Y (gG e ((GP g l s).map enc)):=by
 subst u z;have:=Wf enc g e I h l.length 0 s U U h0;unfold jj;simpa using this
theorem kS[Inhabited α]{f:Int->σ->Option (Bo σ ρ)}{l:List α}(g:α->σ->Option σ)(e:ρ)(I:σ->Prop){s:σ}(h0:I s)(h:∀(i:Int)s,0<=i->i<l.length->I s->f i s=Y (dW e (g (AA l i) s))/\∀s',g (AA l i) s=Y s'->I s'):jj f 0 l.length s=Y (gG e (GP g l s)):=by
 have:=T8 (n:=l.length) (λs=>s) g e (λ_=>I) rfl rfl h0 (λi s u i1 w=>by simpa using h i s u i1 w);simpa using this
end Go.Sf
namespace Go.Sf.Sc
open Go Go.Sf
theorem gU{l a b:Fp}(h:∀x∈l,x<a.length):D3 (D3 l a) b=D3 l (D3 a b):=by grind[D3,List.map_map,D',GU]
theorem ls{l a b:d6}(e:∀x∈l.d3,x<a.d3.length)(f:∀x∈l.d4,x<a.d4.length):KA (KA l a) b=KA l (KA a b):=by grind[KA,gU]
structure CG where
 moves:List Ft
 host:AG
 image:d6
instance:Inhabited CG:=⟨⟨[],⟨⟨[],[]⟩,[]⟩,⟨[],[]⟩⟩⟩
noncomputable def Pg(t:AC)(rules:List ff)(p:CG)(mv:Ft):AU:=(EJ t (AA rules mv.ff) p.host mv.og).1
noncomputable def Rb(t:AC)(rules:List ff)(p:CG)(mv:Ft):CG:=⟨p.moves++[mv],(Pg t rules p mv).hV,KA p.image (Pg t rules p mv).p0⟩
def WB(p q:CG):Bool:=(Hj p.host q.host p.image q.image).isSome
noncomputable def R2(t:AC)(rules:List ff)(p:CG)(mv:Ft)(l:List CG):Option (List CG):=
 if 8<(Pg t rules p mv).hV.d5.d3.length then W
 else if l.any (λq=>WB q (Rb t rules p mv))=X then Y l
 else if l.length=300 then W else Y (l++[Rb t rules p mv])
noncomputable def Mj(t:AC)(rules:List ff)(h:AG)(i:Int):List Ft:=(HT t (AA rules i) h).1.map (Ft.mk i)
noncomputable def wX(t:AC)(rules:List ff)(h:AG):Bool:=(Ao rules.length).all λi=>decide ((HT t (AA rules i) h).2=0)
noncomputable def QT(t:AC)(rules:List ff)(p:CG)(l:List CG):Option (List CG):=
 if wX t rules p.host=X then GP (R2 t rules p) ((Ao rules.length).flatMap (Mj t rules p.host)) l else W
variable{p:CG}
theorem YG{t:AC}{rules:List ff}:∀{is:Fp}{l:List CG},
  GP (λi l=>if(HT t (AA rules i) p.host).2=0 then GP (R2 t rules p) (Mj t rules p.host i) l else W) is l=if is.all (λi=>decide ((HT t (AA rules i) p.host).2=0))=X then GP (R2 t rules p) (is.flatMap (Mj t rules p.host)) l else W
 |[],l=>rfl|i::is,l=>by
  rw [GP,List.all_cons,List.flatMap_cons,Z8];by_cases e:(HT t (AA rules i) p.host).2=0
  .rw[ac e,decide_eq_true e,E?];cases h:GP (R2 t rules p) (Mj t rules p.host i) l with
   |none=>
    rw [Option.bind_none,Option.bind_none];split<;>rfl
   |some v=>exact YG
  grind
noncomputable def Nd(t:AC)(rules:List ff)(depth:Int):Nat->Int->List CG->Option (List CG)
 |0,_,l=>Y l|k+1,i,l=>if i<l.length then(if((AA l i).moves.length:Int)=depth then Nd t rules depth k (i+1) l else(QT t rules (AA l i) l).bind (Nd t rules depth k (i+1)))else Y l
noncomputable def cm(t:AC)(rules:List ff)(depth:Int)(p:CG):Option (List CG):=Nd t rules depth 301 0 [p]
structure Km(t:AC)(rules:List ff)(h0:AG)(m0:d6)(p:CG):Prop where
 rep:SW t rules ⟨h0,p.moves⟩
 host:p.host=(Jd t rules h0 p.moves).2
 image:p.image=KA m0 (Q7 (Nk h0.d5) (Jd t rules h0 p.moves).1)
 few:p.moves.length<=5
theorem py(m:d6)(l:List AU)(s:AU):Q7 m (l++[s])=KA (Q7 m l) s.p0:=by
 unfold Q7
 grind
theorem YD{t:AC}(hf:Ar t){rules:List ff}(hr:GM rules){h0:AG}{m0:d6}(f:Kb m0 h0.d5)(g:Km t rules h0 m0 p):
  EH p.host/\Kb (Q7 (Nk h0.d5) (Jd t rules h0 p.moves).1) p.host.d5/\Kb p.image p.host.d5/\(De t p.host).2=0/\p.image.d3.length=m0.d3.length/\p.image.d4.length=m0.d4.length:=by
 obtain ⟨z,e⟩:=a7 hf hr g.rep p.moves.length (az _);have w:=mf hf hr g.rep p.moves.length (az _);rw[C_]at z e w;have A:=XC (Jd t rules h0 p.moves).1 (Nk h0.d5);have l1:(Q7 (Nk h0.d5) (Jd t rules h0 p.moves).1).d3.length=h0.d5.d3.length:=by rw[A.1];exact At _
 have l2:(Q7 (Nk h0.d5) (Jd t rules h0 p.moves).1).d4.length=h0.d5.d4.length:=by rw[A.2];exact At _
 rw [<-g.host]at z e w;refine⟨z,e,?_,w,by rw[g.image];exact H4 _ _,by rw[g.image];exact H4 _ _⟩;rw[g.image];refine⟨by show(D3 _ _).length<=1000;rw[H4];exact f.Aak,by show(D3 _ _).length<=1000;rw[H4];exact f.Aao,?_,?_⟩
 .exact Pw (λy u=>by rw[l1];exact f.node y u) e.node
 .exact Pw (λy u=>by rw[l2];exact f.edge y u) e.edge
variable{mv:Ft}
theorem aK{t:AC}(hf:Ar t){rules:List ff}(hr:GM rules){h0:AG}{m0:d6}(w:Kb m0 h0.d5)(g:Km t rules h0 m0 p)(e:(F3 t rules p.host mv).2=0)(C:p.moves.length<5):Km t rules h0 m0 (Rb t rules p mv)/\L0 p.host (Pg t rules p mv)/\F3 t rules p.host mv=(Pg t rules p mv,0)/\(Pg t rules p mv).og=mv.og:=by
 obtain ⟨a,s,B⟩:=WE hf hr e;have ha:Pg t rules p mv=S4 t (AA rules mv.ff) p.host mv.og:=by
  grind [F3,EJ,AA,Pg]
 have z:F3 t rules p.host mv=(Pg t rules p mv,0):=by rw[ha];exact B
 have tk:L0 p.host (Pg t rules p mv):=by rw[ha];exact s.trk
 have A:(Jd t rules h0 (p.moves++[mv]))=((Jd t rules h0 p.moves).1++[Pg t rules p mv],(Pg t rules p mv).hV):=by
  rw [SR,<-g.host,z]
 have f:=XC (Jd t rules h0 p.moves).1 (Nk h0.d5);refine⟨⟨tS g.rep (by show p.moves.length<30;omega) (by show(F3 t rules (Jd t rules h0 p.moves).2 mv).2=0;rw[<-g.host];exact e),?_,?_,by show(p.moves++[mv]).length<=5;simp;omega⟩,tk,z,by rw[ha];rfl⟩
 .show(Pg t rules p mv).hV=(Jd t rules h0 (p.moves++[mv])).2;rw[A]
 .show KA p.image (Pg t rules p mv).p0=KA m0 (Q7 _ (Jd t rules h0 (p.moves++[mv])).1);rw[A,g.image,py,ls]
  .intro x u;rw[f.1];show x<(Ao _).length;rw[At];exact(w.node x u).2
  .intro x u;rw[f.2];show x<(Ao _).length;rw[At];exact(w.edge x u).2
end Go.Sf.Sc
namespace Go.Sf.Sc
open Go Go.Sf
structure Ip(t:AC)(rules:List ff)(h0:AG)(m0:d6)(depth i:Int)(l:List CG):Prop where
 good:∀p∈l,Km t rules h0 m0 p/\(p.moves.length:Int)<=depth
 few:l.length<=300
 mono:∀a b:Int,0<=a->a<=b->b<l.length->(AA l a).moves.length<=(AA l b).moves.length
 next:i<l.length->∀q∈l,q.moves.length<=(AA l i).moves.length+1
section
variable{t:AC}{rules:List ff}{h0:AG}{m0:d6}{depth:Int}
variable{mv:Ft}{i:Int}
theorem Ud{h:AG}(f:0<=i)(i1:i<rules.length)(e:mv∈Mj t rules h i):(F3 t rules h mv).2=0:=by
 obtain ⟨x,u,rfl⟩:=y!.1 e
 grind [F3,mO]
theorem mJ{h:AG}(e:mv∈(Ao rules.length).flatMap (Mj t rules h)):(F3 t rules h mv).2=0:=by grind[Cu,Ud]
def S8(t:AC)(rules:List ff)(h0:AG)(m0:d6)(p:CG)(l s:List CG):Prop:=∃ext,s=l++ext/\s.length<=300/\∀q∈ext,Km t rules h0 m0 q/\q.moves.length=p.moves.length+1
variable{p:CG}
theorem Y2(hf:Ar t)(hr:GM rules)(B:Kb m0 h0.d5)(g:Km t rules h0 m0 p)(C:p.moves.length<5)(e:(F3 t rules p.host mv).2=0){l s s':List CG}(h:S8 t rules h0 m0 p l s)(f:R2 t rules p mv s=Y s'):S8 t rules h0 m0 p l s':=by
 obtain ⟨ext,rfl,z,A⟩:=h;unfold R2 at f;split at f
 .cases f
 split at f
 .cases f;exact⟨ext,rfl,z,A⟩
 split at f
 .cases f
 .rename_i w;cases f;have D:=(aK hf hr B g e C).1;rw[b6]at z;simp only[b6]at w;refine⟨ext++[Rb t rules p mv],by rw[ci],an,λq u=>?_⟩;rcases y?.1 u with u|u
  .exact A q u
  .obtain rfl:=z_.1 u;exact⟨D,by show(p.moves++[mv]).length=_;simp⟩
theorem dy(hf:Ar t)(hr:GM rules)(u:Kb m0 h0.d5)(g:Km t rules h0 m0 p)(w:p.moves.length<5){l s:List CG}(z:l.length<=300)(h:QT t rules p l=Y s):S8 t rules h0 m0 p l s:=by
 unfold QT at h;split at h
 .exact VL (I:=S8 t rules h0 m0 p l) (λmv f s s' A e=>Y2 hf hr u g w (mJ f) A e) ⟨[],V,z,λq B=>by cases B⟩ h
 .cases h
theorem dM(hf:Ar t)(hr:GM rules)(C:Kb m0 h0.d5)(hd:depth<=4){l w:List CG}(h:Ip t rules h0 m0 depth i l)(z:0<=i)(i1:i<l.length)(D:((AA l i).moves.length:Int)≠depth)(e:QT t rules (AA l i) l=Y w):Ip t rules h0 m0 depth (i+1) w:=by
 obtain ⟨G,O⟩:=h.good _ (AF z i1);obtain⟨ext,rfl,H,J⟩:=dy hf hr C G U h.few e;have A:∀q∈l++ext,q.moves.length<=(AA l i).moves.length+1:=λq f=>by
  rcases y?.1 f with f|f
  .exact h.next i1 q f
  grind
 have mono:∀a b:Int,0<=a->a<=b->b<(l++ext).length->(AA (l++ext) a).moves.length<=(AA (l++ext) b).moves.length:=λa b a0 E F=>by
  by_cases B:b<l.length
  .rw[Ll a0 U,Ll U B];exact h.mono a b a0 E B
  .have:AA (l++ext) b∈ext:=by
    obtain ⟨n,rfl⟩:=w! (show 0<=b by omega);rw[b6]at F;have K:=Xv (l:=l) (m:=ext) (n:=n-l.length)
    grind [AF]
   rw [(J _ this).2];exact A _ (AF a0 U)
 refine ⟨λp u=>?_,H,mono,λk q f=>?_⟩
 .rcases y?.1 u with u|u
  .exact h.good p u
  grind
 .have M:=A q f;have N:=mono i (i+1) z U k
  grind [Ll]
theorem Wz{l:List CG}(h:Ip t rules h0 m0 depth i l)(e:0<=i)(i1:i<l.length):Ip t rules h0 m0 depth (i+1) l:=⟨h.good,h.few,h.mono,λk q f=>by
 have u:=h.next i1 q f
 have w:=h.mono i (i+1) e U k;omega⟩
theorem Y3:∀(k:Nat)(i:Int)(l:List CG),0<=i->Ip t rules h0 m0 depth i l->(i<l.length->((AA l i).moves.length:Int)=depth)->Nd t rules depth k i l=Y l
 |0,_,_,_,_,_=>rfl|k+1,i,l,e,h,he=>by
  rw [Nd];by_cases i1:i<l.length
  .rw[ac i1,ac (he i1)];refine Y3 k (i+1) l U (Wz h e i1) λi2=>?_;have f:=he i1;have u:=h.mono i (i+1) e U i2;have w:=(h.good _ (AF (i:=i+1) U i2)).2;omega
  .rw[ae i1]
variable{β ρ:Type}
theorem gQ(hf:Ar t)(hr:GM rules)(A:Kb m0 h0.d5)(hd:depth<=4){f:List β×Int->Option (Bo (List β×Int) ρ)}(enc:List CG->List β)(e:ρ)
  (B:∀i l,0<=i->Ip t rules h0 m0 depth i l->i<l.length->((AA l i).moves.length:Int)≠depth->f (enc l,i)=Y (match QT t rules (AA l i) l with|some G=>.next (enc G,i+1)|none=>.ret e))
  (C:∀i l,0<=i->Ip t rules h0 m0 depth i l->i<l.length->((AA l i).moves.length:Int)=depth->f (enc l,i)=Y (.brk (enc l,i))\/f (enc l,i)=Y (.next (enc l,i+1)))
  (z:∀i l,0<=i->Ip t rules h0 m0 depth i l->(l.length:Int)<=i->f (enc l,i)=Y (.brk (enc l,i))):
  ∀(k:Nat)(i:Int)(l:List CG),0<=i->Ip t rules h0 m0 depth i l->301<=i+k->∃o,MI f (enc l,i) o/\match Nd t rules depth k i l with|some r=>∃j,o=.inl (enc r,j)|none=>o=.inr e
 |0,i,l,w,h,H=>⟨_,.brk (z i l w h (by have:=h.few;omega)),_,rfl⟩|k+1,i,l,w,h,H=>by
  by_cases i1:i<l.length
  case neg=>
   rw [Nd,ae i1];exact⟨_,.brk (z i l w h U),_,rfl⟩
  by_cases ed:((AA l i).moves.length:Int)=depth
  .rcases C i l w h i1 ed with u|u
   .rw[Y3 (k+1) i l w h λ_=>ed];exact⟨_,.brk u,_,rfl⟩
   .rw[Nd,ac i1,ac ed];obtain⟨o,E,F⟩:=gQ hf hr A hd enc e B C z k (i+1) l U (Wz h w i1) U;exact⟨o,.next u E,F⟩
  .have u:=B i l w h i1 ed;rw[Nd,ac i1,ae ed];cases D:QT t rules (AA l i) l with
   |none=>
    rw [D]at u;exact⟨_,.ret u,rfl⟩
   |some G=>
    rw [D]at u;obtain⟨o,E,F⟩:=gQ hf hr A hd enc e B C z k (i+1) G U (dM hf hr A hd h w i1 ed D) U;exact⟨o,.next u E,F⟩
theorem Pz(hf:Ar t)(hr:GM rules)(f:Kb m0 h0.d5)(hd:depth<=4):∀(k:Nat)(i:Int)(l r:List CG),0<=i->Ip t rules h0 m0 depth i l->Nd t rules depth k i l=Y r->(∃j,Ip t rules h0 m0 depth j r)/\∃ext,r=l++ext
 |0,i,l,r,w,h,e=>by cases e;exact⟨⟨_,h⟩,[],V⟩
 |k+1,i,l,r,w,h,e=>by
  rw [Nd]at e;split at e
  case isFalse=>cases e;exact⟨⟨_,h⟩,[],V⟩
  rename_i i1;split at e
  .exact Pz hf hr f hd k _ l r U (Wz h w i1) e
  .rename_i ed;cases u:QT t rules (AA l i) l with
   |none=>rw[u]at e;cases e
   |some B=>
    rw [u]at e;obtain⟨a,ext,rfl⟩:=Pz hf hr f hd k _ B r U (dM hf hr f hd h w i1 ed u) e;obtain⟨A,C⟩:=h.good _ (AF w i1);obtain⟨z,rfl,_⟩:=dy hf hr f A U h.few u
    grind
theorem K3(hf:Ar t)(hr:GM rules)(w:Gr t rules h0=0)(u:Kb m0 h0.d5)(hd:0<=depth):Ip t rules h0 m0 depth 0 [⟨[],h0,m0⟩]:=by
 have f:KA m0 (Nk h0.d5)=m0:=by
  have e:∀{l:Fp}{n:Nat},(∀x∈l,-1<=x/\x<n)->D3 l (Ao n)=l:=λ{l n}h=>by
   unfold D3
   conv=>rhs;rw[<-List.map_id l]
   grind [D',My]
  unfold KA Nk;rw[e u.node,e u.edge]
 refine ⟨λp z=>?_,V,λa b a0 A B=>?_,λ_ q C=>?_⟩
 .obtain rfl:=z_.1 z;exact⟨⟨⟨w,V,λi D i1=>i_⟩,rfl,f.symm,V⟩,by simpa using hd⟩
 .grind
 grind
end
end Go.Sf.Sc
namespace Go.Sf.Sc
open Go Go.Sf
def Abx(m:d6):Bool:=hasB m.d3 (-1)||hasB m.d4 (-1)
def cP(strict:Bool)(p q:CG):Option d6:=
 if strict=X then(if(Abx p.image||Abx q.image)=X then W else Hj p.host q.host p.image q.image)else Hj p.host q.host ⟨[],[]⟩ ⟨[],[]⟩
def Sv(strict:Bool)(L R:List CG)(s i k:Int):Option (CG×CG×d6):=
 if ((AA L i).moves.length:Int)+(AA R k).moves.length=s then(cP strict (AA L i) (AA R k)).map λm=>(AA L i,AA R k,m)else W
def lq(strict:Bool)(L R:List CG)(s:Int):Option (CG×CG×d6):=fst (λi=>fst (Sv strict L R s i) 0 R.length) 0 L.length
def UV(strict:Bool)(L R:List CG)(depth:Int):Option (CG×CG×d6):=fst (lq strict L R) 0 (2*depth+1)
variable{L R:List CG}
theorem nk{strict:Bool}{s i k:Int}{r:CG×CG×d6}(h:Sv strict L R s i k=Y r):(r.1.moves.length:Int)+r.2.1.moves.length=s/\cP strict r.1 r.2.1=Y r.2.2/\r.1=AA L i/\r.2.1=AA R k:=by
 unfold Sv at h;split at h
 .rename_i e;cases f:cP strict (AA L i) (AA R k)with
  |none=>rw[f]at h;cases h
  |some m=>
   grind
 .cases h
theorem wt(x:AG):WX x ⟨[],[]⟩ ⟨[],[]⟩:=⟨rfl,rfl,V,V⟩
end Go.Sf.Sc
namespace Go.Sf
end Go.Sf
namespace Go.Sf.Sc
open Go Go.Sf
theorem SC{b c:Bool}{o:K1}(h:b=X->o=Y c):(if b=X then o else Y T)=Y (b&&c):=m?
theorem P5{b c:Bool}{o:K1}(h:b=T->o=Y c):(if b=X then Y X else o)=Y (b||c):=m?
def SA(p:Int×Int)(o:Fp):Option Fp:=if decide (p.1<0)≠decide (p.2<0)then W else if p.1<0 then Y o else if 0<=AA o p.1/\AA o p.1≠p.2 then W else Y (A2 o p.1 p.2)
theorem XD:∀{e:List (Int×Int)}{o:Fp},TF e o=GP SA e o
 |[],o=>rfl|p::e,o=>by
  rw [TF,GP];unfold SA;split
  .rfl
  split
  .exact XD
  split
  .rfl
  .exact XD
def lF(o:Option Fp):Fp×Bool:=match o with
 |some r=>(r,X)|none=>([],T)
theorem tq{o:Option Fp}:em (Y (gG (ρ:=Fp×Bool) ([],T) o)) (λe=>Y (e,X)) (λf=>Y f)=Y (lF o):=by cases o<;>rfl
variable{i:Int}
theorem vd{f t:Fp}(e:f.length=t.length)(u:0<=i)(i1:i<f.length):AA (f.zip t) i=(AA f i,AA t i):=by grind[w!,AA,w_,x_]
section
variable{a b:Int}{o:Fp}
theorem AAX(h:¬decide (a<0)=decide (b<0)):SA (a,b) o=W:=by unfold SA;rw[ac h]
theorem AAY(h:decide (a<0)=decide (b<0))(e:a<0):SA (a,b) o=Y o:=by grind[SA]
theorem AAZ(h:decide (a<0)=decide (b<0))(e:¬a<0)(f:0<=AA o a/\AA o a≠b):SA (a,b) o=W:=by grind[SA]
theorem AAa(h:decide (a<0)=decide (b<0))(e:¬a<0)(f:¬(0<=AA o a/\AA o a≠b)):SA (a,b) o=Y (A2 o a b):=by grind[SA]
end
variable{n:Nat}
theorem ew(C:n<=1000){f t:Fp}(A:f.length=t.length)(hi:∀x∈f,x<n):NC n f t=Y (lF (TG n f t)):=by
 unfold NC DR TG;have B:(f.length:Int)=(f.zip t).length:=by simp[A]
 rw [ac ⟨rfl,U,U⟩,bs,XD,B,<-tq,kS SA ([],T) (λo=>o.length=n) V]
 .simp
 intro i o w i1 ho;have i2:i<f.length:=U
 have D:=hi _ (AF w i2);rw[vd A w i2,AD w i2,bs,AD w U,bs];by_cases e:decide (AA f i<0)=decide (AA t i<0)
 case neg=>rw[AAX e,ac f_];exact⟨rfl,λs' h=>d_⟩
 rw [ae f_];by_cases u:AA f i<0
 .rw[AAY e u,ac i9];exact⟨rfl,λs' h=>by cases h;exact ho⟩
 rw [ae i9,AD U U];simp only[bs];rw[SC (λ_=>rfl),bs];by_cases z:0<=AA o (AA f i)/\AA o (AA f i)≠AA t i
 .rw[AAZ e u z,ac m_];exact⟨rfl,λs' h=>d_⟩
 .rw[AAa e u z,ae m_];exact⟨rfl,λs' h=>by cases h;rw[DD];exact ho⟩
end Go.Sf.Sc
namespace Go.Sf.Sc
open Go Go.Sf
structure pJ(x y:AG)(ns es:Fp):Prop where
 nl:ns.length=x.d5.d3.length
 el:es.length=x.d5.d4.length
 xn:x.d5.d3.length<=1000
 xe:x.d5.d4.length<=1000
 yn:y.d5.d3.length<=1000
 ye:y.d5.d4.length<=1000
 xv:x.ej.length=x.d5.d3.length
 yv:y.ej.length=y.d5.d3.length
 ends:RT x
def fh(x y:AG)(ns es mn me:Fp)(o:Option Fp):Bool×BQ:=match o with
 |some r=>(X,⟨x,y,ns,es,⟨mn,r⟩⟩)|none=>(T,⟨x,y,ns,es,⟨mn,me⟩⟩)
variable{x y:AG}
theorem eu{ns es mn:Fp}(h:pJ x y ns es)(w:mn.length=x.d5.d3.length):∀(k:Nat)(me:Fp),me.length+k=x.d5.d4.length->∀n,k<n->CH n ⟨x,y,ns,es,⟨mn,me⟩⟩=Y (fh x y ns es mn me (G5 x y es mn k me))
 |0,me,B,n,C=>by
  obtain ⟨n,rfl⟩:∃q,n=q+1:=⟨n-1,U⟩;rw[CH,ac an];rfl
 |k+1,me,B,n,C=>by
  obtain ⟨n,rfl⟩:∃q,n=q+1:=⟨n-1,U⟩;have D:=h.el;have E:=h.xe;have F:=h.ye;have u:=h.ends _ (AF (l:=x.d5.d4) (i:=(me.length:Int)) U U);rw[CH];dsimp only;rw[ae an,AD U U,bs,AD u.1.1 U,bs,AD u.2.1 U,bs,
   Gf (a:=0) (b:=(y.d5.d4.length:Int)) (λ_=>(⟨x,y,ns,es,⟨mn,me⟩⟩:BQ)) (λj=>(if P3 x y es mn me me.length j=X then G5 x y es mn k (me++[j])else W).map λr=>(X,(⟨x,y,ns,es,⟨mn,r⟩⟩:BQ))) U rfl,KK]
  .show _=Y (fh x y ns es mn me (fst (λj=>if P3 x y es mn me me.length j=X then G5 x y es mn k (me++[j])else W) 0 y.d5.d4.length));cases fst (λj=>if P3 x y es mn me me.length j=X then G5 x y es mn k (me++[j])else W) 0 (y.d5.d4.length:Int)<;>rfl
  .intro j z A _;dsimp only;rw[AD z A,bs,AD (l:=es) U U];simp only[bs];rw[SC (λ_=>rfl),bs,V6];simp only[bs];rw[P5 (λ_=>rfl),bs];by_cases f:P3 x y es mn me me.length j=X
   .have e:=f;simp only[P3,pq,E!,tn,E_]at e;rw[ae (by simp[e.1.2,e.2];omega),ac f,AS a_,bs,eu h w k (me++[j]) an n U,bs];cases G5 x y es mn k (me++[j])with
    |some r=>rfl|none=>
     rw [ae (by simp[fh])];dsimp only[fh];rw[Ii U an,bs];simp[bG]
   .rw[ac,ae f]
    .rfl
    .refine F! λg=>f ?_;simp only[E!,pq,E_,tn,decide_eq_false_iff_not,not_or,not_and,F_]at g;simp only[P3,pq,E!,tn,E_]
     grind
def Zd(x y:AG)(ns es mn:Fp)(o:Option d6):Bool×BQ:=match o with
 |some r=>(X,⟨x,y,ns,es,r⟩)|none=>(T,⟨x,y,ns,es,⟨mn,[]⟩⟩)
theorem fC{x y:AG}{ns es:Fp}(h:pJ x y ns es):∀(k:Nat)(mn:Fp),mn.length+k=x.d5.d3.length->∀n,k<n->CI n ⟨x,y,ns,es,⟨mn,[]⟩⟩=Y (Zd x y ns es mn (PJ x y ns es k mn))
 |0,mn,D,n,z=>by
  obtain ⟨n,rfl⟩:∃q,n=q+1:=⟨n-1,U⟩;rw[CI,ac an];have e:J4 ⟨x,y,ns,es,⟨mn,[]⟩⟩=Y (fh x y ns es mn [] (G5 x y es mn x.d5.d4.length [])):=Dn (x.d5.d4.length+1) λn z=>eu h U _ _ V n U;rw[e,bs];show _=Y (Zd x y ns es mn ((G5 x y es mn x.d5.d4.length []).map (d6.mk mn)));cases G5 x y es mn x.d5.d4.length []<;>rfl
 |k+1,mn,D,n,z=>by
  obtain ⟨n,rfl⟩:∃q,n=q+1:=⟨n-1,U⟩;have E:=h.nl;have F:=h.xn;have G:=h.yn;have H:=h.xv;have J:=h.yv;rw[CI];dsimp only;rw[ae an,
   Gf (a:=0) (b:=(y.d5.d3.length:Int)) (λ_=>(⟨x,y,ns,es,⟨mn,[]⟩⟩:BQ)) (λj=>(if(Ng x y ns mn mn.length j&&Tc x y (mn++[j]) mn.length)=X then PJ x y ns es k (mn++[j])else W).map λr=>(X,(⟨x,y,ns,es,r⟩:BQ))) U rfl,KK]
  .show _=Y (Zd x y ns es mn (fst (λj=>if(Ng x y ns mn mn.length j&&Tc x y (mn++[j]) mn.length)=X then PJ x y ns es k (mn++[j])else W) 0 y.d5.d3.length));cases fst (λj=>if(Ng x y ns mn mn.length j&&Tc x y (mn++[j]) mn.length)=X then PJ x y ns es k (mn++[j])else W) 0 (y.d5.d3.length:Int)<;>rfl
  .intro j A C _;dsimp only;rw[AD A C,bs,AD (l:=ns) U U];simp only[bs];rw[SC (λ_=>rfl),bs,AD (l:=x.d5.d3) U U];simp only[bs];rw[P5 (λ_=>rfl),bs,V6];simp only[bs];rw[P5 (λ_=>rfl),bs,AD (l:=x.ej) U U,AD (l:=y.ej) A U];simp only[bs,PP];rw[P5 (λ_=>rfl),bs];by_cases f:Ng x y ns mn mn.length j=X
   .have w:=f;simp only[Ng,pq,E!,tn,E_]at w;have u:=nY (x:=x) (y:=y) (ns:=ns) (es:=es) (me:=[]) h.xe h.ye (mn:=mn++[j]) an (l:=mn.length) U an;rw[C! V]at u;rw[ae (by simp[w.1.1.2,w.1.2,w.2];omega),AS a_,bs,u,bs,f,E?];have B:slc (mn++[j]) 0 (mn.length:Int)=Y mn:=by rw[Ii U an];simp
    cases Tc x y (mn++[j]) mn.length with
    |false=>rw[ae a!,ae a!,B];rfl|true=>
     rw [ac rfl,ac rfl,fC h k (mn++[j]) an n U,bs];cases PJ x y ns es k (mn++[j])with
     |some r=>rfl|none=>
      rw [ae (by simp[Zd])];dsimp only[Zd];rw[B];rfl
   .rw[ac,ae u?]
    .rfl
    .refine F! λg=>f ?_;simp only[E!,pq,E_,tn,decide_eq_false_iff_not,not_or,not_and,F_]at g;simp only[Ng,pq,E!,tn,E_];exact⟨⟨⟨by have:=g.1.1.1;omega,g.1.1.2⟩,Bool.eq_false_iff.2 g.1.2⟩,g.2⟩
def AA8(o:Option d6):d6×Bool:=match o with
 |some r=>(r,X)|none=>(⟨[],[]⟩,T)
theorem XO{f t:d6}(z:EH x)(sy:EH y)(xv:x.ej.length=x.d5.d3.length)(yv:y.ej.length=y.d5.d3.length)(ends:RT x)(hi:WX x f t):Dm x y f t=Y (AA8 (Hj x y f t)):=by
 have E:=z.ec;have F:=z.eh;have G:=sy.ec;have H:=sy.eh;unfold Dm Hj;by_cases e:x.d5.d3.length=y.d5.d3.length/\x.d5.d4.length=y.d5.d4.length
 case neg=>rw[ae e,ac];rfl;simp;omega
 rw [ac e,ae an,ew U hi.nl hi.nin,bs,ew U hi.el hi.ein,bs];cases B:TG x.d5.d3.length f.d3 t.d3 with
 |none=>rfl|some ns=>
 cases C:TG x.d5.d4.length f.d4 t.d4 with
 |none=>rfl|some es=>
 rw [ae (by simp[lF])];have A:=(SB (λp w=>by obtain⟨i,u,i1,rfl⟩:=(Rx hi.nl).1 w;have:=hi.nin _ (AF u i1);simpa using this) B).1;have le:=(SB (λp w=>by obtain⟨i,u,i1,rfl⟩:=(Rx hi.el).1 w;have:=hi.ein _ (AF u i1);simpa using this) C).1;rw[D_]at A le;have g:pJ x y ns es:=⟨A,le,U,U,U,U,xv,yv,ends⟩;have en:Hg ⟨x,y,ns,es,⟨[],[]⟩⟩=Y (Zd x y ns es [] (PJ x y ns es x.d5.d3.length [])):=Dn (x.d5.d3.length+1) λn D=>fC g _ _ V n U;show(Hg ⟨x,y,ns,es,⟨[],[]⟩⟩).bind _=_;rw[en,bs,Wl e.1 e.2 ends _ _ V (λi u i1=>i_)];dsimp only;cases MW x y ns es x.d5.d3.length []<;>rfl
end Go.Sf.Sc
namespace Go.Sf.Sc
open Go Go.Sf
end Go.Sf.Sc
namespace Go.Sf.Sc
open Go Go.Sf
def FK(h0:AG)(p:CG):Aw:=⟨⟨h0,p.moves⟩,p.host,p.image⟩
instance:Inhabited Aw:=⟨FK (default:CG).host default⟩
section
variable{t:AC}{rules:List ff}{h0:AG}{m0:d6}{depth:Int}
structure RI(m0:d6)(p:CG):Prop where
 sm:EH p.host
 vl:p.host.ej.length=p.host.d5.d3.length
 ends:RT p.host
 inn:Kb p.image p.host.d5
 nl:p.image.d3.length=m0.d3.length
 el:p.image.d4.length=m0.d4.length
variable{p:CG}
theorem Km.fact(hf:Ar t)(hr:GM rules)(u:Kb m0 h0.d5)(g:Km t rules h0 m0 p):RI m0 p:=by
 obtain ⟨a,_,c,d,e,f⟩:=YD hf hr u g;obtain⟨x,y,z⟩:=nC (P7 hf d).2;exact⟨a,y,z,c,e,f⟩
variable{q:CG}
theorem ZB(a:RI m0 p)(b:RI m0 q):WX p.host p.image q.image:=⟨by rw[a.nl,b.nl],by rw[a.el,b.el],λk e=>(a.inn.node k e).2,λk e=>(a.inn.edge k e).2⟩
theorem uY(a:RI m0 p)(b:RI m0 q):Gu (FK h0 p) (FK h0 q)=Y (WB p q):=by
 unfold Gu NB;show((Dm q.host p.host q.image p.image).bind _).bind _=_;rw[XO b.sm a.sm b.vl a.vl b.ends (ZB b a),bs,bs];unfold WB;rw[mh (ZB a b) (ZB b a) a.ends b.ends];cases Hj q.host p.host q.image p.image<;>rfl
variable{i:Int}
theorem ua(u:Kb m0 h0.d5)(a:RI m0 p)(w:p.moves.length<=5){m:AP}(tk:L0 p.host (Pg t rules p ⟨i,m⟩))(f:(Pg t rules p ⟨i,m⟩).og=m):Ew (FK h0 p) i (Pg t rules p ⟨i,m⟩)=Y (FK h0 (Rb t rules p ⟨i,m⟩)):=by
 unfold Ew J7;dsimp only[FK];rw[BR b_,bs,AS a_,bs,US a.inn.Aak (λx e=>by have:=a.inn.node x e;rw[tk.Aak];exact this),bs,US a.inn.Aao (λx e=>by have:=a.inn.edge x e;rw[tk.Aao];exact this),bs,f];rfl
theorem mX{l s:List CG}(h:S8 t rules h0 m0 p l s)(e:0<=i)(i1:i<l.length):AA s i=AA l i/\i<s.length:=by
 obtain ⟨ext,rfl,_,_⟩:=h
 grind [Ll]
theorem pj(hf:Ar t)(hr:GM rules)(f:Kb m0 h0.d5){l s:List CG}(u:∀q∈l,Km t rules h0 m0 q)(h:S8 t rules h0 m0 p l s):∀q∈s,RI m0 q:=by
 obtain ⟨ext,rfl,_,w⟩:=h;intro q e;rcases y?.1 e with e|e
 .exact(u q e).fact hf hr f
 .exact(w q e).1.fact hf hr f
theorem kB{l:List Aw}{f:Aw->K1}{p:Aw->Bool}(h:∀x∈l,f x=Y (p x)):B3 l f=Y (l.any p):=Ey h
variable{k:Int}
theorem xH(hf:Ar t)(hr:GM rules)(u:Kb m0 h0.d5){l:List CG}(M:∀q∈l,Km t rules h0 m0 q)(C:0<=i)(i1:i<l.length)(S:(AA l i).moves.length<5)(θ:0<=k)(ε:k<rules.length){m:AP}(E:(F3 t rules (AA l i).host ⟨k,m⟩).2=0){s:List CG}(F:S8 t rules h0 m0 (AA l i) l s):
  ((idx (s.map (FK h0)) i).bind λG=>
   (FE t (AA rules k) G.AaK m).bind λe=>
   if (!decide (e.2=0))=X then
   Y (.ret (([]:List Aw),e.2))
   else
   if (decide (8<(e.1.hV.d5.d3.length:Int)))=X then
   Y (.ret ([],3))
   else
   (idx (s.map (FK h0)) i).bind λH=>
   (Ew H k e.1).bind λw=>
   (B3 (s.map (FK h0)) (λJ=>Gu J w)).bind λK=>
   if K=X then
   Y (.next (s.map (FK h0)))
   else
   if (decide (((s.map (FK h0)).length:Int)=300))=X then
   Y (.ret ([],3))
   else
   (AY (s.map (FK h0)) [w]).bind λz=>
   Y (.next z))=Y (dW ([],3) ((R2 t rules (AA l i) ⟨k,m⟩ s).map (D! (FK h0)))):=by
 have N:=M _ (AF C i1);have η:=N.fact hf hr u;obtain⟨Z,Q⟩:=mX F C i1;obtain⟨gn,tk,e3,e4⟩:=aK hf hr u N E S;have ζ:=gn.fact hf hr u;have A:=hr.each _ (AF (l:=rules) θ ε);have δ:EJ t (AA rules k) (AA l i).host m=(Pg t rules (AA l i) ⟨k,m⟩,0):=by
  grind [F3]
 rw [AD C (by simpa using Q),GU C Q,Z];simp only[bs];show((FE t (AA rules k) (AA l i).host m).bind _)=_;rw[Yc hf A.1 A.2,δ,bs,ae V];dsimp only;unfold R2;by_cases O:8<(Pg t rules (AA l i) ⟨k,m⟩).hV.d5.d3.length
 .rw[ac an,ac O];rfl
 have B:B3 (s.map (FK h0)) (λJ=>Gu J (FK h0 (Rb t rules (AA l i) ⟨k,m⟩)))=Y (s.any λq=>WB q (Rb t rules (AA l i) ⟨k,m⟩)):=by
  rw [kB (p:=λy=>WB ⟨y.d.mo,y.AaK,y.f0⟩ (Rb t rules (AA l i) ⟨k,m⟩)),List.any_map]
  .rfl
  .intro x κ;obtain⟨q,hq,rfl⟩:=y!.1 κ;exact uY (pj hf hr u M F q hq) ζ
 rw [ae an,ae O,ua u η U tk e4,bs,B,bs];by_cases D:(s.any λq=>WB q (Rb t rules (AA l i) ⟨k,m⟩))=X
 .rw[ac D,ac D];rfl
 rw [ae D,ae D,c9];by_cases f:s.length=300
 .rw[ac u?,ac f];rfl
 .have P:s.length<=300:=by obtain⟨ext,rfl,h3,_⟩:=F;exact h3
  rw [ae an,ae f,AS a_,bs];simp[dW]
end
end Go.Sf.Sc
namespace Go.Sf.Sc
open Go Go.Sf
section
variable{t:AC}{rules:List ff}{h0:AG}{m0:d6}{depth:Int}
theorem vZ{β ρ γ:Type}(hf:Ar t)(hr:GM rules)(A:Kb m0 h0.d5)(hd:depth<=4){f:List β×Int->Option (Bo (List β×Int) ρ)}{k:List β×Int->Option γ}{w:ρ->Option γ}{ζ:Option γ}(enc:List CG->List β)(e:ρ)
  (B:∀i l,0<=i->Ip t rules h0 m0 depth i l->i<l.length->((AA l i).moves.length:Int)≠depth->f (enc l,i)=Y (match QT t rules (AA l i) l with|some H=>.next (enc H,i+1)|none=>.ret e))
  (C:∀i l,0<=i->Ip t rules h0 m0 depth i l->i<l.length->((AA l i).moves.length:Int)=depth->f (enc l,i)=Y (.brk (enc l,i))\/f (enc l,i)=Y (.next (enc l,i+1)))
  (D:∀i l,0<=i->Ip t rules h0 m0 depth i l->(l.length:Int)<=i->f (enc l,i)=Y (.brk (enc l,i)))
  {l:List CG}{z:List β×Int}(E:z=(enc l,0))(F:Ip t rules h0 m0 depth 0 l)(ha:∀r j,Nd t rules depth 301 0 l=Y r->k (enc r,j)=ζ)(hb:Nd t rules depth 301 0 l=W->w e=ζ):em (Cq f z) k w=ζ:=by
 subst E;obtain⟨o,G,u⟩:=gQ hf hr A hd enc e B C D 301 0 l U F U;rw[G.eq];cases h:Nd t rules depth 301 0 l with
 |none=>
  rw [h]at u;subst u;exact hb h
 |some r=>
  rw [h]at u;obtain⟨j,rfl⟩:=u;exact ha r j h
variable{i:Int}
theorem SD{l:List CG}(h:Ip t rules h0 m0 depth i l):∀q∈l,Km t rules h0 m0 q:=λq e=>(h.good q e).1
variable{p:CG}{k:Int}
theorem mP(hf:Ar t)(hr:GM rules)(u:Kb m0 h0.d5)(f:Km t rules h0 m0 p)(w:0<=k)(z:k<rules.length)(e:(HT t (AA rules k) p.host).2≠0):(HT t (AA rules k) p.host).2=3:=
 (tW hf ((vF f.rep.given).1 _ (AF w z)) (YD hf hr u f).2.2.2.1).resolve_left e
def Vn{β:Type}(enc:CG->β)(o:Option (List CG)):List β×Int:=match o with
 |some L=>(L.map enc,0)|none=>([],3)
theorem jI(hf:Ar t)(hr:GM rules)(J:Gr t rules h0=0)(D:Kb m0 h0.d5)(K:0<=depth)(hd:depth<=4):H6 t rules (FK h0 ⟨[],h0,m0⟩) depth=Y (Vn (FK h0) (cm t rules depth ⟨[],h0,m0⟩)):=by
 unfold H6;refine vZ hf hr D hd (D! (FK h0)) ([],3) (λi l f gb i1 E=>?_) (λi l f gb i1 he=>?_) (λi l f gb i1=>?_) (l:=[⟨[],h0,m0⟩]) rfl (K3 hf hr J D K) (λr j e=>?_) (λe=>?_)
 .have O:=SD gb;have G:=O _ (AF f i1);have S:=(gb.good _ (AF f i1)).2;have u:=gb.few;have P:(AA l i).moves.length<5:=U
  dsimp only;rw[ac k?,AD f k?,bs,GU f i1,ae (by show¬decide (((AA l i).moves.length:Int)=depth)=X;simpa using E),AT U U,
   T8 (l:=Ao rules.length) (D! (FK h0)) (λk M=>if(HT t (AA rules k) (AA l i).host).2=0 then GP (R2 t rules (AA l i)) (Mj t rules (AA l i).host k) M else W) ([],3) (λ_=>S8 t rules h0 m0 (AA l i) l) rfl (by rw[At]) ⟨[],V,u,λq N=>by cases N⟩,YG]
  .show em (Y (gG _ ((QT t rules (AA l i) l).map _))) _ _=_;cases QT t rules (AA l i) l<;>rfl
  intro k s A w z;rw[At]at w;have B:=hr.each _ (AF (l:=rules) A w);obtain⟨Q,H⟩:=mX z f i1;rw[My _ A w,AD A w,bs,AD f v5,bs,GU f H,Q];show((Eu t (AA rules k) (AA l i).host).bind _)=_/\_;rw[xK hf B.1 B.2,bs];by_cases C:(HT t (AA rules k) (AA l i).host).2=0
  case neg=>
   rw [ac (by simp[C]),ae C,mP hf hr D G A w C];exact⟨rfl,λs' h=>d_⟩
  rw [ae (by simp[C]),ac C,
   T8 (l:=Mj t rules (AA l i).host k) (D! (FK h0)) (R2 t rules (AA l i)) ([],3) (λ_=>S8 t rules h0 m0 (AA l i) l) rfl (by simp[Mj]) z]
  .refine⟨by cases GP (R2 t rules (AA l i)) (Mj t rules (AA l i).host k) s<;>rfl,λs' h=>?_⟩;exact VL (I:=S8 t rules h0 m0 (AA l i) l) (λmv F s s' z e=>Y2 hf hr D G P (Ud A w F) z e) z h
  grind [Ud,AF,HT,AA,Mj,GU,AD,xH,Y2]
 .right;have u:=gb.few;dsimp only;rw[ac k?,AD f k?,bs,GU f i1,ac (by show decide (((AA l i).moves.length:Int)=depth)=X;simpa using he),AT U U]
 .grind
 .show Y (_,_)=Y (Vn _ (Nd t rules depth 301 0 _));rw[e];rfl
 .show Y (_,_)=Y (Vn _ (Nd t rules depth 301 0 _));rw[e];rfl
end
end Go.Sf.Sc
namespace Go.Sf.Sc
open Go Go.Sf
def Tb(a b:Fp)(n:Nat):Fp:=(Ao n).filter λi=>decide (0<=AA a i)&&decide (0<=AA b i)
def Iu(a b:AU):BE:=⟨Tb a.p0.d3 b.p0.d3 a.j4.d5.d3.length,Tb a.p0.d4 b.p0.d4 a.j4.d5.d4.length⟩
variable{σ:Type}{n:Nat}
theorem aR{a b:Fp}(ha:a.length=n)(hb:b.length=n)(C:n<=1000)(mk:Fp->σ){f:Int->σ->Option σ}(hf:∀i l,f i (mk l)=((idx a i).bind λu=>(if(decide (0<=u))=X then((idx b i).bind λw=>Y (decide (0<=w)))else Y T).bind λz=>if z=X then(AY l [i]).bind λA=>Y (mk A)else Y (mk l))){s:σ}(B:s=mk []):n8 f 0 n s=Y (mk (Tb a b n)):=by
 subst B;rw[B0 (λi=>mk (((Ao n).take i.toNat).filter λi=>decide (0<=AA a i)&&decide (0<=AA b i))) U V]
 .rw[w_,C! (by rw[At];omega)];rfl
 intro i e i1;rw[hf,AD e U,bs,AD e U,bs,SC (λ_=>rfl),bs,B5 (l:=Ao n) e (by rw[At];exact i1),My _ e i1,y_]
 grind [AA,Ao,take,Nat.le_trans,x?,bk,At,AS,z?,AX]
section
variable{t:AC}{rules:List ff}{a b:AU}{depth:Int}{strict:Bool}
theorem nS(h:a.j4=b.j4)(ta:L0 a.j4 a)(tb:L0 b.j4 b)(sm:EH a.j4):Gt a b=Y (Iu a b,0):=by
 have u:=ta.Aak;have w:=ta.Aao;have e:=tb.Aak;have f:=tb.Aao;have z:=sm.ec;have A:=sm.eh;rw[<-h]at e f;unfold Gt;rw[ZW,bs,ae (by simp[h];rw[<-h];omega),aR u e z (λl=>BE.mk l []) (λ_ _=>rfl) rfl,bs,aR w f A (λl=>BE.mk (Tb a.p0.d3 b.p0.d3 a.j4.d5.d3.length) l) (λ_ _=>rfl) rfl,bs];rfl
variable{n:Nat}
theorem WA{l m:Fp}(e:n<=1000):(Tb l m n).length<=1000/\∀x∈Tb l m n,(0<=x/\x<n)/\0<=AA l x/\0<=AA m x:=by
 refine ⟨Nat.le_trans (x? _ _) (by rw[At];exact e),λx f=>?_⟩;obtain⟨w,u⟩:=x!.1 f;simp only[pq,tn]at u
 grind [Cu]
theorem wZ(sm:EH a.j4):Xo a.j4 (Iu a b):=
 ⟨(WA sm.ec).1,(WA sm.eh).1,λx e=>((WA sm.ec).2 x e).1,λx e=>((WA sm.eh).2 x e).1⟩
noncomputable def Hq(t:AC)(rules:List ff)(a b:AU):Int:=if FX t rules≠0 then FX t rules else if(Kt t a&&Kt t b)=T then 1 else if a.j4=b.j4 then 0 else 8
def Qo:Aaa:=⟨E6,E6,⟨[],[]⟩⟩
noncomputable def QV(t:AC)(rules:List ff)(a b:AU)(depth:Int):Option (List CG):=cm t rules depth ⟨[],a.hV,Lz a (Iu a b)⟩
noncomputable def N7(t:AC)(rules:List ff)(a b:AU)(depth:Int):Option (List CG):=cm t rules depth ⟨[],b.hV,Lz b (Iu a b)⟩
def kJ(a b:AU)(o:Option (CG×CG×d6)):Aaa×Int:=match o with
 |some r=>(⟨⟨a.hV,r.1.moves⟩,⟨b.hV,r.2.1.moves⟩,r.2.2⟩,0)|none=>(Qo,10)
noncomputable def D5(t:AC)(rules:List ff)(a b:AU)(depth:Int)(strict:Bool):Aaa×Int:=
 if Hq t rules a b≠0 then(Qo,Hq t rules a b)
 else if depth<0\/4<depth then(Qo,6)
 else if 8<a.hV.d5.d3.length\/8<b.hV.d5.d3.length then(Qo,3)
 else match QV t rules a b depth,N7 t rules a b depth with
  |some L,Y R=>kJ a b (UV strict L R depth)|_,_=>(Qo,3)
structure TP(t:AC)(rules:List ff)(a b:AU):Prop where
 rz:FX t rules=0
 ca:Kt t a=X
 cb:Kt t b=X
 eq:a.j4=b.j4
theorem Yu(h:Hq t rules a b=0):TP t rules a b:=by
 unfold Hq at h;split at h
 .grind
 rename_i k;split at h
 .cases h
 rename_i e;split at h
 next f=>simp only[D?,pq]at e;exact⟨F_.1 k,e.1,e.2,f⟩
 .cases h
end
end Go.Sf.Sc
namespace Go.Sf
end Go.Sf
namespace Go.Sf.Sc
open Go Go.Sf
variable{σ ρ:Type}
theorem ja{s:σ}{o:Option ρ}:em (Y (oc s o)) (λs2=>Y (Bo.next s2)) (λe=>Y (Bo.ret e))=Y (bG s o):=by cases o<;>rfl
section
variable{t:AC}{rules:List ff}{a b:AU}{depth:Int}{strict:Bool}{m0 m1:d6}
structure cM(m0 m1:d6)(L R:List CG):Prop where
 l:∀p∈L,RI m0 p/\p.moves.length<=5
 r:∀p∈R,RI m1 p/\p.moves.length<=5
 nl:m0.d3.length=m1.d3.length
 el:m0.d4.length=m1.d4.length
variable{L R:List CG}
theorem cM.inn(h:cM m0 m1 L R):∀p∈L,∀q∈R,WX p.host p.image q.image:=λp u q w=>by
 have f:=(h.l p u).1;have g:=(h.r q w).1;exact⟨by rw[f.nl,g.nl,h.nl],by rw[f.el,g.el,h.el],λk e=>(f.inn.node k e).2,λk e=>(f.inn.edge k e).2⟩
def eX(x y:AG)(r:CG×CG×d6):Aaa×Int:=(⟨⟨x,r.1.moves⟩,⟨y,r.2.1.moves⟩,r.2.2⟩,0)
theorem jF(x:AG)(p:CG):DK (FK x p)=Y (Abx p.image):=by
 unfold DK Abx;rw[V6,bs,V6];simp only[bs];rw[P5 (λ_=>rfl),bs];rfl
variable{x y:AG}
theorem ub(h:cM m0 m1 L R){s i k:Int}(J:0<=i)(i1:i<L.length)(F:0<=k)(G:k<R.length){z:Aaa}:
  ((idx (R.map (FK y)) k).bind λu=>
   (if(!decide ((AJ (((FK x (AA L i)).d.mo.length:Int)+(u.d.mo.length:Int)))=s))=X then Y X else((if strict=X then((DK (FK x (AA L i))).bind λA=>
   (if A=X then Y X else((DK u).bind λB=>
   Y (B))).bind λC=>
   Y (C))else Y T).bind λD=>
   Y (D))).bind λE=>
   if E=X then
   Y (.next z)
   else
   if strict=X then
   (Dm (FK x (AA L i)).AaK u.AaK (FK x (AA L i)).f0 u.f0).bind λw=>
   if w.2=X then
   Y (.ret (Aaa.mk (FK x (AA L i)).d u.d w.1,0))
   else
   Y (.next z)
   else
   (Dm (FK x (AA L i)).AaK u.AaK (d6.mk [] []) (d6.mk [] [])).bind λw=>
   if w.2=X then
   Y (.ret (Aaa.mk (FK x (AA L i)).d u.d w.1,0))
   else
   Y (.next z))=Y (bG z ((Sv strict L R s i k).map (eX x y))):=by
 obtain ⟨f,K⟩:=h.l _ (AF J i1);obtain⟨g,M⟩:=h.r _ (AF F G);have hi:=h.inn _ (AF J i1) _ (AF F G);rw[AD F (by simpa using G),bs,GU F G,jF,jF];simp only[bs];rw[P5 (λ_=>rfl)];simp only[bs];rw[SC (λ_=>rfl)];simp only[bs];rw[P5 (λ_=>rfl),bs];show(if(!decide (AJ (((AA L i).moves.length:Int)+(AA R k).moves.length)=s)||_)=X then _ else if strict=X then(Dm (AA L i).host (AA R k).host (AA L i).image (AA R k).image).bind _ else(Dm (AA L i).host (AA R k).host _ _).bind _)=_;rw[AT U U];unfold Sv cP;by_cases e:((AA L i).moves.length:Int)+(AA R k).moves.length=s
 case neg=>rw[ac c_,ae e];rfl
 rw [ac e];cases strict with
 |true=>
  rw [ac (rfl:X=X)];by_cases H:(Abx (AA L i).image||Abx (AA R k).image)=X
  .rw[ac (by simp only[H];simp),ac H];rfl
  .rw[ae (by simp only[e,H];simp),ae H,ac rfl,XO f.sm g.sm f.vl g.vl f.ends hi,bs];cases Hj (AA L i).host (AA R k).host (AA L i).image (AA R k).image<;>rfl
 |false=>
  rw [ae c_,ae a!,ae a!,XO f.sm g.sm f.vl g.vl f.ends (wt _),bs];cases Hj (AA L i).host (AA R k).host ⟨[],[]⟩ ⟨[],[]⟩<;>rfl
end
end Go.Sf.Sc
namespace Go.Sf.Sc
open Go Go.Sf
structure Uu(t:AC)(rules:List ff)(a b:AU):Prop where
 hf:Ar t
 hr:GM rules
 fa:IQ a.ff
 ka:Di a.ff.d7<=40
 fb:IQ b.ff
 kb:Di b.ff.d7<=40
section
variable{t:AC}{rules:List ff}{a b:AU}{depth:Int}{strict:Bool}
variable{s:AU}
theorem bH(hf:Ar t)(fr:IQ s.ff)(u:Di s.ff.d7<=40)(rz:FX t rules=0)(h:Kt t s=X):Gr t rules s.hV=0:=by
 unfold Kt at h;simp only[pq,tn]at h;obtain⟨o,e⟩:=R5 hf fr u h.1;have f:=TW.1 h.2;rw[e]at f;have w:s.hV=Oy t s.ff s.j4 s.og:=by
  have:=congrArg AU.hV f;exact this.symm
 grind [Gr,WZ]
structure vh(t:AC)(rules:List ff)(a b:AU):Prop where
 ta:L0 a.j4 a
 tb:L0 b.j4 b
 wa:Kn a.j4
 wb:Kn b.j4
 ga:Gr t rules a.hV=0
 gb:Gr t rules b.hV=0
 ma:Kb (Lz a (Iu a b)) a.hV.d5
 mb:Kb (Lz b (Iu a b)) b.hV.d5
 pa:Xo a.j4 (Iu a b)
 pb:Xo b.j4 (Iu a b)
theorem LM(f:Uu t rules a b)(v:TP t rules a b):vh t rules a b:=by
 obtain ⟨wa,ta,sa⟩:=iQ f.hf f.fa f.ka v.ca;obtain⟨wb,tb,sb⟩:=iQ f.hf f.fb f.kb v.cb;have pa:Xo a.j4 (Iu a b):=wZ wa.s;have pb:Xo b.j4 (Iu a b):=v.eq▸pa;exact⟨ta,tb,wa,wb,bH f.hf f.fa f.ka v.rz v.ca,bH f.hf f.fb f.kb v.rz v.cb,m7 pa ta,m7 pb tb,pa,pb⟩
variable{L R:List CG}
theorem hU(f:Uu t rules a b)(v:TP t rules a b)(z:0<=depth)(hd:depth<=4)(A:QV t rules a b depth=Y L)(B:N7 t rules a b depth=Y R):
  (∀p∈L,Km t rules a.hV (Lz a (Iu a b)) p)/\(∀p∈R,Km t rules b.hV (Lz b (Iu a b)) p)/\cM (Lz a (Iu a b)) (Lz b (Iu a b)) L R:=by
 have g:=LM f v;obtain⟨⟨j,u⟩,_⟩:=Pz f.hf f.hr g.ma hd 301 0 _ L U (K3 f.hf f.hr g.ga g.ma z) A;obtain⟨⟨C,w⟩,_⟩:=Pz f.hf f.hr g.mb hd 301 0 _ R U (K3 f.hf f.hr g.gb g.mb z) B;refine⟨SD u,SD w,λp e=>⟨(SD u p e).fact f.hf f.hr g.ma,(SD u p e).few⟩,λp e=>⟨(SD w p e).fact f.hf f.hr g.mb,(SD w p e).few⟩,?_,?_⟩
 .show(D3 _ _).length=(D3 _ _).length;rw[H4,H4]
 .show(D3 _ _).length=(D3 _ _).length;rw[H4,H4]
theorem di(h:Hq t rules a b≠0):D5 t rules a b depth strict=(Qo,Hq t rules a b):=by grind[D5]
theorem dj(h:Hq t rules a b=0)(e:depth<0\/4<depth):D5 t rules a b depth strict=(Qo,6):=by grind[D5]
theorem dk(h:Hq t rules a b=0)(e:¬(depth<0\/4<depth))(f:8<a.hV.d5.d3.length\/8<b.hV.d5.d3.length):D5 t rules a b depth strict=(Qo,3):=by grind[D5]
theorem VG(h:Hq t rules a b=0)(e:¬(depth<0\/4<depth))(f:¬(8<a.hV.d5.d3.length\/8<b.hV.d5.d3.length)):D5 t rules a b depth strict=(match QV t rules a b depth,N7 t rules a b depth with
  |some L,Y R=>kJ a b (UV strict L R depth)|_,_=>(Qo,3)):=by grind[D5]
theorem jD(f:Uu t rules a b):Kd t rules a b depth strict=Y (D5 t rules a b depth strict):=by
 unfold Kd;rw[qZ f.hf f.hr f.fa f.ka f.fb f.kb,bs];show(if(!decide (Hq t rules a b=0))=X then Y (_,Hq t rules a b)else _)=_;by_cases hv:Hq t rules a b=0
 case neg=>rw[di hv,ac l_];rfl
 rw [ae l_];by_cases e:depth<0\/4<depth
 .rw[dj hv e,ac f_];rfl
 rw [ae f_];by_cases z:8<a.hV.d5.d3.length\/8<b.hV.d5.d3.length
 .rw[dk hv e z,ac an];rfl
 have v:=Yu hv;have g:=LM f v;rw[VG hv e z,ae an,nS v.eq g.ta g.tb g.wa.s,bs,ae V,ef g.pa g.ta g.ta.sm,bs];have u:H6 t rules ⟨⟨a.hV,[]⟩,a.hV,Lz a (Iu a b)⟩ depth=Y (Vn (FK a.hV) (QV t rules a b depth)):=jI f.hf f.hr g.ga g.ma U U;have s2:H6 t rules ⟨⟨b.hV,[]⟩,b.hV,Lz b (Iu a b)⟩ depth=Y (Vn (FK b.hV) (N7 t rules a b depth)):=jI f.hf f.hr g.gb g.mb U U;dsimp only;rw[u,bs];cases A:QV t rules a b depth with
 |none=>rfl|some L=>
 rw [ae (by simp[Vn]),ef g.pb g.tb g.tb.sm,bs,s2,bs];cases B:N7 t rules a b depth with
 |none=>rfl|some R=>
 rw [ae (by simp[Vn])];obtain⟨_,_,D⟩:=hU f v U U A B;dsimp only[Vn];rw[AT (n:=2*depth) U U,AT (n:=2*depth+1) U U,c9,c9,
  Gf (a:=0) (b:=2*depth+1) (λ_=>(⟨E6,E6,⟨[],[]⟩⟩:Aaa)) (λs=>(lq strict L R s).map (eX a.hV b.hV)) U rfl,KK]
 .show _=Y (kJ a b (fst (lq strict L R) 0 (2*depth+1)));cases fst (lq strict L R) 0 (2*depth+1)<;>rfl
 intro s C u _;rw[Gf (a:=0) (b:=(L.length:Int)) (λ_=>(⟨E6,E6,⟨[],[]⟩⟩:Aaa)) (λi=>(fst (Sv strict L R s i) 0 R.length).map (eX a.hV b.hV)) U rfl,KK,ja]
 .rfl
 intro i w i1 _;rw[AD w k?,bs,GU w i1,Gf (a:=0) (b:=(R.length:Int)) (λ_=>(⟨E6,E6,⟨[],[]⟩⟩:Aaa)) (λk=>(Sv strict L R s i k).map (eX a.hV b.hV)) U rfl,KK,ja]
 grind [ub]
end
end Go.Sf.Sc
namespace Go.Sf.Sc
open Go Go.Sf
section
variable{t:AC}{rules:List ff}{a b:AU}{depth:Int}{strict:Bool}
theorem tj(f:Uu t rules a b)(e:(D5 t rules a b depth strict).2=0):∃L R r,TP t rules a b/\(0<=depth/\depth<=4)/\QV t rules a b depth=Y L/\N7 t rules a b depth=Y R/\UV strict L R depth=Y r/\D5 t rules a b depth strict=eX a.hV b.hV r:=by
 by_cases hv:Hq t rules a b=0
 case neg=>rw[di hv]at e;exact absurd e hv
 by_cases A:depth<0\/4<depth
 .grind[dj]
 by_cases B:8<a.hV.d5.d3.length\/8<b.hV.d5.d3.length
 .grind[dk]
 rw [VG hv A B]at e|-;cases u:QV t rules a b depth with
 |none=>rw[u]at e;cases e
 |some L=>
 cases w:N7 t rules a b depth with
 |none=>rw[u,w]at e;cases e
 |some R=>
 rw [u,w]at e;dsimp only at e|-;cases z:UV strict L R depth with
 |none=>rw[z]at e;cases e
 |some r=>exact⟨L,R,r,Yu hv,U,rfl,rfl,z,rfl⟩
theorem kP:((D5 t rules a b depth strict).1.gp.l4=a.hV/\(D5 t rules a b depth strict).1.ei.l4=b.hV)\/(D5 t rules a b depth strict).1=Qo:=by
 unfold D5;split
 .exact .inr rfl
 split
 .exact .inr rfl
 split
 .exact .inr rfl
 split
 .rename_i L R _ _;cases UV strict L R depth with
  |none=>exact .inr rfl|some r=>exact .inl ⟨rfl,rfl⟩
 .exact .inr rfl
end
theorem oW{d:CA}(h:Kn d.l4):EX d d=Y X:=by
 unfold EX;rw[u0 h h,bs,ae V,BS (λ_=>T) T]
 .rw[show l3 (λ_=>T) 0 (d.mo.length:Int)=T from Bm.2 λ_ _ _=>rfl];rfl
 grind [AD,qz]
theorem Yq{j:Aaa}(e:Kn j.gp.l4)(f:Kn j.ei.l4):NR j j=Y X:=by grind[NR,oW,u7]
theorem yQ{t:AC}{rules:List ff}{a b:AU}{depth:Int}{e f u:Bool}(w:IH t rules a.j4=Y e)(z:Et t a=Y f)(A:Et t b=Y u):∃c,Ls t rules a b depth=Y c/\(c=X->e=X/\f=X/\u=X):=by
 unfold Ls NS;rw[w,bs,UD (λ_=>z),bs,UD (λ_=>A),bs,UD (λ_=>rfl),bs,UD (λ_=>rfl),bs];split
 .exact⟨T,rfl,λh=>d_⟩
 .rename_i h;simp only[E!,not_or,E',Bool.not_eq_false']at h;obtain⟨⟨⟨⟨C,D⟩,E⟩,_⟩,_⟩:=h;rw[BS (λi=>!((((decide (((AA rules i).gp.d5.d3.length:Int)<=2))&&(decide (((AA rules i).gp.d5.d4.length:Int)<=2)))&&(decide (((AA rules i).ei.d5.d3.length:Int)<=(AJ (((AA rules i).gp.d5.d3.length:Int)+1)))))&&(decide (((AA rules i).ei.d5.d4.length:Int)<=(AJ (((AA rules i).gp.d5.d4.length:Int)+1)))))) T]
  .split
   .exact⟨T,rfl,λh=>d_⟩
   .exact⟨_,rfl,λ_=>⟨C,D,E⟩⟩
  .intro i B i1 _;rw[AD B i1,bs,bs];split<;>rfl
theorem bS:Kn E6.l4:=⟨⟨by simp[E6],by simp[E6],by simp[E6],λv hv=>by simp[E6]at hv⟩,λv hv=>by simp[E6]at hv⟩
theorem mg{t:AC}{rules:List ff}{a b:AU}{depth:Int}{strict:Bool}(wa:Kn a.hV)(wb:Kn b.hV):NR (D5 t rules a b depth strict).1 (D5 t rules a b depth strict).1=Y X:=by
 rcases kP (t:=t) (rules:=rules) (a:=a) (b:=b) (depth:=depth) (strict:=strict)with h|h
 .grind[Yq]
 .rw[h];exact Yq bS bS
end Go.Sf.Sc
namespace Go.Sf.Sc
open Go Go.Sf
structure Yy(d:G6):Prop where
 types:∀x∈d.d3,U2 x
 ends:∀x∈d.d4,U2 x
 a:Xr d.A
 b:Xr d.B
 h:iH d.H
theorem lw{d:G6}(h:(Ix d).WF):Yy d:=by
 have f:TV.tc (_::_::_):=h;have k:=f.2.2;have ka:(KJ d.A).WF:=Xh 15 k;have kb:(KJ d.B).WF:=Xh 15 (Xg 15 k);have u:=Xg 30 k;exact⟨λx e=>gL (Im f.1 x e),λx e=>gL (Im f.2.1 x e),bP ka,bP kb,λx e=>gL (Im u.1 x e),λx e=>Vx (Im u.2.1 x e)⟩
structure Rr(t:AC)(rules:List ff)(h:AG):Prop where
 st:(AL t).Sm
 tz:(A0 t).2=0
 hf:Ar t
 hr:GM rules
 two:rules.length=2
 ok:∀r∈rules,DP t r=0
 sm:∀r∈rules,(Bz r).Sm
 host:(De t h).2=0
 light:IH t rules h=Y X
theorem oI{d:G6}(hd:Yy d):∃v,Fw d=Y v/\(v.2.2.2=X->Rr v.1 v.2.1 v.2.2.1):=by
 unfold Fw;split
 .grind
 .obtain⟨t,et,e⟩:=qk hd.types hd.ends;obtain⟨z,A,B,C⟩:=fL e hd.a;obtain⟨D,E,F,s2⟩:=fL e hd.b;obtain⟨h,G,H⟩:=nu e hd.h;have f:∀r∈[z,D],(Bz r).Sm:=by simp[C,s2]
  obtain ⟨b,u,w⟩:=uI e.sm f h;rw[et,bs,A,bs,E,bs,G,bs,u,bs];exact⟨_,rfl,λhb=>by
   obtain rfl:b=X:=hb;exact⟨e.sm,e.zero,(w rfl).1,(w rfl).2,rfl,by simp[B,F],f,by rw[H],u⟩⟩
structure Rz(t:AC)(rules:List ff)(h:AG)(s:AU):Prop where
 rule:s.ff∈rules
 before:s.j4=h
 chk:Kt t s=X
section
variable{t:AC}{rules:List ff}{h:AG}
variable{r:ff}
theorem aq(p:Rr t rules h)(hr:r∈rules):∃l,G0 t r h 2=Y l/\∀s∈l,Rz t rules h s:=by
 have f:IQ r/\Di r.d7<=40:=by
  obtain ⟨i,w,i1,rfl⟩:=BG hr;exact p.hr.each _ (AF w i1)
 have A:=tX (t:=t) (r:=r) (h:=h);unfold G0;rw[xb p.hf f.1 f.2,bs];refine El (λi l=>(0<=i/\i<=2)/\(l.length:Int)<=i/\∀s∈l,Rz t rules h s) 2 ⟨U,V,λs u=>by cases u⟩ (λi l w⟨a1,a2,a3⟩=>?_) (λi l w⟨a1,a2,a3⟩_=>⟨l,rfl,a3⟩);dsimp only;by_cases hi:i<(HT t r h).1.length/\i<2
 .left;have z:=mO (AF a1.1 hi.1);obtain⟨o,e⟩:=R5 p.hf f.1 f.2 z;refine⟨U,l++[S4 t r h (AA (HT t r h).1 i)],?_,U,an,λs u=>?_⟩
  .rw[ac n!,AD a1.1 hi.1,bs,oL p.hf f.1 f.2,e,bs,AS a_,bs,AT (n:=i+1) U U]
  .rcases y?.1 u with u|u
   .exact a3 s u
   .obtain rfl:=z_.1 u;refine⟨hr,rfl,?_⟩;unfold Kt;show(decide ((EJ t r h (AA (HT t r h).1 i)).2=0)&&iV (EJ t r h (AA (HT t r h).1 i)).1 _)=X;rw[e];simp only[decide_true,E?];exact TW.2 rfl
 grind
theorem eJ(p:Rr t rules h){a b:AU}(ha:Rz t rules h a)(hb:Rz t rules h b):Uu t rules a b:=by
 obtain ⟨i,u,i1,w⟩:=BG ha.rule;obtain⟨j,z,A,B⟩:=BG hb.rule;have e:=p.hr.each _ (AF u i1);have f:=p.hr.each _ (AF z A);rw[w]at e;rw[B]at f;exact⟨p.hf,p.hr,e.1,e.2,f.1,f.2⟩
variable{s:AU}
theorem Wi(st:(AL t).Sm)(u:(Bz s.ff).Sm):∃b,Et t s=Y b:=by
 obtain ⟨z,A,B⟩:=Sh st;obtain⟨C,D,G⟩:=mZ (h:=s.hV);have w:∃b,Gz t s.ff s.j4=Y b:=by
  cases z with
  |false=>exact⟨T,by unfold Gz;rw[A];rfl⟩|true=>
   obtain ⟨b,e,f⟩:=ir (B rfl) st u s.j4;exact⟨b,e⟩
 obtain ⟨E,F⟩:=w;unfold Et NQ JU;rw[F,bs];cases E with
 |false=>exact⟨T,rfl⟩|true=>
 rw [ac rfl,D,bs,bs];cases C with
 |false=>exact⟨T,rfl⟩|true=>
 exact ⟨_,by simp only[bs,if_true];rw[dH rfl,bs,dH rfl,bs]⟩
theorem vO(p:Rr t rules h){a b:AU}{depth:Int}(ha:Rz t rules h a)(hb:Rz t rules h b):∃c,Ls t rules a b depth=Y c:=by
 obtain ⟨z,u⟩:=Wi p.st (p.sm _ ha.rule);obtain⟨A,w⟩:=Wi p.st (p.sm _ hb.rule);have f:=p.light;rw[<-ha.before]at f;obtain⟨c,e,_⟩:=yQ (depth:=depth) f u w;exact⟨c,e⟩
theorem pE(p:Rr t rules h)(u:Rz t rules h s):Kn s.hV:=by
 have f:=eJ p u u;have k:=u.chk;unfold Kt at k;simp only[pq,tn]at k;obtain⟨o,e⟩:=R5 f.hf f.fa f.ka k.1;have w:=TW.1 k.2;rw[e]at w;have z:=bR o;dsimp only at w;rw[w]at z;exact z.a
end
variable{ρ:Type}
theorem aC{f:Int->Unit->Option (Bo Unit ρ)}{a b:Int}(h:∀i,a<=i->i<b->f i ()=Y (.next ())):jj f a b ()=Y (.inl ()):=by
 rw [BW (λ_=>W) (λi e i1 _=>h i e i1),A5.2 λ_ _ _=>rfl];rfl
end Go.Sf.Sc
namespace Go.Sf.Sc
open Go Go.Sf
section
variable{t:AC}{rules:List ff}{a b:AU}{depth:Int}
variable{L R:List CG}
theorem kO{strict:Bool}(hv:Hq t rules a b=0)(hd:0<=depth/\depth<=4)(e:¬(8<a.hV.d5.d3.length\/8<b.hV.d5.d3.length))(f:QV t rules a b depth=Y L)(u:N7 t rules a b depth=Y R):D5 t rules a b depth strict=kJ a b (UV strict L R depth):=by grind[VG]
theorem kN{strict:Bool}(e:(D5 t rules a b depth strict).2=0):Hq t rules a b=0/\¬(depth<0\/4<depth)/\¬(8<a.hV.d5.d3.length\/8<b.hV.d5.d3.length):=by grind[Hq,di,dj,dk]
variable{p:CG}
theorem bE(f:p.moves=[]){h0:AG}{m0:d6}(e:Ip t rules h0 m0 0 0 [p]):cm t rules 0 p=Y [p]:=Y3 301 0 [p] U e λ_=>by
 grind [AA]
theorem nF(f:Uu t rules a b)(v:TP t rules a b):QV t rules a b 0=Y [⟨[],a.hV,Lz a (Iu a b)⟩]:=bE rfl (K3 f.hf f.hr (LM f v).ga (LM f v).ma U)
theorem lO(f:Uu t rules a b)(v:TP t rules a b):N7 t rules a b 0=Y [⟨[],b.hV,Lz b (Iu a b)⟩]:=bE rfl (K3 f.hf f.hr (LM f v).gb (LM f v).mb U)
end
end Go.Sf.Sc
namespace Go.Sf.Sc
open Go Go.Sf
section
variable{t:AC}{rules:List ff}{a b:AU}
variable{ρ:Type}
theorem XG{c:Int->Option ρ}{n:Int}{v:ρ}(e:0<n)(h:c 0=Y v):fst c 0 n=Y v:=by
 unfold fst;rw[show(n-0).toNat=((n-0).toNat-1)+1 by omega,E9,h]
theorem kE(f:Uu t rules a b)(e:(D5 t rules a b 0 T).2=0)(B:(D5 t rules a b 1 T).2≠3):D5 t rules a b 1 T=D5 t rules a b 0 T/\(D5 t rules a b 0 T).1.gp.mo.length+(D5 t rules a b 0 T).1.ei.mo.length=0:=by
 obtain ⟨L,R,r,v,_,C,D,N,E⟩:=tj f e;obtain⟨hv,_,z⟩:=kN e;have g:=LM f v;have G:=nF f v;have H:=lO f v;rw[G]at C;rw[H]at D;cases C;cases D;obtain⟨s,Q,S,O,_⟩:=CZ N;obtain rfl:s=0:=U
 obtain ⟨i,θ,i1,P,_⟩:=CZ O;simp only[z?]at i1;obtain rfl:i=0:=U
 obtain ⟨k,ε,A,F,_⟩:=CZ P;simp only[z?]at A;obtain rfl:k=0:=U
 obtain ⟨κ,η,ζ,δ⟩:=nk F;have J:(D5 t rules a b 0 T).1.gp.mo.length+(D5 t rules a b 0 T).1.ei.mo.length=0:=by
  rw [E];show r.1.moves.length+r.2.1.moves.length=0;omega
 refine ⟨?_,J⟩;cases u:QV t rules a b 1 with
 |none=>
  refine absurd ?_ B;rw[VG hv U z,u]
 |some L=>
 cases w:N7 t rules a b 1 with
 |none=>
  refine absurd ?_ B;rw[VG hv U z,u,w]
 |some R=>
 obtain ⟨_,x,rfl⟩:=Pz f.hf f.hr g.ma (depth:=1) U 301 0 _ L U (K3 f.hf f.hr g.ga g.ma U) u;obtain⟨_,y,rfl⟩:=Pz f.hf f.hr g.mb (depth:=1) U 301 0 _ R U (K3 f.hf f.hr g.gb g.mb U) w;rw[kO hv U z u w,E];have K:Sv T ([⟨[],a.hV,Lz a (Iu a b)⟩]++x) ([⟨[],b.hV,Lz b (Iu a b)⟩]++y) 0 0 0=Y r:=F;have M:UV T ([⟨[],a.hV,Lz a (Iu a b)⟩]++x) ([⟨[],b.hV,Lz b (Iu a b)⟩]++y) 1=Y r:=
  XG U (XG V (XG V K))
 rw [M];rfl
end
theorem ZX(d:G6)(hd:Yy d):MB d=Y X:=by
 obtain ⟨⟨t,rules,h,ok⟩,e,k⟩:=oI hd;unfold MB;rw[e,bs,pT,bs];cases ok with
 |false=>rfl|true=>
 have p:Rr t rules h:=k rfl;have two:=p.two;have m0:AA rules 0∈rules:=AF U U;have m1:AA rules 1∈rules:=AF U U;obtain⟨A,B,C⟩:=aq p m0;obtain⟨l1,D,E⟩:=aq p m1;dsimp only;rw[ae V,AD U U,bs,B,bs,aC]
 .rfl
 intro i u i1;have ha:=C _ (AF u i1);rw[AD u i1,bs,AD (l:=rules) (i:=1) U U,bs,D,bs,aC]
 .rfl
 intro j w z;have hb:=E _ (AF w z);obtain⟨c,F⟩:=vO (depth:=1) p ha hb;rw[AD w z,bs,F,bs];split
 .rfl
 have f:=eJ p ha hb;unfold Qv;rw[jD f,bs,bs,jD f,bs,bs];dsimp only;by_cases h0:(D5 t rules (AA A i) (AA l1 j) 0 T).2=0/\(D5 t rules (AA A i) (AA l1 j) 1 T).2≠3
 .obtain⟨G,z2⟩:=kE f h0.1 h0.2;rw[G,ac (by simp[h0.1]),ae (by simp[h0.1]),mg (pE p ha) (pE p hb),bs,bs,bs,ae];rw[AT U U];simp;omega
 .rw[ae (by simpa using h0),bs,ae a!]
end Go.Sf.Sc
namespace Go.Sf.Sc
open Go Go.Sf
section
variable{t:AC}{rules:List ff}{a b:AU}{depth:Int}
end
end Go.Sf.Sc
