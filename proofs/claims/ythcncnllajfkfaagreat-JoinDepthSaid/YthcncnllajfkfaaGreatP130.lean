/- Plain lemmas: what the functions of the program and of the reference compute. -/
import Derived.Test.YthcncnllajfkfaaGreatP96
import Derived.Test.YthcncnllajfkfaaGreatP61
set_option linter.all false
set_option maxRecDepth 100000
open Option renaming some->Y,none->W
open Bool renaming true->X,false->T
open Int renaming toNat_natCast->w_,eq_ofNat_of_zero_le->w!
open List renaming nodup_range->w?,getElem?_eq_getElem->x_,mem_filter->x!,length_filter_le->x?,filter_append->y_,mem_map->y!,mem_append->y?,mem_singleton->z_,append_nil->z!,length_singleton->z?,take_sublist->A_,any_eq_false->A',mem_cons->A!,mem_cons_of_mem->A?,getElem?_modify->B_,length_set->B',getD_eq_getElem?_getD->B!,zip_map'->B?,take_length->C_,countP_cons->C',take_of_length_le->C!,replicate->C?,length_replicate->D_,map_congr_left->D',map->D!
open Bool renaming not_eq_false->D?,not_eq_true'->E_,not_eq_true->E',or_eq_true->E!,true_and->E?
open Classical renaming not_not->F_,byContradiction->F!
namespace Go.Sf.Sc
open Go Go.Sf
variable{n:Nat}
theorem oU(h:n<=1000):Lp 0 n=Y (A0 n):=by
 unfold Lp;rw[CC (a:=0) (b:=(n:Int)) (s:=[]) (λi=>A0 i.toNat) U rfl,bs,w_];intro i e i1;rw[AS (by rw[A5];simp;unfold AX;omega),bs,Em e,Int.zero_add,AT U U]
def H6(l:Fp)(n:Nat):Prop:=l.Perm (A0 n)
variable{l:Fp}
theorem H6.len(h:H6 l n):l.length=n:=by rw[h.length_eq,A5]
theorem H6.mem(h:H6 l n){x:Int}:x∈l↔0<=x/\x<n:=by rw[h.mem_iff,C6]
variable{i j:Int}
theorem H6.ne(h:H6 l n)(f:0<=j)(u:j<i)(i1:i<n):AA l j≠AA l i:=by
 have hd:l.Nodup:=h.nodup_iff.2 (by
  unfold A0;exact List.Pairwise.map _ (λa b h e=>h (Int.ofNat.inj e)) w?)
 have:=h.len;exact IK hd f u U
theorem bA(A:n<=1000){f:Fp}(B:∀x∈f,U8 x):∃l,JB n f=Y l/\H6 l n:=by
 unfold JB;rw[oU A,bs];refine E1 (λi l=>0<=i/\H6 l n) n ⟨U,.refl _⟩ (λi l C⟨a1,a2⟩=>?_) (λi l C⟨a1,a2⟩_=>⟨l,rfl,a2⟩);dsimp only;by_cases u:i<n/\i<f.length
 .left;have z:=B _ (AF a1 u.2);have F:=a2.len;obtain⟨r,e,G,H⟩:=Cb (show 0<=AJ (AA f i)by rw[z.w];exact z.1) (show 0<(n:Int)-i by omega);refine⟨u.1,BE (BE l i (AA l (i+r))) (i+r) (AA l i),?_,U,?_⟩
  .rw[ac i9,AD a1 u.2,bs,AT (n:=(n:Int)-i) U U,e,bs,AT (n:=i+r) U U,AD U U,bs,AD a1 U,bs,bs,AD U s_,bs,AT (n:=i+1) U U]
  .refine List.Perm.trans ?_ a2;have D:i.toNat<l.length:=U
   have E:(i+r).toNat<l.length:=U
   have:=@List.set_set_perm _ l _ _ D E;unfold BE
   rwa [show AA l i=l[i.toNat]by grind[AA,x_],show AA l (i+r)=l[(i+r).toNat]by grind[AA,x_]]
 .right;rw[ae i9]
theorem jg(h:H6 l n):GP l=Y 0:=by
 have z:=h.len;unfold GP;rw[Bj (λ_=>(W:a5)),BH.2 (λ_ _ _=>rfl),Da]
 .dsimp only;rw[Bj (λ_=>(W:a5)),BH.2 (λ_ _ _=>rfl),Da];intro i f i1 _;rw[Bj (λ_=>(W:a5)),BH.2 (λ_ _ _=>rfl),Da]
  .rfl
  .intro j u w _;rw[AD f i1,bs,AD u U,bs,ae (by rw[decide_eq_true_iff];exact λe=>h.ne u w U e.symm)];rfl
 .intro i f i1 _;have A:=h.mem.1 (AF f i1);rw[AD f i1,bs,ae an,bs,bs,ae an];rfl
structure ReO(g g':d5)(m:d6):Prop where
 nl:g'.d3.length=g.d3.length
 el:g'.d4.length=g.d4.length
 node:∀i:Int,0<=i->i<g.d3.length->AA g'.d3 (AA m.d3 i)=AA g.d3 i
 edge:∀i:Int,0<=i->i<g.d4.length->AA g'.d4 (AA m.d4 i)=⟨(AA g.d4 i).kg,AA m.d3 (AA g.d4 i).ke,AA m.d3 (AA g.d4 i).To⟩
variable{g:d5}
theorem SZ(e:Cp g):Di g=Y g:=by
 have:=e.ec;have:=e.eh;unfold Di;rw[Be b_,bs,Be b_,bs]
variable{m:d6}
theorem oH(C:Cp g)(A:H6 m.d3 g.d3.length)(he:H6 m.d4 g.d4.length):∃v,Lq g m=Y v/\v.2=0/\ReO g v.1 m:=by
 have G:=A.len;have H:=he.len;unfold Lq;rw[NU,bs,ae (by simp[EI C]),ae (by simp[G,H]),jg A,bs,ae a!,jg he,bs,ae a!,SZ C,bs];refine Ot (λi s=>s.d4=g.d4/\s.d3.length=g.d3.length/\∀k:Int,0<=k->k<i->AA s.d3 (AA m.d3 k)=AA g.d3 k) U ⟨rfl,rfl,λk w D=>U⟩ (λi s f i1⟨a1,a2,a3⟩=>?_) (λs⟨a1,a2,a3⟩=>?_)
 .have z:=A.mem.1 (AF f U);refine⟨⟨BE s.d3 (AA m.d3 i) (AA g.d3 i),s.d4⟩,?_,a1,by rw[DP];exact a2,λk w D=>?_⟩
  .rw[AD f U,bs,AD f i1,bs,AD z.1 U,bs]
  .by_cases e:k=i
   .rw[e];exact QA _ z.1 U
   .have J:=A.mem.1 (AF w U);exact(Td _ z.1 J.1 (A.ne w U i1)).trans (a3 k w U)
 refine Ot (λi u=>u.d3=s.d3/\u.d4.length=g.d4.length/\∀k:Int,0<=k->k<i->AA u.d4 (AA m.d4 k)=⟨(AA g.d4 k).kg,AA m.d3 (AA g.d4 k).ke,AA m.d3 (AA g.d4 k).To⟩) U ⟨rfl,by rw[a1],λk w D=>U⟩ (λi u f i1⟨B,E,F⟩=>?_) (λu⟨B,E,F⟩=>⟨_,rfl,rfl,by rw[B];exact a2,E,λi f i1=>by rw[B];exact a3 i f i1,F⟩);have z:=he.mem.1 (AF f U);have hf:=C.fit _ (AF f i1);refine⟨⟨u.d3,BE u.d4 (AA m.d4 i) ⟨(AA g.d4 i).kg,AA m.d3 (AA g.d4 i).ke,AA m.d3 (AA g.d4 i).To⟩⟩,?_,B,by rw[DP];exact E,λk w D=>?_⟩
 .rw[AD f i1,bs,AD f U,bs,AD hf.2.1.1 U,bs,AD hf.2.2.1 U,bs,AD z.1 U,bs]
 .by_cases e:k=i
  .rw[e];exact QA _ z.1 U
  .have J:=he.mem.1 (AF w U);exact(Td _ z.1 J.1 (he.ne w U i1)).trans (F k w U)
end Go.Sf.Sc
namespace Go.Sf.Sc
open Go Go.Sf
def v8(x:Int):Prop:=0<=x/\x<18446744073709551616
theorem ABQ{a b:Int}(ha:v8 a)(hb:0<=b):∃r,Gk .u64 .shr a b=Y r:=by
 unfold Gk;dsimp only;have e:(0:Int)<=2^ (min b.toNat IntKind.u64.bits):=Int.pow_nonneg U;have f:=Int.ediv_nonneg ha.1 e;have u:=Int.ediv_le_self (2^ (min b.toNat IntKind.u64.bits)) ha.1;rw[Int.fdiv_eq_ediv_of_nonneg _ e,ac ⟨hb,f,by have:=ha.2;show _<=(18446744073709551615:Int);omega⟩];exact⟨_,rfl⟩
def Yd(l:a6):Fp:=(A0 l.length).filter λi=>AA l i
variable{i:Int}
theorem S6{l:a6}:i∈Yd l↔(0<=i/\i<l.length)/\AA l i=X:=by
 unfold Yd;rw[x!,C6]
theorem nS(l:a6):(∀x∈Yd l,0<=x/\x<l.length)/\(Yd l).Pairwise (·<·):=by
 refine ⟨λx e=>(S6.1 e).1,List.Pairwise.filter _ ?_⟩;unfold A0;exact List.Pairwise.map _ (λa b h=>Int.ofNat_lt.2 h) List.pairwise_lt_range
theorem fi{l:a6}(u:l.length<=1000):Kc l=Y (Yd l):=by
 unfold Kc;rw[CC (a:=0) (b:=(l.length:Int)) (s:=[]) (λi=>(A0 i.toNat).filter λi=>AA l i) U rfl,bs,w_]
 .rfl
 .intro i f i1;have w:((A0 i.toNat).filter λi=>AA l i).length<=i.toNat:=by
   have:=x? (λi=>AA l i) (A0 i.toNat)
   rwa [A5]at this
  rw [AD f i1,bs,Em f,y_];cases e:AA l i
  .simp[e]
  .rw[ac rfl,AS a_,bs];simp[e]
variable{l:Fp}
theorem dW{n:Int}(h:∀x∈l,0<=x/\x<n)(e:l.Pairwise (·<·)):P9 l n=0:=by
 unfold P9;rw[BH.2]
 .rfl
 intro i f i1;have:=h _ (AF f i1);rw[ae U,ae];rintro⟨u,k⟩;have:=IK e (show 0<=i-1 by omega) (show i-1<i by omega) i1;omega
variable{g:d5}
theorem aw{p:BR}(h:Q2 g p):OS g p=0:=by
 unfold OS;rw[ae (by simp[dW h.ec.1 h.ec.2]),ae (by simp[dW h.eh.1 h.eh.2]),BH.2]
 .rfl
 intro i e i1;have:=h.ends _ (AF e i1);rw[ac (by rw[pq,B6,B6];exact this)]
theorem uy(u:Cp g){ec eh:a6}(F:ec.length=g.d3.length)(he:eh.length=g.d4.length):∃p,N8 g ec eh=Y p/\Q2 g p:=by
 have N:=u.ec;have O:=u.eh;unfold N8;rw[Be b_,bs];refine Ot (λi s=>s.length=g.d3.length/\∀k:Int,0<=k->k<i->AA eh k=X->AA s (AA g.d4 k).ke=X/\AA s (AA g.d4 k).To=X) U ⟨F,λk w D=>U⟩ (λi s A i1⟨a1,a2⟩=>?_) (λs⟨a1,a2⟩=>?_)
 .rw[AD A i1,bs];cases e:AA eh i
  .refine⟨s,rfl,a1,λk w D z=>?_⟩;by_cases h:k=i
   .rw[h,e]at z;cases z
   .exact a2 k w U z
  .have hf:=(u.fit _ (AF (l:=g.d4) A U)).2;rw[ac rfl,AD A U,bs,bs,AD hf.1.1 U,bs,AD hf.2.1 s_,bs];refine⟨_,rfl,by rw[DP,DP];exact a1,λk w D z=>?_⟩;have fl:∀{x j:Int}{l:a6},0<=x->x<l.length->0<=j->AA l j=X->AA (BE l x X) j=X:=λ{x j l}x0 x1 G H=>by
    by_cases e:j=x
    .rw[e];exact QA _ x0 x1
    .rw[Td _ x0 G e];exact H
   have f:=(u.fit _ (AF (l:=g.d4) w U)).2;by_cases K:k=i
   .rw[K];exact⟨fl hf.2.1 s_ hf.1.1 (QA _ hf.1.1 U),QA _ hf.2.1 s_⟩
   .obtain⟨B,C⟩:=a2 k w U z;exact⟨fl hf.2.1 s_ f.1.1 (fl hf.1.1 U f.1.1 B),fl hf.2.1 s_ f.2.1 (fl hf.1.1 U f.2.1 C)⟩
 .rw[fi U,bs,fi U,bs];have m1:=nS s;have E:=nS eh;rw[a1]at m1;rw[he]at E;refine⟨_,rfl,m1,E,λx J=>?_⟩;obtain⟨⟨x0,x1⟩,M⟩:=S6.1 J;have hf:=(u.fit _ (AF (l:=g.d4) x0 U)).2;obtain⟨B,C⟩:=a2 x x0 x1 M;exact⟨S6.2 ⟨⟨hf.1.1,U⟩,B⟩,S6.2 ⟨⟨hf.2.1,U⟩,C⟩⟩
theorem q9(A:Cp g){set:Int}(G:v8 set):∃p,Ph g set=Y p/\Q2 g p:=by
 have M:=A.ec;have N:=A.eh;have w:∀{i:Int},0<=i->∃r q,DZ i 64=Y r/\Gk .u64 .shr set r=Y q:=λ{i}B=>by
  obtain ⟨r,e,J,_⟩:=Cb B (show(0:Int)<64 by omega);obtain⟨q,z⟩:=ABQ G J;exact⟨r,q,e,z⟩
 have nd:∀q:Int,∃r,Gk .u64 .and q 1=Y r:=λq=>⟨_,rfl⟩;unfold Ph;rw[He,ac U,bs,He,ac U,bs];refine E1 (λi s=>0<=i/\s.length=g.d3.length) g.d3.length ⟨U,V⟩ (λi s B⟨a1,a2⟩=>?_) (λi s B⟨a1,a2⟩_=>?_)
 .dsimp only;by_cases f:i<s.length
  .left;obtain⟨r,q,D,z⟩:=w a1;obtain⟨b,E⟩:=nd q;refine⟨U,BE s i (decide (b=1)),?_,U,by rw[DP];exact a2⟩;rw[ac d!,D,bs,z,bs,E,bs,AD a1 f,bs,AT U U]
  .right;rw[ae d!]
 dsimp only;refine E1 (λj u=>0<=j/\u.length=g.d4.length) g.d4.length ⟨U,V⟩ (λj u H⟨F,C⟩=>?_) (λj u H⟨F,C⟩_=>?_)
 .dsimp only;by_cases f:j<u.length
  .left;obtain⟨r,q,D,z⟩:=w (show 0<=(s.length:Int)+j by omega);obtain⟨b,E⟩:=nd q;refine⟨U,BE u j (decide (b=1)),?_,U,by rw[DP];exact C⟩;rw[ac d!,AT (n:=(s.length:Int)+j) U U,D,bs,z,bs,E,bs,AD F f,bs,AT U U]
  .right;rw[ae d!]
 .obtain⟨p,e,K⟩:=uy A a2 C;exact⟨p,by rw[e,bs],K⟩
end Go.Sf.Sc
namespace Go.Sf.Sc
open Go Go.Sf
variable{α:Type}{n:Nat}
theorem P3{f:α->TV}{l:List α}(h:l.length<=1000)(hf:∀x,(f x).Sm):(eL n f l).Sm:=by
 refine ⟨to,L9.2 λt e=>?_⟩;obtain⟨x,_,rfl⟩:=y!.1 e;exact hf x
theorem Y3(x:Int):(eI x).Sm:=trivial
theorem yZ(x:Bx):(B5 x).Sm:=by simp[B5,TV.Sm,TV.Sms,eI]
theorem ya(x:CA):(FL x).Sm:=by simp[FL,TV.Sm,TV.Sms,eI]
theorem yb(x:Test):(F1 x).Sm:=by simp[F1,TV.Sm,TV.Sms,eI]
def iV(g:d5):Prop:=g.d3.length<=1000/\g.d4.length<=1000
theorem dg{c:d7}(w:∀k∈c.fu,(AI k).Sm)(h0:c.fu.length<=1000)(e:c.Map.d3.length<=1000/\c.Map.d4.length<=1000)(f:iV c.ea.d5)(u:c.ea.ek.length<=1000/\c.ea.kl.length<=1000):(AI c).Sm:=by
 refine ⟨trivial,?_,P3 e.1 Y3,P3 e.2 Y3,P3 f.1 Y3,P3 f.2 yZ,P3 u.1 ya,trivial,P3 u.2 yb,trivial⟩;unfold Ed;rw[NJ];refine⟨to,L9.2 λt z=>?_⟩;obtain⟨x,A,rfl⟩:=y!.1 z;exact w x A
variable{r:ff}
theorem oh(h0:r.ln.size<=1000)(e:iV r.gp.d5)(f:r.gp.ek.length<=1000/\r.gp.kl.length<=1000)(u:iV r.ei.d5)(w:r.ei.ek.length<=1000/\r.ei.kl.length<=1000)(z:r.pr.d3.length<=1000/\r.pr.d4.length<=1000)(A:r.pf.d3.length<=1000/\r.pf.d4.length<=1000)(B:(AI r.d7).Sm):(CB r).Sm:=by
 obtain ⟨C,D,E,F,G,H,c7,c8,J,_⟩:=B;exact⟨by show r.ln.size<=reachBytes;unfold reachBytes;omega,P3 e.1 Y3,P3 e.2 yZ,P3 f.1 ya,trivial,P3 f.2 yb,P3 u.1 Y3,P3 u.2 yZ,P3 w.1 ya,trivial,P3 w.2 yb,P3 z.1 Y3,P3 z.2 Y3,P3 A.1 Y3,P3 A.2 Y3,trivial,C,D,E,F,G,H,c7,c8,J,trivial⟩
theorem Fx.sm{t:AC}(h:Fx t):(AL t).Sm:=by
 have hf:=h.few;refine⟨⟨by rw[c9];have:=hf.ec;unfold reachBytes;omega,L9.2 λx f=>?_⟩,⟨by rw[c9];have:=hf.eh;unfold reachBytes;omega,L9.2 λx f=>?_⟩,trivial⟩
 .obtain⟨n,w,rfl⟩:=y!.1 f;have D:=hf.name n w;have E:=hf.Abg n w;refine⟨by show n.ln.size<=reachBytes;unfold reachBytes;omega,trivial,trivial,⟨to,L9.2 λy A=>?_⟩,trivial⟩;obtain⟨a,ha,rfl⟩:=y!.1 A;have u:=hf.each n w a ha;refine⟨by show a.ln.size<=reachBytes;have:=u.name;unfold reachBytes;omega,trivial,trivial,⟨by rw[c9];have:=u.names;unfold reachBytes;omega,L9.2 λz B=>?_⟩,trivial⟩;obtain⟨s,C,rfl⟩:=y!.1 B;show s.size<=reachBytes;have:=u.each s C;unfold reachBytes;omega
 .obtain⟨e,he,rfl⟩:=y!.1 f;have:=hf.AbW e he;exact⟨by show e.ln.size<=reachBytes;unfold reachBytes;omega,trivial,trivial,trivial,trivial,trivial,trivial,trivial⟩
structure Wl(t:AC)(g:d5):Prop where
 ok:Cp g
 kind:∀n∈g.d3,0<=n/\n<t.d3.length
 et:∀e∈g.d4,e.kg<t.d4.length
variable{g:d5}
theorem Sj.okG{t:AC}(f:Fx t)(h:Sj t g):Wl t g:=⟨(h.ok f).1,h.kind,λe he=>(h.fit e he).1.2⟩
theorem qu{t:AC}{p:BR}(h:Wl t g)(f:Q2 g p):Wl t (DC g p)/\p.d3.length<=g.d3.length/\p.d4.length<=g.d4.length:=by
 have l1:=iX f.ec.1 f.ec.2;have l2:=iX f.eh.1 f.eh.2;have B:=h.ok.ec;have C:=h.ok.eh;refine⟨⟨⟨by simp[DC];omega,by simp[DC];omega,λn w=>?_,λe he=>?_⟩,λn w=>?_,λe he=>?_⟩,l1,l2⟩
 .obtain⟨x,u,rfl⟩:=y!.1 w;exact h.ok.kind _ (AF (f.ec.1 x u).1 (f.ec.1 x u).2)
 .obtain⟨x,u,rfl⟩:=y!.1 he;have hf:=h.ok.fit _ (AF (f.eh.1 x u).1 (f.eh.1 x u).2);have z:=Hd (f.ends x u).1;have A:=Hd (f.ends x u).2;simp only[DC,c9];exact⟨hf.1,⟨z.1,z.2.1⟩,A.1,A.2.1⟩
 .obtain⟨x,u,rfl⟩:=y!.1 w;exact h.kind _ (AF (f.ec.1 x u).1 (f.ec.1 x u).2)
 .obtain⟨x,u,rfl⟩:=y!.1 he;have:=h.et _ (AF (f.eh.1 x u).1 (f.eh.1 x u).2);exact this
def Qa(t:AC):Fp:=(A0 t.d3.length).filter λi=>!(AA t.d3 i).sc
variable{i:Int}
theorem QC{t:AC}:i∈Qa t↔(0<=i/\i<t.d3.length)/\(AA t.d3 i).sc=T:=by
 unfold Qa;rw[x!,C6];simp
theorem Z3{t:AC}(h:t.d3.length<=1000):n8 (λ(f:Int)(z:Fp)=>
 (idx t.d3 f).bind λu=>
 if (!u.sc)=X then
 (AY z [f]).bind λw=>
 Y w
 else
 Y z) 0 (t.d3.length:Int) []=Y (Qa t):=by
 rw [CC (a:=0) (b:=(t.d3.length:Int)) (s:=[]) (λi=>(A0 i.toNat).filter λi=>!(AA t.d3 i).sc) U rfl,w_]
 .rfl
 .intro i f i1;have A:((A0 i.toNat).filter λi=>!(AA t.d3 i).sc).length<=i.toNat:=by
   have:=x? (λi=>!(AA t.d3 i).sc) (A0 i.toNat)
   rwa [A5]at this
  rw [AD f i1,bs,Em f,y_];cases e:(AA t.d3 i).sc
  .rw[ac (show(!T)=X from rfl),AS a_,bs];simp[e]
  .simp[e]
def si(t:AC)(k g:d5):Prop:=∃xs ys,g=⟨k.d3++xs,k.d4++ys⟩/\xs.length<=2/\ys.length<=2/\(∀x∈xs,x∈Qa t)/\∀e∈ys,VB t g.d3.length e/\LE t e.kg (AA g.d3 e.ke) (AA g.d3 e.To)=X
variable{d:F5}
theorem vB{t:AC}(H:Fx t){k:d5}(E:Wl t k)(O:∀x∈d.d3,U8 x)(he:∀x∈d.d4,U3 x):∃g,OE t k d=Y g/\si t k g:=by
 have Z:=E.ok.ec;have h2:=E.ok.eh;have θ:=H.ec;unfold OE Nb;rw[SZ E.ok,bs,Z3 U,bs,bs];refine E1 (λi s=>(0<=i/\i<=2)/\∃xs:Fp,s=⟨k.d3++xs,k.d4⟩/\(xs.length:Int)<=i/\∀x∈xs,x∈Qa t) 2 ⟨U,[],V,V,λx f=>by cases f⟩ (λi s P⟨a1,xs,a2,a3,F⟩=>?_) (λi s P⟨a1,xs,a2,a3,F⟩_=>?_)
 .dsimp only;by_cases z:(i<d.d3.length/\i<2)/\0<((Qa t).length:Int)
  .left;have f:=O _ (AF a1.1 z.1.1);obtain⟨r,e,B,A⟩:=Cb (show 0<=AJ (AA d.d3 i)by rw[f.w];exact f.1) z.2;refine⟨U,⟨k.d3++(xs++[AA (Qa t) r]),k.d4⟩,?_,U,_,rfl,an,λx f=>(y?.1 f).elim (F x) λf=>z_.1 f▸AF B A⟩;rw[ac l?,AD a1.1 z.1.1,bs,e,bs,AD B A,bs,a2,AS a_,bs,AT (n:=i+1) U U,ci]
  .right;rw[ae l?]
 subst a2;dsimp only;refine E1 (λj u=>(0<=j/\j<=2)/\∃ys:List Bx,u=⟨k.d3++xs,k.d4++ys⟩/\(ys.length:Int)<=j/\∀e∈ys,VB t (k.d3++xs).length e/\LE t e.kg (AA (k.d3++xs) e.ke) (AA (k.d3++xs) e.To)=X) 2 ⟨U,[],V,V,λx f=>by cases f⟩ (λj u Q⟨B,ys,A,S,D⟩=>?_) (λj u Q⟨B,ys,A,S,D⟩_=>⟨u,rfl,xs,ys,A,U,U,F,by rw[A];exact D⟩);dsimp only;by_cases z:((j<d.d4.length/\j<2)/\0<((k.d3++xs).length:Int))/\0<(t.d4.length:Int)
 .left;have f:=he _ (AF B.1 z.1.1.1);obtain⟨r,ε,κ,η⟩:=Cb (show 0<=AJ (AA d.d4 j).a0 by rw[f.1.w];exact f.1.1) z.2;obtain⟨r1,ζ,J,K⟩:=Cb (show 0<=AJ (AA d.d4 j).a1 by rw[f.2.1.w];exact f.2.1.1) z.1.2;obtain⟨r2,δ,M,N⟩:=Cb (show 0<=AJ (AA d.d4 j).a2 by rw[f.2.2.w];exact f.2.2.1) z.1.2;refine⟨U,?_⟩;rw[ac l?,AD B.1 z.1.1.1,bs,ε,bs,bs,ζ,bs,bs,δ,bs,A];dsimp only;rw[AD J K,bs,AD M N,bs,Yu H.few,bs,AT (n:=j+1) U U];split
  .rename_i C;rw[AS a_,bs,ci];exact⟨_,rfl,U,_,rfl,an,λe G=>(y?.1 G).elim (D e) λG=>by
    rw [z_.1 G];exact⟨⟨⟨κ,η⟩,⟨J,K⟩,M,N⟩,C⟩⟩
  .exact⟨_,rfl,U,ys,rfl,U,D⟩
 .right;rw[A,ae l?]
variable{β σ:Type}{I:σ->Prop}
theorem iw{ζ:Option β}{mk:σ->β}(h:∃r,ζ=Y r/\∃s',r=mk s'/\I s'):∃s',ζ=Y (mk s')/\I s':=by
 obtain ⟨_,e,s',rfl,hi⟩:=h;exact⟨s',e,hi⟩
def dJ(t:AC)(g:d5)(v:Int)(l:List CA):Prop:=l.length<=3/\(∀s∈l,RX t g v s)/\∀i j:Int,0<=j->j<i->i<l.length->¬((AA l j).po=(AA l i).po/\(AA l j).kp=(AA l i).kp)
variable{v:Int}
theorem vM{t:AC}(J:Fx t)(hg:g.d3.length<=100)(hv:0<=v/\v<=3){l:List KO}(K:∀x∈l,U3 x):∃s,OF t g v l=Y s/\dJ t g v s:=by
 unfold OF;refine E1 (λi s=>(0<=i/\i<=3)/\(s.length:Int)<=i/\(∀x∈s,RX t g v x)/\∀i j:Int,0<=j->j<i->i<s.length->¬((AA s j).po=(AA s i).po/\(AA s j).kp=(AA s i).kp)) 3 ⟨U,V,(λx f=>by cases f),λi j A D i1=>i_⟩ (λi s M⟨a1,a2,a3,B⟩=>?_) (λi s M⟨a1,a2,a3,B⟩_=>⟨s,rfl,U,a3,B⟩);dsimp only;by_cases C:(i<l.length/\i<3)/\0<(g.d3.length:Int)
 .left;have f:=K _ (AF a1.1 C.1.1);obtain⟨r,θ,G,H⟩:=Cb (show 0<=AJ (AA l i).a0 by rw[f.1.w];exact f.1.1) C.2;refine⟨U,?_⟩;rw[ac v5,AD a1.1 C.1.1,bs,θ,bs,AD G H,bs,O1 J.few,bs,AT (n:=i+1) U U];by_cases h0:((Ff t (AA g.d3 r)).1.length:Int)=0
  .rw[ac (by simpa using h0)];exact⟨s,rfl,U,U,a3,B⟩
  obtain ⟨q,ε,κ,η⟩:=Cb (show 0<=AJ (AA l i).a1 by rw[f.2.1.w];exact f.2.1.1) (show 0<((Ff t (AA g.d3 r)).1.length:Int)by omega);obtain⟨u,ζ,d1,d2⟩:=Zl f.2.1.1 (show(0:Int)<16 by omega);have hw:=tX u;obtain⟨y,δ,f1,f2⟩:=Cb (show 0<=AJ (IntKind.u8.wrap u)by rw[AT U U];omega) (show 0<v+1 by omega);obtain⟨z,Z,g1,g2⟩:=Cb (show 0<=AJ (AA l i).a2 by rw[f.2.2.w];exact f.2.2.1) (show(0:Int)<3 by omega);rw[ae (by simpa using h0),bs,ε,bs,bs,ζ,bs,AT (n:=v+1) U U,δ,bs,bs,Z,bs,AT (n:=y-1) U U];refine iw (mk:=λs'=>B0.next (s',i+1)) (Ot (λ(k:Int)(b:Bool)=>b=T->∀j:Int,0<=j->j<k->¬((AA s j).po=r/\(AA s j).kp=q)) U (λ_ j A D=>U) (λk b N O hb=>?_) (λb hb=>?_))
  .cases b
   .rw[ae a!,AD N O,bs,bs];have old:∀{P:Prop},(P->False)->((AA s k).po=r/\(AA s k).kp=q->P)->∀j:Int,0<=j->j<k+1->¬((AA s j).po=r/\(AA s j).kp=q):=λ{P}Q S j A D F=>by
     by_cases e:j=k
     .exact Q (S (e▸F))
     .exact hb rfl j A U F
    by_cases E:(AA s k).po=r
    .rw[ac (by simpa using E),bs,bs];exact⟨_,rfl,λh=>old (P:=(AA s k).kp=q) b? And.right⟩
    .rw[ae (by simpa using E),bs,bs];exact⟨_,rfl,λ_=>old (P:=(AA s k).po=r) E And.left⟩
   .exact⟨X,rfl,λh=>d_⟩
  .cases b
   .rw[ac a!,AS a_,bs];refine⟨_,rfl,_,rfl,U,an,λx f=>(y?.1 f).elim (a3 x) λf=>?_,λi j A D i1=>?_⟩
    .rw[z_.1 f];exact⟨⟨⟨G,H⟩,κ,η⟩,b!,b!⟩
    .simp at i1;rw[Ll _ _ A U];by_cases e:i=s.length
     .rw[NC _ _ e];exact hb rfl j A U
     .rw[Ll _ _ U U];exact B i j A D U
   .rw[ae a!];exact⟨_,rfl,_,rfl,U,U,a3,B⟩
 .right;rw[ae v5]
end Go.Sf.Sc
namespace Go.Sf.Sc
open Go Go.Sf
variable{m:d6}
theorem eu{a b:d5}(h:T6 a b m):Il a b m=0:=by
 unfold Il;rw[ae (by simp[EI h.ga]),ae (by simp[EI h.gb]),ae (by simp[h.Aal,h.Aap]),BH.2]
 .dsimp only;rw[BH.2]
  .rfl
  intro i e i1;obtain⟨u,f,w,z⟩:=h.edge i e i1;unfold Gl;rw[ae U,ae u?,ae (by simp[w,z])]
 .intro i e i1;obtain⟨u,f⟩:=h.node i e i1;unfold Mh;rw[ae U,ae u?]
theorem Zs(n:Nat):(A0 n).Nodup:=by
 unfold A0;exact List.Pairwise.map _ (λa b h e=>h (Int.ofNat.inj e)) w?
theorem w6(g:d5):Ij (Ny g)=X:=by
 unfold Ij Ny;rw[Jy.2 (Zs _),Jy.2 (Zs _)];rfl
def U6:d7:=⟨1,[],⟨[],[]⟩,⟨⟨[],[]⟩,[],0,[]⟩⟩
theorem VP{t:AC}{p:ea}(h:FD t p=0):JS t p U6=0:=by
 obtain ⟨n,e⟩:∃n,SizeOf.sizeOf U6=n+1:=⟨SizeOf.sizeOf U6-1,by have:=Dx U6;omega⟩;have f:M3 U6=0:=by
  unfold M3 j7 WR;rw[e];rfl
 unfold JS;rw[ae s?,ae u?,e];rfl
theorem Y9:(AI U6).Sm:=dg (λk e=>q!) a! a! (by unfold iV;decide) a!
def PM(g:d5)(v:Int)(k:d5):d7:=⟨2,[⟨5,[U6],Ny g,⟨k,[],v,[]⟩⟩],⟨[],[]⟩,⟨⟨[],[]⟩,[],0,[]⟩⟩
theorem Z4{t:AC}(hv:(BC t).2=0){p:ea}(h:FD t p=0){k:d5}(w:Wl t k){xs:Fp}{ys:List Bx}(z:k.d3=p.d5.d3++xs)(he:k.d4=p.d5.d4++ys):JS t p (PM p.d5 p.fd k)=0:=by
 have u:=Xd hv (.inl h);obtain⟨D,_⟩:=Yr h;have C:k.d3.length=p.d5.d3.length+xs.length:=by rw[z,b6]
 have B:k.d4.length=p.d5.d4.length+ys.length:=by rw[he,b6]
 have inn:TT t ⟨k,[],p.fd,[]⟩ p.fd=0:=by
  have A:FD t ⟨k,[],p.fd,[]⟩=0\/FD t ⟨k,[],p.fd,[]⟩=9:=by
   unfold FD;rw[ae l_,ae (by simp[EI w.ok]),ae (by simp[Uw (λn z=>(w.kind n z).2) w.et]),ae b!,ae V,ae V,ae (by simp[Ut u.1 u.2])];split
   .exact .inr rfl
   .exact .inl rfl
  unfold TT;rcases A with A|A
  .rw[ac U,A]
  .rw[ae U,ae];rw[Cu];rintro⟨i,f,i1,_⟩;exact absurd i1 b!
 have mor:Il p.d5 k (Ny p.d5)=0:=by
  refine eu ⟨D,w.ok,A5 _,A5 _,λi f i1=>?_,λi f i1=>?_⟩
  .simp only[Ny,A5]at i1|-;rw[NA _ f i1,z];exact⟨⟨f,an⟩,Lz f i1⟩
  .simp only[Ny,A5]at i1|-;have hf:=(D.fit _ (AF f i1)).2;rw[NA _ f i1,he,Lz f i1,NA _ hf.1.1 hf.1.2,NA _ hf.2.1 hf.2.2];exact⟨⟨f,an⟩,rfl,rfl,rfl⟩
 have E:=Eb (c:=PM p.d5 p.fd k) (z_.2 rfl);have s2:=Eb (c:=⟨5,[U6],Ny p.d5,⟨k,[],p.fd,[]⟩⟩) (z_.2 rfl);have F:=Dx U6;obtain⟨n,e⟩:∃n,SizeOf.sizeOf (PM p.d5 p.fd k)=n+3:=⟨SizeOf.sizeOf (PM p.d5 p.fd k)-3,U⟩;have sh:M3 (PM p.d5 p.fd k)=0:=by
  unfold M3 j7 WR;rw[e];rfl
 unfold JS;rw[ae s?,ae (by simp[sh]),e,I4,ae (show¬(PM p.d5 p.fd k).kq=5 from(by decide:¬(2:Int)=5)),BH.2]
 .rfl
 intro i f i1;obtain rfl:i=0:=by
  have:i<1:=i1;omega
 refine IX.2 ?_;show I4 (n+2) t p ⟨5,[U6],Ny p.d5,⟨k,[],p.fd,[]⟩⟩=0;rw[I4,ac rfl,ae (Int.lt_irrefl _),ae (by simp[inn]),ae (by simp[mor]),ae (by simp[w6]),BH.2]
 .rfl
 intro i f i1;obtain rfl:i=0:=by
  have:i<1:=i1;omega
 refine IX.2 ?_;show I4 (n+1) t ⟨k,[],p.fd,[]⟩ U6=0;rfl
theorem rE{t:AC}(u:Fx t){p:ea}(E:kF t p){x:WD}(h0:U8 x.a0)(A:U8 x.a1)(F:U8 x.a2)(G:U8 x.a3):∃c,Mv t p x=Y c/\JS t p c=0/\(AI c).Sm:=by
 have B:=E.zero u;have z:=E.g;have ho:=z.ok u;have Q:=z.ec;have N:=z.eh;have S:=u.ec;have θ:=u.eh;have tp:=u.pos;obtain⟨r,e,ε,κ⟩:=Cb h0.1 (show(0:Int)<4 by omega);have sm:∀k:d5,iV k->(AI (PM p.d5 p.fd k)).Sm:=λk M=>by
  refine dg (λc C=>?_) (by simp[PM]) (by simp[PM]) (by unfold iV;simp[PM]) (by simp[PM]);rw[z_.1 C];refine dg (λc C=>?_) V ⟨by simp[Ny,A5];omega,by simp[Ny,A5];omega⟩ M V;rw[z_.1 C];exact Y9
 unfold Mv;rw[SZ ho.1,bs,e,bs];by_cases H:r=1
 .obtain⟨a,D,a0,a1⟩:=Cb (show 0<=AJ x.a1 by rw[A.w];exact A.1) (show 0<(t.d3.length:Int)by omega);rw[ac v_,D,bs,AS a_,bs,yG (EI ho.1),bs,bs];refine⟨_,rfl,Z4 u.zero B (xs:=[a]) (ys:=[]) ⟨⟨an,b!,λn f=>?_,λe he=>?_⟩,λn f=>?_,λe he=>(z.fit e he).1.2⟩ rfl (z! _).symm,sm _ ⟨an,b!⟩⟩
  .rcases y?.1 f with f|f
   .exact ho.1.kind n f
   .rw[z_.1 f];omega
  .have:=ho.1.fit e he;simp only[b6,z?];omega
  .rcases y?.1 f with f|f
   .exact z.kind n f
   .rw[z_.1 f];exact⟨a0,a1⟩
 rw [ae v_];by_cases J:r=2
 .rw[ac (by simpa using J)];by_cases K:(p.d5.d3.length:Int)=0\/(t.d4.length:Int)=0
  .rw[ac (by simpa using K)];exact⟨_,rfl,VP B,Y9⟩
  .obtain⟨a,D,a0,a1⟩:=Cb (show 0<=AJ x.a1 by rw[A.w];exact A.1) (show 0<(t.d4.length:Int)by omega);obtain⟨b,O,η,ζ⟩:=Cb (show 0<=AJ x.a2 by rw[F.w];exact F.1) (show 0<(p.d5.d3.length:Int)by omega);obtain⟨c,P,δ,Z⟩:=Cb (show 0<=AJ x.a3 by rw[G.w];exact G.1) (show 0<(p.d5.d3.length:Int)by omega);rw[ae (by simpa using K),D,bs,O,bs,P,bs,AS a_,bs,yG (EI ho.1),bs,bs];refine⟨_,rfl,Z4 u.zero B (xs:=[]) (ys:=[⟨a,b,c⟩]) ⟨⟨b!,an,ho.1.kind,λe he=>?_⟩,z.kind,λe he=>?_⟩ (z! _).symm rfl,sm _ ⟨b!,an⟩⟩
   .rcases y?.1 he with he|he
    .exact ho.1.fit e he
    .rw[z_.1 he];simp only;omega
   .rcases y?.1 he with he|he
    .exact(z.fit e he).1.2
    .rw[z_.1 he];exact a1
 .rw[ae (by simpa using J)];exact⟨_,rfl,VP B,Y9⟩
end Go.Sf.Sc
namespace Go.Sf.Sc
open Go Go.Sf
variable{g:d5}{v i:Int}
theorem lm{t:AC}{l:List CA}(h:dJ t g v l)(f:0<=i)(i1:i<l.length):Oa t ⟨g,l,v,[]⟩ i=0:=by
 obtain ⟨⟨a1,a2⟩,a3,z⟩:=h.2.1 _ (AF f i1);unfold Oa;dsimp only;rw[ae U,ae,ae]
 .rw[Cu];rintro⟨j,u,w,e⟩;simp at e;exact h.2.2 i j u w i1 e
 .simp;omega
theorem bO{t:AC}(hv:(BC t).2=0){L:ea}(w:FD t L=0)(e:Wl t g){sl:List CA}(z:dJ t g L.fd sl){fl:BR}(A:Q2 L.d5 fl){into:d6}(B:T6 (DC L.d5 fl) g into)(hi:Ij into=X){b:Bool}{c:d7}(C:JS t L c=0)
  (f:TU t g (BP into.d3 g.d3.length) (BP into.d4 g.d4.length)=X):Dc t ⟨(⟨#[114]⟩:ByteArray),L,⟨g,sl,L.fd,[]⟩,fl,into,b,c⟩=0:=by
 have F:=z.1;have hr:Jl t ⟨(⟨#[114]⟩:ByteArray),L,⟨g,sl,L.fd,[]⟩,fl,into,b,c⟩=0:=by
  unfold Jl;dsimp only;rw[ae (by simp[EI e.ok]),ae (by simp[Uw (λn D=>(e.kind n D).2) e.et]),ae V,ae U,BH.2 (λi E i1=>IX.2 (lm z E i1))];rfl
 have u:Qg ⟨(⟨#[114]⟩:ByteArray),L,⟨g,sl,L.fd,[]⟩,fl,into,b,c⟩=0:=by
  have:ES L.d5 fl=0:=by
   unfold ES;rw[ae (by simp[EI (Yr w).1]),aw A]
  unfold Qg;dsimp only;rw[ae (by simp[this]),ae (by simp[eu B]),ae (by simp[hi])]
 unfold Dc;rw[ae l_,ae (show¬EJ (⟨#[114]⟩:ByteArray)=T by decide),ae (by simp[w]),ae (by simp[hr]),ae p_,ae,C];rw[D?];exact f
structure X4(d:F5):Prop where
 left:mN d.gp
 fl:v8 d.pr
 ec:∀x∈d.d3,U8 x
 eh:∀x∈d.d4,U3 x
 slots:∀x∈d.ek,U3 x
 Aby:(U8 d.Aag.a0/\U8 d.Aag.a1)/\U8 d.Aag.a2/\U8 d.Aag.a3
 order:∀x∈d.Abw,U8 x
variable{l:Fp}{n:Nat}
theorem H6.at(h:H6 l n){x:Int}(x0:0<=x)(x1:x<n):∃i:Int,(0<=i/\i<n)/\AA l i=x:=by
 obtain ⟨i,f,i1,e⟩:=BT (h.mem.2 ⟨x0,x1⟩);exact⟨i,⟨f,n!⟩,e⟩
theorem H6.inn(h:H6 l n)(e:0<=i)(i1:i<n):0<=AA l i/\AA l i<n:=h.mem.1 (AF e n!)
theorem nI{t:AC}{k g:d5}(u:Wl t k)(z:k.d3.length<=30)(A:k.d4.length<=60)(h:si t k g)(he:t.d4.length<=90)(f:t.d3.length<=90):Wl t g:=by
 obtain ⟨xs,ys,rfl,a1,a2,a3,w⟩:=h;simp only at w;refine⟨⟨an,an,λn f=>?_,λe he=>?_⟩,λn f=>?_,λe he=>?_⟩
 .rcases y?.1 f with f|f
  .exact u.ok.kind n f
  .have:=(QC.1 (a3 n f)).1;omega
 .rcases y?.1 he with he|he
  .have:=u.ok.fit e he;simp only[b6];omega
  .have:=(w e he).1;unfold VB at this;dsimp only at this|-;omega
 .rcases y?.1 f with f|f
  .exact u.kind n f
  .exact(QC.1 (a3 n f)).1
 .rcases y?.1 he with he|he
  .exact u.et e he
  .exact(w e he).1.1.2
variable{m:d6}
theorem vP{t:AC}{g z:d5}(w:Wl t g)(A:H6 m.d3 g.d3.length)(he:H6 m.d4 g.d4.length)(h:ReO g z m):Wl t z:=by
 have nd:∀n∈z.d3,n∈g.d3:=λn f=>by
  obtain ⟨j,B,C,rfl⟩:=BT f;obtain⟨i,⟨u,i1⟩,rfl⟩:=A.at B (by rw[<-h.nl];exact C);rw[h.node i u i1];exact AF u i1
 have ed:∀e∈z.d4,∃i:Int,(0<=i/\i<g.d4.length)/\e=⟨(AA g.d4 i).kg,AA m.d3 (AA g.d4 i).ke,AA m.d3 (AA g.d4 i).To⟩:=λe f=>by
  obtain ⟨j,B,C,rfl⟩:=BT f;obtain⟨i,⟨u,i1⟩,rfl⟩:=he.at B (by rw[<-h.el];exact C);exact⟨i,⟨u,i1⟩,h.edge i u i1⟩
 refine ⟨⟨by rw[h.nl];exact w.ok.ec,by rw[h.el];exact w.ok.eh,λn f=>w.ok.kind n (nd n f),λe f=>?_⟩,λn f=>w.kind n (nd n f),λe f=>?_⟩
 .obtain⟨i,⟨u,i1⟩,rfl⟩:=ed e f;have hf:=w.ok.fit _ (AF u i1);rw[h.nl];exact⟨hf.1,A.inn hf.2.1.1 hf.2.1.2,A.inn hf.2.2.1 hf.2.2.2⟩
 .obtain⟨i,⟨u,i1⟩,rfl⟩:=ed e f;have:=w.et _ (AF u i1);exact this
theorem SI(e:0<=i)(i1:i<n)(f:n<=l.length):AA (l.take n) i=AA l i:=by
 conv=>rhs;rw[<-List.take_append_drop n l]
 exact (Lz e h?).symm
variable{d:F5}
theorem fX{t:AC}(B:Fx t)(hd:X4 d):∃r,Na t d=Y r/\Dc t r=0/\(CB r).Sm:=by
 have hv:=B.zero;have n5:=B.eh;have n6:=B.ec;obtain⟨p,e1,C⟩:=oG B hd.left;have hz:=C.zero B;have N:=C.g.okG B;have g8:=C.g.ec;have g10:=C.g.eh;obtain⟨fl,e2,E⟩:=q9 N.ok hd.fl;obtain⟨O,k1,k2⟩:=qu N E;have hkn:(DC p.d5 fl).d3.length=fl.d3.length:=by simp[DC]
 have hke:(DC p.d5 fl).d4.length=fl.d4.length:=by simp[DC]
 obtain ⟨g,e3,δ⟩:=vB B O hd.ec hd.eh;have A:=nI O U U δ U U;obtain⟨ns,e4,w⟩:=bA (n:=g.d3.length) (by have:=A.ok.ec;omega) hd.order;obtain⟨es,e5,z⟩:=bA (n:=g.d4.length) (by have:=A.ok.eh;omega) hd.order;obtain⟨v,e6,e7,f⟩:=oH (m:=⟨ns,es⟩) A.ok w z;have hO:=vP A w z f;obtain⟨sl,e8,K⟩:=vM B (g:=v.1) (by have:=hO.ok.ec;omega) C.vars hd.slots;obtain⟨c,e9,hc,Q⟩:=rE B C hd.Aby.1.1 hd.Aby.1.2 hd.Aby.2.1 hd.Aby.2.2;have lns:=w.len;have les:=z.len;obtain⟨xs,ys,M,x2,y2,S,θ⟩:=δ;have P:g.d3=(DC p.d5 fl).d3++xs:=by rw[M]
 have ge:g.d4=(DC p.d5 fl).d4++ys:=by rw[M]
 have gnl:g.d3.length=(DC p.d5 fl).d3.length+xs.length:=by rw[P,b6]
 have gel:g.d4.length=(DC p.d5 fl).d4.length+ys.length:=by rw[ge,b6]
 have η:T6 (DC p.d5 fl) v.1 ⟨ns.take (DC p.d5 fl).d3.length,es.take (DC p.d5 fl).d4.length⟩:=by
  refine ⟨O.ok,hO.ok,an,an,λi u i1=>?_,λi u i1=>?_⟩
  .simp only[bk]at i1|-;rw[SI u U U,f.nl];refine⟨w.inn u U,(f.node i u U).trans ?_⟩;rw[P];exact Lz u U
  .simp only[bk]at i1|-;have hf:=(O.ok.fit _ (AF (l:=(DC p.d5 fl).d4) u U)).2;rw[SI u U U,f.el,SI hf.1.1 hf.1.2 U,SI hf.2.1 hf.2.2 U,f.edge i u U];refine⟨z.inn u U,?_⟩;rw[ge,Lz u U];exact⟨rfl,rfl,rfl⟩
 have F:∀{l:Fp}{n:Nat},H6 l n->l.Nodup:=λh=>h.nodup_iff.2 (Zs _);have hi:Ij ⟨ns.take (DC p.d5 fl).d3.length,es.take (DC p.d5 fl).d4.length⟩=X:=by
  unfold Ij;rw[Jy.2 ((F w).sublist (A_ _ _)),Jy.2 ((F z).sublist (A_ _ _))];rfl
 have out:∀{l:Fp}{n:Nat}{k:Nat}{x:Int},H6 l n->k<=n->x∈BP (l.take k) n->∃i:Int,((k:Int)<=i/\i<n)/\AA l i=x:=λ{l n k x}h E D=>by
  have G:=Fr D;obtain⟨i,⟨u,i1⟩,e⟩:=h.at G.1 G.2;refine⟨i,⟨?_,i1⟩,e⟩;have ζ:hasB (l.take k) x=T:=by
   unfold BP at D;rw[x!]at D;simpa using D.2
  rcases Int.lt_or_le i k with ε|κ
  .have hl:=h.len;have h3:x∈l.take k:=by
    rw [<-e,<-SI u ε U];exact AF u h?
   rw [B6.2 h3]at ζ;cases ζ
  .exact κ
 have H:TU t v.1 (BP (ns.take (DC p.d5 fl).d3.length) v.1.d3.length) (BP (es.take (DC p.d5 fl).d4.length) v.1.d4.length)=X:=by
  unfold TU;rw[f.nl,f.el,pq,E_,E_,A',A'];refine⟨λx D=>?_,λx D=>?_⟩
  .obtain⟨i,⟨u,i1⟩,rfl⟩:=out w U D;rw[f.node i U i1,P];obtain⟨j,rfl⟩:∃j:Nat,i=(DC p.d5 fl).d3.length+j:=⟨(i-(DC p.d5 fl).d3.length).toNat,U⟩;rw[X8,(QC.1 (S _ (AF U U))).2];decide
  .obtain⟨i,⟨u,i1⟩,rfl⟩:=out z U D;unfold Hl;have hf:=(A.ok.fit _ (AF (l:=g.d4) (i:=i) U i1)).2;rw[f.edge i U i1];dsimp only;rw[f.node _ hf.1.1 hf.1.2,f.node _ hf.2.1 hf.2.2,ge];obtain⟨j,rfl⟩:∃j:Nat,i=(DC p.d5 fl).d4.length+j:=⟨(i-(DC p.d5 fl).d4.length).toNat,U⟩;rw[X8,(θ _ (AF U U)).2];decide
 have J:FD t ⟨p.d5,[],0,[]⟩=0:=by
  have G:=C.g.ok B;unfold FD;rw[ae l_,ae (by simp[EI G.1]),ae (by simp[G.2]),ae b!,ae V,ae V,ae (by simp[Ut (n:=0) (l:=[])]),ae];rw[Cu];rintro⟨i,u,i1,_⟩;exact absurd i1 b!
 unfold Na;rw[e1,bs,e2,bs,Vw ⟨U,U⟩,bs,ae (by unfold ES;simp[EI N.ok,aw E])];dsimp only;rw[e3,bs,e4,bs,e5,bs,e6,bs,Iv U U,bs,Iv U U,bs,e8,bs,e9,bs];split
 .unfold Qt;dsimp only;rw[SZ N.ok,bs,SZ hO.ok,bs,Be b_,bs,Be b_,bs,Be a_,bs,Be a_,bs,bs];exact⟨_,rfl,bO (L:=⟨p.d5,[],0,[]⟩) (sl:=[]) (c:=U6) hv J hO ⟨V,(λs Z=>by cases Z),λi j j0 j1 i1=>i_⟩ E η hi (VP J) H,oh (show 1<=1000 by omega) ⟨b!,b!⟩ V ⟨by have:=hO.ok.ec;simp only;omega,by have:=hO.ok.eh;simp only;omega⟩ V ⟨b!,b!⟩ ⟨an,an⟩ Y9⟩
 .exact⟨_,rfl,bO hv hz hO K E η hi hc H,oh (show 1<=1000 by omega) ⟨b!,b!⟩ ⟨by have:=C.slots;simp only;omega,by have:=C.tests;simp only;omega⟩ ⟨by have:=hO.ok.ec;simp only;omega,by have:=hO.ok.eh;simp only;omega⟩ ⟨by have:=K.1;simp only;omega,V⟩ ⟨b!,b!⟩ ⟨an,an⟩ Q⟩
end Go.Sf.Sc
namespace Go.Sf.Sc
open Go Go.Sf
structure iT(d:N9):Prop where
 ec:∀x∈d.d3,U2 x
 eh:∀x∈d.d4,U3 x
def ABx(t:AC)(k:Int)(v:Fp):Prop:=k∈Qa t/\v.length=(A4 t k).length/\∀j:Int,0<=j->j<v.length->(AA (A4 t k) j).Low<=AA v j/\AA v j<=(AA (A4 t k) j).Aaf
theorem oF{t:AC}(J:Fx t){d:N9}(hd:iT d):∃h,Pj t d=Y h/\Dq t h=(-1,0):=by
 have hv:=J.zero;have hf:=J.few;have P:=Cq hv;have htn:=J.ec;have hte:=J.eh;unfold Pj NY;rw[Z3 U,bs,bs];refine E1 (λi h=>(0<=i/\i<=8)/\((h.d5.d3.length:Int)<=i/\h.ej.length=h.d5.d3.length/\h.d5.d4=[])/\∀k:Int,0<=k->k<h.d5.d3.length->ABx t (AA h.d5.d3 k) (AA h.ej k)) 8 ⟨U,V,λk C D=>by simp at D;omega⟩ (λi h K⟨a1,⟨a2,a3,Q⟩,S⟩=>?_) (λi h K⟨a1,⟨a2,a3,Q⟩,S⟩_=>?_)
 .dsimp only;by_cases A:(i<d.d3.length/\i<8)/\0<((Qa t).length:Int)
  .left;have B:=hd.ec _ (AF a1.1 A.1.1);obtain⟨r,δ,H,z⟩:=Cb (show 0<=AJ (AA d.d3 i).a0 by rw[B.1.w];exact B.1.1) A.2;have F:=AF H z;have f:=(QC.1 F).1;refine⟨U,?_⟩;rw[ac m_,AD a1.1 A.1.1,bs,δ,bs,AD H z,bs,O1 hf,bs,JP hv f.1 f.2,AT (n:=i+1) U U];dsimp only;generalize AA (Qa t) r=kd at F f|-;have G:=(Rd J.n (kd+1).toNat kd f.2).1;have κ:=Rc hf P f.1 f.2;have η:=VG hf P f.1 f.2;unfold A4 at G;have G:(A4 t kd).length<=(kd+1).toNat:=G;refine iw (mk:=λs'=>B0.next (s',i+1)) (Ot (a:=0) (b:=((A4 t kd).length:Int)) (s:=([]:Fp)) (λ(k:Int)(s:Fp)=>(s.length:Int)=k/\∀j:Int,0<=j->j<k->(AA (A4 t kd) j).Low<=AA s j/\AA s j<=(AA (A4 t kd) j).Aaf) U ⟨rfl,λj E ε=>U⟩ (λk s C D⟨s1,s2⟩=>?_) (λs⟨s1,s2⟩=>?_))
   .have m1:=κ _ (AF C D);have m2:=η _ (AF C D);have m3:=B.2.1;have m4:=B.2.2;rw[AD C D,bs,bs,bs,bs,AT (n:=(AA (A4 t kd) k).Aaf-(AA (A4 t kd) k).Low) U U,AT (n:=(AA (A4 t kd) k).Aaf-(AA (A4 t kd) k).Low+1) U U,B.2.w,AT (n:=7*k) U U,AT (n:=(AA d.d3 i).a1+7*k) U U];obtain⟨q,Z,q0,θ⟩:=Cb (show 0<=(AA d.d3 i).a1+7*k by omega) (show 0<(AA (A4 t kd) k).Aaf-(AA (A4 t kd) k).Low+1 by omega);rw[Z,bs,AT (n:=(AA (A4 t kd) k).Low+q) U U,AS a_,bs];refine⟨_,rfl,an,λj E ε=>?_⟩;by_cases e:j=k
    .rw[NC _ _ U,e];omega
    .rw[Ll _ _ E U];exact s2 j E U
   .rw[AS a_,bs,AS a_,bs];refine⟨_,rfl,_,rfl,U,⟨an,an,Q⟩,λk C D=>?_⟩;simp only[b6,z?]at D;by_cases e:k=h.d5.d3.length
    .rw[NC _ _ e,NC _ _ U];exact⟨F,U,λj E ε=>s2 j E U⟩
    .rw[Ll _ _ C U,Ll _ _ C U];exact S k C U
  .right;rw[ae m_]
 dsimp only;refine E1 (λj u=>(0<=j/\j<=10)/\(u.d5.d3=h.d5.d3/\u.ej=h.ej/\(u.d5.d4.length:Int)<=j)/\∀e∈u.d5.d4,VB t h.d5.d3.length e/\LE t e.kg (AA h.d5.d3 e.ke) (AA h.d5.d3 e.To)=X) 10 ⟨U,⟨rfl,rfl,by rw[Q];simp⟩,by rw[Q];intro e he;cases he⟩ (λj u E⟨H,⟨z,M,b3⟩,N⟩=>?_) (λj u E⟨H,⟨z,M,b3⟩,N⟩_=>⟨u,rfl,?_⟩)
 .dsimp only;by_cases A:((j<d.d4.length/\j<10)/\0<(h.d5.d3.length:Int))/\0<(t.d4.length:Int)
  .left;have B:=hd.eh _ (AF H.1 A.1.1.1);obtain⟨r,δ,c1,c2⟩:=Cb (show 0<=AJ (AA d.d4 j).a0 by rw[B.1.w];exact B.1.1) A.2;obtain⟨r1,Z,d1,d2⟩:=Cb (show 0<=AJ (AA d.d4 j).a1 by rw[B.2.1.w];exact B.2.1.1) A.1.2;obtain⟨r2,e3,f1,f2⟩:=Cb (show 0<=AJ (AA d.d4 j).a2 by rw[B.2.2.w];exact B.2.2.1) A.1.2;refine⟨U,?_⟩;rw[ac m_,AD H.1 A.1.1.1,bs,δ,bs,bs,Z,bs,bs,e3,bs,z,AD d1 d2,bs,AD f1 f2,bs,Yu hf,bs,AT (n:=j+1) U U];split
   .rename_i O;rw[AS a_,bs];exact⟨_,rfl,U,⟨rfl,M,an⟩,λe F=>(y?.1 F).elim (N e) λF=>by
     rw [z_.1 F];exact⟨⟨⟨c1,c2⟩,⟨d1,d2⟩,f1,f2⟩,O⟩⟩
   .exact⟨u,rfl,U,⟨z,M,U⟩,N⟩
  .right;rw[ae m_]
 .have go:Cp u.d5:=by
   refine ⟨by rw[z];omega,U,λn hn=>?_,λe he=>?_⟩
   .rw[z]at hn;obtain⟨k,C,D,rfl⟩:=BT hn;have:=(QC.1 (S k C D).1).1;omega
   .have:=(N e he).1;unfold VB at this;rw[z];omega
  unfold Dq;rw[ae l_,ae (by simp[EI go]),ae (by rw[z,M];simpa using a3),BH.2]
  .dsimp only;rw[BH.2]
   .rfl
   intro i K i1;obtain⟨θ,q2⟩:=N _ (AF K i1);have ζ:JZ t u.d5 i=0:=by
    unfold JZ Hl;rw[ae (by have:=θ.1.2;omega),z,q2];rfl
   rw [ζ];rfl
  .intro i K i1;rw[z]at i1;obtain⟨θ,q2,q3⟩:=S i K i1;have q4:=QC.1 θ;have ζ:Gi t (AA u.d5.d3 i) (AA u.ej i)=0:=by
    rw [z,M];unfold Gi;rw[ae U,ae (by simp[q4.2]),ae (by simpa using q2),ae];rw[Cu];rintro⟨j,E,ε,e⟩;have:=q3 j E U;simp[RM]at e;omega
   rw [ζ];rfl
end Go.Sf.Sc
namespace Go.Sf.Sc
open Go Go.Sf
instance:Inhabited F5:=⟨⟨⟨⟨[],[]⟩,[],[]⟩,0,[],[],[],T,T,⟨0,0,0,0⟩,[]⟩⟩
end Go.Sf.Sc
namespace Go.Sf.Sc
open Go Go.Sf
end Go.Sf.Sc
namespace Go.Sf.Sc
open Go Go.Sf
variable{k:Int}
theorem ba{t:AC}(f:E2 t k){c:Int}:∀(n m:Nat)(a b:Int),a<k->a<n->b<m->b∈Kk t n a->c∈Kk t m b->c∈Kk t n a
 |0,_,_,_,_,_,_,hb,_=>by simp[Kk]at hb|n+1,m,a,b,ha,z,w,hb,u=>by
  rw [Kk]at hb|-;split at hb
  .cases hb
  .rename_i h0;rw[ae h0];have A:=f a U ha;rcases A!.1 hb with rfl|hb
   .have e:=pK f m (n+1) b ha w z;rw[e,Kk,ae h0]at u;exact u
   .exact A? _ (ba f n m (par t a) b U U w hb u)
theorem af{t:AC}(h:Fc t){a b c:Int}(ha:a<t.d3.length)(f:G2 t a b=X)(u:G2 t b c=X):G2 t a c=X:=by
 unfold G2 at f u|-;rw[List.any_eq_true]at f u|-;obtain⟨x,z,e⟩:=f;obtain⟨y,A,w⟩:=u;rw[tn]at e w;subst e;subst w;exact⟨c,ba h.par _ _ a b ha U U z A,V⟩
theorem qI{t:AC}(h:Fc t){e f g w z:Int}(hf:0<=w/\w<t.d3.length)(A:0<=z/\z<t.d3.length)(B:G2 t w f=X)(C:G2 t z g=X)(u:LE t e f g=X):LE t e w z=X:=by
 unfold LE at u|-;simp only[pq,NP]at u|-;exact⟨⟨⟨u.1.1.1,hf,A⟩,u.1.2⟩,af h hf.2 B u.2.1,af h A.2 C u.2.2⟩
end Go.Sf.Sc
namespace Go.Sf.Sc
open Go Go.Sf
variable{r:ff}
theorem gH{t:AC}(h:Dc t r=0):(∀x∈E0 r,(AA t.d3 (AA r.ei.d5.d3 x)).sc=T)/\∀x∈K9 r,Hl t r.ei.d5 x=X:=by
 have e:TU t r.ei.d5 (E0 r) (K9 r)=X:=by grind[Dc]
 unfold TU at e;rw[pq,E_,E_,A',A']at e;exact⟨λx f=>by simpa using e.1 x f,λx f=>by simpa using e.2 x f⟩
abbrev gS(t:AC)(r:ff)(h:AG)(m:AP):AG:=Cw t r (CO h (dS r h m)) (cS r h m)
theorem IF.eh{t:AC}{h:AG}{m:AP}(s:IF t r h m):∀e∈(gS t r h m).d5.d4,((0<=e.ke/\e.ke<(gS t r h m).d5.d3.length)/\0<=e.To/\e.To<(gS t r h m).d5.d3.length)/\LE t e.kg (AA (gS t r h m).d5.d3 e.ke) (AA (gS t r h m).d5.d3 e.To)=X:=by
 intro e he;have el:(gS t r h m).d5.d3=(dS r h m).d3.map (AA h.d5.d3)++(E0 r).map (AA r.ei.d5.d3):=rfl;have he:e∈(dS r h m).d4.map (λx=>XX (Gb h (dS r h m)).d3 (AA h.d5.d4 x))++(K9 r).map (λk=>XX (cS r h m).d3 (AA r.ei.d5.d4 k)):=he;rcases y?.1 he with he|he
 .obtain⟨x,D,rfl⟩:=y!.1 he;have C:=Vs (fU s.part).2;have u:=C.eh.1 x D;have f:=C.ends x D;have hf:=(s.hh.g.fit _ (AF u.1 u.2)).2;have J:=(US s.he).2 x u.1 u.2;have fit:Hl t h.d5 x=X:=by
   unfold JZ at J
   grind
  have at_:∀y,y∈(dS r h m).d3->0<=y->y<h.d5.d3.length->(0<=AA (Gb h (dS r h m)).d3 y/\AA (Gb h (dS r h m)).d3 y<(gS t r h m).d5.d3.length)/\AA (gS t r h m).d5.d3 (AA (Gb h (dS r h m)).d3 y)=AA h.d5.d3 y:=λy F G H=>by
   have hi:=Hd F;rw[show AA (Gb h (dS r h m)).d3 y=DY (dS r h m).d3 y from Uu G H,el,b6,c9];refine⟨⟨hi.1,by have:=hi.2.1;push_cast;omega⟩,?_⟩;rw[mW hi.1 (by rw[c9];exact hi.2.1),Gg hi.1 hi.2.1,hi.2.2.1]
  obtain ⟨a1,a2⟩:=at_ _ f.1 hf.1.1 hf.1.2;obtain⟨A,B⟩:=at_ _ f.2 hf.2.1 hf.2.2;refine⟨⟨a1,A⟩,?_⟩;simp only[XX];rw[a2,B];exact fit
 .obtain⟨k,E,rfl⟩:=y!.1 he;have w:0<=k/\k<r.ei.d5.d4.length:=Fr E;have hf:=(s.ro.right.fit _ (AF w.1 w.2)).2;obtain⟨a1,a3,a2⟩:=s.AbM hf.1.1 hf.1.2;obtain⟨A,K,B⟩:=s.AbM hf.2.1 hf.2.2;have z:=s.put.kind;refine⟨⟨a1,A⟩,?_⟩;exact qI (Cq s.hv) ⟨(z _ (AF a1.1 a1.2)).1,a3⟩ ⟨(z _ (AF A.1 A.2)).1,K⟩ a2 B ((gH s.re).2 k E)
end Go.Sf.Sc
namespace Go.Sf.Sc
open Go Go.Sf
def kG(t:AC)(k:Int)(v:Fp):Prop:=v.length=(A4 t k).length/\∀j:Int,0<=j->j<v.length->(AA (A4 t k) j).Low<=AA v j/\AA v j<=(AA (A4 t k) j).Aaf
def Xy(t:AC)(g:d5)(κ:List Fp):Prop:=κ.length=g.d3.length/\∀i:Int,0<=i->i<g.d3.length->kG t (AA g.d3 i) (AA κ i)
variable{x:AG}
theorem nH{t:AC}{κ:List Fp}(h:Xy t x.d5 κ){p:(Int×Int)×Int}(A:Nr t x p=T):Xy t x.d5 (Cd κ p):=by
 unfold Cd;split
 .rename_i h0;refine⟨by rw[List.length_modify];exact h.1,λi B i1=>?_⟩;have hi:=h.2 i B i1;by_cases e:i=p.1.1
  .have f:AA (κ.modify p.1.1.toNat λr=>r.set p.1.2.toNat p.2) i=(AA κ i).set p.1.2.toNat p.2:=by
    have:=h.1;subst e;simp[AA,B_,x_ (show p.1.1.toNat<κ.length by omega)]
   rw [f];refine⟨by rw[B'];exact hi.1,λj w z=>?_⟩;rw[B']at z;by_cases u:j=p.1.2
   .rw[show AA ((AA κ i).set p.1.2.toNat p.2) j=p.2 by rw[u];exact QA p.2 h0.2 U,u,e];simp[Nr]at A;omega
   .rw[show AA ((AA κ i).set p.1.2.toNat p.2) j=AA (AA κ i) j from Td p.2 h0.2 w u];exact hi.2 j w z
  .have f:AA (κ.modify p.1.1.toNat λr=>r.set p.1.2.toNat p.2) i=AA κ i:=by
    simp [AA,B!,B_,show¬p.1.1.toNat=i.toNat by omega]
   rw [f];exact hi
 .exact h
theorem aV{t:AC}:∀(L:Bk){κ:List Fp},Xy t x.d5 κ->L.any (Nr t x)=T->Xy t x.d5 (L.foldl Cd κ)
 |[],_,h,_=>h|p::L,κ,h,e=>by
  rw [List.any_cons,Bool.or_eq_false_iff]at e;exact aV L (nH h e.1) e.2
variable{r:ff}
theorem IF.ec{t:AC}{h:AG}{m:AP}(s:IF t r h m):(∀n∈(gS t r h m).d5.d3,(AA t.d3 n).sc=T)/\∀v n,(n,v)∈(gS t r h m).d5.d3.zip (gS t r h m).ej->kG t n v:=by
 have F:=Cq s.hv;have el:(gS t r h m).d5.d3=(dS r h m).d3.map (AA h.d5.d3)++(E0 r).map (AA r.ei.d5.d3):=rfl;have ev:(gS t r h m).ej=(dS r h m).d3.map (AA h.ej)++(E0 r).map (λk=>Vg t (AA r.ei.d5.d3 k)):=rfl;have old:∀x∈(dS r h m).d3,(AA t.d3 (AA h.d5.d3 x)).sc=T/\kG t (AA h.d5.d3 x) (AA h.ej x):=λx f=>by
  have f:=s.rem.ec.1 x f;have u:=(US s.he).1 x f.1 f.2;unfold Gi at u;split at u
  .cases u
  split at u
  .cases u
  split at u
  .cases u
  split at u
  .cases u
  rename_i a1 a2 a3 G;refine⟨by simpa using a2,F_.1 a3,λj C D=>?_⟩;have:=By.1 (by simpa using G) j C U;simp[RM]at this;omega
 have new:∀k∈E0 r,kG t (AA r.ei.d5.d3 k) (Vg t (AA r.ei.d5.d3 k)):=λk E=>by
  have A:0<=k/\k<r.ei.d5.d3.length:=Fr E;have B:=(Hq s.ro.right s.ro.Abi).1 _ (AF A.1 A.2);refine⟨by simp[Vg],λj C D=>?_⟩;simp only[Vg,c9]at D|-;have:=VG s.hf F B.1 B.2 _ (AF C D);rw[show AA ((A4 t (AA r.ei.d5.d3 k)).map λx=>x.Low) j=(AA (A4 t (AA r.ei.d5.d3 k)) j).Low by grind[AA,x_]];omega
 refine ⟨λn z=>?_,λv n w=>?_⟩
 .rw[el]at z;rcases y?.1 z with z|z
  .obtain⟨x,f,rfl⟩:=y!.1 z;exact(old x f).1
  .obtain⟨k,E,rfl⟩:=y!.1 z;exact(gH s.re).1 k E
 .rw[el,ev,List.zip_append V]at w;rcases y?.1 w with w|w
  .rw[B?,y!]at w;obtain⟨x,f,e⟩:=w;cases e;exact(old x f).2
  .rw[B?,y!]at w;obtain⟨x,f,e⟩:=w;cases e;exact new x f
end Go.Sf.Sc
namespace Go.Sf.Sc
open Go Go.Sf
variable{α β:Type}{i:Int}
theorem y7[Inhabited α][Inhabited β]{a:List α}{b:List β}(e:0<=i)(f:i<a.length)(u:i<b.length):(AA a i,AA b i)∈a.zip b:=by
 refine List.mem_of_getElem? (i:=i.toNat) ?_;rw[List.getElem?_zip_eq_some]
 grind [AA,x_]
variable{r:ff}
theorem Wm{t:AC}{h:AG}{m:AP}(s:Q3 t r h m):Dq t (PA t r h m)=(-1,0):=by
 have f:=s.f;have hv:=f.hv;have z:=Cq hv;have put:=f.put;have ed:=f.eh;obtain⟨F,G⟩:=f.ec;have M:=z.ec;have N:=z.eh;have u:Xy t (gS t r h m).d5 (gS t r h m).ej:=⟨put.Ab0,λi w i1=>G _ _ (y7 w i1 (by rw[put.Ab0];exact i1))⟩;have good:=aV (x:=gS t r h m) _ u (fV s.put).2;have A:∀e∈(gS t r h m).d5.d4,0<=e.kg/\e.kg<t.d4.length:=λe he=>by
  have:=(ed e he).2;unfold LE at this;simp only[pq,tn]at this;exact this.1.2
 have go:Cp (gS t r h m).d5:=⟨s.few.1,s.few.2,λn D=>by have:=put.kind n D;omega,λe he=>⟨by have:=A e he;omega,(ed e he).1⟩⟩;have E:(PA t r h m).d5=(gS t r h m).d5:=rfl;have ev:(PA t r h m).ej=(CP r (cS r h m) m.fd).foldl Cd (gS t r h m).ej:=rfl;unfold Dq;rw[ae l_,E,ev,ae (by simp[EI go]),ae (by simpa using good.1),BH.2]
 .dsimp only;rw[BH.2]
  .rfl
  intro i w i1;have B:=AF w i1;have C:JZ t (gS t r h m).d5 i=0:=by
   unfold JZ Hl;rw[ae (by have:=A _ B;omega),(ed _ B).2];rfl
  rw [C];rfl
 .intro i w i1;have B:=AF w i1;obtain⟨H,J⟩:=good.2 i w i1;have C:Gi t (AA (gS t r h m).d5.d3 i) (AA ((CP r (cS r h m) m.fd).foldl Cd (gS t r h m).ej) i)=0:=by
   unfold Gi;rw[ae (by have:=put.kind _ B;omega),ae (by simp[F _ B]),ae v_,ae];rw[Cu];rintro⟨j,K,O,e⟩;have:=J j K U;simp[RM]at e;omega
  rw [C];rfl
end Go.Sf.Sc
namespace Go.Sf.Sc
open Go Go.Sf
theorem vR{t:AC}{rules:List ff}{h:AG}(w:G4 t rules h=0):(∀r∈rules,Dc t r=0)/\(Dq t h).2=0:=by
 have e:Ft t rules=0/\(Dq t h).2=0:=by grind[G4]
 refine ⟨λr hr=>?_,e.2⟩;obtain⟨i,u,i1,rfl⟩:=BT hr;have f:(fst (λi=>nz (Dc t (AA rules i))) 0 rules.length).getD 0=0:=by grind[Ft]
 exact Va f i u i1
variable{r:ff}
theorem tw{t:AC}(hf:A3 t){h:AG}(f:Dc t r=0)(e:(Dq t h).2=0):(Hi t r h).2=0\/(Hi t r h).2=3:=by
 have w:Rj t r h=0:=by unfold Rj;simp[f,e]
 have u:=(Uq f).1;have z:OT t r.gp h=0:=by unfold OT;simp[u,e]
 obtain ⟨hv,hh⟩:=QJ hf e;obtain⟨go,ty⟩:=Yr u;have A:Ep t r.gp.d5 h.d5=0:=by unfold Ep;simp[hv,EI go,hh.ge,ty,hh.ty]
 unfold Hi Ln MC
 grind
end Go.Sf.Sc
namespace Go.Sf.Sc
open Go Go.Sf
theorem WJ(l:Fp)(v:Int):slices_Contains_int l v=Y (hasB l v):=Mb l v
def NF(g:d5)(a b:Int):Nat:=g.d4.countP λe=>decide (e.ke=a)&&decide (e.To=b)
variable{g:d5}
theorem Uf(h:g.d4.length<=1000)(a b:Int):Jb g a b=Y (NF g a b:Int):=by
 unfold Jb NF;have u:∀l:List Bx,(l.countP λe=>decide (e.ke=a)&&decide (e.To=b))<=l.length:=λl=>List.countP_le_length;rw[CC (λi=>(((g.d4.take i.toNat).countP λe=>decide (e.ke=a)&&decide (e.To=b)):Int)) U V]
 .rw[bs,w_,C_]
 intro i f i1;have:=u (g.d4.take i.toNat);rw[bk]at this;rw[AD f i1,bs,CH f i1,List.countP_append];by_cases e:((decide ((AA g.d4 i).ke=a))&&(decide ((AA g.d4 i).To=b)))=X
 .rw[ac e,AT U U];simp[C',e]
 .rw[ae e];simp[C',e]
def jH(x y:AG)(mn:Fp)(l j:Int):Bool:=
 decide (NF x.d5 j l=NF y.d5 (AA mn j) (AA mn l))&&decide (NF x.d5 l j=NF y.d5 (AA mn l) (AA mn j))
def Tp(x y:AG)(mn:Fp)(l:Int):Bool:=!l3 (λj=>!jH x y mn l j) 0 (l+1)
variable{l:Fp}{i j:Int}
theorem x8(e:0<=j)(h:j<i):AA (l.take i.toNat) j=AA l j:=by
 unfold AA;rw[B!,B!,List.getElem?_take,ac U]
variable{x y:AG}
theorem nu(f:x.d5.d4.length<=1000)(u:y.d5.d4.length<=1000){mn ns es me:Fp}(D:mn.length<=1000){l:Int}(w:0<=l)(l1:l<mn.length):
  Gf ⟨x,y,ns,es,⟨mn.take (l+1).toNat,me⟩⟩=Y (Tp x y mn l):=by
 unfold Gf;have C:((mn.take (l+1).toNat).length:Int)=l+1:=h?
 dsimp only;rw[C,show l+1-1=l by omega,AT U U,Bf (λj=>!jH x y mn l j) T]
 .unfold Tp;cases l3 (λj=>!jH x y mn l j) 0 (l+1)<;>rfl
 intro j z B;rw[AD z U,bs,x8 z B,Uf f,bs,AD w U,bs,x8 w U,Uf u,bs,Uf f,bs,bs,Uf u,bs];unfold jH;by_cases e:NF x.d5 j l=NF y.d5 (AA mn j) (AA mn l)
 .rw[ae c_,bs];by_cases A:NF x.d5 l j=NF y.d5 (AA mn l) (AA mn j)
  .simp[e,A]
  .rw[ac (by simp only[E_,decide_eq_false_iff_not];omega)];simp[e,A]
 .rw[ac (by simp only[E_,decide_eq_false_iff_not];omega),bs,ac rfl];simp[e]
structure y8(x y:AG)(m:d6):Prop where
 nl:m.d3.length=x.d5.d3.length
 el:m.d4.length=x.d5.d4.length
 xn:x.d5.d3.length<=1000
 xe:x.d5.d4.length<=1000
 yn:y.d5.d3.length<=1000
 ye:y.d5.d4.length<=1000
 xv:x.ej.length=x.d5.d3.length
 yv:y.ej.length=y.d5.d3.length
 xends:∀e∈x.d5.d4,(0<=e.ke/\e.ke<x.d5.d3.length)/\0<=e.To/\e.To<x.d5.d3.length
 nin:∀k∈m.d3,0<=k/\k<y.d5.d3.length
 ein:∀k∈m.d4,0<=k/\k<y.d5.d4.length
end Go.Sf.Sc
namespace Go.Sf.Sc
open Go Go.Sf
end Go.Sf.Sc
namespace Go.Sf.Sc
open Go Go.Sf
theorem sZ(n:Nat):(A0 n).Nodup:=by
 unfold A0;exact List.Pairwise.map _ (λa b h e=>h (Int.ofNat.inj e)) w?
variable{l:Fp}{n:Nat}{i:Int}
theorem mU(f:l.Nodup)(w:l.length=n)(h:∀x∈l,0<=x/\x<n)(u:0<=i)(i1:i<n):i∈l:=by
 by_cases hi:i∈l
 .exact hi
 .have:=XY (l:=i::l) (n:=n) (List.nodup_cons.2 ⟨hi,f⟩) (λx e=>by
   rcases A!.1 e with rfl|e
   .exact⟨u,i1⟩
   .exact h x e)
  simp at this;omega
theorem M7:l.Nodup↔∀i:Int,0<=i->i<l.length->hasB (l.take i.toNat) (AA l i)=T:=by
 rw [<-Jy];unfold Jx;rw[E_,By];refine⟨λh i u i1=>?_,λh i u i1=>?_⟩
 .have:=h i u i1;rw[By]at this;rw[<-E',B6];intro z;obtain⟨j,f,w,e⟩:=BT z;rw[bk]at w;have A:=this j f U;rw[x8 f U]at e;simp[e]at A
 .rw[By];intro j f w;have:=h i u i1;rw[<-E',B6]at this;simp only[decide_eq_false_iff_not];intro e;refine this ?_;rw[e,<-x8 f w];exact AF f h?
theorem Z2{x y:d5}{mn me:Fp}(nn:mn.length=x.d3.length)(nd:mn.Nodup)(en:me.length=x.d4.length)(ee:x.d4.length=y.d4.length)(ed:me.Nodup)(ein:∀k∈me,0<=k/\k<y.d4.length)
  (ends:∀e∈x.d4,(0<=e.ke/\e.ke<x.d3.length)/\0<=e.To/\e.To<x.d3.length)
  (edge:∀i:Int,0<=i->i<x.d4.length->AA y.d4 (AA me i)=⟨(AA x.d4 i).kg,AA mn (AA x.d4 i).ke,AA mn (AA x.d4 i).To⟩)
  {a b:Int}(a0:0<=a)(a1:a<x.d3.length)(E:0<=b)(F:b<x.d3.length):NF x a b=NF y (AA mn a) (AA mn b):=by
 have G:me.Perm (A0 y.d4.length):=(List.perm_ext_iff_of_nodup ed (sZ _)).2 λk=>⟨λw=>C6.2 (ein k w),λw=>mU ed U ein (C6.1 w).1 (C6.1 w).2⟩;have D:=G.map (AA y.d4);rw[TJ]at D;have H:x.d4.map (λe=>(⟨e.kg,AA mn e.ke,AA mn e.To⟩:Bx))=me.map (AA y.d4):=by
  rw [ef x.d4,ef me,en];refine DL λj f C=>?_;exact(edge j f C).symm
 unfold NF;rw[<-D.countP_eq,<-H,List.countP_map];refine List.countP_congr λe he=>?_;obtain⟨⟨J,K⟩,M,N⟩:=ends e he;have inj:∀{i j:Int},0<=i->i<x.d3.length->0<=j->j<x.d3.length->AA mn i=AA mn j->i=j:=λ{i j}z i1 f C e=>by
  by_cases A:i<j
  .have:=M7.1 nd j f U;rw[<-E',B6]at this;refine absurd ?_ this;rw[<-e,<-x8 z A];exact AF z h?
  by_cases B:j<i
  .have:=M7.1 nd i z U;rw[<-E',B6]at this;refine absurd ?_ this;rw[e,<-x8 f B];exact AF f h?
  omega
 simp only[Function.comp_apply,pq,tn];exact⟨λ⟨u,v⟩=>⟨by rw[u],by rw[v]⟩,λ⟨u,v⟩=>⟨inj J K a0 a1 u,inj M N E F v⟩⟩
end Go.Sf.Sc
namespace Go.Sf.Sc
open Go Go.Sf
noncomputable def K7(t:AC)(st:AU):Bool:=decide ((EW t st.ff st.j4 st.og).2=0)&&ip (EW t st.ff st.j4 st.og).1 st
variable{st:AU}
theorem fI{t:AC}(hf:A3 t)(fr:Ic st.ff)(f:Dv st.ff.d7<=40):Jq t st=Y (K7 t st):=by
 unfold Jq K7;rw[Yo hf fr f,bs];by_cases e:(EW t st.ff st.j4 st.og).2=0
 .rw[ac c_,uu,bs,bs];simp[e]
 .rw[ae c_,bs];simp[e]
theorem ic{t:AC}(hf:A3 t)(fr:Ic st.ff)(w:Dv st.ff.d7<=40)(h:K7 t st=X):K0 st.j4/\ME st.j4 st/\ET st.hV:=by
 unfold K7 at h;simp only[pq,tn]at h;obtain⟨s,e⟩:=SH hf fr w h.1;have f:=Ti.1 h.2;rw[e]at f;have u:=bf s;have tk:=s.trk;dsimp only at f;rw[f]at u tk;exact⟨u.b,tk,tk.sm⟩
theorem m7{t:AC}(hf:A3 t){rules:List ff}(hr:GZ rules){d:CN}(h:Sl t rules d):∀n:Nat,n<=d.mo.length->(Dq t (Jp t rules d.l4 (d.mo.take n)).2).2=0
 |0,_=>(ZS hf h.given).2.1|n+1,u=>by
  have he:=h.moves n U U;have e:=CH (l:=d.mo) (i:=(n:Int)) U U;rw[show((n:Int)+1).toNat=n+1 by omega,w_]at e;unfold SL at he;rw[w_]at he;obtain⟨_,s,f⟩:=WT hf hr he;rw[e,Se,f];exact congrArg Prod.snd (Wm s)
theorem XO:∀(l:List AU)(m:d6),(RJ m l).d3.length=m.d3.length/\(RJ m l).d4.length=m.d4.length
 |[],m=>⟨rfl,rfl⟩|s::l,m=>by
  have:=XO l (KM m s.p0);simp only[KM,EF,c9]at this;exact this
structure sg(t:AC)(d:CN)(x:AG×d6×Int):Prop where
 small:ET x.1
 ok:Ie t x.1
 Aal:x.2.1.d3.length=d.l4.d5.d3.length
 Aap:x.2.1.d4.length=d.l4.d5.d4.length
 inn:Kn x.2.1 x.1.d5
theorem Ue{l f:Fp}(z:l.length<=1000)(h:∀x∈l,-1<=x/\x<f.length):EK l f=Y (EF l f):=by
 unfold EK;rw[UW (F:=λx=>if x<0 then -1 else AA f x) λi s u i1 A=>?_]
 .rfl
 .have w:=h _ (AF u i1);rw[AD u i1,bs];by_cases e:0<=AA l i
  .rw[ac f_,AD e w.2,bs,AS a_,bs,ae U]
  .rw[ae f_,AS a_,bs,ac U,show AA l i=-1 by omega]
variable{x:AG}
theorem nk(h:ET x):N1 x=Y x:=by
 have:=h.ec;have:=h.eh;have:=h.vals;unfold N1 slices_Clone_int Dd;rw[Be b_,bs,Be b_,bs];rw[CC (λi=>AG.mk x.d5 (x.ej.take i.toNat)) U t?]
 .rw[w_,C_];rfl
 .intro i e i1;have f:=h.rows _ (AF e i1);rw[AD e i1,bs,Be b_,bs,AS (by rw[bk];simp;unfold AX;omega),bs,CH e i1]
theorem IG(l e:Fp):(EF l e).length=l.length:=by unfold EF;rw[c9]
def MD(s:AU)(p:BR):d6:=⟨EF p.d3 s.p0.d3,EF p.d4 s.p0.d4⟩
variable{s:AU}
theorem nJ{p:BR}(e:X0 s.j4 p)(f:ME s.j4 s):Kn (MD s p) s.hV.d5:=by
 refine ⟨by show(EF _ _).length<=1000;rw[IG];exact e.Aal,by show(EF _ _).length<=1000;rw[IG];exact e.Aap,?_,?_⟩
 .exact P8 (λx u=>by have:=e.node x u;rw[f.Aal];omega) f.node
 .exact P8 (λx u=>by have:=e.edge x u;rw[f.Aap];omega) f.edge
theorem fH{p:BR}(e:X0 s.j4 p)(u:ME s.j4 s)(w:ET s.hV):Ja s p=Y ⟨⟨s.hV,[]⟩,s.hV,MD s p⟩:=by
 unfold Ja;rw[nk w,bs,Ue e.Aal (λx f=>by have:=e.node x f;rw[u.Aal];omega),bs,Ue e.Aap (λx f=>by have:=e.edge x f;rw[u.Aap];omega),bs];rfl
theorem qt{t:AC}(hf:A3 t){rules:List ff}(hr:GZ rules){a b:AU}(fa:Ic a.ff)(ka:Dv a.ff.d7<=40)(fb:Ic b.ff)(kb:Dv b.ff.d7<=40):
  Jc t rules a b=Y (if Ft t rules≠0 then Ft t rules else if(K7 t a&&K7 t b)=T then 1 else if a.j4=b.j4 then 0 else 8):=by
 have w:(Zq t rules ⟨⟨⟨[],[]⟩,[]⟩,[]⟩).2.2=Ft t rules:=by
  by_cases h:Ft t rules=0
  .have hv:(BC t).2=0:=by
    unfold Ft at h;split at h
    next k=>exact absurd h k
    next k=>exact F_.1 k
   have hh:(Dq t ⟨⟨[],[]⟩,[]⟩).2=0:=by
    unfold Dq;rw[ae l_,ae (by simp[CE]),ae V,BH.2 (λi u i1=>i_)];dsimp only;rw[BH.2 (λi u i1=>i_)];rfl
   have f:G4 t rules ⟨⟨[],[]⟩,[]⟩=0:=by
    unfold G4;rw[ae s?];exact hh
   rw [yO (d:=⟨⟨⟨[],[]⟩,[]⟩,[]⟩) ⟨f,V,λi u i1=>i_⟩];exact h.symm
  .have f:G4 t rules ⟨⟨[],[]⟩,[]⟩=Ft t rules:=by
    unfold G4;rw[ac h]
   unfold Zq;rw[ac (by rw[f];exact h)];exact f
 unfold Jc FJ;rw[qp hf hr,bs,w];by_cases h:Ft t rules=0
 case neg=>rw[ac b?,ac h]
 rw [ae s?,ae s?,fI hf fa ka,bs];cases K7 t a with
 |false=>rfl|true=>
  rw [ae a!,fI hf fb kb,bs,bs];cases K7 t b with
  |false=>rfl|true=>
   rw [ae a!,Zi,bs];by_cases e:a.j4=b.j4
   .rw[ae c_,ae a!,ac e]
   .rw[ac c_,ae a!,ae e]
theorem nO{t:AC}(h:Ie t x):Cp x.d5/\x.ej.length=x.d5.d3.length/\∀e∈x.d5.d4,(0<=e.ke/\e.ke<x.d5.d3.length)/\0<=e.To/\e.To<x.d5.d3.length:=⟨h.g,h.len,λe he=>(h.g.fit e he).2⟩
end Go.Sf.Sc
namespace Go.Sf.Sc
open Go Go.Sf
structure ACd(t:AC)(a b:AU)(p:BR)(x y:AG×d6×Int)(iso:d6):Prop where
 ha:ME a.j4 a
 hb:ME b.j4 b
 pa:X0 a.j4 p
 pb:X0 b.j4 p
 fx:∃d,d.l4=a.hV/\sg t d x
 fy:∃d,d.l4=b.hV/\sg t d y
 io:y8 x.1 y.1 iso
 i1:iso.d3.length<=1000
 i2:iso.d4.length<=1000
 sa:ET a.hV
 sb:ET b.hV
end Go.Sf.Sc
namespace Go.Sf.Sc
open Go Go.Sf
variable{c:Bool}
theorem UP{b:Bool}{o:K1}(h:b=T->o=Y c):(if b=X then Y X else o.bind λx=>Y (!x))=Y (b||!c):=by
 cases b with
 |true=>rfl|false=>rw[ae a!,h rfl];rfl
structure ACc(t:AC)(rules:List ff)(a b:AU)(j:Aaa):Prop where
 gr:Ft t rules=0
 ga:K7 t a=X
 gb:K7 t b=X
 before:a.j4=b.j4
 left:j.gp.l4=a.hV
 right:j.ei.l4=b.hV
theorem Xt:∀{l:Fq}(n:Nat),TV.tc l->TV.tc (l.take n)
 |[],n,_=>by cases n<;>trivial
 |x::l,0,_=>trivial|x::l,n+1,h=>⟨h.1,Xt n h.2⟩
theorem Xs:∀{l:Fq}(n:Nat),TV.tc l->TV.tc (l.drop n)
 |[],n,_=>by cases n<;>trivial
 |x::l,0,h=>h|x::l,n+1,h=>Xs n h.2
end Go.Sf.Sc
namespace Go.Sf.Sc
open Go Go.Sf
variable{α:Type}{n:Nat}
theorem Iz{e:α->TV}{l:List α}(h:TV.WF (eL n e l)):∀x∈l,(e x).WF:=by
 have z:TV.WF (.list n (l.map e)):=h;simp only[TV.WF]at z;intro x A;have key:∀{u:Fq},TV.tc u->∀t∈u,t.WF:=by
  intro u
  induction u with
  |nil=>intro _ t f;cases f
  |cons a l B=>
   intro w t f;rcases A!.1 f with rfl|f
   .exact w.1
   .exact B w.2 t f
 exact key z.2 _ (y!.2 ⟨x,A,rfl⟩)
theorem Lv{x:Int}(h:(Eo x).WF):U8 x:=by
 have e:IntKind.u8.min<=x/\x<=IntKind.u8.max:=h;rw[show IntKind.u8.min=0 by decide,show IntKind.u8.max=255 by decide]at e;exact⟨e.1,U⟩
theorem gY{x:Lx}(h:(LB x).WF):U2 x:=⟨Lv h.1,Lv h.2.1⟩
theorem V9{x:KO}(h:(DN x).WF):U3 x:=⟨Lv h.1,Lv h.2.1,Lv h.2.2.1⟩
variable{d:F5}
theorem bd(h:(KW d).WF):X4 d:=by
 have u:TV.tc [_,_,_,_,_,_,_,_,_,_,_,_,_,_,_]:=h;obtain⟨w,z,A,_,B,C,D,E,_,_,F,G,H,J,K,_⟩:=u;have f:IntKind.u64.min<=d.pr/\d.pr<=IntKind.u64.max:=B;rw[show IntKind.u64.min=0 by decide,show IntKind.u64.max=18446744073709551615 by decide]at f;exact⟨⟨⟨λx e=>Lv (Iz w x e),λx e=>V9 (Iz z x e)⟩,λx e=>V9 (Iz A x e)⟩,⟨f.1,U⟩,
  λx e=>Lv (Iz C x e),λx e=>V9 (Iz D x e),λx e=>V9 (Iz E x e),⟨⟨Lv F,Lv G⟩,Lv H,Lv J⟩,λx e=>Lv (Iz K x e)⟩
end Go.Sf.Sc
namespace Go.Sf.Sc
open Go Go.Sf
def Nu(x y:AG)(ns mn:Fp)(i j:Int):Bool:=
 (decide (AA ns i<0)||decide (AA ns i=j))&&decide (AA y.d5.d3 j=AA x.d5.d3 i)&&!hasB mn j&&decide (AA x.ej i=AA y.ej j)
def QF(x y:AG)(es mn me:Fp)(i j:Int):Bool:=
 (decide (AA es i<0)||decide (AA es i=j))&&decide (AA y.d5.d4 j=⟨(AA x.d5.d4 i).kg,AA mn (AA x.d5.d4 i).ke,AA mn (AA x.d5.d4 i).To⟩)&&!hasB me j
def HL(x y:AG)(es mn:Fp):Nat->Fp->Option Fp
 |0,me=>Y me|k+1,me=>fst (λj=>if QF x y es mn me me.length j=X then HL x y es mn k (me++[j])else W) 0 y.d5.d4.length
def Mj(x y:AG)(ns es:Fp):Nat->Fp->Option d6
 |0,mn=>(HL x y es mn x.d5.d4.length []).map (d6.mk mn)|k+1,mn=>fst (λj=>if Nu x y ns mn mn.length j=X then Mj x y ns es k (mn++[j])else W) 0 y.d5.d3.length
def Zc(x y:AG)(es mn r:Fp)(n:Int):Prop:=∀i:Int,0<=i->i<n->(0<=AA r i/\AA r i<y.d5.d4.length)/\QF x y es mn (r.take i.toNat) i (AA r i)=X
def Zd(x y:AG)(ns r:Fp)(n:Int):Prop:=∀i:Int,0<=i->i<n->(0<=AA r i/\AA r i<y.d5.d3.length)/\Nu x y ns (r.take i.toNat) i (AA r i)=X
theorem pk(l:Fp)(j:Int):AA (l++[j]) l.length=j:=by simp[AA]
variable{l:Fp}{j i:Int}
theorem Xp{P:Fp->Int->Int->Prop}(h:∀i:Int,0<=i->i<l.length->P (l.take i.toNat) i (AA l i))(e:P l l.length j)(f:0<=i)(i1:i<(l++[j]).length):P ((l++[j]).take i.toNat) i (AA (l++[j]) i):=by grind[Ll,pk,C_]
variable{x y:AG}
theorem Wq{es mn:Fp}:∀(k:Nat)(me r:Fp),me.length+k=x.d5.d4.length->Zc x y es mn me me.length->HL x y es mn k me=Y r->r.length=x.d5.d4.length/\Zc x y es mn r x.d5.d4.length
 |0,me,r,B,ho,h=>by
  cases h
  grind
 |k+1,me,r,B,ho,h=>by
  obtain ⟨j,w,A,e,_⟩:=Cl h;split at e
  next f=>exact Wq k (me++[j]) r an (λi u i1=>Xp (P:=λp i z=>(0<=z/\z<y.d5.d4.length)/\QF x y es mn p i z=X) ho ⟨⟨w,A⟩,f⟩ u i1) e
  .cases e
theorem Z8{es mn r:Fp}(w:r.length=x.d5.d4.length)(ho:Zc x y es mn r x.d5.d4.length):∀(k i:Nat),i+k=x.d5.d4.length->HL x y es mn k (r.take i)≠W
 |0,_,_=>by simp[HL]|k+1,i,z=>λh=>by
  rw [HL,BH]at h;obtain⟨⟨a,b⟩,f⟩:=ho i U U;have e:=h _ a b;have u:((r.take i).length:Int)=i:=h?
  have tk:=CH (l:=r) (i:=(i:Int)) U U;rw[u]at e;rw[w_]at f tk;rw[ac f,<-tk]at e;exact Z8 w ho k (i+1) U e
theorem TX{ns es:Fp}:∀(k:Nat)(mn:Fp)(m:d6),mn.length+k=x.d5.d3.length->Zd x y ns mn mn.length->Mj x y ns es k mn=Y m ->
  m.d3.length=x.d5.d3.length/\Zd x y ns m.d3 x.d5.d3.length/\m.d4.length=x.d5.d4.length/\Zc x y es m.d3 m.d4 x.d5.d4.length/\m.d3.take mn.length=mn
 |0,mn,m,C,ho,h=>by
  have e:mn.length=x.d5.d3.length:=U
  rw [Mj]at h;cases u:HL x y es mn x.d5.d4.length []with
  |none=>rw[u]at h;cases h
  |some r=>
   rw [u]at h;cases h;obtain⟨a,b⟩:=Wq _ _ _ V (λi w i1=>i_) u
   grind
 |k+1,mn,m,C,ho,h=>by
  obtain ⟨j,A,B,e,_⟩:=Cl h;split at e
  .rename_i f;obtain⟨a,b,c,d,g⟩:=TX k (mn++[j]) m an (λi w i1=>Xp (P:=λp i z=>(0<=z/\z<y.d5.d3.length)/\Nu x y ns p i z=X) ho ⟨⟨A,B⟩,f⟩ w i1) e;refine⟨a,b,c,d,?_⟩;have:=congrArg (List.take mn.length) g
   grind
  .cases e
variable{m:d6}
theorem ap{ns es:Fp}(nl:m.d3.length=x.d5.d3.length)(ho:Zd x y ns m.d3 x.d5.d3.length)(el:m.d4.length=x.d5.d4.length)(he:Zc x y es m.d3 m.d4 x.d5.d4.length):∀(k i:Nat),i+k=x.d5.d3.length->Mj x y ns es k (m.d3.take i)≠W
 |0,i,w=>by
  have:=Z8 el he x.d5.d4.length 0 U;rw[C! U,Mj];rw[List.take_zero]at this;cases h:HL x y es m.d3 x.d5.d4.length []with
  |none=>exact absurd h this|some r=>simp
 |k+1,i,w=>λh=>by
  rw [Mj,BH]at h;obtain⟨⟨a,b⟩,f⟩:=ho i U U;have e:=h _ a b;have u:((m.d3.take i).length:Int)=i:=h?
  have tk:=CH (l:=m.d3) (i:=(i:Int)) U U;rw[u]at e;rw[w_]at f tk;rw[ac f,<-tk]at e;exact ap nl ho el he k (i+1) U e
structure ZB(x y:AG)(m:d6):Prop where
 nl:m.d3.length=x.d5.d3.length
 el:m.d4.length=x.d5.d4.length
 nn:x.d5.d3.length=y.d5.d3.length
 ee:x.d5.d4.length=y.d5.d4.length
 nin:∀i:Int,0<=i->i<x.d5.d3.length->0<=AA m.d3 i/\AA m.d3 i<y.d5.d3.length
 ein:∀i:Int,0<=i->i<x.d5.d4.length->0<=AA m.d4 i/\AA m.d4 i<y.d5.d4.length
 nd:m.d3.Nodup
 ed:m.d4.Nodup
 node:∀i:Int,0<=i->i<x.d5.d3.length->AA y.d5.d3 (AA m.d3 i)=AA x.d5.d3 i/\AA x.ej i=AA y.ej (AA m.d3 i)
 edge:∀i:Int,0<=i->i<x.d5.d4.length->AA y.d5.d4 (AA m.d4 i)=⟨(AA x.d5.d4 i).kg,AA m.d3 (AA x.d5.d4 i).ke,AA m.d3 (AA x.d5.d4 i).To⟩
def cZ(ns l:Fp):Prop:=∀i:Int,0<=i->i<l.length->0<=AA ns i->AA l i=AA ns i
theorem XW{ns es:Fp}(nn:x.d5.d3.length=y.d5.d3.length)(ee:x.d5.d4.length=y.d5.d4.length):
  (m.d3.length=x.d5.d3.length/\Zd x y ns m.d3 x.d5.d3.length/\m.d4.length=x.d5.d4.length/\Zc x y es m.d3 m.d4 x.d5.d4.length)↔ZB x y m/\cZ ns m.d3/\cZ es m.d4:=by
 constructor
 .rintro⟨a,b,c,d⟩;refine⟨⟨a,c,nn,ee,λi e i1=>(b i e i1).1,λi e i1=>(d i e i1).1,M7.2 λi e i1=>?_,M7.2 λi e i1=>?_,λi e i1=>?_,λi e i1=>?_⟩,λi e i1 g=>?_,λi e i1 g=>?_⟩
  .have:=(b i e U).2;simp only[Nu,pq,E_]at this;exact this.1.2
  .have:=(d i e U).2;simp only[QF,pq,E_]at this;exact this.2
  .have:=(b i e i1).2;simp only[Nu,pq,tn]at this;exact⟨this.1.1.2,this.2⟩
  .have:=(d i e i1).2;simp only[QF,pq,tn]at this;exact this.1.2
  .have:=(b i e U).2;simp only[Nu,pq,E!,tn]at this;omega
  .have:=(d i e U).2;simp only[QF,pq,E!,tn]at this;omega
 .rintro⟨h,f,u⟩;have l1:=h.nl;have l2:=h.el;refine⟨l1,λi e i1=>⟨h.nin i e i1,?_⟩,l2,λi e i1=>⟨h.ein i e i1,?_⟩⟩
  .have k:=f i e U;simp only[Nu,pq,E!,tn,E_];exact⟨⟨⟨U,(h.node i e i1).1⟩,M7.1 h.nd i e U⟩,(h.node i e i1).2⟩
  .have k:=u i e U;simp only[QF,pq,E!,tn,E_];exact⟨⟨U,h.edge i e i1⟩,M7.1 h.ed i e U⟩
def PX(x y:AG)(ns es:Fp):Nat->Fp->Option d6
 |0,mn=>(HL x y es mn x.d5.d4.length []).map (d6.mk mn)|k+1,mn=>fst (λj=>if(Nu x y ns mn mn.length j&&Tp x y (mn++[j]) mn.length)=X then PX x y ns es k (mn++[j])else W) 0 y.d5.d3.length
def Rh(x:AG):Prop:=∀e∈x.d5.d4,(0<=e.ke/\e.ke<x.d5.d3.length)/\0<=e.To/\e.To<x.d5.d3.length
theorem nP(h:ZB x y m)(ends:Rh x)(e:0<=i)(i1:i<x.d5.d3.length):Tp x y m.d3 i=X:=by
 have l1:=h.nl;have l2:=h.el;have u:=h.ee;have ein:∀k∈m.d4,0<=k/\k<y.d5.d4.length:=λk w=>by
  obtain ⟨i,e,i1,rfl⟩:=BT w;exact h.ein i e U
 unfold Tp;rw[E_,By];intro j f z;unfold jH;rw[<-Z2 l1 h.nd l2 u h.ed ein ends h.edge f U e i1,<-Z2 l1 h.nd l2 u h.ed ein ends h.edge e i1 f U];simp
variable{n:Nat}
theorem uW(e:0<=i)(h:i<n):Tp x y (l.take n) i=Tp x y l i:=by
 unfold Tp;congr 1;refine T7 λj f u=>?_;unfold jH;rw[Go.Sf.x8 U,Go.Sf.x8 U]
theorem Wx{ns es:Fp}(nn:x.d5.d3.length=y.d5.d3.length)(ee:x.d5.d4.length=y.d5.d4.length)(ends:Rh x):∀(k:Nat)(mn:Fp),mn.length+k=x.d5.d3.length->Zd x y ns mn mn.length->PX x y ns es k mn=Mj x y ns es k mn
 |0,_,_,_=>rfl|k+1,mn,C,ho=>by
  rw [PX,Mj];refine aQ λj w A _=>?_;by_cases f:Nu x y ns mn mn.length j=X
  case neg=>rw[ae u?,ae f]
  have u:Zd x y ns (mn++[j]) (mn++[j]).length:=λi B i1=>Xp (P:=λp i z=>(0<=z/\z<y.d5.d3.length)/\Nu x y ns p i z=X) ho ⟨⟨w,A⟩,f⟩ B i1;rw[ac f,f,E?];by_cases g:Tp x y (mn++[j]) mn.length=X
  .rw[ac g,Wx nn ee ends k _ an u]
  rw [ae g];cases h:Mj x y ns es k (mn++[j])with
  |none=>rfl|some m=>
   obtain ⟨a,b,c,d,e⟩:=TX k _ m an u h
   grind [XW,uW,nP]
end Go.Sf.Sc
namespace Go.Sf.Sc
open Go Go.Sf
def TR:List (Int×Int)->Fp->Option Fp
 |[],o=>Y o|p::r,o=>if decide (p.1<0)≠decide (p.2<0)then W else if p.1<0 then TR r o else if 0<=AA o p.1/\AA o p.1≠p.2 then W else TR r (BE o p.1 p.2)
def dL(f:Int->Int)(ps:List (Int×Int)):Prop:=∀p∈ps,0<=p.1->f p.1=p.2
def Zx(f:Int->Int)(o:Fp):Prop:=∀k:Int,0<=k->k<o.length->0<=AA o k->f k=AA o k
theorem mT{f:Int->Int}{o:Fp}{p:Int×Int}(h0:0<=p.1)(e:p.1<o.length)(u:0<=p.2)(h:¬(0<=AA o p.1/\AA o p.1≠p.2)):Zx f (BE o p.1 p.2)↔f p.1=p.2/\Zx f o:=by grind[Zx,DP,QA,Td]
theorem SN:∀{e:List (Int×Int)}{o r:Fp},(∀p∈e,p.1<o.length)->TR e o=Y r->r.length=o.length/\(∀p∈e,(p.1<0↔p.2<0))/\∀f:Int->Int,(dL f e/\Zx f o↔Zx f r)
 |[],o,r,_,h=>by
  cases h;exact⟨rfl,λp w=>by simp at w,λf=>⟨λk=>k.2,λk=>⟨λp w=>by simp at w,k⟩⟩⟩
 |p::e,o,r,hi,h=>by
  rw [TR]at h;split at h
  .cases h
  rename_i A;have D:p.1<0↔p.2<0:=m_
  have u:∀q∈e,q.1<o.length:=λq z=>hi q (A? _ z);have E:∀f,dL f (p::e)↔(0<=p.1->f p.1=p.2)/\dL f e:=λf=>by simp[dL]
  split at h
  .rename_i B;obtain⟨a,b,c⟩:=SN u h
   grind
  .rename_i B;split at h
   .cases h
   rename_i C;have w:=hi p (.head _);obtain⟨a,b,c⟩:=SN (by rw[DP];exact u) h
   grind [DP,mT]
theorem XQ:∀{e:List (Int×Int)}{o:Fp}{f:Int->Int},(∀p∈e,p.1<o.length)->(∀p∈e,(p.1<0↔p.2<0))->dL f e->Zx f o->TR e o≠W
 |[],_,_,_,_,_,_=>by simp[TR]|p::e,o,f,hi,G,ha,B=>by
  have C:=hi p (.head _);have s:=G p (.head _);have w:∀q∈e,q.1<o.length:=λq u=>hi q (A? _ u);have z:∀q∈e,(q.1<0↔q.2<0):=λq u=>G q (A? _ u);have A:dL f e:=λq u=>ha q (A? _ u);rw[TR,ae (by simp[s])];by_cases D:p.1<0
  .rw[ac D];exact XQ w z A B
  .have E:f p.1=p.2:=ha p (.head _) U;have F:¬(0<=AA o p.1/\AA o p.1≠p.2):=λ⟨a,b⟩=>b (by rw[<-B p.1 U C a];exact E);rw[ae D,ae F];exact XQ (by rw[DP];exact w) z A ((mT U C U F).2 ⟨E,B⟩)
def Rv(f t l:Fp):Prop:=∀i:Int,0<=i->i<f.length->(AA f i<0↔AA t i<0)/\(0<=AA f i->AA l (AA f i)=AA t i)
def TS(n:Nat)(f t:Fp):Option Fp:=TR (f.zip t) (C? n (-1))
theorem R9{f t:Fp}(u:f.length=t.length){p:Int×Int}:p∈f.zip t↔∃i:Int,0<=i/\i<f.length/\p=(AA f i,AA t i):=by
 have e:∀i:Int,0<=i->i<f.length->AA (f.zip t) i=(AA f i,AA t i):=λi w i1=>by
  grind [w!,AA,w_,x_]
 grind [BT,AF]
theorem Um{f t l:Fp}(w:f.length=t.length):Rv f t l↔(∀p∈f.zip t,(p.1<0↔p.2<0))/\dL (AA l) (f.zip t):=by
 constructor
 .intro h;refine⟨λp e=>?_,λp e g=>?_⟩<;>obtain⟨i,u,i1,rfl⟩:=(R9 w).1 e
  .exact(h i u i1).1
  .exact(h i u i1).2 g
 .intro h i u i1;have e:=(R9 w).2 ⟨i,u,i1,rfl⟩;exact⟨h.1 _ e,h.2 _ e⟩
variable{n:Nat}{k v:Int}
theorem tj(e:0<=k)(f:k<n):AA (C? n v) k=v:=by grind[AF]
theorem mS(f:Int->Int)(n:Nat):Zx f (C? n (-1)):=λk e u g=>by
 grind [D_,tj]
theorem UJ{f t r l:Fp}(e:f.length=t.length)(hi:∀x∈f,x<n)(z:l.length=n)(h:TS n f t=Y r):cZ r l↔Rv f t l:=by
 obtain ⟨a,b,c⟩:=SN (λp u=>by obtain⟨i,w,i1,rfl⟩:=(R9 e).1 u;have:=hi _ (AF w i1);simpa using this) h
 grind [D_,Um,AA,cZ,Zx,mS]
theorem nA{f t l:Fp}(e:f.length=t.length)(hi:∀x∈f,x<n)(h:TS n f t=W):¬Rv f t l:=λk=>
 XQ (λp u=>by obtain⟨i,w,i1,rfl⟩:=(R9 e).1 u;have:=hi _ (AF w i1);simpa using this) ((Um e).1 k).1 ((Um e).1 k).2 (mS _ _) h
def Hv(x y:AG)(f t:d6):Option d6:=
 if x.d5.d3.length=y.d5.d3.length/\x.d5.d4.length=y.d5.d4.length then
  match TS x.d5.d3.length f.d3 t.d3,TS x.d5.d4.length f.d4 t.d4 with
  |some ns,Y es=>Mj x y ns es x.d5.d3.length []|_,_=>W
 else W
structure Wj(x:AG)(f t:d6):Prop where
 nl:f.d3.length=t.d3.length
 el:f.d4.length=t.d4.length
 nin:∀k∈f.d3,k<x.d5.d3.length
 ein:∀k∈f.d4,k<x.d5.d4.length
variable{x y:AG}
theorem ki{f t m:d6}(hi:Wj x f t)(h:Hv x y f t=Y m):ZB x y m/\Rv f.d3 t.d3 m.d3/\Rv f.d4 t.d4 m.d4:=by
 unfold Hv at h;split at h
 case isFalse=>cases h
 rename_i e;split at h
 case h_2=>cases h
 rename_i ns es u w;obtain⟨a,b,c,d,_⟩:=TX _ _ _ V (λi C i1=>i_) h;obtain⟨z,A,B⟩:=(XW e.1 e.2).1 ⟨a,b,c,d⟩;exact⟨z,(UJ hi.nl hi.nin a u).1 A,(UJ hi.el hi.ein c w).1 B⟩
theorem qH{f t m:d6}(hi:Wj x f t)(h:ZB x y m)(e:Rv f.d3 t.d3 m.d3)(u:Rv f.d4 t.d4 m.d4):Hv x y f t≠W:=by
 unfold Hv;rw[ac ⟨h.nn,h.ee⟩];cases w:TS x.d5.d3.length f.d3 t.d3 with
 |none=>exact absurd e (nA hi.nl hi.nin w)|some ns=>
 cases z:TS x.d5.d4.length f.d4 t.d4 with
 |none=>exact absurd u (nA hi.el hi.ein z)|some es=>
 obtain ⟨a,b,c,d⟩:=(XW h.nn h.ee).2 ⟨h,(UJ hi.nl hi.nin h.nl w).2 e,(UJ hi.el hi.ein h.el z).2 u⟩;exact ap a b c d x.d5.d3.length 0 U
def PO(l:Fp):Fp:=(A0 l.length).map λj=>(fst (λi=>if AA l i=j then Y i else W) 0 l.length).getD 0
theorem WM(l:Fp):(PO l).length=l.length:=by unfold PO;rw[c9,A5]
variable{l:Fp}{j:Int}
theorem SR(nd:l.Nodup)(e:∀i:Int,0<=i->i<l.length->0<=AA l i/\AA l i<l.length)(f:0<=j)(u:j<l.length):(0<=AA (PO l) j/\AA (PO l) j<l.length)/\AA l (AA (PO l) j)=j:=by
 have A:j∈l:=mU nd rfl (λx w=>by obtain⟨i,z,i1,rfl⟩:=BT w;exact e i z i1) f u;unfold PO;rw[Gg f (by rw[A5];exact u),NA _ f u];cases h:fst (λi=>if AA l i=j then Y i else W) 0 (l.length:Int)with
 |none=>
  grind [BT,BH]
 |some v=>
  grind [Cl]
variable{i:Int}
theorem xM(nd:l.Nodup)(f:0<=i)(i1:i<l.length)(A:0<=j)(u:j<l.length)(e:AA l i=AA l j):i=j:=by
 have z:∀{i j:Int},0<=i->i<j->j<l.length->AA l i=AA l j->False:=λ{i j}f w u e=>by
  have:=M7.1 nd j U u;rw[<-E',B6]at this;refine this ?_;rw[<-e,<-Sc.x8 f w]
  grind [AF,bk]
 grind
theorem ZT(nd:l.Nodup)(e:∀i:Int,0<=i->i<l.length->0<=AA l i/\AA l i<l.length)(f:0<=i)(i1:i<l.length):AA (PO l) (AA l i)=i:=by
 obtain ⟨a,b⟩:=e i f i1;obtain⟨c,d⟩:=SR nd e a b
 grind [xM]
theorem nK(nd:l.Nodup)(f:∀i:Int,0<=i->i<l.length->0<=AA l i/\AA l i<l.length):(PO l).Nodup:=by
 refine M7.2 λi u i1=>?_;rw[<-E',B6];intro w;rw[WM]at i1;obtain⟨j,z,A,e⟩:=BT w;rw[bk,WM]at A;rw[Sc.x8 z U]at e;have B:=(SR nd f u i1).2
 grind [SR]
def ACP(m:d6):d6:=⟨PO m.d3,PO m.d4⟩
variable{m:d6}
theorem uO(h:ZB x y m)(ends:Rh x):ZB y x (ACP m):=by
 have l1:=h.nl;have l2:=h.el;have w:=h.nn;have z:=h.ee;have f:∀i:Int,0<=i->i<m.d3.length->0<=AA m.d3 i/\AA m.d3 i<m.d3.length:=λi e i1=>by have:=h.nin i e U;omega
 have u:∀i:Int,0<=i->i<m.d4.length->0<=AA m.d4 i/\AA m.d4 i<m.d4.length:=λi e i1=>by have:=h.ein i e U;omega
 refine ⟨by rw[<-w,<-l1];exact WM _,by rw[<-z,<-l2];exact WM _,w.symm,z.symm,λi e i1=>?_,λi e i1=>?_,nK h.nd f,nK h.ed u,λi e i1=>?_,λi e i1=>?_⟩
 .have:=(SR h.nd f e U).1;rw[<-l1];exact this
 .have:=(SR h.ed u e U).1;rw[<-l2];exact this
 .obtain⟨a,b⟩:=SR h.nd f e U;obtain⟨c,d⟩:=h.node _ a.1 U;rw[b]at c d;exact⟨c.symm,d.symm⟩
 .obtain⟨a,b⟩:=SR h.ed u e U;have c:=h.edge _ a.1 U;obtain⟨⟨A,C⟩,B,D⟩:=ends _ (AF (l:=x.d5.d4) a.1 U);show AA x.d5.d4 (AA (PO m.d4) i)=⟨_,AA (PO m.d3) _,AA (PO m.d3) _⟩;rw[b]at c;rw[c];dsimp only;rw[ZT h.nd f A U,ZT h.nd f B U]
theorem gE{f t l:Fp}(w:f.length=t.length)(nd:l.Nodup)(e:∀i:Int,0<=i->i<l.length->0<=AA l i/\AA l i<l.length)(hf:∀x∈f,x<l.length)(h:Rv f t l):Rv t f (PO l):=λi u i1=>by
 obtain ⟨a,b⟩:=h i u U
 grind [AF,ZT]
theorem m9{f t:d6}(hi:Wj x f t)(B:Wj y t f)(C:Rh x)(G:Rh y):(Hv x y f t).isSome=(Hv y x t f).isSome:=by
 have D:∀{x y:AG}{f t:d6},Wj x f t->Wj y t f->Rh x->(Hv x y f t).isSome=X->(Hv y x t f).isSome=X:=λ{x y f t}hi B C h=>by
  obtain ⟨m,e⟩:=Option.isSome_iff_exists.1 h;obtain⟨u,E,F⟩:=ki hi e;have l1:=u.nl;have l2:=u.el;have H:=u.nn;have J:=u.ee;refine Option.isSome_iff_ne_none.2 (qH B (uO u C) (gE hi.nl u.nd (λi w i1=>?_) (λz A=>?_) E) (gE hi.el u.ed (λi w i1=>?_) (λz A=>?_) F))
  .have:=u.nin i w U;omega
  .have:=hi.nin z A;omega
  .have:=u.ein i w U;omega
  .have:=hi.ein z A;omega
 rw [Bool.eq_iff_iff]
 grind
end Go.Sf.Sc
namespace Go.Sf
def Gc{α σ:Type}(g:α->σ->Option σ):List α->σ->Option σ
 |[],s=>Y s|x::l,s=>(g x s).bind (Gc g l)
variable{α σ:Type}
theorem aK{g:α->σ->Option σ}:∀{a b:List α}{s:σ},Gc g (a++b) s=(Gc g a s).bind (Gc g b)
 |[],_,_=>rfl|x::a,b,s=>by
  rw [List.cons_append,Gc,Gc];cases g x s with
  |none=>rfl|some v=>exact aK (a:=a)
variable{I:σ->Prop}
theorem VX{g:α->σ->Option σ}:∀{l:List α}{s r:σ},(∀x∈l,∀s s',I s->g x s=Y s'->I s')->I s->Gc g l s=Y r->I r
 |[],s,r,_,h,e=>by cases e;exact h
 |x::l,s,r,u,h,e=>by
  rw [Gc]at e;cases f:g x s with
  |none=>rw[f]at e;cases e
  |some v=>
   rw [f]at e;exact VX (λy w=>u y (A? _ w)) (u x (.head _) s v h f) e
def dj{σ ρ:Type}(e:ρ):Option σ->B0 σ ρ
 |some s=>.next s|none=>.ret e
def gT{σ ρ:Type}(e:ρ):Option σ->σ ⊕ ρ
 |some s=>.inl s|none=>.inr e
variable{σ' ρ:Type}
theorem Ws[Inhabited α]{f:Int->σ->Option (B0 σ ρ)}{l:List α}(enc:σ'->σ)(g:α->σ'->Option σ')(e:ρ)(I:Int->σ'->Prop)(h:∀(i:Int)s,0<=i->i<l.length->I i s->f i (enc s)=Y (dj e ((g (AA l i) s).map enc))/\∀s',g (AA l i) s=Y s'->I (i+1) s'):
  ∀(n:Nat)(a:Int)(s:σ'),0<=a->a+n=l.length->I a s->z1 f n a (enc s)=Y (gT e ((Gc g (l.drop a.toNat) s).map enc))
 |0,a,s,a0,A,_=>by
  rw [List.drop_eq_nil_of_le U];rfl
 |n+1,a,s,a0,A,B=>by
  obtain ⟨w,z⟩:=h a s a0 U B;have hd:l.drop a.toNat=AA l a::l.drop (a+1).toNat:=by
   rw [List.drop_eq_getElem_cons U,show(a+1).toNat=a.toNat+1 by omega];congr 1;unfold AA;rw[B!,x_ U];rfl
  rw [GF,w,hd,Gc];cases u:g (AA l a) s with
  |none=>rfl|some v=>exact Ws enc g e I h n (a+1) v U U (z v u)
theorem UK[Inhabited α]{f:Int->σ->Option (B0 σ ρ)}{l:List α}(enc:σ'->σ)(g:α->σ'->Option σ')(e:ρ)(I:Int->σ'->Prop){s:σ'}{w:σ}(u:w=enc s){n:Int}(z:n=l.length)(h0:I 0 s)(h:∀(i:Int)s,0<=i->i<l.length->I i s->f i (enc s)=Y (dj e ((g (AA l i) s).map enc))/\∀s',g (AA l i) s=Y s'->I (i+1) s'):jj f 0 n w=Y (gT e ((Gc g l s).map enc)):=by
 subst u z;have:=Ws enc g e I h l.length 0 s U U h0;unfold jj;simpa using this
theorem km[Inhabited α]{f:Int->σ->Option (B0 σ ρ)}{l:List α}(g:α->σ->Option σ)(e:ρ)(I:σ->Prop){s:σ}(h0:I s)(h:∀(i:Int)s,0<=i->i<l.length->I s->f i s=Y (dj e (g (AA l i) s))/\∀s',g (AA l i) s=Y s'->I s'):jj f 0 l.length s=Y (gT e (Gc g l s)):=by
 have:=UK (n:=l.length) (λs=>s) g e (λ_=>I) rfl rfl h0 (λi s u i1 w=>by simpa using h i s u i1 w);simpa using this
end Go.Sf
namespace Go.Sf.Sc
open Go Go.Sf
theorem gm{l a b:Fp}(h:∀x∈l,x<a.length):EF (EF l a) b=EF l (EF a b):=by grind[EF,List.map_map,D',Gg]
theorem mC{l a b:d6}(e:∀x∈l.d3,x<a.d3.length)(f:∀x∈l.d4,x<a.d4.length):KM (KM l a) b=KM l (KM a b):=by grind[KM,gm]
structure CU where
 moves:List F7
 host:AG
 image:d6
instance:Inhabited CU:=⟨⟨[],⟨⟨[],[]⟩,[]⟩,⟨[],[]⟩⟩⟩
noncomputable def Pt(t:AC)(rules:List ff)(p:CU)(mv:F7):AU:=(EW t (AA rules mv.ff) p.host mv.og).1
noncomputable def Rp(t:AC)(rules:List ff)(p:CU)(mv:F7):CU:=⟨p.moves++[mv],(Pt t rules p mv).hV,KM p.image (Pt t rules p mv).p0⟩
def WQ(p q:CU):Bool:=(Hv p.host q.host p.image q.image).isSome
noncomputable def SE(t:AC)(rules:List ff)(p:CU)(mv:F7)(l:List CU):Option (List CU):=
 if 8<(Pt t rules p mv).hV.d5.d3.length then W
 else if l.any (λq=>WQ q (Rp t rules p mv))=X then Y l
 else if l.length=300 then W else Y (l++[Rp t rules p mv])
noncomputable def Mx(t:AC)(rules:List ff)(h:AG)(i:Int):List F7:=(Hi t (AA rules i) h).1.map (F7.mk i)
noncomputable def ws(t:AC)(rules:List ff)(h:AG):Bool:=(A0 rules.length).all λi=>decide ((Hi t (AA rules i) h).2=0)
noncomputable def Qf(t:AC)(rules:List ff)(p:CU)(l:List CU):Option (List CU):=
 if ws t rules p.host=X then Gc (SE t rules p) ((A0 rules.length).flatMap (Mx t rules p.host)) l else W
variable{p:CU}
theorem YS{t:AC}{rules:List ff}:∀{is:Fp}{l:List CU},
  Gc (λi l=>if(Hi t (AA rules i) p.host).2=0 then Gc (SE t rules p) (Mx t rules p.host i) l else W) is l=if is.all (λi=>decide ((Hi t (AA rules i) p.host).2=0))=X then Gc (SE t rules p) (is.flatMap (Mx t rules p.host)) l else W
 |[],l=>rfl|i::is,l=>by
  rw [Gc,List.all_cons,List.flatMap_cons,aK];by_cases e:(Hi t (AA rules i) p.host).2=0
  .rw[ac e,decide_eq_true e,E?];cases h:Gc (SE t rules p) (Mx t rules p.host i) l with
   |none=>
    rw [Option.bind_none,Option.bind_none];split<;>rfl
   |some v=>exact YS
  grind
noncomputable def Ns(t:AC)(rules:List ff)(depth:Int):Nat->Int->List CU->Option (List CU)
 |0,_,l=>Y l|k+1,i,l=>if i<l.length then(if((AA l i).moves.length:Int)=depth then Ns t rules depth k (i+1) l else(Qf t rules (AA l i) l).bind (Ns t rules depth k (i+1)))else Y l
noncomputable def dB(t:AC)(rules:List ff)(depth:Int)(p:CU):Option (List CU):=Ns t rules depth 301 0 [p]
structure Kz(t:AC)(rules:List ff)(h0:AG)(m0:d6)(p:CU):Prop where
 rep:Sl t rules ⟨h0,p.moves⟩
 host:p.host=(Jp t rules h0 p.moves).2
 image:p.image=KM m0 (RJ (Ny h0.d5) (Jp t rules h0 p.moves).1)
 few:p.moves.length<=5
theorem qG(m:d6)(l:List AU)(s:AU):RJ m (l++[s])=KM (RJ m l) s.p0:=by
 unfold RJ
 grind
theorem YP{t:AC}(hf:A3 t){rules:List ff}(hr:GZ rules){h0:AG}{m0:d6}(f:Kn m0 h0.d5)(g:Kz t rules h0 m0 p):
  ET p.host/\Kn (RJ (Ny h0.d5) (Jp t rules h0 p.moves).1) p.host.d5/\Kn p.image p.host.d5/\(Dq t p.host).2=0/\p.image.d3.length=m0.d3.length/\p.image.d4.length=m0.d4.length:=by
 obtain ⟨z,e⟩:=bL hf hr g.rep p.moves.length (az _);have w:=m7 hf hr g.rep p.moves.length (az _);rw[C_]at z e w;have A:=XO (Jp t rules h0 p.moves).1 (Ny h0.d5);have l1:(RJ (Ny h0.d5) (Jp t rules h0 p.moves).1).d3.length=h0.d5.d3.length:=by rw[A.1];exact A5 _
 have l2:(RJ (Ny h0.d5) (Jp t rules h0 p.moves).1).d4.length=h0.d5.d4.length:=by rw[A.2];exact A5 _
 rw [<-g.host]at z e w;refine⟨z,e,?_,w,by rw[g.image];exact IG _ _,by rw[g.image];exact IG _ _⟩;rw[g.image];refine⟨by show(EF _ _).length<=1000;rw[IG];exact f.Aal,by show(EF _ _).length<=1000;rw[IG];exact f.Aap,?_,?_⟩
 .exact P8 (λy u=>by rw[l1];exact f.node y u) e.node
 .exact P8 (λy u=>by rw[l2];exact f.edge y u) e.edge
variable{mv:F7}
theorem aW{t:AC}(hf:A3 t){rules:List ff}(hr:GZ rules){h0:AG}{m0:d6}(w:Kn m0 h0.d5)(g:Kz t rules h0 m0 p)(e:(GG t rules p.host mv).2=0)(C:p.moves.length<5):Kz t rules h0 m0 (Rp t rules p mv)/\ME p.host (Pt t rules p mv)/\GG t rules p.host mv=(Pt t rules p mv,0)/\(Pt t rules p mv).og=mv.og:=by
 obtain ⟨a,s,B⟩:=WT hf hr e;have ha:Pt t rules p mv=TG t (AA rules mv.ff) p.host mv.og:=by
  grind [GG,EW,AA,Pt]
 have z:GG t rules p.host mv=(Pt t rules p mv,0):=by rw[ha];exact B
 have tk:ME p.host (Pt t rules p mv):=by rw[ha];exact s.trk
 have A:(Jp t rules h0 (p.moves++[mv]))=((Jp t rules h0 p.moves).1++[Pt t rules p mv],(Pt t rules p mv).hV):=by
  rw [Se,<-g.host,z]
 have f:=XO (Jp t rules h0 p.moves).1 (Ny h0.d5);refine⟨⟨ti g.rep (by show p.moves.length<30;omega) (by show(GG t rules (Jp t rules h0 p.moves).2 mv).2=0;rw[<-g.host];exact e),?_,?_,by show(p.moves++[mv]).length<=5;simp;omega⟩,tk,z,by rw[ha];rfl⟩
 .show(Pt t rules p mv).hV=(Jp t rules h0 (p.moves++[mv])).2;rw[A]
 .show KM p.image (Pt t rules p mv).p0=KM m0 (RJ _ (Jp t rules h0 (p.moves++[mv])).1);rw[A,g.image,qG,mC]
  .intro x u;rw[f.1];show x<(A0 _).length;rw[A5];exact(w.node x u).2
  .intro x u;rw[f.2];show x<(A0 _).length;rw[A5];exact(w.edge x u).2
end Go.Sf.Sc
namespace Go.Sf.Sc
open Go Go.Sf
structure I1(t:AC)(rules:List ff)(h0:AG)(m0:d6)(depth i:Int)(l:List CU):Prop where
 good:∀p∈l,Kz t rules h0 m0 p/\(p.moves.length:Int)<=depth
 few:l.length<=300
 mono:∀a b:Int,0<=a->a<=b->b<l.length->(AA l a).moves.length<=(AA l b).moves.length
 next:i<l.length->∀q∈l,q.moves.length<=(AA l i).moves.length+1
section
variable{t:AC}{rules:List ff}{h0:AG}{m0:d6}{depth:Int}
variable{mv:F7}{i:Int}
theorem Up{h:AG}(f:0<=i)(i1:i<rules.length)(e:mv∈Mx t rules h i):(GG t rules h mv).2=0:=by
 obtain ⟨x,u,rfl⟩:=y!.1 e
 grind [GG,mc]
theorem mV{h:AG}(e:mv∈(A0 rules.length).flatMap (Mx t rules h)):(GG t rules h mv).2=0:=by grind[C6,Up]
def TK(t:AC)(rules:List ff)(h0:AG)(m0:d6)(p:CU)(l s:List CU):Prop:=∃ext,s=l++ext/\s.length<=300/\∀q∈ext,Kz t rules h0 m0 q/\q.moves.length=p.moves.length+1
variable{p:CU}
theorem ZE(hf:A3 t)(hr:GZ rules)(B:Kn m0 h0.d5)(g:Kz t rules h0 m0 p)(C:p.moves.length<5)(e:(GG t rules p.host mv).2=0){l s s':List CU}(h:TK t rules h0 m0 p l s)(f:SE t rules p mv s=Y s'):TK t rules h0 m0 p l s':=by
 obtain ⟨ext,rfl,z,A⟩:=h;unfold SE at f;split at f
 .cases f
 split at f
 .cases f;exact⟨ext,rfl,z,A⟩
 split at f
 .cases f
 .rename_i w;cases f;have D:=(aW hf hr B g e C).1;rw[b6]at z;simp only[b6]at w;refine⟨ext++[Rp t rules p mv],by rw[ci],an,λq u=>?_⟩;rcases y?.1 u with u|u
  .exact A q u
  .obtain rfl:=z_.1 u;exact⟨D,by show(p.moves++[mv]).length=_;simp⟩
theorem eK(hf:A3 t)(hr:GZ rules)(u:Kn m0 h0.d5)(g:Kz t rules h0 m0 p)(w:p.moves.length<5){l s:List CU}(z:l.length<=300)(h:Qf t rules p l=Y s):TK t rules h0 m0 p l s:=by
 unfold Qf at h;split at h
 .exact VX (I:=TK t rules h0 m0 p l) (λmv f s s' A e=>ZE hf hr u g w (mV f) A e) ⟨[],V,z,λq B=>by cases B⟩ h
 .cases h
theorem dZ(hf:A3 t)(hr:GZ rules)(C:Kn m0 h0.d5)(hd:depth<=4){l w:List CU}(h:I1 t rules h0 m0 depth i l)(z:0<=i)(i1:i<l.length)(D:((AA l i).moves.length:Int)≠depth)(e:Qf t rules (AA l i) l=Y w):I1 t rules h0 m0 depth (i+1) w:=by
 obtain ⟨G,O⟩:=h.good _ (AF z i1);obtain⟨ext,rfl,H,J⟩:=eK hf hr C G U h.few e;have A:∀q∈l++ext,q.moves.length<=(AA l i).moves.length+1:=λq f=>by
  rcases y?.1 f with f|f
  .exact h.next i1 q f
  grind
 have mono:∀a b:Int,0<=a->a<=b->b<(l++ext).length->(AA (l++ext) a).moves.length<=(AA (l++ext) b).moves.length:=λa b a0 E F=>by
  by_cases B:b<l.length
  .rw[Lz a0 U,Lz U B];exact h.mono a b a0 E B
  .have:AA (l++ext) b∈ext:=by
    obtain ⟨n,rfl⟩:=w! (show 0<=b by omega);rw[b6]at F;have K:=X8 (l:=l) (m:=ext) (n:=n-l.length)
    grind [AF]
   rw [(J _ this).2];exact A _ (AF a0 U)
 refine ⟨λp u=>?_,H,mono,λk q f=>?_⟩
 .rcases y?.1 u with u|u
  .exact h.good p u
  grind
 .have M:=A q f;have N:=mono i (i+1) z U k
  grind [Lz]
theorem XF{l:List CU}(h:I1 t rules h0 m0 depth i l)(e:0<=i)(i1:i<l.length):I1 t rules h0 m0 depth (i+1) l:=⟨h.good,h.few,h.mono,λk q f=>by
 have u:=h.next i1 q f
 have w:=h.mono i (i+1) e U k;omega⟩
theorem ZG:∀(k:Nat)(i:Int)(l:List CU),0<=i->I1 t rules h0 m0 depth i l->(i<l.length->((AA l i).moves.length:Int)=depth)->Ns t rules depth k i l=Y l
 |0,_,_,_,_,_=>rfl|k+1,i,l,e,h,he=>by
  rw [Ns];by_cases i1:i<l.length
  .rw[ac i1,ac (he i1)];refine ZG k (i+1) l U (XF h e i1) λi2=>?_;have f:=he i1;have u:=h.mono i (i+1) e U i2;have w:=(h.good _ (AF (i:=i+1) U i2)).2;omega
  .rw[ae i1]
variable{β ρ:Type}
theorem gi(hf:A3 t)(hr:GZ rules)(A:Kn m0 h0.d5)(hd:depth<=4){f:List β×Int->Option (B0 (List β×Int) ρ)}(enc:List CU->List β)(e:ρ)
  (B:∀i l,0<=i->I1 t rules h0 m0 depth i l->i<l.length->((AA l i).moves.length:Int)≠depth->f (enc l,i)=Y (match Qf t rules (AA l i) l with|some G=>.next (enc G,i+1)|none=>.ret e))
  (C:∀i l,0<=i->I1 t rules h0 m0 depth i l->i<l.length->((AA l i).moves.length:Int)=depth->f (enc l,i)=Y (.brk (enc l,i))\/f (enc l,i)=Y (.next (enc l,i+1)))
  (z:∀i l,0<=i->I1 t rules h0 m0 depth i l->(l.length:Int)<=i->f (enc l,i)=Y (.brk (enc l,i))):
  ∀(k:Nat)(i:Int)(l:List CU),0<=i->I1 t rules h0 m0 depth i l->301<=i+k->∃o,MU f (enc l,i) o/\match Ns t rules depth k i l with|some r=>∃j,o=.inl (enc r,j)|none=>o=.inr e
 |0,i,l,w,h,H=>⟨_,.brk (z i l w h (by have:=h.few;omega)),_,rfl⟩|k+1,i,l,w,h,H=>by
  by_cases i1:i<l.length
  case neg=>
   rw [Ns,ae i1];exact⟨_,.brk (z i l w h U),_,rfl⟩
  by_cases ed:((AA l i).moves.length:Int)=depth
  .rcases C i l w h i1 ed with u|u
   .rw[ZG (k+1) i l w h λ_=>ed];exact⟨_,.brk u,_,rfl⟩
   .rw[Ns,ac i1,ac ed];obtain⟨o,E,F⟩:=gi hf hr A hd enc e B C z k (i+1) l U (XF h w i1) U;exact⟨o,.next u E,F⟩
  .have u:=B i l w h i1 ed;rw[Ns,ac i1,ae ed];cases D:Qf t rules (AA l i) l with
   |none=>
    rw [D]at u;exact⟨_,.ret u,rfl⟩
   |some G=>
    rw [D]at u;obtain⟨o,E,F⟩:=gi hf hr A hd enc e B C z k (i+1) G U (dZ hf hr A hd h w i1 ed D) U;exact⟨o,.next u E,F⟩
theorem QB(hf:A3 t)(hr:GZ rules)(f:Kn m0 h0.d5)(hd:depth<=4):∀(k:Nat)(i:Int)(l r:List CU),0<=i->I1 t rules h0 m0 depth i l->Ns t rules depth k i l=Y r->(∃j,I1 t rules h0 m0 depth j r)/\∃ext,r=l++ext
 |0,i,l,r,w,h,e=>by cases e;exact⟨⟨_,h⟩,[],V⟩
 |k+1,i,l,r,w,h,e=>by
  rw [Ns]at e;split at e
  case isFalse=>cases e;exact⟨⟨_,h⟩,[],V⟩
  rename_i i1;split at e
  .exact QB hf hr f hd k _ l r U (XF h w i1) e
  .rename_i ed;cases u:Qf t rules (AA l i) l with
   |none=>rw[u]at e;cases e
   |some B=>
    rw [u]at e;obtain⟨a,ext,rfl⟩:=QB hf hr f hd k _ B r U (dZ hf hr f hd h w i1 ed u) e;obtain⟨A,C⟩:=h.good _ (AF w i1);obtain⟨z,rfl,_⟩:=eK hf hr f A U h.few u
    grind
theorem LF(hf:A3 t)(hr:GZ rules)(w:G4 t rules h0=0)(u:Kn m0 h0.d5)(hd:0<=depth):I1 t rules h0 m0 depth 0 [⟨[],h0,m0⟩]:=by
 have f:KM m0 (Ny h0.d5)=m0:=by
  have e:∀{l:Fp}{n:Nat},(∀x∈l,-1<=x/\x<n)->EF l (A0 n)=l:=λ{l n}h=>by
   unfold EF
   conv=>rhs;rw[<-List.map_id l]
   grind [D',NA]
  unfold KM Ny;rw[e u.node,e u.edge]
 refine ⟨λp z=>?_,V,λa b a0 A B=>?_,λ_ q C=>?_⟩
 .obtain rfl:=z_.1 z;exact⟨⟨⟨w,V,λi D i1=>i_⟩,rfl,f.symm,V⟩,by simpa using hd⟩
 .grind
 grind
end
end Go.Sf.Sc
namespace Go.Sf.Sc
open Go Go.Sf
def Abv(m:d6):Bool:=hasB m.d3 (-1)||hasB m.d4 (-1)
def cf(strict:Bool)(p q:CU):Option d6:=
 if strict=X then(if(Abv p.image||Abv q.image)=X then W else Hv p.host q.host p.image q.image)else Hv p.host q.host ⟨[],[]⟩ ⟨[],[]⟩
def S8(strict:Bool)(L R:List CU)(s i k:Int):Option (CU×CU×d6):=
 if ((AA L i).moves.length:Int)+(AA R k).moves.length=s then(cf strict (AA L i) (AA R k)).map λm=>(AA L i,AA R k,m)else W
def mA(strict:Bool)(L R:List CU)(s:Int):Option (CU×CU×d6):=fst (λi=>fst (S8 strict L R s i) 0 R.length) 0 L.length
def Uh(strict:Bool)(L R:List CU)(depth:Int):Option (CU×CU×d6):=fst (mA strict L R) 0 (2*depth+1)
variable{L R:List CU}
theorem oB{strict:Bool}{s i k:Int}{r:CU×CU×d6}(h:S8 strict L R s i k=Y r):(r.1.moves.length:Int)+r.2.1.moves.length=s/\cf strict r.1 r.2.1=Y r.2.2/\r.1=AA L i/\r.2.1=AA R k:=by
 unfold S8 at h;split at h
 .rename_i e;cases f:cf strict (AA L i) (AA R k)with
  |none=>rw[f]at h;cases h
  |some m=>
   grind
 .cases h
theorem w7(x:AG):Wj x ⟨[],[]⟩ ⟨[],[]⟩:=⟨rfl,rfl,V,V⟩
end Go.Sf.Sc
namespace Go.Sf
end Go.Sf
namespace Go.Sf.Sc
open Go Go.Sf
theorem SO{b c:Bool}{o:K1}(h:b=X->o=Y c):(if b=X then o else Y T)=Y (b&&c):=m?
theorem QH{b c:Bool}{o:K1}(h:b=T->o=Y c):(if b=X then Y X else o)=Y (b||c):=m?
def SM(p:Int×Int)(o:Fp):Option Fp:=if decide (p.1<0)≠decide (p.2<0)then W else if p.1<0 then Y o else if 0<=AA o p.1/\AA o p.1≠p.2 then W else Y (BE o p.1 p.2)
theorem XP:∀{e:List (Int×Int)}{o:Fp},TR e o=Gc SM e o
 |[],o=>rfl|p::e,o=>by
  rw [TR,Gc];unfold SM;split
  .rfl
  split
  .exact XP
  split
  .rfl
  .exact XP
def lV(o:Option Fp):Fp×Bool:=match o with
 |some r=>(r,X)|none=>([],T)
theorem uG{o:Option Fp}:em (Y (gT (ρ:=Fp×Bool) ([],T) o)) (λe=>Y (e,X)) (λf=>Y f)=Y (lV o):=by cases o<;>rfl
variable{i:Int}
theorem vt{f t:Fp}(e:f.length=t.length)(u:0<=i)(i1:i<f.length):AA (f.zip t) i=(AA f i,AA t i):=by grind[w!,AA,w_,x_]
section
variable{a b:Int}{o:Fp}
theorem AAj(h:¬decide (a<0)=decide (b<0)):SM (a,b) o=W:=by unfold SM;rw[ac h]
theorem AAk(h:decide (a<0)=decide (b<0))(e:a<0):SM (a,b) o=Y o:=by grind[SM]
theorem AAl(h:decide (a<0)=decide (b<0))(e:¬a<0)(f:0<=AA o a/\AA o a≠b):SM (a,b) o=W:=by grind[SM]
theorem AAm(h:decide (a<0)=decide (b<0))(e:¬a<0)(f:¬(0<=AA o a/\AA o a≠b)):SM (a,b) o=Y (BE o a b):=by grind[SM]
end
variable{n:Nat}
theorem fK(C:n<=1000){f t:Fp}(A:f.length=t.length)(hi:∀x∈f,x<n):NR n f t=Y (lV (TS n f t)):=by
 unfold NR De TS;have B:(f.length:Int)=(f.zip t).length:=by simp[A]
 rw [ac ⟨rfl,U,U⟩,bs,XP,B,<-uG,km SM ([],T) (λo=>o.length=n) V]
 .simp
 intro i o w i1 ho;have i2:i<f.length:=U
 have D:=hi _ (AF w i2);rw[vt A w i2,AD w i2,bs,AD w U,bs];by_cases e:decide (AA f i<0)=decide (AA t i<0)
 case neg=>rw[AAj e,ac f_];exact⟨rfl,λs' h=>d_⟩
 rw [ae f_];by_cases u:AA f i<0
 .rw[AAk e u,ac i9];exact⟨rfl,λs' h=>by cases h;exact ho⟩
 rw [ae i9,AD U U];simp only[bs];rw[SO (λ_=>rfl),bs];by_cases z:0<=AA o (AA f i)/\AA o (AA f i)≠AA t i
 .rw[AAl e u z,ac l?];exact⟨rfl,λs' h=>d_⟩
 .rw[AAm e u z,ae l?];exact⟨rfl,λs' h=>by cases h;rw[DP];exact ho⟩
end Go.Sf.Sc
namespace Go.Sf.Sc
open Go Go.Sf
structure pV(x y:AG)(ns es:Fp):Prop where
 nl:ns.length=x.d5.d3.length
 el:es.length=x.d5.d4.length
 xn:x.d5.d3.length<=1000
 xe:x.d5.d4.length<=1000
 yn:y.d5.d3.length<=1000
 ye:y.d5.d4.length<=1000
 xv:x.ej.length=x.d5.d3.length
 yv:y.ej.length=y.d5.d3.length
 ends:Rh x
def gC(x y:AG)(ns es mn me:Fp)(o:Option Fp):Bool×Bc:=match o with
 |some r=>(X,⟨x,y,ns,es,⟨mn,r⟩⟩)|none=>(T,⟨x,y,ns,es,⟨mn,me⟩⟩)
variable{x y:AG}
theorem fJ{ns es mn:Fp}(h:pV x y ns es)(w:mn.length=x.d5.d3.length):∀(k:Nat)(me:Fp),me.length+k=x.d5.d4.length->∀n,k<n->CW n ⟨x,y,ns,es,⟨mn,me⟩⟩=Y (gC x y ns es mn me (HL x y es mn k me))
 |0,me,B,n,C=>by
  obtain ⟨n,rfl⟩:∃q,n=q+1:=⟨n-1,U⟩;rw[CW,ac an];rfl
 |k+1,me,B,n,C=>by
  obtain ⟨n,rfl⟩:∃q,n=q+1:=⟨n-1,U⟩;have D:=h.el;have E:=h.xe;have F:=h.ye;have u:=h.ends _ (AF (l:=x.d5.d4) (i:=(me.length:Int)) U U);rw[CW];dsimp only;rw[ae an,AD U U,bs,AD u.1.1 U,bs,AD u.2.1 U,bs,
   Gt (a:=0) (b:=(y.d5.d4.length:Int)) (λ_=>(⟨x,y,ns,es,⟨mn,me⟩⟩:Bc)) (λj=>(if QF x y es mn me me.length j=X then HL x y es mn k (me++[j])else W).map λr=>(X,(⟨x,y,ns,es,⟨mn,r⟩⟩:Bc))) U rfl,KX]
  .show _=Y (gC x y ns es mn me (fst (λj=>if QF x y es mn me me.length j=X then HL x y es mn k (me++[j])else W) 0 y.d5.d4.length));cases fst (λj=>if QF x y es mn me me.length j=X then HL x y es mn k (me++[j])else W) 0 (y.d5.d4.length:Int)<;>rfl
  .intro j z A _;dsimp only;rw[AD z A,bs,AD (l:=es) U U];simp only[bs];rw[SO (λ_=>rfl),bs,WJ];simp only[bs];rw[QH (λ_=>rfl),bs];by_cases f:QF x y es mn me me.length j=X
   .have e:=f;simp only[QF,pq,E!,tn,E_]at e;rw[ae (by simp[e.1.2,e.2];omega),ac f,AS a_,bs,fJ h w k (me++[j]) an n U,bs];cases HL x y es mn k (me++[j])with
    |some r=>rfl|none=>
     rw [ae (by simp[gC])];dsimp only[gC];rw[Iv U an,bs];simp[bS]
   .rw[ac,ae f]
    .rfl
    .refine F! λg=>f ?_;simp only[E!,pq,E_,tn,decide_eq_false_iff_not,not_or,not_and,F_]at g;simp only[QF,pq,E!,tn,E_]
     grind
def Zp(x y:AG)(ns es mn:Fp)(o:Option d6):Bool×Bc:=match o with
 |some r=>(X,⟨x,y,ns,es,r⟩)|none=>(T,⟨x,y,ns,es,⟨mn,[]⟩⟩)
theorem fO{x y:AG}{ns es:Fp}(h:pV x y ns es):∀(k:Nat)(mn:Fp),mn.length+k=x.d5.d3.length->∀n,k<n->CX n ⟨x,y,ns,es,⟨mn,[]⟩⟩=Y (Zp x y ns es mn (PX x y ns es k mn))
 |0,mn,D,n,z=>by
  obtain ⟨n,rfl⟩:∃q,n=q+1:=⟨n-1,U⟩;rw[CX,ac an];have e:KG ⟨x,y,ns,es,⟨mn,[]⟩⟩=Y (gC x y ns es mn [] (HL x y es mn x.d5.d4.length [])):=D0 (x.d5.d4.length+1) λn z=>fJ h U _ _ V n U;rw[e,bs];show _=Y (Zp x y ns es mn ((HL x y es mn x.d5.d4.length []).map (d6.mk mn)));cases HL x y es mn x.d5.d4.length []<;>rfl
 |k+1,mn,D,n,z=>by
  obtain ⟨n,rfl⟩:∃q,n=q+1:=⟨n-1,U⟩;have E:=h.nl;have F:=h.xn;have G:=h.yn;have H:=h.xv;have J:=h.yv;rw[CX];dsimp only;rw[ae an,
   Gt (a:=0) (b:=(y.d5.d3.length:Int)) (λ_=>(⟨x,y,ns,es,⟨mn,[]⟩⟩:Bc)) (λj=>(if(Nu x y ns mn mn.length j&&Tp x y (mn++[j]) mn.length)=X then PX x y ns es k (mn++[j])else W).map λr=>(X,(⟨x,y,ns,es,r⟩:Bc))) U rfl,KX]
  .show _=Y (Zp x y ns es mn (fst (λj=>if(Nu x y ns mn mn.length j&&Tp x y (mn++[j]) mn.length)=X then PX x y ns es k (mn++[j])else W) 0 y.d5.d3.length));cases fst (λj=>if(Nu x y ns mn mn.length j&&Tp x y (mn++[j]) mn.length)=X then PX x y ns es k (mn++[j])else W) 0 (y.d5.d3.length:Int)<;>rfl
  .intro j A C _;dsimp only;rw[AD A C,bs,AD (l:=ns) U U];simp only[bs];rw[SO (λ_=>rfl),bs,AD (l:=x.d5.d3) U U];simp only[bs];rw[QH (λ_=>rfl),bs,WJ];simp only[bs];rw[QH (λ_=>rfl),bs,AD (l:=x.ej) U U,AD (l:=y.ej) A U];simp only[bs,Pc];rw[QH (λ_=>rfl),bs];by_cases f:Nu x y ns mn mn.length j=X
   .have w:=f;simp only[Nu,pq,E!,tn,E_]at w;have u:=nu (x:=x) (y:=y) (ns:=ns) (es:=es) (me:=[]) h.xe h.ye (mn:=mn++[j]) an (l:=mn.length) U an;rw[C! V]at u;rw[ae (by simp[w.1.1.2,w.1.2,w.2];omega),AS a_,bs,u,bs,f,E?];have B:slc (mn++[j]) 0 (mn.length:Int)=Y mn:=by rw[Iv U an];simp
    cases Tp x y (mn++[j]) mn.length with
    |false=>rw[ae a!,ae a!,B];rfl|true=>
     rw [ac rfl,ac rfl,fO h k (mn++[j]) an n U,bs];cases PX x y ns es k (mn++[j])with
     |some r=>rfl|none=>
      rw [ae (by simp[Zp])];dsimp only[Zp];rw[B];rfl
   .rw[ac,ae u?]
    .rfl
    .refine F! λg=>f ?_;simp only[E!,pq,E_,tn,decide_eq_false_iff_not,not_or,not_and,F_]at g;simp only[Nu,pq,E!,tn,E_];exact⟨⟨⟨by have:=g.1.1.1;omega,g.1.1.2⟩,Bool.eq_false_iff.2 g.1.2⟩,g.2⟩
def ABK(o:Option d6):d6×Bool:=match o with
 |some r=>(r,X)|none=>(⟨[],[]⟩,T)
theorem Xb{f t:d6}(z:ET x)(sy:ET y)(xv:x.ej.length=x.d5.d3.length)(yv:y.ej.length=y.d5.d3.length)(ends:Rh x)(hi:Wj x f t):Dz x y f t=Y (ABK (Hv x y f t)):=by
 have E:=z.ec;have F:=z.eh;have G:=sy.ec;have H:=sy.eh;unfold Dz Hv;by_cases e:x.d5.d3.length=y.d5.d3.length/\x.d5.d4.length=y.d5.d4.length
 case neg=>rw[ae e,ac];rfl;simp;omega
 rw [ac e,ae an,fK U hi.nl hi.nin,bs,fK U hi.el hi.ein,bs];cases B:TS x.d5.d3.length f.d3 t.d3 with
 |none=>rfl|some ns=>
 cases C:TS x.d5.d4.length f.d4 t.d4 with
 |none=>rfl|some es=>
 rw [ae (by simp[lV])];have A:=(SN (λp w=>by obtain⟨i,u,i1,rfl⟩:=(R9 hi.nl).1 w;have:=hi.nin _ (AF u i1);simpa using this) B).1;have le:=(SN (λp w=>by obtain⟨i,u,i1,rfl⟩:=(R9 hi.el).1 w;have:=hi.ein _ (AF u i1);simpa using this) C).1;rw[D_]at A le;have g:pV x y ns es:=⟨A,le,U,U,U,U,xv,yv,ends⟩;have en:Hs ⟨x,y,ns,es,⟨[],[]⟩⟩=Y (Zp x y ns es [] (PX x y ns es x.d5.d3.length [])):=D0 (x.d5.d3.length+1) λn D=>fO g _ _ V n U;show(Hs ⟨x,y,ns,es,⟨[],[]⟩⟩).bind _=_;rw[en,bs,Wx e.1 e.2 ends _ _ V (λi u i1=>i_)];dsimp only;cases Mj x y ns es x.d5.d3.length []<;>rfl
end Go.Sf.Sc
namespace Go.Sf.Sc
open Go Go.Sf
end Go.Sf.Sc
namespace Go.Sf.Sc
open Go Go.Sf
def FX(h0:AG)(p:CU):A8:=⟨⟨h0,p.moves⟩,p.host,p.image⟩
instance:Inhabited A8:=⟨FX (default:CU).host default⟩
section
variable{t:AC}{rules:List ff}{h0:AG}{m0:d6}{depth:Int}
structure RU(m0:d6)(p:CU):Prop where
 sm:ET p.host
 vl:p.host.ej.length=p.host.d5.d3.length
 ends:Rh p.host
 inn:Kn p.image p.host.d5
 nl:p.image.d3.length=m0.d3.length
 el:p.image.d4.length=m0.d4.length
variable{p:CU}
theorem Kz.fact(hf:A3 t)(hr:GZ rules)(u:Kn m0 h0.d5)(g:Kz t rules h0 m0 p):RU m0 p:=by
 obtain ⟨a,_,c,d,e,f⟩:=YP hf hr u g;obtain⟨x,y,z⟩:=nO (QJ hf d).2;exact⟨a,y,z,c,e,f⟩
variable{q:CU}
theorem ZO(a:RU m0 p)(b:RU m0 q):Wj p.host p.image q.image:=⟨by rw[a.nl,b.nl],by rw[a.el,b.el],λk e=>(a.inn.node k e).2,λk e=>(a.inn.edge k e).2⟩
theorem uk(a:RU m0 p)(b:RU m0 q):G7 (FX h0 p) (FX h0 q)=Y (WQ p q):=by
 unfold G7 NQ;show((Dz q.host p.host q.image p.image).bind _).bind _=_;rw[Xb b.sm a.sm b.vl a.vl b.ends (ZO b a),bs,bs];unfold WQ;rw[m9 (ZO a b) (ZO b a) a.ends b.ends];cases Hv q.host p.host q.image p.image<;>rfl
variable{i:Int}
theorem um(u:Kn m0 h0.d5)(a:RU m0 p)(w:p.moves.length<=5){m:AP}(tk:ME p.host (Pt t rules p ⟨i,m⟩))(f:(Pt t rules p ⟨i,m⟩).og=m):E9 (FX h0 p) i (Pt t rules p ⟨i,m⟩)=Y (FX h0 (Rp t rules p ⟨i,m⟩)):=by
 unfold E9 KJ;dsimp only[FX];rw[Be b_,bs,AS a_,bs,Ue a.inn.Aal (λx e=>by have:=a.inn.node x e;rw[tk.Aal];exact this),bs,Ue a.inn.Aap (λx e=>by have:=a.inn.edge x e;rw[tk.Aap];exact this),bs,f];rfl
theorem mt{l s:List CU}(h:TK t rules h0 m0 p l s)(e:0<=i)(i1:i<l.length):AA s i=AA l i/\i<s.length:=by
 obtain ⟨ext,rfl,_,_⟩:=h
 grind [Lz]
theorem p9(hf:A3 t)(hr:GZ rules)(f:Kn m0 h0.d5){l s:List CU}(u:∀q∈l,Kz t rules h0 m0 q)(h:TK t rules h0 m0 p l s):∀q∈s,RU m0 q:=by
 obtain ⟨ext,rfl,_,w⟩:=h;intro q e;rcases y?.1 e with e|e
 .exact(u q e).fact hf hr f
 .exact(w q e).1.fact hf hr f
theorem kN{l:List A8}{f:A8->K1}{p:A8->Bool}(h:∀x∈l,f x=Y (p x)):CF l f=Y (l.any p):=FA h
variable{k:Int}
theorem xT(hf:A3 t)(hr:GZ rules)(u:Kn m0 h0.d5){l:List CU}(M:∀q∈l,Kz t rules h0 m0 q)(C:0<=i)(i1:i<l.length)(S:(AA l i).moves.length<5)(θ:0<=k)(ε:k<rules.length){m:AP}(E:(GG t rules (AA l i).host ⟨k,m⟩).2=0){s:List CU}(F:TK t rules h0 m0 (AA l i) l s):
  ((idx (s.map (FX h0)) i).bind λG=>
   (FR t (AA rules k) G.AaJ m).bind λe=>
   if (!decide (e.2=0))=X then
   Y (.ret (([]:List A8),e.2))
   else
   if (decide (8<(e.1.hV.d5.d3.length:Int)))=X then
   Y (.ret ([],3))
   else
   (idx (s.map (FX h0)) i).bind λH=>
   (E9 H k e.1).bind λw=>
   (CF (s.map (FX h0)) (λJ=>G7 J w)).bind λK=>
   if K=X then
   Y (.next (s.map (FX h0)))
   else
   if (decide (((s.map (FX h0)).length:Int)=300))=X then
   Y (.ret ([],3))
   else
   (AY (s.map (FX h0)) [w]).bind λz=>
   Y (.next z))=Y (dj ([],3) ((SE t rules (AA l i) ⟨k,m⟩ s).map (D! (FX h0)))):=by
 have N:=M _ (AF C i1);have η:=N.fact hf hr u;obtain⟨Z,Q⟩:=mt F C i1;obtain⟨gn,tk,e3,e4⟩:=aW hf hr u N E S;have ζ:=gn.fact hf hr u;have A:=hr.each _ (AF (l:=rules) θ ε);have δ:EW t (AA rules k) (AA l i).host m=(Pt t rules (AA l i) ⟨k,m⟩,0):=by
  grind [GG]
 rw [AD C (by simpa using Q),Gg C Q,Z];simp only[bs];show((FR t (AA rules k) (AA l i).host m).bind _)=_;rw[Yo hf A.1 A.2,δ,bs,ae V];dsimp only;unfold SE;by_cases O:8<(Pt t rules (AA l i) ⟨k,m⟩).hV.d5.d3.length
 .rw[ac an,ac O];rfl
 have B:CF (s.map (FX h0)) (λJ=>G7 J (FX h0 (Rp t rules (AA l i) ⟨k,m⟩)))=Y (s.any λq=>WQ q (Rp t rules (AA l i) ⟨k,m⟩)):=by
  rw [kN (p:=λy=>WQ ⟨y.d.mo,y.AaJ,y.f0⟩ (Rp t rules (AA l i) ⟨k,m⟩)),List.any_map]
  .rfl
  .intro x κ;obtain⟨q,hq,rfl⟩:=y!.1 κ;exact uk (p9 hf hr u M F q hq) ζ
 rw [ae an,ae O,um u η U tk e4,bs,B,bs];by_cases D:(s.any λq=>WQ q (Rp t rules (AA l i) ⟨k,m⟩))=X
 .rw[ac D,ac D];rfl
 rw [ae D,ae D,c9];by_cases f:s.length=300
 .rw[ac u?,ac f];rfl
 .have P:s.length<=300:=by obtain⟨ext,rfl,h3,_⟩:=F;exact h3
  rw [ae an,ae f,AS a_,bs];simp[dj]
end
end Go.Sf.Sc
namespace Go.Sf.Sc
open Go Go.Sf
section
variable{t:AC}{rules:List ff}{h0:AG}{m0:d6}{depth:Int}
theorem vo{β ρ γ:Type}(hf:A3 t)(hr:GZ rules)(A:Kn m0 h0.d5)(hd:depth<=4){f:List β×Int->Option (B0 (List β×Int) ρ)}{k:List β×Int->Option γ}{w:ρ->Option γ}{ζ:Option γ}(enc:List CU->List β)(e:ρ)
  (B:∀i l,0<=i->I1 t rules h0 m0 depth i l->i<l.length->((AA l i).moves.length:Int)≠depth->f (enc l,i)=Y (match Qf t rules (AA l i) l with|some H=>.next (enc H,i+1)|none=>.ret e))
  (C:∀i l,0<=i->I1 t rules h0 m0 depth i l->i<l.length->((AA l i).moves.length:Int)=depth->f (enc l,i)=Y (.brk (enc l,i))\/f (enc l,i)=Y (.next (enc l,i+1)))
  (D:∀i l,0<=i->I1 t rules h0 m0 depth i l->(l.length:Int)<=i->f (enc l,i)=Y (.brk (enc l,i)))
  {l:List CU}{z:List β×Int}(E:z=(enc l,0))(F:I1 t rules h0 m0 depth 0 l)(ha:∀r j,Ns t rules depth 301 0 l=Y r->k (enc r,j)=ζ)(hb:Ns t rules depth 301 0 l=W->w e=ζ):em (C3 f z) k w=ζ:=by
 subst E;obtain⟨o,G,u⟩:=gi hf hr A hd enc e B C D 301 0 l U F U;rw[G.eq];cases h:Ns t rules depth 301 0 l with
 |none=>
  rw [h]at u;subst u;exact hb h
 |some r=>
  rw [h]at u;obtain⟨j,rfl⟩:=u;exact ha r j h
variable{i:Int}
theorem SP{l:List CU}(h:I1 t rules h0 m0 depth i l):∀q∈l,Kz t rules h0 m0 q:=λq e=>(h.good q e).1
variable{p:CU}{k:Int}
theorem md(hf:A3 t)(hr:GZ rules)(u:Kn m0 h0.d5)(f:Kz t rules h0 m0 p)(w:0<=k)(z:k<rules.length)(e:(Hi t (AA rules k) p.host).2≠0):(Hi t (AA rules k) p.host).2=3:=
 (tw hf ((vR f.rep.given).1 _ (AF w z)) (YP hf hr u f).2.2.2.1).resolve_left e
def Vz{β:Type}(enc:CU->β)(o:Option (List CU)):List β×Int:=match o with
 |some L=>(L.map enc,0)|none=>([],3)
theorem jU(hf:A3 t)(hr:GZ rules)(J:G4 t rules h0=0)(D:Kn m0 h0.d5)(K:0<=depth)(hd:depth<=4):II t rules (FX h0 ⟨[],h0,m0⟩) depth=Y (Vz (FX h0) (dB t rules depth ⟨[],h0,m0⟩)):=by
 unfold II;refine vo hf hr D hd (D! (FX h0)) ([],3) (λi l f gb i1 E=>?_) (λi l f gb i1 he=>?_) (λi l f gb i1=>?_) (l:=[⟨[],h0,m0⟩]) rfl (LF hf hr J D K) (λr j e=>?_) (λe=>?_)
 .have O:=SP gb;have G:=O _ (AF f i1);have S:=(gb.good _ (AF f i1)).2;have u:=gb.few;have P:(AA l i).moves.length<5:=U
  dsimp only;rw[ac k?,AD f k?,bs,Gg f i1,ae (by show¬decide (((AA l i).moves.length:Int)=depth)=X;simpa using E),AT U U,
   UK (l:=A0 rules.length) (D! (FX h0)) (λk M=>if(Hi t (AA rules k) (AA l i).host).2=0 then Gc (SE t rules (AA l i)) (Mx t rules (AA l i).host k) M else W) ([],3) (λ_=>TK t rules h0 m0 (AA l i) l) rfl (by rw[A5]) ⟨[],V,u,λq N=>by cases N⟩,YS]
  .show em (Y (gT _ ((Qf t rules (AA l i) l).map _))) _ _=_;cases Qf t rules (AA l i) l<;>rfl
  intro k s A w z;rw[A5]at w;have B:=hr.each _ (AF (l:=rules) A w);obtain⟨Q,H⟩:=mt z f i1;rw[NA _ A w,AD A w,bs,AD f v_,bs,Gg f H,Q];show((E8 t (AA rules k) (AA l i).host).bind _)=_/\_;rw[xW hf B.1 B.2,bs];by_cases C:(Hi t (AA rules k) (AA l i).host).2=0
  case neg=>
   rw [ac (by simp[C]),ae C,md hf hr D G A w C];exact⟨rfl,λs' h=>d_⟩
  rw [ae (by simp[C]),ac C,
   UK (l:=Mx t rules (AA l i).host k) (D! (FX h0)) (SE t rules (AA l i)) ([],3) (λ_=>TK t rules h0 m0 (AA l i) l) rfl (by simp[Mx]) z]
  .refine⟨by cases Gc (SE t rules (AA l i)) (Mx t rules (AA l i).host k) s<;>rfl,λs' h=>?_⟩;exact VX (I:=TK t rules h0 m0 (AA l i) l) (λmv F s s' z e=>ZE hf hr D G P (Up A w F) z e) z h
  grind [Up,AF,Hi,AA,Mx,Gg,AD,xT,ZE]
 .right;have u:=gb.few;dsimp only;rw[ac k?,AD f k?,bs,Gg f i1,ac (by show decide (((AA l i).moves.length:Int)=depth)=X;simpa using he),AT U U]
 .grind
 .show Y (_,_)=Y (Vz _ (Ns t rules depth 301 0 _));rw[e];rfl
 .show Y (_,_)=Y (Vz _ (Ns t rules depth 301 0 _));rw[e];rfl
end
end Go.Sf.Sc
namespace Go.Sf.Sc
open Go Go.Sf
def Tn(a b:Fp)(n:Nat):Fp:=(A0 n).filter λi=>decide (0<=AA a i)&&decide (0<=AA b i)
def I6(a b:AU):BR:=⟨Tn a.p0.d3 b.p0.d3 a.j4.d5.d3.length,Tn a.p0.d4 b.p0.d4 a.j4.d5.d4.length⟩
variable{σ:Type}{n:Nat}
theorem ai{a b:Fp}(ha:a.length=n)(hb:b.length=n)(C:n<=1000)(mk:Fp->σ){f:Int->σ->Option σ}(hf:∀i l,f i (mk l)=((idx a i).bind λu=>(if(decide (0<=u))=X then((idx b i).bind λw=>Y (decide (0<=w)))else Y T).bind λz=>if z=X then(AY l [i]).bind λA=>Y (mk A)else Y (mk l))){s:σ}(B:s=mk []):n8 f 0 n s=Y (mk (Tn a b n)):=by
 subst B;rw[CC (λi=>mk (((A0 n).take i.toNat).filter λi=>decide (0<=AA a i)&&decide (0<=AA b i))) U V]
 .rw[w_,C! (by rw[A5];omega)];rfl
 intro i e i1;rw[hf,AD e U,bs,AD e U,bs,SO (λ_=>rfl),bs,CH (l:=A0 n) e (by rw[A5];exact i1),NA _ e i1,y_]
 grind [AA,A0,take,Nat.le_trans,x?,bk,A5,AS,z?,AX]
section
variable{t:AC}{rules:List ff}{a b:AU}{depth:Int}{strict:Bool}
theorem ni(h:a.j4=b.j4)(ta:ME a.j4 a)(tb:ME b.j4 b)(sm:ET a.j4):G6 a b=Y (I6 a b,0):=by
 have u:=ta.Aal;have w:=ta.Aap;have e:=tb.Aal;have f:=tb.Aap;have z:=sm.ec;have A:=sm.eh;rw[<-h]at e f;unfold G6;rw[Zi,bs,ae (by simp[h];rw[<-h];omega),ai u e z (λl=>BR.mk l []) (λ_ _=>rfl) rfl,bs,ai w f A (λl=>BR.mk (Tn a.p0.d3 b.p0.d3 a.j4.d5.d3.length) l) (λ_ _=>rfl) rfl,bs];rfl
variable{n:Nat}
theorem WN{l m:Fp}(e:n<=1000):(Tn l m n).length<=1000/\∀x∈Tn l m n,(0<=x/\x<n)/\0<=AA l x/\0<=AA m x:=by
 refine ⟨Nat.le_trans (x? _ _) (by rw[A5];exact e),λx f=>?_⟩;obtain⟨w,u⟩:=x!.1 f;simp only[pq,tn]at u
 grind [C6]
theorem wu(sm:ET a.j4):X0 a.j4 (I6 a b):=
 ⟨(WN sm.ec).1,(WN sm.eh).1,λx e=>((WN sm.ec).2 x e).1,λx e=>((WN sm.eh).2 x e).1⟩
noncomputable def H5(t:AC)(rules:List ff)(a b:AU):Int:=if Ft t rules≠0 then Ft t rules else if(K7 t a&&K7 t b)=T then 1 else if a.j4=b.j4 then 0 else 8
def Q0:Aaa:=⟨FJ,FJ,⟨[],[]⟩⟩
noncomputable def Qh(t:AC)(rules:List ff)(a b:AU)(depth:Int):Option (List CU):=dB t rules depth ⟨[],a.hV,MD a (I6 a b)⟩
noncomputable def OJ(t:AC)(rules:List ff)(a b:AU)(depth:Int):Option (List CU):=dB t rules depth ⟨[],b.hV,MD b (I6 a b)⟩
def kV(a b:AU)(o:Option (CU×CU×d6)):Aaa×Int:=match o with
 |some r=>(⟨⟨a.hV,r.1.moves⟩,⟨b.hV,r.2.1.moves⟩,r.2.2⟩,0)|none=>(Q0,10)
noncomputable def EH(t:AC)(rules:List ff)(a b:AU)(depth:Int)(strict:Bool):Aaa×Int:=
 if H5 t rules a b≠0 then(Q0,H5 t rules a b)
 else if depth<0\/4<depth then(Q0,6)
 else if 8<a.hV.d5.d3.length\/8<b.hV.d5.d3.length then(Q0,3)
 else match Qh t rules a b depth,OJ t rules a b depth with
  |some L,Y R=>kV a b (Uh strict L R depth)|_,_=>(Q0,3)
structure Tc(t:AC)(rules:List ff)(a b:AU):Prop where
 rz:Ft t rules=0
 ca:K7 t a=X
 cb:K7 t b=X
 eq:a.j4=b.j4
theorem Y6(h:H5 t rules a b=0):Tc t rules a b:=by
 unfold H5 at h;split at h
 .grind
 rename_i k;split at h
 .cases h
 rename_i e;split at h
 next f=>simp only[D?,pq]at e;exact⟨F_.1 k,e.1,e.2,f⟩
 .cases h
end
end Go.Sf.Sc
namespace Go.Sf
end Go.Sf
namespace Go.Sf.Sc
open Go Go.Sf
variable{σ ρ:Type}
theorem jq{s:σ}{o:Option ρ}:em (Y (ox s o)) (λs2=>Y (B0.next s2)) (λe=>Y (B0.ret e))=Y (bS s o):=by cases o<;>rfl
section
variable{t:AC}{rules:List ff}{a b:AU}{depth:Int}{strict:Bool}{m0 m1:d6}
structure cc(m0 m1:d6)(L R:List CU):Prop where
 l:∀p∈L,RU m0 p/\p.moves.length<=5
 r:∀p∈R,RU m1 p/\p.moves.length<=5
 nl:m0.d3.length=m1.d3.length
 el:m0.d4.length=m1.d4.length
variable{L R:List CU}
theorem cc.inn(h:cc m0 m1 L R):∀p∈L,∀q∈R,Wj p.host p.image q.image:=λp u q w=>by
 have f:=(h.l p u).1;have g:=(h.r q w).1;exact⟨by rw[f.nl,g.nl,h.nl],by rw[f.el,g.el,h.el],λk e=>(f.inn.node k e).2,λk e=>(f.inn.edge k e).2⟩
def fE(x y:AG)(r:CU×CU×d6):Aaa×Int:=(⟨⟨x,r.1.moves⟩,⟨y,r.2.1.moves⟩,r.2.2⟩,0)
theorem jR(x:AG)(p:CU):DX (FX x p)=Y (Abv p.image):=by
 unfold DX Abv;rw[WJ,bs,WJ];simp only[bs];rw[QH (λ_=>rfl),bs];rfl
variable{x y:AG}
theorem uo(h:cc m0 m1 L R){s i k:Int}(J:0<=i)(i1:i<L.length)(F:0<=k)(G:k<R.length){z:Aaa}:
  ((idx (R.map (FX y)) k).bind λu=>
   (if(!decide ((AJ (((FX x (AA L i)).d.mo.length:Int)+(u.d.mo.length:Int)))=s))=X then Y X else((if strict=X then((DX (FX x (AA L i))).bind λA=>
   (if A=X then Y X else((DX u).bind λB=>
   Y (B))).bind λC=>
   Y (C))else Y T).bind λD=>
   Y (D))).bind λE=>
   if E=X then
   Y (.next z)
   else
   if strict=X then
   (Dz (FX x (AA L i)).AaJ u.AaJ (FX x (AA L i)).f0 u.f0).bind λw=>
   if w.2=X then
   Y (.ret (Aaa.mk (FX x (AA L i)).d u.d w.1,0))
   else
   Y (.next z)
   else
   (Dz (FX x (AA L i)).AaJ u.AaJ (d6.mk [] []) (d6.mk [] [])).bind λw=>
   if w.2=X then
   Y (.ret (Aaa.mk (FX x (AA L i)).d u.d w.1,0))
   else
   Y (.next z))=Y (bS z ((S8 strict L R s i k).map (fE x y))):=by
 obtain ⟨f,K⟩:=h.l _ (AF J i1);obtain⟨g,M⟩:=h.r _ (AF F G);have hi:=h.inn _ (AF J i1) _ (AF F G);rw[AD F (by simpa using G),bs,Gg F G,jR,jR];simp only[bs];rw[QH (λ_=>rfl)];simp only[bs];rw[SO (λ_=>rfl)];simp only[bs];rw[QH (λ_=>rfl),bs];show(if(!decide (AJ (((AA L i).moves.length:Int)+(AA R k).moves.length)=s)||_)=X then _ else if strict=X then(Dz (AA L i).host (AA R k).host (AA L i).image (AA R k).image).bind _ else(Dz (AA L i).host (AA R k).host _ _).bind _)=_;rw[AT U U];unfold S8 cf;by_cases e:((AA L i).moves.length:Int)+(AA R k).moves.length=s
 case neg=>rw[ac c_,ae e];rfl
 rw [ac e];cases strict with
 |true=>
  rw [ac (rfl:X=X)];by_cases H:(Abv (AA L i).image||Abv (AA R k).image)=X
  .rw[ac (by simp only[H];simp),ac H];rfl
  .rw[ae (by simp only[e,H];simp),ae H,ac rfl,Xb f.sm g.sm f.vl g.vl f.ends hi,bs];cases Hv (AA L i).host (AA R k).host (AA L i).image (AA R k).image<;>rfl
 |false=>
  rw [ae c_,ae a!,ae a!,Xb f.sm g.sm f.vl g.vl f.ends (w7 _),bs];cases Hv (AA L i).host (AA R k).host ⟨[],[]⟩ ⟨[],[]⟩<;>rfl
end
end Go.Sf.Sc
namespace Go.Sf.Sc
open Go Go.Sf
structure U9(t:AC)(rules:List ff)(a b:AU):Prop where
 hf:A3 t
 hr:GZ rules
 fa:Ic a.ff
 ka:Dv a.ff.d7<=40
 fb:Ic b.ff
 kb:Dv b.ff.d7<=40
section
variable{t:AC}{rules:List ff}{a b:AU}{depth:Int}{strict:Bool}
variable{s:AU}
theorem bU(hf:A3 t)(fr:Ic s.ff)(u:Dv s.ff.d7<=40)(rz:Ft t rules=0)(h:K7 t s=X):G4 t rules s.hV=0:=by
 unfold K7 at h;simp only[pq,tn]at h;obtain⟨o,e⟩:=SH hf fr u h.1;have f:=Ti.1 h.2;rw[e]at f;have w:s.hV=PA t s.ff s.j4 s.og:=by
  have:=congrArg AU.hV f;exact this.symm
 grind [G4,Wm]
structure v7(t:AC)(rules:List ff)(a b:AU):Prop where
 ta:ME a.j4 a
 tb:ME b.j4 b
 wa:K0 a.j4
 wb:K0 b.j4
 ga:G4 t rules a.hV=0
 gb:G4 t rules b.hV=0
 ma:Kn (MD a (I6 a b)) a.hV.d5
 mb:Kn (MD b (I6 a b)) b.hV.d5
 pa:X0 a.j4 (I6 a b)
 pb:X0 b.j4 (I6 a b)
theorem La(f:U9 t rules a b)(v:Tc t rules a b):v7 t rules a b:=by
 obtain ⟨wa,ta,sa⟩:=ic f.hf f.fa f.ka v.ca;obtain⟨wb,tb,sb⟩:=ic f.hf f.fb f.kb v.cb;have pa:X0 a.j4 (I6 a b):=wu wa.s;have pb:X0 b.j4 (I6 a b):=v.eq▸pa;exact⟨ta,tb,wa,wb,bU f.hf f.fa f.ka v.rz v.ca,bU f.hf f.fb f.kb v.rz v.cb,nJ pa ta,nJ pb tb,pa,pb⟩
variable{L R:List CU}
theorem iL(f:U9 t rules a b)(v:Tc t rules a b)(z:0<=depth)(hd:depth<=4)(A:Qh t rules a b depth=Y L)(B:OJ t rules a b depth=Y R):
  (∀p∈L,Kz t rules a.hV (MD a (I6 a b)) p)/\(∀p∈R,Kz t rules b.hV (MD b (I6 a b)) p)/\cc (MD a (I6 a b)) (MD b (I6 a b)) L R:=by
 have g:=La f v;obtain⟨⟨j,u⟩,_⟩:=QB f.hf f.hr g.ma hd 301 0 _ L U (LF f.hf f.hr g.ga g.ma z) A;obtain⟨⟨C,w⟩,_⟩:=QB f.hf f.hr g.mb hd 301 0 _ R U (LF f.hf f.hr g.gb g.mb z) B;refine⟨SP u,SP w,λp e=>⟨(SP u p e).fact f.hf f.hr g.ma,(SP u p e).few⟩,λp e=>⟨(SP w p e).fact f.hf f.hr g.mb,(SP w p e).few⟩,?_,?_⟩
 .show(EF _ _).length=(EF _ _).length;rw[IG,IG]
 .show(EF _ _).length=(EF _ _).length;rw[IG,IG]
theorem dz(h:H5 t rules a b≠0):EH t rules a b depth strict=(Q0,H5 t rules a b):=by grind[EH]
theorem d8(h:H5 t rules a b=0)(e:depth<0\/4<depth):EH t rules a b depth strict=(Q0,6):=by grind[EH]
theorem d9(h:H5 t rules a b=0)(e:¬(depth<0\/4<depth))(f:8<a.hV.d5.d3.length\/8<b.hV.d5.d3.length):EH t rules a b depth strict=(Q0,3):=by grind[EH]
theorem VT(h:H5 t rules a b=0)(e:¬(depth<0\/4<depth))(f:¬(8<a.hV.d5.d3.length\/8<b.hV.d5.d3.length)):EH t rules a b depth strict=(match Qh t rules a b depth,OJ t rules a b depth with
  |some L,Y R=>kV a b (Uh strict L R depth)|_,_=>(Q0,3)):=by grind[EH]
theorem jP(f:U9 t rules a b):Kq t rules a b depth strict=Y (EH t rules a b depth strict):=by
 unfold Kq;rw[qt f.hf f.hr f.fa f.ka f.fb f.kb,bs];show(if(!decide (H5 t rules a b=0))=X then Y (_,H5 t rules a b)else _)=_;by_cases hv:H5 t rules a b=0
 case neg=>rw[dz hv,ac l_];rfl
 rw [ae l_];by_cases e:depth<0\/4<depth
 .rw[d8 hv e,ac f_];rfl
 rw [ae f_];by_cases z:8<a.hV.d5.d3.length\/8<b.hV.d5.d3.length
 .rw[d9 hv e z,ac an];rfl
 have v:=Y6 hv;have g:=La f v;rw[VT hv e z,ae an,ni v.eq g.ta g.tb g.wa.s,bs,ae V,fH g.pa g.ta g.ta.sm,bs];have u:II t rules ⟨⟨a.hV,[]⟩,a.hV,MD a (I6 a b)⟩ depth=Y (Vz (FX a.hV) (Qh t rules a b depth)):=jU f.hf f.hr g.ga g.ma U U;have s2:II t rules ⟨⟨b.hV,[]⟩,b.hV,MD b (I6 a b)⟩ depth=Y (Vz (FX b.hV) (OJ t rules a b depth)):=jU f.hf f.hr g.gb g.mb U U;dsimp only;rw[u,bs];cases A:Qh t rules a b depth with
 |none=>rfl|some L=>
 rw [ae (by simp[Vz]),fH g.pb g.tb g.tb.sm,bs,s2,bs];cases B:OJ t rules a b depth with
 |none=>rfl|some R=>
 rw [ae (by simp[Vz])];obtain⟨_,_,D⟩:=iL f v U U A B;dsimp only[Vz];rw[AT (n:=2*depth) U U,AT (n:=2*depth+1) U U,c9,c9,
  Gt (a:=0) (b:=2*depth+1) (λ_=>(⟨FJ,FJ,⟨[],[]⟩⟩:Aaa)) (λs=>(mA strict L R s).map (fE a.hV b.hV)) U rfl,KX]
 .show _=Y (kV a b (fst (mA strict L R) 0 (2*depth+1)));cases fst (mA strict L R) 0 (2*depth+1)<;>rfl
 intro s C u _;rw[Gt (a:=0) (b:=(L.length:Int)) (λ_=>(⟨FJ,FJ,⟨[],[]⟩⟩:Aaa)) (λi=>(fst (S8 strict L R s i) 0 R.length).map (fE a.hV b.hV)) U rfl,KX,jq]
 .rfl
 intro i w i1 _;rw[AD w k?,bs,Gg w i1,Gt (a:=0) (b:=(R.length:Int)) (λ_=>(⟨FJ,FJ,⟨[],[]⟩⟩:Aaa)) (λk=>(S8 strict L R s i k).map (fE a.hV b.hV)) U rfl,KX,jq]
 grind [uo]
end
end Go.Sf.Sc
namespace Go.Sf.Sc
open Go Go.Sf
section
variable{t:AC}{rules:List ff}{a b:AU}{depth:Int}{strict:Bool}
theorem uF(f:U9 t rules a b)(e:(EH t rules a b depth strict).2=0):∃L R r,Tc t rules a b/\(0<=depth/\depth<=4)/\Qh t rules a b depth=Y L/\OJ t rules a b depth=Y R/\Uh strict L R depth=Y r/\EH t rules a b depth strict=fE a.hV b.hV r:=by
 by_cases hv:H5 t rules a b=0
 case neg=>rw[dz hv]at e;exact absurd e hv
 by_cases A:depth<0\/4<depth
 .grind[d8]
 by_cases B:8<a.hV.d5.d3.length\/8<b.hV.d5.d3.length
 .grind[d9]
 rw [VT hv A B]at e|-;cases u:Qh t rules a b depth with
 |none=>rw[u]at e;cases e
 |some L=>
 cases w:OJ t rules a b depth with
 |none=>rw[u,w]at e;cases e
 |some R=>
 rw [u,w]at e;dsimp only at e|-;cases z:Uh strict L R depth with
 |none=>rw[z]at e;cases e
 |some r=>exact⟨L,R,r,Y6 hv,U,rfl,rfl,z,rfl⟩
theorem kf:((EH t rules a b depth strict).1.gp.l4=a.hV/\(EH t rules a b depth strict).1.ei.l4=b.hV)\/(EH t rules a b depth strict).1=Q0:=by
 unfold EH;split
 .exact .inr rfl
 split
 .exact .inr rfl
 split
 .exact .inr rfl
 split
 .rename_i L R _ _;cases Uh strict L R depth with
  |none=>exact .inr rfl|some r=>exact .inl ⟨rfl,rfl⟩
 .exact .inr rfl
end
theorem ol{d:CN}(h:K0 d.l4):Ej d d=Y X:=by
 unfold Ej;rw[vJ h h,bs,ae V,Bf (λ_=>T) T]
 .rw[show l3 (λ_=>T) 0 (d.mo.length:Int)=T from By.2 λ_ _ _=>rfl];rfl
 grind [AD,rL]
theorem Y2{j:Aaa}(e:K0 j.gp.l4)(f:K0 j.ei.l4):Nf j j=Y X:=by grind[Nf,ol,vK]
theorem yc{t:AC}{rules:List ff}{a b:AU}{depth:Int}{e f u:Bool}(w:IU t rules a.j4=Y e)(z:E7 t a=Y f)(A:E7 t b=Y u):∃c,L6 t rules a b depth=Y c/\(c=X->e=X/\f=X/\u=X):=by
 unfold L6 Ng;rw[w,bs,UP (λ_=>z),bs,UP (λ_=>A),bs,UP (λ_=>rfl),bs,UP (λ_=>rfl),bs];split
 .exact⟨T,rfl,λh=>d_⟩
 .rename_i h;simp only[E!,not_or,E',Bool.not_eq_false']at h;obtain⟨⟨⟨⟨C,D⟩,E⟩,_⟩,_⟩:=h;rw[Bf (λi=>!((((decide (((AA rules i).gp.d5.d3.length:Int)<=2))&&(decide (((AA rules i).gp.d5.d4.length:Int)<=2)))&&(decide (((AA rules i).ei.d5.d3.length:Int)<=(AJ (((AA rules i).gp.d5.d3.length:Int)+1)))))&&(decide (((AA rules i).ei.d5.d4.length:Int)<=(AJ (((AA rules i).gp.d5.d4.length:Int)+1)))))) T]
  .split
   .exact⟨T,rfl,λh=>d_⟩
   .exact⟨_,rfl,λ_=>⟨C,D,E⟩⟩
  .intro i B i1 _;rw[AD B i1,bs,bs];split<;>rfl
theorem bg:K0 FJ.l4:=⟨⟨by simp[FJ],by simp[FJ],by simp[FJ],λv hv=>by simp[FJ]at hv⟩,λv hv=>by simp[FJ]at hv⟩
theorem m8{t:AC}{rules:List ff}{a b:AU}{depth:Int}{strict:Bool}(wa:K0 a.hV)(wb:K0 b.hV):Nf (EH t rules a b depth strict).1 (EH t rules a b depth strict).1=Y X:=by
 rcases kf (t:=t) (rules:=rules) (a:=a) (b:=b) (depth:=depth) (strict:=strict)with h|h
 .grind[Y2]
 .rw[h];exact Y2 bg bg
end Go.Sf.Sc
namespace Go.Sf.Sc
open Go Go.Sf
structure ZA(d:HM):Prop where
 types:∀x∈d.d3,U2 x
 ends:∀x∈d.d4,U2 x
 a:X4 d.A
 b:X4 d.B
 h:iT d.H
theorem mG{d:HM}(h:(I9 d).WF):ZA d:=by
 have f:TV.tc (_::_::_):=h;have k:=f.2.2;have ka:(KW d.A).WF:=Xt 15 k;have kb:(KW d.B).WF:=Xt 15 (Xs 15 k);have u:=Xs 30 k;exact⟨λx e=>gY (Iz f.1 x e),λx e=>gY (Iz f.2.1 x e),bd ka,bd kb,λx e=>gY (Iz u.1 x e),λx e=>V9 (Iz u.2.1 x e)⟩
structure R3(t:AC)(rules:List ff)(h:AG):Prop where
 st:(AL t).Sm
 tz:(BC t).2=0
 hf:A3 t
 hr:GZ rules
 two:rules.length=2
 ok:∀r∈rules,Dc t r=0
 sm:∀r∈rules,(CB r).Sm
 host:(Dq t h).2=0
 light:IU t rules h=Y X
theorem oW{d:HM}(hd:ZA d):∃v,GA d=Y v/\(v.2.2.2=X->R3 v.1 v.2.1 v.2.2.1):=by
 unfold GA;split
 .grind
 .obtain⟨t,et,e⟩:=q8 hd.types hd.ends;obtain⟨z,A,B,C⟩:=fX e hd.a;obtain⟨D,E,F,s2⟩:=fX e hd.b;obtain⟨h,G,H⟩:=oF e hd.h;have f:∀r∈[z,D],(CB r).Sm:=by simp[C,s2]
  obtain ⟨b,u,w⟩:=uV e.sm f h;rw[et,bs,A,bs,E,bs,G,bs,u,bs];exact⟨_,rfl,λhb=>by
   obtain rfl:b=X:=hb;exact⟨e.sm,e.zero,(w rfl).1,(w rfl).2,rfl,by simp[B,F],f,by rw[H],u⟩⟩
structure SB(t:AC)(rules:List ff)(h:AG)(s:AU):Prop where
 rule:s.ff∈rules
 before:s.j4=h
 chk:K7 t s=X
section
variable{t:AC}{rules:List ff}{h:AG}
variable{r:ff}
theorem bF(p:R3 t rules h)(hr:r∈rules):∃l,HF t r h 2=Y l/\∀s∈l,SB t rules h s:=by
 have f:Ic r/\Dv r.d7<=40:=by
  obtain ⟨i,w,i1,rfl⟩:=BT hr;exact p.hr.each _ (AF w i1)
 have A:=t6 (t:=t) (r:=r) (h:=h);unfold HF;rw[xu p.hf f.1 f.2,bs];refine E1 (λi l=>(0<=i/\i<=2)/\(l.length:Int)<=i/\∀s∈l,SB t rules h s) 2 ⟨U,V,λs u=>by cases u⟩ (λi l w⟨a1,a2,a3⟩=>?_) (λi l w⟨a1,a2,a3⟩_=>⟨l,rfl,a3⟩);dsimp only;by_cases hi:i<(Hi t r h).1.length/\i<2
 .left;have z:=mc (AF a1.1 hi.1);obtain⟨o,e⟩:=SH p.hf f.1 f.2 z;refine⟨U,l++[TG t r h (AA (Hi t r h).1 i)],?_,U,an,λs u=>?_⟩
  .rw[ac n_,AD a1.1 hi.1,bs,oZ p.hf f.1 f.2,e,bs,AS a_,bs,AT (n:=i+1) U U]
  .rcases y?.1 u with u|u
   .exact a3 s u
   .obtain rfl:=z_.1 u;refine⟨hr,rfl,?_⟩;unfold K7;show(decide ((EW t r h (AA (Hi t r h).1 i)).2=0)&&ip (EW t r h (AA (Hi t r h).1 i)).1 _)=X;rw[e];simp only[decide_true,E?];exact Ti.2 rfl
 grind
theorem eZ(p:R3 t rules h){a b:AU}(ha:SB t rules h a)(hb:SB t rules h b):U9 t rules a b:=by
 obtain ⟨i,u,i1,w⟩:=BT ha.rule;obtain⟨j,z,A,B⟩:=BT hb.rule;have e:=p.hr.each _ (AF u i1);have f:=p.hr.each _ (AF z A);rw[w]at e;rw[B]at f;exact⟨p.hf,p.hr,e.1,e.2,f.1,f.2⟩
variable{s:AU}
theorem Wv(st:(AL t).Sm)(u:(CB s.ff).Sm):∃b,E7 t s=Y b:=by
 obtain ⟨z,A,B⟩:=Sw st;obtain⟨C,D,G⟩:=mw (h:=s.hV);have w:∃b,HE t s.ff s.j4=Y b:=by
  cases z with
  |false=>exact⟨T,by unfold HE;rw[A];rfl⟩|true=>
   obtain ⟨b,e,f⟩:=jF (B rfl) st u s.j4;exact⟨b,e⟩
 obtain ⟨E,F⟩:=w;unfold E7 Nd Jg;rw[F,bs];cases E with
 |false=>exact⟨T,rfl⟩|true=>
 rw [ac rfl,D,bs,bs];cases C with
 |false=>exact⟨T,rfl⟩|true=>
 exact ⟨_,by simp only[bs,if_true];rw[dU rfl,bs,dU rfl,bs]⟩
theorem va(p:R3 t rules h){a b:AU}{depth:Int}(ha:SB t rules h a)(hb:SB t rules h b):∃c,L6 t rules a b depth=Y c:=by
 obtain ⟨z,u⟩:=Wv p.st (p.sm _ ha.rule);obtain⟨A,w⟩:=Wv p.st (p.sm _ hb.rule);have f:=p.light;rw[<-ha.before]at f;obtain⟨c,e,_⟩:=yc (depth:=depth) f u w;exact⟨c,e⟩
theorem pQ(p:R3 t rules h)(u:SB t rules h s):K0 s.hV:=by
 have f:=eZ p u u;have k:=u.chk;unfold K7 at k;simp only[pq,tn]at k;obtain⟨o,e⟩:=SH f.hf f.fa f.ka k.1;have w:=Ti.1 k.2;rw[e]at w;have z:=bf o;dsimp only at w;rw[w]at z;exact z.a
end
variable{ρ:Type}
theorem aO{f:Int->Unit->Option (B0 Unit ρ)}{a b:Int}(h:∀i,a<=i->i<b->f i ()=Y (.next ())):jj f a b ()=Y (.inl ()):=by
 rw [Bj (λ_=>W) (λi e i1 _=>h i e i1),BH.2 λ_ _ _=>rfl];rfl
end Go.Sf.Sc
namespace Go.Sf.Sc
open Go Go.Sf
section
variable{t:AC}{rules:List ff}{a b:AU}{depth:Int}
variable{L R:List CU}
theorem kc{strict:Bool}(hv:H5 t rules a b=0)(hd:0<=depth/\depth<=4)(e:¬(8<a.hV.d5.d3.length\/8<b.hV.d5.d3.length))(f:Qh t rules a b depth=Y L)(u:OJ t rules a b depth=Y R):EH t rules a b depth strict=kV a b (Uh strict L R depth):=by grind[VT]
theorem kZ{strict:Bool}(e:(EH t rules a b depth strict).2=0):H5 t rules a b=0/\¬(depth<0\/4<depth)/\¬(8<a.hV.d5.d3.length\/8<b.hV.d5.d3.length):=by grind[H5,dz,d8,d9]
variable{p:CU}
theorem bQ(f:p.moves=[]){h0:AG}{m0:d6}(e:I1 t rules h0 m0 0 0 [p]):dB t rules 0 p=Y [p]:=ZG 301 0 [p] U e λ_=>by
 grind [AA]
theorem nR(f:U9 t rules a b)(v:Tc t rules a b):Qh t rules a b 0=Y [⟨[],a.hV,MD a (I6 a b)⟩]:=bQ rfl (LF f.hf f.hr (La f v).ga (La f v).ma U)
theorem lg(f:U9 t rules a b)(v:Tc t rules a b):OJ t rules a b 0=Y [⟨[],b.hV,MD b (I6 a b)⟩]:=bQ rfl (LF f.hf f.hr (La f v).gb (La f v).mb U)
end
end Go.Sf.Sc
namespace Go.Sf.Sc
open Go Go.Sf
section
variable{t:AC}{rules:List ff}{a b:AU}
variable{ρ:Type}
theorem XS{c:Int->Option ρ}{n:Int}{v:ρ}(e:0<n)(h:c 0=Y v):fst c 0 n=Y v:=by
 unfold fst;rw[show(n-0).toNat=((n-0).toNat-1)+1 by omega,FM,h]
theorem kQ(f:U9 t rules a b)(e:(EH t rules a b 0 T).2=0)(B:(EH t rules a b 1 T).2≠3):EH t rules a b 1 T=EH t rules a b 0 T/\(EH t rules a b 0 T).1.gp.mo.length+(EH t rules a b 0 T).1.ei.mo.length=0:=by
 obtain ⟨L,R,r,v,_,C,D,N,E⟩:=uF f e;obtain⟨hv,_,z⟩:=kZ e;have g:=La f v;have G:=nR f v;have H:=lg f v;rw[G]at C;rw[H]at D;cases C;cases D;obtain⟨s,Q,S,O,_⟩:=Cl N;obtain rfl:s=0:=U
 obtain ⟨i,θ,i1,P,_⟩:=Cl O;simp only[z?]at i1;obtain rfl:i=0:=U
 obtain ⟨k,ε,A,F,_⟩:=Cl P;simp only[z?]at A;obtain rfl:k=0:=U
 obtain ⟨κ,η,ζ,δ⟩:=oB F;have J:(EH t rules a b 0 T).1.gp.mo.length+(EH t rules a b 0 T).1.ei.mo.length=0:=by
  rw [E];show r.1.moves.length+r.2.1.moves.length=0;omega
 refine ⟨?_,J⟩;cases u:Qh t rules a b 1 with
 |none=>
  refine absurd ?_ B;rw[VT hv U z,u]
 |some L=>
 cases w:OJ t rules a b 1 with
 |none=>
  refine absurd ?_ B;rw[VT hv U z,u,w]
 |some R=>
 obtain ⟨_,x,rfl⟩:=QB f.hf f.hr g.ma (depth:=1) U 301 0 _ L U (LF f.hf f.hr g.ga g.ma U) u;obtain⟨_,y,rfl⟩:=QB f.hf f.hr g.mb (depth:=1) U 301 0 _ R U (LF f.hf f.hr g.gb g.mb U) w;rw[kc hv U z u w,E];have K:S8 T ([⟨[],a.hV,MD a (I6 a b)⟩]++x) ([⟨[],b.hV,MD b (I6 a b)⟩]++y) 0 0 0=Y r:=F;have M:Uh T ([⟨[],a.hV,MD a (I6 a b)⟩]++x) ([⟨[],b.hV,MD b (I6 a b)⟩]++y) 1=Y r:=
  XS U (XS V (XS V K))
 rw [M];rfl
end
theorem Zj(d:HM)(hd:ZA d):MO d=Y X:=by
 obtain ⟨⟨t,rules,h,ok⟩,e,k⟩:=oW hd;unfold MO;rw[e,bs,pv,bs];cases ok with
 |false=>rfl|true=>
 have p:R3 t rules h:=k rfl;have two:=p.two;have m0:AA rules 0∈rules:=AF U U;have m1:AA rules 1∈rules:=AF U U;obtain⟨A,B,C⟩:=bF p m0;obtain⟨l1,D,E⟩:=bF p m1;dsimp only;rw[ae V,AD U U,bs,B,bs,aO]
 .rfl
 intro i u i1;have ha:=C _ (AF u i1);rw[AD u i1,bs,AD (l:=rules) (i:=1) U U,bs,D,bs,aO]
 .rfl
 intro j w z;have hb:=E _ (AF w z);obtain⟨c,F⟩:=va (depth:=1) p ha hb;rw[AD w z,bs,F,bs];split
 .rfl
 have f:=eZ p ha hb;unfold Q7;rw[jP f,bs,bs,jP f,bs,bs];dsimp only;by_cases h0:(EH t rules (AA A i) (AA l1 j) 0 T).2=0/\(EH t rules (AA A i) (AA l1 j) 1 T).2≠3
 .obtain⟨G,z2⟩:=kQ f h0.1 h0.2;rw[G,ac (by simp[h0.1]),ae (by simp[h0.1]),m8 (pQ p ha) (pQ p hb),bs,bs,bs,ae];rw[AT U U];simp;omega
 .rw[ae (by simpa using h0),bs,ae a!]
end Go.Sf.Sc
namespace Go.Sf.Sc
open Go Go.Sf
section
variable{t:AC}{rules:List ff}{a b:AU}{depth:Int}
end
end Go.Sf.Sc
