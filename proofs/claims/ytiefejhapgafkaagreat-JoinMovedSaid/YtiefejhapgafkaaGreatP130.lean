/- Plain lemmas. -/
import Derived.Test.YtiefejhapgafkaaGreatP46
set_option linter.all false
set_option maxRecDepth 100000
open Option renaming some->Y,none->W
open Bool renaming true->X,false->T
open Int renaming toNat_natCast->x!,lt_or_le->x?,eq_ofNat_of_zero_le->y_
open List renaming nodup_range->y!,getElem?_eq_getElem->y?,mem_filter->z_,length_filter_le->z!,filter_append->z?,mem_map->A_,mem_append->A',mem_singleton->A!,append_nil->A?,length_singleton->B_,take_append_drop->B',take_sublist->B!,any_eq_false->B?,mem_cons->C_,mem_cons_of_mem->C',any_eq_true->C!,getElem?_modify->C?,length_set->D_,getD_eq_getElem?_getD->D',zip_map'->D!,map_id->D?,replicate->E_,take_length->E',countP_cons->E!,take_of_length_le->E?,take_take->F_,flatten_append->F!,take_zero->F?,length_replicate->G_,map_map->G!,map_congr_left->G?,map->H_
open Bool renaming not_eq_false->H',not_eq_true'->H!,or_eq_false_iff->H?,eq_false_iff->I_,not_eq_true->I',or_eq_true->I!,true_and->I?,eq_iff_iff->J_
open Classical renaming not_not->J',byContradiction->J!
namespace Go.Sf.Sc
open Go Go.Sf
variable{n:Nat}
def o5(h:n<=1000):L3 0 n=Y (Az n):=by
 unfold L3;rw[Bo (a:=0) (b:=(n:Int)) (s:=[]) (λi=>Az i.toNat) U rfl,bs,x!];intro i e i1;rw[AP (by rw[Ay];simp;unfold AX;omega),bs,Et e,Int.zero_add,AU U U]
def IM(l:Fp)(n:Nat):Prop:=l.Perm (Az n)
variable{l:Fp}
def IM.len(h:IM l n):l.length=n:=by rw[h.length_eq,Ay]
def IM.mem(h:IM l n){x:Int}:x∈l↔0<=x/\x<n:=by rw[h.mem_iff,DA]
variable{i j:Int}
def IM.ne(h:IM l n)(f:0<=j)(u:j<i)(i1:i<n):AA l j≠AA l i:=by
 have hd:l.Nodup:=h.nodup_iff.2 (by
  unfold Az;exact List.Pairwise.map _ (λa b h e=>h (Int.ofNat.inj e)) y!)
 have:=h.len;exact Ia hd f u U
def bQ(A:n<=1000){f:Fp}(B:∀x∈f,U8 x):∃l,JP n f=Y l/\IM l n:=by
 unfold JP;rw[o5 A,bs];refine E7 (λi l=>0<=i/\IM l n) n ⟨U,.refl _⟩ (λi l C⟨a1,a2⟩=>?_) (λi l C⟨a1,a2⟩_=>⟨l,rfl,a2⟩);dsimp only;by_cases u:i<n/\i<f.length
 .left;have z:=B _ (AG a1 u.2);have F:=a2.len;obtain⟨r,e,G,H⟩:=Ce (show 0<=AJ (AA f i)by rw[z.w];exact z.1) (show 0<(n:Int)-i by omega);refine⟨u.1,BE (BE l i (AA l (i+r))) (i+r) (AA l i),?_,U,?_⟩
  .rw[ac d?,AD a1 u.2,bs,AU (n:=(n:Int)-i) U U,e,bs,AU (n:=i+r) U U,AD U U,bs,AD a1 U,bs,bs,AD U u_,bs,AU (n:=i+1) U U]
  .refine List.Perm.trans ?_ a2;have D:i.toNat<l.length:=U
   have E:(i+r).toNat<l.length:=U
   have:=@List.set_set_perm _ l _ _ D E;unfold BE
   rwa [show AA l i=l[i.toNat]by grind[AA,y?],show AA l (i+r)=l[(i+r).toNat]by grind[AA,y?]]
 .right;rw[ae d?]
def j8(h:IM l n):Gc l=Y 0:=by
 have z:=h.len;unfold Gc;rw[Bi (λ_=>(W:a5)),A8.2 (λ_ _ _=>rfl),Dj]
 .dsimp only;rw[Bi (λ_=>(W:a5)),A8.2 (λ_ _ _=>rfl),Dj];intro i f i1 _;rw[Bi (λ_=>(W:a5)),A8.2 (λ_ _ _=>rfl),Dj]
  .rfl
  .intro j u w _;rw[AD f i1,bs,AD u U,bs,ae (by rw[decide_eq_true_iff];exact λe=>h.ne u w U e.symm)];rfl
 .intro i f i1 _;have A:=h.mem.1 (AG f i1);rw[AD f i1,bs,ae an,bs,bs,ae an];rfl
structure ReO(g g':d3)(m:d4):Prop where
 nl:g'.dl.length=g.dl.length
 el:g'.dr.length=g.dr.length
 node:∀i:Int,0<=i->i<g.dl.length->AA g'.dl (AA m.dl i)=AA g.dl i
 edge:∀i:Int,0<=i->i<g.dr.length->AA g'.dr (AA m.dr i)=⟨(AA g.dr i).ib,AA m.dl (AA g.dr i).ia,AA m.dl (AA g.dr i).To⟩
variable{g:d3}
def Sa(e:Cu g):Dq g=Y g:=by
 have:=e.ea;have:=e.eb;unfold Dq;rw[BZ b_,bs,BZ b_,bs]
variable{m:d4}
def ol(C:Cu g)(A:IM m.dl g.dl.length)(he:IM m.dr g.dr.length):∃v,L4 g m=Y v/\v.2=0/\ReO g v.1 m:=by
 have G:=A.len;have H:=he.len;unfold L4;rw[Na,bs,ae (by simp[EM C]),ae (by simp[G,H]),j8 A,bs,ae a!,j8 he,bs,ae a!,Sa C,bs];refine Oz (λi s=>s.dr=g.dr/\s.dl.length=g.dl.length/\∀k:Int,0<=k->k<i->AA s.dl (AA m.dl k)=AA g.dl k) U ⟨rfl,rfl,λk w D=>U⟩ (λi s f i1⟨a1,a2,a3⟩=>?_) (λs⟨a1,a2,a3⟩=>?_)
 .have z:=A.mem.1 (AG f U);refine⟨⟨BE s.dl (AA m.dl i) (AA g.dl i),s.dr⟩,?_,a1,by rw[DW];exact a2,λk w D=>?_⟩
  .rw[AD f U,bs,AD f i1,bs,AD z.1 U,bs]
  .by_cases e:k=i
   .rw[e];exact P8 _ z.1 U
   .have J:=A.mem.1 (AG w U);exact(Tc _ z.1 J.1 (A.ne w U i1)).trans (a3 k w U)
 refine Oz (λi u=>u.dl=s.dl/\u.dr.length=g.dr.length/\∀k:Int,0<=k->k<i->AA u.dr (AA m.dr k)=⟨(AA g.dr k).ib,AA m.dl (AA g.dr k).ia,AA m.dl (AA g.dr k).To⟩) U ⟨rfl,by rw[a1],λk w D=>U⟩ (λi u f i1⟨B,E,F⟩=>?_) (λu⟨B,E,F⟩=>⟨_,rfl,rfl,by rw[B];exact a2,E,λi f i1=>by rw[B];exact a3 i f i1,F⟩);have z:=he.mem.1 (AG f U);have hf:=C.fit _ (AG f i1);refine⟨⟨u.dl,BE u.dr (AA m.dr i) ⟨(AA g.dr i).ib,AA m.dl (AA g.dr i).ia,AA m.dl (AA g.dr i).To⟩⟩,?_,B,by rw[DW];exact E,λk w D=>?_⟩
 .rw[AD f i1,bs,AD f U,bs,AD hf.2.1.1 U,bs,AD hf.2.2.1 U,bs,AD z.1 U,bs]
 .by_cases e:k=i
  .rw[e];exact P8 _ z.1 U
  .have J:=he.mem.1 (AG w U);exact(Tc _ z.1 J.1 (he.ne w U i1)).trans (F k w U)
end Go.Sf.Sc
namespace Go.Sf.Sc
open Go Go.Sf
def wg(x:Int):Prop:=0<=x/\x<18446744073709551616
def ABl{a b:Int}(ha:wg a)(hb:0<=b):∃r,Gy .u64 .shr a b=Y r:=by
 unfold Gy;dsimp only;have e:(0:Int)<=2^ (min b.toNat IntKind.u64.bits):=Int.pow_nonneg U;have f:=Int.ediv_nonneg ha.1 e;have u:=Int.ediv_le_self (2^ (min b.toNat IntKind.u64.bits)) ha.1;rw[Int.fdiv_eq_ediv_of_nonneg _ e,ac ⟨hb,f,by have:=ha.2;show _<=(18446744073709551615:Int);omega⟩];exact⟨_,rfl⟩
def Yo(l:a6):Fp:=(Az l.length).filter λi=>AA l i
variable{i:Int}
def S8{l:a6}:i∈Yo l↔(0<=i/\i<l.length)/\AA l i=X:=by
 unfold Yo;rw[z_,DA]
def oA(l:a6):(∀x∈Yo l,0<=x/\x<l.length)/\(Yo l).Pairwise (·<·):=by
 refine ⟨λx e=>(S8.1 e).1,List.Pairwise.filter _ ?_⟩;unfold Az;exact List.Pairwise.map _ (λa b h=>Int.ofNat_lt.2 h) List.pairwise_lt_range
def gD{l:a6}(u:l.length<=1000):Kw l=Y (Yo l):=by
 unfold Kw;rw[Bo (a:=0) (b:=(l.length:Int)) (s:=[]) (λi=>(Az i.toNat).filter λi=>AA l i) U rfl,bs,x!]
 .rfl
 .intro i f i1;have w:((Az i.toNat).filter λi=>AA l i).length<=i.toNat:=by
   have:=z! (λi=>AA l i) (Az i.toNat)
   rwa [Ay]at this
  rw [AD f i1,bs,Et f,z?];cases e:AA l i
  .simp[e]
  .rw[ac rfl,AP a_,bs];simp[e]
variable{l:Fp}
def di{n:Int}(h:∀x∈l,0<=x/\x<n)(e:l.Pairwise (·<·)):P7 l n=0:=by
 unfold P7;rw[A8.2]
 .rfl
 intro i f i1;have:=h _ (AG f i1);rw[ae U,ae];rintro⟨u,k⟩;have:=Ia e (show 0<=i-1 by omega) (show i-1<i by omega) i1;omega
variable{g:d3}
def bL{p:BM}(h:Qx g p):OW g p=0:=by
 unfold OW;rw[ae (by simp[di h.ea.1 h.ea.2]),ae (by simp[di h.eb.1 h.eb.2]),A8.2]
 .rfl
 intro i e i1;have:=h.ends _ (AG e i1);rw[ac (by rw[mo,B7,B7];exact this)]
def vc(u:Cu g){ea eb:a6}(F:ea.length=g.dl.length)(he:eb.length=g.dr.length):∃p,OD g ea eb=Y p/\Qx g p:=by
 have N:=u.ea;have O:=u.eb;unfold OD;rw[BZ b_,bs];refine Oz (λi s=>s.length=g.dl.length/\∀k:Int,0<=k->k<i->AA eb k=X->AA s (AA g.dr k).ia=X/\AA s (AA g.dr k).To=X) U ⟨F,λk w D=>U⟩ (λi s A i1⟨a1,a2⟩=>?_) (λs⟨a1,a2⟩=>?_)
 .rw[AD A i1,bs];cases e:AA eb i
  .refine⟨s,rfl,a1,λk w D z=>?_⟩;by_cases h:k=i
   .rw[h,e]at z;cases z
   .exact a2 k w U z
  .have hf:=(u.fit _ (AG (l:=g.dr) A U)).2;rw[ac rfl,AD A U,bs,bs,AD hf.1.1 U,bs,AD hf.2.1 u_,bs];refine⟨_,rfl,by rw[DW,DW];exact a1,λk w D z=>?_⟩;have fd:∀{x j:Int}{l:a6},0<=x->x<l.length->0<=j->AA l j=X->AA (BE l x X) j=X:=λ{x j l}x0 x1 G H=>by
    by_cases e:j=x
    .rw[e];exact P8 _ x0 x1
    .rw[Tc _ x0 G e];exact H
   have f:=(u.fit _ (AG (l:=g.dr) w U)).2;by_cases K:k=i
   .rw[K];exact⟨fd hf.2.1 u_ hf.1.1 (P8 _ hf.1.1 U),P8 _ hf.2.1 u_⟩
   .obtain⟨B,C⟩:=a2 k w U z;exact⟨fd hf.2.1 u_ f.1.1 (fd hf.1.1 U f.1.1 B),fd hf.2.1 u_ f.2.1 (fd hf.1.1 U f.2.1 C)⟩
 .rw[gD U,bs,gD U,bs];have m1:=oA s;have E:=oA eb;rw[a1]at m1;rw[he]at E;refine⟨_,rfl,m1,E,λx J=>?_⟩;obtain⟨⟨x0,x1⟩,M⟩:=S8.1 J;have hf:=(u.fit _ (AG (l:=g.dr) x0 U)).2;obtain⟨B,C⟩:=a2 x x0 x1 M;exact⟨S8.2 ⟨⟨hf.1.1,U⟩,B⟩,S8.2 ⟨⟨hf.2.1,U⟩,C⟩⟩
def rg(A:Cu g){set:Int}(G:wg set):∃p,Ph g set=Y p/\Qx g p:=by
 have M:=A.ea;have N:=A.eb;have w:∀{i:Int},0<=i->∃r q,Di i 64=Y r/\Gy .u64 .shr set r=Y q:=λ{i}B=>by
  obtain ⟨r,e,J,_⟩:=Ce B (show(0:Int)<64 by omega);obtain⟨q,z⟩:=ABl G J;exact⟨r,q,e,z⟩
 have nd:∀q:Int,∃r,Gy .u64 .and q 1=Y r:=λq=>⟨_,rfl⟩;unfold Ph;rw[Gg,ac U,bs,Gg,ac U,bs];refine E7 (λi s=>0<=i/\s.length=g.dl.length) g.dl.length ⟨U,V⟩ (λi s B⟨a1,a2⟩=>?_) (λi s B⟨a1,a2⟩_=>?_)
 .dsimp only;by_cases f:i<s.length
  .left;obtain⟨r,q,D,z⟩:=w a1;obtain⟨b,E⟩:=nd q;refine⟨U,BE s i (decide (b=1)),?_,U,by rw[DW];exact a2⟩;rw[ac w_,D,bs,z,bs,E,bs,AD a1 f,bs,AU U U]
  .right;rw[ae w_]
 dsimp only;refine E7 (λj u=>0<=j/\u.length=g.dr.length) g.dr.length ⟨U,V⟩ (λj u H⟨F,C⟩=>?_) (λj u H⟨F,C⟩_=>?_)
 .dsimp only;by_cases f:j<u.length
  .left;obtain⟨r,q,D,z⟩:=w (show 0<=(s.length:Int)+j by omega);obtain⟨b,E⟩:=nd q;refine⟨U,BE u j (decide (b=1)),?_,U,by rw[DW];exact C⟩;rw[ac w_,AU (n:=(s.length:Int)+j) U U,D,bs,z,bs,E,bs,AD F f,bs,AU U U]
  .right;rw[ae w_]
 .obtain⟨p,e,K⟩:=vc A a2 C;exact⟨p,by rw[e,bs],K⟩
end Go.Sf.Sc
namespace Go.Sf.Sc
open Go Go.Sf
variable{α:Type}{n:Nat}
def P2{f:α->TV}{l:List α}(h:l.length<=1000)(hf:∀x,(f x).Sm):(eL n f l).Sm:=by
 refine ⟨u!,MK.2 λt e=>?_⟩;obtain⟨x,_,rfl⟩:=A_.1 e;exact hf x
def ZG(x:Int):(eI x).Sm:=trivial
def y6(x:B0):(CB x).Sm:=by simp[CB,TV.Sm,TV.Sms,eI]
def y7(x:CF):(FQ x).Sm:=by simp[FQ,TV.Sm,TV.Sms,eI]
def y8(x:Test):(F9 x).Sm:=by simp[F9,TV.Sm,TV.Sms,eI]
def iw(g:d3):Prop:=g.dl.length<=1000/\g.dr.length<=1000
def dx{c:d5}(w:∀k∈c.fl,(AI k).Sm)(h0:c.fl.length<=1000)(e:c.Map.dl.length<=1000/\c.Map.dr.length<=1000)(f:iw c.d6.d3)(u:c.d6.ei.length<=1000/\c.d6.jj.length<=1000):(AI c).Sm:=by
 refine ⟨trivial,?_,P2 e.1 ZG,P2 e.2 ZG,P2 f.1 ZG,P2 f.2 y6,P2 u.1 y7,trivial,P2 u.2 y8,trivial⟩;unfold Ei;rw[NR];refine⟨u!,MK.2 λt z=>?_⟩;obtain⟨x,A,rfl⟩:=A_.1 z;exact w x A
variable{r:ey}
def pI(h0:r.kh.size<=1000)(e:iw r.f0.d3)(f:r.f0.ei.length<=1000/\r.f0.jj.length<=1000)(u:iw r.eh.d3)(w:r.eh.ei.length<=1000/\r.eh.jj.length<=1000)(z:r.mR.dl.length<=1000/\r.mR.dr.length<=1000)(A:r.l4.dl.length<=1000/\r.l4.dr.length<=1000)(B:(AI r.d5).Sm):(CH r).Sm:=by
 obtain ⟨C,D,c3,E,c5,F,G,H,J,_⟩:=B;exact⟨by show r.kh.size<=reachBytes;unfold reachBytes;omega,P2 e.1 ZG,P2 e.2 y6,P2 f.1 y7,trivial,P2 f.2 y8,P2 u.1 ZG,P2 u.2 y6,P2 w.1 y7,trivial,P2 w.2 y8,P2 z.1 ZG,P2 z.2 ZG,P2 A.1 ZG,P2 A.2 ZG,trivial,C,D,c3,E,c5,F,G,H,J,trivial⟩
def F7.sm{t:AC}(h:F7 t):(AL t).Sm:=by
 have hf:=h.few;refine⟨⟨by rw[c9];have:=hf.ea;unfold reachBytes;omega,MK.2 λx f=>?_⟩,⟨by rw[c9];have:=hf.eb;unfold reachBytes;omega,MK.2 λx f=>?_⟩,trivial⟩
 .obtain⟨n,w,rfl⟩:=A_.1 f;have D:=hf.name n w;have E:=hf.Abb n w;refine⟨by show n.kh.size<=reachBytes;unfold reachBytes;omega,trivial,trivial,⟨u!,MK.2 λy A=>?_⟩,trivial⟩;obtain⟨a,ha,rfl⟩:=A_.1 A;have u:=hf.each n w a ha;refine⟨by show a.kh.size<=reachBytes;have:=u.name;unfold reachBytes;omega,trivial,trivial,⟨by rw[c9];have:=u.names;unfold reachBytes;omega,MK.2 λz B=>?_⟩,trivial⟩;obtain⟨s,C,rfl⟩:=A_.1 B;show s.size<=reachBytes;have:=u.each s C;unfold reachBytes;omega
 .obtain⟨e,he,rfl⟩:=A_.1 f;have:=hf.AbO e he;exact⟨by show e.kh.size<=reachBytes;unfold reachBytes;omega,trivial,trivial,trivial,trivial,trivial,trivial,trivial⟩
structure Wr(t:AC)(g:d3):Prop where
 ok:Cu g
 kind:∀n∈g.dl,0<=n/\n<t.dl.length
 et:∀e∈g.dr,e.ib<t.dr.length
variable{g:d3}
def Sn.okG{t:AC}(f:F7 t)(h:Sn t g):Wr t g:=⟨(h.ok f).1,h.kind,λe he=>(h.fit e he).1.2⟩
def rY{t:AC}{p:BM}(h:Wr t g)(f:Qx g p):Wr t (DJ g p)/\p.dl.length<=g.dl.length/\p.dr.length<=g.dr.length:=by
 have l1:=iz f.ea.1 f.ea.2;have l2:=iz f.eb.1 f.eb.2;have B:=h.ok.ea;have C:=h.ok.eb;refine⟨⟨⟨by simp[DJ];omega,by simp[DJ];omega,λn w=>?_,λe he=>?_⟩,λn w=>?_,λe he=>?_⟩,l1,l2⟩
 .obtain⟨x,u,rfl⟩:=A_.1 w;exact h.ok.kind _ (AG (f.ea.1 x u).1 (f.ea.1 x u).2)
 .obtain⟨x,u,rfl⟩:=A_.1 he;have hf:=h.ok.fit _ (AG (f.eb.1 x u).1 (f.eb.1 x u).2);have z:=Hu (f.ends x u).1;have A:=Hu (f.ends x u).2;simp only[DJ,c9];exact⟨hf.1,⟨z.1,z.2.1⟩,A.1,A.2.1⟩
 .obtain⟨x,u,rfl⟩:=A_.1 w;exact h.kind _ (AG (f.ea.1 x u).1 (f.ea.1 x u).2)
 .obtain⟨x,u,rfl⟩:=A_.1 he;have:=h.et _ (AG (f.eb.1 x u).1 (f.eb.1 x u).2);exact this
def QW(t:AC):Fp:=(Az t.dl.length).filter λi=>!(AA t.dl i).o3
variable{i:Int}
def P9{t:AC}:i∈QW t↔(0<=i/\i<t.dl.length)/\(AA t.dl i).o3=T:=by
 unfold QW;rw[z_,DA];simp
def aA{t:AC}(h:t.dl.length<=1000):kx (λ(f:Int)(z:Fp)=>
 (idx t.dl f).bind λu=>
 if (!u.o3)=X then
 (AY z [f]).bind λw=>
 Y w
 else
 Y z) 0 (t.dl.length:Int) []=Y (QW t):=by
 rw [Bo (a:=0) (b:=(t.dl.length:Int)) (s:=[]) (λi=>(Az i.toNat).filter λi=>!(AA t.dl i).o3) U rfl,x!]
 .rfl
 .intro i f i1;have A:((Az i.toNat).filter λi=>!(AA t.dl i).o3).length<=i.toNat:=by
   have:=z! (λi=>!(AA t.dl i).o3) (Az i.toNat)
   rwa [Ay]at this
  rw [AD f i1,bs,Et f,z?];cases e:(AA t.dl i).o3
  .rw[ac (show(!T)=X from rfl),AP a_,bs];simp[e]
  .simp[e]
def tS(t:AC)(k g:d3):Prop:=∃xs ys,g=⟨k.dl++xs,k.dr++ys⟩/\xs.length<=2/\ys.length<=2/\(∀x∈xs,x∈QW t)/\∀e∈ys,VJ t g.dl.length e/\LV t e.ib (AA g.dl e.ia) (AA g.dl e.To)=X
variable{d:GG}
def vj{t:AC}(H:F7 t){k:d3}(E:Wr t k)(O:∀x∈d.dl,U8 x)(he:∀x∈d.dr,U3 x):∃g,OJ t k d=Y g/\tS t k g:=by
 have Z:=E.ok.ea;have h2:=E.ok.eb;have θ:=H.ea;unfold OJ Nj;rw[Sa E.ok,bs,aA U,bs,bs];refine E7 (λi s=>(0<=i/\i<=2)/\∃xs:Fp,s=⟨k.dl++xs,k.dr⟩/\(xs.length:Int)<=i/\∀x∈xs,x∈QW t) 2 ⟨U,[],V,V,λx f=>by cases f⟩ (λi s P⟨a1,xs,a2,a3,F⟩=>?_) (λi s P⟨a1,xs,a2,a3,F⟩_=>?_)
 .dsimp only;by_cases z:(i<d.dl.length/\i<2)/\0<((QW t).length:Int)
  .left;have f:=O _ (AG a1.1 z.1.1);obtain⟨r,e,B,A⟩:=Ce (show 0<=AJ (AA d.dl i)by rw[f.w];exact f.1) z.2;refine⟨U,⟨k.dl++(xs++[AA (QW t) r]),k.dr⟩,?_,U,_,rfl,an,λx f=>(A'.1 f).elim (F x) λf=>A!.1 f▸AG B A⟩;rw[ac d!,AD a1.1 z.1.1,bs,e,bs,AD B A,bs,a2,AP a_,bs,AU (n:=i+1) U U,ci]
  .right;rw[ae d!]
 subst a2;dsimp only;refine E7 (λj u=>(0<=j/\j<=2)/\∃ys:List B0,u=⟨k.dl++xs,k.dr++ys⟩/\(ys.length:Int)<=j/\∀e∈ys,VJ t (k.dl++xs).length e/\LV t e.ib (AA (k.dl++xs) e.ia) (AA (k.dl++xs) e.To)=X) 2 ⟨U,[],V,V,λx f=>by cases f⟩ (λj u Q⟨B,ys,A,S,D⟩=>?_) (λj u Q⟨B,ys,A,S,D⟩_=>⟨u,rfl,xs,ys,A,U,U,F,by rw[A];exact D⟩);dsimp only;by_cases z:((j<d.dr.length/\j<2)/\0<((k.dl++xs).length:Int))/\0<(t.dr.length:Int)
 .left;have f:=he _ (AG B.1 z.1.1.1);obtain⟨r,ε,κ,η⟩:=Ce (show 0<=AJ (AA d.dr j).a0 by rw[f.1.w];exact f.1.1) z.2;obtain⟨r1,ζ,J,K⟩:=Ce (show 0<=AJ (AA d.dr j).a1 by rw[f.2.1.w];exact f.2.1.1) z.1.2;obtain⟨r2,δ,M,N⟩:=Ce (show 0<=AJ (AA d.dr j).a2 by rw[f.2.2.w];exact f.2.2.1) z.1.2;refine⟨U,?_⟩;rw[ac d!,AD B.1 z.1.1.1,bs,ε,bs,bs,ζ,bs,bs,δ,bs,A];dsimp only;rw[AD J K,bs,AD M N,bs,Y6 H.few,bs,AU (n:=j+1) U U];split
  .rename_i C;rw[AP a_,bs,ci];exact⟨_,rfl,U,_,rfl,an,λe G=>(A'.1 G).elim (D e) λG=>by
    rw [A!.1 G];exact⟨⟨⟨κ,η⟩,⟨J,K⟩,M,N⟩,C⟩⟩
  .exact⟨_,rfl,U,ys,rfl,U,D⟩
 .right;rw[A,ae d!]
variable{β σ:Type}{I:σ->Prop}
def jO{ζ:Option β}{mk:σ->β}(h:∃r,ζ=Y r/\∃s',r=mk s'/\I s'):∃s',ζ=Y (mk s')/\I s':=by
 obtain ⟨_,e,s',rfl,hi⟩:=h;exact⟨s',e,hi⟩
def dV(t:AC)(g:d3)(v:Int)(l:List CF):Prop:=l.length<=3/\(∀s∈l,RU t g v s)/\∀i j:Int,0<=j->j<i->i<l.length->¬((AA l j).mL=(AA l i).mL/\(AA l j).ke=(AA l i).ke)
variable{v:Int}
def vu{t:AC}(J:F7 t)(hg:g.dl.length<=100)(hv:0<=v/\v<=3){l:List Ke}(K:∀x∈l,U3 x):∃s,OK t g v l=Y s/\dV t g v s:=by
 unfold OK;refine E7 (λi s=>(0<=i/\i<=3)/\(s.length:Int)<=i/\(∀x∈s,RU t g v x)/\∀i j:Int,0<=j->j<i->i<s.length->¬((AA s j).mL=(AA s i).mL/\(AA s j).ke=(AA s i).ke)) 3 ⟨U,V,(λx f=>by cases f),λi j A D i1=>h_⟩ (λi s M⟨a1,a2,a3,B⟩=>?_) (λi s M⟨a1,a2,a3,B⟩_=>⟨s,rfl,U,a3,B⟩);dsimp only;by_cases C:(i<l.length/\i<3)/\0<(g.dl.length:Int)
 .left;have f:=K _ (AG a1.1 C.1.1);obtain⟨r,θ,G,H⟩:=Ce (show 0<=AJ (AA l i).a0 by rw[f.1.w];exact f.1.1) C.2;refine⟨U,?_⟩;rw[ac (by simpa using C),AD a1.1 C.1.1,bs,θ,bs,AD G H,bs,O7 J.few,bs,AU (n:=i+1) U U];by_cases h0:((Fw t (AA g.dl r)).1.length:Int)=0
  .rw[ac (by simpa using h0)];exact⟨s,rfl,U,U,a3,B⟩
  obtain ⟨q,ε,κ,η⟩:=Ce (show 0<=AJ (AA l i).a1 by rw[f.2.1.w];exact f.2.1.1) (show 0<((Fw t (AA g.dl r)).1.length:Int)by omega);obtain⟨u,ζ,d1,d2⟩:=Zt f.2.1.1 (show(0:Int)<16 by omega);have hw:=uM u;obtain⟨y,δ,f1,f2⟩:=Ce (show 0<=AJ (IntKind.u8.wrap u)by rw[AU U U];omega) (show 0<v+1 by omega);obtain⟨z,Z,g1,g2⟩:=Ce (show 0<=AJ (AA l i).a2 by rw[f.2.2.w];exact f.2.2.1) (show(0:Int)<3 by omega);rw[ae (by simpa using h0),bs,ε,bs,bs,ζ,bs,AU (n:=v+1) U U,δ,bs,bs,Z,bs,AU (n:=y-1) U U];refine jO (mk:=λs'=>B2.next (s',i+1)) (Oz (λ(k:Int)(b:Bool)=>b=T->∀j:Int,0<=j->j<k->¬((AA s j).mL=r/\(AA s j).ke=q)) U (λ_ j A D=>U) (λk b N O hb=>?_) (λb hb=>?_))
  .cases b
   .rw[ae a!,AD N O,bs,bs];have old:∀{P:Prop},(P->False)->((AA s k).mL=r/\(AA s k).ke=q->P)->∀j:Int,0<=j->j<k+1->¬((AA s j).mL=r/\(AA s j).ke=q):=λ{P}Q S j A D F=>by
     by_cases e:j=k
     .exact Q (S (e▸F))
     .exact hb rfl j A U F
    by_cases E:(AA s k).mL=r
    .rw[ac l',bs,bs];exact⟨_,rfl,λh=>old (P:=(AA s k).ke=q) b? And.right⟩
    .rw[ae l',bs,bs];exact⟨_,rfl,λ_=>old (P:=(AA s k).mL=r) E And.left⟩
   .exact⟨X,rfl,λh=>c!⟩
  .cases b
   .rw[ac a!,AP a_,bs];refine⟨_,rfl,_,rfl,U,an,λx f=>(A'.1 f).elim (a3 x) λf=>?_,λi j A D i1=>?_⟩
    .rw[A!.1 f];exact⟨⟨⟨G,H⟩,κ,η⟩,b!,b!⟩
    .simp at i1;rw[Lz _ _ A U];by_cases e:i=s.length
     .rw[NJ _ _ e];exact hb rfl j A U
     .rw[Lz _ _ U U];exact B i j A D U
   .rw[ae a!];exact⟨_,rfl,_,rfl,U,U,a3,B⟩
 .right;rw[ae (by simpa using C)]
end Go.Sf.Sc
namespace Go.Sf.Sc
open Go Go.Sf
variable{m:d4}
def fF{a b:d3}(h:T9 a b m):I0 a b m=0:=by
 unfold I0;rw[ae (by simp[EM h.ga]),ae (by simp[EM h.gb]),ae (by simp[h.wi,h.x9]),A8.2]
 .dsimp only;rw[A8.2]
  .rfl
  intro i e i1;obtain⟨u,f,w,z⟩:=h.edge i e i1;unfold Gz;rw[ae U,ae w!,ae (by simp[w,z])]
 .intro i e i1;obtain⟨u,f⟩:=h.node i e i1;unfold Mr;rw[ae U,ae w!]
def Zy(n:Nat):(Az n).Nodup:=by
 unfold Az;exact List.Pairwise.map _ (λa b h e=>h (Int.ofNat.inj e)) y!
def xW(g:d3):Iz (Iy g)=X:=by
 unfold Iz Iy;rw[KC.2 (Zy _),KC.2 (Zy _)];rfl
def VE:d5:=⟨1,[],⟨[],[]⟩,⟨⟨[],[]⟩,[],0,[]⟩⟩
def VV{t:AC}{p:d6}(h:FK t p=0):Jf t p VE=0:=by
 obtain ⟨n,e⟩:∃n,SizeOf.sizeOf VE=n+1:=⟨SizeOf.sizeOf VE-1,by have:=D5 VE;omega⟩;have f:NB VE=0:=by
  unfold NB kS WY;rw[e];rfl
 unfold Jf;rw[ae l_,ae w!,e];rfl
def ZN:(AI VE).Sm:=dx (λk e=>p?) a! a! (by unfold iw;decide) a!
def PT(g:d3)(v:Int)(k:d3):d5:=⟨2,[⟨5,[VE],Iy g,⟨k,[],v,[]⟩⟩],⟨[],[]⟩,⟨⟨[],[]⟩,[],0,[]⟩⟩
def aB{t:AC}(hv:(BD t).2=0){p:d6}(h:FK t p=0){k:d3}(w:Wr t k){xs:Fp}{ys:List B0}(z:k.dl=p.d3.dl++xs)(he:k.dr=p.d3.dr++ys):Jf t p (PT p.d3 p.em k)=0:=by
 have u:=Xj hv (.inl h);obtain⟨D,_⟩:=Y3 h;have C:k.dl.length=p.d3.dl.length+xs.length:=by rw[z,b6]
 have B:k.dr.length=p.d3.dr.length+ys.length:=by rw[he,b6]
 have inn:TU t ⟨k,[],p.em,[]⟩ p.em=0:=by
  have A:FK t ⟨k,[],p.em,[]⟩=0\/FK t ⟨k,[],p.em,[]⟩=9:=by
   unfold FK;rw[ae j!,ae (by simp[EM w.ok]),ae (by simp[U5 (λn z=>(w.kind n z).2) w.et]),ae b!,ae V,ae V,ae (by simp[U0 u.1 u.2])];split
   .exact .inr rfl
   .exact .inl rfl
  unfold TU;rcases A with A|A
  .rw[ac U,A]
  .rw[ae U,ae];rw[Cz];rintro⟨i,f,i1,_⟩;exact absurd i1 b!
 have mor:I0 p.d3 k (Iy p.d3)=0:=by
  refine fF ⟨D,w.ok,Ay _,Ay _,λi f i1=>?_,λi f i1=>?_⟩
  .simp only[Iy,Ay]at i1|-;rw[JB _ f i1,z];exact⟨⟨f,an⟩,Ki f i1⟩
  .simp only[Iy,Ay]at i1|-;have hf:=(D.fit _ (AG f i1)).2;rw[JB _ f i1,he,Ki f i1,JB _ hf.1.1 hf.1.2,JB _ hf.2.1 hf.2.2];exact⟨⟨f,an⟩,rfl,rfl,rfl⟩
 have E:=Eg (c:=PT p.d3 p.em k) (A!.2 rfl);have s2:=Eg (c:=⟨5,[VE],Iy p.d3,⟨k,[],p.em,[]⟩⟩) (A!.2 rfl);have F:=D5 VE;obtain⟨n,e⟩:∃n,SizeOf.sizeOf (PT p.d3 p.em k)=n+3:=⟨SizeOf.sizeOf (PT p.d3 p.em k)-3,U⟩;have sh:NB (PT p.d3 p.em k)=0:=by
  unfold NB kS WY;rw[e];rfl
 unfold Jf;rw[ae l_,ae (by simp[sh]),e,JI,ae (show¬(PT p.d3 p.em k).kg=5 from(by decide:¬(2:Int)=5)),A8.2]
 .rfl
 intro i f i1;obtain rfl:i=0:=by
  have:i<1:=i1;omega
 refine G9.2 ?_;show JI (n+2) t p ⟨5,[VE],Iy p.d3,⟨k,[],p.em,[]⟩⟩=0;rw[JI,ac rfl,ae (Int.lt_irrefl _),ae (by simp[inn]),ae (by simp[mor]),ae (by simp[xW]),A8.2]
 .rfl
 intro i f i1;obtain rfl:i=0:=by
  have:i<1:=i1;omega
 refine G9.2 ?_;show JI (n+1) t ⟨k,[],p.em,[]⟩ VE=0;rfl
def rk{t:AC}(u:F7 t){p:d6}(E:kc t p){x:WL}(h0:U8 x.a0)(A:U8 x.a1)(F:U8 x.a2)(G:U8 x.a3):∃c,M3 t p x=Y c/\Jf t p c=0/\(AI c).Sm:=by
 have B:=E.zero u;have z:=E.g;have ho:=z.ok u;have P:=z.ea;have M:=z.eb;have Q:=u.ea;have S:=u.eb;have tp:=u.pos;obtain⟨r,e,θ,ε⟩:=Ce h0.1 (show(0:Int)<4 by omega);have sm:∀k:d3,iw k->(AI (PT p.d3 p.em k)).Sm:=λk K=>by
  refine dx (λc C=>?_) (by simp[PT]) (by simp[PT]) (by unfold iw;simp[PT]) (by simp[PT]);rw[A!.1 C];refine dx (λc C=>?_) V ⟨by simp[Iy,Ay];omega,by simp[Iy,Ay];omega⟩ K V;rw[A!.1 C];exact ZN
 unfold M3;rw[Sa ho.1,bs,e,bs];by_cases H:r=1
 .obtain⟨a,D,a0,a1⟩:=Ce (show 0<=AJ x.a1 by rw[A.w];exact A.1) (show 0<(t.dl.length:Int)by omega);rw[ac w?,D,bs,AP a_,bs,yh (EM ho.1),bs,bs];refine⟨_,rfl,aB u.zero B (xs:=[a]) (ys:=[]) ⟨⟨an,b!,λn f=>?_,λe he=>?_⟩,λn f=>?_,λe he=>(z.fit e he).1.2⟩ rfl (A? _).symm,sm _ ⟨an,b!⟩⟩
  .rcases A'.1 f with f|f
   .exact ho.1.kind n f
   .rw[A!.1 f];omega
  .have:=ho.1.fit e he;simp only[b6,B_];omega
  .rcases A'.1 f with f|f
   .exact z.kind n f
   .rw[A!.1 f];exact⟨a0,a1⟩
 rw [ae w?];by_cases J:r=2
 .rw[ac (by simpa using J)];by_cases c3:(p.d3.dl.length:Int)=0\/(t.dr.length:Int)=0
  .rw[ac (by simpa using c3)];exact⟨_,rfl,VV B,ZN⟩
  .obtain⟨a,D,a0,a1⟩:=Ce (show 0<=AJ x.a1 by rw[A.w];exact A.1) (show 0<(t.dr.length:Int)by omega);obtain⟨b,N,κ,η⟩:=Ce (show 0<=AJ x.a2 by rw[F.w];exact F.1) (show 0<(p.d3.dl.length:Int)by omega);obtain⟨c,O,ζ,δ⟩:=Ce (show 0<=AJ x.a3 by rw[G.w];exact G.1) (show 0<(p.d3.dl.length:Int)by omega);rw[ae (by simpa using c3),D,bs,N,bs,O,bs,AP a_,bs,yh (EM ho.1),bs,bs];refine⟨_,rfl,aB u.zero B (xs:=[]) (ys:=[⟨a,b,c⟩]) ⟨⟨b!,an,ho.1.kind,λe he=>?_⟩,z.kind,λe he=>?_⟩ (A? _).symm rfl,sm _ ⟨b!,an⟩⟩
   .rcases A'.1 he with he|he
    .exact ho.1.fit e he
    .rw[A!.1 he];simp only;omega
   .rcases A'.1 he with he|he
    .exact(z.fit e he).1.2
    .rw[A!.1 he];exact a1
 .rw[ae (by simpa using J)];exact⟨_,rfl,VV B,ZN⟩
end Go.Sf.Sc
namespace Go.Sf.Sc
open Go Go.Sf
variable{g:d3}{v i:Int}
def mJ{t:AC}{l:List CF}(h:dV t g v l)(f:0<=i)(i1:i<l.length):Oe t ⟨g,l,v,[]⟩ i=0:=by
 obtain ⟨⟨a1,a2⟩,a3,z⟩:=h.2.1 _ (AG f i1);unfold Oe;dsimp only;rw[ae U,ae,ae]
 .rw[Cz];rintro⟨j,u,w,e⟩;simp at e;exact h.2.2 i j u w i1 e
 .simp;omega
def be{t:AC}(hv:(BD t).2=0){L:d6}(w:FK t L=0)(e:Wr t g){sl:List CF}(z:dV t g L.em sl){fd:BM}(A:Qx L.d3 fd){into:d4}(B:T9 (DJ L.d3 fd) g into)(hi:Iz into=X){b:Bool}{c:d5}(C:Jf t L c=0)
  (f:TW t g (BR into.dl g.dl.length) (BR into.dr g.dr.length)=X):DZ t ⟨(⟨#[114]⟩:ByteArray),L,⟨g,sl,L.em,[]⟩,fd,into,b,c⟩=0:=by
 have F:=z.1;have hr:Jz t ⟨(⟨#[114]⟩:ByteArray),L,⟨g,sl,L.em,[]⟩,fd,into,b,c⟩=0:=by
  unfold Jz;dsimp only;rw[ae (by simp[EM e.ok]),ae (by simp[U5 (λn D=>(e.kind n D).2) e.et]),ae V,ae U,A8.2 (λi E i1=>G9.2 (mJ z E i1))];rfl
 have u:Qc ⟨(⟨#[114]⟩:ByteArray),L,⟨g,sl,L.em,[]⟩,fd,into,b,c⟩=0:=by
  have:EY L.d3 fd=0:=by
   unfold EY;rw[ae (by simp[EM (Y3 w).1]),bL A]
  unfold Qc;dsimp only;rw[ae (by simp[this]),ae (by simp[fF B]),ae (by simp[hi])]
 unfold DZ;rw[ae j!,ae (show¬EN (⟨#[114]⟩:ByteArray)=T by decide),ae (by simp[w]),ae (by simp[hr]),ae l!,ae,C];rw[H'];exact f
structure YB(d:GG):Prop where
 left:mt d.f0
 fd:wg d.mR
 ea:∀x∈d.dl,U8 x
 eb:∀x∈d.dr,U3 x
 slots:∀x∈d.ei,U3 x
 Abr:(U8 d.Aac.a0/\U8 d.Aac.a1)/\U8 d.Aac.a2/\U8 d.Aac.a3
 order:∀x∈d.Abp,U8 x
variable{l:Fp}{n:Nat}
def IM.at(h:IM l n){x:Int}(x0:0<=x)(x1:x<n):∃i:Int,(0<=i/\i<n)/\AA l i=x:=by
 obtain ⟨i,f,i1,e⟩:=BP (h.mem.2 ⟨x0,x1⟩);exact⟨i,⟨f,o1⟩,e⟩
def IM.inn(h:IM l n)(e:0<=i)(i1:i<n):0<=AA l i/\AA l i<n:=h.mem.1 (AG e o1)
def nu{t:AC}{k g:d3}(u:Wr t k)(z:k.dl.length<=30)(A:k.dr.length<=60)(h:tS t k g)(he:t.dr.length<=90)(f:t.dl.length<=90):Wr t g:=by
 obtain ⟨xs,ys,rfl,a1,a2,a3,w⟩:=h;simp only at w;refine⟨⟨an,an,λn f=>?_,λe he=>?_⟩,λn f=>?_,λe he=>?_⟩
 .rcases A'.1 f with f|f
  .exact u.ok.kind n f
  .have:=(P9.1 (a3 n f)).1;omega
 .rcases A'.1 he with he|he
  .have:=u.ok.fit e he;simp only[b6];omega
  .have:=(w e he).1;unfold VJ at this;dsimp only at this|-;omega
 .rcases A'.1 f with f|f
  .exact u.kind n f
  .exact(P9.1 (a3 n f)).1
 .rcases A'.1 he with he|he
  .exact u.et e he
  .exact(w e he).1.1.2
variable{m:d4}
def v7{t:AC}{g z:d3}(w:Wr t g)(A:IM m.dl g.dl.length)(he:IM m.dr g.dr.length)(h:ReO g z m):Wr t z:=by
 have nd:∀n∈z.dl,n∈g.dl:=λn f=>by
  obtain ⟨j,B,C,rfl⟩:=BP f;obtain⟨i,⟨u,i1⟩,rfl⟩:=A.at B (by rw[<-h.nl];exact C);rw[h.node i u i1];exact AG u i1
 have ed:∀e∈z.dr,∃i:Int,(0<=i/\i<g.dr.length)/\e=⟨(AA g.dr i).ib,AA m.dl (AA g.dr i).ia,AA m.dl (AA g.dr i).To⟩:=λe f=>by
  obtain ⟨j,B,C,rfl⟩:=BP f;obtain⟨i,⟨u,i1⟩,rfl⟩:=he.at B (by rw[<-h.el];exact C);exact⟨i,⟨u,i1⟩,h.edge i u i1⟩
 refine ⟨⟨by rw[h.nl];exact w.ok.ea,by rw[h.el];exact w.ok.eb,λn f=>w.ok.kind n (nd n f),λe f=>?_⟩,λn f=>w.kind n (nd n f),λe f=>?_⟩
 .obtain⟨i,⟨u,i1⟩,rfl⟩:=ed e f;have hf:=w.ok.fit _ (AG u i1);rw[h.nl];exact⟨hf.1,A.inn hf.2.1.1 hf.2.1.2,A.inn hf.2.2.1 hf.2.2.2⟩
 .obtain⟨i,⟨u,i1⟩,rfl⟩:=ed e f;have:=w.et _ (AG u i1);exact this
def SI(e:0<=i)(i1:i<n)(f:n<=l.length):AA (l.take n) i=AA l i:=by
 conv=>rhs;rw[<-B' n l]
 exact (Ki e e!).symm
variable{d:GG}
def ft{t:AC}(B:F7 t)(hd:YB d):∃r,Ni t d=Y r/\DZ t r=0/\(CH r).Sm:=by
 have hv:=B.zero;have n5:=B.eb;have n6:=B.ea;obtain⟨p,e1,C⟩:=oj B hd.left;have hz:=C.zero B;have N:=C.g.okG B;have g8:=C.g.ea;have g10:=C.g.eb;obtain⟨fd,e2,E⟩:=rg N.ok hd.fd;obtain⟨O,k1,k2⟩:=rY N E;have hkn:(DJ p.d3 fd).dl.length=fd.dl.length:=by simp[DJ]
 have hke:(DJ p.d3 fd).dr.length=fd.dr.length:=by simp[DJ]
 obtain ⟨g,e3,δ⟩:=vj B O hd.ea hd.eb;have A:=nu O U U δ U U;obtain⟨ns,e4,w⟩:=bQ (n:=g.dl.length) (by have:=A.ok.ea;omega) hd.order;obtain⟨es,e5,z⟩:=bQ (n:=g.dr.length) (by have:=A.ok.eb;omega) hd.order;obtain⟨v,e6,e7,f⟩:=ol (m:=⟨ns,es⟩) A.ok w z;have hO:=v7 A w z f;obtain⟨sl,e8,K⟩:=vu B (g:=v.1) (by have:=hO.ok.ea;omega) C.vars hd.slots;obtain⟨c,e9,hc,Q⟩:=rk B C hd.Abr.1.1 hd.Abr.1.2 hd.Abr.2.1 hd.Abr.2.2;have lns:=w.len;have les:=z.len;obtain⟨xs,ys,M,x2,y2,S,θ⟩:=δ;have P:g.dl=(DJ p.d3 fd).dl++xs:=by rw[M]
 have ge:g.dr=(DJ p.d3 fd).dr++ys:=by rw[M]
 have gnl:g.dl.length=(DJ p.d3 fd).dl.length+xs.length:=by rw[P,b6]
 have gel:g.dr.length=(DJ p.d3 fd).dr.length+ys.length:=by rw[ge,b6]
 have η:T9 (DJ p.d3 fd) v.1 ⟨ns.take (DJ p.d3 fd).dl.length,es.take (DJ p.d3 fd).dr.length⟩:=by
  refine ⟨O.ok,hO.ok,an,an,λi u i1=>?_,λi u i1=>?_⟩
  .simp only[bk]at i1|-;rw[SI u U U,f.nl];refine⟨w.inn u U,(f.node i u U).trans ?_⟩;rw[P];exact Ki u U
  .simp only[bk]at i1|-;have hf:=(O.ok.fit _ (AG (l:=(DJ p.d3 fd).dr) u U)).2;rw[SI u U U,f.el,SI hf.1.1 hf.1.2 U,SI hf.2.1 hf.2.2 U,f.edge i u U];refine⟨z.inn u U,?_⟩;rw[ge,Ki u U];exact⟨rfl,rfl,rfl⟩
 have F:∀{l:Fp}{n:Nat},IM l n->l.Nodup:=λh=>h.nodup_iff.2 (Zy _);have hi:Iz ⟨ns.take (DJ p.d3 fd).dl.length,es.take (DJ p.d3 fd).dr.length⟩=X:=by
  unfold Iz;rw[KC.2 ((F w).sublist (B! _ _)),KC.2 ((F z).sublist (B! _ _))];rfl
 have out:∀{l:Fp}{n:Nat}{k:Nat}{x:Int},IM l n->k<=n->x∈BR (l.take k) n->∃i:Int,((k:Int)<=i/\i<n)/\AA l i=x:=λ{l n k x}h E D=>by
  have G:=F3 D;obtain⟨i,⟨u,i1⟩,e⟩:=h.at G.1 G.2;refine⟨i,⟨?_,i1⟩,e⟩;have ζ:hasB (l.take k) x=T:=by
   unfold BR at D;rw[z_]at D;simpa using D.2
  rcases x? i k with ε|κ
  .have hl:=h.len;have h3:x∈l.take k:=by
    rw [<-e,<-SI u ε U];exact AG u e!
   rw [B7.2 h3]at ζ;cases ζ
  .exact κ
 have H:TW t v.1 (BR (ns.take (DJ p.d3 fd).dl.length) v.1.dl.length) (BR (es.take (DJ p.d3 fd).dr.length) v.1.dr.length)=X:=by
  unfold TW;rw[f.nl,f.el,mo,H!,H!,B?,B?];refine⟨λx D=>?_,λx D=>?_⟩
  .obtain⟨i,⟨u,i1⟩,rfl⟩:=out w U D;rw[f.node i U i1,P];obtain⟨j,rfl⟩:∃j:Nat,i=(DJ p.d3 fd).dl.length+j:=⟨(i-(DJ p.d3 fd).dl.length).toNat,U⟩;rw[YF,(P9.1 (S _ (AG U U))).2];decide
  .obtain⟨i,⟨u,i1⟩,rfl⟩:=out z U D;unfold H4;have hf:=(A.ok.fit _ (AG (l:=g.dr) (i:=i) U i1)).2;rw[f.edge i U i1];dsimp only;rw[f.node _ hf.1.1 hf.1.2,f.node _ hf.2.1 hf.2.2,ge];obtain⟨j,rfl⟩:∃j:Nat,i=(DJ p.d3 fd).dr.length+j:=⟨(i-(DJ p.d3 fd).dr.length).toNat,U⟩;rw[YF,(θ _ (AG U U)).2];decide
 have J:FK t ⟨p.d3,[],0,[]⟩=0:=by
  have G:=C.g.ok B;unfold FK;rw[ae j!,ae (by simp[EM G.1]),ae (by simp[G.2]),ae b!,ae V,ae V,ae (by simp[U0 (n:=0) (l:=[])]),ae];rw[Cz];rintro⟨i,u,i1,_⟩;exact absurd i1 b!
 unfold Ni;rw[e1,bs,e2,bs,V2 ⟨U,U⟩,bs,ae (by unfold EY;simp[EM N.ok,bL E])];dsimp only;rw[e3,bs,e4,bs,e5,bs,e6,bs,GW U U,bs,GW U U,bs,e8,bs,e9,bs];split
 .unfold Qo;dsimp only;rw[Sa N.ok,bs,Sa hO.ok,bs,BZ b_,bs,BZ b_,bs,BZ a_,bs,BZ a_,bs,bs];exact⟨_,rfl,be (L:=⟨p.d3,[],0,[]⟩) (sl:=[]) (c:=VE) hv J hO ⟨V,(λs Z=>by cases Z),λi j j0 j1 i1=>h_⟩ E η hi (VV J) H,pI (show 1<=1000 by omega) ⟨b!,b!⟩ V ⟨by have:=hO.ok.ea;simp only;omega,by have:=hO.ok.eb;simp only;omega⟩ V ⟨b!,b!⟩ ⟨an,an⟩ ZN⟩
 .exact⟨_,rfl,be hv hz hO K E η hi hc H,pI (show 1<=1000 by omega) ⟨b!,b!⟩ ⟨by have:=C.slots;simp only;omega,by have:=C.tests;simp only;omega⟩ ⟨by have:=hO.ok.ea;simp only;omega,by have:=hO.ok.eb;simp only;omega⟩ ⟨by have:=K.1;simp only;omega,V⟩ ⟨b!,b!⟩ ⟨an,an⟩ Q⟩
end Go.Sf.Sc
namespace Go.Sf.Sc
open Go Go.Sf
structure iu(d:OE):Prop where
 ea:∀x∈d.dl,U2 x
 eb:∀x∈d.dr,U3 x
def ACI(t:AC)(k:Int)(v:Fp):Prop:=k∈QW t/\v.length=(A4 t k).length/\∀j:Int,0<=j->j<v.length->(AA (A4 t k) j).Low<=AA v j/\AA v j<=(AA (A4 t k) j).Aab
def oi{t:AC}(J:F7 t){d:OE}(hd:iu d):∃h,Pj t d=Y h/\Dl t h=(-1,0):=by
 have hv:=J.zero;have hf:=J.few;have P:=Cw hv;have htn:=J.ea;have hte:=J.eb;unfold Pj Ng;rw[aA U,bs,bs];refine E7 (λi h=>(0<=i/\i<=8)/\((h.d3.dl.length:Int)<=i/\h.ec.length=h.d3.dl.length/\h.d3.dr=[])/\∀k:Int,0<=k->k<h.d3.dl.length->ACI t (AA h.d3.dl k) (AA h.ec k)) 8 ⟨U,V,λk C D=>by simp at D;omega⟩ (λi h K⟨a1,⟨a2,a3,Q⟩,S⟩=>?_) (λi h K⟨a1,⟨a2,a3,Q⟩,S⟩_=>?_)
 .dsimp only;by_cases A:(i<d.dl.length/\i<8)/\0<((QW t).length:Int)
  .left;have B:=hd.ea _ (AG a1.1 A.1.1);obtain⟨r,δ,H,z⟩:=Ce (show 0<=AJ (AA d.dl i).a0 by rw[B.1.w];exact B.1.1) A.2;have F:=AG H z;have f:=(P9.1 F).1;refine⟨U,?_⟩;rw[ac p_,AD a1.1 A.1.1,bs,δ,bs,AD H z,bs,O7 hf,bs,Jc hv f.1 f.2,AU (n:=i+1) U U];dsimp only;generalize AA (QW t) r=kd at F f|-;have G:=(Rb J.n (kd+1).toNat kd f.2).1;have κ:=Ra hf P f.1 f.2;have η:=VO hf P f.1 f.2;unfold A4 at G;have G:(A4 t kd).length<=(kd+1).toNat:=G;refine jO (mk:=λs'=>B2.next (s',i+1)) (Oz (a:=0) (b:=((A4 t kd).length:Int)) (s:=([]:Fp)) (λ(k:Int)(s:Fp)=>(s.length:Int)=k/\∀j:Int,0<=j->j<k->(AA (A4 t kd) j).Low<=AA s j/\AA s j<=(AA (A4 t kd) j).Aab) U ⟨rfl,λj E ε=>U⟩ (λk s C D⟨s1,s2⟩=>?_) (λs⟨s1,s2⟩=>?_))
   .have m1:=κ _ (AG C D);have m2:=η _ (AG C D);have m3:=B.2.1;have m4:=B.2.2;rw[AD C D,bs,bs,bs,bs,AU (n:=(AA (A4 t kd) k).Aab-(AA (A4 t kd) k).Low) U U,AU (n:=(AA (A4 t kd) k).Aab-(AA (A4 t kd) k).Low+1) U U,B.2.w,AU (n:=7*k) U U,AU (n:=(AA d.dl i).a1+7*k) U U];obtain⟨q,Z,q0,θ⟩:=Ce (show 0<=(AA d.dl i).a1+7*k by omega) (show 0<(AA (A4 t kd) k).Aab-(AA (A4 t kd) k).Low+1 by omega);rw[Z,bs,AU (n:=(AA (A4 t kd) k).Low+q) U U,AP a_,bs];refine⟨_,rfl,an,λj E ε=>?_⟩;by_cases e:j=k
    .rw[NJ _ _ U,e];omega
    .rw[Lz _ _ E U];exact s2 j E U
   .rw[AP a_,bs,AP a_,bs];refine⟨_,rfl,_,rfl,U,⟨an,an,Q⟩,λk C D=>?_⟩;simp only[b6,B_]at D;by_cases e:k=h.d3.dl.length
    .rw[NJ _ _ e,NJ _ _ U];exact⟨F,U,λj E ε=>s2 j E U⟩
    .rw[Lz _ _ C U,Lz _ _ C U];exact S k C U
  .right;rw[ae p_]
 dsimp only;refine E7 (λj u=>(0<=j/\j<=10)/\(u.d3.dl=h.d3.dl/\u.ec=h.ec/\(u.d3.dr.length:Int)<=j)/\∀e∈u.d3.dr,VJ t h.d3.dl.length e/\LV t e.ib (AA h.d3.dl e.ia) (AA h.d3.dl e.To)=X) 10 ⟨U,⟨rfl,rfl,by rw[Q];simp⟩,by rw[Q];intro e he;cases he⟩ (λj u E⟨H,⟨z,M,b3⟩,N⟩=>?_) (λj u E⟨H,⟨z,M,b3⟩,N⟩_=>⟨u,rfl,?_⟩)
 .dsimp only;by_cases A:((j<d.dr.length/\j<10)/\0<(h.d3.dl.length:Int))/\0<(t.dr.length:Int)
  .left;have B:=hd.eb _ (AG H.1 A.1.1.1);obtain⟨r,δ,c1,c2⟩:=Ce (show 0<=AJ (AA d.dr j).a0 by rw[B.1.w];exact B.1.1) A.2;obtain⟨r1,Z,d1,d2⟩:=Ce (show 0<=AJ (AA d.dr j).a1 by rw[B.2.1.w];exact B.2.1.1) A.1.2;obtain⟨r2,e3,f1,f2⟩:=Ce (show 0<=AJ (AA d.dr j).a2 by rw[B.2.2.w];exact B.2.2.1) A.1.2;refine⟨U,?_⟩;rw[ac p_,AD H.1 A.1.1.1,bs,δ,bs,bs,Z,bs,bs,e3,bs,z,AD d1 d2,bs,AD f1 f2,bs,Y6 hf,bs,AU (n:=j+1) U U];split
   .rename_i O;rw[AP a_,bs];exact⟨_,rfl,U,⟨rfl,M,an⟩,λe F=>(A'.1 F).elim (N e) λF=>by
     rw [A!.1 F];exact⟨⟨⟨c1,c2⟩,⟨d1,d2⟩,f1,f2⟩,O⟩⟩
   .exact⟨u,rfl,U,⟨z,M,U⟩,N⟩
  .right;rw[ae p_]
 .have go:Cu u.d3:=by
   refine ⟨by rw[z];omega,U,λn hn=>?_,λe he=>?_⟩
   .rw[z]at hn;obtain⟨k,C,D,rfl⟩:=BP hn;have:=(P9.1 (S k C D).1).1;omega
   .have:=(N e he).1;unfold VJ at this;rw[z];omega
  unfold Dl;rw[ae j!,ae (by simp[EM go]),ae (by rw[z,M];simpa using a3),A8.2]
  .dsimp only;rw[A8.2]
   .rfl
   intro i K i1;obtain⟨θ,q2⟩:=N _ (AG K i1);have ζ:Jm t u.d3 i=0:=by
    unfold Jm H4;rw[ae (by have:=θ.1.2;omega),z,q2];rfl
   rw [ζ];rfl
  .intro i K i1;rw[z]at i1;obtain⟨θ,q2,q3⟩:=S i K i1;have q4:=P9.1 θ;have ζ:Gx t (AA u.d3.dl i) (AA u.ec i)=0:=by
    rw [z,M];unfold Gx;rw[ae U,ae (by simp[q4.2]),ae (by simpa using q2),ae];rw[Cz];rintro⟨j,E,ε,e⟩;have:=q3 j E U;simp[RI]at e;omega
   rw [ζ];rfl
end Go.Sf.Sc
namespace Go.Sf.Sc
open Go Go.Sf
instance:Inhabited GG:=⟨⟨⟨⟨[],[]⟩,[],[]⟩,0,[],[],[],T,T,⟨0,0,0,0⟩,[]⟩⟩
end Go.Sf.Sc
namespace Go.Sf.Sc
open Go Go.Sf
end Go.Sf.Sc
namespace Go.Sf.Sc
open Go Go.Sf
variable{k:Int}
def bq{t:AC}(f:E8 t k){c:Int}:∀(n m:Nat)(a b:Int),a<k->a<n->b<m->b∈K6 t n a->c∈K6 t m b->c∈K6 t n a
 |0,_,_,_,_,_,_,hb,_=>by simp[K6]at hb|n+1,m,a,b,ha,z,w,hb,u=>by
  rw [K6]at hb|-;split at hb
  .cases hb
  .rename_i h0;rw[ae h0];have A:=f a U ha;rcases C_.1 hb with rfl|hb
   .have e:=px f m (n+1) b ha w z;rw[e,K6,ae h0]at u;exact u
   .exact C' _ (bq f n m (par t a) b U U w hb u)
def av{t:AC}(h:Ft t){a b c:Int}(ha:a<t.dl.length)(f:HI t a b=X)(u:HI t b c=X):HI t a c=X:=by
 unfold HI at f u|-;rw[C!]at f u|-;obtain⟨x,z,e⟩:=f;obtain⟨y,A,w⟩:=u;rw[qo]at e w;subst e;subst w;exact⟨c,bq h.par _ _ a b ha U U z A,V⟩
def qp{t:AC}(h:Ft t){e f g w z:Int}(hf:0<=w/\w<t.dl.length)(A:0<=z/\z<t.dl.length)(B:HI t w f=X)(C:HI t z g=X)(u:LV t e f g=X):LV t e w z=X:=by
 unfold LV at u|-;simp only[mo,NW]at u|-;exact⟨⟨⟨u.1.1.1,hf,A⟩,u.1.2⟩,av h hf.2 B u.2.1,av h A.2 C u.2.2⟩
end Go.Sf.Sc
namespace Go.Sf.Sc
open Go Go.Sf
variable{r:ey}
def gV{t:AC}(h:DZ t r=0):(∀x∈E5 r,(AA t.dl (AA r.eh.d3.dl x)).o3=T)/\∀x∈LR r,H4 t r.eh.d3 x=X:=by
 have e:TW t r.eh.d3 (E5 r) (LR r)=X:=by grind[DZ]
 unfold TW at e;rw[mo,H!,H!,B?,B?]at e;exact⟨λx f=>by simpa using e.1 x f,λx f=>by simpa using e.2 x f⟩
abbrev gS(t:AC)(r:ey)(h:AE)(m:AQ):AE:=C1 t r (CQ h (dS r h m)) (cS r h m)
def IW.eb{t:AC}{h:AE}{m:AQ}(s:IW t r h m):∀e∈(gS t r h m).d3.dr,((0<=e.ia/\e.ia<(gS t r h m).d3.dl.length)/\0<=e.To/\e.To<(gS t r h m).d3.dl.length)/\LV t e.ib (AA (gS t r h m).d3.dl e.ia) (AA (gS t r h m).d3.dl e.To)=X:=by
 intro e he;have el:(gS t r h m).d3.dl=(dS r h m).dl.map (AA h.d3.dl)++(E5 r).map (AA r.eh.d3.dl):=rfl;have he:e∈(dS r h m).dr.map (λx=>Xd (Gr h (dS r h m)).dl (AA h.d3.dr x))++(LR r).map (λk=>Xd (cS r h m).dl (AA r.eh.d3.dr k)):=he;rcases A'.1 he with he|he
 .obtain⟨x,D,rfl⟩:=A_.1 he;have C:=Vy (fk s.part).2;have u:=C.eb.1 x D;have f:=C.ends x D;have hf:=(s.hh.g.fit _ (AG u.1 u.2)).2;have J:=(UY s.he).2 x u.1 u.2;have fit:H4 t h.d3 x=X:=by
   unfold Jm at J
   grind
  have at_:∀y,y∈(dS r h m).dl->0<=y->y<h.d3.dl.length->(0<=AA (Gr h (dS r h m)).dl y/\AA (Gr h (dS r h m)).dl y<(gS t r h m).d3.dl.length)/\AA (gS t r h m).d3.dl (AA (Gr h (dS r h m)).dl y)=AA h.d3.dl y:=λy F G H=>by
   have hi:=Hu F;rw[show AA (Gr h (dS r h m)).dl y=Dh (dS r h m).dl y from U1 G H,el,b6,c9];refine⟨⟨hi.1,by have:=hi.2.1;push_cast;omega⟩,?_⟩;rw[nB hi.1 (by rw[c9];exact hi.2.1),Fu hi.1 hi.2.1,hi.2.2.1]
  obtain ⟨a1,a2⟩:=at_ _ f.1 hf.1.1 hf.1.2;obtain⟨A,B⟩:=at_ _ f.2 hf.2.1 hf.2.2;refine⟨⟨a1,A⟩,?_⟩;simp only[Xd];rw[a2,B];exact fit
 .obtain⟨k,E,rfl⟩:=A_.1 he;have w:0<=k/\k<r.eh.d3.dr.length:=F3 E;have hf:=(s.ro.right.fit _ (AG w.1 w.2)).2;obtain⟨a1,a3,a2⟩:=s.AbF hf.1.1 hf.1.2;obtain⟨A,K,B⟩:=s.AbF hf.2.1 hf.2.2;have z:=s.put.kind;refine⟨⟨a1,A⟩,?_⟩;exact qp (Cw s.hv) ⟨(z _ (AG a1.1 a1.2)).1,a3⟩ ⟨(z _ (AG A.1 A.2)).1,K⟩ a2 B ((gV s.re).2 k E)
end Go.Sf.Sc
namespace Go.Sf.Sc
open Go Go.Sf
def kf(t:AC)(k:Int)(v:Fp):Prop:=v.length=(A4 t k).length/\∀j:Int,0<=j->j<v.length->(AA (A4 t k) j).Low<=AA v j/\AA v j<=(AA (A4 t k) j).Aab
def X6(t:AC)(g:d3)(κ:List Fp):Prop:=κ.length=g.dl.length/\∀i:Int,0<=i->i<g.dl.length->kf t (AA g.dl i) (AA κ i)
variable{x:AE}
def nq{t:AC}{κ:List Fp}(h:X6 t x.d3 κ){p:(Int×Int)×Int}(A:Nx t x p=T):X6 t x.d3 (Ch κ p):=by
 unfold Ch;split
 .rename_i h0;refine⟨by rw[List.length_modify];exact h.1,λi B i1=>?_⟩;have hi:=h.2 i B i1;by_cases e:i=p.1.1
  .have f:AA (κ.modify p.1.1.toNat λr=>r.set p.1.2.toNat p.2) i=(AA κ i).set p.1.2.toNat p.2:=by
    have:=h.1;subst e;simp[AA,C?,y? (show p.1.1.toNat<κ.length by omega)]
   rw [f];refine⟨by rw[D_];exact hi.1,λj w z=>?_⟩;rw[D_]at z;by_cases u:j=p.1.2
   .rw[show AA ((AA κ i).set p.1.2.toNat p.2) j=p.2 by rw[u];exact P8 p.2 h0.2 U,u,e];simp[Nx]at A;omega
   .rw[show AA ((AA κ i).set p.1.2.toNat p.2) j=AA (AA κ i) j from Tc p.2 h0.2 w u];exact hi.2 j w z
  .have f:AA (κ.modify p.1.1.toNat λr=>r.set p.1.2.toNat p.2) i=AA κ i:=by
    simp [AA,D',C?,show¬p.1.1.toNat=i.toNat by omega]
   rw [f];exact hi
 .exact h
def ak{t:AC}:∀(L:Bj){κ:List Fp},X6 t x.d3 κ->L.any (Nx t x)=T->X6 t x.d3 (L.foldl Ch κ)
 |[],_,h,_=>h|p::L,κ,h,e=>by
  rw [List.any_cons,H?]at e;exact ak L (nq h e.1) e.2
variable{r:ey}
def IW.ea{t:AC}{h:AE}{m:AQ}(s:IW t r h m):(∀n∈(gS t r h m).d3.dl,(AA t.dl n).o3=T)/\∀v n,(n,v)∈(gS t r h m).d3.dl.zip (gS t r h m).ec->kf t n v:=by
 have F:=Cw s.hv;have el:(gS t r h m).d3.dl=(dS r h m).dl.map (AA h.d3.dl)++(E5 r).map (AA r.eh.d3.dl):=rfl;have ev:(gS t r h m).ec=(dS r h m).dl.map (AA h.ec)++(E5 r).map (λk=>Vm t (AA r.eh.d3.dl k)):=rfl;have old:∀x∈(dS r h m).dl,(AA t.dl (AA h.d3.dl x)).o3=T/\kf t (AA h.d3.dl x) (AA h.ec x):=λx f=>by
  have f:=s.rem.ea.1 x f;have u:=(UY s.he).1 x f.1 f.2;unfold Gx at u;split at u
  .cases u
  split at u
  .cases u
  split at u
  .cases u
  split at u
  .cases u
  rename_i a1 a2 a3 G;refine⟨by simpa using a2,J'.1 a3,λj C D=>?_⟩;have:=B5.1 v_ j C U;simp[RI]at this;omega
 have new:∀k∈E5 r,kf t (AA r.eh.d3.dl k) (Vm t (AA r.eh.d3.dl k)):=λk E=>by
  have A:0<=k/\k<r.eh.d3.dl.length:=F3 E;have B:=(H9 s.ro.right s.ro.Abj).1 _ (AG A.1 A.2);refine⟨by simp[Vm],λj C D=>?_⟩;simp only[Vm,c9]at D|-;have:=VO s.hf F B.1 B.2 _ (AG C D);rw[show AA ((A4 t (AA r.eh.d3.dl k)).map λx=>x.Low) j=(AA (A4 t (AA r.eh.d3.dl k)) j).Low by grind[AA,y?]];omega
 refine ⟨λn z=>?_,λv n w=>?_⟩
 .rw[el]at z;rcases A'.1 z with z|z
  .obtain⟨x,f,rfl⟩:=A_.1 z;exact(old x f).1
  .obtain⟨k,E,rfl⟩:=A_.1 z;exact(gV s.re).1 k E
 .rw[el,ev,List.zip_append V]at w;rcases A'.1 w with w|w
  .rw[D!,A_]at w;obtain⟨x,f,e⟩:=w;cases e;exact(old x f).2
  .rw[D!,A_]at w;obtain⟨x,f,e⟩:=w;cases e;exact new x f
end Go.Sf.Sc
namespace Go.Sf.Sc
open Go Go.Sf
variable{α β:Type}{i:Int}
def za[Inhabited α][Inhabited β]{a:List α}{b:List β}(e:0<=i)(f:i<a.length)(u:i<b.length):(AA a i,AA b i)∈a.zip b:=by
 refine List.mem_of_getElem? (i:=i.toNat) ?_;rw[List.getElem?_zip_eq_some]
 grind [AA,y?]
variable{r:ey}
theorem Ws{t:AC}{h:AE}{m:AQ}(s:Qy t r h m):Dl t (PH t r h m)=(-1,0):=by
 have f:=s.f;have hv:=f.hv;have z:=Cw hv;have put:=f.put;have ed:=f.eb;obtain⟨F,G⟩:=f.ea;have M:=z.ea;have N:=z.eb;have u:X6 t (gS t r h m).d3 (gS t r h m).ec:=⟨put.AbV,λi w i1=>G _ _ (za w i1 (by rw[put.AbV];exact i1))⟩;have good:=ak (x:=gS t r h m) _ u (fm s.put).2;have A:∀e∈(gS t r h m).d3.dr,0<=e.ib/\e.ib<t.dr.length:=λe he=>by
  have:=(ed e he).2;unfold LV at this;simp only[mo,qo]at this;exact this.1.2
 have go:Cu (gS t r h m).d3:=⟨s.few.1,s.few.2,λn D=>by have:=put.kind n D;omega,λe he=>⟨by have:=A e he;omega,(ed e he).1⟩⟩;have E:(PH t r h m).d3=(gS t r h m).d3:=rfl;have ev:(PH t r h m).ec=(CR r (cS r h m) m.em).foldl Ch (gS t r h m).ec:=rfl;unfold Dl;rw[ae j!,E,ev,ae (by simp[EM go]),ae (by simpa using good.1),A8.2]
 .dsimp only;rw[A8.2]
  .rfl
  intro i w i1;have B:=AG w i1;have C:Jm t (gS t r h m).d3 i=0:=by
   unfold Jm H4;rw[ae (by have:=A _ B;omega),(ed _ B).2];rfl
  rw [C];rfl
 .intro i w i1;have B:=AG w i1;obtain⟨H,J⟩:=good.2 i w i1;have C:Gx t (AA (gS t r h m).d3.dl i) (AA ((CR r (cS r h m) m.em).foldl Ch (gS t r h m).ec) i)=0:=by
   unfold Gx;rw[ae (by have:=put.kind _ B;omega),ae (by simp[F _ B]),ae w?,ae];rw[Cz];rintro⟨j,K,O,e⟩;have:=J j K U;simp[RI]at e;omega
  rw [C];rfl
end Go.Sf.Sc
namespace Go.Sf.Sc
open Go Go.Sf
def wA{t:AC}{rules:List ey}{h:AE}(w:GP t rules h=0):(∀r∈rules,DZ t r=0)/\(Dl t h).2=0:=by
 have e:EO t rules=0/\(Dl t h).2=0:=by grind[GP]
 refine ⟨λr hr=>?_,e.2⟩;obtain⟨i,u,i1,rfl⟩:=BP hr;have f:(fst (λi=>nz (DZ t (AA rules i))) 0 rules.length).getD 0=0:=by grind[EO]
 exact Vf f i u i1
variable{r:ey}
def uX{t:AC}(hf:A2 t){h:AE}(f:DZ t r=0)(e:(Dl t h).2=0):(Hy t r h).2=0\/(Hy t r h).2=3:=by
 have w:Rg t r h=0:=by unfold Rg;simp[f,e]
 have u:=(Ux f).1;have z:OX t r.f0 h=0:=by unfold OX;simp[u,e]
 obtain ⟨hv,hh⟩:=O1 hf e;obtain⟨go,ty⟩:=Y3 u;have A:Ew t r.f0.d3 h.d3=0:=by unfold Ew;simp[hv,EM go,hh.ge,ty,hh.ty]
 unfold Hy L0 MN
 grind
def nk{t:AC}{rules:List ey}{h:AE}(hv:(BD t).2=0)(u:rules.length<=10)(hr:∀r∈rules,DZ t r=0)(hh:(Dl t h).2=0):GP t rules h=0:=by
 have f:EO t rules=0:=by
  unfold EO;rw[ae j!,ae U,A8.2 λi e i1=>by rw[hr _ (AG e i1)];rfl];rfl
 unfold GP;rw[ae w!];exact hh
end Go.Sf.Sc
namespace Go.Sf.Sc
open Go Go.Sf
variable{α:Type}{i:Int}
def vA[Inhabited α]{a r:List α}{x:α}(e:0<=i)(h:(a.length:Int)=i):AA (a++x::r) i=x:=by
 obtain ⟨n,rfl⟩:=y_ e;obtain rfl:a.length=n:=U
 simp [AA]
def rF{a r:List α}{x y:α}(e:0<=i)(h:(a.length:Int)=i):BE (a++x::r) i y=a++y::r:=by
 obtain ⟨n,rfl⟩:=y_ e;obtain rfl:a.length=n:=U
 simp [BE]
def QA(l:Fp)(v:Int):slices_Contains_int l v=Y (hasB l v):=Mj l v
variable{n:Nat}
def Yy(h:n<=1000):Ks n=Y (Az n):=by
 unfold Ks;rw[Mk (λ_=>X) id]
 .rw[bs,D?,List.filter_eq_self.2 λ_ _=>rfl]
 .intro i s e i1 f;rw[AP a_,bs,ac rfl];rfl
variable{l:Fp}
def fT(u:l.length<=1000)(f:∀x∈l,0<=x):Jo l.length (Az l.length) l=Y (l,X):=by
 unfold Jo DH;rw[ac ⟨rfl,U,U⟩,bs,Ay,El (a:=0) (b:=(l.length:Int)) (λi=>l.take i.toNat++E_ (l.length-i.toNat) (-1)) (λ_=>W) U V,A8.2 (λ_ _ _=>rfl)]
 .simp[kG,B8]
 intro i e i1 _;have w:=f _ (AG e i1);have ha:((l.take i.toNat).length:Int)=i:=e!
 have hr:E_ (l.length-i.toNat) (-1:Int)=-1::E_ (l.length-(i+1).toNat) (-1):=by
  rw [show l.length-i.toNat=(l.length-(i+1).toNat)+1 by omega];rfl
 rw [AD e (by rw[Ay];exact i1),JB _ e i1,bs,AD e i1,bs,ae an,ae an,hr,AD e an,bs,vA e ha,ae a!,bs,ae a!,bs,bs,rF e ha,Ba e i1];simp[ZH]
def NO(g:d3)(a b:Int):Nat:=g.dr.countP λe=>decide (e.ia=a)&&decide (e.To=b)
variable{g:d3}
def Um(h:g.dr.length<=1000)(a b:Int):Jn g a b=Y (NO g a b:Int):=by
 unfold Jn NO;have u:∀l:List B0,(l.countP λe=>decide (e.ia=a)&&decide (e.To=b))<=l.length:=λl=>List.countP_le_length;rw[Bo (λi=>(((g.dr.take i.toNat).countP λe=>decide (e.ia=a)&&decide (e.To=b)):Int)) U V]
 .rw[bs,x!,E']
 intro i f i1;have:=u (g.dr.take i.toNat);rw[bk]at this;rw[AD f i1,bs,Ba f i1,List.countP_append];by_cases e:((decide ((AA g.dr i).ia=a))&&(decide ((AA g.dr i).To=b)))=X
 .rw[ac e,AU U U];simp[E!,e]
 .rw[ae e];simp[E!,e]
def jc(x y:AE)(mn:Fp)(l j:Int):Bool:=
 decide (NO x.d3 j l=NO y.d3 (AA mn j) (AA mn l))&&decide (NO x.d3 l j=NO y.d3 (AA mn l) (AA mn j))
def ST(x y:AE)(mn:Fp)(l:Int):Bool:=!kp (λj=>!jc x y mn l j) 0 (l+1)
variable{j:Int}
theorem to(e:0<=j)(h:j<i):AA (l.take i.toNat) j=AA l j:=by
 unfold AA;rw[D',D',List.getElem?_take,ac U]
variable{x y:AE}
def bI(f:x.d3.dr.length<=1000)(u:y.d3.dr.length<=1000){mn ns es me:Fp}(D:mn.length<=1000){l:Int}(w:0<=l)(l1:l<mn.length):
  Gw ⟨x,y,ns,es,⟨mn.take (l+1).toNat,me⟩⟩=Y (ST x y mn l):=by
 unfold Gw;have C:((mn.take (l+1).toNat).length:Int)=l+1:=e!
 dsimp only;rw[C,show l+1-1=l by omega,AU U U,Bq (λj=>!jc x y mn l j) T]
 .unfold ST;cases kp (λj=>!jc x y mn l j) 0 (l+1)<;>rfl
 intro j z B;rw[AD z U,bs,to z B,Um f,bs,AD w U,bs,to w U,Um u,bs,Um f,bs,bs,Um u,bs];unfold jc;by_cases e:NO x.d3 j l=NO y.d3 (AA mn j) (AA mn l)
 .rw[ae d_,bs];by_cases A:NO x.d3 l j=NO y.d3 (AA mn l) (AA mn j)
  .simp[e,A]
  .rw[ac (by simp only[H!,decide_eq_false_iff_not];omega)];simp[e,A]
 .rw[ac (by simp only[H!,decide_eq_false_iff_not];omega),bs,ac rfl];simp[e]
def RN(x y:AE)(m:d4)(i:Int):Bool:=
 decide (AA y.d3.dr (AA m.dr i)=⟨(AA x.d3.dr i).ib,AA m.dl (AA x.d3.dr i).ia,AA m.dl (AA x.d3.dr i).To⟩)&&!hasB (m.dr.take i.toNat) (AA m.dr i)
def RP(x y:AE)(m:d4)(i:Int):Bool:=
 decide (AA y.d3.dl (AA m.dl i)=AA x.d3.dl i)&&!hasB (m.dl.take i.toNat) (AA m.dl i)&&decide (AA x.ec i=AA y.ec (AA m.dl i))&&ST x y m.dl i
structure T8(x y:AE)(m:d4):Prop where
 nl:m.dl.length=x.d3.dl.length
 el:m.dr.length=x.d3.dr.length
 xn:x.d3.dl.length<=1000
 xe:x.d3.dr.length<=1000
 yn:y.d3.dl.length<=1000
 ye:y.d3.dr.length<=1000
 xv:x.ec.length=x.d3.dl.length
 yv:y.ec.length=y.d3.dl.length
 xends:∀e∈x.d3.dr,(0<=e.ia/\e.ia<x.d3.dl.length)/\0<=e.To/\e.To<x.d3.dl.length
 nin:∀k∈m.dl,0<=k/\k<y.d3.dl.length
 ein:∀k∈m.dr,0<=k/\k<y.d3.dr.length
abbrev He(x y:AE)(m:d4)(n e:Int):Bc:=⟨x,y,m.dl,m.dr,⟨m.dl.take n.toNat,m.dr.take e.toNat⟩⟩
variable{m:d4}
def fR(h:T8 x y m):∀(k:Nat)(i:Int),0<=i->i+k=x.d3.dr.length->∃b st,(∀n,k<n->Bu n (He x y m x.d3.dl.length i)=Y (b,st))/\(b=X↔∀j:Int,i<=j->j<x.d3.dr.length->RN x y m j=X)/\(b=X->st.m=m)/\(b=T->st=He x y m x.d3.dl.length i)
 |0,i,u,Q=>by
  have:=h.el;refine⟨X,He x y m x.d3.dl.length i,λn A=>?_,⟨λ_ j E H=>U,λ_=>rfl⟩,λ_=>?_,λh=>c!⟩
  .obtain⟨n,rfl⟩:∃q,n=q+1:=⟨n-1,U⟩;rw[Bu,ac (by simp[He,bk];omega)]
  .have E:=h.nl;show d4.mk _ _=m;rw[E? U,E? U]
 |k+1,i,u,Q=>by
  have E:=h.nl;have H:=h.el;have S:=h.xe;have θ:=h.ye;obtain⟨b,st,M,N,O,P⟩:=fR h k (i+1) U U;have hi:=h.ein _ (AG u (l:=m.dr) U);have F:=h.xends _ (AG (l:=x.d3.dr) u U);have J:((m.dr.take i.toNat).length:Int)=i:=e!
  have key:∀n,k+1<n->Bu n (He x y m x.d3.dl.length i)=Y (if(RN x y m i&&b)=X then(X,st)else(T,He x y m x.d3.dl.length i)):=λn A=>by
   obtain ⟨n,rfl⟩:∃q,n=q+1:=⟨n-1,U⟩;rw[Bu];dsimp only;have nt:m.dl.take (x.d3.dl.length:Int).toNat=m.dl:=E? U;rw[J,nt,ae an,AD u U,bs,AD F.1.1 U,bs,AD F.2.1 U,bs,
    El (a:=0) (b:=(y.d3.dr.length:Int)) (λ_=>He x y m x.d3.dl.length i) (λj=>if j=AA m.dr i/\(RN x y m i&&b)=X then Y (X,st)else W) U (by rw[He,nt])]
   .by_cases e:(RN x y m i&&b)=X
    .have hf:fst (λj=>if j=AA m.dr i/\(RN x y m i&&b)=X then Y (X,st)else W) 0 (y.d3.dr.length:Int)=Y (X,st):=by
      cases hf:fst (λj=>if j=AA m.dr i/\(RN x y m i&&b)=X then Y (X,st)else W) 0 (y.d3.dr.length:Int)with
      |none=>
       rw [A8]at hf;have:=hf _ hi.1 hi.2;simp[e]at this
      |some v=>
       obtain ⟨j,B,w,f,_⟩:=Cd hf;split at f
       .rw[<-f]
       .cases f
     rw [hf,ac e];rfl
    .rw[ae e,A8.2 (λj B w=>ae (λk=>e k.2))];rfl
   .intro j B w _;dsimp only[He];rw[nt,AD B w,bs,AD u U,bs,ac (by simpa using hi.1),bs,bs];by_cases D:j=AA m.dr i
    .subst D;by_cases z:AA y.d3.dr (AA m.dr i)=⟨(AA x.d3.dr i).ib,AA m.dl (AA x.d3.dr i).ia,AA m.dl (AA x.d3.dr i).To⟩
     .rw[ae q_,QA,bs,bs];by_cases f:hasB (m.dr.take i.toNat) (AA m.dr i)=X
      .rw[ac f,ae (by simp[RN,f])];rfl
      .have K:RN x y m i=X:=by simp[RN,z,f]
       rw [ae f,AP a_,bs,<-Ba u U];have G:=M n U;rw[He,nt]at G;rw[G,bs,K];cases b with
       |true=>rw[ac rfl,ac ⟨rfl,rfl⟩];rfl|false=>
        obtain rfl:=P rfl;rw[ae V,He,GW U e!,bs,nt,F_];rw[show min i.toNat (i+1).toNat=i.toNat by omega,ae V];rfl
     .rw[ac q_,bs,ac rfl,ae (by simp[RN,z])];rfl
    .rw[ac (by simp;exact .inl λk=>D k.symm),bs,ac rfl,ae (λk=>D k.1)];rfl
  refine ⟨RN x y m i&&b,if(RN x y m i&&b)=X then st else He x y m x.d3.dl.length i,λn A=>?_,?_,λe=>?_,λe=>?_⟩
  .rw[key n A];by_cases e:(RN x y m i&&b)=X
   .rw[ac e,ac e,e]
   .rw[ae e,ae e,I_.2 e]
  .rw[mo,N];constructor
   .rintro⟨a1,a2⟩ j w C;by_cases e:j=i
    .exact e▸a1
    .exact a2 j U C
   .exact λa=>⟨a i U U,λj w C=>a j U C⟩
  .rw[ac e];rw[mo]at e;exact O e.2
  .rw[ae (by rw[e];decide)]
end Go.Sf.Sc
namespace Go.Sf.Sc
open Go Go.Sf
variable{x y:AE}{m:d4}
def vK(h:T8 x y m):∃b st,IC (He x y m x.d3.dl.length 0)=Y (b,st)/\(b=X↔∀j:Int,0<=j->j<x.d3.dr.length->RN x y m j=X)/\(b=X->st.m=m)/\(b=T->st=He x y m x.d3.dl.length 0):=by
 obtain ⟨b,st,e,f⟩:=fR h x.d3.dr.length 0 U U;exact⟨b,st,Dp (x.d3.dr.length+1) λn u=>e n U,f⟩
def q9(x y:AE)(m:d4)(i:Int):Prop:=(∀j:Int,i<=j->j<x.d3.dl.length->RP x y m j=X)/\∀j:Int,0<=j->j<x.d3.dr.length->RN x y m j=X
def fY(h:T8 x y m):∀(k:Nat)(i:Int),0<=i->i+k=x.d3.dl.length->∃b st,(∀n,k<n->Bv n (He x y m i 0)=Y (b,st))/\(b=X↔q9 x y m i)/\(b=X->st.m=m)/\(b=T->st=He x y m i 0)
 |0,i,u,ε=>by
  obtain ⟨b,st,e,G,H,J⟩:=vK h;obtain rfl:i=x.d3.dl.length:=U
  refine ⟨b,st,λn C=>?_,?_,H,J⟩
  .obtain⟨n,rfl⟩:∃q,n=q+1:=⟨n-1,U⟩;have K:=h.nl;rw[Bv,ac (by simp[He,bk];omega),e,bs]
  .rw[G];exact⟨λa=>⟨λj K N=>U,a⟩,λa=>a.2⟩
 |k+1,i,u,ε=>by
  have K:=h.nl;have N:=h.el;have O:=h.xe;have P:=h.ye;have κ:=h.xn;have η:=h.yn;have ζ:=h.xv;have δ:=h.yv;obtain⟨b,st,G,H,J,θ⟩:=fY h k (i+1) U U;have hi:=h.nin _ (AG u (l:=m.dl) U);have Q:((m.dl.take i.toNat).length:Int)=i:=e!
  have key:∀n,k+1<n->Bv n (He x y m i 0)=Y (if(RP x y m i&&b)=X then(X,st)else(T,He x y m i 0)):=λn C=>by
   obtain ⟨n,rfl⟩:∃q,n=q+1:=⟨n-1,U⟩;rw[Bv];dsimp only;rw[Q,ae an,El (a:=0) (b:=(y.d3.dl.length:Int)) (λ_=>He x y m i 0) (λj=>if j=AA m.dl i/\(RP x y m i&&b)=X then Y (X,st)else W) U rfl]
   .by_cases e:(RP x y m i&&b)=X
    .have hf:fst (λj=>if j=AA m.dl i/\(RP x y m i&&b)=X then Y (X,st)else W) 0 (y.d3.dl.length:Int)=Y (X,st):=by
      cases hf:fst (λj=>if j=AA m.dl i/\(RP x y m i&&b)=X then Y (X,st)else W) 0 (y.d3.dl.length:Int)with
      |none=>
       rw [A8]at hf;have:=hf _ hi.1 hi.2;simp[e]at this
      |some v=>
       obtain ⟨j,D,w,f,_⟩:=Cd hf;split at f
       .rw[<-f]
       .cases f
     rw [hf,ac e];rfl
    .rw[ae e,A8.2 (λj D w=>ae (λk=>e k.2))];rfl
   .intro j D w _;dsimp only[He];rw[AD D w,bs,AD u U,bs,ac (by simpa using hi.1),bs,bs];by_cases F:j=AA m.dl i
    .subst F;rw[ae V,AD u U,bs,bs];by_cases z:AA y.d3.dl (AA m.dl i)=AA x.d3.dl i
     .rw[ae q_,QA,bs,bs];by_cases f:hasB (m.dl.take i.toNat) (AA m.dl i)=X
      .rw[ac f,bs,ac rfl,ae (by simp[RP,f])];rfl
      .rw[ae f,AD u U,bs,AD hi.1 U,bs,Ka,bs,bs];by_cases A:AA x.ec i=AA y.ec (AA m.dl i)
       .rw[ae (by simp[A]),AP a_,bs,<-Ba u U,bI O P U u U,bs];by_cases B:ST x y m.dl i=X
        .have S:RP x y m i=X:=by simp[RP,z,f,A,B]
         rw [ac B];have M:=G n U;rw[He]at M;rw[M,bs,S];cases b with
         |true=>rw[ac rfl,ac ⟨rfl,rfl⟩];rfl|false=>
          obtain rfl:=θ rfl;rw[ae V,He,GW U e!,bs,F_,show min i.toNat (i+1).toNat=i.toNat by omega,ae V];rfl
        .rw[ae B,GW U e!,bs,F_,show min i.toNat (i+1).toNat=i.toNat by omega,ae (by simp[RP,B])];rfl
       .rw[ac (by simp[A]),ae (by simp[RP,A])];rfl
     .rw[ac (by simp;exact λk=>z k),bs,ac rfl,bs,ac rfl,ae (by simp[RP,z])];rfl
    .rw[ac (by simp;exact λk=>F k.symm),bs,ac rfl,bs,ac rfl,bs,ac rfl,ae (λk=>F k.1)];rfl
  refine ⟨RP x y m i&&b,if(RP x y m i&&b)=X then st else He x y m i 0,λn C=>?_,?_,λe=>?_,λe=>?_⟩
  .rw[key n C];by_cases e:(RP x y m i&&b)=X
   .rw[ac e,ac e,e]
   .rw[ae e,ae e,I_.2 e]
  .rw[mo,H];constructor
   .rintro⟨a1,a2,a3⟩;refine⟨λj w E=>?_,a3⟩;by_cases e:j=i
    .exact e▸a1
    .exact a2 j U E
   .exact λa=>⟨a.1 i U U,λj w E=>a.1 j U E,a.2⟩
  .rw[ac e];rw[mo]at e;exact J e.2
  .rw[ae (by rw[e];decide)]
variable{l:Fp}
def xm(B:l.length<=100000)(h:0<l.length):∃v,slices_Min_int l=Y v/\(v<0↔∃x∈l,x<0):=by
 unfold slices_Min_int;rw[ae an,AD U U,bs];obtain⟨s,e,i1,i2⟩:=Om (f:=λ(z:Int)(A:Int)=>
  (idx l z).bind λw=>
  Y (min A w)) (λi s=>s∈l.take i.toNat/\∀x∈l.take i.toNat,s<=x) (a:=1) (b:=(l.length:Int)) (s:=AA l 0) U (by
   have:=Ba (l:=l) (i:=0) U U;rw[show((0:Int)+1).toNat=1 by omega]at this;rw[show(1:Int).toNat=1 by omega,this];simp) (λi s z i1 hi=>by
   rw [AD U i1,bs];refine⟨_,rfl,?_⟩;rw[Ba U i1];refine⟨?_,λx u=>?_⟩
   .rcases Int.le_total s (AA l i)with h|h
    .rw[Int.min_eq_left h];exact List.mem_append_left _ hi.1
    .rw[Int.min_eq_right h];exact List.mem_append_right _ (A!.2 rfl)
   .rcases A'.1 u with u|u
    .have:=hi.2 x u;omega
    .rw[A!.1 u];omega)
 rw [x!,E']at i1 i2;rw[e,bs];exact⟨s,rfl,λk=>⟨s,i1,k⟩,λ⟨x,u,k⟩=>by have:=i2 x u;omega⟩
def bG{e:List Fp}(h:e.flatten.length<=100000):E6 e=Y e.flatten:=by
 have cut:∀k:Nat,(e.take k).flatten.length<=e.flatten.length:=λk=>by
  conv=>rhs;rw[<-B' k e,F!,b6]
  omega
 have u:∀i:Int,0<=i->i<e.length->(e.take (i+1).toNat).flatten=(e.take i.toNat).flatten++AA e i:=λi f i1=>by
  rw [Ba f i1,F!];simp
 unfold E6 J2;rw[Bo (λi=>((e.take i.toNat).flatten.length:Int)) U V,bs,x!,E',ac ⟨rfl,U,b_⟩,bs,Bo (λi=>(e.take i.toNat).flatten) U V,bs,x!,E']
 .intro i f i1;have c:=cut (i+1).toNat
  rw [u i f i1,b6]at c;rw[AD f i1,bs,AP b_,bs,u i f i1]
 .intro i f i1;have c:=cut (i+1).toNat
  rw [u i f i1,b6]at c;rw[AD f i1,bs,AU U U,ae an,u i f i1,b6];simp
def yK(F:Dd x)(G:Dd y)(xv:x.ec.length=x.d3.dl.length)(yv:y.ec.length=y.d3.dl.length)(ends:∀e∈x.d3.dr,(0<=e.ia/\e.ia<x.d3.dl.length)/\0<=e.To/\e.To<x.d3.dl.length)(m:d4):
  ∃b,Fh x y m=Y b/\(b=X↔T8 x y m/\x.d3.dl.length=y.d3.dl.length/\x.d3.dr.length=y.d3.dr.length/\q9 x y m 0):=by
 have O:=F.ea;have P:=F.eb;have Q:=G.ea;have S:=G.eb;unfold Fh;by_cases H:m.dl.length=x.d3.dl.length
 case neg=>exact⟨T,by rw[ac an],by simp;exact λa=>absurd a.nl H⟩
 by_cases J:m.dr.length=x.d3.dr.length
 case neg=>exact⟨T,by rw[ac an],by simp;exact λa=>absurd a.el J⟩
 rw [ae an,bG an,bs,AP a_,bs];obtain⟨v,ev,hv⟩:=xm (l:=[m.dl,m.dr].flatten++[0]) an an;rw[ev,bs];by_cases A:v<0
 .refine⟨T,by rw[ac p_],by simp;rintro a;obtain⟨z,u,D⟩:=hv.1 A;simp at u;rcases u with u|u|u;(have:=a.nin z u;omega);(have:=a.ein z u;omega);omega⟩
 have pos:∀z,z∈m.dl\/z∈m.dr->0<=z:=λz u=>by
  rcases x? z 0 with k|k
  .exact absurd (hv.2 ⟨z,by simp;rcases u with u|u;exact .inl u;exact .inr (.inl u),k⟩) A
  .exact k
 rw [ae p_,SK (f:=λE=>Jp E y) (p:=λk=>decide ((y.d3.dl.length:Int)<=k)) (λ_ _=>rfl),bs];by_cases B:m.dl.any (λk=>decide ((y.d3.dl.length:Int)<=k))=X
 .rw[ac B,bs,ac rfl];refine⟨T,rfl,by simp;rintro a;obtain⟨z,u,D⟩:=C!.1 B;have:=a.nin z u;simp at D;omega⟩
 rw [ae B,SK (f:=λE=>Jq E y) (p:=λk=>decide ((y.d3.dr.length:Int)<=k)) (λ_ _=>rfl),bs,bs];by_cases C:m.dr.any (λk=>decide ((y.d3.dr.length:Int)<=k))=X
 .rw[ac C];refine⟨T,rfl,by simp;rintro a;obtain⟨z,u,D⟩:=C!.1 C;have:=a.ein z u;simp at D;omega⟩
 have inn:T8 x y m:=⟨H,J,O,P,Q,S,xv,yv,ends,λk w=>⟨pos k (.inl w),by
   rcases x? k y.d3.dl.length with a|a
   .exact a
   .exact absurd (C!.2 ⟨k,w,by simpa using a⟩) B⟩,λk w=>⟨pos k (.inr w),by
   rcases x? k y.d3.dr.length with a|a
   .exact a
   .exact absurd (C!.2 ⟨k,w,by simpa using a⟩) C⟩⟩
 rw [ae C,Yy U,bs,Yy U,bs];unfold Dm;by_cases K:x.d3.dl.length=y.d3.dl.length
 case neg=>rw[ac an];exact⟨T,rfl,by simp;exact λ_ a=>absurd a K⟩
 by_cases M:x.d3.dr.length=y.d3.dr.length
 case neg=>rw[ac an];exact⟨T,rfl,by simp;exact λ_ _ a=>absurd a M⟩
 rw [ae an,show(x.d3.dl.length:Int)=m.dl.length by omega,fT U (λz u=>pos z (.inl u)),bs,show(x.d3.dr.length:Int)=m.dr.length by omega,fT U (λz u=>pos z (.inr u)),bs,ae V];obtain⟨b,st,θ,N,ε,η⟩:=fY inn x.d3.dl.length 0 U U;have en:Ga (He x y m 0 0)=Y (b,st):=Dp (x.d3.dl.length+1) λn κ=>θ n U;simp only[He,Int.toNat_zero,F?]at en;dsimp only;rw[en,bs,bs];dsimp only;cases b with
 |false=>exact⟨T,rfl,by simp;exact λ_ _ _ a=>absurd (N.2 a) a!⟩|true=>
  rw [ac rfl,ε rfl,Ka,bs,bs,ac V,Ka,bs,bs];refine⟨_,rfl,λ_=>⟨inn,K,M,N.1 rfl⟩,λ_=>V⟩
end Go.Sf.Sc
namespace Go.Sf.Sc
open Go Go.Sf
def tN(n:Nat):(Az n).Nodup:=by
 unfold Az;exact List.Pairwise.map _ (λa b h e=>h (Int.ofNat.inj e)) y!
variable{l:Fp}{n:Nat}{i:Int}
def m9(f:l.Nodup)(w:l.length=n)(h:∀x∈l,0<=x/\x<n)(u:0<=i)(i1:i<n):i∈l:=by
 by_cases hi:i∈l
 .exact hi
 .have:=Xe (l:=i::l) (n:=n) (List.nodup_cons.2 ⟨hi,f⟩) (λx e=>by
   rcases C_.1 e with rfl|e
   .exact⟨u,i1⟩
   .exact h x e)
  simp at this;omega
def KS:l.Nodup↔∀i:Int,0<=i->i<l.length->hasB (l.take i.toNat) (AA l i)=T:=by
 rw [<-KC];unfold KB;rw[H!,B5];refine⟨λh i u i1=>?_,λh i u i1=>?_⟩
 .have:=h i u i1;rw[B5]at this;rw[<-I',B7];intro z;obtain⟨j,f,w,e⟩:=BP z;rw[bk]at w;have A:=this j f U;rw[to f U]at e;simp[e]at A
 .rw[B5];intro j f w;have:=h i u i1;rw[<-I',B7]at this;simp only[decide_eq_false_iff_not];intro e;refine this ?_;rw[e,<-to f w];exact AG f e!
def Z9{x y:d3}{mn me:Fp}(nn:mn.length=x.dl.length)(nd:mn.Nodup)(en:me.length=x.dr.length)(ee:x.dr.length=y.dr.length)(ed:me.Nodup)(ein:∀k∈me,0<=k/\k<y.dr.length)
  (ends:∀e∈x.dr,(0<=e.ia/\e.ia<x.dl.length)/\0<=e.To/\e.To<x.dl.length)
  (edge:∀i:Int,0<=i->i<x.dr.length->AA y.dr (AA me i)=⟨(AA x.dr i).ib,AA mn (AA x.dr i).ia,AA mn (AA x.dr i).To⟩)
  {a b:Int}(a0:0<=a)(a1:a<x.dl.length)(E:0<=b)(F:b<x.dl.length):NO x a b=NO y (AA mn a) (AA mn b):=by
 have G:me.Perm (Az y.dr.length):=(List.perm_ext_iff_of_nodup ed (tN _)).2 λk=>⟨λw=>DA.2 (ein k w),λw=>m9 ed U ein (DA.1 w).1 (DA.1 w).2⟩;have D:=G.map (AA y.dr);rw[RD]at D;have H:x.dr.map (λe=>(⟨e.ib,AA mn e.ia,AA mn e.To⟩:B0))=me.map (AA y.dr):=by
  rw [Yn x.dr,Yn me,en];refine Cf λj f C=>?_;exact(edge j f C).symm
 unfold NO;rw[<-D.countP_eq,<-H,List.countP_map];refine List.countP_congr λe he=>?_;obtain⟨⟨J,K⟩,M,N⟩:=ends e he;have inj:∀{i j:Int},0<=i->i<x.dl.length->0<=j->j<x.dl.length->AA mn i=AA mn j->i=j:=λ{i j}z i1 f C e=>by
  by_cases A:i<j
  .have:=KS.1 nd j f U;rw[<-I',B7]at this;refine absurd ?_ this;rw[<-e,<-to z A];exact AG z e!
  by_cases B:j<i
  .have:=KS.1 nd i z U;rw[<-I',B7]at this;refine absurd ?_ this;rw[e,<-to f B];exact AG f e!
  omega
 simp only[Function.comp_apply,mo,qo];exact⟨λ⟨u,v⟩=>⟨by rw[u],by rw[v]⟩,λ⟨u,v⟩=>⟨inj J K a0 a1 u,inj M N E F v⟩⟩
end Go.Sf.Sc
namespace Go.Sf.Sc
open Go Go.Sf
noncomputable def Kk(t:AC)(st:AT):Bool:=decide ((Ea t st.ey st.gx st.ll).2=0)&&jK (Ea t st.ey st.gx st.ll).1 st
variable{st:AT}
def fP{t:AC}(hf:A2 t)(fr:Is st.ey)(f:D3 st.ey.d5<=40):J4 t st=Y (Kk t st):=by
 unfold J4 Kk;rw[Y0 hf fr f,bs];by_cases e:(Ea t st.ey st.gx st.ll).2=0
 .rw[ac d_,vW,bs,bs];simp[e]
 .rw[ae d_,bs];simp[e]
def jF{t:AC}(hf:A2 t)(fr:Is st.ey)(w:D3 st.ey.d5<=40)(h:Kk t st=X):WR st.gx/\LJ st.gx st/\Dd st.gp:=by
 unfold Kk at h;simp only[mo,qo]at h;obtain⟨s,e⟩:=UB hf fr w h.1;have f:=WT.1 h.2;rw[e]at f;have u:=qA s;have tk:=s.trk;dsimp only at f;rw[f]at u tk;exact⟨u.b,tk,tk.sm⟩
def aR{t:AC}(hf:A2 t){rules:List ey}(hr:FZ rules){d:B4}(h:PD t rules d):∀n:Nat,n<=d.kl.length->(Dl t (EP t rules d.j4 (d.kl.take n)).2).2=0
 |0,_=>(Tk hf h.given).2.1|n+1,u=>by
  have he:=h.moves n U U;have e:=Ba (l:=d.kl) (i:=(n:Int)) U U;rw[show((n:Int)+1).toNat=n+1 by omega,x!]at e;unfold Q0 at he;rw[x!]at he;obtain⟨_,s,f⟩:=Tp hf hr he;rw[e,Ov,f];exact congrArg Prod.snd (Ws s)
def UN:∀(l:List AT)(m:d4),(Ko m l).dl.length=m.dl.length/\(Ko m l).dr.length=m.dr.length
 |[],m=>⟨rfl,rfl⟩|s::l,m=>by
  have:=UN l (CS m s.n8);simp only[CS,CX,c9]at this;exact this
structure cq(t:AC)(d:B4)(x:AE×d4×Int):Prop where
 small:Dd x.1
 ok:It t x.1
 wi:x.2.1.dl.length=d.j4.d3.dl.length
 x9:x.2.1.dr.length=d.j4.d3.dr.length
 inn:IB x.2.1 x.1.d3
def nU{t:AC}(hf:A2 t){rules:List ey}(hr:FZ rules){d:B4}(e:(Nz t rules d).2.2=0):cq t d (Nz t rules d):=by
 have h:PD t rules d:=ZD.1 (by rw[<-uh];exact e);obtain⟨u,w⟩:=RA hf hr h d.kl.length (az _);have c3:=aR hf hr h d.kl.length (az _);rw[E']at u w c3;have z:Nz t rules d=((EP t rules d.j4 d.kl).2,Ko (Iy d.j4.d3) (EP t rules d.j4 d.kl).1,0):=by
  unfold Nz;rw[ae (by rw[ZD.2 h];simp)]
 rw [z];have f:=UN (EP t rules d.j4 d.kl).1 (Iy d.j4.d3);exact⟨u,(O1 hf c3).2,by rw[f.1];exact Ay _,by rw[f.2];exact Ay _,w⟩
def KD{l f:Fp}(z:l.length<=1000)(h:∀x∈l,-1<=x/\x<f.length):Cv l f=Y (CX l f):=by
 unfold Cv;rw[Ud (F:=λx=>if x<0 then -1 else AA f x) λi s u i1 A=>?_]
 .rfl
 .have w:=h _ (AG u i1);rw[AD u i1,bs];by_cases e:0<=AA l i
  .rw[ac h?,AD e w.2,bs,AP a_,bs,ae U]
  .rw[ae h?,AP a_,bs,ac U,show AA l i=-1 by omega]
variable{x:AE}
def oR(h:Dd x):N6 x=Y x:=by
 have:=h.ea;have:=h.eb;have:=h.vals;unfold N6 slices_Clone_int DG;rw[BZ b_,bs,BZ b_,bs];rw[Bo (λi=>AE.mk x.d3 (x.ec.take i.toNat)) U t_]
 .rw[x!,E'];rfl
 .intro i e i1;have f:=h.rows _ (AG e i1);rw[AD e i1,bs,BZ b_,bs,AP (by rw[bk];simp;unfold AX;omega),bs,Ba e i1]
def Ge(l e:Fp):(CX l e).length=l.length:=by unfold CX;rw[c9]
def Cs(s:AT)(p:BM):d4:=⟨CX p.dl s.n8.dl,CX p.dr s.n8.dr⟩
variable{s:AT}
def Yc{p:BM}(e:X8 s.gx p)(f:LJ s.gx s):IB (Cs s p) s.gp.d3:=by
 refine ⟨by show(CX _ _).length<=1000;rw[Ge];exact e.wi,by show(CX _ _).length<=1000;rw[Ge];exact e.x9,?_,?_⟩
 .exact Mg (λx u=>by have:=e.node x u;rw[f.wi];omega) f.node
 .exact Mg (λx u=>by have:=e.edge x u;rw[f.x9];omega) f.edge
def Ul{p:BM}(e:X8 s.gx p)(u:LJ s.gx s)(w:Dd s.gp):HN s p=Y ⟨⟨s.gp,[]⟩,s.gp,Cs s p⟩:=by
 unfold HN;rw[oR w,bs,KD e.wi (λx f=>by have:=e.node x f;rw[u.wi];omega),bs,KD e.x9 (λx f=>by have:=e.edge x f;rw[u.x9];omega),bs];rfl
def fi{t:AC}(hf:A2 t){rules:List ey}(hr:FZ rules){a b:AT}(fa:Is a.ey)(ka:D3 a.ey.d5<=40)(fb:Is b.ey)(kb:D3 b.ey.d5<=40):
  Jr t rules a b=Y (if EO t rules≠0 then EO t rules else if(Kk t a&&Kk t b)=T then 1 else if a.gx=b.gx then 0 else 8):=by
 have w:(Sh t rules ⟨⟨⟨[],[]⟩,[]⟩,[]⟩).2.2=EO t rules:=by
  by_cases h:EO t rules=0
  .have hv:(BD t).2=0:=by
    unfold EO at h;split at h
    next k=>exact absurd h k
    next k=>exact J'.1 k
   have hh:(Dl t ⟨⟨[],[]⟩,[]⟩).2=0:=by
    unfold Dl;rw[ae j!,ae (by simp[CG]),ae V,A8.2 (λi u i1=>h_)];dsimp only;rw[A8.2 (λi u i1=>h_)];rfl
   have f:GP t rules ⟨⟨[],[]⟩,[]⟩=0:=by
    unfold GP;rw[ae l_];exact hh
   rw [pC (d:=⟨⟨⟨[],[]⟩,[]⟩,[]⟩) ⟨f,V,λi u i1=>h_⟩];exact h.symm
  .have f:GP t rules ⟨⟨[],[]⟩,[]⟩=EO t rules:=by
    unfold GP;rw[ac h]
   unfold Sh;rw[ac (by rw[f];exact h)];exact f
 unfold Jr Hn;rw[fe hf hr,bs,w];by_cases h:EO t rules=0
 case neg=>rw[ac b?,ac h]
 rw [ae l_,ae l_,fP hf fa ka,bs];cases Kk t a with
 |false=>rfl|true=>
  rw [ae a!,fP hf fb kb,bs,bs];cases Kk t b with
  |false=>rfl|true=>
   rw [ae a!,Tt,bs];by_cases e:a.gx=b.gx
   .rw[ae d_,ae a!,ac e]
   .rw[ac d_,ae a!,ae e]
def Vj{t:AC}(h:It t x):Cu x.d3/\x.ec.length=x.d3.dl.length/\∀e∈x.d3.dr,(0<=e.ia/\e.ia<x.d3.dl.length)/\0<=e.To/\e.To<x.d3.dl.length:=⟨h.g,h.len,λe he=>(h.g.fit e he).2⟩
end Go.Sf.Sc
namespace Go.Sf.Sc
open Go Go.Sf
noncomputable def R9(a b:AT)(p:BM)(m n iso:d4):Bool:=
 if hasB ([(CS (Cs a p) m).dl,(CS (Cs a p) m).dr,(CS (Cs b p) n).dl,(CS (Cs b p) n).dr].flatten) (-1)=X then T
 else decide (CX (CS (Cs a p) m).dl iso.dl=(CS (Cs b p) n).dl)&&decide (CX (CS (Cs a p) m).dr iso.dr=(CS (Cs b p) n).dr)
theorem ut(a b:Fp)(v:Int):hasB (a++b) v=(hasB a v||hasB b v):=by simp[hasB]
variable{s:AT}
def gu{p:BM}{d:B4}{t:AC}{x:AE×d4×Int}(hi:IB (Cs s p) s.gp.d3)(u:d.j4=s.gp)(f:cq t d x):IB (CS (Cs s p) x.2.1) x.1.d3:=by
 refine ⟨by show(CX _ _).length<=1000;rw[Ge];exact hi.wi,by show(CX _ _).length<=1000;rw[Ge];exact hi.x9,?_,?_⟩
 .exact Mg (λy e=>by have:=hi.node y e;rw[f.wi,u];exact this) f.inn.node
 .exact Mg (λy e=>by have:=hi.edge y e;rw[f.x9,u];exact this) f.inn.edge
structure zc(t:AC)(a b:AT)(p:BM)(x y:AE×d4×Int)(iso:d4):Prop where
 ha:LJ a.gx a
 hb:LJ b.gx b
 pa:X8 a.gx p
 pb:X8 b.gx p
 fx:∃d,d.j4=a.gp/\cq t d x
 fy:∃d,d.j4=b.gp/\cq t d y
 io:T8 x.1 y.1 iso
 i1:iso.dl.length<=1000
 i2:iso.dr.length<=1000
 sa:Dd a.gp
 sb:Dd b.gp
variable{iso:d4}
def vY{t:AC}{a b:AT}{p:BM}{x y:AE×d4×Int}(z:zc t a b p x y iso):
  ((HN a p).bind λB=>
 (HN b p).bind λC=>
 (Cv B.fq.dl x.2.1.dl).bind λD=>
 (Cv B.fq.dr x.2.1.dr).bind λu=>
 (Cv C.fq.dl y.2.1.dl).bind λw=>
 (Cv C.fq.dr y.2.1.dr).bind λA=>
 (E6 [D,u,w,A]).bind λE=>
 (slices_Contains_int E (-1)).bind λF=>
 if F=X then
 Y (X,T)
 else
 (Cv D iso.dl).bind λG=>
 (slices_Equal_int G w).bind λH=>
 (if H=X then((Cv u iso.dr).bind λJ=>
 (slices_Equal_int J A).bind λK=>
 Y (K))else Y T).bind λM=>
 Y (X,M))=Y (X,R9 a b p x.2.1 y.2.1 iso):=by
 obtain ⟨ha,hb,pa,pb,⟨η,P,fx⟩,⟨ζ,hr,fy⟩,io,i1,i2,sa,sb⟩:=z;have N:=Yc pa ha;have O:=Yc pb hb;have ta:=gu N P fx;have tb:=gu O hr fy;have xn:∀z∈(Cs a p).dl,-1<=z/\z<x.2.1.dl.length:=λz f=>by have:=N.node z f;rw[fx.wi,P];exact this
 have xe:∀z∈(Cs a p).dr,-1<=z/\z<x.2.1.dr.length:=λz f=>by have:=N.edge z f;rw[fx.x9,P];exact this
 have yn:∀z∈(Cs b p).dl,-1<=z/\z<y.2.1.dl.length:=λz f=>by have:=O.node z f;rw[fy.wi,hr];exact this
 have ye:∀z∈(Cs b p).dr,-1<=z/\z<y.2.1.dr.length:=λz f=>by have:=O.edge z f;rw[fy.x9,hr];exact this
 have l1:=ta.wi;have l2:=ta.x9;have ε:=tb.wi;have κ:=tb.x9;have Q:∀z∈(CS (Cs a p) x.2.1).dl,-1<=z/\z<iso.dl.length:=λz f=>by have:=ta.node z f;rw[io.nl];exact this
 have S:∀z∈(CS (Cs a p) x.2.1).dr,-1<=z/\z<iso.dr.length:=λz f=>by have:=ta.edge z f;rw[io.el];exact this
 have a1:CX (Cs a p).dl x.2.1.dl=(CS (Cs a p) x.2.1).dl:=rfl;have a2:CX (Cs a p).dr x.2.1.dr=(CS (Cs a p) x.2.1).dr:=rfl;have a3:CX (Cs b p).dl y.2.1.dl=(CS (Cs b p) y.2.1).dl:=rfl;have θ:CX (Cs b p).dr y.2.1.dr=(CS (Cs b p) y.2.1).dr:=rfl;unfold R9;rw[Ul pa ha sa,bs,Ul pb hb sb,bs];dsimp only;rw[KD N.wi xn,bs,KD N.x9 xe,bs,KD O.wi yn,bs,KD O.x9 ye,bs,a1,a2,a3,θ,bG an,bs,QA,bs];by_cases g:hasB ([(CS (Cs a p) x.2.1).dl,(CS (Cs a p) x.2.1).dr,(CS (Cs b p) y.2.1).dl,(CS (Cs b p) y.2.1).dr].flatten) (-1)=X
 .rw[ac g,ac g]
 .rw[ae g,ae g,KD l1 Q,bs,Ka,bs];by_cases e:CX (CS (Cs a p) x.2.1).dl iso.dl=(CS (Cs b p) y.2.1).dl
  .rw[ac h?,KD l2 S,bs,Ka,bs,bs];simp[e]
  .rw[ae h?,bs];simp[e]
end Go.Sf.Sc
namespace Go.Sf.Sc
open Go Go.Sf
variable{c:Bool}
def QE{b:Bool}{o:K1}(h:b=T->o=Y c):(if b=X then Y X else o.bind λx=>Y (!x))=Y (b||!c):=by
 cases b with
 |true=>rfl|false=>rw[ae a!,h rfl];rfl
structure ACz(t:AC)(rules:List ey)(a b:AT)(j:x8):Prop where
 gr:EO t rules=0
 ga:Kk t a=X
 gb:Kk t b=X
 before:a.gx=b.gx
 left:j.f0.j4=a.gp
 right:j.eh.j4=b.gp
def X0:∀{l:Fq}(n:Nat),TV.pq l->TV.pq (l.take n)
 |[],n,_=>by cases n<;>trivial
 |x::l,0,_=>trivial|x::l,n+1,h=>⟨h.1,X0 n h.2⟩
def Xz:∀{l:Fq}(n:Nat),TV.pq l->TV.pq (l.drop n)
 |[],n,_=>by cases n<;>trivial
 |x::l,0,h=>h|x::l,n+1,h=>Xz n h.2
end Go.Sf.Sc
namespace Go.Sf.Sc
open Go Go.Sf
variable{α:Type}{n:Nat}
def JE{e:α->TV}{l:List α}(h:TV.WF (eL n e l)):∀x∈l,(e x).WF:=by
 have z:TV.WF (.list n (l.map e)):=h;simp only[TV.WF]at z;intro x A;have key:∀{u:Fq},TV.pq u->∀t∈u,t.WF:=by
  intro u
  induction u with
  |nil=>intro _ t f;cases f
  |cons a l B=>
   intro w t f;rcases C_.1 f with rfl|f
   .exact w.1
   .exact B w.2 t f
 exact key z.2 _ (A_.2 ⟨x,A,rfl⟩)
def L8{x:Int}(h:(Eu x).WF):U8 x:=by
 have e:IntKind.u8.min<=x/\x<=IntKind.u8.max:=h;rw[show IntKind.u8.min=0 by decide,show IntKind.u8.max=255 by decide]at e;exact⟨e.1,U⟩
def g7{x:MA}(h:(LS x).WF):U2 x:=⟨L8 h.1,L8 h.2.1⟩
def WH{x:Ke}(h:(DU x).WF):U3 x:=⟨L8 h.1,L8 h.2.1,L8 h.2.2.1⟩
variable{d:GG}
def bu(h:(Kn d).WF):YB d:=by
 have u:TV.pq [_,_,_,_,_,_,_,_,_,_,_,_,_,_,_]:=h;obtain⟨w,z,A,_,B,C,D,E,_,_,F,G,H,J,K,_⟩:=u;have f:IntKind.u64.min<=d.mR/\d.mR<=IntKind.u64.max:=B;rw[show IntKind.u64.min=0 by decide,show IntKind.u64.max=18446744073709551615 by decide]at f;exact⟨⟨⟨λx e=>L8 (JE w x e),λx e=>WH (JE z x e)⟩,λx e=>WH (JE A x e)⟩,⟨f.1,U⟩,
  λx e=>L8 (JE C x e),λx e=>WH (JE D x e),λx e=>WH (JE E x e),⟨⟨L8 F,L8 G⟩,L8 H,L8 J⟩,λx e=>L8 (JE K x e)⟩
end Go.Sf.Sc
namespace Go.Sf.Sc
open Go Go.Sf
def N0(x y:AE)(ns mn:Fp)(i j:Int):Bool:=
 (decide (AA ns i<0)||decide (AA ns i=j))&&decide (AA y.d3.dl j=AA x.d3.dl i)&&!hasB mn j&&decide (AA x.ec i=AA y.ec j)
def QC(x y:AE)(es mn me:Fp)(i j:Int):Bool:=
 (decide (AA es i<0)||decide (AA es i=j))&&decide (AA y.d3.dr j=⟨(AA x.d3.dr i).ib,AA mn (AA x.d3.dr i).ia,AA mn (AA x.d3.dr i).To⟩)&&!hasB me j
def Hd(x y:AE)(es mn:Fp):Nat->Fp->Option Fp
 |0,me=>Y me|k+1,me=>fst (λj=>if QC x y es mn me me.length j=X then Hd x y es mn k (me++[j])else W) 0 y.d3.dr.length
def Mt(x y:AE)(ns es:Fp):Nat->Fp->Option d4
 |0,mn=>(Hd x y es mn x.d3.dr.length []).map (d4.mk mn)|k+1,mn=>fst (λj=>if N0 x y ns mn mn.length j=X then Mt x y ns es k (mn++[j])else W) 0 y.d3.dl.length
def Zl(x y:AE)(es mn r:Fp)(n:Int):Prop:=∀i:Int,0<=i->i<n->(0<=AA r i/\AA r i<y.d3.dr.length)/\QC x y es mn (r.take i.toNat) i (AA r i)=X
def Zm(x y:AE)(ns r:Fp)(n:Int):Prop:=∀i:Int,0<=i->i<n->(0<=AA r i/\AA r i<y.d3.dl.length)/\N0 x y ns (r.take i.toNat) i (AA r i)=X
theorem qN(l:Fp)(j:Int):AA (l++[j]) l.length=j:=by simp[AA]
variable{l:Fp}{j i:Int}
def Xv{P:Fp->Int->Int->Prop}(h:∀i:Int,0<=i->i<l.length->P (l.take i.toNat) i (AA l i))(e:P l l.length j)(f:0<=i)(i1:i<(l++[j]).length):P ((l++[j]).take i.toNat) i (AA (l++[j]) i):=by grind[Lz,qN,E']
variable{x y:AE}
def Wx{es mn:Fp}:∀(k:Nat)(me r:Fp),me.length+k=x.d3.dr.length->Zl x y es mn me me.length->Hd x y es mn k me=Y r->r.length=x.d3.dr.length/\Zl x y es mn r x.d3.dr.length
 |0,me,r,B,ho,h=>by
  cases h
  grind
 |k+1,me,r,B,ho,h=>by
  obtain ⟨j,w,A,e,_⟩:=Cd h;split at e
  next f=>exact Wx k (me++[j]) r an (λi u i1=>Xv (P:=λp i z=>(0<=z/\z<y.d3.dr.length)/\QC x y es mn p i z=X) ho ⟨⟨w,A⟩,f⟩ u i1) e
  .cases e
def aF{es mn r:Fp}(w:r.length=x.d3.dr.length)(ho:Zl x y es mn r x.d3.dr.length):∀(k i:Nat),i+k=x.d3.dr.length->Hd x y es mn k (r.take i)≠W
 |0,_,_=>by simp[Hd]|k+1,i,z=>λh=>by
  rw [Hd,A8]at h;obtain⟨⟨a,b⟩,f⟩:=ho i U U;have e:=h _ a b;have u:((r.take i).length:Int)=i:=e!
  have tk:=Ba (l:=r) (i:=(i:Int)) U U;rw[u]at e;rw[x!]at f tk;rw[ac f,<-tk]at e;exact aF w ho k (i+1) U e
def TY{ns es:Fp}:∀(k:Nat)(mn:Fp)(m:d4),mn.length+k=x.d3.dl.length->Zm x y ns mn mn.length->Mt x y ns es k mn=Y m ->
  m.dl.length=x.d3.dl.length/\Zm x y ns m.dl x.d3.dl.length/\m.dr.length=x.d3.dr.length/\Zl x y es m.dl m.dr x.d3.dr.length/\m.dl.take mn.length=mn
 |0,mn,m,C,ho,h=>by
  have e:mn.length=x.d3.dl.length:=U
  rw [Mt]at h;cases u:Hd x y es mn x.d3.dr.length []with
  |none=>rw[u]at h;cases h
  |some r=>
   rw [u]at h;cases h;obtain⟨a,b⟩:=Wx _ _ _ V (λi w i1=>h_) u
   grind
 |k+1,mn,m,C,ho,h=>by
  obtain ⟨j,A,B,e,_⟩:=Cd h;split at e
  .rename_i f;obtain⟨a,b,c,d,g⟩:=TY k (mn++[j]) m an (λi w i1=>Xv (P:=λp i z=>(0<=z/\z<y.d3.dl.length)/\N0 x y ns p i z=X) ho ⟨⟨A,B⟩,f⟩ w i1) e;refine⟨a,b,c,d,?_⟩;have:=congrArg (List.take mn.length) g
   grind
  .cases e
variable{m:d4}
def bC{ns es:Fp}(nl:m.dl.length=x.d3.dl.length)(ho:Zm x y ns m.dl x.d3.dl.length)(el:m.dr.length=x.d3.dr.length)(he:Zl x y es m.dl m.dr x.d3.dr.length):∀(k i:Nat),i+k=x.d3.dl.length->Mt x y ns es k (m.dl.take i)≠W
 |0,i,w=>by
  have:=aF el he x.d3.dr.length 0 U;rw[E? U,Mt];rw[F?]at this;cases h:Hd x y es m.dl x.d3.dr.length []with
  |none=>exact absurd h this|some r=>simp
 |k+1,i,w=>λh=>by
  rw [Mt,A8]at h;obtain⟨⟨a,b⟩,f⟩:=ho i U U;have e:=h _ a b;have u:((m.dl.take i).length:Int)=i:=e!
  have tk:=Ba (l:=m.dl) (i:=(i:Int)) U U;rw[u]at e;rw[x!]at f tk;rw[ac f,<-tk]at e;exact bC nl ho el he k (i+1) U e
structure TM(x y:AE)(m:d4):Prop where
 nl:m.dl.length=x.d3.dl.length
 el:m.dr.length=x.d3.dr.length
 nn:x.d3.dl.length=y.d3.dl.length
 ee:x.d3.dr.length=y.d3.dr.length
 nin:∀i:Int,0<=i->i<x.d3.dl.length->0<=AA m.dl i/\AA m.dl i<y.d3.dl.length
 ein:∀i:Int,0<=i->i<x.d3.dr.length->0<=AA m.dr i/\AA m.dr i<y.d3.dr.length
 nd:m.dl.Nodup
 ed:m.dr.Nodup
 node:∀i:Int,0<=i->i<x.d3.dl.length->AA y.d3.dl (AA m.dl i)=AA x.d3.dl i/\AA x.ec i=AA y.ec (AA m.dl i)
 edge:∀i:Int,0<=i->i<x.d3.dr.length->AA y.d3.dr (AA m.dr i)=⟨(AA x.d3.dr i).ib,AA m.dl (AA x.d3.dr i).ia,AA m.dl (AA x.d3.dr i).To⟩
def cr(ns l:Fp):Prop:=∀i:Int,0<=i->i<l.length->0<=AA ns i->AA l i=AA ns i
theorem Xc{ns es:Fp}(nn:x.d3.dl.length=y.d3.dl.length)(ee:x.d3.dr.length=y.d3.dr.length):
  (m.dl.length=x.d3.dl.length/\Zm x y ns m.dl x.d3.dl.length/\m.dr.length=x.d3.dr.length/\Zl x y es m.dl m.dr x.d3.dr.length)↔TM x y m/\cr ns m.dl/\cr es m.dr:=by
 constructor
 .rintro⟨a,b,c,d⟩;refine⟨⟨a,c,nn,ee,λi e i1=>(b i e i1).1,λi e i1=>(d i e i1).1,KS.2 λi e i1=>?_,KS.2 λi e i1=>?_,λi e i1=>?_,λi e i1=>?_⟩,λi e i1 g=>?_,λi e i1 g=>?_⟩
  .have:=(b i e U).2;simp only[N0,mo,H!]at this;exact this.1.2
  .have:=(d i e U).2;simp only[QC,mo,H!]at this;exact this.2
  .have:=(b i e i1).2;simp only[N0,mo,qo]at this;exact⟨this.1.1.2,this.2⟩
  .have:=(d i e i1).2;simp only[QC,mo,qo]at this;exact this.1.2
  .have:=(b i e U).2;simp only[N0,mo,I!,qo]at this;omega
  .have:=(d i e U).2;simp only[QC,mo,I!,qo]at this;omega
 .rintro⟨h,f,u⟩;have l1:=h.nl;have l2:=h.el;refine⟨l1,λi e i1=>⟨h.nin i e i1,?_⟩,l2,λi e i1=>⟨h.ein i e i1,?_⟩⟩
  .have k:=f i e U;simp only[N0,mo,I!,qo,H!];exact⟨⟨⟨U,(h.node i e i1).1⟩,KS.1 h.nd i e U⟩,(h.node i e i1).2⟩
  .have k:=u i e U;simp only[QC,mo,I!,qo,H!];exact⟨⟨U,h.edge i e i1⟩,KS.1 h.ed i e U⟩
def Pa(x y:AE)(ns es:Fp):Nat->Fp->Option d4
 |0,mn=>(Hd x y es mn x.d3.dr.length []).map (d4.mk mn)|k+1,mn=>fst (λj=>if(N0 x y ns mn mn.length j&&ST x y (mn++[j]) mn.length)=X then Pa x y ns es k (mn++[j])else W) 0 y.d3.dl.length
def QX(x:AE):Prop:=∀e∈x.d3.dr,(0<=e.ia/\e.ia<x.d3.dl.length)/\0<=e.To/\e.To<x.d3.dl.length
theorem aw(h:TM x y m)(ends:QX x)(e:0<=i)(i1:i<x.d3.dl.length):ST x y m.dl i=X:=by
 have l1:=h.nl;have l2:=h.el;have u:=h.ee;have ein:∀k∈m.dr,0<=k/\k<y.d3.dr.length:=λk w=>by
  obtain ⟨i,e,i1,rfl⟩:=BP w;exact h.ein i e U
 unfold ST;rw[H!,B5];intro j f z;unfold jc;rw[<-Z9 l1 h.nd l2 u h.ed ein ends h.edge f U e i1,<-Z9 l1 h.nd l2 u h.ed ein ends h.edge e i1 f U];simp
variable{n:Nat}
theorem u7(e:0<=i)(h:i<n):ST x y (l.take n) i=ST x y l i:=by
 unfold ST;congr 1;refine UA λj f u=>?_;unfold jc;rw[Go.Sf.to U,Go.Sf.to U]
def W8{ns es:Fp}(nn:x.d3.dl.length=y.d3.dl.length)(ee:x.d3.dr.length=y.d3.dr.length)(ends:QX x):∀(k:Nat)(mn:Fp),mn.length+k=x.d3.dl.length->Zm x y ns mn mn.length->Pa x y ns es k mn=Mt x y ns es k mn
 |0,_,_,_=>rfl|k+1,mn,C,ho=>by
  rw [Pa,Mt];refine aZ λj w A _=>?_;by_cases f:N0 x y ns mn mn.length j=X
  case neg=>rw[ae w!,ae f]
  have u:Zm x y ns (mn++[j]) (mn++[j]).length:=λi B i1=>Xv (P:=λp i z=>(0<=z/\z<y.d3.dl.length)/\N0 x y ns p i z=X) ho ⟨⟨w,A⟩,f⟩ B i1;rw[ac f,f,I?];by_cases g:ST x y (mn++[j]) mn.length=X
  .rw[ac g,W8 nn ee ends k _ an u]
  rw [ae g];cases h:Mt x y ns es k (mn++[j])with
  |none=>rfl|some m=>
   obtain ⟨a,b,c,d,e⟩:=TY k _ m an u h
   grind [Xc,u7,aw]
end Go.Sf.Sc
namespace Go.Sf.Sc
open Go Go.Sf
def TS:List (Int×Int)->Fp->Option Fp
 |[],o=>Y o|p::r,o=>if decide (p.1<0)≠decide (p.2<0)then W else if p.1<0 then TS r o else if 0<=AA o p.1/\AA o p.1≠p.2 then W else TS r (BE o p.1 p.2)
def dX(f:Int->Int)(ps:List (Int×Int)):Prop:=∀p∈ps,0<=p.1->f p.1=p.2
def Z4(f:Int->Int)(o:Fp):Prop:=∀k:Int,0<=k->k<o.length->0<=AA o k->f k=AA o k
theorem m8{f:Int->Int}{o:Fp}{p:Int×Int}(h0:0<=p.1)(e:p.1<o.length)(u:0<=p.2)(h:¬(0<=AA o p.1/\AA o p.1≠p.2)):Z4 f (BE o p.1 p.2)↔f p.1=p.2/\Z4 f o:=by grind[Z4,DW,P8,Tc]
def SN:∀{e:List (Int×Int)}{o r:Fp},(∀p∈e,p.1<o.length)->TS e o=Y r->r.length=o.length/\(∀p∈e,(p.1<0↔p.2<0))/\∀f:Int->Int,(dX f e/\Z4 f o↔Z4 f r)
 |[],o,r,_,h=>by
  cases h;exact⟨rfl,λp w=>by simp at w,λf=>⟨λk=>k.2,λk=>⟨λp w=>by simp at w,k⟩⟩⟩
 |p::e,o,r,hi,h=>by
  rw [TS]at h;split at h
  .cases h
  rename_i A;have D:p.1<0↔p.2<0:=p_
  have u:∀q∈e,q.1<o.length:=λq z=>hi q (C' _ z);have E:∀f,dX f (p::e)↔(0<=p.1->f p.1=p.2)/\dX f e:=λf=>by simp[dX]
  split at h
  .rename_i B;obtain⟨a,b,c⟩:=SN u h
   grind
  .rename_i B;split at h
   .cases h
   rename_i C;have w:=hi p (.head _);obtain⟨a,b,c⟩:=SN (by rw[DW];exact u) h
   grind [DW,m8]
def XY:∀{e:List (Int×Int)}{o:Fp}{f:Int->Int},(∀p∈e,p.1<o.length)->(∀p∈e,(p.1<0↔p.2<0))->dX f e->Z4 f o->TS e o≠W
 |[],_,_,_,_,_,_=>by simp[TS]|p::e,o,f,hi,G,ha,B=>by
  have C:=hi p (.head _);have s:=G p (.head _);have w:∀q∈e,q.1<o.length:=λq u=>hi q (C' _ u);have z:∀q∈e,(q.1<0↔q.2<0):=λq u=>G q (C' _ u);have A:dX f e:=λq u=>ha q (C' _ u);rw[TS,ae (by simp[s])];by_cases D:p.1<0
  .rw[ac D];exact XY w z A B
  .have E:f p.1=p.2:=ha p (.head _) U;have F:¬(0<=AA o p.1/\AA o p.1≠p.2):=λ⟨a,b⟩=>b (by rw[<-B p.1 U C a];exact E);rw[ae D,ae F];exact XY (by rw[DW];exact w) z A ((m8 U C U F).2 ⟨E,B⟩)
def Rs(f t l:Fp):Prop:=∀i:Int,0<=i->i<f.length->(AA f i<0↔AA t i<0)/\(0<=AA f i->AA l (AA f i)=AA t i)
def TT(n:Nat)(f t:Fp):Option Fp:=TS (f.zip t) (E_ n (-1))
def SA{f t:Fp}(u:f.length=t.length){p:Int×Int}:p∈f.zip t↔∃i:Int,0<=i/\i<f.length/\p=(AA f i,AA t i):=by
 have e:∀i:Int,0<=i->i<f.length->AA (f.zip t) i=(AA f i,AA t i):=λi w i1=>by
  grind [y_,AA,x!,y?]
 grind [BP,AG]
theorem Ut{f t l:Fp}(w:f.length=t.length):Rs f t l↔(∀p∈f.zip t,(p.1<0↔p.2<0))/\dX (AA l) (f.zip t):=by
 constructor
 .intro h;refine⟨λp e=>?_,λp e g=>?_⟩<;>obtain⟨i,u,i1,rfl⟩:=(SA w).1 e
  .exact(h i u i1).1
  .exact(h i u i1).2 g
 .intro h i u i1;have e:=(SA w).2 ⟨i,u,i1,rfl⟩;exact⟨h.1 _ e,h.2 _ e⟩
variable{n:Nat}{k v:Int}
theorem i7(e:0<=k)(f:k<n):AA (E_ n v) k=v:=by grind[AG]
theorem m7(f:Int->Int)(n:Nat):Z4 f (E_ n (-1)):=λk e u g=>by
 grind [G_,i7]
def UP{f t r l:Fp}(e:f.length=t.length)(hi:∀x∈f,x<n)(z:l.length=n)(h:TT n f t=Y r):cr r l↔Rs f t l:=by
 obtain ⟨a,b,c⟩:=SN (λp u=>by obtain⟨i,w,i1,rfl⟩:=(SA e).1 u;have:=hi _ (AG w i1);simpa using this) h
 grind [G_,Ut,AA,cr,Z4,m7]
def na{f t l:Fp}(e:f.length=t.length)(hi:∀x∈f,x<n)(h:TT n f t=W):¬Rs f t l:=λk=>
 XY (λp u=>by obtain⟨i,w,i1,rfl⟩:=(SA e).1 u;have:=hi _ (AG w i1);simpa using this) ((Ut e).1 k).1 ((Ut e).1 k).2 (m7 _ _) h
def IG(x y:AE)(f t:d4):Option d4:=
 if x.d3.dl.length=y.d3.dl.length/\x.d3.dr.length=y.d3.dr.length then
  match TT x.d3.dl.length f.dl t.dl,TT x.d3.dr.length f.dr t.dr with
  |some ns,Y es=>Mt x y ns es x.d3.dl.length []|_,_=>W
 else W
structure Wq(x:AE)(f t:d4):Prop where
 nl:f.dl.length=t.dl.length
 el:f.dr.length=t.dr.length
 nin:∀k∈f.dl,k<x.d3.dl.length
 ein:∀k∈f.dr,k<x.d3.dr.length
variable{x y:AE}
def YR{f t m:d4}(hi:Wq x f t)(h:IG x y f t=Y m):TM x y m/\Rs f.dl t.dl m.dl/\Rs f.dr t.dr m.dr:=by
 unfold IG at h;split at h
 case isFalse=>cases h
 rename_i e;split at h
 case h_2=>cases h
 rename_i ns es u w;obtain⟨a,b,c,d,_⟩:=TY _ _ _ V (λi C i1=>h_) h;obtain⟨z,A,B⟩:=(Xc e.1 e.2).1 ⟨a,b,c,d⟩;exact⟨z,(UP hi.nl hi.nin a u).1 A,(UP hi.el hi.ein c w).1 B⟩
def qn{f t m:d4}(hi:Wq x f t)(h:TM x y m)(e:Rs f.dl t.dl m.dl)(u:Rs f.dr t.dr m.dr):IG x y f t≠W:=by
 unfold IG;rw[ac ⟨h.nn,h.ee⟩];cases w:TT x.d3.dl.length f.dl t.dl with
 |none=>exact absurd e (na hi.nl hi.nin w)|some ns=>
 cases z:TT x.d3.dr.length f.dr t.dr with
 |none=>exact absurd u (na hi.el hi.ein z)|some es=>
 obtain ⟨a,b,c,d⟩:=(Xc h.nn h.ee).2 ⟨h,(UP hi.nl hi.nin h.nl w).2 e,(UP hi.el hi.ein h.el z).2 u⟩;exact bC a b c d x.d3.dl.length 0 U
def Gq(l:Fp):Fp:=(Az l.length).map λj=>(fst (λi=>if AA l i=j then Y i else W) 0 l.length).getD 0
def Tm(l:Fp):(Gq l).length=l.length:=by unfold Gq;rw[c9,Ay]
variable{l:Fp}{j:Int}
theorem Mp(nd:l.Nodup)(e:∀i:Int,0<=i->i<l.length->0<=AA l i/\AA l i<l.length)(f:0<=j)(u:j<l.length):(0<=AA (Gq l) j/\AA (Gq l) j<l.length)/\AA l (AA (Gq l) j)=j:=by
 have A:j∈l:=m9 nd rfl (λx w=>by obtain⟨i,z,i1,rfl⟩:=BP w;exact e i z i1) f u;unfold Gq;rw[Fu f (by rw[Ay];exact u),JB _ f u];cases h:fst (λi=>if AA l i=j then Y i else W) 0 (l.length:Int)with
 |none=>
  grind [BP,A8]
 |some v=>
  grind [Cd]
variable{i:Int}
theorem xt(nd:l.Nodup)(f:0<=i)(i1:i<l.length)(A:0<=j)(u:j<l.length)(e:AA l i=AA l j):i=j:=by
 have z:∀{i j:Int},0<=i->i<j->j<l.length->AA l i=AA l j->False:=λ{i j}f w u e=>by
  have:=KS.1 nd j U u;rw[<-I',B7]at this;refine this ?_;rw[<-e,<-Sc.to f w]
  grind [AG,bk]
 grind
theorem Tl(nd:l.Nodup)(e:∀i:Int,0<=i->i<l.length->0<=AA l i/\AA l i<l.length)(f:0<=i)(i1:i<l.length):AA (Gq l) (AA l i)=i:=by
 obtain ⟨a,b⟩:=e i f i1;obtain⟨c,d⟩:=Mp nd e a b
 grind [xt]
def nw(nd:l.Nodup)(f:∀i:Int,0<=i->i<l.length->0<=AA l i/\AA l i<l.length):(Gq l).Nodup:=by
 refine KS.2 λi u i1=>?_;rw[<-I',B7];intro w;rw[Tm]at i1;obtain⟨j,z,A,e⟩:=BP w;rw[bk,Tm]at A;rw[Sc.to z U]at e;have B:=(Mp nd f u i1).2
 grind [Mp]
def lO(m:d4):d4:=⟨Gq m.dl,Gq m.dr⟩
variable{m:d4}
def jV(h:TM x y m)(ends:QX x):TM y x (lO m):=by
 have l1:=h.nl;have l2:=h.el;have w:=h.nn;have z:=h.ee;have f:∀i:Int,0<=i->i<m.dl.length->0<=AA m.dl i/\AA m.dl i<m.dl.length:=λi e i1=>by have:=h.nin i e U;omega
 have u:∀i:Int,0<=i->i<m.dr.length->0<=AA m.dr i/\AA m.dr i<m.dr.length:=λi e i1=>by have:=h.ein i e U;omega
 refine ⟨by rw[<-w,<-l1];exact Tm _,by rw[<-z,<-l2];exact Tm _,w.symm,z.symm,λi e i1=>?_,λi e i1=>?_,nw h.nd f,nw h.ed u,λi e i1=>?_,λi e i1=>?_⟩
 .have:=(Mp h.nd f e U).1;rw[<-l1];exact this
 .have:=(Mp h.ed u e U).1;rw[<-l2];exact this
 .obtain⟨a,b⟩:=Mp h.nd f e U;obtain⟨c,d⟩:=h.node _ a.1 U;rw[b]at c d;exact⟨c.symm,d.symm⟩
 .obtain⟨a,b⟩:=Mp h.ed u e U;have c:=h.edge _ a.1 U;obtain⟨⟨A,C⟩,B,D⟩:=ends _ (AG (l:=x.d3.dr) a.1 U);show AA x.d3.dr (AA (Gq m.dr) i)=⟨_,AA (Gq m.dl) _,AA (Gq m.dl) _⟩;rw[b]at c;rw[c];dsimp only;rw[Tl h.nd f A U,Tl h.nd f B U]
def gR{f t l:Fp}(w:f.length=t.length)(nd:l.Nodup)(e:∀i:Int,0<=i->i<l.length->0<=AA l i/\AA l i<l.length)(hf:∀x∈f,x<l.length)(h:Rs f t l):Rs t f (Gq l):=λi u i1=>by
 obtain ⟨a,b⟩:=h i u U
 grind [AG,Tl]
def nZ{f t:d4}(hi:Wq x f t)(B:Wq y t f)(C:QX x)(G:QX y):(IG x y f t).isSome=(IG y x t f).isSome:=by
 have D:∀{x y:AE}{f t:d4},Wq x f t->Wq y t f->QX x->(IG x y f t).isSome=X->(IG y x t f).isSome=X:=λ{x y f t}hi B C h=>by
  obtain ⟨m,e⟩:=Option.isSome_iff_exists.1 h;obtain⟨u,E,F⟩:=YR hi e;have l1:=u.nl;have l2:=u.el;have H:=u.nn;have J:=u.ee;refine Option.isSome_iff_ne_none.2 (qn B (jV u C) (gR hi.nl u.nd (λi w i1=>?_) (λz A=>?_) E) (gR hi.el u.ed (λi w i1=>?_) (λz A=>?_) F))
  .have:=u.nin i w U;omega
  .have:=hi.nin z A;omega
  .have:=u.ein i w U;omega
  .have:=hi.ein z A;omega
 rw [J_]
 grind
end Go.Sf.Sc
namespace Go.Sf
def Gt{α σ:Type}(g:α->σ->Option σ):List α->σ->Option σ
 |[],s=>Y s|x::l,s=>(g x s).bind (Gt g l)
variable{α σ:Type}
def aT{g:α->σ->Option σ}:∀{a b:List α}{s:σ},Gt g (a++b) s=(Gt g a s).bind (Gt g b)
 |[],_,_=>rfl|x::a,b,s=>by
  rw [List.cons_append,Gt,Gt];cases g x s with
  |none=>rfl|some v=>exact aT (a:=a)
variable{I:σ->Prop}
def Vc{g:α->σ->Option σ}:∀{l:List α}{s r:σ},(∀x∈l,∀s s',I s->g x s=Y s'->I s')->I s->Gt g l s=Y r->I r
 |[],s,r,_,h,e=>by cases e;exact h
 |x::l,s,r,u,h,e=>by
  rw [Gt]at e;cases f:g x s with
  |none=>rw[f]at e;cases e
  |some v=>
   rw [f]at e;exact Vc (λy w=>u y (C' _ w)) (u x (.head _) s v h f) e
def d8{σ ρ:Type}(e:ρ):Option σ->B2 σ ρ
 |some s=>.next s|none=>.ret e
def gm{σ ρ:Type}(e:ρ):Option σ->σ ⊕ ρ
 |some s=>.inl s|none=>.inr e
variable{σ' ρ:Type}
def Wz[Inhabited α]{f:Int->σ->Option (B2 σ ρ)}{l:List α}(enc:σ'->σ)(g:α->σ'->Option σ')(e:ρ)(I:Int->σ'->Prop)(h:∀(i:Int)s,0<=i->i<l.length->I i s->f i (enc s)=Y (d8 e ((g (AA l i) s).map enc))/\∀s',g (AA l i) s=Y s'->I (i+1) s'):
  ∀(n:Nat)(a:Int)(s:σ'),0<=a->a+n=l.length->I a s->t5 f n a (enc s)=Y (gm e ((Gt g (l.drop a.toNat) s).map enc))
 |0,a,s,a0,A,_=>by
  rw [List.drop_eq_nil_of_le U];rfl
 |n+1,a,s,a0,A,B=>by
  obtain ⟨w,z⟩:=h a s a0 U B;have hd:l.drop a.toNat=AA l a::l.drop (a+1).toNat:=by
   rw [List.drop_eq_getElem_cons U,show(a+1).toNat=a.toNat+1 by omega];congr 1;unfold AA;rw[D',y? U];rfl
  rw [GO,w,hd,Gt];cases u:g (AA l a) s with
  |none=>rfl|some v=>exact Wz enc g e I h n (a+1) v U U (z v u)
def UQ[Inhabited α]{f:Int->σ->Option (B2 σ ρ)}{l:List α}(enc:σ'->σ)(g:α->σ'->Option σ')(e:ρ)(I:Int->σ'->Prop){s:σ'}{w:σ}(u:w=enc s){n:Int}(z:n=l.length)(h0:I 0 s)(h:∀(i:Int)s,0<=i->i<l.length->I i s->f i (enc s)=Y (d8 e ((g (AA l i) s).map enc))/\∀s',g (AA l i) s=Y s'->I (i+1) s'):hV f 0 n w=Y (gm e ((Gt g l s).map enc)):=by
 subst u z;have:=Wz enc g e I h l.length 0 s U U h0;unfold hV;simpa using this
def lJ[Inhabited α]{f:Int->σ->Option (B2 σ ρ)}{l:List α}(g:α->σ->Option σ)(e:ρ)(I:σ->Prop){s:σ}(h0:I s)(h:∀(i:Int)s,0<=i->i<l.length->I s->f i s=Y (d8 e (g (AA l i) s))/\∀s',g (AA l i) s=Y s'->I s'):hV f 0 l.length s=Y (gm e (Gt g l s)):=by
 have:=UQ (n:=l.length) (λs=>s) g e (λ_=>I) rfl rfl h0 (λi s u i1 w=>by simpa using h i s u i1 w);simpa using this
end Go.Sf
namespace Go.Sf.Sc
open Go Go.Sf
theorem iF{l a b:Fp}(h:∀x∈l,x<a.length):CX (CX l a) b=CX l (CX a b):=by grind[CX,G!,G?,Fu]
def mZ{l a b:d4}(e:∀x∈l.dl,x<a.dl.length)(f:∀x∈l.dr,x<a.dr.length):CS (CS l a) b=CS l (CS a b):=by grind[CS,iF]
structure CU where
 moves:List GB
 host:AE
 image:d4
instance:Inhabited CU:=⟨⟨[],⟨⟨[],[]⟩,[]⟩,⟨[],[]⟩⟩⟩
noncomputable def Ps(t:AC)(rules:List ey)(p:CU)(mv:GB):AT:=(Ea t (AA rules mv.ey) p.host mv.ll).1
noncomputable def Rl(t:AC)(rules:List ey)(p:CU)(mv:GB):CU:=⟨p.moves++[mv],(Ps t rules p mv).gp,CS p.image (Ps t rules p mv).n8⟩
def WX(p q:CU):Bool:=(IG p.host q.host p.image q.image).isSome
noncomputable def SF(t:AC)(rules:List ey)(p:CU)(mv:GB)(l:List CU):Option (List CU):=
 if 8<(Ps t rules p mv).gp.d3.dl.length then W
 else if l.any (λq=>WX q (Rl t rules p mv))=X then Y l
 else if l.length=300 then W else Y (l++[Rl t rules p mv])
noncomputable def M5(t:AC)(rules:List ey)(h:AE)(i:Int):List GB:=(Hy t (AA rules i) h).1.map (GB.mk i)
noncomputable def xK(t:AC)(rules:List ey)(h:AE):Bool:=(Az rules.length).all λi=>decide ((Hy t (AA rules i) h).2=0)
noncomputable def Qb(t:AC)(rules:List ey)(p:CU)(l:List CU):Option (List CU):=
 if xK t rules p.host=X then Gt (SF t rules p) ((Az rules.length).flatMap (M5 t rules p.host)) l else W
variable{p:CU}
def Yb{t:AC}{rules:List ey}:∀{is:Fp}{l:List CU},
  Gt (λi l=>if(Hy t (AA rules i) p.host).2=0 then Gt (SF t rules p) (M5 t rules p.host i) l else W) is l=if is.all (λi=>decide ((Hy t (AA rules i) p.host).2=0))=X then Gt (SF t rules p) (is.flatMap (M5 t rules p.host)) l else W
 |[],l=>rfl|i::is,l=>by
  rw [Gt,List.all_cons,List.flatMap_cons,aT];by_cases e:(Hy t (AA rules i) p.host).2=0
  .rw[ac e,decide_eq_true e,I?];cases h:Gt (SF t rules p) (M5 t rules p.host i) l with
   |none=>
    rw [Option.bind_none,Option.bind_none];split<;>rfl
   |some v=>exact Yb
  grind
noncomputable def Ny(t:AC)(rules:List ey)(depth:Int):Nat->Int->List CU->Option (List CU)
 |0,_,l=>Y l|k+1,i,l=>if i<l.length then(if((AA l i).moves.length:Int)=depth then Ny t rules depth k (i+1) l else(Qb t rules (AA l i) l).bind (Ny t rules depth k (i+1)))else Y l
noncomputable def mH(t:AC)(rules:List ey)(depth:Int)(p:CU):Option (List CU):=Ny t rules depth 301 0 [p]
structure KW(t:AC)(rules:List ey)(h0:AE)(m0:d4)(p:CU):Prop where
 rep:PD t rules ⟨h0,p.moves⟩
 host:p.host=(EP t rules h0 p.moves).2
 image:p.image=CS m0 (Ko (Iy h0.d3) (EP t rules h0 p.moves).1)
 few:p.moves.length<=5
def ql(m:d4)(l:List AT)(s:AT):Ko m (l++[s])=CS (Ko m l) s.n8:=by
 unfold Ko
 grind
def YY{t:AC}(hf:A2 t){rules:List ey}(hr:FZ rules){h0:AE}{m0:d4}(f:IB m0 h0.d3)(g:KW t rules h0 m0 p):
  Dd p.host/\IB (Ko (Iy h0.d3) (EP t rules h0 p.moves).1) p.host.d3/\IB p.image p.host.d3/\(Dl t p.host).2=0/\p.image.dl.length=m0.dl.length/\p.image.dr.length=m0.dr.length:=by
 obtain ⟨w,e⟩:=RA hf hr g.rep p.moves.length (az _);have c3:=aR hf hr g.rep p.moves.length (az _);rw[E']at w e c3;have z:=UN (EP t rules h0 p.moves).1 (Iy h0.d3);have l1:(Ko (Iy h0.d3) (EP t rules h0 p.moves).1).dl.length=h0.d3.dl.length:=by rw[z.1];exact Ay _
 have l2:(Ko (Iy h0.d3) (EP t rules h0 p.moves).1).dr.length=h0.d3.dr.length:=by rw[z.2];exact Ay _
 rw [<-g.host]at w e c3;refine⟨w,e,?_,c3,by rw[g.image];exact Ge _ _,by rw[g.image];exact Ge _ _⟩;rw[g.image];refine⟨by show(CX _ _).length<=1000;rw[Ge];exact f.wi,by show(CX _ _).length<=1000;rw[Ge];exact f.x9,?_,?_⟩
 .exact Mg (λy u=>by rw[l1];exact f.node y u) e.node
 .exact Mg (λy u=>by rw[l2];exact f.edge y u) e.edge
variable{mv:GB}
def al{t:AC}(hf:A2 t){rules:List ey}(hr:FZ rules){h0:AE}{m0:d4}(w:IB m0 h0.d3)(g:KW t rules h0 m0 p)(e:(FV t rules p.host mv).2=0)(C:p.moves.length<5):KW t rules h0 m0 (Rl t rules p mv)/\LJ p.host (Ps t rules p mv)/\FV t rules p.host mv=(Ps t rules p mv,0)/\(Ps t rules p mv).ll=mv.ll:=by
 obtain ⟨a,s,B⟩:=Tp hf hr e;have ha:Ps t rules p mv=TI t (AA rules mv.ey) p.host mv.ll:=by
  grind [FV,Ea,AA,Ps]
 have z:FV t rules p.host mv=(Ps t rules p mv,0):=by rw[ha];exact B
 have tk:LJ p.host (Ps t rules p mv):=by rw[ha];exact s.trk
 have A:(EP t rules h0 (p.moves++[mv]))=((EP t rules h0 p.moves).1++[Ps t rules p mv],(Ps t rules p mv).gp):=by
  rw [Ov,<-g.host,z]
 have f:=UN (EP t rules h0 p.moves).1 (Iy h0.d3);refine⟨⟨uU g.rep (by show p.moves.length<30;omega) (by show(FV t rules (EP t rules h0 p.moves).2 mv).2=0;rw[<-g.host];exact e),?_,?_,by show(p.moves++[mv]).length<=5;simp;omega⟩,tk,z,by rw[ha];rfl⟩
 .show(Ps t rules p mv).gp=(EP t rules h0 (p.moves++[mv])).2;rw[A]
 .show CS p.image (Ps t rules p mv).n8=CS m0 (Ko _ (EP t rules h0 (p.moves++[mv])).1);rw[A,g.image,ql,mZ]
  .intro x u;rw[f.1];show x<(Az _).length;rw[Ay];exact(w.node x u).2
  .intro x u;rw[f.2];show x<(Az _).length;rw[Ay];exact(w.edge x u).2
end Go.Sf.Sc
namespace Go.Sf.Sc
open Go Go.Sf
structure JV(t:AC)(rules:List ey)(h0:AE)(m0:d4)(depth i:Int)(l:List CU):Prop where
 good:∀p∈l,KW t rules h0 m0 p/\(p.moves.length:Int)<=depth
 few:l.length<=300
 mono:∀a b:Int,0<=a->a<=b->b<l.length->(AA l a).moves.length<=(AA l b).moves.length
 next:i<l.length->∀q∈l,q.moves.length<=(AA l i).moves.length+1
section
variable{t:AC}{rules:List ey}{h0:AE}{m0:d4}{depth:Int}
variable{mv:GB}{i:Int}
theorem Uw{h:AE}(f:0<=i)(i1:i<rules.length)(e:mv∈M5 t rules h i):(FV t rules h mv).2=0:=by
 obtain ⟨x,u,rfl⟩:=A_.1 e
 grind [FV,nG]
def nA{h:AE}(e:mv∈(Az rules.length).flatMap (M5 t rules h)):(FV t rules h mv).2=0:=by grind[DA,Uw]
def TK(t:AC)(rules:List ey)(h0:AE)(m0:d4)(p:CU)(l s:List CU):Prop:=∃ext,s=l++ext/\s.length<=300/\∀q∈ext,KW t rules h0 m0 q/\q.moves.length=p.moves.length+1
variable{p:CU}
theorem ZR(hf:A2 t)(hr:FZ rules)(B:IB m0 h0.d3)(g:KW t rules h0 m0 p)(C:p.moves.length<5)(e:(FV t rules p.host mv).2=0){l s s':List CU}(h:TK t rules h0 m0 p l s)(f:SF t rules p mv s=Y s'):TK t rules h0 m0 p l s':=by
 obtain ⟨ext,rfl,z,A⟩:=h;unfold SF at f;split at f
 .cases f
 split at f
 .cases f;exact⟨ext,rfl,z,A⟩
 split at f
 .cases f
 .rename_i w;cases f;have D:=(al hf hr B g e C).1;rw[b6]at z;simp only[b6]at w;refine⟨ext++[Rl t rules p mv],by rw[ci],an,λq u=>?_⟩;rcases A'.1 u with u|u
  .exact A q u
  .obtain rfl:=A!.1 u;exact⟨D,by show(p.moves++[mv]).length=_;simp⟩
def eX(hf:A2 t)(hr:FZ rules)(u:IB m0 h0.d3)(g:KW t rules h0 m0 p)(w:p.moves.length<5){l s:List CU}(z:l.length<=300)(h:Qb t rules p l=Y s):TK t rules h0 m0 p l s:=by
 unfold Qb at h;split at h
 .exact Vc (I:=TK t rules h0 m0 p l) (λmv f s s' A e=>ZR hf hr u g w (nA f) A e) ⟨[],V,z,λq B=>by cases B⟩ h
 .cases h
def dk(hf:A2 t)(hr:FZ rules)(C:IB m0 h0.d3)(hd:depth<=4){l w:List CU}(h:JV t rules h0 m0 depth i l)(z:0<=i)(i1:i<l.length)(D:((AA l i).moves.length:Int)≠depth)(e:Qb t rules (AA l i) l=Y w):JV t rules h0 m0 depth (i+1) w:=by
 obtain ⟨G,O⟩:=h.good _ (AG z i1);obtain⟨ext,rfl,H,J⟩:=eX hf hr C G U h.few e;have A:∀q∈l++ext,q.moves.length<=(AA l i).moves.length+1:=λq f=>by
  rcases A'.1 f with f|f
  .exact h.next i1 q f
  grind
 have mono:∀a b:Int,0<=a->a<=b->b<(l++ext).length->(AA (l++ext) a).moves.length<=(AA (l++ext) b).moves.length:=λa b a0 E F=>by
  by_cases B:b<l.length
  .rw[Ki a0 U,Ki U B];exact h.mono a b a0 E B
  .have:AA (l++ext) b∈ext:=by
    obtain ⟨n,rfl⟩:=y_ (show 0<=b by omega);rw[b6]at F;have K:=YF (l:=l) (m:=ext) (n:=n-l.length)
    grind [AG]
   rw [(J _ this).2];exact A _ (AG a0 U)
 refine ⟨λp u=>?_,H,mono,λk q f=>?_⟩
 .rcases A'.1 u with u|u
  .exact h.good p u
  grind
 .have M:=A q f;have N:=mono i (i+1) z U k
  grind [Ki]
def XN{l:List CU}(h:JV t rules h0 m0 depth i l)(e:0<=i)(i1:i<l.length):JV t rules h0 m0 depth (i+1) l:=⟨h.good,h.few,h.mono,λk q f=>by
 have u:=h.next i1 q f
 have w:=h.mono i (i+1) e U k;omega⟩
def jA:∀(k:Nat)(i:Int)(l:List CU),0<=i->JV t rules h0 m0 depth i l->(i<l.length->((AA l i).moves.length:Int)=depth)->Ny t rules depth k i l=Y l
 |0,_,_,_,_,_=>rfl|k+1,i,l,e,h,he=>by
  rw [Ny];by_cases i1:i<l.length
  .rw[ac i1,ac (he i1)];refine jA k (i+1) l U (XN h e i1) λi2=>?_;have f:=he i1;have u:=h.mono i (i+1) e U i2;have w:=(h.good _ (AG (i:=i+1) U i2)).2;omega
  .rw[ae i1]
variable{β ρ:Type}
def iC(hf:A2 t)(hr:FZ rules)(A:IB m0 h0.d3)(hd:depth<=4){f:List β×Int->Option (B2 (List β×Int) ρ)}(enc:List CU->List β)(e:ρ)
  (B:∀i l,0<=i->JV t rules h0 m0 depth i l->i<l.length->((AA l i).moves.length:Int)≠depth->f (enc l,i)=Y (match Qb t rules (AA l i) l with|some G=>.next (enc G,i+1)|none=>.ret e))
  (C:∀i l,0<=i->JV t rules h0 m0 depth i l->i<l.length->((AA l i).moves.length:Int)=depth->f (enc l,i)=Y (.brk (enc l,i))\/f (enc l,i)=Y (.next (enc l,i+1)))
  (z:∀i l,0<=i->JV t rules h0 m0 depth i l->(l.length:Int)<=i->f (enc l,i)=Y (.brk (enc l,i))):
  ∀(k:Nat)(i:Int)(l:List CU),0<=i->JV t rules h0 m0 depth i l->301<=i+k->∃o,Mc f (enc l,i) o/\match Ny t rules depth k i l with|some r=>∃j,o=.inl (enc r,j)|none=>o=.inr e
 |0,i,l,w,h,H=>⟨_,.brk (z i l w h (by have:=h.few;omega)),_,rfl⟩|k+1,i,l,w,h,H=>by
  by_cases i1:i<l.length
  case neg=>
   rw [Ny,ae i1];exact⟨_,.brk (z i l w h U),_,rfl⟩
  by_cases ed:((AA l i).moves.length:Int)=depth
  .rcases C i l w h i1 ed with u|u
   .rw[jA (k+1) i l w h λ_=>ed];exact⟨_,.brk u,_,rfl⟩
   .rw[Ny,ac i1,ac ed];obtain⟨o,E,F⟩:=iC hf hr A hd enc e B C z k (i+1) l U (XN h w i1) U;exact⟨o,.next u E,F⟩
  .have u:=B i l w h i1 ed;rw[Ny,ac i1,ae ed];cases D:Qb t rules (AA l i) l with
   |none=>
    rw [D]at u;exact⟨_,.ret u,rfl⟩
   |some G=>
    rw [D]at u;obtain⟨o,E,F⟩:=iC hf hr A hd enc e B C z k (i+1) G U (dk hf hr A hd h w i1 ed D) U;exact⟨o,.next u E,F⟩
def UG(hf:A2 t)(hr:FZ rules)(f:IB m0 h0.d3)(hd:depth<=4):∀(k:Nat)(i:Int)(l r:List CU),0<=i->JV t rules h0 m0 depth i l->Ny t rules depth k i l=Y r->(∃j,JV t rules h0 m0 depth j r)/\∃ext,r=l++ext
 |0,i,l,r,w,h,e=>by cases e;exact⟨⟨_,h⟩,[],V⟩
 |k+1,i,l,r,w,h,e=>by
  rw [Ny]at e;split at e
  case isFalse=>cases e;exact⟨⟨_,h⟩,[],V⟩
  rename_i i1;split at e
  .exact UG hf hr f hd k _ l r U (XN h w i1) e
  .rename_i ed;cases u:Qb t rules (AA l i) l with
   |none=>rw[u]at e;cases e
   |some B=>
    rw [u]at e;obtain⟨a,ext,rfl⟩:=UG hf hr f hd k _ B r U (dk hf hr f hd h w i1 ed u) e;obtain⟨A,C⟩:=h.good _ (AG w i1);obtain⟨z,rfl,_⟩:=eX hf hr f A U h.few u
    grind
def UT(hf:A2 t)(hr:FZ rules)(w:GP t rules h0=0)(u:IB m0 h0.d3)(hd:0<=depth):JV t rules h0 m0 depth 0 [⟨[],h0,m0⟩]:=by
 have f:CS m0 (Iy h0.d3)=m0:=by
  have e:∀{l:Fp}{n:Nat},(∀x∈l,-1<=x/\x<n)->CX l (Az n)=l:=λ{l n}h=>by
   unfold CX
   conv=>rhs;rw[<-D? l]
   grind [G?,JB]
  unfold CS Iy;rw[e u.node,e u.edge]
 refine ⟨λp z=>?_,V,λa b a0 A B=>?_,λ_ q C=>?_⟩
 .obtain rfl:=A!.1 z;exact⟨⟨⟨w,V,λi D i1=>h_⟩,rfl,f.symm,V⟩,by simpa using hd⟩
 .grind
 grind
end
end Go.Sf.Sc
namespace Go.Sf.Sc
open Go Go.Sf
def AaA(m:d4):Bool:=hasB m.dl (-1)||hasB m.dr (-1)
def WV(strict:Bool)(p q:CU):Option d4:=
 if strict=X then(if(AaA p.image||AaA q.image)=X then W else IG p.host q.host p.image q.image)else IG p.host q.host ⟨[],[]⟩ ⟨[],[]⟩
def Uo(strict:Bool)(L R:List CU)(s i k:Int):Option (CU×CU×d4):=
 if ((AA L i).moves.length:Int)+(AA R k).moves.length=s then(WV strict (AA L i) (AA R k)).map λm=>(AA L i,AA R k,m)else W
def gk(strict:Bool)(L R:List CU)(s:Int):Option (CU×CU×d4):=fst (λi=>fst (Uo strict L R s i) 0 R.length) 0 L.length
def dA(strict:Bool)(L R:List CU)(depth:Int):Option (CU×CU×d4):=fst (gk strict L R) 0 (2*depth+1)
variable{L R:List CU}
def oc{strict:Bool}{s i k:Int}{r:CU×CU×d4}(h:Uo strict L R s i k=Y r):(r.1.moves.length:Int)+r.2.1.moves.length=s/\WV strict r.1 r.2.1=Y r.2.2/\r.1=AA L i/\r.2.1=AA R k:=by
 unfold Uo at h;split at h
 .rename_i e;cases f:WV strict (AA L i) (AA R k)with
  |none=>rw[f]at h;cases h
  |some m=>
   grind
 .cases h
def tI{strict:Bool}{s:Int}{r:CU×CU×d4}(h:gk strict L R s=Y r):(r.1.moves.length:Int)+r.2.1.moves.length=s/\WV strict r.1 r.2.1=Y r.2.2/\r.1∈L/\r.2.1∈R:=by
 obtain ⟨i,u,i1,e,_⟩:=Cd h;obtain⟨k,w,z,f,_⟩:=Cd e;obtain⟨a,b,c,d⟩:=oc f
 grind [AG]
def nv(x:AE):Wq x ⟨[],[]⟩ ⟨[],[]⟩:=⟨rfl,rfl,V,V⟩
variable{x y:AE}{m:d4}
def jU(h:TM x y m)(u:Dd x)(sy:Dd y)(xv:x.ec.length=x.d3.dl.length)(yv:y.ec.length=y.d3.dl.length)(ends:QX x):T8 x y m/\x.d3.dl.length=y.d3.dl.length/\x.d3.dr.length=y.d3.dr.length/\q9 x y m 0:=by
 have l1:=h.nl;have l2:=h.el;have w:=u.ea;have z:=u.eb;have A:=sy.ea;have B:=sy.eb;refine⟨⟨l1,l2,U,U,U,U,xv,yv,ends,λk f=>?_,λk f=>?_⟩,h.nn,h.ee,λi e i1=>?_,λi e i1=>?_⟩
 .obtain⟨i,e,i1,rfl⟩:=BP f;exact h.nin i e U
 .obtain⟨i,e,i1,rfl⟩:=BP f;exact h.ein i e U
 .unfold RP;obtain⟨a,b⟩:=h.node i e i1;rw[aw h ends e i1,KS.1 h.nd i e U,decide_eq_true a,decide_eq_true b];rfl
 .unfold RN;rw[KS.1 h.ed i e U,decide_eq_true (h.edge i e i1)];rfl
variable{p:CU}
def aQ{t:AC}{rules:List ey}{h0:AE}{m0:d4}(g:KW t rules h0 m0 p):Nz t rules ⟨h0,p.moves⟩=(p.host,Ko (Iy h0.d3) (EP t rules h0 p.moves).1,0):=by
 unfold Nz;rw[ae (by rw[ZD.2 g.rep];simp)];rw[g.host]
variable{l:Fp}{n:Nat}
def S9(h:∀x∈l,-1<=x/\x<n)(f:hasB l (-1)=T):∀x∈l,0<=x:=λx u=>by
 have:=h x u;have w:x≠-1:=λe=>by
  rw [<-I',B7]at f;exact f (e▸u)
 omega
end Go.Sf.Sc
namespace Go.Sf
end Go.Sf
namespace Go.Sf.Sc
open Go Go.Sf
def SO{b c:Bool}{o:K1}(h:b=X->o=Y c):(if b=X then o else Y T)=Y (b&&c):=n_
def QD{b c:Bool}{o:K1}(h:b=T->o=Y c):(if b=X then Y X else o)=Y (b||c):=n_
def SM(p:Int×Int)(o:Fp):Option Fp:=if decide (p.1<0)≠decide (p.2<0)then W else if p.1<0 then Y o else if 0<=AA o p.1/\AA o p.1≠p.2 then W else Y (BE o p.1 p.2)
def XX:∀{e:List (Int×Int)}{o:Fp},TS e o=Gt SM e o
 |[],o=>rfl|p::e,o=>by
  rw [TS,Gt];unfold SM;split
  .rfl
  split
  .exact XX
  split
  .rfl
  .exact XX
def l6(o:Option Fp):Fp×Bool:=match o with
 |some r=>(r,X)|none=>([],T)
def uj{o:Option Fp}:ej (Y (gm (ρ:=Fp×Bool) ([],T) o)) (λe=>Y (e,X)) (λf=>Y f)=Y (l6 o):=by cases o<;>rfl
variable{i:Int}
def wY{f t:Fp}(e:f.length=t.length)(u:0<=i)(i1:i<f.length):AA (f.zip t) i=(AA f i,AA t i):=by grind[y_,AA,x!,y?]
section
variable{a b:Int}{o:Fp}
def AA4(h:¬decide (a<0)=decide (b<0)):SM (a,b) o=W:=by unfold SM;rw[ac h]
def AA5(h:decide (a<0)=decide (b<0))(e:a<0):SM (a,b) o=Y o:=by grind[SM]
def AA6(h:decide (a<0)=decide (b<0))(e:¬a<0)(f:0<=AA o a/\AA o a≠b):SM (a,b) o=W:=by grind[SM]
def AA7(h:decide (a<0)=decide (b<0))(e:¬a<0)(f:¬(0<=AA o a/\AA o a≠b)):SM (a,b) o=Y (BE o a b):=by grind[SM]
end
variable{n:Nat}
def fS(C:n<=1000){f t:Fp}(A:f.length=t.length)(hi:∀x∈f,x<n):Jo n f t=Y (l6 (TT n f t)):=by
 unfold Jo DH TT;have B:(f.length:Int)=(f.zip t).length:=by simp[A]
 rw [ac ⟨rfl,U,U⟩,bs,XX,B,<-uj,lJ SM ([],T) (λo=>o.length=n) V]
 .simp
 intro i o w i1 ho;have i2:i<f.length:=U
 have D:=hi _ (AG w i2);rw[wY A w i2,AD w i2,bs,AD w U,bs];by_cases e:decide (AA f i<0)=decide (AA t i<0)
 case neg=>rw[AA4 e,ac h?];exact⟨rfl,λs' h=>c!⟩
 rw [ae h?];by_cases u:AA f i<0
 .rw[AA5 e u,ac d?];exact⟨rfl,λs' h=>by cases h;exact ho⟩
 rw [ae d?,AD U U];simp only[bs];rw[SO (λ_=>rfl),bs];by_cases z:0<=AA o (AA f i)/\AA o (AA f i)≠AA t i
 .rw[AA6 e u z,ac d!];exact⟨rfl,λs' h=>c!⟩
 .rw[AA7 e u z,ae d!];exact⟨rfl,λs' h=>by cases h;rw[DW];exact ho⟩
end Go.Sf.Sc
namespace Go.Sf.Sc
open Go Go.Sf
structure qF(x y:AE)(ns es:Fp):Prop where
 nl:ns.length=x.d3.dl.length
 el:es.length=x.d3.dr.length
 xn:x.d3.dl.length<=1000
 xe:x.d3.dr.length<=1000
 yn:y.d3.dl.length<=1000
 ye:y.d3.dr.length<=1000
 xv:x.ec.length=x.d3.dl.length
 yv:y.ec.length=y.d3.dl.length
 ends:QX x
def gP(x y:AE)(ns es mn me:Fp)(o:Option Fp):Bool×Bc:=match o with
 |some r=>(X,⟨x,y,ns,es,⟨mn,r⟩⟩)|none=>(T,⟨x,y,ns,es,⟨mn,me⟩⟩)
variable{x y:AE}
def fQ{ns es mn:Fp}(h:qF x y ns es)(w:mn.length=x.d3.dl.length):∀(k:Nat)(me:Fp),me.length+k=x.d3.dr.length->∀n,k<n->Bu n ⟨x,y,ns,es,⟨mn,me⟩⟩=Y (gP x y ns es mn me (Hd x y es mn k me))
 |0,me,B,n,C=>by
  obtain ⟨n,rfl⟩:∃q,n=q+1:=⟨n-1,U⟩;rw[Bu,ac an];rfl
 |k+1,me,B,n,C=>by
  obtain ⟨n,rfl⟩:∃q,n=q+1:=⟨n-1,U⟩;have D:=h.el;have E:=h.xe;have F:=h.ye;have u:=h.ends _ (AG (l:=x.d3.dr) (i:=(me.length:Int)) U U);rw[Bu];dsimp only;rw[ae an,AD U U,bs,AD u.1.1 U,bs,AD u.2.1 U,bs,
   El (a:=0) (b:=(y.d3.dr.length:Int)) (λ_=>(⟨x,y,ns,es,⟨mn,me⟩⟩:Bc)) (λj=>(if QC x y es mn me me.length j=X then Hd x y es mn k (me++[j])else W).map λr=>(X,(⟨x,y,ns,es,⟨mn,r⟩⟩:Bc))) U rfl,Kq]
  .show _=Y (gP x y ns es mn me (fst (λj=>if QC x y es mn me me.length j=X then Hd x y es mn k (me++[j])else W) 0 y.d3.dr.length));cases fst (λj=>if QC x y es mn me me.length j=X then Hd x y es mn k (me++[j])else W) 0 (y.d3.dr.length:Int)<;>rfl
  .intro j z A _;dsimp only;rw[AD z A,bs,AD (l:=es) U U];simp only[bs];rw[SO (λ_=>rfl),bs,QA];simp only[bs];rw[QD (λ_=>rfl),bs];by_cases f:QC x y es mn me me.length j=X
   .have e:=f;simp only[QC,mo,I!,qo,H!]at e;rw[ae (by simp[e.1.2,e.2];omega),ac f,AP a_,bs,fQ h w k (me++[j]) an n U,bs];cases Hd x y es mn k (me++[j])with
    |some r=>rfl|none=>
     rw [ae (by simp[gP])];dsimp only[gP];rw[GW U an,bs];simp[ZH]
   .rw[ac,ae f]
    .rfl
    .refine J! λg=>f ?_;simp only[I!,mo,H!,qo,decide_eq_false_iff_not,not_or,not_and,J']at g;simp only[QC,mo,I!,qo,H!]
     grind
def Zx(x y:AE)(ns es mn:Fp)(o:Option d4):Bool×Bc:=match o with
 |some r=>(X,⟨x,y,ns,es,r⟩)|none=>(T,⟨x,y,ns,es,⟨mn,[]⟩⟩)
def fX{x y:AE}{ns es:Fp}(h:qF x y ns es):∀(k:Nat)(mn:Fp),mn.length+k=x.d3.dl.length->∀n,k<n->Bv n ⟨x,y,ns,es,⟨mn,[]⟩⟩=Y (Zx x y ns es mn (Pa x y ns es k mn))
 |0,mn,D,n,z=>by
  obtain ⟨n,rfl⟩:∃q,n=q+1:=⟨n-1,U⟩;rw[Bv,ac an];have e:IC ⟨x,y,ns,es,⟨mn,[]⟩⟩=Y (gP x y ns es mn [] (Hd x y es mn x.d3.dr.length [])):=Dp (x.d3.dr.length+1) λn z=>fQ h U _ _ V n U;rw[e,bs];show _=Y (Zx x y ns es mn ((Hd x y es mn x.d3.dr.length []).map (d4.mk mn)));cases Hd x y es mn x.d3.dr.length []<;>rfl
 |k+1,mn,D,n,z=>by
  obtain ⟨n,rfl⟩:∃q,n=q+1:=⟨n-1,U⟩;have E:=h.nl;have F:=h.xn;have G:=h.yn;have H:=h.xv;have J:=h.yv;rw[Bv];dsimp only;rw[ae an,
   El (a:=0) (b:=(y.d3.dl.length:Int)) (λ_=>(⟨x,y,ns,es,⟨mn,[]⟩⟩:Bc)) (λj=>(if(N0 x y ns mn mn.length j&&ST x y (mn++[j]) mn.length)=X then Pa x y ns es k (mn++[j])else W).map λr=>(X,(⟨x,y,ns,es,r⟩:Bc))) U rfl,Kq]
  .show _=Y (Zx x y ns es mn (fst (λj=>if(N0 x y ns mn mn.length j&&ST x y (mn++[j]) mn.length)=X then Pa x y ns es k (mn++[j])else W) 0 y.d3.dl.length));cases fst (λj=>if(N0 x y ns mn mn.length j&&ST x y (mn++[j]) mn.length)=X then Pa x y ns es k (mn++[j])else W) 0 (y.d3.dl.length:Int)<;>rfl
  .intro j A C _;dsimp only;rw[AD A C,bs,AD (l:=ns) U U];simp only[bs];rw[SO (λ_=>rfl),bs,AD (l:=x.d3.dl) U U];simp only[bs];rw[QD (λ_=>rfl),bs,QA];simp only[bs];rw[QD (λ_=>rfl),bs,AD (l:=x.ec) U U,AD (l:=y.ec) A U];simp only[bs,Ka];rw[QD (λ_=>rfl),bs];by_cases f:N0 x y ns mn mn.length j=X
   .have w:=f;simp only[N0,mo,I!,qo,H!]at w;have u:=bI (x:=x) (y:=y) (ns:=ns) (es:=es) (me:=[]) h.xe h.ye (mn:=mn++[j]) an (l:=mn.length) U an;rw[E? V]at u;rw[ae (by simp[w.1.1.2,w.1.2,w.2];omega),AP a_,bs,u,bs,f,I?];have B:slc (mn++[j]) 0 (mn.length:Int)=Y mn:=by rw[GW U an];simp
    cases ST x y (mn++[j]) mn.length with
    |false=>rw[ae a!,ae a!,B];rfl|true=>
     rw [ac rfl,ac rfl,fX h k (mn++[j]) an n U,bs];cases Pa x y ns es k (mn++[j])with
     |some r=>rfl|none=>
      rw [ae (by simp[Zx])];dsimp only[Zx];rw[B];rfl
   .rw[ac,ae w!]
    .rfl
    .refine J! λg=>f ?_;simp only[I!,mo,H!,qo,decide_eq_false_iff_not,not_or,not_and,J']at g;simp only[N0,mo,I!,qo,H!];exact⟨⟨⟨by have:=g.1.1.1;omega,g.1.1.2⟩,I_.2 g.1.2⟩,g.2⟩
def ABf(o:Option d4):d4×Bool:=match o with
 |some r=>(r,X)|none=>(⟨[],[]⟩,T)
def Xh{f t:d4}(z:Dd x)(sy:Dd y)(xv:x.ec.length=x.d3.dl.length)(yv:y.ec.length=y.d3.dl.length)(ends:QX x)(hi:Wq x f t):Dm x y f t=Y (ABf (IG x y f t)):=by
 have E:=z.ea;have F:=z.eb;have G:=sy.ea;have H:=sy.eb;unfold Dm IG;by_cases e:x.d3.dl.length=y.d3.dl.length/\x.d3.dr.length=y.d3.dr.length
 case neg=>rw[ae e,ac];rfl;simp;omega
 rw [ac e,ae an,fS U hi.nl hi.nin,bs,fS U hi.el hi.ein,bs];cases B:TT x.d3.dl.length f.dl t.dl with
 |none=>rfl|some ns=>
 cases C:TT x.d3.dr.length f.dr t.dr with
 |none=>rfl|some es=>
 rw [ae (by simp[l6])];have A:=(SN (λp w=>by obtain⟨i,u,i1,rfl⟩:=(SA hi.nl).1 w;have:=hi.nin _ (AG u i1);simpa using this) B).1;have le:=(SN (λp w=>by obtain⟨i,u,i1,rfl⟩:=(SA hi.el).1 w;have:=hi.ein _ (AG u i1);simpa using this) C).1;rw[G_]at A le;have g:qF x y ns es:=⟨A,le,U,U,U,U,xv,yv,ends⟩;have en:Ga ⟨x,y,ns,es,⟨[],[]⟩⟩=Y (Zx x y ns es [] (Pa x y ns es x.d3.dl.length [])):=Dp (x.d3.dl.length+1) λn D=>fX g _ _ V n U;show(Ga ⟨x,y,ns,es,⟨[],[]⟩⟩).bind _=_;rw[en,bs,W8 e.1 e.2 ends _ _ V (λi u i1=>h_)];dsimp only;cases Mt x y ns es x.d3.dl.length []<;>rfl
end Go.Sf.Sc
namespace Go.Sf.Sc
open Go Go.Sf
end Go.Sf.Sc
namespace Go.Sf.Sc
open Go Go.Sf
def Fg(h0:AE)(p:CU):A7:=⟨⟨h0,p.moves⟩,p.host,p.image⟩
instance:Inhabited A7:=⟨Fg (default:CU).host default⟩
section
variable{t:AC}{rules:List ey}{h0:AE}{m0:d4}{depth:Int}
structure RS(m0:d4)(p:CU):Prop where
 sm:Dd p.host
 vl:p.host.ec.length=p.host.d3.dl.length
 ends:QX p.host
 inn:IB p.image p.host.d3
 nl:p.image.dl.length=m0.dl.length
 el:p.image.dr.length=m0.dr.length
variable{p:CU}
def KW.fact(hf:A2 t)(hr:FZ rules)(u:IB m0 h0.d3)(g:KW t rules h0 m0 p):RS m0 p:=by
 obtain ⟨a,_,c,d,e,f⟩:=YY hf hr u g;obtain⟨x,y,z⟩:=Vj (O1 hf d).2;exact⟨a,y,z,c,e,f⟩
variable{q:CU}
def ZZ(a:RS m0 p)(b:RS m0 q):Wq p.host p.image q.image:=⟨by rw[a.nl,b.nl],by rw[a.el,b.el],λk e=>(a.inn.node k e).2,λk e=>(a.inn.edge k e).2⟩
def vP(a:RS m0 p)(b:RS m0 q):HO (Fg h0 p) (Fg h0 q)=Y (WX p q):=by
 unfold HO NX;show((Dm q.host p.host q.image p.image).bind _).bind _=_;rw[Xh b.sm a.sm b.vl a.vl b.ends (ZZ b a),bs,bs];unfold WX;rw[nZ (ZZ a b) (ZZ b a) a.ends b.ends];cases IG q.host p.host q.image p.image<;>rfl
variable{i:Int}
def vR(u:IB m0 h0.d3)(a:RS m0 p)(w:p.moves.length<=5){m:AQ}(tk:LJ p.host (Ps t rules p ⟨i,m⟩))(f:(Ps t rules p ⟨i,m⟩).ll=m):FG (Fg h0 p) i (Ps t rules p ⟨i,m⟩)=Y (Fg h0 (Rl t rules p ⟨i,m⟩)):=by
 unfold FG Kb;dsimp only[Fg];rw[BZ b_,bs,AP a_,bs,KD a.inn.wi (λx e=>by have:=a.inn.node x e;rw[tk.wi];exact this),bs,KD a.inn.x9 (λx e=>by have:=a.inn.edge x e;rw[tk.x9];exact this),bs,f];rfl
def nP{l s:List CU}(h:TK t rules h0 m0 p l s)(e:0<=i)(i1:i<l.length):AA s i=AA l i/\i<s.length:=by
 obtain ⟨ext,rfl,_,_⟩:=h
 grind [Ki]
def qa(hf:A2 t)(hr:FZ rules)(f:IB m0 h0.d3){l s:List CU}(u:∀q∈l,KW t rules h0 m0 q)(h:TK t rules h0 m0 p l s):∀q∈s,RS m0 q:=by
 obtain ⟨ext,rfl,_,w⟩:=h;intro q e;rcases A'.1 e with e|e
 .exact(u q e).fact hf hr f
 .exact(w q e).1.fact hf hr f
def kw{l:List A7}{f:A7->K1}{p:A7->Bool}(h:∀x∈l,f x=Y (p x)):CJ l f=Y (l.any p):=FH h
variable{k:Int}
theorem yA(hf:A2 t)(hr:FZ rules)(u:IB m0 h0.d3){l:List CU}(M:∀q∈l,KW t rules h0 m0 q)(C:0<=i)(i1:i<l.length)(S:(AA l i).moves.length<5)(θ:0<=k)(ε:k<rules.length){m:AQ}(E:(FV t rules (AA l i).host ⟨k,m⟩).2=0){s:List CU}(F:TK t rules h0 m0 (AA l i) l s):
  ((idx (s.map (Fg h0)) i).bind λG=>
   (FY t (AA rules k) G.AaD m).bind λe=>
   if (!decide (e.2=0))=X then
   Y (.ret (([]:List A7),e.2))
   else
   if (decide (8<(e.1.gp.d3.dl.length:Int)))=X then
   Y (.ret ([],3))
   else
   (idx (s.map (Fg h0)) i).bind λH=>
   (FG H k e.1).bind λw=>
   (CJ (s.map (Fg h0)) (λJ=>HO J w)).bind λK=>
   if K=X then
   Y (.next (s.map (Fg h0)))
   else
   if (decide (((s.map (Fg h0)).length:Int)=300))=X then
   Y (.ret ([],3))
   else
   (AY (s.map (Fg h0)) [w]).bind λz=>
   Y (.next z))=Y (d8 ([],3) ((SF t rules (AA l i) ⟨k,m⟩ s).map (H_ (Fg h0)))):=by
 have N:=M _ (AG C i1);have η:=N.fact hf hr u;obtain⟨Z,Q⟩:=nP F C i1;obtain⟨gn,tk,e3,e4⟩:=al hf hr u N E S;have ζ:=gn.fact hf hr u;have A:=hr.each _ (AG (l:=rules) θ ε);have δ:Ea t (AA rules k) (AA l i).host m=(Ps t rules (AA l i) ⟨k,m⟩,0):=by
  grind [FV]
 rw [AD C (by simpa using Q),Fu C Q,Z];simp only[bs];show((FY t (AA rules k) (AA l i).host m).bind _)=_;rw[Y0 hf A.1 A.2,δ,bs,ae V];dsimp only;unfold SF;by_cases O:8<(Ps t rules (AA l i) ⟨k,m⟩).gp.d3.dl.length
 .rw[ac an,ac O];rfl
 have B:CJ (s.map (Fg h0)) (λJ=>HO J (Fg h0 (Rl t rules (AA l i) ⟨k,m⟩)))=Y (s.any λq=>WX q (Rl t rules (AA l i) ⟨k,m⟩)):=by
  rw [kw (p:=λy=>WX ⟨y.d.kl,y.AaD,y.fq⟩ (Rl t rules (AA l i) ⟨k,m⟩)),List.any_map]
  .rfl
  .intro x κ;obtain⟨q,hq,rfl⟩:=A_.1 κ;exact vP (qa hf hr u M F q hq) ζ
 rw [ae an,ae O,vR u η U tk e4,bs,B,bs];by_cases D:(s.any λq=>WX q (Rl t rules (AA l i) ⟨k,m⟩))=X
 .rw[ac D,ac D];rfl
 rw [ae D,ae D,c9];by_cases f:s.length=300
 .rw[ac w!,ac f];rfl
 .have P:s.length<=300:=by obtain⟨ext,rfl,h3,_⟩:=F;exact h3
  rw [ae an,ae f,AP a_,bs];simp[d8]
end
end Go.Sf.Sc
namespace Go.Sf.Sc
open Go Go.Sf
section
variable{t:AC}{rules:List ey}{h0:AE}{m0:d4}{depth:Int}
def wU{β ρ γ:Type}(hf:A2 t)(hr:FZ rules)(A:IB m0 h0.d3)(hd:depth<=4){f:List β×Int->Option (B2 (List β×Int) ρ)}{k:List β×Int->Option γ}{w:ρ->Option γ}{ζ:Option γ}(enc:List CU->List β)(e:ρ)
  (B:∀i l,0<=i->JV t rules h0 m0 depth i l->i<l.length->((AA l i).moves.length:Int)≠depth->f (enc l,i)=Y (match Qb t rules (AA l i) l with|some H=>.next (enc H,i+1)|none=>.ret e))
  (C:∀i l,0<=i->JV t rules h0 m0 depth i l->i<l.length->((AA l i).moves.length:Int)=depth->f (enc l,i)=Y (.brk (enc l,i))\/f (enc l,i)=Y (.next (enc l,i+1)))
  (D:∀i l,0<=i->JV t rules h0 m0 depth i l->(l.length:Int)<=i->f (enc l,i)=Y (.brk (enc l,i)))
  {l:List CU}{z:List β×Int}(E:z=(enc l,0))(F:JV t rules h0 m0 depth 0 l)(ha:∀r j,Ny t rules depth 301 0 l=Y r->k (enc r,j)=ζ)(hb:Ny t rules depth 301 0 l=W->w e=ζ):ej (DC f z) k w=ζ:=by
 subst E;obtain⟨o,G,u⟩:=iC hf hr A hd enc e B C D 301 0 l U F U;rw[G.eq];cases h:Ny t rules depth 301 0 l with
 |none=>
  rw [h]at u;subst u;exact hb h
 |some r=>
  rw [h]at u;obtain⟨j,rfl⟩:=u;exact ha r j h
variable{i:Int}
def SP{l:List CU}(h:JV t rules h0 m0 depth i l):∀q∈l,KW t rules h0 m0 q:=λq e=>(h.good q e).1
variable{p:CU}{k:Int}
def nH(hf:A2 t)(hr:FZ rules)(u:IB m0 h0.d3)(f:KW t rules h0 m0 p)(w:0<=k)(z:k<rules.length)(e:(Hy t (AA rules k) p.host).2≠0):(Hy t (AA rules k) p.host).2=3:=
 (uX hf ((wA f.rep.given).1 _ (AG w z)) (YY hf hr u f).2.2.2.1).resolve_left e
def V5{β:Type}(enc:CU->β)(o:Option (List CU)):List β×Int:=match o with
 |some L=>(L.map enc,0)|none=>([],3)
def ju(hf:A2 t)(hr:FZ rules)(J:GP t rules h0=0)(D:IB m0 h0.d3)(K:0<=depth)(hd:depth<=4):IY t rules (Fg h0 ⟨[],h0,m0⟩) depth=Y (V5 (Fg h0) (mH t rules depth ⟨[],h0,m0⟩)):=by
 unfold IY;refine wU hf hr D hd (H_ (Fg h0)) ([],3) (λi l f gb i1 E=>?_) (λi l f gb i1 he=>?_) (λi l f gb i1=>?_) (l:=[⟨[],h0,m0⟩]) rfl (UT hf hr J D K) (λr j e=>?_) (λe=>?_)
 .have O:=SP gb;have G:=O _ (AG f i1);have S:=(gb.good _ (AG f i1)).2;have u:=gb.few;have P:(AA l i).moves.length<5:=U
  dsimp only;rw[ac k?,AD f k?,bs,Fu f i1,ae (by show¬decide (((AA l i).moves.length:Int)=depth)=X;simpa using E),AU U U,
   UQ (l:=Az rules.length) (H_ (Fg h0)) (λk M=>if(Hy t (AA rules k) (AA l i).host).2=0 then Gt (SF t rules (AA l i)) (M5 t rules (AA l i).host k) M else W) ([],3) (λ_=>TK t rules h0 m0 (AA l i) l) rfl (by rw[Ay]) ⟨[],V,u,λq N=>by cases N⟩,Yb]
  .show ej (Y (gm _ ((Qb t rules (AA l i) l).map _))) _ _=_;cases Qb t rules (AA l i) l<;>rfl
  intro k s A w z;rw[Ay]at w;have B:=hr.each _ (AG (l:=rules) A w);obtain⟨Q,H⟩:=nP z f i1;rw[JB _ A w,AD A w,bs,AD f w?,bs,Fu f H,Q];show((FE t (AA rules k) (AA l i).host).bind _)=_/\_;rw[yD hf B.1 B.2,bs];by_cases C:(Hy t (AA rules k) (AA l i).host).2=0
  case neg=>
   rw [ac (by simp[C]),ae C,nH hf hr D G A w C];exact⟨rfl,λs' h=>c!⟩
  rw [ae (by simp[C]),ac C,
   UQ (l:=M5 t rules (AA l i).host k) (H_ (Fg h0)) (SF t rules (AA l i)) ([],3) (λ_=>TK t rules h0 m0 (AA l i) l) rfl (by simp[M5]) z]
  .refine⟨by cases Gt (SF t rules (AA l i)) (M5 t rules (AA l i).host k) s<;>rfl,λs' h=>?_⟩;exact Vc (I:=TK t rules h0 m0 (AA l i) l) (λmv F s s' z e=>ZR hf hr D G P (Uw A w F) z e) z h
  grind [Uw,AG,Hy,AA,M5,Fu,AD,yA,ZR]
 .right;have u:=gb.few;dsimp only;rw[ac k?,AD f k?,bs,Fu f i1,ac (by show decide (((AA l i).moves.length:Int)=depth)=X;simpa using he),AU U U]
 .grind
 .show Y (_,_)=Y (V5 _ (Ny t rules depth 301 0 _));rw[e];rfl
 .show Y (_,_)=Y (V5 _ (Ny t rules depth 301 0 _));rw[e];rfl
end
end Go.Sf.Sc
namespace Go.Sf.Sc
open Go Go.Sf
def SS(a b:Fp)(n:Nat):Fp:=(Az n).filter λi=>decide (0<=AA a i)&&decide (0<=AA b i)
def JK(a b:AT):BM:=⟨SS a.n8.dl b.n8.dl a.gx.d3.dl.length,SS a.n8.dr b.n8.dr a.gx.d3.dr.length⟩
variable{σ:Type}{n:Nat}
def ay{a b:Fp}(ha:a.length=n)(hb:b.length=n)(C:n<=1000)(mk:Fp->σ){f:Int->σ->Option σ}(hf:∀i l,f i (mk l)=((idx a i).bind λu=>(if(decide (0<=u))=X then((idx b i).bind λw=>Y (decide (0<=w)))else Y T).bind λz=>if z=X then(AY l [i]).bind λA=>Y (mk A)else Y (mk l))){s:σ}(B:s=mk []):kx f 0 n s=Y (mk (SS a b n)):=by
 subst B;rw[Bo (λi=>mk (((Az n).take i.toNat).filter λi=>decide (0<=AA a i)&&decide (0<=AA b i))) U V]
 .rw[x!,E? (by rw[Ay];omega)];rfl
 intro i e i1;rw[hf,AD e U,bs,AD e U,bs,SO (λ_=>rfl),bs,Ba (l:=Az n) e (by rw[Ay];exact i1),JB _ e i1,z?]
 grind [AA,Az,take,Nat.le_trans,z!,bk,Ay,AP,B_,AX]
section
variable{t:AC}{rules:List ey}{a b:AT}{depth:Int}{strict:Bool}
def bF(h:a.gx=b.gx)(ta:LJ a.gx a)(tb:LJ b.gx b)(sm:Dd a.gx):HM a b=Y (JK a b,0):=by
 have u:=ta.wi;have w:=ta.x9;have e:=tb.wi;have f:=tb.x9;have z:=sm.ea;have A:=sm.eb;rw[<-h]at e f;unfold HM;rw[Tt,bs,ae (by simp[h];rw[<-h];omega),ay u e z (λl=>BM.mk l []) (λ_ _=>rfl) rfl,bs,ay w f A (λl=>BM.mk (SS a.n8.dl b.n8.dl a.gx.d3.dl.length) l) (λ_ _=>rfl) rfl,bs];rfl
variable{n:Nat}
def WW{l m:Fp}(e:n<=1000):(SS l m n).length<=1000/\∀x∈SS l m n,(0<=x/\x<n)/\0<=AA l x/\0<=AA m x:=by
 refine ⟨Nat.le_trans (z! _ _) (by rw[Ay];exact e),λx f=>?_⟩;obtain⟨w,u⟩:=z_.1 f;simp only[mo,qo]at u
 grind [DA]
def xM(sm:Dd a.gx):X8 a.gx (JK a b):=
 ⟨(WW sm.ea).1,(WW sm.eb).1,λx e=>((WW sm.ea).2 x e).1,λx e=>((WW sm.eb).2 x e).1⟩
noncomputable def K7(t:AC)(rules:List ey)(a b:AT):Int:=if EO t rules≠0 then EO t rules else if(Kk t a&&Kk t b)=T then 1 else if a.gx=b.gx then 0 else 8
def R1:x8:=⟨Hn,Hn,⟨[],[]⟩⟩
noncomputable def Uc(t:AC)(rules:List ey)(a b:AT)(depth:Int):Option (List CU):=mH t rules depth ⟨[],a.gp,Cs a (JK a b)⟩
noncomputable def Sg(t:AC)(rules:List ey)(a b:AT)(depth:Int):Option (List CU):=mH t rules depth ⟨[],b.gp,Cs b (JK a b)⟩
def qV(a b:AT)(o:Option (CU×CU×d4)):x8×Int:=match o with
 |some r=>(⟨⟨a.gp,r.1.moves⟩,⟨b.gp,r.2.1.moves⟩,r.2.2⟩,0)|none=>(R1,10)
noncomputable def Gs(t:AC)(rules:List ey)(a b:AT)(depth:Int)(strict:Bool):x8×Int:=
 if K7 t rules a b≠0 then(R1,K7 t rules a b)
 else if depth<0\/4<depth then(R1,6)
 else if 8<a.gp.d3.dl.length\/8<b.gp.d3.dl.length then(R1,3)
 else match Uc t rules a b depth,Sg t rules a b depth with
  |some L,Y R=>qV a b (dA strict L R depth)|_,_=>(R1,3)
structure SE(t:AC)(rules:List ey)(a b:AT):Prop where
 rz:EO t rules=0
 ca:Kk t a=X
 cb:Kk t b=X
 eq:a.gx=b.gx
def ZK(h:K7 t rules a b=0):SE t rules a b:=by
 unfold K7 at h;split at h
 .grind
 rename_i k;split at h
 .cases h
 rename_i e;split at h
 next f=>simp only[H',mo]at e;exact⟨J'.1 k,e.1,e.2,f⟩
 .cases h
end
end Go.Sf.Sc
namespace Go.Sf
end Go.Sf
namespace Go.Sf.Sc
open Go Go.Sf
variable{σ ρ:Type}
def kH{s:σ}{o:Option ρ}:ej (Y (kG s o)) (λs2=>Y (B2.next s2)) (λe=>Y (B2.ret e))=Y (ZH s o):=by cases o<;>rfl
section
variable{t:AC}{rules:List ey}{a b:AT}{depth:Int}{strict:Bool}{m0 m1:d4}
structure ct(m0 m1:d4)(L R:List CU):Prop where
 l:∀p∈L,RS m0 p/\p.moves.length<=5
 r:∀p∈R,RS m1 p/\p.moves.length<=5
 nl:m0.dl.length=m1.dl.length
 el:m0.dr.length=m1.dr.length
variable{L R:List CU}
def ct.inn(h:ct m0 m1 L R):∀p∈L,∀q∈R,Wq p.host p.image q.image:=λp u q w=>by
 have f:=(h.l p u).1;have g:=(h.r q w).1;exact⟨by rw[f.nl,g.nl,h.nl],by rw[f.el,g.el,h.el],λk e=>(f.inn.node k e).2,λk e=>(f.inn.edge k e).2⟩
def Zn(x y:AE)(r:CU×CU×d4):x8×Int:=(⟨⟨x,r.1.moves⟩,⟨y,r.2.1.moves⟩,r.2.2⟩,0)
def jq(x:AE)(p:CU):Dg (Fg x p)=Y (AaA p.image):=by
 unfold Dg AaA;rw[QA,bs,QA];simp only[bs];rw[QD (λ_=>rfl),bs];rfl
variable{x y:AE}
theorem vS(h:ct m0 m1 L R){s i k:Int}(J:0<=i)(i1:i<L.length)(F:0<=k)(G:k<R.length){z:x8}:
  ((idx (R.map (Fg y)) k).bind λu=>
   (if(!decide ((AJ (((Fg x (AA L i)).d.kl.length:Int)+(u.d.kl.length:Int)))=s))=X then Y X else((if strict=X then((Dg (Fg x (AA L i))).bind λA=>
   (if A=X then Y X else((Dg u).bind λB=>
   Y (B))).bind λC=>
   Y (C))else Y T).bind λD=>
   Y (D))).bind λE=>
   if E=X then
   Y (.next z)
   else
   if strict=X then
   (Dm (Fg x (AA L i)).AaD u.AaD (Fg x (AA L i)).fq u.fq).bind λw=>
   if w.2=X then
   Y (.ret (x8.mk (Fg x (AA L i)).d u.d w.1,0))
   else
   Y (.next z)
   else
   (Dm (Fg x (AA L i)).AaD u.AaD (d4.mk [] []) (d4.mk [] [])).bind λw=>
   if w.2=X then
   Y (.ret (x8.mk (Fg x (AA L i)).d u.d w.1,0))
   else
   Y (.next z))=Y (ZH z ((Uo strict L R s i k).map (Zn x y))):=by
 obtain ⟨f,K⟩:=h.l _ (AG J i1);obtain⟨g,M⟩:=h.r _ (AG F G);have hi:=h.inn _ (AG J i1) _ (AG F G);rw[AD F v_,bs,Fu F G,jq,jq];simp only[bs];rw[QD (λ_=>rfl)];simp only[bs];rw[SO (λ_=>rfl)];simp only[bs];rw[QD (λ_=>rfl),bs];show(if(!decide (AJ (((AA L i).moves.length:Int)+(AA R k).moves.length)=s)||_)=X then _ else if strict=X then(Dm (AA L i).host (AA R k).host (AA L i).image (AA R k).image).bind _ else(Dm (AA L i).host (AA R k).host _ _).bind _)=_;rw[AU U U];unfold Uo WV;by_cases e:((AA L i).moves.length:Int)+(AA R k).moves.length=s
 case neg=>rw[ac d_,ae e];rfl
 rw [ac e];cases strict with
 |true=>
  rw [ac (rfl:X=X)];by_cases H:(AaA (AA L i).image||AaA (AA R k).image)=X
  .rw[ac (by simp only[H];simp),ac H];rfl
  .rw[ae (by simp only[e,H];simp),ae H,ac rfl,Xh f.sm g.sm f.vl g.vl f.ends hi,bs];cases IG (AA L i).host (AA R k).host (AA L i).image (AA R k).image<;>rfl
 |false=>
  rw [ae d_,ae a!,ae a!,Xh f.sm g.sm f.vl g.vl f.ends (nv _),bs];cases IG (AA L i).host (AA R k).host ⟨[],[]⟩ ⟨[],[]⟩<;>rfl
end
end Go.Sf.Sc
namespace Go.Sf.Sc
open Go Go.Sf
structure VG(t:AC)(rules:List ey)(a b:AT):Prop where
 hf:A2 t
 hr:FZ rules
 fa:Is a.ey
 ka:D3 a.ey.d5<=40
 fb:Is b.ey
 kb:D3 b.ey.d5<=40
section
variable{t:AC}{rules:List ey}{a b:AT}{depth:Int}{strict:Bool}
variable{s:AT}
def bh(hf:A2 t)(fr:Is s.ey)(u:D3 s.ey.d5<=40)(rz:EO t rules=0)(h:Kk t s=X):GP t rules s.gp=0:=by
 unfold Kk at h;simp only[mo,qo]at h;obtain⟨o,e⟩:=UB hf fr u h.1;have f:=WT.1 h.2;rw[e]at f;have w:s.gp=PH t s.ey s.gx s.ll:=by
  have:=congrArg AT.gp f;exact this.symm
 grind [GP,Ws]
structure we(t:AC)(rules:List ey)(a b:AT):Prop where
 ta:LJ a.gx a
 tb:LJ b.gx b
 wa:WR a.gx
 wb:WR b.gx
 ga:GP t rules a.gp=0
 gb:GP t rules b.gp=0
 ma:IB (Cs a (JK a b)) a.gp.d3
 mb:IB (Cs b (JK a b)) b.gp.d3
 pa:X8 a.gx (JK a b)
 pb:X8 b.gx (JK a b)
def Ry(f:VG t rules a b)(v:SE t rules a b):we t rules a b:=by
 obtain ⟨wa,ta,sa⟩:=jF f.hf f.fa f.ka v.ca;obtain⟨wb,tb,sb⟩:=jF f.hf f.fb f.kb v.cb;have pa:X8 a.gx (JK a b):=xM wa.s;have pb:X8 b.gx (JK a b):=v.eq▸pa;exact⟨ta,tb,wa,wb,bh f.hf f.fa f.ka v.rz v.ca,bh f.hf f.fb f.kb v.rz v.cb,Yc pa ta,Yc pb tb,pa,pb⟩
variable{L R:List CU}
def XI(f:VG t rules a b)(v:SE t rules a b)(z:0<=depth)(hd:depth<=4)(A:Uc t rules a b depth=Y L)(B:Sg t rules a b depth=Y R):
  (∀p∈L,KW t rules a.gp (Cs a (JK a b)) p)/\(∀p∈R,KW t rules b.gp (Cs b (JK a b)) p)/\ct (Cs a (JK a b)) (Cs b (JK a b)) L R:=by
 have g:=Ry f v;obtain⟨⟨j,u⟩,_⟩:=UG f.hf f.hr g.ma hd 301 0 _ L U (UT f.hf f.hr g.ga g.ma z) A;obtain⟨⟨C,w⟩,_⟩:=UG f.hf f.hr g.mb hd 301 0 _ R U (UT f.hf f.hr g.gb g.mb z) B;refine⟨SP u,SP w,λp e=>⟨(SP u p e).fact f.hf f.hr g.ma,(SP u p e).few⟩,λp e=>⟨(SP w p e).fact f.hf f.hr g.mb,(SP w p e).few⟩,?_,?_⟩
 .show(CX _ _).length=(CX _ _).length;rw[Ge,Ge]
 .show(CX _ _).length=(CX _ _).length;rw[Ge,Ge]
def nV(h:K7 t rules a b≠0):Gs t rules a b depth strict=(R1,K7 t rules a b):=by grind[Gs]
theorem nW(h:K7 t rules a b=0)(e:depth<0\/4<depth):Gs t rules a b depth strict=(R1,6):=by grind[Gs]
theorem nX(h:K7 t rules a b=0)(e:¬(depth<0\/4<depth))(f:8<a.gp.d3.dl.length\/8<b.gp.d3.dl.length):Gs t rules a b depth strict=(R1,3):=by grind[Gs]
def nY(h:K7 t rules a b=0)(e:¬(depth<0\/4<depth))(f:¬(8<a.gp.d3.dl.length\/8<b.gp.d3.dl.length)):Gs t rules a b depth strict=(match Uc t rules a b depth,Sg t rules a b depth with
  |some L,Y R=>qV a b (dA strict L R depth)|_,_=>(R1,3)):=by grind[Gs]
def vL(f:VG t rules a b):LB t rules a b depth strict=Y (Gs t rules a b depth strict):=by
 unfold LB;rw[fi f.hf f.hr f.fa f.ka f.fb f.kb,bs];show(if(!decide (K7 t rules a b=0))=X then Y (_,K7 t rules a b)else _)=_;by_cases hv:K7 t rules a b=0
 case neg=>rw[nV hv,ac j!];rfl
 rw [ae j!];by_cases e:depth<0\/4<depth
 .rw[nW hv e,ac h?];rfl
 rw [ae h?];by_cases z:8<a.gp.d3.dl.length\/8<b.gp.d3.dl.length
 .rw[nX hv e z,ac an];rfl
 have v:=ZK hv;have g:=Ry f v;rw[nY hv e z,ae an,bF v.eq g.ta g.tb g.wa.s,bs,ae V,Ul g.pa g.ta g.ta.sm,bs];have u:IY t rules ⟨⟨a.gp,[]⟩,a.gp,Cs a (JK a b)⟩ depth=Y (V5 (Fg a.gp) (Uc t rules a b depth)):=ju f.hf f.hr g.ga g.ma U U;have s2:IY t rules ⟨⟨b.gp,[]⟩,b.gp,Cs b (JK a b)⟩ depth=Y (V5 (Fg b.gp) (Sg t rules a b depth)):=ju f.hf f.hr g.gb g.mb U U;dsimp only;rw[u,bs];cases A:Uc t rules a b depth with
 |none=>rfl|some L=>
 rw [ae (by simp[V5]),Ul g.pb g.tb g.tb.sm,bs,s2,bs];cases B:Sg t rules a b depth with
 |none=>rfl|some R=>
 rw [ae (by simp[V5])];obtain⟨_,_,D⟩:=XI f v U U A B;dsimp only[V5];rw[AU (n:=2*depth) U U,AU (n:=2*depth+1) U U,c9,c9,
  El (a:=0) (b:=2*depth+1) (λ_=>(⟨Hn,Hn,⟨[],[]⟩⟩:x8)) (λs=>(gk strict L R s).map (Zn a.gp b.gp)) U rfl,Kq]
 .show _=Y (qV a b (fst (gk strict L R) 0 (2*depth+1)));cases fst (gk strict L R) 0 (2*depth+1)<;>rfl
 intro s C u _;rw[El (a:=0) (b:=(L.length:Int)) (λ_=>(⟨Hn,Hn,⟨[],[]⟩⟩:x8)) (λi=>(fst (Uo strict L R s i) 0 R.length).map (Zn a.gp b.gp)) U rfl,Kq,kH]
 .rfl
 intro i w i1 _;rw[AD w k?,bs,Fu w i1,El (a:=0) (b:=(R.length:Int)) (λ_=>(⟨Hn,Hn,⟨[],[]⟩⟩:x8)) (λk=>(Uo strict L R s i k).map (Zn a.gp b.gp)) U rfl,Kq,kH]
 grind [vS]
end
end Go.Sf.Sc
namespace Go.Sf.Sc
open Go Go.Sf
section
variable{t:AC}{rules:List ey}{a b:AT}{depth:Int}{strict:Bool}
def ui(f:VG t rules a b)(e:(Gs t rules a b depth strict).2=0):∃L R r,SE t rules a b/\(0<=depth/\depth<=4)/\Uc t rules a b depth=Y L/\Sg t rules a b depth=Y R/\dA strict L R depth=Y r/\Gs t rules a b depth strict=Zn a.gp b.gp r:=by
 by_cases hv:K7 t rules a b=0
 case neg=>rw[nV hv]at e;exact absurd e hv
 by_cases A:depth<0\/4<depth
 .grind[nW]
 by_cases B:8<a.gp.d3.dl.length\/8<b.gp.d3.dl.length
 .grind[nX]
 rw [nY hv A B]at e|-;cases u:Uc t rules a b depth with
 |none=>rw[u]at e;cases e
 |some L=>
 cases w:Sg t rules a b depth with
 |none=>rw[u,w]at e;cases e
 |some R=>
 rw [u,w]at e;dsimp only at e|-;cases z:dA strict L R depth with
 |none=>rw[z]at e;cases e
 |some r=>exact⟨L,R,r,ZK hv,U,rfl,rfl,z,rfl⟩
def fO(f:VG t rules a b)(v:SE t rules a b){j:x8}(z:j.f0.j4=a.gp)(A:j.eh.j4=b.gp)(B:(Nz t rules j.f0).2.2=0)(C:(Nz t rules j.eh).2.2=0)(iso:TM (Nz t rules j.f0).1 (Nz t rules j.eh).1 j.Iso)(i1:j.Iso.dl.length<=1000)(i2:j.Iso.dr.length<=1000):
  FT t rules a b j=Y (X,R9 a b (JK a b) (Nz t rules j.f0).2.1 (Nz t rules j.eh).2.1 j.Iso):=by
 have g:=Ry f v;have hv:(if EO t rules≠0 then EO t rules else if(Kk t a&&Kk t b)=T then 1 else if a.gx=b.gx then 0 else 8)=(0:Int):=by
  rw [ae (by simp[v.rz]),ae (by simp[v.ca,v.cb]),ac v.eq]
 unfold FT;rw[fi f.hf f.hr f.fa f.ka f.fb f.kb,hv,bs,QE (λ_=>Tt _ _),bs,QE (λ_=>Tt _ _),bs,
  ae (by simp[z,A]),jo f.hf f.hr,bs,jo f.hf f.hr,bs,ae (by simp[B,C])]
 have fx:=nU f.hf f.hr B;have fy:=nU f.hf f.hr C;obtain⟨F,e,u⟩:=Vj fx.ok;obtain⟨G,w,_⟩:=Vj fy.ok;obtain⟨H,D,E⟩:=yK fx.small fy.small e w u j.Iso;have hb:=E.2 (jU iso fx.small fy.small e w u);subst hb;rw[D,bs,bs,ae (show¬(!X)=X by decide),bF v.eq g.ta g.tb g.wa.s,bs];exact vY ⟨g.ta,g.tb,g.pa,g.pb,⟨_,z,fx⟩,⟨_,A,fy⟩,(jU iso fx.small fy.small e w u).1,i1,i2,g.ta.sm,g.tb.sm⟩
def af(p q:d4):hasB ([p.dl,p.dr,q.dl,q.dr].flatten) (-1)=(AaA p||AaA q):=by grind[AaA,List.flatten_cons,List.flatten_nil,ut,Bool.or_assoc]
end
def y9{t:AC}{rules:List ey}{a b:AT}{depth:Int}{e f u:Bool}(w:Ik t rules a.gx=Y e)(z:FD t a=Y f)(A:FD t b=Y u):∃c,MH t rules a b depth=Y c/\(c=X->e=X/\f=X/\u=X):=by
 unfold MH Nn;rw[w,bs,QE (λ_=>z),bs,QE (λ_=>A),bs,QE (λ_=>rfl),bs,QE (λ_=>rfl),bs];split
 .exact⟨T,rfl,λh=>c!⟩
 .rename_i h;simp only[I!,not_or,I',Bool.not_eq_false']at h;obtain⟨⟨⟨⟨C,D⟩,E⟩,_⟩,_⟩:=h;rw[Bq (λi=>!((((decide (((AA rules i).f0.d3.dl.length:Int)<=2))&&(decide (((AA rules i).f0.d3.dr.length:Int)<=2)))&&(decide (((AA rules i).eh.d3.dl.length:Int)<=(AJ (((AA rules i).f0.d3.dl.length:Int)+1)))))&&(decide (((AA rules i).eh.d3.dr.length:Int)<=(AJ (((AA rules i).f0.d3.dr.length:Int)+1)))))) T]
  .split
   .exact⟨T,rfl,λh=>c!⟩
   .exact⟨_,rfl,λ_=>⟨C,D,E⟩⟩
  .intro i B i1 _;rw[AD B i1,bs,bs];split<;>rfl
end Go.Sf.Sc
namespace Go.Sf.Sc
open Go Go.Sf
structure ZO(d:Hf):Prop where
 types:∀x∈d.dl,U2 x
 ends:∀x∈d.dr,U2 x
 a:YB d.A
 b:YB d.B
 h:iu d.H
def mf{d:Hf}(h:(JN d).WF):ZO d:=by
 have f:TV.pq (_::_::_):=h;have k:=f.2.2;have ka:(Kn d.A).WF:=X0 15 k;have kb:(Kn d.B).WF:=X0 15 (Xz 15 k);have u:=Xz 30 k;exact⟨λx e=>g7 (JE f.1 x e),λx e=>g7 (JE f.2.1 x e),bu ka,bu kb,λx e=>g7 (JE u.1 x e),λx e=>WH (JE u.2.1 x e)⟩
structure R2(t:AC)(rules:List ey)(h:AE):Prop where
 st:(AL t).Sm
 tz:(BD t).2=0
 hf:A2 t
 hr:FZ rules
 two:rules.length=2
 ok:∀r∈rules,DZ t r=0
 sm:∀r∈rules,(CH r).Sm
 host:(Dl t h).2=0
 light:Ik t rules h=Y X
def o7{d:Hf}(hd:ZO d):∃v,GK d=Y v/\(v.2.2.2=X->R2 v.1 v.2.1 v.2.2.1):=by
 unfold GK;split
 .grind
 .obtain⟨t,et,e⟩:=rf hd.types hd.ends;obtain⟨z,A,B,C⟩:=ft e hd.a;obtain⟨D,E,F,s2⟩:=ft e hd.b;obtain⟨h,G,H⟩:=oi e hd.h;have f:∀r∈[z,D],(CH r).Sm:=by simp[C,s2]
  obtain ⟨b,u,w⟩:=u0 e.sm f h;rw[et,bs,A,bs,E,bs,G,bs,u,bs];exact⟨_,rfl,λhb=>by
   obtain rfl:b=X:=hb;exact⟨e.sm,e.zero,(w rfl).1,(w rfl).2,rfl,by simp[B,F],f,by rw[H],u⟩⟩
structure Qw(t:AC)(rules:List ey)(h:AE)(s:AT):Prop where
 rule:s.ey∈rules
 before:s.gx=h
 chk:Kk t s=X
section
variable{t:AC}{rules:List ey}{h:AE}
variable{r:ey}
def bV(p:R2 t rules h)(hr:r∈rules):∃l,HZ t r h 2=Y l/\∀s∈l,Qw t rules h s:=by
 have f:Is r/\D3 r.d5<=40:=by
  obtain ⟨i,w,i1,rfl⟩:=BP hr;exact p.hr.each _ (AG w i1)
 have A:=uY (t:=t) (r:=r) (h:=h);unfold HZ;rw[yV p.hf f.1 f.2,bs];refine E7 (λi l=>(0<=i/\i<=2)/\(l.length:Int)<=i/\∀s∈l,Qw t rules h s) 2 ⟨U,V,λs u=>by cases u⟩ (λi l w⟨a1,a2,a3⟩=>?_) (λi l w⟨a1,a2,a3⟩_=>⟨l,rfl,a3⟩);dsimp only;by_cases hi:i<(Hy t r h).1.length/\i<2
 .left;have z:=nG (AG a1.1 hi.1);obtain⟨o,e⟩:=UB p.hf f.1 f.2 z;refine⟨U,l++[TI t r h (AA (Hy t r h).1 i)],?_,U,an,λs u=>?_⟩
  .rw[ac n?,AD a1.1 hi.1,bs,pA p.hf f.1 f.2,e,bs,AP a_,bs,AU (n:=i+1) U U]
  .rcases A'.1 u with u|u
   .exact a3 s u
   .obtain rfl:=A!.1 u;refine⟨hr,rfl,?_⟩;unfold Kk;show(decide ((Ea t r h (AA (Hy t r h).1 i)).2=0)&&jK (Ea t r h (AA (Hy t r h).1 i)).1 _)=X;rw[e];simp only[decide_true,I?];exact WT.2 rfl
 grind
def fD(p:R2 t rules h){a b:AT}(ha:Qw t rules h a)(hb:Qw t rules h b):VG t rules a b:=by
 obtain ⟨i,u,i1,w⟩:=BP ha.rule;obtain⟨j,z,A,B⟩:=BP hb.rule;have e:=p.hr.each _ (AG u i1);have f:=p.hr.each _ (AG z A);rw[w]at e;rw[B]at f;exact⟨p.hf,p.hr,e.1,e.2,f.1,f.2⟩
def lU(p:R2 t rules h){a b:AT}(ha:Qw t rules h a)(hb:Qw t rules h b):SE t rules a b:=
 ⟨(Tk p.hf (nk p.tz (by have:=p.two;omega) p.ok p.host)).1,ha.chk,hb.chk,by rw[ha.before,hb.before]⟩
variable{s:AT}
def W6(st:(AL t).Sm)(u:(CH s.ey).Sm):∃b,FD t s=Y b:=by
 obtain ⟨z,A,B⟩:=Sx st;obtain⟨C,D,G⟩:=nR (h:=s.gp);have w:∃b,HV t s.ey s.gx=Y b:=by
  cases z with
  |false=>exact⟨T,by unfold HV;rw[A];rfl⟩|true=>
   obtain ⟨b,e,f⟩:=jZ (B rfl) st u s.gx;exact⟨b,e⟩
 obtain ⟨E,F⟩:=w;unfold FD Nl Jv;rw[F,bs];cases E with
 |false=>exact⟨T,rfl⟩|true=>
 rw [ac rfl,D,bs,bs];cases C with
 |false=>exact⟨T,rfl⟩|true=>
 exact ⟨_,by simp only[bs,if_true];rw[dg rfl,bs,dg rfl,bs]⟩
def wJ(p:R2 t rules h){a b:AT}{depth:Int}(ha:Qw t rules h a)(hb:Qw t rules h b):∃c,MH t rules a b depth=Y c:=by
 obtain ⟨z,u⟩:=W6 p.st (p.sm _ ha.rule);obtain⟨A,w⟩:=W6 p.st (p.sm _ hb.rule);have f:=p.light;rw[<-ha.before]at f;obtain⟨c,e,_⟩:=y9 (depth:=depth) f u w;exact⟨c,e⟩
end
variable{ρ:Type}
def aX{f:Int->Unit->Option (B2 Unit ρ)}{a b:Int}(h:∀i,a<=i->i<b->f i ()=Y (.next ())):hV f a b ()=Y (.inl ()):=by
 rw [Bi (λ_=>W) (λi e i1 _=>h i e i1),A8.2 λ_ _ _=>rfl];rfl
end Go.Sf.Sc
namespace Go.Sf.Sc
open Go Go.Sf
section
variable{t:AC}{rules:List ey}{a b:AT}{depth:Int}
end
end Go.Sf.Sc
namespace Go.Sf.Sc
open Go Go.Sf
section
variable{t:AC}{rules:List ey}{a b:AT}
end
end Go.Sf.Sc
namespace Go.Sf.Sc
open Go Go.Sf
variable{l:Fp}
def gH(nd:l.Nodup)(f:∀i:Int,0<=i->i<l.length->0<=AA l i/\AA l i<l.length)(E:l.length<=1000):Hg l=Y (Gq l):=by
 unfold Hg;have C:Gg (l.length:Int) (0:Int)=Y (E_ l.length 0):=by
  unfold Gg;rw[ac U];rfl
 rw [C,bs,El (a:=0) (b:=(l.length:Int)) (λi=>(Az l.length).map λj=>if AA (Gq l) j<i then AA (Gq l) j else 0) (λ_=>W) U ?_,A8.2 (λ_ _ _=>rfl)]
 .show Y _=Y _;congr 1;refine YG (by rw[c9,Ay,Tm]) λj w u=>?_;rw[c9]at u;have A:=u;rw[Ay]at A;rw[Fu w u,JB _ w A,ac (Mp nd f w A).1.2]
 .intro i z i1 _;obtain⟨h0,D⟩:=f i z i1;rw[AD z i1,bs,ae an,AD h0 (by rw[c9,Ay];exact D),bs,Hl _ h0];show Y (B2.next _)=Y (B2.next _);congr 2;refine Cf λj w u=>?_;have k:=Mp nd f w u;by_cases e:j=AA l i
  .have B:AA (Gq l) j=i:=by rw[e];exact Tl nd f z i1
   rw [ac e,B,ac U]
  .have B:AA (Gq l) j≠i:=λh=>e (by rw[<-k.2,h]);rw[ae e];by_cases g:AA (Gq l) j<i
   .rw[ac g,ac U]
   .rw[ae g,ae U]
 .refine YG (by rw[G_,c9,Ay]) λj w u=>?_;rw[G_]at u;have k:=(Mp nd f w u).1;rw[i7 w u,Fu w (by rw[Ay];exact u),JB _ w u,ae U]
def gw{m l1 l2:Fp}(nd:m.Nodup)(e:∀i:Int,0<=i->i<m.length->0<=AA m i/\AA m i<m.length)(w:∀x∈l1,0<=x/\x<m.length)(z:∀x∈l2,0<=x/\x<m.length):CX l2 (Gq m)=l1↔CX l1 m=l2:=by
 constructor
 .intro h;subst h;unfold CX;rw[G!]
  conv=>rhs;rw[<-D? l2]
  refine G? λx f=>?_;have k:=z x f;have u:=Mp nd e k.1 k.2;show(if(if x<0 then -1 else AA (Gq m) x)<0 then -1 else AA m (if x<0 then -1 else AA (Gq m) x))=x;rw[ae U,ae U,u.2]
 .intro h;subst h;unfold CX;rw[G!]
  conv=>rhs;rw[<-D? l1]
  refine G? λx f=>?_;have k:=w x f;have u:=e x k.1 k.2;show(if(if x<0 then -1 else AA m x)<0 then -1 else AA (Gq m) (if x<0 then -1 else AA m x))=x;rw[ae U,ae U,Tl nd e k.1 k.2]
def qR{a b:AT}(h:a.gx=b.gx):JK b a=JK a b:=by
 unfold JK SS;rw[h];congr 1<;>exact List.filter_congr λx _=>Bool.and_comm _ _
variable{x y:AE}
def ii{a b:AT}{c:BM}{f w iso:d4}(h:TM x y iso)(A:IB (CS (Cs a c) f) x.d3)(B:IB (CS (Cs b c) w) y.d3):R9 b a c w f (lO iso)=R9 a b c f w iso:=by
 have l1:=h.nl;have l2:=h.el;have N:=h.nn;have O:=h.ee;have F:∀i:Int,0<=i->i<iso.dl.length->0<=AA iso.dl i/\AA iso.dl i<iso.dl.length:=λi C i1=>by have:=h.nin i C U;omega
 have G:∀i:Int,0<=i->i<iso.dr.length->0<=AA iso.dr i/\AA iso.dr i<iso.dr.length:=λi C i1=>by have:=h.ein i C U;omega
 unfold R9;rw[af,af,Bool.or_comm];by_cases g:(AaA (CS (Cs a c) f)||AaA (CS (Cs b c) w))=X
 .rw[ac g,ac g]
 rw [ae g,ae g];simp only[I!,not_or,I',AaA,H?]at g;obtain⟨⟨H,J⟩,K,M⟩:=g;have D:=gw (l1:=(CS (Cs a c) f).dl) (l2:=(CS (Cs b c) w).dl) h.nd F (λz e=>⟨S9 A.node H z e,by have:=A.node z e;omega⟩) (λz e=>⟨S9 B.node K z e,by have:=B.node z e;omega⟩);have E:=gw (l1:=(CS (Cs a c) f).dr) (l2:=(CS (Cs b c) w).dr) h.ed G (λz e=>⟨S9 A.edge J z e,by have:=A.edge z e;omega⟩) (λz e=>⟨S9 B.edge M z e,by have:=B.edge z e;omega⟩);rw[J_];simp only[mo,qo];exact⟨λ⟨u,v⟩=>⟨D.1 u,E.1 v⟩,λ⟨u,v⟩=>⟨D.2 u,E.2 v⟩⟩
section
variable{t:AC}{rules:List ey}{a b:AT}{depth:Int}
def lV(f:VG t rules a b)(G:VG t rules b a)(H:SE t rules b a)(e:(Gs t rules a b depth T).2=0):∃s,FT t rules a b (Gs t rules a b depth T).1=Y (X,s)/\Hg (Gs t rules a b depth T).1.Iso.dl=Y (Gq (Gs t rules a b depth T).1.Iso.dl)/\Hg (Gs t rules a b depth T).1.Iso.dr=Y (Gq (Gs t rules a b depth T).1.Iso.dr)/\
  FT t rules b a ⟨(Gs t rules a b depth T).1.eh,(Gs t rules a b depth T).1.f0,⟨Gq (Gs t rules a b depth T).1.Iso.dl,Gq (Gs t rules a b depth T).1.Iso.dr⟩⟩=Y (X,s):=by
 obtain ⟨L,R,r,v,hd,O,P,Q,S⟩:=ui f e;have g:=Ry f v;obtain⟨s,_,_,h,_⟩:=Cd Q;obtain⟨_,B,C,D⟩:=tI h;obtain⟨E,gr,F⟩:=XI f v hd.1 hd.2 O P;have w:=aQ (E _ C);have fr:=aQ (gr _ D);obtain⟨z,_⟩:=F.l _ C;obtain⟨θ,_⟩:=F.r _ D;have iso:TM r.1.host r.2.1.host r.2.2:=by
  unfold WV at B;rw[ae a!]at B;exact(YR (nv _) B).1
 have l1:=iso.nl;have l2:=iso.el;have ε:=iso.nn;have κ:=iso.ee;have η:=z.sm.ea;have ζ:=z.sm.eb;have u:=jV iso z.ends;rw[S];dsimp only[Zn];have J:=fO f v (j:=⟨⟨a.gp,r.1.moves⟩,⟨b.gp,r.2.1.moves⟩,r.2.2⟩) rfl rfl (by rw[w]) (by rw[fr]) (by rw[w,fr];exact iso) (by dsimp only;omega) (by dsimp only;omega);have K:=fO G H (j:=⟨⟨b.gp,r.2.1.moves⟩,⟨a.gp,r.1.moves⟩,lO r.2.2⟩) rfl rfl (by rw[fr]) (by rw[w]) (by rw[w,fr];exact u) (by have:=u.nl;dsimp only;omega) (by have:=u.el;dsimp only;omega);refine⟨_,J,gH iso.nd (λi A i1=>?_) U,gH iso.ed (λi A i1=>?_) U,?_⟩
 .have:=iso.nin i A U;omega
 .have:=iso.ein i A U;omega
 .show FT t rules b a ⟨⟨b.gp,r.2.1.moves⟩,⟨a.gp,r.1.moves⟩,lO r.2.2⟩=_;rw[K,qR v.eq];dsimp only;rw[w,fr];dsimp only;have M:IB (CS (Cs a (JK a b)) (Ko (Iy a.gp.d3) (EP t rules a.gp r.1.moves).1)) r.1.host.d3:=by
   rw [<-(E _ C).image];exact z.inn
  have N:IB (CS (Cs b (JK a b)) (Ko (Iy b.gp.d3) (EP t rules b.gp r.2.1.moves).1)) r.2.1.host.d3:=by
   rw [<-(gr _ D).image];exact θ.inn
  rw [ii iso M N]
end
def Zs(d:Hf)(hd:ZO d):MW d=Y X:=by
 obtain ⟨⟨t,rules,h,ok⟩,e,k⟩:=o7 hd;unfold MW;rw[e,bs,qP,bs];cases ok with
 |false=>rfl|true=>
 have p:R2 t rules h:=k rfl;have two:=p.two;have m0:AA rules 0∈rules:=AG U U;have m1:AA rules 1∈rules:=AG U U;obtain⟨B,C,D⟩:=bV p m0;obtain⟨l1,E,F⟩:=bV p m1;dsimp only;rw[ae V,AD U U,bs,C,bs,aX]
 .rfl
 intro i u i1;have ha:=D _ (AG u i1);rw[AD u i1,bs,AD (l:=rules) (i:=1) U U,bs,E,bs,aX]
 .rfl
 intro j w A;have hb:=F _ (AG w A);obtain⟨c,G⟩:=wJ (depth:=1) p ha hb;rw[AD w A,bs,G,bs];split
 .rfl
 have f:=fD p ha hb;unfold S5;rw[vL f,bs,bs];dsimp only;by_cases z:(Gs t rules (AA B i) (AA l1 j) 1 T).2=0
 .obtain⟨s,H,J,c3,K⟩:=lV f (fD p hb ha) (lU p hb ha) z;rw[ae q_,H,bs,J,bs,c3,bs,K,bs,ae V]
 .rw[ac q_]
end Go.Sf.Sc
