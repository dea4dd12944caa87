/- Plain lemmas: what the functions of the program and of the reference compute. -/
import Derived.Test.YtfcfkigfmofniaaGreatP96
import Derived.Test.YtfcfkigfmofniaaGreatP61
set_option linter.all false
set_option maxRecDepth 100000
open Option renaming some->Y
open Bool renaming true->X,false->T
open Int renaming toNat_natCast->u!
open List renaming nodup_range->u?,getElem?_eq_getElem->v1,mem_filter->v5,length_filter_le->v6,filter_append->v9,mem_map->v_,mem_append->v!,mem_singleton->v?,append_nil->w_,length_singleton->w!,take_sublist->w?,any_eq_false->x_,mem_of_mem_take->x!,take_append_of_le_length->x?,take_left'->y_,take_take->y!,getD_eq_getElem?_getD->y?,take_length->z9
namespace Go.Sf.Sc
open Go Go.Sf
variable{n:Nat}
theorem jO(h:n<=1000):J7 0 n=Y (Ag n):=by
 unfold J7;rw[BY (a:=0) (b:=(n:Int)) (s:=[]) (λi=>Ag i.toNat) U rfl,bs,u!];intro i e f;rw[AQ (by rw[Aq];simp;unfold AU;omega),bs,D2 e,Int.zero_add,AV U U]
def Gh(l:Fp)(n:Nat):Prop:=l.Perm (Ag n)
variable{l:Fp}
theorem Gh.len(h:Gh l n):l.length=n:=by rw[h.length_eq,Aq]
variable{x:Int}
theorem Gh.mem(h:Gh l n):x∈l↔0<=x/\x<n:=by rw[h.mem_iff,DW]
theorem Gh.ne(h:Gh l n){i j:Int}(f:0<=j)(o:j<i)(q:i<n):AA l j≠AA l i:=by
 have hd:l.Nodup:=h.nodup_iff.2 (by
  unfold Ag;exact List.Pairwise.map _ (λa b h e=>h (Int.ofNat.inj e)) u?)
 have:=h.len;exact Gs hd f o U
theorem Yp(j:n<=1000){b:Fp}(o:∀x∈b,U8 x):∃l,Ht n b=Y l/\Gh l n:=by
 unfold Ht;rw[jO j,bs];refine EH (λi l=>0<=i/\Gh l n) n ⟨U,.refl _⟩ (λi l q⟨a1,a2⟩=>?_) (λi l q⟨a1,a2⟩_=>⟨l,rfl,a2⟩);dsimp only;by_cases f:i<n/\i<b.length
 .left;have h:=o _ (AF a1 f.2);have z:=a2.len;obtain⟨r,e,A,B⟩:=B4 (show 0<=AH (AA b i)by rw[h.w];exact h.1) (show 0<(n:Int)-i by omega);refine⟨f.1,Av (Av l i (AA l (i+r))) (i+r) (AA l i),?_,U,?_⟩
  .rw[ae b!,AC a1 f.2,bs,AV (n:=(n:Int)-i) U U,e,bs,AV (n:=i+r) U U,AC U U,bs,AC a1 U,bs,bs,AC U q_,bs,AV (n:=i+1) U U]
  .refine List.Perm.trans ?_ a2;have u:i.toNat<l.length:=U
   have y:(i+r).toNat<l.length:=U
   have:=@List.set_set_perm _ l _ _ u y;unfold Av
   rwa [show AA l i=l[i.toNat]by grind[AA,v1],show AA l (i+r)=l[(i+r).toNat]by grind[AA,v1]]
 .right;rw[az b!]
theorem dg(h:Gh l n):FQ l=Y 0:=by
 have r:=h.len;unfold FQ;rw[BF (λ_=>(none:a5)),Az.2 (λ_ _ _=>rfl),Cy]
 .dsimp only;rw[BF (λ_=>(none:a5)),Az.2 (λ_ _ _=>rfl),Cy];intro i b f _;rw[BF (λ_=>(none:a5)),Az.2 (λ_ _ _=>rfl),Cy]
  .rfl
  .intro j o q _;rw[AC b f,bs,AC o U,bs,az (by rw[decide_eq_true_iff];exact λe=>h.ne o q U e.symm)];rfl
 .intro i b f _;have u:=h.mem.1 (AF b f);rw[AC b f,bs,az an,bs,bs,az an];rfl
structure wv(g g':d3)(m:d4):Prop where
 nl:g'.ca.length=g.ca.length
 el:g'.ci.length=g.ci.length
 node:∀i:Int,0<=i->i<g.ca.length->AA g'.ca (AA m.ca i)=AA g.ca i
 edge:∀i:Int,0<=i->i<g.ci.length->AA g'.ci (AA m.ci i)=⟨(AA g.ci i).kp,AA m.ca (AA g.ci i).kq,AA m.ca (AA g.ci i).To⟩
variable{g:d3}
theorem Qr(b:CQ g):C4 g=Y g:=by
 have:=b.ea;have:=b.ec;unfold C4;rw[Ap a_,bs,Ap a_,bs]
variable{m:d4}
theorem jD(r:CQ g)(o:Gh m.ca g.ca.length)(he:Gh m.ci g.ci.length):∃v,J8 g m=Y v/\v.2=0/\wv g v.1 m:=by
 have A:=o.len;have B:=he.len;unfold J8;rw[Lg,bs,az (by simp[EY r]),az (by simp[A,B]),dg o,bs,az a?,dg he,bs,az a?,Qr r,bs];refine M8 (λi s=>s.ci=g.ci/\s.ca.length=g.ca.length/\∀k:Int,0<=k->k<i->AA s.ca (AA m.ca k)=AA g.ca k) U ⟨rfl,rfl,λk f w=>U⟩ (λi s b h⟨a1,a2,a3⟩=>?_) (λs⟨a1,a2,a3⟩=>?_)
 .have j:=o.mem.1 (AF b U);refine⟨⟨Av s.ca (AA m.ca i) (AA g.ca i),s.ci⟩,?_,a1,by rw[ED];exact a2,λk f w=>?_⟩
  .rw[AC b U,bs,AC b h,bs,AC j.1 U,bs]
  .by_cases e:k=i
   .rw[e];exact Rm _ j.1 U
   .have C:=o.mem.1 (AF f U);exact(XU _ j.1 C.1 (o.ne f U h)).trans (a3 k f U)
 refine M8 (λi u=>u.ca=s.ca/\u.ci.length=g.ci.length/\∀k:Int,0<=k->k<i->AA u.ci (AA m.ci k)=⟨(AA g.ci k).kp,AA m.ca (AA g.ci k).kq,AA m.ca (AA g.ci k).To⟩) U ⟨rfl,by rw[a1],λk f w=>U⟩ (λi u b h⟨q,y,z⟩=>?_) (λu⟨q,y,z⟩=>⟨_,rfl,rfl,by rw[q];exact a2,y,λi b h=>by rw[q];exact a3 i b h,z⟩);have j:=he.mem.1 (AF b U);have hf:=r.fit _ (AF b h);refine⟨⟨u.ca,Av u.ci (AA m.ci i) ⟨(AA g.ci i).kp,AA m.ca (AA g.ci i).kq,AA m.ca (AA g.ci i).To⟩⟩,?_,q,by rw[ED];exact y,λk f w=>?_⟩
 .rw[AC b h,bs,AC b U,bs,AC hf.2.1.1 U,bs,AC hf.2.2.1 U,bs,AC j.1 U,bs]
 .by_cases e:k=i
  .rw[e];exact Rm _ j.1 U
  .have C:=he.mem.1 (AF f U);exact(XU _ j.1 C.1 (he.ne f U h)).trans (z k f U)
end Go.Sf.Sc
namespace Go.Sf.Sc
open Go Go.Sf
def qQ(x:Int):Prop:=0<=x/\x<18446744073709551616
theorem wF{a b:Int}(e:qQ a)(h:0<=b):∃r,Ff .u64 .shr a b=Y r:=by
 unfold Ff;dsimp only;have f:(0:Int)<=2^ (min b.toNat IntKind.u64.bits):=Int.pow_nonneg U;have j:=Int.ediv_nonneg e.1 f;have o:=Int.ediv_le_self (2^ (min b.toNat IntKind.u64.bits)) e.1;rw[Int.fdiv_eq_ediv_of_nonneg _ f,ae ⟨h,j,by have:=e.2;show _<=(18446744073709551615:Int);omega⟩];exact⟨_,rfl⟩
def marks(l:a6):Fp:=(Ag l.length).filter λi=>AA l i
variable{i:Int}
theorem RG{l:a6}:i∈marks l↔(0<=i/\i<l.length)/\AA l i=X:=by
 unfold marks;rw[v5,DW]
theorem iQ(l:a6):(∀x∈marks l,0<=x/\x<l.length)/\(marks l).Pairwise (·<·):=by
 refine ⟨λx e=>(RG.1 e).1,List.Pairwise.filter _ ?_⟩;unfold Ag;exact List.Pairwise.map _ (λa b h=>Int.ofNat_lt.2 h) List.pairwise_lt_range
theorem bF{l:a6}(j:l.length<=1000):JI l=Y (marks l):=by
 unfold JI;rw[BY (a:=0) (b:=(l.length:Int)) (s:=[]) (λi=>(Ag i.toNat).filter λi=>AA l i) U rfl,bs,u!]
 .rfl
 .intro i f h;have o:((Ag i.toNat).filter λi=>AA l i).length<=i.toNat:=by
   have:=v6 (λi=>AA l i) (Ag i.toNat)
   rwa [Aq]at this
  rw [AC f h,bs,D2 f,v9];cases e:AA l i
  .simp[e]
  .rw[ae rfl,AQ a9,bs];simp[e]
variable{l:Fp}
theorem Zq{n:Int}(h:∀x∈l,0<=x/\x<n)(e:l.Pairwise (·<·)):OX l n=0:=by
 unfold OX;rw[Az.2]
 .rfl
 intro i f b;have:=h _ (AF f b);rw[az U,az];rintro⟨j,k⟩;have:=Gs e (show 0<=i-1 by omega) (show i-1<i by omega) b;omega
variable{g:d3}
theorem Yk{p:BN}(h:PN g p):Mg g p=0:=by
 unfold Mg;rw[az (by simp[Zq h.ea.1 h.ea.2]),az (by simp[Zq h.ec.1 h.ec.2]),Az.2]
 .rfl
 intro i b e;have:=h.ends _ (AF b e);rw[ae (by rw[sx,B3,B3];exact this)]
theorem pR(f:CQ g){ea ec:a6}(A:ea.length=g.ca.length)(he:ec.length=g.ci.length):∃p,MG g ea ec=Y p/\PN g p:=by
 have H:=f.ea;have I:=f.ec;unfold MG;rw[Ap a_,bs];refine M8 (λi s=>s.length=g.ca.length/\∀k:Int,0<=k->k<i->AA ec k=X->AA s (AA g.ci k).kq=X/\AA s (AA g.ci k).To=X) U ⟨A,λk o y=>U⟩ (λi s r B⟨a1,a2⟩=>?_) (λs⟨a1,a2⟩=>?_)
 .rw[AC r B,bs];cases e:AA ec i
  .refine⟨s,rfl,a1,λk o y q=>?_⟩;by_cases h:k=i
   .rw[h,e]at q;cases q
   .exact a2 k o U q
  .have hf:=(f.fit _ (AF (l:=g.ci) r U)).2;rw[ae rfl,AC r U,bs,bs,AC hf.1.1 U,bs,AC hf.2.1 q_,bs];refine⟨_,rfl,by rw[ED,ED];exact a1,λk o y q=>?_⟩;have fu:∀{x j:Int}{l:a6},0<=x->x<l.length->0<=j->AA l j=X->AA (Av l x X) j=X:=λ{x j l}x0 x1 C D=>by
    by_cases e:j=x
    .rw[e];exact Rm _ x0 x1
    .rw[XU _ x0 C e];exact D
   have b:=(f.fit _ (AF (l:=g.ci) o U)).2;by_cases F:k=i
   .rw[F];exact⟨fu hf.2.1 q_ hf.1.1 (Rm _ hf.1.1 U),Rm _ hf.2.1 q_⟩
   .obtain⟨u,w⟩:=a2 k o U q;exact⟨fu hf.2.1 q_ b.1.1 (fu hf.1.1 U b.1.1 u),fu hf.2.1 q_ b.2.1 (fu hf.1.1 U b.2.1 w)⟩
 .rw[bF U,bs,bF U,bs];have m1:=iQ s;have z:=iQ ec;rw[a1]at m1;rw[he]at z;refine⟨_,rfl,m1,z,λx E=>?_⟩;obtain⟨⟨x0,x1⟩,G⟩:=RG.1 E;have hf:=(f.fit _ (AF (l:=g.ci) x0 U)).2;obtain⟨u,w⟩:=a2 x x0 x1 G;exact⟨RG.2 ⟨⟨hf.1.1,U⟩,u⟩,RG.2 ⟨⟨hf.2.1,U⟩,w⟩⟩
theorem lj(w:CQ g){set:Int}(E:qQ set):∃p,Nz g set=Y p/\PN g p:=by
 have I:=w.ea;have J:=w.ec;have h:∀{i:Int},0<=i->∃r q,Cf i 64=Y r/\Ff .u64 .shr set r=Y q:=λ{i}y=>by
  obtain ⟨r,e,G,_⟩:=B4 y (show(0:Int)<64 by omega);obtain⟨q,o⟩:=wF E G;exact⟨r,q,e,o⟩
 have D:∀q:Int,∃r,Ff .u64 .and q 1=Y r:=λq=>⟨_,rfl⟩;unfold Nz;rw[GD,ae U,bs,GD,ae U,bs];refine EH (λi s=>0<=i/\s.length=g.ca.length) g.ca.length ⟨U,V⟩ (λi s y⟨a1,a2⟩=>?_) (λi s y⟨a1,a2⟩_=>?_)
 .dsimp only;by_cases f:i<s.length
  .left;obtain⟨r,q,A,o⟩:=h a1;obtain⟨b,B⟩:=D q;refine⟨U,Av s i (decide (b=1)),?_,U,by rw[ED];exact a2⟩;rw[ae b!,A,bs,o,bs,B,bs,AC a1 f,bs,AV U U]
  .right;rw[az b!]
 dsimp only;refine EH (λj u=>0<=j/\u.length=g.ci.length) g.ci.length ⟨U,V⟩ (λj u F⟨C,z⟩=>?_) (λj u F⟨C,z⟩_=>?_)
 .dsimp only;by_cases f:j<u.length
  .left;obtain⟨r,q,A,o⟩:=h (show 0<=(s.length:Int)+j by omega);obtain⟨b,B⟩:=D q;refine⟨U,Av u j (decide (b=1)),?_,U,by rw[ED];exact z⟩;rw[ae b!,AV (n:=(s.length:Int)+j) U U,A,bs,o,bs,B,bs,AC C f,bs,AV U U]
  .right;rw[az b!]
 .obtain⟨p,e,H⟩:=pR w a2 z;exact⟨p,by rw[e,bs],H⟩
end Go.Sf.Sc
namespace Go.Sf.Sc
open Go Go.Sf
variable{α:Type}{n:Nat}
theorem OT{f:α->TV}{l:List α}(h:l.length<=1000)(hf:∀x,(f x).Sm):(eL n f l).Sm:=by
 refine ⟨r_,Ka.2 λt b=>?_⟩;obtain⟨x,_,rfl⟩:=v_.1 b;exact hf x
theorem XL(x:Int):(eI x).Sm:=trivial
theorem tE(x:Bo):(Bu x).Sm:=by simp[Bu,TV.Sm,TV.zQ,eI]
theorem tF(x:Bw):(F7 x).Sm:=by simp[F7,TV.Sm,TV.zQ,eI]
theorem tG(x:Test):(GP x).Sm:=by simp[GP,TV.Sm,TV.zQ,eI]
def cf(g:d3):Prop:=g.ca.length<=1000/\g.ci.length<=1000
variable{c:d5}
theorem Zy(h:∀k∈c.gl,(AI k).Sm)(q:c.gl.length<=1000)(b:c.Map.ca.length<=1000/\c.Map.ci.length<=1000)(e:cf c.d7.d3)(f:c.d7.ed.length<=1000/\c.d7.mo.length<=1000):(AI c).Sm:=by
 refine ⟨trivial,?_,OT b.1 XL,OT b.2 XL,OT e.1 XL,OT e.2 tE,OT f.1 tF,trivial,OT f.2 tG,trivial⟩;unfold Ey;rw[Lb];refine⟨r_,Ka.2 λt j=>?_⟩;obtain⟨x,o,rfl⟩:=v_.1 j;exact h x o
theorem je{r:gn}(D:r.mt.size<=1000)(b:cf r.kg.d3)(e:r.kg.ed.length<=1000/\r.kg.mo.length<=1000)(f:cf r.fq.d3)(h:r.fq.ed.length<=1000/\r.fq.mo.length<=1000)(j:r.r0.ca.length<=1000/\r.r0.ci.length<=1000)(o:r.pc.ca.length<=1000/\r.pc.ci.length<=1000)(q:(AI r.d5).Sm):(BX r).Sm:=by
 obtain ⟨u,w,c3,y,c5,z,A,B,C,_⟩:=q;exact⟨by show r.mt.size<=reachBytes;unfold reachBytes;omega,OT b.1 XL,OT b.2 tE,OT e.1 tF,trivial,OT e.2 tG,OT f.1 XL,OT f.2 tE,OT h.1 tF,trivial,OT h.2 tG,OT j.1 XL,OT j.2 XL,OT o.1 XL,OT o.2 XL,trivial,u,w,c3,y,c5,z,A,B,C,trivial⟩
variable{t:eb}
theorem ET.sm(h:ET t):(AJ t).Sm:=by
 have hf:=h.few;refine⟨⟨by rw[c8];have:=hf.ea;unfold reachBytes;omega,Ka.2 λx b=>?_⟩,⟨by rw[c8];have:=hf.ec;unfold reachBytes;omega,Ka.2 λx b=>?_⟩,trivial⟩
 .obtain⟨n,j,rfl⟩:=v_.1 b;have w:=hf.name n j;have A:=hf.Aaw n j;refine⟨by show n.mt.size<=reachBytes;unfold reachBytes;omega,trivial,trivial,⟨r_,Ka.2 λy o=>?_⟩,trivial⟩;obtain⟨a,r,rfl⟩:=v_.1 o;have f:=hf.each n j a r;refine⟨by show a.mt.size<=reachBytes;have:=f.name;unfold reachBytes;omega,trivial,trivial,⟨by rw[c8];have:=f.names;unfold reachBytes;omega,Ka.2 λz q=>?_⟩,trivial⟩;obtain⟨s,u,rfl⟩:=v_.1 q;show s.size<=reachBytes;have:=f.each s u;unfold reachBytes;omega
 .obtain⟨e,he,rfl⟩:=v_.1 b;have:=hf.Aa2 e he;exact⟨by show e.mt.size<=reachBytes;unfold reachBytes;omega,trivial,trivial,trivial,trivial,trivial,trivial,trivial⟩
structure VG(t:eb)(g:d3):Prop where
 ok:CQ g
 kind:∀n∈g.ca,0<=n/\n<t.ca.length
 et:∀e∈g.ci,e.kp<t.ci.length
variable{g:d3}
theorem Q0.okG(b:ET t)(h:Q0 t g):VG t g:=⟨(h.ok b).1,h.kind,λe he=>(h.fit e he).1.2⟩
theorem lZ{p:BN}(h:VG t g)(b:PN g p):VG t (Cg g p)/\p.ca.length<=g.ca.length/\p.ci.length<=g.ci.length:=by
 have l1:=cj b.ea.1 b.ea.2;have l2:=cj b.ec.1 b.ec.2;have r:=h.ok.ea;have u:=h.ok.ec;refine⟨⟨⟨by simp[Cg];omega,by simp[Cg];omega,λn j=>?_,λe he=>?_⟩,λn j=>?_,λe he=>?_⟩,l1,l2⟩
 .obtain⟨x,f,rfl⟩:=v_.1 j;exact h.ok.kind _ (AF (b.ea.1 x f).1 (b.ea.1 x f).2)
 .obtain⟨x,f,rfl⟩:=v_.1 he;have hf:=h.ok.fit _ (AF (b.ec.1 x f).1 (b.ec.1 x f).2);have o:=G4 (b.ends x f).1;have q:=G4 (b.ends x f).2;simp only[Cg,c8];exact⟨hf.1,⟨o.1,o.2.1⟩,q.1,q.2.1⟩
 .obtain⟨x,f,rfl⟩:=v_.1 j;exact h.kind _ (AF (b.ea.1 x f).1 (b.ea.1 x f).2)
 .obtain⟨x,f,rfl⟩:=v_.1 he;have:=h.et _ (AF (b.ec.1 x f).1 (b.ec.1 x f).2);exact this
def Ox(t:eb):Fp:=(Ag t.ca.length).filter λi=>!(AA t.ca i).tg
variable{i:Int}
theorem OY:i∈Ox t↔(0<=i/\i<t.ca.length)/\(AA t.ca i).tg=T:=by
 unfold Ox;rw[v5,DW];simp
theorem X7(h:t.ca.length<=1000):ns (λ(f:Int)(q:Fp)=>
 (idx t.ca f).bind λj=>
 if (!j.tg)=X then
 (AT q [f]).bind λo=>
 Y o
 else
 Y q) 0 (t.ca.length:Int) []=Y (Ox t):=by
 rw [BY (a:=0) (b:=(t.ca.length:Int)) (s:=[]) (λi=>(Ag i.toNat).filter λi=>!(AA t.ca i).tg) U rfl,u!]
 .rfl
 .intro i f r;have u:((Ag i.toNat).filter λi=>!(AA t.ca i).tg).length<=i.toNat:=by
   have:=v6 (λi=>!(AA t.ca i).tg) (Ag i.toNat)
   rwa [Aq]at this
  rw [AC f r,bs,D2 f,v9];cases e:(AA t.ca i).tg
  .rw[ae (show(!T)=X from rfl),AQ a9,bs];simp[e]
  .simp[e]
def nQ(t:eb)(k g:d3):Prop:=∃xs ys,g=⟨k.ca++xs,k.ci++ys⟩/\xs.length<=2/\ys.length<=2/\(∀x∈xs,x∈Ox t)/\∀e∈ys,Tl t g.ca.length e/\O0 t e.kp (AA g.ca e.kq) (AA g.ca e.To)=X
variable{k:d3}{d:E1}
theorem pX(C:ET t)(z:VG t k)(H:∀x∈d.ca,U8 x)(he:∀x∈d.ci,U3 x):∃g,MP t k d=Y g/\nQ t k g:=by
 have R:=z.ok.ea;have S:=z.ok.ec;have L:=C.ea;unfold MP Ll;rw[Qr z.ok,bs,X7 U,bs,bs];refine EH (λi s=>(0<=i/\i<=2)/\∃xs:Fp,s=⟨k.ca++xs,k.ci⟩/\(xs.length:Int)<=i/\∀x∈xs,x∈Ox t) 2 ⟨U,[],V,V,λx b=>by cases b⟩ (λi s I⟨a1,xs,a2,a3,A⟩=>?_) (λi s I⟨a1,xs,a2,a3,A⟩_=>?_)
 .dsimp only;by_cases f:(i<d.ca.length/\i<2)/\0<((Ox t).length:Int)
  .left;have b:=H _ (AF a1.1 f.1.1);obtain⟨r,e,o,h⟩:=B4 (show 0<=AH (AA d.ca i)by rw[b.w];exact b.1) f.2;refine⟨U,⟨k.ca++(xs++[AA (Ox t) r]),k.ci⟩,?_,U,_,rfl,an,λx b=>(v!.1 b).elim (A x) λb=>v?.1 b▸AF o h⟩;rw[ae b!,AC a1.1 f.1.1,bs,e,bs,AC o h,bs,a2,AQ a9,bs,AV (n:=i+1) U U,c9]
  .right;rw[az b!]
 subst a2;dsimp only;refine EH (λj u=>(0<=j/\j<=2)/\∃ys:List Bo,u=⟨k.ca++xs,k.ci++ys⟩/\(ys.length:Int)<=j/\∀e∈ys,Tl t (k.ca++xs).length e/\O0 t e.kp (AA (k.ca++xs) e.kq) (AA (k.ca++xs) e.To)=X) 2 ⟨U,[],V,V,λx b=>by cases b⟩ (λj u J⟨o,ys,h,K,y⟩=>?_) (λj u J⟨o,ys,h,K,y⟩_=>⟨u,rfl,xs,ys,h,U,U,A,by rw[h];exact y⟩);dsimp only;by_cases f:((j<d.ci.length/\j<2)/\0<((k.ca++xs).length:Int))/\0<(t.ci.length:Int)
 .left;have b:=he _ (AF o.1 f.1.1.1);obtain⟨r,M,N,O⟩:=B4 (show 0<=AH (AA d.ci j).a0 by rw[b.1.w];exact b.1.1) f.2;obtain⟨θ,P,D,E⟩:=B4 (show 0<=AH (AA d.ci j).a1 by rw[b.2.1.w];exact b.2.1.1) f.1.2;obtain⟨ε,Q,F,G⟩:=B4 (show 0<=AH (AA d.ci j).a2 by rw[b.2.2.w];exact b.2.2.1) f.1.2;refine⟨U,?_⟩;rw[ae b!,AC o.1 f.1.1.1,bs,M,bs,bs,P,bs,bs,Q,bs,h];dsimp only;rw[AC D E,bs,AC F G,bs,XB C.few,bs,AV (n:=j+1) U U];split
  .rename_i q;rw[AQ a9,bs,c9];exact⟨_,rfl,U,_,rfl,an,λe B=>(v!.1 B).elim (y e) λB=>by
    rw [v?.1 B];exact⟨⟨⟨N,O⟩,⟨D,E⟩,F,G⟩,q⟩⟩
  .exact⟨_,rfl,U,ys,rfl,U,y⟩
 .right;rw[h,az b!]
theorem cx{β σ:Type}{ζ:Option β}{mk:σ->β}{I:σ->Prop}(h:∃r,ζ=Y r/\∃s',r=mk s'/\I s'):∃s',ζ=Y (mk s')/\I s':=by
 obtain ⟨_,e,s',rfl,hi⟩:=h;exact⟨s',e,hi⟩
def Zi(t:eb)(g:d3)(v:Int)(l:List Bw):Prop:=l.length<=3/\(∀s∈l,P4 t g v s)/\∀i j:Int,0<=j->j<i->i<l.length->¬((AA l j).po=(AA l i).po/\(AA l j).mh=(AA l i).mh)
variable{v:Int}
theorem pv(K:ET t)(Z:g.ca.length<=100)(hv:0<=v/\v<=3){l:List I1}(L:∀x∈l,U3 x):∃s,MR t g v l=Y s/\Zi t g v s:=by
 unfold MR;refine EH (λi s=>(0<=i/\i<=3)/\(s.length:Int)<=i/\(∀x∈s,P4 t g v x)/\∀i j:Int,0<=j->j<i->i<s.length->¬((AA s j).po=(AA s i).po/\(AA s j).mh=(AA s i).mh)) 3 ⟨U,V,(λx f=>by cases f),λi j o C D=>by simp at D;omega⟩ (λi s M⟨a1,a2,a3,A⟩=>?_) (λi s M⟨a1,a2,a3,A⟩_=>⟨s,rfl,U,a3,A⟩);dsimp only;by_cases B:(i<l.length/\i<3)/\0<(g.ca.length:Int)
 .left;have f:=L _ (AF a1.1 B.1.1);obtain⟨r,S,I,J⟩:=B4 (show 0<=AH (AA l i).a0 by rw[f.1.w];exact f.1.1) B.2;refine⟨U,?_⟩;rw[ae to,AC a1.1 B.1.1,bs,S,bs,AC I J,bs,NF K.few,bs,AV (n:=i+1) U U];by_cases H:((Eg t (AA g.ca r)).1.length:Int)=0
  .rw[ae (by simpa using H)];exact⟨s,rfl,U,U,a3,A⟩
  obtain ⟨q,θ,ε,κ⟩:=B4 (show 0<=AH (AA l i).a1 by rw[f.2.1.w];exact f.2.1.1) (show 0<((Eg t (AA g.ca r)).1.length:Int)by omega);obtain⟨u,η,d1,d2⟩:=Xt f.2.1.1 (show(0:Int)<16 by omega);have hw:=oH u;obtain⟨y,ζ,f1,f2⟩:=B4 (show 0<=AH (IntKind.u8.wrap u)by rw[AV U U];omega) (show 0<v+1 by omega);obtain⟨z,δ,g1,g2⟩:=B4 (show 0<=AH (AA l i).a2 by rw[f.2.2.w];exact f.2.2.1) (show(0:Int)<3 by omega);rw[az (by simpa using H),bs,θ,bs,bs,η,bs,AV (n:=v+1) U U,ζ,bs,bs,δ,bs,AV (n:=y-1) U U];refine cx (mk:=λs'=>Be.next (s',i+1)) (M8 (λ(k:Int)(b:Bool)=>b=T->∀j:Int,0<=j->j<k->¬((AA s j).po=r/\(AA s j).mh=q)) U (λ_ j o C=>U) (λk b N O E=>?_) (λb E=>?_))
  .cases b
   .rw[az a?,AC N O,bs,bs];have old:∀{P:Prop},(P->False)->((AA s k).po=r/\(AA s k).mh=q->P)->∀j:Int,0<=j->j<k+1->¬((AA s j).po=r/\(AA s j).mh=q):=λ{P}Q R j o C G=>by
     by_cases e:j=k
     .exact Q (R (e▸G))
     .exact E rfl j o U G
    by_cases F:(AA s k).po=r
    .rw[ae (by simpa using F),bs,bs];exact⟨_,rfl,λh=>old (P:=(AA s k).mh=q) c_ And.right⟩
    .rw[az (by simpa using F),bs,bs];exact⟨_,rfl,λ_=>old (P:=(AA s k).po=r) F And.left⟩
   .exact⟨X,rfl,λh=>c?⟩
  .cases b
   .rw[ae a?,AQ a9,bs];refine⟨_,rfl,_,rfl,U,an,λx f=>(v!.1 f).elim (a3 x) λf=>?_,λi j o C D=>?_⟩
    .rw[v?.1 f];exact⟨⟨⟨I,J⟩,ε,κ⟩,b_,b_⟩
    .simp at D;rw[Kv _ _ o U];by_cases e:i=s.length
     .rw[LX _ _ e];exact E rfl j o U
     .rw[Kv _ _ U U];exact A i j o C U
   .rw[az a?];exact⟨_,rfl,_,rfl,U,U,a3,A⟩
 .right;rw[az to]
end Go.Sf.Sc
namespace Go.Sf.Sc
open Go Go.Sf
variable{m:d4}
theorem aV{a b:d3}(h:SH a b m):HM a b m=0:=by
 unfold HM;rw[az (by simp[EY h.ga]),az (by simp[EY h.gb]),az (by simp[h.zf,h.zt]),Az.2]
 .dsimp only;rw[Az.2]
  .rfl
  intro i e f;obtain⟨o,j,q,r⟩:=h.edge i e f;unfold Fg;rw[az U,az h?,az (by simp[q,r])]
 .intro i e f;obtain⟨o,j⟩:=h.node i e f;unfold K4;rw[az U,az h?]
theorem Xx(n:Nat):(Ag n).Nodup:=by
 unfold Ag;exact List.Pairwise.map _ (λa b h e=>h (Int.ofNat.inj e)) u?
theorem rW(g:d3):HL (OS g)=X:=by
 unfold HL OS;rw[Jh.2 (Xx _),Jh.2 (Xx _)];rfl
def TI:d5:=⟨1,[],⟨[],[]⟩,⟨⟨[],[]⟩,[],0,[]⟩⟩
variable{t:eb}{p:d7}
theorem T1(h:EQ t p=0):ID t p TI=0:=by
 obtain ⟨n,b⟩:∃n,SizeOf.sizeOf TI=n+1:=⟨SizeOf.sizeOf TI-1,by have:=DP TI;omega⟩;have e:LQ TI=0:=by
  unfold LQ eA Uz;rw[b];rfl
 unfold ID;rw[az (by simp[h]),az c!,b];rfl
theorem XR:(AI TI).Sm:=Zy (λk b=>by cases b) a? a? (by unfold cf;decide) a?
def Nd(g:d3)(v:Int)(k:d3):d5:=⟨2,[⟨5,[TI],OS g,⟨k,[],v,[]⟩⟩],⟨[],[]⟩,⟨⟨[],[]⟩,[],0,[]⟩⟩
variable{k:d3}
theorem X8(hv:(As t).2=0)(h:EQ t p=0)(o:VG t k){xs:Fp}{ys:List Bo}(q:k.ca=p.d3.ca++xs)(he:k.ci=p.d3.ci++ys):ID t p (Nd p.d3 p.ff k)=0:=by
 have j:=Vo hv (.inl h);obtain⟨y,_⟩:=ax h;have w:k.ca.length=p.d3.ca.length+xs.length:=by rw[q,bk]
 have u:k.ci.length=p.d3.ci.length+ys.length:=by rw[he,bk]
 have inn:Rc t ⟨k,[],p.ff,[]⟩ p.ff=0:=by
  have r:EQ t ⟨k,[],p.ff,[]⟩=0\/EQ t ⟨k,[],p.ff,[]⟩=9:=by
   unfold EQ;rw[az m_,az (by simp[EY o.ok]),az (by simp[S8 (λn q=>(o.kind n q).2) o.et]),az b_,az V,az V,az (by simp[S1 j.1 j.2])];split
   .exact .inr rfl
   .exact .inl rfl
  unfold Rc;rcases r with r|r
  .rw[ae U,r]
  .rw[az U,az];rw[CN];rintro⟨i,f,b,_⟩;exact absurd b b_
 have mor:HM p.d3 k (OS p.d3)=0:=by
  refine aV ⟨y,o.ok,Aq _,Aq _,λi f b=>?_,λi f b=>?_⟩
  .simp only[OS,Aq]at b|-;rw[S9 _ f b,q];exact⟨⟨f,an⟩,Hq f b⟩
  .simp only[OS,Aq]at b|-;have hf:=(y.fit _ (AF f b)).2;rw[S9 _ f b,he,Hq f b,S9 _ hf.1.1 hf.1.2,S9 _ hf.2.1 hf.2.2];exact⟨⟨f,an⟩,rfl,rfl,rfl⟩
 have z:=EE (c:=Nd p.d3 p.ff k) (v?.2 rfl);have s2:=EE (c:=⟨5,[TI],OS p.d3,⟨k,[],p.ff,[]⟩⟩) (v?.2 rfl);have A:=DP TI;obtain⟨n,e⟩:∃n,SizeOf.sizeOf (Nd p.d3 p.ff k)=n+3:=⟨SizeOf.sizeOf (Nd p.d3 p.ff k)-3,U⟩;have sh:LQ (Nd p.d3 p.ff k)=0:=by
  unfold LQ eA Uz;rw[e];rfl
 unfold ID;rw[az (by simp[h]),az (by simp[sh]),e,Hm,az (show¬(Nd p.d3 p.ff k).l3=5 from(by decide:¬(2:Int)=5)),Az.2]
 .rfl
 intro i f b;obtain rfl:i=0:=by
  have:i<1:=b;omega
 refine FP.2 ?_;show Hm (n+2) t p ⟨5,[TI],OS p.d3,⟨k,[],p.ff,[]⟩⟩=0;rw[Hm,ae rfl,az (Int.lt_irrefl _),az (by simp[inn]),az (by simp[mor]),az (by simp[rW]),Az.2]
 .rfl
 intro i f b;obtain rfl:i=0:=by
  have:i<1:=b;omega
 refine FP.2 ?_;show Hm (n+1) t ⟨k,[],p.ff,[]⟩ TI=0;rfl
theorem lw(h:ET t)(z:eK t p){x:Ur}(E:U8 x.a0)(o:U8 x.a1)(A:U8 x.a2)(B:U8 x.a3):∃c,LG t p x=Y c/\ID t p c=0/\(AI c).Sm:=by
 have q:=z.zero h;have j:=z.g;have ho:=j.ok h;have J:=j.ea;have G:=j.ec;have K:=h.ea;have L:=h.ec;have tp:=h.pos;obtain⟨r,e,M,N⟩:=B4 E.1 (show(0:Int)<4 by omega);have sm:∀k:d3,cf k->(AI (Nd p.d3 p.ff k)).Sm:=λk F=>by
  refine Zy (λc u=>?_) (by simp[Nd]) (by simp[Nd]) (by unfold cf;simp[Nd]) (by simp[Nd]);rw[v?.1 u];refine Zy (λc u=>?_) V ⟨by simp[OS,Aq];omega,by simp[OS,Aq];omega⟩ F V;rw[v?.1 u];exact XR
 unfold LG;rw[Qr ho.1,bs,e,bs];by_cases C:r=1
 .obtain⟨a,y,a0,a1⟩:=B4 (show 0<=AH x.a1 by rw[o.w];exact o.1) (show 0<(t.ca.length:Int)by omega);rw[ae s?,y,bs,AQ a9,bs,l6 (EY ho.1),bs,bs];refine⟨_,rfl,X8 h.zero q (xs:=[a]) (ys:=[]) ⟨⟨an,b_,λn f=>?_,λe he=>?_⟩,λn f=>?_,λe he=>(j.fit e he).1.2⟩ rfl (w_ _).symm,sm _ ⟨an,b_⟩⟩
  .rcases v!.1 f with f|f
   .exact ho.1.kind n f
   .rw[v?.1 f];omega
  .have:=ho.1.fit e he;simp only[bk,w!];omega
  .rcases v!.1 f with f|f
   .exact j.kind n f
   .rw[v?.1 f];exact⟨a0,a1⟩
 rw [az s?];by_cases D:r=2
 .rw[ae t9];by_cases c3:(p.d3.ca.length:Int)=0\/(t.ci.length:Int)=0
  .rw[ae (by simpa using c3)];exact⟨_,rfl,T1 q,XR⟩
  .obtain⟨a,y,a0,a1⟩:=B4 (show 0<=AH x.a1 by rw[o.w];exact o.1) (show 0<(t.ci.length:Int)by omega);obtain⟨b,H,O,P⟩:=B4 (show 0<=AH x.a2 by rw[A.w];exact A.1) (show 0<(p.d3.ca.length:Int)by omega);obtain⟨c,I,Q,R⟩:=B4 (show 0<=AH x.a3 by rw[B.w];exact B.1) (show 0<(p.d3.ca.length:Int)by omega);rw[az (by simpa using c3),y,bs,H,bs,I,bs,AQ a9,bs,l6 (EY ho.1),bs,bs];refine⟨_,rfl,X8 h.zero q (xs:=[]) (ys:=[⟨a,b,c⟩]) ⟨⟨b_,an,ho.1.kind,λe he=>?_⟩,j.kind,λe he=>?_⟩ (w_ _).symm rfl,sm _ ⟨b_,an⟩⟩
   .rcases v!.1 he with he|he
    .exact ho.1.fit e he
    .rw[v?.1 he];simp only;omega
   .rcases v!.1 he with he|he
    .exact(j.fit e he).1.2
    .rw[v?.1 he];exact a1
 .rw[az t9];exact⟨_,rfl,T1 q,XR⟩
end Go.Sf.Sc
namespace Go.Sf.Sc
open Go Go.Sf
variable{t:eb}{g:d3}{v i:Int}
theorem fy{l:List Bw}(h:Zi t g v l)(f:0<=i)(b:i<l.length):Mp t ⟨g,l,v,[]⟩ i=0:=by
 obtain ⟨⟨a1,a2⟩,a3,r⟩:=h.2.1 _ (AF f b);unfold Mp;dsimp only;rw[az U,az,az]
 .rw[CN];rintro⟨j,o,q,e⟩;simp at e;exact h.2.2 i j o q b e
 .simp;omega
variable{c:d5}
theorem Y1(hv:(As t).2=0){L:d7}(j:EQ t L=0)(e:VG t g){sl:List Bw}(o:Zi t g L.ff sl){fu:BN}(q:PN L.d3 fu){into:d4}(r:SH (Cg L.d3 fu) g into)(hi:HL into=X){b:Bool}(u:ID t L c=0)
  (f:UH t g (A2 into.ca g.ca.length) (A2 into.ci g.ci.length)=X):Dc t ⟨(⟨#[114]⟩:ByteArray),L,⟨g,sl,L.ff,[]⟩,fu,into,b,c⟩=0:=by
 have B:=o.1;have A:IT t ⟨(⟨#[114]⟩:ByteArray),L,⟨g,sl,L.ff,[]⟩,fu,into,b,c⟩=0:=by
  unfold IT;dsimp only;rw[az (by simp[EY e.ok]),az (by simp[S8 (λn w=>(e.kind n w).2) e.et]),az V,az U,Az.2 (λi y z=>FP.2 (fy o y z))];rfl
 have h:O1 ⟨(⟨#[114]⟩:ByteArray),L,⟨g,sl,L.ff,[]⟩,fu,into,b,c⟩=0:=by
  have:Dj L.d3 fu=0:=by
   unfold Dj;rw[az (by simp[EY (ax j).1]),Yk q]
  unfold O1;dsimp only;rw[az (by simp[this]),az (by simp[aV r]),az (by simp[hi])]
 unfold Dc;rw[az m_,az (show¬Db (⟨#[114]⟩:ByteArray)=T by decide),az h?,az (by simp[A]),az (by simp[h]),az,u];rw[Bool.not_eq_false];exact f
structure Zh(d:E1):Prop where
 left:gZ d.kg
 fu:qQ d.r0
 ea:∀x∈d.ca,U8 x
 ec:∀x∈d.ci,U3 x
 slots:∀x∈d.ed,U3 x
 Aar:(U8 d.zl.a0/\U8 d.zl.a1)/\U8 d.zl.a2/\U8 d.zl.a3
 order:∀x∈d.AaC,U8 x
variable{l:Fp}{n:Nat}{x:Int}
theorem Gh.at(h:Gh l n)(x0:0<=x)(x1:x<n):∃i:Int,(0<=i/\i<n)/\AA l i=x:=by
 obtain ⟨i,b,f,e⟩:=BR (h.mem.2 ⟨x0,x1⟩);exact⟨i,⟨b,l'⟩,e⟩
theorem Gh.inn(h:Gh l n)(b:0<=i)(e:i<n):0<=AA l i/\AA l i<n:=h.mem.1 (AF b l')
variable{k:d3}
theorem iK(f:VG t k)(o:k.ca.length<=30)(q:k.ci.length<=60)(h:nQ t k g)(he:t.ci.length<=90)(b:t.ca.length<=90):VG t g:=by
 obtain ⟨xs,ys,rfl,a1,a2,a3,j⟩:=h;simp only at j;refine⟨⟨an,an,λn b=>?_,λe he=>?_⟩,λn b=>?_,λe he=>?_⟩
 .rcases v!.1 b with b|b
  .exact f.ok.kind n b
  .have:=(OY.1 (a3 n b)).1;omega
 .rcases v!.1 he with he|he
  .have:=f.ok.fit e he;simp only[bk];omega
  .have:=(j e he).1;unfold Tl at this;dsimp only at this|-;omega
 .rcases v!.1 b with b|b
  .exact f.kind n b
  .exact(OY.1 (a3 n b)).1
 .rcases v!.1 he with he|he
  .exact f.et e he
  .exact(j e he).1.1.2
variable{m:d4}
theorem py{g r:d3}(q:VG t g)(u:Gh m.ca g.ca.length)(he:Gh m.ci g.ci.length)(h:wv g r m):VG t r:=by
 have z:∀n∈r.ca,n∈g.ca:=λn b=>by
  obtain ⟨j,w,y,rfl⟩:=BR b;obtain⟨i,⟨f,o⟩,rfl⟩:=u.at w (by rw[<-h.nl];exact y);rw[h.node i f o];exact AF f o
 have A:∀e∈r.ci,∃i:Int,(0<=i/\i<g.ci.length)/\e=⟨(AA g.ci i).kp,AA m.ca (AA g.ci i).kq,AA m.ca (AA g.ci i).To⟩:=λe b=>by
  obtain ⟨j,w,y,rfl⟩:=BR b;obtain⟨i,⟨f,o⟩,rfl⟩:=he.at w (by rw[<-h.el];exact y);exact⟨i,⟨f,o⟩,h.edge i f o⟩
 refine ⟨⟨by rw[h.nl];exact q.ok.ea,by rw[h.el];exact q.ok.ec,λn b=>q.ok.kind n (z n b),λe b=>?_⟩,λn b=>q.kind n (z n b),λe b=>?_⟩
 .obtain⟨i,⟨f,o⟩,rfl⟩:=A e b;have hf:=q.ok.fit _ (AF f o);rw[h.nl];exact⟨hf.1,u.inn hf.2.1.1 hf.2.1.2,u.inn hf.2.2.1 hf.2.2.2⟩
 .obtain⟨i,⟨f,o⟩,rfl⟩:=A e b;have:=q.et _ (AF f o);exact this
theorem Qg(b:0<=i)(e:i<n)(f:n<=l.length):AA (l.take n) i=AA l i:=by
 conv=>rhs;rw[<-List.take_append_drop n l]
 exact (Hq b q!).symm
variable{d:E1}
theorem ln(y:ET t)(hd:Zh d):∃r,N8 t d=Y r/\Dc t r=0/\(BX r).Sm:=by
 have hv:=y.zero;have n5:=y.ec;have n6:=y.ea;obtain⟨p,e1,z⟩:=jC y hd.left;have η:=z.zero y;have I:=z.g.okG y;have g8:=z.g.ea;have ζ:=z.g.ec;obtain⟨fu,e2,B⟩:=lj I.ok hd.fu;obtain⟨J,k1,k2⟩:=lZ I B;have δ:(Cg p.d3 fu).ca.length=fu.ca.length:=by simp[Cg]
 have Z:(Cg p.d3 fu).ci.length=fu.ci.length:=by simp[Cg]
 obtain ⟨g,e3,ε⟩:=pX y J hd.ea hd.ec;have w:=iK J U U ε U U;obtain⟨K,e4,q⟩:=Yp (n:=g.ca.length) (by have:=w.ok.ea;omega) hd.order;obtain⟨es,e5,u⟩:=Yp (n:=g.ci.length) (by have:=w.ok.ec;omega) hd.order;obtain⟨v,e6,e7,b⟩:=jD (m:=⟨K,es⟩) w.ok q u;have hO:=py w q u b;obtain⟨sl,e8,G⟩:=pv y (g:=v.1) (by have:=hO.ok.ea;omega) z.vars hd.slots;obtain⟨c,e9,hc,N⟩:=lw y z hd.Aar.1.1 hd.Aar.1.2 hd.Aar.2.1 hd.Aar.2.2;have lns:=q.len;have les:=u.len;obtain⟨xs,ys,H,x2,y2,O,P⟩:=ε;have M:g.ca=(Cg p.d3 fu).ca++xs:=by rw[H]
 have ge:g.ci=(Cg p.d3 fu).ci++ys:=by rw[H]
 have gnl:g.ca.length=(Cg p.d3 fu).ca.length+xs.length:=by rw[M,bk]
 have gel:g.ci.length=(Cg p.d3 fu).ci.length+ys.length:=by rw[ge,bk]
 have S:SH (Cg p.d3 fu) v.1 ⟨K.take (Cg p.d3 fu).ca.length,es.take (Cg p.d3 fu).ci.length⟩:=by
  refine ⟨J.ok,hO.ok,an,an,λi f o=>?_,λi f o=>?_⟩
  .simp only[cE]at o|-;rw[Qg f U U,b.nl];refine⟨q.inn f U,(b.node i f U).trans ?_⟩;rw[M];exact Hq f U
  .simp only[cE]at o|-;have hf:=(J.ok.fit _ (AF (l:=(Cg p.d3 fu).ci) f U)).2;rw[Qg f U U,b.el,Qg hf.1.1 hf.1.2 U,Qg hf.2.1 hf.2.2 U,b.edge i f U];refine⟨u.inn f U,?_⟩;rw[ge,Hq f U];exact⟨rfl,rfl,rfl⟩
 have C:∀{l:Fp}{n:Nat},Gh l n->l.Nodup:=λh=>h.nodup_iff.2 (Xx _);have hi:HL ⟨K.take (Cg p.d3 fu).ca.length,es.take (Cg p.d3 fu).ci.length⟩=X:=by
  unfold HL;rw[Jh.2 ((C q).sublist (w? _ _)),Jh.2 ((C u).sublist (w? _ _))];rfl
 have out:∀{l:Fp}{n:Nat}{k:Nat}{x:Int},Gh l n->k<=n->x∈A2 (l.take k) n->∃i:Int,((k:Int)<=i/\i<n)/\AA l i=x:=λ{l n k x}h B A=>by
  have D:=Gz A;obtain⟨i,⟨f,o⟩,e⟩:=h.at D.1 D.2;refine⟨i,⟨?_,o⟩,e⟩;have θ:hasB (l.take k) x=T:=by
   unfold A2 at A;rw[v5]at A;simpa using A.2
  rcases Int.lt_or_le i k with Q|R
  .have hl:=h.len;have h3:x∈l.take k:=by
    rw [<-e,<-Qg f Q U];exact AF f q!
   rw [B3.2 h3]at θ;cases θ
  .exact R
 have E:UH t v.1 (A2 (K.take (Cg p.d3 fu).ca.length) v.1.ca.length) (A2 (es.take (Cg p.d3 fu).ci.length) v.1.ci.length)=X:=by
  unfold UH;rw[b.nl,b.el,sx,Bool.not_eq_true',Bool.not_eq_true',x_,x_];refine⟨λx A=>?_,λx A=>?_⟩
  .obtain⟨i,⟨f,o⟩,rfl⟩:=out q U A;rw[b.node i U o,M];obtain⟨j,rfl⟩:∃j:Nat,i=(Cg p.d3 fu).ca.length+j:=⟨(i-(Cg p.d3 fu).ca.length).toNat,U⟩;rw[Zr,(OY.1 (O _ (AF U U))).2];decide
  .obtain⟨i,⟨f,o⟩,rfl⟩:=out u U A;unfold Jj;have hf:=(w.ok.fit _ (AF (l:=g.ci) (i:=i) U o)).2;rw[b.edge i U o];dsimp only;rw[b.node _ hf.1.1 hf.1.2,b.node _ hf.2.1 hf.2.2,ge];obtain⟨j,rfl⟩:∃j:Nat,i=(Cg p.d3 fu).ci.length+j:=⟨(i-(Cg p.d3 fu).ci.length).toNat,U⟩;rw[Zr,(P _ (AF U U)).2];decide
 have F:EQ t ⟨p.d3,[],0,[]⟩=0:=by
  have D:=z.g.ok y;unfold EQ;rw[az m_,az (by simp[EY D.1]),az (by simp[D.2]),az b_,az V,az V,az (by simp[S1 (n:=0) (l:=[])]),az];rw[CN];rintro⟨i,f,o,_⟩;exact absurd o b_
 unfold N8;rw[e1,bs,e2,bs,UU ⟨U,U⟩,bs,az (by unfold Dj;simp[EY I.ok,Yk B])];dsimp only;rw[e3,bs,e4,bs,e5,bs,e6,bs,DV U U,bs,DV U U,bs,e8,bs,e9,bs];split
 .unfold PF;dsimp only;rw[Qr I.ok,bs,Qr hO.ok,bs,Ap a_,bs,Ap a_,bs,Ap a9,bs,Ap a9,bs,bs];exact⟨_,rfl,Y1 (L:=⟨p.d3,[],0,[]⟩) (sl:=[]) (c:=TI) hv F hO ⟨V,(λs κ=>by cases κ),λi j j0 j1 o=>by simp at o;omega⟩ B S hi (T1 F) E,je (show 1<=1000 by omega) ⟨b_,b_⟩ V ⟨by have:=hO.ok.ea;simp only;omega,by have:=hO.ok.ec;simp only;omega⟩ V ⟨b_,b_⟩ ⟨an,an⟩ XR⟩
 .exact⟨_,rfl,Y1 hv η hO G B S hi hc E,je (show 1<=1000 by omega) ⟨b_,b_⟩ ⟨by have:=z.slots;simp only;omega,by have:=z.tests;simp only;omega⟩ ⟨by have:=hO.ok.ea;simp only;omega,by have:=hO.ok.ec;simp only;omega⟩ ⟨by have:=G.1;simp only;omega,V⟩ ⟨b_,b_⟩ ⟨an,an⟩ N⟩
end Go.Sf.Sc
namespace Go.Sf.Sc
open Go Go.Sf
structure cd(d:KM):Prop where
 ea:∀x∈d.ca,U2 x
 ec:∀x∈d.ci,U3 x
def xH(t:eb)(k:Int)(v:Fp):Prop:=k∈Ox t/\v.length=(Ak t k).length/\∀j:Int,0<=j->j<v.length->(AA (Ak t k) j).zu<=AA v j/\AA v j<=(AA (Ak t k) j).yr
variable{t:eb}
theorem jB(G:ET t){d:KM}(hd:cd d):∃h,N0 t d=Y h/\E9 t h=(-1,0):=by
 have hv:=G.zero;have hf:=G.few;have L:=C6 hv;have htn:=G.ea;have hte:=G.ec;unfold N0 Lk;rw[X7 U,bs,bs];refine EH (λi h=>(0<=i/\i<=8)/\((h.d3.ca.length:Int)<=i/\h.em.length=h.d3.ca.length/\h.d3.ci=[])/\∀k:Int,0<=k->k<h.d3.ca.length->xH t (AA h.d3.ca k) (AA h.em k)) 8 ⟨U,V,λk A B=>by simp at B;omega⟩ (λi h H⟨a1,⟨a2,a3,M⟩,N⟩=>?_) (λi h H⟨a1,⟨a2,a3,M⟩,N⟩_=>?_)
 .dsimp only;by_cases y:(i<d.ca.length/\i<8)/\0<((Ox t).length:Int)
  .left;have z:=hd.ea _ (AF a1.1 y.1.1);obtain⟨r,ε,F,o⟩:=B4 (show 0<=AH (AA d.ca i).a0 by rw[z.1.w];exact z.1.1) y.2;have D:=AF F o;have f:=(OY.1 D).1;refine⟨U,?_⟩;rw[ae k_,AC a1.1 y.1.1,bs,ε,bs,AC F o,bs,NF hf,bs,IA hv f.1 f.2,AV (n:=i+1) U U];dsimp only;generalize AA (Ox t) r=kd at D f|-;have E:=(P9 G.n (kd+1).toNat kd f.2).1;have R:=WK hf L f.1 f.2;have S:=gq hf L f.1 f.2;unfold Ak at E;have E:(Ak t kd).length<=(kd+1).toNat:=E;refine cx (mk:=λs'=>Be.next (s',i+1)) (M8 (a:=0) (b:=((Ak t kd).length:Int)) (s:=([]:Fp)) (λ(k:Int)(s:Fp)=>(s.length:Int)=k/\∀j:Int,0<=j->j<k->(AA (Ak t kd) j).zu<=AA s j/\AA s j<=(AA (Ak t kd) j).yr) U ⟨rfl,λj C Q=>U⟩ (λk s A B⟨s1,s2⟩=>?_) (λs⟨s1,s2⟩=>?_))
   .have m1:=R _ (AF A B);have m2:=S _ (AF A B);have m3:=z.2.1;have m4:=z.2.2;rw[AC A B,bs,bs,bs,bs,AV (n:=(AA (Ak t kd) k).yr-(AA (Ak t kd) k).zu) U U,AV (n:=(AA (Ak t kd) k).yr-(AA (Ak t kd) k).zu+1) U U,z.2.w,AV (n:=7*k) U U,AV (n:=(AA d.ca i).a1+7*k) U U];obtain⟨q,κ,q0,P⟩:=B4 (show 0<=(AA d.ca i).a1+7*k by omega) (show 0<(AA (Ak t kd) k).yr-(AA (Ak t kd) k).zu+1 by omega);rw[κ,bs,AV (n:=(AA (Ak t kd) k).zu+q) U U,AQ a9,bs];refine⟨_,rfl,an,λj C Q=>?_⟩;by_cases e:j=k
    .rw[LX _ _ U,e];omega
    .rw[Kv _ _ C U];exact s2 j C U
   .rw[AQ a9,bs,AQ a9,bs];refine⟨_,rfl,_,rfl,U,⟨an,an,M⟩,λk A B=>?_⟩;simp only[bk,w!]at B;by_cases e:k=h.d3.ca.length
    .rw[LX _ _ e,LX _ _ U];exact⟨D,U,λj C Q=>s2 j C U⟩
    .rw[Kv _ _ A U,Kv _ _ A U];exact N k A U
  .right;rw[az k_]
 dsimp only;refine EH (λj u=>(0<=j/\j<=10)/\(u.d3.ca=h.d3.ca/\u.em=h.em/\(u.d3.ci.length:Int)<=j)/\∀e∈u.d3.ci,Tl t h.d3.ca.length e/\O0 t e.kp (AA h.d3.ca e.kq) (AA h.d3.ca e.To)=X) 10 ⟨U,⟨rfl,rfl,by rw[M];simp⟩,by rw[M];intro e he;cases he⟩ (λj u C⟨F,⟨o,I,b3⟩,J⟩=>?_) (λj u C⟨F,⟨o,I,b3⟩,J⟩_=>⟨u,rfl,?_⟩)
 .dsimp only;by_cases y:((j<d.ci.length/\j<10)/\0<(h.d3.ca.length:Int))/\0<(t.ci.length:Int)
  .left;have z:=hd.ec _ (AF F.1 y.1.1.1);obtain⟨r,ε,c1,c2⟩:=B4 (show 0<=AH (AA d.ci j).a0 by rw[z.1.w];exact z.1.1) y.2;obtain⟨r1,κ,δ,Z⟩:=B4 (show 0<=AH (AA d.ci j).a1 by rw[z.2.1.w];exact z.2.1.1) y.1.2;obtain⟨r2,e3,f1,f2⟩:=B4 (show 0<=AH (AA d.ci j).a2 by rw[z.2.2.w];exact z.2.2.1) y.1.2;refine⟨U,?_⟩;rw[ae k_,AC F.1 y.1.1.1,bs,ε,bs,bs,κ,bs,bs,e3,bs,o,AC δ Z,bs,AC f1 f2,bs,XB hf,bs,AV (n:=j+1) U U];split
   .rename_i K;rw[AQ a9,bs];exact⟨_,rfl,U,⟨rfl,I,an⟩,λe D=>(v!.1 D).elim (J e) λD=>by
     rw [v?.1 D];exact⟨⟨⟨c1,c2⟩,⟨δ,Z⟩,f1,f2⟩,K⟩⟩
   .exact⟨u,rfl,U,⟨o,I,U⟩,J⟩
  .right;rw[az k_]
 .have go:CQ u.d3:=by
   refine ⟨by rw[o];omega,U,λn ζ=>?_,λe he=>?_⟩
   .rw[o]at ζ;obtain⟨k,A,B,rfl⟩:=BR ζ;have:=(OY.1 (N k A B).1).1;omega
   .have:=(J e he).1;unfold Tl at this;rw[o];omega
  unfold E9;rw[az m_,az (by simp[EY go]),az (by rw[o,I];simpa using a3),Az.2]
  .dsimp only;rw[Az.2]
   .rfl
   intro i H O;obtain⟨P,η⟩:=J _ (AF H O);have θ:Kz t u.d3 i=0:=by
    unfold Kz Jj;rw[az (by have:=P.1.2;omega),o,η];rfl
   rw [θ];rfl
  .intro i H O;rw[o]at O;obtain⟨P,η,q3⟩:=N i H O;have q4:=OY.1 P;have θ:HK t (AA u.d3.ca i) (AA u.em i)=0:=by
    rw [o,I];unfold HK;rw[az U,az (by simp[q4.2]),az (by simpa using η),az];rw[CN];rintro⟨j,C,Q,e⟩;have:=q3 j C U;simp[Re]at e;omega
   rw [θ];rfl
end Go.Sf.Sc
namespace Go.Sf.Sc
open Go Go.Sf
structure Ut(d:E2):Prop where
 types:∀x∈d.eb,U2 x
 ends:∀x∈d.Aa9,U2 x
 rules:∀r∈d.yq,Zh r
 host:cd d.fl
instance:Inhabited E1:=⟨⟨⟨⟨[],[]⟩,[],[]⟩,0,[],[],[],T,T,⟨0,0,0,0⟩,[]⟩⟩
theorem lq{d:E2}(hd:Ut d):∃v,OB d=Y v/\ET v.1/\(v.2.1.length<=3/\∀r∈v.2.1,Dc v.1 r=0/\(BX r).Sm)/\E9 v.1 v.2.2=(-1,0):=by
 obtain ⟨t,et,o⟩:=li hd.types hd.ends;unfold OB;rw[et,bs];refine EH (λi l=>(0<=i/\i<=3)/\(l.length:Int)<=i/\∀r∈l,Dc t r=0/\(BX r).Sm) 3 ⟨U,V,λr j=>by cases j⟩ (λi l q⟨a1,a2,a3⟩=>?_) (λi l q⟨a1,a2,a3⟩_=>?_)
 .dsimp only;by_cases f:i<d.yq.length/\i<3
  .left;have b:=hd.rules _ (AF a1.1 f.1);have u:MS (AA d.yq i).kg.d3 2 2=Y ⟨(AA d.yq i).kg.d3.ca.take (min ((AA d.yq i).kg.d3.ca.length:Int) 2).toNat,(AA d.yq i).kg.d3.ci.take (min ((AA d.yq i).kg.d3.ci.length:Int) 2).toNat⟩:=by
    unfold MS;rw[DV U U,bs,DV U U,bs]
   obtain ⟨r,e,j⟩:=ln o (d:=⟨⟨⟨(AA d.yq i).kg.d3.ca.take (min ((AA d.yq i).kg.d3.ca.length:Int) 2).toNat,(AA d.yq i).kg.d3.ci.take (min ((AA d.yq i).kg.d3.ci.length:Int) 2).toNat⟩,(AA d.yq i).kg.ed,(AA d.yq i).kg.mo⟩,(AA d.yq i).r0,(AA d.yq i).ca,(AA d.yq i).ci,(AA d.yq i).ed,(AA d.yq i).Plain,(AA d.yq i).mr,(AA d.yq i).zl,(AA d.yq i).AaC⟩)
    ⟨⟨⟨λx h=>b.left.g.ea x (x! h),λx h=>b.left.g.ec x (x! h)⟩,b.left.slots⟩,b.fu,b.ea,b.ec,b.slots,b.Aar,b.order⟩
   refine ⟨U,l++[r],?_,U,an,λx h=>(v!.1 h).elim (a3 x) λh=>v?.1 h▸j⟩;rw[ae b!,AC a1.1 f.1,bs,u,bs,e,bs,AQ a9,bs,AV (n:=i+1) U U]
  .right;rw[az b!]
 .dsimp only;rw[DV U U,bs,DV U U,bs];obtain⟨h,e,hh⟩:=jB o (d:=⟨d.fl.ca.take (min (d.fl.ca.length:Int) 5).toNat,d.fl.ci.take (min (d.fl.ci.length:Int) 6).toNat⟩) ⟨λx h=>hd.host.ea x (x! h),λx h=>hd.host.ec x (x! h)⟩;rw[e,bs];exact⟨_,rfl,o,⟨b_,a3⟩,hh⟩
end Go.Sf.Sc
namespace Go.Sf.Sc
open Go Go.Sf
end Go.Sf.Sc
namespace Go.Sf.Sc
open Go Go.Sf
def P2(t:eb)(rules:List gn)(s:AG)(l:List Bi):Prop:=∀j:Int,0<=j->j<l.length->Ru t rules s l j=0
variable{t:eb}{rules:List gn}{s:AG}{a:Bi}
theorem YT{l:List Bi}(h:P2 t rules s l)(e:(Hp t rules (Is t rules s l) a).2=0):P2 t rules s (l++[a]):=by
 intro j b o;rw[bk,w!]at o;unfold Ru;by_cases f:j<l.length
 .have:=h j b f;unfold Ru at this;rw[Hq b f,x? U];exact this
 .obtain rfl:j=l.length:=U
  rw [Qf,u!,y_]
  .exact e
  .rfl
theorem aM(b:DY t rules s){l:List Bi}(h:P2 t rules s l)(n:Nat)(e:n<=l.length):DY t rules (Is t rules s (l.take n)):=ba b n e λj f o=>h j f U
theorem aL(b:DY t rules s){l:List Bi}(h:P2 t rules s l)(j:l.length<=100):bY t rules s l=(Is t rules s l,(l.length:Int),0):=by
 unfold bY;rw[az (by rw[Pl.2 b];simp),az U,Az.2];intro i e f;rw[h i e f];rfl
theorem ky(b:DY t rules s)(e:(Hp t rules s a).2=0):bY t rules s [a]=((Hp t rules s a).1,1,0):=by
 rw [aL b (l:=[a]) (YT (l:=[]) (λj h f=>by simp at f;omega) e) V];rfl
theorem kC{a n:Int}(b:0<=a)(e:0<n):0<=a.tmod n/\a.tmod n<n:=by
 rw [Int.tmod_eq_emod_of_nonneg b];exact⟨Int.emod_nonneg _ U,Int.emod_lt_of_pos _ e⟩
theorem Yq(hf:Ai t)(D:D5 rules)(ε:DY t rules s){h:List DF}(κ:∀x∈h,U2 x)(hl:h.length<=100):∃l,Hv t rules s h=Y l/\l.length<=h.length/\P2 t rules s l:=by
 unfold Hv;have step:∀(x:AG)(l:List Bi)(a:Bi),x=Is t rules s l->DY t rules x->P2 t rules s l->l.length<=100->∃v:AG×List Bi,((IR t rules x a).bind λo=>
   if (decide (o.2=0))=X then
   (AT l [a]).bind λr=>
   Y (o.1,r)
   else
   Y (x,l))=Y v/\v.1=Is t rules s v.2/\DY t rules v.1/\P2 t rules s v.2/\v.2.length<=l.length+1:=λx l a e y S η=>by
  rw [sP hf D y,bs];by_cases E:(Hp t rules x a).2=0
  .rw[ae (by simpa using E),AQ a9,bs];refine⟨_,rfl,?_,Zk y E,YT S (by rw[<-e];exact E),V⟩;rw[Pj,<-e]
  .rw[az (by simpa using E)];exact⟨_,rfl,e,y,S,Nat.le_succ _⟩
 obtain ⟨v,e,J,i2,δ,i4⟩:=Mw (f:=λ(B:Int)(q:AG×List Bi)=>
  (idx h B).bind λF=>
  (Cf (AH F.a0) 4).bind λu=>
  if (decide ((AH (1+u))=1))=X then
  (Ip t rules q.1.ei).bind λG=>
  (G8 t rules G.1).bind λA=>
  if (decide ((A.1.length:Int)=0))=X then
  Y (q.1,q.2)
  else
  (idx h B).bind λH=>
  (Cf (AH H.a1) (A.1.length:Int)).bind λI=>
  (idx A.1 I).bind λC=>
  (IR t rules q.1 (Bi.mk (AH (1+u)) C)).bind λo=>
  if (decide (o.2=0))=X then
  (AT q.2 [Bi.mk (AH (1+u)) C]).bind λr=>
  Y (o.1,r)
  else
  Y (q.1,q.2)
  else
  (IR t rules q.1 (Bi.mk (AH (1+u)) (pq.mk 0 (AO.mk (d4.mk [] []) [])))).bind λo=>
  if (decide (o.2=0))=X then
  (AT q.2 [Bi.mk (AH (1+u)) (pq.mk 0 (AO.mk (d4.mk [] []) []))]).bind λr=>
  Y (o.1,r)
  else
  Y (q.1,q.2)) (λi z=>z.1=Is t rules s z.2/\DY t rules z.1/\P2 t rules s z.2/\(z.2.length:Int)<=i) (a:=0) (b:=(h.length:Int)) (s:=(s,[])) U ⟨rfl,ε,λj j0 ζ=>by simp at ζ;omega,V⟩ (λi z B J hi=>by
   obtain ⟨L,M,N,k4⟩:=hi;have y:=κ _ (AF B J);have m0:=kC (a:=(AA h i).a0) (n:=4) y.1.1 a?;rw[AC B J,bs,U8.w y.1];unfold Cf;rw[az a?,bs];generalize AH (1+(AA h i).a0.tmod 4)=kind;by_cases θ:kind=1
   .rw[ae n?,dc hf D,bs,sd hf D];obtain⟨v,e,q1,q2⟩:=pP (t:=t) D (Pr t rules z.1.ei).1;rw[e,bs];by_cases K:(v.1.length:Int)=0
    .rw[ae (by simpa using K)];exact⟨_,rfl,L,M,N,by show(z.2.length:Int)<=i+1;omega⟩
    .have m1:=kC (a:=(AA h i).a1) (n:=v.1.length) y.2.1 U;rw[az (by simpa using K),bs,U8.w y.2,az K,bs,AC m1.1 m1.2,bs];obtain⟨w,O,P,Q,R,Z⟩:=step z.1 z.2 ⟨kind,AA v.1 ((AA h i).a1.tmod v.1.length)⟩ L M N U;exact⟨w,O,P,Q,R,U⟩
   .rw[az n?];obtain⟨w,O,P,Q,R,Z⟩:=step z.1 z.2 ⟨kind,⟨0,⟨⟨[],[]⟩,[]⟩⟩⟩ L M N U;exact⟨w,O,P,Q,R,U⟩)
 rw [e,bs];exact⟨_,rfl,U,δ⟩
theorem fC{h:fl}(hv:(As t).2=0)(o:rules.length<=10)(b:∀r∈rules,Dc t r=0)(hh:(E9 t h).2=0):Nf t rules h=0:=by
 have j:Ph t rules=0:=by
  unfold Ph;rw[az m_,az U,Az.2 λi e f=>by rw[b _ (AF e f)];rfl];rfl
 unfold Nf;rw[az h?];exact hh
theorem lz{d:E2}(hd:Ut d):∃t rules h b,Nj d=Y (t,rules,⟨⟨h,[]⟩,[]⟩,b)/\(b=X->Ai t/\D5 rules/\DY t rules ⟨⟨h,[]⟩,[]⟩):=by
 obtain ⟨⟨t,rules,h⟩,y,j,⟨z,o⟩,u⟩:=lq hd;dsimp only at j z o u;obtain⟨b,el,A⟩:=ou j.sm (λr f=>(o r f).2) h;unfold Nj;rw[y,bs];dsimp only;rw[el,bs];refine⟨t,rules,h,b,rfl,λw=>?_⟩;obtain⟨hf,f⟩:=A w;exact⟨hf,f,⟨fC j.zero U (λr k=>(o r k).1) (congrArg Prod.snd u),V,λi q e=>by simp at e;omega⟩,V,λi q e=>by simp at e;omega,λi q e=>by simp at e;omega⟩
end Go.Sf.Sc
namespace Go.Sf.Sc
open Go Go.Sf
structure Tn(s x:AG)(n:Nat):Prop where
 deep:n<=x.fd.length
 marks:x.fd.take n=s.fd++[(s.ei.gt.length:Int)]
 start:x.ei.hV=s.ei.hV
 long:s.ei.gt.length<=x.ei.gt.length
 moves:x.ei.gt.take s.ei.gt.length=s.ei.gt
variable{n:Nat}
theorem o6{s x:AG}(h:Tn s x n):n=s.fd.length+1:=by
 have:=congrArg List.length h.marks;rw[cE]at this;have:=h.deep;simp at *;omega
variable{t:eb}{rules:List gn}{a:Bi}
theorem o5{s x:AG}(B:DY t rules x)(h:Tn s x n)(e:(Hp t rules x a).2=0)(w:¬(x.fd.length=n/\2<a.l3)):Tn s (Hp t rules x a).1 n/\(Hp t rules x a).1.fd.length<=x.fd.length+1:=by
 have F:=o6 h;obtain⟨A,j,o,u,q⟩:=h;unfold Hp at e|-;split at e
 .rename_i k;rw[ae k];unfold QF at e|-;split at e
  next b=>exact absurd e b
  rename_i b;rw[az b];obtain⟨_,_,_,E⟩:=gk (Classical.not_not.1 b);rw[E];exact⟨⟨A,j,o,an,by rw[x? u];exact q⟩,V⟩
 rename_i C;rw[az C];split at e
 .rename_i k;rw[ae k];unfold L6 at e|-;split at e
  next b=>exact absurd e b
  rename_i b;rw[az b];split at e
  .cases e
  rename_i f;rw[az f];exact⟨⟨an,by show(x.fd++_).take n=_;rw[x? A];exact j,o,u,q⟩,V⟩
 rename_i b;rw[az b];split at e
 .rename_i k;rw[ae k];have r:n<x.fd.length:=by
   have:¬x.fd.length=n:=λc=>w ⟨c,U⟩;omega
  unfold Eh at e|-;split at e
  next b=>exact absurd e b
  rename_i b;rw[az b];split at e
  .cases e
  rename_i f;rw[az f];exact⟨⟨an,by show(x.fd.take _).take n=_;rw[y!,show min n (x.fd.length-1)=n by omega];exact j,o,u,q⟩,an⟩
 rename_i f;rw[az f];split at e
 .rename_i k;rw[ae k];have r:n<x.fd.length:=by
   have:¬x.fd.length=n:=λc=>w ⟨c,U⟩;omega
  unfold Ow at e|-;split at e
  .cases e
  rename_i f;rw[az f];have y:=B.marks;have l1:=Vl y (x.fd.length-n) ((n:Int)-1) U U;rw[show(n:Int)-1+((x.fd.length-n:Nat):Int)=(x.fd.length:Int)-1 by omega]at l1;have l2:AA x.fd ((n:Int)-1)=s.ei.gt.length:=by
   have:AA (x.fd.take n) ((n:Int)-1)=s.ei.gt.length:=by
    rw [j,show(n:Int)-1=s.fd.length by omega,Qf]
   rw [<-this];unfold AA;rw[y?,y?,List.getElem?_take,ae U]
  have D:=y.inn ((x.fd.length:Int)-1) U U;generalize AA x.fd ((x.fd.length:Int)-1)=z at l1 D|-;refine⟨⟨an,by show(x.fd.take _).take n=_;rw[y!,show min n (x.fd.length-1)=n by omega];exact j,o,by show _<=(x.ei.gt.take z.toNat).length;rw[cE];omega,?_⟩,an⟩;show(x.ei.gt.take z.toNat).take _=_;rw[y!,show min s.ei.gt.length z.toNat=s.ei.gt.length by omega];exact q
 .cases e
variable{s:AG}
theorem Y3(j:DY t rules s){l:List Bi}(h:P2 t rules s l):∀n:Nat,n<=l.length->(Is t rules s (l.take n)).fd.length<=s.fd.length+n
 |0,_=>by simp[Is]|n+1,q=>by
  have o:=Y3 j h n U;have hi:=aM j h n U;have he:=h n U U;unfold Ru at he;have e:=Bb (l:=l) (i:=(n:Int)) U U;rw[show((n:Int)+1).toNat=n+1 by omega,u!]at e;rw[u!]at he;rw[e,Pj];unfold Hp at he|-;unfold QF L6 Eh Ow at he|-;split at he
  .rename_i k;rw[ae k];split at he
   next b=>exact absurd he b
   rename_i b;rw[az b];show _<=_;simp only;omega
  rename_i k;rw[az k];split at he
  .rename_i k;rw[ae k];split at he
   next b=>exact absurd he b
   rename_i b;rw[az b];split at he
   .cases he
   rename_i f;rw[az f];simp only[bk,w!];omega
  rename_i k;rw[az k];split at he
  .rename_i k;rw[ae k];split at he
   next b=>exact absurd he b
   rename_i b;rw[az b];split at he
   .cases he
   rename_i f;rw[az f];simp only[cE];omega
  rename_i k;rw[az k];split at he
  .rename_i k;rw[ae k];split at he
   .cases he
   rename_i f;rw[az f];simp only[cE];omega
  .cases he
theorem fU{s x:AG}(b:DY t rules x)(h:Tn s x n)(f:n<x.fd.length):(Eh x).2=0/\DY t rules (Eh x).1/\Tn s (Eh x).1 n/\(Eh x).1.fd.length=x.fd.length-1:=by
 have e:Eh x=(⟨x.ei,x.fd.take (x.fd.length-1)⟩,0):=by
  unfold Eh;rw[az (by rw[Wo.2 b.marks];simp),az U]
 rw [e];refine⟨rfl,⟨b.rep,Se b.marks _⟩,⟨an,?_,h.start,h.long,h.moves⟩,V⟩;show(x.fd.take _).take n=_;rw[y!,show min n (x.fd.length-1)=n by omega];exact h.marks
theorem WS(hf:Ai t)(u:D5 rules){ρ:Type}{f:AG×Int->Option (Be (AG×Int) ρ)}
  (h:∀x i,DY t rules x->(n:Int)<x.fd.length->i<10->(Eh x).2=0->0<=i->f (x,i)=Y (.next ((Eh x).1,i+1)))(o:∀x i,¬(n:Int)<x.fd.length->f (x,i)=Y (.brk (x,i))):
  ∀(k:Nat)(x:AG)(i:Int),DY t rules x->Tn s x n->x.fd.length=n+k->0<=i->i+k<=10->∃y j,Ks f (x,i) (.inl (y,j))/\DY t rules y/\Tn s y n/\y.fd.length=n
 |0,x,i,b,ho,A,q,hi=>⟨x,i,.brk (o x i U),b,ho,U⟩|k+1,x,i,b,ho,A,q,hi=>by
  obtain ⟨w,z,c3,B⟩:=fU b ho U;obtain⟨y,j,e,r⟩:=WS hf u h o k (Eh x).1 (i+1) z c3 U U U;exact⟨y,j,.next (h x i b U U w q) e,r⟩
theorem Sr(d:E2)(o:List DF)(e:List DF)(hd:Ut d)(S:∀x∈o,U2 x)(θ:∀x∈e,U2 x):GQ d o e=Y X:=by
 obtain ⟨t,rules,h,b,Z,fm⟩:=lz hd;unfold GQ;rw[kW,bs,bs];by_cases Q:3<(o.length:Int)\/5<(e.length:Int)
 .rw[ae (by simpa using Q)]
 rw [az (by simpa using Q),Z,bs];cases b with
 |false=>rfl|true=>
 obtain ⟨hf,q,H⟩:=fm rfl;obtain⟨l,el,ll,N⟩:=Yq hf q H S U;have w:=aM H N l.length U;have G:=Y3 H N l.length U;rw[z9]at w G;dsimp only;rw[az a?,el,bs,iv hf q,aL H N U,bs];dsimp only;generalize Is t rules ⟨⟨h,[]⟩,[]⟩ l=s at w G;have G:s.fd.length<=3:=by simp at G;omega
 obtain ⟨x0,hX⟩:∃x0:AG,x0=⟨s.ei,s.fd++[(s.ei.gt.length:Int)]⟩:=⟨_,rfl⟩;have κ:L6 s=(x0,0):=by
  unfold L6;rw[az (by rw[Wo.2 w.marks];simp),az U,hX]
 rw [aj (w.small hf q),κ,bs];dsimp only;have E:DY t rules x0:=by
  rw [hX];exact⟨w.rep,Yc w.marks U⟩
 have η:x0.fd.length=s.fd.length+1:=by
  rw [hX];simp
 have L:Tn s x0 (s.fd.length+1):=by
  rw [hX];exact⟨V,List.take_of_length_le V,rfl,b6 _,z9 ..⟩
 obtain ⟨m,M,l2,g2⟩:=Yq hf q E θ U;rw[az V,M,bs];have lp:=Qk (f:=λ(A:Int)(I:AG)=>
  (idx m A).bind λB=>
  if ((decide ((I.fd.length:Int)=(x0.fd.length:Int)))&&(decide (2<B.l3)))=X then
  Y (.brk I)
  else
  (DB t rules I [B]).bind λC=>
  if (!decide (C.2.2=0))=X then
  Y (.ret T)
  else
  Y (.next C.1)) (λi z=>z=Is t rules x0 (m.take i.toNat)/\DY t rules z/\Tn s z (s.fd.length+1)/\(z.fd.length:Int)<=s.fd.length+1+i) (λz=>DY t rules z/\Tn s z (s.fd.length+1)/\z.fd.length<=s.fd.length+6) (λ_:Bool=>False) (a:=0) (b:=(m.length:Int)) (s:=x0) U ⟨by simp[Is],E,L,U⟩ (by
   intro i z A K ⟨J,u,D,k4⟩;have he:=g2 i A K;unfold Ru at he;rw[<-J]at he;rw[AC A K,bs];by_cases ζ:z.fd.length=s.fd.length+1/\2<(AA m i).l3
   .rw[ae an];exact .inr (.inl ⟨_,rfl,u,D,U⟩)
   .obtain⟨c1,c2⟩:=o5 u D he ζ;rw[az an,iv hf q,ky u he,bs,az V];exact .inl ⟨_,rfl,by rw[Bb A K,Pj,<-J],Zk u he,c1,by dsimp only;omega⟩)
 obtain ⟨z,ez,F⟩|⟨_,_,c⟩:=lp
 .have F:DY t rules z/\Tn s z (s.fd.length+1)/\z.fd.length<=s.fd.length+6:=by
   rcases F with⟨_,u,D,k4⟩|F
   .exact⟨u,D,U⟩
   .exact F
  obtain ⟨z1,z2,z3⟩:=F;have z4:=z2.deep;rw[ez];dsimp only[ek];obtain⟨y,j,ey,y1,O,P⟩:=WS (ρ:=Bool) (f:=λ(s2:AG×Int)=>
   if ((decide ((x0.fd.length:Int)<(s2.1.fd.length:Int)))&&(decide (s2.2<10)))=X then
   (Dt s2.1).bind λr=>
   if (!decide (r.2=0))=X then
   Y (.ret T)
   else
   Y (.next (r.1,AH (s2.2+1)))
   else
   Y (.brk (s2.1,s2.2))) hf q (s:=s) (n:=s.fd.length+1) (λx i ε k J u D=>by
    dsimp only;rw[ae an,Yg (ε.small hf q),bs,az t_,AV U U]) (λx i k=>by
    dsimp only;rw[az an]) (z.fd.length-(s.fd.length+1)) z 0 z1 z2 U U U
  rw [ey.eq];dsimp only[ek];have δ:Sw t rules y=(s,0):=by
   unfold Sw;rw[az (by rw[Pl.2 y1];simp)];unfold Ow;rw[az U];have R:y.fd=s.fd++[(s.ei.gt.length:Int)]:=by
    have:=O.marks;rw[<-P,z9]at this;exact this
   have M:AA y.fd ((y.fd.length:Int)-1)=s.ei.gt.length:=by
    rw [P,R,show((s.fd.length+1:Nat):Int)-1=s.fd.length by omega,Qf]
   rw [M,u!,O.moves,O.start,P,R,y_ U]
  rw [pK hf q,δ,bs,ae V,v7 (w.small hf q)];rfl
 .exact c.elim
end Go.Sf.Sc
namespace Go.Sf.Sc
open Go Go.Sf
variable{α:Type}{n:Nat}
theorem FM{e:α->TV}{l:List α}(h:TV.WF (eL n e l)):∀x∈l,(e x).WF:=by
 have o:TV.WF (.list n (l.map e)):=h;simp only[TV.WF]at o;intro x q;have key:∀{f:Fq},TV.tl f->∀t∈f,t.WF:=by
  intro f
  induction f with
  |nil=>intro _ t b;cases b
  |cons a l r=>
   intro j t b;rcases List.mem_cons.1 b with rfl|b
   .exact j.1
   .exact r j.2 t b
 exact key o.2 _ (v_.2 ⟨x,q,rfl⟩)
variable{x:Int}
theorem KF(h:(HF x).WF):U8 x:=by
 have b:IntKind.u8.min<=x/\x<=IntKind.u8.max:=h;rw[show IntKind.u8.min=0 by decide,show IntKind.u8.max=255 by decide]at b;exact⟨b.1,U⟩
theorem Um{x:DF}(h:(EC x).WF):U2 x:=⟨KF h.1,KF h.2.1⟩
theorem Un{x:I1}(h:(Fx x).WF):U3 x:=⟨KF h.1,KF h.2.1,KF h.2.2.1⟩
variable{d:E1}
theorem kJ(h:(JB d).WF):Zh d:=by
 have f:TV.tl [_,_,_,_,_,_,_,_,_,_,_,_,_,_,_]:=h;obtain⟨j,o,q,_,r,u,w,y,_,_,z,A,B,C,D,_⟩:=f;have e:IntKind.u64.min<=d.r0/\d.r0<=IntKind.u64.max:=r;rw[show IntKind.u64.min=0 by decide,show IntKind.u64.max=18446744073709551615 by decide]at e;exact⟨⟨⟨λx b=>KF (FM j x b),λx b=>Un (FM o x b)⟩,λx b=>Un (FM q x b)⟩,⟨e.1,U⟩,
  λx b=>KF (FM u x b),λx b=>Un (FM w x b),λx b=>Un (FM y x b),⟨⟨KF z,KF A⟩,KF B,KF C⟩,λx b=>KF (FM D x b)⟩
theorem gP{d:E2}(h:(HH d).WF):Ut d:=by
 have e:TV.tl [_,_,_,_,_]:=h;obtain⟨f,j,o,q,r,_⟩:=e;exact⟨λx b=>Um (FM f x b),λx b=>Um (FM j x b),λx b=>kJ (FM o x b),λx b=>Um (FM q x b),λx b=>Un (FM r x b)⟩
end Go.Sf.Sc
