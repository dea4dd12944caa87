/- Plain lemmas: what the functions of the program and of the reference compute. -/
import Derived.Test.YtfcfkigfmofniaaGreatP96
import Derived.Test.YtfcfkigfmofniaaGreatP61
set_option linter.all false
set_option maxRecDepth 100000
namespace Go.Sf.Sc
open Go Go.Sf
variable{n:Nat}
theorem i7(h:n<=1000):J2 0 n=some (Ag n):=by
 unfold J2;rw[BY (a:=0) (b:=(n:Int)) (s:=[]) (fun i=>Ag i.toNat) (by omega) rfl,bs,Int.toNat_natCast];intro i e f;rw[AQ (by rw[Ap];simp;unfold AU;omega),bs,Dx e,Int.zero_add,AV (by omega) (by omega)]
def Gf(l:Fp)(n:Nat):Prop:=l.Perm (Ag n)
variable{l:Fp}
theorem Gf.len(h:Gf l n):l.length=n:=by rw[h.length_eq,Ap]
variable{x:Int}
theorem Gf.mem(h:Gf l n):x∈l↔0<=x/\x<n:=by rw[h.mem_iff,DU]
theorem Gf.ne(h:Gf l n){i j:Int}(f:0<=j)(o:j<i)(q:i<n):AA l j≠AA l i:=by
 have hd:l.Nodup:=h.nodup_iff.2 (by
  unfold Ag;exact List.Pairwise.map _ (fun a b h e=>h (Int.ofNat.inj e)) List.nodup_range)
 have:=h.len;exact Gq hd f o (by omega)
theorem Yd(h:n<=1000){a:Fp}(j:∀x∈a,U8 x):∃l,Hq n a=some l/\Gf l n:=by
 unfold Hq;rw[i7 h,bs];refine EA (fun i l=>0<=i/\Gf l n) n ⟨by omega,.refl _⟩ (fun i l o⟨a1,a2⟩=>?_) (fun i l o⟨a1,a2⟩_=>⟨l,rfl,a2⟩);dsimp only;by_cases b:i<n/\i<a.length
 .left;have f:=j _ (AF a1 b.2);have y:=a2.len;obtain⟨r,e,z,A⟩:=B4 (show 0<=AG (AA a i)by rw[f.w];exact f.1) (show 0<(n:Int)-i by omega);refine⟨b.1,Av (Av l i (AA l (i+r))) (i+r) (AA l i),?_,by omega,?_⟩
  .rw[ae (by simpa using b),AC a1 b.2,bs,AV (n:=(n:Int)-i) (by omega) (by omega),e,bs,AV (n:=i+r) (by omega) (by omega),AC (by omega) (by omega),bs,AC a1 (by omega),bs,bs,AC (by omega) (by rw[D6];omega),bs,AV (n:=i+1) (by omega) (by omega)]
  .refine List.Perm.trans ?_ a2;have q:i.toNat<l.length:=by omega
   have u:(i+r).toNat<l.length:=by omega
   have:=@List.set_set_perm _ l _ _ q u;unfold Av
   rwa [show AA l i=l[i.toNat]by grind[AA,List.getElem?_eq_getElem],show AA l (i+r)=l[(i+r).toNat]by grind[AA,List.getElem?_eq_getElem]]
 .right;rw[az (by simpa using b)]
theorem dN(h:Gf l n):FL l=some 0:=by
 have q:=h.len;unfold FL;rw[BF (fun _=>(none:a5)),Ay.2 (fun _ _ _=>rfl),Cx]
 .dsimp only;rw[BF (fun _=>(none:a5)),Ay.2 (fun _ _ _=>rfl),Cx];intro i a b _;rw[BF (fun _=>(none:a5)),Ay.2 (fun _ _ _=>rfl),Cx]
  .rfl
  .intro j f o _;rw[AC a b,bs,AC f (by omega),bs,az (by rw[decide_eq_true_iff];exact fun e=>h.ne f o (by omega) e.symm)];rfl
 .intro i a b _;have r:=h.mem.1 (AF a b);rw[AC a b,bs,az (by simp;omega),bs,bs,az (by simp;omega)];rfl
structure wc(g g':d3)(m:d4):Prop where
 nl:g'.ca.length=g.ca.length
 el:g'.ci.length=g.ci.length
 node:∀i:Int,0<=i->i<g.ca.length->AA g'.ca (AA m.ca i)=AA g.ca i
 edge:∀i:Int,0<=i->i<g.ci.length->AA g'.ci (AA m.ci i)=⟨(AA g.ci i).kl,AA m.ca (AA g.ci i).kp,AA m.ca (AA g.ci i).To⟩
variable{g:d3}
theorem Qh(a:CQ g):C4 g=some g:=by
 have:=a.ea;have:=a.ec;unfold C4;rw[Ao (by unfold AU;omega),bs,Ao (by unfold AU;omega),bs]
variable{m:d4}
theorem ij(q:CQ g)(j:Gf m.ca g.ca.length)(he:Gf m.ci g.ci.length):∃v,J3 g m=some v/\v.2=0/\wc g v.1 m:=by
 have z:=j.len;have A:=he.len;unfold J3;rw[Lc,bs,az (by simp[ER q]),az (by simp[z,A]),dN j,bs,az (by decide),dN he,bs,az (by decide),Qh q,bs];refine M7 (fun i s=>s.ci=g.ci/\s.ca.length=g.ca.length/\∀k:Int,0<=k->k<i->AA s.ca (AA m.ca k)=AA g.ca k) (by omega) ⟨rfl,rfl,fun k b r=>by omega⟩ (fun i s a f⟨a1,a2,a3⟩=>?_) (fun s⟨a1,a2,a3⟩=>?_)
 .have h:=j.mem.1 (AF a (by omega));refine⟨⟨Av s.ca (AA m.ca i) (AA g.ca i),s.ci⟩,?_,a1,by rw[D6];exact a2,fun k b r=>?_⟩
  .rw[AC a (by omega),bs,AC a f,bs,AC h.1 (by omega),bs]
  .by_cases e:k=i
   .rw[e];exact Rg _ h.1 (by omega)
   .have B:=j.mem.1 (AF b (by omega));exact(XK _ h.1 B.1 (j.ne b (by omega) f)).trans (a3 k b (by omega))
 refine M7 (fun i u=>u.ca=s.ca/\u.ci.length=g.ci.length/\∀k:Int,0<=k->k<i->AA u.ci (AA m.ci k)=⟨(AA g.ci k).kl,AA m.ca (AA g.ci k).kp,AA m.ca (AA g.ci k).To⟩) (by omega) ⟨rfl,by rw[a1],fun k b r=>by omega⟩ (fun i u a f⟨o,w,y⟩=>?_) (fun u⟨o,w,y⟩=>⟨_,rfl,rfl,by rw[o];exact a2,w,fun i a f=>by rw[o];exact a3 i a f,y⟩);have h:=he.mem.1 (AF a (by omega));have hf:=q.fit _ (AF a f);refine⟨⟨u.ca,Av u.ci (AA m.ci i) ⟨(AA g.ci i).kl,AA m.ca (AA g.ci i).kp,AA m.ca (AA g.ci i).To⟩⟩,?_,o,by rw[D6];exact w,fun k b r=>?_⟩
 .rw[AC a f,bs,AC a (by omega),bs,AC hf.2.1.1 (by omega),bs,AC hf.2.2.1 (by omega),bs,AC h.1 (by omega),bs]
 .by_cases e:k=i
  .rw[e];exact Rg _ h.1 (by omega)
  .have B:=he.mem.1 (AF b (by omega));exact(XK _ h.1 B.1 (he.ne b (by omega) f)).trans (y k b (by omega))
end Go.Sf.Sc
namespace Go.Sf.Sc
open Go Go.Sf
def qB(x:Int):Prop:=0<=x/\x<18446744073709551616
theorem vp{a b:Int}(e:qB a)(h:0<=b):∃r,FX .u64 .shr a b=some r:=by
 unfold FX;dsimp only;have f:(0:Int)<=2^ (min b.toNat IntKind.u64.bits):=Int.pow_nonneg (by omega);have j:=Int.ediv_nonneg e.1 f;have o:=Int.ediv_le_self (2^ (min b.toNat IntKind.u64.bits)) e.1;rw[Int.fdiv_eq_ediv_of_nonneg _ f,ae ⟨h,j,by have:=e.2;show _<=(18446744073709551615:Int);omega⟩];exact⟨_,rfl⟩
def marks(l:a6):Fp:=(Ag l.length).filter fun i=>AA l i
variable{i:Int}
theorem Q7{l:a6}:i∈marks l↔(0<=i/\i<l.length)/\AA l i=true:=by
 unfold marks;rw[List.mem_filter,DU]
theorem g9(l:a6):(∀x∈marks l,0<=x/\x<l.length)/\(marks l).Pairwise (·<·):=by
 refine ⟨fun x e=>(Q7.1 e).1,List.Pairwise.filter _ ?_⟩;unfold Ag;exact List.Pairwise.map _ (fun a b h=>Int.ofNat_lt.2 h) List.pairwise_lt_range
theorem al{l:a6}(j:l.length<=1000):JE l=some (marks l):=by
 unfold JE;rw[BY (a:=0) (b:=(l.length:Int)) (s:=[]) (fun i=>(Ag i.toNat).filter fun i=>AA l i) (by omega) rfl,bs,Int.toNat_natCast]
 .rfl
 .intro i f h;have o:((Ag i.toNat).filter fun i=>AA l i).length<=i.toNat:=by
   have:=List.length_filter_le (fun i=>AA l i) (Ag i.toNat)
   rwa [Ap]at this
  rw [AC f h,bs,Dx f,List.filter_append];cases e:AA l i
  .simp[e]
  .rw[ae rfl,AQ (by simp;unfold AU;omega),bs];simp[e]
variable{l:Fp}
theorem Zc{n:Int}(h:∀x∈l,0<=x/\x<n)(b:l.Pairwise (·<·)):OT l n=0:=by
 unfold OT;rw[Ay.2]
 .rfl
 intro i e a;have:=h _ (AF e a);rw[az (by omega),az];rintro⟨f,k⟩;have:=Gq b (show 0<=i-1 by omega) (show i-1<i by omega) a;omega
variable{g:d3}
theorem YY{p:BN}(h:PI g p):Mf g p=0:=by
 unfold Mf;rw[az (by simp[Zc h.ea.1 h.ea.2]),az (by simp[Zc h.ec.1 h.ec.2]),Ay.2]
 .rfl
 intro i a b;have:=h.ends _ (AF a b);rw[ae (by rw[sr,B3,B3];exact this)]
theorem pC(b:CQ g){ea ec:a6}(z:ea.length=g.ca.length)(he:ec.length=g.ci.length):∃p,MG g ea ec=some p/\PI g p:=by
 have G:=b.ea;have H:=b.ec;unfold MG;rw[Ao (by unfold AU;omega),bs];refine M7 (fun i s=>s.length=g.ca.length/\∀k:Int,0<=k->k<i->AA ec k=true->AA s (AA g.ci k).kp=true/\AA s (AA g.ci k).To=true) (by omega) ⟨z,fun k f w=>by omega⟩ (fun i s q A⟨a1,a2⟩=>?_) (fun s⟨a1,a2⟩=>?_)
 .rw[AC q A,bs];cases e:AA ec i
  .refine⟨s,rfl,a1,fun k f w o=>?_⟩;by_cases h:k=i
   .rw[h,e]at o;cases o
   .exact a2 k f (by omega) o
  .have hf:=(b.fit _ (AF (l:=g.ci) q (by omega))).2;rw[ae rfl,AC q (by omega),bs,bs,AC hf.1.1 (by omega),bs,AC hf.2.1 (by rw[D6];omega),bs];refine⟨_,rfl,by rw[D6,D6];exact a1,fun k f w o=>?_⟩;have fm:∀{x j:Int}{l:a6},0<=x->x<l.length->0<=j->AA l j=true->AA (Av l x true) j=true:=fun{x j l}x0 x1 B C=>by
    by_cases e:j=x
    .rw[e];exact Rg _ x0 x1
    .rw[XK _ x0 B e];exact C
   have a:=(b.fit _ (AF (l:=g.ci) f (by omega))).2;by_cases E:k=i
   .rw[E];exact⟨fm hf.2.1 (by rw[D6];omega) hf.1.1 (Rg _ hf.1.1 (by omega)),Rg _ hf.2.1 (by rw[D6];omega)⟩
   .obtain⟨r,u⟩:=a2 k f (by omega) o;exact⟨fm hf.2.1 (by rw[D6];omega) a.1.1 (fm hf.1.1 (by omega) a.1.1 r),fm hf.2.1 (by rw[D6];omega) a.2.1 (fm hf.1.1 (by omega) a.2.1 u)⟩
 .rw[al (by omega),bs,al (by omega),bs];have m1:=g9 s;have y:=g9 ec;rw[a1]at m1;rw[he]at y;refine⟨_,rfl,m1,y,fun x D=>?_⟩;obtain⟨⟨x0,x1⟩,F⟩:=Q7.1 D;have hf:=(b.fit _ (AF (l:=g.ci) x0 (by omega))).2;obtain⟨r,u⟩:=a2 x x0 x1 F;exact⟨Q7.2 ⟨⟨hf.1.1,by omega⟩,r⟩,Q7.2 ⟨⟨hf.2.1,by omega⟩,u⟩⟩
theorem lR(o:CQ g){set:Int}(D:qB set):∃p,Nx g set=some p/\PI g p:=by
 have H:=o.ea;have I:=o.ec;have f:∀{i:Int},0<=i->∃r q,Cf i 64=some r/\FX .u64 .shr set r=some q:=fun{i}w=>by
  obtain ⟨r,e,F,_⟩:=B4 w (show(0:Int)<64 by omega);obtain⟨q,h⟩:=vp D F;exact⟨r,q,e,h⟩
 have C:∀q:Int,∃r,FX .u64 .and q 1=some r:=fun q=>⟨_,rfl⟩;unfold Nx;rw[F9,ae (by omega),bs,F9,ae (by omega),bs];refine EA (fun i s=>0<=i/\s.length=g.ca.length) g.ca.length ⟨by omega,by simp⟩ (fun i s w⟨a1,a2⟩=>?_) (fun i s w⟨a1,a2⟩_=>?_)
 .dsimp only;by_cases a:i<s.length
  .left;obtain⟨r,q,z,h⟩:=f a1;obtain⟨b,A⟩:=C q;refine⟨by omega,Av s i (decide (b=1)),?_,by omega,by rw[D6];exact a2⟩;rw[ae (by simpa using a),z,bs,h,bs,A,bs,AC a1 a,bs,AV (by omega) (by omega)]
  .right;rw[az (by simpa using a)]
 dsimp only;refine EA (fun j u=>0<=j/\u.length=g.ci.length) g.ci.length ⟨by omega,by simp⟩ (fun j u E⟨B,y⟩=>?_) (fun j u E⟨B,y⟩_=>?_)
 .dsimp only;by_cases a:j<u.length
  .left;obtain⟨r,q,z,h⟩:=f (show 0<=(s.length:Int)+j by omega);obtain⟨b,A⟩:=C q;refine⟨by omega,Av u j (decide (b=1)),?_,by omega,by rw[D6];exact y⟩;rw[ae (by simpa using a),AV (n:=(s.length:Int)+j) (by omega) (by omega),z,bs,h,bs,A,bs,AC B a,bs,AV (by omega) (by omega)]
  .right;rw[az (by simpa using a)]
 .obtain⟨p,e,G⟩:=pC o a2 y;exact⟨p,by rw[e,bs],G⟩
end Go.Sf.Sc
namespace Go.Sf.Sc
open Go Go.Sf
variable{α:Type}{n:Nat}
theorem OP{f:α->TV}{l:List α}(h:l.length<=1000)(hf:∀x,(f x).Sm):(eL n f l).Sm:=by
 refine ⟨by rw[c8];unfold reachBytes;omega,KW.2 fun t a=>?_⟩;obtain⟨x,_,rfl⟩:=List.mem_map.1 a;exact hf x
theorem XA(x:Int):(eI x).Sm:=trivial
theorem sq(x:Bn):(Bu x).Sm:=by simp[Bu,TV.Sm,TV.zy,eI]
theorem su(x:Bw):(F3 x).Sm:=by simp[F3,TV.Sm,TV.zy,eI]
theorem sv(x:Test):(GN x).Sm:=by simp[GN,TV.Sm,TV.zy,eI]
def cN(g:d3):Prop:=g.ca.length<=1000/\g.ci.length<=1000
variable{c:d5}
theorem Zk(f:∀k∈c.fu,(AI k).Sm)(o:c.fu.length<=1000)(a:c.Map.ca.length<=1000/\c.Map.ci.length<=1000)(b:cN c.d7.d3)(e:c.d7.ed.length<=1000/\c.d7.mh.length<=1000):(AI c).Sm:=by
 refine ⟨trivial,?_,OP a.1 XA,OP a.2 XA,OP b.1 XA,OP b.2 sq,OP e.1 su,trivial,OP e.2 sv,trivial⟩;unfold Er;rw[LY];refine⟨by rw[c8];unfold reachBytes;omega,KW.2 fun t h=>?_⟩;obtain⟨x,j,rfl⟩:=List.mem_map.1 h;exact f x j
theorem jN{r:f0}(C:r.mr.size<=1000)(a:cN r.j4.d3)(b:r.j4.ed.length<=1000/\r.j4.mh.length<=1000)(e:cN r.fl.d3)(f:r.fl.ed.length<=1000/\r.fl.mh.length<=1000)(h:r.qo.ca.length<=1000/\r.qo.ci.length<=1000)(j:r.o4.ca.length<=1000/\r.o4.ci.length<=1000)(o:(AI r.d5).Sm):(BX r).Sm:=by
 obtain ⟨q,u,w,c4,c5,y,z,A,B,_⟩:=o;exact⟨by show r.mr.size<=reachBytes;unfold reachBytes;omega,OP a.1 XA,OP a.2 sq,OP b.1 su,trivial,OP b.2 sv,OP e.1 XA,OP e.2 sq,OP f.1 su,trivial,OP f.2 sv,OP h.1 XA,OP h.2 XA,OP j.1 XA,OP j.2 XA,trivial,q,u,w,c4,c5,y,z,A,B,trivial⟩
variable{t:eb}
theorem EN.sm(h:EN t):(AJ t).Sm:=by
 have hf:=h.few;refine⟨⟨by rw[c8];have:=hf.ea;unfold reachBytes;omega,KW.2 fun x b=>?_⟩,⟨by rw[c8];have:=hf.ec;unfold reachBytes;omega,KW.2 fun x b=>?_⟩,trivial⟩
 .obtain⟨n,j,rfl⟩:=List.mem_map.1 b;have w:=hf.name n j;have A:=hf.Aag n j;refine⟨by show n.mr.size<=reachBytes;unfold reachBytes;omega,trivial,trivial,⟨by rw[c8];unfold reachBytes;omega,KW.2 fun y o=>?_⟩,trivial⟩;obtain⟨a,r,rfl⟩:=List.mem_map.1 o;have f:=hf.each n j a r;refine⟨by show a.mr.size<=reachBytes;have:=f.name;unfold reachBytes;omega,trivial,trivial,⟨by rw[c8];have:=f.names;unfold reachBytes;omega,KW.2 fun z q=>?_⟩,trivial⟩;obtain⟨s,u,rfl⟩:=List.mem_map.1 q;show s.size<=reachBytes;have:=f.each s u;unfold reachBytes;omega
 .obtain⟨e,he,rfl⟩:=List.mem_map.1 b;have:=hf.AaS e he;exact⟨by show e.mr.size<=reachBytes;unfold reachBytes;omega,trivial,trivial,trivial,trivial,trivial,trivial,trivial⟩
structure U6(t:eb)(g:d3):Prop where
 ok:CQ g
 kind:∀n∈g.ca,0<=n/\n<t.ca.length
 et:∀e∈g.ci,e.kl<t.ci.length
variable{g:d3}
theorem Qr.okG(a:EN t)(h:Qr t g):U6 t g:=⟨(h.ok a).1,h.kind,fun e he=>(h.fit e he).1.2⟩
theorem lJ{p:BN}(h:U6 t g)(a:PI g p):U6 t (Cg g p)/\p.ca.length<=g.ca.length/\p.ci.length<=g.ci.length:=by
 have l1:=cP a.ea.1 a.ea.2;have l2:=cP a.ec.1 a.ec.2;have q:=h.ok.ea;have r:=h.ok.ec;refine⟨⟨⟨by simp[Cg];omega,by simp[Cg];omega,fun n f=>?_,fun e he=>?_⟩,fun n f=>?_,fun e he=>?_⟩,l1,l2⟩
 .obtain⟨x,b,rfl⟩:=List.mem_map.1 f;exact h.ok.kind _ (AF (a.ea.1 x b).1 (a.ea.1 x b).2)
 .obtain⟨x,b,rfl⟩:=List.mem_map.1 he;have hf:=h.ok.fit _ (AF (a.ec.1 x b).1 (a.ec.1 x b).2);have j:=G2 (a.ends x b).1;have o:=G2 (a.ends x b).2;simp only[Cg,c8];exact⟨hf.1,⟨j.1,j.2.1⟩,o.1,o.2.1⟩
 .obtain⟨x,b,rfl⟩:=List.mem_map.1 f;exact h.kind _ (AF (a.ea.1 x b).1 (a.ea.1 x b).2)
 .obtain⟨x,b,rfl⟩:=List.mem_map.1 he;have:=h.et _ (AF (a.ec.1 x b).1 (a.ec.1 x b).2);exact this
def Ot(t:eb):Fp:=(Ag t.ca.length).filter fun i=>!(AA t.ca i).tc
variable{i:Int}
theorem OV:i∈Ot t↔(0<=i/\i<t.ca.length)/\(AA t.ca i).tc=false:=by
 unfold Ot;rw[List.mem_filter,DU];simp
theorem Xw(h:t.ca.length<=1000):nd (fun(f:Int)(q:Fp)=>
 (idx t.ca f).bind fun j=>
 if (!j.tc)=true then
 (AT q [f]).bind fun o=>
 some o
 else
 some q) 0 (t.ca.length:Int) []=some (Ot t):=by
 rw [BY (a:=0) (b:=(t.ca.length:Int)) (s:=[]) (fun i=>(Ag i.toNat).filter fun i=>!(AA t.ca i).tc) (by omega) rfl,Int.toNat_natCast]
 .rfl
 .intro i f r;have u:((Ag i.toNat).filter fun i=>!(AA t.ca i).tc).length<=i.toNat:=by
   have:=List.length_filter_le (fun i=>!(AA t.ca i).tc) (Ag i.toNat)
   rwa [Ap]at this
  rw [AC f r,bs,Dx f,List.filter_append];cases e:(AA t.ca i).tc
  .rw[ae (show(!false)=true from rfl),AQ (by simp;unfold AU;omega),bs];simp[e]
  .simp[e]
def nE(t:eb)(k g:d3):Prop:=∃xs ys,g=⟨k.ca++xs,k.ci++ys⟩/\xs.length<=2/\ys.length<=2/\(∀x∈xs,x∈Ot t)/\∀e∈ys,Tg t g.ca.length e/\Ow t e.kl (AA g.ca e.kp) (AA g.ca e.To)=true
variable{k:d3}{d:Eu}
theorem pJ(B:EN t)(y:U6 t k)(G:∀x∈d.ca,U8 x)(he:∀x∈d.ci,U3 x):∃g,MP t k d=some g/\nE t k g:=by
 have Q:=y.ok.ea;have R:=y.ok.ec;have K:=B.ea;unfold MP Ll;rw[Qh y.ok,bs,Xw (by omega),bs,bs];refine EA (fun i s=>(0<=i/\i<=2)/\∃xs:Fp,s=⟨k.ca++xs,k.ci⟩/\(xs.length:Int)<=i/\∀x∈xs,x∈Ot t) 2 ⟨by omega,[],by simp,by simp,fun x a=>by cases a⟩ (fun i s H⟨a1,xs,a2,a3,z⟩=>?_) (fun i s H⟨a1,xs,a2,a3,z⟩_=>?_)
 .dsimp only;by_cases b:(i<d.ca.length/\i<2)/\0<((Ot t).length:Int)
  .left;have a:=G _ (AF a1.1 b.1.1);obtain⟨r,e,h,f⟩:=B4 (show 0<=AG (AA d.ca i)by rw[a.w];exact a.1) b.2;refine⟨by omega,⟨k.ca++(xs++[AA (Ot t) r]),k.ci⟩,?_,by omega,_,rfl,by simp;omega,fun x a=>(List.mem_append.1 a).elim (z x) fun a=>List.mem_singleton.1 a▸AF h f⟩;rw[ae (by simpa using b),AC a1.1 b.1.1,bs,e,bs,AC h f,bs,a2,AQ (by simp;unfold AU;omega),bs,AV (n:=i+1) (by omega) (by omega),c9]
  .right;rw[az (by simpa using b)]
 subst a2;dsimp only;refine EA (fun j u=>(0<=j/\j<=2)/\∃ys:List Bn,u=⟨k.ca++xs,k.ci++ys⟩/\(ys.length:Int)<=j/\∀e∈ys,Tg t (k.ca++xs).length e/\Ow t e.kl (AA (k.ca++xs) e.kp) (AA (k.ca++xs) e.To)=true) 2 ⟨by omega,[],by simp,by simp,fun x a=>by cases a⟩ (fun j u I⟨h,ys,f,J,q⟩=>?_) (fun j u I⟨h,ys,f,J,q⟩_=>⟨u,rfl,xs,ys,f,by omega,by omega,z,by rw[f];exact q⟩);dsimp only;by_cases b:((j<d.ci.length/\j<2)/\0<((k.ca++xs).length:Int))/\0<(t.ci.length:Int)
 .left;have a:=he _ (AF h.1 b.1.1.1);obtain⟨r,L,M,N⟩:=B4 (show 0<=AG (AA d.ci j).a0 by rw[a.1.w];exact a.1.1) b.2;obtain⟨S,O,C,D⟩:=B4 (show 0<=AG (AA d.ci j).a1 by rw[a.2.1.w];exact a.2.1.1) b.1.2;obtain⟨T,P,E,F⟩:=B4 (show 0<=AG (AA d.ci j).a2 by rw[a.2.2.w];exact a.2.2.1) b.1.2;refine⟨by omega,?_⟩;rw[ae (by simpa using b),AC h.1 b.1.1.1,bs,L,bs,bs,O,bs,bs,P,bs,f];dsimp only;rw[AC C D,bs,AC E F,bs,Ww B.few,bs,AV (n:=j+1) (by omega) (by omega)];split
  .rename_i o;rw[AQ (by simp;unfold AU;omega),bs,c9];exact⟨_,rfl,by omega,_,rfl,by simp;omega,fun e A=>(List.mem_append.1 A).elim (q e) fun A=>by
    rw [List.mem_singleton.1 A];exact⟨⟨⟨M,N⟩,⟨C,D⟩,E,F⟩,o⟩⟩
  .exact⟨_,rfl,by omega,ys,rfl,by omega,q⟩
 .right;rw[f,az (by simpa using b)]
theorem cc{β σ:Type}{X:Option β}{mk:σ->β}{I:σ->Prop}(h:∃r,X=some r/\∃s',r=mk s'/\I s'):∃s',X=some (mk s')/\I s':=by
 obtain ⟨_,e,s',rfl,hi⟩:=h;exact⟨s',e,hi⟩
def ZU(t:eb)(g:d3)(v:Int)(l:List Bw):Prop:=l.length<=3/\(∀s∈l,Py t g v s)/\∀i j:Int,0<=j->j<i->i<l.length->¬((AA l j).pc=(AA l i).pc/\(AA l j).kq=(AA l i).kq)
variable{v:Int}
theorem pS(J:EN t)(Y:g.ca.length<=100)(hv:0<=v/\v<=3){l:List Iw}(K:∀x∈l,U3 x):∃s,MR t g v l=some s/\ZU t g v s:=by
 unfold MR;refine EA (fun i s=>(0<=i/\i<=3)/\(s.length:Int)<=i/\(∀x∈s,Py t g v x)/\∀i j:Int,0<=j->j<i->i<s.length->¬((AA s j).pc=(AA s i).pc/\(AA s j).kq=(AA s i).kq)) 3 ⟨by omega,by simp,(fun x a=>by cases a),fun i j f B C=>by simp at C;omega⟩ (fun i s L⟨a1,a2,a3,o⟩=>?_) (fun i s L⟨a1,a2,a3,o⟩_=>⟨s,rfl,by omega,a3,o⟩);dsimp only;by_cases A:(i<l.length/\i<3)/\0<(g.ca.length:Int)
 .left;have a:=K _ (AF a1.1 A.1.1);obtain⟨r,R,H,I⟩:=B4 (show 0<=AG (AA l i).a0 by rw[a.1.w];exact a.1.1) A.2;refine⟨by omega,?_⟩;rw[ae (by simpa using A),AC a1.1 A.1.1,bs,R,bs,AC H I,bs,NE J.few,bs,AV (n:=i+1) (by omega) (by omega)];by_cases G:((Ea t (AA g.ca r)).1.length:Int)=0
  .rw[ae (by simpa using G)];exact⟨s,rfl,by omega,by omega,a3,o⟩
  obtain ⟨q,S,T,U⟩:=B4 (show 0<=AG (AA l i).a1 by rw[a.2.1.w];exact a.2.1.1) (show 0<((Ea t (AA g.ca r)).1.length:Int)by omega);obtain⟨u,V,d1,d2⟩:=Xi a.2.1.1 (show(0:Int)<16 by omega);have Z:=nw u;obtain⟨y,W,f1,f2⟩:=B4 (show 0<=AG (IntKind.u8.wrap u)by rw[AV (by omega) (by omega)];omega) (show 0<v+1 by omega);obtain⟨z,X,g1,g2⟩:=B4 (show 0<=AG (AA l i).a2 by rw[a.2.2.w];exact a.2.2.1) (show(0:Int)<3 by omega);rw[az (by simpa using G),bs,S,bs,bs,V,bs,AV (n:=v+1) (by omega) (by omega),W,bs,bs,X,bs,AV (n:=y-1) (by omega) (by omega)];refine cc (mk:=fun s'=>Bf.next (s',i+1)) (M7 (fun(k:Int)(b:Bool)=>b=false->∀j:Int,0<=j->j<k->¬((AA s j).pc=r/\(AA s j).kq=q)) (by omega) (fun _ j f B=>by omega) (fun k b M N D=>?_) (fun b D=>?_))
  .cases b
   .rw[az (by decide),AC M N,bs,bs];have old:∀{P:Prop},(P->False)->((AA s k).pc=r/\(AA s k).kq=q->P)->∀j:Int,0<=j->j<k+1->¬((AA s j).pc=r/\(AA s j).kq=q):=fun{P}O Q j f B F=>by
     by_cases e:j=k
     .exact O (Q (e▸F))
     .exact D rfl j f (by omega) F
    by_cases E:(AA s k).pc=r
    .rw[ae (by simpa using E),bs,bs];exact⟨_,rfl,fun h=>old (P:=(AA s k).kq=q) (by simpa using h) And.right⟩
    .rw[az (by simpa using E),bs,bs];exact⟨_,rfl,fun _=>old (P:=(AA s k).pc=r) E And.left⟩
   .exact⟨true,rfl,fun h=>by cases h⟩
  .cases b
   .rw[ae (by decide),AQ (by simp;unfold AU;omega),bs];refine⟨_,rfl,_,rfl,by omega,by simp;omega,fun x a=>(List.mem_append.1 a).elim (a3 x) fun a=>?_,fun i j f B C=>?_⟩
    .rw[List.mem_singleton.1 a];exact⟨⟨⟨H,I⟩,T,U⟩,by simp only;omega,by simp only;omega⟩
    .simp at C;rw[Kq _ _ f (by omega)];by_cases e:i=s.length
     .rw[LT _ _ e];exact D rfl j f (by omega)
     .rw[Kq _ _ (by omega) (by omega)];exact o i j f B (by omega)
   .rw[az (by decide)];exact⟨_,rfl,_,rfl,by omega,by omega,a3,o⟩
 .right;rw[az (by simpa using A)]
end Go.Sf.Sc
namespace Go.Sf.Sc
open Go Go.Sf
variable{m:d4}
theorem aH{a b:d3}(h:SE a b m):HH a b m=0:=by
 unfold HH;rw[az (by simp[ER h.ga]),az (by simp[ER h.gb]),az (by simp[h.yW,h.zb]),Ay.2]
 .dsimp only;rw[Ay.2]
  .rfl
  intro i e f;obtain⟨o,j,q,r⟩:=h.edge i e f;unfold FY;rw[az (by omega),az (by simp[j]),az (by simp[q,r])]
 .intro i e f;obtain⟨o,j⟩:=h.node i e f;unfold Ky;rw[az (by omega),az (by simp[j])]
theorem Xn(n:Nat):(Ag n).Nodup:=by
 unfold Ag;exact List.Pairwise.map _ (fun a b h e=>h (Int.ofNat.inj e)) List.nodup_range
theorem rF(g:d3):HF (OO g)=true:=by
 unfold HF OO;rw[Jd.2 (Xn _),Jd.2 (Xn _)];rfl
def Ta:d5:=⟨1,[],⟨[],[]⟩,⟨⟨[],[]⟩,[],0,[]⟩⟩
variable{t:eb}{p:d7}
theorem Tv(h:EK t p=0):H8 t p Ta=0:=by
 obtain ⟨n,a⟩:∃n,SizeOf.sizeOf Ta=n+1:=⟨SizeOf.sizeOf Ta-1,by have:=DO Ta;omega⟩;have b:LK Ta=0:=by
  unfold LK dg Uq;rw[a];rfl
 unfold H8;rw[az (by simp[h]),az (by simp[b]),a];rfl
theorem XH:(AI Ta).Sm:=Zk (fun k a=>by cases a) (by decide) (by decide) (by unfold cN;decide) (by decide)
def Nb(g:d3)(v:Int)(k:d3):d5:=⟨2,[⟨5,[Ta],OO g,⟨k,[],v,[]⟩⟩],⟨[],[]⟩,⟨⟨[],[]⟩,[],0,[]⟩⟩
variable{k:d3}
theorem Xx(hv:(As t).2=0)(h:EK t p=0)(j:U6 t k){xs:Fp}{ys:List Bn}(o:k.ca=p.d3.ca++xs)(he:k.ci=p.d3.ci++ys):H8 t p (Nb p.d3 p.fd k)=0:=by
 have f:=Ve hv (.inl h);obtain⟨w,_⟩:=aZ h;have u:k.ca.length=p.d3.ca.length+xs.length:=by rw[o,bk]
 have r:k.ci.length=p.d3.ci.length+ys.length:=by rw[he,bk]
 have inn:RS t ⟨k,[],p.fd,[]⟩ p.fd=0:=by
  have q:EK t ⟨k,[],p.fd,[]⟩=0\/EK t ⟨k,[],p.fd,[]⟩=9:=by
   unfold EK;rw[az (by simp[hv]),az (by simp[ER j.ok]),az (by simp[TO (fun n o=>(j.kind n o).2) j.et]),az (by simp only;omega),az (by simp),az (by simp),az (by simp[Sx f.1 f.2])];split
   .exact .inr rfl
   .exact .inl rfl
  unfold RS;rcases q with q|q
  .rw[ae (by omega),q]
  .rw[az (by omega),az];rw[CM];rintro⟨i,b,a,_⟩;exact absurd a (by simp only;omega)
 have mor:HH p.d3 k (OO p.d3)=0:=by
  refine aH ⟨w,j.ok,Ap _,Ap _,fun i b a=>?_,fun i b a=>?_⟩
  .simp only[OO,Ap]at a|-;rw[TP _ b a,o];exact⟨⟨b,by simp;omega⟩,Hm b a⟩
  .simp only[OO,Ap]at a|-;have hf:=(w.fit _ (AF b a)).2;rw[TP _ b a,he,Hm b a,TP _ hf.1.1 hf.1.2,TP _ hf.2.1 hf.2.2];exact⟨⟨b,by simp;omega⟩,rfl,rfl,rfl⟩
 have y:=D7 (c:=Nb p.d3 p.fd k) (List.mem_singleton.2 rfl);have s2:=D7 (c:=⟨5,[Ta],OO p.d3,⟨k,[],p.fd,[]⟩⟩) (List.mem_singleton.2 rfl);have z:=DO Ta;obtain⟨n,e⟩:∃n,SizeOf.sizeOf (Nb p.d3 p.fd k)=n+3:=⟨SizeOf.sizeOf (Nb p.d3 p.fd k)-3,by omega⟩;have sh:LK (Nb p.d3 p.fd k)=0:=by
  unfold LK dg Uq;rw[e];rfl
 unfold H8;rw[az (by simp[h]),az (by simp[sh]),e,Hj,az (show¬(Nb p.d3 p.fd k).ll=5 from(by decide:¬(2:Int)=5)),Ay.2]
 .rfl
 intro i b a;obtain rfl:i=0:=by
  have:i<1:=a;omega
 refine FK.2 ?_;show Hj (n+2) t p ⟨5,[Ta],OO p.d3,⟨k,[],p.fd,[]⟩⟩=0;rw[Hj,ae rfl,az (Int.lt_irrefl _),az (by simp[inn]),az (by simp[mor]),az (by simp[rF]),Ay.2]
 .rfl
 intro i b a;obtain rfl:i=0:=by
  have:i<1:=a;omega
 refine FK.2 ?_;show Hj (n+1) t ⟨k,[],p.fd,[]⟩ Ta=0;rfl
theorem lf(h:EN t)(z:dr t p){x:Uh}(F:U8 x.a0)(o:U8 x.a1)(A:U8 x.a2)(B:U8 x.a3):∃c,LC t p x=some c/\H8 t p c=0/\(AI c).Sm:=by
 have q:=z.zero h;have j:=z.g;have ho:=j.ok h;have K:=j.ea;have H:=j.ec;have L:=h.ea;have M:=h.ec;have tp:=h.pos;obtain⟨r,e,N,O⟩:=B4 F.1 (show(0:Int)<4 by omega);have sm:∀k:d3,cN k->(AI (Nb p.d3 p.fd k)).Sm:=fun k G=>by
  refine Zk (fun c u=>?_) (by simp[Nb]) (by simp[Nb]) (by unfold cN;simp[Nb]) (by simp[Nb]);rw[List.mem_singleton.1 u];refine Zk (fun c u=>?_) (by simp) ⟨by simp[OO,Ap];omega,by simp[OO,Ap];omega⟩ G (by simp);rw[List.mem_singleton.1 u];exact XH
 unfold LC;rw[Qh ho.1,bs,e,bs];by_cases C:r=1
 .obtain⟨a,y,a0,a1⟩:=B4 (show 0<=AG x.a1 by rw[o.w];exact o.1) (show 0<(t.ca.length:Int)by omega);rw[ae (by simpa using C),y,bs,AQ (by simp;unfold AU;omega),bs,lj (ER ho.1),bs,bs];refine⟨_,rfl,Xx h.zero q (xs:=[a]) (ys:=[]) ⟨⟨by simp;omega,by simp only;omega,fun n f=>?_,fun e he=>?_⟩,fun n f=>?_,fun e he=>(j.fit e he).1.2⟩ rfl (List.append_nil _).symm,sm _ ⟨by simp;omega,by simp only;omega⟩⟩
  .rcases List.mem_append.1 f with f|f
   .exact ho.1.kind n f
   .rw[List.mem_singleton.1 f];omega
  .have:=ho.1.fit e he;simp only[bk,List.length_singleton];omega
  .rcases List.mem_append.1 f with f|f
   .exact j.kind n f
   .rw[List.mem_singleton.1 f];exact⟨a0,a1⟩
 rw [az (by simpa using C)];by_cases D:r=2
 .rw[ae (by simpa using D)];by_cases E:(p.d3.ca.length:Int)=0\/(t.ci.length:Int)=0
  .rw[ae (by simpa using E)];exact⟨_,rfl,Tv q,XH⟩
  .obtain⟨a,y,a0,a1⟩:=B4 (show 0<=AG x.a1 by rw[o.w];exact o.1) (show 0<(t.ci.length:Int)by omega);obtain⟨b,I,P,Q⟩:=B4 (show 0<=AG x.a2 by rw[A.w];exact A.1) (show 0<(p.d3.ca.length:Int)by omega);obtain⟨c,J,R,S⟩:=B4 (show 0<=AG x.a3 by rw[B.w];exact B.1) (show 0<(p.d3.ca.length:Int)by omega);rw[az (by simpa using E),y,bs,I,bs,J,bs,AQ (by simp;unfold AU;omega),bs,lj (ER ho.1),bs,bs];refine⟨_,rfl,Xx h.zero q (xs:=[]) (ys:=[⟨a,b,c⟩]) ⟨⟨by simp only;omega,by simp;omega,ho.1.kind,fun e he=>?_⟩,j.kind,fun e he=>?_⟩ (List.append_nil _).symm rfl,sm _ ⟨by simp only;omega,by simp;omega⟩⟩
   .rcases List.mem_append.1 he with he|he
    .exact ho.1.fit e he
    .rw[List.mem_singleton.1 he];simp only;omega
   .rcases List.mem_append.1 he with he|he
    .exact(j.fit e he).1.2
    .rw[List.mem_singleton.1 he];exact a1
 .rw[az (by simpa using D)];exact⟨_,rfl,Tv q,XH⟩
end Go.Sf.Sc
namespace Go.Sf.Sc
open Go Go.Sf
variable{t:eb}{g:d3}{v i:Int}
theorem fW{l:List Bw}(h:ZU t g v l)(b:0<=i)(a:i<l.length):Mn t ⟨g,l,v,[]⟩ i=0:=by
 obtain ⟨⟨a1,a2⟩,a3,q⟩:=h.2.1 _ (AF b a);unfold Mn;dsimp only;rw[az (by omega),az,az]
 .rw[CM];rintro⟨j,f,o,e⟩;simp at e;exact h.2.2 i j f o a e
 .simp;omega
variable{c:d5}
theorem Yo(hv:(As t).2=0){L:d7}(h:EK t L=0)(a:U6 t g){sl:List Bw}(j:ZU t g L.fd sl){fm:BN}(o:PI L.d3 fm){into:d4}(q:SE (Cg L.d3 fm) g into)(hi:HF into=true){b:Bool}(r:H8 t L c=0)
  (e:UC t g (A2 into.ca g.ca.length) (A2 into.ci g.ci.length)=true):DZ t ⟨(⟨#[114]⟩:ByteArray),L,⟨g,sl,L.fd,[]⟩,fm,into,b,c⟩=0:=by
 have A:=j.1;have z:IM t ⟨(⟨#[114]⟩:ByteArray),L,⟨g,sl,L.fd,[]⟩,fm,into,b,c⟩=0:=by
  unfold IM;dsimp only;rw[az (by simp[ER a.ok]),az (by simp[TO (fun n u=>(a.kind n u).2) a.et]),az (by simp),az (by omega),Ay.2 (fun i w y=>FK.2 (fW j w y))];rfl
 have f:Ox ⟨(⟨#[114]⟩:ByteArray),L,⟨g,sl,L.fd,[]⟩,fm,into,b,c⟩=0:=by
  have:Dg L.d3 fm=0:=by
   unfold Dg;rw[az (by simp[ER (aZ h).1]),YY o]
  unfold Ox;dsimp only;rw[az (by simp[this]),az (by simp[aH q]),az (by simp[hi])]
 unfold DZ;rw[az (by simp[hv]),az (show¬DY (⟨#[114]⟩:ByteArray)=false by decide),az (by simp[h]),az (by simp[z]),az (by simp[f]),az,r];rw[Bool.not_eq_false];exact e
structure ZT(d:Eu):Prop where
 left:gH d.j4
 fm:qB d.qo
 ea:∀x∈d.ca,U8 x
 ec:∀x∈d.ci,U3 x
 slots:∀x∈d.ed,U3 x
 Aai:(U8 d.yY.a0/\U8 d.yY.a1)/\U8 d.yY.a2/\U8 d.yY.a3
 order:∀x∈d.Aao,U8 x
variable{l:Fp}{n:Nat}{x:Int}
theorem Gf.at(h:Gf l n)(x0:0<=x)(x1:x<n):∃i:Int,(0<=i/\i<n)/\AA l i=x:=by
 obtain ⟨i,a,b,e⟩:=BR (h.mem.2 ⟨x0,x1⟩);exact⟨i,⟨a,by have:=h.len;omega⟩,e⟩
theorem Gf.inn(h:Gf l n)(a:0<=i)(b:i<n):0<=AA l i/\AA l i<n:=h.mem.1 (AF a (by have:=h.len;omega))
variable{k:d3}
theorem gu(b:U6 t k)(j:k.ca.length<=30)(o:k.ci.length<=60)(h:nE t k g)(he:t.ci.length<=90)(a:t.ca.length<=90):U6 t g:=by
 obtain ⟨xs,ys,rfl,a1,a2,a3,f⟩:=h;simp only at f;refine⟨⟨by simp;omega,by simp;omega,fun n a=>?_,fun e he=>?_⟩,fun n a=>?_,fun e he=>?_⟩
 .rcases List.mem_append.1 a with a|a
  .exact b.ok.kind n a
  .have:=(OV.1 (a3 n a)).1;omega
 .rcases List.mem_append.1 he with he|he
  .have:=b.ok.fit e he;simp only[bk];omega
  .have:=(f e he).1;unfold Tg at this;dsimp only at this|-;omega
 .rcases List.mem_append.1 a with a|a
  .exact b.kind n a
  .exact(OV.1 (a3 n a)).1
 .rcases List.mem_append.1 he with he|he
  .exact b.et e he
  .exact(f e he).1.1.2
variable{m:d4}
theorem pV{g q:d3}(o:U6 t g)(r:Gf m.ca g.ca.length)(he:Gf m.ci g.ci.length)(h:wc g q m):U6 t q:=by
 have y:∀n∈q.ca,n∈g.ca:=fun n a=>by
  obtain ⟨j,u,w,rfl⟩:=BR a;obtain⟨i,⟨b,f⟩,rfl⟩:=r.at u (by rw[<-h.nl];exact w);rw[h.node i b f];exact AF b f
 have z:∀e∈q.ci,∃i:Int,(0<=i/\i<g.ci.length)/\e=⟨(AA g.ci i).kl,AA m.ca (AA g.ci i).kp,AA m.ca (AA g.ci i).To⟩:=fun e a=>by
  obtain ⟨j,u,w,rfl⟩:=BR a;obtain⟨i,⟨b,f⟩,rfl⟩:=he.at u (by rw[<-h.el];exact w);exact⟨i,⟨b,f⟩,h.edge i b f⟩
 refine ⟨⟨by rw[h.nl];exact o.ok.ea,by rw[h.el];exact o.ok.ec,fun n a=>o.ok.kind n (y n a),fun e a=>?_⟩,fun n a=>o.kind n (y n a),fun e a=>?_⟩
 .obtain⟨i,⟨b,f⟩,rfl⟩:=z e a;have hf:=o.ok.fit _ (AF b f);rw[h.nl];exact⟨hf.1,r.inn hf.2.1.1 hf.2.1.2,r.inn hf.2.2.1 hf.2.2.2⟩
 .obtain⟨i,⟨b,f⟩,rfl⟩:=z e a;have:=o.et _ (AF b f);exact this
theorem QX(a:0<=i)(b:i<n)(e:n<=l.length):AA (l.take n) i=AA l i:=by
 conv=>rhs;rw[<-List.take_append_drop n l]
 exact (Hm a (by rw[cE];omega)).symm
variable{d:Eu}
theorem lV(w:EN t)(hd:ZT d):∃r,N5 t d=some r/\DZ t r=0/\(BX r).Sm:=by
 have hv:=w.zero;have n5:=w.ec;have n6:=w.ea;obtain⟨p,e1,y⟩:=ii w hd.left;have V:=y.zero w;have H:=y.g.okG w;have g8:=y.g.ea;have W:=y.g.ec;obtain⟨fm,e2,A⟩:=lR H.ok hd.fm;obtain⟨I,k1,k2⟩:=lJ H A;have X:(Cg p.d3 fm).ca.length=fm.ca.length:=by simp[Cg]
 have Y:(Cg p.d3 fm).ci.length=fm.ci.length:=by simp[Cg]
 obtain ⟨g,e3,T⟩:=pJ w I hd.ea hd.ec;have u:=gu I (by omega) (by omega) T (by omega) (by omega);obtain⟨J,e4,o⟩:=Yd (n:=g.ca.length) (by have:=u.ok.ea;omega) hd.order;obtain⟨es,e5,q⟩:=Yd (n:=g.ci.length) (by have:=u.ok.ec;omega) hd.order;obtain⟨v,e6,e7,a⟩:=ij (m:=⟨J,es⟩) u.ok o q;have hO:=pV u o q a;obtain⟨sl,e8,F⟩:=pS w (g:=v.1) (by have:=hO.ok.ea;omega) y.vars hd.slots;obtain⟨c,e9,hc,M⟩:=lf w y hd.Aai.1.1 hd.Aai.1.2 hd.Aai.2.1 hd.Aai.2.2;have Z:=o.len;have les:=q.len;obtain⟨xs,ys,G,x2,y2,N,O⟩:=T;have K:g.ca=(Cg p.d3 fm).ca++xs:=by rw[G]
 have ge:g.ci=(Cg p.d3 fm).ci++ys:=by rw[G]
 have gnl:g.ca.length=(Cg p.d3 fm).ca.length+xs.length:=by rw[K,bk]
 have gel:g.ci.length=(Cg p.d3 fm).ci.length+ys.length:=by rw[ge,bk]
 have R:SE (Cg p.d3 fm) v.1 ⟨J.take (Cg p.d3 fm).ca.length,es.take (Cg p.d3 fm).ci.length⟩:=by
  refine ⟨I.ok,hO.ok,by simp;omega,by simp;omega,fun i b f=>?_,fun i b f=>?_⟩
  .simp only[cE]at f|-;rw[QX b (by omega) (by omega),a.nl];refine⟨o.inn b (by omega),(a.node i b (by omega)).trans ?_⟩;rw[K];exact Hm b (by omega)
  .simp only[cE]at f|-;have hf:=(I.ok.fit _ (AF (l:=(Cg p.d3 fm).ci) b (by omega))).2;rw[QX b (by omega) (by omega),a.el,QX hf.1.1 hf.1.2 (by omega),QX hf.2.1 hf.2.2 (by omega),a.edge i b (by omega)];refine⟨q.inn b (by omega),?_⟩;rw[ge,Hm b (by omega)];exact⟨rfl,rfl,rfl⟩
 have B:∀{l:Fp}{n:Nat},Gf l n->l.Nodup:=fun h=>h.nodup_iff.2 (Xn _);have hi:HF ⟨J.take (Cg p.d3 fm).ca.length,es.take (Cg p.d3 fm).ci.length⟩=true:=by
  unfold HF;rw[Jd.2 ((B o).sublist (List.take_sublist _ _)),Jd.2 ((B q).sublist (List.take_sublist _ _))];rfl
 have out:∀{l:Fp}{n:Nat}{k:Nat}{x:Int},Gf l n->k<=n->x∈A2 (l.take k) n->∃i:Int,((k:Int)<=i/\i<n)/\AA l i=x:=fun{l n k x}h A z=>by
  have C:=Gx z;obtain⟨i,⟨b,f⟩,e⟩:=h.at C.1 C.2;refine⟨i,⟨?_,f⟩,e⟩;have S:hasB (l.take k) x=false:=by
   unfold A2 at z;rw[List.mem_filter]at z;simpa using z.2
  rcases Int.lt_or_le i k with P|Q
  .have hl:=h.len;have h3:x∈l.take k:=by
    rw [<-e,<-QX b P (by omega)];exact AF b (by rw[cE];omega)
   rw [B3.2 h3]at S;cases S
  .exact Q
 have D:UC t v.1 (A2 (J.take (Cg p.d3 fm).ca.length) v.1.ca.length) (A2 (es.take (Cg p.d3 fm).ci.length) v.1.ci.length)=true:=by
  unfold UC;rw[a.nl,a.el,sr,Bool.not_eq_true',Bool.not_eq_true',List.any_eq_false,List.any_eq_false];refine⟨fun x z=>?_,fun x z=>?_⟩
  .obtain⟨i,⟨b,f⟩,rfl⟩:=out o (by omega) z;rw[a.node i (by omega) f,K];obtain⟨j,rfl⟩:∃j:Nat,i=(Cg p.d3 fm).ca.length+j:=⟨(i-(Cg p.d3 fm).ca.length).toNat,by omega⟩;rw[Zd,(OV.1 (N _ (AF (by omega) (by omega)))).2];decide
  .obtain⟨i,⟨b,f⟩,rfl⟩:=out q (by omega) z;unfold Jf;have hf:=(u.ok.fit _ (AF (l:=g.ci) (i:=i) (by omega) f)).2;rw[a.edge i (by omega) f];dsimp only;rw[a.node _ hf.1.1 hf.1.2,a.node _ hf.2.1 hf.2.2,ge];obtain⟨j,rfl⟩:∃j:Nat,i=(Cg p.d3 fm).ci.length+j:=⟨(i-(Cg p.d3 fm).ci.length).toNat,by omega⟩;rw[Zd,(O _ (AF (by omega) (by omega))).2];decide
 have E:EK t ⟨p.d3,[],0,[]⟩=0:=by
  have C:=y.g.ok w;unfold EK;rw[az (by simp[hv]),az (by simp[ER C.1]),az (by simp[C.2]),az (by simp only;omega),az (by simp),az (by simp),az (by simp[Sx (n:=0) (l:=[])]),az];rw[CM];rintro⟨i,b,f,_⟩;exact absurd f (by simp only;omega)
 unfold N5;rw[e1,bs,e2,bs,UP ⟨by omega,by omega⟩,bs,az (by unfold Dg;simp[ER H.ok,YY A])];dsimp only;rw[e3,bs,e4,bs,e5,bs,e6,bs,DT (by omega) (by omega),bs,DT (by omega) (by omega),bs,e8,bs,e9,bs];split
 .unfold PA;dsimp only;rw[Qh H.ok,bs,Qh hO.ok,bs,Ao (by unfold AU;omega),bs,Ao (by unfold AU;omega),bs,Ao (by simp;unfold AU;omega),bs,Ao (by simp;unfold AU;omega),bs,bs];exact⟨_,rfl,Yo (L:=⟨p.d3,[],0,[]⟩) (sl:=[]) (c:=Ta) hv E hO ⟨by simp,(fun s U=>by cases U),fun i j j0 j1 f=>by simp at f;omega⟩ A R hi (Tv E) D,jN (show 1<=1000 by omega) ⟨by simp only;omega,by simp only;omega⟩ (by simp) ⟨by have:=hO.ok.ea;simp only;omega,by have:=hO.ok.ec;simp only;omega⟩ (by simp) ⟨by simp only;omega,by simp only;omega⟩ ⟨by simp;omega,by simp;omega⟩ XH⟩
 .exact⟨_,rfl,Yo hv V hO F A R hi hc D,jN (show 1<=1000 by omega) ⟨by simp only;omega,by simp only;omega⟩ ⟨by have:=y.slots;simp only;omega,by have:=y.tests;simp only;omega⟩ ⟨by have:=hO.ok.ea;simp only;omega,by have:=hO.ok.ec;simp only;omega⟩ ⟨by have:=F.1;simp only;omega,by simp⟩ ⟨by simp only;omega,by simp only;omega⟩ ⟨by simp;omega,by simp;omega⟩ M⟩
end Go.Sf.Sc
namespace Go.Sf.Sc
open Go Go.Sf
structure cL(d:KI):Prop where
 ea:∀x∈d.ca,U2 x
 ec:∀x∈d.ci,U3 x
def w3(t:eb)(k:Int)(v:Fp):Prop:=k∈Ot t/\v.length=(Ak t k).length/\∀j:Int,0<=j->j<v.length->(AA (Ak t k) j).ze<=AA v j/\AA v j<=(AA (Ak t k) j).yl
variable{t:eb}
theorem ig(G:EN t){d:KI}(hd:cL d):∃h,Ny t d=some h/\E4 t h=(-1,0):=by
 have hv:=G.zero;have hf:=G.few;have L:=C6 hv;have htn:=G.ea;have hte:=G.ec;unfold Ny Lk;rw[Xw (by omega),bs,bs];refine EA (fun i h=>(0<=i/\i<=8)/\((h.d3.ca.length:Int)<=i/\h.ej.length=h.d3.ca.length/\h.d3.ci=[])/\∀k:Int,0<=k->k<h.d3.ca.length->w3 t (AA h.d3.ca k) (AA h.ej k)) 8 ⟨by omega,by simp,fun k A B=>by simp at B;omega⟩ (fun i h H⟨a1,⟨a2,a3,M⟩,N⟩=>?_) (fun i h H⟨a1,⟨a2,a3,M⟩,N⟩_=>?_)
 .dsimp only;by_cases y:(i<d.ca.length/\i<8)/\0<((Ot t).length:Int)
  .left;have z:=hd.ea _ (AF a1.1 y.1.1);obtain⟨r,U,F,o⟩:=B4 (show 0<=AG (AA d.ca i).a0 by rw[z.1.w];exact z.1.1) y.2;have D:=AF F o;have f:=(OV.1 D).1;refine⟨by omega,?_⟩;rw[ae (by simpa using y),AC a1.1 y.1.1,bs,U,bs,AC F o,bs,NE hf,bs,H5 hv f.1 f.2,AV (n:=i+1) (by omega) (by omega)];dsimp only;generalize AA (Ot t) r=kd at D f|-;have E:=(P3 G.n (kd+1).toNat kd f.2).1;have R:=V9 hf L f.1 f.2;have S:=gO hf L f.1 f.2;unfold Ak at E;have E:(Ak t kd).length<=(kd+1).toNat:=E;refine cc (mk:=fun s'=>Bf.next (s',i+1)) (M7 (a:=0) (b:=((Ak t kd).length:Int)) (s:=([]:Fp)) (fun(k:Int)(s:Fp)=>(s.length:Int)=k/\∀j:Int,0<=j->j<k->(AA (Ak t kd) j).ze<=AA s j/\AA s j<=(AA (Ak t kd) j).yl) (by omega) ⟨rfl,fun j C Q=>by omega⟩ (fun k s A B⟨s1,s2⟩=>?_) (fun s⟨s1,s2⟩=>?_))
   .have m1:=R _ (AF A B);have m2:=S _ (AF A B);have m3:=z.2.1;have m4:=z.2.2;rw[AC A B,bs,bs,bs,bs,AV (n:=(AA (Ak t kd) k).yl-(AA (Ak t kd) k).ze) (by omega) (by omega),AV (n:=(AA (Ak t kd) k).yl-(AA (Ak t kd) k).ze+1) (by omega) (by omega),z.2.w,AV (n:=7*k) (by omega) (by omega),AV (n:=(AA d.ca i).a1+7*k) (by omega) (by omega)];obtain⟨q,V,q0,P⟩:=B4 (show 0<=(AA d.ca i).a1+7*k by omega) (show 0<(AA (Ak t kd) k).yl-(AA (Ak t kd) k).ze+1 by omega);rw[V,bs,AV (n:=(AA (Ak t kd) k).ze+q) (by omega) (by omega),AQ (by simp;unfold AU;omega),bs];refine⟨_,rfl,by simp;omega,fun j C Q=>?_⟩;by_cases e:j=k
    .rw[LT _ _ (by omega),e];omega
    .rw[Kq _ _ C (by omega)];exact s2 j C (by omega)
   .rw[AQ (by simp;unfold AU;omega),bs,AQ (by simp;unfold AU;omega),bs];refine⟨_,rfl,_,rfl,by omega,⟨by simp;omega,by simp;omega,M⟩,fun k A B=>?_⟩;simp only[bk,List.length_singleton]at B;by_cases e:k=h.d3.ca.length
    .rw[LT _ _ e,LT _ _ (by omega)];exact⟨D,by omega,fun j C Q=>s2 j C (by omega)⟩
    .rw[Kq _ _ A (by omega),Kq _ _ A (by omega)];exact N k A (by omega)
  .right;rw[az (by simpa using y)]
 dsimp only;refine EA (fun j u=>(0<=j/\j<=10)/\(u.d3.ca=h.d3.ca/\u.ej=h.ej/\(u.d3.ci.length:Int)<=j)/\∀e∈u.d3.ci,Tg t h.d3.ca.length e/\Ow t e.kl (AA h.d3.ca e.kp) (AA h.d3.ca e.To)=true) 10 ⟨by omega,⟨rfl,rfl,by rw[M];simp⟩,by rw[M];intro e he;cases he⟩ (fun j u C⟨F,⟨o,I,b3⟩,J⟩=>?_) (fun j u C⟨F,⟨o,I,b3⟩,J⟩_=>⟨u,rfl,?_⟩)
 .dsimp only;by_cases y:((j<d.ci.length/\j<10)/\0<(h.d3.ca.length:Int))/\0<(t.ci.length:Int)
  .left;have z:=hd.ec _ (AF F.1 y.1.1.1);obtain⟨r,U,c1,c2⟩:=B4 (show 0<=AG (AA d.ci j).a0 by rw[z.1.w];exact z.1.1) y.2;obtain⟨r1,V,Y,Z⟩:=B4 (show 0<=AG (AA d.ci j).a1 by rw[z.2.1.w];exact z.2.1.1) y.1.2;obtain⟨r2,e3,f1,f2⟩:=B4 (show 0<=AG (AA d.ci j).a2 by rw[z.2.2.w];exact z.2.2.1) y.1.2;refine⟨by omega,?_⟩;rw[ae (by simpa using y),AC F.1 y.1.1.1,bs,U,bs,bs,V,bs,bs,e3,bs,o,AC Y Z,bs,AC f1 f2,bs,Ww hf,bs,AV (n:=j+1) (by omega) (by omega)];split
   .rename_i K;rw[AQ (by simp;unfold AU;omega),bs];exact⟨_,rfl,by omega,⟨rfl,I,by simp;omega⟩,fun e D=>(List.mem_append.1 D).elim (J e) fun D=>by
     rw [List.mem_singleton.1 D];exact⟨⟨⟨c1,c2⟩,⟨Y,Z⟩,f1,f2⟩,K⟩⟩
   .exact⟨u,rfl,by omega,⟨o,I,by omega⟩,J⟩
  .right;rw[az (by simpa using y)]
 .have go:CQ u.d3:=by
   refine ⟨by rw[o];omega,by omega,fun n X=>?_,fun e he=>?_⟩
   .rw[o]at X;obtain⟨k,A,B,rfl⟩:=BR X;have:=(OV.1 (N k A B).1).1;omega
   .have:=(J e he).1;unfold Tg at this;rw[o];omega
  unfold E4;rw[az (by simp[hv]),az (by simp[ER go]),az (by rw[o,I];simpa using a3),Ay.2]
  .dsimp only;rw[Ay.2]
   .rfl
   intro i H O;obtain⟨P,W⟩:=J _ (AF H O);have T:Kv t u.d3 i=0:=by
    unfold Kv Jf;rw[az (by have:=P.1.2;omega),o,W];rfl
   rw [T];rfl
  .intro i H O;rw[o]at O;obtain⟨P,W,q3⟩:=N i H O;have q4:=OV.1 P;have T:HE t (AA u.d3.ca i) (AA u.ej i)=0:=by
    rw [o,I];unfold HE;rw[az (by omega),az (by simp[q4.2]),az (by simpa using W),az];rw[CM];rintro⟨j,C,Q,e⟩;have:=q3 j C (by omega);simp[RU]at e;omega
   rw [T];rfl
end Go.Sf.Sc
namespace Go.Sf.Sc
open Go Go.Sf
structure Uj(d:Ew):Prop where
 types:∀x∈d.eb,U2 x
 ends:∀x∈d.AaW,U2 x
 rules:∀r∈d.yi,ZT r
 host:cL d.ff
instance:Inhabited Eu:=⟨⟨⟨⟨[],[]⟩,[],[]⟩,0,[],[],[],false,false,⟨0,0,0,0⟩,[]⟩⟩
theorem lW{d:Ew}(hd:Uj d):∃v,N8 d=some v/\EN v.1/\(v.2.1.length<=3/\∀r∈v.2.1,DZ v.1 r=0/\(BX r).Sm)/\E4 v.1 v.2.2=(-1,0):=by
 obtain ⟨t,et,j⟩:=lQ hd.types hd.ends;unfold N8;rw[et,bs];refine EA (fun i l=>(0<=i/\i<=3)/\(l.length:Int)<=i/\∀r∈l,DZ t r=0/\(BX r).Sm) 3 ⟨by omega,by simp,fun r f=>by cases f⟩ (fun i l o⟨a1,a2,a3⟩=>?_) (fun i l o⟨a1,a2,a3⟩_=>?_)
 .dsimp only;by_cases b:i<d.yi.length/\i<3
  .left;have a:=hd.rules _ (AF a1.1 b.1);have q:MS (AA d.yi i).j4.d3 2 2=some ⟨(AA d.yi i).j4.d3.ca.take (min ((AA d.yi i).j4.d3.ca.length:Int) 2).toNat,(AA d.yi i).j4.d3.ci.take (min ((AA d.yi i).j4.d3.ci.length:Int) 2).toNat⟩:=by
    unfold MS;rw[DT (by omega) (by omega),bs,DT (by omega) (by omega),bs]
   obtain ⟨r,e,f⟩:=lV j (d:=⟨⟨⟨(AA d.yi i).j4.d3.ca.take (min ((AA d.yi i).j4.d3.ca.length:Int) 2).toNat,(AA d.yi i).j4.d3.ci.take (min ((AA d.yi i).j4.d3.ci.length:Int) 2).toNat⟩,(AA d.yi i).j4.ed,(AA d.yi i).j4.mh⟩,(AA d.yi i).qo,(AA d.yi i).ca,(AA d.yi i).ci,(AA d.yi i).ed,(AA d.yi i).Plain,(AA d.yi i).mo,(AA d.yi i).yY,(AA d.yi i).Aao⟩)
    ⟨⟨⟨fun x h=>a.left.g.ea x (List.mem_of_mem_take h),fun x h=>a.left.g.ec x (List.mem_of_mem_take h)⟩,a.left.slots⟩,a.fm,a.ea,a.ec,a.slots,a.Aai,a.order⟩
   refine ⟨by omega,l++[r],?_,by omega,by simp;omega,fun x h=>(List.mem_append.1 h).elim (a3 x) fun h=>List.mem_singleton.1 h▸f⟩;rw[ae (by simpa using b),AC a1.1 b.1,bs,q,bs,e,bs,AQ (by simp;unfold AU;omega),bs,AV (n:=i+1) (by omega) (by omega)]
  .right;rw[az (by simpa using b)]
 .dsimp only;rw[DT (by omega) (by omega),bs,DT (by omega) (by omega),bs];obtain⟨h,e,hh⟩:=ig j (d:=⟨d.ff.ca.take (min (d.ff.ca.length:Int) 5).toNat,d.ff.ci.take (min (d.ff.ci.length:Int) 6).toNat⟩) ⟨fun x h=>hd.host.ea x (List.mem_of_mem_take h),fun x h=>hd.host.ec x (List.mem_of_mem_take h)⟩;rw[e,bs];exact⟨_,rfl,j,⟨by simp only;omega,a3⟩,hh⟩
end Go.Sf.Sc
namespace Go.Sf.Sc
open Go Go.Sf
end Go.Sf.Sc
namespace Go.Sf.Sc
open Go Go.Sf
def Qq(t:eb)(rules:List f0)(s:AH)(l:List Bp):Prop:=∀j:Int,0<=j->j<l.length->TT t rules s l j=0
variable{t:eb}{rules:List f0}{s:AH}
theorem YJ{l:List Bp}{a:Bp}(h:Qq t rules s l)(e:(I3 t rules (Il t rules s l) a).2=0):Qq t rules s (l++[a]):=by
 intro j b o;rw[bk,List.length_singleton]at o;unfold TT;by_cases f:j<l.length
 .have:=h j b f;unfold TT at this;rw[Hm b f,List.take_append_of_le_length (by omega)];exact this
 .obtain rfl:j=l.length:=by omega
  rw [Tm,Int.toNat_natCast,List.take_left']
  .exact e
  .rfl
theorem kY(a:Hf t rules s){l:List Bp}(h:Qq t rules s l)(n:Nat)(b:n<=l.length):Hf t rules (Il t rules s (l.take n)):=bK a n b fun j e f=>h j e (by omega)
theorem kX(a:Hf t rules s){l:List Bp}(h:Qq t rules s l)(f:l.length<=100):bI t rules s l=(Il t rules s l,(l.length:Int),0):=by
 unfold bI;rw[az (by rw[Qo.2 a];simp),az (by omega),Ay.2];intro i b e;rw[h i b e];rfl
theorem kW(b:Hf t rules s){a:Bp}(e:(I3 t rules s a).2=0):bI t rules s [a]=((I3 t rules s a).1,1,0):=by
 rw [kX b (l:=[a]) (YJ (l:=[]) (fun j h f=>by simp at f;omega) e) (by simp)];rfl
theorem jr{a n:Int}(b:0<=a)(e:0<n):0<=a.tmod n/\a.tmod n<n:=by
 rw [Int.tmod_eq_emod_of_nonneg b];exact⟨Int.emod_nonneg _ (by omega),Int.emod_lt_of_pos _ e⟩
theorem il(hf:Ai t)(D:EF rules)(U:Hf t rules s){h:List EY}(V:∀x∈h,U2 x)(hl:h.length<=100):∃l,J8 t rules s h=some l/\l.length<=h.length/\Qq t rules s l:=by
 unfold J8;have step:∀(x:AH)(l:List Bp)(a:Bp),x=Il t rules s l->Hf t rules x->Qq t rules s l->l.length<=100->∃v:AH×List Bp,((IK t rules x a).bind fun o=>
   if (decide (o.2=0))=true then
   (AT l [a]).bind fun r=>
   some (o.1,r)
   else
   some (x,l))=some v/\v.1=Il t rules s v.2/\Hf t rules v.1/\Qq t rules s v.2/\v.2.length<=l.length+1:=fun x l a e y S W=>by
  rw [sC hf D y,bs];by_cases E:(I3 t rules x a).2=0
  .rw[ae (by simpa using E),AQ (by simp;unfold AU;omega),bs];refine⟨_,rfl,?_,ZW y E,YJ S (by rw[<-e];exact E),by simp⟩;rw[RG,<-e]
  .rw[az (by simpa using E)];exact⟨_,rfl,e,y,S,Nat.le_succ _⟩
 obtain ⟨v,e,J,i2,Y,i4⟩:=Mv (f:=fun(B:Int)(q:AH×List Bp)=>
  (idx h B).bind fun F=>
  (Cf (AG F.a0) 4).bind fun u=>
  if (decide ((AG (1+u))=1))=true then
  (Ii t rules q.1.em).bind fun G=>
  (G4 t rules G.1).bind fun A=>
  if (decide ((A.1.length:Int)=0))=true then
  some (q.1,q.2)
  else
  (idx h B).bind fun H=>
  (Cf (AG H.a1) (A.1.length:Int)).bind fun I=>
  (idx A.1 I).bind fun C=>
  (IK t rules q.1 (Bp.mk (AG (1+u)) C)).bind fun o=>
  if (decide (o.2=0))=true then
  (AT q.2 [Bp.mk (AG (1+u)) C]).bind fun r=>
  some (o.1,r)
  else
  some (q.1,q.2)
  else
  (IK t rules q.1 (Bp.mk (AG (1+u)) (po.mk 0 (AO.mk (d4.mk [] []) [])))).bind fun o=>
  if (decide (o.2=0))=true then
  (AT q.2 [Bp.mk (AG (1+u)) (po.mk 0 (AO.mk (d4.mk [] []) []))]).bind fun r=>
  some (o.1,r)
  else
  some (q.1,q.2)) (fun i z=>z.1=Il t rules s z.2/\Hf t rules z.1/\Qq t rules s z.2/\(z.2.length:Int)<=i) (a:=0) (b:=(h.length:Int)) (s:=(s,[])) (by omega) ⟨rfl,U,fun j j0 X=>by simp at X;omega,by simp⟩ (fun i z B J hi=>by
   obtain ⟨L,M,N,k4⟩:=hi;have y:=V _ (AF B J);have m0:=jr (a:=(AA h i).a0) (n:=4) y.1.1 (by decide);rw[AC B J,bs,U8.w y.1];unfold Cf;rw[az (by decide),bs];generalize AG (1+(AA h i).a0.tmod 4)=kind;by_cases T:kind=1
   .rw[ae (by simpa using T),dK hf D,bs,sQ hf D];obtain⟨v,e,q1,q2⟩:=o9 (t:=t) D (Kt t rules z.1.em).1;rw[e,bs];by_cases K:(v.1.length:Int)=0
    .rw[ae (by simpa using K)];exact⟨_,rfl,L,M,N,by show(z.2.length:Int)<=i+1;omega⟩
    .have m1:=jr (a:=(AA h i).a1) (n:=v.1.length) y.2.1 (by omega);rw[az (by simpa using K),bs,U8.w y.2,az K,bs,AC m1.1 m1.2,bs];obtain⟨w,O,P,Q,R,Z⟩:=step z.1 z.2 ⟨kind,AA v.1 ((AA h i).a1.tmod v.1.length)⟩ L M N (by omega);exact⟨w,O,P,Q,R,by omega⟩
   .rw[az (by simpa using T)];obtain⟨w,O,P,Q,R,Z⟩:=step z.1 z.2 ⟨kind,⟨0,⟨⟨[],[]⟩,[]⟩⟩⟩ L M N (by omega);exact⟨w,O,P,Q,R,by omega⟩)
 rw [e,bs];exact⟨_,rfl,by omega,Y⟩
theorem eQ{h:ff}(hv:(As t).2=0)(j:rules.length<=10)(a:∀r∈rules,DZ t r=0)(hh:(E4 t h).2=0):Nc t rules h=0:=by
 have f:Pf t rules=0:=by
  unfold Pf;rw[az (by simp[hv]),az (by omega),Ay.2 fun i b e=>by rw[a _ (AF b e)];rfl];rfl
 unfold Nc;rw[az (by simp[f])];exact hh
theorem lg{d:Ew}(hd:Uj d):∃t rules h b,Nh d=some (t,rules,⟨⟨h,[]⟩,[]⟩,b)/\(b=true->Ai t/\EF rules/\Hf t rules ⟨⟨h,[]⟩,[]⟩):=by
 obtain ⟨⟨t,rules,h⟩,w,f,⟨y,j⟩,q⟩:=lW hd;dsimp only at f y j q;obtain⟨b,el,z⟩:=oa f.sm (fun r e=>(j r e).2) h;unfold Nh;rw[w,bs];dsimp only;rw[el,bs];refine⟨t,rules,h,b,rfl,fun u=>?_⟩;obtain⟨hf,e⟩:=z u;exact⟨hf,e,⟨eQ f.zero (by omega) (fun r k=>(j r k).1) (congrArg Prod.snd q),by simp,fun i o a=>by simp at a;omega⟩,by simp,fun i o a=>by simp at a;omega,fun i o a=>by simp at a;omega⟩
theorem Zz{d:AS}(h:LR t rules d):(Kt t rules d).2.2=0:=by rw[Un];exact OB.2 h
theorem Ry(d:Ew)(e:List EY)(hd:Uj d)(A:∀x∈e,U2 x):F4 d e=some true:=by
 obtain ⟨t,rules,h,b,E,F⟩:=lg hd;unfold F4;rw[kH,bs,bs];by_cases u:6<(e.length:Int)
 .rw[ae (by simpa using u)]
 rw [az (by simpa using u),E,bs];cases b with
 |false=>rfl|true=>
 obtain ⟨hf,f,y⟩:=F rfl;obtain⟨l,el,H,z⟩:=il hf f y A (by omega);dsimp only;rw[az (by decide),el,bs,Ho (a:=0) (b:=(l.length:Int)) (s:=⟨⟨h,[]⟩,[]⟩) (fun i=>Il t rules ⟨⟨h,[]⟩,[]⟩ (l.take i.toNat)) (fun _=>none) (by omega) rfl,Ay.2 (fun _ _ _=>rfl)]
 .rfl
 intro i o q _;have hi:=kY y z i.toNat (by omega);have he:=z i o q;unfold TT at he;have w:=ZW hi he;rw[AC o q,bs,Xe hf f,bs,ry hf f,kW hi he,bs];dsimp only;rw[az (by simp[Zz hi.rep]),iZ hf f,Qo.2 w,bs,bs,az (by simp),Xe hf f,bs,az (by simp[Zz w.rep])];have C:∃c,(if(decide ((AA l i).ll=3))=true then((Lj (Kt t rules (Il t rules ⟨⟨h,[]⟩,[]⟩ (l.take i.toNat)).em).1 (Kt t rules (I3 t rules (Il t rules ⟨⟨h,[]⟩,[]⟩ (l.take i.toNat)) (AA l i)).1.em).1).bind fun j=>some (!j))else some false)=some c/\c=false:=by
  by_cases r:(AA l i).ll=3
  .have D:(I3 t rules (Il t rules ⟨⟨h,[]⟩,[]⟩ (l.take i.toNat)) (AA l i)).1.em=(Il t rules ⟨⟨h,[]⟩,[]⟩ (l.take i.toNat)).em:=by
    unfold I3 at he|-;rw[az (by omega),az (by omega),ae r]at he|-;unfold OU at he|-;split at he
    .rename_i k;exact absurd he k
    rename_i k;rw[az k];split at he
    .cases he
    rename_i B;rw[az B]
   rw [ae (by simpa using r),D,sB (gc hf f _),bs];exact⟨_,rfl,rfl⟩
  .rw[az (by simpa using r)];exact⟨_,rfl,rfl⟩
 obtain ⟨c,G,rfl⟩:=C;rw[G,bs,bs,az (by decide),Bh o q,RG];rfl
end Go.Sf.Sc
namespace Go.Sf.Sc
open Go Go.Sf
structure yQ(s x:AH)(n:Nat):Prop where
 deep:n<=x.gp.length
 marks:x.gp.take n=s.gp++[(s.em.gn.length:Int)]
 start:x.em.hV=s.em.hV
 long:s.em.gn.length<=x.em.gn.length
 moves:x.em.gn.take s.em.gn.length=s.em.gn
end Go.Sf.Sc
namespace Go.Sf.Sc
open Go Go.Sf
variable{α:Type}{n:Nat}
theorem F1{e:α->TV}{l:List α}(h:TV.WF (eL n e l)):∀x∈l,(e x).WF:=by
 have o:TV.WF (.list n (l.map e)):=h;simp only[TV.WF]at o;intro x q;have key:∀{f:Fq},TV.tg f->∀t∈f,t.WF:=by
  intro f
  induction f with
  |nil=>intro _ t b;cases b
  |cons a l r=>
   intro j t b;rcases List.mem_cons.1 b with rfl|b
   .exact j.1
   .exact r j.2 t b
 exact key o.2 _ (List.mem_map.2 ⟨x,q,rfl⟩)
variable{x:Int}
theorem KB(h:(G9 x).WF):U8 x:=by
 have a:IntKind.u8.min<=x/\x<=IntKind.u8.max:=h;rw[show IntKind.u8.min=0 by decide,show IntKind.u8.max=255 by decide]at a;exact⟨a.1,by omega⟩
theorem XE{x:EY}(h:(Fo x).WF):U2 x:=⟨KB h.1,KB h.2.1⟩
theorem Ud{x:Iw}(h:(Fr x).WF):U3 x:=⟨KB h.1,KB h.2.1,KB h.2.2.1⟩
variable{d:Eu}
theorem jz(h:(I8 d).WF):ZT d:=by
 have e:TV.tg [_,_,_,_,_,_,_,_,_,_,_,_,_,_,_]:=h;obtain⟨f,j,o,_,q,r,u,w,_,_,y,z,A,B,C,_⟩:=e;have b:IntKind.u64.min<=d.qo/\d.qo<=IntKind.u64.max:=q;rw[show IntKind.u64.min=0 by decide,show IntKind.u64.max=18446744073709551615 by decide]at b;exact⟨⟨⟨fun x a=>KB (F1 f x a),fun x a=>Ud (F1 j x a)⟩,fun x a=>Ud (F1 o x a)⟩,⟨b.1,by omega⟩,
  fun x a=>KB (F1 r x a),fun x a=>Ud (F1 u x a),fun x a=>Ud (F1 w x a),⟨⟨KB y,KB z⟩,KB A,KB B⟩,fun x a=>KB (F1 C x a)⟩
theorem fx{d:Ew}(h:(HC d).WF):Uj d:=by
 have b:TV.tg [_,_,_,_,_]:=h;obtain⟨e,f,j,o,q,_⟩:=b;exact⟨fun x a=>XE (F1 e x a),fun x a=>XE (F1 f x a),fun x a=>jz (F1 j x a),fun x a=>XE (F1 o x a),fun x a=>Ud (F1 q x a)⟩
end Go.Sf.Sc
