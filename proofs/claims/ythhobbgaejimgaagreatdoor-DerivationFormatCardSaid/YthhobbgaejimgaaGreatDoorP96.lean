/- Plain lemmas: what the functions of the program and of the reference compute. -/
import Derived.Test.YthhobbgaejimgaaGreatDoorSfF
import Derived.Test.YthhobbgaejimgaaGreatDoorP46
set_option linter.all false
set_option maxRecDepth 100000
namespace Go.Sf.Sc
open Go Go.Sf
def Uz(p g:hT)(m:gt):hT:=⟨m.fq.map (at' g.fq),p.jj⟩
variable{l:Fp}
theorem KA{n x:Int}:x∈Bi l n↔(0<=x/\x<n)/\x∉l:=by
 unfold Bi;rw[List.mem_filter];constructor
 .grind[Int.natCast_nonneg,Dx]
 .rintro⟨⟨a,b⟩,c⟩;refine⟨List.mem_map.2 ⟨x.toNat,List.mem_range.2 (by omega),Int.toNat_of_nonneg a⟩,?_⟩
  grind [hasB,Dx]
theorem Q6(l:Fp)(n:Int):(Bi l n).Pairwise (·<·):=by grind[Bi,List.pairwise_lt_range.imp]
def HT(images pr:Fp):Fp:=(Bi pr images.length).map (at' images)
variable{images pr:Fp}
theorem Qv{x:Int}:x∈HT images pr↔∃i:Int,(0<=i/\i<images.length)/\i∉pr/\at' images i=x:=by grind[HT,KA]
def sX(images pr:Fp):Bool:=DM (fun a=>DM (fun b=>decide (at' images a=at' images b)&&(!hasB pr a||!hasB pr b)) (a+1) images.length) 0 images.length
theorem Ux(h:sX images pr=false){a b:Int}(a0:0<=a)(a1:a<images.length)(b0:0<=b)(k:b<images.length)(o:a∈pr)(e:at' images a=at' images b):b∈pr:=by
 unfold sX at h;rw[D4]at h;by_cases f:a=b
 .exact f▸o
 by_cases p:a<b
 .have c:=h a a0 a1;rw[D4]at c;have j:=c b (by omega) k;rw[decide_eq_true e,Bool.true_and,Bool.or_eq_false_iff]at j
  grind [Dx]
 .have c:=h b b0 k;rw[D4]at c;have j:=c a (by omega) a1;rw[decide_eq_true e.symm,Bool.true_and,Bool.or_eq_false_iff]at j
  grind [Dx]
variable{i:Int}
theorem Nu(h:sX images pr=false)(a:0<=i)(b:i<images.length)(c:i∈pr):at' images i∉HT images pr:=by grind[Qv,Ux]
def Um(g:hT)(pr:Bw)(m:gt)(i:Int):Bool:=
 !hasB m.jj i&&(hasB (HT m.fq pr.fq) (at' g.jj i).rA||hasB (HT m.fq pr.fq) (at' g.jj i).To)
def K8(g:hT)(pr:Bw)(m:gt):Bw:=⟨Bi (HT m.fq pr.fq) g.fq.length,Bi (HT m.jj pr.jj) g.jj.length⟩
def Pb(l g:hT)(pr:Bw)(m:gt):Bw×Int:=
 if Mr l g m≠0 then(⟨[],[]⟩,Mr l g m)else if JL l pr≠0 then(⟨[],[]⟩,JL l pr)else
 if (sX m.fq pr.fq||sX m.jj pr.jj)=true then(⟨[],[]⟩,15)else
 if DM (Um g pr m) 0 g.jj.length=true then(⟨[],[]⟩,14)else(K8 g pr m,0)
structure Rp(l g:hT)(pr:Bw)(m:gt):Prop where
 mor:RQ l g m
 part:Rt l pr
 qz:sX m.fq pr.fq=false
 rg:sX m.jj pr.jj=false
 free:∀i:Int,0<=i->i<g.jj.length->Um g pr m i=false
variable{g:hT}
theorem YM{p:Bw}(h:JL g p=0):CT g=0/\OY g p=0:=by grind[JL]
theorem aS{l g:hT}{pr:Bw}{m:gt}(h:(Pb l g pr m).2=0):Rp l g pr m/\Pb l g pr m=(K8 g pr m,0):=by
 unfold Pb at h|-;split at h
 .grind
 rename_i b;rw[bk b];split at h
 .grind
 rename_i c;rw[bk c];split at h
 .grind
 rename_i a;rw[bk a];split at h
 .grind
 rename_i e;rw[bk e];simp[not_or]at a;exact⟨⟨U6 (Classical.not_not.1 b),WZ (YM (Classical.not_not.1 c)).2,a.1,a.2,D4.1 (by simpa using e)⟩,rfl⟩
theorem Wj{l g:hT}{pr:Bw}{m:gt}(h:Rp l g pr m):OY g (K8 g pr m)=0:=by
 have o:=h.mor;have z:=o.gb;have A:∀x∈(K8 g pr m).fq,0<=x/\x<g.fq.length:=fun x c=>Jj c;have B:∀x∈(K8 g pr m).jj,0<=x/\x<g.jj.length:=fun x c=>Jj c;have b:∀{l:Fp}{n:Int},(∀x∈l,0<=x/\x<n)->l.Pairwise (·<·)->Ox l n=0:=by
  grind [Ox,Cb,B6,Om]
 unfold OY;rw[b A (Q6 _ _),b B (Q6 _ _)];simp;rw[Cb.2 fun i w y=>?_]
 .rfl
 have c:=B6 w y;generalize at' (K8 g pr m).jj i=x at c;have a:(0<=x/\x<g.jj.length)/\x∉HT m.jj pr.jj:=KA.1 c;have hf:=z.fit _ (B6 a.1.1 a.1.2);have p:(at' g.jj x).rA∉HT m.fq pr.fq/\(at' g.jj x).To∉HT m.fq pr.fq:=by
  by_cases hi:x∈m.jj
  .obtain⟨k,s,u,e⟩:=DY hi;have f:k∈pr.jj:=by
    by_cases f:k∈pr.jj
    .exact f
    .exact absurd (Qv.2 ⟨k,⟨s,u⟩,f,e⟩) a.2
   have ends:=h.part.ends k f;have he:=o.edge k s u;rw[e]at he;have q:=h.part.qz.1;have C:=q _ ends.1;have D:=q _ ends.2;have F:=o.uw;rw[<-he.2.2.1,<-he.2.2.2];exact⟨Nu h.qz C.1 (by omega) ends.1,Nu h.qz D.1 (by omega) ends.2⟩
  .have hd:=h.free x a.1.1 a.1.2;unfold Um at hd;rw[show hasB m.jj x=false from by cases E:hasB m.jj x with|false=>rfl|true=>exact absurd (Dx.1 E) hi,Bool.not_false,Bool.true_and,Bool.or_eq_false_iff]at hd;exact⟨fun j=>by rw[Dx.2 j]at hd;exact absurd hd.1 (by decide),fun j=>by rw[Dx.2 j]at hd;exact absurd hd.2 (by decide)⟩
 grind [hasB,K8,at',Dx,KA]
def Kj(n:Nat)(l:Fp):Fp:=(Jx n).map (Hu l)
variable{v:Int}
theorem T6(h:v∉l):Hu l v=-1:=by grind[Hu,Cb,B6]
theorem aq(l:Fp)(v:Int):-1<=Hu l v/\Hu l v<l.length:=by
 by_cases h:v∈l
 .have:=OP h;omega
 .rw[T6 h];omega
theorem U3:0<=Hu l v↔v∈l:=by grind[T6,OP]
theorem ZN{n:Nat}(a:0<=i)(b:i<n):at' (Kj n l) i=Hu l i:=Qb _ a b
def O1(pr into at_:Fp)(n i:Int):Int:=if hasB into i=true then at' at_ (at' pr (Hu into i))else n+(Bi into i).length
def R2(count:Nat)(pr into at_:Fp)(n:Int):Fp:=(Jx count).map (O1 pr into at_ n)
theorem Tq(count:Nat)(pr into at_:Fp)(n:Int):(R2 count pr into at_ n).length=count:=by unfold R2;rw[fd,PH]
variable{count:Nat}{into at_:Fp}{n:Int}
theorem dG(a:0<=i)(b:i<count):at' (R2 count pr into at_ n) i=O1 pr into at_ n i:=Qb _ a b
end Go.Sf.Sc
namespace Go.Sf.Sc
open Go Go.Sf
def XX(L:Bb):Prop:=∀p∈L,∀q∈L,p.1=q.1->p.2=q.2
theorem XX.sub{L M:Bb}(h:XX L)(a:∀p∈M,p∈L):XX M:=fun p b q c=>h p (a p b) q (a q c)
def gf(L:Bb):Bool:=DM (fun i=>DM (fun k=>decide ((at' L k).1=(at' L i).1)&&!decide ((at' L k).2=(at' L i).2)) 0 i) 0 L.length
end Go.Sf.Sc
namespace Go.Sf.Sc
open Go Go.Sf
end Go.Sf.Sc
namespace Go.Sf.Sc
open Go Go.Sf
structure ZT(count:Nat)(pr into at_:Fp):Prop where
 few:count<=1000
 nodup:into.Nodup
 len:into.length=pr.length
 inn:∀x∈into,0<=x/\x<count
 kin:∀x∈pr,0<=x/\x<at_.length
 pos:∀x∈pr,0<=at' at_ x
variable{pr into at_:Fp}{n i:Int}
theorem aR(h:i∈into):O1 pr into at_ n i=at' at_ (at' pr (Hu into i)):=by grind[O1,Dx]
theorem Xn(h:i∉into):O1 pr into at_ n i=n+(Bi into i).length:=by grind[O1,Dx]
end Go.Sf.Sc
namespace Go.Sf.Sc
open Go Go.Sf
def ND(h:AM)(d:Bw):gt:=⟨Kj h.hT.fq.length d.fq,Kj h.hT.jj.length d.jj⟩
def lF(r:ns)(h:AM)(m:gt)(d:Bw):gt:=
 ⟨R2 r.pq.hT.fq.length r.sa.fq r.rT.fq (m.fq.map (at' (ND h d).fq)) d.fq.length,
 R2 r.pq.hT.jj.length r.sa.jj r.rT.jj (m.jj.map (at' (ND h d).jj)) d.jj.length⟩
def dh(t:AB)(k:Int):Fp:=(BH t k).map fun x=>x.tU
def dj(tr:Fp)(e:B0):B0:=⟨e.rx,at' tr e.rA,at' tr e.To⟩
def ke(r:ns)(x:AM)(i:Int):Fp:=x.hT.fq++(Bi r.rT.fq i).map (at' r.pq.hT.fq)
def kf(t:AB)(r:ns)(x:AM)(i:Int):List Fp:=x.og++(Bi r.rT.fq i).map fun k=>dh t (at' r.pq.hT.fq k)
def kc(r:ns)(c:gt)(x:AM)(i:Int):List B0:=x.hT.jj++(Bi r.rT.jj i).map fun k=>dj c.fq (at' r.pq.hT.jj k)
def EM(t:AB)(r:ns)(x:AM)(c:gt):AM:=⟨⟨ke r x r.pq.hT.fq.length,kc r c x r.pq.hT.jj.length⟩,kf t r x r.pq.hT.fq.length⟩
def Fx(h:AM)(d:Bw):AM:=⟨⟨d.fq.map (at' h.hT.fq),d.jj.map fun x=>dj (ND h d).fq (at' h.hT.jj x)⟩,d.fq.map (at' h.og)⟩
structure JZ(x:AM):Prop where
 qz:x.hT.fq.length<=1000
 rg:x.hT.jj.length<=1000
 vals:x.og.length<=1000
 rows:∀v∈x.og,v.length<=1000
structure cG(t:AB)(r:ns)(c:gt):Prop where
 hf:Hm t
 hv:(B9 t).2=0
 g:Ff r.pq.hT
 kind:∀n∈r.pq.hT.fq,0<=n/\n<t.fq.length
 cn:c.fq.length=r.pq.hT.fq.length
variable{x:AM}
theorem Wc(h:JZ x):Ey x=some x:=by
 have:=h.qz;have:=h.rg;have:=h.vals;unfold Ey Ij;rw[GD (by unfold Br;omega),bs,GD (by unfold Br;omega),bs,bs];rw[KH (fun i=>AM.mk x.hT (x.og.take i.toNat)) (by omega) (by rfl)]
 .rw[Int.toNat_natCast,List.take_length];rfl
 .intro i a b;have:=h.rows _ (B6 a b)
  grind [Ds,GD,Br,F6,Kh]
structure fP(h:AM)(d:Bw):Prop where
 sm:JZ h
 len:h.og.length=h.hT.fq.length
 qz:(∀x∈d.fq,0<=x/\x<h.hT.fq.length)/\d.fq.length<=1000
 rg:(∀x∈d.jj,0<=x/\x<h.hT.jj.length)/\d.jj.length<=1000
 ends:∀e∈h.hT.jj,(0≤e.rA/\e.rA<h.hT.fq.length)/\0≤e.To/\e.To<h.hT.fq.length
end Go.Sf.Sc
namespace Go.Sf.Sc
open Go Go.Sf
def jS(c:gt)(vars:Fp)(s:CO):(Int×Int)×Int:=((at' c.fq s.rU,s.rc),Oc s.rk vars)
def NB(r:ns)(c:gt)(vars:Fp):Bb:=r.pq.rf.map (jS c vars)
def dA(t:AB)(x:AM)(p:(Int×Int)×Int):Bool:=
 decide (p.2<(at' (BH t (at' x.hT.fq p.1.1)) p.1.2).tU)||decide ((at' (BH t (at' x.hT.fq p.1.1)) p.1.2).sO<p.2)
structure fO(t:AB)(r:ns)(c:gt)(vars:Fp)(x:AM):Prop where
 hf:Hm t
 hv:(B9 t).2=0
 few:r.pq.rf.length<=1000
 fewv:vars.length<=1000
 slot:∀s∈r.pq.rf,(0<=s.rU/\s.rU<c.fq.length)/\(-1<=s.rk.Var/\s.rk.Var<vars.length)/\
  (0<=at' c.fq s.rU/\at' c.fq s.rU<x.hT.fq.length)/\(0<=s.rc/\s.rc<(BH t (at' x.hT.fq (at' c.fq s.rU))).length)
 kind:∀n∈x.hT.fq,0<=n/\n<t.fq.length
 vlen:x.og.length=x.hT.fq.length
 rows:∀i:Int,0<=i->i<x.hT.fq.length->(at' x.og i).length=(BH t (at' x.hT.fq i)).length
def My(t:AB)(x:AM)(L:Bb):AM×Int:=
 if gf L=true then(⟨⟨[],[]⟩,[]⟩,11)else if L.any (dA t x)=true then(⟨⟨[],[]⟩,[]⟩,6)else(⟨x.hT,L.foldl D6 x.og⟩,0)
end Go.Sf.Sc
namespace Go.Sf.Sc
open Go Go.Sf
variable{t:AB}{r:ns}
theorem QE(h:KC t r=0):Ih t r.rj=0/\Jk t r=0/\Pc t r.rj r.j0=0:=by grind[KC]
theorem Tb(h:Jk t r=0):r.pq.qy=r.rj.qy/\r.pq.rf.length<=10/\∀i:Int,0<=i->i<r.pq.rf.length->Rh t r.pq i=0:=by
 unfold Jk at h;split at h
 .omega
 split at h
 .cases h
 split at h
 .cases h
 split at h
 .cases h
 rename_i a b c e;exact⟨by omega,by omega,Pk h⟩
variable{i:Int}
theorem Va{p:j4}(h:Rh t p i=0):(0<=(at' p.rf i).rU/\(at' p.rf i).rU<p.hT.fq.length)/\
  (0<=(at' p.rf i).rc/\(at' p.rf i).rc<(NU t (at' p.hT.fq (at' p.rf i).rU)).1.length)/\-1<=(at' p.rf i).rk.Var/\(at' p.rf i).rk.Var<p.qy:=by
 unfold Rh at h;dsimp only at h;split at h
 .cases h
 split at h
 .cases h
 rename_i b a;simp[sN]at a;omega
structure Gr(t:AB)(r:ns)(h:AM)(m:AP):Prop where
 hf:Hm t
 fr:Xa r
 re:KC t r=0
 he:(IZ t h).2=0
 at_:jY t r.rj h m
 co:Rp (Uz r.rj.hT h.hT m.gt) h.hT r.sa m.gt
abbrev dS(r:ns)(h:AM)(m:AP):Bw:=K8 h.hT r.sa m.gt
abbrev cS(r:ns)(h:AM)(m:AP):gt:=lF r h m.gt (dS r h m)
variable{h:AM}{m:AP}
theorem Gr.hv(s:Gr t r h m):(B9 t).2=0:=(UJ s.re).1
theorem Gr.ro(s:Gr t r h m):Vu t r:=(UJ s.re).2
theorem Gr.hh(s:Gr t r h m):LY t h:=(QT s.hf s.he).2
theorem Po(hf:Hm t)(hv:(B9 t).2=0)(hh:LY t h):JZ h:=by
 have c:=hh.g.qz;have e:=hh.g.rg;have f:=hh.len;refine⟨by omega,by omega,by omega,fun v a=>?_⟩;obtain⟨i,b,o,rfl⟩:=DY a;have j:=hh.row i b (by omega);have k:=Uh hf (Int.le_refl _) (Od hv).par (hh.kind i b (by omega)).2;omega
theorem Gr.rem(s:Gr t r h m):fP h (dS r h m):=by
 have hh:=s.hh;have b:=hh.g.qz;have c:=hh.g.rg;have l1:=Q7 (HT m.gt.fq r.sa.fq) h.hT.fq.length;have l2:=Q7 (HT m.gt.jj r.sa.jj) h.hT.jj.length;exact⟨Po s.hf s.hv hh,hh.len,⟨fun x a=>Jj a,by show(Bi _ _).length<=1000;omega⟩,⟨fun x a=>Jj a,by show(Bi _ _).length<=1000;omega⟩,fun e he=>(hh.g.fit e he).2⟩
theorem Gr.part(s:Gr t r h m):JL h.hT (dS r h m)=0:=by
 unfold JL;rw[bk (by simp[s.hh.ge])];exact Wj s.co
variable{count:Nat}{pr into images:Fp}
theorem dH{n:Nat}{KU:Fp}(few:count<=1000)(nodup:into.Nodup)(len:into.length=pr.length)(inn:∀x∈into,0<=x/\x<count)
  (kin:∀x∈pr,0<=x/\x<images.length)(b:∀x∈images,0<=x/\x<n)(hi:sX images pr=false)(c:KU=HT images pr):
  ZT count pr into (images.map (at' (Kj n (Bi KU n))))/\(∀x∈pr,at' (images.map (at' (Kj n (Bi KU n)))) x<(Bi KU n).length)/\
  ∀x∈pr,at' (images.map (at' (Kj n (Bi KU n)))) x=Hu (Bi KU n) (at' images x)/\at' images x∈Bi KU n:=by
 have e:∀x∈pr,at' (images.map (at' (Kj n (Bi KU n)))) x=Hu (Bi KU n) (at' images x)/\at' images x∈Bi KU n:=fun x a=>by
  grind [B6,La,ZN,KA,Nu]
 refine ⟨⟨few,nodup,len,inn,fun x a=>by rw[fd];exact kin x a,fun x a=>?_⟩,fun x a=>?_,e⟩
 .rw[(e x a).1];exact U3.2 (e x a).2
 .rw[(e x a).1];exact(aq _ _).2
theorem Gr.left(s:Gr t r h m):m.gt.fq.length=r.rj.hT.fq.length/\m.gt.jj.length=r.rj.hT.jj.length:=⟨s.at_.m.uw,s.at_.m.vh⟩
theorem Gr.comN(s:Gr t r h m):ZT r.pq.hT.fq.length r.sa.fq r.rT.fq (m.gt.fq.map (at' (ND h (dS r h m)).fq))/\
  (∀x∈r.sa.fq,at' (m.gt.fq.map (at' (ND h (dS r h m)).fq)) x<(dS r h m).fq.length)/\
  ∀x∈r.sa.fq,at' (m.gt.fq.map (at' (ND h (dS r h m)).fq)) x=Hu (dS r h m).fq (at' m.gt.fq x)/\at' m.gt.fq x∈(dS r h m).fq:=by
 have ro:=s.ro;have e:=ro.right.qz;refine dH (by omega) ro.inj.1 ?_ (fun x a=>?_) (fun x a=>?_) (fun x a=>?_) s.co.qz rfl
 .have:=ro.mor.uw;rw[this];exact fd ..
 .obtain⟨i,b,c,rfl⟩:=DY a;exact(ro.mor.node i b c).1
 .have:=ro.part.qz.1 x a;have:=s.left.1;omega
 .obtain⟨i,b,c,rfl⟩:=DY a;exact(s.at_.m.node i b c).1
theorem Gr.grow(s:Gr t r h m):cG t r (cS r h m):=
 ⟨s.hf,s.hv,s.ro.right,(H9 s.ro.right s.ro.uz).1,Tq _ _ _ _ _⟩
theorem Oq(l:Fp)(a:0<=i):∀(k:Nat),∃s,Bi l (i+k)=Bi l i++s
 |0=>⟨[],by simp⟩|k+1=>by
  obtain ⟨s,e⟩:=Oq l a k
  grind [QC,ff]
variable{l:Fp}{n:Int}
theorem YO(a:0<=i)(b:i<n)(h:i∉l):at' (Bi l n) (Bi l i).length=i/\((Bi l i).length:Int)<(Bi l n).length:=by
 obtain ⟨s,e⟩:=Oq l (i:=i+1) (by omega) (n-(i+1)).toNat
 rw [show i+1+((n-(i+1)).toNat:Int)=n by omega,QC l a]at e
 grind [hasB,Dx,at']
variable{α:Type}
theorem cx[Inhabited α]{l m:List α}(a:0<=i)(b:i<l.length):at' (l++m) i=at' l i:=by grind[NS]
theorem cy[Inhabited α]{l m:List α}{n:Nat}:at' (l++m) (l.length+n:Int)=at' m n:=by grind[NS,at',Int.toNat_natCast]
theorem Gr.kindAt(s:Gr t r h m)(k:0<=i)(o:i<r.pq.hT.fq.length):
  (0<=at' (cS r h m).fq i/\at' (cS r h m).fq i<(EM t r (Fx h (dS r h m)) (cS r h m)).hT.fq.length)/\
  (BH t (at' r.pq.hT.fq i)).length<=(BH t (at' (EM t r (Fx h (dS r h m)) (cS r h m)).hT.fq (at' (cS r h m).fq i))).length:=by
 obtain ⟨w,C,c3⟩:=s.comN;have y:at' (cS r h m).fq i=O1 r.sa.fq r.rT.fq (m.gt.fq.map (at' (ND h (dS r h m)).fq)) (dS r h m).fq.length i:=dG k o;have el:(EM t r (Fx h (dS r h m)) (cS r h m)).hT.fq=(dS r h m).fq.map (at' h.hT.fq)++(KS r).map (at' r.pq.hT.fq):=rfl;rw[y,el,ci,fd,fd];by_cases hi:i∈r.rT.fq
 .have a:=OP hi;have D:=w.len;have c:=B6 (l:=r.sa.fq) a.1 (by omega);have p:=c3 _ c;have q:=C _ c;have f:=w.pos _ c;rw[aR hi];refine⟨⟨f,by push_cast;omega⟩,?_⟩;rw[cx f (by rw[fd];exact q),La f q,p.1,(OP p.2).2.2.1];have e:=s.ro.part.qz.1 _ c;have z:=s.left.1;have j:=s.at_.m.node _ e.1 (by omega);have A:=s.hh.kind _ j.1.1 j.1.2;have u:=s.ro.mor.node _ a.1 a.2.1;rw[a.2.2.1]at u;have B:at' (P7 r.rj.hT r.sa).fq (Hu r.rT.fq i)=at' r.rj.hT.fq (at' r.sa.fq (Hu r.rT.fq i)):=La a.1 (by omega);rw[u.2,B];exact Q0 (Od s.hv) A.2 j.2
 .have e:=YO k o hi;rw[Xn hi];have b:((dS r h m).fq.map (at' h.hT.fq)).length=(dS r h m).fq.length:=fd ..;refine⟨⟨by omega,?_⟩,?_⟩
  .have:((KS r).length:Int)=(Bi r.rT.fq r.pq.hT.fq.length).length:=rfl
   push_cast
   omega
  .rw[<-b,cy,show KS r=Bi r.rT.fq r.pq.hT.fq.length from rfl,La (by omega) e.2];show _<=(BH t (at' r.pq.hT.fq (at' (Bi r.rT.fq r.pq.hT.fq.length) (Bi r.rT.fq i).length))).length;rw[e.1];exact ca _
theorem Gr.rows(s:Gr t r h m):(EM t r (Fx h (dS r h m)) (cS r h m)).og.map (fun v=>v.length)=(EM t r (Fx h (dS r h m)) (cS r h m)).hT.fq.map fun n=>(BH t n).length:=by
 show (List.map _ (_++_))=List.map _ (_++_);rw[List.map_append,List.map_append];congr 1
 .show((dS r h m).fq.map (at' h.og)).map _=((dS r h m).fq.map (at' h.hT.fq)).map _;rw[List.map_map,List.map_map];refine List.map_congr_left fun x a=>?_;have a:=s.rem.qz.1 x a;exact s.hh.row x a.1 a.2
 grind [List.map_map,List.map_congr_left,dh,fd]
theorem Gr.put(s:Gr t r h m):fO t r (cS r h m) m.qy (EM t r (Fx h (dS r h m)) (cS r h m)):=by
 obtain ⟨D,y,E⟩:=QE s.re;obtain⟨hv,F,o⟩:=Tb y;have A:=s.at_.q.vars;have p:=s.at_.len;have j:=s.rows;have k:(EM t r (Fx h (dS r h m)) (cS r h m)).og.length=(EM t r (Fx h (dS r h m)) (cS r h m)).hT.fq.length:=by
  grind [List.length,fd]
 refine ⟨s.hf,s.hv,by omega,by omega,fun x a=>?_,fun n b=>?_,k,fun i c f=>?_⟩
 .obtain⟨i,c,f,rfl⟩:=DY a;obtain⟨e,z,G⟩:=Va (o i c f);have u:=(H9 s.ro.right s.ro.uz).1 _ (B6 e.1 e.2);rw[Qf s.hv u.1 u.2]at z;obtain⟨H,I⟩:=s.kindAt e.1 e.2;have w:(cS r h m).fq.length=r.pq.hT.fq.length:=Tq _ _ _ _ _
  grind
 .have b:n∈(dS r h m).fq.map (at' h.hT.fq)++(KS r).map (at' r.pq.hT.fq):=b;rcases List.mem_append.1 b with b|b
  .obtain⟨x,a,rfl⟩:=List.mem_map.1 b;have a:=s.rem.qz.1 x a;exact s.hh.kind x a.1 a.2
  .obtain⟨x,a,rfl⟩:=List.mem_map.1 b;have a:=Jj a;exact(H9 s.ro.right s.ro.uz).1 _ (B6 a.1 a.2)
 .have B:=La (l:=(EM t r (Fx h (dS r h m)) (cS r h m)).og) (g:=fun v=>v.length) c (by omega);have C:=La (l:=(EM t r (Fx h (dS r h m)) (cS r h m)).hT.fq) (g:=fun n=>(BH t n).length) c f
  grind
end Go.Sf.Sc
namespace Go.Sf.Sc
open Go Go.Sf
abbrev jp:ns:=ns.mk (⟨#[]⟩:ByteArray) (j4.mk (hT.mk [] []) [] 0 []) (j4.mk (hT.mk [] []) [] 0 []) (Bw.mk [] []) (gt.mk [] []) false (j0.mk 0 [] (gt.mk [] []) (j4.mk (hT.mk [] []) [] 0 []))
abbrev zG:BB:=BB.mk jp (AP.mk (gt.mk [] []) []) (AM.mk (hT.mk [] []) []) (AM.mk (hT.mk [] []) []) (gt.mk [] []) (gt.mk [] [])
def Zh(t:AB)(r:ns)(h:AM)(m:AP):BB×Int:=
 if (My t (EM t r (Fx h (dS r h m)) (cS r h m)) (NB r (cS r h m) m.qy)).2≠0 then(zG,(My t (EM t r (Fx h (dS r h m)) (cS r h m)) (NB r (cS r h m) m.qy)).2)else
 if 40<(My t (EM t r (Fx h (dS r h m)) (cS r h m)) (NB r (cS r h m) m.qy)).1.hT.fq.length\/80<(My t (EM t r (Fx h (dS r h m)) (cS r h m)) (NB r (cS r h m) m.qy)).1.hT.jj.length then(zG,3)else
 (BB.mk r m h (My t (EM t r (Fx h (dS r h m)) (cS r h m)) (NB r (cS r h m) m.qy)).1 (ND h (dS r h m)) (cS r h m),0)
noncomputable def PQ(t:AB)(r:ns)(h:AM)(m:AP):BB×Int:=
 if KC t r≠0 then(zG,KC t r)else if(IZ t h).2≠0 then(zG,(IZ t h).2)else
 if L9 t r.rj.hT h.hT m.gt r.rB≠0 then(zG,1)else
 if (JW t r.rj h m.gt).2≠0 then(zG,(JW t r.rj h m.gt).2)else if¬(JW t r.rj h m.gt).1=m.qy then(zG,11)else
 if (Pb (Uz r.rj.hT h.hT m.gt) h.hT r.sa m.gt).2≠0 then(zG,(Pb (Uz r.rj.hT h.hT m.gt) h.hT r.sa m.gt).2)else
 if (VY t r.rj r.j0 h m r.rB).2≠0 then(zG,(VY t r.rj r.j0 h m r.rB).2)else
 if (VY t r.rj r.j0 h m r.rB).1=false then(zG,16)else Zh t r h m
variable{t:AB}{r:ns}{h:AM}{m:AP}
theorem aP(a:KC t r=0)(b:(IZ t h).2=0)(c:L9 t r.rj.hT h.hT m.gt r.rB=0)(e:(JW t r.rj h m.gt).2=0)(f:(JW t r.rj h m.gt).1=m.qy):Tp t r.rj r.j0 h m r.rB=0:=by
 unfold Tp;rw[bk (by simp[(QE a).2.2]),bk (by simp[b]),bk (by simp[c]),bk (by simp[e]),az f]
end Go.Sf.Sc
namespace Go.Sf.Sc
open Go Go.Sf
instance:Inhabited ns:=⟨jp⟩
instance:Inhabited BW:=⟨⟨0,⟨⟨[],[]⟩,[]⟩⟩⟩
instance:Inhabited BB:=⟨zG⟩
structure cD(rules:List ns):Prop where
 len:rules.length<=12
 each:∀r∈rules,Xa r/\FA r.j0<=40
noncomputable def OQ(t:AB)(rules:List ns)(h:AM)(m:BW):BB×Int:=if m.ns<0\/rules.length<=m.ns then(zG,6)else PQ t (at' rules m.ns) h m.kx
noncomputable def Sx(t:AB)(rules:List ns):Int:=
 if (B9 t).2≠0 then(B9 t).2 else if 10<rules.length then 3 else(fst (fun i=>nz (KC t (at' rules i))) 0 rules.length).getD 0
noncomputable def Uu(t:AB)(rules:List ns)(h:AM):Int:=if Sx t rules≠0 then Sx t rules else(IZ t h).2
noncomputable def lL(t:AB)(rules:List ns)(h0:AM)(ms:List BW):List BB×AM:=
 ms.foldl (fun s m=>(s.1++[(OQ t rules s.2 m).1],(OQ t rules s.2 m).1.rr)) ([],h0)
noncomputable def jk(t:AB)(rules:List ns)(h0:AM)(ms:List BW)(i:Int):Int:=(OQ t rules (lL t rules h0 (ms.take i.toNat)).2 (at' ms i)).2
structure ZW(t:AB)(rules:List ns)(d:AL):Prop where
 given:Uu t rules d.rn=0
 few:d.po.length<=30
 moves:∀i:Int,0<=i->i<d.po.length->jk t rules d.rn d.po i=0
structure lP(h:AM)(s:BB):Prop where
 uw:s.sB.fq.length=h.hT.fq.length
 vh:s.sB.jj.length=h.hT.jj.length
 node:∀x∈s.sB.fq,-1<=x/\x<s.rr.hT.fq.length
 edge:∀x∈s.sB.jj,-1<=x/\x<s.rr.hT.jj.length
 sm:JZ s.rr
variable{t:AB}{x:AM}{L:Bb}
theorem d3(h:(My t x L).2=0):My t x L=(⟨x.hT,L.foldl D6 x.og⟩,0)/\L.any (dA t x)=false:=by
 unfold My at h|-
 grind
structure PP(t:AB)(r:ns)(h:AM)(m:AP):Prop where
 f:Gr t r h m
 sat:VY t r.rj r.j0 h m r.rB=(true,0)
 solve:JW t r.rj h m.gt=(m.qy,0)
 chk:L9 t r.rj.hT h.hT m.gt r.rB=0
 put:(My t (EM t r (Fx h (dS r h m)) (cS r h m)) (NB r (cS r h m) m.qy)).2=0
 few:(EM t r (Fx h (dS r h m)) (cS r h m)).hT.fq.length<=40/\(EM t r (Fx h (dS r h m)) (cS r h m)).hT.jj.length<=80
def ct(t:AB)(r:ns)(h:AM)(m:AP):AM:=⟨(EM t r (Fx h (dS r h m)) (cS r h m)).hT,(NB r (cS r h m) m.qy).foldl D6 (EM t r (Fx h (dS r h m)) (cS r h m)).og⟩
def Z3(t:AB)(r:ns)(h:AM)(m:AP):BB:=BB.mk r m h (ct t r h m) (ND h (dS r h m)) (cS r h m)
variable{r:ns}{h:AM}{m:AP}
theorem Xk(hf:Hm t)(fr:Xa r)(y:FA r.j0<=40)(e:(PQ t r h m).2=0):PP t r h m/\PQ t r h m=(Z3 t r h m,0):=by
 unfold PQ at e|-;split at e
 .rename_i b;exact absurd e b
 rename_i b;rw[bk b];split at e
 .rename_i c;exact absurd e c
 rename_i c;rw[bk c];split at e
 .cases e
 rename_i p;rw[bk p];split at e
 .rename_i f;exact absurd e f
 rename_i f;rw[bk f];split at e
 .cases e
 rename_i q;rw[bk q];split at e
 .rename_i k;exact absurd e k
 rename_i k;rw[bk k];split at e
 .rename_i o;exact absurd e o
 rename_i o;rw[bk o];split at e
 .cases e
 rename_i u;rw[bk u];have b:=Classical.not_not.1 b;have c:=Classical.not_not.1 c;have p:=Classical.not_not.1 p;have f:=Classical.not_not.1 f;have q:=Classical.not_not.1 q;have k:=Classical.not_not.1 k;have o:=Classical.not_not.1 o;obtain⟨_,_,_,z⟩:=gU hf y (aP b c p f q);have s:Gr t r h m:=⟨hf,fr,b,c,z,(aS k).1⟩;unfold Zh at e|-;split at e
 .rename_i j;exact absurd e j
 rename_i j;rw[bk j];have j:=Classical.not_not.1 j;obtain⟨w,A⟩:=d3 j;split at e
 .cases e
 rename_i a;rw[bk a];rw[w]at a;refine⟨⟨s,?_,?_,p,j,?_⟩,?_⟩
 .exact Prod.ext (by simpa using u) o
 .exact Prod.ext q f
 .simp[not_or]at a;exact a
 .rw[w];rfl
end Go.Sf.Sc
namespace Go.Sf.Sc
open Go Go.Sf
structure o7(m:gt)(g:hT):Prop where
 uw:m.fq.length<=1000
 vh:m.jj.length<=1000
 node:∀x∈m.fq,-1<=x/\x<g.fq.length
 edge:∀x∈m.jj,-1<=x/\x<g.jj.length
variable{t:AB}{rules:List ns}{h:AM}
theorem ay(hf:Hm t)(b:cD rules){m:BW}(e:(OQ t rules h m).2=0):
  (0<=m.ns/\m.ns<rules.length)/\PP t (at' rules m.ns) h m.kx/\OQ t rules h m=(Z3 t (at' rules m.ns) h m.kx,0):=by
 unfold OQ at e|-;split at e
 .cases e
 rename_i c;rw[bk c];have a:=b.each _ (B6 (l:=rules) (i:=m.ns) (by omega) (by omega));exact⟨by omega,Xk hf a.1 a.2 e⟩
theorem af(hf:Hm t)(e:Uu t rules h=0):Sx t rules=0/\(IZ t h).2=0/\(B9 t).2=0/\LY t h:=by grind[Uu,QT]
variable{x:AM}
theorem WY(h:JZ x):CH x=some x:=by
 have:=h.qz;have:=h.rg;have:=h.vals;unfold CH slices_Clone_int Dk;rw[GD (by unfold Br;omega),bs,GD (by unfold Br;omega),bs];rw[KH (fun i=>AM.mk x.hT (x.og.take i.toNat)) (by omega) (by rfl)]
 .rw[Int.toNat_natCast,List.take_length];rfl
 .intro i a b;have:=h.rows _ (B6 a b)
  grind [Ds,GD,Br,F6,Kh]
structure NR(m:AP):Prop where
 qz:m.gt.fq.length<=1000
 rg:m.gt.jj.length<=1000
 vars:m.qy.length<=1000
structure Ru(d:AL):Prop where
 start:JZ d.rn
 len:d.po.length<=1000
 moves:∀m∈d.po,NR m.kx
variable{r:ns}{m:AP}
theorem PP.small(s:PP t r h m):NR m:=by
 have b:=s.f.left;have a:=s.f.ro.left;have c:=s.f.at_.len;have e:=s.f.at_.q.vars;have:=a.qz;have:=a.rg;exact⟨by omega,by omega,by omega⟩
variable{d:AL}
theorem ZW.small(hf:Hm t)(a:cD rules)(h:ZW t rules d):Ru d:=by
 obtain ⟨_,_,c,e⟩:=af hf h.given;refine⟨Po hf c e,by have:=h.few;omega,fun m b=>?_⟩;obtain⟨i,f,j,rfl⟩:=DY b;have he:=h.moves i f j;unfold jk at he;exact(ay hf a he).2.1.small
theorem d6(h:NR m):Gk m=some m:=by
 have:=h.qz;have:=h.rg;have:=h.vars;unfold Gk;rw[GD (by unfold Br;omega),bs,GD (by unfold Br;omega),bs,GD (by unfold Br;omega),bs]
variable{α:Type}
theorem YI[Inhabited α]{σ:Type}{l:List α}(c:l.length<=1000)(g:List α->σ){f:Int->σ->Option σ}(h:∀(i:Int)s,0<=i->i<l.length->s.length<=1000->f i (g s)=some (g (s++[at' l i]))):rz f 0 l.length (g [])=some (g l):=by
 have:=KH (f:=f) (s:=g []) (fun i=>g (l.take i.toNat)) (a:=0) (b:=l.length) (by omega) rfl (fun i e j=>by
  grind [ec,Kh])
 rwa [Int.toNat_natCast,List.take_length]at this
theorem d5(h:Ru d):HK d=some d:=by
 unfold HK;rw[Wc h.start,bs];have:=YI (l:=d.po) h.len (fun l=>AL.mk d.rn l) (f:=fun(a:Int)(k:AL)=>
  (idx d.po a).bind fun b=>
  (idx d.po a).bind fun c=>
  (Gk c.kx).bind fun e=>
  (Am k.po [BW.mk b.ns e]).bind fun j=>
  some (AL.mk k.rn j)) (fun i s a o p=>by
   rw [Ds a o,bs,bs,d6 (h.moves _ (B6 a o)),bs,F6 (by simp;unfold Br;omega),bs])
 rw [this];rfl
end Go.Sf.Sc
namespace Go.Sf.Sc
open Go Go.Sf
end Go.Sf.Sc
namespace Go.Sf.Sc
open Go Go.Sf
end Go.Sf.Sc
namespace Go.Sf.Sc
open Go Go.Sf
end Go.Sf.Sc
namespace Go.Sf.Sc
open Go Go.Sf
variable{h:AM}
theorem V8:∃b,IK h=some b/\(b=true->JZ h):=by
 unfold IK K4;rw[bs];by_cases a:((!((decide ((h.hT.fq.length:Int)<=45))&&(decide ((h.hT.jj.length:Int)<=90))))||(decide (45<(h.og.length:Int))))=true
 .rw[az a];exact⟨false,rfl,fun h=>by cases h⟩
 rw [bk a,Mg (fun i=>decide (12<((at' h.og i).length:Int))) false]
 .cases e:DM (fun i=>decide (12<((at' h.og i).length:Int))) 0 h.og.length with
  |true=>exact⟨false,rfl,fun h=>by cases h⟩
  |false=>
   refine ⟨true,rfl,fun _=>?_⟩;rw[D4]at e;simp only[Bool.or_eq_true,Bool.not_eq_true',Bool.and_eq_false_iff,decide_eq_false_iff_not,sN,not_or]at a;refine⟨by omega,by omega,by omega,fun v hv=>?_⟩
   grind [DY]
 .intro i c f _;rw[Ds c f,bs,dR]
variable{m:AP}
theorem V9(a:(m.gt.fq.length:Int)<=140737488351232)(c:(m.gt.jj.length:Int)<=140737488351232):∃b,Es m 140=some b/\(b=true->NR m):=by
 unfold Es K5;rw[bs];refine⟨_,rfl,fun h=>?_⟩;rw[aY (by omega) a (by omega) c]at h;simp only[rt,sN]at h;exact⟨by omega,by omega,by omega⟩
theorem a6{m:BW}(h:(Dp m).Sm):(m.kx.gt.fq.length:Int)<=140737488351232/\(m.kx.gt.jj.length:Int)<=140737488351232:=by
 have a:TV.t1 [_,_,_,_]:=h;exact⟨(QV (e:=eI) a.2.1).1,(QV (e:=eI) a.2.2.1).1⟩
variable{d:AL}
theorem aX(w:∀m∈d.po,(Dp m).Sm){rJ:Int}(B:rJ<=100):∃b,Ji d rJ=some b/\(b=true->Ru d):=by
 obtain ⟨y,z,A⟩:=V8 (h:=d.rn);unfold Ji;rw[z,bs];by_cases k:((!y)||(decide (rJ<(d.po.length:Int))))=true
 .grind
 rw [bk k];simp only[Bool.or_eq_true,Bool.not_eq_true',sN,not_or,Bool.not_eq_false]at k;rcases Xy (f:=fun(c:Int)(_:Unit)=>
  (idx d.po c).bind fun o=>
  (Es o.kx 140).bind fun p=>
  if (!p)=true then
  some (.ret false)
  else
  some (.next ())) (fun i _=>∀j:Int,0<=j->j<i->NR (at' d.po j).kx) (fun _=>False) (fun r=>r=false) (a:=0) (b:=d.po.length) (s:=()) (by omega) (fun j k C=>by omega) (fun i s c u hi=>by
   have q:=a6 (w _ (B6 c u));obtain⟨b,e,f⟩:=V9 q.1 q.2;rw[Ds c u,bs,e,bs];cases b with
   |false=>exact .inr (.inr ⟨false,rfl,rfl⟩)|true=>
    refine .inl ⟨(),rfl,fun j D E=>?_⟩
    grind)with⟨s',e3,h3⟩|⟨r,e3,h3⟩
 .rw[e3,XN];have F:=h3.resolve_right id;refine⟨true,rfl,fun _=>⟨A k.1,by omega,fun m q=>?_⟩⟩
  grind [DY]
 grind [XO]
theorem bI(l:List BW):EP l l=some true:=by
 unfold EP;rw[bk (by simp),Mg (fun _=>false) false]
 .rw[show DM (fun _=>false) 0 (l.length:Int)=false from D4.2 fun _ _ _=>rfl];rfl
 .intro i a b _;simp only[Ds a b,bs];unfold J8;simp only[bG,bH,bs];simp
end Go.Sf.Sc
namespace Go.Sf.Sc
open Go Go.Sf
theorem Yh:JZ ⟨⟨[],[]⟩,[]⟩:=⟨by simp,by simp,by simp,fun v hv=>by cases hv⟩
end Go.Sf.Sc
