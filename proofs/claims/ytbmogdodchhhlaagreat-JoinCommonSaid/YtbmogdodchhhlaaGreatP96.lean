/- Plain lemmas: what the functions of the program and of the reference compute. -/
import Derived.Test.YtbmogdodchhhlaaGreatSfF
import Derived.Test.YtbmogdodchhhlaaGreatP46
set_option linter.all false
set_option maxRecDepth 100000
namespace Go.Sf.Sc
open Go Go.Sf
def Un(p g:fq)(m:hT):fq:=⟨m.ff.map (AE g.ff),p.gt⟩
variable{l:Fp}{n x:Int}
theorem LJ:x∈Bq l n↔(0<=x/\x<n)/\x∉l:=by
 unfold Bq;rw[List.mem_filter];constructor
 .grind[Int.natCast_nonneg,D1]
 .rintro⟨⟨a,b⟩,c⟩;refine⟨List.mem_map.2 ⟨x.toNat,List.mem_range.2 (by omega),Int.toNat_of_nonneg a⟩,?_⟩
  grind [hasB,D1]
theorem Ra(l:Fp)(n:Int):(Bq l n).Pairwise (·<·):=by grind[Bq,List.pairwise_lt_range.imp]
def H6(rk po:Fp):Fp:=(Bq po rk.length).map (AE rk)
variable{rk po:Fp}
theorem RQ:x∈H6 rk po↔∃i:Int,(0<=i/\i<rk.length)/\i∉po/\AE rk i=x:=by grind[H6,LJ]
def tC(rk po:Fp):Bool:=Dv (fun a=>Dv (fun b=>decide (AE rk a=AE rk b)&&(!hasB po a||!hasB po b)) (a+1) rk.length) 0 rk.length
theorem Ul(h:tC rk po=false){a b:Int}(a0:0<=a)(a1:a<rk.length)(k:0<=b)(j:b<rk.length)(o:a∈po)(e:AE rk a=AE rk b):b∈po:=by
 unfold tC at h;rw[Ef]at h;by_cases d:a=b
 .exact d▸o
 by_cases p:a<b
 .have c:=h a a0 a1;rw[Ef]at c;have f:=c b (by omega) j;rw[decide_eq_true e,Bool.true_and,Bool.or_eq_false_iff]at f
  grind [D1]
 .have c:=h b k j;rw[Ef]at c;have f:=c a (by omega) a1;rw[decide_eq_true e.symm,Bool.true_and,Bool.or_eq_false_iff]at f
  grind [D1]
variable{i:Int}
theorem N5(h:tC rk po=false)(a:0<=i)(b:i<rk.length)(c:i∈po):AE rk i∉H6 rk po:=by grind[RQ,Ul]
def UX(g:fq)(po:At)(m:hT)(i:Int):Bool:=
 !hasB m.gt i&&(hasB (H6 m.ff po.ff) (AE g.gt i).r9||hasB (H6 m.ff po.ff) (AE g.gt i).To)
def MJ(g:fq)(po:At)(m:hT):At:=⟨Bq (H6 m.ff po.ff) g.ff.length,Bq (H6 m.gt po.gt) g.gt.length⟩
def Pm(l g:fq)(po:At)(m:hT):At×Int:=
 if NF l g m≠0 then(⟨[],[]⟩,NF l g m)else if KO l po≠0 then(⟨[],[]⟩,KO l po)else
 if (tC m.ff po.ff||tC m.gt po.gt)=true then(⟨[],[]⟩,15)else
 if Dv (UX g po m) 0 g.gt.length=true then(⟨[],[]⟩,14)else(MJ g po m,0)
structure SI(l g:fq)(po:At)(m:hT):Prop where
 mor:Ry l g m
 part:SM l po
 rf:tC m.ff po.ff=false
 rr:tC m.gt po.gt=false
 free:∀i:Int,0<=i->i<g.gt.length->UX g po m i=false
variable{g:fq}
theorem Xk{p:At}(h:KO g p=0):CZ g=0/\Og g p=0:=by grind[KO]
theorem Zn{l g:fq}{po:At}{m:hT}(h:(Pm l g po m).2=0):SI l g po m/\Pm l g po m=(MJ g po m,0):=by
 unfold Pm at h|-;split at h
 .grind
 rename_i b;rw[az b];split at h
 .grind
 rename_i c;rw[az c];split at h
 .grind
 rename_i a;rw[az a];split at h
 .grind
 rename_i d;rw[az d];simp[not_or]at a;exact⟨⟨Ut (Classical.not_not.1 b),V7 (Xk (Classical.not_not.1 c)).2,a.1,a.2,Ef.1 (by simpa using d)⟩,rfl⟩
theorem WG{l g:fq}{po:At}{m:hT}(h:SI l g po m):Og g (MJ g po m)=0:=by
 have j:=h.mor;have y:=j.gb;have z:∀x∈(MJ g po m).ff,0<=x/\x<g.ff.length:=fun x c=>Kj c;have A:∀x∈(MJ g po m).gt,0<=x/\x<g.gt.length:=fun x c=>Kj c;have b:∀{l:Fp}{n:Int},(∀x∈l,0<=x/\x<n)->l.Pairwise (·<·)->O4 l n=0:=by
  grind [O4,Cu,Ci,Ow]
 unfold Og;rw[b z (Ra _ _),b A (Ra _ _)];simp;rw[Cu.2 fun i u w=>?_]
 .rfl
 have c:=Ci u w;generalize AE (MJ g po m).gt i=x at c;have a:(0<=x/\x<g.gt.length)/\x∉H6 m.gt po.gt:=LJ.1 c;have hf:=y.fit _ (Ci a.1.1 a.1.2);have o:(AE g.gt x).r9∉H6 m.ff po.ff/\(AE g.gt x).To∉H6 m.ff po.ff:=by
  by_cases hi:x∈m.gt
  .obtain⟨k,q,s,e⟩:=Ec hi;have d:k∈po.gt:=by
    by_cases d:k∈po.gt
    .exact d
    .exact absurd (RQ.2 ⟨k,⟨q,s⟩,d,e⟩) a.2
   have ends:=h.part.ends k d;have he:=j.edge k q s;rw[e]at he;have p:=h.part.rf.1;have B:=p _ ends.1;have C:=p _ ends.2;have E:=j.uX;rw[<-he.2.2.1,<-he.2.2.2];exact⟨N5 h.rf B.1 (by omega) ends.1,N5 h.rf C.1 (by omega) ends.2⟩
  .have hd:=h.free x a.1.1 a.1.2;unfold UX at hd;rw[show hasB m.gt x=false from by cases D:hasB m.gt x with|false=>rfl|true=>exact absurd (D1.1 D) hi,Bool.not_false,Bool.true_and,Bool.or_eq_false_iff]at hd;exact⟨fun f=>by rw[D1.2 f]at hd;exact absurd hd.1 (by decide),fun f=>by rw[D1.2 f]at hd;exact absurd hd.2 (by decide)⟩
 grind [hasB,MJ,AE,D1,LJ]
def Lt(n:Nat)(l:Fp):Fp:=(K0 n).map (Ij l)
variable{v:Int}
theorem Tx(h:v∉l):Ij l v=-1:=by grind[Ij,Cu,Ci]
theorem Zx(l:Fp)(v:Int):-1<=Ij l v/\Ij l v<l.length:=by
 by_cases h:v∈l
 .have:=OX h;omega
 .rw[Tx h];omega
theorem Uq:0<=Ij l v↔v∈l:=by grind[Tx,OX]
theorem Ym{n:Nat}(a:0<=i)(b:i<n):AE (Lt n l) i=Ij l i:=Q8 _ a b
def O8(po into at_:Fp)(n i:Int):Int:=if hasB into i=true then AE at_ (AE po (Ij into i))else n+(Bq into i).length
def ST(count:Nat)(po into at_:Fp)(n:Int):Fp:=(K0 count).map (O8 po into at_ n)
theorem Tq(count:Nat)(po into at_:Fp)(n:Int):(ST count po into at_ n).length=count:=by unfold ST;rw[f0,PU]
variable{count:Nat}{into at_:Fp}
theorem bi(a:0<=i)(b:i<count):AE (ST count po into at_ n) i=O8 po into at_ n i:=Q8 _ a b
end Go.Sf.Sc
namespace Go.Sf.Sc
open Go Go.Sf
def Wx(L:Bi):Prop:=∀p∈L,∀q∈L,p.1=q.1->p.2=q.2
theorem Wx.sub{L M:Bi}(h:Wx L)(a:∀p∈M,p∈L):Wx M:=fun p b q c=>h p (a p b) q (a q c)
def fV(L:Bi):Bool:=Dv (fun i=>Dv (fun k=>decide ((AE L k).1=(AE L i).1)&&!decide ((AE L k).2=(AE L i).2)) 0 i) 0 L.length
end Go.Sf.Sc
namespace Go.Sf.Sc
open Go Go.Sf
end Go.Sf.Sc
namespace Go.Sf.Sc
open Go Go.Sf
structure Yr(count:Nat)(po into at_:Fp):Prop where
 few:count<=1000
 nodup:into.Nodup
 len:into.length=po.length
 inn:∀x∈into,0<=x/\x<count
 kin:∀x∈po,0<=x/\x<at_.length
 pos:∀x∈po,0<=AE at_ x
variable{po into at_:Fp}{n i:Int}
theorem Zm(h:i∈into):O8 po into at_ n i=AE at_ (AE po (Ij into i)):=by grind[O8,D1]
theorem XH(h:i∉into):O8 po into at_ n i=n+(Bq into i).length:=by grind[O8,D1]
end Go.Sf.Sc
namespace Go.Sf.Sc
open Go Go.Sf
def Na(h:AF)(d:At):hT:=⟨Lt h.fq.ff.length d.ff,Lt h.fq.gt.length d.gt⟩
def jw(r:o4)(h:AF)(m:hT)(d:At):hT:=
 ⟨ST r.o3.fq.ff.length r.sA.ff r.sn.ff (m.ff.map (AE (Na h d).ff)) d.ff.length,
 ST r.o3.fq.gt.length r.sA.gt r.sn.gt (m.gt.map (AE (Na h d).gt)) d.gt.length⟩
def cL(t:AB)(k:Int):Fp:=(BS t k).map fun x=>x.uk
def cM(tr:Fp)(e:Bh):Bh:=⟨e.rz,AE tr e.r9,AE tr e.To⟩
def jX(r:o4)(x:AF)(i:Int):Fp:=x.fq.ff++(Bq r.sn.ff i).map (AE r.o3.fq.ff)
def jY(t:AB)(r:o4)(x:AF)(i:Int):List Fp:=x.ne++(Bq r.sn.ff i).map fun k=>cL t (AE r.o3.fq.ff k)
def jW(r:o4)(c:hT)(x:AF)(i:Int):List Bh:=x.fq.gt++(Bq r.sn.gt i).map fun k=>cM c.ff (AE r.o3.fq.gt k)
def EP(t:AB)(r:o4)(x:AF)(c:hT):AF:=⟨⟨jX r x r.o3.fq.ff.length,jW r c x r.o3.fq.gt.length⟩,jY t r x r.o3.fq.ff.length⟩
def GF(h:AF)(d:At):AF:=⟨⟨d.ff.map (AE h.fq.ff),d.gt.map fun x=>cM (Na h d).ff (AE h.fq.gt x)⟩,d.ff.map (AE h.ne)⟩
structure LX(x:AF):Prop where
 rf:x.fq.ff.length<=1000
 rr:x.fq.gt.length<=1000
 vals:x.ne.length<=1000
 rows:∀v∈x.ne,v.length<=1000
structure ap(t:AB)(r:o4)(c:hT):Prop where
 hf:IY t
 hv:(CE t).2=0
 g:F3 r.o3.fq
 kind:∀n∈r.o3.fq.ff,0<=n/\n<t.ff.length
 cn:c.ff.length=r.o3.fq.ff.length
structure dm(h:AF)(d:At):Prop where
 sm:LX h
 len:h.ne.length=h.fq.ff.length
 rf:(∀x∈d.ff,0<=x/\x<h.fq.ff.length)/\d.ff.length<=1000
 rr:(∀x∈d.gt,0<=x/\x<h.fq.gt.length)/\d.gt.length<=1000
 ends:∀e∈h.fq.gt,(0≤e.r9/\e.r9<h.fq.ff.length)/\0≤e.To/\e.To<h.fq.ff.length
end Go.Sf.Sc
namespace Go.Sf.Sc
open Go Go.Sf
def iO(c:hT)(vars:Fp)(s:Bw):(Int×Int)×Int:=((AE c.ff s.sr,s.ri),Oi s.rg vars)
def NX(r:o4)(c:hT)(vars:Fp):Bi:=r.o3.pq.map (iO c vars)
def be(t:AB)(x:AF)(p:(Int×Int)×Int):Bool:=
 decide (p.2<(AE (BS t (AE x.fq.ff p.1.1)) p.1.2).uk)||decide ((AE (BS t (AE x.fq.ff p.1.1)) p.1.2).tl<p.2)
structure dl(t:AB)(r:o4)(c:hT)(vars:Fp)(x:AF):Prop where
 hf:IY t
 hv:(CE t).2=0
 few:r.o3.pq.length<=1000
 fewv:vars.length<=1000
 slot:∀s∈r.o3.pq,(0<=s.sr/\s.sr<c.ff.length)/\(-1<=s.rg.Var/\s.rg.Var<vars.length)/\
  (0<=AE c.ff s.sr/\AE c.ff s.sr<x.fq.ff.length)/\(0<=s.ri/\s.ri<(BS t (AE x.fq.ff (AE c.ff s.sr))).length)
 kind:∀n∈x.fq.ff,0<=n/\n<t.ff.length
 vlen:x.ne.length=x.fq.ff.length
 rows:∀i:Int,0<=i->i<x.fq.ff.length->(AE x.ne i).length=(BS t (AE x.fq.ff i)).length
def NP(t:AB)(x:AF)(L:Bi):AF×Int:=
 if fV L=true then(⟨⟨[],[]⟩,[]⟩,11)else if L.any (be t x)=true then(⟨⟨[],[]⟩,[]⟩,6)else(⟨x.fq,L.foldl D9 x.ne⟩,0)
end Go.Sf.Sc
namespace Go.Sf.Sc
open Go Go.Sf
variable{t:AB}{r:o4}
theorem QP(h:LM t r=0):Je t r.rh=0/\Kk t r=0/\Pn t r.rh r.hV=0:=by grind[LM]
theorem Tc(h:Kk t r=0):r.o3.q0=r.rh.q0/\r.o3.pq.length<=10/\∀i:Int,0<=i->i<r.o3.pq.length->SD t r.o3 i=0:=by
 unfold Kk at h;split at h
 .omega
 split at h
 .cases h
 split at h
 .cases h
 split at h
 .cases h
 rename_i a b c d;exact⟨by omega,by omega,Pt h⟩
variable{i:Int}
theorem VG{p:j0}(h:SD t p i=0):(0<=(AE p.pq i).sr/\(AE p.pq i).sr<p.fq.ff.length)/\
  (0<=(AE p.pq i).ri/\(AE p.pq i).ri<(Nl t (AE p.fq.ff (AE p.pq i).sr)).1.length)/\-1<=(AE p.pq i).rg.Var/\(AE p.pq i).rg.Var<p.q0:=by
 unfold SD at h;dsimp only at h;split at h
 .cases h
 split at h
 .cases h
 rename_i b a;simp[tI]at a;omega
structure HQ(t:AB)(r:o4)(h:AF)(m:AM):Prop where
 hf:IY t
 fr:W4 r
 re:LM t r=0
 he:(JW t h).2=0
 at_:iS t r.rh h m
 co:SI (Un r.rh.fq h.fq m.hT) h.fq r.sA m.hT
abbrev dS(r:o4)(h:AF)(m:AM):At:=MJ h.fq r.sA m.hT
abbrev cS(r:o4)(h:AF)(m:AM):hT:=jw r h m.hT (dS r h m)
variable{h:AF}{m:AM}
theorem HQ.hv(s:HQ t r h m):(CE t).2=0:=(T7 s.re).1
theorem HQ.ro(s:HQ t r h m):Va t r:=(T7 s.re).2
theorem HQ.hh(s:HQ t r h m):Mc t h:=(Qd s.hf s.he).2
theorem Px(hf:IY t)(hv:(CE t).2=0)(hh:Mc t h):LX h:=by
 have c:=hh.g.rf;have d:=hh.g.rr;have e:=hh.len;refine⟨by omega,by omega,by omega,fun v a=>?_⟩;obtain⟨i,b,k,rfl⟩:=Ec a;have f:=hh.row i b (by omega);have j:=UT hf (Int.le_refl _) (Oj hv).par (hh.kind i b (by omega)).2;omega
theorem HQ.rem(s:HQ t r h m):dm h (dS r h m):=by
 have hh:=s.hh;have b:=hh.g.rf;have c:=hh.g.rr;have l1:=Rb (H6 m.hT.ff r.sA.ff) h.fq.ff.length;have l2:=Rb (H6 m.hT.gt r.sA.gt) h.fq.gt.length;exact⟨Px s.hf s.hv hh,hh.len,⟨fun x a=>Kj a,by show(Bq _ _).length<=1000;omega⟩,⟨fun x a=>Kj a,by show(Bq _ _).length<=1000;omega⟩,fun e he=>(hh.g.fit e he).2⟩
theorem HQ.part(s:HQ t r h m):KO h.fq (dS r h m)=0:=by
 unfold KO;rw[az (by simp[s.hh.ge])];exact WG s.co
variable{count:Nat}{po into rk:Fp}
theorem bj{n:Nat}{Lb:Fp}(few:count<=1000)(nodup:into.Nodup)(len:into.length=po.length)(inn:∀x∈into,0<=x/\x<count)
  (kin:∀x∈po,0<=x/\x<rk.length)(b:∀x∈rk,0<=x/\x<n)(hi:tC rk po=false)(c:Lb=H6 rk po):
  Yr count po into (rk.map (AE (Lt n (Bq Lb n))))/\(∀x∈po,AE (rk.map (AE (Lt n (Bq Lb n)))) x<(Bq Lb n).length)/\
  ∀x∈po,AE (rk.map (AE (Lt n (Bq Lb n)))) x=Ij (Bq Lb n) (AE rk x)/\AE rk x∈Bq Lb n:=by
 have e:∀x∈po,AE (rk.map (AE (Lt n (Bq Lb n)))) x=Ij (Bq Lb n) (AE rk x)/\AE rk x∈Bq Lb n:=fun x a=>by
  grind [Ci,Me,Ym,LJ,N5]
 refine ⟨⟨few,nodup,len,inn,fun x a=>by rw[f0];exact kin x a,fun x a=>?_⟩,fun x a=>?_,e⟩
 .rw[(e x a).1];exact Uq.2 (e x a).2
 .rw[(e x a).1];exact(Zx _ _).2
theorem HQ.left(s:HQ t r h m):m.hT.ff.length=r.rh.fq.ff.length/\m.hT.gt.length=r.rh.fq.gt.length:=⟨s.at_.m.uX,s.at_.m.vP⟩
theorem HQ.comN(s:HQ t r h m):Yr r.o3.fq.ff.length r.sA.ff r.sn.ff (m.hT.ff.map (AE (Na h (dS r h m)).ff))/\
  (∀x∈r.sA.ff,AE (m.hT.ff.map (AE (Na h (dS r h m)).ff)) x<(dS r h m).ff.length)/\
  ∀x∈r.sA.ff,AE (m.hT.ff.map (AE (Na h (dS r h m)).ff)) x=Ij (dS r h m).ff (AE m.hT.ff x)/\AE m.hT.ff x∈(dS r h m).ff:=by
 have ro:=s.ro;have d:=ro.right.rf;refine bj (by omega) ro.inj.1 ?_ (fun x a=>?_) (fun x a=>?_) (fun x a=>?_) s.co.rf rfl
 .have:=ro.mor.uX;rw[this];exact f0 ..
 .obtain⟨i,b,c,rfl⟩:=Ec a;exact(ro.mor.node i b c).1
 .have:=ro.part.rf.1 x a;have:=s.left.1;omega
 .obtain⟨i,b,c,rfl⟩:=Ec a;exact(s.at_.m.node i b c).1
theorem HQ.grow(s:HQ t r h m):ap t r (cS r h m):=
 ⟨s.hf,s.hv,s.ro.right,(I4 s.ro.right s.ro.u7).1,Tq _ _ _ _ _⟩
theorem Oz(l:Fp)(a:0<=i):∀(k:Nat),∃s,Bq l (i+k)=Bq l i++s
 |0=>⟨[],by simp⟩|k+1=>by
  obtain ⟨s,e⟩:=Oz l a k
  grind [QO,fd]
variable{l:Fp}{n:Int}
theorem Xq(a:0<=i)(b:i<n)(h:i∉l):AE (Bq l n) (Bq l i).length=i/\((Bq l i).length:Int)<(Bq l n).length:=by
 obtain ⟨s,e⟩:=Oz l (i:=i+1) (by omega) (n-(i+1)).toNat
 rw [show i+1+((n-(i+1)).toNat:Int)=n by omega,QO l a]at e
 grind [hasB,D1,AE]
variable{α:Type}
theorem ba[Inhabited α]{l m:List α}(a:0<=i)(b:i<l.length):AE (l++m) i=AE l i:=by grind[Nk]
theorem bc[Inhabited α]{l m:List α}{n:Nat}:AE (l++m) (l.length+n:Int)=AE m n:=by grind[Nk,AE,Int.toNat_natCast]
theorem HQ.kindAt(s:HQ t r h m)(j:0<=i)(k:i<r.o3.fq.ff.length):
  (0<=AE (cS r h m).ff i/\AE (cS r h m).ff i<(EP t r (GF h (dS r h m)) (cS r h m)).fq.ff.length)/\
  (BS t (AE r.o3.fq.ff i)).length<=(BS t (AE (EP t r (GF h (dS r h m)) (cS r h m)).fq.ff (AE (cS r h m).ff i))).length:=by
 obtain ⟨u,B,c3⟩:=s.comN;have w:AE (cS r h m).ff i=O8 r.sA.ff r.sn.ff (m.hT.ff.map (AE (Na h (dS r h m)).ff)) (dS r h m).ff.length i:=bi j k;have el:(EP t r (GF h (dS r h m)) (cS r h m)).fq.ff=(dS r h m).ff.map (AE h.fq.ff)++(LZ r).map (AE r.o3.fq.ff):=rfl;rw[w,el,ca,f0,f0];by_cases hi:i∈r.sn.ff
 .have a:=OX hi;have C:=u.len;have c:=Ci (l:=r.sA.ff) a.1 (by omega);have o:=c3 _ c;have p:=B _ c;have e:=u.pos _ c;rw[Zm hi];refine⟨⟨e,by push_cast;omega⟩,?_⟩;rw[ba e (by rw[f0];exact p),Me e p,o.1,(OX o.2).2.2.1];have d:=s.ro.part.rf.1 _ c;have y:=s.left.1;have f:=s.at_.m.node _ d.1 (by omega);have z:=s.hh.kind _ f.1.1 f.1.2;have q:=s.ro.mor.node _ a.1 a.2.1;rw[a.2.2.1]at q;have A:AE (QJ r.rh.fq r.sA).ff (Ij r.sn.ff i)=AE r.rh.fq.ff (AE r.sA.ff (Ij r.sn.ff i)):=Me a.1 (by omega);rw[q.2,A];exact RT (Oj s.hv) z.2 f.2
 .have d:=Xq j k hi;rw[XH hi];have b:((dS r h m).ff.map (AE h.fq.ff)).length=(dS r h m).ff.length:=f0 ..;refine⟨⟨by omega,?_⟩,?_⟩
  .have:((LZ r).length:Int)=(Bq r.sn.ff r.o3.fq.ff.length).length:=rfl
   push_cast
   omega
  .rw[<-b,bc,show LZ r=Bq r.sn.ff r.o3.fq.ff.length from rfl,Me (by omega) d.2];show _<=(BS t (AE r.o3.fq.ff (AE (Bq r.sn.ff r.o3.fq.ff.length) (Bq r.sn.ff i).length))).length;rw[d.1];exact bk _
theorem HQ.rows(s:HQ t r h m):(EP t r (GF h (dS r h m)) (cS r h m)).ne.map (fun v=>v.length)=(EP t r (GF h (dS r h m)) (cS r h m)).fq.ff.map fun n=>(BS t n).length:=by
 show (List.map _ (_++_))=List.map _ (_++_);rw[List.map_append,List.map_append];congr 1
 .show((dS r h m).ff.map (AE h.ne)).map _=((dS r h m).ff.map (AE h.fq.ff)).map _;rw[List.map_map,List.map_map];refine List.map_congr_left fun x a=>?_;have a:=s.rem.rf.1 x a;exact s.hh.row x a.1 a.2
 grind [List.map_map,List.map_congr_left,cL,f0]
theorem HQ.put(s:HQ t r h m):dl t r (cS r h m) m.q0 (EP t r (GF h (dS r h m)) (cS r h m)):=by
 obtain ⟨C,w,D⟩:=QP s.re;obtain⟨hv,E,k⟩:=Tc w;have z:=s.at_.q.vars;have o:=s.at_.len;have f:=s.rows;have j:(EP t r (GF h (dS r h m)) (cS r h m)).ne.length=(EP t r (GF h (dS r h m)) (cS r h m)).fq.ff.length:=by
  grind [List.length,f0]
 refine ⟨s.hf,s.hv,by omega,by omega,fun x a=>?_,fun n b=>?_,j,fun i c e=>?_⟩
 .obtain⟨i,c,e,rfl⟩:=Ec a;obtain⟨d,y,F⟩:=VG (k i c e);have p:=(I4 s.ro.right s.ro.u7).1 _ (Ci d.1 d.2);rw[RD s.hv p.1 p.2]at y;obtain⟨G,H⟩:=s.kindAt d.1 d.2;have u:(cS r h m).ff.length=r.o3.fq.ff.length:=Tq _ _ _ _ _
  grind
 .have b:n∈(dS r h m).ff.map (AE h.fq.ff)++(LZ r).map (AE r.o3.fq.ff):=b;rcases List.mem_append.1 b with b|b
  .obtain⟨x,a,rfl⟩:=List.mem_map.1 b;have a:=s.rem.rf.1 x a;exact s.hh.kind x a.1 a.2
  .obtain⟨x,a,rfl⟩:=List.mem_map.1 b;have a:=Kj a;exact(I4 s.ro.right s.ro.u7).1 _ (Ci a.1 a.2)
 .have A:=Me (l:=(EP t r (GF h (dS r h m)) (cS r h m)).ne) (g:=fun v=>v.length) c (by omega);have B:=Me (l:=(EP t r (GF h (dS r h m)) (cS r h m)).fq.ff) (g:=fun n=>(BS t n).length) c e
  grind
end Go.Sf.Sc
namespace Go.Sf.Sc
open Go Go.Sf
abbrev il:o4:=o4.mk (⟨#[]⟩:ByteArray) (j0.mk (fq.mk [] []) [] 0 []) (j0.mk (fq.mk [] []) [] 0 []) (At.mk [] []) (hT.mk [] []) false (hV.mk 0 [] (hT.mk [] []) (j0.mk (fq.mk [] []) [] 0 []))
abbrev zG:AT:=AT.mk il (AM.mk (hT.mk [] []) []) (AF.mk (fq.mk [] []) []) (AF.mk (fq.mk [] []) []) (hT.mk [] []) (hT.mk [] [])
def Y5(t:AB)(r:o4)(h:AF)(m:AM):AT×Int:=
 if (NP t (EP t r (GF h (dS r h m)) (cS r h m)) (NX r (cS r h m) m.q0)).2≠0 then(zG,(NP t (EP t r (GF h (dS r h m)) (cS r h m)) (NX r (cS r h m) m.q0)).2)else
 if 40<(NP t (EP t r (GF h (dS r h m)) (cS r h m)) (NX r (cS r h m) m.q0)).1.fq.ff.length\/80<(NP t (EP t r (GF h (dS r h m)) (cS r h m)) (NX r (cS r h m) m.q0)).1.fq.gt.length then(zG,3)else
 (AT.mk r m h (NP t (EP t r (GF h (dS r h m)) (cS r h m)) (NX r (cS r h m) m.q0)).1 (Na h (dS r h m)) (cS r h m),0)
noncomputable def Pc(t:AB)(r:o4)(h:AF)(m:AM):AT×Int:=
 if LM t r≠0 then(zG,LM t r)else if(JW t h).2≠0 then(zG,(JW t h).2)else
 if M2 t r.rh.fq h.fq m.hT r.r7≠0 then(zG,1)else
 if (KZ t r.rh h m.hT).2≠0 then(zG,(KZ t r.rh h m.hT).2)else if¬(KZ t r.rh h m.hT).1=m.q0 then(zG,11)else
 if (Pm (Un r.rh.fq h.fq m.hT) h.fq r.sA m.hT).2≠0 then(zG,(Pm (Un r.rh.fq h.fq m.hT) h.fq r.sA m.hT).2)else
 if (VE t r.rh r.hV h m r.r7).2≠0 then(zG,(VE t r.rh r.hV h m r.r7).2)else
 if (VE t r.rh r.hV h m r.r7).1=false then(zG,16)else Y5 t r h m
variable{t:AB}{r:o4}{h:AF}{m:AM}
theorem Zk(a:LM t r=0)(b:(JW t h).2=0)(c:M2 t r.rh.fq h.fq m.hT r.r7=0)(d:(KZ t r.rh h m.hT).2=0)(e:(KZ t r.rh h m.hT).1=m.q0):Tp t r.rh r.hV h m r.r7=0:=by
 unfold Tp;rw[az (by simp[(QP a).2.2]),az (by simp[b]),az (by simp[c]),az (by simp[d]),ae e]
end Go.Sf.Sc
namespace Go.Sf.Sc
open Go Go.Sf
instance:Inhabited o4:=⟨il⟩
instance:Inhabited JO:=⟨⟨0,⟨⟨[],[]⟩,[]⟩⟩⟩
instance:Inhabited AT:=⟨zG⟩
structure ak(rules:List o4):Prop where
 len:rules.length<=12
 each:∀r∈rules,W4 r/\Fo r.hV<=40
noncomputable def OY(t:AB)(rules:List o4)(h:AF)(m:JO):AT×Int:=if m.o4<0\/rules.length<=m.o4 then(zG,6)else Pc t (AE rules m.o4) h m.ru
noncomputable def S6(t:AB)(rules:List o4):Int:=
 if (CE t).2≠0 then(CE t).2 else if 10<rules.length then 3 else(fst (fun i=>nz (LM t (AE rules i))) 0 rules.length).getD 0
noncomputable def Ui(t:AB)(rules:List o4)(h:AF):Int:=if S6 t rules≠0 then S6 t rules else(JW t h).2
noncomputable def j8(t:AB)(rules:List o4)(h0:AF)(ms:List JO):List AT×AF:=
 ms.foldl (fun s m=>(s.1++[(OY t rules s.2 m).1],(OY t rules s.2 m).1.r6)) ([],h0)
noncomputable def ic(t:AB)(rules:List o4)(h0:AF)(ms:List JO)(i:Int):Int:=(OY t rules (j8 t rules h0 (ms.take i.toNat)).2 (AE ms i)).2
structure Yu(t:AB)(rules:List o4)(d:B8):Prop where
 given:Ui t rules d.sa=0
 few:d.sK.length<=30
 moves:∀i:Int,0<=i->i<d.sK.length->ic t rules d.sa d.sK i=0
structure kC(h:AF)(s:AT):Prop where
 uX:s.rx.ff.length=h.fq.ff.length
 vP:s.rx.gt.length=h.fq.gt.length
 node:∀x∈s.rx.ff,-1<=x/\x<s.r6.fq.ff.length
 edge:∀x∈s.rx.gt,-1<=x/\x<s.r6.fq.gt.length
 sm:LX s.r6
variable{t:AB}{L:Bi}
theorem cW{x:AF}(h:(NP t x L).2=0):NP t x L=(⟨x.fq,L.foldl D9 x.ne⟩,0)/\L.any (be t x)=false:=by
 unfold NP at h|-
 grind
structure Pb(t:AB)(r:o4)(h:AF)(m:AM):Prop where
 f:HQ t r h m
 sat:VE t r.rh r.hV h m r.r7=(true,0)
 solve:KZ t r.rh h m.hT=(m.q0,0)
 chk:M2 t r.rh.fq h.fq m.hT r.r7=0
 put:(NP t (EP t r (GF h (dS r h m)) (cS r h m)) (NX r (cS r h m) m.q0)).2=0
 few:(EP t r (GF h (dS r h m)) (cS r h m)).fq.ff.length<=40/\(EP t r (GF h (dS r h m)) (cS r h m)).fq.gt.length<=80
def bX(t:AB)(r:o4)(h:AF)(m:AM):AF:=⟨(EP t r (GF h (dS r h m)) (cS r h m)).fq,(NX r (cS r h m) m.q0).foldl D9 (EP t r (GF h (dS r h m)) (cS r h m)).ne⟩
def ZP(t:AB)(r:o4)(h:AF)(m:AM):AT:=AT.mk r m h (bX t r h m) (Na h (dS r h m)) (cS r h m)
variable{r:o4}{h:AF}{m:AM}
theorem XE(hf:IY t)(fr:W4 r)(w:Fo r.hV<=40)(e:(Pc t r h m).2=0):Pb t r h m/\Pc t r h m=(ZP t r h m,0):=by
 unfold Pc at e|-;split at e
 .rename_i b;exact absurd e b
 rename_i b;rw[az b];split at e
 .rename_i c;exact absurd e c
 rename_i c;rw[az c];split at e
 .cases e
 rename_i o;rw[az o];split at e
 .rename_i d;exact absurd e d
 rename_i d;rw[az d];split at e
 .cases e
 rename_i p;rw[az p];split at e
 .rename_i j;exact absurd e j
 rename_i j;rw[az j];split at e
 .rename_i k;exact absurd e k
 rename_i k;rw[az k];split at e
 .cases e
 rename_i q;rw[az q];have b:=Classical.not_not.1 b;have c:=Classical.not_not.1 c;have o:=Classical.not_not.1 o;have d:=Classical.not_not.1 d;have p:=Classical.not_not.1 p;have j:=Classical.not_not.1 j;have k:=Classical.not_not.1 k;obtain⟨_,_,_,y⟩:=fL hf w (Zk b c o d p);have s:HQ t r h m:=⟨hf,fr,b,c,y,(Zn j).1⟩;unfold Y5 at e|-;split at e
 .rename_i f;exact absurd e f
 rename_i f;rw[az f];have f:=Classical.not_not.1 f;obtain⟨u,z⟩:=cW f;split at e
 .cases e
 rename_i a;rw[az a];rw[u]at a;refine⟨⟨s,?_,?_,o,f,?_⟩,?_⟩
 .exact Prod.ext (by simpa using q) k
 .exact Prod.ext p d
 .simp[not_or]at a;exact a
 .rw[u];rfl
end Go.Sf.Sc
namespace Go.Sf.Sc
open Go Go.Sf
structure pf(m:hT)(g:fq):Prop where
 uX:m.ff.length<=1000
 vP:m.gt.length<=1000
 node:∀x∈m.ff,-1<=x/\x<g.ff.length
 edge:∀x∈m.gt,-1<=x/\x<g.gt.length
variable{t:AB}{rules:List o4}{h:AF}
theorem Z2(hf:IY t)(b:ak rules){m:JO}(e:(OY t rules h m).2=0):
  (0<=m.o4/\m.o4<rules.length)/\Pb t (AE rules m.o4) h m.ru/\OY t rules h m=(ZP t (AE rules m.o4) h m.ru,0):=by
 unfold OY at e|-;split at e
 .cases e
 rename_i c;rw[az c];have a:=b.each _ (Ci (l:=rules) (i:=m.o4) (by omega) (by omega));exact⟨by omega,XE hf a.1 a.2 e⟩
theorem Zr(hf:IY t)(e:Ui t rules h=0):S6 t rules=0/\(JW t h).2=0/\(CE t).2=0/\Mc t h:=by grind[Ui,Qd]
structure Vb(m:AM):Prop where
 rf:m.hT.ff.length<=1000
 rr:m.hT.gt.length<=1000
 vars:m.q0.length<=1000
structure aq(d:B8):Prop where
 start:LX d.sa
 len:d.sK.length<=1000
 moves:∀m∈d.sK,Vb m.ru
variable{r:o4}{m:AM}
theorem Pb.small(s:Pb t r h m):Vb m:=by
 have b:=s.f.left;have a:=s.f.ro.left;have c:=s.f.at_.len;have d:=s.f.at_.q.vars;have:=a.rf;have:=a.rr;exact⟨by omega,by omega,by omega⟩
theorem Yu.small(hf:IY t)(a:ak rules){d:B8}(h:Yu t rules d):aq d:=by
 obtain ⟨_,_,c,e⟩:=Zr hf h.given;refine⟨Px hf c e,by have:=h.few;omega,fun m b=>?_⟩;obtain⟨i,f,j,rfl⟩:=Ec b;have he:=h.moves i f j;unfold ic at he;exact(Z2 hf a he).2.1.small
end Go.Sf.Sc
namespace Go.Sf.Sc
open Go Go.Sf
end Go.Sf.Sc
namespace Go.Sf.Sc
open Go Go.Sf
end Go.Sf.Sc
namespace Go.Sf.Sc
open Go Go.Sf
end Go.Sf.Sc
namespace Go.Sf.Sc
open Go Go.Sf
variable{h:AF}
theorem RJ:∃b,JE h=some b/\(b=true->LX h):=by
 unfold JE MF;rw[bs];by_cases a:((!((decide ((h.fq.ff.length:Int)<=45))&&(decide ((h.fq.gt.length:Int)<=90))))||(decide (45<(h.ne.length:Int))))=true
 .rw[ae a];exact⟨false,rfl,fun h=>by cases h⟩
 rw [az a,PA (fun i=>decide (12<((AE h.ne i).length:Int))) false]
 .cases e:Dv (fun i=>decide (12<((AE h.ne i).length:Int))) 0 h.ne.length with
  |true=>exact⟨false,rfl,fun h=>by cases h⟩
  |false=>
   refine ⟨true,rfl,fun _=>?_⟩;rw[Ef]at e;simp only[Bool.or_eq_true,Bool.not_eq_true',Bool.and_eq_false_iff,decide_eq_false_iff_not,tI,not_or]at a;refine⟨by omega,by omega,by omega,fun v hv=>?_⟩
   grind [Ec]
 .intro i c d _;rw[F8 c d,bs,bz]
end Go.Sf.Sc
namespace Go.Sf.Sc
open Go Go.Sf
def Ti(x:Int):Prop:=-9223372036854775808<=x/\x<=9223372036854775807
theorem aa{x y:Int}(a:Ti x)(b:Ti y):Az (x-y)=0↔x=y:=by
 unfold Ti at a b;rw[TG];split<;>omega
theorem WA{l m:Fp}(o:l.length<=1000)(p:m.length<=1000)(f:∀x∈l,Ti x)(j:∀x∈m,Ti x):∃v,Gu l m=some v/\(v=0↔l=m):=by
 unfold Gu;rw[af (fun i=>if AE l i=AE m i then none else some (.inr (Az (AE l i-AE m i)))) (b:=min (l.length:Int) m.length) (by omega)]
 .cases e:fst (fun i=>if AE l i=AE m i then(none:Option (Int ⊕ Int))else some (.inr (Az (AE l i-AE m i)))) 0 (min (l.length:Int) m.length)with
  |none=>
   refine ⟨_,rfl,?_⟩;rw[QT (by omega) (by omega)];rw[Cu]at e;constructor
   .intro h;refine Vj (by omega) fun i a d=>?_;have:=e i a (by omega)
    grind
   .rintro rfl;omega
  |some x=>
   obtain ⟨i,a,d,c,_⟩:=EX e;by_cases h:AE l i=AE m i
   .rw[ae h]at c;cases c
   .rw[az h]at c;cases c;refine⟨_,rfl,?_⟩;rw[aa (f _ (Ci a (by omega))) (j _ (Ci a (by omega)))];exact⟨fun k=>absurd k h,fun k=>by rw[k]⟩
 .intro i a d _;rw[ae (by simp;omega),F8 a (by omega),bs,F8 a (by omega),bs];by_cases h:AE l i=AE m i
  .rw[az (by simp[h]),ae h,QT (by omega) (by omega)];rfl
  .rw[ae (by simp[h]),az h,bs,bs];rfl
 .rw[az (by simp;omega)]
structure My(h:AF):Prop where
 s:LX h
 w:∀v∈h.ne,∀x∈v,Ti x
theorem Xi(l m:List Fp):CD l m slices_Equal_int=some (decide (l=m)):=by
 unfold CD;simp only[ZA,bs];exact OV l m
theorem T6(a b:AF):DO a b=some (decide (a=b)):=by
 unfold DO;rw[ZA,bs,cX,bs,Xi,bs];obtain⟨⟨n,e⟩,v⟩:=a;obtain⟨⟨j,k⟩,o⟩:=b;by_cases c:n=j<;>by_cases d:e=k<;>by_cases f:v=o<;>simp[c,d,f]
theorem Z8{a b:AF}(j:My a)(k:My b):Jm a b=some (decide (a=b)):=by
 unfold Jm;rw[Z7,bs];obtain⟨g,v⟩:=a;obtain⟨z,c⟩:=b;simp only[];by_cases e:g=z
 .subst e;by_cases f:v.length=c.length
  .rw[az (by simp[f]),PA (fun i=>!decide (AE v i=AE c i)) false]
   .have:=T8 (fun x y:Fp=>decide (x=y)) (l:=v) (m:=c) (fun _ _ _ _=>decide_eq_true_iff) f;by_cases h:v=c
    .rw[this.2 h,az (by simp),Wq];simp[h]
    .cases u:Dv (fun i=>!decide (AE v i=AE c i)) 0 v.length
     .exact absurd (this.1 u) h
     .rw[ae rfl,Wr];simp[h]
   .intro i d o _;have p:=Ci d o;have q:=Ci (l:=c) d (by omega);obtain⟨x,A,B⟩:=WA (j.s.rows _ p) (k.s.rows _ q) (j.w _ p) (k.w _ q);rw[F8 d o,bs,F8 d (by omega),bs,A,bs];by_cases h:AE v i=AE c i<;>simp[h,B]
  .rw[ae (by simp;omega)];have:v≠c:=fun h=>f (by rw[h]);simp[this]
 .rw[ae (by simp[e])];simp[e]
structure kD(s:AT):Prop where
 b:My s.rn
 a:My s.r6
end Go.Sf.Sc
namespace Go.Sf.Sc
open Go Go.Sf
variable{α:Type}
theorem PV{e:α->TV}:∀{l:List α},TV.sq (l.map e)->∀x∈l,(e x).WF
 |y::l,h,x,a=>by
  rcases List.mem_cons.1 a with rfl|a
  .exact h.1
  .exact PV h.2 x a
theorem Om{s:AT}(a:(Bp s).WF)(b:LX s.rn):My s.rn:=by
 have w':TV.sq [_,_,_,_,_,_,_,_,_,_,_,_,_,_,_,_,_,_,_,_,_,_,_,_,_,_,_,_,_,_,_,_,_,_,_,_,_,_]:=a;refine⟨b,fun v hv x c=>?_⟩;have d:=w'.2.2.2.2.2.2.2.2.2.2.2.2.2.2.2.2.2.2.2.2.2.2.2.2.2.2.2.2.2.2.1;have e:(TV.list 1 (s.rn.ne.map (eL 1 eI))).WF:=d;have f:(TV.list 1 (v.map eI)).WF:=PV e.2 v hv;exact PV f.2 x c
theorem TN{a b:AT}(u:My a.rn)(I:My b.rn):∃v,CT a b=some v/\GE a b=some v:=by
 have e:GE a b=CT a b:=by
  unfold GE CT;rw[T6,Z8 u I]
 rw [e]
 suffices h:∃v,CT a b=some v by
  obtain ⟨v,h⟩:=h;exact⟨v,h,h⟩
 unfold CT;rw[T6,bs];split
 .exact⟨_,rfl⟩
 .rename_i G;simp only[Bool.or_eq_true,Bool.not_eq_true',decide_eq_false_iff_not,not_or,Classical.not_not]at G;obtain⟨⟨⟨⟨O,P⟩,Q⟩,R⟩,S⟩:=G;have M:=u.s.rf;have N:=u.s.rr;obtain⟨s,J,D⟩:=Se (f:=fun(j:Int)(w:At)=>
   (idx a.rx.ff j).bind fun z=>
   (if(decide (0<=z))=true then((idx b.rx.ff j).bind fun A=>
   some (decide (0<=A)))else some false).bind fun B=>
   if B=true then
   (Ao w.ff [j]).bind fun C=>
   some (At.mk C w.gt)
   else
   some w) (fun i s=>(s.ff.length:Int)<=i/\s.gt=[]) (a:=0) (b:=a.rn.fq.ff.length) (s:=At.mk [] []) (by omega) ⟨by simp,rfl⟩ (fun i s j D hi=>by
    obtain ⟨T,H⟩:=hi;rw[F8 j (by omega),bs,F8 j (by omega),bs];have ev:∀c d:Bool,∃x,(if c=true then some d else some false)=some x:=fun c d=>by cases c<;>exact⟨_,rfl⟩
    obtain ⟨x,F⟩:=ev (decide (0<=AE a.rx.ff i)) (decide (0<=AE b.rx.ff i));rw[F,bs];cases x with
    |true=>
     rw [ae rfl,RB (by simp[CX];omega),bs];exact⟨_,rfl,by simp;omega,H⟩
    |false=>exact⟨s,rfl,by omega,H⟩)
  rw [J,bs];obtain⟨U,K,q⟩:=Se (f:=fun(q:Int)(y:At)=>
   (idx a.rx.gt q).bind fun E=>
   (if(decide (0<=E))=true then((idx b.rx.gt q).bind fun k=>
   some (decide (0<=k)))else some false).bind fun o=>
   if o=true then
   (Ao y.gt [q]).bind fun p=>
   some (At.mk y.ff p)
   else
   some y) (fun i s=>(s.gt.length:Int)<=i) (a:=0) (b:=a.rn.fq.gt.length) (s:=s) (by omega) (by rw[D.2];simp) (fun i s j D hi=>by
    rw [F8 j (by omega),bs,F8 j (by omega),bs];have ev:∀c d:Bool,∃x,(if c=true then some d else some false)=some x:=fun c d=>by cases c<;>exact⟨_,rfl⟩
    obtain ⟨x,F⟩:=ev (decide (0<=AE a.rx.gt i)) (decide (0<=AE b.rx.gt i));rw[F,bs];cases x with
    |true=>
     rw [ae rfl,RB (by simp[CX];omega),bs];exact⟨_,rfl,by simp;omega⟩
    |false=>exact⟨s,rfl,by omega⟩)
  rw [K,bs];exact⟨_,rfl⟩
theorem X3(p:At):Jk p p=some true:=by
 unfold Jk;rw[Q5,bs,Q5];simp
theorem QK(a b:AT)(c:(Bp a).WF)(d:(Bp b).WF):Gd a b=some true:=by
 obtain ⟨e,f,j⟩:=RJ (h:=a.rn);obtain⟨k,o,p⟩:=RJ (h:=b.rn);unfold Gd;rw[XF,bs,az (by decide),f,bs,bs];cases e with
 |false=>rfl|true=>
 rw [az (by decide),o,bs,bs];cases k with
 |false=>rfl|true=>
 obtain ⟨v,q,s⟩:=TN (Om c (j rfl)) (Om d (p rfl));split
 .rfl
 .rw[q,s,bs,bs,ae (by simp),X3];rfl
end Go.Sf.Sc
