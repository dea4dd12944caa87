/- Plain lemmas: what the functions of the program and of the reference compute. -/
import Derived.Test.YthhobbgaejimgaaGreatDoorSfF
import Derived.Test.YthhobbgaejimgaaGreatDoorP46
set_option linter.all false
set_option maxRecDepth 100000
namespace Go.Sf.Sc
open Go Go.Sf
def Uk(p g:d3)(m:ec):d3:=⟨m.ci.map (at' g.ci),p.d6⟩
variable{l:D1}
theorem KV{n x:Int}:x∈Bo l n↔(0<=x/\x<n)/\x∉l:=by
 unfold Bo;rw[List.mem_filter];constructor
 .grind[Int.natCast_nonneg,D3]
 .rintro⟨⟨a,b⟩,c⟩;refine⟨List.mem_map.2 ⟨x.toNat,List.mem_range.2 (by omega),Int.toNat_of_nonneg a⟩,?_⟩
  grind [hasB,D3]
theorem RB(l:D1)(n:Int):(Bo l n).Pairwise (·<·):=by grind[Bo,List.pairwise_lt_range.imp]
def Hj(images kq:D1):D1:=(Bo kq images.length).map (at' images)
variable{images kq:D1}
theorem Qz{x:Int}:x∈Hj images kq↔∃i:Int,(0<=i/\i<images.length)/\i∉kq/\at' images i=x:=by grind[Hj,KV]
def sv(images kq:D1):Bool:=ra (fun a=>ra (fun b=>decide (at' images a=at' images b)&&(!hasB kq a||!hasB kq b)) (a+1) images.length) 0 images.length
theorem Uh(h:sv images kq=false){a b:Int}(a0:0<=a)(a1:a<images.length)(b0:0<=b)(k:b<images.length)(o:a∈kq)(e:at' images a=at' images b):b∈kq:=by
 unfold sv at h;rw[CW]at h;by_cases f:a=b
 .exact f▸o
 by_cases p:a<b
 .have c:=h a a0 a1;rw[CW]at c;have j:=c b (by omega) k;rw[decide_eq_true e,Bool.true_and,Bool.or_eq_false_iff]at j
  grind [D3]
 .have c:=h b b0 k;rw[CW]at c;have j:=c a (by omega) a1;rw[decide_eq_true e.symm,Bool.true_and,Bool.or_eq_false_iff]at j
  grind [D3]
variable{i:Int}
theorem Nw(h:sv images kq=false)(a:0<=i)(b:i<images.length)(c:i∈kq):at' images i∉Hj images kq:=by grind[Qz,Uh]
def UW(g:d3)(kq:B3)(m:ec)(i:Int):Bool:=
 !hasB m.d6 i&&(hasB (Hj m.ci kq.ci) (at' g.d6 i).qx||hasB (Hj m.ci kq.ci) (at' g.d6 i).To)
def LN(g:d3)(kq:B3)(m:ec):B3:=⟨Bo (Hj m.ci kq.ci) g.ci.length,Bo (Hj m.d6 kq.d6) g.d6.length⟩
def Pj(l g:d3)(kq:B3)(m:ec):B3×Int:=
 if MQ l g m≠0 then(⟨[],[]⟩,MQ l g m)else if Jm l kq≠0 then(⟨[],[]⟩,Jm l kq)else
 if (sv m.ci kq.ci||sv m.d6 kq.d6)=true then(⟨[],[]⟩,15)else
 if ra (UW g kq m) 0 g.d6.length=true then(⟨[],[]⟩,14)else(LN g kq m,0)
structure Rp(l g:d3)(kq:B3)(m:ec):Prop where
 mor:RW l g m
 part:Rt l kq
 k7:sv m.ci kq.ci=false
 qr:sv m.d6 kq.d6=false
 free:∀i:Int,0<=i->i<g.d6.length->UW g kq m i=false
variable{g:d3}
theorem Xr{p:B3}(h:Jm g p=0):CC g=0/\Ob g p=0:=by grind[Jm]
theorem Z4{l g:d3}{kq:B3}{m:ec}(h:(Pj l g kq m).2=0):Rp l g kq m/\Pj l g kq m=(LN g kq m,0):=by
 unfold Pj at h|-;split at h
 .grind
 rename_i b;rw[a6 b];split at h
 .grind
 rename_i c;rw[a6 c];split at h
 .grind
 rename_i a;rw[a6 a];split at h
 .grind
 rename_i e;rw[a6 e];simp[not_or]at a;exact⟨⟨Us (Classical.not_not.1 b),WE (Xr (Classical.not_not.1 c)).2,a.1,a.2,CW.1 (by simpa using e)⟩,rfl⟩
theorem WQ{l g:d3}{kq:B3}{m:ec}(h:Rp l g kq m):Ob g (LN g kq m)=0:=by
 have o:=h.mor;have z:=o.gb;have A:∀x∈(LN g kq m).ci,0<=x/\x<g.ci.length:=fun x c=>J9 c;have B:∀x∈(LN g kq m).d6,0<=x/\x<g.d6.length:=fun x c=>J9 c;have b:∀{l:D1}{n:Int},(∀x∈l,0<=x/\x<n)->l.Pairwise (·<·)->O1 l n=0:=by
  grind [O1,B0,BC,Oq]
 unfold Ob;rw[b A (RB _ _),b B (RB _ _)];simp;rw[B0.2 fun i w y=>?_]
 .rfl
 have c:=BC w y;generalize at' (LN g kq m).d6 i=x at c;have a:(0<=x/\x<g.d6.length)/\x∉Hj m.d6 kq.d6:=KV.1 c;have hf:=z.fit _ (BC a.1.1 a.1.2);have p:(at' g.d6 x).qx∉Hj m.ci kq.ci/\(at' g.d6 x).To∉Hj m.ci kq.ci:=by
  by_cases hi:x∈m.d6
  .obtain⟨k,s,u,e⟩:=Cf hi;have f:k∈kq.d6:=by
    by_cases f:k∈kq.d6
    .exact f
    .exact absurd (Qz.2 ⟨k,⟨s,u⟩,f,e⟩) a.2
   have ends:=h.part.ends k f;have he:=o.edge k s u;rw[e]at he;have q:=h.part.k7.1;have C:=q _ ends.1;have D:=q _ ends.2;have F:=o.ue;rw[<-he.2.2.1,<-he.2.2.2];exact⟨Nw h.k7 C.1 (by omega) ends.1,Nw h.k7 D.1 (by omega) ends.2⟩
  .have hd:=h.free x a.1.1 a.1.2;unfold UW at hd;rw[show hasB m.d6 x=false from by cases E:hasB m.d6 x with|false=>rfl|true=>exact absurd (D3.1 E) hi,Bool.not_false,Bool.true_and,Bool.or_eq_false_iff]at hd;exact⟨fun j=>by rw[D3.2 j]at hd;exact absurd hd.1 (by decide),fun j=>by rw[D3.2 j]at hd;exact absurd hd.2 (by decide)⟩
 grind [hasB,LN,at',D3,KV]
def K0(n:Nat)(l:D1):D1:=(KK n).map (H4 l)
variable{v:Int}
theorem Tj(h:v∉l):H4 l v=-1:=by grind[H4,B0,BC]
theorem aG(l:D1)(v:Int):-1<=H4 l v/\H4 l v<l.length:=by
 by_cases h:v∈l
 .have:=OQ h;omega
 .rw[Tj h];omega
theorem Up:0<=H4 l v↔v∈l:=by grind[Tj,OQ]
theorem Ys{n:Nat}(a:0<=i)(b:i<n):at' (K0 n l) i=H4 l i:=Qj _ a b
def O5(kq into at_:D1)(n i:Int):Int:=if hasB into i=true then at' at_ (at' kq (H4 into i))else n+(Bo into i).length
def R0(count:Nat)(kq into at_:D1)(n:Int):D1:=(KK count).map (O5 kq into at_ n)
theorem Ta(count:Nat)(kq into at_:D1)(n:Int):(R0 count kq into at_ n).length=count:=by unfold R0;rw[c6,PQ]
variable{count:Nat}{into at_:D1}{n:Int}
theorem cf(a:0<=i)(b:i<count):at' (R0 count kq into at_ n) i=O5 kq into at_ n i:=Qj _ a b
end Go.Sf.Sc
namespace Go.Sf.Sc
open Go Go.Sf
def XA(L:Bf):Prop:=∀p∈L,∀q∈L,p.1=q.1->p.2=q.2
theorem XA.sub{L M:Bf}(h:XA L)(a:∀p∈M,p∈L):XA M:=fun p b q c=>h p (a p b) q (a q c)
def gT(L:Bf):Bool:=ra (fun i=>ra (fun k=>decide ((at' L k).1=(at' L i).1)&&!decide ((at' L k).2=(at' L i).2)) 0 i) 0 L.length
end Go.Sf.Sc
namespace Go.Sf.Sc
open Go Go.Sf
end Go.Sf.Sc
namespace Go.Sf.Sc
open Go Go.Sf
structure Yy(count:Nat)(kq into at_:D1):Prop where
 few:count<=1000
 nodup:into.Nodup
 len:into.length=kq.length
 inn:∀x∈into,0<=x/\x<count
 kin:∀x∈kq,0<=x/\x<at_.length
 pos:∀x∈kq,0<=at' at_ x
variable{kq into at_:D1}{n i:Int}
theorem Z3(h:i∈into):O5 kq into at_ n i=at' at_ (at' kq (H4 into i)):=by grind[O5,D3]
theorem XP(h:i∉into):O5 kq into at_ n i=n+(Bo into i).length:=by grind[O5,D3]
end Go.Sf.Sc
namespace Go.Sf.Sc
open Go Go.Sf
def Mq(h:AL)(d:B3):ec:=⟨K0 h.d3.ci.length d.ci,K0 h.d3.d6.length d.d6⟩
def kz(r:jj)(h:AL)(m:ec)(d:B3):ec:=
 ⟨R0 r.j4.d3.ci.length r.rN.ci r.rA.ci (m.ci.map (at' (Mq h d).ci)) d.ci.length,
 R0 r.j4.d3.d6.length r.rN.d6 r.rA.d6 (m.d6.map (at' (Mq h d).d6)) d.d6.length⟩
def dJ(t:AB)(k:Int):D1:=(Aq t k).map fun x=>x.s7
def dL(tr:D1)(e:Bv):Bv:=⟨e.qz,at' tr e.qx,at' tr e.To⟩
def kX(r:jj)(x:AL)(i:Int):D1:=x.d3.ci++(Bo r.rA.ci i).map (at' r.j4.d3.ci)
def kY(t:AB)(r:jj)(x:AL)(i:Int):List D1:=x.hT++(Bo r.rA.ci i).map fun k=>dJ t (at' r.j4.d3.ci k)
def kW(r:jj)(c:ec)(x:AL)(i:Int):List Bv:=x.d3.d6++(Bo r.rA.d6 i).map fun k=>dL c.ci (at' r.j4.d3.d6 k)
def EP(t:AB)(r:jj)(x:AL)(c:ec):AL:=⟨⟨kX r x r.j4.d3.ci.length,kW r c x r.j4.d3.d6.length⟩,kY t r x r.j4.d3.ci.length⟩
def GB(h:AL)(d:B3):AL:=⟨⟨d.ci.map (at' h.d3.ci),d.d6.map fun x=>dL (Mq h d).ci (at' h.d3.d6 x)⟩,d.ci.map (at' h.hT)⟩
structure Gq(x:AL):Prop where
 k7:x.d3.ci.length<=1000
 qr:x.d3.d6.length<=1000
 vals:x.hT.length<=1000
 rows:∀v∈x.hT,v.length<=1000
structure bc(t:AB)(r:jj)(c:ec):Prop where
 hf:CX t
 hv:(BL t).2=0
 g:F3 r.j4.d3
 kind:∀n∈r.j4.d3.ci,0<=n/\n<t.ci.length
 cn:c.ci.length=r.j4.d3.ci.length
variable{x:AL}
theorem Q9(h:Gq x):E2 x=some x:=by
 have:=h.k7;have:=h.qr;have:=h.vals;unfold E2 I2;rw[HT (by unfold Bi;omega),bs,HT (by unfold Bi;omega),bs,bs];rw[QZ (fun i=>AL.mk x.d3 (x.hT.take i.toNat)) (by omega) (by rfl)]
 .rw[Int.toNat_natCast,List.take_length];rfl
 .intro i a b;have:=h.rows _ (BC a b)
  grind [As,HT,Bi,DM,Kz]
structure fJ(h:AL)(d:B3):Prop where
 sm:Gq h
 len:h.hT.length=h.d3.ci.length
 k7:(∀x∈d.ci,0<=x/\x<h.d3.ci.length)/\d.ci.length<=1000
 qr:(∀x∈d.d6,0<=x/\x<h.d3.d6.length)/\d.d6.length<=1000
 ends:∀e∈h.d3.d6,(0≤e.qx/\e.qx<h.d3.ci.length)/\0≤e.To/\e.To<h.d3.ci.length
end Go.Sf.Sc
namespace Go.Sf.Sc
open Go Go.Sf
def jT(c:ec)(vars:D1)(s:CT):(Int×Int)×Int:=((at' c.ci s.rD,s.o3),Og s.qp vars)
def Mn(r:jj)(c:ec)(vars:D1):Bf:=r.j4.pr.map (jT c vars)
def cX(t:AB)(x:AL)(p:(Int×Int)×Int):Bool:=
 decide (p.2<(at' (Aq t (at' x.d3.ci p.1.1)) p.1.2).s7)||decide ((at' (Aq t (at' x.d3.ci p.1.1)) p.1.2).sb<p.2)
structure fI(t:AB)(r:jj)(c:ec)(vars:D1)(x:AL):Prop where
 hf:CX t
 hv:(BL t).2=0
 few:r.j4.pr.length<=1000
 fewv:vars.length<=1000
 slot:∀s∈r.j4.pr,(0<=s.rD/\s.rD<c.ci.length)/\(-1<=s.qp.Var/\s.qp.Var<vars.length)/\
  (0<=at' c.ci s.rD/\at' c.ci s.rD<x.d3.ci.length)/\(0<=s.o3/\s.o3<(Aq t (at' x.d3.ci (at' c.ci s.rD))).length)
 kind:∀n∈x.d3.ci,0<=n/\n<t.ci.length
 vlen:x.hT.length=x.d3.ci.length
 rows:∀i:Int,0<=i->i<x.d3.ci.length->(at' x.hT i).length=(Aq t (at' x.d3.ci i)).length
def Mc(t:AB)(x:AL)(L:Bf):AL×Int:=
 if gT L=true then(⟨⟨[],[]⟩,[]⟩,11)else if L.any (cX t x)=true then(⟨⟨[],[]⟩,[]⟩,6)else(⟨x.d3,L.foldl D9 x.hT⟩,0)
end Go.Sf.Sc
namespace Go.Sf.Sc
open Go Go.Sf
variable{t:AB}{r:jj}
theorem QM(h:KX t r=0):Iv t r.ql=0/\KA t r=0/\Pk t r.ql r.fd=0:=by grind[KX]
theorem TM(h:KA t r=0):r.j4.k8=r.ql.k8/\r.j4.pr.length<=10/\∀i:Int,0<=i->i<r.j4.pr.length->Ri t r.j4 i=0:=by
 unfold KA at h;split at h
 .omega
 split at h
 .cases h
 split at h
 .cases h
 split at h
 .cases h
 rename_i a b c e;exact⟨by omega,by omega,Pr h⟩
variable{i:Int}
theorem VM{p:ff}(h:Ri t p i=0):(0<=(at' p.pr i).rD/\(at' p.pr i).rD<p.d3.ci.length)/\
  (0<=(at' p.pr i).o3/\(at' p.pr i).o3<(Ie t (at' p.d3.ci (at' p.pr i).rD)).1.length)/\-1<=(at' p.pr i).qp.Var/\(at' p.pr i).qp.Var<p.k8:=by
 unfold Ri at h;dsimp only at h;split at h
 .cases h
 split at h
 .cases h
 rename_i b a;simp[sc]at a;omega
structure G9(t:AB)(r:jj)(h:AL)(m:AR):Prop where
 hf:CX t
 fr:XC r
 re:KX t r=0
 he:(Gc t h).2=0
 at_:jX t r.ql h m
 co:Rp (Uk r.ql.d3 h.d3 m.ec) h.d3 r.rN m.ec
abbrev dS(r:jj)(h:AL)(m:AR):B3:=LN h.d3 r.rN m.ec
abbrev cS(r:jj)(h:AL)(m:AR):ec:=kz r h m.ec (dS r h m)
variable{h:AL}{m:AR}
theorem G9.hv(s:G9 t r h m):(BL t).2=0:=(T1 s.re).1
theorem G9.ro(s:G9 t r h m):Vg t r:=(T1 s.re).2
theorem G9.hh(s:G9 t r h m):LZ t h:=(Qb s.hf s.he).2
theorem Pt(hf:CX t)(hv:(BL t).2=0)(hh:LZ t h):Gq h:=by
 have c:=hh.g.k7;have e:=hh.g.qr;have f:=hh.len;refine⟨by omega,by omega,by omega,fun v a=>?_⟩;obtain⟨i,b,o,rfl⟩:=Cf a;have j:=hh.row i b (by omega);have k:=Ig hf (Int.le_refl _) (IZ hv).par (hh.kind i b (by omega)).2;omega
theorem G9.rem(s:G9 t r h m):fJ h (dS r h m):=by
 have hh:=s.hh;have b:=hh.g.k7;have c:=hh.g.qr;have l1:=RC (Hj m.ec.ci r.rN.ci) h.d3.ci.length;have l2:=RC (Hj m.ec.d6 r.rN.d6) h.d3.d6.length;exact⟨Pt s.hf s.hv hh,hh.len,⟨fun x a=>J9 a,by show(Bo _ _).length<=1000;omega⟩,⟨fun x a=>J9 a,by show(Bo _ _).length<=1000;omega⟩,fun e he=>(hh.g.fit e he).2⟩
theorem G9.part(s:G9 t r h m):Jm h.d3 (dS r h m)=0:=by
 unfold Jm;rw[a6 (by simp[s.hh.ge])];exact WQ s.co
variable{count:Nat}{kq into images:D1}
theorem cg{n:Nat}{Ko:D1}(few:count<=1000)(nodup:into.Nodup)(len:into.length=kq.length)(inn:∀x∈into,0<=x/\x<count)
  (kin:∀x∈kq,0<=x/\x<images.length)(b:∀x∈images,0<=x/\x<n)(hi:sv images kq=false)(c:Ko=Hj images kq):
  Yy count kq into (images.map (at' (K0 n (Bo Ko n))))/\(∀x∈kq,at' (images.map (at' (K0 n (Bo Ko n)))) x<(Bo Ko n).length)/\
  ∀x∈kq,at' (images.map (at' (K0 n (Bo Ko n)))) x=H4 (Bo Ko n) (at' images x)/\at' images x∈Bo Ko n:=by
 have e:∀x∈kq,at' (images.map (at' (K0 n (Bo Ko n)))) x=H4 (Bo Ko n) (at' images x)/\at' images x∈Bo Ko n:=fun x a=>by
  grind [BC,Lb,Ys,KV,Nw]
 refine ⟨⟨few,nodup,len,inn,fun x a=>by rw[c6];exact kin x a,fun x a=>?_⟩,fun x a=>?_,e⟩
 .rw[(e x a).1];exact Up.2 (e x a).2
 .rw[(e x a).1];exact(aG _ _).2
theorem G9.left(s:G9 t r h m):m.ec.ci.length=r.ql.d3.ci.length/\m.ec.d6.length=r.ql.d3.d6.length:=⟨s.at_.m.ue,s.at_.m.uS⟩
theorem G9.comN(s:G9 t r h m):Yy r.j4.d3.ci.length r.rN.ci r.rA.ci (m.ec.ci.map (at' (Mq h (dS r h m)).ci))/\
  (∀x∈r.rN.ci,at' (m.ec.ci.map (at' (Mq h (dS r h m)).ci)) x<(dS r h m).ci.length)/\
  ∀x∈r.rN.ci,at' (m.ec.ci.map (at' (Mq h (dS r h m)).ci)) x=H4 (dS r h m).ci (at' m.ec.ci x)/\at' m.ec.ci x∈(dS r h m).ci:=by
 have ro:=s.ro;have e:=ro.right.k7;refine cg (by omega) ro.inj.1 ?_ (fun x a=>?_) (fun x a=>?_) (fun x a=>?_) s.co.k7 rfl
 .have:=ro.mor.ue;rw[this];exact c6 ..
 .obtain⟨i,b,c,rfl⟩:=Cf a;exact(ro.mor.node i b c).1
 .have:=ro.part.k7.1 x a;have:=s.left.1;omega
 .obtain⟨i,b,c,rfl⟩:=Cf a;exact(s.at_.m.node i b c).1
theorem G9.grow(s:G9 t r h m):bc t r (cS r h m):=
 ⟨s.hf,s.hv,s.ro.right,(IL s.ro.right s.ro.ub).1,Ta _ _ _ _ _⟩
theorem Ov(l:D1)(a:0<=i):∀(k:Nat),∃s,Bo l (i+k)=Bo l i++s
 |0=>⟨[],by simp⟩|k+1=>by
  obtain ⟨s,e⟩:=Ov l a k
  grind [QL,ca]
variable{l:D1}{n:Int}
theorem Xx(a:0<=i)(b:i<n)(h:i∉l):at' (Bo l n) (Bo l i).length=i/\((Bo l i).length:Int)<(Bo l n).length:=by
 obtain ⟨s,e⟩:=Ov l (i:=i+1) (by omega) (n-(i+1)).toNat
 rw [show i+1+((n-(i+1)).toNat:Int)=n by omega,QL l a]at e
 grind [hasB,D3,at']
variable{α:Type}
theorem cR[Inhabited α]{l m:List α}(a:0<=i)(b:i<l.length):at' (l++m) i=at' l i:=by grind[NR]
theorem cT[Inhabited α]{l m:List α}{n:Nat}:at' (l++m) (l.length+n:Int)=at' m n:=by grind[NR,at',Int.toNat_natCast]
theorem G9.kindAt(s:G9 t r h m)(k:0<=i)(o:i<r.j4.d3.ci.length):
  (0<=at' (cS r h m).ci i/\at' (cS r h m).ci i<(EP t r (GB h (dS r h m)) (cS r h m)).d3.ci.length)/\
  (Aq t (at' r.j4.d3.ci i)).length<=(Aq t (at' (EP t r (GB h (dS r h m)) (cS r h m)).d3.ci (at' (cS r h m).ci i))).length:=by
 obtain ⟨w,C,D⟩:=s.comN;have y:at' (cS r h m).ci i=O5 r.rN.ci r.rA.ci (m.ec.ci.map (at' (Mq h (dS r h m)).ci)) (dS r h m).ci.length i:=cf k o;have el:(EP t r (GB h (dS r h m)) (cS r h m)).d3.ci=(dS r h m).ci.map (at' h.d3.ci)++(Km r).map (at' r.j4.d3.ci):=rfl;rw[y,el,az,c6,c6];by_cases hi:i∈r.rA.ci
 .have a:=OQ hi;have E:=w.len;have c:=BC (l:=r.rN.ci) a.1 (by omega);have p:=D _ c;have q:=C _ c;have f:=w.pos _ c;rw[Z3 hi];refine⟨⟨f,by push_cast;omega⟩,?_⟩;rw[cR f (by rw[c6];exact q),Lb f q,p.1,(OQ p.2).2.2.1];have e:=s.ro.part.k7.1 _ c;have z:=s.left.1;have j:=s.at_.m.node _ e.1 (by omega);have A:=s.hh.kind _ j.1.1 j.1.2;have u:=s.ro.mor.node _ a.1 a.2.1;rw[a.2.2.1]at u;have B:at' (QE r.ql.d3 r.rN).ci (H4 r.rA.ci i)=at' r.ql.d3.ci (at' r.rN.ci (H4 r.rA.ci i)):=Lb a.1 (by omega);rw[u.2,B];exact Q4 (IZ s.hv) A.2 j.2
 .have e:=Xx k o hi;rw[XP hi];have b:((dS r h m).ci.map (at' h.d3.ci)).length=(dS r h m).ci.length:=c6 ..;refine⟨⟨by omega,?_⟩,?_⟩
  .have:((Km r).length:Int)=(Bo r.rA.ci r.j4.d3.ci.length).length:=rfl
   push_cast
   omega
  .rw[<-b,cT,show Km r=Bo r.rA.ci r.j4.d3.ci.length from rfl,Lb (by omega) e.2];show _<=(Aq t (at' r.j4.d3.ci (at' (Bo r.rA.ci r.j4.d3.ci.length) (Bo r.rA.ci i).length))).length;rw[e.1];exact ae _
theorem G9.rows(s:G9 t r h m):(EP t r (GB h (dS r h m)) (cS r h m)).hT.map (fun v=>v.length)=(EP t r (GB h (dS r h m)) (cS r h m)).d3.ci.map fun n=>(Aq t n).length:=by
 show (List.map _ (_++_))=List.map _ (_++_);rw[List.map_append,List.map_append];congr 1
 .show((dS r h m).ci.map (at' h.hT)).map _=((dS r h m).ci.map (at' h.d3.ci)).map _;rw[List.map_map,List.map_map];refine List.map_congr_left fun x a=>?_;have a:=s.rem.k7.1 x a;exact s.hh.row x a.1 a.2
 grind [List.map_map,List.map_congr_left,dJ,c6]
theorem G9.put(s:G9 t r h m):fI t r (cS r h m) m.k8 (EP t r (GB h (dS r h m)) (cS r h m)):=by
 obtain ⟨D,y,E⟩:=QM s.re;obtain⟨hv,F,o⟩:=TM y;have A:=s.at_.q.vars;have p:=s.at_.len;have j:=s.rows;have k:(EP t r (GB h (dS r h m)) (cS r h m)).hT.length=(EP t r (GB h (dS r h m)) (cS r h m)).d3.ci.length:=by
  grind [List.length,c6]
 refine ⟨s.hf,s.hv,by omega,by omega,fun x a=>?_,fun n b=>?_,k,fun i c f=>?_⟩
 .obtain⟨i,c,f,rfl⟩:=Cf a;obtain⟨e,z,G⟩:=VM (o i c f);have u:=(IL s.ro.right s.ro.ub).1 _ (BC e.1 e.2);rw[K7 s.hv u.1 u.2]at z;obtain⟨H,I⟩:=s.kindAt e.1 e.2;have w:(cS r h m).ci.length=r.j4.d3.ci.length:=Ta _ _ _ _ _
  grind
 .have b:n∈(dS r h m).ci.map (at' h.d3.ci)++(Km r).map (at' r.j4.d3.ci):=b;rcases List.mem_append.1 b with b|b
  .obtain⟨x,a,rfl⟩:=List.mem_map.1 b;have a:=s.rem.k7.1 x a;exact s.hh.kind x a.1 a.2
  .obtain⟨x,a,rfl⟩:=List.mem_map.1 b;have a:=J9 a;exact(IL s.ro.right s.ro.ub).1 _ (BC a.1 a.2)
 .have B:=Lb (l:=(EP t r (GB h (dS r h m)) (cS r h m)).hT) (g:=fun v=>v.length) c (by omega);have C:=Lb (l:=(EP t r (GB h (dS r h m)) (cS r h m)).d3.ci) (g:=fun n=>(Aq t n).length) c f
  grind
end Go.Sf.Sc
namespace Go.Sf.Sc
open Go Go.Sf
abbrev jo:jj:=jj.mk (⟨#[]⟩:ByteArray) (ff.mk (d3.mk [] []) [] 0 []) (ff.mk (d3.mk [] []) [] 0 []) (B3.mk [] []) (ec.mk [] []) false (fd.mk 0 [] (ec.mk [] []) (ff.mk (d3.mk [] []) [] 0 []))
abbrev zG:BD:=BD.mk jo (AR.mk (ec.mk [] []) []) (AL.mk (d3.mk [] []) []) (AL.mk (d3.mk [] []) []) (ec.mk [] []) (ec.mk [] [])
def ZD(t:AB)(r:jj)(h:AL)(m:AR):BD×Int:=
 if (Mc t (EP t r (GB h (dS r h m)) (cS r h m)) (Mn r (cS r h m) m.k8)).2≠0 then(zG,(Mc t (EP t r (GB h (dS r h m)) (cS r h m)) (Mn r (cS r h m) m.k8)).2)else
 if 40<(Mc t (EP t r (GB h (dS r h m)) (cS r h m)) (Mn r (cS r h m) m.k8)).1.d3.ci.length\/80<(Mc t (EP t r (GB h (dS r h m)) (cS r h m)) (Mn r (cS r h m) m.k8)).1.d3.d6.length then(zG,3)else
 (BD.mk r m h (Mc t (EP t r (GB h (dS r h m)) (cS r h m)) (Mn r (cS r h m) m.k8)).1 (Mq h (dS r h m)) (cS r h m),0)
noncomputable def Pa(t:AB)(r:jj)(h:AL)(m:AR):BD×Int:=
 if KX t r≠0 then(zG,KX t r)else if(Gc t h).2≠0 then(zG,(Gc t h).2)else
 if L8 t r.ql.d3 h.d3 m.ec r.rd≠0 then(zG,1)else
 if (Jv t r.ql h m.ec).2≠0 then(zG,(Jv t r.ql h m.ec).2)else if¬(Jv t r.ql h m.ec).1=m.k8 then(zG,11)else
 if (Pj (Uk r.ql.d3 h.d3 m.ec) h.d3 r.rN m.ec).2≠0 then(zG,(Pj (Uk r.ql.d3 h.d3 m.ec) h.d3 r.rN m.ec).2)else
 if (VK t r.ql r.fd h m r.rd).2≠0 then(zG,(VK t r.ql r.fd h m r.rd).2)else
 if (VK t r.ql r.fd h m r.rd).1=false then(zG,16)else ZD t r h m
variable{t:AB}{r:jj}{h:AL}{m:AR}
theorem Z1(a:KX t r=0)(b:(Gc t h).2=0)(c:L8 t r.ql.d3 h.d3 m.ec r.rd=0)(e:(Jv t r.ql h m.ec).2=0)(f:(Jv t r.ql h m.ec).1=m.k8):TZ t r.ql r.fd h m r.rd=0:=by
 unfold TZ;rw[a6 (by simp[(QM a).2.2]),a6 (by simp[b]),a6 (by simp[c]),a6 (by simp[e]),QQ f]
end Go.Sf.Sc
namespace Go.Sf.Sc
open Go Go.Sf
instance:Inhabited jj:=⟨jo⟩
instance:Inhabited CQ:=⟨⟨0,⟨⟨[],[]⟩,[]⟩⟩⟩
instance:Inhabited BD:=⟨zG⟩
structure bY(rules:List jj):Prop where
 len:rules.length<=12
 each:∀r∈rules,XC r/\Eu r.fd<=40
noncomputable def OR(t:AB)(rules:List jj)(h:AL)(m:CQ):BD×Int:=if m.jj<0\/rules.length<=m.jj then(zG,6)else Pa t (at' rules m.jj) h m.qj
noncomputable def Se(t:AB)(rules:List jj):Int:=
 if (BL t).2≠0 then(BL t).2 else if 10<rules.length then 3 else(fst (fun i=>nz (KX t (at' rules i))) 0 rules.length).getD 0
noncomputable def Ue(t:AB)(rules:List jj)(h:AL):Int:=if Se t rules≠0 then Se t rules else(Gc t h).2
noncomputable def lH(t:AB)(rules:List jj)(h0:AL)(ms:List CQ):List BD×AL:=
 ms.foldl (fun s m=>(s.1++[(OR t rules s.2 m).1],(OR t rules s.2 m).1.q9)) ([],h0)
noncomputable def ji(t:AB)(rules:List jj)(h0:AL)(ms:List CQ)(i:Int):Int:=(OR t rules (lH t rules h0 (ms.take i.toNat)).2 (at' ms i)).2
structure Y1(t:AB)(rules:List jj)(d:AN):Prop where
 given:Ue t rules d.qy=0
 few:d.o4.length<=30
 moves:∀i:Int,0<=i->i<d.o4.length->ji t rules d.qy d.o4 i=0
structure lL(h:AL)(s:BD):Prop where
 ue:s.rZ.ci.length=h.d3.ci.length
 uS:s.rZ.d6.length=h.d3.d6.length
 node:∀x∈s.rZ.ci,-1<=x/\x<s.q9.d3.ci.length
 edge:∀x∈s.rZ.d6,-1<=x/\x<s.q9.d3.d6.length
 sm:Gq s.q9
variable{t:AB}{x:AL}{L:Bf}
theorem dg(h:(Mc t x L).2=0):Mc t x L=(⟨x.d3,L.foldl D9 x.hT⟩,0)/\L.any (cX t x)=false:=by
 unfold Mc at h|-
 grind
structure PY(t:AB)(r:jj)(h:AL)(m:AR):Prop where
 f:G9 t r h m
 sat:VK t r.ql r.fd h m r.rd=(true,0)
 solve:Jv t r.ql h m.ec=(m.k8,0)
 chk:L8 t r.ql.d3 h.d3 m.ec r.rd=0
 put:(Mc t (EP t r (GB h (dS r h m)) (cS r h m)) (Mn r (cS r h m) m.k8)).2=0
 few:(EP t r (GB h (dS r h m)) (cS r h m)).d3.ci.length<=40/\(EP t r (GB h (dS r h m)) (cS r h m)).d3.d6.length<=80
def cO(t:AB)(r:jj)(h:AL)(m:AR):AL:=⟨(EP t r (GB h (dS r h m)) (cS r h m)).d3,(Mn r (cS r h m) m.k8).foldl D9 (EP t r (GB h (dS r h m)) (cS r h m)).hT⟩
def Zc(t:AB)(r:jj)(h:AL)(m:AR):BD:=BD.mk r m h (cO t r h m) (Mq h (dS r h m)) (cS r h m)
variable{r:jj}{h:AL}{m:AR}
theorem XL(hf:CX t)(fr:XC r)(y:Eu r.fd<=40)(e:(Pa t r h m).2=0):PY t r h m/\Pa t r h m=(Zc t r h m,0):=by
 unfold Pa at e|-;split at e
 .rename_i b;exact absurd e b
 rename_i b;rw[a6 b];split at e
 .rename_i c;exact absurd e c
 rename_i c;rw[a6 c];split at e
 .cases e
 rename_i p;rw[a6 p];split at e
 .rename_i f;exact absurd e f
 rename_i f;rw[a6 f];split at e
 .cases e
 rename_i q;rw[a6 q];split at e
 .rename_i k;exact absurd e k
 rename_i k;rw[a6 k];split at e
 .rename_i o;exact absurd e o
 rename_i o;rw[a6 o];split at e
 .cases e
 rename_i u;rw[a6 u];have b:=Classical.not_not.1 b;have c:=Classical.not_not.1 c;have p:=Classical.not_not.1 p;have f:=Classical.not_not.1 f;have q:=Classical.not_not.1 q;have k:=Classical.not_not.1 k;have o:=Classical.not_not.1 o;obtain⟨_,_,_,z⟩:=gM hf y (Z1 b c p f q);have s:G9 t r h m:=⟨hf,fr,b,c,z,(Z4 k).1⟩;unfold ZD at e|-;split at e
 .rename_i j;exact absurd e j
 rename_i j;rw[a6 j];have j:=Classical.not_not.1 j;obtain⟨w,A⟩:=dg j;split at e
 .cases e
 rename_i a;rw[a6 a];rw[w]at a;refine⟨⟨s,?_,?_,p,j,?_⟩,?_⟩
 .exact Prod.ext (by simpa using u) o
 .exact Prod.ext q f
 .simp[not_or]at a;exact a
 .rw[w];rfl
end Go.Sf.Sc
namespace Go.Sf.Sc
open Go Go.Sf
structure ov(m:ec)(g:d3):Prop where
 ue:m.ci.length<=1000
 uS:m.d6.length<=1000
 node:∀x∈m.ci,-1<=x/\x<g.ci.length
 edge:∀x∈m.d6,-1<=x/\x<g.d6.length
variable{t:AB}{rules:List jj}{h:AL}
theorem aL(hf:CX t)(b:bY rules){m:CQ}(e:(OR t rules h m).2=0):
  (0<=m.jj/\m.jj<rules.length)/\PY t (at' rules m.jj) h m.qj/\OR t rules h m=(Zc t (at' rules m.jj) h m.qj,0):=by
 unfold OR at e|-;split at e
 .cases e
 rename_i c;rw[a6 c];have a:=b.each _ (BC (l:=rules) (i:=m.jj) (by omega) (by omega));exact⟨by omega,XL hf a.1 a.2 e⟩
theorem aA(hf:CX t)(e:Ue t rules h=0):Se t rules=0/\(Gc t h).2=0/\(BL t).2=0/\LZ t h:=by grind[Ue,Qb]
variable{x:AL}
theorem WC(h:Gq x):Cb x=some x:=by
 have:=h.k7;have:=h.qr;have:=h.vals;unfold Cb slices_Clone_int Dq;rw[HT (by unfold Bi;omega),bs,HT (by unfold Bi;omega),bs];rw[QZ (fun i=>AL.mk x.d3 (x.hT.take i.toNat)) (by omega) (by rfl)]
 .rw[Int.toNat_natCast,List.take_length];rfl
 .intro i a b;have:=h.rows _ (BC a b)
  grind [As,HT,Bi,DM,Kz]
structure Vh(m:AR):Prop where
 k7:m.ec.ci.length<=1000
 qr:m.ec.d6.length<=1000
 vars:m.k8.length<=1000
structure bd(d:AN):Prop where
 start:Gq d.qy
 len:d.o4.length<=1000
 moves:∀m∈d.o4,Vh m.qj
variable{r:jj}{m:AR}
theorem PY.small(s:PY t r h m):Vh m:=by
 have b:=s.f.left;have a:=s.f.ro.left;have c:=s.f.at_.len;have e:=s.f.at_.q.vars;have:=a.k7;have:=a.qr;exact⟨by omega,by omega,by omega⟩
variable{d:AN}
theorem Y1.small(hf:CX t)(a:bY rules)(h:Y1 t rules d):bd d:=by
 obtain ⟨_,_,c,e⟩:=aA hf h.given;refine⟨Pt hf c e,by have:=h.few;omega,fun m b=>?_⟩;obtain⟨i,f,j,rfl⟩:=Cf b;have he:=h.moves i f j;unfold ji at he;exact(aL hf a he).2.1.small
end Go.Sf.Sc
namespace Go.Sf.Sc
open Go Go.Sf
end Go.Sf.Sc
namespace Go.Sf.Sc
open Go Go.Sf
end Go.Sf.Sc
namespace Go.Sf.Sc
open Go Go.Sf
end Go.Sf.Sc
namespace Go.Sf.Sc
open Go Go.Sf
variable{h:AL}
theorem Vu:∃b,J8 h=some b/\(b=true->Gq h):=by
 unfold J8 LJ;rw[bs];by_cases a:((!((decide ((h.d3.ci.length:Int)<=45))&&(decide ((h.d3.d6.length:Int)<=90))))||(decide (45<(h.hT.length:Int))))=true
 .rw[QQ a];exact⟨false,rfl,fun h=>by cases h⟩
 rw [a6 a,Dh (fun i=>decide (12<((at' h.hT i).length:Int))) false]
 .cases e:ra (fun i=>decide (12<((at' h.hT i).length:Int))) 0 h.hT.length with
  |true=>exact⟨false,rfl,fun h=>by cases h⟩
  |false=>
   refine ⟨true,rfl,fun _=>?_⟩;rw[CW]at e;simp only[Bool.or_eq_true,Bool.not_eq_true',Bool.and_eq_false_iff,decide_eq_false_iff_not,sc,not_or]at a;refine⟨by omega,by omega,by omega,fun v hv=>?_⟩
   grind [Cf]
 .intro i c f _;rw[As c f,bs,Ui]
theorem Xs(g:d3):I3 g g=some true:=by
 unfold I3;rw[Tv,bs,a6 (by simp),Dh (fun _=>false) false]
 .rw[show ra (fun _=>false) 0 (g.d6.length:Int)=false from CW.2 fun _ _ _=>rfl];rfl
 grind [As]
variable{l:D1}
theorem WI(e:l.length<=1000):Gt l l=some 0:=by
 unfold Gt;rw[Kh (fun _=>none) (b:=l.length) (by omega)]
 .rw[show fst (fun _=>(none:Option (Int ⊕ Int))) 0 (l.length:Int)=none from B0.2 fun _ _ _=>rfl];show some (AT ((l.length:Int)-l.length))=some 0;rw[Au (by omega) (by omega),Int.sub_self]
 .intro i c a _;rw[QQ (by simp[a]),As c a,bs,bs,a6 (by simp),Au (by omega) (by omega)];rfl
 .rw[a6 (by simp)]
theorem dh(c:Gq h):I4 h h=some true:=by
 unfold I4;rw[Xs,bs,a6 (by simp),Dh (fun _=>false) false]
 .rw[show ra (fun _=>false) 0 (h.hT.length:Int)=false from CW.2 fun _ _ _=>rfl];rfl
 .intro i a b _;rw[As a b,bs,bs,WI (c.rows _ (BC a b)),bs];simp
theorem aY(l:List CQ):Fa l l=some true:=by
 unfold Fa;rw[a6 (by simp),Dh (fun _=>false) false]
 .rw[show ra (fun _=>false) 0 (l.length:Int)=false from CW.2 fun _ _ _=>rfl];rfl
 .intro i a b _;simp only[As a b,bs];unfold KT;simp only[aX,Tv,bs];simp
variable{d:AN}
theorem iB(h:Gq d.qy):I6 d d=some true:=by grind[I6,dh,aY]
end Go.Sf.Sc
namespace Go.Sf.Sc
open Go Go.Sf
theorem Mp:Gq ⟨⟨[],[]⟩,[]⟩:=⟨by simp,by simp,by simp,fun v hv=>by cases hv⟩
end Go.Sf.Sc
