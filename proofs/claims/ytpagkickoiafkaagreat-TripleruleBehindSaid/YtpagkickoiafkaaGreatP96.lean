/- Plain lemmas: what the functions of the program and of the reference compute. -/
import Derived.Test.YtpagkickoiafkaaGreatP46
set_option linter.all false
set_option maxRecDepth 100000
open Bool renaming false->T
open List renaming mem_map->l!,map_append->l?,map_map->m_,map_congr_left->m?
open Bool renaming true_and->nc,or_eq_false_iff->nQ
namespace Go.Sf.Sc
open Go Go.Sf
def dP(p g:ff)(m:f0):ff:=⟨m.fd.map (AD g.fd),p.fq⟩
variable{l:Fp}{n x:Int}
theorem KA:x∈BT l n↔(0<=x/\x<n)/\x∉l:=by
 unfold BT;rw[List.mem_filter];constructor
 .grind[Int.natCast_nonneg,C7]
 .rintro⟨⟨b,c⟩,d⟩;refine⟨l!.2 ⟨x.toNat,List.mem_range.2 U,Int.toNat_of_nonneg b⟩,?_⟩
  grind [hasB,C7]
theorem RY(l:Fp)(n:Int):(BT l n).Pairwise (·<·):=by grind[BT,List.pairwise_lt_range.imp]
def Gf(images jj:Fp):Fp:=(BT jj images.length).map (AD images)
variable{images jj:Fp}
theorem RP:x∈Gf images jj↔∃i:Int,(0<=i/\i<images.length)/\i∉jj/\AD images i=x:=by grind[Gf,KA]
def ME(images jj:Fp):Bool:=E4 (λa=>E4 (λb=>decide (AD images a=AD images b)&&(!hasB jj a||!hasB jj b)) (a+1) images.length) 0 images.length
theorem US(h:ME images jj=T){a b:Int}(a0:0<=a)(a1:a<images.length)(k:0<=b)(j:b<images.length)(o:a∈jj)(e:AD images a=AD images b):b∈jj:=by
 unfold ME at h;rw[Gb]at h;by_cases d:a=b
 .exact d▸o
 by_cases p:a<b
 .have c:=h a a0 a1;rw[Gb]at c;have f:=c b U j;rw[decide_eq_true e,nc,nQ]at f
  grind [C7]
 .have c:=h b k j;rw[Gb]at c;have f:=c a U a1;rw[decide_eq_true e.symm,nc,nQ]at f
  grind [C7]
variable{i:Int}
theorem OX(h:ME images jj=T)(b:0<=i)(c:i<images.length)(d:i∈jj):AD images i∉Gf images jj:=by grind[RP,US]
def YH(g:ff)(jj:Az)(m:f0)(i:Int):Bool:=
 !hasB m.fq i&&(hasB (Gf m.fd jj.fd) (AD g.fq i).jK||hasB (Gf m.fd jj.fd) (AD g.fq i).To)
def PS(g:ff)(jj:Az)(m:f0):Az:=⟨BT (Gf m.fd jj.fd) g.fd.length,BT (Gf m.fq jj.fq) g.fq.length⟩
structure U8(l g:ff)(jj:Az)(m:f0):Prop where
 mor:Ru l g m
 part:SG l jj
 ji:ME m.fd jj.fd=T
 jw:ME m.fq jj.fq=T
 free:∀i:Int,0<=i->i<g.fq.length->YH g jj m i=T
variable{g:ff}
theorem W9{p:Az}(h:LC g p=0):Bx g=0/\PQ g p=0:=by grind[LC]
theorem Vq{l g:ff}{jj:Az}{m:f0}(h:U8 l g jj m):PQ g (PS g jj m)=0:=by
 have o:=h.mor;have z:=o.gb;have A:∀x∈(PS g jj m).fd,0<=x/\x<g.fd.length:=λx d=>GT d;have B:∀x∈(PS g jj m).fq,0<=x/\x<g.fq.length:=λx d=>GT d;have c:∀{l:Fp}{n:Int},(∀x∈l,0<=x/\x<n)->l.Pairwise (·<·)->Pn l n=0:=by
  grind [Pn,CE,CL,Pc]
 unfold PQ;rw[c A (RY _ _),c B (RY _ _)];simp;rw[CE.2 λi w y=>?_]
 .rfl
 have d:=CL w y;generalize AD (PS g jj m).fq i=x at d;have b:(0<=x/\x<g.fq.length)/\x∉Gf m.fq jj.fq:=KA.1 d;have hf:=z.fit _ (CL b.1.1 b.1.2);have p:(AD g.fq x).jK∉Gf m.fd jj.fd/\(AD g.fq x).To∉Gf m.fd jj.fd:=by
  by_cases hi:x∈m.fq
  .obtain⟨k,s,u,e⟩:=FU hi;have f:k∈jj.fq:=by
    by_cases f:k∈jj.fq
    .exact f
    .exact absurd (RP.2 ⟨k,⟨s,u⟩,f,e⟩) b.2
   have ends:=h.part.ends k f;have he:=o.edge k s u;rw[e]at he;have q:=h.part.ji.1;have C:=q _ ends.1;have D:=q _ ends.2;have F:=o.mo;rw[<-he.2.2.1,<-he.2.2.2];exact⟨OX h.ji C.1 U ends.1,OX h.ji D.1 U ends.2⟩
  .have hd:=h.free x b.1.1 b.1.2;unfold YH at hd;rw[show hasB m.fq x=T from by cases E:hasB m.fq x with|false=>rfl|true=>exact absurd (C7.1 E) hi,Bool.not_false,nc,nQ]at hd;exact⟨λj=>by rw[C7.2 j]at hd;exact absurd hd.1 a?,λj=>by rw[C7.2 j]at hd;exact absurd hd.2 a?⟩
 grind [hasB,PS,AD,C7,KA]
def Kq(n:Nat)(l:Fp):Fp:=(Hc n).map (Eo l)
variable{v:Int}
theorem Te(h:v∉l):Eo l v=-1:=by grind[Eo,CE,CL]
theorem Yx(l:Fp)(v:Int):-1<=Eo l v/\Eo l v<l.length:=by
 by_cases h:v∈l
 .have:=MG h;omega
 .rw[Te h];omega
theorem UV:0<=Eo l v↔v∈l:=by grind[Te,MG]
theorem S5{n:Nat}(b:0<=i)(c:i<n):AD (Kq n l) i=Eo l i:=Q7 _ b c
def Pr(jj into at_:Fp)(n i:Int):Int:=if hasB into i=true then AD at_ (AD jj (Eo into i))else n+(BT into i).length
def SK(count:Nat)(jj into at_:Fp)(n:Int):Fp:=(Hc count).map (Pr jj into at_ n)
theorem TX(count:Nat)(jj into at_:Fp)(n:Int):(SK count jj into at_ n).length=count:=by unfold SK;rw[ec,P8]
variable{count:Nat}{into at_:Fp}
theorem Z8(b:0<=i)(c:i<count):AD (SK count jj into at_ n) i=Pr jj into at_ n i:=Q7 _ b c
end Go.Sf.Sc
namespace Go.Sf.Sc
open Go Go.Sf
def WL(L:Be):Prop:=∀p∈L,∀q∈L,p.1=q.1->p.2=q.2
theorem WL.sub{L M:Be}(h:WL L)(b:∀p∈M,p∈L):WL M:=λp c q d=>h p (b p c) q (b q d)
def dJ(L:Be):Bool:=E4 (λi=>E4 (λk=>decide ((AD L k).1=(AD L i).1)&&!decide ((AD L k).2=(AD L i).2)) 0 i) 0 L.length
end Go.Sf.Sc
namespace Go.Sf.Sc
open Go Go.Sf
end Go.Sf.Sc
namespace Go.Sf.Sc
open Go Go.Sf
structure X5(count:Nat)(jj into at_:Fp):Prop where
 few:count<=1000
 nodup:into.Nodup
 len:into.length=jj.length
 inn:∀x∈into,0<=x/\x<count
 kin:∀x∈jj,0<=x/\x<at_.length
 pos:∀x∈jj,0<=AD at_ x
variable{jj into at_:Fp}{n i:Int}
theorem Yo(h:i∈into):Pr jj into at_ n i=AD at_ (AD jj (Eo into i)):=by grind[Pr,C7]
theorem Wa(h:i∉into):Pr jj into at_ n i=n+(BT into i).length:=by grind[Pr,C7]
end Go.Sf.Sc
namespace Go.Sf.Sc
open Go Go.Sf
def Jr(h:AN)(d:Az):f0:=⟨Kq h.ff.fd.length d.fd,Kq h.ff.fq.length d.fq⟩
def gw(r:jg)(h:AN)(m:f0)(d:Az):f0:=
 ⟨SK r.jc.ff.fd.length r.j5.fd r.jN.fd (m.fd.map (AD (Jr h d).fd)) d.fd.length,
 SK r.jc.ff.fq.length r.j5.fq r.jN.fq (m.fq.map (AD (Jr h d).fq)) d.fq.length⟩
def Q3(t:AE)(k:Int):Fp:=(BG t k).map λx=>x.li
def Sd(tr:Fp)(e:Bp):Bp:=⟨e.jo,AD tr e.jK,AD tr e.To⟩
def gJ(r:jg)(x:AN)(i:Int):Fp:=x.ff.fd++(BT r.jN.fd i).map (AD r.jc.ff.fd)
def gL(t:AE)(r:jg)(x:AN)(i:Int):List Fp:=x.jf++(BT r.jN.fd i).map λk=>Q3 t (AD r.jc.ff.fd k)
def gH(r:jg)(c:f0)(x:AN)(i:Int):List Bp:=x.ff.fq++(BT r.jN.fq i).map λk=>Sd c.fd (AD r.jc.ff.fq k)
def FD(t:AE)(r:jg)(x:AN)(c:f0):AN:=⟨⟨gJ r x r.jc.ff.fd.length,gH r c x r.jc.ff.fq.length⟩,gL t r x r.jc.ff.fd.length⟩
def HU(h:AN)(d:Az):AN:=⟨⟨d.fd.map (AD h.ff.fd),d.fq.map λx=>Sd (Jr h d).fd (AD h.ff.fq x)⟩,d.fd.map (AD h.jf)⟩
structure QD(x:AN):Prop where
 ji:x.ff.fd.length<=1000
 jw:x.ff.fq.length<=1000
 vals:x.jf.length<=1000
 rows:∀v∈x.jf,v.length<=1000
structure ZT(t:AE)(r:jg)(c:f0):Prop where
 hf:Jb t
 hv:(CF t).2=0
 g:CB r.jc.ff
 kind:∀n∈r.jc.ff.fd,0<=n/\n<t.fd.length
 cn:c.fd.length=r.jc.ff.fd.length
structure bh(h:AN)(d:Az):Prop where
 sm:QD h
 len:h.jf.length=h.ff.fd.length
 ji:(∀x∈d.fd,0<=x/\x<h.ff.fd.length)/\d.fd.length<=1000
 jw:(∀x∈d.fq,0<=x/\x<h.ff.fq.length)/\d.fq.length<=1000
 ends:∀e∈h.ff.fq,(0≤e.jK/\e.jK<h.ff.fd.length)/\0≤e.To/\e.To<h.ff.fd.length
end Go.Sf.Sc
namespace Go.Sf.Sc
open Go Go.Sf
def eQ(c:f0)(vars:Fp)(s:Ci):(Int×Int)×Int:=((AD c.fd s.j9,s.jy),PU s.jm vars)
def eR(r:jg)(c:f0)(vars:Fp):Be:=r.jc.jh.map (eQ c vars)
def fJ(t:AE)(x:AN)(p:(Int×Int)×Int):Bool:=
 decide (p.2<(AD (BG t (AD x.ff.fd p.1.1)) p.1.2).li)||decide ((AD (BG t (AD x.ff.fd p.1.1)) p.1.2).kJ<p.2)
structure bg(t:AE)(r:jg)(c:f0)(vars:Fp)(x:AN):Prop where
 hf:Jb t
 hv:(CF t).2=0
 few:r.jc.jh.length<=1000
 fewv:vars.length<=1000
 slot:∀s∈r.jc.jh,(0<=s.j9/\s.j9<c.fd.length)/\(-1<=s.jm.Var/\s.jm.Var<vars.length)/\
  (0<=AD c.fd s.j9/\AD c.fd s.j9<x.ff.fd.length)/\(0<=s.jy/\s.jy<(BG t (AD x.ff.fd (AD c.fd s.j9))).length)
 kind:∀n∈x.ff.fd,0<=n/\n<t.fd.length
 vlen:x.jf.length=x.ff.fd.length
 rows:∀i:Int,0<=i->i<x.ff.fd.length->(AD x.jf i).length=(BG t (AD x.ff.fd i)).length
def gN(t:AE)(x:AN)(L:Be):AN×Int:=
 if dJ L=true then(⟨⟨[],[]⟩,[]⟩,11)else if L.any (fJ t x)=true then(⟨⟨[],[]⟩,[]⟩,6)else(⟨x.ff,L.foldl Dd x.jf⟩,0)
end Go.Sf.Sc
namespace Go.Sf.Sc
open Go Go.Sf
variable{t:AE}{r:jg}
theorem Uo(h:NO t r=0):KX t r.jn=0/\JY t r=0/\Rv t r.jn r.gt=0:=by grind[NO]
theorem TO(h:JY t r=0):r.jc.jk=r.jn.jk/\r.jc.jh.length<=10/\∀i:Int,0<=i->i<r.jc.jh.length->R9 t r.jc i=0:=by
 unfold JY at h;split at h
 .omega
 split at h
 .cases h
 split at h
 .cases h
 split at h
 .cases h
 rename_i b c d e;exact⟨U,U,VW h⟩
variable{i:Int}
theorem Ut{p:hV}(h:R9 t p i=0):(0<=(AD p.jh i).j9/\(AD p.jh i).j9<p.ff.fd.length)/\
  (0<=(AD p.jh i).jy/\(AD p.jh i).jy<(OL t (AD p.ff.fd (AD p.jh i).j9)).1.length)/\-1<=(AD p.jh i).jm.Var/\(AD p.jh i).jm.Var<p.jk:=by
 unfold R9 at h;dsimp only at h;split at h
 .cases h
 split at h
 .cases h
 rename_i c b;simp[kY]at b;omega
structure Ei(t:AE)(r:jg)(h:AN)(m:AT):Prop where
 hf:Jb t
 fr:ZQ r
 re:NO t r=0
 he:(K6 t h).2=0
 at_:gh t r.jn h m
 co:U8 (dP r.jn.ff h.ff m.f0) h.ff r.j5 m.f0
abbrev dS(r:jg)(h:AN)(m:AT):Az:=PS h.ff r.j5 m.f0
abbrev cS(r:jg)(h:AN)(m:AT):f0:=gw r h m.f0 (dS r h m)
variable{h:AN}{m:AT}
theorem Ei.hv(s:Ei t r h m):(CF t).2=0:=(Tq s.re).1
theorem Ei.ro(s:Ei t r h m):VB t r:=(Tq s.re).2
theorem Ei.hh(s:Ei t r h m):SE t h:=(Yv s.hf s.he).2
theorem UR(hf:Jb t)(hv:(CF t).2=0)(hh:SE t h):QD h:=by
 have d:=hh.g.ji;have e:=hh.g.jw;have f:=hh.len;refine⟨U,U,U,λv b=>?_⟩;obtain⟨i,c,o,rfl⟩:=FU b;have j:=hh.row i c U;have k:=UD hf (Int.le_refl _) (MV hv).par (hh.kind i c U).2;omega
theorem Ei.rem(s:Ei t r h m):bh h (dS r h m):=by
 have hh:=s.hh;have c:=hh.g.ji;have d:=hh.g.jw;have l1:=RZ (Gf m.f0.fd r.j5.fd) h.ff.fd.length;have l2:=RZ (Gf m.f0.fq r.j5.fq) h.ff.fq.length;exact⟨UR s.hf s.hv hh,hh.len,⟨λx b=>GT b,by show(BT _ _).length<=1000;omega⟩,⟨λx b=>GT b,by show(BT _ _).length<=1000;omega⟩,λe he=>(hh.g.fit e he).2⟩
theorem Ei.part(s:Ei t r h m):LC h.ff (dS r h m)=0:=by
 unfold LC;rw[az (by simp[s.hh.ge])];exact Vq s.co
variable{count:Nat}{jj into images:Fp}
theorem Z9{n:Nat}{KT:Fp}(few:count<=1000)(nodup:into.Nodup)(len:into.length=jj.length)(inn:∀x∈into,0<=x/\x<count)
  (kin:∀x∈jj,0<=x/\x<images.length)(c:∀x∈images,0<=x/\x<n)(hi:ME images jj=T)(d:KT=Gf images jj):
  X5 count jj into (images.map (AD (Kq n (BT KT n))))/\(∀x∈jj,AD (images.map (AD (Kq n (BT KT n)))) x<(BT KT n).length)/\
  ∀x∈jj,AD (images.map (AD (Kq n (BT KT n)))) x=Eo (BT KT n) (AD images x)/\AD images x∈BT KT n:=by
 have e:∀x∈jj,AD (images.map (AD (Kq n (BT KT n)))) x=Eo (BT KT n) (AD images x)/\AD images x∈BT KT n:=λx b=>by
  grind [CL,KO,S5,KA,OX]
 refine ⟨⟨few,nodup,len,inn,λx b=>by rw[ec];exact kin x b,λx b=>?_⟩,λx b=>?_,e⟩
 .rw[(e x b).1];exact UV.2 (e x b).2
 .rw[(e x b).1];exact(Yx _ _).2
theorem Ei.left(s:Ei t r h m):m.f0.fd.length=r.jn.ff.fd.length/\m.f0.fq.length=r.jn.ff.fq.length:=⟨s.at_.m.mo,s.at_.m.mI⟩
theorem Ei.comN(s:Ei t r h m):X5 r.jc.ff.fd.length r.j5.fd r.jN.fd (m.f0.fd.map (AD (Jr h (dS r h m)).fd))/\
  (∀x∈r.j5.fd,AD (m.f0.fd.map (AD (Jr h (dS r h m)).fd)) x<(dS r h m).fd.length)/\
  ∀x∈r.j5.fd,AD (m.f0.fd.map (AD (Jr h (dS r h m)).fd)) x=Eo (dS r h m).fd (AD m.f0.fd x)/\AD m.f0.fd x∈(dS r h m).fd:=by
 have ro:=s.ro;have e:=ro.right.ji;refine Z9 U ro.inj.1 ?_ (λx b=>?_) (λx b=>?_) (λx b=>?_) s.co.ji rfl
 .have:=ro.mor.mo;rw[this];exact ec ..
 .obtain⟨i,c,d,rfl⟩:=FU b;exact(ro.mor.node i c d).1
 .have:=ro.part.ji.1 x b;have:=s.left.1;omega
 .obtain⟨i,c,d,rfl⟩:=FU b;exact(s.at_.m.node i c d).1
theorem Ei.grow(s:Ei t r h m):ZT t r (cS r h m):=
 ⟨s.hf,s.hv,s.ro.right,(GZ s.ro.right s.ro.l5).1,TX _ _ _ _ _⟩
theorem Ph(l:Fp)(b:0<=i):∀(k:Nat),∃s,BT l (i+k)=BT l i++s
 |0=>⟨[],V⟩|k+1=>by
  obtain ⟨s,e⟩:=Ph l b k
  grind [Qq,eo]
variable{l:Fp}{n:Int}
theorem XD(b:0<=i)(c:i<n)(h:i∉l):AD (BT l n) (BT l i).length=i/\((BT l i).length:Int)<(BT l n).length:=by
 obtain ⟨s,e⟩:=Ph l (i:=i+1) U (n-(i+1)).toNat
 rw [show i+1+((n-(i+1)).toNat:Int)=n by omega,Qq l b]at e
 grind [hasB,C7,AD]
variable{α:Type}
theorem VG[Inhabited α]{l m:List α}(b:0<=i)(c:i<l.length):AD (l++m) i=AD l i:=by grind[OK]
theorem Z1[Inhabited α]{l m:List α}{n:Nat}:AD (l++m) (l.length+n:Int)=AD m n:=by grind[OK,AD,Int.toNat_natCast]
variable{a:Int}
theorem SV(h:0<=a):lD t a a=true:=by
 unfold lD;rw[show(a+1).toNat=a.toNat+1 by omega,Ja,az U];simp
theorem Ei.mT(s:Ei t r h m)(f:0<=i)(j:i<r.jc.ff.fd.length):
  (0<=AD (cS r h m).fd i/\AD (cS r h m).fd i<(FD t r (HU h (dS r h m)) (cS r h m)).ff.fd.length)/\
  AD (FD t r (HU h (dS r h m)) (cS r h m)).ff.fd (AD (cS r h m).fd i)<t.fd.length/\lD t (AD (FD t r (HU h (dS r h m)) (cS r h m)).ff.fd (AD (cS r h m).fd i)) (AD r.jc.ff.fd i)=true:=by
 obtain ⟨w,C,c3⟩:=s.comN;have y:AD (cS r h m).fd i=Pr r.j5.fd r.jN.fd (m.f0.fd.map (AD (Jr h (dS r h m)).fd)) (dS r h m).fd.length i:=Z8 f j;have el:(FD t r (HU h (dS r h m)) (cS r h m)).ff.fd=(dS r h m).fd.map (AD h.ff.fd)++(Dx r).map (AD r.jc.ff.fd):=rfl;rw[y,el,bq,ec,ec];by_cases hi:i∈r.jN.fd
 .have b:=MG hi;have D:=w.len;have d:=CL (l:=r.j5.fd) b.1 U;have p:=c3 _ d;have q:=C _ d;have k:=w.pos _ d;rw[Yo hi];refine⟨⟨k,by push_cast;omega⟩,?_⟩;rw[VG k (by rw[ec];exact q),KO k q,p.1,(MG p.2).2.2.1];have e:=s.ro.part.ji.1 _ d;have z:=s.left.1;have o:=s.at_.m.node _ e.1 U;have A:=s.hh.kind _ o.1.1 o.1.2;have u:=s.ro.mor.node _ b.1 b.2.1;rw[b.2.2.1]at u;have B:AD (Qi r.jn.ff r.j5).fd (Eo r.jN.fd i)=AD r.jn.ff.fd (AD r.j5.fd (Eo r.jN.fd i)):=KO b.1 U;rw[u.2,B];exact⟨A.2,o.2⟩
 .have e:=XD f j hi;rw[Wa hi];have c:((dS r h m).fd.map (AD h.ff.fd)).length=(dS r h m).fd.length:=ec ..;refine⟨⟨U,?_⟩,?_⟩
  .have:((Dx r).length:Int)=(BT r.jN.fd r.jc.ff.fd.length).length:=rfl
   push_cast
   omega
  .rw[<-c,Z1,show Dx r=BT r.jN.fd r.jc.ff.fd.length from rfl,KO U e.2];show AD r.jc.ff.fd (AD (BT r.jN.fd r.jc.ff.fd.length) (BT r.jN.fd i).length)<(t.fd.length:Int)/\lD t (AD r.jc.ff.fd (AD (BT r.jN.fd r.jc.ff.fd.length) (BT r.jN.fd i).length)) _=true;rw[e.1];have:=(GZ s.ro.right s.ro.l5).1 _ (CL f j);exact⟨this.2,SV this.1⟩
theorem Ei.rows(s:Ei t r h m):(FD t r (HU h (dS r h m)) (cS r h m)).jf.map (λv=>v.length)=(FD t r (HU h (dS r h m)) (cS r h m)).ff.fd.map λn=>(BG t n).length:=by
 show (List.map _ (_++_))=List.map _ (_++_);rw[l?,l?];congr 1
 .show((dS r h m).fd.map (AD h.jf)).map _=((dS r h m).fd.map (AD h.ff.fd)).map _;rw[m_,m_];refine m? λx b=>?_;have b:=s.rem.ji.1 x b;exact s.hh.row x b.1 b.2
 grind [m_,m?,Q3,ec]
theorem Ei.put(s:Ei t r h m):bg t r (cS r h m) m.jk (FD t r (HU h (dS r h m)) (cS r h m)):=by
 obtain ⟨F,z,G⟩:=Uo s.re;obtain⟨hv,H,o⟩:=TO z;have C:=s.at_.q.vars;have p:=s.at_.len;have j:=s.rows;have k:(FD t r (HU h (dS r h m)) (cS r h m)).jf.length=(FD t r (HU h (dS r h m)) (cS r h m)).ff.fd.length:=by
  grind [List.length,ec]
 refine ⟨s.hf,s.hv,U,U,λx b=>?_,λn c=>?_,k,λi d f=>?_⟩
 .obtain⟨i,d,f,rfl⟩:=FU b;obtain⟨e,A,I⟩:=Ut (o i d f);have u:=(GZ s.ro.right s.ro.l5).1 _ (CL e.1 e.2);rw[VH s.hv u.1 u.2]at A;obtain⟨J,B,w⟩:=s.mT e.1 e.2;replace w:=Va (MV s.hv) B w;have y:(cS r h m).fd.length=r.jc.ff.fd.length:=TX _ _ _ _ _
  grind
 .have c:n∈(dS r h m).fd.map (AD h.ff.fd)++(Dx r).map (AD r.jc.ff.fd):=c;rcases List.mem_append.1 c with c|c
  .obtain⟨x,b,rfl⟩:=l!.1 c;have b:=s.rem.ji.1 x b;exact s.hh.kind x b.1 b.2
  .obtain⟨x,b,rfl⟩:=l!.1 c;have b:=GT b;exact(GZ s.ro.right s.ro.l5).1 _ (CL b.1 b.2)
 .have D:=KO (l:=(FD t r (HU h (dS r h m)) (cS r h m)).jf) (g:=λv=>v.length) d U;have E:=KO (l:=(FD t r (HU h (dS r h m)) (cS r h m)).ff.fd) (g:=λn=>(BG t n).length) d f
  grind
end Go.Sf.Sc
namespace Go.Sf.Sc
open Go Go.Sf
abbrev e8:jg:=jg.mk (⟨#[]⟩:ByteArray) (hV.mk (ff.mk [] []) [] 0 []) (hV.mk (ff.mk [] []) [] 0 []) (Az.mk [] []) (f0.mk [] []) T (gt.mk 0 [] (f0.mk [] []) (hV.mk (ff.mk [] []) [] 0 []))
abbrev zG:A9:=A9.mk e8 (AT.mk (f0.mk [] []) []) (AN.mk (ff.mk [] []) []) (AN.mk (ff.mk [] []) []) (f0.mk [] []) (f0.mk [] [])
end Go.Sf.Sc
namespace Go.Sf.Sc
open Go Go.Sf
instance:Inhabited jg:=⟨e8⟩
instance:Inhabited A9:=⟨zG⟩
structure iH(rules:List jg):Prop where
 len:rules.length<=12
 each:∀r∈rules,ZQ r/\Hh r.gt<=40
structure iF(h:AN)(s:A9):Prop where
 mo:s.ko.fd.length=h.ff.fd.length
 mI:s.ko.fq.length=h.ff.fq.length
 node:∀x∈s.ko.fd,-1<=x/\x<s.jM.ff.fd.length
 edge:∀x∈s.ko.fq,-1<=x/\x<s.jM.ff.fq.length
 sm:QD s.jM
structure VC(t:AE)(r:jg)(h:AN)(m:AT):Prop where
 f:Ei t r h m
 sat:gX t r.jn r.gt h m r.jQ=(true,0)
 solve:SA t r.jn h m.f0=(m.jk,0)
 chk:Pq t r.jn.ff h.ff m.f0 r.jQ=0
 put:(gN t (FD t r (HU h (dS r h m)) (cS r h m)) (eR r (cS r h m) m.jk)).2=0
 few:(FD t r (HU h (dS r h m)) (cS r h m)).ff.fd.length<=40/\(FD t r (HU h (dS r h m)) (cS r h m)).ff.fq.length<=80
end Go.Sf.Sc
namespace Go.Sf.Sc
open Go Go.Sf
structure jB(m:f0)(g:ff):Prop where
 mo:m.fd.length<=1000
 mI:m.fq.length<=1000
 node:∀x∈m.fd,-1<=x/\x<g.fd.length
 edge:∀x∈m.fq,-1<=x/\x<g.fq.length
structure ZU(m:AT):Prop where
 ji:m.f0.fd.length<=1000
 jw:m.f0.fq.length<=1000
 vars:m.jk.length<=1000
variable{t:AE}{r:jg}{h:AN}{m:AT}
theorem VC.small(s:VC t r h m):ZU m:=by
 have c:=s.f.left;have b:=s.f.ro.left;have d:=s.f.at_.len;have e:=s.f.at_.q.vars;have:=b.ji;have:=b.jw;exact⟨U,U,U⟩
end Go.Sf.Sc
namespace Go.Sf.Sc
open Go Go.Sf
end Go.Sf.Sc
namespace Go.Sf.Sc
open Go Go.Sf
end Go.Sf.Sc
namespace Go.Sf.Sc
open Go Go.Sf
end Go.Sf.Sc
namespace Go.Sf.Sc
open Go Go.Sf
end Go.Sf.Sc
namespace Go.Sf.Sc
open Go Go.Sf
end Go.Sf.Sc
namespace Go.Sf.Sc
open Go Go.Sf
def gl(x:Int):Prop:=-9223372036854775808<=x/\x<=9223372036854775807
structure YA(h:AN):Prop where
 s:QD h
 w:∀v∈h.jf,∀x∈v,gl x
structure iG(s:A9):Prop where
 b:YA s.j4
 a:YA s.jM
end Go.Sf.Sc
namespace Go.Sf.Sc
open Go Go.Sf
structure jD(t:AE)(s:Ba)(st f:A9):Prop where
 left:st.jz.f0.fd.length=st.jg.jn.ff.fd.length/\st.jz.f0.fq.length=st.jg.jn.ff.fq.length
 tn:∀x∈st.jz.f0.fd,0<=x/\x<f.ko.fd.length
 te:∀x∈st.jz.f0.fq,0<=x/\x<f.ko.fq.length
 cn:∀i∈gZ s st.jg [1],0<=Eo (R8 s st.jg.jc.ff 1).fd i/\Eo (R8 s st.jg.jc.ff 1).fd i<f.jS.fd.length
 ce:∀i∈gY s st.jg [1],0<=Eo (R8 s st.jg.jc.ff 1).fq i/\Eo (R8 s st.jg.jc.ff 1).fq i<f.jS.fq.length
end Go.Sf.Sc
namespace Go.Sf.Sc
open Go Go.Sf
end Go.Sf.Sc
namespace Go.Sf.Sc
open Go Go.Sf
end Go.Sf.Sc
