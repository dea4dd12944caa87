/- Plain lemmas: what the functions of the program and of the reference compute. -/
import Derived.Test.YthgbaecihlidaaaGreatDoorP96
import Derived.Test.YthgbaecihlidaaaGreatDoorP61
set_option linter.all false
set_option maxRecDepth 100000
namespace Go.Sf.Sc
open Go Go.Sf
variable{n:Nat}
theorem fN(h:n<=1000):JF 0 n=some (A7 n):=by
 unfold JF;rw[Bz (a:=0) (b:=(n:Int)) (s:=[]) (fun i=>A7 i.toNat) (by omega) rfl,bs,Int.toNat_natCast];intro i e f;rw[AY (by rw[BD];simp;unfold AZ;omega),bs,I7 e,Int.zero_add,AV (by omega) (by omega)]
def GT(l:Fp)(n:Nat):Prop:=l.Perm (A7 n)
variable{l:Fp}
theorem GT.len(h:GT l n):l.length=n:=by rw[h.length_eq,BD]
variable{x:Int}
theorem GT.mem(h:GT l n):x∈l↔0<=x/\x<n:=by rw[h.mem_iff,ES]
variable{i j:Int}
theorem GT.ne(h:GT l n)(f:0<=j)(o:j<i)(q:i<n):AA l j≠AA l i:=by
 have hd:l.Nodup:=h.nodup_iff.2 (by
  unfold A7;exact List.Pairwise.map _ (fun a b h e=>h (Int.ofNat.inj e)) List.nodup_range)
 have:=h.len;exact Gh hd f o (by omega)
theorem Wm(q:n<=1000){b:Fp}(s:∀x∈b,U8 x):∃l,HE n b=some l/\GT l n:=by
 unfold HE;rw[fN q,bs];refine D7 (fun i l=>0<=i/\GT l n) n ⟨by omega,.refl _⟩ (fun i l u⟨a1,a2⟩=>?_) (fun i l u⟨a1,a2⟩_=>⟨l,rfl,a2⟩);dsimp only;by_cases f:i<n/\i<b.length
 .left;have o:=s _ (AF a1 f.2);have A:=a2.len;obtain⟨r,e,B,C⟩:=B8 (show 0<=AK (AA b i)by rw[o.w];exact o.1) (show 0<(n:Int)-i by omega);refine⟨f.1,BN (BN l i (AA l (i+r))) (i+r) (AA l i),?_,by omega,?_⟩
  .rw[az (by simpa using f),AC a1 f.2,bs,AV (n:=(n:Int)-i) (by omega) (by omega),e,bs,AV (n:=i+r) (by omega) (by omega),AC (by omega) (by omega),bs,AC a1 (by omega),bs,bs,AC (by omega) (by rw[D5];omega),bs,AV (n:=i+1) (by omega) (by omega)]
  .refine List.Perm.trans ?_ a2;have y:i.toNat<l.length:=by omega
   have z:(i+r).toNat<l.length:=by omega
   have:=@List.set_set_perm _ l _ _ y z;unfold BN
   rwa [show AA l i=l[i.toNat]by grind[AA,List.getElem?_eq_getElem],show AA l (i+r)=l[(i+r).toNat]by grind[AA,List.getElem?_eq_getElem]]
 .right;rw[b6 (by simpa using f)]
theorem aa(h:GT l n):FB l=some 0:=by
 have s:=h.len;unfold FB;rw[Bb (fun _=>(none:a6)),A5.2 (fun _ _ _=>rfl),DN]
 .dsimp only;rw[Bb (fun _=>(none:a6)),A5.2 (fun _ _ _=>rfl),DN];intro i b f _;rw[Bb (fun _=>(none:a6)),A5.2 (fun _ _ _=>rfl),DN]
  .rfl
  .intro j o q _;rw[AC b f,bs,AC o (by omega),bs,b6 (by rw[decide_eq_true_iff];exact fun e=>h.ne o q (by omega) e.symm)];rfl
 .intro i b f _;have u:=h.mem.1 (AF b f);rw[AC b f,bs,b6 (by simp;omega),bs,bs,b6 (by simp;omega)];rfl
variable{α:Type}
theorem Oh[Inhabited α]{l:List α}(v:α)(b:0<=i)(e:i<l.length):AA (BN l i v) i=v:=by grind[AA,BN]
theorem S1[Inhabited α]{l:List α}(v:α)(b:0<=i)(e:0<=j)(h:j≠i):AA (BN l i v) j=AA l j:=by grind[AA,BN]
structure tZ(g g':d6)(m:eb):Prop where
 nl:g'.d5.length=g.d5.length
 el:g'.d7.length=g.d7.length
 node:∀i:Int,0<=i->i<g.d5.length->AA g'.d5 (AA m.d5 i)=AA g.d5 i
 edge:∀i:Int,0<=i->i<g.d7.length->AA g'.d7 (AA m.d7 i)=⟨(AA g.d7 i).mt,AA m.d5 (AA g.d7 i).nd,AA m.d5 (AA g.d7 i).To⟩
variable{g:d6}
theorem O8(b:CN g):E1 g=some g:=by
 have:=b.ek;have:=b.em;unfold E1;rw[Bq (by unfold AZ;omega),bs,Bq (by unfold AZ;omega),bs]
variable{m:eb}
theorem fG(z:CN g)(w:GT m.d5 g.d5.length)(he:GT m.d7 g.d7.length):∃v,JG g m=some v/\v.2=0/\tZ g v.1 m:=by
 have D:=w.len;have E:=he.len;unfold JG;rw[KX,bs,b6 (by simp[DX z]),b6 (by simp[D,E]),aa w,bs,b6 (by decide),aa he,bs,b6 (by decide),O8 z,bs];refine Lp (fun i s=>s.d7=g.d7/\s.d5.length=g.d5.length/\∀k:Int,0<=k->k<i->AA s.d5 (AA m.d5 k)=AA g.d5 k) (by omega) ⟨rfl,rfl,fun k f A=>by omega⟩ (fun i s b o⟨a1,a2,a3⟩=>?_) (fun s⟨a1,a2,a3⟩=>?_)
 .have q:=w.mem.1 (AF b (by omega));refine⟨⟨BN s.d5 (AA m.d5 i) (AA g.d5 i),s.d7⟩,?_,a1,by rw[D5];exact a2,fun k f A=>?_⟩
  .rw[AC b (by omega),bs,AC b o,bs,AC q.1 (by omega),bs]
  .by_cases e:k=i
   .rw[e];exact Oh _ q.1 (by omega)
   .have F:=w.mem.1 (AF f (by omega));exact(S1 _ q.1 F.1 (w.ne f (by omega) o)).trans (a3 k f (by omega))
 refine Lp (fun i u=>u.d5=s.d5/\u.d7.length=g.d7.length/\∀k:Int,0<=k->k<i->AA u.d7 (AA m.d7 k)=⟨(AA g.d7 k).mt,AA m.d5 (AA g.d7 k).nd,AA m.d5 (AA g.d7 k).To⟩) (by omega) ⟨rfl,by rw[a1],fun k f A=>by omega⟩ (fun i u b o⟨y,B,C⟩=>?_) (fun u⟨y,B,C⟩=>⟨_,rfl,rfl,by rw[y];exact a2,B,fun i b o=>by rw[y];exact a3 i b o,C⟩);have q:=he.mem.1 (AF b (by omega));have hf:=z.fit _ (AF b o);refine⟨⟨u.d5,BN u.d7 (AA m.d7 i) ⟨(AA g.d7 i).mt,AA m.d5 (AA g.d7 i).nd,AA m.d5 (AA g.d7 i).To⟩⟩,?_,y,by rw[D5];exact B,fun k f A=>?_⟩
 .rw[AC b o,bs,AC b (by omega),bs,AC hf.2.1.1 (by omega),bs,AC hf.2.2.1 (by omega),bs,AC q.1 (by omega),bs]
 .by_cases e:k=i
  .rw[e];exact Oh _ q.1 (by omega)
  .have F:=he.mem.1 (AF f (by omega));exact(S1 _ q.1 F.1 (he.ne f (by omega) o)).trans (C k f (by omega))
end Go.Sf.Sc
namespace Go.Sf.Sc
open Go Go.Sf
def nj(x:Int):Prop:=0<=x/\x<18446744073709551616
theorem sv{a b:Int}(e:nj a)(o:0<=b):∃r,FR .u64 .shr a b=some r:=by
 unfold FR;dsimp only;have f:(0:Int)<=2^ (min b.toNat IntKind.u64.bits):=Int.pow_nonneg (by omega);have q:=Int.ediv_nonneg e.1 f;have s:=Int.ediv_le_self (2^ (min b.toNat IntKind.u64.bits)) e.1;rw[Int.fdiv_eq_ediv_of_nonneg _ f,az ⟨o,q,by have:=e.2;show _<=(18446744073709551615:Int);omega⟩];exact⟨_,rfl⟩
def Us(l:ae):Fp:=(A7 l.length).filter fun i=>AA l i
variable{i:Int}
theorem Pf{l:ae}:i∈Us l↔(0<=i/\i<l.length)/\AA l i=true:=by
 unfold Us;rw[List.mem_filter,ES]
theorem eK(l:ae):(∀x∈Us l,0<=x/\x<l.length)/\(Us l).Pairwise (·<·):=by
 refine ⟨fun x e=>(Pf.1 e).1,List.Pairwise.filter _ ?_⟩;unfold A7;exact List.Pairwise.map _ (fun a b h=>Int.ofNat_lt.2 h) List.pairwise_lt_range
theorem Yl{l:ae}(q:l.length<=1000):IT l=some (Us l):=by
 unfold IT;rw[Bz (a:=0) (b:=(l.length:Int)) (s:=[]) (fun i=>(A7 i.toNat).filter fun i=>AA l i) (by omega) rfl,bs,Int.toNat_natCast]
 .rfl
 .intro i f o;have u:((A7 i.toNat).filter fun i=>AA l i).length<=i.toNat:=by
   have:=List.length_filter_le (fun i=>AA l i) (A7 i.toNat)
   rwa [BD]at this
  rw [AC f o,bs,I7 f,List.filter_append];cases e:AA l i
  .simp[e]
  .rw[az rfl,AY (by simp;unfold AZ;omega),bs];simp[e]
variable{l:Fp}
theorem Xj{n:Int}(h:∀x∈l,0<=x/\x<n)(e:l.Pairwise (·<·)):M1 l n=0:=by
 unfold M1;rw[A5.2]
 .rfl
 intro i f b;have:=h _ (AF f b);rw[b6 (by omega),b6];rintro⟨o,k⟩;have:=Gh e (show 0<=i-1 by omega) (show i-1<i by omega) b;omega
variable{g:d6}
theorem Wf{p:Bo}(h:Ns g p):LS g p=0:=by
 unfold LS;rw[b6 (by simp[Xj h.ek.1 h.ek.2]),b6 (by simp[Xj h.em.1 h.em.2]),A5.2]
 .rfl
 intro i b e;have:=h.ends _ (AF b e);rw[az (by rw[tg,CR,CR];exact this)]
theorem mn(f:CN g){ek em:ae}(B:ek.length=g.d5.length)(he:em.length=g.d7.length):∃p,K0 g ek em=some p/\Ns g p:=by
 have I:=f.ek;have J:=f.em;unfold K0;rw[Bq (by unfold AZ;omega),bs];refine Lp (fun i s=>s.length=g.d5.length/\∀k:Int,0<=k->k<i->AA em k=true->AA s (AA g.d7 k).nd=true/\AA s (AA g.d7 k).To=true) (by omega) ⟨B,fun k o z=>by omega⟩ (fun i s u C⟨a1,a2⟩=>?_) (fun s⟨a1,a2⟩=>?_)
 .rw[AC u C,bs];cases e:AA em i
  .refine⟨s,rfl,a1,fun k o z q=>?_⟩;by_cases h:k=i
   .rw[h,e]at q;cases q
   .exact a2 k o (by omega) q
  .have hf:=(f.fit _ (AF (l:=g.d7) u (by omega))).2;rw[az rfl,AC u (by omega),bs,bs,AC hf.1.1 (by omega),bs,AC hf.2.1 (by rw[D5];omega),bs];refine⟨_,rfl,by rw[D5,D5];exact a1,fun k o z q=>?_⟩;have fu:∀{x j:Int}{l:ae},0<=x->x<l.length->0<=j->AA l j=true->AA (BN l x true) j=true:=fun{x j l}x0 x1 D E=>by
    by_cases e:j=x
    .rw[e];exact Oh _ x0 x1
    .rw[S1 _ x0 D e];exact E
   have b:=(f.fit _ (AF (l:=g.d7) o (by omega))).2;by_cases G:k=i
   .rw[G];exact⟨fu hf.2.1 (by rw[D5];omega) hf.1.1 (Oh _ hf.1.1 (by omega)),Oh _ hf.2.1 (by rw[D5];omega)⟩
   .obtain⟨w,y⟩:=a2 k o (by omega) q;exact⟨fu hf.2.1 (by rw[D5];omega) b.1.1 (fu hf.1.1 (by omega) b.1.1 w),fu hf.2.1 (by rw[D5];omega) b.2.1 (fu hf.1.1 (by omega) b.2.1 y)⟩
 .rw[Yl (by omega),bs,Yl (by omega),bs];have m1:=eK s;have A:=eK em;rw[a1]at m1;rw[he]at A;refine⟨_,rfl,m1,A,fun x F=>?_⟩;obtain⟨⟨x0,x1⟩,H⟩:=Pf.1 F;have hf:=(f.fit _ (AF (l:=g.d7) x0 (by omega))).2;obtain⟨w,y⟩:=a2 x x0 x1 H;exact⟨Pf.2 ⟨⟨hf.1.1,by omega⟩,w⟩,Pf.2 ⟨⟨hf.2.1,by omega⟩,y⟩⟩
theorem i7(y:CN g){set:Int}(F:nj set):∃p,MT g set=some p/\Ns g p:=by
 have J:=y.ek;have K:=y.em;have o:∀{i:Int},0<=i->∃r q,Cj i 64=some r/\FR .u64 .shr set r=some q:=fun{i}z=>by
  obtain ⟨r,e,H,_⟩:=B8 z (show(0:Int)<64 by omega);obtain⟨q,w⟩:=sv F H;exact⟨r,q,e,w⟩
 have E:∀q:Int,∃r,FR .u64 .and q 1=some r:=fun q=>⟨_,rfl⟩;unfold MT;rw[J1,az (by omega),bs,J1,az (by omega),bs];refine D7 (fun i s=>0<=i/\s.length=g.d5.length) g.d5.length ⟨by omega,by simp⟩ (fun i s z⟨a1,a2⟩=>?_) (fun i s z⟨a1,a2⟩_=>?_)
 .dsimp only;by_cases f:i<s.length
  .left;obtain⟨r,q,B,w⟩:=o a1;obtain⟨b,C⟩:=E q;refine⟨by omega,BN s i (decide (b=1)),?_,by omega,by rw[D5];exact a2⟩;rw[az (by simpa using f),B,bs,w,bs,C,bs,AC a1 f,bs,AV (by omega) (by omega)]
  .right;rw[b6 (by simpa using f)]
 dsimp only;refine D7 (fun j u=>0<=j/\u.length=g.d7.length) g.d7.length ⟨by omega,by simp⟩ (fun j u G⟨D,A⟩=>?_) (fun j u G⟨D,A⟩_=>?_)
 .dsimp only;by_cases f:j<u.length
  .left;obtain⟨r,q,B,w⟩:=o (show 0<=(s.length:Int)+j by omega);obtain⟨b,C⟩:=E q;refine⟨by omega,BN u j (decide (b=1)),?_,by omega,by rw[D5];exact A⟩;rw[az (by simpa using f),AV (n:=(s.length:Int)+j) (by omega) (by omega),B,bs,w,bs,C,bs,AC D f,bs,AV (by omega) (by omega)]
  .right;rw[b6 (by simpa using f)]
 .obtain⟨p,e,I⟩:=mn y a2 A;exact⟨p,by rw[e,bs],I⟩
end Go.Sf.Sc
namespace Go.Sf.Sc
open Go Go.Sf
variable{α:Type}{n:Nat}
theorem Mw{f:α->TV}{l:List α}(h:l.length<=1000)(hf:∀x,(f x).Sm):(eL n f l).Sm:=by
 refine ⟨by rw[d3];unfold reachBytes;omega,JX.2 fun t b=>?_⟩;obtain⟨x,_,rfl⟩:=List.mem_map.1 b;exact hf x
theorem VL(x:Int):(eI x).Sm:=trivial
theorem qJ(x:Bc):(CF x).Sm:=by simp[CF,TV.Sm,TV.Sms,eI]
theorem qK(x:Bv):(Fr x).Sm:=by simp[Fr,TV.Sm,TV.Sms,eI]
theorem qL(x:Test):(GY x).Sm:=by simp[GY,TV.Sm,TV.Sms,eI]
def Zr(g:d6):Prop:=g.d5.length<=1000/\g.d7.length<=1000
variable{c:ea}
theorem Xq(o:∀k∈c.hT,(AI k).Sm)(u:c.hT.length<=1000)(b:c.Map.d5.length<=1000/\c.Map.d7.length<=1000)(e:Zr c.ed.d6)(f:c.ed.ff.length<=1000/\c.ed.ns.length<=1000):(AI c).Sm:=by
 refine ⟨trivial,?_,Mw b.1 VL,Mw b.2 VL,Mw e.1 VL,Mw e.2 qJ,Mw f.1 qK,trivial,Mw f.2 qL,trivial⟩;unfold Ek;rw[KS];refine⟨by rw[d3];unfold reachBytes;omega,JX.2 fun t q=>?_⟩;obtain⟨x,s,rfl⟩:=List.mem_map.1 q;exact o x s
variable{r:hO}
theorem fW(z:r.mr.size<=1000)(b:Zr r.kl.d6)(e:r.kl.ff.length<=1000/\r.kl.ns.length<=1000)(f:Zr r.gn.d6)(o:r.gn.ff.length<=1000/\r.gn.ns.length<=1000)(q:r.tl.d5.length<=1000/\r.tl.d7.length<=1000)(s:r.sr.d5.length<=1000/\r.sr.d7.length<=1000)(u:(AI r.ea).Sm):(CP r).Sm:=by
 obtain ⟨w,y,c3,c4,c5,c6,c7,c8,c9,_⟩:=u;exact⟨by show r.mr.size<=reachBytes;unfold reachBytes;omega,Mw b.1 VL,Mw b.2 qJ,Mw e.1 qK,trivial,Mw e.2 qL,Mw f.1 VL,Mw f.2 qJ,Mw o.1 qK,trivial,Mw o.2 qL,Mw q.1 VL,Mw q.2 VL,Mw s.1 VL,Mw s.2 VL,trivial,w,y,c3,c4,c5,c6,c7,c8,c9,trivial⟩
variable{t:ej}
theorem EL.sm(h:EL t):(AN t).Sm:=by
 have hf:=h.few;refine⟨⟨by rw[d3];have:=hf.ek;unfold reachBytes;omega,JX.2 fun x b=>?_⟩,⟨by rw[d3];have:=hf.em;unfold reachBytes;omega,JX.2 fun x b=>?_⟩,trivial⟩
 .obtain⟨n,o,rfl⟩:=List.mem_map.1 b;have B:=hf.name n o;have C:=hf.Abn n o;refine⟨by show n.mr.size<=reachBytes;unfold reachBytes;omega,trivial,trivial,⟨by rw[d3];unfold reachBytes;omega,JX.2 fun y q=>?_⟩,trivial⟩;obtain⟨a,w,rfl⟩:=List.mem_map.1 q;have f:=hf.each n o a w;refine⟨by show a.mr.size<=reachBytes;have:=f.name;unfold reachBytes;omega,trivial,trivial,⟨by rw[d3];have:=f.names;unfold reachBytes;omega,JX.2 fun z u=>?_⟩,trivial⟩;obtain⟨s,A,rfl⟩:=List.mem_map.1 u;show s.size<=reachBytes;have:=f.each s A;unfold reachBytes;omega
 .obtain⟨e,he,rfl⟩:=List.mem_map.1 b;have:=hf.AbZ e he;exact⟨by show e.mr.size<=reachBytes;unfold reachBytes;omega,trivial,trivial,trivial,trivial,trivial,trivial,trivial⟩
structure TN(t:ej)(g:d6):Prop where
 ok:CN g
 kind:∀n∈g.d5,0<=n/\n<t.d5.length
 et:∀e∈g.d7,e.mt<t.d7.length
variable{g:d6}
theorem PM.okG(b:EL t)(h:PM t g):TN t g:=⟨(h.ok b).1,h.kind,fun e he=>(h.fit e he).1.2⟩
theorem iq{p:Bo}(h:TN t g)(b:Ns g p):TN t (Cx g p)/\p.d5.length<=g.d5.length/\p.d7.length<=g.d7.length:=by
 have l1:=Zt b.ek.1 b.ek.2;have l2:=Zt b.em.1 b.em.2;have u:=h.ok.ek;have w:=h.ok.em;refine⟨⟨⟨by simp[Cx];omega,by simp[Cx];omega,fun n o=>?_,fun e he=>?_⟩,fun n o=>?_,fun e he=>?_⟩,l1,l2⟩
 .obtain⟨x,f,rfl⟩:=List.mem_map.1 o;exact h.ok.kind _ (AF (b.ek.1 x f).1 (b.ek.1 x f).2)
 .obtain⟨x,f,rfl⟩:=List.mem_map.1 he;have hf:=h.ok.fit _ (AF (b.em.1 x f).1 (b.em.1 x f).2);have q:=HD (b.ends x f).1;have s:=HD (b.ends x f).2;simp only[Cx,d3];exact⟨hf.1,⟨q.1,q.2.1⟩,s.1,s.2.1⟩
 .obtain⟨x,f,rfl⟩:=List.mem_map.1 o;exact h.kind _ (AF (b.ek.1 x f).1 (b.ek.1 x f).2)
 .obtain⟨x,f,rfl⟩:=List.mem_map.1 he;have:=h.et _ (AF (b.em.1 x f).1 (b.em.1 x f).2);exact this
def NP(t:ej):Fp:=(A7 t.d5.length).filter fun i=>!(AA t.d5 i).qo
variable{i:Int}
theorem M4:i∈NP t↔(0<=i/\i<t.d5.length)/\(AA t.d5 i).qo=false:=by
 unfold NP;rw[List.mem_filter,ES];simp
theorem V1(h:t.d5.length<=1000):pq (fun(f:Int)(u:Fp)=>
 (idx t.d5 f).bind fun o=>
 if (!o.qo)=true then
 (Au u [f]).bind fun q=>
 some q
 else
 some u) 0 (t.d5.length:Int) []=some (NP t):=by
 rw [Bz (a:=0) (b:=(t.d5.length:Int)) (s:=[]) (fun i=>(A7 i.toNat).filter fun i=>!(AA t.d5 i).qo) (by omega) rfl,Int.toNat_natCast]
 .rfl
 .intro i f w;have y:((A7 i.toNat).filter fun i=>!(AA t.d5 i).qo).length<=i.toNat:=by
   have:=List.length_filter_le (fun i=>!(AA t.d5 i).qo) (A7 i.toNat)
   rwa [BD]at this
  rw [AC f w,bs,I7 f,List.filter_append];cases e:(AA t.d5 i).qo
  .rw[az (show(!false)=true from rfl),AY (by simp;unfold AZ;omega),bs];simp[e]
  .simp[e]
def kX(t:ej)(k g:d6):Prop:=∃xs ys,g=⟨k.d5++xs,k.d7++ys⟩/\xs.length<=2/\ys.length<=2/\(∀x∈xs,x∈NP t)/\∀e∈ys,Ru t g.d5.length e/\Is t e.mt (AA g.d5 e.nd) (AA g.d5 e.To)=true
variable{k:d6}{d:Do}
theorem mw(D:EL t)(A:TN t k)(I:∀x∈d.d5,U8 x)(he:∀x∈d.d7,U3 x):∃g,LB t k d=some g/\kX t k g:=by
 have S:=A.ok.ek;have T:=A.ok.em;have M:=D.ek;unfold LB Ka;rw[O8 A.ok,bs,V1 (by omega),bs,bs];refine D7 (fun i s=>(0<=i/\i<=2)/\∃xs:Fp,s=⟨k.d5++xs,k.d7⟩/\(xs.length:Int)<=i/\∀x∈xs,x∈NP t) 2 ⟨by omega,[],by simp,by simp,fun x b=>by cases b⟩ (fun i s J⟨a1,xs,a2,a3,B⟩=>?_) (fun i s J⟨a1,xs,a2,a3,B⟩_=>?_)
 .dsimp only;by_cases f:(i<d.d5.length/\i<2)/\0<((NP t).length:Int)
  .left;have b:=I _ (AF a1.1 f.1.1);obtain⟨r,e,q,o⟩:=B8 (show 0<=AK (AA d.d5 i)by rw[b.w];exact b.1) f.2;refine⟨by omega,⟨k.d5++(xs++[AA (NP t) r]),k.d7⟩,?_,by omega,_,rfl,by simp;omega,fun x b=>(List.mem_append.1 b).elim (B x) fun b=>List.mem_singleton.1 b▸AF q o⟩;rw[az (by simpa using f),AC a1.1 f.1.1,bs,e,bs,AC q o,bs,a2,AY (by simp;unfold AZ;omega),bs,AV (n:=i+1) (by omega) (by omega),d4]
  .right;rw[b6 (by simpa using f)]
 subst a2;dsimp only;refine D7 (fun j u=>(0<=j/\j<=2)/\∃ys:List Bc,u=⟨k.d5++xs,k.d7++ys⟩/\(ys.length:Int)<=j/\∀e∈ys,Ru t (k.d5++xs).length e/\Is t e.mt (AA (k.d5++xs) e.nd) (AA (k.d5++xs) e.To)=true) 2 ⟨by omega,[],by simp,by simp,fun x b=>by cases b⟩ (fun j u K⟨q,ys,o,L,z⟩=>?_) (fun j u K⟨q,ys,o,L,z⟩_=>⟨u,rfl,xs,ys,o,by omega,by omega,B,by rw[o];exact z⟩);dsimp only;by_cases f:((j<d.d7.length/\j<2)/\0<((k.d5++xs).length:Int))/\0<(t.d7.length:Int)
 .left;have b:=he _ (AF q.1 f.1.1.1);obtain⟨r,N,O,P⟩:=B8 (show 0<=AK (AA d.d7 j).a0 by rw[b.1.w];exact b.1.1) f.2;obtain⟨U,Q,E,F⟩:=B8 (show 0<=AK (AA d.d7 j).a1 by rw[b.2.1.w];exact b.2.1.1) f.1.2;obtain⟨V,R,G,H⟩:=B8 (show 0<=AK (AA d.d7 j).a2 by rw[b.2.2.w];exact b.2.2.1) f.1.2;refine⟨by omega,?_⟩;rw[az (by simpa using f),AC q.1 f.1.1.1,bs,N,bs,bs,Q,bs,bs,R,bs,o];dsimp only;rw[AC E F,bs,AC G H,bs,VC D.few,bs,AV (n:=j+1) (by omega) (by omega)];split
  .rename_i y;rw[AY (by simp;unfold AZ;omega),bs,d4];exact⟨_,rfl,by omega,_,rfl,by simp;omega,fun e C=>(List.mem_append.1 C).elim (z e) fun C=>by
    rw [List.mem_singleton.1 C];exact⟨⟨⟨O,P⟩,⟨E,F⟩,G,H⟩,y⟩⟩
  .exact⟨_,rfl,by omega,ys,rfl,by omega,z⟩
 .right;rw[o,b6 (by simpa using f)]
theorem Z5{β σ:Type}{X:Option β}{mk:σ->β}{I:σ->Prop}(h:∃r,X=some r/\∃s',r=mk s'/\I s'):∃s',X=some (mk s')/\I s':=by
 obtain ⟨_,e,s',rfl,hi⟩:=h;exact⟨s',e,hi⟩
def XX(t:ej)(g:d6)(v:Int)(l:List Bv):Prop:=l.length<=3/\(∀s∈l,ON t g v s)/\∀i j:Int,0<=j->j<i->i<l.length->¬((AA l j).p0=(AA l i).p0/\(AA l j).mh=(AA l i).mh)
variable{v:Int}
theorem nC(K:EL t)(Z:g.d5.length<=100)(hv:0<=v/\v<=3){l:List G9}(L:∀x∈l,U3 x):∃s,LD t g v l=some s/\XX t g v s:=by
 unfold LD;refine D7 (fun i s=>(0<=i/\i<=3)/\(s.length:Int)<=i/\(∀x∈s,ON t g v x)/\∀i j:Int,0<=j->j<i->i<s.length->¬((AA s j).p0=(AA s i).p0/\(AA s j).mh=(AA s i).mh)) 3 ⟨by omega,by simp,(fun x f=>by cases f),fun i j o C D=>by simp at D;omega⟩ (fun i s M⟨a1,a2,a3,A⟩=>?_) (fun i s M⟨a1,a2,a3,A⟩_=>⟨s,rfl,by omega,a3,A⟩);dsimp only;by_cases B:(i<l.length/\i<3)/\0<(g.d5.length:Int)
 .left;have f:=L _ (AF a1.1 B.1.1);obtain⟨r,S,I,J⟩:=B8 (show 0<=AK (AA l i).a0 by rw[f.1.w];exact f.1.1) B.2;refine⟨by omega,?_⟩;rw[az (by simpa using B),AC a1.1 B.1.1,bs,S,bs,AC I J,bs,Om K.few,bs,AV (n:=i+1) (by omega) (by omega)];by_cases H:((EU t (AA g.d5 r)).1.length:Int)=0
  .rw[az (by simpa using H)];exact⟨s,rfl,by omega,by omega,a3,A⟩
  obtain ⟨q,T,U,V⟩:=B8 (show 0<=AK (AA l i).a1 by rw[f.2.1.w];exact f.2.1.1) (show 0<((EU t (AA g.d5 r)).1.length:Int)by omega);obtain⟨u,W,d1,d2⟩:=Vl f.2.1.1 (show(0:Int)<16 by omega);have hw:=lY u;obtain⟨y,X,f1,f2⟩:=B8 (show 0<=AK (IntKind.u8.wrap u)by rw[AV (by omega) (by omega)];omega) (show 0<v+1 by omega);obtain⟨z,Y,g1,g2⟩:=B8 (show 0<=AK (AA l i).a2 by rw[f.2.2.w];exact f.2.2.1) (show(0:Int)<3 by omega);rw[b6 (by simpa using H),bs,T,bs,bs,W,bs,AV (n:=v+1) (by omega) (by omega),X,bs,bs,Y,bs,AV (n:=y-1) (by omega) (by omega)];refine Z5 (mk:=fun s'=>Bu.next (s',i+1)) (Lp (fun(k:Int)(b:Bool)=>b=false->∀j:Int,0<=j->j<k->¬((AA s j).p0=r/\(AA s j).mh=q)) (by omega) (fun _ j o C=>by omega) (fun k b N O E=>?_) (fun b E=>?_))
  .cases b
   .rw[b6 (by decide),AC N O,bs,bs];have old:∀{P:Prop},(P->False)->((AA s k).p0=r/\(AA s k).mh=q->P)->∀j:Int,0<=j->j<k+1->¬((AA s j).p0=r/\(AA s j).mh=q):=fun{P}Q R j o C G=>by
     by_cases e:j=k
     .exact Q (R (e▸G))
     .exact E rfl j o (by omega) G
    by_cases F:(AA s k).p0=r
    .rw[az (by simpa using F),bs,bs];exact⟨_,rfl,fun h=>old (P:=(AA s k).mh=q) (by simpa using h) And.right⟩
    .rw[b6 (by simpa using F),bs,bs];exact⟨_,rfl,fun _=>old (P:=(AA s k).p0=r) F And.left⟩
   .exact⟨true,rfl,fun h=>by cases h⟩
  .cases b
   .rw[az (by decide),AY (by simp;unfold AZ;omega),bs];refine⟨_,rfl,_,rfl,by omega,by simp;omega,fun x f=>(List.mem_append.1 f).elim (a3 x) fun f=>?_,fun i j o C D=>?_⟩
    .rw[List.mem_singleton.1 f];exact⟨⟨⟨I,J⟩,U,V⟩,by simp only;omega,by simp only;omega⟩
    .simp at D;rw[Js _ _ o (by omega)];by_cases e:i=s.length
     .rw[KN _ _ e];exact E rfl j o (by omega)
     .rw[Js _ _ (by omega) (by omega)];exact A i j o C (by omega)
   .rw[b6 (by decide)];exact⟨_,rfl,_,rfl,by omega,by omega,a3,A⟩
 .right;rw[b6 (by simpa using B)]
end Go.Sf.Sc
namespace Go.Sf.Sc
open Go Go.Sf
variable{m:eb}
theorem YJ{a b:d6}(h:Q0 a b m):Hw a b m=0:=by
 unfold Hw;rw[b6 (by simp[DX h.ga]),b6 (by simp[DX h.gb]),b6 (by simp[h.AaH,h.AaN]),A5.2]
 .dsimp only;rw[A5.2]
  .rfl
  intro i e f;obtain⟨q,o,s,u⟩:=h.edge i e f;unfold Gu;rw[b6 (by omega),b6 (by simp[o]),b6 (by simp[s,u])]
 .intro i e f;obtain⟨q,o⟩:=h.node i e f;unfold J0;rw[b6 (by omega),b6 (by simp[o])]
theorem Vq(n:Nat):(A7 n).Nodup:=by
 unfold A7;exact List.Pairwise.map _ (fun a b h e=>h (Int.ofNat.inj e)) List.nodup_range
theorem oo(g:d6):Hv (Kt g)=true:=by
 unfold Hv Kt;rw[Io.2 (Vq _),Io.2 (Vq _)];rfl
def Rr:ea:=⟨1,[],⟨[],[]⟩,⟨⟨[],[]⟩,[],0,[]⟩⟩
variable{t:ej}{p:ed}
theorem R9(h:EG t p=0):HP t p Rr=0:=by
 obtain ⟨n,b⟩:∃n,SizeOf.sizeOf Rr=n+1:=⟨SizeOf.sizeOf Rr-1,by have:=Dm Rr;omega⟩;have e:KG Rr=0:=by
  unfold KG a7 S8;rw[b];rfl
 unfold HP;rw[b6 (by simp[h]),b6 (by simp[e]),b];rfl
theorem VR:(AI Rr).Sm:=Xq (fun k b=>by cases b) (by decide) (by decide) (by unfold Zr;decide) (by decide)
def MD(g:d6)(v:Int)(k:d6):ea:=⟨2,[⟨5,[Rr],Kt g,⟨k,[],v,[]⟩⟩],⟨[],[]⟩,⟨⟨[],[]⟩,[],0,[]⟩⟩
variable{k:d6}
theorem V2(hv:(A1 t).2=0)(h:EG t p=0)(q:TN t k){xs:Fp}{ys:List Bc}(s:k.d5=p.d6.d5++xs)(he:k.d7=p.d6.d7++ys):HP t p (MD p.d6 p.fq k)=0:=by
 have o:=T3 hv (.inl h);obtain⟨z,_⟩:=U9 h;have y:k.d5.length=p.d6.d5.length+xs.length:=by rw[s,cE]
 have w:k.d7.length=p.d6.d7.length+ys.length:=by rw[he,cE]
 have inn:P5 t ⟨k,[],p.fq,[]⟩ p.fq=0:=by
  have u:EG t ⟨k,[],p.fq,[]⟩=0\/EG t ⟨k,[],p.fq,[]⟩=9:=by
   unfold EG;rw[b6 (by simp[hv]),b6 (by simp[DX q.ok]),b6 (by simp[Ri (fun n s=>(q.kind n s).2) q.et]),b6 (by simp only;omega),b6 (by simp),b6 (by simp),b6 (by simp[Rh o.1 o.2])];split
   .exact .inr rfl
   .exact .inl rfl
  unfold P5;rcases u with u|u
  .rw[az (by omega),u]
  .rw[b6 (by omega),b6];rw[Cf];rintro⟨i,f,b,_⟩;exact absurd b (by simp only;omega)
 have mor:Hw p.d6 k (Kt p.d6)=0:=by
  refine YJ ⟨z,q.ok,BD _,BD _,fun i f b=>?_,fun i f b=>?_⟩
  .simp only[Kt,BD]at b|-;rw[Rj _ f b,s];exact⟨⟨f,by simp;omega⟩,M2 f b⟩
  .simp only[Kt,BD]at b|-;have hf:=(z.fit _ (AF f b)).2;rw[Rj _ f b,he,M2 f b,Rj _ hf.1.1 hf.1.2,Rj _ hf.2.1 hf.2.2];exact⟨⟨f,by simp;omega⟩,rfl,rfl,rfl⟩
 have A:=EQ (c:=MD p.d6 p.fq k) (List.mem_singleton.2 rfl);have B:=EQ (c:=⟨5,[Rr],Kt p.d6,⟨k,[],p.fq,[]⟩⟩) (List.mem_singleton.2 rfl);have C:=Dm Rr;obtain⟨n,e⟩:∃n,SizeOf.sizeOf (MD p.d6 p.fq k)=n+3:=⟨SizeOf.sizeOf (MD p.d6 p.fq k)-3,by omega⟩;have sh:KG (MD p.d6 p.fq k)=0:=by
  unfold KG a7 S8;rw[e];rfl
 unfold HP;rw[b6 (by simp[h]),b6 (by simp[sh]),e,G6,b6 (show¬(MD p.d6 p.fq k).o3=5 from(by decide:¬(2:Int)=5)),A5.2]
 .rfl
 intro i f b;obtain rfl:i=0:=by
  have:i<1:=b;omega
 refine Fg.2 ?_;show G6 (n+2) t p ⟨5,[Rr],Kt p.d6,⟨k,[],p.fq,[]⟩⟩=0;rw[G6,az rfl,b6 (Int.lt_irrefl _),b6 (by simp[inn]),b6 (by simp[mor]),b6 (by simp[oo]),A5.2]
 .rfl
 intro i f b;obtain rfl:i=0:=by
  have:i<1:=b;omega
 refine Fg.2 ?_;show G6 (n+1) t ⟨k,[],p.fq,[]⟩ Rr=0;rfl
theorem jD(o:EL t)(A:bG t p){x:QD}(F:U8 x.a0)(s:U8 x.a1)(B:U8 x.a2)(C:U8 x.a3):∃c,J9 t p x=some c/\HP t p c=0/\(AI c).Sm:=by
 have u:=A.zero o;have q:=A.g;have ho:=q.ok o;have K:=q.ek;have H:=q.em;have L:=o.ek;have M:=o.em;have tp:=o.pos;obtain⟨r,e,N,O⟩:=B8 F.1 (show(0:Int)<4 by omega);have sm:∀k:d6,Zr k->(AI (MD p.d6 p.fq k)).Sm:=fun k G=>by
  refine Xq (fun c y=>?_) (by simp[MD]) (by simp[MD]) (by unfold Zr;simp[MD]) (by simp[MD]);rw[List.mem_singleton.1 y];refine Xq (fun c y=>?_) (by simp) ⟨by simp[Kt,BD];omega,by simp[Kt,BD];omega⟩ G (by simp);rw[List.mem_singleton.1 y];exact VR
 unfold J9;rw[O8 ho.1,bs,e,bs];by_cases D:r=1
 .obtain⟨a,z,a0,a1⟩:=B8 (show 0<=AK x.a1 by rw[s.w];exact s.1) (show 0<(t.d5.length:Int)by omega);rw[az (by simpa using D),z,bs,AY (by simp;unfold AZ;omega),bs,jG (DX ho.1),bs,bs];refine⟨_,rfl,V2 o.zero u (xs:=[a]) (ys:=[]) ⟨⟨by simp;omega,by simp only;omega,fun n f=>?_,fun e he=>?_⟩,fun n f=>?_,fun e he=>(q.fit e he).1.2⟩ rfl (List.append_nil _).symm,sm _ ⟨by simp;omega,by simp only;omega⟩⟩
  .rcases List.mem_append.1 f with f|f
   .exact ho.1.kind n f
   .rw[List.mem_singleton.1 f];omega
  .have:=ho.1.fit e he;simp only[cE,List.length_singleton];omega
  .rcases List.mem_append.1 f with f|f
   .exact q.kind n f
   .rw[List.mem_singleton.1 f];exact⟨a0,a1⟩
 rw [b6 (by simpa using D)];by_cases E:r=2
 .rw[az (by simpa using E)];by_cases c3:(p.d6.d5.length:Int)=0\/(t.d7.length:Int)=0
  .rw[az (by simpa using c3)];exact⟨_,rfl,R9 u,VR⟩
  .obtain⟨a,z,a0,a1⟩:=B8 (show 0<=AK x.a1 by rw[s.w];exact s.1) (show 0<(t.d7.length:Int)by omega);obtain⟨b,I,P,Q⟩:=B8 (show 0<=AK x.a2 by rw[B.w];exact B.1) (show 0<(p.d6.d5.length:Int)by omega);obtain⟨c,J,R,S⟩:=B8 (show 0<=AK x.a3 by rw[C.w];exact C.1) (show 0<(p.d6.d5.length:Int)by omega);rw[b6 (by simpa using c3),z,bs,I,bs,J,bs,AY (by simp;unfold AZ;omega),bs,jG (DX ho.1),bs,bs];refine⟨_,rfl,V2 o.zero u (xs:=[]) (ys:=[⟨a,b,c⟩]) ⟨⟨by simp only;omega,by simp;omega,ho.1.kind,fun e he=>?_⟩,q.kind,fun e he=>?_⟩ (List.append_nil _).symm rfl,sm _ ⟨by simp only;omega,by simp;omega⟩⟩
   .rcases List.mem_append.1 he with he|he
    .exact ho.1.fit e he
    .rw[List.mem_singleton.1 he];simp only;omega
   .rcases List.mem_append.1 he with he|he
    .exact(q.fit e he).1.2
    .rw[List.mem_singleton.1 he];exact a1
 .rw[b6 (by simpa using E)];exact⟨_,rfl,R9 u,VR⟩
end Go.Sf.Sc
namespace Go.Sf.Sc
open Go Go.Sf
variable{t:ej}{g:d6}{v i:Int}
theorem cg{l:List Bv}(h:XX t g v l)(f:0<=i)(b:i<l.length):LX t ⟨g,l,v,[]⟩ i=0:=by
 obtain ⟨⟨a1,a2⟩,a3,s⟩:=h.2.1 _ (AF f b);unfold LX;dsimp only;rw[b6 (by omega),b6,b6]
 .rw[Cf];rintro⟨j,o,q,e⟩;simp at e;exact h.2.2 i j o q b e
 .simp;omega
variable{c:ea}
theorem Wq(hv:(A1 t).2=0){L:ed}(q:EG t L=0)(e:TN t g){sl:List Bv}(s:XX t g L.fq sl){fu:Bo}(u:Ns L.d6 fu){into:eb}(w:Q0 (Cx L.d6 fu) g into)(hi:Hv into=true){b:Bool}(y:HP t L c=0)
  (f:P6 t g (BI into.d5 g.d5.length) (BI into.d7 g.d7.length)=true):Cy t ⟨(⟨#[114]⟩:ByteArray),L,⟨g,sl,L.fq,[]⟩,fu,into,b,c⟩=0:=by
 have D:=s.1;have C:Hj t ⟨(⟨#[114]⟩:ByteArray),L,⟨g,sl,L.fq,[]⟩,fu,into,b,c⟩=0:=by
  unfold Hj;dsimp only;rw[b6 (by simp[DX e.ok]),b6 (by simp[Ri (fun n z=>(e.kind n z).2) e.et]),b6 (by simp),b6 (by omega),A5.2 (fun i A B=>Fg.2 (cg s A B))];rfl
 have o:NS ⟨(⟨#[114]⟩:ByteArray),L,⟨g,sl,L.fq,[]⟩,fu,into,b,c⟩=0:=by
  have:Dt L.d6 fu=0:=by
   unfold Dt;rw[b6 (by simp[DX (U9 q).1]),Wf u]
  unfold NS;dsimp only;rw[b6 (by simp[this]),b6 (by simp[YJ w]),b6 (by simp[hi])]
 unfold Cy;rw[b6 (by simp[hv]),b6 (show¬DY (⟨#[114]⟩:ByteArray)=false by decide),b6 (by simp[q]),b6 (by simp[C]),b6 (by simp[o]),b6,y];rw[Bool.not_eq_false];exact f
structure XW(d:Do):Prop where
 left:dO d.kl
 fu:nj d.tl
 ek:∀x∈d.d5,U8 x
 em:∀x∈d.d7,U3 x
 slots:∀x∈d.ff,U3 x
 Abv:(U8 d.AaA.a0/\U8 d.AaA.a1)/\U8 d.AaA.a2/\U8 d.AaA.a3
 order:∀x∈d.AbB,U8 x
variable{l:Fp}{n:Nat}{x:Int}
theorem GT.at(h:GT l n)(x0:0<=x)(x1:x<n):∃i:Int,(0<=i/\i<n)/\AA l i=x:=by
 obtain ⟨i,b,f,e⟩:=Bh (h.mem.2 ⟨x0,x1⟩);exact⟨i,⟨b,by have:=h.len;omega⟩,e⟩
theorem GT.inn(h:GT l n)(b:0<=i)(e:i<n):0<=AA l i/\AA l i<n:=h.mem.1 (AF b (by have:=h.len;omega))
variable{k:d6}
theorem eE(f:TN t k)(q:k.d5.length<=30)(s:k.d7.length<=60)(h:kX t k g)(he:t.d7.length<=90)(b:t.d5.length<=90):TN t g:=by
 obtain ⟨xs,ys,rfl,a1,a2,a3,o⟩:=h;simp only at o;refine⟨⟨by simp;omega,by simp;omega,fun n b=>?_,fun e he=>?_⟩,fun n b=>?_,fun e he=>?_⟩
 .rcases List.mem_append.1 b with b|b
  .exact f.ok.kind n b
  .have:=(M4.1 (a3 n b)).1;omega
 .rcases List.mem_append.1 he with he|he
  .have:=f.ok.fit e he;simp only[cE];omega
  .have:=(o e he).1;unfold Ru at this;dsimp only at this|-;omega
 .rcases List.mem_append.1 b with b|b
  .exact f.kind n b
  .exact(M4.1 (a3 n b)).1
 .rcases List.mem_append.1 he with he|he
  .exact f.et e he
  .exact(o e he).1.1.2
variable{m:eb}
theorem nF{g s:d6}(q:TN t g)(u:GT m.d5 g.d5.length)(he:GT m.d7 g.d7.length)(h:tZ g s m):TN t s:=by
 have z:∀n∈s.d5,n∈g.d5:=fun n b=>by
  obtain ⟨j,w,y,rfl⟩:=Bh b;obtain⟨i,⟨f,o⟩,rfl⟩:=u.at w (by rw[<-h.nl];exact y);rw[h.node i f o];exact AF f o
 have A:∀e∈s.d7,∃i:Int,(0<=i/\i<g.d7.length)/\e=⟨(AA g.d7 i).mt,AA m.d5 (AA g.d7 i).nd,AA m.d5 (AA g.d7 i).To⟩:=fun e b=>by
  obtain ⟨j,w,y,rfl⟩:=Bh b;obtain⟨i,⟨f,o⟩,rfl⟩:=he.at w (by rw[<-h.el];exact y);exact⟨i,⟨f,o⟩,h.edge i f o⟩
 refine ⟨⟨by rw[h.nl];exact q.ok.ek,by rw[h.el];exact q.ok.em,fun n b=>q.ok.kind n (z n b),fun e b=>?_⟩,fun n b=>q.kind n (z n b),fun e b=>?_⟩
 .obtain⟨i,⟨f,o⟩,rfl⟩:=A e b;have hf:=q.ok.fit _ (AF f o);rw[h.nl];exact⟨hf.1,u.inn hf.2.1.1 hf.2.1.2,u.inn hf.2.2.1 hf.2.2.2⟩
 .obtain⟨i,⟨f,o⟩,rfl⟩:=A e b;have:=q.et _ (AF f o);exact this
theorem Ox(b:0<=i)(e:i<n)(f:n<=l.length):AA (l.take n) i=AA l i:=by
 conv=>rhs;rw[<-List.take_append_drop n l]
 exact (M2 b (by rw[ca];omega)).symm
variable{d:Do}
theorem jB(y:EL t)(hd:XW d):∃r,Mc t d=some r/\Cy t r=0/\(CP r).Sm:=by
 have hv:=y.zero;have n5:=y.em;have n6:=y.ek;obtain⟨p,e1,A⟩:=fF y hd.left;have X:=A.zero y;have J:=A.g.okG y;have g8:=A.g.ek;have Y:=A.g.em;obtain⟨fu,e2,C⟩:=i7 J.ok hd.fu;obtain⟨K,k1,k2⟩:=iq J C;have Z:(Cx p.d6 fu).d5.length=fu.d5.length:=by simp[Cx]
 have hke:(Cx p.d6 fu).d7.length=fu.d7.length:=by simp[Cx]
 obtain ⟨g,e3,V⟩:=mw y K hd.ek hd.em;have w:=eE K (by omega) (by omega) V (by omega) (by omega);obtain⟨M,e4,q⟩:=Wm (n:=g.d5.length) (by have:=w.ok.ek;omega) hd.order;obtain⟨es,e5,u⟩:=Wm (n:=g.d7.length) (by have:=w.ok.em;omega) hd.order;obtain⟨v,e6,e7,b⟩:=fG (m:=⟨M,es⟩) w.ok q u;have z:=nF w q u b;obtain⟨sl,e8,H⟩:=nC y (g:=v.1) (by have:=z.ok.ek;omega) A.vars hd.slots;obtain⟨c,e9,hc,O⟩:=jD y A hd.Abv.1.1 hd.Abv.1.2 hd.Abv.2.1 hd.Abv.2.2;have lns:=q.len;have les:=u.len;obtain⟨xs,ys,I,x2,y2,P,Q⟩:=V;have N:g.d5=(Cx p.d6 fu).d5++xs:=by rw[I]
 have ge:g.d7=(Cx p.d6 fu).d7++ys:=by rw[I]
 have gnl:g.d5.length=(Cx p.d6 fu).d5.length+xs.length:=by rw[N,cE]
 have gel:g.d7.length=(Cx p.d6 fu).d7.length+ys.length:=by rw[ge,cE]
 have T:Q0 (Cx p.d6 fu) v.1 ⟨M.take (Cx p.d6 fu).d5.length,es.take (Cx p.d6 fu).d7.length⟩:=by
  refine ⟨K.ok,z.ok,by simp;omega,by simp;omega,fun i f o=>?_,fun i f o=>?_⟩
  .simp only[ca]at o|-;rw[Ox f (by omega) (by omega),b.nl];refine⟨q.inn f (by omega),(b.node i f (by omega)).trans ?_⟩;rw[N];exact M2 f (by omega)
  .simp only[ca]at o|-;have hf:=(K.ok.fit _ (AF (l:=(Cx p.d6 fu).d7) f (by omega))).2;rw[Ox f (by omega) (by omega),b.el,Ox hf.1.1 hf.1.2 (by omega),Ox hf.2.1 hf.2.2 (by omega),b.edge i f (by omega)];refine⟨u.inn f (by omega),?_⟩;rw[ge,M2 f (by omega)];exact⟨rfl,rfl,rfl⟩
 have D:∀{l:Fp}{n:Nat},GT l n->l.Nodup:=fun h=>h.nodup_iff.2 (Vq _);have hi:Hv ⟨M.take (Cx p.d6 fu).d5.length,es.take (Cx p.d6 fu).d7.length⟩=true:=by
  unfold Hv;rw[Io.2 ((D q).sublist (List.take_sublist _ _)),Io.2 ((D u).sublist (List.take_sublist _ _))];rfl
 have out:∀{l:Fp}{n:Nat}{k:Nat}{x:Int},GT l n->k<=n->x∈BI (l.take k) n->∃i:Int,((k:Int)<=i/\i<n)/\AA l i=x:=fun{l n k x}h C B=>by
  have E:=FH B;obtain⟨i,⟨f,o⟩,e⟩:=h.at E.1 E.2;refine⟨i,⟨?_,o⟩,e⟩;have U:hasB (l.take k) x=false:=by
   unfold BI at B;rw[List.mem_filter]at B;simpa using B.2
  rcases Int.lt_or_le i k with R|S
  .have hl:=h.len;have h3:x∈l.take k:=by
    rw [<-e,<-Ox f R (by omega)];exact AF f (by rw[ca];omega)
   rw [CR.2 h3]at U;cases U
  .exact S
 have F:P6 t v.1 (BI (M.take (Cx p.d6 fu).d5.length) v.1.d5.length) (BI (es.take (Cx p.d6 fu).d7.length) v.1.d7.length)=true:=by
  unfold P6;rw[b.nl,b.el,tg,Bool.not_eq_true',Bool.not_eq_true',List.any_eq_false,List.any_eq_false];refine⟨fun x B=>?_,fun x B=>?_⟩
  .obtain⟨i,⟨f,o⟩,rfl⟩:=out q (by omega) B;rw[b.node i (by omega) o,N];obtain⟨j,rfl⟩:∃j:Nat,i=(Cx p.d6 fu).d5.length+j:=⟨(i-(Cx p.d6 fu).d5.length).toNat,by omega⟩;rw[Xk,(M4.1 (P _ (AF (by omega) (by omega)))).2];decide
  .obtain⟨i,⟨f,o⟩,rfl⟩:=out u (by omega) B;unfold GI;have hf:=(w.ok.fit _ (AF (l:=g.d7) (i:=i) (by omega) o)).2;rw[b.edge i (by omega) o];dsimp only;rw[b.node _ hf.1.1 hf.1.2,b.node _ hf.2.1 hf.2.2,ge];obtain⟨j,rfl⟩:∃j:Nat,i=(Cx p.d6 fu).d7.length+j:=⟨(i-(Cx p.d6 fu).d7.length).toNat,by omega⟩;rw[Xk,(Q _ (AF (by omega) (by omega))).2];decide
 have G:EG t ⟨p.d6,[],0,[]⟩=0:=by
  have E:=A.g.ok y;unfold EG;rw[b6 (by simp[hv]),b6 (by simp[DX E.1]),b6 (by simp[E.2]),b6 (by simp only;omega),b6 (by simp),b6 (by simp),b6 (by simp[Rh (n:=0) (l:=[])]),b6];rw[Cf];rintro⟨i,f,o,_⟩;exact absurd o (by simp only;omega)
 unfold Mc;rw[e1,bs,e2,bs,Wl ⟨by omega,by omega⟩,bs,b6 (by unfold Dt;simp[DX J.ok,Wf C])];dsimp only;rw[e3,bs,e4,bs,e5,bs,e6,bs,Fm (by omega) (by omega),bs,Fm (by omega) (by omega),bs,e8,bs,e9,bs];split
 .unfold Ng;dsimp only;rw[O8 J.ok,bs,O8 z.ok,bs,Bq (by unfold AZ;omega),bs,Bq (by unfold AZ;omega),bs,Bq (by simp;unfold AZ;omega),bs,Bq (by simp;unfold AZ;omega),bs,bs];exact⟨_,rfl,Wq (L:=⟨p.d6,[],0,[]⟩) (sl:=[]) (c:=Rr) hv G z ⟨by simp,(fun s W=>by cases W),fun i j j0 j1 o=>by simp at o;omega⟩ C T hi (R9 G) F,fW (show 1<=1000 by omega) ⟨by simp only;omega,by simp only;omega⟩ (by simp) ⟨by have:=z.ok.ek;simp only;omega,by have:=z.ok.em;simp only;omega⟩ (by simp) ⟨by simp only;omega,by simp only;omega⟩ ⟨by simp;omega,by simp;omega⟩ VR⟩
 .exact⟨_,rfl,Wq hv X z H C T hi hc F,fW (show 1<=1000 by omega) ⟨by simp only;omega,by simp only;omega⟩ ⟨by have:=A.slots;simp only;omega,by have:=A.tests;simp only;omega⟩ ⟨by have:=z.ok.ek;simp only;omega,by have:=z.ok.em;simp only;omega⟩ ⟨by have:=H.1;simp only;omega,by simp⟩ ⟨by simp only;omega,by simp only;omega⟩ ⟨by simp;omega,by simp;omega⟩ O⟩
end Go.Sf.Sc
namespace Go.Sf.Sc
open Go Go.Sf
structure Zp(d:H0):Prop where
 ek:∀x∈d.d5,U2 x
 em:∀x∈d.d7,U3 x
def uC(t:ej)(k:Int)(v:Fp):Prop:=k∈NP t/\v.length=(At t k).length/\∀j:Int,0<=j->j<v.length->(AA (At t k) j).Low<=AA v j/\AA v j<=(AA (At t k) j).Aam
variable{t:ej}
theorem fE(G:EL t){d:H0}(hd:Zp d):∃h,MU t d=some h/\Df t h=(-1,0):=by
 have hv:=G.zero;have hf:=G.few;have L:=C8 hv;have htn:=G.ek;have hte:=G.em;unfold MU KZ;rw[V1 (by omega),bs,bs];refine D7 (fun i h=>(0<=i/\i<=8)/\((h.d6.d5.length:Int)<=i/\h.gp.length=h.d6.d5.length/\h.d6.d7=[])/\∀k:Int,0<=k->k<h.d6.d5.length->uC t (AA h.d6.d5 k) (AA h.gp k)) 8 ⟨by omega,by simp,fun k A B=>by simp at B;omega⟩ (fun i h H⟨a1,⟨a2,a3,M⟩,N⟩=>?_) (fun i h H⟨a1,⟨a2,a3,M⟩,N⟩_=>?_)
 .dsimp only;by_cases y:(i<d.d5.length/\i<8)/\0<((NP t).length:Int)
  .left;have z:=hd.ek _ (AF a1.1 y.1.1);obtain⟨r,V,F,o⟩:=B8 (show 0<=AK (AA d.d5 i).a0 by rw[z.1.w];exact z.1.1) y.2;have D:=AF F o;have f:=(M4.1 D).1;refine⟨by omega,?_⟩;rw[az (by simpa using y),AC a1.1 y.1.1,bs,V,bs,AC F o,bs,Om hf,bs,Jt hv f.1 f.2,AV (n:=i+1) (by omega) (by omega)];dsimp only;generalize AA (NP t) r=kd at D f|-;have E:=(OR G.n (kd+1).toNat kd f.2).1;have S:=UR hf L f.1 f.2;have T:=Vx hf L f.1 f.2;unfold At at E;have E:(At t kd).length<=(kd+1).toNat:=E;refine Z5 (mk:=fun s'=>Bu.next (s',i+1)) (Lp (a:=0) (b:=((At t kd).length:Int)) (s:=([]:Fp)) (fun(k:Int)(s:Fp)=>(s.length:Int)=k/\∀j:Int,0<=j->j<k->(AA (At t kd) j).Low<=AA s j/\AA s j<=(AA (At t kd) j).Aam) (by omega) ⟨rfl,fun j C Q=>by omega⟩ (fun k s A B⟨s1,R⟩=>?_) (fun s⟨s1,R⟩=>?_))
   .have m1:=S _ (AF A B);have m2:=T _ (AF A B);have m3:=z.2.1;have m4:=z.2.2;rw[AC A B,bs,bs,bs,bs,AV (n:=(AA (At t kd) k).Aam-(AA (At t kd) k).Low) (by omega) (by omega),AV (n:=(AA (At t kd) k).Aam-(AA (At t kd) k).Low+1) (by omega) (by omega),z.2.w,AV (n:=7*k) (by omega) (by omega),AV (n:=(AA d.d5 i).a1+7*k) (by omega) (by omega)];obtain⟨q,W,q0,P⟩:=B8 (show 0<=(AA d.d5 i).a1+7*k by omega) (show 0<(AA (At t kd) k).Aam-(AA (At t kd) k).Low+1 by omega);rw[W,bs,AV (n:=(AA (At t kd) k).Low+q) (by omega) (by omega),AY (by simp;unfold AZ;omega),bs];refine⟨_,rfl,by simp;omega,fun j C Q=>?_⟩;by_cases e:j=k
    .rw[KN _ _ (by omega),e];omega
    .rw[Js _ _ C (by omega)];exact R j C (by omega)
   .rw[AY (by simp;unfold AZ;omega),bs,AY (by simp;unfold AZ;omega),bs];refine⟨_,rfl,_,rfl,by omega,⟨by simp;omega,by simp;omega,M⟩,fun k A B=>?_⟩;simp only[cE,List.length_singleton]at B;by_cases e:k=h.d6.d5.length
    .rw[KN _ _ e,KN _ _ (by omega)];exact⟨D,by omega,fun j C Q=>R j C (by omega)⟩
    .rw[Js _ _ A (by omega),Js _ _ A (by omega)];exact N k A (by omega)
  .right;rw[b6 (by simpa using y)]
 dsimp only;refine D7 (fun j u=>(0<=j/\j<=10)/\(u.d6.d5=h.d6.d5/\u.gp=h.gp/\(u.d6.d7.length:Int)<=j)/\∀e∈u.d6.d7,Ru t h.d6.d5.length e/\Is t e.mt (AA h.d6.d5 e.nd) (AA h.d6.d5 e.To)=true) 10 ⟨by omega,⟨rfl,rfl,by rw[M];simp⟩,by rw[M];intro e he;cases he⟩ (fun j u C⟨F,⟨o,I,b3⟩,J⟩=>?_) (fun j u C⟨F,⟨o,I,b3⟩,J⟩_=>⟨u,rfl,?_⟩)
 .dsimp only;by_cases y:((j<d.d7.length/\j<10)/\0<(h.d6.d5.length:Int))/\0<(t.d7.length:Int)
  .left;have z:=hd.em _ (AF F.1 y.1.1.1);obtain⟨r,V,c1,c2⟩:=B8 (show 0<=AK (AA d.d7 j).a0 by rw[z.1.w];exact z.1.1) y.2;obtain⟨r1,W,Z,d2⟩:=B8 (show 0<=AK (AA d.d7 j).a1 by rw[z.2.1.w];exact z.2.1.1) y.1.2;obtain⟨r2,e3,f1,f2⟩:=B8 (show 0<=AK (AA d.d7 j).a2 by rw[z.2.2.w];exact z.2.2.1) y.1.2;refine⟨by omega,?_⟩;rw[az (by simpa using y),AC F.1 y.1.1.1,bs,V,bs,bs,W,bs,bs,e3,bs,o,AC Z d2,bs,AC f1 f2,bs,VC hf,bs,AV (n:=j+1) (by omega) (by omega)];split
   .rename_i K;rw[AY (by simp;unfold AZ;omega),bs];exact⟨_,rfl,by omega,⟨rfl,I,by simp;omega⟩,fun e D=>(List.mem_append.1 D).elim (J e) fun D=>by
     rw [List.mem_singleton.1 D];exact⟨⟨⟨c1,c2⟩,⟨Z,d2⟩,f1,f2⟩,K⟩⟩
   .exact⟨u,rfl,by omega,⟨o,I,by omega⟩,J⟩
  .right;rw[b6 (by simpa using y)]
 .have go:CN u.d6:=by
   refine ⟨by rw[o];omega,by omega,fun n Y=>?_,fun e he=>?_⟩
   .rw[o]at Y;obtain⟨k,A,B,rfl⟩:=Bh Y;have:=(M4.1 (N k A B).1).1;omega
   .have:=(J e he).1;unfold Ru at this;rw[o];omega
  unfold Df;rw[b6 (by simp[hv]),b6 (by simp[DX go]),b6 (by rw[o,I];simpa using a3),A5.2]
  .dsimp only;rw[A5.2]
   .rfl
   intro i H O;obtain⟨P,X⟩:=J _ (AF H O);have U:Hb t u.d6 i=0:=by
    unfold Hb GI;rw[b6 (by have:=P.1.2;omega),o,X];rfl
   rw [U];rfl
  .intro i H O;rw[o]at O;obtain⟨P,X,q3⟩:=N i H O;have q4:=M4.1 P;have U:FQ t (AA u.d6.d5 i) (AA u.gp i)=0:=by
    rw [o,I];unfold FQ;rw[b6 (by omega),b6 (by simp[q4.2]),b6 (by simpa using X),b6];rw[Cf];rintro⟨j,C,Q,e⟩;have:=q3 j C (by omega);simp[OF]at e;omega
   rw [U];rfl
end Go.Sf.Sc
namespace Go.Sf.Sc
open Go Go.Sf
structure VS(d:Fx):Prop where
 types:∀x∈d.ej,U2 x
 ends:∀x∈d.Ab8,U2 x
 rules:∀r∈d.Aaj,XW r
 host:Zp d.gt
instance:Inhabited Do:=⟨⟨⟨⟨[],[]⟩,[],[]⟩,0,[],[],[],false,false,⟨0,0,0,0⟩,[]⟩⟩
theorem jC{d:Fx}(hd:VS d):∃v,Mf d=some v/\EL v.1/\(v.2.1.length<=3/\∀r∈v.2.1,Cy v.1 r=0/\(CP r).Sm)/\Df v.1 v.2.2=(-1,0):=by
 obtain ⟨t,et,q⟩:=iz hd.types hd.ends;unfold Mf;rw[et,bs];refine D7 (fun i l=>(0<=i/\i<=3)/\(l.length:Int)<=i/\∀r∈l,Cy t r=0/\(CP r).Sm) 3 ⟨by omega,by simp,fun r o=>by cases o⟩ (fun i l s⟨a1,a2,a3⟩=>?_) (fun i l s⟨a1,a2,a3⟩_=>?_)
 .dsimp only;by_cases f:i<d.Aaj.length/\i<3
  .left;have b:=hd.rules _ (AF a1.1 f.1);have u:LE (AA d.Aaj i).kl.d6 2 2=some ⟨(AA d.Aaj i).kl.d6.d5.take (min ((AA d.Aaj i).kl.d6.d5.length:Int) 2).toNat,(AA d.Aaj i).kl.d6.d7.take (min ((AA d.Aaj i).kl.d6.d7.length:Int) 2).toNat⟩:=by
    unfold LE;rw[Fm (by omega) (by omega),bs,Fm (by omega) (by omega),bs]
   obtain ⟨r,e,o⟩:=jB q (d:=⟨⟨⟨(AA d.Aaj i).kl.d6.d5.take (min ((AA d.Aaj i).kl.d6.d5.length:Int) 2).toNat,(AA d.Aaj i).kl.d6.d7.take (min ((AA d.Aaj i).kl.d6.d7.length:Int) 2).toNat⟩,(AA d.Aaj i).kl.ff,(AA d.Aaj i).kl.ns⟩,(AA d.Aaj i).tl,(AA d.Aaj i).d5,(AA d.Aaj i).d7,(AA d.Aaj i).ff,(AA d.Aaj i).Plain,(AA d.Aaj i).po,(AA d.Aaj i).AaA,(AA d.Aaj i).AbB⟩)
    ⟨⟨⟨fun x h=>b.left.g.ek x (List.mem_of_mem_take h),fun x h=>b.left.g.em x (List.mem_of_mem_take h)⟩,b.left.slots⟩,b.fu,b.ek,b.em,b.slots,b.Abv,b.order⟩
   refine ⟨by omega,l++[r],?_,by omega,by simp;omega,fun x h=>(List.mem_append.1 h).elim (a3 x) fun h=>List.mem_singleton.1 h▸o⟩;rw[az (by simpa using f),AC a1.1 f.1,bs,u,bs,e,bs,AY (by simp;unfold AZ;omega),bs,AV (n:=i+1) (by omega) (by omega)]
  .right;rw[b6 (by simpa using f)]
 .dsimp only;rw[Fm (by omega) (by omega),bs,Fm (by omega) (by omega),bs];obtain⟨h,e,hh⟩:=fE q (d:=⟨d.gt.d5.take (min (d.gt.d5.length:Int) 5).toNat,d.gt.d7.take (min (d.gt.d7.length:Int) 6).toNat⟩) ⟨fun x h=>hd.host.ek x (List.mem_of_mem_take h),fun x h=>hd.host.em x (List.mem_of_mem_take h)⟩;rw[e,bs];exact⟨_,rfl,q,⟨by simp only;omega,a3⟩,hh⟩
end Go.Sf.Sc
namespace Go.Sf.Sc
open Go Go.Sf
variable{α:Type}{i:Int}
theorem pC[Inhabited α]{a r:List α}{x:α}(b:0<=i)(h:(a.length:Int)=i):AA (a++x::r) i=x:=by
 obtain ⟨n,rfl⟩:=Int.eq_ofNat_of_zero_le b;obtain rfl:a.length=n:=by omega
 simp [AA]
theorem mN{a r:List α}{x y:α}(b:0<=i)(h:(a.length:Int)=i):BN (a++x::r) i y=a++y::r:=by
 obtain ⟨n,rfl⟩:=Int.eq_ofNat_of_zero_le b;obtain rfl:a.length=n:=by omega
 simp [BN]
theorem r9[Inhabited α]{l:List α}(b:0<=i)(e:i<l.length):l.drop i.toNat=AA l i::l.drop (i+1).toNat:=by
 rw [show(i+1).toNat=i.toNat+1 by omega,List.drop_eq_getElem_cons (show i.toNat<l.length by omega)];congr 1
 grind [AA,List.getElem?_eq_getElem]
theorem lG{l e:Fp}(B:l.length<=1000)(h:∀x∈l,-1<=x/\x<e.length):Lr l e=some (true,IE l e):=by
 unfold Lr;rw[M7 (a:=0) (b:=(l.length:Int)) (s:=l) (fun i=>IE (l.take i.toNat) e++l.drop i.toNat) (fun _=>none) (by omega) (by simp[IE]),A5.2 (fun _ _ _=>rfl)]
 .simp only[ak,B6,Int.toNat_natCast,List.take_length,List.drop_length,List.append_nil]
 intro i f o _;have A:=h _ (AF f o);have u:((IE (l.take i.toNat) e).length:Int)=i:=by simp[IE];omega
 have w:∀y,(if AA l i<0 then -1 else AA e (AA l i))=y->IE (l.take (i+1).toNat) e++l.drop (i+1).toNat=IE (l.take i.toNat) e++y::l.drop (i+1).toNat:=fun y z=>by
  rw [B3 f o];simp[IE,z]
 rw [r9 f o,AC f (by simp;omega),bs,pC f u,b6 (by simp;omega)];by_cases q:0<=AA l i
 .rw[az (by simpa using q),AC q A.2,bs,bs,mN f u,w _ (b6 (by omega))];rfl
 .rw[b6 (by simpa using q),w _ (az (by omega)),show AA l i=-1 by omega];rfl
end Go.Sf.Sc
namespace Go.Sf.Sc
open Go Go.Sf
variable{t:ej}
theorem Wx{k:Int}(o:D8 t k){c:Int}:∀(n m:Nat)(a b:Int),a<k->a<n->b<m->b∈IX t n a->c∈IX t m b->c∈IX t n a
 |0,_,_,_,_,_,_,f,_=>by simp[IX]at f|n+1,m,a,b,u,y,w,f,q=>by
  rw [IX]at f|-;split at f
  .cases f
  .rename_i s;rw[b6 s];have z:=o a (by omega) u;rcases List.mem_cons.1 f with rfl|f
   .have e:=gI o m (n+1) b u w y;rw[e,IX,b6 s]at q;exact q
   .exact List.mem_cons_of_mem _ (Wx o n m (par t a) b (by omega) (by omega) w f q)
theorem WU(h:E8 t){a b c:Int}(s:a<t.d5.length)(f:Gt t a b=true)(o:Gt t b c=true):Gt t a c=true:=by
 unfold Gt at f o|-;rw[List.any_eq_true]at f o|-;obtain⟨x,u,e⟩:=f;obtain⟨y,w,q⟩:=o;rw[zzX]at e q;subst e;subst q;exact⟨c,Wx h.par _ _ a b s (by omega) (by omega) u w,by simp⟩
theorem iC(h:E8 t){e f g o q:Int}(hf:0<=o/\o<t.d5.length)(s:0<=q/\q<t.d5.length)(u:Gt t o f=true)(w:Gt t q g=true)(b:Is t e f g=true):Is t e o q=true:=by
 unfold Is at b|-;simp only[tg,KV]at b|-;exact⟨⟨⟨b.1.1.1,hf,s⟩,b.1.2⟩,WU h hf.2 u b.2.1,WU h s.2 w b.2.2⟩
end Go.Sf.Sc
namespace Go.Sf.Sc
open Go Go.Sf
variable{t:ej}{r:hO}
theorem Yx(h:Cy t r=0):(∀x∈D3 r,(AA t.d5 (AA r.gn.d6.d5 x)).qo=false)/\∀x∈Im r,GI t r.gn.d6 x=true:=by
 have b:P6 t r.gn.d6 (D3 r) (Im r)=true:=by grind[Cy]
 unfold P6 at b;rw[tg,Bool.not_eq_true',Bool.not_eq_true',List.any_eq_false,List.any_eq_false]at b;exact⟨fun x e=>by simpa using b.1 x e,fun x e=>by simpa using b.2 x e⟩
abbrev gS(t:ej)(r:hO)(h:gt)(m:AS):gt:=Cb t r (CM h (dS r h m)) (cS r h m)
variable{h:gt}
theorem Gp.em{m:AS}(s:Gp t r h m):∀e∈(gS t r h m).d6.d7,((0<=e.nd/\e.nd<(gS t r h m).d6.d5.length)/\0<=e.To/\e.To<(gS t r h m).d6.d5.length)/\Is t e.mt (AA (gS t r h m).d6.d5 e.nd) (AA (gS t r h m).d6.d5 e.To)=true:=by
 intro e he;have el:(gS t r h m).d6.d5=(dS r h m).d5.map (AA h.d6.d5)++(D3 r).map (AA r.gn.d6.d5):=rfl;have he:e∈(dS r h m).d7.map (fun x=>Vd (Fo h (dS r h m)).d5 (AA h.d6.d7 x))++(Im r).map (fun k=>Vd (cS r h m).d5 (AA r.gn.d6.d7 k)):=he;rcases List.mem_append.1 he with he|he
 .obtain⟨x,A,rfl⟩:=List.mem_map.1 he;have z:=Sd (Yf s.part).2;have f:=z.em.1 x A;have b:=z.ends x A;have hf:=(s.hh.g.fit _ (AF f.1 f.2)).2;have F:=(RN s.he).2 x f.1 f.2;have fit:GI t h.d6 x=true:=by
   unfold Hb at F
   grind
  have at_:∀y,y∈(dS r h m).d5->0<=y->y<h.d6.d5.length->(0<=AA (Fo h (dS r h m)).d5 y/\AA (Fo h (dS r h m)).d5 y<(gS t r h m).d6.d5.length)/\AA (gS t r h m).d6.d5 (AA (Fo h (dS r h m)).d5 y)=AA h.d6.d5 y:=fun y C D E=>by
   have hi:=HD C;rw[show AA (Fo h (dS r h m)).d5 y=EE (dS r h m).d5 y from ZA D E,el,cE,d3];refine⟨⟨hi.1,by have:=hi.2.1;push_cast;omega⟩,?_⟩;rw[dZ hi.1 (by rw[d3];exact hi.2.1),L3 hi.1 hi.2.1,hi.2.2.1]
  obtain ⟨a1,a2⟩:=at_ _ b.1 hf.1.1 hf.1.2;obtain⟨u,w⟩:=at_ _ b.2 hf.2.1 hf.2.2;refine⟨⟨a1,u⟩,?_⟩;simp only[Vd];rw[a2,w];exact fit
 .obtain⟨k,B,rfl⟩:=List.mem_map.1 he;have o:0<=k/\k<r.gn.d6.d7.length:=FH B;have hf:=(s.ro.right.fit _ (AF o.1 o.2)).2;obtain⟨a1,a3,a2⟩:=s.AbO hf.1.1 hf.1.2;obtain⟨u,G,w⟩:=s.AbO hf.2.1 hf.2.2;have q:=s.put.kind;refine⟨⟨a1,u⟩,?_⟩;exact iC (C8 s.hv) ⟨(q _ (AF a1.1 a1.2)).1,a3⟩ ⟨(q _ (AF u.1 u.2)).1,G⟩ a2 w ((Yx s.re).2 k B)
end Go.Sf.Sc
namespace Go.Sf.Sc
open Go Go.Sf
def bH(t:ej)(k:Int)(v:Fp):Prop:=v.length=(At t k).length/\∀j:Int,0<=j->j<v.length->(AA (At t k) j).Low<=AA v j/\AA v j<=(AA (At t k) j).Aam
def UJ(t:ej)(g:d6)(V:List Fp):Prop:=V.length=g.d5.length/\∀i:Int,0<=i->i<g.d5.length->bH t (AA g.d5 i) (AA V i)
variable{t:ej}
theorem eD{x:gt}{V:List Fp}(h:UJ t x.d6 V){p:(Int×Int)×Int}(u:Ps t x p=false):UJ t x.d6 (CQ V p):=by
 unfold CQ;split
 .rename_i s;refine⟨by rw[List.length_modify];exact h.1,fun i w y=>?_⟩;have hi:=h.2 i w y;by_cases e:i=p.1.1
  .have b:AA (V.modify p.1.1.toNat fun r=>r.set p.1.2.toNat p.2) i=(AA V i).set p.1.2.toNat p.2:=by
    have:=h.1;subst e;simp[AA,List.getElem?_modify,List.getElem?_eq_getElem (show p.1.1.toNat<V.length by omega)]
   rw [b];refine⟨by rw[List.length_set];exact hi.1,fun j o q=>?_⟩;rw[List.length_set]at q;by_cases f:j=p.1.2
   .rw[show AA ((AA V i).set p.1.2.toNat p.2) j=p.2 by rw[f];exact Oh p.2 s.2 (by omega),f,e];simp[Ps]at u;omega
   .rw[show AA ((AA V i).set p.1.2.toNat p.2) j=AA (AA V i) j from S1 p.2 s.2 o f];exact hi.2 j o q
  .have b:AA (V.modify p.1.1.toNat fun r=>r.set p.1.2.toNat p.2) i=AA V i:=by
    simp [AA,List.getD_eq_getElem?_getD,List.getElem?_modify,show¬p.1.1.toNat=i.toNat by omega]
   rw [b];exact hi
 .exact h
theorem WQ{x:gt}:∀(L:BR){V:List Fp},UJ t x.d6 V->L.any (Ps t x)=false->UJ t x.d6 (L.foldl CQ V)
 |[],_,h,_=>h|p::L,V,h,b=>by
  rw [List.any_cons,Bool.or_eq_false_iff]at b;exact WQ L (eD h b.1) b.2
variable{r:hO}{h:gt}
theorem Gp.ek{m:AS}(s:Gp t r h m):(∀n∈(gS t r h m).d6.d5,(AA t.d5 n).qo=false)/\∀v n,(n,v)∈(gS t r h m).d6.d5.zip (gS t r h m).gp->bH t n v:=by
 have B:=C8 s.hv;have el:(gS t r h m).d6.d5=(dS r h m).d5.map (AA h.d6.d5)++(D3 r).map (AA r.gn.d6.d5):=rfl;have ev:(gS t r h m).gp=(dS r h m).d5.map (AA h.gp)++(D3 r).map (fun k=>Tv t (AA r.gn.d6.d5 k)):=rfl;have old:∀x∈(dS r h m).d5,(AA t.d5 (AA h.d6.d5 x)).qo=false/\bH t (AA h.d6.d5 x) (AA h.gp x):=fun x b=>by
  have b:=s.rem.ek.1 x b;have f:=(RN s.he).1 x b.1 b.2;unfold FQ at f;split at f
  .cases f
  split at f
  .cases f
  split at f
  .cases f
  split at f
  .cases f
  rename_i a1 a2 a3 C;refine⟨by simpa using a2,Classical.not_not.1 a3,fun j y z=>?_⟩;have:=Bk.1 (by simpa using C) j y (by omega);simp[OF]at this;omega
 have new:∀k∈D3 r,bH t (AA r.gn.d6.d5 k) (Tv t (AA r.gn.d6.d5 k)):=fun k A=>by
  have u:0<=k/\k<r.gn.d6.d5.length:=FH A;have w:=(GK s.ro.right s.ro.Abp).1 _ (AF u.1 u.2);refine⟨by simp[Tv],fun j y z=>?_⟩;simp only[Tv,d3]at z|-;have:=Vx s.hf B w.1 w.2 _ (AF y z);rw[show AA ((At t (AA r.gn.d6.d5 k)).map fun x=>x.Low) j=(AA (At t (AA r.gn.d6.d5 k)) j).Low by grind[AA,List.getElem?_eq_getElem]];omega
 refine ⟨fun n q=>?_,fun v n o=>?_⟩
 .rw[el]at q;rcases List.mem_append.1 q with q|q
  .obtain⟨x,b,rfl⟩:=List.mem_map.1 q;exact(old x b).1
  .obtain⟨k,A,rfl⟩:=List.mem_map.1 q;exact(Yx s.re).1 k A
 .rw[el,ev,List.zip_append (by simp)]at o;rcases List.mem_append.1 o with o|o
  .rw[List.zip_map',List.mem_map]at o;obtain⟨x,b,e⟩:=o;cases e;exact(old x b).2
  .rw[List.zip_map',List.mem_map]at o;obtain⟨x,b,e⟩:=o;cases e;exact new x b
end Go.Sf.Sc
namespace Go.Sf.Sc
open Go Go.Sf
variable{α β:Type}{a:List α}{i:Int}
theorem qt[Inhabited α][Inhabited β]{b:List β}(e:0<=i)(f:i<a.length)(o:i<b.length):(AA a i,AA b i)∈a.zip b:=by
 refine List.mem_of_getElem? (i:=i.toNat) ?_;rw[List.getElem?_zip_eq_some]
 grind [AA,List.getElem?_eq_getElem]
variable{t:ej}{r:hO}{h:gt}
theorem ZN{m:AS}(s:Ou t r h m):Df t (Nt t r h m)=(-1,0):=by
 have f:=s.f;have hv:=f.hv;have w:=C8 hv;have put:=f.put;have A:=f.em;obtain⟨E,F⟩:=f.ek;have J:=w.ek;have K:=w.em;have q:UJ t (gS t r h m).d6 (gS t r h m).gp:=⟨put.Ab5,fun i u o=>F _ _ (qt u o (by rw[put.Ab5];exact o))⟩;have b:=WQ (x:=gS t r h m) _ q (fC s.put).2;have y:∀e∈(gS t r h m).d6.d7,0<=e.mt/\e.mt<t.d7.length:=fun e he=>by
  have:=(A e he).2;unfold Is at this;simp only[tg,zzX]at this;exact this.1.2
 have go:CN (gS t r h m).d6:=⟨s.few.1,s.few.2,fun n C=>by have:=put.kind n C;omega,fun e he=>⟨by have:=y e he;omega,(A e he).1⟩⟩;have D:(Nt t r h m).d6=(gS t r h m).d6:=rfl;have ev:(Nt t r h m).gp=(Cs r (cS r h m) m.fq).foldl CQ (gS t r h m).gp:=rfl;unfold Df;rw[b6 (by simp[hv]),D,ev,b6 (by simp[DX go]),b6 (by simpa using b.1),A5.2]
 .dsimp only;rw[A5.2]
  .rfl
  intro i u o;have z:=AF u o;have B:Hb t (gS t r h m).d6 i=0:=by
   unfold Hb GI;rw[b6 (by have:=y _ z;omega),(A _ z).2];rfl
  rw [B];rfl
 .intro i u o;have z:=AF u o;obtain⟨G,H⟩:=b.2 i u o;have B:FQ t (AA (gS t r h m).d6.d5 i) (AA ((Cs r (cS r h m) m.fq).foldl CQ (gS t r h m).gp) i)=0:=by
   unfold FQ;rw[b6 (by have:=put.kind _ z;omega),b6 (by simp[E _ z]),b6 (by simpa using G),b6];rw[Cf];rintro⟨j,I,L,e⟩;have:=H j I (by omega);simp[OF]at e;omega
  rw [B];rfl
end Go.Sf.Sc
namespace Go.Sf.Sc
open Go Go.Sf
variable{t:ej}{r:hO}{h:gt}
theorem lm(hf:A6 t)(e:Cy t r=0)(b:(Df t h).2=0):(IG t r h).2=0\/(IG t r h).2=3:=by
 have o:RH t r h=0:=by unfold RH;simp[e,b]
 have f:=(Rc e).1;have q:NW t r.kl h=0:=by unfold NW;simp[f,b]
 obtain ⟨hv,hh⟩:=Qm hf b;obtain⟨go,ty⟩:=U9 f;have s:ED t r.kl.d6 h.d6=0:=by unfold ED;simp[hv,DX go,hh.ge,ty,hh.ty]
 unfold IG MH M0
 grind
end Go.Sf.Sc
namespace Go.Sf.Sc
open Go Go.Sf
variable{t:ej}{rules:List hO}{h:gt}
theorem nH(s:Ga t rules h=0):(∀r∈rules,Cy t r=0)/\(Df t h).2=0:=by
 have e:LJ t rules=0/\(Df t h).2=0:=by grind[Ga]
 refine ⟨fun r b=>?_,e.2⟩;obtain⟨i,o,q,rfl⟩:=Bh b;have f:(fst (fun i=>nz (Cy t (AA rules i))) 0 rules.length).getD 0=0:=by grind[LJ]
 exact SJ f i o q
theorem bS(hf:A6 t)(D:Ja rules)(u:Ga t rules h=0){choices:Fp}(N:choices.length<=30):∃v,S4 t rules h choices=some v/\(v.2=3\/v.2=0/\v.1.kp=h/\KL t rules v.1):=by
 obtain ⟨z,A⟩:=nH u;unfold S4;rw[b6 (by simp[u]),b6 (by omega)];rcases O1 (f:=S3 t rules choices) (fun i s=>s.2.2.kp=h/\(s.2.2.j4.length:Int)<=i/\KL t rules s.2.2/\s.1=(FU t rules h s.2.2.j4).2/\(Df t s.1).2=0) (fun s=>s.2.2.kp=h/\KL t rules s.2.2) (fun v=>v.2=3) (a:=0) (b:=choices.length) (s:=(h,zD,AP.mk h [])) (by omega) ⟨rfl,by simp,⟨u,by simp,fun i I E=>by simp at E;omega⟩,rfl,A⟩ (fun i s I E hi=>by
   obtain ⟨B,O,G,H,J⟩:=hi;unfold S3;obtain⟨v,e,P,K,L⟩:=Yg (t:=t) D s.1;rw[e,bs];by_cases w:v.2=0
   .rw[b6 (by simp[w])];by_cases o:(v.1.length:Int)=0
    .rw[az (by simpa using o)];exact .inr (.inl ⟨_,rfl,B,G⟩)
    .rw[b6 (by simpa using o)];have F:=aS (c:=AA choices i) (show 0<(v.1.length:Int)by omega);have y:=K _ (AF F.1 F.2);generalize AA v.1 (Ph (AA choices i) v.1.length)=m at y|-;rw[AY (by simp;unfold AZ;omega),bs];have q:=y;rw[H,<-B]at q;obtain⟨_,st,M⟩:=Oj hf D y;refine .inl ⟨_,rfl,B,by simp;omega,li G (by omega) q,?_,?_⟩
     .simp only[Lg];rw[<-H]
     .rw[M];exact congrArg Prod.snd (ZN st)
   .rw[az (by simp[w])];obtain⟨r,C,Q⟩:=L.resolve_left w;refine .inr (.inr ⟨_,rfl,?_⟩);have:=lm hf (z r C) J;simp only;omega)with⟨s',e,o⟩|⟨v,e,o⟩
 .rw[e,B6];exact⟨_,rfl,.inr ⟨rfl,o.elim (fun k=>⟨k.1,k.2.2.1⟩) id⟩⟩
 .rw[e,N9];exact⟨_,rfl,.inl o⟩
end Go.Sf.Sc
namespace Go.Sf.Sc
open Go Go.Sf
variable{α:Type}{n:Nat}
theorem GL{e:α->TV}{l:List α}(h:TV.WF (eL n e l)):∀x∈l,(e x).WF:=by
 have o:TV.WF (.list n (l.map e)):=h;simp only[TV.WF]at o;intro x q;have key:∀{ts:Fq},TV.tn ts->∀t∈ts,t.WF:=by
  intro ts
  induction ts with
  |nil=>intro _ t b;cases b
  |cons a l s=>
   intro f t b;rcases List.mem_cons.1 b with rfl|b
   .exact f.1
   .exact s f.2 t b
 exact key o.2 _ (List.mem_map.2 ⟨x,q,rfl⟩)
variable{x:Int}
theorem JM(h:(Gr x).WF):U8 x:=by
 have b:IntKind.u8.min<=x/\x<=IntKind.u8.max:=h;rw[show IntKind.u8.min=0 by decide,show IntKind.u8.max=255 by decide]at b;exact⟨b.1,by omega⟩
theorem ZE{x:G8}(h:(Ip x).WF):U2 x:=⟨JM h.1,JM h.2.1⟩
theorem Su{x:G9}(h:(Fd x).WF):U3 x:=⟨JM h.1,JM h.2.1,JM h.2.2.1⟩
variable{d:Do}
theorem gP(h:(IK d).WF):XW d:=by
 have f:TV.tn [_,_,_,_,_,_,_,_,_,_,_,_,_,_,_]:=h;obtain⟨o,q,s,_,u,w,y,z,_,_,A,B,C,D,E,_⟩:=f;have e:IntKind.u64.min<=d.tl/\d.tl<=IntKind.u64.max:=u;rw[show IntKind.u64.min=0 by decide,show IntKind.u64.max=18446744073709551615 by decide]at e;exact⟨⟨⟨fun x b=>JM (GL o x b),fun x b=>Su (GL q x b)⟩,fun x b=>Su (GL s x b)⟩,⟨e.1,by omega⟩,
  fun x b=>JM (GL w x b),fun x b=>Su (GL y x b),fun x b=>Su (GL z x b),⟨⟨JM A,JM B⟩,JM C,JM D⟩,fun x b=>JM (GL E x b)⟩
theorem dF{d:Fx}(h:(IL d).WF):VS d:=by
 have e:TV.tn [_,_,_,_,_]:=h;obtain⟨f,o,q,s,u,_⟩:=e;exact⟨fun x b=>ZE (GL f x b),fun x b=>ZE (GL o x b),fun x b=>gP (GL q x b),fun x b=>ZE (GL s x b),fun x b=>Su (GL u x b)⟩
variable{t:ej}{rules:List hO}{h:gt}
theorem eA(hv:(A1 t).2=0)(q:rules.length<=10)(b:∀r∈rules,Cy t r=0)(hh:(Df t h).2=0):Ga t rules h=0:=by
 have o:LJ t rules=0:=by
  unfold LJ;rw[b6 (by simp[hv]),b6 (by omega),A5.2 fun i e f=>by rw[b _ (AF e f)];rfl];rfl
 unfold Ga;rw[b6 (by simp[o])];exact hh
theorem P8(d:Fx)(choices:Fp)(hd:VS d):FM d choices=some true:=by
 obtain ⟨⟨t,rules,h⟩,N,D,⟨O,E⟩,I⟩:=jC hd;dsimp only at D O E I;obtain⟨b,el,P⟩:=mM D.sm (fun r f=>(E r f).2) h;unfold FM;rw[gj,bs,bs];by_cases G:4<(choices.length:Int)
 .rw[az (by simpa using G)]
 rw [b6 (by simpa using G),N,bs];dsimp only;rw[el,bs];cases b with
 |false=>rfl|true=>
 obtain ⟨hf,f⟩:=P rfl;have H:Ga t rules h=0:=eA D.zero (by omega) (fun r k=>(E r k).1) (congrArg Prod.snd I);rw[b6 (by decide),YH (F:=AK) (fun i s o q R=>by
  rw [AC o q,bs,AY (by simp;unfold AZ;omega),bs]),bs,ij hf f]
 obtain ⟨⟨x,e⟩,ev,k⟩:=bS hf f H (choices:=choices.map AK) (by rw[d3];omega);rw[ev,bs,Yb hf f,bs];dsimp only at k|-;rcases k with rfl|⟨rfl,Q,rep⟩
 .rw[az (by simp)];rfl
 subst Q;have few:=rep.few;have z:=(Ql hf H).2.2.2.ge;rw[fR rep];dsimp only;rw[b6 (by simp[NE]),jG z,bs,M7 (a:=0) (b:=(x.j4.length:Int)) (fun i=>((⟨x.kp,x.j4.take i.toNat⟩:AP),O0 (Kt x.kp.d6) (FU t rules x.kp (x.j4.take i.toNat)).1)) (fun _=>none) (by omega) (by simp[FU,O0]),A5.2 (fun _ _ _=>rfl)]
 .simp only[ak,B6,Int.toNat_natCast,List.take_length];rw[aL hf f,bs];have K:OD t rules x=((FU t rules x.kp x.j4).2,O0 (Kt x.kp.d6) (FU t rules x.kp x.j4).1,0):=by
   unfold OD;rw[b6 (by rw[VJ.2 rep];simp)]
  rw [K];dsimp only;rw[az (by simp),sg (d:=x) (rep.small hf f).start,bs,bs,az rfl,mj];rfl
 .intro i o q _;have hi:i.toNat<=x.j4.length:=by omega
  obtain ⟨S,u⟩:=Pn hf f rep i.toNat hi;have he:=rep.moves i o q;unfold Mv at he;obtain⟨_,st,J⟩:=Oj hf f he;have tk:=st.trk;have A:=Lg t rules x.kp (x.j4.take i.toNat) (AA x.j4 i);have B:=fi t rules x.kp x.j4 i o q;have C:bN t rules ⟨x.kp,x.j4.take i.toNat⟩ (AA x.j4 i)=(⟨x.kp,x.j4.take i.toNat++[AA x.j4 i]⟩,0):=by
   have L:=kO rep i.toNat
   have M:OD t rules ⟨x.kp,x.j4.take i.toNat⟩=((FU t rules x.kp (x.j4.take i.toNat)).2,O0 (Kt x.kp.d6) (FU t rules x.kp (x.j4.take i.toNat)).1,0):=by
    unfold OD;rw[b6 (by rw[VJ.2 L];simp)]
   unfold bN;rw[M];dsimp only;rw[b6 (by simp),b6 (by rw[ca];omega),b6 (by simp[he])]
  dsimp only;rw[AC o q,bs,ic hf f,C,bs,b6 (by simp),AC o (by rw[NE];exact q),bs,B,J];dsimp only;rw[lG u.AaH (fun y w=>by have:=u.node y w;rw[tk.AaH];exact this),bs,b6 (by simp),bs,lG u.AaN (fun y w=>by have:=u.edge y w;rw[tk.AaN];exact this),bs,b6 (by simp),B3 o q,A,J];simp only[O0,List.foldl_append,List.foldl_cons,List.foldl_nil];rfl
end Go.Sf.Sc
