/- Plain lemmas: what the functions of the program and of the reference compute. -/
import Derived.Test.YtbmgmpeimdomoaaGreatP201
set_option linter.all false
set_option maxRecDepth 100000
open Option renaming some->Y
open Bool renaming true->X
open List renaming mem_map->w!
namespace Go.Sf
theorem Tw{σ ρ β:Type}{f:σ->Option (B2 σ ρ)}{k:σ->Option β}{b:ρ->Option β}{Q:β->Prop}(I:Nat->σ->Prop)(J:σ->Prop)(n:Nat){s:σ}(c:I n s)(d:∀n s,I (n+1) s->(∃s',f s=Y (.next s')/\I n s')\/∃s',f s=Y (.brk s')/\J s')(g:∀s,I 0 s->∃s',f s=Y (.brk s')/\J s')(i:∀s,J s->∃r,k s=Y r/\Q r):∃r,d6 (FK f s) k b=Y r/\Q r:=by
 have key:∀(n:Nat)(s:σ),I n s->∃s',LV f s (.inl s')/\J s':=λn=>by
  induction n with
  |zero=>
   intro s a;obtain⟨s',e,h⟩:=g s a;exact⟨s',.brk e,h⟩
  |succ n m=>
   intro s a;rcases d n s a with⟨s',e,h⟩|⟨s',e,h⟩
   .obtain⟨s2,j,l⟩:=m s' h;exact⟨s2,.next e j,l⟩
   .exact⟨s',.brk e,h⟩
 obtain ⟨s',e,h⟩:=key n s c;rw[e.eq,B0];exact i s' h
variable{σ β:Type}{k:σ->Option β}
theorem kW{f:Int->σ->Option σ}{P:Option β->Prop}(I:Int->σ->Prop){a b:Int}{s:σ}(c:a<=b)(d:I a s)(h:∀i s,a<=i->i<b->I i s->∃s',f i s=Y s'/\I (i+1) s')(e:∀s,I b s->P (k s)):P ((gp f a b s).bind k):=by
 obtain ⟨s',g,j⟩:=PB I c d h;rw[g,bs];exact e s' j
end Go.Sf
namespace Go.Sf.Sc
open Go Go.Sf
theorem LC{α:Type}{n:Nat}{f:α->TV}{l:List α}(h:l.length<=1000)(hf:∀x,(f x).Sm):(eL n f l).Sm:=by
 refine ⟨u_,K8.2 λt a=>?_⟩;obtain⟨x,_,rfl⟩:=w!.1 a;exact hf x
theorem Tl(x:Int):(eI x).Sm:=trivial
theorem pB(x:Bw):(B6 x).Sm:=by simp[B6,TV.Sm,TV.Sms,eI]
theorem pC(x:DN):(Gp x).Sm:=by simp[Gp,TV.Sm,TV.Sms,eI]
theorem pF(x:Test):(Hh x).Sm:=by simp[Hh,TV.Sm,TV.Sms,eI]
def iJ(g:bi):Prop:=g.az.length<=1000/\g.be.length<=1000
theorem rZ{c:bq}(e:∀k∈c.eo,(AQ k).Sm)(h:c.eo.length<=1000)(a:c.Map.az.length<=1000/\c.Map.be.length<=1000)(b:iJ c.cE.bi)(d:c.cE.d4.length<=1000/\c.cE.fv.length<=1000):(AQ c).Sm:=by
 refine ⟨trivial,?_,LC a.1 Tl,LC a.2 Tl,LC b.1 Tl,LC b.2 pB,LC d.1 pC,trivial,LC d.2 pF,trivial⟩;unfold Fo;rw[MI];refine⟨u_,K8.2 λt f=>?_⟩;obtain⟨x,g,rfl⟩:=w!.1 f;exact e x g
variable{r:d3}
theorem s9(p:r.f0.size<=1000)(a:iJ r.d7.bi)(b:r.d7.d4.length<=1000/\r.d7.fv.length<=1000)(c:iJ r.ca.bi)(d:r.ca.d4.length<=1000/\r.ca.fv.length<=1000)(e:r.kg.az.length<=1000/\r.kg.be.length<=1000)(f:r.ec.az.length<=1000/\r.ec.be.length<=1000)(g:(AQ r.bq).Sm):(Bm r).Sm:=by
 obtain ⟨h,i,c3,j,l,c6,m,n,o,_⟩:=g;exact⟨by show r.f0.size<=reachBytes;unfold reachBytes;omega,LC a.1 Tl,LC a.2 pB,LC b.1 pC,trivial,LC b.2 pF,LC c.1 Tl,LC c.2 pB,LC d.1 pC,trivial,LC d.2 pF,LC e.1 Tl,LC e.2 Tl,LC f.1 Tl,LC f.2 Tl,trivial,h,i,c3,j,l,c6,m,n,o,trivial⟩
theorem fU{t:AC}(hf:Ap t):(AN t).Sm:=by
 refine ⟨⟨by rw[a6];have:=hf.ci;unfold reachBytes;omega,K8.2 λx b=>?_⟩,⟨by rw[a6];have:=hf.c8;unfold reachBytes;omega,K8.2 λx b=>?_⟩,trivial⟩
 .obtain⟨n,d,rfl⟩:=w!.1 b;have j:=hf.name n d;have l:=hf.AbK n d;refine⟨by show n.f0.size<=reachBytes;unfold reachBytes;omega,trivial,trivial,⟨u_,K8.2 λy f=>?_⟩,trivial⟩;obtain⟨a,h,rfl⟩:=w!.1 f;have c:=hf.each n d a h;refine⟨by show a.f0.size<=reachBytes;have:=c.name;unfold reachBytes;omega,trivial,trivial,⟨by rw[a6];have:=c.names;unfold reachBytes;omega,K8.2 λz g=>?_⟩,trivial⟩;obtain⟨s,i,rfl⟩:=w!.1 g;show s.size<=reachBytes;have:=c.each s i;unfold reachBytes;omega
 .obtain⟨e,he,rfl⟩:=w!.1 b;have:=hf.AbP e he;exact⟨by show e.f0.size<=reachBytes;unfold reachBytes;omega,trivial,trivial,trivial,trivial,trivial,trivial,trivial⟩
structure OkG(t:AC)(g:bi):Prop where
 ok:BV g
 kind:∀n∈g.az,0<=n/\n<t.az.length
 et:∀e∈g.be,e.em<t.be.length
theorem qL:(AQ (bl 1)).Sm:=rZ (λk a=>by cases a) a_ a_ (by unfold iJ;decide) a_
def YX(r:d3):Prop:=Df r/\(Bm r).Sm
theorem Wy{d:Ft}(hd:Px d):∃r,Gt d=Y r/\YX r:=by
 obtain ⟨L,R,e,g,b,c,f,h,_⟩:=lu hd;have z2:∀{α β:Type},([]:List α).length<=1000/\([]:List β).length<=1000:=⟨Nat.zero_le _,Nat.zero_le _⟩;have a:(FA L.az.length).length<=1000/\(FA L.be.length).length<=1000:=by rw[JP,JP];omega
 exact ⟨_,e,ny g a_,s9 (r:=YO ⟨#[114]⟩ L R ⟨FA L.az.length,FA L.be.length⟩) (show(1:Nat)<=1000 by decide) (show L.az.length<=1000/\L.be.length<=1000 by omega) z2 (show R.az.length<=1000/\R.be.length<=1000 by omega) z2 a a qL⟩
theorem om:∃l,GD=Y l/\l.length=2/\∀r∈l,YX r:=by
 unfold GD;obtain⟨a,e,f⟩:=Wy (d:=⟨⟨[],[]⟩,[0,2,4],[⟨2,2,0⟩,⟨4,2,1⟩]⟩) ⟨⟨V,V⟩,by simp[HC],by simp[HC]⟩;obtain⟨b,g,h⟩:=Wy (d:=⟨⟨[⟨0,0⟩,⟨2,0⟩,⟨4,0⟩],[⟨2,2,0⟩,⟨4,2,1⟩]⟩,[1,3,4],[⟨0,0,3⟩,⟨1,1,4⟩,⟨3,5,3⟩,⟨5,5,4⟩]⟩) ⟨⟨by simp[HC],by simp[HC]⟩,by simp[HC],by simp[HC]⟩;rw[e,bs,g,bs];refine⟨_,rfl,rfl,λr c=>?_⟩;rcases List.mem_cons.1 c with rfl|c
 .exact f
 .obtain rfl:=List.mem_singleton.1 c;exact h
section
variable{t:AC}{s:An}{c7:List d3}
variable{r:d3}
theorem mF(hf:Ap t)(fr:Df r)(a:F2 r.bq<=40)(h:AH):∃l,M9 t r h 6=Y l/\l.length<=6:=by
 have b:=rW (t:=t) (r:=r) (h:=h);unfold M9;rw[vZ hf fr a,bs];refine Tw (λ(n:Nat)(s:List BG×Int)=>(0<=s.2/\s.2+(n:Int)=6)/\(s.1.length:Int)<=s.2) (λs=>s.1.length<=6) 6 ⟨V,V⟩ (λn s⟨a1,a2⟩=>?_) (λs⟨a1,a2⟩=>?_) (λs a2=>⟨s.1,rfl,a2⟩)
 .by_cases hi:s.2<(bU t r h).1.length/\s.2<6
  .rw[Ne h!,AD a1.1 hi.1,bs,dJ hf fr a,bs,AV a!,bs,Ao U U];exact .inl ⟨_,rfl,⟨e?,e?⟩,an⟩
  .rw[QQ h!];exact .inr ⟨_,rfl,e?⟩
 .rw[QQ an];exact⟨_,rfl,e?⟩
theorem jS(hf:Ap t)(m:∀r∈c7,Df r/\F2 r.bq<=40)(E:c7.length<=8){a:Fp}(u:∀x∈a,HC x):∃l,Ly t c7 a 3=Y l/\l.length<=3:=by
 unfold Ly;refine Tw (λ(n:Nat)(s:List C8×AH×Int)=>(0<=s.2.2/\s.2.2+(n:Int)=3)/\(s.1.length:Int)<=s.2.2) (λs=>s.1.length<=3) 3 ⟨V,V⟩ (λn s⟨⟨a1,a2⟩,b⟩=>?_) (λs⟨⟨a1,a2⟩,b⟩=>?_) (λs b=>⟨s.1,rfl,b⟩)
 .by_cases hi:s.2.2<(a.length:Int)/\s.2.2<3
  .rw[Ne h!];refine kW (P:=λo=>(∃s':List C8×AH×Int,o=Y (B2.next (ρ:=List C8) s')/\(0<=s'.2.2/\s'.2.2+(n:Int)=3)/\(s'.1.length:Int)<=s'.2.2)\/∃s':List C8×AH×Int,o=Y (.brk s')/\s'.1.length<=3) (s:=(([]:List C8),([]:List BG))) (λi(q:List C8×List BG)=>q.1.length=q.2.length/\(q.1.length:Int)<=6*i) U ⟨rfl,V⟩ (λi q d e⟨v,F⟩=>?_) λq⟨G,H⟩=>?_
   .have f:=m _ (AG d e);obtain⟨L,eL,K⟩:=mF hf f.1 f.2 s.2.1;rw[AD d e,bs,eL,bs];refine kW (P:=λo=>∃s':List C8×List BG,o=Y s'/\s'.1.length=s'.2.length/\(s'.1.length:Int)<=6*(i+1)) (λj(p:List C8×List BG)=>p.1.length=p.2.length/\(p.1.length:Int)<=q.1.length+j) U ⟨v,V⟩ (λj p w z⟨A,I⟩=>?_) λq⟨B,J⟩=>⟨_,rfl,B,e?⟩;rw[AD w z,bs,AV a!,bs,bs,AV a!,bs];exact⟨_,rfl,by simp[A],an⟩
   by_cases g:(q.1.length:Int)=0
   .rw[Ne o?];exact .inr ⟨_,rfl,e?⟩
   .have c:=u _ (AG a1 hi.1);have c:=(show 0<=AA a s.2.2/\AA a s.2.2<=255 from c);obtain⟨y,C,h,D⟩:=JE (x:=AA a s.2.2) (n:=(q.1.length:Int)) c.1 U;rw[QQ o?,AD a1 hi.1,bs,Ao U U,C,bs,AD h D,bs,AV a!,bs,AD h U,bs,Ao U U];exact .inl ⟨_,rfl,⟨e?,e?⟩,an⟩
  .rw[QQ h!];exact .inr ⟨_,rfl,e?⟩
 .rw[QQ an];exact⟨_,rfl,e?⟩
def Ld(z:Int):Fp:=if z=0 then[1,2,3]else[z]
theorem l7{g:CZ}{l:List C8}{z:Int}(y:∀r∈g.l4,B8 t g.S r=0)(A:∀m∈l,0<=m.d3/\m.d3<g.l4.length):∃b,Kj g l z=Y b/\(b=X->∀m∈l,ay g.S (Ld z) g.l4 m):=by
 have C:∀m:C8,decide (((Di g.S (AA g.l4 m.d3) (Ld z)).length:Int)+((Ea g.S (AA g.l4 m.d3) (Ld z)).length:Int)=0)=false->ay g.S (Ld z) g.l4 m:=λm h=>by
  unfold ay;simpa using h
 unfold Kj;rw[BN (λi=>decide (((Di g.S (AA g.l4 (AA l i).d3) (Ld z)).length:Int)+((Ea g.S (AA g.l4 (AA l i).d3) (Ld z)).length:Int)=0)) false λi o p _=>?_]
 .cases h:fu (λi=>decide (((Di g.S (AA g.l4 (AA l i).d3) (Ld z)).length:Int)+((Ea g.S (AA g.l4 (AA l i).d3) (Ld z)).length:Int)=0)) 0 (l.length:Int)with
  |true=>exact⟨false,rfl,λh=>c?⟩
  |false=>
   refine ⟨X,rfl,λ_ m n=>?_⟩;obtain⟨i,o,p,rfl⟩:=BC n;exact C _ (Bg.1 h i o p)
 .have n:=A _ (AG o p);have q:=AG n.1 n.2;rw[AD o p,bs,AD n.1 n.2,bs];generalize AA g.l4 (AA l i).d3=r at *;have u:=y _ q;obtain⟨G,ho,_,_⟩:=C4 u;obtain⟨H,I⟩:=XD (Oq (Ts u).1);have v:=Cu ho.right ho.Aal;have w:=R9 G ho.right ho.Aal;have J:=ho.right.ci;have K:=ho.right.c8;have has:∀x,hasB [1,2,3] x=X->hasB (Ld z) x=(decide (z=0)||decide (x=z)):=λx B=>by
   unfold Ld;by_cases c:z=0
   .rw[Ne c,B,decide_eq_true c];rfl
   .rw[QQ c,oK,decide_eq_false c];rfl
  rw [BZ (λj=>((KW (PI g.S r (Ld z)) j).length:Int)) U r_ λj a d=>?_,bs,BZ (λj=>((Di g.S r (Ld z)).length:Int)+((KW (PH g.S r (Ld z)) j).length:Int)) U (by show _+(0:Int)=_;rw[Int.add_zero];rfl) λj a d=>?_,bs]
  .show(if decide (((Di g.S r (Ld z)).length:Int)+((Ea g.S r (Ld z)).length:Int)=0)=X then _ else _)=_;split<;>rfl
  .have ty:=v.2 _ (AG a d);have st:=w.edge _ (AG a d);have D:=Ng (PH g.S r (Ld z)) j;have E:=Ng (PI g.S r (Ld z)) r.ca.bi.az.length;have F:(Di g.S r (Ld z)).length<=40:=by unfold Di;omega
   have hv:(if(!hasB r.ec.be j)=X then((if decide (z=0)=X then Y X else(idx g.S.be (AA r.ca.bi.be j).em).bind λe=>Y (decide (e=z))).bind λf=>Y f)else Y false)=Y (PH g.S r (Ld z) j):=by
    unfold PH;rw[has _ (I _ ty.1 ty.2),AD st.1 st.2];cases hasB r.ec.be j with
    |true=>rfl|false=>by_cases c:z=0<;>simp[c]
   rw [AD a d,bs,Sb,bs,hv,bs,Z5 _ a];cases PH g.S r (Ld z) j with
   |false=>simp|true=>rw[Ne rfl,Ao U U];simp;omega
  .have ty:=v.1 _ (AG a d);have st:=w.node _ (AG a d);have D:=Ng (PI g.S r (Ld z)) j;have hv:(if(!hasB r.ec.az j)=X then((if decide (z=0)=X then Y X else(idx g.S.az (AA r.ca.bi.az j)).bind λe=>Y (decide (e=z))).bind λf=>Y f)else Y false)=Y (PI g.S r (Ld z) j):=by
    unfold PI;rw[has _ (H _ ty.1 ty.2),AD st.1 st.2];cases hasB r.ec.az j with
    |true=>rfl|false=>by_cases c:z=0<;>simp[c]
   rw [AD a d,bs,Sb,bs,hv,bs,Z5 _ a];cases PI g.S r (Ld z) j with
   |false=>simp|true=>rw[Ne rfl,Ao U U];simp
end
end Go.Sf.Sc
