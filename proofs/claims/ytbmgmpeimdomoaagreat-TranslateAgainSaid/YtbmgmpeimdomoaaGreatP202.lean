/- Plain lemmas: what the functions of the program and of the reference compute. -/
import Derived.Test.YtbmgmpeimdomoaaGreatP201
set_option linter.all false
set_option maxRecDepth 100000
open Option renaming some->Y
open Bool renaming true->X
open List renaming mem_map->w_
namespace Go.Sf
theorem UN{σ ρ β:Type}{f:σ->Option (B3 σ ρ)}{k:σ->Option β}{b:ρ->Option β}{Q:β->Prop}(I:Nat->σ->Prop)(J:σ->Prop)(n:Nat){s:σ}(c:I n s)(d:∀n s,I (n+1) s->(∃s',f s=Y (.next s')/\I n s')\/∃s',f s=Y (.brk s')/\J s')(g:∀s,I 0 s->∃s',f s=Y (.brk s')/\J s')(i:∀s,J s->∃r,k s=Y r/\Q r):∃r,eb (Fx f s) k b=Y r/\Q r:=by
 have key:∀(n:Nat)(s:σ),I n s->∃s',Ls f s (.inl s')/\J s':=λn=>by
  induction n with
  |zero=>
   intro s a;obtain⟨s',e,h⟩:=g s a;exact⟨s',.brk e,h⟩
  |succ n m=>
   intro s a;rcases d n s a with⟨s',e,h⟩|⟨s',e,h⟩
   .obtain⟨s2,j,l⟩:=m s' h;exact⟨s2,.next e j,l⟩
   .exact⟨s',.brk e,h⟩
 obtain ⟨s',e,h⟩:=key n s c;rw[e.eq,CB];exact i s' h
variable{σ β:Type}{k:σ->Option β}
theorem mO{f:Int->σ->Option σ}{P:Option β->Prop}(I:Int->σ->Prop){a b:Int}{s:σ}(c:a<=b)(d:I a s)(h:∀i s,a<=i->i<b->I i s->∃s',f i s=Y s'/\I (i+1) s')(e:∀s,I b s->P (k s)):P ((gp f a b s).bind k):=by
 obtain ⟨s',g,j⟩:=PU I c d h;rw[g,bs];exact e s' j
end Go.Sf
namespace Go.Sf.Sc
open Go Go.Sf
theorem LX{α:Type}{n:Nat}{f:α->TV}{l:List α}(h:l.length<=1000)(hf:∀x,(f x).Sm):(eL n f l).Sm:=by
 refine ⟨t?,LR.2 λt a=>?_⟩;obtain⟨x,_,rfl⟩:=w_.1 a;exact hf x
theorem UA(x:Int):(eI x).Sm:=trivial
theorem qt(x:B1):(CC x).Sm:=by simp[CC,TV.Sm,TV.Sms,eI]
theorem qu(x:DW):(G8 x).Sm:=by simp[G8,TV.Sm,TV.Sms,eI]
theorem qv(x:Test):(H4 x).Sm:=by simp[H4,TV.Sm,TV.Sms,eI]
def ji(g:bk):Prop:=g.az.length<=1000/\g.bi.length<=1000
theorem tM{c:ca}(e:∀k∈c.ew,(AQ k).Sm)(h:c.ew.length<=1000)(a:c.Map.az.length<=1000/\c.Map.bi.length<=1000)(b:ji c.c7.bk)(d:c.c7.d5.length<=1000/\c.c7.f0.length<=1000):(AQ c).Sm:=by
 refine ⟨trivial,?_,LX a.1 UA,LX a.2 UA,LX b.1 UA,LX b.2 qt,LX d.1 qu,trivial,LX d.2 qv,trivial⟩;unfold F6;rw[Me];refine⟨t?,LR.2 λt f=>?_⟩;obtain⟨x,g,rfl⟩:=w_.1 f;exact e x g
variable{r:d4}
theorem ui(o:r.gi.size<=1000)(a:ji r.ea.bk)(b:r.ea.d5.length<=1000/\r.ea.f0.length<=1000)(c:ji r.ci.bk)(d:r.ci.d5.length<=1000/\r.ci.f0.length<=1000)(e:r.kx.az.length<=1000/\r.kx.bi.length<=1000)(f:r.ed.az.length<=1000/\r.ed.bi.length<=1000)(g:(AQ r.ca).Sm):(Bp r).Sm:=by
 obtain ⟨h,i,j,c4,c5,c6,l,m,n,_⟩:=g;exact⟨by show r.gi.size<=reachBytes;unfold reachBytes;omega,LX a.1 UA,LX a.2 qt,LX b.1 qu,trivial,LX b.2 qv,LX c.1 UA,LX c.2 qt,LX d.1 qu,trivial,LX d.2 qv,LX e.1 UA,LX e.2 UA,LX f.1 UA,LX f.2 UA,trivial,h,i,j,c4,c5,c6,l,m,n,trivial⟩
theorem Zl{t:AC}(hf:Ao t):(AN t).Sm:=by
 refine ⟨⟨by rw[a6];have:=hf.cE;unfold reachBytes;omega,LR.2 λx b=>?_⟩,⟨by rw[a6];have:=hf.c9;unfold reachBytes;omega,LR.2 λx b=>?_⟩,trivial⟩
 .obtain⟨n,d,rfl⟩:=w_.1 b;have j:=hf.name n d;have l:=hf.AbK n d;refine⟨by show n.gi.size<=reachBytes;unfold reachBytes;omega,trivial,trivial,⟨t?,LR.2 λy f=>?_⟩,trivial⟩;obtain⟨a,h,rfl⟩:=w_.1 f;have c:=hf.each n d a h;refine⟨by show a.gi.size<=reachBytes;have:=c.name;unfold reachBytes;omega,trivial,trivial,⟨by rw[a6];have:=c.names;unfold reachBytes;omega,LR.2 λz g=>?_⟩,trivial⟩;obtain⟨s,i,rfl⟩:=w_.1 g;show s.size<=reachBytes;have:=c.each s i;unfold reachBytes;omega
 .obtain⟨e,he,rfl⟩:=w_.1 b;have:=hf.AbR e he;exact⟨by show e.gi.size<=reachBytes;unfold reachBytes;omega,trivial,trivial,trivial,trivial,trivial,trivial,trivial⟩
structure OkG(t:AC)(g:bk):Prop where
 ok:BW g
 kind:∀n∈g.az,0<=n/\n<t.az.length
 et:∀e∈g.bi,e.em<t.bi.length
theorem rz:(AQ (dR 1)).Sm:=tM (λk a=>by cases a) a_ a_ (by unfold ji;decide) a_
def ZY(r:d4):Prop:=DN r/\(Bp r).Sm
theorem X6{d:F9}(hd:P9 d):∃r,HE d=Y r/\ZY r:=by
 obtain ⟨L,R,e,g,b,c,f,h,_⟩:=nS hd;have z2:∀{α β:Type},([]:List α).length<=1000/\([]:List β).length<=1000:=⟨Nat.zero_le _,Nat.zero_le _⟩;have a:(FN L.az.length).length<=1000/\(FN L.bi.length).length<=1000:=by rw[Jk,Jk];omega
 exact ⟨_,e,pS g a_,ui (r:=ZP ⟨#[114]⟩ L R ⟨FN L.az.length,FN L.bi.length⟩) (show(1:Nat)<=1000 by decide) (show L.az.length<=1000/\L.bi.length<=1000 by omega) z2 (show R.az.length<=1000/\R.bi.length<=1000 by omega) z2 a a rz⟩
theorem qQ:∃l,GO=Y l/\l.length=2/\∀r∈l,ZY r:=by
 unfold GO;obtain⟨a,e,f⟩:=X6 (d:=⟨⟨[],[]⟩,[0,2,4],[⟨2,2,0⟩,⟨4,2,1⟩]⟩) ⟨⟨V,V⟩,by simp[Hd],by simp[Hd]⟩;obtain⟨b,g,h⟩:=X6 (d:=⟨⟨[⟨0,0⟩,⟨2,0⟩,⟨4,0⟩],[⟨2,2,0⟩,⟨4,2,1⟩]⟩,[1,3,4],[⟨0,0,3⟩,⟨1,1,4⟩,⟨3,5,3⟩,⟨5,5,4⟩]⟩) ⟨⟨by simp[Hd],by simp[Hd]⟩,by simp[Hd],by simp[Hd]⟩;rw[e,bs,g,bs];refine⟨_,rfl,rfl,λr c=>?_⟩;rcases List.mem_cons.1 c with rfl|c
 .exact f
 .obtain rfl:=List.mem_singleton.1 c;exact h
section
variable{t:AC}{s:Ak}{c8:List d4}
variable{r:d4}
theorem na(hf:Ao t)(fr:DN r)(a:GH r.ca<=40)(h:AH):∃l,NW t r h 6=Y l/\l.length<=6:=by
 have b:=tI (t:=t) (r:=r) (h:=h);unfold NW;rw[w5 hf fr a,bs];refine UN (λ(n:Nat)(s:List BH×Int)=>(0<=s.2/\s.2+(n:Int)=6)/\(s.1.length:Int)<=s.2) (λs=>s.1.length<=6) 6 ⟨V,V⟩ (λn s⟨a1,a2⟩=>?_) (λs⟨a1,a2⟩=>?_) (λs a2=>⟨s.1,rfl,a2⟩)
 .by_cases hi:s.2<(dF t r h).1.length/\s.2<6
  .rw[Ne h?,AD a1.1 hi.1,bs,fC hf fr a,bs,AS a?,bs,Ap U U];exact .inl ⟨_,rfl,⟨e?,e?⟩,an⟩
  .rw[QQ h?];exact .inr ⟨_,rfl,e?⟩
 .rw[QQ an];exact⟨_,rfl,e?⟩
theorem kj(hf:Ao t)(m:∀r∈c8,DN r/\GH r.ca<=40)(E:c8.length<=8){a:Fp}(u:∀x∈a,Hd x):∃l,ML t c8 a 3=Y l/\l.length<=3:=by
 unfold ML;refine UN (λ(n:Nat)(s:List DC×AH×Int)=>(0<=s.2.2/\s.2.2+(n:Int)=3)/\(s.1.length:Int)<=s.2.2) (λs=>s.1.length<=3) 3 ⟨V,V⟩ (λn s⟨⟨a1,a2⟩,b⟩=>?_) (λs⟨⟨a1,a2⟩,b⟩=>?_) (λs b=>⟨s.1,rfl,b⟩)
 .by_cases hi:s.2.2<(a.length:Int)/\s.2.2<3
  .rw[Ne h?];refine mO (P:=λo=>(∃s':List DC×AH×Int,o=Y (B3.next (ρ:=List DC) s')/\(0<=s'.2.2/\s'.2.2+(n:Int)=3)/\(s'.1.length:Int)<=s'.2.2)\/∃s':List DC×AH×Int,o=Y (.brk s')/\s'.1.length<=3) (s:=(([]:List DC),([]:List BH))) (λi(q:List DC×List BH)=>q.1.length=q.2.length/\(q.1.length:Int)<=6*i) U ⟨rfl,V⟩ (λi q d e⟨v,F⟩=>?_) λq⟨G,H⟩=>?_
   .have f:=m _ (AG d e);obtain⟨L,eL,K⟩:=na hf f.1 f.2 s.2.1;rw[AD d e,bs,eL,bs];refine mO (P:=λo=>∃s':List DC×List BH,o=Y s'/\s'.1.length=s'.2.length/\(s'.1.length:Int)<=6*(i+1)) (λj(p:List DC×List BH)=>p.1.length=p.2.length/\(p.1.length:Int)<=q.1.length+j) U ⟨v,V⟩ (λj p w z⟨A,I⟩=>?_) λq⟨B,J⟩=>⟨_,rfl,B,e?⟩;rw[AD w z,bs,AS a?,bs,bs,AS a?,bs];exact⟨_,rfl,by simp[A],an⟩
   by_cases g:(q.1.length:Int)=0
   .rw[Ne p!];exact .inr ⟨_,rfl,e?⟩
   .have c:=u _ (AG a1 hi.1);have c:=(show 0<=AA a s.2.2/\AA a s.2.2<=255 from c);obtain⟨y,C,h,D⟩:=JY (x:=AA a s.2.2) (n:=(q.1.length:Int)) c.1 U;rw[QQ p!,AD a1 hi.1,bs,Ap U U,C,bs,AD h D,bs,AS a?,bs,AD h U,bs,Ap U U];exact .inl ⟨_,rfl,⟨e?,e?⟩,an⟩
  .rw[QQ h?];exact .inr ⟨_,rfl,e?⟩
 .rw[QQ an];exact⟨_,rfl,e?⟩
def Li(z:Int):Fp:=if z=0 then[1,2,3]else[z]
theorem bK{g:Ce}{l:List DC}{z:Int}(y:∀r∈g.kl,B8 t g.S r=0)(A:∀m∈l,0<=m.d4/\m.d4<g.kl.length):∃b,GY g l z=Y b/\(b=X->∀m∈l,RJ g.S (Li z) g.kl m):=by
 have C:∀m:DC,decide (((DX g.S (AA g.kl m.d4) (Li z)).length:Int)+((EH g.S (AA g.kl m.d4) (Li z)).length:Int)=0)=false->RJ g.S (Li z) g.kl m:=λm h=>by
  unfold RJ;simpa using h
 unfold GY;rw[BO (λi=>decide (((DX g.S (AA g.kl (AA l i).d4) (Li z)).length:Int)+((EH g.S (AA g.kl (AA l i).d4) (Li z)).length:Int)=0)) false λi o p _=>?_]
 .cases h:fq (λi=>decide (((DX g.S (AA g.kl (AA l i).d4) (Li z)).length:Int)+((EH g.S (AA g.kl (AA l i).d4) (Li z)).length:Int)=0)) 0 (l.length:Int)with
  |true=>exact⟨false,rfl,λh=>d_⟩
  |false=>
   refine ⟨X,rfl,λ_ m n=>?_⟩;obtain⟨i,o,p,rfl⟩:=Ay n;exact C _ (BV.1 h i o p)
 .have n:=A _ (AG o p);have q:=AG n.1 n.2;rw[AD o p,bs,AD n.1 n.2,bs];generalize AA g.kl (AA l i).d4=r at *;have u:=y _ q;obtain⟨G,ho,_,_⟩:=DB u;obtain⟨H,I⟩:=UB (Jc (UK u).1);have v:=Cw ho.right ho.Aam;have w:=SR G ho.right ho.Aam;have J:=ho.right.cE;have K:=ho.right.c9;have has:∀x,hasB [1,2,3] x=X->hasB (Li z) x=(decide (z=0)||decide (x=z)):=λx B=>by
   unfold Li;by_cases c:z=0
   .rw[Ne c,B,decide_eq_true c];rfl
   .rw[QQ c,Ie,decide_eq_false c];rfl
  rw [BQ (λj=>((FT (Ok g.S r (Li z)) j).length:Int)) U o? λj a d=>?_,bs,BQ (λj=>((DX g.S r (Li z)).length:Int)+((FT (Oj g.S r (Li z)) j).length:Int)) U (by show _+(0:Int)=_;rw[Int.add_zero];rfl) λj a d=>?_,bs]
  .show(if decide (((DX g.S r (Li z)).length:Int)+((EH g.S r (Li z)).length:Int)=0)=X then _ else _)=_;split<;>rfl
  .have ty:=v.2 _ (AG a d);have st:=w.edge _ (AG a d);have D:=G5 (Oj g.S r (Li z)) j;have E:=G5 (Ok g.S r (Li z)) r.ci.bk.az.length;have F:(DX g.S r (Li z)).length<=40:=by unfold DX;omega
   have hv:(if(!hasB r.ed.bi j)=X then((if decide (z=0)=X then Y X else(idx g.S.bi (AA r.ci.bk.bi j).em).bind λe=>Y (decide (e=z))).bind λf=>Y f)else Y false)=Y (Oj g.S r (Li z) j):=by
    unfold Oj;rw[has _ (I _ ty.1 ty.2),AD st.1 st.2];cases hasB r.ed.bi j with
    |true=>rfl|false=>by_cases c:z=0<;>simp[c]
   rw [AD a d,bs,Sz,bs,hv,bs,SP _ a];cases Oj g.S r (Li z) j with
   |false=>simp|true=>rw[Ne rfl,Ap U U];simp;omega
  .have ty:=v.1 _ (AG a d);have st:=w.node _ (AG a d);have D:=G5 (Ok g.S r (Li z)) j;have hv:(if(!hasB r.ed.az j)=X then((if decide (z=0)=X then Y X else(idx g.S.az (AA r.ci.bk.az j)).bind λe=>Y (decide (e=z))).bind λf=>Y f)else Y false)=Y (Ok g.S r (Li z) j):=by
    unfold Ok;rw[has _ (H _ ty.1 ty.2),AD st.1 st.2];cases hasB r.ed.az j with
    |true=>rfl|false=>by_cases c:z=0<;>simp[c]
   rw [AD a d,bs,Sz,bs,hv,bs,SP _ a];cases Ok g.S r (Li z) j with
   |false=>simp|true=>rw[Ne rfl,Ap U U];simp
end
end Go.Sf.Sc
