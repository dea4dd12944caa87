/- Plain lemmas: what the functions of the program and of the reference compute. -/
import Derived.Test.YtiaddfklojalbaaGreatP25
set_option linter.all false
set_option maxRecDepth 100000
open Option renaming some->Y,none->W
open Bool renaming true->X,false->T
open List renaming mem_append->w?,any_eq_false->x_,drop_eq_nil_of_le->x!,drop_eq_getElem_cons->x?,getElem?_eq_getElem->y_,replicate->y!,ext_getElem->y?,mem_flatMap->z_,length_singleton->z!,nodup_nil->z?
open Classical renaming not_not->A_
namespace Go.Sf.Sc
open Go Go.Sf
variable{all:List gi}{k:Int}
theorem TJ(h:Ko all k=0)(d:(AA all k).mo.length<=1000):-1000000<=(AA all k).Low/\(AA all k).Aag<=1000000:=by grind[Ko]
variable{t:AC}{i:Int}
theorem ez(h:IG t i=0):∀k,((BC t i).length:Int)-(AA t.bq i).kl.length<=k->k<(BC t i).length->Ko (BC t i) k=0:=by
 unfold IG at h;dsimp only at h;split at h
 .cases h
 split at h
 .cases h
 split at h
 .cases h
 split at h
 .cases h
 exact SK h
variable{a:Int}
theorem Pe{n:Nat}(d:0<=a):CH t (n+1) a=CH t n (par t a)++(AA t.bq a).kl:=by grind[CH]
theorem nJ(h:Ko all k=0)(d:(AA all k).mo.length<=1000):(AA all k).Low<=(AA all k).Aag:=by grind[Ko]
theorem TL(hf:A0 t)(h:Eb t){Q:gi->Prop}(TJ:∀{all:List gi}{k:Int},Ko all k=0->(AA all k).mo.length<=1000->Q (AA all k)):∀(n:Nat)(a:Int),a<t.bq.length->a<n->∀x∈CH t n a,Q x
 |0,_,_,_=>by simp[CH]|n+1,a,g,C=>by
  by_cases o:a<0
  .rw[Jt o];simp
  .have y:=h.par a U g;intro x d;rw[Pe U]at d;rcases w?.1 d with d|d
   .exact TL hf h TJ n (par t a) U U x d
   .obtain⟨j,A,B,rfl⟩:=BT d;have e:BC t a=CH t a.toNat (par t a)++(AA t.bq a).kl:=by
     unfold BC;rw[show(a+1).toNat=a.toNat+1 by omega,Pe U]
    have z:(BC t a).length=(CH t a.toNat (par t a)).length+(AA t.bq a).kl.length:=by rw[e,a6]
    have r:=ez (h.node a U g) ((CH t a.toNat (par t a)).length+j) U U;have u:AA (BC t a) ((CH t a.toNat (par t a)).length+j)=AA (AA t.bq a).kl j:=by
     grind [Gt,AA]
    have w:=NN hf (Int.le_refl _) h.par g (AA (BC t a) ((CH t a.toNat (par t a)).length+j)) (AI U U);have:=TJ r (by have:=w.names;omega)
    rwa [u]at this
theorem iR(hf:A0 t)(h:Eb t)(g:0<=a)(d:a<t.bq.length):∀x∈BC t a,-1000000<=x.Low/\x.Aag<=1000000:=TL hf h TJ _ a d U
theorem kP(hf:A0 t)(h:Eb t)(g:0<=a)(d:a<t.bq.length):∀x∈BC t a,x.Low<=x.Aag:=TL hf h nJ _ a d U
theorem aG(g:Ea t k):∀(n:Nat)(a b:Int),a<k->a<n->b∈Gc t n a->0<=b/\b<=a/\(BC t b).length<=(CH t n a).length
 |0,_,_,_,_=>by simp[Gc]|n+1,a,b,j,u=>by
  intro d;rw[Gc]at d;split at d
  .cases d
  .rename_i o;have r:=g a U j;rw[Pe U];rcases List.mem_cons.1 d with rfl|d
   .refine⟨U,U,?_⟩;unfold BC;rw[Mz g (b+1).toNat (n+1) b j U U,Pe U];exact a5 _
   .have:=aG g n (par t a) b U U d
    grind
variable{b:Int}
theorem Zr(h:Eb t)(j:a<t.bq.length)(d:isB t a b=X):(BC t b).length<=(BC t a).length:=by
 unfold isB at d;rw[List.any_eq_true]at d;obtain⟨x,g,e⟩:=d;rw[p0]at e;subst e;by_cases o:a<0
 .have:(a+1).toNat=0:=U
  rw [this]at g;cases g
 .exact(aG h.par (a+1).toNat a b j U g).2.2
theorem iV{α:Type}{Q:Prop}[Decidable Q]{v:α}{ζ:Option α}{δ:α}(he:a=b↔Q)(h:Q->ζ=Y δ):(if(!decide (a=b))=X then Y v else ζ)=Y (if¬Q then v else δ):=o2
def QN(t:AC)(k:Int)(v:Fp)(j:Int):Bool:=decide (AA v j<(AA (BC t k) j).Low)||decide ((AA (BC t k) j).Aag<AA v j)
def GZ(t:AC)(k:Int)(v:Fp):Int:=
 if (t.bq.length:Int)<=k then 6 else if(AA t.bq k).tn=X then 13 else if¬v.length=(BC t k).length then 20 else
 if gh (QN t k v) 0 (BC t k).length=X then 6 else 0
def Hw(t:AC)(g:ci)(i:Int):Int:=
 if (t.ca.length:Int)<=(AA g.ca i).fd then 6 else if D4 t g i=T then 13 else 0
def CN(t:AC)(h:AJ):Int×Int:=
 if (BF t).2≠0 then(-1,(BF t).2)else if B8 h.ci≠0 then(-1,B8 h.ci)else if¬h.eo.length=h.ci.bq.length then(-1,20)else
 match fst (λi=>(nz (GZ t (AA h.ci.bq i) (AA h.eo i))).map λe=>(i,e)) 0 h.ci.bq.length with
 |some r=>r|none=>(fst (λi=>(nz (Hw t h.ci i)).map λe=>(i,e)) 0 h.ci.ca.length).getD (-1,0)
theorem M0(hv:(BF t).2=0)(d:0<=k)(g:k<t.bq.length):HQ t k=(BC t k,0):=by grind[HQ,Li]
theorem Yx{x:Bool}{y:Bool}:(if x=X then Y X else Y y)=Y (x||y):=by cases x<;>rfl
theorem rx(hf:A0 t)(hv:(BF t).2=0)(d:0<=k)(v:Fp):K9 t k v=Y (GZ t k v):=by
 unfold K9 GZ;by_cases g:(t.bq.length:Int)<=k
 .grind
 rw [aN r!,aN g,AD d U,bs];refine fZ λ_=>?_;rw[SQ hf,M0 hv d U,bs];refine iV a! λj=>?_;rw[BX (QN t k v) 6]
 .cases gh (QN t k v) 0 (BC t k).length<;>rfl
 grind [BC,AD,Yx,QN,AA]
theorem sL(hf:A0 t)(hv:(BF t).2=0)(d:0<=k)(v:Fp):Np t k v=Y (GZ t k v):=by
 unfold Np GZ;by_cases g:(t.bq.length:Int)<=k
 .grind
 rw [aN r!,aN g,AD d U,bs];refine fZ λ_=>?_;rw[Y4 hf,M0 hv d U,bs];refine iV a! λj=>?_;rw[BX (QN t k v) 6]
 .cases gh (QN t k v) 0 (BC t k).length<;>rfl
 grind [BC,AD,Yx,QN,AA]
theorem cN(e i:Int):(if(!decide (e=0))=X then Y (CF.ret (σ:=Unit) (ρ:=Int×Int) (i,e))else Y (.next ()))=Y (Mt ((nz e).map λe=>(i,e))):=by grind[nz,Mt]
theorem QP(hf:A0 t)(h:AJ):Ec t h=Y (CN t h):=by
 unfold Ec CN;rw[OU hf,bs];refine Gf λhv=>?_;rw[M5,bs];refine Gf λo=>?_;have go:=Dw o;refine iV U λz=>?_;rw[Bp (λi=>(nz (GZ t (AA h.ci.bq i) (AA h.eo i))).map λe=>(i,e)),E4]
 .cases u:fst (λi=>(nz (GZ t (AA h.ci.bq i) (AA h.eo i))).map λe=>(i,e)) 0 h.ci.bq.length with
  |some r=>rfl|none=>
   have w:=BY.1 u;dsimp only;rw[Bp (λi=>(nz (Hw t h.ci i)).map λe=>(i,e)),E4]
   .grind
   .intro i d g _;have y:=go.fit _ (AI (l:=h.ci.ca) d g);rw[AD d g,bs];unfold Hw D4;by_cases j:(t.ca.length:Int)<=(AA h.ci.ca i).fd
    .rw[aE g!,aE j];rfl
    .rw[aN g!,aN j,AD U U,bs,AD U U,bs,cY hf,bs];cases Ld t (AA h.ci.ca i).fd (AA h.ci.bq (AA h.ci.ca i).fu) (AA h.ci.bq (AA h.ci.ca i).To)<;>rfl
 .intro i d g _;rw[AD d g,bs,AD d U,bs,rx hf hv (go.kind _ (AI d g)).1,bs];exact cN _ i
theorem dA(hf:A0 t)(h:AJ):MJ t h=Y (CN t h):=by
 unfold MJ CN;rw[P1 hf,bs];refine Gf λhv=>?_;rw[M6,bs];refine Gf λo=>?_;have go:=Dw o;refine iV U λz=>?_;rw[Bp (λi=>(nz (GZ t (AA h.ci.bq i) (AA h.eo i))).map λe=>(i,e)),E4]
 .cases u:fst (λi=>(nz (GZ t (AA h.ci.bq i) (AA h.eo i))).map λe=>(i,e)) 0 h.ci.bq.length with
  |some r=>rfl|none=>
   have w:=BY.1 u;dsimp only;rw[Bp (λi=>(nz (Hw t h.ci i)).map λe=>(i,e)),E4]
   .grind
   .intro i d g _;have y:=go.fit _ (AI (l:=h.ci.ca) d g);rw[AD d g,bs];unfold Hw D4;by_cases j:(t.ca.length:Int)<=(AA h.ci.ca i).fd
    .rw[aE g!,aE j];rfl
    .rw[aN g!,aN j,AD U U,bs,AD U U,bs,cv hf,bs];cases Ld t (AA h.ci.ca i).fd (AA h.ci.bq (AA h.ci.ca i).fu) (AA h.ci.bq (AA h.ci.ca i).To)<;>rfl
 .intro i d g _;rw[AD d g,bs,AD d U,bs,sL hf hv (go.kind _ (AI d g)).1,bs];exact cN _ i
structure NG(t:AC)(h:AJ):Prop where
 g:Bz h.ci
 len:h.eo.length=h.ci.bq.length
 kind:∀i:Int,0<=i->i<h.ci.bq.length->0<=AA h.ci.bq i/\AA h.ci.bq i<t.bq.length
 row:∀i:Int,0<=i->i<h.ci.bq.length->(AA h.eo i).length=(BC t (AA h.ci.bq i)).length
 low:∀i:Int,0<=i->i<h.ci.bq.length->∀x∈AA h.eo i,-1000000<=x/\x<=1000000
 ge:B8 h.ci=0
 ty:C1 t h.ci=X
variable{h:AJ}
theorem Pl(e:(CN t h).2=0):(∀i:Int,0<=i->i<h.ci.bq.length->GZ t (AA h.ci.bq i) (AA h.eo i)=0)/\∀i:Int,0<=i->i<h.ci.ca.length->Hw t h.ci i=0:=by
 unfold CN at e;split at e
 next u=>exact absurd e u
 split at e
 next u=>exact absurd e u
 split at e
 .cases e
 rename_i u z A;have y:∀i:Int,0<=i->i<h.ci.bq.length->GZ t (AA h.ci.bq i) (AA h.eo i)=0:=by
  split at e
  .rename_i r d;obtain⟨i,_,_,k,_⟩:=Db d;unfold nz at k;split at k
   .cases k
   next g=>cases k;exact absurd e g
  next d=>exact λi j o=>OQ.1 (OP.1 (BY.1 d i j o))
 have he:∀i:Int,0<=i->i<h.ci.ca.length->Hw t h.ci i=0:=by
  have w:fst (λi=>(nz (GZ t (AA h.ci.bq i) (AA h.eo i))).map λe=>(i,e)) 0 h.ci.bq.length=W:=BY.2 λi j o=>by rw[y i j o];rfl
  rw [w]at e;dsimp only at e;cases d:fst (λi=>(nz (Hw t h.ci i)).map λe=>(i,e)) 0 h.ci.ca.length with
  |some r=>
   rw [d]at e;obtain⟨i,_,_,k,_⟩:=Db d;unfold nz at k;split at k
   .cases k
   next g=>cases k;exact absurd e g
  |none=>exact λi j o=>OQ.1 (OP.1 (BY.1 d i j o))
 exact ⟨y,he⟩
theorem GK(hf:A0 t)(e:(CN t h).2=0):(BF t).2=0/\NG t h:=by
 obtain ⟨w,he⟩:=Pl e;unfold CN at e;split at e
 next o=>exact absurd e o
 split at e
 next o=>exact absurd e o
 split at e
 .cases e
 rename_i o A D;have hv:=A_.1 o;have go:=Dw (A_.1 A);have u:∀i:Int,0<=i->i<h.ci.bq.length->(0<=AA h.ci.bq i/\AA h.ci.bq i<t.bq.length)/\(AA h.eo i).length=(BC t (AA h.ci.bq i)).length/\∀j:Int,0<=j->j<(BC t (AA h.ci.bq i)).length->QN t (AA h.ci.bq i) (AA h.eo i) j=T:=by
  intro i d g;have G:=(go.kind _ (AI d g)).1;have:=w i d g;unfold GZ at this;split at this
  .cases this
  split at this
  .cases this
  split at this
  .cases this
  split at this
  .cases this
  rename_i a1 a2 E F;exact⟨⟨G,U⟩,A_.1 E,Bt.1 (by simpa using F)⟩
 have z:C1 t h.ci=X:=by
  unfold C1;rw[kp,Bool.not_eq_true',Bool.not_eq_true',x_,x_];refine⟨λn w=>?_,λx y=>?_⟩
  .obtain⟨i,d,g,rfl⟩:=BT w;have:=(u i d g).1.2;simp;omega
  .obtain⟨i,d,g,rfl⟩:=BT y;have:=he i d g;unfold Hw at this;split at this
   .cases this
   .simp;omega
 suffices r:∀i:Int,0<=i->i<h.ci.bq.length->∀x∈AA h.eo i,-1000000<=x/\x<=1000000 from⟨hv,go,A_.1 D,λi d g=>(u i d g).1,λi d g=>(u i d g).2.1,r,A_.1 A,z⟩
 intro i d g x y;obtain⟨B,I,H⟩:=u i d g;obtain⟨j,C,J,rfl⟩:=BT y;have:=H j C U;unfold QN at this;simp[decide_eq_false_iff_not]at this;have:=iR hf (DT hv) B.1 B.2 _ (AI (l:=BC t (AA h.ci.bq i)) C U);omega
end Go.Sf.Sc
namespace Go.Sf.Sc
open Go Go.Sf
def O0(t:AC)(p g:ci)(m:cE)(i:Int):Ne:=
 if AA m.bq i<0\/g.bq.length<=AA m.bq i then Y 6 else if isB t (AA g.bq (AA m.bq i)) (AA p.bq i)=T then Y 13 else W
def Pu(t:AC)(p g:ci)(m:cE):Int:=
 if m.bq.length≠p.bq.length\/m.ca.length≠p.ca.length then 20 else
 match fst (O0 t p g m) 0 m.bq.length with
 |some e=>e|none=>(fst (Hy p g m) 0 m.ca.length).getD 0
def JS(t:AC)(p g:ci)(m:cE)(inj:Bool):Int:=
 if EO t p g≠0 then EO t p g else if Pu t p g m≠0 then Pu t p g m else if(inj&&!JW m)=X then 5 else 0
structure ZH(t:AC)(p g:ci)(m:cE):Prop where
 z5:m.bq.length=p.bq.length
 Aaf:m.ca.length=p.ca.length
 node:∀i:Int,0<=i->i<m.bq.length->(0<=AA m.bq i/\AA m.bq i<g.bq.length)/\isB t (AA g.bq (AA m.bq i)) (AA p.bq i)=X
 edge:∀i:Int,0<=i->i<m.ca.length->0<=AA m.ca i/\AA m.ca i<g.ca.length
variable{t:AC}
theorem ON{p g:ci}(h:EO t p g=0):(BF t).2=0/\Bz p/\Bz g/\(∀n∈p.bq,0<=n/\n<t.bq.length)/\∀n∈g.bq,0<=n/\n<t.bq.length:=by
 unfold EO at h;split at h
 .grind
 split at h
 .grind
 split at h
 .grind
 split at h
 .rename_i j o r d;rw[kp]at d
  grind [Dw,ET]
 .cases h
variable{m:cE}
theorem gj{p g:ci}(h:Pu t p g m=0):ZH t p g m:=by
 unfold Pu at h;split at h
 .cases h
 rename_i r;have o:fst (O0 t p g m) 0 m.bq.length=W:=by
  grind [Db,O0]
 rw [o]at h;have he:=Qz (λi=>by
  grind [Hy]) h
 refine ⟨U,U,λi d j=>?_,λi d j=>?_⟩
 .grind[BY,O0]
 grind [Hy]
theorem Zz(hf:A0 t){p g:ci}(A:EO t p g=0)(m:cE):G2 t p g m=Y (Pu t p g m):=by
 obtain ⟨hv,C,G,tp,D⟩:=ON A;unfold G2 Pu;refine PY k! λE=>?_;rw[jT hf (DT hv) hv,bs,Bp (O0 t p g m),E4]
 .cases F:fst (O0 t p g m) 0 m.bq.length with
  |some e=>rfl|none=>
   dsimp only;rw[Bp (Hy p g m),Ck];intro i j z _;unfold Hy;rw[AD j z,bs];by_cases d:AA m.ca i<0\/g.ca.length<=AA m.ca i
   .rw[aE c!,aE d];rfl
   .have hf:=C.fit _ (AI (l:=p.ca) j U);rw[aN c!,aN d,AD j U,bs,AD U U,bs];by_cases o:(AA p.ca i).fd=(AA g.ca (AA m.ca i)).fd
    .rw[aN b?,aN b?,AD U U,bs];by_cases r:AA m.bq (AA p.ca i).fu=(AA g.ca (AA m.ca i)).fu
     .rw[aN (by simpa using r),AD U U,bs,bs];by_cases u:AA m.bq (AA p.ca i).To=(AA g.ca (AA m.ca i)).To
      .rw[aN d_,aN (by simp[r,u])];rfl
      .rw[aE d_,aE (.inr u)];rfl
     .rw[aE (by simpa using r),bs,aE rfl,aE (.inl r)];rfl
    .rw[aE b?,aE o];rfl
 .intro i j z _;unfold O0;rw[AD j z,bs];by_cases d:AA m.bq i<0\/g.bq.length<=AA m.bq i
  .rw[aE c!,aE d];rfl
  .have w:=tp _ (AI (l:=p.bq) j U);have y:=D _ (AI (l:=g.bq) (show 0<=AA m.bq i by omega) U);rw[aN c!,aN d,AD j U,bs,AD w.1 (by unfold I7;rw[bd,Am];exact w.2),bs,AD U U,bs];have e:AA (I7 t) (AA p.bq i)=Nx t (AA p.bq i):=by unfold I7;exact Eh (Nx t) w.1 w.2
   rw [e,AD y.1 (by unfold Nx;rw[bd,Am];exact y.2),bs];have B:AA (Nx t (AA p.bq i)) (AA g.bq (AA m.bq i))=isB t (AA g.bq (AA m.bq i)) (AA p.bq i):=by unfold Nx;exact Eh (λk=>isB t k (AA p.bq i)) y.1 y.2
   rw [B];cases isB t (AA g.bq (AA m.bq i)) (AA p.bq i)<;>rfl
variable{l:Fp}
theorem gM(d:l.length<=1000):IA l=Y (!Kk l):=by grind[IA,Wo,K6,Abw,Kk]
theorem Y0(hf:A0 t)(p g:ci)(m:cE)(inj:Bool):GD t p g m inj=Y (JS t p g m inj):=by
 unfold GD JS;rw[V4 hf,bs];refine Dz λd=>?_;rw[Zz hf d,bs];refine Dz λr=>?_;obtain⟨_,o,u,_⟩:=ON d;have j:=gj r;have:=o.c9;have:=o.d6;have:=j.z5;have:=j.Aaf;rw[gM U,gM U];unfold JW;cases inj<;>cases Kk m.bq<;>cases Kk m.ca<;>rfl
theorem bS{p g:ci}{inj:Bool}(h:JS t p g m inj=0):EO t p g=0/\ZH t p g m:=by grind[JS,gj]
end Go.Sf.Sc
namespace Go.Sf.Sc
open Go Go.Sf
section
variable{α σ ρ:Type}
def H8(step:α->σ->CF σ ρ):List α->σ->σ ⊕ ρ
 |[],s=>.inl s|a::r,s=>match step a s with
  |.next s'=>H8 step r s'|.brk s'=>.inl s'|.ret r=>.inr r
variable{f:Int->σ->Option (CF σ ρ)}
theorem Uz[Inhabited α]{l:List α}(step:α->σ->CF σ ρ)(I:σ->Prop)(h:∀(i:Int)s,0<=i->i<l.length->I s->f i s=Y (step (AA l i) s)/\∀s',step (AA l i) s=.next s'->I s'):
  ∀(n:Nat)(a:Int)(s:σ),0<=a->a+n=l.length->I s->tl f n a s=Y (H8 step (l.drop a.toNat) s)
 |0,a,s,d,u,_=>by
  rw [x! U];rfl
 |n+1,a,s,d,u,w=>by
  obtain ⟨j,o⟩:=h a s d U w;have hd:l.drop a.toNat=AA l a::l.drop (a+1).toNat:=by
   grind [x?,AA,y_]
  rw [FJ,j,hd,H8];cases g:step (AA l a) s with
  |next s'=>
   simp only;exact Uz step I h n (a+1) s' U U (o s' g)
  |brk s'=>rfl|ret r=>rfl
theorem Ze[Inhabited α]{l:List α}(step:α->σ->CF σ ρ)(I:σ->Prop){s:σ}(d:I s)(h:∀(i:Int)s,0<=i->i<l.length->I s->f i s=Y (step (AA l i) s)/\∀s',step (AA l i) s=.next s'->I s'):
  fq f 0 l.length s=Y (H8 step l s):=by
 have:=Uz step I h l.length 0 s U U d;unfold fq;rw[show((l.length:Int)-0).toNat=l.length by omega];exact this
theorem dh[Inhabited α](step:α->σ->CF σ ρ)(I:σ->Prop):∀(l:List α)(s s':σ),I s->(∀a∈l,∀s s',I s->step a s=.next s'->I s')->(∀a∈l,∀s s',step a s≠.brk s')->H8 step l s=.inl s'->I s'
 |[],s,s',h,_,_,e=>by cases e;exact h
 |a::r,s,s',h,j,u,e=>by
  rw [H8]at e;split at e
  next g o=>exact dh step I r g s' (j a V s g h o) (λa d=>j a (by simp[d])) (λa d=>u a (by simp[d])) e
  .grind
  .cases e
end
def GW(x:f0)(l:Fp):Int:=if x.Var<0 then x.Add else Ag (AA l x.Var+x.Add)
variable{x:f0}{l:Fp}
theorem Z0(h:x.Var<l.length):Ey x l=Y (GW x l):=by grind[Ey,GW,AD]
theorem cZ(d:-1<=x.Var)(h:x.Var<l.length)(g:l.length<=1000):FP x l=Y (GW x l,0):=by grind[FP,C5,Au,Z0]
def Q1(x:Test)(l:Fp):Bool:=(decide (x.gN=1)&&decide (GW x.ec l<=GW x.d4 l))||(decide (x.gN=2)&&decide (GW x.ec l=GW x.d4 l))
structure K3(n:Int)(x:f0):Prop where
 low:-1<=x.Var
 high:x.Var<n
 add:-1000000<=x.Add/\x.Add<=1000000
def P9(l:Fp):Prop:=∀x∈l,-2000000<=x/\x<=2000000
variable{n:Int}
theorem T6(h:K3 n x)(d:P9 l)(g:n<=l.length):GW x l=(if x.Var<0 then x.Add else AA l x.Var+x.Add)/\-3000000<=GW x l/\GW x l<=3000000:=by
 unfold GW;have:=h.add;by_cases j:x.Var<0
 .grind
 .have hh:=h.high;have:=d _ (AI (l:=l) (show 0<=x.Var by omega) U)
  grind [Au]
variable{a b:Int}
theorem aK(j:-4000000<=a/\a<=4000000)(o:-4000000<=b/\b<=4000000):HC a b=Y (if a+b<0 then(-1,a+b+18446744073709551616)else(0,a+b)):=by
 have d:∀c:Int,IntKind.u64.wrap c=c % 18446744073709551616:=λc=>by
  simp [IntKind.wrap,IntKind.signed,IntKind.bits]
 have g:∀c:Int,-4000000<=c/\c<=4000000->MD .i64 .shr c 63=Y (if c<0 then -1 else 0):=by
  intro c w;unfold MD;have e:c.fdiv (2^ (min (63:Int).toNat (IntKind.bits .i64)))=if c<0 then -1 else 0:=by
   show c.fdiv (2^ 63)=_
   grind
  simp only[e];have:(0:Int)<=63/\IntKind.min .i64<=(if c<0 then -1 else 0)/\(if c<0 then -1 else 0)<=IntKind.max .i64:=by
   split<;>decide
  rw [aE this]
 unfold HC Ik;rw[d,d,aE U,bs,g a j,g b o,bs,bs];congr 1;have y:∀c:Int,-10<=c->c<=10->Ag c=c:=λc r u=>Au U U
 grind
def KJ(a:Int):Int×Int:=if a<0 then(-1,a+18446744073709551616)else(0,a)
theorem ce(h:K3 n x)(d:P9 l)(o:n<=l.length):FR x l=Y ((KJ (GW x l)).1,(KJ (GW x l)).2,X):=by
 have r:=h.low;have u:=h.high;have w:=h.add;have g:=(T6 h d o).1;unfold FR;by_cases j:x.Var=-1
 .have e:GW x l=x.Add:=by rw[g,aE U]
  rw [e,aE g!,aK U U,bs,Int.zero_add];rfl
 .have:=d _ (AI (l:=l) (show 0<=x.Var by omega) U);have e:GW x l=AA l x.Var+x.Add:=by rw[g,aN U]
  rw [e,aN g!,aN a!,AD U U,bs,aK U U,bs];rfl
theorem qI(a b:Int):cmp_Compare_int a b=Y (if a<b then -1 else if b<a then 1 else 0):=by
 unfold cmp_Compare_int cmp_isNaN_int
 grind
theorem xc(a b:Int):Ib a b=Y (if a<b then -1 else if b<a then 1 else 0):=qI a b
theorem uG(a b:Int):NP [a,b]=Y (if a=0 then b else a):=by
 unfold NP;show eg (tl _ 2 0 ()) _ _=_;rw[FJ,show idx [a,b] 0=Y a from rfl,bs]
 grind [eg,tl,FJ,idx]
theorem p_holds{x:Test}(j:K3 n x.ec)(o:K3 n x.d4)(d:P9 l)(g:n<=l.length):Gi x l=Y (Q1 x l):=by
 have r:=(T6 j d g).2;have u:=(T6 o d g).2;unfold Gi Q1;rw[ce j d g,ce o d g];simp[qI,xc,uG];generalize GW x.ec l=a at r;generalize GW x.d4 l=b at u;have key:(if(if(KJ a).1<(KJ b).1 then(-1:Int)else if(KJ b).1<(KJ a).1 then 1 else 0)=0 then(if(KJ a).2<(KJ b).2 then(-1:Int)else if(KJ b).2<(KJ a).2 then 1 else 0)else(if(KJ a).1<(KJ b).1 then(-1:Int)else if(KJ b).1<(KJ a).1 then 1 else 0))=if a<b then -1 else if b<a then 1 else 0:=by
  grind [KJ]
 rw [key];congr 2
 .grind
 grind
end Go.Sf.Sc
namespace Go.Sf.Sc
open Go Go.Sf
structure WG(t:AC)(q:d5):Prop where
 g:Bz q.ci
 kind:∀n∈q.ci.bq,0<=n/\n<t.bq.length
 vars:0<=q.eT/\q.eT<=12
 few:q.em.length<=10/\q.j4.length<=10
 slot:∀s∈q.em,(0<=s.nd/\s.nd<q.ci.bq.length)/\(0<=s.gi/\s.gi<(BC t (AA q.ci.bq s.nd)).length)/\K3 q.eT s.f0
 test:∀x∈q.j4,(x.gN=1\/x.gN=2)/\K3 q.eT x.ec/\K3 q.eT x.d4
 ge:B8 q.ci=0
 ty:C1 t q.ci=X
variable{n:Int}{x:f0}
theorem pw(h:N3 n x=X):K3 n x:=by
 unfold N3 at h;simp[p0]at h;exact⟨h.1.1.1,h.1.1.2,h.1.2,h.2⟩
theorem px{l:List Test}(h:KW n l=0):∀x∈l,(x.gN=1\/x.gN=2)/\K3 n x.ec/\K3 n x.d4:=by
 unfold KW at h;split at h
 .cases h
 split at h
 .cases h
 have j:=SK h;intro x d;obtain⟨i,o,r,rfl⟩:=BT d;have:=j i o r;unfold Oy at this;split at this
 .cases this
 split at this
 .rename_i u g;rw[kp]at g
  grind [pw]
 .cases this
theorem kA(n:Int)(l:List Test):KW n l≠9:=by
 unfold KW;split
 .decide
 split
 .decide
 intro h;cases d:fst (λi=>nz (Oy n (AA l i))) 0 l.length with
 |none=>rw[d]at h;cases h
 |some r=>
  grind [Db,nz,Oy]
variable{t:AC}{q:d5}
theorem oT(hv:(BF t).2=0)(h:IL t q=0\/IL t q=9):WG t q:=by
 have z:=Xo q.ci;unfold IL at h;rw[aN v_]at h;split at h
 .omega
 rename_i r;have g:=Dw (A_.1 r);split at h
 .omega
 rename_i j;split at h
 .omega
 rename_i B;split at h
 .omega
 rename_i C;split at h
 .omega
 rename_i D;split at h
 .grind[kA]
 rename_i y;refine⟨g,(ET g g!).1,U,U,λs A=>?_,px (A_.1 y),A_.1 r,g!⟩;have o:TM t q s=T:=by
  grind
 unfold TM at o;simp[Bool.not_eq_false',decide_eq_false_iff_not]at o;obtain⟨⟨⟨d,F⟩,G⟩,H,I⟩:=o;unfold TK at d;dsimp only at d;split at d
 .cases d
 rename_i E;have w:=(ET g g!).1 _ (AI (l:=q.ci.bq) (show 0<=s.nd by omega) U);rw[M0 hv w.1 w.2]at d;split at d
 .cases d
 rename_i u;have u:¬(s.gi<0\/((BC t (AA q.ci.bq s.nd)).length:Int)<=s.gi):=u;exact⟨U,U,U,U,U,U⟩
def RP(h:AJ)(m:cE)(s:Dj):Int:=AA (AA h.eo (AA m.bq s.nd)) s.gi
def Ox(h:AJ)(m:cE)(s:Dj)(st:Fp×QQ):Fp×QQ:=
 if 0<=s.f0.Var/\AA st.2 s.f0.Var=T then(BN st.1 s.f0.Var (Ag (RP h m s-s.f0.Add)),BN st.2 s.f0.Var X)else st
def HH{ρ:Type}(r:ρ)(h:AJ)(m:cE)(s:Dj)(st:Fp×QQ):CF (Fp×QQ) ρ:=
 if GW s.f0 (Ox h m s st).1=RP h m s then .next (Ox h m s st)else .ret r
structure VI(n:Int)(st:Fp×QQ):Prop where
 l1:(st.1.length:Int)=n
 l2:(st.2.length:Int)=n
 small:P9 st.1
structure MA(n:Int)(h:AJ)(m:cE)(s:Dj):Prop where
 node:0<=s.nd/\s.nd<m.bq.length
 val:0<=AA m.bq s.nd/\AA m.bq s.nd<h.eo.length
 AbT:0<=s.gi/\s.gi<(AA h.eo (AA m.bq s.nd)).length
 term:K3 n s.f0
 has:-1000000<=RP h m s/\RP h m s<=1000000
variable{h:AJ}{m:cE}{s:Dj}
theorem V8(j:Eb t)(o:WG t q)(hh:NG t h)(g:ZH t q.ci h.ci m)(r:s∈q.em):MA q.eT h m s:=by
 obtain ⟨w,y,z⟩:=o.slot s r;have A:=g.z5;have d:=g.node s.nd w.1 U;have B:=hh.row _ d.1.1 d.1.2;have u:=hh.kind _ d.1.1 d.1.2;have C:=Zr j u.2 d.2;have hv:=hh.len;refine⟨U,U,U,z,?_⟩;unfold RP;exact hh.low _ d.1.1 d.1.2 _ (AI y.1 U)
theorem T4{α:Type}(l:List α)(i:Int)(a:α):(BN l i a).length=l.length:=by unfold BN;rw[List.length_set]
variable{i:Int}
theorem oo{α:Type}{l:List α}{a x:α}(h:x∈BN l i a):x∈l\/x=a:=List.mem_or_eq_of_mem_set h
variable{st:Fp×QQ}
theorem mR(g:MA n h m s)(hi:VI n st):VI n (Ox h m s st):=by
 have j:=g.has;have o:=g.term.add;unfold Ox;split
 .refine⟨by rw[T4];exact hi.l1,by rw[T4];exact hi.l2,λx d=>?_⟩;rcases oo d with d|rfl
  .exact hi.small x d
  grind [Au]
 .exact hi
def PN(q:d5)(h:AJ)(m:cE):Fp×Int:=
 match H8 (HH (([],11):Fp×Int) h m) q.em (y! q.eT.toNat 0,y! q.eT.toNat T)with
 |.inr r=>r|.inl st=>if gh (λi=>!Q1 (AA q.j4 i) st.1) 0 q.j4.length=X then([],16)else(st.1,0)
theorem ZA(d:0<=n):VI n (y! n.toNat 0,y! n.toNat T):=by
 refine ⟨a!,a!,λx g=>?_⟩
 grind
variable{st':Fp×QQ}
theorem Vb{ρ:Type}{r:ρ}(d:MA n h m s)(hi:VI n st)(e:HH r h m s st=.next st'):VI n st':=by grind[HH,mR]
theorem mS{ρ:Type}{r:ρ}:HH r h m s st≠.brk st':=by grind[HH]
theorem Tz{ρ:Type}{r:ρ}{l:List Dj}(d:∀s∈l,MA n h m s)(hi:VI n st)(e:H8 (HH r h m) l st=.inl st'):VI n st':=
 dh (HH r h m) (VI n) l st st' hi (λa g _ _ j o=>Vb (d a g) j o) (λ_ _ _ _=>mS) e
theorem YR{ρ:Type}{r:ρ}(w:MA n h m s)(hi:VI n st){θ:Fp×QQ->Option (CF (Fp×QQ) ρ)}
  (j:∀st':Fp×QQ,(st'.1.length:Int)=n->θ st'=Y (if GW s.f0 st'.1=RP h m s then .next st' else .ret r)):
  ((if(decide (0<=s.f0.Var))=X then((idx st.2 s.f0.Var).bind λo=>Y (!o))else Y T).bind λu=>
   if u=X then(idx st.1 s.f0.Var).bind λ_=>(idx st.2 s.f0.Var).bind λ_=>θ (BN st.1 s.f0.Var (Ag (RP h m s-s.f0.Add)),BN st.2 s.f0.Var X)else θ (st.1,st.2))=Y (HH r h m s st):=by
 have y:=w.term.high;have l1:=hi.l1;have l2:=hi.l2;unfold HH;by_cases d:0<=s.f0.Var
 .rw[aE c!,AD d U,bs,bs];by_cases g:AA st.2 s.f0.Var=T
  .rw[aE (by simp[g]),AD d U,bs,bs,j _ (by dsimp only;rw[T4];exact l1)];have e:Ox h m s st=(BN st.1 s.f0.Var (Ag (RP h m s-s.f0.Add)),BN st.2 s.f0.Var X):=by unfold Ox;rw[aE ⟨d,g⟩]
   rw [e]
  .rw[aN r!,j _ l1];have e:Ox h m s st=st:=by unfold Ox;rw[aN (λe=>g e.2)]
   rw [e]
 .rw[aN c!,bs,aN a_,j _ l1];have e:Ox h m s st=st:=by unfold Ox;rw[aN (λe=>d e.1)]
  rw [e]
variable{v:Int}
theorem mU{t:f0}{f:f0->Fp->Ne}(hf:∀l:Fp,(l.length:Int)=n->f t l=Y (GW t l))(st':Fp×QQ)(g:(st'.1.length:Int)=n):((f t st'.1).bind λd=>if(!decide (d=v))=X then Y (CF.ret (([],11):Fp×Int))else Y (.next st'))=Y (if GW t st'.1=v then .next st' else .ret ([],11)):=o2
theorem r8(u:WG t q)(w:∀s∈q.em,MA q.eT h m s):Ia q h m=Y (PN q h m):=by
 have hv:=u.vars;unfold Ia PN FV;rw[aE U,bs,aE U,bs];rw[Ze (HH (([],11):Fp×Int) h m) (VI q.eT) (ZA hv.1)]
 .cases z:H8 (HH (([],11):Fp×Int) h m) q.em (y! q.eT.toNat 0,y! q.eT.toNat T)with
  |inr r=>rfl|inl st=>
   have hi:=Tz w (ZA hv.1) z;rw[CI,BX (λi=>!Q1 (AA q.j4 i) st.1) ([],16)]
   .dsimp only;cases gh (λi=>!Q1 (AA q.j4 i) st.1) 0 q.j4.length<;>rfl
   .intro i g j _;have y:=u.test _ (AI g j);rw[AD g j,bs,p_holds y.2.1 y.2.2 hi.small (by have:=hi.l1;omega),bs]
    grind
 .intro i st g j hi;have d:=w _ (AI g j);refine⟨?_,λs' e=>Vb d hi e⟩;rw[AD g j,bs,AD d.node.1 d.node.2,bs,AD d.val.1 d.val.2,bs,AD d.AbT.1 d.AbT.2,bs];exact YR d hi (θ:=λst'=>(Ey (AA q.em i).f0 st'.1).bind λo=>if(!decide (o=RP h m (AA q.em i)))=X then Y (CF.ret (([],11):Fp×Int))else Y (.next st')) (mU λl A=>Z0 (by have:=d.term.high;omega))
def Tq(t:AC)(p:d5)(h:AJ):Int:=if IL t p≠0 then IL t p else(CN t h).2
theorem lf(hf:A0 t)(p:d5)(h:AJ):F1 t p h=Y (Tq t p h):=by
 unfold F1 Tq;rw[YA hf,bs];refine Dz λ_=>?_;rw[QP hf];rfl
def IH(t:AC)(p:d5)(h:AJ)(m:cE):Fp×Int:=
 if Tq t p h≠0 then([],Tq t p h)else if JS t p.ci h.ci m T≠0 then([],JS t p.ci h.ci m T)else PN p h m
variable{p:d5}
theorem fK(hf:A0 t){inj:Bool}(d:Tq t p h=0)(g:JS t p.ci h.ci m inj=0):(BF t).2=0/\WG t p/\NG t h/\ZH t p.ci h.ci m:=by
 unfold Tq at d;split at d
 .grind
 rename_i j;obtain⟨hv,hh⟩:=GK hf d;exact⟨hv,oT hv (.inl (A_.1 j)),hh,(bS g).2⟩
theorem gH(hf:A0 t)(p:d5)(h:AJ)(m:cE):Ew t p h m=Y (IH t p h m):=by
 unfold Ew IH;rw[lf hf,bs];refine Gf λg=>?_;rw[Y0 hf,bs];refine Gf λj=>?_;obtain⟨hv,d,hh,r⟩:=fK hf g j;rw[r8 d (λs o=>V8 (DT hv) d hh r o)];rfl
theorem mT(g:WG t q)(j:∀s∈q.em,MA q.eT h m s)(e:(PN q h m).2=0):((PN q h m).1.length:Int)=q.eT/\P9 (PN q h m).1:=by
 unfold PN at e|-;cases d:H8 (HH (([],11):Fp×Int) h m) q.em (y! q.eT.toNat 0,y! q.eT.toNat T)with
 |inr r=>
  rw [d]at e;have:∀(l:List Dj)(st:Fp×QQ)(r:Fp×Int),H8 (HH (([],11):Fp×Int) h m) l st=.inr r->r=([],11):=by
   intro l
   induction l with
   |nil=>intro st r h;cases h
   |cons a l u=>
    grind [H8,HH]
  grind
 |inl st=>
  rw [d]at e;have hi:=Tz j (ZA g.vars.1) d;dsimp only at e|-;split at e
  .cases e
  next o=>rw[aN o];exact⟨hi.l1,hi.small⟩
end Go.Sf.Sc
namespace Go.Sf.Sc
open Go Go.Sf
variable{i:Int}
theorem GN{n:Nat}{α:Type}[Inhabited α](F:Int->α)(d:0<=i)(v:α):BN ((AV n).map F) i v=(AV n).map λj=>if j=i then v else F j:=by
 unfold BN;refine y? V (λk g o=>?_)
 grind [Am,AV]
theorem GI{n:Nat}{α:Type}{F G:Int->α}(h:∀j,0<=j->j<(n:Int)->F j=G j):(AV n).map F=(AV n).map G:=by grind[List.map_congr_left,Br]
def KM(n:Nat)(k:Int):QQ:=(AV n).map λj=>decide (j<k)
theorem iz(n:Nat):KM n 0=y! n T:=by
 unfold KM;refine y? (by simp[Am]) (λk d g=>?_)
 grind [AV,Am]
theorem Zt(n:Nat)(k:Int):(KM n k).length=n:=by unfold KM;rw[bd,Am]
def Pw(q:d5)(h:AJ)(m:cE)(given:Fp):Fp×Bool:=
 match H8 (HH (([],T):Fp×Bool) h m) q.em (given++y! (q.eT-given.length).toNat 0,KM q.eT.toNat given.length)with
 |.inr r=>r|.inl st=>if gh (λi=>!Q1 (AA q.j4 i) st.1) 0 q.j4.length=X then([],T)else(st.1,X)
variable{n:Int}{given:Fp}
theorem eD(g:0<=n)(j:given.length<=n)(hv:P9 given):VI n (given++y! (n-given.length).toNat 0,KM n.toNat given.length):=by
 refine ⟨a!,by show((KM n.toNat given.length).length:Int)=n;rw[Zt];omega,λx d=>?_⟩;rcases w?.1 d with d|d
 .exact hv x d
 grind
variable{q:d5}{m:cE}{t:AC}
theorem vA{s:Be}(w:WG t q)(y:∀x∈q.em,MA q.eT s.h m x)(B:given.length<=q.eT)(hv:P9 given):EH s q m given=Y (Pw q s.h m given):=by
 have D:=w.vars;unfold EH Pw slices_Clone_int;rw[BM a?,bs,Au U U];have E:bI given (q.eT-given.length) 0=Y (given++y! (q.eT-given.length).toNat 0):=by
  grind [bI,Ak]
 have F:FV q.eT T=Y (y! q.eT.toNat T):=by
  grind [FV]
 rw [E,bs,F,bs];have G:kx (λ(d:Int)(z:QQ)=>(idx z d).bind λC=>Y (BN z d X)) 0 (given.length:Int) (y! q.eT.toNat T)=Y (KM q.eT.toNat given.length):=by
  refine Bs (λi=>KM q.eT.toNat i) U (iz _) (λi d j=>?_);rw[AD d (by rw[Zt];omega),bs];congr 1;unfold KM;rw[GN _ d]
  grind
 rw [G,bs];have u:=eD D.1 B hv;rw[Ze (HH (([],T):Fp×Bool) s.h m) (VI q.eT) u]
 .cases H:H8 (HH (([],T):Fp×Bool) s.h m) q.em (given++y! (q.eT-given.length).toNat 0,KM q.eT.toNat given.length)with
  |inr r=>rfl|inl st=>
   have hi:=Tz y u H;rw[CI,BX (λi=>!Q1 (AA q.j4 i) st.1) ([],T)]
   .dsimp only;cases gh (λi=>!Q1 (AA q.j4 i) st.1) 0 q.j4.length<;>rfl
   .intro i d j _;have A:=w.test _ (AI d j);rw[AD d j,bs,p_holds A.2.1 A.2.2 hi.small (by have:=hi.l1;omega),bs]
    grind
 .intro i st d j hi;have g:=y _ (AI d j);refine⟨?_,λs' e=>Vb g hi e⟩;rw[AD d j,bs,AD g.node.1 g.node.2,bs,AD g.val.1 g.val.2,bs,AD g.AbT.1 g.AbT.2,bs];refine YR g hi (θ:=λst'=>(FP (AA q.em i).f0 st'.1).bind λo=>if((!decide (o.2=0))||(!decide (o.1=RP s.h m (AA q.em i))))=X then Y (CF.ret (([],T):Fp×Bool))else Y (.next st')) (λst' I=>?_);rw[cZ g.term.low (by have:=g.term.high;omega) U,bs]
  grind
variable{h:AJ}
theorem p5(j:WG t q)(o:∀s∈q.em,MA q.eT h m s)(u:given.length<=q.eT)(hv:P9 given)(e:(Pw q h m given).2=X):((Pw q h m given).1.length:Int)=q.eT/\P9 (Pw q h m given).1:=by
 unfold Pw at e|-;have d:=eD j.vars.1 u hv;cases g:H8 (HH (([],T):Fp×Bool) h m) q.em (given++y! (q.eT-given.length).toNat 0,KM q.eT.toNat given.length)with
 |inr r=>
  rw [g]at e;have:∀(l:List Dj)(st:Fp×QQ)(r:Fp×Bool),H8 (HH (([],T):Fp×Bool) h m) l st=.inr r->r=([],T):=by
   intro l
   induction l with
   |nil=>intro st r h;cases h
   |cons a l y=>
    grind [H8,HH]
  grind
 |inl st=>
  rw [g]at e;have hi:=Tz o d g;dsimp only at e|-;split at e
  .cases e
  next w=>rw[aN w];exact⟨hi.l1,hi.small⟩
def YC(n:Nat)(by' images:Fp):Fp:=(AV by'.length).foldl (λl i=>BN l (AA by' i) (AA images i)) (y! n (-1))
theorem Zb(d images:Fp):∀(g:Fp)(l:Fp),(g.foldl (λl i=>BN l (AA d i) (AA images i)) l).length=l.length
 |[],l=>rfl|k::g,l=>by rw[List.foldl_cons,Zb d images g,T4]
theorem jZ{n:Nat}{d images:Fp}(z:∀x∈d,0<=x/\x<n)(A:d.length<=images.length):kx (λ(j:Int)(r:Fp)=>
  (idx d j).bind λg=>
  (idx images j).bind λo=>
  (idx r g).bind λu=>
  Y (BN r g o)) 0 (d.length:Int) (y! n (-1))=Y (YC n d images):=by
 have h:=Bs (f:=λ(j:Int)(r:Fp)=>
  (idx d j).bind λg=>
  (idx images j).bind λo=>
  (idx r g).bind λu=>
  Y (BN r g o)) (λi=>(AV i.toNat).foldl (λl i=>BN l (AA d i) (AA images i)) (y! n (-1))) (a:=0) (b:=d.length) (s:=y! n (-1)) U rfl (λi j w=>by
   have y:=z _ (AI j w);rw[AD j w,bs,AD j U,bs,AD y.1 (by rw[Zb];simpa using y.2),bs,GJ j,List.foldl_append];rfl)
 rw [h,Int.toNat_natCast];rfl
theorem cj{n:Nat}{d images:Fp}(o:n<=1000)(g:∀x∈d,0<=x/\x<n)(j:d.length<=images.length):Gh n d images=Y (YC n d images):=by
 unfold Gh Ep;rw[aE ⟨rfl,U,U⟩,bs];show(kx _ 0 _ (y! (n:Int).toNat (-1))).bind _=_;rw[Int.toNat_natCast,jZ g j];rfl
end Go.Sf.Sc
namespace Go.Sf.Sc
open Go Go.Sf
structure qA(f:AL):Prop where
 nl:f.c9.length<=f.p.bq.length
 node:∀i:Int,0<=i->i<f.c9.length->(0<=AA f.c9 i/\AA f.c9 i<f.g.bq.length)/\AA (AA f.is (AA f.p.bq i)) (AA f.g.bq (AA f.c9 i))=X
 edge:∀i:Int,0<=i->i<f.d6.length->(0<=AA f.d6 i/\AA f.d6 i<f.g.ca.length)/\AA f.g.ca (AA f.d6 i)=⟨(AA f.p.ca i).fd,AA f.c9 (AA f.p.ca i).fu,AA f.c9 (AA f.p.ca i).To⟩
 inj:f.ej=X->f.c9.Nodup/\f.d6.Nodup
structure iJ(f:AL)(m:cE):Prop where
 nl:m.bq.length=f.p.bq.length
 el:m.ca.length=f.p.ca.length
 node:∀i:Int,0<=i->i<m.bq.length->(0<=AA m.bq i/\AA m.bq i<f.g.bq.length)/\AA (AA f.is (AA f.p.bq i)) (AA f.g.bq (AA m.bq i))=X
 edge:∀i:Int,0<=i->i<m.ca.length->(0<=AA m.ca i/\AA m.ca i<f.g.ca.length)/\AA f.g.ca (AA m.ca i)=⟨(AA f.p.ca i).fd,AA m.bq (AA f.p.ca i).fu,AA m.bq (AA f.p.ca i).To⟩
 inj:f.ej=X->m.bq.Nodup/\m.ca.Nodup
variable{i:Int}
theorem fV{α:Type}[Inhabited α](l:List α)(x:α)(h:i=l.length):AA (l++[x]) i=x:=by grind[Gt]
variable{l:Fp}{k:Int}
theorem X3{b:Bool}(h:(!(b&&l.any λx=>decide (k=x)))=X)(d:b=X)(g:l.Nodup):(l++[k]).Nodup:=o2
theorem ZI:∀(n:Nat)(f:AL),qA f->f.c9.length=f.p.bq.length->f.d6.length+n=f.p.ca.length->∀m∈EB n f,iJ f m
 |0,f,j,z,he,m,d=>by
  rw [EB,List.mem_singleton]at d;subst d;exact⟨z,by simpa using he,j.node,j.edge,j.inj⟩
 |n+1,f,j,z,he,m,d=>by
  rw [EB,z_]at d;obtain⟨k,w,d⟩:=d;have w:=Br.1 w;split at d
  .rename_i o;unfold QK at o;rw[kp]at o;obtain⟨r,y⟩:=o;rw[XH,kp,p0]at r;have:=ZI n {f with d6:=f.d6++[k]} ⟨j.nl,j.node,λi A u=>by
    have u:i<((f.d6++[k]).length:Int):=u;simp at u;show(0<=AA (f.d6++[k]) i/\AA (f.d6++[k]) i<f.g.ca.length)/\AA f.g.ca (AA (f.d6++[k]) i)=⟨(AA f.p.ca i).fd,AA f.c9 (AA f.p.ca i).fu,AA f.c9 (AA f.p.ca i).To⟩;by_cases e:i=f.d6.length
    .rw[fV _ _ e];exact⟨w,by rw[e];exact r.2⟩
    .rw[bK _ _ A U];exact j.edge i A U,λhi=>⟨(j.inj hi).1,X3 y hi (j.inj hi).2⟩⟩ z (by show(f.d6++[k]).length+n=f.p.ca.length;rw[a6,z!];omega) m d
   exact ⟨this.nl,this.el,this.node,this.edge,this.inj⟩
  .cases d
theorem ZJ:∀(n:Nat)(f:AL),qA f->f.d6=[]->f.c9.length+n=f.p.bq.length->∀m∈FK n f,iJ f m
 |0,f,r,he,A,m,o=>by
  grind [FK,ZI]
 |n+1,f,r,he,A,m,o=>by
  rw [FK,z_]at o;obtain⟨k,w,o⟩:=o;have w:=Br.1 w;split at o
  .rename_i j;unfold QL at j;rw[kp,kp]at j;obtain⟨⟨_,y⟩,z⟩:=j;have:=ZJ n {f with c9:=f.c9++[k]} ⟨by show(f.c9++[k]).length<=f.p.bq.length;rw[a6,z!];omega,λi u d=>by
    have d:i<((f.c9++[k]).length:Int):=d;simp at d;show(0<=AA (f.c9++[k]) i/\AA (f.c9++[k]) i<f.g.bq.length)/\AA (AA f.is (AA f.p.bq i)) (AA f.g.bq (AA (f.c9++[k]) i))=X;by_cases e:i=f.c9.length
    .rw[fV _ _ e];exact⟨w,by rw[e];exact y⟩
    .rw[bK _ _ u U];exact r.node i u U,λi u d=>by
    have d:i<(f.d6.length:Int):=d;rw[he]at d;have:i<(0:Nat):=d;omega,λhi=>⟨X3 z hi (r.inj hi).1,(r.inj hi).2⟩⟩ he (by show(f.c9++[k]).length+n=f.p.bq.length;rw[a6,z!];omega) m o
   exact ⟨this.nl,this.el,this.node,this.edge,this.inj⟩
  .cases o
variable{t:AC}{m:cE}
theorem TT{p g:ci}{pa:cE}{inj:Bool}(j:m∈JV t p g pa inj):iJ (FF t p g pa inj) m:=
 ZJ _ (FF t p g pa inj) ⟨Nat.zero_le _,λi o d=>by have d:i<(0:Nat):=d;omega,λi o d=>by have d:i<(0:Nat):=d;omega,λ_=>⟨z?,z?⟩⟩ rfl p? m (List.mem_of_mem_take j)
theorem bw{p g:ci}{pa:cE}{inj:Bool}(h:EO t p g=0)(w:m∈JV t p g pa inj):ZH t p g m:=by
 obtain ⟨hv,B,C,tp,y⟩:=ON h;have:=TT w;refine⟨this.nl,this.el,λi d j=>?_,λi d j=>(this.edge i d j).1⟩;obtain⟨o,u⟩:=this.node i d j;refine⟨o,?_⟩;have r:=this.nl;have z:=tp _ (AI (l:=p.bq) d (by show i<(p.bq.length:Int);have r:m.bq.length=p.bq.length:=r;omega));have A:=y _ (AI (l:=g.bq) o.1 o.2);have u:AA (AA (I7 t) (AA p.bq i)) (AA g.bq (AA m.bq i))=X:=u
 grind [AA,I7,Nx,Eh,isB]
theorem kZ{p g:ci}{pa:cE}{inj:Bool}(h:(Wq t p g pa inj).2=0):(Wq t p g pa inj).1.length<=5000/\∀m∈(Wq t p g pa inj).1,ZH t p g m:=by grind[Wq,bw]
structure fP(t:AC)(p:d5)(h:AJ)(x:Ar):Prop where
 q:WG t p
 m:ZH t p.ci h.ci x.cE
 len:(x.eT.length:Int)=p.eT
 small:P9 x.eT
structure p9(t:AC)(p:d5)(c:c8):Prop where
 q:WG t c.d5
 vars:p.eT<=c.d5.eT
 map:aV p.ci c.d5.ci c.Map
 inj:JW c.Map=X
def JF(t:AC)(c:c8)(h:AJ)(m:Ar)(inj:Bool):List Ar×Int:=
 let x:=Wq t c.d5.ci h.ci ⟨YC c.d5.ci.bq.length c.Map.bq m.cE.bq,YC c.d5.ci.ca.length c.Map.ca m.cE.ca⟩ inj
 if x.2≠0 then([],x.2)else((x.1.filter λy=>(Pw c.d5 h y m.eT).2).map λy=>⟨y,(Pw c.d5 h y m.eT).1⟩,0)
instance:Inhabited cE:=⟨⟨[],[]⟩⟩
instance:Inhabited Ar:=⟨⟨default,[]⟩⟩
instance:Inhabited CL:=⟨⟨0,default,[]⟩⟩
theorem ef{x:List cE}{F:cE->Fp×Bool}{f:Int->List Ar->Option (List Ar)}(r:x.length<=5000)
  (hf:∀(i:Int)(s:List Ar),0<=i->i<x.length->s.length<=5000->f i s=Y (if(F (AA x i)).2=X then s++[⟨AA x i,(F (AA x i)).1⟩]else s)):
  kx f 0 (x.length:Int) []=Y ((x.filter λy=>(F y).2).map λy=>⟨y,(F y).1⟩):=by
 rw [Bs (a:=0) (b:=x.length) (s:=[]) (λi=>((x.take i.toNat).filter λy=>(F y).2).map λy=>(⟨y,(F y).1⟩:Ar)) U rfl,Int.toNat_natCast,List.take_length];intro i d g;have j:(((x.take i.toNat).filter λy=>(F y).2).map λy=>(⟨y,(F y).1⟩:Ar)).length<=5000:=by
  grind
 rw [hf i _ d g j,Cw d g,List.filter_append,List.map_append];cases o:(F (AA x i)).2<;>simp[o]
variable{p:d5}{c:c8}
theorem ul{s:Be}{m:Ar}(hf:A0 s.t)(hv:(BF s.t).2=0)(hh:NG s.t s.h)(r:fP s.t p s.h m)(hi:p9 s.t p c):Cb s c m=Y (JF s.t c s.h m s.ej):=by
 have gn:=hi.q.g.c9;have ge:=hi.q.g.d6;have m1:=hi.map.z5;have D:=hi.map.Aaf;have E:=r.m.z5;have G:=r.m.Aaf;unfold Cb JF;rw[cj U (λx o=>by obtain⟨i,d,j,rfl⟩:=BT o;exact(hi.map.node i d j).1) U,bs,
  cj U (λx o=>by obtain⟨i,d,j,rfl⟩:=BT o;exact(hi.map.edge i d j).1) U,bs,oJ hf,bs]
 dsimp only;refine Gf λu=>?_;obtain⟨A,B⟩:=kZ u;rw[ef (F:=λy=>Pw c.d5 s.h y m.eT) A]
 .rfl
 .intro i st d j C;have w:=B _ (AI d j);have z:(m.eT.length:Int)<=c.d5.eT:=by have:=r.len;have:=hi.vars;omega
  rw [AD d j,bs,vA hi.q (λx o=>V8 (DT hv) hi.q hh w o) z r.small,bs,<-Jy]
  grind [Ao,Ak]
variable{h:AJ}
theorem rM{inj:Bool}{m:Ar}(hv:(BF t).2=0)(hh:NG t h)(j:fP t p h m)(hi:p9 t p c)(e:(JF t c h m inj).2=0):(JF t c h m inj).1.length<=5000/\∀x∈(JF t c h m inj).1,fP t c.d5 h x:=by
 unfold JF at e|-;dsimp only at e|-;split at e
 .grind
 rename_i o;rw[aN o];obtain⟨w,z⟩:=kZ (A_.1 o);refine⟨by dsimp only;rw[bd];exact Nat.le_trans (List.length_filter_le _ _) w,λx d=>?_⟩;dsimp only at d;rw[List.mem_map]at d;obtain⟨y,g,rfl⟩:=d;rw[List.mem_filter]at g;have r:=z y g.1;have u:(m.eT.length:Int)<=c.d5.eT:=by have:=j.len;have:=hi.vars;omega
 have:=p5 hi.q (λx d=>V8 (DT hv) hi.q hh r d) u j.small g.2;exact⟨hi.q,r,this.1,this.2⟩
end Go.Sf.Sc
namespace Go.Sf.Sc
open Go Go.Sf
inductive CV(t:AC):d5->c8->Prop where
 |mk (p:d5) (c:c8) (few:c.ff.length<=40) (rng:1<=c.gN/\c.gN<=5) (one:c.gN=2\/c.gN=5->c.ff.length=1) (ins:c.gN=5->p9 t p c) (kids:∀k∈c.ff,CV t (if c.gN=5 then c.d5 else p) k):CV t p c
variable{t:AC}{p:d5}{c:c8}
theorem CV.few(h:CV t p c):c.ff.length<=40:=i?
theorem CV.rng(h:CV t p c):1<=c.gN/\c.gN<=5:=i?
theorem CV.one(h:CV t p c):c.gN=2\/c.gN=5->c.ff.length=1:=i?
theorem CV.ins(h:CV t p c):c.gN=5->p9 t p c:=i?
theorem CV.kids(h:CV t p c):∀k∈c.ff,CV t (if c.gN=5 then c.d5 else p) k:=i?
theorem CV.kid(h:CV t p c)(d:¬c.gN=5):∀k∈c.ff,CV t p k:=λk g=>by have:=h.kids k g;rwa[aN d]at this
theorem CV.kid5(h:CV t p c)(d:c.gN=5):∀k∈c.ff,CV t c.d5 k:=λk g=>by have:=h.kids k g;rwa[aE d]at this
theorem ZP:∀l:List c8,l.length<=Wj l
 |[]=>by simp|c::l=>by
  have:=ZP l
  grind [Wj,G8,bV,az]
variable{q:d5}{v:Int}
theorem xh(hv:(BF t).2=0)(h:U4 t q v=0):WG t q:=by grind[U4,oT]
theorem qJ(hv:(BF t).2=0):∀(N:Nat)(c:c8)(p:d5),SizeOf.sizeOf c<=N->G8 c<=40->RJ N c=X->Kx N t p c=0->CV t p c
 |0,c,_,h,_,_,_=>by have:=G3 c;omega|N+1,c,p,h,M,z,ho=>by
  have E:=bV c;have F:=ZP c.ff;rw[RJ,kp]at z;obtain⟨u,o⟩:=z;have d:c.gN=2\/c.gN=5->c.ff.length=1:=by
   intro j;unfold Q0 at u
   grind
  have g:1<=c.gN/\c.gN<=5:=by
   grind [Q0]
  have w:∀q,(fst (λi=>nz (Kx N t q (AA c.ff i))) 0 c.ff.length).getD 0=0->∀k∈c.ff,CV t q k:=by
   intro q A k j;have G:=SK A;have K:=bU j;have L:=KA j;rw[List.all_eq_true]at o;obtain⟨i,H,I,e⟩:=BT j;have y:=G i H I;rw[e]at y;exact qJ hv N k q U U (o k j) y
  rw [Kx]at ho;by_cases r:c.gN=5
  .rw[aE r]at ho;split at ho
   .cases ho
   rename_i J;split at ho
   .grind
   rename_i B;split at ho
   .grind
   rename_i C;split at ho
   .cases ho
   rename_i D;refine CV.mk p c U g d (λ_=>⟨xh hv (A_.1 B),U,Vs (A_.1 C),by simpa using D⟩) ?_
   grind
  .rw[aN r]at ho;refine CV.mk p c U g d (λe=>absurd e r) ?_
   grind
section
variable{α σ ρ:Type}
variable{f:Int->σ->Option (CF σ ρ)}
theorem Uf[Inhabited α]{l:List α}(step:α->σ->CF σ ρ)(I:Int->σ->Prop)(h:∀(i:Int)s,0<=i->i<l.length->I i s->f i s=Y (step (AA l i) s)/\∀s',step (AA l i) s=.next s'->I (i+1) s'):
  ∀(n:Nat)(a:Int)(s:σ),0<=a->a+n=l.length->I a s->tl f n a s=Y (H8 step (l.drop a.toNat) s)
 |0,a,s,d,u,_=>by
  rw [x! U];rfl
 |n+1,a,s,d,u,w=>by
  obtain ⟨j,o⟩:=h a s d U w;have hd:l.drop a.toNat=AA l a::l.drop (a+1).toNat:=by
   grind [x?,AA,y_]
  rw [FJ,j,hd,H8];cases g:step (AA l a) s with
  |next s'=>
   simp only;exact Uf step I h n (a+1) s' U U (o s' g)
  |brk s'=>rfl|ret r=>rfl
theorem io[Inhabited α]{l:List α}(step:α->σ->CF σ ρ)(I:Int->σ->Prop){s:σ}(d:I 0 s)(h:∀(i:Int)s,0<=i->i<l.length->I i s->f i s=Y (step (AA l i) s)/\∀s',step (AA l i) s=.next s'->I (i+1) s'):
  fq f 0 l.length s=Y (H8 step l s):=by
 have:=Uf step I h l.length 0 s U U d;unfold fq;rw[show((l.length:Int)-0).toNat=l.length by omega];exact this
end
abbrev zM:Ar:=⟨⟨[],[]⟩,[]⟩
abbrev zP:CL:=⟨0,zM,[]⟩
def bH(w:c8->CL×Int)(k:c8)(s:CL×CL):CF (CL×CL) (CL×Int):=
 if (w k).2≠0 then .ret (zP,(w k).2)else .next (s.1,⟨s.2.AaL,s.2.ns,s.2.ff++[(w k).1]⟩)
def t7(w:c8->CL×Int)(l:List c8):CL×Int:=
 match H8 (bH w) l (zP,zP)with
 |.inl s=>(s.2,0)|.inr r=>r
def Dp(t:AC)(h:AJ)(inj:Bool):Nat->c8->Ar->CL×Int
 |0,_,_=>(zP,0)|N+1,c,m=>
  if c.gN=2 then(if(Dp t h inj N (AA c.ff 0) m).2=0 then(zP,10)else if(Dp t h inj N (AA c.ff 0) m).2=10 then(zP,0)else(zP,(Dp t h inj N (AA c.ff 0) m).2))else
  if c.gN=3 then t7 (λk=>Dp t h inj N k m) c.ff else
  if c.gN=4 then(fst (λi=>if(Dp t h inj N (AA c.ff i) m).2=0 then Y (⟨i,zM,[(Dp t h inj N (AA c.ff i) m).1]⟩,0)else if(Dp t h inj N (AA c.ff i) m).2≠10 then Y (zP,(Dp t h inj N (AA c.ff i) m).2)else W) 0 c.ff.length).getD (zP,10)else
  if c.gN=5 then
   (if(JF t c h m inj).2≠0 then(zP,(JF t c h m inj).2)else
   (fst (λi=>if(Dp t h inj N (AA c.ff 0) (AA (JF t c h m inj).1 i)).2=0 then Y (⟨0,AA (JF t c h m inj).1 i,[(Dp t h inj N (AA c.ff 0) (AA (JF t c h m inj).1 i)).1]⟩,0)else
    if (Dp t h inj N (AA c.ff 0) (AA (JF t c h m inj).1 i)).2≠10 then Y (zP,(Dp t h inj N (AA c.ff 0) (AA (JF t c h m inj).1 i)).2)else W) 0 (JF t c h m inj).1.length).getD (zP,10))else
  (zP,0)
end Go.Sf.Sc
namespace Go.Sf.Sc
open Go Go.Sf
def aX(i:Int)(s:CL×CL):Prop:=(s.2.ff.length:Int)=i
theorem YB{s:Be}(hf:A0 s.t)(hv:(BF s.t).2=0)(hh:NG s.t s.h):∀(N:Nat)(c:c8)(p:d5)(m:Ar),SizeOf.sizeOf c<=N->CV s.t p c->fP s.t p s.h m->∀n,2*N<=n->A1 n s c m=Y (Dp s.t s.h s.ej N c m)
 |0,c,_,_,h,_,_,_,_=>by have:=G3 c;omega|N+1,c,p,m,h,r,z,n,F=>by
  obtain ⟨n,rfl⟩:∃k,n=k+2:=⟨n-2,U⟩;have kid:∀(i:Int),0<=i->i<c.ff.length->SizeOf.sizeOf (AA c.ff i)<=N:=λi d g=>by
   have:=KA (AI (l:=c.ff) d g);omega
  rw [A1,Dp];by_cases u:c.gN=2
  .have E:=r.one (.inl u);rw[aE d_,aE u,AD U U,bs,YB hf hv hh N _ p m (kid 0 U U) (r.kid U _ (AI U U)) z (n+1) U,bs]
   grind
  rw [aN d_,aN u];by_cases A:c.gN=3
  .rw[aE o!,aE A];have C:=r.few;rw[io (bH λk=>Dp s.t s.h s.ej N k m) aX (show aX 0 (zP,zP)from rfl)]
   .unfold t7;show eg (Y (H8 (bH λk=>Dp s.t s.h s.ej N k m) c.ff (zP,zP))) _ _=_;cases H8 (bH λk=>Dp s.t s.h s.ej N k m) c.ff (zP,zP)<;>rfl
   .intro i st d g hi;unfold aX at hi;rw[AD d g,bs,YB hf hv hh N _ p m (kid i d g) (r.kid U _ (AI d g)) z (n+1) U,bs]
    grind [bH,Dp,AA,Ao,Ak,aX]
  rw [aN o!,aN A];by_cases B:c.gN=4
  .rw[aE o_,aE B];rw[Vo (λ_=>zP) (λi=>if(Dp s.t s.h s.ej N (AA c.ff i) m).2=0 then Y (⟨i,zM,[(Dp s.t s.h s.ej N (AA c.ff i) m).1]⟩,0)else if(Dp s.t s.h s.ej N (AA c.ff i) m).2≠10 then Y (zP,(Dp s.t s.h s.ej N (AA c.ff i) m).2)else W) U rfl]
   .cases fst (λi=>if(Dp s.t s.h s.ej N (AA c.ff i) m).2=0 then Y ((⟨i,zM,[(Dp s.t s.h s.ej N (AA c.ff i) m).1]⟩:CL),(0:Int))else if(Dp s.t s.h s.ej N (AA c.ff i) m).2≠10 then Y (zP,(Dp s.t s.h s.ej N (AA c.ff i) m).2)else W) 0 c.ff.length<;>rfl
   .intro i d g _;rw[AD d g,bs,YB hf hv hh N _ p m (kid i d g) (r.kid U _ (AI d g)) z (n+1) U,bs];generalize Dp s.t s.h s.ej N (AA c.ff i) m=x;by_cases o:x.2=0
    .rw[aE b?,aE o];try rfl
    .rw[aN b?,aN o];by_cases j:x.2=10
     .rw[aN q!,aN q!];try rfl
     .rw[aE q!,aE j];try rfl
  rw [aN o_,aN B];by_cases w:c.gN=5
  .rw[aE (by simpa using w),aE w];have hi:=r.ins w;have E:=r.one (.inr w);rw[Bc,ul hf hv hh z hi,bs];by_cases y:(JF s.t c s.h m s.ej).2=0
   .obtain⟨j,D⟩:=rM hv hh z hi y;rw[aN (by simp[y]),aN (by simp[y])];generalize (JF s.t c s.h m s.ej).1=l at j D;rw[Vo (λ_=>zP) (λi=>if(Dp s.t s.h s.ej N (AA c.ff 0) (AA l i)).2=0 then Y (⟨0,AA l i,[(Dp s.t s.h s.ej N (AA c.ff 0) (AA l i)).1]⟩,0)else if(Dp s.t s.h s.ej N (AA c.ff 0) (AA l i)).2≠10 then Y (zP,(Dp s.t s.h s.ej N (AA c.ff 0) (AA l i)).2)else W) U rfl]
    .cases fst (λi=>if(Dp s.t s.h s.ej N (AA c.ff 0) (AA l i)).2=0 then Y ((⟨0,AA l i,[(Dp s.t s.h s.ej N (AA c.ff 0) (AA l i)).1]⟩:CL),(0:Int))else if(Dp s.t s.h s.ej N (AA c.ff 0) (AA l i)).2≠10 then Y (zP,(Dp s.t s.h s.ej N (AA c.ff 0) (AA l i)).2)else W) 0 l.length<;>rfl
    .intro i d g _;rw[AD d g,bs,AD U U,bs,YB hf hv hh N _ c.d5 _ (kid 0 U U) (r.kid5 w _ (AI U U)) (D _ (AI d g)) n U,bs];generalize Dp s.t s.h s.ej N (AA c.ff 0) (AA l i)=x;by_cases o:x.2=0
     .rw[aE b?,aE o];try rfl
     .rw[aN b?,aN o];by_cases j:x.2=10
      .rw[aN q!,aN q!];try rfl
      .rw[aE q!,aE j];try rfl
   .rw[aE (by simp[y]),aE y];try rfl
  grind
end Go.Sf.Sc
namespace Go.Sf.Sc
open Go Go.Sf
variable{a b:Int}
theorem kv{c:Int->Ne}{v w:Int}(d:w≠v)(h:∀i,c i≠Y v):(fst c a b).getD w≠v:=by
 cases g:fst c a b with
 |none=>exact d|some r=>
  grind [Db]
variable{e v:Int}
theorem yL(h:e≠v):nz e≠Y v:=by grind[nz]
theorem eu(g:ci):B8 g≠10:=by grind[B8]
theorem ey(l:List ByteArray):JY l≠10:=by
 unfold JY;split
 .decide
 .refine kv a_ (λi=>?_)
  grind
theorem iQ(l:List gi)(k:Int):Ko l k≠10:=by grind[ey,AA,Ko]
theorem jD(t:AC)(i:Int):IG t i≠10:=by
 unfold IG;dsimp only;split
 .decide
 split
 .decide
 split
 .decide
 split
 .decide
 exact kv a_ (λi=>yL (iQ _ _))
theorem ib(t:AC)(i:Int):JE t i≠10:=by grind[JE]
theorem lR{α:Type}{x r:α}(h:(nz e).map (λe=>(x,e))=Y (r,(10:Int))):e=10:=by
 unfold nz at h
 grind
theorem kC(t:AC):(BF t).2≠10:=by
 unfold BF;split
 .decide
 split
 .decide
 split
 .grind[Db,jD,lR]
 .cases d:fst (λi=>(nz (JE t i)).map λe=>((AA t.ca i).gp,e)) 0 t.ca.length with
  |none=>decide|some r=>
   grind [Db,ib,lR]
theorem en(t:AC)(p g:ci):EO t p g≠10:=by grind[kC,eu,EO]
noncomputable def WJ(t:AC)(p:d5)(c:c8)(h:AJ)(m:Ar)(inj:Bool):Int:=
 if Mc t p c≠0 then Mc t p c else if(CN t h).2≠0 then(CN t h).2 else if JS t p.ci h.ci m.cE inj≠0 then JS t p.ci h.ci m.cE inj else
 if (IH t p h m.cE).2≠0 then(IH t p h m.cE).2 else if(IH t p h m.cE).1=m.eT then 0 else 11
variable{t:AC}{c:c8}
theorem oH(hf:A0 t)(p:d5)(d:GQ c)(h:AJ)(m:Ar)(inj:Bool):F2 t p c h m inj=Y (WJ t p c h m inj):=by
 unfold F2 WJ;rw[rr hf p d,bs];refine Dz λ_=>?_;rw[QP hf,bs];refine Dz λ_=>?_;rw[Y0 hf,bs];refine Dz λ_=>?_;rw[gH hf,bs];refine Dz λ_=>?_;rw[qV,bs]
 grind
variable{p:d5}{h:AJ}
theorem iU(hf:A0 t)(z:G8 c<=40){m:Ar}{inj:Bool}(e:WJ t p c h m inj=0):(BF t).2=0/\NG t h/\CV t p c/\fP t p h m:=by
 unfold WJ at e;split at e
 .grind
 rename_i d;split at e
 .grind
 rename_i j;split at e
 .grind
 rename_i o;split at e
 .grind
 rename_i r;split at e
 case isFalse=>cases e
 rename_i C;have d:=A_.1 d;have j:=A_.1 j;have o:=A_.1 o;have r:=A_.1 r;obtain⟨hv,hh⟩:=GK hf j;have w:=(bS o).2;unfold Mc at d;split at d
 .grind
 rename_i A;split at d
 .grind
 rename_i u;have y:=oT hv (.inl (A_.1 A));have u:=A_.1 u;have B:eH c=X:=by
  grind [N0]
 suffices g:(m.eT.length:Int)=p.eT/\P9 m.eT from⟨hv,hh,qJ hv _ c p (a5 _) z B d,y,w,g.1,g.2⟩
 have g:∀s∈p.em,MA p.eT h m.cE s:=λs g=>V8 (DT hv) y hh w g
 grind [IH,mT]
end Go.Sf.Sc
namespace Go.Sf.Sc
open Go Go.Sf
noncomputable def wS(t:AC)(p:d5)(c:c8)(h:AJ)(m:Ar)(inj:Bool):CL×Int:=
 if WJ t p c h m inj≠0 then(zP,WJ t p c h m inj)else Dp t h inj (SizeOf.sizeOf c) c m
variable{t:AC}{c:c8}
theorem lq(hf:A0 t)(p:d5)(g:GQ c)(j:G8 c<=40)(h:AJ)(m:Ar)(inj:Bool):Em t p c h m inj=Y (wS t p c h m inj):=by
 unfold Em wS;rw[oH hf p g,bs];refine Gf λo=>?_;obtain⟨hv,hh,d,u⟩:=iU hf j o;rw[show Fg (Be.mk t h inj) c m=Y (Dp t h inj (SizeOf.sizeOf c) c m)from Gb (2*SizeOf.sizeOf c) λn r=>YB (s:=⟨t,h,inj⟩) hf hv hh _ c p m (a5 _) d u n r];rfl
noncomputable def Va(t:AC)(p:d5)(c:c8)(h:AJ)(m:Ar)(inj:Bool):Bool×Int:=
 if (wS t p c h m inj).2=10 then(T,0)else(decide ((wS t p c h m inj).2=0),(wS t p c h m inj).2)
theorem fD(hf:A0 t)(p:d5)(d:GQ c)(g:G8 c<=40)(h:AJ)(m:Ar)(inj:Bool):D3 t p c h m inj=Y (Va t p c h m inj):=by grind[D3,Va,lq,wS]
end Go.Sf.Sc
namespace Go.Sf.Sc
open Go Go.Sf
end Go.Sf.Sc
namespace Go.Sf.Sc
open Go Go.Sf
end Go.Sf.Sc
