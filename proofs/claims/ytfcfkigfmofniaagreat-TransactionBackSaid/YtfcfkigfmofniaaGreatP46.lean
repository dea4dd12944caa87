/- Plain lemmas: what the functions of the program and of the reference compute. -/
import Derived.Test.YtfcfkigfmofniaaGreatP25
set_option linter.all false
set_option maxRecDepth 100000
open Option renaming some->Y,none->W
open Bool renaming true->X,false->T
open List renaming mem_append->u!,any_eq_false->u?,drop_eq_nil_of_le->v1,drop_eq_getElem_cons->v5,getElem?_eq_getElem->v6,replicate->v9,ext_getElem->v_,replicate_succ'->v!,mem_flatMap->v?,length_singleton->w_,nodup_nil->w!
open Classical renaming not_not->w?
open Bool renaming not_eq_true'->x_,true_and->x!,false_eq_true->x?
open Int renaming toNat_natCast->y_
namespace Go.Sf.Sc
open Go Go.Sf
variable{all:List mh}{k:Int}
theorem SJ(h:LY all k=0)(d:(AA all k).sc.length<=1000):-1000000<=(AA all k).zu/\(AA all k).yr<=1000000:=by grind[LY]
variable{t:eb}{i:Int}
theorem cJ(h:Hl t i=0):∀k,((Ak t i).length:Int)-(AA t.ca i).qo.length<=k->k<(Ak t i).length->LY (Ak t i) k=0:=by
 unfold Hl at h;dsimp only at h;split at h
 .cases h
 split at h
 .cases h
 split at h
 .cases h
 split at h
 .cases h
 exact Wb h
variable{a:Int}
theorem P8{n:Nat}(d:0<=a):BZ t (n+1) a=BZ t n (par t a)++(AA t.ca a).qo:=by grind[BZ]
theorem kV(h:LY all k=0)(d:(AA all k).sc.length<=1000):(AA all k).zu<=(AA all k).yr:=by grind[LY]
theorem SK(hf:Ai t)(h:Fm t){Q:mh->Prop}(SJ:∀{all:List mh}{k:Int},LY all k=0->(AA all k).sc.length<=1000->Q (AA all k)):∀(n:Nat)(a:Int),a<t.ca.length->a<n->∀x∈BZ t n a,Q x
 |0,_,_,_=>by simp[BZ]|n+1,a,g,C=>by
  by_cases o:a<0
  .rw[Jf o];simp
  .have y:=h.par a U g;intro x d;rw[P8 U]at d;rcases u!.1 d with d|d
   .exact SK hf h SJ n (par t a) U U x d
   .obtain⟨j,A,B,rfl⟩:=BR d;have e:Ak t a=BZ t a.toNat (par t a)++(AA t.ca a).qo:=by
     unfold Ak;rw[show(a+1).toNat=a.toNat+1 by omega,P8 U]
    have z:(Ak t a).length=(BZ t a.toNat (par t a)).length+(AA t.ca a).qo.length:=by rw[e,bk]
    have r:=cJ (h.node a U g) ((BZ t a.toNat (par t a)).length+j) U U;have u:AA (Ak t a) ((BZ t a.toNat (par t a)).length+j)=AA (AA t.ca a).qo j:=by
     grind [M5,AA]
    have w:=NU hf (Int.le_refl _) h.par g (AA (Ak t a) ((BZ t a.toNat (par t a)).length+j)) (AF U U);have:=SJ r (by have:=w.names;omega)
    rwa [u]at this
theorem WK(hf:Ai t)(h:Fm t)(e:0<=a)(d:a<t.ca.length):∀x∈Ak t a,-1000000<=x.zu/\x.yr<=1000000:=SK hf h SJ _ a d U
theorem gq(hf:Ai t)(h:Fm t)(e:0<=a)(d:a<t.ca.length):∀x∈Ak t a,x.zu<=x.yr:=SK hf h kV _ a d U
theorem Y9(e:Et t k):∀(n:Nat)(a b:Int),a<k->a<n->b∈P1 t n a->0<=b/\b<=a/\(Ak t b).length<=(BZ t n a).length
 |0,_,_,_,_=>by simp[P1]|n+1,a,b,g,r=>by
  intro d;rw[P1]at d;split at d
  .cases d
  .rename_i j;have o:=e a U g;rw[P8 U];rcases List.mem_cons.1 d with rfl|d
   .refine⟨U,U,?_⟩;unfold Ak;rw[M6 e (b+1).toNat (n+1) b g U U,P8 U];exact b6 _
   .have:=Y9 e n (par t a) b U U d
    grind
variable{b:Int}
theorem YX(h:Fm t)(j:a<t.ca.length)(d:Ho t a b=X):(Ak t b).length<=(Ak t a).length:=by
 unfold Ho at d;rw[List.any_eq_true]at d;obtain⟨x,g,e⟩:=d;rw[yk]at e;subst e;by_cases o:a<0
 .have:(a+1).toNat=0:=U
  rw [this]at g;cases g
 .exact(Y9 h.par (a+1).toNat a b j U g).2.2
theorem eW{α:Type}{Q:Prop}[Decidable Q]{v:α}{ζ:Option α}{δ:α}(he:a=b↔Q)(h:Q->ζ=Y δ):(if(!decide (a=b))=X then Y v else ζ)=Y (if¬Q then v else δ):=l!
def Re(t:eb)(k:Int)(v:Fp)(j:Int):Bool:=decide (AA v j<(AA (Ak t k) j).zu)||decide ((AA (Ak t k) j).yr<AA v j)
def HK(t:eb)(k:Int)(v:Fp):Int:=
 if (t.ca.length:Int)<=k then 6 else if(AA t.ca k).tg=X then 13 else if¬v.length=(Ak t k).length then 20 else
 if nd (Re t k v) 0 (Ak t k).length=X then 6 else 0
def Kz(t:eb)(g:d3)(i:Int):Int:=
 if (t.ci.length:Int)<=(AA g.ci i).kp then 6 else if Jj t g i=T then 13 else 0
def E9(t:eb)(h:fl):Int×Int:=
 if (As t).2≠0 then(-1,(As t).2)else if Bn h.d3≠0 then(-1,Bn h.d3)else if¬h.em.length=h.d3.ca.length then(-1,20)else
 match fst (λi=>(nz (HK t (AA h.d3.ca i) (AA h.em i))).map λe=>(i,e)) 0 h.d3.ca.length with
 |some r=>r|none=>(fst (λi=>(nz (Kz t h.d3 i)).map λe=>(i,e)) 0 h.d3.ci.length).getD (-1,0)
theorem IA(hv:(As t).2=0)(d:0<=k)(e:k<t.ca.length):Eg t k=(Ak t k,0):=by grind[Eg,NA]
theorem R2{x:Bool}{y:Bool}:(if x=X then Y X else Y y)=Y (x||y):=by cases x<;>rfl
theorem pF(hf:Ai t)(hv:(As t).2=0)(d:0<=k)(v:Fp):K0 t k v=Y (HK t k v):=by
 unfold K0 HK;by_cases e:(t.ca.length:Int)<=k
 .grind
 rw [az h_,az e,AC d U,bs];refine Zw λ_=>?_;rw[R3 hf,IA hv d U,bs];refine eW an λg=>?_;rw[BT (Re t k v) 6]
 .cases nd (Re t k v) 0 (Ak t k).length<;>rfl
 grind [Ak,AC,R2,Re,AA]
theorem pf(hf:Ai t)(hv:(As t).2=0)(d:0<=k)(v:Fp):N2 t k v=Y (HK t k v):=by
 unfold N2 HK;by_cases e:(t.ca.length:Int)<=k
 .grind
 rw [az h_,az e,AC d U,bs];refine Zw λ_=>?_;rw[NF hf,IA hv d U,bs];refine eW an λg=>?_;rw[BT (Re t k v) 6]
 .cases nd (Re t k v) 0 (Ak t k).length<;>rfl
 grind [Ak,AC,R2,Re,AA]
theorem aX(e i:Int):(if(!decide (e=0))=X then Y (Be.ret (σ:=Unit) (ρ:=Int×Int) (i,e))else Y (.next ()))=Y (Qd ((nz e).map λe=>(i,e))):=by grind[nz,Qd]
theorem Wy(hf:Ai t)(h:fl):FA t h=Y (E9 t h):=by
 unfold FA E9;rw[Of hf,bs];refine CL λhv=>?_;rw[Lf,bs];refine CL λo=>?_;have go:=Cs o;refine eW U λz=>?_;rw[BF (λi=>(nz (HK t (AA h.d3.ca i) (AA h.em i))).map λe=>(i,e)),Cy]
 .cases u:fst (λi=>(nz (HK t (AA h.d3.ca i) (AA h.em i))).map λe=>(i,e)) 0 h.d3.ca.length with
  |some r=>rfl|none=>
   have w:=Az.1 u;dsimp only;rw[BF (λi=>(nz (Kz t h.d3 i)).map λe=>(i,e)),Cy]
   .grind
   .intro i d g _;have y:=go.fit _ (AF (l:=h.d3.ci) d g);rw[AC d g,bs];unfold Kz Jj;by_cases j:(t.ci.length:Int)<=(AA h.d3.ci i).kp
    .rw[ae d?,ae j];rfl
    .rw[az d?,az j,AC U U,bs,AC U U,bs,ic hf,bs];cases O0 t (AA h.d3.ci i).kp (AA h.d3.ca (AA h.d3.ci i).kq) (AA h.d3.ca (AA h.d3.ci i).To)<;>rfl
 .intro i d g _;rw[AC d g,bs,AC d U,bs,pF hf hv (go.kind _ (AF d g)).1,bs];exact aX _ i
theorem UW(hf:Ai t)(h:fl):Gv t h=Y (E9 t h):=by
 unfold Gv E9;rw[QW hf,bs];refine CL λhv=>?_;rw[Lg,bs];refine CL λo=>?_;have go:=Cs o;refine eW U λz=>?_;rw[BF (λi=>(nz (HK t (AA h.d3.ca i) (AA h.em i))).map λe=>(i,e)),Cy]
 .cases u:fst (λi=>(nz (HK t (AA h.d3.ca i) (AA h.em i))).map λe=>(i,e)) 0 h.d3.ca.length with
  |some r=>rfl|none=>
   have w:=Az.1 u;dsimp only;rw[BF (λi=>(nz (Kz t h.d3 i)).map λe=>(i,e)),Cy]
   .grind
   .intro i d g _;have y:=go.fit _ (AF (l:=h.d3.ci) d g);rw[AC d g,bs];unfold Kz Jj;by_cases j:(t.ci.length:Int)<=(AA h.d3.ci i).kp
    .rw[ae d?,ae j];rfl
    .rw[az d?,az j,AC U U,bs,AC U U,bs,XB hf,bs];cases O0 t (AA h.d3.ci i).kp (AA h.d3.ca (AA h.d3.ci i).kq) (AA h.d3.ca (AA h.d3.ci i).To)<;>rfl
 .intro i d g _;rw[AC d g,bs,AC d U,bs,pf hf hv (go.kind _ (AF d g)).1,bs];exact aX _ i
structure I2(t:eb)(h:fl):Prop where
 g:CQ h.d3
 len:h.em.length=h.d3.ca.length
 kind:∀i:Int,0<=i->i<h.d3.ca.length->0<=AA h.d3.ca i/\AA h.d3.ca i<t.ca.length
 row:∀i:Int,0<=i->i<h.d3.ca.length->(AA h.em i).length=(Ak t (AA h.d3.ca i)).length
 low:∀i:Int,0<=i->i<h.d3.ca.length->∀x∈AA h.em i,-1000000<=x/\x<=1000000
 ge:Bn h.d3=0
 ty:CP t h.d3=X
variable{h:fl}
theorem fD(e:(E9 t h).2=0):(∀i:Int,0<=i->i<h.d3.ca.length->HK t (AA h.d3.ca i) (AA h.em i)=0)/\∀i:Int,0<=i->i<h.d3.ci.length->Kz t h.d3 i=0:=by
 unfold E9 at e;split at e
 next u=>exact absurd e u
 split at e
 next u=>exact absurd e u
 split at e
 .cases e
 rename_i u z A;have y:∀i:Int,0<=i->i<h.d3.ca.length->HK t (AA h.d3.ca i) (AA h.em i)=0:=by
  split at e
  .rename_i r d;obtain⟨i,_,_,k,_⟩:=C2 d;unfold nz at k;split at k
   .cases k
   next g=>cases k;exact absurd e g
  next d=>exact λi j o=>FP.1 (K5.1 (Az.1 d i j o))
 have he:∀i:Int,0<=i->i<h.d3.ci.length->Kz t h.d3 i=0:=by
  have w:fst (λi=>(nz (HK t (AA h.d3.ca i) (AA h.em i))).map λe=>(i,e)) 0 h.d3.ca.length=W:=Az.2 λi j o=>by rw[y i j o];rfl
  rw [w]at e;dsimp only at e;cases d:fst (λi=>(nz (Kz t h.d3 i)).map λe=>(i,e)) 0 h.d3.ci.length with
  |some r=>
   rw [d]at e;obtain⟨i,_,_,k,_⟩:=C2 d;unfold nz at k;split at k
   .cases k
   next g=>cases k;exact absurd e g
  |none=>exact λi j o=>FP.1 (K5.1 (Az.1 d i j o))
 exact ⟨y,he⟩
theorem Uy(hf:Ai t)(e:(E9 t h).2=0):(As t).2=0/\I2 t h:=by
 obtain ⟨w,he⟩:=fD e;unfold E9 at e;split at e
 next o=>exact absurd e o
 split at e
 next o=>exact absurd e o
 split at e
 .cases e
 rename_i o A D;have hv:=w?.1 o;have go:=Cs (w?.1 A);have u:∀i:Int,0<=i->i<h.d3.ca.length->(0<=AA h.d3.ca i/\AA h.d3.ca i<t.ca.length)/\(AA h.em i).length=(Ak t (AA h.d3.ca i)).length/\∀j:Int,0<=j->j<(Ak t (AA h.d3.ca i)).length->Re t (AA h.d3.ca i) (AA h.em i) j=T:=by
  intro i d g;have F:=(go.kind _ (AF d g)).1;have:=w i d g;unfold HK at this;split at this
  .cases this
  split at this
  .cases this
  split at this
  .cases this
  split at this
  .cases this
  rename_i a1 a2 a3 E;exact⟨⟨F,U⟩,w?.1 a3,Br.1 (by simpa using E)⟩
 have z:CP t h.d3=X:=by
  unfold CP;rw[sx,x_,x_,u?,u?];refine⟨λn w=>?_,λx y=>?_⟩
  .obtain⟨i,d,g,rfl⟩:=BR w;have:=(u i d g).1.2;simp;omega
  .obtain⟨i,d,g,rfl⟩:=BR y;have:=he i d g;unfold Kz at this;split at this
   .cases this
   .simp;omega
 suffices r:∀i:Int,0<=i->i<h.d3.ca.length->∀x∈AA h.em i,-1000000<=x/\x<=1000000 from⟨hv,go,w?.1 D,λi d g=>(u i d g).1,λi d g=>(u i d g).2.1,r,w?.1 A,z⟩
 intro i d g x y;obtain⟨B,H,G⟩:=u i d g;obtain⟨j,C,I,rfl⟩:=BR y;have:=G j C U;unfold Re at this;simp[decide_eq_false_iff_not]at this;have:=WK hf (C6 hv) B.1 B.2 _ (AF (l:=Ak t (AA h.d3.ca i)) C U);omega
end Go.Sf.Sc
namespace Go.Sf.Sc
open Go Go.Sf
def I7(t:eb)(p g:d3)(m:d4)(i:Int):a5:=
 if AA m.ca i<0\/g.ca.length<=AA m.ca i then Y 6 else if Ho t (AA g.ca (AA m.ca i)) (AA p.ca i)=T then Y 13 else W
def Mn(t:eb)(p g:d3)(m:d4):Int:=
 if m.ca.length≠p.ca.length\/m.ci.length≠p.ci.length then 20 else
 match fst (I7 t p g m) 0 m.ca.length with
 |some e=>e|none=>(fst (Fg p g m) 0 m.ci.length).getD 0
def Fa(t:eb)(p g:d3)(m:d4)(inj:Bool):Int:=
 if El t p g≠0 then El t p g else if Mn t p g m≠0 then Mn t p g m else if(inj&&!HL m)=X then 5 else 0
structure X2(t:eb)(p g:d3)(m:d4):Prop where
 zf:m.ca.length=p.ca.length
 zt:m.ci.length=p.ci.length
 node:∀i:Int,0<=i->i<m.ca.length->(0<=AA m.ca i/\AA m.ca i<g.ca.length)/\Ho t (AA g.ca (AA m.ca i)) (AA p.ca i)=X
 edge:∀i:Int,0<=i->i<m.ci.length->0<=AA m.ci i/\AA m.ci i<g.ci.length
variable{t:eb}
theorem Mx{p g:d3}(h:El t p g=0):(As t).2=0/\CQ p/\CQ g/\(∀n∈p.ca,0<=n/\n<t.ca.length)/\∀n∈g.ca,0<=n/\n<t.ca.length:=by
 unfold El at h;split at h
 .grind
 split at h
 .grind
 split at h
 .grind
 split at h
 .rename_i e j o d;rw[sx]at d
  grind [Cs,Hg]
 .cases h
variable{m:d4}
theorem dm{p g:d3}(h:Mn t p g m=0):X2 t p g m:=by
 unfold Mn at h;split at h
 .cases h
 rename_i o;have j:fst (I7 t p g m) 0 m.ca.length=W:=by
  grind [C2,I7]
 rw [j]at h;have he:=PT (λi=>by
  grind [Fg]) h
 refine ⟨U,U,λi d e=>?_,λi d e=>?_⟩
 .grind[Az,I7]
 grind [Fg]
theorem Yj(hf:Ai t){p g:d3}(A:El t p g=0)(m:d4):GI t p g m=Y (Mn t p g m):=by
 obtain ⟨hv,C,G,tp,D⟩:=Mx A;unfold GI Mn;refine GM d! λE=>?_;rw[nq hf (C6 hv) hv,bs,BF (I7 t p g m),Cy]
 .cases F:fst (I7 t p g m) 0 m.ca.length with
  |some e=>rfl|none=>
   dsimp only;rw[BF (Fg p g m),CG];intro i j z _;unfold Fg;rw[AC j z,bs];by_cases d:AA m.ci i<0\/g.ci.length<=AA m.ci i
   .rw[ae b?,ae d];rfl
   .have hf:=C.fit _ (AF (l:=p.ci) j U);rw[az b?,az d,AC j U,bs,AC U U,bs];by_cases o:(AA p.ci i).kp=(AA g.ci (AA m.ci i)).kp
    .rw[az e!,az e!,AC U U,bs];by_cases r:AA m.ca (AA p.ci i).kq=(AA g.ci (AA m.ci i)).kq
     .rw[az l_,AC U U,bs,bs];by_cases u:AA m.ca (AA p.ci i).To=(AA g.ci (AA m.ci i)).To
      .rw[az g!,az (by simp[r,u])];rfl
      .rw[ae g!,ae (.inr u)];rfl
     .rw[ae l_,bs,ae rfl,ae (.inl r)];rfl
    .rw[ae e!,ae o];rfl
 .intro i j z _;unfold I7;rw[AC j z,bs];by_cases d:AA m.ca i<0\/g.ca.length<=AA m.ca i
  .rw[ae b?,ae d];rfl
  .have w:=tp _ (AF (l:=p.ca) j U);have y:=D _ (AF (l:=g.ca) (show 0<=AA m.ca i by omega) U);rw[az b?,az d,AC j U,bs,AC w.1 (by unfold Ju;rw[c8,Aq];exact w.2),bs,AC U U,bs];have e:AA (Ju t) (AA p.ca i)=OF t (AA p.ca i):=by unfold Ju;exact HC (OF t) w.1 w.2
   rw [e,AC y.1 (by unfold OF;rw[c8,Aq];exact y.2),bs];have B:AA (OF t (AA p.ca i)) (AA g.ca (AA m.ca i))=Ho t (AA g.ca (AA m.ca i)) (AA p.ca i):=by unfold OF;exact HC (λk=>Ho t k (AA p.ca i)) y.1 y.2
   rw [B];cases Ho t (AA g.ca (AA m.ca i)) (AA p.ca i)<;>rfl
variable{l:Fp}
theorem dW(d:l.length<=1000):Hb l=Y (!I9 l):=by grind[Hb,Vg,Jh,AaK,I9]
theorem Xn(hf:Ai t)(p g:d3)(m:d4)(inj:Bool):FG t p g m inj=Y (Fa t p g m inj):=by
 unfold FG Fa;rw[Xr hf,bs];refine DN λd=>?_;rw[Yj hf d,bs];refine DN λo=>?_;obtain⟨_,j,r,_⟩:=Mx d;have e:=dm o;have:=j.ea;have:=j.ec;have:=e.zf;have:=e.zt;rw[dW U,dW U];unfold HL;cases inj<;>cases I9 m.ca<;>cases I9 m.ci<;>rfl
theorem pV(l:Fp):JL l=Y (I9 l):=ZY l
theorem jL{p g:d3}(z:El t p g=0)(m:d4)(inj:Bool):MI t p g m inj=Y (if Mn t p g m≠0 then Mn t p g m else if(inj&&!HL m)=X then 5 else 0):=by
 obtain ⟨hv,C,F,tp,D⟩:=Mx z;unfold MI Mn;by_cases A:m.ca.length≠p.ca.length\/m.ci.length≠p.ci.length
 .grind
 rw [az d!,az A,BF (I7 t p g m),Cy]
 .cases E:fst (I7 t p g m) 0 m.ca.length with
  |some e=>
   grind [C2,I7]
  |none=>
   dsimp only;rw[BF (Fg p g m),Cy]
   .grind[fst,Fg,C2,pV,HL,I9]
   intro i j w _;unfold Fg;rw[AC j w];simp only[bs,UP];by_cases d:AA m.ci i<0\/g.ci.length<=AA m.ci i
   .rw[ae b?,ae d];rfl
   .have hf:=C.fit _ (AF (l:=p.ci) j U);rw[az b?,az d,AC j U,bs,AC U U,bs];by_cases o:(AA p.ci i).kp=(AA g.ci (AA m.ci i)).kp
    .rw[az e!,az e!,AC U U,bs];by_cases r:AA m.ca (AA p.ci i).kq=(AA g.ci (AA m.ci i)).kq
     .rw[az l_,AC U U,bs,bs];by_cases u:AA m.ca (AA p.ci i).To=(AA g.ci (AA m.ci i)).To
      .rw[az g!,az (by simp[r,u])];rfl
      .rw[ae g!,ae (.inr u)];rfl
     .rw[ae l_,bs,ae rfl,ae (.inl r)];rfl
    .rw[ae e!,ae o];rfl
 .intro i j w _;unfold I7;rw[AC j w];simp only[bs,UP];by_cases d:AA m.ca i<0\/g.ca.length<=AA m.ca i
  .rw[ae b?,ae d];rfl
  .have B:=tp _ (AF (l:=p.ca) j U);have y:=D _ (AF (l:=g.ca) (show 0<=AA m.ca i by omega) U);rw[az b?,az d,AC U U,bs,AC j U,bs,VB (C6 hv) y.1 y.2 B.1,bs];cases Ho t (AA g.ca (AA m.ca i)) (AA p.ca i)<;>rfl
theorem Xu(hf:Ai t)(p g:d3)(m:d4)(inj:Bool):Il t p g m inj=Y (Fa t p g m inj):=by
 unfold Il Fa;rw[Ss hf,bs];refine DN λd=>?_;rw[jL d,bs]
theorem Zx{p g:d3}{inj:Bool}(h:Fa t p g m inj=0):El t p g=0/\X2 t p g m:=by grind[Fa,dm]
end Go.Sf.Sc
namespace Go.Sf.Sc
open Go Go.Sf
section
variable{α σ ρ:Type}
def Dz(step:α->σ->Be σ ρ):List α->σ->σ ⊕ ρ
 |[],s=>.inl s|a::r,s=>match step a s with
  |.next s'=>Dz step r s'|.brk s'=>.inl s'|.ret r=>.inr r
variable{f:Int->σ->Option (Be σ ρ)}
theorem UA[Inhabited α]{l:List α}(step:α->σ->Be σ ρ)(I:σ->Prop)(h:∀(i:Int)s,0<=i->i<l.length->I s->f i s=Y (step (AA l i) s)/\∀s',step (AA l i) s=.next s'->I s'):
  ∀(n:Nat)(a:Int)(s:σ),0<=a->a+n=l.length->I s->yf f n a s=Y (Dz step (l.drop a.toNat) s)
 |0,a,s,d,o,_=>by
  rw [v1 U];rfl
 |n+1,a,s,d,o,u=>by
  obtain ⟨g,j⟩:=h a s d U u;have hd:l.drop a.toNat=AA l a::l.drop (a+1).toNat:=by
   grind [v5,AA,v6]
  rw [EW,g,hd,Dz];cases e:step (AA l a) s with
  |next s'=>
   simp only;exact UA step I h n (a+1) s' U U (j s' e)
  |brk s'=>rfl|ret r=>rfl
theorem RA[Inhabited α]{l:List α}(step:α->σ->Be σ ρ)(I:σ->Prop){s:σ}(d:I s)(h:∀(i:Int)s,0<=i->i<l.length->I s->f i s=Y (step (AA l i) s)/\∀s',step (AA l i) s=.next s'->I s'):
  kl f 0 l.length s=Y (Dz step l s):=by
 have:=UA step I h l.length 0 s U U d;unfold kl;rw[show((l.length:Int)-0).toNat=l.length by omega];exact this
theorem bZ[Inhabited α](step:α->σ->Be σ ρ)(I:σ->Prop):∀(l:List α)(s s':σ),I s->(∀a∈l,∀s s',I s->step a s=.next s'->I s')->(∀a∈l,∀s s',step a s≠.brk s')->Dz step l s=.inl s'->I s'
 |[],s,s',h,_,_,e=>by cases e;exact h
 |a::r,s,s',h,g,o,e=>by
  rw [Dz]at e;split at e
  next s2 j=>exact bZ step I r s2 s' (g a V s s2 h j) (λa d=>g a (by simp[d])) (λa d=>o a (by simp[d])) e
  .grind
  .cases e
end
def Cw(x:j4)(l:Fp):Int:=if x.Var<0 then x.Add else AH (AA l x.Var+x.Add)
variable{x:j4}{l:Fp}
theorem UQ(h:x.Var<l.length):EJ x l=Y (Cw x l):=by grind[EJ,Cw,AC]
theorem Yv(h:x.Var<l.length):Im x l=Y (Cw x l):=UQ h
theorem ah(d:-1<=x.Var)(h:x.Var<l.length)(e:l.length<=1000):Ef x l=Y (Cw x l,0):=by grind[Ef,CU,AV,UQ]
theorem Oh(d:-1<=x.Var)(h:x.Var<l.length):EZ x l=Y (Cw x l,0):=by grind[EZ,Yv]
def Ke(x:Test)(l:Fp):Bool:=(decide (x.l3=1)&&decide (Cw x.kg l<=Cw x.fq l))||(decide (x.l3=2)&&decide (Cw x.kg l=Cw x.fq l))
structure H7(n:Int)(x:j4):Prop where
 low:-1<=x.Var
 high:x.Var<n
 add:-1000000<=x.Add/\x.Add<=1000000
def Pn(l:Fp):Prop:=∀x∈l,-2000000<=x/\x<=2000000
variable{n:Int}
theorem S0(h:H7 n x)(d:Pn l)(e:n<=l.length):Cw x l=(if x.Var<0 then x.Add else AA l x.Var+x.Add)/\-3000000<=Cw x l/\Cw x l<=3000000:=by
 unfold Cw;have:=h.add;by_cases g:x.Var<0
 .grind
 .have hh:=h.high;have:=d _ (AF (l:=l) (show 0<=x.Var by omega) U)
  grind [AV]
theorem Yu(h:H7 n x)(d:n<=l.length):KJ x l=Y (Cw x l,X):=by
 have e:=h.low;have g:=h.high
 grind [KJ,Cw,AC]
theorem r_holds{x:Test}(e:H7 n x.kg)(g:H7 n x.fq)(d:n<=l.length):MC x l=Y (Ke x l):=by
 unfold MC;rw[Yu e d,Yu g d];rfl
variable{a b:Int}
theorem ZB(j:-4000000<=a/\a<=4000000)(o:-4000000<=b/\b<=4000000):GO a b=Y (if a+b<0 then(-1,a+b+18446744073709551616)else(0,a+b)):=by
 have d:∀c:Int,IntKind.u64.wrap c=c % 18446744073709551616:=λc=>by
  simp [IntKind.wrap,IntKind.signed,IntKind.bits]
 have g:∀c:Int,-4000000<=c/\c<=4000000->Ff .i64 .shr c 63=Y (if c<0 then -1 else 0):=by
  intro c w;unfold Ff;have e:c.fdiv (2^ (min (63:Int).toNat (IntKind.bits .i64)))=if c<0 then -1 else 0:=by
   show c.fdiv (2^ 63)=_
   grind
  simp only[e];have:(0:Int)<=63/\IntKind.min .i64<=(if c<0 then -1 else 0)/\(if c<0 then -1 else 0)<=IntKind.max .i64:=by
   split<;>decide
  rw [ae this]
 unfold GO IL;rw[d,d,ae U,bs,g a j,g b o,bs,bs];congr 1;have y:∀c:Int,-10<=c->c<=10->AH c=c:=λc r u=>AV U U
 grind
def J2(a:Int):Int×Int:=if a<0 then(-1,a+18446744073709551616)else(0,a)
theorem ak(h:H7 n x)(d:Pn l)(o:n<=l.length):Ej x l=Y ((J2 (Cw x l)).1,(J2 (Cw x l)).2,X):=by
 have r:=h.low;have u:=h.high;have w:=h.add;have g:=(S0 h d o).1;unfold Ej;by_cases j:x.Var=-1
 .have e:Cw x l=x.Add:=by rw[g,ae U]
  rw [e,ae d?,ZB U U,bs,Int.zero_add];rfl
 .have:=d _ (AF (l:=l) (show 0<=x.Var by omega) U);have e:Cw x l=AA l x.Var+x.Add:=by rw[g,az U]
  rw [e,az d?,az an,AC U U,bs,ZB U U,bs];rfl
theorem nX(a b:Int):cmp_Compare_int a b=Y (if a<b then -1 else if b<a then 1 else 0):=by
 unfold cmp_Compare_int cmp_isNaN_int
 grind
theorem vL(a b:Int):IC a b=Y (if a<b then -1 else if b<a then 1 else 0):=nX a b
theorem rH(a b:Int):NV [a,b]=Y (if a=0 then b else a):=by
 unfold NV;show ek (yf _ 2 0 ()) _ _=_;rw[EW,show idx [a,b] 0=Y a from rfl,bs]
 grind [ek,yf,EW,idx]
theorem p_holds{x:Test}(g:H7 n x.kg)(j:H7 n x.fq)(d:Pn l)(e:n<=l.length):Fw x l=Y (Ke x l):=by
 have o:=(S0 g d e).2;have s2:=(S0 j d e).2;unfold Fw Ke;rw[ak g d e,ak j d e];simp[nX,vL,rH];generalize Cw x.kg l=a at o;generalize Cw x.fq l=b at s2;have key:(if(if(J2 a).1<(J2 b).1 then(-1:Int)else if(J2 b).1<(J2 a).1 then 1 else 0)=0 then(if(J2 a).2<(J2 b).2 then(-1:Int)else if(J2 b).2<(J2 a).2 then 1 else 0)else(if(J2 a).1<(J2 b).1 then(-1:Int)else if(J2 b).1<(J2 a).1 then 1 else 0))=if a<b then -1 else if b<a then 1 else 0:=by
  grind [J2]
 rw [key];congr 2
 .grind
 grind
end Go.Sf.Sc
namespace Go.Sf.Sc
open Go Go.Sf
structure TB(t:eb)(q:d7):Prop where
 g:CQ q.d3
 kind:∀n∈q.d3.ca,0<=n/\n<t.ca.length
 vars:0<=q.ff/\q.ff<=12
 few:q.ed.length<=10/\q.mo.length<=10
 slot:∀s∈q.ed,(0<=s.po/\s.po<q.d3.ca.length)/\(0<=s.mh/\s.mh<(Ak t (AA q.d3.ca s.po)).length)/\H7 q.ff s.j4
 test:∀x∈q.mo,(x.l3=1\/x.l3=2)/\H7 q.ff x.kg/\H7 q.ff x.fq
 ge:Bn q.d3=0
 ty:CP t q.d3=X
variable{n:Int}{x:j4}
theorem nI(h:Mr n x=X):H7 n x:=by
 unfold Mr at h;simp[yk]at h;exact⟨h.1.1.1,h.1.1.2,h.1.2,h.2⟩
theorem nJ{l:List Test}(h:IX n l=0):∀x∈l,(x.l3=1\/x.l3=2)/\H7 n x.kg/\H7 n x.fq:=by
 unfold IX at h;split at h
 .cases h
 split at h
 .cases h
 have g:=Wb h;intro x d;obtain⟨i,j,o,rfl⟩:=BR d;have:=g i j o;unfold Jv at this;split at this
 .cases this
 split at this
 .rename_i r e;rw[sx]at e
  grind [nI]
 .cases this
theorem gL(n:Int)(l:List Test):IX n l≠9:=by
 unfold IX;split
 .decide
 split
 .decide
 intro h;cases d:fst (λi=>nz (Jv n (AA l i))) 0 l.length with
 |none=>rw[d]at h;cases h
 |some r=>
  grind [C2,nz,Jv]
variable{t:eb}{q:d7}
theorem lg(hv:(As t).2=0)(h:EQ t q=0\/EQ t q=9):TB t q:=by
 have y:=We q.d3;unfold EQ at h;rw[az m_]at h;split at h
 .omega
 rename_i o;have g:=Cs (w?.1 o);split at h
 .omega
 rename_i e;split at h
 .omega
 rename_i A;split at h
 .omega
 rename_i B;split at h
 .omega
 rename_i C;split at h
 .grind[gL]
 rename_i w;refine⟨g,(Hg g h_).1,U,U,λs z=>?_,nJ (w?.1 w),w?.1 o,h_⟩;have j:RX t q s=T:=by
  grind
 unfold RX at j;simp[Bool.not_eq_false',decide_eq_false_iff_not]at j;obtain⟨⟨⟨d,E⟩,F⟩,G,H⟩:=j;unfold Q4 at d;dsimp only at d;split at d
 .cases d
 rename_i D;have u:=(Hg g h_).1 _ (AF (l:=q.d3.ca) (show 0<=s.po by omega) U);rw[IA hv u.1 u.2]at d;split at d
 .cases d
 rename_i r;have r:¬(s.mh<0\/((Ak t (AA q.d3.ca s.po)).length:Int)<=s.mh):=r;exact⟨U,U,U,U,U,U⟩
def My(h:fl)(m:d4)(s:Bw):Int:=AA (AA h.em (AA m.ca s.po)) s.mh
def PK(h:fl)(m:d4)(s:Bw)(st:Fp×a6):Fp×a6:=
 if 0<=s.j4.Var/\AA st.2 s.j4.Var=T then(Av st.1 s.j4.Var (AH (My h m s-s.j4.Add)),Av st.2 s.j4.Var X)else st
def Ea{ρ:Type}(r:ρ)(h:fl)(m:d4)(s:Bw)(st:Fp×a6):Be (Fp×a6) ρ:=
 if Cw s.j4 (PK h m s st).1=My h m s then .next (PK h m s st)else .ret r
structure VI(n:Int)(st:Fp×a6):Prop where
 l1:(st.1.length:Int)=n
 l2:(st.2.length:Int)=n
 small:Pn st.1
structure I4(n:Int)(h:fl)(m:d4)(s:Bw):Prop where
 node:0<=s.po/\s.po<m.ca.length
 val:0<=AA m.ca s.po/\AA m.ca s.po<h.em.length
 AaL:0<=s.mh/\s.mh<(AA h.em (AA m.ca s.po)).length
 term:H7 n s.j4
 has:-1000000<=My h m s/\My h m s<=1000000
variable{h:fl}{m:d4}{s:Bw}
theorem Ol(g:Fm t)(j:TB t q)(hh:I2 t h)(e:X2 t q.d3 h.d3 m)(o:s∈q.ed):I4 q.ff h m s:=by
 obtain ⟨u,w,y⟩:=j.slot s o;have z:=e.zf;have d:=e.node s.po u.1 U;have A:=hh.row _ d.1.1 d.1.2;have r:=hh.kind _ d.1.1 d.1.2;have B:=YX g r.2 d.2;have hv:=hh.len;refine⟨U,U,U,y,?_⟩;unfold My;exact hh.low _ d.1.1 d.1.2 _ (AF w.1 U)
theorem ED{α:Type}(l:List α)(i:Int)(a:α):(Av l i a).length=l.length:=by unfold Av;rw[List.length_set]
variable{i:Int}
theorem mK{α:Type}{l:List α}{a x:α}(h:x∈Av l i a):x∈l\/x=a:=List.mem_or_eq_of_mem_set h
variable{st:Fp×a6}
theorem jk(e:I4 n h m s)(hi:VI n st):VI n (PK h m s st):=by
 have g:=e.has;have j:=e.term.add;unfold PK;split
 .refine⟨by rw[ED];exact hi.l1,by rw[ED];exact hi.l2,λx d=>?_⟩;rcases mK d with d|rfl
  .exact hi.small x d
  grind [AV]
 .exact hi
def Hc(q:d7)(h:fl)(m:d4):Fp×Int:=
 match Dz (Ea (([],11):Fp×Int) h m) q.ed (v9 q.ff.toNat 0,v9 q.ff.toNat T)with
 |.inr r=>r|.inl st=>if nd (λi=>!Ke (AA q.mo i) st.1) 0 q.mo.length=X then([],16)else(st.1,0)
theorem SD(d:0<=n):VI n (v9 n.toNat 0,v9 n.toNat T):=by
 refine ⟨an,an,λx e=>?_⟩
 grind
variable{st':Fp×a6}
theorem Pk{ρ:Type}{r:ρ}(d:I4 n h m s)(hi:VI n st)(e:Ea r h m s st=.next st'):VI n st':=by grind[Ea,jk]
theorem jm{ρ:Type}{r:ρ}:Ea r h m s st≠.brk st':=by grind[Ea]
theorem Ok{ρ:Type}{r:ρ}{l:List Bw}(d:∀s∈l,I4 n h m s)(hi:VI n st)(e:Dz (Ea r h m) l st=.inl st'):VI n st':=
 bZ (Ea r h m) (VI n) l st st' hi (λa g _ _ j o=>Pk (d a g) j o) (λ_ _ _ _=>jm) e
theorem QO{ρ:Type}{r:ρ}(w:I4 n h m s)(hi:VI n st){θ:Fp×a6->Option (Be (Fp×a6) ρ)}
  (j:∀st':Fp×a6,(st'.1.length:Int)=n->θ st'=Y (if Cw s.j4 st'.1=My h m s then .next st' else .ret r)):
  ((if(decide (0<=s.j4.Var))=X then((idx st.2 s.j4.Var).bind λo=>Y (!o))else Y T).bind λu=>
   if u=X then(idx st.1 s.j4.Var).bind λ_=>(idx st.2 s.j4.Var).bind λ_=>θ (Av st.1 s.j4.Var (AH (My h m s-s.j4.Add)),Av st.2 s.j4.Var X)else θ (st.1,st.2))=Y (Ea r h m s st):=by
 have y:=w.term.high;have l1:=hi.l1;have l2:=hi.l2;unfold Ea;by_cases d:0<=s.j4.Var
 .rw[ae b?,AC d U,bs,bs];by_cases g:AA st.2 s.j4.Var=T
  .rw[ae n!,AC d U,bs,bs,j _ (by dsimp only;rw[ED];exact l1)];have e:PK h m s st=(Av st.1 s.j4.Var (AH (My h m s-s.j4.Add)),Av st.2 s.j4.Var X):=by unfold PK;rw[ae ⟨d,g⟩]
   rw [e]
  .rw[az t!,j _ l1];have e:PK h m s st=st:=by unfold PK;rw[az (λe=>g e.2)]
   rw [e]
 .rw[az b?,bs,az a?,j _ l1];have e:PK h m s st=st:=by unfold PK;rw[az (λe=>d e.1)]
  rw [e]
theorem cX{ρ:Type}{r:ρ}(j:I4 n h m s)(hi:VI n st){θ:Fp×a6->Option (Be (Fp×a6) ρ)}
  (o:∀st':Fp×a6,(st'.1.length:Int)=n->θ st'=Y (if Cw s.j4 st'.1=My h m s then .next st' else .ret r)):
  ((if(decide (0<=s.j4.Var))=X then((idx st.2 s.j4.Var).bind λd=>Y (!d))else Y T).bind λe=>
   if e=X then(idx st.2 s.j4.Var).bind λ_=>(idx st.1 s.j4.Var).bind λ_=>θ (Av st.1 s.j4.Var (AH (My h m s-s.j4.Add)),Av st.2 s.j4.Var X)else θ (st.1,st.2))=Y (Ea r h m s st):=by
 rw [<-QO j hi o];have u:=j.term.high;have l1:=hi.l1;have l2:=hi.l2;by_cases g:0<=s.j4.Var
 .rw[AC g U,AC g U];rfl
 .rw[az t!];rfl
variable{v:Int}
theorem Y4{t:j4}{f:j4->Fp->a5}(hf:∀l:Fp,(l.length:Int)=n->f t l=Y (Cw t l))(st':Fp×a6)(e:(st'.1.length:Int)=n):((f t st'.1).bind λd=>if(!decide (d=v))=X then Y (Be.ret (([],11):Fp×Int))else Y (.next st'))=Y (if Cw t st'.1=v then .next st' else .ret ([],11)):=l!
theorem pM(u:TB t q)(w:∀s∈q.ed,I4 q.ff h m s):H9 q h m=Y (Hc q h m):=by
 have hv:=u.vars;unfold H9 Hc GD;rw[ae U,bs,ae U,bs];rw[RA (Ea (([],11):Fp×Int) h m) (VI q.ff) (SD hv.1)]
 .cases z:Dz (Ea (([],11):Fp×Int) h m) q.ed (v9 q.ff.toNat 0,v9 q.ff.toNat T)with
  |inr r=>rfl|inl st=>
   have hi:=Ok w (SD hv.1) z;rw[Bc,BT (λi=>!Ke (AA q.mo i) st.1) ([],16)]
   .dsimp only;cases nd (λi=>!Ke (AA q.mo i) st.1) 0 q.mo.length<;>rfl
   .intro i g j _;have y:=u.test _ (AF g j);rw[AC g j,bs,p_holds y.2.1 y.2.2 hi.small (by have:=hi.l1;omega),bs]
    grind
 .intro i st g j hi;have d:=w _ (AF g j);refine⟨?_,λs' e=>Pk d hi e⟩;rw[AC g j,bs,AC d.node.1 d.node.2,bs,AC d.val.1 d.val.2,bs,AC d.AaL.1 d.AaL.2,bs];exact QO d hi (θ:=λst'=>(EJ (AA q.ed i).j4 st'.1).bind λo=>if(!decide (o=My h m (AA q.ed i)))=X then Y (Be.ret (([],11):Fp×Int))else Y (.next st')) (Y4 λl A=>UQ (by have:=d.term.high;omega))
theorem dh(u:TB t q)(w:∀s∈q.ed,I4 q.ff h m s):HO q h m=Y (Hc q h m):=by
 have hv:=u.vars;unfold HO Hc GD;rw[ae U,bs,ae U,bs];rw[RA (Ea (([],11):Fp×Int) h m) (VI q.ff) (SD hv.1)]
 .cases z:Dz (Ea (([],11):Fp×Int) h m) q.ed (v9 q.ff.toNat 0,v9 q.ff.toNat T)with
  |inr r=>rfl|inl st=>
   have hi:=Ok w (SD hv.1) z;rw[Bc,BT (λi=>!Ke (AA q.mo i) st.1) ([],16)]
   .dsimp only;cases nd (λi=>!Ke (AA q.mo i) st.1) 0 q.mo.length<;>rfl
   .intro i g j _;have y:=u.test _ (AF g j);rw[AC g j,bs,r_holds y.2.1 y.2.2 (by have:=hi.l1;omega),bs]
    grind
 .intro i st g j hi;have d:=w _ (AF g j);refine⟨?_,λs' e=>Pk d hi e⟩;rw[AC g j,bs,AC d.node.1 d.node.2,bs,AC d.val.1 d.val.2,bs,AC d.AaL.1 d.AaL.2,bs];exact cX d hi (θ:=λst'=>(Im (AA q.ed i).j4 st'.1).bind λo=>if(!decide (o=My h m (AA q.ed i)))=X then Y (Be.ret (([],11):Fp×Int))else Y (.next st')) (Y4 λl A=>Yv (by have:=d.term.high;omega))
def O4(t:eb)(p:d7)(h:fl):Int:=if EQ t p≠0 then EQ t p else(E9 t h).2
theorem il(hf:Ai t)(p:d7)(h:fl):E6 t p h=Y (O4 t p h):=by
 unfold E6 O4;rw[W4 hf,bs];refine DN λ_=>?_;rw[Wy hf];rfl
theorem Ys(hf:Ai t)(p:d7)(h:fl):KP t p h=Y (O4 t p h):=by
 unfold KP O4;rw[Za hf,bs];refine DN λ_=>?_;rw[UW hf];rfl
def Fc(t:eb)(p:d7)(h:fl)(m:d4):Fp×Int:=
 if O4 t p h≠0 then([],O4 t p h)else if Fa t p.d3 h.d3 m T≠0 then([],Fa t p.d3 h.d3 m T)else Hc p h m
variable{p:d7}
theorem Rh(hf:Ai t){inj:Bool}(d:O4 t p h=0)(e:Fa t p.d3 h.d3 m inj=0):(As t).2=0/\TB t p/\I2 t h/\X2 t p.d3 h.d3 m:=by
 unfold O4 at d;split at d
 .grind
 rename_i g;obtain⟨hv,hh⟩:=Uy hf d;exact⟨hv,lg hv (.inl (w?.1 g)),hh,(Zx e).2⟩
theorem dO(hf:Ai t)(p:d7)(h:fl)(m:d4):EI t p h m=Y (Fc t p h m):=by
 unfold EI Fc;rw[il hf,bs];refine CL λe=>?_;rw[Xn hf,bs];refine CL λg=>?_;obtain⟨hv,d,hh,o⟩:=Rh hf e g;rw[pM d (λs j=>Ol (C6 hv) d hh o j)];rfl
theorem pS(hf:Ai t)(p:d7)(h:fl)(m:d4):MJ t p h m=Y (Fc t p h m):=by
 unfold MJ Fc;rw[Ys hf,bs];refine CL λe=>?_;rw[Xu hf,bs];refine CL λg=>?_;obtain⟨hv,d,hh,o⟩:=Rh hf e g;rw[dh d (λs j=>Ol (C6 hv) d hh o j)];rfl
theorem jn(g:TB t q)(j:∀s∈q.ed,I4 q.ff h m s)(e:(Hc q h m).2=0):((Hc q h m).1.length:Int)=q.ff/\Pn (Hc q h m).1:=by
 unfold Hc at e|-;cases d:Dz (Ea (([],11):Fp×Int) h m) q.ed (v9 q.ff.toNat 0,v9 q.ff.toNat T)with
 |inr r=>
  rw [d]at e;have:∀(l:List Bw)(st:Fp×a6)(r:Fp×Int),Dz (Ea (([],11):Fp×Int) h m) l st=.inr r->r=([],11):=by
   intro l
   induction l with
   |nil=>intro st r h;cases h
   |cons a l u=>
    grind [Dz,Ea]
  grind
 |inl st=>
  rw [d]at e;have hi:=Ok j (SD g.vars.1) d;dsimp only at e|-;split at e
  .cases e
  next o=>rw[az o];exact⟨hi.l1,hi.small⟩
end Go.Sf.Sc
namespace Go.Sf.Sc
open Go Go.Sf
variable{i:Int}
theorem G2{n:Nat}{α:Type}[Inhabited α](F:Int->α)(d:0<=i)(v:α):Av ((Ag n).map F) i v=(Ag n).map λj=>if j=i then v else F j:=by
 unfold Av;refine v_ V (λk e g=>?_)
 grind [Aq,Ag]
theorem CH{n:Nat}{α:Type}{F G:Int->α}(h:∀j,0<=j->j<(n:Int)->F j=G j):(Ag n).map F=(Ag n).map G:=by grind[List.map_congr_left,DW]
def Ge(n:Nat)(k:Int):a6:=(Ag n).map λj=>decide (j<k)
theorem Wl(n:Nat):Ge n 0=v9 n T:=by
 unfold Ge;refine v_ (by simp[Aq]) (λk d e=>?_)
 grind [Ag,Aq]
theorem YY(n:Nat)(k:Int):(Ge n k).length=n:=by unfold Ge;rw[c8,Aq]
def Mt(q:d7)(h:fl)(m:d4)(given:Fp):Fp×Bool:=
 match Dz (Ea (([],T):Fp×Bool) h m) q.ed (given++v9 (q.ff-given.length).toNat 0,Ge q.ff.toNat given.length)with
 |.inr r=>r|.inl st=>if nd (λi=>!Ke (AA q.mo i) st.1) 0 q.mo.length=X then([],T)else(st.1,X)
variable{n:Int}{given:Fp}
theorem V4(e:0<=n)(g:given.length<=n)(hv:Pn given):VI n (given++v9 (n-given.length).toNat 0,Ge n.toNat given.length):=by
 refine ⟨an,by show((Ge n.toNat given.length).length:Int)=n;rw[YY];omega,λx d=>?_⟩;rcases u!.1 d with d|d
 .exact hv x d
 grind
variable{q:d7}{m:d4}{t:eb}
theorem sL{s:BI}(w:TB t q)(y:∀x∈q.ed,I4 q.ff s.h m x)(B:given.length<=q.ff)(hv:Pn given):Dk s q m given=Y (Mt q s.h m given):=by
 have D:=w.vars;unfold Dk Mt slices_Clone_int;rw[Ap a_,bs,AV U U];have E:Zp given (q.ff-given.length) 0=Y (given++v9 (q.ff-given.length).toNat 0):=by
  grind [Zp,AU]
 have F:GD q.ff T=Y (v9 q.ff.toNat T):=by
  grind [GD]
 rw [E,bs,F,bs];have G:ns (λ(d:Int)(z:a6)=>(idx z d).bind λC=>Y (Av z d X)) 0 (given.length:Int) (v9 q.ff.toNat T)=Y (Ge q.ff.toNat given.length):=by
  refine BY (λi=>Ge q.ff.toNat i) U (Wl _) (λi d j=>?_);rw[AC d (by rw[YY];omega),bs];congr 1;unfold Ge;rw[G2 _ d]
  grind
 rw [G,bs];have u:=V4 D.1 B hv;rw[RA (Ea (([],T):Fp×Bool) s.h m) (VI q.ff) u]
 .cases H:Dz (Ea (([],T):Fp×Bool) s.h m) q.ed (given++v9 (q.ff-given.length).toNat 0,Ge q.ff.toNat given.length)with
  |inr r=>rfl|inl st=>
   have hi:=Ok y u H;rw[Bc,BT (λi=>!Ke (AA q.mo i) st.1) ([],T)]
   .dsimp only;cases nd (λi=>!Ke (AA q.mo i) st.1) 0 q.mo.length<;>rfl
   .intro i d j _;have A:=w.test _ (AF d j);rw[AC d j,bs,p_holds A.2.1 A.2.2 hi.small (by have:=hi.l1;omega),bs]
    grind
 .intro i st d j hi;have g:=y _ (AF d j);refine⟨?_,λs' e=>Pk g hi e⟩;rw[AC d j,bs,AC g.node.1 g.node.2,bs,AC g.val.1 g.val.2,bs,AC g.AaL.1 g.AaL.2,bs];refine QO g hi (θ:=λst'=>(Ef (AA q.ed i).j4 st'.1).bind λo=>if((!decide (o.2=0))||(!decide (o.1=My s.h m (AA q.ed i))))=X then Y (Be.ret (([],T):Fp×Bool))else Y (.next st')) (λst' I=>?_);rw[ah g.term.low (by have:=g.term.high;omega) U,bs]
  grind
variable{h:fl}
theorem sj(C:TB t q)(D:∀x∈q.ed,I4 q.ff h m x)(I:given.length<=q.ff)(hv:Pn given):LF q h m given=Y (Mt q h m given):=by
 have G:=C.vars;unfold LF Mt;have L:GD q.ff T=Y (v9 q.ff.toNat T):=by
  unfold GD;rw[ae U]
 rw [Ap a_,bs,L,bs];have H:ns (λ(d:Int)(u:Fp×a6)=>
   (idx u.2 d).bind λJ=>
   if (decide ((given.length:Int)<=d))=X then
   (AT u.1 [0]).bind λA=>
   Y (A,Av u.2 d (decide (d<(given.length:Int))))
   else
   Y (u.1,Av u.2 d (decide (d<(given.length:Int))))) 0 q.ff (given,v9 q.ff.toNat T)=Y (given++v9 (q.ff-given.length).toNat 0,(Ag q.ff.toNat).map λj=>decide (j<q.ff)&&decide (j<(given.length:Int))):=by
  refine BY (λi=>(given++v9 (i-given.length).toNat 0,(Ag q.ff.toNat).map λj=>decide (j<i)&&decide (j<(given.length:Int)))) G.1 ?_ (λi d o=>?_)
  .have M:((0:Int)-given.length).toNat=0:=U
   rw [M];simp;rw[<-Wl];unfold Ge;refine CH (λj E F=>?_);rw[show decide (j<0)=T by simp;omega];rfl
  .dsimp only;rw[AC d (by rw[c8,Aq];omega),bs];have N:Av ((Ag q.ff.toNat).map λj=>decide (j<i)&&decide (j<(given.length:Int))) i (decide (i<(given.length:Int)))=(Ag q.ff.toNat).map λj=>decide (j<i+1)&&decide (j<(given.length:Int)):=by
    rw [G2 _ d];refine CH (λj E F=>?_);by_cases e:j=i
    .rw[ae e,e,show decide (i<i+1)=X by simp;omega,x!]
    .rw[az e];congr 1;rw[decide_eq_decide];omega
   rw [N];by_cases hi:(given.length:Int)<=i
   .rw[ae o1,AQ a9,bs];congr 2;rw[c9,show(i+1-given.length).toNat=(i-given.length).toNat+1 by omega,v!]
   .rw[az o1];have O:(i+1-given.length).toNat=(i-given.length).toNat:=U
    rw [O]
 have B:((Ag q.ff.toNat).map λj=>decide (j<q.ff)&&decide (j<(given.length:Int)))=Ge q.ff.toNat given.length:=by
  unfold Ge;refine CH (λj E F=>?_);rw[show decide (j<q.ff)=X by simp;omega,x!]
 rw [B]at H;rw[H,bs];have y:=V4 G.1 I hv;dsimp only;rw[RA (Ea (([],T):Fp×Bool) h m) (VI q.ff) y]
 .cases P:Dz (Ea (([],T):Fp×Bool) h m) q.ed (given++v9 (q.ff-given.length).toNat 0,Ge q.ff.toNat given.length)with
  |inr r=>rfl|inl st=>
   have hi:=Ok D y P;rw[Bc,BT (λi=>!Ke (AA q.mo i) st.1) ([],T)]
   .dsimp only;cases nd (λi=>!Ke (AA q.mo i) st.1) 0 q.mo.length<;>rfl
   .intro i d o _;have z:=C.test _ (AF d o);have K:=hi.l1;rw[AC d o,bs,Oh z.2.1.low (by have:=z.2.1.high;omega),bs,Oh z.2.2.low (by have:=z.2.2.high;omega),bs,<-JF];unfold Ke;dsimp only;congr 1;generalize Cw (AA q.mo i).kg st.1=a;generalize Cw (AA q.mo i).fq st.1=b;rcases z.1 with e|e
    .rw[e,eq_iff_iff];simp
    .rw[e,eq_iff_iff];simp
 .intro i st d o hi;have g:=D _ (AF d o);refine⟨?_,λs' e=>Pk g hi e⟩;rw[AC d o,bs,AC g.node.1 g.node.2,bs,AC g.val.1 g.val.2,bs,AC g.AaL.1 g.AaL.2,bs];refine QO g hi (θ:=λst'=>(EZ (AA q.ed i).j4 st'.1).bind λw=>if(!decide (w.1=My h m (AA q.ed i)))=X then Y (Be.ret (([],T):Fp×Bool))else Y (.next st')) (λst' K=>?_);rw[Oh g.term.low (by have:=g.term.high;omega),bs];by_cases e:Cw (AA q.ed i).j4 st'.1=My h m (AA q.ed i)
  .rw[az c!,ae e]
  .rw[ae c!,az e]
theorem nM(j:TB t q)(o:∀s∈q.ed,I4 q.ff h m s)(u:given.length<=q.ff)(hv:Pn given)(e:(Mt q h m given).2=X):((Mt q h m given).1.length:Int)=q.ff/\Pn (Mt q h m given).1:=by
 unfold Mt at e|-;have d:=V4 j.vars.1 u hv;cases g:Dz (Ea (([],T):Fp×Bool) h m) q.ed (given++v9 (q.ff-given.length).toNat 0,Ge q.ff.toNat given.length)with
 |inr r=>
  rw [g]at e;have:∀(l:List Bw)(st:Fp×a6)(r:Fp×Bool),Dz (Ea (([],T):Fp×Bool) h m) l st=.inr r->r=([],T):=by
   intro l
   induction l with
   |nil=>intro st r h;cases h
   |cons a l y=>
    grind [Dz,Ea]
  grind
 |inl st=>
  rw [g]at e;have hi:=Ok o d g;dsimp only at e|-;split at e
  .cases e
  next w=>rw[az w];exact⟨hi.l1,hi.small⟩
def UR(n:Nat)(by' images:Fp):Fp:=(Ag by'.length).foldl (λl i=>Av l (AA by' i) (AA images i)) (v9 n (-1))
theorem YL(d images:Fp):∀(e:Fp)(l:Fp),(e.foldl (λl i=>Av l (AA d i) (AA images i)) l).length=l.length
 |[],l=>rfl|k::e,l=>by rw[List.foldl_cons,YL d images e,ED]
theorem W8{n:Nat}{d images:Fp}(y:∀x∈d,0<=x/\x<n)(z:d.length<=images.length):ns (λ(g:Int)(o:Fp)=>
  (idx d g).bind λe=>
  (idx images g).bind λj=>
  (idx o e).bind λr=>
  Y (Av o e j)) 0 (d.length:Int) (v9 n (-1))=Y (UR n d images):=by
 have h:=BY (f:=λ(g:Int)(o:Fp)=>
  (idx d g).bind λe=>
  (idx images g).bind λj=>
  (idx o e).bind λr=>
  Y (Av o e j)) (λi=>(Ag i.toNat).foldl (λl i=>Av l (AA d i) (AA images i)) (v9 n (-1))) (a:=0) (b:=d.length) (s:=v9 n (-1)) U rfl (λi g u=>by
   have w:=y _ (AF g u);rw[AC g u,bs,AC g U,bs,AC w.1 (by rw[YL];simpa using w.2),bs,D2 g,List.foldl_append];rfl)
 rw [h,y_];rfl
theorem aq{n:Nat}{d images:Fp}(j:n<=1000)(e:∀x∈d,0<=x/\x<n)(g:d.length<=images.length):Ft n d images=Y (UR n d images):=by
 unfold Ft EF;rw[ae ⟨rfl,U,U⟩,bs];show(ns _ 0 _ (v9 (n:Int).toNat (-1))).bind _=_;rw[y_,W8 e g];rfl
theorem bC{n:Nat}{d images:Fp}(j:n<=1000)(e:∀x∈d,0<=x/\x<n)(g:d.length<=images.length):JN n d images=Y (UR n d images):=by
 unfold JN;rw[BY (a:=0) (b:=n) (s:=[]) (λi=>v9 i.toNat (-1)) U rfl,bs,y_,W8 e g]
 .rfl
 .intro i o r;rw[AQ a9,bs,show(i+1).toNat=i.toNat+1 by omega,v!]
end Go.Sf.Sc
namespace Go.Sf.Sc
open Go Go.Sf
structure nR(f:AM):Prop where
 nl:f.ea.length<=f.p.ca.length
 node:∀i:Int,0<=i->i<f.ea.length->(0<=AA f.ea i/\AA f.ea i<f.g.ca.length)/\AA (AA f.is (AA f.p.ca i)) (AA f.g.ca (AA f.ea i))=X
 edge:∀i:Int,0<=i->i<f.ec.length->(0<=AA f.ec i/\AA f.ec i<f.g.ci.length)/\AA f.g.ci (AA f.ec i)=⟨(AA f.p.ci i).kp,AA f.ea (AA f.p.ci i).kq,AA f.ea (AA f.p.ci i).To⟩
 inj:f.f0=X->f.ea.Nodup/\f.ec.Nodup
structure eJ(f:AM)(m:d4):Prop where
 nl:m.ca.length=f.p.ca.length
 el:m.ci.length=f.p.ci.length
 node:∀i:Int,0<=i->i<m.ca.length->(0<=AA m.ca i/\AA m.ca i<f.g.ca.length)/\AA (AA f.is (AA f.p.ca i)) (AA f.g.ca (AA m.ca i))=X
 edge:∀i:Int,0<=i->i<m.ci.length->(0<=AA m.ci i/\AA m.ci i<f.g.ci.length)/\AA f.g.ci (AA m.ci i)=⟨(AA f.p.ci i).kp,AA m.ca (AA f.p.ci i).kq,AA m.ca (AA f.p.ci i).To⟩
 inj:f.f0=X->m.ca.Nodup/\m.ci.Nodup
variable{i:Int}
theorem LX{α:Type}[Inhabited α](l:List α)(x:α)(h:i=l.length):AA (l++[x]) i=x:=by grind[M5]
variable{l:Fp}{k:Int}
theorem Ws{b:Bool}(h:(!(b&&l.any λx=>decide (k=x)))=X)(d:b=X)(e:l.Nodup):(l++[k]).Nodup:=l!
theorem X3:∀(n:Nat)(f:AM),nR f->f.ea.length=f.p.ca.length->f.ec.length+n=f.p.ci.length->∀m∈EM n f,eJ f m
 |0,f,j,z,he,m,d=>by
  rw [EM,List.mem_singleton]at d;subst d;exact⟨z,by simpa using he,j.node,j.edge,j.inj⟩
 |n+1,f,j,z,he,m,d=>by
  rw [EM,v?]at d;obtain⟨k,w,d⟩:=d;have w:=DW.1 w;split at d
  .rename_i o;unfold TF at o;rw[sx]at o;obtain⟨r,y⟩:=o;rw[Vz,sx,yk]at r;have:=X3 n {f with ec:=f.ec++[k]} ⟨j.nl,j.node,λi A u=>by
    have u:i<((f.ec++[k]).length:Int):=u;simp at u;show(0<=AA (f.ec++[k]) i/\AA (f.ec++[k]) i<f.g.ci.length)/\AA f.g.ci (AA (f.ec++[k]) i)=⟨(AA f.p.ci i).kp,AA f.ea (AA f.p.ci i).kq,AA f.ea (AA f.p.ci i).To⟩;by_cases e:i=f.ec.length
    .rw[LX _ _ e];exact⟨w,by rw[e];exact r.2⟩
    .rw[Kv _ _ A U];exact j.edge i A U,λhi=>⟨(j.inj hi).1,Ws y hi (j.inj hi).2⟩⟩ z (by show(f.ec++[k]).length+n=f.p.ci.length;rw[bk,w_];omega) m d
   exact ⟨this.nl,this.el,this.node,this.edge,this.inj⟩
  .cases d
theorem X4:∀(n:Nat)(f:AM),nR f->f.ec=[]->f.ea.length+n=f.p.ca.length->∀m∈GV n f,eJ f m
 |0,f,r,he,A,m,o=>by
  grind [GV,X3]
 |n+1,f,r,he,A,m,o=>by
  rw [GV,v?]at o;obtain⟨k,w,o⟩:=o;have w:=DW.1 w;split at o
  .rename_i j;unfold TG at j;rw[sx,sx]at j;obtain⟨⟨_,y⟩,z⟩:=j;have:=X4 n {f with ea:=f.ea++[k]} ⟨by show(f.ea++[k]).length<=f.p.ca.length;rw[bk,w_];omega,λi u d=>by
    have d:i<((f.ea++[k]).length:Int):=d;simp at d;show(0<=AA (f.ea++[k]) i/\AA (f.ea++[k]) i<f.g.ca.length)/\AA (AA f.is (AA f.p.ca i)) (AA f.g.ca (AA (f.ea++[k]) i))=X;by_cases e:i=f.ea.length
    .rw[LX _ _ e];exact⟨w,by rw[e];exact y⟩
    .rw[Kv _ _ u U];exact r.node i u U,λi u d=>by
    have d:i<(f.ec.length:Int):=d;rw[he]at d;have:i<(0:Nat):=d;omega,λhi=>⟨Ws z hi (r.inj hi).1,(r.inj hi).2⟩⟩ he (by show(f.ea++[k]).length+n=f.p.ca.length;rw[bk,w_];omega) m o
   exact ⟨this.nl,this.el,this.node,this.edge,this.inj⟩
  .cases o
variable{t:eb}{m:d4}
theorem WZ{p g:d3}{pa:d4}{inj:Bool}(e:m∈J6 t p g pa inj):eJ (FF t p g pa inj) m:=
 X4 _ (FF t p g pa inj) ⟨Nat.zero_le _,λi j d=>by have d:i<(0:Nat):=d;omega,λi j d=>by have d:i<(0:Nat):=d;omega,λ_=>⟨w!,w!⟩⟩ rfl (by show 0+p.ca.length=p.ca.length;omega) m (List.mem_of_mem_take e)
theorem aI{p g:d3}{pa:d4}{inj:Bool}(h:El t p g=0)(u:m∈J6 t p g pa inj):X2 t p g m:=by
 obtain ⟨hv,A,B,tp,w⟩:=Mx h;have:=WZ u;refine⟨this.nl,this.el,λi d e=>?_,λi d e=>(this.edge i d e).1⟩;obtain⟨j,r⟩:=this.node i d e;refine⟨j,?_⟩;have o:=this.nl;have y:=tp _ (AF (l:=p.ca) d (by show i<(p.ca.length:Int);have o:m.ca.length=p.ca.length:=o;omega));have z:=w _ (AF (l:=g.ca) j.1 j.2);have r:AA (AA (Ju t) (AA p.ca i)) (AA g.ca (AA m.ca i))=X:=r
 grind [AA,Ju,OF,HC,Ho]
theorem iG{p g:d3}{pa:d4}{inj:Bool}(h:El t p g=0)(r:m∈J6 t p g pa inj):Fa t p g m inj=0:=by
 have ok:=aI h r;have u:=WZ r;have w:Mn t p g m=0:=by
  unfold Mn;rw[az (by have:=ok.zf;have:=ok.zt;omega)];have y:fst (I7 t p g m) 0 m.ca.length=W:=by
   rw [Az];intro i d e;obtain⟨j,o⟩:=ok.node i d e
   grind [I7]
  have z:fst (Fg p g m) 0 m.ci.length=W:=by
   rw [Az];intro i d e;obtain⟨j,o⟩:=u.edge i d e;have j:0<=AA m.ci i/\AA m.ci i<g.ci.length:=j;have o:AA g.ci (AA m.ci i)=⟨(AA p.ci i).kp,AA m.ca (AA p.ci i).kq,AA m.ca (AA p.ci i).To⟩:=o
   grind [Fg]
  rw [y,z];rfl
 unfold Fa;rw[az (by simp[h]),az q?];cases inj
 .rfl
 .have:=u.inj rfl
  grind [HL,Jh]
theorem Z6{p g:d3}{pa:d4}{inj:Bool}(h:(SR t p g pa inj).2=0):(SR t p g pa inj).1.length<=5000/\∀m∈(SR t p g pa inj).1,X2 t p g m:=by grind[SR,aI]
structure V6(t:eb)(p:d7)(h:fl)(x:AO):Prop where
 q:TB t p
 m:X2 t p.d3 h.d3 x.d4
 len:(x.ff.length:Int)=p.ff
 small:Pn x.ff
structure gX(t:eb)(p:d7)(c:d5):Prop where
 q:TB t c.d7
 vars:p.ff<=c.d7.ff
 map:SH p.d3 c.d7.d3 c.Map
 inj:HL c.Map=X
def Da(t:eb)(c:d5)(h:fl)(m:AO)(inj:Bool):List AO×Int:=
 let x:=SR t c.d7.d3 h.d3 ⟨UR c.d7.d3.ca.length c.Map.ca m.d4.ca,UR c.d7.d3.ci.length c.Map.ci m.d4.ci⟩ inj
 if x.2≠0 then([],x.2)else((x.1.filter λy=>(Mt c.d7 h y m.ff).2).map λy=>⟨y,(Mt c.d7 h y m.ff).1⟩,0)
instance:Inhabited d4:=⟨⟨[],[]⟩⟩
instance:Inhabited AO:=⟨⟨default,[]⟩⟩
instance:Inhabited A1:=⟨⟨0,default,[]⟩⟩
theorem Rb{x:List d4}{F:d4->Fp×Bool}{f:Int->List AO->Option (List AO)}(o:x.length<=5000)
  (hf:∀(i:Int)(s:List AO),0<=i->i<x.length->s.length<=5000->f i s=Y (if(F (AA x i)).2=X then s++[⟨AA x i,(F (AA x i)).1⟩]else s)):
  ns f 0 (x.length:Int) []=Y ((x.filter λy=>(F y).2).map λy=>⟨y,(F y).1⟩):=by
 rw [BY (a:=0) (b:=x.length) (s:=[]) (λi=>((x.take i.toNat).filter λy=>(F y).2).map λy=>(⟨y,(F y).1⟩:AO)) U rfl,y_,List.take_length];intro i d e;have g:(((x.take i.toNat).filter λy=>(F y).2).map λy=>(⟨y,(F y).1⟩:AO)).length<=5000:=by
  grind
 rw [hf i _ d e g,Bb d e,List.filter_append,List.map_append];cases j:(F (AA x i)).2<;>simp[j]
variable{p:d7}{c:d5}
theorem r7{s:BI}{m:AO}(hf:Ai s.t)(hv:(As s.t).2=0)(hh:I2 s.t s.h)(o:V6 s.t p s.h m)(hi:gX s.t p c):B6 s c m=Y (Da s.t c s.h m s.f0):=by
 have C:=hi.q.g.ea;have ge:=hi.q.g.ec;have m1:=hi.map.zf;have D:=hi.map.zt;have E:=o.m.zf;have G:=o.m.zt;unfold B6 Da;rw[aq U (λx j=>by obtain⟨i,d,e,rfl⟩:=BR j;exact(hi.map.node i d e).1) U,bs,
  aq U (λx j=>by obtain⟨i,d,e,rfl⟩:=BR j;exact(hi.map.edge i d e).1) U,bs,lU hf,bs]
 dsimp only;refine CL λr=>?_;obtain⟨z,A⟩:=Z6 r;rw[Rb (F:=λy=>Mt c.d7 s.h y m.ff) z]
 .rfl
 .intro i st d e B;have u:=A _ (AF d e);have w:(m.ff.length:Int)<=c.d7.ff:=by have:=o.len;have:=hi.vars;omega
  rw [AC d e,bs,sL hi.q (λx j=>Ol (C6 hv) hi.q hh u j) w o.small,bs,<-JF]
  grind [AQ,AU]
variable{h:fl}
theorem sV{inj:Bool}{m:AO}(hf:Ai t)(hv:(As t).2=0)(hh:I2 t h)(o:V6 t p h m)(hi:gX t p c):HP t c h m inj=Y (Da t c h m inj):=by
 have C:=hi.q.g.ea;have ge:=hi.q.g.ec;have m1:=hi.map.zf;have D:=hi.map.zt;have E:=o.m.zf;have G:=o.m.zt;unfold HP Da;rw[bC U (λx j=>by obtain⟨i,d,e,rfl⟩:=BR j;exact(hi.map.node i d e).1) U,bs,
  bC U (λx j=>by obtain⟨i,d,e,rfl⟩:=BR j;exact(hi.map.edge i d e).1) U,bs,lu hf,bs]
 dsimp only;refine CL λr=>?_;obtain⟨z,A⟩:=Z6 r;rw[Rb (F:=λy=>Mt c.d7 h y m.ff) z]
 .rfl
 .intro i st d e B;have u:=A _ (AF d e);have w:(m.ff.length:Int)<=c.d7.ff:=by have:=o.len;have:=hi.vars;omega
  rw [AC d e,bs,sj hi.q (λx j=>Ol (C6 hv) hi.q hh u j) w o.small,bs,<-JF]
  grind [AQ,AU]
theorem cy{inj:Bool}{m:AO}(hv:(As t).2=0)(hh:I2 t h)(j:V6 t p h m)(hi:gX t p c)(e:(Da t c h m inj).2=0):(Da t c h m inj).1.length<=5000/\∀x∈(Da t c h m inj).1,V6 t c.d7 h x:=by
 unfold Da at e|-;dsimp only at e|-;split at e
 .grind
 rename_i o;rw[az o];obtain⟨w,z⟩:=Z6 (w?.1 o);refine⟨by dsimp only;rw[c8];exact Nat.le_trans (List.length_filter_le _ _) w,λx d=>?_⟩;dsimp only at d;rw[List.mem_map]at d;obtain⟨y,g,rfl⟩:=d;rw[List.mem_filter]at g;have r:=z y g.1;have u:(m.ff.length:Int)<=c.d7.ff:=by have:=j.len;have:=hi.vars;omega
 have:=nM hi.q (λx d=>Ol (C6 hv) hi.q hh r d) u j.small g.2;exact⟨hi.q,r,this.1,this.2⟩
end Go.Sf.Sc
namespace Go.Sf.Sc
open Go Go.Sf
inductive CV(t:eb):d7->d5->Prop where
 |mk (p:d7) (c:d5) (few:c.gl.length<=40) (rng:1<=c.l3/\c.l3<=5) (one:c.l3=2\/c.l3=5->c.gl.length=1) (ins:c.l3=5->gX t p c) (kids:∀k∈c.gl,CV t (if c.l3=5 then c.d7 else p) k):CV t p c
variable{t:eb}{p:d7}{c:d5}
theorem CV.few(h:CV t p c):c.gl.length<=40:=i_
theorem CV.rng(h:CV t p c):1<=c.l3/\c.l3<=5:=i_
theorem CV.one(h:CV t p c):c.l3=2\/c.l3=5->c.gl.length=1:=i_
theorem CV.ins(h:CV t p c):c.l3=5->gX t p c:=i_
theorem CV.kids(h:CV t p c):∀k∈c.gl,CV t (if c.l3=5 then c.d7 else p) k:=i_
theorem CV.kid(h:CV t p c)(d:¬c.l3=5):∀k∈c.gl,CV t p k:=λk e=>by have:=h.kids k e;rwa[az d]at this
theorem CV.kid5(h:CV t p c)(d:c.l3=5):∀k∈c.gl,CV t c.d7 k:=λk e=>by have:=h.kids k e;rwa[ae d]at this
theorem Tx:∀l:List d5,l.length<=RY l
 |[]=>by simp|c::l=>by
  have:=Tx l
  grind [RY,EN,Ty,c7]
variable{q:d7}{v:Int}
theorem vQ(hv:(As t).2=0)(h:Rc t q v=0):TB t q:=by grind[Rc,lg]
theorem nY(hv:(As t).2=0):∀(N:Nat)(c:d5)(p:d7),SizeOf.sizeOf c<=N->EN c<=40->SE N c=X->Hm N t p c=0->CV t p c
 |0,c,_,h,_,_,_=>by have:=DP c;omega|N+1,c,p,h,M,z,ho=>by
  have E:=Ty c;have F:=Tx c.gl;rw[SE,sx]at z;obtain⟨u,o⟩:=z;have d:c.l3=2\/c.l3=5->c.gl.length=1:=by
   intro j;unfold SX at u
   grind
  have g:1<=c.l3/\c.l3<=5:=by
   grind [SX]
  have w:∀q,(fst (λi=>nz (Hm N t q (AA c.gl i))) 0 c.gl.length).getD 0=0->∀k∈c.gl,CV t q k:=by
   intro q A k j;have G:=Wb A;have K:=Ve j;have L:=EE j;rw[List.all_eq_true]at o;obtain⟨i,H,I,e⟩:=BR j;have y:=G i H I;rw[e]at y;exact nY hv N k q U U (o k j) y
  rw [Hm]at ho;by_cases r:c.l3=5
  .rw[ae r]at ho;split at ho
   .cases ho
   rename_i J;split at ho
   .grind
   rename_i B;split at ho
   .grind
   rename_i C;split at ho
   .cases ho
   rename_i D;refine CV.mk p c U g d (λ_=>⟨vQ hv (w?.1 B),U,U0 (w?.1 C),t9⟩) ?_
   grind
  .rw[az r]at ho;refine CV.mk p c U g d (λe=>absurd e r) ?_
   grind
section
variable{α σ ρ:Type}
variable{f:Int->σ->Option (Be σ ρ)}
theorem TE[Inhabited α]{l:List α}(step:α->σ->Be σ ρ)(I:Int->σ->Prop)(h:∀(i:Int)s,0<=i->i<l.length->I i s->f i s=Y (step (AA l i) s)/\∀s',step (AA l i) s=.next s'->I (i+1) s'):
  ∀(n:Nat)(a:Int)(s:σ),0<=a->a+n=l.length->I a s->yf f n a s=Y (Dz step (l.drop a.toNat) s)
 |0,a,s,d,o,_=>by
  rw [v1 U];rfl
 |n+1,a,s,d,o,u=>by
  obtain ⟨g,j⟩:=h a s d U u;have hd:l.drop a.toNat=AA l a::l.drop (a+1).toNat:=by
   grind [v5,AA,v6]
  rw [EW,g,hd,Dz];cases e:step (AA l a) s with
  |next s'=>
   simp only;exact TE step I h n (a+1) s' U U (j s' e)
  |brk s'=>rfl|ret r=>rfl
theorem WY[Inhabited α]{l:List α}(step:α->σ->Be σ ρ)(I:Int->σ->Prop){s:σ}(d:I 0 s)(h:∀(i:Int)s,0<=i->i<l.length->I i s->f i s=Y (step (AA l i) s)/\∀s',step (AA l i) s=.next s'->I (i+1) s'):
  kl f 0 l.length s=Y (Dz step l s):=by
 have:=TE step I h l.length 0 s U U d;unfold kl;rw[show((l.length:Int)-0).toNat=l.length by omega];exact this
theorem XK{d s2:α->σ->Be σ ρ}:∀{l:List α}{s:σ},(∀a∈l,d a=s2 a)->Dz d l s=Dz s2 l s
 |[],_,_=>rfl|a::l,s,h=>by
  rw [Dz,Dz,h a V];split
  .exact XK λb e=>h b c!
  .rfl
  .rfl
end
abbrev zM:AO:=⟨⟨[],[]⟩,[]⟩
abbrev zP:A1:=⟨0,zM,[]⟩
def NR(w:d5->A1×Int)(k:d5)(s:A1×A1):Be (A1×A1) (A1×Int):=
 if (w k).2≠0 then .ret (zP,(w k).2)else .next (s.1,⟨s.2.zg,s.2.n8,s.2.gl++[(w k).1]⟩)
def Tr(w:d5->A1×Int)(l:List d5):A1×Int:=
 match Dz (NR w) l (zP,zP)with
 |.inl s=>(s.2,0)|.inr r=>r
def Ci(t:eb)(h:fl)(inj:Bool):Nat->d5->AO->A1×Int
 |0,_,_=>(zP,0)|N+1,c,m=>
  if c.l3=2 then(if(Ci t h inj N (AA c.gl 0) m).2=0 then(zP,10)else if(Ci t h inj N (AA c.gl 0) m).2=10 then(zP,0)else(zP,(Ci t h inj N (AA c.gl 0) m).2))else
  if c.l3=3 then Tr (λk=>Ci t h inj N k m) c.gl else
  if c.l3=4 then(fst (λi=>if(Ci t h inj N (AA c.gl i) m).2=0 then Y (⟨i,zM,[(Ci t h inj N (AA c.gl i) m).1]⟩,0)else if(Ci t h inj N (AA c.gl i) m).2≠10 then Y (zP,(Ci t h inj N (AA c.gl i) m).2)else W) 0 c.gl.length).getD (zP,10)else
  if c.l3=5 then
   (if(Da t c h m inj).2≠0 then(zP,(Da t c h m inj).2)else
   (fst (λi=>if(Ci t h inj N (AA c.gl 0) (AA (Da t c h m inj).1 i)).2=0 then Y (⟨0,AA (Da t c h m inj).1 i,[(Ci t h inj N (AA c.gl 0) (AA (Da t c h m inj).1 i)).1]⟩,0)else
    if (Ci t h inj N (AA c.gl 0) (AA (Da t c h m inj).1 i)).2≠10 then Y (zP,(Ci t h inj N (AA c.gl 0) (AA (Da t c h m inj).1 i)).2)else W) 0 (Da t c h m inj).1.length).getD (zP,10))else
  (zP,0)
def Ch(t:eb)(h:fl)(inj:Bool):Nat->d5->AO->A1×Int
 |0,_,_=>(zP,0)|N+1,c,m=>
  if c.l3=2 then(if(Ch t h inj N (AA c.gl 0) m).2=0 then(zP,10)else if(Ch t h inj N (AA c.gl 0) m).2=10 then(zP,0)else(zP,(Ch t h inj N (AA c.gl 0) m).2))else
  if c.l3=3 then Tr (λk=>Ch t h inj N k m) c.gl else
  if c.l3=4 then(fst (λi=>if(Ch t h inj N (AA c.gl i) m).2≠10 then Y (⟨i,zM,[(Ch t h inj N (AA c.gl i) m).1]⟩,(Ch t h inj N (AA c.gl i) m).2)else W) 0 c.gl.length).getD (zP,10)else
  if c.l3=5 then
   (if(Da t c h m inj).2≠0 then(zP,(Da t c h m inj).2)else
   (fst (λi=>if(Ch t h inj N (AA c.gl 0) (AA (Da t c h m inj).1 i)).2≠10 then Y (⟨0,AA (Da t c h m inj).1 i,[(Ch t h inj N (AA c.gl 0) (AA (Da t c h m inj).1 i)).1]⟩,(Ch t h inj N (AA c.gl 0) (AA (Da t c h m inj).1 i)).2)else W) 0 (Da t c h m inj).1.length).getD (zP,10))else
  (zP,0)
def L3(x:A1×Int):A1×Int:=if x.2=0 then x else(zP,x.2)
theorem iY(x:A1×Int):(L3 x).2=x.2:=by unfold L3;split<;>rfl
theorem iX{x:A1×Int}(h:x.2=0):(L3 x).1=x.1:=by unfold L3;rw[ae h]
theorem kT(w:d5->A1×Int)(l:List d5):L3 (Tr w l)=Tr w l:=by
 unfold Tr;have:∀(l:List d5)(s:A1×A1)(r:A1×Int),Dz (NR w) l s=.inr r->L3 r=r:=by
  intro l
  induction l with
  |nil=>intro s r h;cases h
  |cons a l j=>
   intro s r h;rw[Dz]at h;split at h
   .exact j _ _ h
   .cases h
   .rename_i o d;cases h;unfold NR at d;split at d
    next e=>cases d;unfold L3;rw[az e]
    .cases d
 cases g:Dz (NR w) l (zP,zP)with
 |inl s=>rfl|inr r=>exact this _ _ _ g
theorem YP(o:Option (A1×Int)):L3 (o.getD (zP,10))=(o.map L3).getD (zP,10):=by cases o<;>rfl
theorem eE(t:eb)(h:fl)(inj:Bool):∀(N:Nat)(c:d5)(m:AO),Ci t h inj N c m=L3 (Ch t h inj N c m)
 |0,_,_=>rfl|N+1,c,m=>by
  have w:=eE t h inj N;have key:∀(c:d5)(m:AO),(Ci t h inj N c m).2=(Ch t h inj N c m).2:=λc m=>by rw[w,iY]
  have pick:∀(k:d5)(m x:AO)(i:Int),(if(Ci t h inj N k m).2=0 then Y ((⟨i,x,[(Ci t h inj N k m).1]⟩:A1),(0:Int))else if(Ci t h inj N k m).2≠10 then Y (zP,(Ci t h inj N k m).2)else W)=(if(Ch t h inj N k m).2≠10 then Y ((⟨i,x,[(Ch t h inj N k m).1]⟩:A1),(Ch t h inj N k m).2)else W).map L3:=by
   intro k m x i;rw[key];by_cases d:(Ch t h inj N k m).2=0
   .rw[ae d,ae U,w,iX d];simp[L3,d]
   .rw[az d];by_cases e:(Ch t h inj N k m).2≠10
    .rw[ae e,ae e];simp[L3,d]
    grind
  rw [Ci,Ch];by_cases j:c.l3=2
  .rw[ae j,ae j,key];by_cases d:(Ch t h inj N (AA c.gl 0) m).2=0
   .rw[ae d];rfl
   .rw[az d];by_cases e:(Ch t h inj N (AA c.gl 0) m).2=10
    .rw[ae e];rfl
    .rw[az e];unfold L3;rw[az d]
  rw [az j,az j];by_cases o:c.l3=3
  .rw[ae o,ae o,kT];unfold Tr;rw[XK (s2:=NR λk=>Ch t h inj N k m)];intro k _;funext s;unfold NR;simp only[key];by_cases d:(Ch t h inj N k m).2=0
   .rw[az (by simp[d]),az (by simp[d]),w,iX d]
   .rw[ae d,ae d]
  rw [az o,az o];by_cases r:c.l3=4
  .rw[ae r,ae r,YP,<-QS];congr 1;exact congrArg (λF=>fst F 0 (c.gl.length:Int)) (funext λi=>pick _ _ _ _)
  rw [az r,az r];by_cases u:c.l3=5
  .rw[ae u,ae u];by_cases g:(Da t c h m inj).2≠0
   .rw[ae g,ae g];unfold L3;rw[az g]
   .rw[az g,az g,YP,<-QS];congr 1;exact congrArg (λF=>fst F 0 ((Da t c h m inj).1.length:Int)) (funext λi=>pick _ _ _ _)
  rw [az u,az u];rfl
end Go.Sf.Sc
namespace Go.Sf.Sc
open Go Go.Sf
def RB(i:Int)(s:A1×A1):Prop:=(s.2.gl.length:Int)=i
theorem W5{s:BI}(hf:Ai s.t)(hv:(As s.t).2=0)(hh:I2 s.t s.h):∀(N:Nat)(c:d5)(p:d7)(m:AO),SizeOf.sizeOf c<=N->CV s.t p c->V6 s.t p s.h m->∀n,2*N<=n->Am n s c m=Y (Ci s.t s.h s.f0 N c m)
 |0,c,_,_,h,_,_,_,_=>by have:=DP c;omega|N+1,c,p,m,h,o,y,n,E=>by
  obtain ⟨n,rfl⟩:∃k,n=k+2:=⟨n-2,U⟩;have kid:∀(i:Int),0<=i->i<c.gl.length->SizeOf.sizeOf (AA c.gl i)<=N:=λi d e=>by
   have:=EE (AF (l:=c.gl) d e);omega
  rw [Am,Ci];by_cases r:c.l3=2
  .have D:=o.one (.inl r);rw[ae l_,ae r,AC U U,bs,W5 hf hv hh N _ p m (kid 0 U U) (o.kid U _ (AF U U)) y (n+1) U,bs]
   grind
  rw [az l_,az r];by_cases z:c.l3=3
  .rw[ae p_,ae z];have B:=o.few;rw[WY (NR λk=>Ci s.t s.h s.f0 N k m) RB (show RB 0 (zP,zP)from rfl)]
   .unfold Tr;show ek (Y (Dz (NR λk=>Ci s.t s.h s.f0 N k m) c.gl (zP,zP))) _ _=_;cases Dz (NR λk=>Ci s.t s.h s.f0 N k m) c.gl (zP,zP)<;>rfl
   .intro i st d e hi;unfold RB at hi;rw[AC d e,bs,W5 hf hv hh N _ p m (kid i d e) (o.kid U _ (AF d e)) y (n+1) U,bs]
    grind [NR,Ci,AA,AQ,AU,RB]
  rw [az p_,az z];by_cases A:c.l3=4
  .rw[ae p!,ae A];rw[JC (λ_=>zP) (λi=>if(Ci s.t s.h s.f0 N (AA c.gl i) m).2=0 then Y (⟨i,zM,[(Ci s.t s.h s.f0 N (AA c.gl i) m).1]⟩,0)else if(Ci s.t s.h s.f0 N (AA c.gl i) m).2≠10 then Y (zP,(Ci s.t s.h s.f0 N (AA c.gl i) m).2)else W) U rfl]
   .cases fst (λi=>if(Ci s.t s.h s.f0 N (AA c.gl i) m).2=0 then Y ((⟨i,zM,[(Ci s.t s.h s.f0 N (AA c.gl i) m).1]⟩:A1),(0:Int))else if(Ci s.t s.h s.f0 N (AA c.gl i) m).2≠10 then Y (zP,(Ci s.t s.h s.f0 N (AA c.gl i) m).2)else W) 0 c.gl.length<;>rfl
   .intro i d e _;rw[AC d e,bs,W5 hf hv hh N _ p m (kid i d e) (o.kid U _ (AF d e)) y (n+1) U,bs];generalize Ci s.t s.h s.f0 N (AA c.gl i) m=x;by_cases j:x.2=0
    .rw[ae d?,ae j];try rfl
    .rw[az d?,az j];by_cases g:x.2=10
     .rw[az n!,az n!];try rfl
     .rw[ae n!,ae g];try rfl
  rw [az p!,az A];by_cases u:c.l3=5
  .rw[ae g!,ae u];have hi:=o.ins u;have D:=o.one (.inr u);rw[BG,r7 hf hv hh y hi,bs];by_cases w:(Da s.t c s.h m s.f0).2=0
   .obtain⟨g,C⟩:=cy hv hh y hi w;rw[az q?,az q?];generalize (Da s.t c s.h m s.f0).1=l at g C;rw[JC (λ_=>zP) (λi=>if(Ci s.t s.h s.f0 N (AA c.gl 0) (AA l i)).2=0 then Y (⟨0,AA l i,[(Ci s.t s.h s.f0 N (AA c.gl 0) (AA l i)).1]⟩,0)else if(Ci s.t s.h s.f0 N (AA c.gl 0) (AA l i)).2≠10 then Y (zP,(Ci s.t s.h s.f0 N (AA c.gl 0) (AA l i)).2)else W) U rfl]
    .cases fst (λi=>if(Ci s.t s.h s.f0 N (AA c.gl 0) (AA l i)).2=0 then Y ((⟨0,AA l i,[(Ci s.t s.h s.f0 N (AA c.gl 0) (AA l i)).1]⟩:A1),(0:Int))else if(Ci s.t s.h s.f0 N (AA c.gl 0) (AA l i)).2≠10 then Y (zP,(Ci s.t s.h s.f0 N (AA c.gl 0) (AA l i)).2)else W) 0 l.length<;>rfl
    .intro i d e _;rw[AC d e,bs,AC U U,bs,W5 hf hv hh N _ c.d7 _ (kid 0 U U) (o.kid5 u _ (AF U U)) (C _ (AF d e)) n U,bs];generalize Ci s.t s.h s.f0 N (AA c.gl 0) (AA l i)=x;by_cases j:x.2=0
     .rw[ae d?,ae j];try rfl
     .rw[az d?,az j];by_cases g:x.2=10
      .rw[az n!,az n!];try rfl
      .rw[ae n!,ae g];try rfl
   .rw[ae q?,ae w];try rfl
  grind
variable{t:eb}
theorem R4{d:fl}{inj:Bool}(hf:Ai t)(hv:(As t).2=0)(hh:I2 t d):∀(N:Nat)(c:d5)(p:d7)(m:AO),SizeOf.sizeOf c<=N->CV t p c->V6 t p d m->∀n,N<=n->Dq n t c d m inj=Y (Ch t d inj N c m)
 |0,c,_,_,h,_,_,_,_=>by have:=DP c;omega|N+1,c,p,m,h,o,w,n,E=>by
  obtain ⟨n,rfl⟩:∃k,n=k+1:=⟨n-1,U⟩;have kid:∀(i:Int),0<=i->i<c.gl.length->SizeOf.sizeOf (AA c.gl i)<=N:=λi e g=>by
   have:=EE (AF (l:=c.gl) e g);omega
  rw [Dq,Ch];by_cases r:c.l3=2
  .have D:=o.one (.inl r);rw[ae l_,ae r,AC U U,bs,R4 hf hv hh N _ p m (kid 0 U U) (o.kid U _ (AF U U)) w n U,bs]
   grind
  rw [az l_,az r];by_cases y:c.l3=3
  .rw[ae k_,ae y];have B:=o.few;rw[WY (NR λk=>Ch t d inj N k m) RB (show RB 0 (zP,zP)from rfl)]
   .unfold Tr;show ek (Y (Dz (NR λk=>Ch t d inj N k m) c.gl (zP,zP))) _ _=_;cases Dz (NR λk=>Ch t d inj N k m) c.gl (zP,zP)<;>rfl
   .intro i st e g hi;unfold RB at hi;rw[AC e g,bs,R4 hf hv hh N _ p m (kid i e g) (o.kid U _ (AF e g)) w n U,bs]
    grind [NR,Ch,AA,AQ,AU,RB]
  rw [az k_,az y];by_cases z:c.l3=4
  .rw[ae p_,ae z];rw[JC (λ_=>zP) (λi=>if(Ch t d inj N (AA c.gl i) m).2≠10 then Y (⟨i,zM,[(Ch t d inj N (AA c.gl i) m).1]⟩,(Ch t d inj N (AA c.gl i) m).2)else W) U rfl]
   .cases fst (λi=>if(Ch t d inj N (AA c.gl i) m).2≠10 then Y ((⟨i,zM,[(Ch t d inj N (AA c.gl i) m).1]⟩:A1),(Ch t d inj N (AA c.gl i) m).2)else W) 0 c.gl.length<;>rfl
   .intro i e g _;rw[AC e g,bs,R4 hf hv hh N _ p m (kid i e g) (o.kid U _ (AF e g)) w n U,bs];generalize Ch t d inj N (AA c.gl i) m=x;by_cases j:x.2=10
    .rw[az h?,az h?];try rfl
    .rw[ae h?,ae j];try rfl
  rw [az p_,az z];by_cases u:c.l3=5
  .rw[ae g!,ae u];have hi:=o.ins u;have D:=o.one (.inr u);rw[sV hf hv hh w hi,bs];by_cases A:(Da t c d m inj).2=0
   .obtain⟨j,C⟩:=cy hv hh w hi A;rw[az (by simp[A]),az (by simp[A])];generalize (Da t c d m inj).1=l at j C;rw[JC (λ_=>zP) (λi=>if(Ch t d inj N (AA c.gl 0) (AA l i)).2≠10 then Y (⟨0,AA l i,[(Ch t d inj N (AA c.gl 0) (AA l i)).1]⟩,(Ch t d inj N (AA c.gl 0) (AA l i)).2)else W) U rfl]
    .cases fst (λi=>if(Ch t d inj N (AA c.gl 0) (AA l i)).2≠10 then Y ((⟨0,AA l i,[(Ch t d inj N (AA c.gl 0) (AA l i)).1]⟩:A1),(Ch t d inj N (AA c.gl 0) (AA l i)).2)else W) 0 l.length<;>rfl
    .intro i e g _;rw[AC U U,bs,AC e g,bs,R4 hf hv hh N _ c.d7 _ (kid 0 U U) (o.kid5 u _ (AF U U)) (C _ (AF e g)) n U,bs];generalize Ch t d inj N (AA c.gl 0) (AA l i)=x;by_cases j:x.2=10
     .rw[az h?,az h?];try rfl
     .rw[ae h?,ae j];try rfl
   grind
  grind
end Go.Sf.Sc
namespace Go.Sf.Sc
open Go Go.Sf
noncomputable def Tv(t:eb)(p:d7)(c:d5)(h:fl)(m:AO)(inj:Bool):Int:=
 if ID t p c≠0 then ID t p c else if(E9 t h).2≠0 then(E9 t h).2 else if Fa t p.d3 h.d3 m.d4 inj≠0 then Fa t p.d3 h.d3 m.d4 inj else
 if (Fc t p h m.d4).2≠0 then(Fc t p h m.d4).2 else if(Fc t p h m.d4).1=m.ff then 0 else 11
variable{t:eb}{c:d5}
theorem lR(hf:Ai t)(p:d7)(d:De c)(h:fl)(m:AO)(inj:Bool):E7 t p c h m inj=Y (Tv t p c h m inj):=by
 unfold E7 Tv;rw[pB hf p d,bs];refine DN λ_=>?_;rw[Wy hf,bs];refine DN λ_=>?_;rw[Xn hf,bs];refine DN λ_=>?_;rw[dO hf,bs];refine DN λ_=>?_;rw[nt,bs]
 grind
variable{p:d7}{h:fl}
theorem WQ(hf:Ai t)(z:EN c<=40){m:AO}{inj:Bool}(e:Tv t p c h m inj=0):(As t).2=0/\I2 t h/\CV t p c/\V6 t p h m:=by
 unfold Tv at e;split at e
 .grind
 rename_i d;split at e
 .grind
 rename_i j;split at e
 .grind
 rename_i o;split at e
 .grind
 rename_i r;split at e
 case isFalse=>cases e
 rename_i C;have d:=w?.1 d;have j:=w?.1 j;have o:=w?.1 o;have r:=w?.1 r;obtain⟨hv,hh⟩:=Uy hf j;have w:=(Zx o).2;unfold ID at d;split at d
 .grind
 rename_i A;split at d
 .grind
 rename_i u;have y:=lg hv (.inl (w?.1 A));have u:=w?.1 u;have B:eA c=X:=by
  grind [LQ]
 suffices g:(m.ff.length:Int)=p.ff/\Pn m.ff from⟨hv,hh,nY hv _ c p (b6 _) z B d,y,w,g.1,g.2⟩
 have g:∀s∈p.ed,I4 p.ff h m.d4 s:=λs g=>Ol (C6 hv) y hh w g
 grind [Fc,jn]
end Go.Sf.Sc
namespace Go.Sf.Sc
open Go Go.Sf
def QU:Nat->d5->Bool
 |0,_=>X|N+1,c=>if nd (λi=>!QU N (AA c.gl i)) 0 c.gl.length=X then T else decide (AH ((c.d7.d3.ca.length:Int)+c.d7.d3.ci.length)<=6)
theorem Yt:∀(N:Nat)(c:d5),SizeOf.sizeOf c<=N->∀n,N<=n->FW n c=Y (QU N c)
 |0,c,h,_,_=>by have:=DP c;omega|N+1,c,h,n,g=>by
  obtain ⟨n,rfl⟩:∃k,n=k+1:=⟨n-1,U⟩;rw[FW,QU,BT (λi=>!QU N (AA c.gl i)) T]
  .cases nd (λi=>!QU N (AA c.gl i)) 0 c.gl.length<;>rfl
  .intro i d e _;have:=EE (AF (l:=c.gl) d e);rw[AC d e,bs,Yt N _ U n U,bs,JF]
theorem l5(c:d5):Qt c=Y (QU (SizeOf.sizeOf c) c):=D3 (SizeOf.sizeOf c) λn d=>Yt _ c (b6 _) n d
def UJ(a:Int):Nat->Int->Int
 |0,s=>s|k+1,s=>AH (UJ a k s*a)
theorem nw{a b k s:Int}(g:0<=k)(e:k<=1000)(j:b<=1000):CY (ρ:=Bool) (λ(d:Int×Int)=>
  if (decide (d.2<b))=X then
  Y (.next (AH (d.1*a),AH (d.2+1)))
  else
  Y (.brk (d.1,d.2))) (s,k)=Y (.inl (UJ a (max k b-k).toNat s,max k b)):=by
 refine OO (λi=>UJ a (i-k).toNat s) U (by rw[show(k-k).toNat=0 by omega];rfl) (λi o r=>?_) ?_
 .rw[ae an,show(i+1-k).toNat=(i-k).toNat+1 by omega,UJ];dsimp only;rw[AV (n:=i+1) U U]
 .rw[az an]
def Qh(a b:Int):Nat->d7->d5->Bool
 |0,_,_=>X|N+1,p,c=>
  let q:=if c.l3=5 then c.d7 else p
  if nd (λi=>!Qh a b N q (AA c.gl i)) 0 c.gl.length=X then T else
  decide (UJ b (max (p.d3.ci.length:Int) q.d3.ci.length-p.d3.ci.length).toNat (UJ a (max (p.d3.ca.length:Int) q.d3.ca.length-p.d3.ca.length).toNat 1)<=5000)
theorem a8(a b:Int):∀(N:Nat)(c:d5)(p:d7),SizeOf.sizeOf c<=N->De c->OV p->∀n,N<=n->Dy n p c a b=Y (Qh a b N p c)
 |0,c,_,h,_,_,_,_=>by have:=DP c;omega|N+1,c,p,h,g,z,n,K=>by
  obtain ⟨n,rfl⟩:∃k,n=k+1:=⟨n-1,U⟩;have E:=g.q.ea;have F:=g.q.ec;have G:=z.ea;have H:=z.ec;have e:∀q:d7,OV q->(ek (CY (ρ:=Bool) (λ(d:Int×Int)=>
    if (decide (d.2<(q.d3.ca.length:Int)))=X then
    Y (.next (AH (d.1*a),AH (d.2+1)))
    else
    Y (.brk (d.1,d.2))) (1,(p.d3.ca.length:Int))) (λd=>
    ek (CY (ρ:=Bool) (λ(s2:Int×Int)=>
    if (decide (s2.2<(q.d3.ci.length:Int)))=X then
    Y (.next (AH (s2.1*b),AH (s2.2+1)))
    else
    Y (.brk (s2.1,s2.2))) (d.1,(p.d3.ci.length:Int))) (λs2=>
    ek (kl (ρ:=Bool) (λ(A:Int)(_:Unit)=>
    (idx c.gl A).bind λj=>
    (Dy n q j a b).bind λo=>
    if (!o)=X then
    Y (.ret T)
    else
    Y (.next ())) 0 (c.gl.length:Int) ()) (λ_=>
    Y (decide (s2.1<=5000))) (λB=>Y B)) (λC=>Y C)) (λD=>Y D))=
    Y (if nd (λi=>!Qh a b N q (AA c.gl i)) 0 c.gl.length=X then T else
     decide (UJ b (max (p.d3.ci.length:Int) q.d3.ci.length-p.d3.ci.length).toNat (UJ a (max (p.d3.ca.length:Int) q.d3.ca.length-p.d3.ca.length).toNat 1)<=5000)):=by
   intro q r;have I:=r.ea;have J:=r.ec;rw[nw U U U,Bc];dsimp only;rw[nw U U U,Bc,BT (λi=>!Qh a b N q (AA c.gl i)) T]
   .cases nd (λi=>!Qh a b N q (AA c.gl i)) 0 c.gl.length<;>rfl
   .intro i u w _;have:=EE (AF (l:=c.gl) u w);rw[AC u w,bs,a8 a b N _ q U (g.k _ (AF u w)) r n U,bs,JF]
  rw [Dy,Qh];by_cases y:c.l3=5
  .rw[ae k_,ae y,bs,e _ g.q]
  grind
variable{c:d5}{p:d7}
theorem jE(a b:Int)(d:De c)(e:OV p):Pv p c a b=Y (Qh a b (SizeOf.sizeOf c) p c):=D3 (SizeOf.sizeOf c) λn g=>a8 a b _ c p (b6 _) d e n g
theorem Z7(h:fl):∃b,LC h=Y b:=by
 unfold LC JW;rw[bs];split
 .exact⟨_,rfl⟩
 .rw[BT (λi=>decide (12<((AA h.em i).length:Int))) T]
  .cases nd (λi=>decide (12<((AA h.em i).length:Int))) 0 h.em.length
   .exact⟨X,rfl⟩
   .exact⟨T,rfl⟩
  .intro i d e _;rw[AC d e,bs,JF]
variable{t:eb}
theorem jJ(hf:Ai t)(st:(AJ t).Sm)(p g:d3):∃b,MH t p g=Y b:=by
 obtain ⟨b,e,_⟩:=T6 st;unfold MH JW;rw[e,bs,Ss hf]
 grind
theorem jK(hf:Ai t)(st:(AJ t).Sm)(p:d7)(w:(AI c).Sm)(h:fl):∃b,ML t p c h=Y b/\(b=X->De c/\EN c<=40/\OV p):=by
 obtain ⟨y,z,A⟩:=iA w;obtain⟨B,r,C⟩:=Rw p;obtain⟨D,u⟩:=Z7 h;unfold ML;rw[z,bs];cases y
 .exact⟨T,rfl,λh=>c?⟩
 rw [r];cases B
 .exact⟨T,rfl,λh=>c?⟩
 rw [u];cases D
 .exact⟨T,rfl,λh=>c?⟩
 have g:=A rfl;have j:=C rfl;simp only[bs,Bool.not_true,x?,if_false];rw[jG hf p g.1,bs];have d:∀o:K1,(∃b,o=Y b)->∃b,o=Y b/\(b=X->De c/\EN c<=40/\OV p):=λo⟨b,e⟩=>⟨b,e,λ_=>⟨g.1,g.2,j⟩⟩;refine d _ ?_;split
 .exact⟨X,rfl⟩
 .obtain⟨E,F⟩:=jJ hf st p.d3 h.d3;unfold PE;rw[r,u,F,l5,jE 14 18 g.1 j];simp only[bs,if_true];cases E<;>simp only[x?,if_false,if_true,bs,Bool.false_and]
  .exact⟨_,rfl⟩
  .split
   .exact⟨_,rfl⟩
   .exact⟨_,rfl⟩
noncomputable def wS(t:eb)(p:d7)(c:d5)(h:fl)(m:AO)(inj:Bool):A1×Int:=
 if Tv t p c h m inj≠0 then(zP,Tv t p c h m inj)else Ci t h inj (SizeOf.sizeOf c) c m
theorem iz(hf:Ai t)(p:d7)(e:De c)(g:EN c<=40)(h:fl)(m:AO)(inj:Bool):D9 t p c h m inj=Y (wS t p c h m inj):=by
 unfold D9 wS;rw[lR hf p e,bs];refine CL λj=>?_;obtain⟨hv,hh,d,r⟩:=WQ hf g j;rw[show Eu (BI.mk t h inj) c m=Y (Ci t h inj (SizeOf.sizeOf c) c m)from D3 (2*SizeOf.sizeOf c) λn o=>W5 (s:=⟨t,h,inj⟩) hf hv hh _ c p m (b6 _) d r n o];rfl
noncomputable def M0(t:eb)(p:d7)(c:d5)(h:fl)(m:AO)(inj:Bool):Bool×Int:=
 if (wS t p c h m inj).2=10 then(T,0)else(decide ((wS t p c h m inj).2=0),(wS t p c h m inj).2)
theorem cO(hf:Ai t)(p:d7)(d:De c)(e:EN c<=40)(h:fl)(m:AO)(inj:Bool):DR t p c h m inj=Y (M0 t p c h m inj):=by grind[DR,M0,iz,wS]
variable{h:fl}
theorem lv(hf:Ai t){inj:Bool}{m:AO}(hv:(As t).2=0)(hh:I2 t h)(d:CV t p c)(e:V6 t p h m):Rf t c h m inj=Y (Ch t h inj (SizeOf.sizeOf c) c m):=D3 (SizeOf.sizeOf c) λn g=>R4 hf hv hh _ c p m (b6 _) d e n g
end Go.Sf.Sc
namespace Go.Sf.Sc
open Go Go.Sf
end Go.Sf.Sc
namespace Go.Sf.Sc
open Go Go.Sf
theorem qJ(t:eb)(p:d7)(c:d5)(h:fl)(m:AO)(inj:Bool):wS t p c h m inj=if Tv t p c h m inj≠0 then(zP,Tv t p c h m inj)else L3 (Ch t h inj (SizeOf.sizeOf c) c m):=by
 unfold wS;rw[eE]
end Go.Sf.Sc
