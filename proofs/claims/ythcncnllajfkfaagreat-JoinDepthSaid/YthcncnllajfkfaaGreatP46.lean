/- Plain lemmas: what the functions of the program and of the reference compute. -/
import Derived.Test.YthcncnllajfkfaaGreatP25
set_option linter.all false
set_option maxRecDepth 100000
open Option renaming some->Y,none->W
open Bool renaming true->X,false->T
open List renaming mem_append->w_,any_eq_false->w!,drop_eq_nil_of_le->w?,drop_eq_getElem_cons->x_,getElem?_eq_getElem->x!,replicate->x?,ext_getElem->y_,replicate_succ'->y!,mem_flatMap->y?,length_singleton->z_,nodup_nil->z!
open Classical renaming not_not->z?
open Bool renaming not_eq_true'->A_,true_and->A',false_eq_true->A!
open Int renaming toNat_natCast->A?
namespace Go.Sf.Sc
open Go Go.Sf
variable{all:List kp}{k:Int}
theorem Tv(h:M1 all k=0)(d:(AA all k).sr.length<=1000):-1000000<=(AA all k).Low/\(AA all k).Aaf<=1000000:=by grind[M1]
variable{t:AC}{i:Int}
theorem gi(h:Ir t i=0):∀k,((As t i).length:Int)-(AA t.d3 i).r0.length<=k->k<(As t i).length->M1 (As t i) k=0:=by
 unfold Ir at h;dsimp only at h;split at h
 .cases h
 split at h
 .cases h
 split at h
 .cases h
 split at h
 .cases h
 exact VO h
variable{a:Int}
theorem RO{n:Nat}(d:0<=a):Bp t (n+1) a=Bp t n (par t a)++(AA t.d3 a).r0:=by grind[Bp]
theorem pS(h:M1 all k=0)(d:(AA all k).sr.length<=1000):(AA all k).Low<=(AA all k).Aaf:=by grind[M1]
theorem Tw(hf:Ar t)(h:FO t){Q:kp->Prop}(Tv:∀{all:List kp}{k:Int},M1 all k=0->(AA all k).sr.length<=1000->Q (AA all k)):∀(n:Nat)(a:Int),a<t.d3.length->a<n->∀x∈Bp t n a,Q x
 |0,_,_,_=>by simp[Bp]|n+1,a,ha,B=>by
  by_cases g:a<0
  .rw[Ks g];simp
  .have w:=h.par a U ha;intro x d;rw[RO U]at d;rcases w_.1 d with d|d
   .exact Tw hf h Tv n (par t a) U U x d
   .obtain⟨j,z,A,rfl⟩:=BG d;have e:As t a=Bp t a.toNat (par t a)++(AA t.d3 a).r0:=by
     unfold As;rw[show(a+1).toNat=a.toNat+1 by omega,RO U]
    have y:(As t a).length=(Bp t a.toNat (par t a)).length+(AA t.d3 a).r0.length:=by rw[e,b6]
    have o:=gi (h.node a U ha) ((Bp t a.toNat (par t a)).length+j) U U;have r:AA (As t a) ((Bp t a.toNat (par t a)).length+j)=AA (AA t.d3 a).r0 j:=by
     grind [Ob,AA]
    have u:=O1 hf (Int.le_refl _) h.par ha (AA (As t a) ((Bp t a.toNat (par t a)).length+j)) (AF U U);have:=Tv o (by have:=u.names;omega)
    rwa [r]at this
theorem RP(hf:Ar t)(h:FO t)(d:0<=a)(ha:a<t.d3.length):∀x∈As t a,-1000000<=x.Low/\x.Aaf<=1000000:=Tw hf h Tv _ a ha U
theorem U1(hf:Ar t)(h:FO t)(d:0<=a)(ha:a<t.d3.length):∀x∈As t a,x.Low<=x.Aaf:=Tw hf h pS _ a ha U
theorem bM(d:Em t k):∀(n:Nat)(a b:Int),a<k->a<n->b∈KY t n a->0<=b/\b<=a/\(As t b).length<=(Bp t n a).length
 |0,_,_,_,_=>by simp[KY]|n+1,a,b,ha,j=>by
  intro hb;rw[KY]at hb;split at hb
  .cases hb
  .rename_i e;have g:=d a U ha;rw[RO U];rcases List.mem_cons.1 hb with rfl|hb
   .refine⟨U,U,?_⟩;unfold As;rw[Oc d (b+1).toNat (n+1) b ha U U,RO U];exact az _
   .have:=bM d n (par t a) b U U hb
    grind
variable{b:Int}
theorem aO(h:FO t)(ha:a<t.d3.length)(hb:Gp t a b=X):(As t b).length<=(As t a).length:=by
 unfold Gp at hb;rw[List.any_eq_true]at hb;obtain⟨x,d,e⟩:=hb;rw[tn]at e;subst e;by_cases g:a<0
 .have:(a+1).toNat=0:=U
  rw [this]at d;cases d
 .exact(bM h.par (a+1).toNat a b ha U d).2.2
theorem kC{α:Type}{Q:Prop}[Decidable Q]{v:α}{ζ:Option α}{δ:α}(he:a=b↔Q)(h:Q->ζ=Y δ):(if(!decide (a=b))=X then Y v else ζ)=Y (if¬Q then v else δ):=m?
def RA(t:AC)(k:Int)(v:Fp)(j:Int):Bool:=decide (AA v j<(AA (As t k) j).Low)||decide ((AA (As t k) j).Aaf<AA v j)
def GW(t:AC)(k:Int)(v:Fp):Int:=
 if (t.d3.length:Int)<=k then 6 else if(AA t.d3 k).qo=X then 13 else if¬v.length=(As t k).length then 20 else
 if l3 (RA t k v) 0 (As t k).length=X then 6 else 0
def JN(t:AC)(g:d5)(i:Int):Int:=
 if (t.d4.length:Int)<=(AA g.d4 i).kg then 6 else if HZ t g i=T then 13 else 0
def De(t:AC)(h:AG):Int×Int:=
 if (A0 t).2≠0 then(-1,(A0 t).2)else if B2 h.d5≠0 then(-1,B2 h.d5)else if¬h.ej.length=h.d5.d3.length then(-1,20)else
 match fst (λi=>(nz (GW t (AA h.d5.d3 i) (AA h.ej i))).map λe=>(i,e)) 0 h.d5.d3.length with
 |some r=>r|none=>(fst (λi=>(nz (JN t h.d5 i)).map λe=>(i,e)) 0 h.d5.d4.length).getD (-1,0)
theorem JC(hv:(A0 t).2=0)(d:0<=k)(e:k<t.d3.length):FQ t k=(As t k,0):=by grind[FQ,NA]
theorem WL{x:Bool}{y:Bool}:(if x=X then Y X else Y y)=Y (x||y):=by cases x<;>rfl
theorem uW(hf:Ar t)(hv:(A0 t).2=0)(d:0<=k)(v:Fp):MQ t k v=Y (GW t k v):=by
 unfold MQ GW;by_cases e:(t.d3.length:Int)<=k
 .grind
 rw [ae f_,ae e,AD d U,bs];refine dQ λ_=>?_;rw[Tf hf,JC hv d U,bs];refine kC an λg=>?_;rw[BS (RA t k v) 6]
 .cases l3 (RA t k v) 0 (As t k).length<;>rfl
 grind [As,AD,WL,RA,AA]
theorem uv(hf:Ar t)(hv:(A0 t).2=0)(d:0<=k)(v:Fp):LB t k v=Y (GW t k v):=by
 unfold LB GW;by_cases e:(t.d3.length:Int)<=k
 .grind
 rw [ae f_,ae e,AD d U,bs];refine dQ λ_=>?_;rw[Om hf,JC hv d U,bs];refine kC an λg=>?_;rw[BS (RA t k v) 6]
 .cases l3 (RA t k v) 0 (As t k).length<;>rfl
 grind [As,AD,WL,RA,AA]
theorem eQ(e i:Int):(if(!decide (e=0))=X then Y (Bo.ret (σ:=Unit) (ρ:=Int×Int) (i,e))else Y (.next ()))=Y (TA ((nz e).map λe=>(i,e))):=by grind[nz,TA]
theorem Ve(hf:Ar t)(h:AG):Gs t h=Y (De t h):=by
 unfold Gs De;rw[Ol hf,bs];refine Dl λhv=>?_;rw[Ok,bs];refine Dl λj=>?_;have go:=DV j;refine kC U λy=>?_;rw[BW (λi=>(nz (GW t (AA h.d5.d3 i) (AA h.ej i))).map λe=>(i,e)),DN]
 .cases o:fst (λi=>(nz (GW t (AA h.d5.d3 i) (AA h.ej i))).map λe=>(i,e)) 0 h.d5.d3.length with
  |some r=>rfl|none=>
   have u:=A5.1 o;dsimp only;rw[BW (λi=>(nz (JN t h.d5 i)).map λe=>(i,e)),DN]
   .grind
   .intro i d i1 _;have w:=go.fit _ (AF (l:=h.d5.d4) d i1);rw[AD d i1,bs];unfold JN HZ;by_cases g:(t.d4.length:Int)<=(AA h.d5.d4 i).kg
    .rw[ac h_,ac g];rfl
    .rw[ae h_,ae g,AD U U,bs,AD U U,bs,nR hf,bs];cases K0 t (AA h.d5.d4 i).kg (AA h.d5.d3 (AA h.d5.d4 i).ke) (AA h.d5.d3 (AA h.d5.d4 i).To)<;>rfl
 .intro i d i1 _;rw[AD d i1,bs,AD d U,bs,uW hf hv (go.kind _ (AF d i1)).1,bs];exact eQ _ i
theorem Vl(hf:Ar t)(h:AG):Fg t h=Y (De t h):=by
 unfold Fg De;rw[Rv hf,bs];refine Dl λhv=>?_;rw[NE,bs];refine Dl λj=>?_;have go:=DV j;refine kC U λy=>?_;rw[BW (λi=>(nz (GW t (AA h.d5.d3 i) (AA h.ej i))).map λe=>(i,e)),DN]
 .cases o:fst (λi=>(nz (GW t (AA h.d5.d3 i) (AA h.ej i))).map λe=>(i,e)) 0 h.d5.d3.length with
  |some r=>rfl|none=>
   have u:=A5.1 o;dsimp only;rw[BW (λi=>(nz (JN t h.d5 i)).map λe=>(i,e)),DN]
   .grind
   .intro i d i1 _;have w:=go.fit _ (AF (l:=h.d5.d4) d i1);rw[AD d i1,bs];unfold JN HZ;by_cases g:(t.d4.length:Int)<=(AA h.d5.d4 i).kg
    .rw[ac h_,ac g];rfl
    .rw[ae h_,ae g,AD U U,bs,AD U U,bs,Yi hf,bs];cases K0 t (AA h.d5.d4 i).kg (AA h.d5.d3 (AA h.d5.d4 i).ke) (AA h.d5.d3 (AA h.d5.d4 i).To)<;>rfl
 .intro i d i1 _;rw[AD d i1,bs,AD d U,bs,uv hf hv (go.kind _ (AF d i1)).1,bs];exact eQ _ i
structure IR(t:AC)(h:AG):Prop where
 g:Cc h.d5
 len:h.ej.length=h.d5.d3.length
 kind:∀i:Int,0<=i->i<h.d5.d3.length->0<=AA h.d5.d3 i/\AA h.d5.d3 i<t.d3.length
 row:∀i:Int,0<=i->i<h.d5.d3.length->(AA h.ej i).length=(As t (AA h.d5.d3 i)).length
 low:∀i:Int,0<=i->i<h.d5.d3.length->∀x∈AA h.ej i,-1000000<=x/\x<=1000000
 ge:B2 h.d5=0
 ty:Cm t h.d5=X
variable{h:AG}
theorem UG(e:(De t h).2=0):(∀i:Int,0<=i->i<h.d5.d3.length->GW t (AA h.d5.d3 i) (AA h.ej i)=0)/\∀i:Int,0<=i->i<h.d5.d4.length->JN t h.d5 i=0:=by
 unfold De at e;split at e
 next j=>exact absurd e j
 split at e
 next j=>exact absurd e j
 split at e
 .cases e
 rename_i j w y;have u:∀i:Int,0<=i->i<h.d5.d3.length->GW t (AA h.d5.d3 i) (AA h.ej i)=0:=by
  split at e
  .rename_i r hr;obtain⟨i,_,_,k,_⟩:=CZ hr;unfold nz at k;split at k
   .cases k
   next d=>cases k;exact absurd e d
  next hr=>exact λi g i1=>IK.1 (P8.1 (A5.1 hr i g i1))
 have he:∀i:Int,0<=i->i<h.d5.d4.length->JN t h.d5 i=0:=by
  have o:fst (λi=>(nz (GW t (AA h.d5.d3 i) (AA h.ej i))).map λe=>(i,e)) 0 h.d5.d3.length=W:=A5.2 λi g i1=>by rw[u i g i1];rfl
  rw [o]at e;dsimp only at e;cases hr:fst (λi=>(nz (JN t h.d5 i)).map λe=>(i,e)) 0 h.d5.d4.length with
  |some r=>
   rw [hr]at e;obtain⟨i,_,_,k,_⟩:=CZ hr;unfold nz at k;split at k
   .cases k
   next d=>cases k;exact absurd e d
  |none=>exact λi g i1=>IK.1 (P8.1 (A5.1 hr i g i1))
 exact ⟨u,he⟩
theorem P7(hf:Ar t)(e:(De t h).2=0):(A0 t).2=0/\IR t h:=by
 obtain ⟨u,he⟩:=UG e;unfold De at e;split at e
 next g=>exact absurd e g
 split at e
 next g=>exact absurd e g
 split at e
 .cases e
 rename_i g z C;have hv:=z?.1 g;have go:=DV (z?.1 z);have r:∀i:Int,0<=i->i<h.d5.d3.length->(0<=AA h.d5.d3 i/\AA h.d5.d3 i<t.d3.length)/\(AA h.ej i).length=(As t (AA h.d5.d3 i)).length/\∀j:Int,0<=j->j<(As t (AA h.d5.d3 i)).length->RA t (AA h.d5.d3 i) (AA h.ej i) j=T:=by
  intro i d i1;have E:=(go.kind _ (AF d i1)).1;have:=u i d i1;unfold GW at this;split at this
  .cases this
  split at this
  .cases this
  split at this
  .cases this
  split at this
  .cases this
  rename_i a1 a2 a3 D;exact⟨⟨E,U⟩,z?.1 a3,Bm.1 (by simpa using D)⟩
 have y:Cm t h.d5=X:=by
  unfold Cm;rw[pq,A_,A_,w!,w!];refine⟨λn u=>?_,λx w=>?_⟩
  .obtain⟨i,d,i1,rfl⟩:=BG u;have:=(r i d i1).1.2;simp;omega
  .obtain⟨i,d,i1,rfl⟩:=BG w;have:=he i d i1;unfold JN at this;split at this
   .cases this
   .simp;omega
 suffices o:∀i:Int,0<=i->i<h.d5.d3.length->∀x∈AA h.ej i,-1000000<=x/\x<=1000000 from⟨hv,go,z?.1 C,λi d i1=>(r i d i1).1,λi d i1=>(r i d i1).2.1,o,z?.1 z,y⟩
 intro i d i1 x w;obtain⟨A,G,F⟩:=r i d i1;obtain⟨j,B,H,rfl⟩:=BG w;have:=F j B U;unfold RA at this;simp[decide_eq_false_iff_not]at this;have:=RP hf (Cd hv) A.1 A.2 _ (AF (l:=As t (AA h.d5.d3 i)) B U);omega
end Go.Sf.Sc
namespace Go.Sf.Sc
open Go Go.Sf
def KG(t:AC)(p g:d5)(m:d6)(i:Int):a5:=
 if AA m.d3 i<0\/g.d3.length<=AA m.d3 i then Y 6 else if Gp t (AA g.d3 (AA m.d3 i)) (AA p.d3 i)=T then Y 13 else W
def ON(t:AC)(p g:d5)(m:d6):Int:=
 if m.d3.length≠p.d3.length\/m.d4.length≠p.d4.length then 20 else
 match fst (KG t p g m) 0 m.d3.length with
 |some e=>e|none=>(fst (GY p g m) 0 m.d4.length).getD 0
def GN(t:AC)(p g:d5)(m:d6)(inj:Bool):Int:=
 if Ec t p g≠0 then Ec t p g else if ON t p g m≠0 then ON t p g m else if(inj&&!IW m)=X then 5 else 0
structure Zj(t:AC)(p g:d5)(m:d6):Prop where
 Aak:m.d3.length=p.d3.length
 Aao:m.d4.length=p.d4.length
 node:∀i:Int,0<=i->i<m.d3.length->(0<=AA m.d3 i/\AA m.d3 i<g.d3.length)/\Gp t (AA g.d3 (AA m.d3 i)) (AA p.d3 i)=X
 edge:∀i:Int,0<=i->i<m.d4.length->0<=AA m.d4 i/\AA m.d4 i<g.d4.length
variable{t:AC}
theorem OW{p g:d5}(h:Ec t p g=0):(A0 t).2=0/\Cc p/\Cc g/\(∀n∈p.d3,0<=n/\n<t.d3.length)/\∀n∈g.d3,0<=n/\n<t.d3.length:=by
 unfold Ec at h;split at h
 .grind
 split at h
 .grind
 split at h
 .grind
 split at h
 .rename_i e j o d;rw[pq]at d
  grind [DV,He]
 .cases h
variable{m:d6}
theorem jY{p g:d5}(h:ON t p g m=0):Zj t p g m:=by
 unfold ON at h;split at h
 .cases h
 rename_i e;have d:fst (KG t p g m) 0 m.d3.length=W:=by
  grind [CZ,KG]
 rw [d]at h;have he:=Sl (λi=>by
  grind [GY]) h
 refine ⟨U,U,λi i1 i2=>?_,λi i1 i2=>?_⟩
 .grind[A5,KG]
 grind [GY]
theorem aZ(hf:Ar t){p g:d5}(y:Ec t p g=0)(m:d6):HC t p g m=Y (ON t p g m):=by
 obtain ⟨hv,A,E,tp,B⟩:=OW y;unfold HC ON;refine Qs i! λC=>?_;rw[lD hf (Cd hv) hv,bs,BW (KG t p g m),DN]
 .cases D:fst (KG t p g m) 0 m.d3.length with
  |some e=>rfl|none=>
   dsimp only;rw[BW (GY p g m),Cw];intro i i1 i2 _;unfold GY;rw[AD i1 i2,bs];by_cases d:AA m.d4 i<0\/g.d4.length<=AA m.d4 i
   .rw[ac c?,ac d];rfl
   .have hf:=A.fit _ (AF (l:=p.d4) i1 U);rw[ae c?,ae d,AD i1 U,bs,AD U U,bs];by_cases j:(AA p.d4 i).kg=(AA g.d4 (AA m.d4 i)).kg
    .rw[ae e?,ae e?,AD U U,bs];by_cases o:AA m.d3 (AA p.d4 i).ke=(AA g.d4 (AA m.d4 i)).ke
     .rw[ae g_,AD U U,bs,bs];by_cases r:AA m.d3 (AA p.d4 i).To=(AA g.d4 (AA m.d4 i)).To
      .rw[ae n?,ae (by simp[o,r])];rfl
      .rw[ac n?,ac (.inr r)];rfl
     .rw[ac g_,bs,ac rfl,ac (.inl o)];rfl
    .rw[ac e?,ac j];rfl
 .intro i i1 i2 _;unfold KG;rw[AD i1 i2,bs];by_cases d:AA m.d3 i<0\/g.d3.length<=AA m.d3 i
  .rw[ac c?,ac d];rfl
  .have u:=tp _ (AF (l:=p.d3) i1 U);have w:=B _ (AF (l:=g.d3) (show 0<=AA m.d3 i by omega) U);rw[ae c?,ae d,AD i1 U,bs,AD u.1 (by unfold Jz;rw[c9,At];exact u.2),bs,AD U U,bs];have e:AA (Jz t) (AA p.d3 i)=Pd t (AA p.d3 i):=by unfold Jz;exact I5 (Pd t) u.1 u.2
   rw [e,AD w.1 (by unfold Pd;rw[c9,At];exact w.2),bs];have z:AA (Pd t (AA p.d3 i)) (AA g.d3 (AA m.d3 i))=Gp t (AA g.d3 (AA m.d3 i)) (AA p.d3 i):=by unfold Pd;exact I5 (λk=>Gp t k (AA p.d3 i)) w.1 w.2
   rw [z];cases Gp t (AA g.d3 (AA m.d3 i)) (AA p.d3 i)<;>rfl
variable{l:Fp}
theorem jL(d:l.length<=1000):Ih l=Y (!Jl l):=by grind[Ih,W8,Jm,AbF,Jl]
theorem ZT(hf:Ar t)(p g:d5)(m:d6)(inj:Bool):F6 t p g m inj=Y (GN t p g m inj):=by
 unfold F6 GN;rw[WQ hf,bs];refine EC λd=>?_;rw[aZ hf d,bs];refine EC λo=>?_;obtain⟨_,j,r,_⟩:=OW d;have e:=jY o;have:=j.ec;have:=j.eh;have:=e.Aak;have:=e.Aao;rw[jL U,jL U];unfold IW;cases inj<;>cases Jl m.d3<;>cases Jl m.d4<;>rfl
theorem uo(l:Fp):KS l=Y (Jl l):=ce l
theorem oE{p g:d5}(w:Ec t p g=0)(m:d6)(inj:Bool):Js t p g m inj=Y (if ON t p g m≠0 then ON t p g m else if(inj&&!IW m)=X then 5 else 0):=by
 obtain ⟨hv,A,D,tp,B⟩:=OW w;unfold Js ON;by_cases y:m.d3.length≠p.d3.length\/m.d4.length≠p.d4.length
 .grind
 rw [ae i!,ae y,BW (KG t p g m),DN]
 .cases C:fst (KG t p g m) 0 m.d3.length with
  |some e=>
   grind [CZ,KG]
  |none=>
   dsimp only;rw[BW (GY p g m),DN]
   .grind[fst,GY,CZ,uo,IW,Jl]
   intro i i1 i2 _;unfold GY;rw[AD i1 i2];simp only[bs,Vd];by_cases d:AA m.d4 i<0\/g.d4.length<=AA m.d4 i
   .rw[ac c?,ac d];rfl
   .have hf:=A.fit _ (AF (l:=p.d4) i1 U);rw[ae c?,ae d,AD i1 U,bs,AD U U,bs];by_cases j:(AA p.d4 i).kg=(AA g.d4 (AA m.d4 i)).kg
    .rw[ae e?,ae e?,AD U U,bs];by_cases o:AA m.d3 (AA p.d4 i).ke=(AA g.d4 (AA m.d4 i)).ke
     .rw[ae g_,AD U U,bs,bs];by_cases r:AA m.d3 (AA p.d4 i).To=(AA g.d4 (AA m.d4 i)).To
      .rw[ae n?,ae (by simp[o,r])];rfl
      .rw[ac n?,ac (.inr r)];rfl
     .rw[ac g_,bs,ac rfl,ac (.inl o)];rfl
    .rw[ac e?,ac j];rfl
 .intro i i1 i2 _;unfold KG;rw[AD i1 i2];simp only[bs,Vd];by_cases d:AA m.d3 i<0\/g.d3.length<=AA m.d3 i
  .rw[ac c?,ac d];rfl
  .have z:=tp _ (AF (l:=p.d3) i1 U);have u:=B _ (AF (l:=g.d3) (show 0<=AA m.d3 i by omega) U);rw[ae c?,ae d,AD U U,bs,AD i1 U,bs,WS (Cd hv) u.1 u.2 z.1,bs];cases Gp t (AA g.d3 (AA m.d3 i)) (AA p.d3 i)<;>rfl
theorem Za(hf:Ar t)(p g:d5)(m:d6)(inj:Bool):Gy t p g m inj=Y (GN t p g m inj):=by
 unfold Gy GN;rw[UW hf,bs];refine EC λd=>?_;rw[oE d,bs]
theorem dR{p g:d5}{inj:Bool}(h:GN t p g m inj=0):Ec t p g=0/\Zj t p g m:=by grind[GN,jY]
end Go.Sf.Sc
namespace Go.Sf.Sc
open Go Go.Sf
section
variable{α σ ρ:Type}
def EY(step:α->σ->Bo σ ρ):List α->σ->σ ⊕ ρ
 |[],s=>.inl s|a::r,s=>match step a s with
  |.next s'=>EY step r s'|.brk s'=>.inl s'|.ret r=>.inr r
variable{f:Int->σ->Option (Bo σ ρ)}
theorem VM[Inhabited α]{l:List α}(step:α->σ->Bo σ ρ)(I:σ->Prop)(h:∀(i:Int)s,0<=i->i<l.length->I s->f i s=Y (step (AA l i) s)/\∀s',step (AA l i) s=.next s'->I s'):
  ∀(n:Nat)(a:Int)(s:σ),0<=a->a+n=l.length->I s->zt f n a s=Y (EY step (l.drop a.toNat) s)
 |0,a,s,d,o,_=>by
  rw [w? U];rfl
 |n+1,a,s,d,o,u=>by
  obtain ⟨g,j⟩:=h a s d U u;have hd:l.drop a.toNat=AA l a::l.drop (a+1).toNat:=by
   grind [x_,AA,x!]
  rw [F2,g,hd,EY];cases e:step (AA l a) s with
  |next s'=>
   simp only;exact VM step I h n (a+1) s' U U (j s' e)
  |brk s'=>rfl|ret r=>rfl
theorem Sj[Inhabited α]{l:List α}(step:α->σ->Bo σ ρ)(I:σ->Prop){s:σ}(d:I s)(h:∀(i:Int)s,0<=i->i<l.length->I s->f i s=Y (step (AA l i) s)/\∀s',step (AA l i) s=.next s'->I s'):
  jj f 0 l.length s=Y (EY step l s):=by
 have:=VM step I h l.length 0 s U U d;unfold jj;rw[show((l.length:Int)-0).toNat=l.length by omega];exact this
theorem ft[Inhabited α](step:α->σ->Bo σ ρ)(I:σ->Prop):∀(l:List α)(s s':σ),I s->(∀a∈l,∀s s',I s->step a s=.next s'->I s')->(∀a∈l,∀s s',step a s≠.brk s')->EY step l s=.inl s'->I s'
 |[],s,s',h,_,_,e=>by cases e;exact h
 |a::r,s,s',h,d,hb,e=>by
  rw [EY]at e;split at e
  next s2 g=>exact ft step I r s2 s' (d a V s s2 h g) (λa ha=>d a (by simp[ha])) (λa ha=>hb a (by simp[ha])) e
  .grind
  .cases e
end
def DH(x:gt)(l:Fp):Int:=if x.Var<0 then x.Add else AJ (AA l x.Var+x.Add)
variable{x:gt}{l:Fp}
theorem Vf(h:x.Var<l.length):Er x l=Y (DH x l):=by grind[Er,DH,AD]
theorem av(h:x.Var<l.length):Ju x l=Y (DH x l):=Vf h
theorem eY(d:-1<=x.Var)(h:x.Var<l.length)(e:l.length<=1000):FP x l=Y (DH x l,0):=by grind[FP,Cr,AT,Vf]
theorem QD(d:-1<=x.Var)(h:x.Var<l.length):FC x l=Y (DH x l,0):=by grind[FC,av]
def L4(x:Test)(l:Fp):Bool:=(decide (x.kq=1)&&decide (DH x.gp l<=DH x.ei l))||(decide (x.kq=2)&&decide (DH x.gp l=DH x.ei l))
structure JA(n:Int)(x:gt):Prop where
 low:-1<=x.Var
 high:x.Var<n
 add:-1000000<=x.Add/\x.Add<=1000000
def Q5(l:Fp):Prop:=∀x∈l,-2000000<=x/\x<=2000000
variable{n:Int}
theorem Ug(h:JA n x)(d:Q5 l)(e:n<=l.length):DH x l=(if x.Var<0 then x.Add else AA l x.Var+x.Add)/\-3000000<=DH x l/\DH x l<=3000000:=by
 unfold DH;have:=h.add;by_cases g:x.Var<0
 .grind
 .have hh:=h.high;have:=d _ (AF (l:=l) (show 0<=x.Var by omega) U)
  grind [AT]
theorem ar(h:JA n x)(d:n<=l.length):Lp x l=Y (DH x l,X):=by
 have e:=h.low;have g:=h.high
 grind [Lp,DH,AD]
theorem r_holds{x:Test}(e:JA n x.gp)(g:JA n x.ei)(d:n<=l.length):Ns x l=Y (L4 x l):=by
 unfold Ns;rw[ar e d,ar g d];rfl
variable{a b:Int}
theorem bQ(ha:-4000000<=a/\a<=4000000)(hb:-4000000<=b/\b<=4000000):HK a b=Y (if a+b<0 then(-1,a+b+18446744073709551616)else(0,a+b)):=by
 have d:∀c:Int,IntKind.u64.wrap c=c % 18446744073709551616:=λc=>by
  simp [IntKind.wrap,IntKind.signed,IntKind.bits]
 have g:∀c:Int,-4000000<=c/\c<=4000000->GX .i64 .shr c 63=Y (if c<0 then -1 else 0):=by
  intro c r;unfold GX;have e:c.fdiv (2^ (min (63:Int).toNat (IntKind.bits .i64)))=if c<0 then -1 else 0:=by
   show c.fdiv (2^ 63)=_
   grind
  simp only[e];have:(0:Int)<=63/\IntKind.min .i64<=(if c<0 then -1 else 0)/\(if c<0 then -1 else 0)<=IntKind.max .i64:=by
   split<;>decide
  rw [ac this]
 unfold HK JS;rw[d,d,ac U,bs,g a ha,g b hb,bs,bs];congr 1;have u:∀c:Int,-10<=c->c<=10->AJ c=c:=λc j o=>AT U U
 grind
def LV(a:Int):Int×Int:=if a<0 then(-1,a+18446744073709551616)else(0,a)
theorem ez(h:JA n x)(d:Q5 l)(o:n<=l.length):FT x l=Y ((LV (DH x l)).1,(LV (DH x l)).2,X):=by
 have r:=h.low;have u:=h.high;have w:=h.add;have g:=(Ug h d o).1;unfold FT;by_cases j:x.Var=-1
 .have e:DH x l=x.Add:=by rw[g,ac U]
  rw [e,ac e?,bQ U U,bs,Int.zero_add];rfl
 .have:=d _ (AF (l:=l) (show 0<=x.Var by omega) U);have e:DH x l=AA l x.Var+x.Add:=by rw[g,ae U]
  rw [e,ae e?,ae an,AD U U,bs,bQ U U,bs];rfl
theorem sZ(a b:Int):cmp_Compare_int a b=Y (if a<b then -1 else if b<a then 1 else 0):=by
 unfold cmp_Compare_int cmp_isNaN_int
 grind
theorem AAW(a b:Int):JF a b=Y (if a<b then -1 else if b<a then 1 else 0):=sZ a b
theorem wY(a b:Int):O2 [a,b]=Y (if a=0 then b else a):=by
 unfold O2;show em (zt _ 2 0 ()) _ _=_;rw[F2,show idx [a,b] 0=Y a from rfl,bs]
 grind [em,zt,F2,idx]
theorem p_holds{x:Test}(g:JA n x.gp)(j:JA n x.ei)(d:Q5 l)(e:n<=l.length):Ge x l=Y (L4 x l):=by
 have o:=(Ug g d e).2;have s2:=(Ug j d e).2;unfold Ge L4;rw[ez g d e,ez j d e];simp[sZ,AAW,wY];generalize DH x.gp l=a at o;generalize DH x.ei l=b at s2;have key:(if(if(LV a).1<(LV b).1 then(-1:Int)else if(LV b).1<(LV a).1 then 1 else 0)=0 then(if(LV a).2<(LV b).2 then(-1:Int)else if(LV b).2<(LV a).2 then 1 else 0)else(if(LV a).1<(LV b).1 then(-1:Int)else if(LV b).1<(LV a).1 then 1 else 0))=if a<b then -1 else if b<a then 1 else 0:=by
  grind [LV]
 rw [key];congr 2
 .grind
 grind
end Go.Sf.Sc
namespace Go.Sf.Sc
open Go Go.Sf
structure Um(t:AC)(q:ea):Prop where
 g:Cc q.d5
 kind:∀n∈q.d5.d3,0<=n/\n<t.d3.length
 vars:0<=q.fd/\q.fd<=12
 few:q.ek.length<=10/\q.kl.length<=10
 slot:∀s∈q.ek,(0<=s.po/\s.po<q.d5.d3.length)/\(0<=s.kp/\s.kp<(As t (AA q.d5.d3 s.po)).length)/\JA q.fd s.gt
 test:∀x∈q.kl,(x.kq=1\/x.kq=2)/\JA q.fd x.gp/\JA q.fd x.ei
 ge:B2 q.d5=0
 ty:Cm t q.d5=X
variable{n:Int}{x:gt}
theorem sJ(h:OQ n x=X):JA n x:=by
 unfold OQ at h;simp[tn]at h;exact⟨h.1.1.1,h.1.1.2,h.1.2,h.2⟩
theorem sK{l:List Test}(h:Jg n l=0):∀x∈l,(x.kq=1\/x.kq=2)/\JA n x.gp/\JA n x.ei:=by
 unfold Jg at h;split at h
 .cases h
 split at h
 .cases h
 have g:=VO h;intro x d;obtain⟨i,j,i1,rfl⟩:=BG d;have:=g i j i1;unfold LN at this;split at this
 .cases this
 split at this
 .rename_i o e;rw[pq]at e
  grind [sJ]
 .cases this
theorem lr(n:Int)(l:List Test):Jg n l≠9:=by
 unfold Jg;split
 .decide
 split
 .decide
 intro h;cases hr:fst (λi=>nz (LN n (AA l i))) 0 l.length with
 |none=>rw[hr]at h;cases h
 |some r=>
  grind [CZ,nz,LN]
variable{t:AC}{q:ea}
theorem qh(hv:(A0 t).2=0)(h:E1 t q=0\/E1 t q=9):Um t q:=by
 have w:=YE q.d5;unfold E1 at h;rw[ae l_]at h;split at h
 .omega
 rename_i j;have g:=DV (z?.1 j);split at h
 .omega
 rename_i e;split at h
 .omega
 rename_i z;split at h
 .omega
 rename_i A;split at h
 .omega
 rename_i B;split at h
 .grind[lr]
 rename_i u;refine⟨g,(He g f_).1,U,U,λs y=>?_,sK (z?.1 u),z?.1 j,f_⟩;have hb:TB t q s=T:=by
  grind
 unfold TB at hb;simp[Bool.not_eq_false',decide_eq_false_iff_not]at hb;obtain⟨⟨⟨d,D⟩,E⟩,F,G⟩:=hb;unfold Sa at d;dsimp only at d;split at d
 .cases d
 rename_i C;have r:=(He g f_).1 _ (AF (l:=q.d5.d3) (show 0<=s.po by omega) U);rw[JC hv r.1 r.2]at d;split at d
 .cases d
 rename_i o;have o:¬(s.kp<0\/((As t (AA q.d5.d3 s.po)).length:Int)<=s.kp):=o;exact⟨U,U,U,U,U,U⟩
def OX(h:AG)(m:d6)(s:By):Int:=AA (AA h.ej (AA m.d3 s.po)) s.kp
def Qm(h:AG)(m:d6)(s:By)(st:Fp×a6):Fp×a6:=
 if 0<=s.gt.Var/\AA st.2 s.gt.Var=T then(A2 st.1 s.gt.Var (AJ (OX h m s-s.gt.Add)),A2 st.2 s.gt.Var X)else st
def FD{ρ:Type}(r:ρ)(h:AG)(m:d6)(s:By)(st:Fp×a6):Bo (Fp×a6) ρ:=
 if DH s.gt (Qm h m s st).1=OX h m s then .next (Qm h m s st)else .ret r
structure VI(n:Int)(st:Fp×a6):Prop where
 l1:(st.1.length:Int)=n
 l2:(st.2.length:Int)=n
 small:Q5 st.1
structure KD(n:Int)(h:AG)(m:d6)(s:By):Prop where
 node:0<=s.po/\s.po<m.d3.length
 val:0<=AA m.d3 s.po/\AA m.d3 s.po<h.ej.length
 AbC:0<=s.kp/\s.kp<(AA h.ej (AA m.d3 s.po)).length
 term:JA n s.gt
 has:-1000000<=OX h m s/\OX h m s<=1000000
variable{h:AG}{m:d6}{s:By}
theorem Oq(g:FO t)(j:Um t q)(hh:IR t h)(e:Zj t q.d5 h.d5 m)(o:s∈q.ek):KD q.fd h m s:=by
 obtain ⟨u,w,y⟩:=j.slot s o;have z:=e.Aak;have d:=e.node s.po u.1 U;have hr:=hh.row _ d.1.1 d.1.2;have r:=hh.kind _ d.1.1 d.1.2;have hb:=aO g r.2 d.2;have hv:=hh.len;refine⟨U,U,U,y,?_⟩;unfold OX;exact hh.low _ d.1.1 d.1.2 _ (AF w.1 U)
theorem DD{α:Type}(l:List α)(i:Int)(a:α):(A2 l i a).length=l.length:=by unfold A2;rw[List.length_set]
variable{i:Int}
theorem rN{α:Type}{l:List α}{a x:α}(h:x∈A2 l i a):x∈l\/x=a:=List.mem_or_eq_of_mem_set h
variable{st:Fp×a6}
theorem oZ(e:KD n h m s)(hi:VI n st):VI n (Qm h m s st):=by
 have g:=e.has;have j:=e.term.add;unfold Qm;split
 .refine⟨by rw[DD];exact hi.l1,by rw[DD];exact hi.l2,λx d=>?_⟩;rcases rN d with d|rfl
  .exact hi.small x d
  grind [AT]
 .exact hi
def GA(q:ea)(h:AG)(m:d6):Fp×Int:=
 match EY (FD (([],11):Fp×Int) h m) q.ek (x? q.fd.toNat 0,x? q.fd.toNat T)with
 |.inr r=>r|.inl st=>if l3 (λi=>!L4 (AA q.kl i) st.1) 0 q.kl.length=X then([],16)else(st.1,0)
theorem Tn(d:0<=n):VI n (x? n.toNat 0,x? n.toNat T):=by
 refine ⟨an,an,λx e=>?_⟩
 grind
variable{st':Fp×a6}
theorem Q4{ρ:Type}{r:ρ}(d:KD n h m s)(hi:VI n st)(e:FD r h m s st=.next st'):VI n st':=by grind[FD,oZ]
theorem oa{ρ:Type}{r:ρ}:FD r h m s st≠.brk st':=by grind[FD]
theorem QF{ρ:Type}{r:ρ}{l:List By}(d:∀s∈l,KD n h m s)(hi:VI n st)(e:EY (FD r h m) l st=.inl st'):VI n st':=
 ft (FD r h m) (VI n) l st st' hi (λa ha _ _ g j=>Q4 (d a ha) g j) (λ_ _ _ _=>oa) e
theorem Rm{ρ:Type}{r:ρ}(w:KD n h m s)(hi:VI n st){θ:Fp×a6->Option (Bo (Fp×a6) ρ)}
  (j:∀st':Fp×a6,(st'.1.length:Int)=n->θ st'=Y (if DH s.gt st'.1=OX h m s then .next st' else .ret r)):
  ((if(decide (0<=s.gt.Var))=X then((idx st.2 s.gt.Var).bind λo=>Y (!o))else Y T).bind λu=>
   if u=X then(idx st.1 s.gt.Var).bind λ_=>(idx st.2 s.gt.Var).bind λ_=>θ (A2 st.1 s.gt.Var (AJ (OX h m s-s.gt.Add)),A2 st.2 s.gt.Var X)else θ (st.1,st.2))=Y (FD r h m s st):=by
 have y:=w.term.high;have l1:=hi.l1;have l2:=hi.l2;unfold FD;by_cases d:0<=s.gt.Var
 .rw[ac c?,AD d U,bs,bs];by_cases g:AA st.2 s.gt.Var=T
  .rw[ac o?,AD d U,bs,bs,j _ (by dsimp only;rw[DD];exact l1)];have e:Qm h m s st=(A2 st.1 s.gt.Var (AJ (OX h m s-s.gt.Add)),A2 st.2 s.gt.Var X):=by unfold Qm;rw[ac ⟨d,g⟩]
   rw [e]
  .rw[ae h_,j _ l1];have e:Qm h m s st=st:=by unfold Qm;rw[ae (λe=>g e.2)]
   rw [e]
 .rw[ae c?,bs,ae a!,j _ l1];have e:Qm h m s st=st:=by unfold Qm;rw[ae (λe=>d e.1)]
  rw [e]
theorem iA{ρ:Type}{r:ρ}(j:KD n h m s)(hi:VI n st){θ:Fp×a6->Option (Bo (Fp×a6) ρ)}
  (o:∀st':Fp×a6,(st'.1.length:Int)=n->θ st'=Y (if DH s.gt st'.1=OX h m s then .next st' else .ret r)):
  ((if(decide (0<=s.gt.Var))=X then((idx st.2 s.gt.Var).bind λd=>Y (!d))else Y T).bind λe=>
   if e=X then(idx st.2 s.gt.Var).bind λ_=>(idx st.1 s.gt.Var).bind λ_=>θ (A2 st.1 s.gt.Var (AJ (OX h m s-s.gt.Add)),A2 st.2 s.gt.Var X)else θ (st.1,st.2))=Y (FD r h m s st):=by
 rw [<-Rm j hi o];have u:=j.term.high;have l1:=hi.l1;have l2:=hi.l2;by_cases g:0<=s.gt.Var
 .rw[AD g U,AD g U];rfl
 .rw[ae h_];rfl
variable{v:Int}
theorem bF{t:gt}{f:gt->Fp->a5}(hf:∀l:Fp,(l.length:Int)=n->f t l=Y (DH t l))(st':Fp×a6)(e:(st'.1.length:Int)=n):((f t st'.1).bind λd=>if(!decide (d=v))=X then Y (Bo.ret (([],11):Fp×Int))else Y (.next st'))=Y (if DH t st'.1=v then .next st' else .ret ([],11)):=m?
theorem jJ(j:Um t q)(o:∀s∈q.ek,KD q.fd h m s):Fx q h m=Y (GA q h m):=by
 have hv:=j.vars;unfold Fx GA HN;rw[ac U,bs,ac U,bs];rw[Sj (FD (([],11):Fp×Int) h m) (VI q.fd) (Tn hv.1)]
 .cases hr:EY (FD (([],11):Fp×Int) h m) q.ek (x? q.fd.toNat 0,x? q.fd.toNat T)with
  |inr r=>rfl|inl st=>
   have hi:=QF o (Tn hv.1) hr;rw[Bq,BS (λi=>!L4 (AA q.kl i) st.1) ([],16)]
   .dsimp only;cases l3 (λi=>!L4 (AA q.kl i) st.1) 0 q.kl.length<;>rfl
   .intro i d i1 _;have u:=j.test _ (AF d i1);rw[AD d i1,bs,p_holds u.2.1 u.2.2 hi.small (by have:=hi.l1;omega),bs]
    grind
 .intro i st d i1 hi;have ha:=o _ (AF d i1);refine⟨?_,λs' e=>Q4 ha hi e⟩;rw[AD d i1,bs,AD ha.node.1 ha.node.2,bs,AD ha.val.1 ha.val.2,bs,AD ha.AbC.1 ha.AbC.2,bs];exact Rm ha hi (θ:=λst'=>(Er (AA q.ek i).gt st'.1).bind λg=>if(!decide (g=OX h m (AA q.ek i)))=X then Y (Bo.ret (([],11):Fp×Int))else Y (.next st')) (bF λl w=>Vf p!)
theorem jT(j:Um t q)(o:∀s∈q.ek,KD q.fd h m s):Ib q h m=Y (GA q h m):=by
 have hv:=j.vars;unfold Ib GA HN;rw[ac U,bs,ac U,bs];rw[Sj (FD (([],11):Fp×Int) h m) (VI q.fd) (Tn hv.1)]
 .cases hr:EY (FD (([],11):Fp×Int) h m) q.ek (x? q.fd.toNat 0,x? q.fd.toNat T)with
  |inr r=>rfl|inl st=>
   have hi:=QF o (Tn hv.1) hr;rw[Bq,BS (λi=>!L4 (AA q.kl i) st.1) ([],16)]
   .dsimp only;cases l3 (λi=>!L4 (AA q.kl i) st.1) 0 q.kl.length<;>rfl
   .intro i d i1 _;have u:=j.test _ (AF d i1);rw[AD d i1,bs,r_holds u.2.1 u.2.2 (by have:=hi.l1;omega),bs]
    grind
 .intro i st d i1 hi;have ha:=o _ (AF d i1);refine⟨?_,λs' e=>Q4 ha hi e⟩;rw[AD d i1,bs,AD ha.node.1 ha.node.2,bs,AD ha.val.1 ha.val.2,bs,AD ha.AbC.1 ha.AbC.2,bs];exact iA ha hi (θ:=λst'=>(Ju (AA q.ek i).gt st'.1).bind λg=>if(!decide (g=OX h m (AA q.ek i)))=X then Y (Bo.ret (([],11):Fp×Int))else Y (.next st')) (bF λl w=>av p!)
def OH(t:AC)(p:ea)(h:AG):Int:=if E1 t p≠0 then E1 t p else(De t h).2
theorem aY(hf:Ar t)(p:ea)(h:AG):Ep t p h=Y (OH t p h):=by
 unfold Ep OH;rw[Yb hf,bs];refine EC λ_=>?_;rw[Ve hf];rfl
theorem am(hf:Ar t)(p:ea)(h:AG):ID t p h=Y (OH t p h):=by
 unfold ID OH;rw[cg hf,bs];refine EC λ_=>?_;rw[Vl hf];rfl
def GQ(t:AC)(p:ea)(h:AG)(m:d6):Fp×Int:=
 if OH t p h≠0 then([],OH t p h)else if GN t p.d5 h.d5 m T≠0 then([],GN t p.d5 h.d5 m T)else GA p h m
variable{p:ea}
theorem Qn(hf:Ar t){inj:Bool}(d:OH t p h=0)(e:GN t p.d5 h.d5 m inj=0):(A0 t).2=0/\Um t p/\IR t h/\Zj t p.d5 h.d5 m:=by
 unfold OH at d;split at d
 .grind
 rename_i g;obtain⟨hv,hh⟩:=P7 hf d;exact⟨hv,qh hv (.inl (z?.1 g)),hh,(dR e).2⟩
theorem jB(hf:Ar t)(p:ea)(h:AG)(m:d6):Eo t p h m=Y (GQ t p h m):=by
 unfold Eo GQ;rw[aY hf,bs];refine Dl λe=>?_;rw[ZT hf,bs];refine Dl λg=>?_;obtain⟨hv,d,hh,o⟩:=Qn hf e g;rw[jJ d (λs j=>Oq (Cd hv) d hh o j)];rfl
theorem uk(hf:Ar t)(p:ea)(h:AG)(m:d6):Jt t p h m=Y (GQ t p h m):=by
 unfold Jt GQ;rw[am hf,bs];refine Dl λe=>?_;rw[Za hf,bs];refine Dl λg=>?_;obtain⟨hv,d,hh,o⟩:=Qn hf e g;rw[jT d (λs j=>Oq (Cd hv) d hh o j)];rfl
theorem ob(d:Um t q)(g:∀s∈q.ek,KD q.fd h m s)(e:(GA q h m).2=0):((GA q h m).1.length:Int)=q.fd/\Q5 (GA q h m).1:=by
 unfold GA at e|-;cases hr:EY (FD (([],11):Fp×Int) h m) q.ek (x? q.fd.toNat 0,x? q.fd.toNat T)with
 |inr r=>
  rw [hr]at e;have:∀(l:List By)(st:Fp×a6)(r:Fp×Int),EY (FD (([],11):Fp×Int) h m) l st=.inr r->r=([],11):=by
   intro l
   induction l with
   |nil=>intro st r h;cases h
   |cons a l o=>
    grind [EY,FD]
  grind
 |inl st=>
  rw [hr]at e;have hi:=QF g (Tn d.vars.1) hr;dsimp only at e|-;split at e
  .cases e
  next j=>rw[ae j];exact⟨hi.l1,hi.small⟩
end Go.Sf.Sc
namespace Go.Sf.Sc
open Go Go.Sf
variable{i:Int}
theorem Ki{n:Nat}{α:Type}[Inhabited α](F:Int->α)(d:0<=i)(v:α):A2 ((Ao n).map F) i v=(Ao n).map λj=>if j=i then v else F j:=by
 unfold A2;refine y_ V (λk e g=>?_)
 grind [At,Ao]
theorem C9{n:Nat}{α:Type}{F G:Int->α}(h:∀j,0<=j->j<(n:Int)->F j=G j):(Ao n).map F=(Ao n).map G:=by grind[List.map_congr_left,Cu]
def Hl(n:Nat)(k:Int):a6:=(Ao n).map λj=>decide (j<k)
theorem YO(n:Nat):Hl n 0=x? n T:=by
 unfold Hl;refine y_ (by simp[At]) (λk d e=>?_)
 grind [Ao,At]
theorem aS(n:Nat)(k:Int):(Hl n k).length=n:=by unfold Hl;rw[c9,At]
def OS(q:ea)(h:AG)(m:d6)(given:Fp):Fp×Bool:=
 match EY (FD (([],T):Fp×Bool) h m) q.ek (given++x? (q.fd-given.length).toNat 0,Hl q.fd.toNat given.length)with
 |.inr r=>r|.inl st=>if l3 (λi=>!L4 (AA q.kl i) st.1) 0 q.kl.length=X then([],T)else(st.1,X)
variable{n:Int}{given:Fp}
theorem Xf(e:0<=n)(g:given.length<=n)(hv:Q5 given):VI n (given++x? (n-given.length).toNat 0,Hl n.toNat given.length):=by
 refine ⟨an,by show((Hl n.toNat given.length).length:Int)=n;rw[aS];omega,λx d=>?_⟩;rcases w_.1 d with d|d
 .exact hv x d
 grind
variable{q:ea}{m:d6}{t:AC}
theorem xY{s:BY}(o:Um t q)(u:∀x∈q.ek,KD q.fd s.h m x)(z:given.length<=q.fd)(hv:Q5 given):EI s q m given=Y (OS q s.h m given):=by
 have B:=o.vars;unfold EI OS slices_Clone_int;rw[BR b_,bs,AT U U];have C:dI given (q.fd-given.length) 0=Y (given++x? (q.fd-given.length).toNat 0):=by
  grind [dI,AX]
 have D:HN q.fd T=Y (x? q.fd.toNat T):=by
  grind [HN]
 rw [C,bs,D,bs];have E:n8 (λ(d:Int)(w:a6)=>(idx w d).bind λA=>Y (A2 w d X)) 0 (given.length:Int) (x? q.fd.toNat T)=Y (Hl q.fd.toNat given.length):=by
  refine B0 (λi=>Hl q.fd.toNat i) U (YO _) (λi d i1=>?_);rw[AD d (by rw[aS];omega),bs];congr 1;unfold Hl;rw[Ki _ d]
  grind
 rw [E,bs];have j:=Xf B.1 z hv;rw[Sj (FD (([],T):Fp×Bool) s.h m) (VI q.fd) j]
 .cases hr:EY (FD (([],T):Fp×Bool) s.h m) q.ek (given++x? (q.fd-given.length).toNat 0,Hl q.fd.toNat given.length)with
  |inr r=>rfl|inl st=>
   have hi:=QF u j hr;rw[Bq,BS (λi=>!L4 (AA q.kl i) st.1) ([],T)]
   .dsimp only;cases l3 (λi=>!L4 (AA q.kl i) st.1) 0 q.kl.length<;>rfl
   .intro i d i1 _;have y:=o.test _ (AF d i1);rw[AD d i1,bs,p_holds y.2.1 y.2.2 hi.small (by have:=hi.l1;omega),bs]
    grind
 .intro i st d i1 hi;have ha:=u _ (AF d i1);refine⟨?_,λs' e=>Q4 ha hi e⟩;rw[AD d i1,bs,AD ha.node.1 ha.node.2,bs,AD ha.val.1 ha.val.2,bs,AD ha.AbC.1 ha.AbC.2,bs];refine Rm ha hi (θ:=λst'=>(FP (AA q.ek i).gt st'.1).bind λg=>if((!decide (g.2=0))||(!decide (g.1=OX s.h m (AA q.ek i))))=X then Y (Bo.ret (([],T):Fp×Bool))else Y (.next st')) (λst' F=>?_);rw[eY ha.term.low p! U,bs]
  grind
variable{h:AG}
theorem xz(A:Um t q)(B:∀x∈q.ek,KD q.fd h m x)(G:given.length<=q.fd)(hv:Q5 given):Mg q h m given=Y (OS q h m given):=by
 have E:=A.vars;unfold Mg OS;have J:HN q.fd T=Y (x? q.fd.toNat T):=by
  unfold HN;rw[ac U]
 rw [BR b_,bs,J,bs];have F:n8 (λ(d:Int)(g:Fp×a6)=>
   (idx g.2 d).bind λH=>
   if (decide ((given.length:Int)<=d))=X then
   (AY g.1 [0]).bind λy=>
   Y (y,A2 g.2 d (decide (d<(given.length:Int))))
   else
   Y (g.1,A2 g.2 d (decide (d<(given.length:Int))))) 0 q.fd (given,x? q.fd.toNat T)=Y (given++x? (q.fd-given.length).toNat 0,(Ao q.fd.toNat).map λj=>decide (j<q.fd)&&decide (j<(given.length:Int))):=by
  refine B0 (λi=>(given++x? (i-given.length).toNat 0,(Ao q.fd.toNat).map λj=>decide (j<i)&&decide (j<(given.length:Int)))) E.1 ?_ (λi d i1=>?_)
  .have K:((0:Int)-given.length).toNat=0:=U
   rw [K];simp;rw[<-YO];unfold Hl;refine C9 (λj C D=>?_);rw[show decide (j<0)=T by simp;omega];rfl
  .dsimp only;rw[AD d (by rw[c9,At];omega),bs];have L:A2 ((Ao q.fd.toNat).map λj=>decide (j<i)&&decide (j<(given.length:Int))) i (decide (i<(given.length:Int)))=(Ao q.fd.toNat).map λj=>decide (j<i+1)&&decide (j<(given.length:Int)):=by
    rw [Ki _ d];refine C9 (λj C D=>?_);by_cases e:j=i
    .rw[ac e,e,show decide (i<i+1)=X by simp;omega,A']
    .rw[ae e];congr 1;rw[decide_eq_decide];omega
   rw [L];by_cases hi:(given.length:Int)<=i
   .rw[ac n!,AS a_,bs];congr 2;rw[ci,show(i+1-given.length).toNat=(i-given.length).toNat+1 by omega,y!]
   .rw[ae n!];have M:(i+1-given.length).toNat=(i-given.length).toNat:=U
    rw [M]
 have z:((Ao q.fd.toNat).map λj=>decide (j<q.fd)&&decide (j<(given.length:Int)))=Hl q.fd.toNat given.length:=by
  unfold Hl;refine C9 (λj C D=>?_);rw[show decide (j<q.fd)=X by simp;omega,A']
 rw [z]at F;rw[F,bs];have u:=Xf E.1 G hv;dsimp only;rw[Sj (FD (([],T):Fp×Bool) h m) (VI q.fd) u]
 .cases hr:EY (FD (([],T):Fp×Bool) h m) q.ek (given++x? (q.fd-given.length).toNat 0,Hl q.fd.toNat given.length)with
  |inr r=>rfl|inl st=>
   have hi:=QF B u hr;rw[Bq,BS (λi=>!L4 (AA q.kl i) st.1) ([],T)]
   .dsimp only;cases l3 (λi=>!L4 (AA q.kl i) st.1) 0 q.kl.length<;>rfl
   .intro i d i1 _;have w:=A.test _ (AF d i1);have I:=hi.l1;rw[AD d i1,bs,QD w.2.1.low (by have:=w.2.1.high;omega),bs,QD w.2.2.low (by have:=w.2.2.high;omega),bs,<-Iv];unfold L4;dsimp only;congr 1;generalize DH (AA q.kl i).gp st.1=a;generalize DH (AA q.kl i).ei st.1=b;rcases w.1 with e|e
    .rw[e,eq_iff_iff];simp
    .rw[e,eq_iff_iff];simp
 .intro i st d i1 hi;have ha:=B _ (AF d i1);refine⟨?_,λs' e=>Q4 ha hi e⟩;rw[AD d i1,bs,AD ha.node.1 ha.node.2,bs,AD ha.val.1 ha.val.2,bs,AD ha.AbC.1 ha.AbC.2,bs];refine Rm ha hi (θ:=λst'=>(FC (AA q.ek i).gt st'.1).bind λo=>if(!decide (o.1=OX h m (AA q.ek i)))=X then Y (Bo.ret (([],T):Fp×Bool))else Y (.next st')) (λst' I=>?_);rw[QD ha.term.low p!,bs];by_cases e:DH (AA q.ek i).gt st'.1=OX h m (AA q.ek i)
  .rw[ae c_,ac e]
  .rw[ac c_,ae e]
theorem sO(g:Um t q)(j:∀s∈q.ek,KD q.fd h m s)(o:given.length<=q.fd)(hv:Q5 given)(e:(OS q h m given).2=X):((OS q h m given).1.length:Int)=q.fd/\Q5 (OS q h m given).1:=by
 unfold OS at e|-;have d:=Xf g.vars.1 o hv;cases hr:EY (FD (([],T):Fp×Bool) h m) q.ek (given++x? (q.fd-given.length).toNat 0,Hl q.fd.toNat given.length)with
 |inr r=>
  rw [hr]at e;have:∀(l:List By)(st:Fp×a6)(r:Fp×Bool),EY (FD (([],T):Fp×Bool) h m) l st=.inr r->r=([],T):=by
   intro l
   induction l with
   |nil=>intro st r h;cases h
   |cons a l w=>
    grind [EY,FD]
  grind
 |inl st=>
  rw [hr]at e;have hi:=QF j d hr;dsimp only at e|-;split at e
  .cases e
  next u=>rw[ae u];exact⟨hi.l1,hi.small⟩
def Vh(n:Nat)(by' f0:Fp):Fp:=(Ao by'.length).foldl (λl i=>A2 l (AA by' i) (AA f0 i)) (x? n (-1))
theorem Z9(d f0:Fp):∀(e:Fp)(l:Fp),(e.foldl (λl i=>A2 l (AA d i) (AA f0 i)) l).length=l.length
 |[],l=>rfl|k::e,l=>by rw[List.foldl_cons,Z9 d f0 e,DD]
theorem Yg{n:Nat}{d f0:Fp}(hb:∀x∈d,0<=x/\x<n)(w:d.length<=f0.length):n8 (λ(g:Int)(o:Fp)=>
  (idx d g).bind λe=>
  (idx f0 g).bind λj=>
  (idx o e).bind λr=>
  Y (A2 o e j)) 0 (d.length:Int) (x? n (-1))=Y (Vh n d f0):=by
 have h:=B0 (f:=λ(g:Int)(o:Fp)=>
  (idx d g).bind λe=>
  (idx f0 g).bind λj=>
  (idx o e).bind λr=>
  Y (A2 o e j)) (λi=>(Ao i.toNat).foldl (λl i=>A2 l (AA d i) (AA f0 i)) (x? n (-1))) (a:=0) (b:=d.length) (s:=x? n (-1)) U rfl (λi g i1=>by
   have u:=hb _ (AF g i1);rw[AD g i1,bs,AD g U,bs,AD u.1 (by rw[Z9];simpa using u.2),bs,Ea g,List.foldl_append];rfl)
 rw [h,A?];rfl
theorem fE{n:Nat}{d f0:Fp}(g:n<=1000)(hb:∀x∈d,0<=x/\x<n)(e:d.length<=f0.length):Gc n d f0=Y (Vh n d f0):=by
 unfold Gc DR;rw[ac ⟨rfl,U,U⟩,bs];show(n8 _ 0 _ (x? (n:Int).toNat (-1))).bind _=_;rw[A?,Yg hb e];rfl
theorem fQ{n:Nat}{d f0:Fp}(g:n<=1000)(hb:∀x∈d,0<=x/\x<n)(e:d.length<=f0.length):KU n d f0=Y (Vh n d f0):=by
 unfold KU;rw[B0 (a:=0) (b:=n) (s:=[]) (λi=>x? i.toNat (-1)) U rfl,bs,A?,Yg hb e]
 .rfl
 .intro i j i1;rw[AS a_,bs,show(i+1).toNat=i.toNat+1 by omega,y!]
end Go.Sf.Sc
namespace Go.Sf.Sc
open Go Go.Sf
structure sT(f:AM):Prop where
 nl:f.ec.length<=f.p.d3.length
 node:∀i:Int,0<=i->i<f.ec.length->(0<=AA f.ec i/\AA f.ec i<f.g.d3.length)/\AA (AA f.is (AA f.p.d3 i)) (AA f.g.d3 (AA f.ec i))=X
 edge:∀i:Int,0<=i->i<f.eh.length->(0<=AA f.eh i/\AA f.eh i<f.g.d4.length)/\AA f.g.d4 (AA f.eh i)=⟨(AA f.p.d4 i).kg,AA f.ec (AA f.p.d4 i).ke,AA f.ec (AA f.p.d4 i).To⟩
 inj:f.fq=X->f.ec.Nodup/\f.eh.Nodup
structure jx(f:AM)(m:d6):Prop where
 nl:m.d3.length=f.p.d3.length
 el:m.d4.length=f.p.d4.length
 node:∀i:Int,0<=i->i<m.d3.length->(0<=AA m.d3 i/\AA m.d3 i<f.g.d3.length)/\AA (AA f.is (AA f.p.d3 i)) (AA f.g.d3 (AA m.d3 i))=X
 edge:∀i:Int,0<=i->i<m.d4.length->(0<=AA m.d4 i/\AA m.d4 i<f.g.d4.length)/\AA f.g.d4 (AA m.d4 i)=⟨(AA f.p.d4 i).kg,AA m.d3 (AA f.p.d4 i).ke,AA m.d3 (AA f.p.d4 i).To⟩
 inj:f.fq=X->m.d3.Nodup/\m.d4.Nodup
variable{i:Int}
theorem M0{α:Type}[Inhabited α](l:List α)(x:α)(h:i=l.length):AA (l++[x]) i=x:=by grind[Ob]
variable{l:Fp}{k:Int}
theorem YV{b:Bool}(h:(!(b&&l.any λx=>decide (k=x)))=X)(hb:b=X)(d:l.Nodup):(l++[k]).Nodup:=m?
theorem Zm:∀(n:Nat)(f:AM),sT f->f.ec.length=f.p.d3.length->f.eh.length+n=f.p.d4.length->∀m∈EA n f,jx f m
 |0,f,j,y,he,m,d=>by
  rw [EA,List.mem_singleton]at d;subst d;exact⟨y,by simpa using he,j.node,j.edge,j.inj⟩
 |n+1,f,j,y,he,m,d=>by
  rw [EA,y?]at d;obtain⟨k,u,d⟩:=d;have u:=Cu.1 u;split at d
  .rename_i o;unfold SI at o;rw[pq]at o;obtain⟨r,w⟩:=o;rw[Xc,pq,tn]at r;have:=Zm n {f with eh:=f.eh++[k]} ⟨j.nl,j.node,λi z i1=>by
    have i1:i<((f.eh++[k]).length:Int):=i1;simp at i1;show(0<=AA (f.eh++[k]) i/\AA (f.eh++[k]) i<f.g.d4.length)/\AA f.g.d4 (AA (f.eh++[k]) i)=⟨(AA f.p.d4 i).kg,AA f.ec (AA f.p.d4 i).ke,AA f.ec (AA f.p.d4 i).To⟩;by_cases e:i=f.eh.length
    .rw[M0 _ _ e];exact⟨u,by rw[e];exact r.2⟩
    .rw[LY _ _ z U];exact j.edge i z U,λhi=>⟨(j.inj hi).1,YV w hi (j.inj hi).2⟩⟩ y (by show(f.eh++[k]).length+n=f.p.d4.length;rw[b6,z_];omega) m d
   exact ⟨this.nl,this.el,this.node,this.edge,this.inj⟩
  .cases d
theorem Zn:∀(n:Nat)(f:AM),sT f->f.eh=[]->f.ec.length+n=f.p.d3.length->∀m∈FG n f,jx f m
 |0,f,o,he,z,m,j=>by
  grind [FG,Zm]
 |n+1,f,o,he,z,m,j=>by
  rw [FG,y?]at j;obtain⟨k,u,j⟩:=j;have u:=Cu.1 u;split at j
  .rename_i d;unfold SJ at d;rw[pq,pq]at d;obtain⟨⟨_,w⟩,y⟩:=d;have:=Zn n {f with ec:=f.ec++[k]} ⟨by show(f.ec++[k]).length<=f.p.d3.length;rw[b6,z_];omega,λi r i1=>by
    have i1:i<((f.ec++[k]).length:Int):=i1;simp at i1;show(0<=AA (f.ec++[k]) i/\AA (f.ec++[k]) i<f.g.d3.length)/\AA (AA f.is (AA f.p.d3 i)) (AA f.g.d3 (AA (f.ec++[k]) i))=X;by_cases e:i=f.ec.length
    .rw[M0 _ _ e];exact⟨u,by rw[e];exact w⟩
    .rw[LY _ _ r U];exact o.node i r U,λi r i1=>by
    have i1:i<(f.eh.length:Int):=i1;rw[he]at i1;have:i<(0:Nat):=i1;omega,λhi=>⟨YV y hi (o.inj hi).1,(o.inj hi).2⟩⟩ he (by show(f.ec++[k]).length+n=f.p.d3.length;rw[b6,z_];omega) m j
   exact ⟨this.nl,this.el,this.node,this.edge,this.inj⟩
  .cases j
variable{t:AC}{m:d6}
theorem X9{p g:d5}{pa:d6}{inj:Bool}(d:m∈JM t p g pa inj):jx (FF t p g pa inj) m:=
 Zn _ (FF t p g pa inj) ⟨Nat.zero_le _,λi e i1=>by have i1:i<(0:Nat):=i1;omega,λi e i1=>by have i1:i<(0:Nat):=i1;omega,λ_=>⟨z!,z!⟩⟩ rfl p? m (List.mem_of_mem_take d)
theorem du{p g:d5}{pa:d6}{inj:Bool}(h:Ec t p g=0)(r:m∈JM t p g pa inj):Zj t p g m:=by
 obtain ⟨hv,z,A,tp,u⟩:=OW h;have:=X9 r;refine⟨this.nl,this.el,λi d i1=>?_,λi d i1=>(this.edge i d i1).1⟩;obtain⟨e,o⟩:=this.node i d i1;refine⟨e,?_⟩;have j:=this.nl;have w:=tp _ (AF (l:=p.d3) d (by show i<(p.d3.length:Int);have j:m.d3.length=p.d3.length:=j;omega));have y:=u _ (AF (l:=g.d3) e.1 e.2);have o:AA (AA (Jz t) (AA p.d3 i)) (AA g.d3 (AA m.d3 i))=X:=o
 grind [AA,Jz,Pd,I5,Gp]
theorem mt{p g:d5}{pa:d6}{inj:Bool}(h:Ec t p g=0)(o:m∈JM t p g pa inj):GN t p g m inj=0:=by
 have ok:=du h o;have r:=X9 o;have u:ON t p g m=0:=by
  unfold ON;rw[ae (by have:=ok.Aak;have:=ok.Aao;omega)];have w:fst (KG t p g m) 0 m.d3.length=W:=by
   rw [A5];intro i d i1;obtain⟨e,j⟩:=ok.node i d i1
   grind [KG]
  have y:fst (GY p g m) 0 m.d4.length=W:=by
   rw [A5];intro i d i1;obtain⟨e,j⟩:=r.edge i d i1;have e:0<=AA m.d4 i/\AA m.d4 i<g.d4.length:=e;have j:AA g.d4 (AA m.d4 i)=⟨(AA p.d4 i).kg,AA m.d3 (AA p.d4 i).ke,AA m.d3 (AA p.d4 i).To⟩:=j
   grind [GY]
  rw [w,y];rfl
 unfold GN;rw[ae s?,ae o!];cases inj
 .rfl
 .have:=r.inj rfl
  grind [IW,Jm]
theorem db{p g:d5}{pa:d6}{inj:Bool}(h:(T5 t p g pa inj).2=0):(T5 t p g pa inj).1.length<=5000/\∀m∈(T5 t p g pa inj).1,Zj t p g m:=by grind[T5,du]
structure Xj(t:AC)(p:ea)(h:AG)(x:AP):Prop where
 q:Um t p
 m:Zj t p.d5 h.d5 x.d6
 len:(x.fd.length:Int)=p.fd
 small:Q5 x.fd
structure l8(t:AC)(p:ea)(c:d7):Prop where
 q:Um t c.ea
 vars:p.fd<=c.ea.fd
 map:Ts p.d5 c.ea.d5 c.Map
 inj:IW c.Map=X
def D4(t:AC)(c:d7)(h:AG)(m:AP)(inj:Bool):List AP×Int:=
 let x:=T5 t c.ea.d5 h.d5 ⟨Vh c.ea.d5.d3.length c.Map.d3 m.d6.d3,Vh c.ea.d5.d4.length c.Map.d4 m.d6.d4⟩ inj
 if x.2≠0 then([],x.2)else((x.1.filter λy=>(OS c.ea h y m.fd).2).map λy=>⟨y,(OS c.ea h y m.fd).1⟩,0)
instance:Inhabited d6:=⟨⟨[],[]⟩⟩
instance:Inhabited AP:=⟨⟨default,[]⟩⟩
instance:Inhabited BA:=⟨⟨0,default,[]⟩⟩
theorem QS{x:List d6}{F:d6->Fp×Bool}{f:Int->List AP->Option (List AP)}(j:x.length<=5000)
  (hf:∀(i:Int)(s:List AP),0<=i->i<x.length->s.length<=5000->f i s=Y (if(F (AA x i)).2=X then s++[⟨AA x i,(F (AA x i)).1⟩]else s)):
  n8 f 0 (x.length:Int) []=Y ((x.filter λy=>(F y).2).map λy=>⟨y,(F y).1⟩):=by
 rw [B0 (a:=0) (b:=x.length) (s:=[]) (λi=>((x.take i.toNat).filter λy=>(F y).2).map λy=>(⟨y,(F y).1⟩:AP)) U rfl,A?,List.take_length];intro i d i1;have e:(((x.take i.toNat).filter λy=>(F y).2).map λy=>(⟨y,(F y).1⟩:AP)).length<=5000:=by
  grind
 rw [hf i _ d i1 e,B5 d i1,List.filter_append,List.map_append];cases g:(F (AA x i)).2<;>simp[g]
variable{p:ea}{c:d7}
theorem xN{s:BY}{m:AP}(hf:Ar s.t)(hv:(A0 s.t).2=0)(hh:IR s.t s.h)(ha:Xj s.t p s.h m)(hi:l8 s.t p c):CQ s c m=Y (D4 s.t c s.h m s.fq):=by
 have A:=hi.q.g.ec;have ge:=hi.q.g.eh;have m1:=hi.map.Aak;have B:=hi.map.Aao;have C:=ha.m.Aak;have D:=ha.m.Aao;unfold CQ D4;rw[fE U (λx e=>by obtain⟨i,d,i1,rfl⟩:=BG e;exact(hi.map.node i d i1).1) U,bs,
  fE U (λx e=>by obtain⟨i,d,i1,rfl⟩:=BG e;exact(hi.map.edge i d i1).1) U,bs,qS hf,bs]
 dsimp only;refine Dl λj=>?_;obtain⟨u,w⟩:=db j;rw[QS (F:=λy=>OS c.ea s.h y m.fd) u]
 .rfl
 .intro i st d i1 z;have o:=w _ (AF d i1);have r:(m.fd.length:Int)<=c.ea.fd:=so
  rw [AD d i1,bs,xY hi.q (λx e=>Oq (Cd hv) hi.q hh o e) r ha.small,bs,<-Iv]
  grind [AS,AX]
variable{h:AG}
theorem xg{inj:Bool}{m:AP}(hf:Ar t)(hv:(A0 t).2=0)(hh:IR t h)(ha:Xj t p h m)(hi:l8 t p c):FL t c h m inj=Y (D4 t c h m inj):=by
 have A:=hi.q.g.ec;have ge:=hi.q.g.eh;have m1:=hi.map.Aak;have B:=hi.map.Aao;have C:=ha.m.Aak;have D:=ha.m.Aao;unfold FL D4;rw[fQ U (λx e=>by obtain⟨i,d,i1,rfl⟩:=BG e;exact(hi.map.node i d i1).1) U,bs,
  fQ U (λx e=>by obtain⟨i,d,i1,rfl⟩:=BG e;exact(hi.map.edge i d i1).1) U,bs,qp hf,bs]
 dsimp only;refine Dl λj=>?_;obtain⟨u,w⟩:=db j;rw[QS (F:=λy=>OS c.ea h y m.fd) u]
 .rfl
 .intro i st d i1 z;have o:=w _ (AF d i1);have r:(m.fd.length:Int)<=c.ea.fd:=so
  rw [AD d i1,bs,xz hi.q (λx e=>Oq (Cd hv) hi.q hh o e) r ha.small,bs,<-Iv]
  grind [AS,AX]
theorem ib{inj:Bool}{m:AP}(hv:(A0 t).2=0)(hh:IR t h)(ha:Xj t p h m)(hi:l8 t p c)(e:(D4 t c h m inj).2=0):(D4 t c h m inj).1.length<=5000/\∀x∈(D4 t c h m inj).1,Xj t c.ea h x:=by
 unfold D4 at e|-;dsimp only at e|-;split at e
 .grind
 rename_i j;rw[ae j];obtain⟨u,w⟩:=db (z?.1 j);refine⟨by dsimp only;rw[c9];exact Nat.le_trans (List.length_filter_le _ _) u,λx d=>?_⟩;dsimp only at d;rw[List.mem_map]at d;obtain⟨y,g,rfl⟩:=d;rw[List.mem_filter]at g;have o:=w y g.1;have r:(m.fd.length:Int)<=c.ea.fd:=so
 have:=sO hi.q (λx d=>Oq (Cd hv) hi.q hh o d) r ha.small g.2;exact⟨hi.q,o,this.1,this.2⟩
end Go.Sf.Sc
namespace Go.Sf.Sc
open Go Go.Sf
inductive CV(t:AC):ea->d7->Prop where
 |mk (p:ea) (c:d7) (few:c.fu.length<=40) (rng:1<=c.kq/\c.kq<=5) (one:c.kq=2\/c.kq=5->c.fu.length=1) (ins:c.kq=5->l8 t p c) (kids:∀k∈c.fu,CV t (if c.kq=5 then c.ea else p) k):CV t p c
variable{t:AC}{p:ea}{c:d7}
theorem CV.few(h:CV t p c):c.fu.length<=40:=j_
theorem CV.rng(h:CV t p c):1<=c.kq/\c.kq<=5:=j_
theorem CV.one(h:CV t p c):c.kq=2\/c.kq=5->c.fu.length=1:=j_
theorem CV.ins(h:CV t p c):c.kq=5->l8 t p c:=j_
theorem CV.kids(h:CV t p c):∀k∈c.fu,CV t (if c.kq=5 then c.ea else p) k:=j_
theorem CV.kid(h:CV t p c)(d:¬c.kq=5):∀k∈c.fu,CV t p k:=λk e=>by have:=h.kids k e;rwa[ae d]at this
theorem CV.kid5(h:CV t p c)(d:c.kq=5):∀k∈c.fu,CV t c.ea k:=λk e=>by have:=h.kids k e;rwa[ac d]at this
theorem U9:∀l:List d7,l.length<=TC l
 |[]=>by simp|c::l=>by
  have:=U9 l
  grind [TC,Di,VA,cE]
variable{q:ea}{v:Int}
theorem AAf(hv:(A0 t).2=0)(h:TH t q v=0):Um t q:=by grind[TH,qh]
theorem sd(hv:(A0 t).2=0):∀(N:Nat)(c:d7)(p:ea),SizeOf.sizeOf c<=N->Di c<=40->Tp N c=X->Is N t p c=0->CV t p c
 |0,c,_,h,_,_,_=>by have:=Dk c;omega|N+1,c,p,h,L,z,ho=>by
  have E:=VA c;have F:=U9 c.fu;rw[Tp,pq]at z;obtain⟨u,o⟩:=z;have d:c.kq=2\/c.kq=5->c.fu.length=1:=by
   intro j;unfold UE at u
   grind
  have g:1<=c.kq/\c.kq<=5:=by
   grind [UE]
  have w:∀q,(fst (λi=>nz (Is N t q (AA c.fu i))) 0 c.fu.length).getD 0=0->∀k∈c.fu,CV t q k:=by
   intro q A k j;have G:=VO A;have J:=W6 j;have K:=EO j;rw[List.all_eq_true]at o;obtain⟨i,H,i1,e⟩:=BG j;have y:=G i H i1;rw[e]at y;exact sd hv N k q U U (o k j) y
  rw [Is]at ho;by_cases r:c.kq=5
  .rw[ac r]at ho;split at ho
   .cases ho
   rename_i I;split at ho
   .grind
   rename_i B;split at ho
   .grind
   rename_i C;split at ho
   .cases ho
   rename_i D;refine CV.mk p c U g d (λ_=>⟨AAf hv (z?.1 B),U,WD (z?.1 C),by simpa using D⟩) ?_
   grind
  .rw[ae r]at ho;refine CV.mk p c U g d (λe=>absurd e r) ?_
   grind
section
variable{α σ ρ:Type}
variable{f:Int->σ->Option (Bo σ ρ)}
theorem Up[Inhabited α]{l:List α}(step:α->σ->Bo σ ρ)(I:Int->σ->Prop)(h:∀(i:Int)s,0<=i->i<l.length->I i s->f i s=Y (step (AA l i) s)/\∀s',step (AA l i) s=.next s'->I (i+1) s'):
  ∀(n:Nat)(a:Int)(s:σ),0<=a->a+n=l.length->I a s->zt f n a s=Y (EY step (l.drop a.toNat) s)
 |0,a,s,d,o,_=>by
  rw [w? U];rfl
 |n+1,a,s,d,o,u=>by
  obtain ⟨g,j⟩:=h a s d U u;have hd:l.drop a.toNat=AA l a::l.drop (a+1).toNat:=by
   grind [x_,AA,x!]
  rw [F2,g,hd,EY];cases e:step (AA l a) s with
  |next s'=>
   simp only;exact Up step I h n (a+1) s' U U (j s' e)
  |brk s'=>rfl|ret r=>rfl
theorem X8[Inhabited α]{l:List α}(step:α->σ->Bo σ ρ)(I:Int->σ->Prop){s:σ}(d:I 0 s)(h:∀(i:Int)s,0<=i->i<l.length->I i s->f i s=Y (step (AA l i) s)/\∀s',step (AA l i) s=.next s'->I (i+1) s'):
  jj f 0 l.length s=Y (EY step l s):=by
 have:=Up step I h l.length 0 s U U d;unfold jj;rw[show((l.length:Int)-0).toNat=l.length by omega];exact this
theorem Yp{d s2:α->σ->Bo σ ρ}:∀{l:List α}{s:σ},(∀a∈l,d a=s2 a)->EY d l s=EY s2 l s
 |[],_,_=>rfl|a::l,s,h=>by
  rw [EY,EY,h a V];split
  .exact Yp λb hb=>h b (by simp[hb])
  .rfl
  .rfl
end
abbrev zM:AP:=⟨⟨[],[]⟩,[]⟩
abbrev zP:BA:=⟨0,zM,[]⟩
def Oz(w:d7->BA×Int)(k:d7)(s:BA×BA):Bo (BA×BA) (BA×Int):=
 if (w k).2≠0 then .ret (zP,(w k).2)else .next (s.1,⟨s.2.Aaw,s.2.og,s.2.fu++[(w k).1]⟩)
def Uz(w:d7->BA×Int)(l:List d7):BA×Int:=
 match EY (Oz w) l (zP,zP)with
 |.inl s=>(s.2,0)|.inr r=>r
def C2(t:AC)(h:AG)(inj:Bool):Nat->d7->AP->BA×Int
 |0,_,_=>(zP,0)|N+1,c,m=>
  if c.kq=2 then(if(C2 t h inj N (AA c.fu 0) m).2=0 then(zP,10)else if(C2 t h inj N (AA c.fu 0) m).2=10 then(zP,0)else(zP,(C2 t h inj N (AA c.fu 0) m).2))else
  if c.kq=3 then Uz (λk=>C2 t h inj N k m) c.fu else
  if c.kq=4 then(fst (λi=>if(C2 t h inj N (AA c.fu i) m).2=0 then Y (⟨i,zM,[(C2 t h inj N (AA c.fu i) m).1]⟩,0)else if(C2 t h inj N (AA c.fu i) m).2≠10 then Y (zP,(C2 t h inj N (AA c.fu i) m).2)else W) 0 c.fu.length).getD (zP,10)else
  if c.kq=5 then
   (if(D4 t c h m inj).2≠0 then(zP,(D4 t c h m inj).2)else
   (fst (λi=>if(C2 t h inj N (AA c.fu 0) (AA (D4 t c h m inj).1 i)).2=0 then Y (⟨0,AA (D4 t c h m inj).1 i,[(C2 t h inj N (AA c.fu 0) (AA (D4 t c h m inj).1 i)).1]⟩,0)else
    if (C2 t h inj N (AA c.fu 0) (AA (D4 t c h m inj).1 i)).2≠10 then Y (zP,(C2 t h inj N (AA c.fu 0) (AA (D4 t c h m inj).1 i)).2)else W) 0 (D4 t c h m inj).1.length).getD (zP,10))else
  (zP,0)
def C1(t:AC)(h:AG)(inj:Bool):Nat->d7->AP->BA×Int
 |0,_,_=>(zP,0)|N+1,c,m=>
  if c.kq=2 then(if(C1 t h inj N (AA c.fu 0) m).2=0 then(zP,10)else if(C1 t h inj N (AA c.fu 0) m).2=10 then(zP,0)else(zP,(C1 t h inj N (AA c.fu 0) m).2))else
  if c.kq=3 then Uz (λk=>C1 t h inj N k m) c.fu else
  if c.kq=4 then(fst (λi=>if(C1 t h inj N (AA c.fu i) m).2≠10 then Y (⟨i,zM,[(C1 t h inj N (AA c.fu i) m).1]⟩,(C1 t h inj N (AA c.fu i) m).2)else W) 0 c.fu.length).getD (zP,10)else
  if c.kq=5 then
   (if(D4 t c h m inj).2≠0 then(zP,(D4 t c h m inj).2)else
   (fst (λi=>if(C1 t h inj N (AA c.fu 0) (AA (D4 t c h m inj).1 i)).2≠10 then Y (⟨0,AA (D4 t c h m inj).1 i,[(C1 t h inj N (AA c.fu 0) (AA (D4 t c h m inj).1 i)).1]⟩,(C1 t h inj N (AA c.fu 0) (AA (D4 t c h m inj).1 i)).2)else W) 0 (D4 t c h m inj).1.length).getD (zP,10))else
  (zP,0)
def Nh(x:BA×Int):BA×Int:=if x.2=0 then x else(zP,x.2)
theorem nO(x:BA×Int):(Nh x).2=x.2:=by unfold Nh;split<;>rfl
theorem nN{x:BA×Int}(h:x.2=0):(Nh x).1=x.1:=by unfold Nh;rw[ac h]
theorem pQ(w:d7->BA×Int)(l:List d7):Nh (Uz w l)=Uz w l:=by
 unfold Uz;have:∀(l:List d7)(s:BA×BA)(r:BA×Int),EY (Oz w) l s=.inr r->Nh r=r:=by
  intro l
  induction l with
  |nil=>intro s r h;cases h
  |cons a l g=>
   intro s r h;rw[EY]at h;split at h
   .exact g _ _ h
   .cases h
   .rename_i j d;cases h;unfold Oz at d;split at d
    next e=>cases d;unfold Nh;rw[ae e]
    .cases d
 cases hr:EY (Oz w) l (zP,zP)with
 |inl s=>rfl|inr r=>exact this _ _ _ hr
theorem aF(o:Option (BA×Int)):Nh (o.getD (zP,10))=(o.map Nh).getD (zP,10):=by cases o<;>rfl
theorem jt(t:AC)(h:AG)(inj:Bool):∀(N:Nat)(c:d7)(m:AP),C2 t h inj N c m=Nh (C1 t h inj N c m)
 |0,_,_=>rfl|N+1,c,m=>by
  have w:=jt t h inj N;have key:∀(c:d7)(m:AP),(C2 t h inj N c m).2=(C1 t h inj N c m).2:=λc m=>by rw[w,nO]
  have pick:∀(k:d7)(m x:AP)(i:Int),(if(C2 t h inj N k m).2=0 then Y ((⟨i,x,[(C2 t h inj N k m).1]⟩:BA),(0:Int))else if(C2 t h inj N k m).2≠10 then Y (zP,(C2 t h inj N k m).2)else W)=(if(C1 t h inj N k m).2≠10 then Y ((⟨i,x,[(C1 t h inj N k m).1]⟩:BA),(C1 t h inj N k m).2)else W).map Nh:=by
   intro k m x i;rw[key];by_cases d:(C1 t h inj N k m).2=0
   .rw[ac d,ac U,w,nN d];simp[Nh,d]
   .rw[ae d];by_cases e:(C1 t h inj N k m).2≠10
    .rw[ac e,ac e];simp[Nh,d]
    grind
  rw [C2,C1];by_cases j:c.kq=2
  .rw[ac j,ac j,key];by_cases d:(C1 t h inj N (AA c.fu 0) m).2=0
   .rw[ac d];rfl
   .rw[ae d];by_cases e:(C1 t h inj N (AA c.fu 0) m).2=10
    .rw[ac e];rfl
    .rw[ae e];unfold Nh;rw[ae d]
  rw [ae j,ae j];by_cases o:c.kq=3
  .rw[ac o,ac o,pQ];unfold Uz;rw[Yp (s2:=Oz λk=>C1 t h inj N k m)];intro k _;funext s;unfold Oz;simp only[key];by_cases d:(C1 t h inj N k m).2=0
   .rw[ae (by simp[d]),ae (by simp[d]),w,nN d]
   .rw[ac d,ac d]
  rw [ae o,ae o];by_cases r:c.kq=4
  .rw[ac r,ac r,aF,<-KK];congr 1;exact congrArg (λF=>fst F 0 (c.fu.length:Int)) (funext λi=>pick _ _ _ _)
  rw [ae r,ae r];by_cases u:c.kq=5
  .rw[ac u,ac u];by_cases g:(D4 t c h m inj).2≠0
   .rw[ac g,ac g];unfold Nh;rw[ae g]
   .rw[ae g,ae g,aF,<-KK];congr 1;exact congrArg (λF=>fst F 0 ((D4 t c h m inj).1.length:Int)) (funext λi=>pick _ _ _ _)
  rw [ae u,ae u];rfl
end Go.Sf.Sc
namespace Go.Sf.Sc
open Go Go.Sf
def Sn(i:Int)(s:BA×BA):Prop:=(s.2.fu.length:Int)=i
theorem Yd{s:BY}(hf:Ar s.t)(hv:(A0 s.t).2=0)(hh:IR s.t s.h):∀(N:Nat)(c:d7)(p:ea)(m:AP),SizeOf.sizeOf c<=N->CV s.t p c->Xj s.t p s.h m->∀n,2*N<=n->Ay n s c m=Y (C2 s.t s.h s.fq N c m)
 |0,c,_,_,h,_,_,_,_=>by have:=Dk c;omega|N+1,c,p,m,h,j,ha,n,C=>by
  obtain ⟨n,rfl⟩:∃k,n=k+2:=⟨n-2,U⟩;have kid:∀(i:Int),0<=i->i<c.fu.length->SizeOf.sizeOf (AA c.fu i)<=N:=λi d i1=>by
   have:=EO (AF (l:=c.fu) d i1);omega
  rw [Ay,C2];by_cases o:c.kq=2
  .have B:=j.one (.inl o);rw[ac g_,ac o,AD U U,bs,Yd hf hv hh N _ p m (kid 0 U U) (j.kid U _ (AF U U)) ha (n+1) U,bs]
   grind
  rw [ae g_,ae o];by_cases w:c.kq=3
  .rw[ac v!,ac w];have z:=j.few;rw[X8 (Oz λk=>C2 s.t s.h s.fq N k m) Sn (show Sn 0 (zP,zP)from rfl)]
   .unfold Uz;show em (Y (EY (Oz λk=>C2 s.t s.h s.fq N k m) c.fu (zP,zP))) _ _=_;cases EY (Oz λk=>C2 s.t s.h s.fq N k m) c.fu (zP,zP)<;>rfl
   .intro i st d i1 hi;unfold Sn at hi;rw[AD d i1,bs,Yd hf hv hh N _ p m (kid i d i1) (j.kid U _ (AF d i1)) ha (n+1) U,bs]
    grind [Oz,C2,AA,AS,AX,Sn]
  rw [ae v!,ae w];by_cases y:c.kq=4
  .rw[ac (by simpa using y),ac y];rw[Gf (λ_=>zP) (λi=>if(C2 s.t s.h s.fq N (AA c.fu i) m).2=0 then Y (⟨i,zM,[(C2 s.t s.h s.fq N (AA c.fu i) m).1]⟩,0)else if(C2 s.t s.h s.fq N (AA c.fu i) m).2≠10 then Y (zP,(C2 s.t s.h s.fq N (AA c.fu i) m).2)else W) U rfl]
   .cases fst (λi=>if(C2 s.t s.h s.fq N (AA c.fu i) m).2=0 then Y ((⟨i,zM,[(C2 s.t s.h s.fq N (AA c.fu i) m).1]⟩:BA),(0:Int))else if(C2 s.t s.h s.fq N (AA c.fu i) m).2≠10 then Y (zP,(C2 s.t s.h s.fq N (AA c.fu i) m).2)else W) 0 c.fu.length<;>rfl
   .intro i d i1 _;rw[AD d i1,bs,Yd hf hv hh N _ p m (kid i d i1) (j.kid U _ (AF d i1)) ha (n+1) U,bs];generalize C2 s.t s.h s.fq N (AA c.fu i) m=x;by_cases g:x.2=0
    .rw[ac h_,ac g];try rfl
    .rw[ae h_,ae g];by_cases e:x.2=10
     .rw[ae c_,ae c_];try rfl
     .rw[ac c_,ac e];try rfl
  rw [ae (by simpa using y),ae y];by_cases r:c.kq=5
  .rw[ac n?,ac r];have hi:=j.ins r;have B:=j.one (.inr r);rw[BU,xN hf hv hh ha hi,bs];by_cases u:(D4 s.t c s.h m s.fq).2=0
   .obtain⟨e,A⟩:=ib hv hh ha hi u;rw[ae o!,ae o!];generalize (D4 s.t c s.h m s.fq).1=l at e A;rw[Gf (λ_=>zP) (λi=>if(C2 s.t s.h s.fq N (AA c.fu 0) (AA l i)).2=0 then Y (⟨0,AA l i,[(C2 s.t s.h s.fq N (AA c.fu 0) (AA l i)).1]⟩,0)else if(C2 s.t s.h s.fq N (AA c.fu 0) (AA l i)).2≠10 then Y (zP,(C2 s.t s.h s.fq N (AA c.fu 0) (AA l i)).2)else W) U rfl]
    .cases fst (λi=>if(C2 s.t s.h s.fq N (AA c.fu 0) (AA l i)).2=0 then Y ((⟨0,AA l i,[(C2 s.t s.h s.fq N (AA c.fu 0) (AA l i)).1]⟩:BA),(0:Int))else if(C2 s.t s.h s.fq N (AA c.fu 0) (AA l i)).2≠10 then Y (zP,(C2 s.t s.h s.fq N (AA c.fu 0) (AA l i)).2)else W) 0 l.length<;>rfl
    .intro i d i1 _;rw[AD d i1,bs,AD U U,bs,Yd hf hv hh N _ c.ea _ (kid 0 U U) (j.kid5 r _ (AF U U)) (A _ (AF d i1)) n U,bs];generalize C2 s.t s.h s.fq N (AA c.fu 0) (AA l i)=x;by_cases g:x.2=0
     .rw[ac h_,ac g];try rfl
     .rw[ae h_,ae g];by_cases e:x.2=10
      .rw[ae c_,ae c_];try rfl
      .rw[ac c_,ac e];try rfl
   .rw[ac o!,ac u];try rfl
  grind
variable{t:AC}
theorem Tg{d:AG}{inj:Bool}(hf:Ar t)(hv:(A0 t).2=0)(hh:IR t d):∀(N:Nat)(c:d7)(p:ea)(m:AP),SizeOf.sizeOf c<=N->CV t p c->Xj t p d m->∀n,N<=n->C7 n t c d m inj=Y (C1 t d inj N c m)
 |0,c,_,_,h,_,_,_,_=>by have:=Dk c;omega|N+1,c,p,m,h,j,ha,n,C=>by
  obtain ⟨n,rfl⟩:∃k,n=k+1:=⟨n-1,U⟩;have kid:∀(i:Int),0<=i->i<c.fu.length->SizeOf.sizeOf (AA c.fu i)<=N:=λi e i1=>by
   have:=EO (AF (l:=c.fu) e i1);omega
  rw [C7,C1];by_cases o:c.kq=2
  .have B:=j.one (.inl o);rw[ac g_,ac o,AD U U,bs,Tg hf hv hh N _ p m (kid 0 U U) (j.kid U _ (AF U U)) ha n U,bs]
   grind
  rw [ae g_,ae o];by_cases u:c.kq=3
  .rw[ac i9,ac u];have z:=j.few;rw[X8 (Oz λk=>C1 t d inj N k m) Sn (show Sn 0 (zP,zP)from rfl)]
   .unfold Uz;show em (Y (EY (Oz λk=>C1 t d inj N k m) c.fu (zP,zP))) _ _=_;cases EY (Oz λk=>C1 t d inj N k m) c.fu (zP,zP)<;>rfl
   .intro i st e i1 hi;unfold Sn at hi;rw[AD e i1,bs,Tg hf hv hh N _ p m (kid i e i1) (j.kid U _ (AF e i1)) ha n U,bs]
    grind [Oz,C1,AA,AS,AX,Sn]
  rw [ae i9,ae u];by_cases w:c.kq=4
  .rw[ac v!,ac w];rw[Gf (λ_=>zP) (λi=>if(C1 t d inj N (AA c.fu i) m).2≠10 then Y (⟨i,zM,[(C1 t d inj N (AA c.fu i) m).1]⟩,(C1 t d inj N (AA c.fu i) m).2)else W) U rfl]
   .cases fst (λi=>if(C1 t d inj N (AA c.fu i) m).2≠10 then Y ((⟨i,zM,[(C1 t d inj N (AA c.fu i) m).1]⟩:BA),(C1 t d inj N (AA c.fu i) m).2)else W) 0 c.fu.length<;>rfl
   .intro i e i1 _;rw[AD e i1,bs,Tg hf hv hh N _ p m (kid i e i1) (j.kid U _ (AF e i1)) ha n U,bs];generalize C1 t d inj N (AA c.fu i) m=x;by_cases g:x.2=10
    .rw[ae o?,ae o?];try rfl
    .rw[ac o?,ac g];try rfl
  rw [ae v!,ae w];by_cases r:c.kq=5
  .rw[ac n?,ac r];have hi:=j.ins r;have B:=j.one (.inr r);rw[xg hf hv hh ha hi,bs];by_cases y:(D4 t c d m inj).2=0
   .obtain⟨g,A⟩:=ib hv hh ha hi y;rw[ae (by simp[y]),ae (by simp[y])];generalize (D4 t c d m inj).1=l at g A;rw[Gf (λ_=>zP) (λi=>if(C1 t d inj N (AA c.fu 0) (AA l i)).2≠10 then Y (⟨0,AA l i,[(C1 t d inj N (AA c.fu 0) (AA l i)).1]⟩,(C1 t d inj N (AA c.fu 0) (AA l i)).2)else W) U rfl]
    .cases fst (λi=>if(C1 t d inj N (AA c.fu 0) (AA l i)).2≠10 then Y ((⟨0,AA l i,[(C1 t d inj N (AA c.fu 0) (AA l i)).1]⟩:BA),(C1 t d inj N (AA c.fu 0) (AA l i)).2)else W) 0 l.length<;>rfl
    .intro i e i1 _;rw[AD U U,bs,AD e i1,bs,Tg hf hv hh N _ c.ea _ (kid 0 U U) (j.kid5 r _ (AF U U)) (A _ (AF e i1)) n U,bs];generalize C1 t d inj N (AA c.fu 0) (AA l i)=x;by_cases g:x.2=10
     .rw[ae o?,ae o?];try rfl
     .rw[ac o?,ac g];try rfl
   grind
  grind
end Go.Sf.Sc
namespace Go.Sf.Sc
open Go Go.Sf
noncomputable def U6(t:AC)(p:ea)(c:d7)(h:AG)(m:AP)(inj:Bool):Int:=
 if JG t p c≠0 then JG t p c else if(De t h).2≠0 then(De t h).2 else if GN t p.d5 h.d5 m.d6 inj≠0 then GN t p.d5 h.d5 m.d6 inj else
 if (GQ t p h m.d6).2≠0 then(GQ t p h m.d6).2 else if(GQ t p h m.d6).1=m.fd then 0 else 11
variable{t:AC}{c:d7}
theorem qQ(hf:Ar t)(p:ea)(d:D9 c)(h:AG)(m:AP)(inj:Bool):Fy t p c h m inj=Y (U6 t p c h m inj):=by
 unfold Fy U6;rw[uU hf p d,bs];refine EC λ_=>?_;rw[Ve hf,bs];refine EC λ_=>?_;rw[ZT hf,bs];refine EC λ_=>?_;rw[jB hf,bs];refine EC λ_=>?_;rw[PP,bs]
 grind
variable{p:ea}{h:AG}
theorem X0(hf:Ar t)(z:Di c<=40){m:AP}{inj:Bool}(e:U6 t p c h m inj=0):(A0 t).2=0/\IR t h/\CV t p c/\Xj t p h m:=by
 unfold U6 at e;split at e
 .grind
 rename_i d;split at e
 .grind
 rename_i j;split at e
 .grind
 rename_i o;split at e
 .grind
 rename_i r;split at e
 case isFalse=>cases e
 rename_i C;have d:=z?.1 d;have j:=z?.1 j;have o:=z?.1 o;have r:=z?.1 r;obtain⟨hv,hh⟩:=P7 hf j;have w:=(dR o).2;unfold JG at d;split at d
 .grind
 rename_i A;split at d
 .grind
 rename_i u;have y:=qh hv (.inl (z?.1 A));have u:=z?.1 u;have B:jp c=X:=by
  grind [Mr]
 suffices g:(m.fd.length:Int)=p.fd/\Q5 m.fd from⟨hv,hh,sd hv _ c p (az _) z B d,y,w,g.1,g.2⟩
 have g:∀s∈p.ek,KD p.fd h m.d6 s:=λs g=>Oq (Cd hv) y hh w g
 grind [GQ,ob]
end Go.Sf.Sc
namespace Go.Sf.Sc
open Go Go.Sf
def Rt:Nat->d7->Bool
 |0,_=>X|N+1,c=>if l3 (λi=>!Rt N (AA c.fu i)) 0 c.fu.length=X then T else decide (AJ ((c.ea.d5.d3.length:Int)+c.ea.d5.d4.length)<=6)
theorem ap:∀(N:Nat)(c:d7),SizeOf.sizeOf c<=N->∀n,N<=n->GI n c=Y (Rt N c)
 |0,c,h,_,_=>by have:=Dk c;omega|N+1,c,h,n,e=>by
  obtain ⟨n,rfl⟩:∃k,n=k+1:=⟨n-1,U⟩;rw[GI,Rt,BS (λi=>!Rt N (AA c.fu i)) T]
  .cases l3 (λi=>!Rt N (AA c.fu i)) 0 c.fu.length<;>rfl
  .intro i d i1 _;have:=EO (AF (l:=c.fu) d i1);rw[AD d i1,bs,ap N _ U n U,bs,Iv]
theorem qw(c:d7):SQ c=Y (Rt (SizeOf.sizeOf c) c):=Dn (SizeOf.sizeOf c) λn d=>ap _ c (az _) n d
def VX(a:Int):Nat->Int->Int
 |0,s=>s|k+1,s=>AJ (VX a k s*a)
theorem s9{a b k s:Int}(g:0<=k)(e:k<=1000)(hb:b<=1000):Cq (ρ:=Bool) (λ(d:Int×Int)=>
  if (decide (d.2<b))=X then
  Y (.next (AJ (d.1*a),AJ (d.2+1)))
  else
  Y (.brk (d.1,d.2))) (s,k)=Y (.inl (VX a (max k b-k).toNat s,max k b)):=by
 refine Pn (λi=>VX a (i-k).toNat s) U (by rw[show(k-k).toNat=0 by omega];rfl) (λi j i1=>?_) ?_
 .rw[ac an,show(i+1-k).toNat=(i-k).toNat+1 by omega,VX];dsimp only;rw[AT (n:=i+1) U U]
 .rw[ae an]
def R7(a b:Int):Nat->ea->d7->Bool
 |0,_,_=>X|N+1,p,c=>
  let q:=if c.kq=5 then c.ea else p
  if l3 (λi=>!R7 a b N q (AA c.fu i)) 0 c.fu.length=X then T else
  decide (VX b (max (p.d5.d4.length:Int) q.d5.d4.length-p.d5.d4.length).toNat (VX a (max (p.d5.d3.length:Int) q.d5.d3.length-p.d5.d3.length).toNat 1)<=5000)
theorem fO(a b:Int):∀(N:Nat)(c:d7)(p:ea),SizeOf.sizeOf c<=N->D9 c->Pt p->∀n,N<=n->EW n p c a b=Y (R7 a b N p c)
 |0,c,_,h,_,_,_,_=>by have:=Dk c;omega|N+1,c,p,h,g,y,n,J=>by
  obtain ⟨n,rfl⟩:∃k,n=k+1:=⟨n-1,U⟩;have D:=g.q.ec;have E:=g.q.eh;have F:=y.ec;have G:=y.eh;have e:∀q:ea,Pt q->(em (Cq (ρ:=Bool) (λ(d:Int×Int)=>
    if (decide (d.2<(q.d5.d3.length:Int)))=X then
    Y (.next (AJ (d.1*a),AJ (d.2+1)))
    else
    Y (.brk (d.1,d.2))) (1,(p.d5.d3.length:Int))) (λd=>
    em (Cq (ρ:=Bool) (λ(s2:Int×Int)=>
    if (decide (s2.2<(q.d5.d4.length:Int)))=X then
    Y (.next (AJ (s2.1*b),AJ (s2.2+1)))
    else
    Y (.brk (s2.1,s2.2))) (d.1,(p.d5.d4.length:Int))) (λs2=>
    em (jj (ρ:=Bool) (λ(z:Int)(_:Unit)=>
    (idx c.fu z).bind λj=>
    (EW n q j a b).bind λo=>
    if (!o)=X then
    Y (.ret T)
    else
    Y (.next ())) 0 (c.fu.length:Int) ()) (λ_=>
    Y (decide (s2.1<=5000))) (λA=>Y A)) (λB=>Y B)) (λC=>Y C))=
    Y (if l3 (λi=>!R7 a b N q (AA c.fu i)) 0 c.fu.length=X then T else
     decide (VX b (max (p.d5.d4.length:Int) q.d5.d4.length-p.d5.d4.length).toNat (VX a (max (p.d5.d3.length:Int) q.d5.d3.length-p.d5.d3.length).toNat 1)<=5000)):=by
   intro q r;have H:=r.ec;have I:=r.eh;rw[s9 U U U,Bq];dsimp only;rw[s9 U U U,Bq,BS (λi=>!R7 a b N q (AA c.fu i)) T]
   .cases l3 (λi=>!R7 a b N q (AA c.fu i)) 0 c.fu.length<;>rfl
   .intro i u i1 _;have:=EO (AF (l:=c.fu) u i1);rw[AD u i1,bs,fO a b N _ q U (g.k _ (AF u i1)) r n U,bs,Iv]
  rw [EW,R7];by_cases w:c.kq=5
  .rw[ac v!,ac w,bs,e _ g.q]
  grind
variable{c:d7}{p:ea}
theorem nx(a b:Int)(d:D9 c)(e:Pt p):RC p c a b=Y (R7 a b (SizeOf.sizeOf c) p c):=Dn (SizeOf.sizeOf c) λn g=>fO a b _ c p (az _) d e n g
theorem dc(h:AG):∃b,IB h=Y b:=by
 unfold IB JT;rw[bs];split
 .exact⟨_,rfl⟩
 .rw[BS (λi=>decide (12<((AA h.ej i).length:Int))) T]
  .cases l3 (λi=>decide (12<((AA h.ej i).length:Int))) 0 h.ej.length
   .exact⟨X,rfl⟩
   .exact⟨T,rfl⟩
  .intro i d i1 _;rw[AD d i1,bs,Iv]
variable{t:AC}
theorem oC(hf:Ar t)(st:(AL t).Sm)(p g:d5):∃b,Ny t p g=Y b:=by
 obtain ⟨b,e,_⟩:=Sh st;unfold Ny JT;rw[e,bs,UW hf]
 grind
theorem oD(hf:Ar t)(st:(AL t).Sm)(p:ea)(w:(AI c).Sm)(h:AG):∃b,N0 t p c h=Y b/\(b=X->D9 c/\Di c<=40/\Pt p):=by
 obtain ⟨y,z,A⟩:=mY w;obtain⟨B,r,C⟩:=TY p;obtain⟨D,u⟩:=dc h;unfold N0;rw[z,bs];cases y
 .exact⟨T,rfl,λh=>d_⟩
 rw [r];cases B
 .exact⟨T,rfl,λh=>d_⟩
 rw [u];cases D
 .exact⟨T,rfl,λh=>d_⟩
 have g:=A rfl;have j:=C rfl;simp only[bs,Bool.not_true,A!,if_false];rw[n7 hf p g.1,bs];have d:∀o:K1,(∃b,o=Y b)->∃b,o=Y b/\(b=X->D9 c/\Di c<=40/\Pt p):=λo⟨b,e⟩=>⟨b,e,λ_=>⟨g.1,g.2,j⟩⟩;refine d _ ?_;split
 .exact⟨X,rfl⟩
 .obtain⟨E,F⟩:=oC hf st p.d5 h.d5;unfold Qf;rw[r,u,F,qw,nx 14 18 g.1 j];simp only[bs,if_true];cases E<;>simp only[A!,if_false,if_true,bs,Bool.false_and]
  .exact⟨_,rfl⟩
  .split
   .exact⟨_,rfl⟩
   .exact⟨_,rfl⟩
noncomputable def wS(t:AC)(p:ea)(c:d7)(h:AG)(m:AP)(inj:Bool):BA×Int:=
 if U6 t p c h m inj≠0 then(zP,U6 t p c h m inj)else C2 t h inj (SizeOf.sizeOf c) c m
theorem nj(hf:Ar t)(p:ea)(e:D9 c)(g:Di c<=40)(h:AG)(m:AP)(inj:Bool):Ei t p c h m inj=Y (wS t p c h m inj):=by
 unfold Ei wS;rw[qQ hf p e,bs];refine Dl λj=>?_;obtain⟨hv,hh,d,ha⟩:=X0 hf g j;rw[show Fd (BY.mk t h inj) c m=Y (C2 t h inj (SizeOf.sizeOf c) c m)from Dn (2*SizeOf.sizeOf c) λn o=>Yd (s:=⟨t,h,inj⟩) hf hv hh _ c p m (az _) d ha n o];rfl
noncomputable def OZ(t:AC)(p:ea)(c:d7)(h:AG)(m:AP)(inj:Bool):Bool×Int:=
 if (wS t p c h m inj).2=10 then(T,0)else(decide ((wS t p c h m inj).2=0),(wS t p c h m inj).2)
theorem gu(hf:Ar t)(p:ea)(d:D9 c)(e:Di c<=40)(h:AG)(m:AP)(inj:Bool):D0 t p c h m inj=Y (OZ t p c h m inj):=by grind[D0,OZ,nj,wS]
variable{h:AG}
theorem qr(hf:Ar t){inj:Bool}{m:AP}(hv:(A0 t).2=0)(hh:IR t h)(d:CV t p c)(ha:Xj t p h m):Qg t c h m inj=Y (C1 t h inj (SizeOf.sizeOf c) c m):=Dn (SizeOf.sizeOf c) λn e=>Tg hf hv hh _ c p m (az _) d ha n e
end Go.Sf.Sc
namespace Go.Sf.Sc
open Go Go.Sf
end Go.Sf.Sc
namespace Go.Sf.Sc
open Go Go.Sf
theorem vX(t:AC)(p:ea)(c:d7)(h:AG)(m:AP)(inj:Bool):wS t p c h m inj=if U6 t p c h m inj≠0 then(zP,U6 t p c h m inj)else Nh (C1 t h inj (SizeOf.sizeOf c) c m):=by
 unfold wS;rw[jt]
end Go.Sf.Sc
