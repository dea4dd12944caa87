/- Plain lemmas. -/
import Derived.Test.YtiefejhapgafkaaGreatP1
set_option linter.all false
set_option maxRecDepth 100000
open Option renaming some->Y,none->W
open Bool renaming true->X,false->T
open List renaming mem_append->x!,mem_cons->x?,any_eq_true->y_,any_eq_false->y!,drop_eq_nil_of_le->y?,drop_eq_getElem_cons->z_,getElem?_eq_getElem->z!,mem_or_eq_of_mem_set->z?,replicate->A_,ext_getElem->A',map_congr_left->A!,replicate_succ'->A?,foldl_cons->B_,foldl_append->B',mem_singleton->B!,mem_flatMap->B?,length_singleton->C_,nodup_nil->C',take_length->C!,filter_append->C?,map_append->D_,length_filter_le->D',mem_map->D!,mem_filter->D?,append_nil->E_,mem_cons_of_mem->E',mem_append_left->E!,map_map->E?,map_id->F_,length_replicate->F!,getElem_map->F?,getElem_replicate->G_,map_singleton->G!,mem_cons_self->G?,getElem?_eq_some_iff->H_,map->H',length->H!,take_left'->H?,map_id'->I_,getElem_mem->I'
open Int renaming le_refl->I!,toNat_natCast->I?,tdiv_eq_ediv_of_nonneg->J_,add_zero->J',add_assoc->J!,ofNat_le->J?,mul_le_mul->K_
open Classical renaming not_not->K',propDecidable->K!
open Bool renaming not_eq_true'->K?,true_and->L_,false_eq_true->L',false_and->L!,eq_false_iff->L?,or_eq_false_iff->M_,eq_iff_iff->M',or_eq_true->M!
open ByteArray renaming size_extract->M?
namespace Go.Sf.Sc
open Go Go.Sf
variable{all:List ke}{k:Int}
def UD(h:NM all k=0)(e:(AA all k).pf.length<=1000):-1000000<=(AA all k).Low/\(AA all k).Aab<=1000000:=by grind[NM]
variable{t:AC}{i:Int}
def iO(h:JH t i=0):∀k,((A4 t i).length:Int)-(AA t.dl i).og.length<=k->k<(A4 t i).length->NM (A4 t i) k=0:=by
 unfold JH at h;dsimp only at h;split at h
 .cases h
 split at h
 .cases h
 split at h
 .cases h
 split at h
 .cases h
 exact Vf h
variable{a:Int}
def RZ{n:Nat}(e:0<=a):B6 t (n+1) a=B6 t n (par t a)++(AA t.dl a).og:=by grind[B6]
def qO(h:NM all k=0)(e:(AA all k).pf.length<=1000):(AA all k).Low<=(AA all k).Aab:=by grind[NM]
def UE(hf:A2 t)(h:Ft t){Q:ke->Prop}(UD:∀{all:List ke}{k:Int},NM all k=0->(AA all k).pf.length<=1000->Q (AA all k)):∀(n:Nat)(a:Int),a<t.dl.length->a<n->∀x∈B6 t n a,Q x
 |0,_,_,_=>by simp[B6]|n+1,a,ha,I=>by
  by_cases u:a<0
  .rw[LP u];simp
  .have E:=h.par a U ha;intro x o;rw[RZ U]at o;rcases x!.1 o with o|o
   .exact UE hf h UD n (par t a) U U x o
   .obtain⟨j,G,H,rfl⟩:=BP o;have e:A4 t a=B6 t a.toNat (par t a)++(AA t.dl a).og:=by
     unfold A4;rw[show(a+1).toNat=a.toNat+1 by omega,RZ U]
    have F:(A4 t a).length=(B6 t a.toNat (par t a)).length+(AA t.dl a).og.length:=by rw[e,b6]
    have y:=iO (h.node a U ha) ((B6 t a.toNat (par t a)).length+j) U U;have z:AA (A4 t a) ((B6 t a.toNat (par t a)).length+j)=AA (AA t.dl a).og j:=by
     grind [Ox,AA]
    have D:=PK hf (I! _) h.par ha (AA (A4 t a) ((B6 t a.toNat (par t a)).length+j)) (AG U U);have:=UD y (by have:=D.names;omega)
    rwa [z]at this
def Ra(hf:A2 t)(h:Ft t)(e:0<=a)(ha:a<t.dl.length):∀x∈A4 t a,-1000000<=x.Low/\x.Aab<=1000000:=UE hf h UD _ a ha U
def VO(hf:A2 t)(h:Ft t)(e:0<=a)(ha:a<t.dl.length):∀x∈A4 t a,x.Low<=x.Aab:=UE hf h qO _ a ha U
def bn(e:E8 t k):∀(n:Nat)(a b:Int),a<k->a<n->b∈K6 t n a->0<=b/\b<=a/\(A4 t b).length<=(B6 t n a).length
 |0,_,_,_,_=>by simp[K6]|n+1,a,b,ha,y=>by
  intro hb;rw[K6]at hb;split at hb
  .cases hb
  .rename_i o;have u:=e a U ha;rw[RZ U];rcases x?.1 hb with rfl|hb
   .refine⟨U,U,?_⟩;unfold A4;rw[Oy e (b+1).toNat (n+1) b ha U U,RZ U];exact az _
   .have:=bn e n (par t a) b U U hb
    grind
variable{b:Int}
def ar(h:Ft t)(ha:a<t.dl.length)(hb:HI t a b=X):(A4 t b).length<=(A4 t a).length:=by
 unfold HI at hb;rw[y_]at hb;obtain⟨x,o,e⟩:=hb;rw[qo]at e;subst e;by_cases u:a<0
 .have:(a+1).toNat=0:=U
  rw [this]at o;cases o
 .exact(bn h.par (a+1).toNat a b ha U o).2.2
def ky{α:Type}{Q:Prop}[Decidable Q]{v:α}{ζ:Option α}{δ:α}(he:a=b↔Q)(h:Q->ζ=Y δ):(if(!decide (a=b))=X then Y v else ζ)=Y (if¬Q then v else δ):=n_
def RI(t:AC)(k:Int)(v:Fp)(j:Int):Bool:=decide (AA v j<(AA (A4 t k) j).Low)||decide ((AA (A4 t k) j).Aab<AA v j)
def Gx(t:AC)(k:Int)(v:Fp):Int:=
 if (t.dl.length:Int)<=k then 6 else if(AA t.dl k).o3=X then 13 else if¬v.length=(A4 t k).length then 20 else
 if kp (RI t k v) 0 (A4 t k).length=X then 6 else 0
def Jm(t:AC)(g:d3)(i:Int):Int:=
 if (t.dr.length:Int)<=(AA g.dr i).ib then 6 else if H4 t g i=T then 13 else 0
def Dl(t:AC)(h:AE):Int×Int:=
 if (BD t).2≠0 then(-1,(BD t).2)else if CG h.d3≠0 then(-1,CG h.d3)else if¬h.ec.length=h.d3.dl.length then(-1,20)else
 match fst (λi=>(nz (Gx t (AA h.d3.dl i) (AA h.ec i))).map λe=>(i,e)) 0 h.d3.dl.length with
 |some r=>r|none=>(fst (λi=>(nz (Jm t h.d3 i)).map λe=>(i,e)) 0 h.d3.dr.length).getD (-1,0)
def Jc(hv:(BD t).2=0)(e:0<=k)(o:k<t.dl.length):Fw t k=(A4 t k,0):=by grind[Fw,NW]
theorem Wf{x:Bool}{y:Bool}:(if x=X then Y X else Y y)=Y (x||y):=by cases x<;>rfl
def vN(hf:A2 t)(hv:(BD t).2=0)(e:0<=k)(v:Fp):Mn t k v=Y (Gx t k v):=by
 unfold Mn Gx;by_cases o:(t.dl.length:Int)<=k
 .grind
 rw [ae c?,ae o,AD e U,bs];refine du λ_=>?_;rw[Ts hf,Jc hv e U,bs];refine ky an λu=>?_;rw[Bq (RI t k v) 6]
 .cases kp (RI t k v) 0 (A4 t k).length<;>rfl
 grind [A4,AD,Wf,RI,AA]
def vo(hf:A2 t)(hv:(BD t).2=0)(e:0<=k)(v:Fp):Ld t k v=Y (Gx t k v):=by
 unfold Ld Gx;by_cases o:(t.dl.length:Int)<=k
 .grind
 rw [ae c?,ae o,AD e U,bs];refine du λ_=>?_;rw[O7 hf,Jc hv e U,bs];refine ky an λu=>?_;rw[Bq (RI t k v) 6]
 .cases kp (RI t k v) 0 (A4 t k).length<;>rfl
 grind [A4,AD,Wf,RI,AA]
def fG(e i:Int):(if(!decide (e=0))=X then Y (B2.ret (σ:=Unit) (ρ:=Int×Int) (i,e))else Y (.next ()))=Y (TN ((nz e).map λe=>(i,e))):=by grind[nz,TN]
theorem Vw(hf:A2 t)(h:AE):HL t h=Y (Dl t h):=by
 unfold HL Dl;rw[O6 hf,bs];refine D1 λhv=>?_;rw[NZ,bs];refine D1 λy=>?_;have go:=DY y;refine ky U λF=>?_;rw[Bi (λi=>(nz (Gx t (AA h.d3.dl i) (AA h.ec i))).map λe=>(i,e)),Dj]
 .cases z:fst (λi=>(nz (Gx t (AA h.d3.dl i) (AA h.ec i))).map λe=>(i,e)) 0 h.d3.dl.length with
  |some r=>rfl|none=>
   have D:=A8.1 z;dsimp only;rw[Bi (λi=>(nz (Jm t h.d3 i)).map λe=>(i,e)),Dj]
   .grind
   .intro i o i1 _;have E:=go.fit _ (AG (l:=h.d3.dr) o i1);rw[AD o i1,bs];unfold Jm H4;by_cases u:(t.dr.length:Int)<=(AA h.d3.dr i).ib
    .rw[ac d?,ac u];rfl
    .rw[ae d?,ae u,AD U U,bs,AD U U,bs,oM hf,bs];cases LV t (AA h.d3.dr i).ib (AA h.d3.dl (AA h.d3.dr i).ia) (AA h.d3.dl (AA h.d3.dr i).To)<;>rfl
 .intro i o i1 _;rw[AD o i1,bs,AD o U,bs,vN hf hv (go.kind _ (AG o i1)).1,bs];exact fG _ i
def V3(hf:A2 t)(h:AE):GD t h=Y (Dl t h):=by
 unfold GD Dl;rw[R7 hf,bs];refine D1 λhv=>?_;rw[Na,bs];refine D1 λy=>?_;have go:=DY y;refine ky U λF=>?_;rw[Bi (λi=>(nz (Gx t (AA h.d3.dl i) (AA h.ec i))).map λe=>(i,e)),Dj]
 .cases z:fst (λi=>(nz (Gx t (AA h.d3.dl i) (AA h.ec i))).map λe=>(i,e)) 0 h.d3.dl.length with
  |some r=>rfl|none=>
   have D:=A8.1 z;dsimp only;rw[Bi (λi=>(nz (Jm t h.d3 i)).map λe=>(i,e)),Dj]
   .grind
   .intro i o i1 _;have E:=go.fit _ (AG (l:=h.d3.dr) o i1);rw[AD o i1,bs];unfold Jm H4;by_cases u:(t.dr.length:Int)<=(AA h.d3.dr i).ib
    .rw[ac d?,ac u];rfl
    .rw[ae d?,ae u,AD U U,bs,AD U U,bs,Y6 hf,bs];cases LV t (AA h.d3.dr i).ib (AA h.d3.dl (AA h.d3.dr i).ia) (AA h.d3.dl (AA h.d3.dr i).To)<;>rfl
 .intro i o i1 _;rw[AD o i1,bs,AD o U,bs,vo hf hv (go.kind _ (AG o i1)).1,bs];exact fG _ i
structure It(t:AC)(h:AE):Prop where
 g:Cu h.d3
 len:h.ec.length=h.d3.dl.length
 kind:∀i:Int,0<=i->i<h.d3.dl.length->0<=AA h.d3.dl i/\AA h.d3.dl i<t.dl.length
 row:∀i:Int,0<=i->i<h.d3.dl.length->(AA h.ec i).length=(A4 t (AA h.d3.dl i)).length
 low:∀i:Int,0<=i->i<h.d3.dl.length->∀x∈AA h.ec i,-1000000<=x/\x<=1000000
 ge:CG h.d3=0
 ty:C5 t h.d3=X
variable{h:AE}
def UY(e:(Dl t h).2=0):(∀i:Int,0<=i->i<h.d3.dl.length->Gx t (AA h.d3.dl i) (AA h.ec i)=0)/\∀i:Int,0<=i->i<h.d3.dr.length->Jm t h.d3 i=0:=by
 unfold Dl at e;split at e
 next y=>exact absurd e y
 split at e
 next y=>exact absurd e y
 split at e
 .cases e
 rename_i y E F;have D:∀i:Int,0<=i->i<h.d3.dl.length->Gx t (AA h.d3.dl i) (AA h.ec i)=0:=by
  split at e
  .rename_i r hr;obtain⟨i,_,_,k,_⟩:=Cd hr;unfold nz at k;split at k
   .cases k
   next o=>cases k;exact absurd e o
  next hr=>exact λi u i1=>G9.1 (Oq.1 (A8.1 hr i u i1))
 have he:∀i:Int,0<=i->i<h.d3.dr.length->Jm t h.d3 i=0:=by
  have z:fst (λi=>(nz (Gx t (AA h.d3.dl i) (AA h.ec i))).map λe=>(i,e)) 0 h.d3.dl.length=W:=A8.2 λi u i1=>by rw[D i u i1];rfl
  rw [z]at e;dsimp only at e;cases hr:fst (λi=>(nz (Jm t h.d3 i)).map λe=>(i,e)) 0 h.d3.dr.length with
  |some r=>
   rw [hr]at e;obtain⟨i,_,_,k,_⟩:=Cd hr;unfold nz at k;split at k
   .cases k
   next o=>cases k;exact absurd e o
  |none=>exact λi u i1=>G9.1 (Oq.1 (A8.1 hr i u i1))
 exact ⟨D,he⟩
theorem O1(hf:A2 t)(e:(Dl t h).2=0):(BD t).2=0/\It t h:=by
 obtain ⟨D,he⟩:=UY e;unfold Dl at e;split at e
 next u=>exact absurd e u
 split at e
 next u=>exact absurd e u
 split at e
 .cases e
 rename_i u G J;have hv:=K'.1 u;have go:=DY (K'.1 G);have z:∀i:Int,0<=i->i<h.d3.dl.length->(0<=AA h.d3.dl i/\AA h.d3.dl i<t.dl.length)/\(AA h.ec i).length=(A4 t (AA h.d3.dl i)).length/\∀j:Int,0<=j->j<(A4 t (AA h.d3.dl i)).length->RI t (AA h.d3.dl i) (AA h.ec i) j=T:=by
  intro i o i1;have N:=(go.kind _ (AG o i1)).1;have:=D i o i1;unfold Gx at this;split at this
  .cases this
  split at this
  .cases this
  split at this
  .cases this
  split at this
  .cases this
  rename_i a1 a2 a3 K;exact⟨⟨N,U⟩,K'.1 a3,B5.1 (by simpa using K)⟩
 have F:C5 t h.d3=X:=by
  unfold C5;rw[mo,K?,K?,y!,y!];refine⟨λn D=>?_,λx E=>?_⟩
  .obtain⟨i,o,i1,rfl⟩:=BP D;have:=(z i o i1).1.2;simp;omega
  .obtain⟨i,o,i1,rfl⟩:=BP E;have:=he i o i1;unfold Jm at this;split at this
   .cases this
   .simp;omega
 suffices y:∀i:Int,0<=i->i<h.d3.dl.length->∀x∈AA h.ec i,-1000000<=x/\x<=1000000 from⟨hv,go,K'.1 J,λi o i1=>(z i o i1).1,λi o i1=>(z i o i1).2.1,y,K'.1 G,F⟩
 intro i o i1 x E;obtain⟨H,P,O⟩:=z i o i1;obtain⟨j,I,S,rfl⟩:=BP E;have:=O j I U;unfold RI at this;simp[decide_eq_false_iff_not]at this;have:=Ra hf (Cw hv) H.1 H.2 _ (AG (l:=A4 t (AA h.d3.dl i)) I U);omega
end Go.Sf.Sc
namespace Go.Sf.Sc
open Go Go.Sf
def Kj(t:AC)(p g:d3)(m:d4)(i:Int):a5:=
 if AA m.dl i<0\/g.dl.length<=AA m.dl i then Y 6 else if HI t (AA g.dl (AA m.dl i)) (AA p.dl i)=T then Y 13 else W
def Od(t:AC)(p g:d3)(m:d4):Int:=
 if m.dl.length≠p.dl.length\/m.dr.length≠p.dr.length then 20 else
 match fst (Kj t p g m) 0 m.dl.length with
 |some e=>e|none=>(fst (Gz p g m) 0 m.dr.length).getD 0
def Gp(t:AC)(p g:d3)(m:d4)(inj:Bool):Int:=
 if Ew t p g≠0 then Ew t p g else if Od t p g m≠0 then Od t p g m else if(inj&&!Iz m)=X then 5 else 0
structure Z2(t:AC)(p g:d3)(m:d4):Prop where
 wi:m.dl.length=p.dl.length
 x9:m.dr.length=p.dr.length
 node:∀i:Int,0<=i->i<m.dl.length->(0<=AA m.dl i/\AA m.dl i<g.dl.length)/\HI t (AA g.dl (AA m.dl i)) (AA p.dl i)=X
 edge:∀i:Int,0<=i->i<m.dr.length->0<=AA m.dr i/\AA m.dr i<g.dr.length
variable{t:AC}
def On{p g:d3}(h:Ew t p g=0):(BD t).2=0/\Cu p/\Cu g/\(∀n∈p.dl,0<=n/\n<t.dl.length)/\∀n∈g.dl,0<=n/\n<t.dl.length:=by
 unfold Ew at h;split at h
 .grind
 split at h
 .grind
 split at h
 .grind
 split at h
 .rename_i o u y e;rw[mo]at e
  grind [DY,H9]
 .cases h
variable{m:d4}
theorem kF{p g:d3}(h:Od t p g m=0):Z2 t p g m:=by
 unfold Od at h;split at h
 .cases h
 rename_i o;have e:fst (Kj t p g m) 0 m.dl.length=W:=by
  grind [Cd,Kj]
 rw [e]at h;have he:=S1 (λi=>by
  grind [Gz]) h
 refine ⟨U,U,λi i1 i2=>?_,λi i1 i2=>?_⟩
 .grind[A8,Kj]
 grind [Gz]
def bK(hf:A2 t){p g:d3}(F:Ew t p g=0)(m:d4):Hk t p g m=Y (Od t p g m):=by
 obtain ⟨hv,H,N,tp,I⟩:=On F;unfold Hk Od;refine Qz i9 λJ=>?_;rw[l5 hf (Cw hv) hv,bs,Bi (Kj t p g m),Dj]
 .cases K:fst (Kj t p g m) 0 m.dl.length with
  |some e=>rfl|none=>
   dsimp only;rw[Bi (Gz p g m),DD];intro i i1 i2 _;unfold Gz;rw[AD i1 i2,bs];by_cases o:AA m.dr i<0\/g.dr.length<=AA m.dr i
   .rw[ac c?,ac o];rfl
   .have hf:=H.fit _ (AG (l:=p.dr) i1 U);rw[ae c?,ae o,AD i1 U,bs,AD U U,bs];by_cases u:(AA p.dr i).ib=(AA g.dr (AA m.dr i)).ib
    .rw[ae d?,ae d?,AD U U,bs];by_cases y:AA m.dl (AA p.dr i).ia=(AA g.dr (AA m.dr i)).ia
     .rw[ae m?,AD U U,bs,bs];by_cases z:AA m.dl (AA p.dr i).To=(AA g.dr (AA m.dr i)).To
      .rw[ae d!,ae (by simp[y,z])];rfl
      .rw[ac d!,ac (.inr z)];rfl
     .rw[ac m?,bs,ac rfl,ac (.inl y)];rfl
    .rw[ac d?,ac u];rfl
 .intro i i1 i2 _;unfold Kj;rw[AD i1 i2,bs];by_cases o:AA m.dl i<0\/g.dl.length<=AA m.dl i
  .rw[ac c?,ac o];rfl
  .have D:=tp _ (AG (l:=p.dl) i1 U);have E:=I _ (AG (l:=g.dl) (show 0<=AA m.dl i by omega) U);rw[ae c?,ae o,AD i1 U,bs,AD D.1 (by unfold KQ;rw[c9,Ay];exact D.2),bs,AD U U,bs];have e:AA (KQ t) (AA p.dl i)=Pp t (AA p.dl i):=by unfold KQ;exact Ir (Pp t) D.1 D.2
   rw [e,AD E.1 (by unfold Pp;rw[c9,Ay];exact E.2),bs];have G:AA (Pp t (AA p.dl i)) (AA g.dl (AA m.dl i))=HI t (AA g.dl (AA m.dl i)) (AA p.dl i):=by unfold Pp;exact Ir (λk=>HI t k (AA p.dl i)) E.1 E.2
   rw [G];cases HI t (AA g.dl (AA m.dl i)) (AA p.dl i)<;>rfl
variable{l:Fp}
def jx(e:l.length<=1000):I8 l=Y (!KB l):=by grind[I8,XS,KC,Abv,KB]
theorem Zp(hf:A2 t)(p g:d3)(m:d4)(inj:Bool):GT t p g m inj=Y (Gp t p g m inj):=by
 unfold GT Gp;rw[Wi hf,bs];refine ET λe=>?_;rw[bK hf e,bs];refine ET λy=>?_;obtain⟨_,u,z,_⟩:=On e;have o:=kF y;have:=u.ea;have:=u.eb;have:=o.wi;have:=o.x9;rw[jx U,jx U];unfold Iz;cases inj<;>cases KB m.dl<;>cases KB m.dr<;>rfl
theorem vg(l:Fp):Ky l=Y (KB l):=dK l
def oz{p g:d3}(E:Ew t p g=0)(m:d4)(inj:Bool):KJ t p g m inj=Y (if Od t p g m≠0 then Od t p g m else if(inj&&!Iz m)=X then 5 else 0):=by
 obtain ⟨hv,H,K,tp,I⟩:=On E;unfold KJ Od;by_cases F:m.dl.length≠p.dl.length\/m.dr.length≠p.dr.length
 .grind
 rw [ae i9,ae F,Bi (Kj t p g m),Dj]
 .cases J:fst (Kj t p g m) 0 m.dl.length with
  |some e=>
   grind [Cd,Kj]
  |none=>
   dsimp only;rw[Bi (Gz p g m),Dj]
   .grind[fst,Gz,Cd,vg,Iz,KB]
   intro i i1 i2 _;unfold Gz;rw[AD i1 i2];simp only[bs,Vv];by_cases o:AA m.dr i<0\/g.dr.length<=AA m.dr i
   .rw[ac c?,ac o];rfl
   .have hf:=H.fit _ (AG (l:=p.dr) i1 U);rw[ae c?,ae o,AD i1 U,bs,AD U U,bs];by_cases u:(AA p.dr i).ib=(AA g.dr (AA m.dr i)).ib
    .rw[ae d?,ae d?,AD U U,bs];by_cases y:AA m.dl (AA p.dr i).ia=(AA g.dr (AA m.dr i)).ia
     .rw[ae m?,AD U U,bs,bs];by_cases z:AA m.dl (AA p.dr i).To=(AA g.dr (AA m.dr i)).To
      .rw[ae d!,ae (by simp[y,z])];rfl
      .rw[ac d!,ac (.inr z)];rfl
     .rw[ac m?,bs,ac rfl,ac (.inl y)];rfl
    .rw[ac d?,ac u];rfl
 .intro i i1 i2 _;unfold Kj;rw[AD i1 i2];simp only[bs,Vv];by_cases o:AA m.dl i<0\/g.dl.length<=AA m.dl i
  .rw[ac c?,ac o];rfl
  .have G:=tp _ (AG (l:=p.dl) i1 U);have D:=I _ (AG (l:=g.dl) (show 0<=AA m.dl i by omega) U);rw[ae c?,ae o,AD U U,bs,AD i1 U,bs,Wl (Cw hv) D.1 D.2 G.1,bs];cases HI t (AA g.dl (AA m.dl i)) (AA p.dl i)<;>rfl
theorem Zu(hf:A2 t)(p g:d3)(m:d4)(inj:Bool):HU t p g m inj=Y (Gp t p g m inj):=by
 unfold HU Gp;rw[Up hf,bs];refine ET λe=>?_;rw[oz e,bs]
theorem dw{p g:d3}{inj:Bool}(h:Gp t p g m inj=0):Ew t p g=0/\Z2 t p g m:=by grind[Gp,kF]
end Go.Sf.Sc
namespace Go.Sf.Sc
open Go Go.Sf
section
variable{α σ ρ:Type}
def Er(step:α->σ->B2 σ ρ):List α->σ->σ ⊕ ρ
 |[],s=>.inl s|a::r,s=>match step a s with
  |.next s'=>Er step r s'|.brk s'=>.inl s'|.ret r=>.inr r
variable{f:Int->σ->Option (B2 σ ρ)}
def Vd[Inhabited α]{l:List α}(step:α->σ->B2 σ ρ)(I:σ->Prop)(h:∀(i:Int)s,0<=i->i<l.length->I s->f i s=Y (step (AA l i) s)/\∀s',step (AA l i) s=.next s'->I s'):
  ∀(n:Nat)(a:Int)(s:σ),0<=a->a+n=l.length->I s->t5 f n a s=Y (Er step (l.drop a.toNat) s)
 |0,a,s,e,z,_=>by
  rw [y? U];rfl
 |n+1,a,s,e,z,D=>by
  obtain ⟨u,y⟩:=h a s e U D;have hd:l.drop a.toNat=AA l a::l.drop (a+1).toNat:=by
   grind [z_,AA,z!]
  rw [GO,u,hd,Er];cases o:step (AA l a) s with
  |next s'=>
   simp only;exact Vd step I h n (a+1) s' U U (y s' o)
  |brk s'=>rfl|ret r=>rfl
theorem S0[Inhabited α]{l:List α}(step:α->σ->B2 σ ρ)(I:σ->Prop){s:σ}(e:I s)(h:∀(i:Int)s,0<=i->i<l.length->I s->f i s=Y (step (AA l i) s)/\∀s',step (AA l i) s=.next s'->I s'):
  hV f 0 l.length s=Y (Er step l s):=by
 have:=Vd step I h l.length 0 s U U e;unfold hV;rw[show((l.length:Int)-0).toNat=l.length by omega];exact this
def gW[Inhabited α](step:α->σ->B2 σ ρ)(I:σ->Prop):∀(l:List α)(s s':σ),I s->(∀a∈l,∀s s',I s->step a s=.next s'->I s')->(∀a∈l,∀s s',step a s≠.brk s')->Er step l s=.inl s'->I s'
 |[],s,s',h,_,_,e=>by cases e;exact h
 |a::r,s,s',h,o,hb,e=>by
  rw [Er]at e;split at e
  next s2 u=>exact gW step I r s2 s' (o a V s s2 h u) (λa ha=>o a (by simp[ha])) (λa ha=>hb a (by simp[ha])) e
  .grind
  .cases e
end
def Dc(x:gl)(l:Fp):Int:=if x.Var<0 then x.Add else AJ (AA l x.Var+x.Add)
variable{x:gl}{l:Fp}
theorem Vx(h:x.Var<l.length):FB x l=Y (Dc x l):=by grind[FB,Dc,AD]
theorem bX(h:x.Var<l.length):KL x l=Y (Dc x l):=Vx h
def fM(e:-1<=x.Var)(h:x.Var<l.length)(o:l.length<=1000):Fv x l=Y (Dc x l,0):=by grind[Fv,C8,AU,Vx]
def QK(e:-1<=x.Var)(h:x.Var<l.length):FW x l=Y (Dc x l,0):=by grind[FW,bX]
def MP(x:Test)(l:Fp):Bool:=(decide (x.kg=1)&&decide (Dc x.f0 l<=Dc x.eh l))||(decide (x.kg=2)&&decide (Dc x.f0 l=Dc x.eh l))
structure Ja(n:Int)(x:gl):Prop where
 low:-1<=x.Var
 high:x.Var<n
 add:-1000000<=x.Add/\x.Add<=1000000
def RE(l:Fp):Prop:=∀x∈l,-2000000<=x/\x<=2000000
variable{n:Int}
def Uz(h:Ja n x)(e:RE l)(o:n<=l.length):Dc x l=(if x.Var<0 then x.Add else AA l x.Var+x.Add)/\-3000000<=Dc x l/\Dc x l<=3000000:=by
 unfold Dc;have:=h.add;by_cases u:x.Var<0
 .grind
 .have hh:=h.high;have:=e _ (AG (l:=l) (show 0<=x.Var by omega) U)
  grind [AU]
def bW(h:Ja n x)(e:n<=l.length):MD x l=Y (Dc x l,X):=by
 have o:=h.low;have u:=h.high
 grind [MD,Dc,AD]
theorem r_holds{x:Test}(o:Ja n x.f0)(u:Ja n x.eh)(e:n<=l.length):N9 x l=Y (MP x l):=by
 unfold N9;rw[bW o e,bW u e];rfl
variable{a b:Int}
def bv(ha:-4000000<=a/\a<=4000000)(hb:-4000000<=b/\b<=4000000):Hs a b=Y (if a+b<0 then(-1,a+b+18446744073709551616)else(0,a+b)):=by
 have o:∀c:Int,IntKind.u64.wrap c=c % 18446744073709551616:=λc=>by
  simp [IntKind.wrap,IntKind.signed,IntKind.bits]
 have u:∀c:Int,-4000000<=c/\c<=4000000->Gy .i64 .shr c 63=Y (if c<0 then -1 else 0):=by
  intro c D;unfold Gy;have e:c.fdiv (2^ (min (63:Int).toNat (IntKind.bits .i64)))=if c<0 then -1 else 0:=by
   show c.fdiv (2^ 63)=_
   grind
  simp only[e];have:(0:Int)<=63/\IntKind.min .i64<=(if c<0 then -1 else 0)/\(if c<0 then -1 else 0)<=IntKind.max .i64:=by
   split<;>decide
  rw [ac this]
 unfold Hs Jt;rw[o,o,ac U,bs,u a ha,u b hb,bs,bs];congr 1;have E:∀c:Int,-10<=c->c<=10->AJ c=c:=λc y z=>AU U U
 grind
def Lx(a:Int):Int×Int:=if a<0 then(-1,a+18446744073709551616)else(0,a)
def fU(h:Ja n x)(o:RE l)(z:n<=l.length):Fy x l=Y ((Lx (Dc x l)).1,(Lx (Dc x l)).2,X):=by
 have D:=h.low;have E:=h.high;have F:=h.add;have u:=(Uz h o z).1;unfold Fy;by_cases y:x.Var=-1
 .have e:Dc x l=x.Add:=by rw[u,ac U]
  rw [e,ac m?,bv U U,bs,Int.zero_add];rfl
 .have:=o _ (AG (l:=l) (show 0<=x.Var by omega) U);have e:Dc x l=AA l x.Var+x.Add:=by rw[u,ae U]
  rw [e,ae m?,ae an,AD U U,bs,bv U U,bs];rfl
def tZ(a b:Int):cmp_Compare_int a b=Y (if a<b then -1 else if b<a then 1 else 0):=by
 unfold cmp_Compare_int cmp_isNaN_int
 grind
def AA3(a b:Int):Je a b=Y (if a<b then -1 else if b<a then 1 else 0):=tZ a b
def xL(a b:Int):PM [a,b]=Y (if a=0 then b else a):=by
 unfold PM;show ej (t5 _ 2 0 ()) _ _=_;rw[GO,show idx [a,b] 0=Y a from rfl,bs]
 grind [ej,t5,GO,idx]
theorem p_holds{x:Test}(u:Ja n x.f0)(y:Ja n x.eh)(e:RE l)(o:n<=l.length):G6 x l=Y (MP x l):=by
 have z:=(Uz u e o).2;have s2:=(Uz y e o).2;unfold G6 MP;rw[fU u e o,fU y e o];simp[tZ,AA3,xL];generalize Dc x.f0 l=a at z;generalize Dc x.eh l=b at s2;have key:(if(if(Lx a).1<(Lx b).1 then(-1:Int)else if(Lx b).1<(Lx a).1 then 1 else 0)=0 then(if(Lx a).2<(Lx b).2 then(-1:Int)else if(Lx b).2<(Lx a).2 then 1 else 0)else(if(Lx a).1<(Lx b).1 then(-1:Int)else if(Lx b).1<(Lx a).1 then 1 else 0))=if a<b then -1 else if b<a then 1 else 0:=by
  grind [Lx]
 rw [key];congr 2
 .grind
 grind
end Go.Sf.Sc
namespace Go.Sf.Sc
open Go Go.Sf
structure U7(t:AC)(q:d6):Prop where
 g:Cu q.d3
 kind:∀n∈q.d3.dl,0<=n/\n<t.dl.length
 vars:0<=q.em/\q.em<=12
 few:q.ei.length<=10/\q.jj.length<=10
 slot:∀s∈q.ei,(0<=s.mL/\s.mL<q.d3.dl.length)/\(0<=s.ke/\s.ke<(A4 t (AA q.d3.dl s.mL)).length)/\Ja q.em s.gl
 test:∀x∈q.jj,(x.kg=1\/x.kg=2)/\Ja q.em x.f0/\Ja q.em x.eh
 ge:CG q.d3=0
 ty:C5 t q.d3=X
variable{n:Int}{x:gl}
theorem tJ(h:Og n x=X):Ja n x:=by
 unfold Og at h;simp[qo]at h;exact⟨h.1.1.1,h.1.1.2,h.1.2,h.2⟩
def tK{l:List Test}(h:J6 n l=0):∀x∈l,(x.kg=1\/x.kg=2)/\Ja n x.f0/\Ja n x.eh:=by
 unfold J6 at h;split at h
 .cases h
 split at h
 .cases h
 have u:=Vf h;intro x e;obtain⟨i,y,i1,rfl⟩:=BP e;have:=u i y i1;unfold Lq at this;split at this
 .cases this
 split at this
 .rename_i z o;rw[mo]at o
  grind [tJ]
 .cases this
theorem mY(n:Int)(l:List Test):J6 n l≠9:=by
 unfold J6;split
 .decide
 split
 .decide
 intro h;cases hr:fst (λi=>nz (Lq n (AA l i))) 0 l.length with
 |none=>rw[hr]at h;cases h
 |some r=>
  grind [Cd,nz,Lq]
variable{t:AC}{q:d6}
theorem rc(hv:(BD t).2=0)(h:FK t q=0\/FK t q=9):U7 t q:=by
 have E:=YZ q.d3;unfold FK at h;rw[ae j!]at h;split at h
 .omega
 rename_i u;have g:=DY (K'.1 u);split at h
 .omega
 rename_i o;split at h
 .omega
 rename_i G;split at h
 .omega
 rename_i H;split at h
 .omega
 rename_i I;split at h
 .grind[mY]
 rename_i D;refine⟨g,(H9 g c?).1,U,U,λs F=>?_,tK (K'.1 D),K'.1 u,c?⟩;have hb:TO t q s=T:=by
  grind
 unfold TO at hb;simp[Bool.not_eq_false',decide_eq_false_iff_not]at hb;obtain⟨⟨⟨e,K⟩,N⟩,O,P⟩:=hb;unfold Ss at e;dsimp only at e;split at e
 .cases e
 rename_i J;have z:=(H9 g c?).1 _ (AG (l:=q.d3.dl) (show 0<=s.mL by omega) U);rw[Jc hv z.1 z.2]at e;split at e
 .cases e
 rename_i y;have y:¬(s.ke<0\/((A4 t (AA q.d3.dl s.mL)).length:Int)<=s.ke):=y;exact⟨U,U,U,U,U,U⟩
def Oo(h:AE)(m:d4)(s:CF):Int:=AA (AA h.ec (AA m.dl s.mL)) s.ke
def Qt(h:AE)(m:d4)(s:CF)(st:Fp×a6):Fp×a6:=
 if 0<=s.gl.Var/\AA st.2 s.gl.Var=T then(BE st.1 s.gl.Var (AJ (Oo h m s-s.gl.Add)),BE st.2 s.gl.Var X)else st
def FX{ρ:Type}(r:ρ)(h:AE)(m:d4)(s:CF)(st:Fp×a6):B2 (Fp×a6) ρ:=
 if Dc s.gl (Qt h m s st).1=Oo h m s then .next (Qt h m s st)else .ret r
structure VI(n:Int)(st:Fp×a6):Prop where
 l1:(st.1.length:Int)=n
 l2:(st.2.length:Int)=n
 small:RE st.1
structure Kf(n:Int)(h:AE)(m:d4)(s:CF):Prop where
 node:0<=s.mL/\s.mL<m.dl.length
 val:0<=AA m.dl s.mL/\AA m.dl s.mL<h.ec.length
 Abx:0<=s.ke/\s.ke<(AA h.ec (AA m.dl s.mL)).length
 term:Ja n s.gl
 has:-1000000<=Oo h m s/\Oo h m s<=1000000
variable{h:AE}{m:d4}{s:CF}
theorem PA(u:Ft t)(y:U7 t q)(hh:It t h)(o:Z2 t q.d3 h.d3 m)(z:s∈q.ei):Kf q.em h m s:=by
 obtain ⟨E,F,G⟩:=y.slot s z;have H:=o.wi;have e:=o.node s.mL E.1 U;have hr:=hh.row _ e.1.1 e.1.2;have D:=hh.kind _ e.1.1 e.1.2;have hb:=ar u D.2 e.2;have hv:=hh.len;refine⟨U,U,U,G,?_⟩;unfold Oo;exact hh.low _ e.1.1 e.1.2 _ (AG F.1 U)
theorem DW{α:Type}(l:List α)(i:Int)(a:α):(BE l i a).length=l.length:=by unfold BE;rw[List.length_set]
variable{i:Int}
def sH{α:Type}{l:List α}{a x:α}(h:x∈BE l i a):x∈l\/x=a:=z? h
variable{st:Fp×a6}
theorem pN(o:Kf n h m s)(hi:VI n st):VI n (Qt h m s st):=by
 have u:=o.has;have y:=o.term.add;unfold Qt;split
 .refine⟨by rw[DW];exact hi.l1,by rw[DW];exact hi.l2,λx e=>?_⟩;rcases sH e with e|rfl
  .exact hi.small x e
  grind [AU]
 .exact hi
def GY(q:d6)(h:AE)(m:d4):Fp×Int:=
 match Er (FX (([],11):Fp×Int) h m) q.ei (A_ q.em.toNat 0,A_ q.em.toNat T)with
 |.inr r=>r|.inl st=>if kp (λi=>!MP (AA q.jj i) st.1) 0 q.jj.length=X then([],16)else(st.1,0)
theorem T4(e:0<=n):VI n (A_ n.toNat 0,A_ n.toNat T):=by
 refine ⟨an,an,λx o=>?_⟩
 grind
variable{st':Fp×a6}
theorem RC{ρ:Type}{r:ρ}(o:Kf n h m s)(hi:VI n st)(e:FX r h m s st=.next st'):VI n st':=by grind[FX,pN]
def pO{ρ:Type}{r:ρ}:FX r h m s st≠.brk st':=by grind[FX]
theorem QM{ρ:Type}{r:ρ}{l:List CF}(o:∀s∈l,Kf n h m s)(hi:VI n st)(e:Er (FX r h m) l st=.inl st'):VI n st':=
 gW (FX r h m) (VI n) l st st' hi (λa ha _ _ u y=>RC (o a ha) u y) (λ_ _ _ _=>pO) e
theorem Rx{ρ:Type}{r:ρ}(E:Kf n h m s)(hi:VI n st){θ:Fp×a6->Option (B2 (Fp×a6) ρ)}
  (y:∀st':Fp×a6,(st'.1.length:Int)=n->θ st'=Y (if Dc s.gl st'.1=Oo h m s then .next st' else .ret r)):
  ((if(decide (0<=s.gl.Var))=X then((idx st.2 s.gl.Var).bind λz=>Y (!z))else Y T).bind λD=>
   if D=X then(idx st.1 s.gl.Var).bind λ_=>(idx st.2 s.gl.Var).bind λ_=>θ (BE st.1 s.gl.Var (AJ (Oo h m s-s.gl.Add)),BE st.2 s.gl.Var X)else θ (st.1,st.2))=Y (FX r h m s st):=by
 have F:=E.term.high;have l1:=hi.l1;have l2:=hi.l2;unfold FX;by_cases o:0<=s.gl.Var
 .rw[ac c?,AD o U,bs,bs];by_cases u:AA st.2 s.gl.Var=T
  .rw[ac l!,AD o U,bs,bs,y _ (by dsimp only;rw[DW];exact l1)];have e:Qt h m s st=(BE st.1 s.gl.Var (AJ (Oo h m s-s.gl.Add)),BE st.2 s.gl.Var X):=by unfold Qt;rw[ac ⟨o,u⟩]
   rw [e]
  .rw[ae d?,y _ l1];have e:Qt h m s st=st:=by unfold Qt;rw[ae (λe=>u e.2)]
   rw [e]
 .rw[ae c?,bs,ae a!,y _ l1];have e:Qt h m s st=st:=by unfold Qt;rw[ae (λe=>o e.1)]
  rw [e]
theorem ic{ρ:Type}{r:ρ}(y:Kf n h m s)(hi:VI n st){θ:Fp×a6->Option (B2 (Fp×a6) ρ)}
  (z:∀st':Fp×a6,(st'.1.length:Int)=n->θ st'=Y (if Dc s.gl st'.1=Oo h m s then .next st' else .ret r)):
  ((if(decide (0<=s.gl.Var))=X then((idx st.2 s.gl.Var).bind λe=>Y (!e))else Y T).bind λo=>
   if o=X then(idx st.2 s.gl.Var).bind λ_=>(idx st.1 s.gl.Var).bind λ_=>θ (BE st.1 s.gl.Var (AJ (Oo h m s-s.gl.Add)),BE st.2 s.gl.Var X)else θ (st.1,st.2))=Y (FX r h m s st):=by
 rw [<-Rx y hi z];have D:=y.term.high;have l1:=hi.l1;have l2:=hi.l2;by_cases u:0<=s.gl.Var
 .rw[AD u U,AD u U];rfl
 .rw[ae d?];rfl
variable{v:Int}
theorem bg{t:gl}{f:gl->Fp->a5}(hf:∀l:Fp,(l.length:Int)=n->f t l=Y (Dc t l))(st':Fp×a6)(o:(st'.1.length:Int)=n):((f t st'.1).bind λe=>if(!decide (e=v))=X then Y (B2.ret (([],11):Fp×Int))else Y (.next st'))=Y (if Dc t st'.1=v then .next st' else .ret ([],11)):=n_
theorem jv(y:U7 t q)(z:∀s∈q.ei,Kf q.em h m s):GL q h m=Y (GY q h m):=by
 have hv:=y.vars;unfold GL GY Gg;rw[ac U,bs,ac U,bs];rw[S0 (FX (([],11):Fp×Int) h m) (VI q.em) (T4 hv.1)]
 .cases hr:Er (FX (([],11):Fp×Int) h m) q.ei (A_ q.em.toNat 0,A_ q.em.toNat T)with
  |inr r=>rfl|inl st=>
   have hi:=QM z (T4 hv.1) hr;rw[B8,Bq (λi=>!MP (AA q.jj i) st.1) ([],16)]
   .dsimp only;cases kp (λi=>!MP (AA q.jj i) st.1) 0 q.jj.length<;>rfl
   .intro i o i1 _;have D:=y.test _ (AG o i1);rw[AD o i1,bs,p_holds D.2.1 D.2.2 hi.small (by have:=hi.l1;omega),bs]
    grind
 .intro i st o i1 hi;have ha:=z _ (AG o i1);refine⟨?_,λs' e=>RC ha hi e⟩;rw[AD o i1,bs,AD ha.node.1 ha.node.2,bs,AD ha.val.1 ha.val.2,bs,AD ha.Abx.1 ha.Abx.2,bs];exact Rx ha hi (θ:=λst'=>(FB (AA q.ei i).gl st'.1).bind λu=>if(!decide (u=Oo h m (AA q.ei i)))=X then Y (B2.ret (([],11):Fp×Int))else Y (.next st')) (bg λl E=>Vx q?)
theorem j9(y:U7 t q)(z:∀s∈q.ei,Kf q.em h m s):I3 q h m=Y (GY q h m):=by
 have hv:=y.vars;unfold I3 GY Gg;rw[ac U,bs,ac U,bs];rw[S0 (FX (([],11):Fp×Int) h m) (VI q.em) (T4 hv.1)]
 .cases hr:Er (FX (([],11):Fp×Int) h m) q.ei (A_ q.em.toNat 0,A_ q.em.toNat T)with
  |inr r=>rfl|inl st=>
   have hi:=QM z (T4 hv.1) hr;rw[B8,Bq (λi=>!MP (AA q.jj i) st.1) ([],16)]
   .dsimp only;cases kp (λi=>!MP (AA q.jj i) st.1) 0 q.jj.length<;>rfl
   .intro i o i1 _;have D:=y.test _ (AG o i1);rw[AD o i1,bs,r_holds D.2.1 D.2.2 (by have:=hi.l1;omega),bs]
    grind
 .intro i st o i1 hi;have ha:=z _ (AG o i1);refine⟨?_,λs' e=>RC ha hi e⟩;rw[AD o i1,bs,AD ha.node.1 ha.node.2,bs,AD ha.val.1 ha.val.2,bs,AD ha.Abx.1 ha.Abx.2,bs];exact ic ha hi (θ:=λst'=>(KL (AA q.ei i).gl st'.1).bind λu=>if(!decide (u=Oo h m (AA q.ei i)))=X then Y (B2.ret (([],11):Fp×Int))else Y (.next st')) (bg λl E=>bX q?)
def OX(t:AC)(p:d6)(h:AE):Int:=if FK t p≠0 then FK t p else(Dl t h).2
theorem bH(hf:A2 t)(p:d6)(h:AE):FA t p h=Y (OX t p h):=by
 unfold FA OX;rw[Yz hf,bs];refine ET λ_=>?_;rw[Vw hf];rfl
theorem bS(hf:A2 t)(p:d6)(h:AE):Ig t p h=Y (OX t p h):=by
 unfold Ig OX;rw[dM hf,bs];refine ET λ_=>?_;rw[V3 hf];rfl
def Gu(t:AC)(p:d6)(h:AE)(m:d4):Fp×Int:=
 if OX t p h≠0 then([],OX t p h)else if Gp t p.d3 h.d3 m T≠0 then([],Gp t p.d3 h.d3 m T)else GY p h m
variable{p:d6}
theorem Qu(hf:A2 t){inj:Bool}(e:OX t p h=0)(o:Gp t p.d3 h.d3 m inj=0):(BD t).2=0/\U7 t p/\It t h/\Z2 t p.d3 h.d3 m:=by
 unfold OX at e;split at e
 .grind
 rename_i u;obtain⟨hv,hh⟩:=O1 hf e;exact⟨hv,rc hv (.inl (K'.1 u)),hh,(dw o).2⟩
def jk(hf:A2 t)(p:d6)(h:AE)(m:d4):E9 t p h m=Y (Gu t p h m):=by
 unfold E9 Gu;rw[bH hf,bs];refine D1 λo=>?_;rw[Zp hf,bs];refine D1 λu=>?_;obtain⟨hv,e,hh,z⟩:=Qu hf o u;rw[jv e (λs y=>PA (Cw hv) e hh z y)];rfl
def vd(hf:A2 t)(p:d6)(h:AE)(m:d4):KK t p h m=Y (Gu t p h m):=by
 unfold KK Gu;rw[bS hf,bs];refine D1 λo=>?_;rw[Zu hf,bs];refine D1 λu=>?_;obtain⟨hv,e,hh,z⟩:=Qu hf o u;rw[j9 e (λs y=>PA (Cw hv) e hh z y)];rfl
theorem pP(o:U7 t q)(u:∀s∈q.ei,Kf q.em h m s)(e:(GY q h m).2=0):((GY q h m).1.length:Int)=q.em/\RE (GY q h m).1:=by
 unfold GY at e|-;cases hr:Er (FX (([],11):Fp×Int) h m) q.ei (A_ q.em.toNat 0,A_ q.em.toNat T)with
 |inr r=>
  rw [hr]at e;have:∀(l:List CF)(st:Fp×a6)(r:Fp×Int),Er (FX (([],11):Fp×Int) h m) l st=.inr r->r=([],11):=by
   intro l
   induction l with
   |nil=>intro st r h;cases h
   |cons a l z=>
    grind [Er,FX]
  grind
 |inl st=>
  rw [hr]at e;have hi:=QM u (T4 o.vars.1) hr;dsimp only at e|-;split at e
  .cases e
  next y=>rw[ae y];exact⟨hi.l1,hi.small⟩
end Go.Sf.Sc
namespace Go.Sf.Sc
open Go Go.Sf
variable{i:Int}
def Hl{n:Nat}{α:Type}[Inhabited α](F:Int->α)(e:0<=i)(v:α):BE ((Az n).map F) i v=(Az n).map λj=>if j=i then v else F j:=by
 unfold BE;refine A' V (λk o u=>?_)
 grind [Ay,Az]
theorem Cf{n:Nat}{α:Type}{F G:Int->α}(h:∀j,0<=j->j<(n:Int)->F j=G j):(Az n).map F=(Az n).map G:=by grind[A!,DA]
def II(n:Nat)(k:Int):a6:=(Az n).map λj=>decide (j<k)
def Yk(n:Nat):II n 0=A_ n T:=by
 unfold II;refine A' (by simp[Ay]) (λk e o=>?_)
 grind [Az,Ay]
def a7(n:Nat)(k:Int):(II n k).length=n:=by unfold II;rw[c9,Ay]
def Oi(q:d6)(h:AE)(m:d4)(given:Fp):Fp×Bool:=
 match Er (FX (([],T):Fp×Bool) h m) q.ei (given++A_ (q.em-given.length).toNat 0,II q.em.toNat given.length)with
 |.inr r=>r|.inl st=>if kp (λi=>!MP (AA q.jj i) st.1) 0 q.jj.length=X then([],T)else(st.1,X)
variable{n:Int}{given:Fp}
def Xy(o:0<=n)(u:given.length<=n)(hv:RE given):VI n (given++A_ (n-given.length).toNat 0,II n.toNat given.length):=by
 refine ⟨an,by show((II n.toNat given.length).length:Int)=n;rw[a7];omega,λx e=>?_⟩;rcases x!.1 e with e|e
 .exact hv x e
 grind
variable{q:d6}{m:d4}{t:AC}
def yS{s:Bk}(z:U7 t q)(D:∀x∈q.ei,Kf q.em s.h m x)(G:given.length<=q.em)(hv:RE given):EZ s q m given=Y (Oi q s.h m given):=by
 have I:=z.vars;unfold EZ Oi slices_Clone_int;rw[BZ b_,bs,AU U U];have J:dh given (q.em-given.length) 0=Y (given++A_ (q.em-given.length).toNat 0):=by
  grind [dh,AX]
 have K:Gg q.em T=Y (A_ q.em.toNat T):=by
  grind [Gg]
 rw [J,bs,K,bs];have N:kx (λ(o:Int)(E:a6)=>(idx E o).bind λH=>Y (BE E o X)) 0 (given.length:Int) (A_ q.em.toNat T)=Y (II q.em.toNat given.length):=by
  refine Bo (λi=>II q.em.toNat i) U (Yk _) (λi o i1=>?_);rw[AD o (by rw[a7];omega),bs];congr 1;unfold II;rw[Hl _ o]
  grind
 rw [N,bs];have y:=Xy I.1 G hv;rw[S0 (FX (([],T):Fp×Bool) s.h m) (VI q.em) y]
 .cases hr:Er (FX (([],T):Fp×Bool) s.h m) q.ei (given++A_ (q.em-given.length).toNat 0,II q.em.toNat given.length)with
  |inr r=>rfl|inl st=>
   have hi:=QM D y hr;rw[B8,Bq (λi=>!MP (AA q.jj i) st.1) ([],T)]
   .dsimp only;cases kp (λi=>!MP (AA q.jj i) st.1) 0 q.jj.length<;>rfl
   .intro i o i1 _;have F:=z.test _ (AG o i1);rw[AD o i1,bs,p_holds F.2.1 F.2.2 hi.small (by have:=hi.l1;omega),bs]
    grind
 .intro i st o i1 hi;have ha:=D _ (AG o i1);refine⟨?_,λs' e=>RC ha hi e⟩;rw[AD o i1,bs,AD ha.node.1 ha.node.2,bs,AD ha.val.1 ha.val.2,bs,AD ha.Abx.1 ha.Abx.2,bs];refine Rx ha hi (θ:=λst'=>(Fv (AA q.ei i).gl st'.1).bind λu=>if((!decide (u.2=0))||(!decide (u.1=Oo s.h m (AA q.ei i))))=X then Y (B2.ret (([],T):Fp×Bool))else Y (.next st')) (λst' O=>?_);rw[fM ha.term.low q? U,bs]
  grind
variable{h:AE}
def ym(G:U7 t q)(H:∀x∈q.ei,Kf q.em h m x)(O:given.length<=q.em)(hv:RE given):M2 q h m given=Y (Oi q h m given):=by
 have K:=G.vars;unfold M2 Oi;have ε:Gg q.em T=Y (A_ q.em.toNat T):=by
  unfold Gg;rw[ac U]
 rw [BZ b_,bs,ε,bs];have N:kx (λ(o:Int)(u:Fp×a6)=>
   (idx u.2 o).bind λP=>
   if (decide ((given.length:Int)<=o))=X then
   (AY u.1 [0]).bind λE=>
   Y (E,BE u.2 o (decide (o<(given.length:Int))))
   else
   Y (u.1,BE u.2 o (decide (o<(given.length:Int))))) 0 q.em (given,A_ q.em.toNat T)=Y (given++A_ (q.em-given.length).toNat 0,(Az q.em.toNat).map λj=>decide (j<q.em)&&decide (j<(given.length:Int))):=by
  refine Bo (λi=>(given++A_ (i-given.length).toNat 0,(Az q.em.toNat).map λj=>decide (j<i)&&decide (j<(given.length:Int)))) K.1 ?_ (λi o i1=>?_)
  .have η:((0:Int)-given.length).toNat=0:=U
   rw [η];simp;rw[<-Yk];unfold II;refine Cf (λj I J=>?_);rw[show decide (j<0)=T by simp;omega];rfl
  .dsimp only;rw[AD o (by rw[c9,Ay];omega),bs];have ζ:BE ((Az q.em.toNat).map λj=>decide (j<i)&&decide (j<(given.length:Int))) i (decide (i<(given.length:Int)))=(Az q.em.toNat).map λj=>decide (j<i+1)&&decide (j<(given.length:Int)):=by
    rw [Hl _ o];refine Cf (λj I J=>?_);by_cases e:j=i
    .rw[ac e,e,show decide (i<i+1)=X by simp;omega,L_]
    .rw[ae e];congr 1;rw[decide_eq_decide];omega
   rw [ζ];by_cases hi:(given.length:Int)<=i
   .rw[ac n?,AP a_,bs];congr 2;rw[ci,show(i+1-given.length).toNat=(i-given.length).toNat+1 by omega,A?]
   .rw[ae n?];have δ:(i+1-given.length).toNat=(i-given.length).toNat:=U
    rw [δ]
 have F:((Az q.em.toNat).map λj=>decide (j<q.em)&&decide (j<(given.length:Int)))=II q.em.toNat given.length:=by
  unfold II;refine Cf (λj I J=>?_);rw[show decide (j<q.em)=X by simp;omega,L_]
 rw [F]at N;rw[N,bs];have z:=Xy K.1 O hv;dsimp only;rw[S0 (FX (([],T):Fp×Bool) h m) (VI q.em) z]
 .cases hr:Er (FX (([],T):Fp×Bool) h m) q.ei (given++A_ (q.em-given.length).toNat 0,II q.em.toNat given.length)with
  |inr r=>rfl|inl st=>
   have hi:=QM H z hr;rw[B8,Bq (λi=>!MP (AA q.jj i) st.1) ([],T)]
   .dsimp only;cases kp (λi=>!MP (AA q.jj i) st.1) 0 q.jj.length<;>rfl
   .intro i o i1 _;have D:=G.test _ (AG o i1);have S:=hi.l1;rw[AD o i1,bs,QK D.2.1.low (by have:=D.2.1.high;omega),bs,QK D.2.2.low (by have:=D.2.2.high;omega),bs,<-JL];unfold MP;dsimp only;congr 1;generalize Dc (AA q.jj i).f0 st.1=a;generalize Dc (AA q.jj i).eh st.1=b;rcases D.1 with e|e
    .rw[e,eq_iff_iff];simp
    .rw[e,eq_iff_iff];simp
 .intro i st o i1 hi;have ha:=H _ (AG o i1);refine⟨?_,λs' e=>RC ha hi e⟩;rw[AD o i1,bs,AD ha.node.1 ha.node.2,bs,AD ha.val.1 ha.val.2,bs,AD ha.Abx.1 ha.Abx.2,bs];refine Rx ha hi (θ:=λst'=>(FW (AA q.ei i).gl st'.1).bind λy=>if(!decide (y.1=Oo h m (AA q.ei i)))=X then Y (B2.ret (([],T):Fp×Bool))else Y (.next st')) (λst' S=>?_);rw[QK ha.term.low q?,bs];by_cases e:Dc (AA q.ei i).gl st'.1=Oo h m (AA q.ei i)
  .rw[ae d_,ac e]
  .rw[ac d_,ae e]
def tO(u:U7 t q)(y:∀s∈q.ei,Kf q.em h m s)(z:given.length<=q.em)(hv:RE given)(e:(Oi q h m given).2=X):((Oi q h m given).1.length:Int)=q.em/\RE (Oi q h m given).1:=by
 unfold Oi at e|-;have o:=Xy u.vars.1 z hv;cases hr:Er (FX (([],T):Fp×Bool) h m) q.ei (given++A_ (q.em-given.length).toNat 0,II q.em.toNat given.length)with
 |inr r=>
  rw [hr]at e;have:∀(l:List CF)(st:Fp×a6)(r:Fp×Bool),Er (FX (([],T):Fp×Bool) h m) l st=.inr r->r=([],T):=by
   intro l
   induction l with
   |nil=>intro st r h;cases h
   |cons a l E=>
    grind [Er,FX]
  grind
 |inl st=>
  rw [hr]at e;have hi:=QM y o hr;dsimp only at e|-;split at e
  .cases e
  next D=>rw[ae D];exact⟨hi.l1,hi.small⟩
def Vz(n:Nat)(by' fq:Fp):Fp:=(Az by'.length).foldl (λl i=>BE l (AA by' i) (AA fq i)) (A_ n (-1))
def aU(by' fq:Fp):∀(e:Fp)(l:Fp),(e.foldl (λl i=>BE l (AA by' i) (AA fq i)) l).length=l.length
 |[],l=>rfl|k::e,l=>by rw[B_,aU by' fq e,DW]
def Y4{n:Nat}{by' fq:Fp}(hb:∀x∈by',0<=x/\x<n)(E:by'.length<=fq.length):kx (λ(o:Int)(y:Fp)=>
  (idx by' o).bind λe=>
  (idx fq o).bind λu=>
  (idx y e).bind λz=>
  Y (BE y e u)) 0 (by'.length:Int) (A_ n (-1))=Y (Vz n by' fq):=by
 have h:=Bo (f:=λ(o:Int)(y:Fp)=>
  (idx by' o).bind λe=>
  (idx fq o).bind λu=>
  (idx y e).bind λz=>
  Y (BE y e u)) (λi=>(Az i.toNat).foldl (λl i=>BE l (AA by' i) (AA fq i)) (A_ n (-1))) (a:=0) (b:=by'.length) (s:=A_ n (-1)) U rfl (λi o i1=>by
   have D:=hb _ (AG o i1);rw[AD o i1,bs,AD o U,bs,AD D.1 (by rw[aU];simpa using D.2),bs,Et o,B'];rfl)
 rw [h,I?];rfl
def fc{n:Nat}{by' fq:Fp}(o:n<=1000)(hb:∀x∈by',0<=x/\x<n)(e:by'.length<=fq.length):G4 n by' fq=Y (Vz n by' fq):=by
 unfold G4 DH;rw[ac ⟨rfl,U,U⟩,bs];show(kx _ 0 _ (A_ (n:Int).toNat (-1))).bind _=_;rw[I?,Y4 hb e];rfl
def gB{n:Nat}{by' fq:Fp}(o:n<=1000)(hb:∀x∈by',0<=x/\x<n)(e:by'.length<=fq.length):K0 n by' fq=Y (Vz n by' fq):=by
 unfold K0;rw[Bo (a:=0) (b:=n) (s:=[]) (λi=>A_ i.toNat (-1)) U rfl,bs,I?,Y4 hb e]
 .rfl
 .intro i u i1;rw[AP a_,bs,show(i+1).toNat=i.toNat+1 by omega,A?]
end Go.Sf.Sc
namespace Go.Sf.Sc
open Go Go.Sf
structure tT(f:AM):Prop where
 nl:f.ea.length<=f.p.dl.length
 node:∀i:Int,0<=i->i<f.ea.length->(0<=AA f.ea i/\AA f.ea i<f.g.dl.length)/\AA (AA f.is (AA f.p.dl i)) (AA f.g.dl (AA f.ea i))=X
 edge:∀i:Int,0<=i->i<f.eb.length->(0<=AA f.eb i/\AA f.eb i<f.g.dr.length)/\AA f.g.dr (AA f.eb i)=⟨(AA f.p.dr i).ib,AA f.ea (AA f.p.dr i).ia,AA f.ea (AA f.p.dr i).To⟩
 inj:f.ff=X->f.ea.Nodup/\f.eb.Nodup
structure kZ(f:AM)(m:d4):Prop where
 nl:m.dl.length=f.p.dl.length
 el:m.dr.length=f.p.dr.length
 node:∀i:Int,0<=i->i<m.dl.length->(0<=AA m.dl i/\AA m.dl i<f.g.dl.length)/\AA (AA f.is (AA f.p.dl i)) (AA f.g.dl (AA m.dl i))=X
 edge:∀i:Int,0<=i->i<m.dr.length->(0<=AA m.dr i/\AA m.dr i<f.g.dr.length)/\AA f.g.dr (AA m.dr i)=⟨(AA f.p.dr i).ib,AA m.dl (AA f.p.dr i).ia,AA m.dl (AA f.p.dr i).To⟩
 inj:f.ff=X->m.dl.Nodup/\m.dr.Nodup
variable{i:Int}
def NJ{α:Type}[Inhabited α](l:List α)(x:α)(h:i=l.length):AA (l++[x]) i=x:=by grind[Ox]
variable{l:Fp}{k:Int}
def Ys{b:Bool}(h:(!(b&&l.any λx=>decide (k=x)))=X)(hb:b=X)(e:l.Nodup):(l++[k]).Nodup:=n_
theorem Z5:∀(n:Nat)(f:AM),tT f->f.ea.length=f.p.dl.length->f.eb.length+n=f.p.dr.length->∀m∈ER n f,kZ f m
 |0,f,u,F,he,m,o=>by
  rw [ER,B!]at o;subst o;exact⟨F,by simpa using he,u.node,u.edge,u.inj⟩
 |n+1,f,u,F,he,m,o=>by
  rw [ER,B?]at o;obtain⟨k,D,o⟩:=o;have D:=DA.1 D;split at o
  .rename_i y;unfold SV at y;rw[mo]at y;obtain⟨z,E⟩:=y;rw[Xu,mo,qo]at z;have:=Z5 n {f with eb:=f.eb++[k]} ⟨u.nl,u.node,λi G i1=>by
    have i1:i<((f.eb++[k]).length:Int):=i1;simp at i1;show(0<=AA (f.eb++[k]) i/\AA (f.eb++[k]) i<f.g.dr.length)/\AA f.g.dr (AA (f.eb++[k]) i)=⟨(AA f.p.dr i).ib,AA f.ea (AA f.p.dr i).ia,AA f.ea (AA f.p.dr i).To⟩;by_cases e:i=f.eb.length
    .rw[NJ _ _ e];exact⟨D,by rw[e];exact z.2⟩
    .rw[Lz _ _ G U];exact u.edge i G U,λhi=>⟨(u.inj hi).1,Ys E hi (u.inj hi).2⟩⟩ F (by show(f.eb++[k]).length+n=f.p.dr.length;rw[b6,C_];omega) m o
   exact ⟨this.nl,this.el,this.node,this.edge,this.inj⟩
  .cases o
def Z6:∀(n:Nat)(f:AM),tT f->f.eb=[]->f.ea.length+n=f.p.dl.length->∀m∈Fa n f,kZ f m
 |0,f,y,he,G,m,u=>by
  grind [Fa,Z5]
 |n+1,f,y,he,G,m,u=>by
  rw [Fa,B?]at u;obtain⟨k,D,u⟩:=u;have D:=DA.1 D;split at u
  .rename_i o;unfold SW at o;rw[mo,mo]at o;obtain⟨⟨_,E⟩,F⟩:=o;have:=Z6 n {f with ea:=f.ea++[k]} ⟨by show(f.ea++[k]).length<=f.p.dl.length;rw[b6,C_];omega,λi z i1=>by
    have i1:i<((f.ea++[k]).length:Int):=i1;simp at i1;show(0<=AA (f.ea++[k]) i/\AA (f.ea++[k]) i<f.g.dl.length)/\AA (AA f.is (AA f.p.dl i)) (AA f.g.dl (AA (f.ea++[k]) i))=X;by_cases e:i=f.ea.length
    .rw[NJ _ _ e];exact⟨D,by rw[e];exact E⟩
    .rw[Lz _ _ z U];exact y.node i z U,λi z i1=>by
    have i1:i<(f.eb.length:Int):=i1;rw[he]at i1;have:i<(0:Nat):=i1;omega,λhi=>⟨Ys F hi (y.inj hi).1,(y.inj hi).2⟩⟩ he (by show(f.ea++[k]).length+n=f.p.dl.length;rw[b6,C_];omega) m u
   exact ⟨this.nl,this.el,this.node,this.edge,this.inj⟩
  .cases u
variable{t:AC}{m:d4}
def YU{p g:d3}{pa:d4}{inj:Bool}(e:m∈Jl t p g pa inj):kZ (FF t p g pa inj) m:=
 Z6 _ (FF t p g pa inj) ⟨Nat.zero_le _,λi o i1=>by have i1:i<(0:Nat):=i1;omega,λi o i1=>by have i1:i<(0:Nat):=i1;omega,λ_=>⟨C',C'⟩⟩ rfl r_ m (List.mem_of_mem_take e)
theorem eU{p g:d3}{pa:d4}{inj:Bool}(h:Ew t p g=0)(z:m∈Jl t p g pa inj):Z2 t p g m:=by
 obtain ⟨hv,G,H,tp,D⟩:=On h;have:=YU z;refine⟨this.nl,this.el,λi e i1=>?_,λi e i1=>(this.edge i e i1).1⟩;obtain⟨o,y⟩:=this.node i e i1;refine⟨o,?_⟩;have u:=this.nl;have E:=tp _ (AG (l:=p.dl) e (by show i<(p.dl.length:Int);have u:m.dl.length=p.dl.length:=u;omega));have F:=D _ (AG (l:=g.dl) o.1 o.2);have y:AA (AA (KQ t) (AA p.dl i)) (AA g.dl (AA m.dl i))=X:=y
 grind [AA,KQ,Pp,Ir,HI]
theorem ni{p g:d3}{pa:d4}{inj:Bool}(h:Ew t p g=0)(y:m∈Jl t p g pa inj):Gp t p g m inj=0:=by
 have ok:=eU h y;have z:=YU y;have D:Od t p g m=0:=by
  unfold Od;rw[ae (by have:=ok.wi;have:=ok.x9;omega)];have E:fst (Kj t p g m) 0 m.dl.length=W:=by
   rw [A8];intro i e i1;obtain⟨o,u⟩:=ok.node i e i1
   grind [Kj]
  have F:fst (Gz p g m) 0 m.dr.length=W:=by
   rw [A8];intro i e i1;obtain⟨o,u⟩:=z.edge i e i1;have o:0<=AA m.dr i/\AA m.dr i<g.dr.length:=o;have u:AA g.dr (AA m.dr i)=⟨(AA p.dr i).ib,AA m.dl (AA p.dr i).ia,AA m.dl (AA p.dr i).To⟩:=u
   grind [Gz]
  rw [E,F];rfl
 unfold Gp;rw[ae l_,ae (by simp[D])];cases inj
 .rfl
 .have:=z.inj rfl
  grind [Iz,KC]
def eE{p g:d3}{pa:d4}{inj:Bool}(h:(UM t p g pa inj).2=0):(UM t p g pa inj).1.length<=5000/\∀m∈(UM t p g pa inj).1,Z2 t p g m:=by grind[UM,eU]
structure X3(t:AC)(p:d6)(h:AE)(x:AQ):Prop where
 q:U7 t p
 m:Z2 t p.d3 h.d3 x.d4
 len:(x.em.length:Int)=p.em
 small:RE x.em
structure mq(t:AC)(p:d6)(c:d5):Prop where
 q:U7 t c.d6
 vars:p.em<=c.d6.em
 map:T9 p.d3 c.d6.d3 c.Map
 inj:Iz c.Map=X
def EL(t:AC)(c:d5)(h:AE)(m:AQ)(inj:Bool):List AQ×Int:=
 let x:=UM t c.d6.d3 h.d3 ⟨Vz c.d6.d3.dl.length c.Map.dl m.d4.dl,Vz c.d6.d3.dr.length c.Map.dr m.d4.dr⟩ inj
 if x.2≠0 then([],x.2)else((x.1.filter λy=>(Oi c.d6 h y m.em).2).map λy=>⟨y,(Oi c.d6 h y m.em).1⟩,0)
instance:Inhabited d4:=⟨⟨[],[]⟩⟩
instance:Inhabited AQ:=⟨⟨default,[]⟩⟩
instance:Inhabited BO:=⟨⟨0,default,[]⟩⟩
theorem Qa{x:List d4}{F:d4->Fp×Bool}{f:Int->List AQ->Option (List AQ)}(z:x.length<=5000)
  (hf:∀(i:Int)(s:List AQ),0<=i->i<x.length->s.length<=5000->f i s=Y (if(F (AA x i)).2=X then s++[⟨AA x i,(F (AA x i)).1⟩]else s)):
  kx f 0 (x.length:Int) []=Y ((x.filter λy=>(F y).2).map λy=>⟨y,(F y).1⟩):=by
 rw [Bo (a:=0) (b:=x.length) (s:=[]) (λi=>((x.take i.toNat).filter λy=>(F y).2).map λy=>(⟨y,(F y).1⟩:AQ)) U rfl,I?,C!];intro i e i1;have o:(((x.take i.toNat).filter λy=>(F y).2).map λy=>(⟨y,(F y).1⟩:AQ)).length<=5000:=by
  grind
 rw [hf i _ e i1 o,Ba e i1,C?,D_];cases u:(F (AA x i)).2<;>simp[u]
variable{p:d6}{c:d5}
def yG{s:Bk}{m:AQ}(hf:A2 s.t)(hv:(BD s.t).2=0)(hh:It s.t s.h)(ha:X3 s.t p s.h m)(hi:mq s.t p c):Ci s c m=Y (EL s.t c s.h m s.ff):=by
 have I:=hi.q.g.ea;have ge:=hi.q.g.eb;have m1:=hi.map.wi;have J:=hi.map.x9;have K:=ha.m.wi;have N:=ha.m.x9;unfold Ci EL;rw[fc U (λx o=>by obtain⟨i,e,i1,rfl⟩:=BP o;exact(hi.map.node i e i1).1) U,bs,
  fc U (λx o=>by obtain⟨i,e,i1,rfl⟩:=BP o;exact(hi.map.edge i e i1).1) U,bs,rQ hf,bs]
 dsimp only;refine D1 λu=>?_;obtain⟨E,G⟩:=eE u;rw[Qa (F:=λy=>Oi c.d6 s.h y m.em) E]
 .rfl
 .intro i st e i1 H;have z:=G _ (AG e i1);have D:(m.em.length:Int)<=c.d6.em:=t!
  rw [AD e i1,bs,yS hi.q (λx o=>PA (Cw hv) hi.q hh z o) D ha.small,bs,<-JL]
  grind [AP,AX]
variable{h:AE}
def yZ{inj:Bool}{m:AQ}(hf:A2 t)(hv:(BD t).2=0)(hh:It t h)(ha:X3 t p h m)(hi:mq t p c):Fm t c h m inj=Y (EL t c h m inj):=by
 have I:=hi.q.g.ea;have ge:=hi.q.g.eb;have m1:=hi.map.wi;have J:=hi.map.x9;have K:=ha.m.wi;have N:=ha.m.x9;unfold Fm EL;rw[gB U (λx o=>by obtain⟨i,e,i1,rfl⟩:=BP o;exact(hi.map.node i e i1).1) U,bs,
  gB U (λx o=>by obtain⟨i,e,i1,rfl⟩:=BP o;exact(hi.map.edge i e i1).1) U,bs,ri hf,bs]
 dsimp only;refine D1 λu=>?_;obtain⟨E,G⟩:=eE u;rw[Qa (F:=λy=>Oi c.d6 h y m.em) E]
 .rfl
 .intro i st e i1 H;have z:=G _ (AG e i1);have D:(m.em.length:Int)<=c.d6.em:=t!
  rw [AD e i1,bs,ym hi.q (λx o=>PA (Cw hv) hi.q hh z o) D ha.small,bs,<-JL]
  grind [AP,AX]
def jP{inj:Bool}{m:AQ}(hv:(BD t).2=0)(hh:It t h)(ha:X3 t p h m)(hi:mq t p c)(e:(EL t c h m inj).2=0):(EL t c h m inj).1.length<=5000/\∀x∈(EL t c h m inj).1,X3 t c.d6 h x:=by
 unfold EL at e|-;dsimp only at e|-;split at e
 .grind
 rename_i z;rw[ae z];obtain⟨F,G⟩:=eE (K'.1 z);refine⟨by dsimp only;rw[c9];exact Nat.le_trans (D' _ _) F,λx o=>?_⟩;dsimp only at o;rw[D!]at o;obtain⟨y,u,rfl⟩:=o;rw[D?]at u;have D:=G y u.1;have E:(m.em.length:Int)<=c.d6.em:=t!
 have:=tO hi.q (λx o=>PA (Cw hv) hi.q hh D o) E ha.small u.2;exact⟨hi.q,D,this.1,this.2⟩
end Go.Sf.Sc
namespace Go.Sf.Sc
open Go Go.Sf
inductive CV(t:AC):d6->d5->Prop where
 |mk (p:d6) (c:d5) (few:c.fl.length<=40) (rng:1<=c.kg/\c.kg<=5) (one:c.kg=2\/c.kg=5->c.fl.length=1) (ins:c.kg=5->mq t p c) (kids:∀k∈c.fl,CV t (if c.kg=5 then c.d6 else p) k):CV t p c
variable{t:AC}{p:d6}{c:d5}
def CV.few(h:CV t p c):c.fl.length<=40:=i!
def CV.rng(h:CV t p c):1<=c.kg/\c.kg<=5:=i!
def CV.one(h:CV t p c):c.kg=2\/c.kg=5->c.fl.length=1:=i!
def CV.ins(h:CV t p c):c.kg=5->mq t p c:=i!
def CV.kids(h:CV t p c):∀k∈c.fl,CV t (if c.kg=5 then c.d6 else p) k:=i!
def CV.kid(h:CV t p c)(e:¬c.kg=5):∀k∈c.fl,CV t p k:=λk o=>by have:=h.kids k o;rwa[ae e]at this
def CV.kid5(h:CV t p c)(e:c.kg=5):∀k∈c.fl,CV t c.d6 k:=λk o=>by have:=h.kids k o;rwa[ac e]at this
def VS:∀l:List d5,l.length<=TP l
 |[]=>by simp|c::l=>by
  have:=VS l
  grind [TP,D3,VT,cE]
variable{q:d6}{v:Int}
def ABC(hv:(BD t).2=0)(h:TU t q v=0):U7 t q:=by grind[TU,rc]
def td(hv:(BD t).2=0):∀(N:Nat)(c:d5)(p:d6),SizeOf.sizeOf c<=N->D3 c<=40->T5 N c=X->JI N t p c=0->CV t p c
 |0,c,_,h,_,_,_=>by have:=D5 c;omega|N+1,c,p,h,hc,H,ho=>by
  have P:=VT c;have S:=VS c.fl;rw[T5,mo]at H;obtain⟨E,z⟩:=H;have o:c.kg=2\/c.kg=5->c.fl.length=1:=by
   intro y;unfold UW at E
   grind
  have u:1<=c.kg/\c.kg<=5:=by
   grind [UW]
  have F:∀q,(fst (λi=>nz (JI N t q (AA c.fl i))) 0 c.fl.length).getD 0=0->∀k∈c.fl,CV t q k:=by
   intro q I k y;have ε:=Vf I;have δ:=XQ y;have Z:=Eg y;rw[List.all_eq_true]at z;obtain⟨i,η,i1,e⟩:=BP y;have G:=ε i η i1;rw[e]at G;exact td hv N k q U U (z k y) G
  rw [JI]at ho;by_cases D:c.kg=5
  .rw[ac D]at ho;split at ho
   .cases ho
   rename_i ζ;split at ho
   .grind
   rename_i J;split at ho
   .grind
   rename_i K;split at ho
   .cases ho
   rename_i O;refine CV.mk p c U u o (λ_=>⟨ABC hv (K'.1 J),U,WZ (K'.1 K),by simpa using O⟩) ?_
   grind
  .rw[ae D]at ho;refine CV.mk p c U u o (λe=>absurd e D) ?_
   grind
section
variable{α σ ρ:Type}
variable{f:Int->σ->Option (B2 σ ρ)}
def VB[Inhabited α]{l:List α}(step:α->σ->B2 σ ρ)(I:Int->σ->Prop)(h:∀(i:Int)s,0<=i->i<l.length->I i s->f i s=Y (step (AA l i) s)/\∀s',step (AA l i) s=.next s'->I (i+1) s'):
  ∀(n:Nat)(a:Int)(s:σ),0<=a->a+n=l.length->I a s->t5 f n a s=Y (Er step (l.drop a.toNat) s)
 |0,a,s,e,z,_=>by
  rw [y? U];rfl
 |n+1,a,s,e,z,D=>by
  obtain ⟨u,y⟩:=h a s e U D;have hd:l.drop a.toNat=AA l a::l.drop (a+1).toNat:=by
   grind [z_,AA,z!]
  rw [GO,u,hd,Er];cases o:step (AA l a) s with
  |next s'=>
   simp only;exact VB step I h n (a+1) s' U U (y s' o)
  |brk s'=>rfl|ret r=>rfl
def YT[Inhabited α]{l:List α}(step:α->σ->B2 σ ρ)(I:Int->σ->Prop){s:σ}(e:I 0 s)(h:∀(i:Int)s,0<=i->i<l.length->I i s->f i s=Y (step (AA l i) s)/\∀s',step (AA l i) s=.next s'->I (i+1) s'):
  hV f 0 l.length s=Y (Er step l s):=by
 have:=VB step I h l.length 0 s U U e;unfold hV;rw[show((l.length:Int)-0).toNat=l.length by omega];exact this
def ZE{e s2:α->σ->B2 σ ρ}:∀{l:List α}{s:σ},(∀a∈l,e a=s2 a)->Er e l s=Er s2 l s
 |[],_,_=>rfl|a::l,s,h=>by
  rw [Er,Er,h a V];split
  .exact ZE λb hb=>h b (by simp[hb])
  .rfl
  .rfl
end
abbrev zM:AQ:=⟨⟨[],[]⟩,[]⟩
abbrev zP:BO:=⟨0,zM,[]⟩
def PI(w:d5->BO×Int)(k:d5)(s:BO×BO):B2 (BO×BO) (BO×Int):=
 if (w k).2≠0 then .ret (zP,(w k).2)else .next (s.1,⟨s.2.Aaq,s.2.ll,s.2.fl++[(w k).1]⟩)
def VM(w:d5->BO×Int)(l:List d5):BO×Int:=
 match Er (PI w) l (zP,zP)with
 |.inl s=>(s.2,0)|.inr r=>r
def DL(t:AC)(h:AE)(inj:Bool):Nat->d5->AQ->BO×Int
 |0,_,_=>(zP,0)|N+1,c,m=>
  if c.kg=2 then(if(DL t h inj N (AA c.fl 0) m).2=0 then(zP,10)else if(DL t h inj N (AA c.fl 0) m).2=10 then(zP,0)else(zP,(DL t h inj N (AA c.fl 0) m).2))else
  if c.kg=3 then VM (λk=>DL t h inj N k m) c.fl else
  if c.kg=4 then(fst (λi=>if(DL t h inj N (AA c.fl i) m).2=0 then Y (⟨i,zM,[(DL t h inj N (AA c.fl i) m).1]⟩,0)else if(DL t h inj N (AA c.fl i) m).2≠10 then Y (zP,(DL t h inj N (AA c.fl i) m).2)else W) 0 c.fl.length).getD (zP,10)else
  if c.kg=5 then
   (if(EL t c h m inj).2≠0 then(zP,(EL t c h m inj).2)else
   (fst (λi=>if(DL t h inj N (AA c.fl 0) (AA (EL t c h m inj).1 i)).2=0 then Y (⟨0,AA (EL t c h m inj).1 i,[(DL t h inj N (AA c.fl 0) (AA (EL t c h m inj).1 i)).1]⟩,0)else
    if (DL t h inj N (AA c.fl 0) (AA (EL t c h m inj).1 i)).2≠10 then Y (zP,(DL t h inj N (AA c.fl 0) (AA (EL t c h m inj).1 i)).2)else W) 0 (EL t c h m inj).1.length).getD (zP,10))else
  (zP,0)
def DK(t:AC)(h:AE)(inj:Bool):Nat->d5->AQ->BO×Int
 |0,_,_=>(zP,0)|N+1,c,m=>
  if c.kg=2 then(if(DK t h inj N (AA c.fl 0) m).2=0 then(zP,10)else if(DK t h inj N (AA c.fl 0) m).2=10 then(zP,0)else(zP,(DK t h inj N (AA c.fl 0) m).2))else
  if c.kg=3 then VM (λk=>DK t h inj N k m) c.fl else
  if c.kg=4 then(fst (λi=>if(DK t h inj N (AA c.fl i) m).2≠10 then Y (⟨i,zM,[(DK t h inj N (AA c.fl i) m).1]⟩,(DK t h inj N (AA c.fl i) m).2)else W) 0 c.fl.length).getD (zP,10)else
  if c.kg=5 then
   (if(EL t c h m inj).2≠0 then(zP,(EL t c h m inj).2)else
   (fst (λi=>if(DK t h inj N (AA c.fl 0) (AA (EL t c h m inj).1 i)).2≠10 then Y (⟨0,AA (EL t c h m inj).1 i,[(DK t h inj N (AA c.fl 0) (AA (EL t c h m inj).1 i)).1]⟩,(DK t h inj N (AA c.fl 0) (AA (EL t c h m inj).1 i)).2)else W) 0 (EL t c h m inj).1.length).getD (zP,10))else
  (zP,0)
def N1(x:BO×Int):BO×Int:=if x.2=0 then x else(zP,x.2)
theorem oI(x:BO×Int):(N1 x).2=x.2:=by unfold N1;split<;>rfl
def oH{x:BO×Int}(h:x.2=0):(N1 x).1=x.1:=by unfold N1;rw[ac h]
def qM(w:d5->BO×Int)(l:List d5):N1 (VM w l)=VM w l:=by
 unfold VM;have:∀(l:List d5)(s:BO×BO)(r:BO×Int),Er (PI w) l s=.inr r->N1 r=r:=by
  intro l
  induction l with
  |nil=>intro s r h;cases h
  |cons a l u=>
   intro s r h;rw[Er]at h;split at h
   .exact u _ _ h
   .cases h
   .rename_i y e;cases h;unfold PI at e;split at e
    next o=>cases e;unfold N1;rw[ae o]
    .cases e
 cases hr:Er (PI w) l (zP,zP)with
 |inl s=>rfl|inr r=>exact this _ _ _ hr
def aa(o:Option (BO×Int)):N1 (o.getD (zP,10))=(o.map N1).getD (zP,10):=by cases o<;>rfl
def kV(t:AC)(h:AE)(inj:Bool):∀(N:Nat)(c:d5)(m:AQ),DL t h inj N c m=N1 (DK t h inj N c m)
 |0,_,_=>rfl|N+1,c,m=>by
  have G:=kV t h inj N;have key:∀(c:d5)(m:AQ),(DL t h inj N c m).2=(DK t h inj N c m).2:=λc m=>by rw[G,oI]
  have pick:∀(k:d5)(m x:AQ)(i:Int),(if(DL t h inj N k m).2=0 then Y ((⟨i,x,[(DL t h inj N k m).1]⟩:BO),(0:Int))else if(DL t h inj N k m).2≠10 then Y (zP,(DL t h inj N k m).2)else W)=(if(DK t h inj N k m).2≠10 then Y ((⟨i,x,[(DK t h inj N k m).1]⟩:BO),(DK t h inj N k m).2)else W).map N1:=by
   intro k m x i;rw[key];by_cases e:(DK t h inj N k m).2=0
   .rw[ac e,ac U,G,oH e];simp[N1,e]
   .rw[ae e];by_cases o:(DK t h inj N k m).2≠10
    .rw[ac o,ac o];simp[N1,e]
    grind
  rw [DL,DK];by_cases y:c.kg=2
  .rw[ac y,ac y,key];by_cases e:(DK t h inj N (AA c.fl 0) m).2=0
   .rw[ac e];rfl
   .rw[ae e];by_cases o:(DK t h inj N (AA c.fl 0) m).2=10
    .rw[ac o];rfl
    .rw[ae o];unfold N1;rw[ae e]
  rw [ae y,ae y];by_cases z:c.kg=3
  .rw[ac z,ac z,qM];unfold VM;rw[ZE (s2:=PI λk=>DK t h inj N k m)];intro k _;funext s;unfold PI;simp only[key];by_cases e:(DK t h inj N k m).2=0
   .rw[ae d_,ae d_,G,oH e]
   .rw[ac e,ac e]
  rw [ae z,ae z];by_cases D:c.kg=4
  .rw[ac D,ac D,aa,<-Kq];congr 1;exact congrArg (λF=>fst F 0 (c.fl.length:Int)) (funext λi=>pick _ _ _ _)
  rw [ae D,ae D];by_cases E:c.kg=5
  .rw[ac E,ac E];by_cases u:(EL t c h m inj).2≠0
   .rw[ac u,ac u];unfold N1;rw[ae u]
   .rw[ae u,ae u,aa,<-Kq];congr 1;exact congrArg (λF=>fst F 0 ((EL t c h m inj).1.length:Int)) (funext λi=>pick _ _ _ _)
  rw [ae E,ae E];rfl
end Go.Sf.Sc
namespace Go.Sf.Sc
open Go Go.Sf
def S2(i:Int)(s:BO×BO):Prop:=(s.2.fl.length:Int)=i
def Y1{s:Bk}(hf:A2 s.t)(hv:(BD s.t).2=0)(hh:It s.t s.h):∀(N:Nat)(c:d5)(p:d6)(m:AQ),SizeOf.sizeOf c<=N->CV s.t p c->X3 s.t p s.h m->∀n,2*N<=n->BB n s c m=Y (DL s.t s.h s.ff N c m)
 |0,c,_,_,h,_,_,_,_=>by have:=D5 c;omega|N+1,c,p,m,h,y,ha,n,K=>by
  obtain ⟨n,rfl⟩:∃k,n=k+2:=⟨n-2,U⟩;have kid:∀(i:Int),0<=i->i<c.fl.length->SizeOf.sizeOf (AA c.fl i)<=N:=λi e i1=>by
   have:=Eg (AG (l:=c.fl) e i1);omega
  rw [BB,DL];by_cases z:c.kg=2
  .have J:=y.one (.inl z);rw[ac d!,ac z,AD U U,bs,Y1 hf hv hh N _ p m (kid 0 U U) (y.kid U _ (AG U U)) ha (n+1) U,bs]
   grind
  rw [ae d!,ae z];by_cases F:c.kg=3
  .rw[ac o!,ac F];have H:=y.few;rw[YT (PI λk=>DL s.t s.h s.ff N k m) S2 (show S2 0 (zP,zP)from rfl)]
   .unfold VM;show ej (Y (Er (PI λk=>DL s.t s.h s.ff N k m) c.fl (zP,zP))) _ _=_;cases Er (PI λk=>DL s.t s.h s.ff N k m) c.fl (zP,zP)<;>rfl
   .intro i st e i1 hi;unfold S2 at hi;rw[AD e i1,bs,Y1 hf hv hh N _ p m (kid i e i1) (y.kid U _ (AG e i1)) ha (n+1) U,bs]
    grind [PI,DL,AA,AP,AX,S2]
  rw [ae o!,ae F];by_cases G:c.kg=4
  .rw[ac v_,ac G];rw[El (λ_=>zP) (λi=>if(DL s.t s.h s.ff N (AA c.fl i) m).2=0 then Y (⟨i,zM,[(DL s.t s.h s.ff N (AA c.fl i) m).1]⟩,0)else if(DL s.t s.h s.ff N (AA c.fl i) m).2≠10 then Y (zP,(DL s.t s.h s.ff N (AA c.fl i) m).2)else W) U rfl]
   .cases fst (λi=>if(DL s.t s.h s.ff N (AA c.fl i) m).2=0 then Y ((⟨i,zM,[(DL s.t s.h s.ff N (AA c.fl i) m).1]⟩:BO),(0:Int))else if(DL s.t s.h s.ff N (AA c.fl i) m).2≠10 then Y (zP,(DL s.t s.h s.ff N (AA c.fl i) m).2)else W) 0 c.fl.length<;>rfl
   .intro i e i1 _;rw[AD e i1,bs,Y1 hf hv hh N _ p m (kid i e i1) (y.kid U _ (AG e i1)) ha (n+1) U,bs];generalize DL s.t s.h s.ff N (AA c.fl i) m=x;by_cases u:x.2=0
    .rw[ac d?,ac u];try rfl
    .rw[ae d?,ae u];by_cases o:x.2=10
     .rw[ae o2,ae o2];try rfl
     .rw[ac o2,ac o];try rfl
  rw [ae v_,ae G];by_cases D:c.kg=5
  .rw[ac (by simpa using D),ac D];have hi:=y.ins D;have J:=y.one (.inr D);rw[Bg,yG hf hv hh ha hi,bs];by_cases E:(EL s.t c s.h m s.ff).2=0
   .obtain⟨o,I⟩:=jP hv hh ha hi E;rw[ae (by simp[E]),ae (by simp[E])];generalize (EL s.t c s.h m s.ff).1=l at o I;rw[El (λ_=>zP) (λi=>if(DL s.t s.h s.ff N (AA c.fl 0) (AA l i)).2=0 then Y (⟨0,AA l i,[(DL s.t s.h s.ff N (AA c.fl 0) (AA l i)).1]⟩,0)else if(DL s.t s.h s.ff N (AA c.fl 0) (AA l i)).2≠10 then Y (zP,(DL s.t s.h s.ff N (AA c.fl 0) (AA l i)).2)else W) U rfl]
    .cases fst (λi=>if(DL s.t s.h s.ff N (AA c.fl 0) (AA l i)).2=0 then Y ((⟨0,AA l i,[(DL s.t s.h s.ff N (AA c.fl 0) (AA l i)).1]⟩:BO),(0:Int))else if(DL s.t s.h s.ff N (AA c.fl 0) (AA l i)).2≠10 then Y (zP,(DL s.t s.h s.ff N (AA c.fl 0) (AA l i)).2)else W) 0 l.length<;>rfl
    .intro i e i1 _;rw[AD e i1,bs,AD U U,bs,Y1 hf hv hh N _ c.d6 _ (kid 0 U U) (y.kid5 D _ (AG U U)) (I _ (AG e i1)) n U,bs];generalize DL s.t s.h s.ff N (AA c.fl 0) (AA l i)=x;by_cases u:x.2=0
     .rw[ac d?,ac u];try rfl
     .rw[ae d?,ae u];by_cases o:x.2=10
      .rw[ae o2,ae o2];try rfl
      .rw[ac o2,ac o];try rfl
   .rw[ac (by simp[E]),ac E];try rfl
  grind
variable{t:AC}
def Tu{e:AE}{inj:Bool}(hf:A2 t)(hv:(BD t).2=0)(hh:It t e):∀(N:Nat)(c:d5)(p:d6)(m:AQ),SizeOf.sizeOf c<=N->CV t p c->X3 t p e m->∀n,N<=n->DQ n t c e m inj=Y (DK t e inj N c m)
 |0,c,_,_,h,_,_,_,_=>by have:=D5 c;omega|N+1,c,p,m,h,y,ha,n,K=>by
  obtain ⟨n,rfl⟩:∃k,n=k+1:=⟨n-1,U⟩;have kid:∀(i:Int),0<=i->i<c.fl.length->SizeOf.sizeOf (AA c.fl i)<=N:=λi o i1=>by
   have:=Eg (AG (l:=c.fl) o i1);omega
  rw [DQ,DK];by_cases z:c.kg=2
  .have J:=y.one (.inl z);rw[ac d!,ac z,AD U U,bs,Tu hf hv hh N _ p m (kid 0 U U) (y.kid U _ (AG U U)) ha n U,bs]
   grind
  rw [ae d!,ae z];by_cases E:c.kg=3
  .rw[ac l',ac E];have H:=y.few;rw[YT (PI λk=>DK t e inj N k m) S2 (show S2 0 (zP,zP)from rfl)]
   .unfold VM;show ej (Y (Er (PI λk=>DK t e inj N k m) c.fl (zP,zP))) _ _=_;cases Er (PI λk=>DK t e inj N k m) c.fl (zP,zP)<;>rfl
   .intro i st o i1 hi;unfold S2 at hi;rw[AD o i1,bs,Tu hf hv hh N _ p m (kid i o i1) (y.kid U _ (AG o i1)) ha n U,bs]
    grind [PI,DK,AA,AP,AX,S2]
  rw [ae l',ae E];by_cases F:c.kg=4
  .rw[ac o!,ac F];rw[El (λ_=>zP) (λi=>if(DK t e inj N (AA c.fl i) m).2≠10 then Y (⟨i,zM,[(DK t e inj N (AA c.fl i) m).1]⟩,(DK t e inj N (AA c.fl i) m).2)else W) U rfl]
   .cases fst (λi=>if(DK t e inj N (AA c.fl i) m).2≠10 then Y ((⟨i,zM,[(DK t e inj N (AA c.fl i) m).1]⟩:BO),(DK t e inj N (AA c.fl i) m).2)else W) 0 c.fl.length<;>rfl
   .intro i o i1 _;rw[AD o i1,bs,Tu hf hv hh N _ p m (kid i o i1) (y.kid U _ (AG o i1)) ha n U,bs];generalize DK t e inj N (AA c.fl i) m=x;by_cases u:x.2=10
    .rw[ae l!,ae l!];try rfl
    .rw[ac l!,ac u];try rfl
  rw [ae o!,ae F];by_cases D:c.kg=5
  .rw[ac (by simpa using D),ac D];have hi:=y.ins D;have J:=y.one (.inr D);rw[yZ hf hv hh ha hi,bs];by_cases G:(EL t c e m inj).2=0
   .obtain⟨u,I⟩:=jP hv hh ha hi G;rw[ae (by simp[G]),ae (by simp[G])];generalize (EL t c e m inj).1=l at u I;rw[El (λ_=>zP) (λi=>if(DK t e inj N (AA c.fl 0) (AA l i)).2≠10 then Y (⟨0,AA l i,[(DK t e inj N (AA c.fl 0) (AA l i)).1]⟩,(DK t e inj N (AA c.fl 0) (AA l i)).2)else W) U rfl]
    .cases fst (λi=>if(DK t e inj N (AA c.fl 0) (AA l i)).2≠10 then Y ((⟨0,AA l i,[(DK t e inj N (AA c.fl 0) (AA l i)).1]⟩:BO),(DK t e inj N (AA c.fl 0) (AA l i)).2)else W) 0 l.length<;>rfl
    .intro i o i1 _;rw[AD U U,bs,AD o i1,bs,Tu hf hv hh N _ c.d6 _ (kid 0 U U) (y.kid5 D _ (AG U U)) (I _ (AG o i1)) n U,bs];generalize DK t e inj N (AA c.fl 0) (AA l i)=x;by_cases u:x.2=10
     .rw[ae l!,ae l!];try rfl
     .rw[ac l!,ac u];try rfl
   grind
  grind
end Go.Sf.Sc
namespace Go.Sf.Sc
open Go Go.Sf
noncomputable def VQ(t:AC)(p:d6)(c:d5)(h:AE)(m:AQ)(inj:Bool):Int:=
 if Jf t p c≠0 then Jf t p c else if(Dl t h).2≠0 then(Dl t h).2 else if Gp t p.d3 h.d3 m.d4 inj≠0 then Gp t p.d3 h.d3 m.d4 inj else
 if (Gu t p h m.d4).2≠0 then(Gu t p h m.d4).2 else if(Gu t p h m.d4).1=m.em then 0 else 11
variable{t:AC}{c:d5}
def rN(hf:A2 t)(p:d6)(e:EQ c)(h:AE)(m:AQ)(inj:Bool):GM t p c h m inj=Y (VQ t p c h m inj):=by
 unfold GM VQ;rw[vJ hf p e,bs];refine ET λ_=>?_;rw[Vw hf,bs];refine ET λ_=>?_;rw[Zp hf,bs];refine ET λ_=>?_;rw[jk hf,bs];refine ET λ_=>?_;rw[Ka,bs]
 grind
variable{p:d6}{h:AE}
def YL(hf:A2 t)(H:D3 c<=40){m:AQ}{inj:Bool}(e:VQ t p c h m inj=0):(BD t).2=0/\It t h/\CV t p c/\X3 t p h m:=by
 unfold VQ at e;split at e
 .grind
 rename_i o;split at e
 .grind
 rename_i y;split at e
 .grind
 rename_i z;split at e
 .grind
 rename_i D;split at e
 case isFalse=>cases e
 rename_i K;have o:=K'.1 o;have y:=K'.1 y;have z:=K'.1 z;have D:=K'.1 D;obtain⟨hv,hh⟩:=O1 hf y;have F:=(dw z).2;unfold Jf at o;split at o
 .grind
 rename_i I;split at o
 .grind
 rename_i E;have G:=rc hv (.inl (K'.1 I));have E:=K'.1 E;have J:kS c=X:=by
  grind [NB]
 suffices u:(m.em.length:Int)=p.em/\RE m.em from⟨hv,hh,td hv _ c p (az _) H J o,G,F,u.1,u.2⟩
 have u:∀s∈p.ei,Kf p.em h m.d4 s:=λs u=>PA (Cw hv) G hh F u
 grind [Gu,pP]
end Go.Sf.Sc
namespace Go.Sf.Sc
open Go Go.Sf
def R5:Nat->d5->Bool
 |0,_=>X|N+1,c=>if kp (λi=>!R5 N (AA c.fl i)) 0 c.fl.length=X then T else decide (AJ ((c.d6.d3.dl.length:Int)+c.d6.d3.dr.length)<=6)
def bU:∀(N:Nat)(c:d5),SizeOf.sizeOf c<=N->∀n,N<=n->Gk n c=Y (R5 N c)
 |0,c,h,_,_=>by have:=D5 c;omega|N+1,c,h,n,o=>by
  obtain ⟨n,rfl⟩:∃k,n=k+1:=⟨n-1,U⟩;rw[Gk,R5,Bq (λi=>!R5 N (AA c.fl i)) T]
  .cases kp (λi=>!R5 N (AA c.fl i)) 0 c.fl.length<;>rfl
  .intro i e i1 _;have:=Eg (AG (l:=c.fl) e i1);rw[AD e i1,bs,bU N _ U n U,bs,JL]
def rn(c:d5):Se c=Y (R5 (SizeOf.sizeOf c) c):=Dp (SizeOf.sizeOf c) λn e=>bU _ c (az _) n e
def Vp(a:Int):Nat->Int->Int
 |0,s=>s|k+1,s=>AJ (Vp a k s*a)
def uB{a b k s:Int}(u:0<=k)(o:k<=1000)(hb:b<=1000):DC (ρ:=Bool) (λ(e:Int×Int)=>
  if (decide (e.2<b))=X then
  Y (.next (AJ (e.1*a),AJ (e.2+1)))
  else
  Y (.brk (e.1,e.2))) (s,k)=Y (.inl (Vp a (max k b-k).toNat s,max k b)):=by
 refine Py (λi=>Vp a (i-k).toNat s) U (by rw[show(k-k).toNat=0 by omega];rfl) (λi y i1=>?_) ?_
 .rw[ac an,show(i+1-k).toNat=(i-k).toNat+1 by omega,Vp];dsimp only;rw[AU (n:=i+1) U U]
 .rw[ae an]
def SJ(a b:Int):Nat->d6->d5->Bool
 |0,_,_=>X|N+1,p,c=>
  let q:=if c.kg=5 then c.d6 else p
  if kp (λi=>!SJ a b N q (AA c.fl i)) 0 c.fl.length=X then T else
  decide (Vp b (max (p.d3.dr.length:Int) q.d3.dr.length-p.d3.dr.length).toNat (Vp a (max (p.d3.dl.length:Int) q.d3.dl.length-p.d3.dl.length).toNat 1)<=5000)
def fz(a b:Int):∀(N:Nat)(c:d5)(p:d6),SizeOf.sizeOf c<=N->EQ c->P4 p->∀n,N<=n->Ep n p c a b=Y (SJ a b N p c)
 |0,c,_,h,_,_,_,_=>by have:=D5 c;omega|N+1,c,p,h,u,G,n,δ=>by
  obtain ⟨n,rfl⟩:∃k,n=k+1:=⟨n-1,U⟩;have O:=u.q.ea;have P:=u.q.eb;have S:=G.ea;have ε:=G.eb;have o:∀q:d6,P4 q->(ej (DC (ρ:=Bool) (λ(e:Int×Int)=>
    if (decide (e.2<(q.d3.dl.length:Int)))=X then
    Y (.next (AJ (e.1*a),AJ (e.2+1)))
    else
    Y (.brk (e.1,e.2))) (1,(p.d3.dl.length:Int))) (λe=>
    ej (DC (ρ:=Bool) (λ(s2:Int×Int)=>
    if (decide (s2.2<(q.d3.dr.length:Int)))=X then
    Y (.next (AJ (s2.1*b),AJ (s2.2+1)))
    else
    Y (.brk (s2.1,s2.2))) (e.1,(p.d3.dr.length:Int))) (λs2=>
    ej (hV (ρ:=Bool) (λ(H:Int)(_:Unit)=>
    (idx c.fl H).bind λy=>
    (Ep n q y a b).bind λz=>
    if (!z)=X then
    Y (.ret T)
    else
    Y (.next ())) 0 (c.fl.length:Int) ()) (λ_=>
    Y (decide (s2.1<=5000))) (λI=>Y I)) (λJ=>Y J)) (λK=>Y K))=
    Y (if kp (λi=>!SJ a b N q (AA c.fl i)) 0 c.fl.length=X then T else
     decide (Vp b (max (p.d3.dr.length:Int) q.d3.dr.length-p.d3.dr.length).toNat (Vp a (max (p.d3.dl.length:Int) q.d3.dl.length-p.d3.dl.length).toNat 1)<=5000)):=by
   intro q D;have η:=D.ea;have ζ:=D.eb;rw[uB U U U,B8];dsimp only;rw[uB U U U,B8,Bq (λi=>!SJ a b N q (AA c.fl i)) T]
   .cases kp (λi=>!SJ a b N q (AA c.fl i)) 0 c.fl.length<;>rfl
   .intro i E i1 _;have:=Eg (AG (l:=c.fl) E i1);rw[AD E i1,bs,fz a b N _ q U (u.k _ (AG E i1)) D n U,bs,JL]
  rw [Ep,SJ];by_cases F:c.kg=5
  .rw[ac o!,ac F,bs,o _ u.q]
  grind
variable{c:d5}{p:d6}
def om(a b:Int)(e:EQ c)(o:P4 p):RK p c a b=Y (SJ a b (SizeOf.sizeOf c) p c):=Dp (SizeOf.sizeOf c) λn u=>fz a b _ c p (az _) e o n u
def eF(h:AE):∃b,Ie h=Y b:=by
 unfold Ie Ju;rw[bs];split
 .exact⟨_,rfl⟩
 .rw[Bq (λi=>decide (12<((AA h.ec i).length:Int))) T]
  .cases kp (λi=>decide (12<((AA h.ec i).length:Int))) 0 h.ec.length
   .exact⟨X,rfl⟩
   .exact⟨T,rfl⟩
  .intro i e i1 _;rw[AD e i1,bs,JL]
variable{t:AC}
def ox(hf:A2 t)(st:(AL t).Sm)(p g:d3):∃b,OF t p g=Y b:=by
 obtain ⟨b,e,_⟩:=Sx st;unfold OF Ju;rw[e,bs,Up hf]
 grind
def oy(hf:A2 t)(st:(AL t).Sm)(p:d6)(F:(AI c).Sm)(h:AE):∃b,OH t p c h=Y b/\(b=X->EQ c/\D3 c<=40/\P4 p):=by
 obtain ⟨G,H,I⟩:=nQ F;obtain⟨J,D,K⟩:=Ti p;obtain⟨N,E⟩:=eF h;unfold OH;rw[H,bs];cases G
 .exact⟨T,rfl,λh=>c!⟩
 rw [D];cases J
 .exact⟨T,rfl,λh=>c!⟩
 rw [E];cases N
 .exact⟨T,rfl,λh=>c!⟩
 have y:=I rfl;have z:=K rfl;simp only[bs,Bool.not_true,L',if_false];rw[oo hf p y.1,bs];have u:∀o:K1,(∃b,o=Y b)->∃b,o=Y b/\(b=X->EQ c/\D3 c<=40/\P4 p):=λo⟨b,e⟩=>⟨b,e,λ_=>⟨y.1,y.2,z⟩⟩;refine u _ ?_;split
 .exact⟨X,rfl⟩
 .obtain⟨O,P⟩:=ox hf st p.d3 h.d3;unfold Qm;rw[D,E,P,rn,om 14 18 y.1 z];simp only[bs,if_true];cases O<;>simp only[L',if_false,if_true,bs,L!]
  .exact⟨_,rfl⟩
  .split
   .exact⟨_,rfl⟩
   .exact⟨_,rfl⟩
noncomputable def wS(t:AC)(p:d6)(c:d5)(h:AE)(m:AQ)(inj:Bool):BO×Int:=
 if VQ t p c h m inj≠0 then(zP,VQ t p c h m inj)else DL t h inj (SizeOf.sizeOf c) c m
theorem ob(hf:A2 t)(p:d6)(o:EQ c)(u:D3 c<=40)(h:AE)(m:AQ)(inj:Bool):E3 t p c h m inj=Y (wS t p c h m inj):=by
 unfold E3 wS;rw[rN hf p o,bs];refine D1 λy=>?_;obtain⟨hv,hh,e,ha⟩:=YL hf u y;rw[show F8 (Bk.mk t h inj) c m=Y (DL t h inj (SizeOf.sizeOf c) c m)from Dp (2*SizeOf.sizeOf c) λn z=>Y1 (s:=⟨t,h,inj⟩) hf hv hh _ c p m (az _) e ha n z];rfl
noncomputable def Ou(t:AC)(p:d6)(c:d5)(h:AE)(m:AQ)(inj:Bool):Bool×Int:=
 if (wS t p c h m inj).2=10 then(T,0)else(decide ((wS t p c h m inj).2=0),(wS t p c h m inj).2)
def iT(hf:A2 t)(p:d6)(e:EQ c)(o:D3 c<=40)(h:AE)(m:AQ)(inj:Bool):EH t p c h m inj=Y (Ou t p c h m inj):=by grind[EH,Ou,ob,wS]
variable{h:AE}
theorem rj(hf:A2 t){inj:Bool}{m:AQ}(hv:(BD t).2=0)(hh:It t h)(e:CV t p c)(ha:X3 t p h m):Qn t c h m inj=Y (DK t h inj (SizeOf.sizeOf c) c m):=Dp (SizeOf.sizeOf c) λn o=>Tu hf hv hh _ c p m (az _) e ha n o
end Go.Sf.Sc
namespace Go.Sf.Sc
open Go Go.Sf
end Go.Sf.Sc
namespace Go.Sf.Sc
open Go Go.Sf
theorem wR(t:AC)(p:d6)(c:d5)(h:AE)(m:AQ)(inj:Bool):wS t p c h m inj=if VQ t p c h m inj≠0 then(zP,VQ t p c h m inj)else N1 (DK t h inj (SizeOf.sizeOf c) c m):=by
 unfold wS;rw[kV]
end Go.Sf.Sc
namespace Go.Sf.Sc
open Go Go.Sf
variable{a:Int}
def zY{σ ρ:Type}{f:σ×Int->Option (B2 (σ×Int) ρ)}(I:Int->σ->Prop)(b:Int){s:σ}(D:I a s)
  (step:∀i s,a<=i->I i s->(i<b/\∃s',f (s,i)=Y (.next (s',i+1))/\I (i+1) s')\/f (s,i)=Y (.brk (s,i))):∃i s',a<=i/\I i s'/\f (s',i)=Y (.brk (s',i))/\DC f (s,a)=Y (.inl (s',i)):=by
 have key:∀(n:Nat)(i:Int)(s:σ),a<=i->I i s->b-i<=n->∃j s',i<=j/\I j s'/\f (s',j)=Y (.brk (s',j))/\Mc f (s,i) (.inl (s',j)):=by
  intro n
  induction n with
  |zero=>
   intro i s hi e hb;rcases step i s hi e with⟨h,_⟩|h
   .omega
   .exact⟨i,s,I! _,e,h,.brk h⟩
  |succ n G=>
   intro i s hi e hb;rcases step i s hi e with⟨_,s',E,F⟩|h
   .obtain⟨j,s2,z,o,u,y⟩:=G (i+1) s' U F U;exact⟨j,s2,U,o,u,.next E y⟩
   .exact⟨i,s,I! _,e,h,.brk h⟩
 obtain ⟨j,s',z,o,u,y⟩:=key (b-a).toNat a s (I! _) D U;exact⟨j,s',z,o,u,y.eq⟩
def E7{σ ρ β:Type}{f:σ×Int->Option (B2 (σ×Int) ρ)}{k:σ×Int->Option β}{e:ρ->Option β}{Q:β->Prop}(I:Int->σ->Prop)(b:Int){s:σ}(o:I a s)
  (step:∀i s,a<=i->I i s->(i<b/\∃s',f (s,i)=Y (.next (s',i+1))/\I (i+1) s')\/f (s,i)=Y (.brk (s,i)))(u:∀i s,a<=i->I i s->f (s,i)=Y (.brk (s,i))->∃r,k (s,i)=Y r/\Q r):∃r,ej (DC f (s,a)) k e=Y r/\Q r:=by
 obtain ⟨i,s',y,z,D,E⟩:=zY I b o step;rw[E,B8];exact u i s' y z D
variable{b:Int}
def Oz{σ β:Type}{f:Int->σ->Option σ}{k:σ->Option β}{Q:β->Prop}(I:Int->σ->Prop){s:σ}(e:a<=b)(o:I a s)(h:∀i s,a<=i->i<b->I i s->∃s',f i s=Y s'/\I (i+1) s')(u:∀s,I b s->∃r,k s=Y r/\Q r):∃r,(kx f a b s).bind k=Y r/\Q r:=by
 obtain ⟨s',y,z⟩:=Om I e o h;rw[y,bs];exact u s' z
def Ce(ha:0<=a)(hb:0<b):∃r,Di a b=Y r/\0<=r/\r<b:=by
 unfold Di;rw[ae U,Int.tmod_eq_emod_of_nonneg ha];exact⟨_,rfl,Int.emod_nonneg _ U,Int.emod_lt_of_pos _ hb⟩
def ZC(hb:b≠0):∃r,Di a b=Y r:=by
 unfold Di;rw[ae hb];exact⟨_,rfl⟩
def Zt(ha:0<=a)(hb:0<b):∃r,quo a b=Y r/\0<=r/\r<=a:=by
 unfold quo;rw[ae U,J_ ha];exact⟨_,rfl,Int.ediv_nonneg ha U,Int.ediv_le_self _ ha⟩
def uM(a:Int):0<=IntKind.u8.wrap a/\IntKind.u8.wrap a<256:=by
 have e:IntKind.u8.wrap a=a % 256:=by
  unfold IntKind.wrap;simp[IntKind.signed,IntKind.bits]
 rw [e];omega
instance:Inhabited MA:=⟨⟨0,0⟩⟩
instance:Inhabited Ke:=⟨⟨0,0,0⟩⟩
instance:Inhabited Tb:=⟨⟨0,0,0,0⟩⟩
instance:Inhabited LI:=⟨⟨0,0⟩⟩
def U8(x:Int):Prop:=0<=x/\x<256
def U2(a:MA):Prop:=U8 a.a0/\U8 a.a1
def U3(a:Ke):Prop:=U8 a.a0/\U8 a.a1/\U8 a.a2
def U8.w{x:Int}(h:U8 x):AJ x=x:=AU (by have:=h.1;omega) (by have:=h.2;omega)
def oD(i:Int):ByteArray:=(⟨#[65,66,67,68,69,70]⟩:ByteArray).extract i.toNat (i+1).toNat
def uS(i:Int):ByteArray:=(⟨#[117,118,119,120,121,122]⟩:ByteArray).extract i.toNat (i+1).toNat
def ti(i:Int):ByteArray:=(⟨#[101,102,103,104,105]⟩:ByteArray).extract i.toNat (i+1).toNat
structure X4(a:ke)(i:Int):Prop where
 name:a.kh=uS i
 low:(a.pf=[]/\a.Low=-3/\3<=a.Aab/\a.Aab<=11)\/a.pf=[(⟨#[111,102,102]⟩:ByteArray),(⟨#[111,110]⟩:ByteArray)]/\a.Low=0/\a.Aab=1
structure RT(n:Be)(i:Int):Prop where
 nm:n.kh=oD i
 par:-1<=n.sx/\n.sx<i
 own:n.og=[]\/∃a,n.og=[a]/\X4 a i
variable{i:Int}
def RT.name{n:Be}(h:RT n i):n.kh.size<=40:=by
 rw [h.nm,oD,M?];show min _ 6-_<=40;omega
theorem X4.few{a:ke}(h:X4 a i):T7 a:=by
 have e:a.kh.size<=40:=by
  rw [h.name,uS,M?];show min _ 6-_<=40;omega
 rcases h.low with⟨k,_⟩|⟨k,_⟩
 .exact⟨U,by simp[k],by simp[k]⟩
 .refine⟨U,by simp[k],λx o=>?_⟩;simp only[k,x?,List.not_mem_nil,or_false]at o;rcases o with rfl|rfl<;>decide
def RT.Abb{n:Be}(h:RT n i):n.og.length<=1:=by
 rcases h.own with k|⟨a,k,_⟩<;>simp[k]
def RT.each{n:Be}(h:RT n i):∀a∈n.og,T7 a:=by
 rcases h.own with k|⟨b,k,hb⟩<;>grind[X4.few]
structure QV(t:AC)(i:Int):Prop where
 len:(t.dl.length:Int)=i
 node:∀k:Int,0<=k->k<i->RT (AA t.dl k) k
variable{t:AC}
def QV.app(h:QV t i){n:Be}(u:RT n i):QV ⟨t.dl++[n],t.dr⟩ (i+1):=by
 refine ⟨by simp[<-h.len],λk o y=>?_⟩;have z:=h.len;by_cases e:k=i
 .subst e;rw[show AA (t.dl++[n]) k=n from NJ _ _ U];exact u
 .rw[show AA (t.dl++[n]) k=AA t.dl k from Lz _ _ o U];exact h.node k o U
def rK{s:ByteArray}(e:0<=i)(h:i+1<=s.size):(s.extract i.toNat (i+1).toNat).size<=40:=by
 rw [M?];omega
def S7{i x0 x1:Int}(N:0<=i)(i1:i<6)(J:U8 x0)(O:U8 x1)(I:QV t i):∃K,((Aai (⟨#[65,66,67,68,69,70]⟩:ByteArray) i (AJ (i+1))).bind λD=>
 (Di (AJ x0) (AJ (i+1))).bind λe=>
 (quo x0 16).bind λE=>
 (Di (IntKind.u8.wrap E) 4).bind λu=>
 (Aai (⟨#[117,118,119,120,121,122]⟩:ByteArray) i (AJ (i+1))).bind λH=>
 (Di x1 4).bind λF=>
 if (decide (F=1))=X then
 (quo x1 4).bind λy=>
 (Di (AJ (IntKind.u8.wrap y)) 9).bind λz=>
 (AY t.dl [Be.mk D (AJ (e-1)) (decide (u=3)) [ke.mk H (-3) (AJ (3+z)) []]]).bind λo=>
 Y (B2.next (ρ:=AC) (AC.mk o t.dr,AJ (i+1)))
 else
 if (decide (F=2))=X then
 (AY t.dl [Be.mk D (AJ (e-1)) (decide (u=3)) [ke.mk H 0 1 [(⟨#[111,102,102]⟩:ByteArray),(⟨#[111,110]⟩:ByteArray)]]]).bind λo=>
 Y (.next (AC.mk o t.dr,AJ (i+1)))
 else
 (AY t.dl [Be.mk D (AJ (e-1)) (decide (u=3)) []]).bind λo=>
 Y (.next (AC.mk o t.dr,AJ (i+1))))=Y (.next (K,i+1))/\QV K (i+1)/\K.dr=t.dr:=by
 have Z:=I.len;rw[AU (n:=i+1) U U,J3 N U (by show i+1<=((6:Nat):Int);omega),bs,J.w];obtain⟨e,P,k1,k2⟩:=Ce J.1 (show 0<i+1 by omega);obtain⟨E,S,_⟩:=Zt J.1 (show(0:Int)<16 by omega);obtain⟨u,ε⟩:=ZC (a:=IntKind.u8.wrap E) (show(4:Int)≠0 by omega);obtain⟨F,η⟩:=ZC (a:=x1) (show(4:Int)≠0 by omega);obtain⟨y,ζ,_⟩:=Zt O.1 (show(0:Int)<4 by omega);have hw:=uM y;obtain⟨z,δ,k3,k4⟩:=Ce (show 0<=AJ (IntKind.u8.wrap y)by rw[AU U U];omega) (show(0:Int)<9 by omega);have G:∀n:Be,AY t.dl [n]=Y (t.dl++[n]):=λn=>AP a_;rw[P,bs,S,bs,ε,bs,J3 N U (by show i+1<=((6:Nat):Int);omega),bs,η,bs,ζ,bs,δ,bs,G,G,G,AU (n:=e-1) U U];simp only[bs];split
 .exact⟨_,rfl,I.app ⟨rfl,b!,.inr ⟨_,rfl,rfl,.inl ⟨rfl,rfl,by show 3<=AJ (3+z)/\AJ (3+z)<=11;rw[AU U U];omega⟩⟩⟩,rfl⟩
 .split
  .exact⟨_,rfl,I.app ⟨rfl,b!,.inr ⟨_,rfl,rfl,.inr ⟨rfl,rfl,rfl⟩⟩⟩,rfl⟩
  .exact⟨_,rfl,I.app ⟨rfl,b!,.inl rfl⟩,rfl⟩
def EnM(t:AC):Prop:=∀k:Int,0<=k->k<t.dr.length->(AA t.dr k).kh=ti k/\Mi (AA t.dr k).AaN (AA t.dr k).Aay=X/\Mi (AA t.dr k).Abg (AA t.dr k).AaP=X
structure F7(t:AC):Prop where
 n:QV t t.dl.length
 pos:0<t.dl.length
 ea:t.dl.length<=6
 eb:t.dr.length<=5
 edge:∀e∈t.dr,e.kh.size<=40/\(0<=e.ia/\e.ia<t.dl.length)/\0<=e.To/\e.To<t.dl.length
 en:EnM t
def F7.few(h:F7 t):A2 t:=by
 have o:∀n∈t.dl,∃i,RT n i:=λn o=>by
  obtain ⟨i,y,i1,rfl⟩:=BP o;exact⟨i,h.n.node i y i1⟩
 refine ⟨by have:=h.ea;omega,by have:=h.eb;omega,λn u=>?_,λn u=>?_,λn u=>?_,λe he=>?_⟩
 .obtain⟨i,k⟩:=o n u;have:=k.name;omega
 .obtain⟨i,k⟩:=o n u;have:=k.Abb;omega
 .obtain⟨i,k⟩:=o n u;exact k.each
 .have:=(h.edge e he).1;omega
def F7.par(h:F7 t):E8 t t.dl.length:=λi e i1=>(h.n.node i e i1).par
def F7.below(h:F7 t)(ha:0<=a)(e:a<t.dl.length)(hb:0<=b):∃r,FL t a b=Y r:=
 ⟨_,Dp (a+2).toNat λn o=>Xm h.par hb n (a+1).toNat a U e U U⟩
def rf{ea eb:List MA}(ε:∀x∈ea,U2 x)(he:∀x∈eb,U2 x):∃t,Pg ea eb=Y t/\F7 t:=by
 unfold Pg;refine E7 (λi t=>(0<=i/\i<=6)/\QV t i/\t.dr=[]) 6 ⟨U,⟨rfl,λk I F=>U⟩,rfl⟩ (λi t δ⟨hi,G,y⟩=>?_) (λi t δ⟨hi,G,y⟩o=>?_)
 .dsimp only;by_cases O:i=0\/(i<ea.length/\i<6)
  .left;have fd:∀{ζ:Option (B2 (AC×Int) AC)},(∃E,ζ=Y (.next (E,i+1))/\QV E (i+1)/\E.dr=t.dr)->i<6/\∃s',ζ=Y (.next (s',i+1))/\(0<=i+1/\i+1<=6)/\QV s' (i+1)/\s'.dr=[]:=λ⟨E,a1,a2,a3⟩=>⟨U,E,a1,U,a2,a3.trans y⟩;refine fd ?_;rw[ac an];by_cases z:i<ea.length
   .rw[ac d!,AD hi.1 z,bs];have D:=ε _ (AG hi.1 z);exact S7 (t:=t) hi.1 U D.1 D.2 G
   .rw[ae d!];exact S7 (t:=t) (x0:=0) (x1:=0) hi.1 U ⟨U,U⟩ ⟨U,U⟩ G
  .right;rw[ae an]
 .have η:0<i:=by
   by_cases e:i=0
   .subst e;dsimp only at o;rw[ac V]at o;by_cases z:(0:Int)<ea.length
    .rw[ac d!,AD U z,bs]at o;have D:=ε _ (AG U z);obtain⟨E,a1,_⟩:=S7 (t:=t) U U D.1 D.2 G;rw[a1]at o;cases o
    .rw[ae d!]at o;obtain⟨E,a1,_⟩:=S7 (t:=t) (x0:=0) (x1:=0) U U ⟨U,U⟩ ⟨U,U⟩ G;rw[a1]at o;cases o
   .omega
  have z:=G.len;dsimp only;refine E7 (λj u=>(0<=j/\j<=5)/\u.dl=t.dl/\(u.dr.length:Int)=j/\(∀e∈u.dr,e.kh.size<=40/\(0<=e.ia/\e.ia<u.dl.length)/\0<=e.To/\e.To<u.dl.length)/\EnM u) 5 ⟨U,rfl,by rw[y];rfl,(λe he=>by rw[y]at he;cases he),λk _ F=>by rw[y]at F;simp at F;omega⟩
   (λj u Z⟨J,H,h2,P,S⟩=>?_) (λj u Z⟨J,H,h2,P,S⟩_=>?_)
  .dsimp only;by_cases O:j<eb.length/\j<5
   .left;have D:=he _ (AG J.1 O.1);have N:(0:Int)<u.dl.length:=by rw[H];omega
    obtain ⟨r1,e1,a1,a2⟩:=Ce (show 0<=AJ (AA eb j).a0 by rw[D.1.w];exact D.1.1) N;obtain⟨r2,e2,b1,b2⟩:=Ce (show 0<=AJ (AA eb j).a1 by rw[D.2.w];exact D.2.1) N;refine⟨U,⟨u.dl,u.dr++[⟨(⟨#[101,102,103,104,105]⟩:ByteArray).extract j.toNat (j+1).toNat,r1,r2,0,-1,0,-1⟩]⟩,?_,U,H,an,?_,?_⟩
    .rw[ac (by simpa using O),AU (n:=j+1) U U,J3 J.1 U (by show j+1<=((5:Nat):Int);omega),bs,AD J.1 O.1,bs,e1,bs,bs,e2,bs,AP a_,bs]
    .intro e K;rcases x!.1 K with K|K
     .exact P e K
     .rw[B!.1 K];exact⟨rK J.1 (by show j+1<=((5:Nat):Int);omega),⟨a1,a2⟩,b1,b2⟩
    .intro k I F;by_cases e:k=j
     .rw[show AA (u.dr++_) k=_ from NJ _ _ U,e];exact⟨rfl,rfl,rfl⟩
     .simp at F;rw[show AA (u.dr++_) k=AA u.dr k from Lz _ _ I U];exact S k I U
   .right;rw[ae an]
  .refine⟨u,rfl,⟨rfl,λk I F=>?_⟩,by rw[H];omega,by rw[H];omega,U,P,S⟩;rw[H]at F|-;exact G.node k I U
end Go.Sf.Sc
namespace Go.Sf.Sc
open Go Go.Sf
variable{β:Type}{Q:β->Prop}
def bO{n:Nat}{f:Int->Fp->Option Fp}{k:Fp->Option β}(D:n<=1000)(h:∀(i:Int)s,0<=i->i<n->∃b:Bool,f i s=if b=X then(AY s [i]).bind λx=>Y x else Y s)
  (y:∀l:Fp,l.length<=n->(∀x∈l,0<=x/\x<(n:Int))->∃r,k l=Y r/\Q r):∃r,(kx f 0 (n:Int) []).bind k=Y r/\Q r:=by
 refine Oz (λi l=>(l.length:Int)<=i/\∀x∈l,0<=x/\x<(n:Int)) U ⟨V,λx e=>p?⟩ (λi l u i1⟨z,o⟩=>?_) (λl⟨z,o⟩=>y l U o);obtain⟨b,hb⟩:=h i l u i1;rw[hb];cases b
 .exact⟨l,rfl,U,o⟩
 .rw[ac rfl,AP a_];refine⟨l++[i],rfl,an,λx e=>?_⟩;rcases x!.1 e with e|e
  .exact o x e
  .rw[B!.1 e];exact⟨u,i1⟩
def VJ(t:AC)(n:Int)(e:B0):Prop:=(0<=e.ib/\e.ib<t.dr.length)/\(0<=e.ia/\e.ia<n)/\(0<=e.To/\e.To<n)
structure Sn(t:AC)(g:d3):Prop where
 ea:g.dl.length<=8
 eb:g.dr.length<=10
 kind:∀n∈g.dl,0<=n/\n<t.dl.length
 fit:∀e∈g.dr,VJ t g.dl.length e
variable{t:AC}{g:d3}{k:Int}
def jy(y:F7 t)(e:Sn t g)(z:0<=k):∃l,MG t g k=Y l/\(l.length<=1000/\∀x∈l,0<=x/\x<g.dl.length):=by
 unfold MG;refine bO (by have:=e.ea;omega) (λi s o i1=>?_) (λl E D=>⟨l,rfl,by have:=e.ea;omega,D⟩);have u:=e.kind _ (AG o i1);obtain⟨b,hb⟩:=y.below u.1 u.2 z;exact⟨b,by rw[AD o i1,bs,hb,bs]⟩
structure ml(d:OC):Prop where
 ea:∀x∈d.dl,U8 x
 eb:∀x∈d.dr,U3 x
def rh(F:F7 t){d:OC}(hd:ml d)(P:Bool):∃g,Pk t d P=Y g/\Sn t g:=by
 unfold Pk;have htn:=F.ea;have hte:=F.eb;refine bO U (λi s J i1=>?_) (λkinds h1 Z=>?_)
 .cases P
  .exact⟨!(AA t.dl i).o3,by rw[ae a!,AD J i1];simp only[bs]⟩
  .exact⟨X,rfl⟩
 refine E7 (λi g=>(0<=i/\i<=8)/\((g.dl.length:Int)<=i/\g.dr=[])/\∀n∈g.dl,0<=n/\n<(t.dl.length:Int)) 8 ⟨U,⟨V,rfl⟩,λn D=>by cases D⟩ (λi g J⟨a1,a2,a3⟩=>?_) (λi g J⟨a1,a2,a3⟩_=>?_)
 .dsimp only;by_cases o:(i<d.dl.length/\i<8)/\0<(kinds.length:Int)
  .left;have z:=hd.ea _ (AG a1.1 o.1.1);obtain⟨r,K,E,y⟩:=Ce (show 0<=AJ (AA d.dl i)by rw[z.w];exact z.1) o.2;refine⟨U,⟨g.dl++[AA kinds r],g.dr⟩,?_,U,⟨an,a2.2⟩,λn D=>?_⟩
   .rw[ac c?,AD a1.1 o.1.1,bs,K,bs,AD E y,bs,AP a_,bs,AU (n:=i+1) U U]
   .rcases x!.1 D with D|D
    .exact a3 n D
    .rw[B!.1 D];exact Z _ (AG E y)
  .right;rw[ae c?]
 .dsimp only;refine E7 (λj u=>(0<=j/\j<=10)/\u.dl=g.dl/\(u.dr.length:Int)<=j/\∀e∈u.dr,VJ t u.dl.length e) 10 ⟨U,rfl,by rw[a2.2];simp,by rw[a2.2];intro e he;cases he⟩ (λj u j0⟨E,y,b3,G⟩=>?_) (λj u j0⟨E,y,b3,G⟩_=>?_)
  .dsimp only;by_cases o:(j<d.dr.length/\j<10)/\0<(t.dr.length:Int)
   .left;have z:=hd.eb _ (AG E.1 o.1.1);obtain⟨r,K,N,O⟩:=Ce (show 0<=AJ (AA d.dr j).a0 by rw[z.1.w];exact z.1.1) o.2;have H:=(F.edge _ (AG N O)).2;have S:Sn t u:=⟨by rw[y];omega,U,by rw[y];exact a3,G⟩;obtain⟨l1,e2,m1,m2⟩:=jy F S H.1.1;obtain⟨l2,e3,n1,n2⟩:=jy F S H.2.1;refine⟨U,?_⟩;rw[ac c?,AD E.1 o.1.1,bs,K,bs,AD N O,bs,e2,bs,bs,e3,bs,AU (n:=j+1) U U];by_cases I:0<(l1.length:Int)/\0<(l2.length:Int)
    .obtain⟨r1,f1,ε,η⟩:=Ce (show 0<=AJ (AA d.dr j).a1 by rw[z.2.1.w];exact z.2.1.1) I.1;obtain⟨r2,f2,ζ,δ⟩:=Ce (show 0<=AJ (AA d.dr j).a2 by rw[z.2.2.w];exact z.2.2.1) I.2;refine⟨⟨u.dl,u.dr++[⟨r,AA l1 r1,AA l2 r2⟩]⟩,?_,U,y,an,λe he=>(x!.1 he).elim (G e) λhe=>?_⟩
     .rw[ac s_,bs,f1,bs,AD ε η,bs,bs,f2,bs,AD ζ δ,bs,AP a_,bs]
     .rw[B!.1 he];exact⟨⟨N,O⟩,m2 _ (AG ε η),n2 _ (AG ζ δ)⟩
    .rw[ae s_];exact⟨u,rfl,U,y,U,G⟩
   .right;rw[ae c?]
  .exact⟨u,rfl,by rw[y];omega,U,by rw[y];exact a3,G⟩
structure mt(d:OG):Prop where
 g:ml d.d3
 slots:∀x∈d.ei,U3 x
structure zb(p:d6):Prop where
 ea:p.d3.dl.length<=8
 eb:p.d3.dr.length<=10
 slots:p.ei.length<=4
 tests:p.jj.length<=3
 vars:0<=p.em/\p.em<=3
def qE(t:AC)(g:d3)(a b:Int):Prop:=(0<=a/\a<g.dl.length)/\0<=b/\b<(Fw t (AA g.dl a)).1.length
def RU(t:AC)(g:d3)(v:Int)(s:CF):Prop:=qE t g s.mL s.ke/\(-1<=s.gl.Var/\s.gl.Var<v)/\-100<=s.gl.Add/\s.gl.Add<=100
structure kc(t:AC)(p:d6):Prop extends zb p where
 g:Sn t p.d3
 slot:∀s∈p.ei,RU t p.d3 p.em s
 test:∀x∈p.jj,Lq p.em x=0
 occ:∀v:Int,0<=v->v<p.em->IS p v=X
def kA{a b r:Int}(h:Di a b=Y r)(hb:0<b):-b<r/\r<b:=by
 unfold Di at h;rw[ae U]at h;exact Option.some.inj h▸⟨Int.lt_tmod_of_pos a hb,Int.tmod_lt_of_pos a hb⟩
variable{a b:Int}
def l8(hb:0<b)(o:b<=1000):∃r,GQ a b=Y r/\0<=r/\r<b:=by
 unfold GQ;obtain⟨r,e⟩:=ZC (a:=a) (show b≠0 by omega);have:=kA e hb;obtain⟨u,y,k⟩:=Ce (a:=AJ (r+b)) e_ hb;rw[e,bs,y];exact⟨u,rfl,k⟩
variable{n:Int}
def rd(h:0<=n/\n<=3)(c:Tb):∃x,Pf n c=Y x/\Lq n x=0:=by
 unfold Pf;obtain⟨e,u,a1,a2⟩:=l8 (a:=AJ c.a0) (show(0:Int)<4 by omega) U;obtain⟨y,z,H,I⟩:=l8 (a:=AJ c.a1) (show 0<n+1 by omega) U;obtain⟨D,E,J,K⟩:=l8 (a:=AJ c.a2) (show 0<n+1 by omega) U;obtain⟨N,o⟩:=ZC (a:=AJ c.a3) (show(12:Int)≠0 by omega);have F:=kA o U;rw[u,bs,quo,ae U,bs,AU (n:=n+1) U U,z,bs,E,bs,o];refine⟨_,rfl,?_⟩;have G:e.tdiv 3=0\/e.tdiv 3=1:=by rw[J_ a1];omega
 rw [AU (n:=y-1) U U,AU (n:=D-1) U U,AU (n:=e.tdiv 3) U U,AU (n:=1+e.tdiv 3) U U];unfold Lq Og;rw[ae b!,ac an]
variable{v w:Int}{s:CF}
def RU.up(h:RU t g v s)(hv:v<=w):RU t g w s:=⟨h.1,⟨h.2.1.1,by have:=h.2.1.2;omega⟩,h.2.2⟩
variable{p q:d6}
def vD(e:q.ei=p.ei++[s]):IS q v=(IS p v||decide (s.gl.Var=v)):=by
 unfold IS;rw[e,List.any_append];simp
def oj(N:F7 t){d:OG}(hd:mt d):∃p,Pl t d=Y p/\kc t p:=by
 unfold Pl;obtain⟨g,eg,hg⟩:=rh N hd.g X;rw[eg,bs];have hgn:=hg.ea;have hge:=hg.eb;refine E7 (λi l=>(0<=i/\i<=g.dl.length)/\(l.length:Int)<=600*i/\∀x∈l,qE t g x.a0 x.a1) g.dl.length ⟨U,V,λx o=>by cases o⟩ (λi l i0⟨a1,a2,a3⟩=>?_) (λi l i0⟨a1,a2,a3⟩_=>?_)
 .dsimp only;by_cases z:i<g.dl.length
  .left;refine⟨z,?_⟩;rw[ac d!,AD a1.1 z,bs,O7 N.few,bs];have hal:=(UF N.few (AA g.dl i)).1;obtain⟨s,e,J,hs2⟩:=Om (f:=λ(i2:Int)(s2:List LI)=>(AY s2 [LI.mk i i2]).bind λO=>Y O) (λk(s:List LI)=>(s.length:Int)<=600*i+k/\∀x∈s,qE t g x.a0 x.a1) (a:=0) (b:=((Fw t (AA g.dl i)).1.length:Int)) (s:=l) U ⟨U,a3⟩ (λk s P k1 J=>⟨s++[⟨i,k⟩],by rw[AP a_,bs],an,λx o=>(x!.1 o).elim (J.2 x) λo=>by rw[B!.1 o];exact⟨⟨a1.1,z⟩,P,k1⟩⟩);rw[e,bs,AU (n:=i+1) U U];exact⟨s,rfl,U,U,hs2⟩
  .right;rw[ae d!]
 .dsimp only;refine E7 (λj p=>(0<=j/\j<=4)/\p.d3=g/\((p.ei.length:Int)<=j/\p.jj=[])/\(0<=p.em/\p.em<=3)/\(∀s∈p.ei,RU t g p.em s)/\∀v:Int,0<=v->v<p.em->IS p v=X) 4 ⟨U,rfl,⟨V,rfl⟩,V,(λs J=>by cases J),λv h1 S=>by simp at S;omega⟩ (λj p j0⟨ε,F,K,η,ζ,δ⟩=>?_) (λj p j0⟨ε,F,K,η,ζ,δ⟩_=>?_)
  .dsimp only;by_cases z:(j<d.ei.length/\j<4)/\0<(l.length:Int)
   .left;have o:=hd.slots _ (AG ε.1 z.1.1);obtain⟨r,e1,H,E⟩:=Ce (show 0<=AJ (AA d.ei j).a0 by rw[o.1.w];exact o.1.1) z.2;obtain⟨r1,e2,f1,f2⟩:=Ce (show 0<=AJ (AA d.ei j).a1 by rw[o.2.1.w];exact o.2.1.1) (show(0:Int)<5 by omega);obtain⟨r2,e3,f3,f4⟩:=Ce (show 0<=AJ (AA d.ei j).a2 by rw[o.2.2.w];exact o.2.2.1) (show(0:Int)<5 by omega);have hap:∀s:CF,AY p.ei [s]=Y (p.ei++[s]):=λs=>AP a_;have D:=a3 _ (AG H E);refine⟨U,?_⟩;rw[ac d!,AD ε.1 z.1.1,bs,e1,bs,AD H E,bs,e2,bs,e3,bs,AU (n:=j+1) U U,AU (n:=p.em+1) U U,AU (n:=r1-1) U U,AU (n:=r2-2) U U];simp only[hap,bs];have add:∀(v:Int)(s:CF),p.em<=v->v<=3->RU t g v s->(∀x:Int,p.em<=x->x<v->s.gl.Var=x)->(0<=j+1/\j+1<=4)/\p.d3=g/\(((p.ei++[s]).length:Int)<=j+1/\p.jj=[])/\(0<=v/\v<=3)/\(∀s'∈p.ei++[s],RU t g v s')/\∀x:Int,0<=x->x<v->IS ⟨p.d3,p.ei++[s],v,p.jj⟩ x=X:=λv s v1 v2 v3 v4=>by
     refine ⟨U,F,⟨an,K.2⟩,U,λs' G=>(x!.1 G).elim (λG=>(ζ s' G).up v1) λG=>B!.1 G▸v3,λx x0 x1=>?_⟩;rw[vD (p:=p) (s:=s) rfl];by_cases k:x<p.em
     .rw[δ x x0 k];rfl
     .rw[v4 x U x1];simp
    split
    .split
     next I=>rw[qo]at I;exact⟨_,rfl,add 3 _ U U ⟨D,b!,b!⟩ (λx _ _=>U)⟩
     next I=>rw[qo]at I;exact⟨_,rfl,add (p.em+1) _ U U ⟨D,b!,b!⟩ (λx _ _=>b!)⟩
    .rename_i S;rw[qo]at S;split
     next I=>rw[qo]at I;omega
     .exact⟨_,rfl,add p.em _ U U ⟨D,b!,b!⟩ (λx _ _=>U)⟩
   .right;rw[ae d!]
  .dsimp only;refine E7 (λk u=>(0<=k/\k<=3)/\(u.d3=p.d3/\u.ei=p.ei/\u.em=p.em)/\(u.jj.length:Int)<=k/\∀x∈u.jj,Lq u.em x=0) 3 ⟨U,⟨rfl,rfl,rfl⟩,by rw[K.2];simp,by rw[K.2];intro x o;cases o⟩ (λk u P⟨H,E,c3,Z⟩=>?_) (λk u P⟨H,⟨E,c5,c6⟩,c3,Z⟩_=>⟨u,rfl,⟨by rw[E,F];omega,by rw[E,F];omega,by rw[c5];omega,U,by rw[c6];exact η⟩,by rw[E,F];exact hg,by rw[c5,E,c6,F];exact ζ,Z,λv v0 v1=>by unfold IS;rw[c5];exact δ v v0 U⟩);dsimp only;by_cases z:k<d.jj.length/\k<3
   .left;obtain⟨x,ex,o⟩:=rd (n:=u.em) (by rw[E.2.2];exact η) (AA d.jj k);refine⟨U,⟨u.d3,u.ei,u.em,u.jj++[x]⟩,?_,U,E,an,λy hy=>(x!.1 hy).elim (Z y) λhy=>B!.1 hy▸o⟩;rw[ac d!,AD H.1 z.1,bs,ex,bs,AP a_,bs,AU (n:=k+1) U U]
   .right;rw[ae d!]
end Go.Sf.Sc
namespace Go.Sf.Sc
open Go Go.Sf
def xx:∀i:Fin 6,EN (oD (i.1:Int))=X/\EN (uS (i.1:Int))=X:=a!
def oE:∀i j:Fin 6,j<i->oD (j.1:Int)≠oD (i.1:Int)/\uS (j.1:Int)≠uS (i.1:Int):=a!
def xR:∀i:Fin 5,EN (ti (i.1:Int))=X:=a!
def xS:∀i j:Fin 5,j<i->ti (j.1:Int)≠ti (i.1:Int):=a!
variable{i:Int}
def nT{n:Nat}(e:0<=i)(o:i<n):∃k:Fin n,i=(k.1:Int):=⟨⟨i.toNat,U⟩,an⟩
variable{j:Int}
def g6{n:Nat}(e:0<=j)(o:j<i)(u:i<n):∃a b:Fin n,i=(a.1:Int)/\j=(b.1:Int)/\b<a:=⟨⟨i.toNat,U⟩,⟨j.toNat,U⟩,an,an,by simp[Fin.lt_def];omega⟩
variable{t:AC}{k:Int}
def Rb(z:QV t k):∀(n:Nat)(a:Int),a<k->(B6 t n a).length<=n/\∀x∈B6 t n a,∃j,0<=j/\j<=a/\X4 x j
 |0,a,_=>by simp[B6]|n+1,a,ha=>by
  rw [B6];split
  .simp
  .have D:=z.node a U ha;have F:par t a<a:=D.par.2;obtain⟨i1,i2⟩:=Rb z n (par t a) U;rcases D.own with e|⟨b,e,hb⟩<;>rw[e]
   .rw[E_];exact⟨U,λx o=>by obtain⟨j,u,E,y⟩:=i2 x o;exact⟨j,u,U,y⟩⟩
   .refine⟨an,λx o=>(x!.1 o).elim (λo=>?_) λo=>?_⟩
    .obtain⟨j,u,E,y⟩:=i2 x o;exact⟨j,u,U,y⟩
    .exact⟨a,U,I! _,B!.1 o▸hb⟩
def lY(h:F7 t)(J:0<=i)(K:i<t.dl.length):JH t i=0:=by
 have u:=h.n.node i J K;have η:=h.ea;obtain⟨l1,-⟩:=Rb h.n (i+1).toNat i K;have ζ:par t i<i:=u.par.2;have no:kp (λj=>(AA t.dl j).kh==(AA t.dl i).kh) 0 i=T:=by
  rw [L?,Ne,Cz];rintro⟨j,y,z,e⟩;rw[(h.n.node j y U).nm,u.nm,beq_iff_eq]at e;obtain⟨a,b,G,H,o⟩:=g6 (n:=6) y z U;exact(oE a b o).1 (by rw[<-G,<-H,e])
 obtain ⟨k,P⟩:=nT (n:=6) J U;have isn:=xx k;rw[<-P]at isn;unfold JH;dsimp only;have e:A4 t i=B6 t i.toNat (par t i)++(AA t.dl i).og:=by
  unfold A4;rw[show(i+1).toNat=i.toNat+1 by omega,B6,ae U]
 rw [no,u.nm,isn.1,ae a!,ae a!,ae (by have:=u.par;omega),ae (by have:=u.Abb;unfold A4;omega),A8.2,Option.getD_none];intro k D E;rw[G9,e]at *;rcases u.own with ho|⟨a,ho,ha⟩<;>rw[ho]at D E|-
 .simp at D E;omega
 .simp at D E;obtain rfl:k=(B6 t i.toNat (par t i)).length:=U
  obtain ⟨-,q⟩:=Rb h.n i.toNat (par t i) U;have F:kp (λj=>(AA (B6 t i.toNat (par t i)++[a]) j).kh==a.kh) 0 ((B6 t i.toNat (par t i)).length:Int)=T:=by
   rw [L?,Ne,Cz];rintro⟨j,y,z,e⟩;rw[Lz _ _ y z,beq_iff_eq]at e;obtain⟨c,S,δ,ε⟩:=q _ (AG y z);rw[ε.name,ha.name]at e;obtain⟨a,b,G,H,o⟩:=g6 (n:=6) S (show c<i by omega) U;exact(oE a b o).2 (by rw[<-G,<-H,e])
  unfold NM;dsimp only;rw[NJ _ _ rfl,F,ha.name,isn.2,ae a!,ae a!];rcases ha.low with⟨I,N,O,Z⟩|⟨I,N,O⟩
  .rw[I,ac (show([]:List ByteArray).length=0 from rfl),ac U]
  .rw[I,N,O];decide
def k9(h:F7 t)(y:0<=i)(D:i<t.dr.length):LT t i=0:=by
 have N:=h.eb;obtain⟨E,G,H⟩:=h.en i y D;have no:kp (λj=>(AA t.dr j).kh==(AA t.dr i).kh) 0 i=T:=by
  rw [L?,Ne,Cz];rintro⟨j,F,K,e⟩;rw[(h.en j F U).1,E,beq_iff_eq]at e;obtain⟨a,b,I,J,z⟩:=g6 (n:=5) F K U;exact xS a b z (by rw[<-I,<-J,e])
 obtain ⟨k,u⟩:=nT (n:=5) y U;have o:=(h.edge _ (AG y D)).2;unfold LT;dsimp only;rw[no,E,u,xR k,ae a!,ae a!,ac ⟨by rw[<-u];exact o.1,by rw[<-u];exact o.2,by rw[<-u];exact G,by rw[<-u];exact H⟩]
def F7.zero(h:F7 t):(BD t).2=0:=by
 have:=h.pos;have:=h.ea;have:=h.eb;unfold BD;rw[ae U,ae U,A8.2 (λi e i1=>by rw[lY h e i1];rfl)];dsimp only;rw[A8.2 (λi e i1=>by rw[k9 h e i1];rfl)];rfl
variable{g:d3}
def U5(o:∀n∈g.dl,n<t.dl.length)(u:∀e∈g.dr,e.ib<t.dr.length):C5 t g=X:=by
 unfold C5;simp;exact⟨o,u⟩
def Sn.ok(u:F7 t)(h:Sn t g):Cu g/\C5 t g=X:=by
 have:=h.ea;have:=h.eb;have:=u.ea;have:=u.eb;exact⟨⟨U,U,λn o=>by have:=h.kind n o;omega,λe he=>by have:=h.fit e he;unfold VJ at this;omega⟩,U5 (λn o=>(h.kind n o).2) λe he=>(h.fit e he).1.2⟩
variable{n:Int}
def U0{l:List Test}(o:0<=n)(u:n<=12)(y:l.length<=40)(h:∀x∈l,Lq n x=0):J6 n l=0:=by
 unfold J6;rw[ae U,ae U,A8.2 (λi e i1=>G9.2 (h _ (AG e i1)))];rfl
variable{p:d6}
def kc.zero(o:F7 t)(h:kc t p):FK t p=0:=by
 obtain ⟨y,z⟩:=h.g.ok o;have hv:=h.vars;have u:=h.slots;have F:=h.tests;unfold FK;rw[ae (by simp[o.zero]),ae (by simp[EM y]),ae q_,ae U,ae U,ae,ae (by simp[U0 hv.1 (show p.em<=12 by omega) U h.test]),ae]
 .rw[Cz];rintro⟨v,D,E,e⟩;rw[h.occ v D E]at e;cases e
 .rw[y_];rintro⟨s,u,e⟩;obtain⟨⟨a1,a2⟩,a3,G⟩:=h.slot s u;unfold TO Ss at e;rw[ae U]at e;dsimp only at e;rw[ae U]at e;simp at e;omega
end Go.Sf.Sc
namespace Go.Sf.Sc
open Go Go.Sf
def UZ(p g:d3)(m:d4):d3:=⟨m.dl.map (AA g.dl),p.dr⟩
variable{l:Fp}
theorem Rt{n x:Int}:x∈BR l n↔(0<=x/\x<n)/\x∉l:=by
 unfold BR;rw[D?];constructor
 .grind[Int.natCast_nonneg,B7]
 .rintro⟨⟨e,o⟩,u⟩;refine⟨D!.2 ⟨x.toNat,List.mem_range.2 U,Int.toNat_of_nonneg e⟩,?_⟩
  grind [hasB,B7]
def O8(l:Fp)(n:Int):(BR l n).Pairwise (·<·):=by grind[BR,List.pairwise_lt_range.imp]
def FR(fq fd:Fp):Fp:=(BR fd fq.length).map (AA fq)
theorem Vi{fq fd:Fp}{x:Int}:x∈FR fq fd↔∃i:Int,(0<=i/\i<fq.length)/\i∉fd/\AA fq i=x:=by grind[FR,Rt]
def Aat(fq fd:Fp):Bool:=kp (λa=>kp (λb=>decide (AA fq a=AA fq b)&&(!hasB fd a||!hasB fd b)) (a+1) fq.length) 0 fq.length
variable{a b:Int}
theorem lM{fq fd:Fp}(h:Aat fq fd=T)(a0:0<=a)(a1:a<fq.length)(D:0<=b)(z:b<fq.length)(ha:a∈fd)(e:AA fq a=AA fq b):b∈fd:=by
 unfold Aat at h;rw[B5]at h;by_cases u:a=b
 .exact u▸ha
 by_cases E:a<b
 .have o:=h a a0 a1;rw[B5]at o;have y:=o b U z;rw[decide_eq_true e,L_,M_]at y
  grind [B7]
 .have o:=h b D z;rw[B5]at o;have y:=o a U a1;rw[decide_eq_true e.symm,L_,M_]at y
  grind [B7]
variable{i:Int}
theorem Vk{fq fd:Fp}(h:Aat fq fd=T)(e:0<=i)(i1:i<fq.length)(o:i∈fd):AA fq i∉FR fq fd:=by grind[Vi,lM]
def PQ(g:d3)(fd:BM)(m:d4)(i:Int):Bool:=
 !hasB m.dr i&&(hasB (FR m.dl fd.dl) (AA g.dr i).ia||hasB (FR m.dl fd.dl) (AA g.dr i).To)
def Ob(g:d3)(fd:BM)(m:d4):BM:=⟨BR (FR m.dl fd.dl) g.dl.length,BR (FR m.dr fd.dr) g.dr.length⟩
def PO(l g:d3)(fd:BM)(m:d4):BM×Int:=
 if I0 l g m≠0 then(⟨[],[]⟩,I0 l g m)else if EY l fd≠0 then(⟨[],[]⟩,EY l fd)else
 if (Aat m.dl fd.dl||Aat m.dr fd.dr)=X then(⟨[],[]⟩,15)else
 if kp (PQ g fd m) 0 g.dr.length=X then(⟨[],[]⟩,14)else(Ob g fd m,0)
structure dQ(l g:d3)(fd:BM)(m:d4):Prop where
 mor:T9 l g m
 part:Qx l fd
 ea:Aat m.dl fd.dl=T
 eb:Aat m.dr fd.dr=T
 free:∀i:Int,0<=i->i<g.dr.length->PQ g fd m i=T
variable{g:d3}
def fk{p:BM}(h:EY g p=0):CG g=0/\OW g p=0:=by grind[EY]
variable{m:d4}
def ZW{l g:d3}{fd:BM}(h:(PO l g fd m).2=0):dQ l g fd m/\PO l g fd m=(Ob g fd m,0):=by
 unfold PO at h|-;split at h
 .grind
 rename_i o;rw[ae o];split at h
 .grind
 rename_i u;rw[ae u];split at h
 .grind
 rename_i e;rw[ae e];split at h
 .grind
 rename_i y;rw[ae y];simp[not_or]at e;exact⟨⟨WZ (K'.1 o),Vy (fk (K'.1 u)).2,e.1,e.2,B5.1 m?⟩,rfl⟩
def pG{l g:d3}{fd:BM}(h:dQ l g fd m):OW g (Ob g fd m)=0:=by
 have E:=h.mor;have J:=E.gb;have K:∀x∈(Ob g fd m).dl,0<=x/\x<g.dl.length:=λx y=>F3 y;have N:∀x∈(Ob g fd m).dr,0<=x/\x<g.dr.length:=λx y=>F3 y;have u:∀{l:Fp}{n:Int},(∀x∈l,0<=x/\x<n)->l.Pairwise (·<·)->P7 l n=0:=by
  grind [P7,A8,AG,Ia]
 unfold OW;rw[u K (O8 _ _),u N (O8 _ _)];simp;rw[A8.2 λi I i1=>?_]
 .rfl
 have y:=AG I i1;generalize AA (Ob g fd m).dr i=x at y;have o:(0<=x/\x<g.dr.length)/\x∉FR m.dr fd.dr:=Rt.1 y;have hf:=J.fit _ (AG o.1.1 o.1.2);have F:(AA g.dr x).ia∉FR m.dl fd.dl/\(AA g.dr x).To∉FR m.dl fd.dl:=by
  by_cases hi:x∈m.dr
  .obtain⟨k,G,H,e⟩:=BP hi;have z:k∈fd.dr:=by
    by_cases z:k∈fd.dr
    .exact z
    .exact absurd (Vi.2 ⟨k,⟨G,H⟩,z,e⟩) o.2
   have ends:=h.part.ends k z;have he:=E.edge k G H;rw[e]at he;have hr:=h.part.ea.1;have O:=hr _ ends.1;have P:=hr _ ends.2;have S:=E.wi;rw[<-he.2.2.1,<-he.2.2.2];exact⟨Vk h.ea O.1 U ends.1,Vk h.ea P.1 U ends.2⟩
  .have hd:=h.free x o.1.1 o.1.2;unfold PQ at hd;rw[show hasB m.dr x=T from by cases hb:hasB m.dr x with|false=>rfl|true=>exact absurd (B7.1 hb) hi,Bool.not_false,L_,M_]at hd;exact⟨λD=>by rw[B7.2 D]at hd;exact absurd hd.1 a!,λD=>by rw[B7.2 D]at hd;exact absurd hd.2 a!⟩
 grind [hasB,Ob,AA,B7,Rt]
def JA(n:Nat)(l:Fp):Fp:=(Az n).map (Dh l)
variable{v:Int}
theorem Zd(h:v∉l):Dh l v=-1:=by grind[Dh,A8,AG]
def R4(l:Fp)(v:Int):-1<=Dh l v/\Dh l v<l.length:=by
 by_cases h:v∈l
 .have:=Hu h;omega
 .rw[Zd h];omega
def PV:0<=Dh l v↔v∈l:=by grind[Zd,Hu]
def LG(n:Nat)(l:Fp):(JA n l).length=n:=by unfold JA;rw[c9,Ay]
theorem U1{n:Nat}(e:0<=i)(o:i<n):AA (JA n l) i=Dh l i:=Ir _ e o
def ef(h:l.Nodup)(e:0<=i)(i1:i<l.length):Dh l (AA l i)=i:=by
 have o:=Hu (AG e i1)
 grind [Dh,AA,Ia]
def SL(fd into at_:Fp)(n i:Int):Int:=if hasB into i=X then AA at_ (AA fd (Dh into i))else n+(BR into i).length
def VU(count:Nat)(fd into at_:Fp)(n:Int):Fp:=(Az count).map (SL fd into at_ n)
def ZV(count:Nat)(fd into at_:Fp)(n:Int):(VU count fd into at_ n).length=count:=by unfold VU;rw[c9,Ay]
variable{count:Nat}{n:Int}
def nJ{fd into at_:Fp}(e:0<=i)(o:i<count):AA (VU count fd into at_ n) i=SL fd into at_ n i:=Ir _ e o
def MI(h:0<=i):((BR l i).length:Int)<=i:=by grind[TH]
end Go.Sf.Sc
namespace Go.Sf.Sc
open Go Go.Sf
def Xw{α:Type}{P:List α->Prop}(e:P [])(o:∀l a,P l->P (l++[a]))(l:List α):P l:=by
 have:∀l:List α,P l.reverse:=by
  intro l
  induction l with
  |nil=>exact e|cons a l u=>rw[List.reverse_cons];exact o _ _ u
 rw [<-List.reverse_reverse l];exact this _
def RO(L:Bj):Bj:=L.foldl (λm p=>m.set p.1 p.2) []
def fE(L:Bj)(p:(Int×Int)×Int):RO (L++[p])=(RO L).set p.1 p.2:=by
 unfold RO
 grind
def T6(L:Bj):Prop:=∀p∈L,∀q∈L,p.1=q.1->p.2=q.2
variable{v:Int}
def Vl{k:Int×Int}:∀{m:Bj},m.look k=Y v->(k,v)∈m
 |[],h=>c!
 |p::r,h=>by
  unfold Bj.look at h;split at h
  .grind
  .exact E' _ (Vl h)
def a8{k:Int×Int}:∀{m:Bj},m.look k=W->∀p∈m,p.1≠k
 |[],_,p,o=>by cases o
 |q::r,h,p,o=>by
  unfold Bj.look at h;split at h
  .cases h
  .rename_i e;rcases x?.1 o with rfl|o
   .exact e
   .exact a8 h p o
theorem kD{k:Int×Int}:∀{m:Bj},m.look k=W->m.set k v=m++[(k,v)]
 |[],_=>rfl|p::r,h=>by
  unfold Bj.look at h;unfold Bj.set;split at h
  .cases h
  next e=>rw[ae e,kD h];rfl
theorem gY{k:Int×Int}:∀{m:Bj},m.look k=Y v->m.set k v=m
 |[],h=>c!
 |p::r,h=>by
  unfold Bj.look at h;unfold Bj.set;split at h
  .grind
  next e=>rw[ae e,gY h]
def lG(κ:List Fp)(p:(Int×Int)×Int):Ch (Ch κ p) p=Ch κ p:=by
 unfold Ch;split
 .apply List.ext_getElem?
  grind [Option.map_eq_map,Option.map_map,List.set_set]
 .rfl
theorem qj{m:Bj}(hd:m.Dis){p:(Int×Int)×Int}(e:p∈m)(κ:List Fp):Ch (m.foldl Ch κ) p=m.foldl Ch κ:=by
 have o:m.Perm (m.erase p++[p]):=(List.perm_cons_erase e).trans (List.perm_append_singleton p (m.erase p)).symm;rw[<-YO hd o κ,B'];exact lG _ _
def T6.sub{L M:Bj}(h:T6 L)(e:∀p∈M,p∈L):T6 M:=λp o q u=>h p (e p o) q (e q u)
def jf(L:Bj):T6 L->(RO L).Dis/\(∀p,p∈RO L↔p∈L)/\∀κ,(RO L).foldl Ch κ=L.foldl Ch κ:=by
 refine Xw (P:=λL=>T6 L->(RO L).Dis/\(∀p,p∈RO L↔p∈L)/\∀κ,(RO L).foldl Ch κ=L.foldl Ch κ) (λ_=>⟨List.Pairwise.nil,λp=>Iff.rfl,λκ=>rfl⟩) (λL p o e=>?_) L;obtain⟨E,D,F⟩:=o (e.sub λq u=>E! _ u);rw[fE];cases y:(RO L).look p.1 with
 |none=>
  grind [kD,Bj.set_dis]
 |some v=>
  have z:=Vl y;have hv:v=p.2:=e (p.1,v) (E! _ ((D _).1 z)) p V rfl
  grind [gY,B!,qj]
def Rd(L:Bj):Bool:=kp (λi=>kp (λk=>decide ((AA L k).1=(AA L i).1)&&!decide ((AA L k).2=(AA L i).2)) 0 i) 0 L.length
variable{L:Bj}
theorem aC(h:Rd L=T):T6 L:=by
 intro p y q z e;obtain⟨a,a0,a1,rfl⟩:=BP y;obtain⟨b,D,E,rfl⟩:=BP z;unfold Rd at h;rw[B5]at h;by_cases o:a=b
 .rw[o]
 by_cases F:a<b
 .have u:=h b D E;rw[B5]at u
  grind
 .have u:=h a a0 a1;rw[B5]at u
  grind
def eR(L:Bj)(κ:List Fp):NI (L.foldl Ch κ) κ:=by
 induction L generalizing κ with
 |nil=>rfl|cons p r e=>exact(e (Ch κ p)).trans (aK κ p)
end Go.Sf.Sc
namespace Go.Sf.Sc
open Go Go.Sf
variable{t:AC}{m:d4}
theorem VR{p g:d3}{inj:Bool}(h:Gp t p g m inj=0):Ew t p g=0/\Od t p g m=0/\Z2 t p g m:=by grind[dw,Gp]
def nI{p g:d3}{inj:Bool}(h:Gp t p g m inj=0):Gp t p g m T=0:=by grind[VR,Gp]
theorem RD{α:Type}[Inhabited α](l:List α):(Az l.length).map (AA l)=l:=by grind[YG,c9,Ay,Ir]
theorem Yn{α β:Type}[Inhabited α](l:List α)(f:α->β):l.map f=(Az l.length).map λj=>f (AA l j):=by
 rw [show(λj=>f (AA l j))=f∘AA l from rfl,<-E?,RD]
def yJ(hf:A2 t){p g:d3}{inj:Bool}(h:Gp t p g m inj=0):GU t p g m=Y (UZ p g m,0):=by
 obtain ⟨e,z,o⟩:=VR h;obtain⟨_,u,E,_⟩:=On e;unfold GU;rw[Wi hf,bs,ae d_,bK hf e,bs,ae q_];unfold DG;have:=u.ea;have:=u.eb;have:=o.wi;rw[BZ b_,bs];rw[UU U (λx y=>?_) p.dr]
 .rfl
 .obtain⟨i,D,i1,rfl⟩:=BP y;exact(o.node i D i1).1
def yd(hf:A2 t){p g:d3}{inj:Bool}(h:Gp t p g m inj=0):HE t p g m=Y (UZ p g m,0):=by
 obtain ⟨D,F,y⟩:=VR h;obtain⟨_,z,G,_⟩:=On D;have:=z.ea;have:=z.eb;have E:=y.wi;unfold HE Dq;rw[Zu hf,bs,ae (by simp[nI h]),BZ b_,bs,BZ b_,bs,bs];rw[Py (λi=>d3.mk ((Az p.dl.length).map λj=>if j<i then AA g.dl (AA m.dl j)else AA p.dl j) p.dr) (a:=0) (b:=p.dl.length) U]
 .have e:((Az p.dl.length).map λj=>if j<(p.dl.length:Int)then AA g.dl (AA m.dl j)else AA p.dl j)=m.dl.map (AA g.dl):=by
   grind [Yn,Cf]
  rw [e];rfl
 .congr 1;rw[<-RD p.dl,c9,Ay]
  grind [Cf,RD]
 .intro i o i1;have u:=y.node i o U;simp[Ay];rw[ac k?,AD o U,bs,AD u.1.1 u.1.2,bs,AD o n!,bs,Hl _ o,AU U U]
  grind
 grind [c9,Ay]
def Mk{α:Type}{n:Nat}{f:Int->List α->Option (List α)}(q:Int->Bool)(F:Int->α)(h:∀i s,0<=i->i<(n:Int)->s.length<=i.toNat->f i s=Y (if q i=X then s++[F i]else s)):kx f 0 n []=Y (((Az n).filter q).map F):=by
 have e:∀k:Nat,(((Az k).filter q).map F).length<=k:=λk=>by
  rw [c9];exact Nat.le_trans (D' _ _) (by rw[Ay];exact az _)
 have:=Bo (f:=f) (s:=[]) (λi=>((Az i.toNat).filter q).map F) (a:=0) (b:=n) U rfl (λi o i1=>by
  grind [Et])
 grind
def eK{n:Nat}{α:Type}{q:Int->Bool}{F:Int->α}:decide (0<((((Az n).filter q).map F).length:Int))=kp q 0 n:=by
 rw [M',qo,Cz,c9];constructor
 .intro h;have o:(Az n).filter q≠[]:=λe=>by rw[e]at h;simp at h
  obtain ⟨x,z⟩:=List.exists_mem_of_ne_nil _ o
  grind [DA]
 .rintro⟨i,u,i1,y⟩;have:i∈(Az n).filter q:=D?.2 ⟨DA.2 ⟨u,i1⟩,y⟩
  grind
def oT{x:DE}(e:x.m.dl.length<=1000):D2 x=Y (FR x.m.dl x.fd.dl):=by
 unfold D2;rw[Mk (λi=>!hasB x.fd.dl i) (AA x.m.dl)]
 .rfl
 grind [AD,Mj,hasB,AP,AX]
def Xn{fq fd:Fp}(e:fq.length<=1000):Lc fq fd=Y (FR fq fd):=by
 unfold Lc;rw[Mk (λi=>!hasB fd i) (AA fq)]
 .rfl
 grind [Ef,hasB,QF,AD,AP,AX]
def lu{x:DE}(e:x.m.dl.length<=1000)(he:x.g.dr.length<=1000):Do x=Y ((Az x.g.dr.length).filter (PQ x.g x.fd x.m)):=by
 unfold Do;rw[oT e,bs,Mk (PQ x.g x.fd x.m) id]
 .rw[bs,F_]
 .intro i s o i1 u;rw[AD o i1,bs,Mj,bs,Mj,bs,Mj,bs];unfold PQ;change (if(!hasB x.m.dr i)=X then(if hasB (FR x.m.dl x.fd.dl) (AA x.g.dr i).ia=X then Y X else Y (hasB (FR x.m.dl x.fd.dl) (AA x.g.dr i).To)).bind _ else Y T).bind _=_;cases hasB x.m.dr i<;>cases hasB (FR x.m.dl x.fd.dl) (AA x.g.dr i).ia<;>cases hasB (FR x.m.dl x.fd.dl) (AA x.g.dr i).To<;>simp[AP (show s.length+[i].length<=AX by simp;unfold AX;omega)]
def l7{l g:d3}{fd:BM}(e:m.dl.length<=1000)(he:g.dr.length<=1000):Kx l g fd m=Y ((Az g.dr.length).filter (PQ g fd m)):=by
 unfold Kx;rw[Xn e,bs,Mk (PQ g fd m) id]
 .rw[bs,F_]
 .intro i s o i1 u;have hh:∀(l:Fp)(v:Int),Ef l v=Y (hasB l v):=QF;simp[AD o i1,hh];unfold PQ;cases hasB m.dr i<;>cases hasB (FR m.dl fd.dl) (AA g.dr i).ia<;>cases hasB (FR m.dl fd.dl) (AA g.dr i).To<;>simp[AP (show s.length+[i].length<=AX by simp;unfold AX;omega)]
variable{a i:Int}
theorem Sr{p:Int->Bool}(h:a<=i):kp p a (i+1)=(kp p a i||p i):=by
 rw [M',M!,Cz,Cz]
 grind
def Y2{fq fd:Fp}(I:fq.length<=100){f:Int->Int->List KA->Option (List KA)}(hf:∀(i j:Int)s,0<=i->i<fq.length->i<j->j<fq.length->s.length<=20000->f i j s=Y (if(decide (AA fq i=AA fq j)&&(!hasB fd i||!hasB fd j))=X then s++[KA.mk i j]else s)):
  ∃l,kx (λ(e:Int)(o:List KA)=>(kx (λ(i2:Int)(s2:List KA)=>f e i2 s2) (AJ (e+1)) (fq.length:Int) o).bind λs2=>Y s2) 0 (fq.length:Int) []=Y l/\l.length<=10000/\decide (0<l.length)=Aat fq fd:=by
 have key:=Om (f:=λ(e:Int)(o:List KA)=>(kx (λ(i2:Int)(s2:List KA)=>f e i2 s2) (AJ (e+1)) (fq.length:Int) o).bind λs2=>Y s2) (s:=[])
  (λi s=>(s.length:Int)<=100*i/\decide (0<s.length)=kp (λa=>kp (λb=>decide (AA fq a=AA fq b)&&(!hasB fd a||!hasB fd b)) (a+1) fq.length) 0 i) (a:=0) (b:=fq.length) U
  (by refine⟨V,?_⟩;rw[B5.2 (λi z D=>U)];rfl) (λi s e i1 E=>by
   have u:=Om (f:=λ(i2:Int)(s2:List KA)=>f i i2 s2) (s:=s)
    (λj s'=>(s'.length:Int)<=100*i+(j-(i+1))/\decide (0<s'.length)=(decide (0<s.length)||kp (λb=>decide (AA fq i=AA fq b)&&(!hasB fd i||!hasB fd b)) (i+1) j)) (a:=i+1) (b:=fq.length) U
    (by refine⟨by have:=E.1;omega,?_⟩;rw[B5.2 (λi z D=>U),Bool.or_false]) (λj s' J F y=>by
     refine ⟨_,hf i j s' e i1 U F (by have:=y.1;omega),?_,?_⟩
     .grind
     .rw[Sr U,<-Bool.or_assoc,<-y.2]
      grind)
   grind [AU,Sr])
 obtain ⟨l,G,K,H⟩:=key;exact⟨l,G,U,H⟩
def jr{fq fd:Fp}(G:fq.length<=100):∃l,G3 fq fd=Y l/\l.length<=10000/\decide (0<l.length)=Aat fq fd:=by
 unfold G3;obtain⟨l,K,N⟩:=Y2 (fd:=fd) G (f:=λe i2 s2=>
  (idx fq e).bind λo=>
  (idx fq i2).bind λu=>
  (if(decide (o=u))=X then((slices_Contains_int fd e).bind λy=>
  (if(!y)=X then Y X else((slices_Contains_int fd i2).bind λz=>
  Y (!z))).bind λD=>
  Y (D))else Y T).bind λE=>
  if E=X then
  (AY s2 [KA.mk e i2]).bind λF=>
  Y F
  else
  Y s2) (λi j s e i1 I H J=>by
   have hh:∀(l:Fp)(v:Int),slices_Contains_int l v=Y (hasB l v):=Mj;simp[AD e i1,AD (show 0<=j by omega) H,hh]
   grind [AA,hasB,AP,AX])
 grind
def j7{fq fd:Fp}(G:fq.length<=100):∃l,HD fq fd=Y l/\l.length<=10000/\decide (0<l.length)=Aat fq fd:=by
 unfold HD;obtain⟨l,K,N⟩:=Y2 (fd:=fd) G (f:=λe i2 s2=>
  (idx fq e).bind λo=>
  (idx fq i2).bind λu=>
  (if(decide (o=u))=X then((Ef fd e).bind λy=>
  (if(!y)=X then Y X else((Ef fd i2).bind λz=>
  Y (!z))).bind λD=>
  Y (D))else Y T).bind λE=>
  if E=X then
  (AY s2 [KA.mk e i2]).bind λF=>
  Y F
  else
  Y s2) (λi j s e i1 I H J=>by
   have hh:∀(l:Fp)(v:Int),Ef l v=Y (hasB l v):=QF;simp[AD e i1,AD (show 0<=j by omega) H,hh]
   grind [AA,hasB,AP,AX])
 grind
variable{l:Fp}
def gF{n:Nat}(h:n<=1000):Nf n l=Y (BR l n):=by
 unfold Nf;rw[V6 (f:=Ef l) U U (λi=>QF l i)];rfl
def fg{n:Nat}{fq fd:Fp}(D:n<=1000)(hi:∀x∈fq,0<=x/\x<n):Hr n fq fd=Y (BR (FR fq fd) n):=by
 unfold Hr Gg;rw[ac U,bs];rw[Bo (λi=>(Az n).map λk=>kp (λj=>!hasB fd j&&decide (AA fq j=k)) 0 i) U]
 .rw[bs,c9,Ay,Mk (λi=>!hasB (FR fq fd) i) id]
  .rw[bs,F_];rfl
  .intro i s o i1 G;rw[AD o n!,bs,Ir _ o i1];have e:kp (λj=>!hasB fd j&&decide (AA fq j=i)) 0 fq.length=hasB (FR fq fd) i:=by
    rw [M',Cz,B7,Vi];constructor
    .rintro⟨j,y,z,h⟩;rw[mo,qo]at h
     grind [B7]
    .rintro⟨j,⟨y,z⟩,H,h⟩;refine⟨j,y,z,?_⟩;rw[mo,qo]
     grind [hasB,B7]
   grind [hasB,FR,AP,AX]
 .refine A' (by simp[Ay]) (λk E F=>?_)
  grind [I?,B5]
 .intro i o i1;have u:=hi _ (AG o i1);have hh:∀(l:Fp)(v:Int),slices_Contains_int l v=Y (hasB l v):=Mj;rw[AD o i1,bs,hh,bs];cases hb:hasB fd i
  .rw[ac a!,AD u.1 (by rw[c9,Ay];exact u.2),bs,Hl _ u.1]
   grind [Cf,Sr,AA]
  grind [Cf,Sr]
def kM{a b:Nat}(ha:a<=10000)(hb:b<=10000):decide (0<AJ ((a:Int)+(b:Int)))=(decide (0<a)||decide (0<b)):=by
 rw [AU U U,M',M!]
 grind
def yE{l g:d3}{fd:BM}(E:TL fd):H0 l g fd m=Y (PO l g fd m):=by
 unfold H0 DX PO;simp only[];rw[cz,bs,jt E,bs];by_cases y:¬I0 l g m=0
 .grind
 have y:=K'.1 y;rw[ae u',bs,ae (show¬I0 l g m≠0 by simp[y])];refine D1 λO=>?_;have o:=WZ y;have a1:=o.ga.ea;have a2:=o.ga.eb;have a3:=o.wi;have ε:=o.x9;have η:=o.gb.ea;have ζ:=o.gb.eb;unfold EK;obtain⟨u,G,H,I⟩:=jr (fd:=fd.dl) (fq:=m.dl) U;obtain⟨v,J,K,N⟩:=jr (fd:=fd.dr) (fq:=m.dr) U;simp only[];rw[G,bs,J,bs,bs];simp only[];rw[kM H K,I,N];refine du λP=>?_;rw[lu (by show m.dl.length<=1000;omega) (by show g.dr.length<=1000;omega),bs];have e:=eK (n:=g.dr.length) (q:=PQ g fd m) (F:=id);rw[F_]at e;rw[e];refine du λS=>?_;rw[fg U (λx z=>?_),bs,fg U (λx z=>?_),bs]
 .rfl
 .obtain⟨i,D,i1,rfl⟩:=BP z;exact(o.edge i D i1).1
 .obtain⟨i,D,i1,rfl⟩:=BP z;exact(o.node i D i1).1
def yW{l g:d3}{fd:BM}(z:TL fd):Sb l g fd m=Y (PO l g fd m):=by
 unfold Sb Ql PO;rw[dL,bs,Zv z,bs];by_cases y:¬I0 l g m=0
 .grind
 have y:=K'.1 y;rw[ae u',bs,ae (show¬I0 l g m≠0 by simp[y])];refine D1 λK=>?_;have o:=WZ y;have a1:=o.ga.ea;have a2:=o.ga.eb;have a3:=o.wi;have P:=o.x9;have S:=o.gb.ea;have ε:=o.gb.eb;obtain⟨u,D,E,G⟩:=j7 (fd:=fd.dl) (fq:=m.dl) U;obtain⟨v,H,I,J⟩:=j7 (fd:=fd.dr) (fq:=m.dr) U;rw[D,bs,H,bs,kM E I,G,J];refine du λN=>?_;rw[l7 U U,bs];have e:=eK (n:=g.dr.length) (q:=PQ g fd m) (F:=id);rw[F_]at e;rw[e];refine du λO=>?_;rw[Xn U,bs,gF U,bs,Xn U,bs,gF U,bs];rfl
end Go.Sf.Sc
namespace Go.Sf.Sc
open Go Go.Sf
theorem Ud{α β:Type}[Inhabited α]{l:List α}{F:α->β}{f:Int->List β->Option (List β)}(h:∀(i:Int)s,0<=i->i<l.length->s.length<=i.toNat->f i s=Y (s++[F (AA l i)])):kx f 0 l.length []=Y (l.map F):=by
 have:=Bo (f:=f) (s:=[]) (λi=>(l.take i.toNat).map F) (a:=0) (b:=l.length) U V (λi e i1=>by
  grind [c9,bk,Ba])
 rwa [I?,C!]at this
variable{l:Fp}
def jw{n:Nat}(H:n<=1000)(D:l.length<=1000)(o:l.Pairwise (·<·)):Nq n l=Y (JA n l):=by
 unfold Nq Gg;rw[ac U,bs,I?,F!,Bo (λi=>(Az n).map λj=>if j<i then Dh l j else 0) U]
 .rw[bs];congr 1;exact Cf λj E u=>ac u
 .refine A' (by simp[Ay]) (λk F I=>?_);have e:(Az n)[k]'(by simpa[Ay]using F)=(k:Int):=by simp[Az]
  simp only[F?,G_,e];rw[ae U]
 .intro i y i1;rw[Un D o,bs,AD y n!,bs];have e:∀v:Int,v=Dh l i->Y (BE ((Az n).map λj=>if j<i then Dh l j else 0) i v)=Y ((Az n).map λj=>if j<i+1 then Dh l j else 0):=by
   rintro v rfl;rw[Hl _ y];congr 1;refine Cf λj E u=>?_;by_cases e:j=i
   .rw[ac e,ac U,e]
   .rw[ae e];by_cases z:j<i
    .rw[ac z,ac U]
    .rw[ae z,ae U]
  cases hb:hasB l i with
  |false=>
   rw [ac t_];exact e _ (Zd λG=>by rw[B7.2 G]at hb;cases hb).symm
  |true=>
   rw [ae V];exact e _ (XR o (B7.1 hb))
def fw{n:Nat}(N:n<=1000)(O:l.length<=1000)(G:l.Nodup):Nd l n=Y (JA n l):=by
 unfold Nd;rw[Bo (λk=>(Az k.toNat).map (Dh l)) U t_]
 .rfl
 .intro k y P;have u:((Az k.toNat).map (Dh l)).length=k.toNat:=by rw[c9,Ay]
  have K:(Az k.toNat).map (Dh l)++[-1]=(Az (k+1).toNat).map λj=>if j<k then Dh l j else if Dh l k<0 then Dh l k else -1:=by
   rw [Et y,D_];congr 1
   .grind[A!,DA]
   .rw[G!,ae U];have:=R4 l k
    grind
  rw [AP (by rw[u];simp;unfold AX;omega),bs,K,Bo (λi=>(Az (k+1).toNat).map λj=>if j<k then Dh l j else if Dh l k<i then Dh l k else -1) U rfl]
  .rw[bs];congr 1;refine A! λj H=>?_;have:=DA.1 H;split
   .rfl
   .have e:j=k:=U
    rw [ac (R4 l k).2,e]
  .intro i z i1;rw[AD z i1,bs];by_cases e:AA l i=k
   .have D:Dh l k=i:=by rw[<-e];exact ef G z i1
    rw [ac d_,AD y (by rw[c9,Ay];omega),bs,Hl _ y];congr 1;refine Cf λj I J=>?_;by_cases E:j=k
    .rw[ac E,ae U,ac U,D]
    .rw[ae E];by_cases o:j<k
     .rw[ac o,ac o]
     .omega
   .have D:Dh l k≠i:=λh=>by
     have:=(Hu (PV.1 (show 0<=Dh l k by omega))).2.2.1;rw[h]at this;exact e this
    rw [ae d_];congr 1;refine Cf λj I J=>?_;by_cases o:j<k
    .rw[ac o,ac o]
    .rw[ae o,ae o];by_cases F:Dh l k<i
     .rw[ac F,ac U]
     .rw[ae F,ae U]
structure WM(count:Nat)(fd into at_:Fp):Prop where
 few:count<=1000
 nodup:into.Nodup
 len:into.length=fd.length
 inn:∀x∈into,0<=x/\x<count
 kin:∀x∈fd,0<=x/\x<at_.length
 pos:∀x∈fd,0<=AA at_ x
def Xe{n:Nat}(e:l.Nodup)(h:∀x∈l,0<=x/\x<n):l.length<=n:=by
 have:=List.Nodup.length_le_of_subset (l₁:=l) (l₂:=Az n) e (λx o=>DA.2 (h x o))
 rwa [Ay]at this
variable{i:Int}
def Ru(h:0<=i):((BR l (i+1)).length:Int)=(BR l i).length+if i∈l then 0 else 1:=by grind[Po,b6,hasB,B7]
variable{n:Int}
def Tf{fd into at_:Fp}(h:i∈into):SL fd into at_ n i=AA at_ (AA fd (Dh into i)):=by grind[SL,B7]
def UI{fd into at_:Fp}(h:i∉into):SL fd into at_ n i=n+(BR into i).length:=by grind[SL,B7]
variable{count:Nat}
def bR{fd into at_:Fp}(h:WM count fd into at_)(F:0<=n)(G:n<=1000):Gl fd into count at_ n=Y (VU count fd into at_ n):=by
 have H:=h.few;have z:=Xe h.nodup h.inn;have D:=h.len;unfold Gl;rw[fw h.few U h.nodup,bs,Bo (λi=>(n+((BR into i).length:Int),(Az i.toNat).map (SL fd into at_ n))) U (by simp[BR,Az])]
 .rfl
 .intro i o i1;have hr:=MI (l:=into) o;have e:((Az i.toNat).map (SL fd into at_ n)).length=i.toNat:=by rw[c9,Ay]
  rw [AD o (by rw[LG];exact i1),bs,U1 o i1];by_cases hi:i∈into
  .have y:=Hu hi;have E:=AG (l:=fd) y.1 U;have u:=h.kin _ E;rw[ac (by simpa using y.1),bs,AD y.1 U,bs,AD u.1 u.2,bs,AP (by rw[e];simp;unfold AX;omega),bs,Et o,D_,Ru o,ac hi,J',G!,Tf hi]
  .rw[ae (by rw[qo,PV];exact hi),AP (by rw[e];simp;unfold AX;omega),bs,Et o,D_,Ru o,ae hi,G!,UI hi,AU U U,J!]
def bE{fd into o u:Fp}(h:WM count fd into (o.map (AA u)))(N:∀x∈o,0<=x/\x<u.length)(ζ:0<=n)(δ:n<=1000):Hm count fd into o u n=Y (VU count fd into (o.map (AA u)) n):=by
 have hc:=h.few;have O:=Xe h.nodup h.inn;have P:=h.len;unfold Hm DH;rw[ac (by refine⟨rfl,U,U⟩),bs,I?];rw[Bo (λi=>(Az count).map λk=>if 0<=Dh into k/\Dh into k<i then SL fd into (o.map (AA u)) n k else -1) U]
 .rw[bs,c9,Ay,Bo (λi=>(n+((BR into i).length:Int),(Az count).map λk=>if k<i\/k∈into then SL fd into (o.map (AA u)) n k else -1)) U]
  .rw[bs];congr 1;exact Cf λj I G=>ac (.inl G)
  .show _=(n,_);congr 1
   .simp[BR]
   .refine Cf λj I G=>?_;have K:=PV (l:=into) (v:=j);have S:=R4 into j;by_cases e:j∈into
    .rw[ac (.inr e),ac ⟨K.2 e,S.2⟩]
    .rw[ae (by rintro(y|y);omega;exact e y),ae λy=>e (K.1 y.1)]
  .intro i D i1;have hr:=MI (l:=into) D;rw[AD D n!,bs,Ir _ D i1];by_cases hi:i∈into
   .have ε:=Hu hi;have J:=AG (l:=fd) ε.1 o1;have hp:=h.pos _ J;rw[ac (show i<i\/i∈into from .inr hi),Tf hi,ae (by rw[qo];omega),Ru D,ac hi,J'];congr 2;refine Cf λj I G=>?_;by_cases e:j<i\/j∈into
    .rw[ac e,ac (e.imp (λh=>U) id)]
    .rw[ae e,ae];rintro(y|y)
     .have:j=i:=by
       have:=λhh=>e (.inl hh);omega
      exact e (.inr (this▸hi))
     .exact e (.inr y)
   .rw[ae (show¬(i<i\/i∈into)by rintro(y|y);omega;exact hi y),ac a!,bs,Ru D,ae hi,AU an an,Hl _ D,J!];congr 2;refine Cf λj I G=>?_;by_cases E:j=i
    .rw[ac E,ac (.inl U),E,UI hi]
    .rw[ae E];by_cases e:j<i\/j∈into
     .rw[ac e,ac (e.imp (λh=>U) id)]
     .rw[ae e,ae];rintro(y|y)
      .exact e (.inl U)
      .exact e (.inr y)
 .refine A' (by simp[Ay]) (λk Z k2=>?_);simp only[F?,G_];rw[ae U];rfl
 .intro i D i1;have F:=h.inn _ (AG D i1);have J:=AG (l:=fd) D o1;have z:=h.kin _ J;rw[c9]at z;have H:=N _ (AG z.1 z.2);rw[AD D i1,bs,AD D o1,bs,AD z.1 z.2,bs,AD H.1 H.2,bs,AD F.1 (by rw[c9,Ay];exact F.2),bs,Hl _ F.1];congr 1;refine Cf λj I G=>?_;by_cases E:j=AA into i
  .have e:=ef h.nodup D i1;rw[ac E,E,e,ac ⟨D,U⟩,Tf (AG D i1),e,Fu z.1 z.2]
  .rw[ae E];by_cases e:0<=Dh into j/\Dh into j<i
   .rw[ac e,ac ⟨e.1,U⟩]
   .rw[ae e,ae];rintro⟨y,h2⟩;have η:Dh into j=i:=by
     have:=λhh=>e ⟨y,hh⟩;omega
    have:=(Hu (PV.1 y)).2.2.1;rw[η]at this;exact E this.symm
def Y7{fq e:Fp}(o:fq.length<=1000)(u:∀x∈fq,0<=x/\x<e.length):Io fq e=Y (fq.map (AA e)):=by
 unfold Io
 grind [Ud,AA,AG,AD,AP,AX]
end Go.Sf.Sc
namespace Go.Sf.Sc
open Go Go.Sf
def Gr(h:AE)(d:BM):d4:=⟨JA h.d3.dl.length d.dl,JA h.d3.dr.length d.dr⟩
def cmS(r:ey)(h:AE)(m:d4)(d:BM):d4:=
 ⟨VU r.eh.d3.dl.length r.mR.dl r.l4.dl (m.dl.map (AA (Gr h d).dl)) d.dl.length,
 VU r.eh.d3.dr.length r.mR.dr r.l4.dr (m.dr.map (AA (Gr h d).dr)) d.dr.length⟩
def Vm(t:AC)(k:Int):Fp:=(A4 t k).map λx=>x.Low
def Xd(tr:Fp)(e:B0):B0:=⟨e.ib,AA tr e.ia,AA tr e.To⟩
def PZ(r:ey)(x:AE)(i:Int):Fp:=x.d3.dl++(BR r.l4.dl i).map (AA r.eh.d3.dl)
def Ot(t:AC)(r:ey)(x:AE)(i:Int):List Fp:=x.ec++(BR r.l4.dl i).map λk=>Vm t (AA r.eh.d3.dl k)
def RG(r:ey)(c:d4)(x:AE)(i:Int):List B0:=x.d3.dr++(BR r.l4.dr i).map λk=>Xd c.dl (AA r.eh.d3.dr k)
def C1(t:AC)(r:ey)(x:AE)(c:d4):AE:=⟨⟨PZ r x r.eh.d3.dl.length,RG r c x r.eh.d3.dr.length⟩,Ot t r x r.eh.d3.dl.length⟩
def CQ(h:AE)(d:BM):AE:=⟨⟨d.dl.map (AA h.d3.dl),d.dr.map λx=>Xd (Gr h d).dl (AA h.d3.dr x)⟩,d.dl.map (AA h.ec)⟩
structure Dd(x:AE):Prop where
 ea:x.d3.dl.length<=1000
 eb:x.d3.dr.length<=1000
 vals:x.ec.length<=1000
 rows:∀v∈x.ec,v.length<=1000
structure X7(t:AC)(r:ey)(c:d4):Prop where
 hf:A2 t
 hv:(BD t).2=0
 g:Cu r.eh.d3
 kind:∀n∈r.eh.d3.dl,0<=n/\n<t.dl.length
 cn:c.dl.length=r.eh.d3.dl.length
variable{t:AC}{r:ey}{n:Int}
def u9{c:d4}(h:X7 t r c)(e:n∈r.eh.d3.dl):(A4 t n).length<=600:=by
 have:=h.kind n e;exact IN h.hf (I! _) (Cw h.hv).par this.2
def ot{x:AE}(h:Dd x):Mz x=Y x:=by
 have:=h.ea;have:=h.eb;have:=h.vals;unfold Mz Dq;rw[BZ b_,bs,BZ b_,bs,bs];rw[Bo (λi=>AE.mk x.d3 (x.ec.take i.toNat)) U t_]
 .rw[I?,C!];rfl
 .intro i e i1;have:=h.rows _ (AG e i1)
  grind [AD,BZ,AX,AP,Ba]
def lr{x:AE}(h:Dd x):L6 x=Y x:=by
 have:=h.ea;have:=h.eb;have:=h.vals;unfold L6 slices_Clone_int DG;rw[BZ b_,bs,BZ b_,bs];rw[Bo (λi=>AE.mk x.d3 (x.ec.take i.toNat)) U t_]
 .rw[I?,C!];rfl
 .intro i e i1;have:=h.rows _ (AG e i1)
  grind [AD,BZ,AX,AP,Ba]
variable{i:Int}
theorem D8{α:Type}(l:Fp)(F:Int->α)(h:0<=i):(BR l (i+1)).map F=(BR l i).map F++if i∈l then[]else[F i]:=by grind[Po,hasB,B7]
def XB(l:Fp)(i:Int):JQ l i=Y (!hasB l i):=by
 unfold JQ hasB;rw[Bq (λj=>decide (i=AA l j)) T,Jb]
 .cases kp (λj=>decide (i=AA l j)) 0 l.length<;>rfl
 grind [AD,AA]
def yb{x:AE}{c:d4}(h:X7 t r c)(o:Dd x):Jx t r x c=Y (C1 t r x c):=by
 have H:=h.g.ea;have I:=h.g.eb;have x1:=o.ea;have J:=o.eb;have K:=o.vals;unfold Jx;rw[Py (λi=>AE.mk (d3.mk (PZ r x i) x.d3.dr) (Ot t r x i)) (a:=0) (b:=r.eh.d3.dl.length) U]
 .rw[B8,Py (λi=>AE.mk (d3.mk (PZ r x r.eh.d3.dl.length) (RG r c x i)) (Ot t r x r.eh.d3.dl.length)) (a:=0) (b:=r.eh.d3.dr.length) U]
  .rfl
  .grind[RG,BR]
  .intro i e i1;have hr:=MI (l:=r.l4.dr) e;have he:=h.g.fit _ (AG e i1);have z:=h.cn;rw[ac k?,XB,bs];by_cases hi:i∈r.l4.dr
   .grind[B7,RG,D8,AU]
   .have hb:hasB r.l4.dr i=T:=by cases hb:hasB r.l4.dr i with|false=>rfl|true=>exact absurd (B7.1 hb) hi
    rw [hb,ac a!,AD e i1,bs,AD he.2.1.1 U,bs,AD he.2.2.1 U,bs,AP (by unfold RG;simp;unfold AX;omega),bs];unfold RG;rw[D8 _ _ e,ae hi,AU an an,ci];rfl
  .rw[ae V]
 .unfold PZ Ot;simp[BR]
 .intro i e i1;have hr:=MI (l:=r.l4.dl) e;have u:=AG e i1;have y:=h.kind _ u;have N:=u9 h u;rw[ac k?,XB,bs];by_cases hi:i∈r.l4.dl
  .grind[B7,PZ,Ot,D8,AU]
  .have hb:hasB r.l4.dl i=T:=by cases hb:hasB r.l4.dl i with|false=>rfl|true=>exact absurd (B7.1 hb) hi
   rw [hb,ae a!,AD e i1,bs,AP (by unfold PZ;simp;unfold AX;omega),bs,bs,O7 h.hf,Jc h.hv y.1 y.2,bs];simp;rw[Ud (F:=λa=>a.Low) λj s D E G=>?_]
   .rw[bs,AP (by unfold Ot;simp;unfold AX;omega),bs];unfold PZ Ot;rw[D8 _ _ e,ae hi,D8 _ _ e,ae hi,AU U U,ci,ci];rfl
   grind [AD,AP,AX]
 .rw[ae V]
variable{k:Int}
def vO(hf:A2 t)(hv:(BD t).2=0)(o:0<=k)(e:k<t.dl.length):Lp t k=Y (Vm t k):=by
 have:=IN hf (I! _) (Cw hv).par e;unfold Lp;rw[Ts hf,Jc hv o e,bs];simp;rw[Ud (F:=λa=>a.Low) λj s u y z=>?_]
 .rfl
 grind [AD,AP,AX]
structure cu(h:AE)(d:BM):Prop where
 sm:Dd h
 len:h.ec.length=h.d3.dl.length
 ea:(∀x∈d.dl,0<=x/\x<h.d3.dl.length)/\d.dl.length<=1000
 eb:(∀x∈d.dr,0<=x/\x<h.d3.dr.length)/\d.dr.length<=1000
 ends:∀e∈h.d3.dr,(0≤e.ia/\e.ia<h.d3.dl.length)/\0≤e.To/\e.To<h.d3.dl.length
variable{h:AE}
def ba{d:BM}(hd:cu h d):Dd (CQ h d):=by
 have o:=hd.ea.2;have u:=hd.eb.2;refine⟨by unfold CQ;simp;omega,by unfold CQ;simp;omega,by unfold CQ;simp;omega,λv hv=>?_⟩;obtain⟨x,e,rfl⟩:=D!.1 hv;have:=hd.ea.1 x e;exact hd.sm.rows _ (AG this.1 (by rw[hd.len];exact this.2))
variable{R:ey}{M:AQ}{C:d4}
def vI{d:BM}(y:X7 t R C)(hd:cu h d)(J:C.dr.length=R.eh.d3.dr.length)
  (E:∀i:Int,0<=i->i<R.eh.d3.dl.length->(AA C.dl i=d.dl.length+(BR R.l4.dl i).length↔i∉R.l4.dl))
  (F:∀i:Int,0<=i->i<R.eh.d3.dr.length->(AA C.dr i=d.dr.length+(BR R.l4.dr i).length↔i∉R.l4.dr)):
  J5 t (AT.mk R M h (AE.mk (d3.mk [] []) []) (Gr h d) C) d=Y (AT.mk R M h (C1 t R (CQ h d) C) (Gr h d) C):=by
 have K:=hd.ea.2;have N:=hd.eb.2;have O:=y.g.ea;have P:=y.g.eb;have H:=y.cn;unfold J5;simp only[];rw[Bo (λi=>AT.mk R M h (AE.mk (d3.mk ((d.dl.take i.toNat).map (AA h.d3.dl)) []) ((d.dl.take i.toNat).map (AA h.ec))) (Gr h d) C) U V]
 rotate_left
 .intro i o i1;have u:=hd.ea.1 _ (AG o i1);have z:=hd.len;have hr:=hd.sm.rows _ (AG u.1 U);rw[AD o i1,bs,AD u.1 u.2,bs,AP a_,bs,AD u.1 U,bs,BZ b_,bs,AP a_,bs,JO o i1,JO o i1]
 rw [bs,I?,C!];rw[Bo (λi=>AT.mk R M h (AE.mk (d3.mk (d.dl.map (AA h.d3.dl)) ((d.dr.take i.toNat).map λx=>Xd (Gr h d).dl (AA h.d3.dr x))) (d.dl.map (AA h.ec))) (Gr h d) C) U V]
 rotate_left
 .intro i o i1;have u:=hd.eb.1 _ (AG o i1);have he:=hd.ends _ (AG u.1 u.2);have z:(Gr h d).dl.length=h.d3.dl.length:=LG _ _;simp only[];rw[AD o i1,bs,AD u.1 u.2,bs,AD he.1.1 U,bs,AD he.2.1 U,bs,AP a_,bs,JO o i1];rfl
 rw [bs,I?,C!];rw[Bo (λi=>AT.mk R M h (AE.mk (d3.mk (PZ R (CQ h d) i) (CQ h d).d3.dr) (Ot t R (CQ h d) i)) (Gr h d) C) U (by unfold PZ Ot;simp[BR,CQ])]
 rotate_left
 .intro i o i1;have hr:=MI (l:=R.l4.dl) o;have I:=AG o i1;have G:=y.kind _ I;have z:(PZ R (CQ h d) i).length=d.dl.length+(BR R.l4.dl i).length:=by unfold PZ CQ;simp
  have D:(Ot t R (CQ h d) i).length=d.dl.length+(BR R.l4.dl i).length:=by unfold Ot CQ;simp
  simp only[z];rw[AD o i1,bs,AD o U,bs];by_cases hi:i∈R.l4.dl
  .rw[ae (by rw[qo];push_cast;exact λe=>(E i o i1).1 e hi)];unfold PZ Ot;rw[D8 _ _ o,ac hi,E_,D8 _ _ o,ac hi,E_]
  .rw[ac (by rw[qo];push_cast;exact(E i o i1).2 hi),AP (by rw[z];simp;unfold AX;omega),bs,vO y.hf y.hv G.1 G.2,bs,AP (by rw[D];simp;unfold AX;omega),bs];unfold PZ Ot;rw[D8 _ _ o,ae hi,D8 _ _ o,ae hi,ci,ci]
 rw [bs];rw[Bo (λi=>AT.mk R M h (AE.mk (d3.mk (PZ R (CQ h d) R.eh.d3.dl.length) (RG R C (CQ h d) i)) (Ot t R (CQ h d) R.eh.d3.dl.length)) (Gr h d) C) U (by unfold RG;simp[BR,CQ])]
 rotate_left
 .intro i o i1;have hr:=MI (l:=R.l4.dr) o;have he:=y.g.fit _ (AG o i1);have z:(RG R C (CQ h d) i).length=d.dr.length+(BR R.l4.dr i).length:=by unfold RG CQ;simp
  simp only[z];rw[AD o i1,bs,AD o U,bs];by_cases hi:i∈R.l4.dr
  .rw[ae (by rw[qo];push_cast;exact λe=>(F i o i1).1 e hi)];unfold RG;rw[D8 _ _ o,ac hi,E_]
  .rw[ac (by rw[qo];push_cast;exact(F i o i1).2 hi),AD he.2.1.1 U,bs,AD he.2.2.1 U,bs,AP (by rw[z];simp;unfold AX;omega),bs];unfold RG;rw[D8 _ _ o,ae hi,ci];rfl
 rw [bs];rfl
def iV(hf:A2 t){d:BM}(hh:(Dl t h).2=0)(y:EY h.d3 d=0)(hd:cu h d):H6 t h d=Y (CQ h d,0):=by
 have z:=hd.ea.2;unfold H6;rw[V3 hf,bs,ae (by simp[hh]),V2 ⟨hd.ea.2,hd.eb.2⟩,ae u',bs,ae V];have e:DJ h.d3 d=(CQ h d).d3:=by
  unfold DJ CQ;congr 1;refine A! λx o=>?_;have o:=hd.eb.1 x o;have he:=hd.ends _ (AG o.1 o.2)
  grind [Xd,Gr,U1]
 simp;rw[Py (λi=>AE.mk (DJ h.d3 d) ((d.dl.take i.toNat).map (AA h.ec))) (a:=0) (b:=d.dl.length) U V]
 .rw[I?,C!,B8,e];rfl
 .intro i u i1;have o:=hd.ea.1 _ (AG u i1);have D:=hd.len;have hr:=hd.sm.rows _ (AG o.1 U);rw[ac k?,AD u i1,bs,AD o.1 U,bs,BZ b_,bs,AP a_,bs,JO u i1,AU an an]
 .rw[ae V]
end Go.Sf.Sc
namespace Go.Sf.Sc
open Go Go.Sf
def Rw(c:d4)(vars:Fp)(s:CF):(Int×Int)×Int:=((AA c.dl s.mL,s.ke),Dc s.gl vars)
def CR(r:ey)(c:d4)(vars:Fp):Bj:=r.eh.ei.map (Rw c vars)
def Nx(t:AC)(x:AE)(p:(Int×Int)×Int):Bool:=
 decide (p.2<(AA (A4 t (AA x.d3.dl p.1.1)) p.1.2).Low)||decide ((AA (A4 t (AA x.d3.dl p.1.1)) p.1.2).Aab<p.2)
structure WQ(t:AC)(r:ey)(c:d4)(vars:Fp)(x:AE):Prop where
 hf:A2 t
 hv:(BD t).2=0
 few:r.eh.ei.length<=1000
 fewv:vars.length<=1000
 slot:∀s∈r.eh.ei,(0<=s.mL/\s.mL<c.dl.length)/\(-1<=s.gl.Var/\s.gl.Var<vars.length)/\
  (0<=AA c.dl s.mL/\AA c.dl s.mL<x.d3.dl.length)/\(0<=s.ke/\s.ke<(A4 t (AA x.d3.dl (AA c.dl s.mL))).length)
 kind:∀n∈x.d3.dl,0<=n/\n<t.dl.length
 AbV:x.ec.length=x.d3.dl.length
 rows:∀i:Int,0<=i->i<x.d3.dl.length->(AA x.ec i).length=(A4 t (AA x.d3.dl i)).length
variable{L:Bj}{i:Int}
def kz(e:0<=i)(i1:i<=L.length)(h:∀j,0<=j->j<i->kp (λk=>decide ((AA L k).1=(AA L j).1)&&!decide ((AA L k).2=(AA L j).2)) 0 j=T):T6 (L.take i.toNat):=by grind[aC,Rd,B5,bk,UA,to]
def XT(L:Bj)(i:Int):Bool:=kp (λk=>decide ((AA L k).1=(AA L i).1)&&!decide ((AA L k).2=(AA L i).2)) 0 i
def qU(K:0<=i)(i1:i<L.length)(D:T6 (L.take i.toNat)):
  (((RO (L.take i.toNat)).look (AA L i).1).isSome&&(!decide (((RO (L.take i.toNat)).look (AA L i).1).getD 0=(AA L i).2)))=XT L i:=by
 obtain ⟨N,F,O⟩:=jf _ D;unfold XT;cases E:(RO (L.take i.toNat)).look (AA L i).1 with
 |none=>
  rw [Option.isSome_none,L!];refine Eq.symm (B5.2 λk y z=>?_);have u:AA L k∈L.take i.toNat:=by
   rw [<-to (n:=i.toNat) U]
   grind [AG,bk]
  rw [decide_eq_false (a8 E _ ((F _).2 u)),L!]
 |some v=>
  have u:=(F _).1 (Vl E);rw[Option.isSome_some,L_,Option.getD_some];have o:∀k,0<=k->k<i->(AA L k).1=(AA L i).1->(AA L k).2=v:=λk y z e=>by
   have H:AA L k∈L.take i.toNat:=by
    rw [<-to (n:=i.toNat) U]
    grind [AG,bk]
   exact D _ H _ u e
  obtain ⟨k,y,z,G⟩:=BP u;rw[bk]at z;rw[to U]at G;rw[M',Cz];constructor
  .intro h;refine⟨k,y,U,?_⟩;rw[G,decide_eq_true rfl,L_];exact h
  .rintro⟨j,I,J,h⟩;rw[mo,qo]at h;rw[<-o j I J h.1];exact h.2
def QN(r:ey)(c:d4)(vars:Fp)(e:0<=i)(i1:i<r.eh.ei.length):AA (CR r c vars) i=Rw c vars (AA r.eh.ei i):=Fu e i1
theorem Ln(r:ey)(c:d4)(vars:Fp):(CR r c vars).length=r.eh.ei.length:=c9 ..
def dy(L:Bj){ρ:Type}(v:ρ):fst (λi=>if XT L i=X then Y v else W) 0 L.length=if Rd L=X then Y v else W:=O0
variable{t:AC}{R:ey}{M:AQ}{B A:AE}{θ C:d4}
def lq(h:WQ t R C M.em A):JT (AT.mk R M B A θ C)=Y (if Rd (CR R C M.em)=X then([],11)else(RO (CR R C M.em),0)):=by
 unfold JT;simp only[];rw[El (a:=0) (s:=([]:Bj)) (λi=>RO ((CR R C M.em).take i.toNat)) (λi=>if XT (CR R C M.em) i=X then Y ([],11)else W) U rfl]
 .have:=dy (CR R C M.em) (([],11):Bj×Int);rw[Ln]at this;rw[this];by_cases e:Rd (CR R C M.em)=X
  .rw[ac e,ac e];rfl
  .rw[ae e,ae e,<-Ln R C M.em,I?,C!];rfl
 .intro i o i1 hb;have u:=h.slot _ (AG o i1);have E:T6 ((CR R C M.em).take i.toNat):=kz o (by rw[Ln];omega) λj z D=>by
   have:=hb j z D;split at this
   .cases this
   next e=>exact L?.2 e
  have y:=qU (L:=CR R C M.em) o (by rw[Ln];exact i1) E;rw[AD o i1,bs,fM u.2.1.1 u.2.1.2 h.fewv,bs,ae V,AD u.1.1 u.1.2,bs];rw[QN R C M.em o i1]at y;simp[Rw]at y;simp only[];by_cases e:XT (CR R C M.em) i=X
  .refine(ac (y.trans e)).trans ?_;rw[ac e];rfl
  .refine(ae (λh=>e (y.symm.trans h))).trans ?_;rw[ae e,Ba o (by rw[Ln];exact i1),fE,QN R C M.em o i1];rfl
def jh{α:Type}{f:α->K1}{g:α->Bool}:∀{l:List α},(∀p∈l,f p=Y (g p))->AaC f l=Y (l.all g)
 |[],_=>rfl|p::r,h=>by
  unfold AaC;rw[h p G?,bs,jh λq e=>h q (E' _ e),bs,List.all_cons]
variable{r:ey}{s:CF}{κ:List Fp}
def gT{c:d4}{vars:Fp}{x:AE}(h:WQ t r c vars x)(z:s∈r.eh.ei)(D:NI κ x.ec):
  idx κ (AA c.dl s.mL)=Y (AA κ (AA c.dl s.mL))/\idx (AA κ (AA c.dl s.mL)) s.ke=Y (AA (AA κ (AA c.dl s.mL)) s.ke):=by
 have o:=h.slot s z;have hv:=h.AbV;have hr:=h.rows _ o.2.2.1.1 o.2.2.1.2;have E:idx x.ec (AA c.dl s.mL)=Y (AA x.ec (AA c.dl s.mL)):=AD o.2.2.1.1 U;have F:idx (AA x.ec (AA c.dl s.mL)) s.ke=Y (AA (AA x.ec (AA c.dl s.mL)) s.ke):=AD o.2.2.2.1 U;obtain⟨G,x',a,b⟩:=D.idx E F;have u:=IH a;have y:=IH b;have H:=(H_.1 u.2.2).1;have e:AA κ (AA c.dl s.mL)=G:=by
  grind [AD,Option.some.inj]
 have I:=(H_.1 y.2.2).1;refine⟨AD u.1 U,?_⟩;rw[e];exact AD y.1 U
def qh(h:WQ t R C M.em A){p:(Int×Int)×Int}(y:p∈CR R C M.em):QZ t (AT.mk R M B A θ C) p=Y (!Nx t A p):=by
 obtain ⟨s,u,rfl⟩:=D!.1 y;have e:=h.slot s u;have o:=h.kind _ (AG e.2.2.1.1 e.2.2.1.2);obtain⟨z,D⟩:=gT h u (κ:=A.ec) rfl;unfold QZ QY Rw Nx;simp;rw[AD e.2.2.1.1 e.2.2.1.2,bs,Ts h.hf,Jc h.hv o.1 o.2,bs];simp;simp[AD e.2.2.2.1 e.2.2.2.2,z,D,Wf]
 grind
def KE(t:AC)(x:AE)(L:Bj):AE×Int:=
 if Rd L=X then(⟨⟨[],[]⟩,[]⟩,11)else if L.any (Nx t x)=X then(⟨⟨[],[]⟩,[]⟩,6)else(⟨x.d3,L.foldl Ch x.ec⟩,0)
def yH(h:WQ t R C M.em A):ND t (AT.mk R M B A θ C)=Y ((KE t A (CR R C M.em)).2,if(KE t A (CR R C M.em)).2=0 then AT.mk R M B (KE t A (CR R C M.em)).1 θ C else AT.mk R M B A θ C):=by
 unfold ND KE;rw[lq h,bs];by_cases e:Rd (CR R C M.em)=X
 .grind
 .rw[ae e,ae V,ae e];obtain⟨u,z,D⟩:=jf _ (aC (L?.2 e));have ha:AaC (QZ t (AT.mk R M B A θ C)) (RO (CR R C M.em))=Y (!(CR R C M.em).any (Nx t A)):=by
   rw [jh (g:=λp=>!Nx t A p) λp o=>qh h ((z p).1 o)]
   grind
  rw [ac (by simpa using(show List.Pairwise (λx y:(Int×Int)×Int=>x.1≠y.1) _ from u)),ha,bs]
  grind [CR,Nx,Pt]
def ABk{x:AE}{c:d4}{vars:Fp}(h:WQ t r c vars x):LF t r x c vars=Y (KE t x (CR r c vars)):=by
 unfold LF KE;rw[El (a:=0) (s:=AE.mk (d3.mk [] []) []) (λ_=>AE.mk (d3.mk [] []) []) (λi=>if XT (CR r c vars) i=X then Y (AE.mk (d3.mk [] []) [],(11:Int))else W) U rfl]
 .have:=dy (CR r c vars) ((AE.mk (d3.mk [] []) [],(11:Int)));rw[Ln]at this;rw[this];by_cases e:Rd (CR r c vars)=X
  .rw[ac e,ac e];rfl
  rw [ae e,ae e];show ej (Y (Sum.inl _)) _ _=_;rw[B8,El (a:=0) (s:=(x,AE.mk (d3.mk [] []) [])) (λi=>(AE.mk x.d3 (((CR r c vars).take i.toNat).foldl Ch x.ec),AE.mk (d3.mk [] []) [])) (λi=>if Nx t x (AA (CR r c vars) i)=X then Y (AE.mk (d3.mk [] []) [],(6:Int))else W) U rfl]
  .have:=jT (l:=CR r c vars) (q:=Nx t x) (v:=(AE.mk (d3.mk [] []) [],(6:Int)));rw[Ln]at this;rw[this];by_cases u:(CR r c vars).any (Nx t x)=X
   .rw[ac u,ac u];rfl
   .rw[ae u,ae u];show Y (AE.mk x.d3 (((CR r c vars).take (r.eh.ei.length:Int).toNat).foldl Ch x.ec),(0:Int))=_
    grind [Ln,I?,C!]
  .intro i y i1 _;have F:=AG y i1;have o:=h.slot _ F;have z:=h.kind _ (AG o.2.2.1.1 o.2.2.1.2);obtain⟨H,I⟩:=gT h F (κ:=((CR r c vars).take i.toNat).foldl Ch x.ec) (eR _ _);simp only[AD y i1,bs];rw[QK o.2.1.1 o.2.1.2,bs,AD o.1.1 o.1.2,bs,AD o.2.2.1.1 o.2.2.1.2,bs,O7 h.hf,Jc h.hv z.1 z.2,bs];simp only[];rw[AD o.2.2.2.1 o.2.2.2.2,bs,bs,Wf,bs,H,bs,I,bs];rw[QN r c vars y i1,Ba y (by rw[Ln];exact i1),B',QN r c vars y i1];show(if(Nx t x (Rw c vars (AA r.eh.ei i)))=X then _ else _)=_;by_cases u:Nx t x (Rw c vars (AA r.eh.ei i))=X
   .rw[ac u,ac u];rfl
   .rw[ae u,ae u];have:=eH (p:=Rw c vars (AA r.eh.ei i)) H I;exact congrArg (λη=>Y (B2.next (σ:=AE×AE) (ρ:=AE×Int) (AE.mk x.d3 η,AE.mk (d3.mk [] []) []))) this
 .intro i y i1 _;have o:=h.slot _ (AG y i1);rw[AD y i1,bs,QK o.2.1.1 o.2.1.2,bs];rw[El (a:=0) (s:=AE.mk (d3.mk [] []) []) (λ_=>AE.mk (d3.mk [] []) []) (λk=>if(decide ((AA (CR r c vars) k).1=(AA (CR r c vars) i).1)&&!decide ((AA (CR r c vars) k).2=(AA (CR r c vars) i).2))=X then Y (AE.mk (d3.mk [] []) [],(11:Int))else W) y rfl]
  .rw[O0];unfold XT;split<;>rfl
  .intro k D K _;have z:=h.slot _ (AG D (show k<r.eh.ei.length by omega));simp[AD y i1,AD D (show k<r.eh.ei.length by omega)];rw[QK z.2.1.1 z.2.1.2,bs,AD z.1.1 z.1.2,bs,AD o.1.1 o.1.2,bs,QN r c vars y i1,QN r c vars D U];simp[Rw];by_cases G:AA c.dl (AA r.eh.ei k).mL=AA c.dl (AA r.eh.ei i).mL<;>by_cases u:(AA r.eh.ei k).ke=(AA r.eh.ei i).ke<;>by_cases E:Dc (AA r.eh.ei i).gl vars=Dc (AA r.eh.ei k).gl vars
   all_goals first|(have J:¬Dc (AA r.eh.ei k).gl vars=Dc (AA r.eh.ei i).gl vars:=λh=>E h.symm;simp[G,u,E,J,ZH];done)|(simp[G,u,E,ZH];done)
end Go.Sf.Sc
namespace Go.Sf.Sc
open Go Go.Sf
variable{t:AC}{r:ey}
def Ux(h:DZ t r=0):FK t r.f0=0/\Jz t r=0/\Jf t r.f0 r.d5=0:=by grind[DZ]
def iZ(h:Jz t r=0):r.eh.em=r.f0.em/\r.eh.ei.length<=10/\∀i:Int,0<=i->i<r.eh.ei.length->Oe t r.eh i=0:=by
 unfold Jz at h;split at h
 .omega
 split at h
 .cases h
 split at h
 .cases h
 split at h
 .cases h
 rename_i e o u y;exact⟨U,U,Vf h⟩
variable{p:d6}{i:Int}
def mI(h:Oe t p i=0):(0<=(AA p.ei i).mL/\(AA p.ei i).mL<p.d3.dl.length)/\
  (0<=(AA p.ei i).ke/\(AA p.ei i).ke<(Fw t (AA p.d3.dl (AA p.ei i).mL)).1.length)/\-1<=(AA p.ei i).gl.Var/\(AA p.ei i).gl.Var<p.em:=by
 unfold Oe at h;dsimp only at h;split at h
 .cases h
 split at h
 .cases h
 rename_i o e;simp[qo]at e;omega
structure IW(t:AC)(r:ey)(h:AE)(m:AQ):Prop where
 hf:A2 t
 fr:Is r
 re:DZ t r=0
 he:(Dl t h).2=0
 at_:X3 t r.f0 h m
 co:dQ (UZ r.f0.d3 h.d3 m.d4) h.d3 r.mR m.d4
abbrev dS(r:ey)(h:AE)(m:AQ):BM:=Ob h.d3 r.mR m.d4
abbrev cS(r:ey)(h:AE)(m:AQ):d4:=cmS r h m.d4 (dS r h m)
variable{h:AE}
theorem IW.hv{m:AQ}(s:IW t r h m):(BD t).2=0:=(kB s.re).1
def IW.ro{m:AQ}(s:IW t r h m):mu t r:=(kB s.re).2
theorem IW.hh{m:AQ}(s:IW t r h m):It t h:=(O1 s.hf s.he).2
def Ri(hf:A2 t)(hv:(BD t).2=0)(hh:It t h):Dd h:=by
 have u:=hh.g.ea;have y:=hh.g.eb;have z:=hh.len;refine⟨U,U,U,λv e=>?_⟩;obtain⟨i,o,i1,rfl⟩:=BP e;have D:=hh.row i o U;have E:=IN hf (I! _) (Cw hv).par (hh.kind i o U).2;omega
def IW.rem{m:AQ}(s:IW t r h m):cu h (dS r h m):=by
 have hh:=s.hh;have u:=hh.g.ea;have y:=hh.g.eb;have l1:=TH (FR m.d4.dl r.mR.dl) h.d3.dl.length;have l2:=TH (FR m.d4.dr r.mR.dr) h.d3.dr.length;exact⟨Ri s.hf s.hv hh,hh.len,⟨λx o=>F3 o,by show(BR _ _).length<=1000;omega⟩,⟨λx o=>F3 o,by show(BR _ _).length<=1000;omega⟩,λe he=>(hh.g.fit e he).2⟩
def IW.part{m:AQ}(s:IW t r h m):EY h.d3 (dS r h m)=0:=by
 unfold EY;rw[ae (by simp[s.hh.ge])];exact pG s.co
variable{count:Nat}
def nK{fd into fq:Fp}{n:Nat}{BU:Fp}(few:count<=1000)(nodup:into.Nodup)(len:into.length=fd.length)(inn:∀x∈into,0<=x/\x<count)
  (kin:∀x∈fd,0<=x/\x<fq.length)(u:∀x∈fq,0<=x/\x<n)(hi:Aat fq fd=T)(y:BU=FR fq fd):
  WM count fd into (fq.map (AA (JA n (BR BU n))))/\(∀x∈fd,AA (fq.map (AA (JA n (BR BU n)))) x<(BR BU n).length)/\
  ∀x∈fd,AA (fq.map (AA (JA n (BR BU n)))) x=Dh (BR BU n) (AA fq x)/\AA fq x∈BR BU n:=by
 have e:∀x∈fd,AA (fq.map (AA (JA n (BR BU n)))) x=Dh (BR BU n) (AA fq x)/\AA fq x∈BR BU n:=λx o=>by
  grind [AG,Fu,U1,Rt,Vk]
 refine ⟨⟨few,nodup,len,inn,λx o=>by rw[c9];exact kin x o,λx o=>?_⟩,λx o=>?_,e⟩
 .rw[(e x o).1];exact PV.2 (e x o).2
 .rw[(e x o).1];exact(R4 _ _).2
def IW.left{m:AQ}(s:IW t r h m):m.d4.dl.length=r.f0.d3.dl.length/\m.d4.dr.length=r.f0.d3.dr.length:=⟨s.at_.m.wi,s.at_.m.x9⟩
def IW.AbR{m:AQ}(s:IW t r h m):WM r.eh.d3.dl.length r.mR.dl r.l4.dl (m.d4.dl.map (AA (Gr h (dS r h m)).dl))/\
  (∀x∈r.mR.dl,AA (m.d4.dl.map (AA (Gr h (dS r h m)).dl)) x<(dS r h m).dl.length)/\
  ∀x∈r.mR.dl,AA (m.d4.dl.map (AA (Gr h (dS r h m)).dl)) x=Dh (dS r h m).dl (AA m.d4.dl x)/\AA m.d4.dl x∈(dS r h m).dl:=by
 have ro:=s.ro;have u:=ro.right.ea;refine nK U ro.inj.1 ?_ (λx e=>?_) (λx e=>?_) (λx e=>?_) s.co.ea rfl
 .have:=ro.mor.wi;rw[this];exact c9 ..
 .obtain⟨i,o,i1,rfl⟩:=BP e;exact(ro.mor.node i o i1).1
 .have:=ro.part.ea.1 x e;have:=s.left.1;omega
 .obtain⟨i,o,i1,rfl⟩:=BP e;exact(s.at_.m.node i o i1).1
def IW.AbX{m:AQ}(s:IW t r h m):WM r.eh.d3.dr.length r.mR.dr r.l4.dr (m.d4.dr.map (AA (Gr h (dS r h m)).dr))/\
  (∀x∈r.mR.dr,AA (m.d4.dr.map (AA (Gr h (dS r h m)).dr)) x<(dS r h m).dr.length)/\
  ∀x∈r.mR.dr,AA (m.d4.dr.map (AA (Gr h (dS r h m)).dr)) x=Dh (dS r h m).dr (AA m.d4.dr x)/\AA m.d4.dr x∈(dS r h m).dr:=by
 have ro:=s.ro;have u:=ro.right.eb;refine nK U ro.inj.2 ?_ (λx e=>?_) (λx e=>?_) (λx e=>?_) s.co.eb rfl
 .have:=ro.mor.x9;rw[this];exact c9 ..
 .obtain⟨i,o,i1,rfl⟩:=BP e;exact(ro.mor.edge i o i1).1
 .have:=ro.part.eb.1 x e;have:=s.left.2;omega
 .obtain⟨i,o,i1,rfl⟩:=BP e;exact s.at_.m.edge i o i1
def jG{fd into at_:Fp}{n:Nat}(h:WM count fd into at_)(o:∀x∈fd,AA at_ x<n)(u:0<=i)(i1:i<count):AA (VU count fd into at_ n) i=n+(BR into i).length↔i∉into:=by
 rw [nJ u i1];constructor
 .intro e hi;rw[Tf hi]at e;have y:=Hu hi;have:=o _ (AG (l:=fd) y.1 o1);omega
 .exact UI
def IW.grow{m:AQ}(s:IW t r h m):X7 t r (cS r h m):=
 ⟨s.hf,s.hv,s.ro.right,(H9 s.ro.right s.ro.Abj).1,ZV _ _ _ _ _⟩
def XE(l:Fp)(o:0<=i):∀(k:Nat),∃s,BR l (i+k)=BR l i++s
 |0=>⟨[],V⟩|k+1=>by
  obtain ⟨s,e⟩:=XE l o k
  grind [Po,ci]
variable{l:Fp}{n:Int}
def r9(o:0<=i)(i1:i<n)(h:i∉l):AA (BR l n) (BR l i).length=i/\((BR l i).length:Int)<(BR l n).length:=by
 obtain ⟨s,e⟩:=XE l (i:=i+1) U (n-(i+1)).toNat
 rw [show i+1+((n-(i+1)).toNat:Int)=n by omega,Po l o]at e
 grind [hasB,B7,AA]
def nB{α:Type}[Inhabited α]{l m:List α}(e:0<=i)(o:i<l.length):AA (l++m) i=AA l i:=by grind[Ox]
def YF{α:Type}[Inhabited α]{l m:List α}{n:Nat}:AA (l++m) (l.length+n:Int)=AA m n:=by grind[Ox,AA,I?]
variable{a:Int}
def qw(h:0<=a):HI t a a=X:=by
 unfold HI;rw[show(a+1).toNat=a.toNat+1 by omega,K6,ae U];simp
def IW.AbF{m:AQ}(s:IW t r h m)(y:0<=i)(i1:i<r.eh.d3.dl.length):
  (0<=AA (cS r h m).dl i/\AA (cS r h m).dl i<(C1 t r (CQ h (dS r h m)) (cS r h m)).d3.dl.length)/\
  AA (C1 t r (CQ h (dS r h m)) (cS r h m)).d3.dl (AA (cS r h m).dl i)<t.dl.length/\HI t (AA (C1 t r (CQ h (dS r h m)) (cS r h m)).d3.dl (AA (cS r h m).dl i)) (AA r.eh.d3.dl i)=X:=by
 obtain ⟨H,O,c3⟩:=s.AbR;have I:AA (cS r h m).dl i=SL r.mR.dl r.l4.dl (m.d4.dl.map (AA (Gr h (dS r h m)).dl)) (dS r h m).dl.length i:=nJ y i1;have el:(C1 t r (CQ h (dS r h m)) (cS r h m)).d3.dl=(dS r h m).dl.map (AA h.d3.dl)++(E5 r).map (AA r.eh.d3.dl):=rfl;rw[I,el,b6,c9,c9];by_cases hi:i∈r.l4.dl
 .have e:=Hu hi;have P:=H.len;have u:=AG (l:=r.mR.dl) e.1 U;have E:=c3 _ u;have F:=O _ u;have z:=H.pos _ u;rw[Tf hi];refine⟨⟨z,by push_cast;omega⟩,?_⟩;rw[nB z (by rw[c9];exact F),Fu z F,E.1,(Hu E.2).2.2.1];have hr:=s.ro.part.ea.1 _ u;have J:=s.left.1;have D:=s.at_.m.node _ hr.1 U;have K:=s.hh.kind _ D.1.1 D.1.2;have G:=s.ro.mor.node _ e.1 e.2.1;rw[e.2.2.1]at G;have N:AA (DJ r.f0.d3 r.mR).dl (Dh r.l4.dl i)=AA r.f0.d3.dl (AA r.mR.dl (Dh r.l4.dl i)):=Fu e.1 U;rw[G.2,N];exact⟨K.2,D.2⟩
 .have hr:=r9 y i1 hi;rw[UI hi];have o:((dS r h m).dl.map (AA h.d3.dl)).length=(dS r h m).dl.length:=c9 ..;refine⟨⟨U,?_⟩,?_⟩
  .have:((E5 r).length:Int)=(BR r.l4.dl r.eh.d3.dl.length).length:=rfl
   push_cast
   omega
  .rw[<-o,YF,show E5 r=BR r.l4.dl r.eh.d3.dl.length from rfl,Fu U hr.2];show AA r.eh.d3.dl (AA (BR r.l4.dl r.eh.d3.dl.length) (BR r.l4.dl i).length)<(t.dl.length:Int)/\HI t (AA r.eh.d3.dl (AA (BR r.l4.dl r.eh.d3.dl.length) (BR r.l4.dl i).length)) _=X;rw[hr.1];have:=(H9 s.ro.right s.ro.Abj).1 _ (AG y i1);exact⟨this.2,qw this.1⟩
def IW.rows{m:AQ}(s:IW t r h m):(C1 t r (CQ h (dS r h m)) (cS r h m)).ec.map (λv=>v.length)=(C1 t r (CQ h (dS r h m)) (cS r h m)).d3.dl.map λn=>(A4 t n).length:=by
 show (H' _ (_++_))=H' _ (_++_);rw[D_,D_];congr 1
 .show((dS r h m).dl.map (AA h.ec)).map _=((dS r h m).dl.map (AA h.d3.dl)).map _;rw[E?,E?];refine A! λx e=>?_;have e:=s.rem.ea.1 x e;exact s.hh.row x e.1 e.2
 grind [E?,A!,Vm,c9]
def IW.put{m:AQ}(s:IW t r h m):WQ t r (cS r h m) m.em (C1 t r (CQ h (dS r h m)) (cS r h m)):=by
 obtain ⟨S,hr,ε⟩:=Ux s.re;obtain⟨hv,η,E⟩:=iZ hr;have N:=s.at_.q.vars;have F:=s.at_.len;have z:=s.rows;have D:(C1 t r (CQ h (dS r h m)) (cS r h m)).ec.length=(C1 t r (CQ h (dS r h m)) (cS r h m)).d3.dl.length:=by
  grind [H!,c9]
 refine ⟨s.hf,s.hv,U,U,λx e=>?_,λn o=>?_,D,λi u i1=>?_⟩
 .obtain⟨i,u,i1,rfl⟩:=BP e;obtain⟨y,J,ζ⟩:=mI (E i u i1);have G:=(H9 s.ro.right s.ro.Abj).1 _ (AG y.1 y.2);rw[Jc s.hv G.1 G.2]at J;obtain⟨δ,K,H⟩:=s.AbF y.1 y.2;replace H:=ar (Cw s.hv) K H;have I:(cS r h m).dl.length=r.eh.d3.dl.length:=ZV _ _ _ _ _
  grind
 .have o:n∈(dS r h m).dl.map (AA h.d3.dl)++(E5 r).map (AA r.eh.d3.dl):=o;rcases x!.1 o with o|o
  .obtain⟨x,e,rfl⟩:=D!.1 o;have e:=s.rem.ea.1 x e;exact s.hh.kind x e.1 e.2
  .obtain⟨x,e,rfl⟩:=D!.1 o;have e:=F3 e;exact(H9 s.ro.right s.ro.Abj).1 _ (AG e.1 e.2)
 .have O:=Fu (l:=(C1 t r (CQ h (dS r h m)) (cS r h m)).ec) (g:=λv=>v.length) u U;have P:=Fu (l:=(C1 t r (CQ h (dS r h m)) (cS r h m)).d3.dl) (g:=λn=>(A4 t n).length) u i1
  grind
end Go.Sf.Sc
namespace Go.Sf.Sc
open Go Go.Sf
abbrev zRu:ey:=ey.mk (⟨#[]⟩:ByteArray) (d6.mk (d3.mk [] []) [] 0 []) (d6.mk (d3.mk [] []) [] 0 []) (BM.mk [] []) (d4.mk [] []) T (d5.mk 0 [] (d4.mk [] []) (d6.mk (d3.mk [] []) [] 0 []))
abbrev zG:AT:=AT.mk zRu (AQ.mk (d4.mk [] []) []) (AE.mk (d3.mk [] []) []) (AE.mk (d3.mk [] []) []) (d4.mk [] []) (d4.mk [] [])
def cx(t:AC)(r:ey)(h:AE)(m:AQ):AT×Int:=
 if (KE t (C1 t r (CQ h (dS r h m)) (cS r h m)) (CR r (cS r h m) m.em)).2≠0 then(zG,(KE t (C1 t r (CQ h (dS r h m)) (cS r h m)) (CR r (cS r h m) m.em)).2)else
 if 40<(KE t (C1 t r (CQ h (dS r h m)) (cS r h m)) (CR r (cS r h m) m.em)).1.d3.dl.length\/80<(KE t (C1 t r (CQ h (dS r h m)) (cS r h m)) (CR r (cS r h m) m.em)).1.d3.dr.length then(zG,3)else
 (AT.mk r m h (KE t (C1 t r (CQ h (dS r h m)) (cS r h m)) (CR r (cS r h m) m.em)).1 (Gr h (dS r h m)) (cS r h m),0)
noncomputable def Ea(t:AC)(r:ey)(h:AE)(m:AQ):AT×Int:=
 if DZ t r≠0 then(zG,DZ t r)else if(Dl t h).2≠0 then(zG,(Dl t h).2)else
 if Gp t r.f0.d3 h.d3 m.d4 r.ij≠0 then(zG,1)else
 if (Gu t r.f0 h m.d4).2≠0 then(zG,(Gu t r.f0 h m.d4).2)else if¬(Gu t r.f0 h m.d4).1=m.em then(zG,11)else
 if (PO (UZ r.f0.d3 h.d3 m.d4) h.d3 r.mR m.d4).2≠0 then(zG,(PO (UZ r.f0.d3 h.d3 m.d4) h.d3 r.mR m.d4).2)else
 if (Ou t r.f0 r.d5 h m r.ij).2≠0 then(zG,(Ou t r.f0 r.d5 h m r.ij).2)else
 if (Ou t r.f0 r.d5 h m r.ij).1=T then(zG,16)else cx t r h m
variable{t:AC}{r:ey}{h:AE}
def ZU{m:AQ}(e:DZ t r=0)(o:(Dl t h).2=0)(u:Gp t r.f0.d3 h.d3 m.d4 r.ij=0)(y:(Gu t r.f0 h m.d4).2=0)(z:(Gu t r.f0 h m.d4).1=m.em):VQ t r.f0 r.d5 h m r.ij=0:=by
 unfold VQ;rw[ae (by simp[(Ux e).2.2]),ae o2,ae l!,ae u',ac z]
def jY{m:AQ}{ζ:Option (AT×Int)}(hX:(KE t (C1 t r (CQ h (dS r h m)) (cS r h m)) (CR r (cS r h m) m.em)).2=0->ζ=
   if ((decide (40<((KE t (C1 t r (CQ h (dS r h m)) (cS r h m)) (CR r (cS r h m) m.em)).1.d3.dl.length:Int)))||(decide (80<((KE t (C1 t r (CQ h (dS r h m)) (cS r h m)) (CR r (cS r h m) m.em)).1.d3.dr.length:Int))))=X then Y (zG,3)else
   Y (AT.mk r m h (KE t (C1 t r (CQ h (dS r h m)) (cS r h m)) (CR r (cS r h m) m.em)).1 (Gr h (dS r h m)) (cS r h m),0)):
  (if(!decide ((KE t (C1 t r (CQ h (dS r h m)) (cS r h m)) (CR r (cS r h m) m.em)).2=0))=X then Y (zG,(KE t (C1 t r (CQ h (dS r h m)) (cS r h m)) (CR r (cS r h m) m.em)).2)else ζ)=Y (cx t r h m):=by
 unfold cx;refine D1 λe=>?_;rw[hX e];refine Qz an λ_=>rfl
theorem Y0(hf:A2 t)(fr:Is r)(F:D3 r.d5<=40)(h:AE)(m:AQ):FY t r h m=Y (Ea t r h m):=by
 unfold FY IV Ea;rw[O6 hf,bs];by_cases hv:¬(BD t).2=0
 .grind[DZ,BD]
 have hv:=K'.1 hv;rw[ae j!,fh hf fr,bs,Vw hf,bs];by_cases o:¬DZ t r=0
 .grind
 have o:=K'.1 o;rw[ae o2,bs,ae (show¬DZ t r≠0 by simp[o])];refine D1 λG=>?_;rw[Option.bind_fun_some];unfold IU K4;rw[Zp hf,bs];by_cases u:¬Gp t r.f0.d3 h.d3 m.d4 r.ij=0
 .grind
 have u:=K'.1 u;rw[ae l!,jk hf,bs,ae (show¬Gp t r.f0.d3 h.d3 m.d4 r.ij≠0 by simp[u])];by_cases y:¬(Gu t r.f0 h m.d4).2=0
 .grind
 have y:=K'.1 y;rw[ae u',Ka,bs,ae (show¬(Gu t r.f0 h m.d4).2≠0 by simp[y])];by_cases z:¬(Gu t r.f0 h m.d4).1=m.em
 .grind
 have z:=K'.1 z;rw[ae q_,bs,ae V,ae (show¬¬(Gu t r.f0 h m.d4).1=m.em by simp[z])];rw[yJ hf u,bs,ae V,yE fr.fd,bs];refine D1 λH=>?_;obtain⟨_,_,_,ha⟩:=YL hf F (ZU o G u y z);obtain⟨co,P⟩:=ZW H;rw[iT hf _ fr.cond F,bs,P];refine D1 λS=>?_;refine YM λε=>?_;have s:IW t r h m:=⟨hf,fr,o,G,ha,co⟩;have hr:=s.rem;have η:=s.hh.g.ea;have ζ:=s.hh.g.eb;have l1:=s.left.1;have l2:=s.left.2;have δ:=s.ro.left.ea;have Z:=s.ro.left.eb;have J:=ha.len;have K:=ha.q.vars;have E:K3 m=Y m:=by
  unfold K3 slices_Clone_int;rw[BZ b_,bs,BZ b_,bs,BZ b_,bs]
 simp only[];rw[E,bs,lr hr.sm,bs];rw[jw U hr.ea.2 (O8 _ _),bs,jw U hr.eb.2 (O8 _ _),bs];have N:Hm r.eh.d3.dl.length r.mR.dl r.l4.dl m.d4.dl (JA h.d3.dl.length (dS r h m).dl) (Ob h.d3 r.mR m.d4).dl.length=Y (cS r h m).dl:=
  bE s.AbR.1 (λx D=>by rw[LG];obtain⟨i,e,i1,rfl⟩:=BP D;exact(ha.m.node i e i1).1) U (J?.2 hr.ea.2)
 have O:Hm r.eh.d3.dr.length r.mR.dr r.l4.dr m.d4.dr (JA h.d3.dr.length (dS r h m).dr) (Ob h.d3 r.mR m.d4).dr.length=Y (cS r h m).dr:=
  bE s.AbX.1 (λx D=>by rw[LG];obtain⟨i,e,i1,rfl⟩:=BP D;exact ha.m.edge i e i1) U (J?.2 hr.eb.2)
 rw [N,bs,O,bs];have hb:=vI (M:=m) s.grow hr (ZV _ _ _ _ _) (λi e i1=>jG s.AbR.1 s.AbR.2.1 e i1) (λi e i1=>jG s.AbX.1 s.AbX.2.1 e i1);change ((J5 t (AT.mk r m h (AE.mk (d3.mk [] []) []) (Gr h (dS r h m)) (cS r h m)) (dS r h m)).bind _)=_;rw[hb,bs,yH s.put,bs];exact jY λI=>by rw[ac I]
variable{p:d6}{c:d5}
def ov(hf:A2 t)(e:D3 c<=40){m:AQ}{inj:Bool}(o:VQ t p c h m inj=0):KM t c h m inj=Y (Ou t p c h m inj):=by
 obtain ⟨hv,hh,u,ha⟩:=YL hf e o
 grind [KM,Ou,wS,DK,wR,oI,rj]
theorem pA(hf:A2 t)(fr:Is r)(I:D3 r.d5<=40)(h:AE)(m:AQ):Ij t r h m=Y (Ea t r h m):=by
 unfold Ij Ha Ea;rw[gG hf fr,bs,V3 hf,bs];by_cases e:¬DZ t r=0
 .rw[ac d_,bs,ac d_,ac e]
 have e:=K'.1 e;rw[ae d_,bs,ae (show¬DZ t r≠0 by simp[e])];refine D1 λF=>?_;unfold Ip;rw[Zu hf,bs];by_cases o:¬Gp t r.f0.d3 h.d3 m.d4 r.ij=0
 .rw[ac o2,bs,ac V,ac o]
 have o:=K'.1 o;rw[ae o2,vd hf,bs,ae (show¬Gp t r.f0.d3 h.d3 m.d4 r.ij≠0 by simp[o])];by_cases u:¬(Gu t r.f0 h m.d4).2=0
 .rw[ac l!,bs,ac l!,ac u]
 have u:=K'.1 u;rw[ae l!,vb,bs,ae (show¬(Gu t r.f0 h m.d4).2≠0 by simp[u])];by_cases D:¬(Gu t r.f0 h m.d4).1=m.em
 .rw[ac (by simp[D]),bs,ac V,ac D]
 have D:=K'.1 D;rw[ae (by simp[D]),ae (show¬¬(Gu t r.f0 h m.d4).1=m.em by simp[D])];rw[yd hf o,bs,ae V,yW fr.fd,bs];by_cases y:¬(PO (UZ r.f0.d3 h.d3 m.d4) h.d3 r.mR m.d4).2=0
 .rw[ac u',bs,ac u',ac y]
 have y:=K'.1 y;rw[ae u',ae (show¬(PO (UZ r.f0.d3 h.d3 m.d4) h.d3 r.mR m.d4).2≠0 by simp[y])];have E:=ZU e F o u D;obtain⟨_,_,_,ha⟩:=YL hf I E;obtain⟨co,N⟩:=ZW y;rw[ov hf I E,bs,N,JL,bs,bs];by_cases z:¬(Ou t r.f0 r.d5 h m r.ij).2=0
 .rw[ae (show¬((decide ((Ou t r.f0 r.d5 h m r.ij).2=0)&&!(Ou t r.f0 r.d5 h m r.ij).1)=X)by simp[z]),ac q_,ac z]
 have z:=K'.1 z;rw[ae (show¬(Ou t r.f0 r.d5 h m r.ij).2≠0 by simp[z])];cases P:(Ou t r.f0 r.d5 h m r.ij).1 with
 |false=>rw[ac (show(decide ((Ou t r.f0 r.d5 h m r.ij).2=0)&&!T)=X by simp[z]),ac V,ac rfl]|true=>
 rw [ae (show¬(decide ((Ou t r.f0 r.d5 h m r.ij).2=0)&&!X)=X by simp),ae q_,ae V];have s:IW t r h m:=⟨hf,fr,e,F,ha,co⟩;have hr:=s.rem;have S:=s.hh.g.ea;have ε:=s.hh.g.eb;have l1:=s.left.1;have l2:=s.left.2;have η:=s.ro.left.ea;have ζ:=s.ro.left.eb;unfold JR M4;simp only[];rw[iV hf F s.part hr,bs,fw U hr.ea.2 ((O8 _ _).imp λh=>U),bs,bs,fw U hr.eb.2 ((O8 _ _).imp λh=>U),bs,bs,bs];simp only[];rw[Y7 U (λx G=>by rw[LG];obtain⟨i,H,i1,rfl⟩:=BP G;exact(ha.m.node i H i1).1),bs];rw[Y7 U (λx G=>by rw[LG];obtain⟨i,H,i1,rfl⟩:=BP G;exact ha.m.edge i H i1),bs];have J:Gl r.mR.dl r.l4.dl r.eh.d3.dl.length (m.d4.dl.map (AA (JA h.d3.dl.length (dS r h m).dl))) (Ob h.d3 r.mR m.d4).dl.length=Y (cS r h m).dl:=
  bR s.AbR.1 U (J?.2 hr.ea.2)
 have K:Gl r.mR.dr r.l4.dr r.eh.d3.dr.length (m.d4.dr.map (AA (JA h.d3.dr.length (dS r h m).dr))) (Ob h.d3 r.mR m.d4).dr.length=Y (cS r h m).dr:=
  bR s.AbX.1 U (J?.2 hr.eb.2)
 rw [J,bs,K,bs];rw[ot (ba hr),bs];change ((Jx t r (CQ h (dS r h m)) (cS r h m)).bind _)=_;rw[yb s.grow (ba hr),bs];change ((LF t r (C1 t r (CQ h (dS r h m)) (cS r h m)) (cS r h m) m.em).bind _)=_;rw[ABk s.put,bs];exact jY λO=>rfl
end Go.Sf.Sc
namespace Go.Sf.Sc
open Go Go.Sf
instance:Inhabited ey:=⟨zRu⟩
instance:Inhabited GB:=⟨⟨0,⟨⟨[],[]⟩,[]⟩⟩⟩
instance:Inhabited AT:=⟨zG⟩
structure FZ(rules:List ey):Prop where
 len:rules.length<=12
 each:∀r∈rules,Is r/\D3 r.d5<=40
noncomputable def FV(t:AC)(rules:List ey)(h:AE)(m:GB):AT×Int:=if m.ey<0\/rules.length<=m.ey then(zG,6)else Ea t (AA rules m.ey) h m.ll
variable{t:AC}{rules:List ey}
def yM(hf:A2 t)(hr:FZ rules)(h:AE)(m:GB):Fc t rules h m=Y (FV t rules h m):=by
 unfold Fc FV;refine Qz V λe=>?_;have o:=hr.each _ (AG (l:=rules) (i:=m.ey) U U)
 grind [AD,Y0]
noncomputable def EO(t:AC)(rules:List ey):Int:=
 if (BD t).2≠0 then(BD t).2 else if 10<rules.length then 3 else(fst (λi=>nz (DZ t (AA rules i))) 0 rules.length).getD 0
noncomputable def GP(t:AC)(rules:List ey)(h:AE):Int:=if EO t rules≠0 then EO t rules else(Dl t h).2
theorem oJ{e v:Int}(h:nz e=Y v):v≠0:=by grind[nz]
variable{a b v:Int}
def ul{c:Int->Int}(h:fst (λi=>nz (c i)) a b=Y v):v≠0:=by grind[Cd,oJ]
def o9(hf:A2 t)(hr:FZ rules):OL t rules=Y (EO t rules):=by
 unfold OL EO;rw[R7 hf,bs];refine ET λo=>Qz i9 λu=>?_;rw[Bi (λi=>nz (DZ t (AA rules i))),DD];intro i e i1 _;rw[AD e i1,bs,gG hf (hr.each _ (AG e i1)).1,bs,N7]
def rl(hf:A2 t)(hr:FZ rules)(h:AE):OM t rules h=Y (GP t rules h):=by
 unfold OM GP;rw[o9 hf hr,bs,V3 hf,bs];exact ET λ_=>rfl
def rU(hf:A2 t)(hr:FZ rules)(h:AE):Fd t rules h=Y (GP t rules h):=by
 unfold Fd GP EO;rw[O6 hf,bs];by_cases o:¬(BD t).2=0
 .grind
 have o:=K'.1 o;rw[ae o2,ae (show¬(BD t).2≠0 by simp[o])];by_cases y:10<rules.length
 .grind
 rw [ae an,ae y,Bi (λi=>nz (DZ t (AA rules i))),Dj]
 .cases e:fst (λi=>nz (DZ t (AA rules i))) 0 (rules.length:Int)with
  |none=>
   grind [Vw]
  |some v=>
   have:=ul e
   grind
 .intro i u i1 _;rw[AD u i1,bs,fh hf (hr.each _ (AG u i1)).1,bs,N7]
noncomputable def EP(t:AC)(rules:List ey)(h0:AE)(ms:List GB):List AT×AE:=
 ms.foldl (λs m=>(s.1++[(FV t rules s.2 m).1],(FV t rules s.2 m).1.gp)) ([],h0)
noncomputable def Q0(t:AC)(rules:List ey)(h0:AE)(ms:List GB)(i:Int):Int:=(FV t rules (EP t rules h0 (ms.take i.toNat)).2 (AA ms i)).2
theorem Ov(t:AC)(rules:List ey)(e:AE)(o:List GB)(m:GB):EP t rules e (o++[m])=((EP t rules e o).1++[(FV t rules (EP t rules e o).2 m).1],(FV t rules (EP t rules e o).2 m).1.gp):=by
 unfold EP
 grind
def Tz(t:AC)(rules:List ey)(o:AE)(e:List GB):(EP t rules o e).1.length=e.length:=by
 refine Xw (P:=λe=>(EP t rules o e).1.length=e.length) rfl (λe m u=>?_) e
 grind [Ov,b6]
variable{i:Int}
theorem Ki{α:Type}[Inhabited α]{l m:List α}(e:0<=i)(o:i<l.length):AA (l++m) i=AA l i:=by grind[Ox]
theorem nC{α:Type}[Inhabited α](l:List α)(a:α):AA (l++[a]) l.length=a:=by
 rw [Ox,ae V,I?,Nat.sub_self];rfl
def zA(t:AC)(rules:List ey)(o:AE)(e:List GB):∀i:Int,0<=i->i<e.length->AA (EP t rules o e).1 i=(FV t rules (EP t rules o (e.take i.toNat)).2 (AA e i)).1:=by
 refine Xw (P:=λe=>∀i:Int,0<=i->i<e.length->AA (EP t rules o e).1 i=(FV t rules (EP t rules o (e.take i.toNat)).2 (AA e i)).1) (λi u i1=>h_) (λe m y i u i1=>?_) e;rw[Ov];have z:=Tz t rules o e;rw[b6,C_]at i1
 grind [Ki,nC,I?,H?]
def qZ{e:AE}{a b:List GB}(o:0<=i)(i1:i<a.length):Q0 t rules e (a++b) i=Q0 t rules e a i:=by grind[Q0,Ki]
noncomputable def Sh(t:AC)(rules:List ey)(d:B4):List AT×Int×Int:=
 if GP t rules d.j4≠0 then([],0,GP t rules d.j4)else if 30<d.kl.length then([],0,3)else
 match fst (λi=>(nz (Q0 t rules d.j4 d.kl i)).map λe=>([],i,e)) 0 d.kl.length with
 |some r=>r|none=>((EP t rules d.j4 d.kl).1,(d.kl.length:Int),0)
variable{d:B4}
def r8(hd:d.kl.length<=1000){f:AE->GB->Option (AT×Int)}(hf:∀h m,f h m=Y (FV t rules h m)):
  ej (hV (ρ:=(List AT×Int×Int)) (λ(u:Int)(y:List AT×AE)=>
  (idx d.kl u).bind λz=>
  (f y.2 z).bind λo=>
  if (!decide (o.2=0))=X then
  Y (.ret ([],u,o.2))
  else
  (AY y.1 [o.1]).bind λD=>
  Y (.next (D,o.1.gp))) 0 (d.kl.length:Int) ([],d.j4)) (λy=>
  Y (y.1,(y.1.length:Int),(0:Int))) (λE=>Y E)=Y (match fst (λi=>(nz (Q0 t rules d.j4 d.kl i)).map λe=>([],i,e)) 0 d.kl.length with
   |some r=>r|none=>((EP t rules d.j4 d.kl).1,(d.kl.length:Int),0)):=by
 rw [El (a:=0) (s:=(([],d.j4):List AT×AE)) (λi=>EP t rules d.j4 (d.kl.take i.toNat)) (λi=>(nz (Q0 t rules d.j4 d.kl i)).map λe=>([],i,e)) U rfl]
 .cases fst (λi=>(nz (Q0 t rules d.j4 d.kl i)).map λe=>(([],i,e):List AT×Int×Int)) 0 (d.kl.length:Int)with
  |some r=>rfl|none=>
   show Y _=Y _;rw[I?,C!,Tz]
 .intro i u i1 _;have F:=Tz t rules d.j4 (d.kl.take i.toNat);rw[AD u i1,bs,hf,bs];show(if(!decide (Q0 t rules d.j4 d.kl i=0))=X then _ else _)=_;by_cases e:Q0 t rules d.j4 d.kl i=0
  .rw[ae d_,AP (by rw[F,bk];simp;unfold AX;omega),bs,Ba u i1,Ov,G9.2 e];rfl
  .rw[ac d_];unfold nz;rw[ae e];rfl
def fe(hf:A2 t)(hr:FZ rules)(d:B4):EF t rules d=Y (Sh t rules d):=by
 unfold EF Sh;rw[rU hf hr,bs];refine D1 λe=>Qz i9 λo=>?_;exact r8 U (yM hf hr)
structure PD(t:AC)(rules:List ey)(d:B4):Prop where
 given:GP t rules d.j4=0
 few:d.kl.length<=30
 moves:∀i:Int,0<=i->i<d.kl.length->Q0 t rules d.j4 d.kl i=0
def ZD:(Sh t rules d).2.2=0↔PD t rules d:=by
 unfold Sh;constructor
 .intro h;split at h
  .grind
  rename_i o;split at h
  .cases h
  rename_i u;split at h
  .grind[Cd,nz,Q0,oJ]
  .rename_i e;rw[A8]at e;refine⟨K'.1 o,U,λi y i1=>?_⟩
   grind [Oq,G9]
 .rintro⟨o,u,z⟩
  grind [A8,G9]
def pC(h:PD t rules d):Sh t rules d=((EP t rules d.j4 d.kl).1,(d.kl.length:Int),0):=by
 unfold Sh;rw[ae (by simp[h.given]),ae (by have:=h.few;omega),A8.2 λi e i1=>by rw[G9.2 (h.moves i e i1)];rfl]
structure LJ(h:AE)(s:AT):Prop where
 wi:s.n8.dl.length=h.d3.dl.length
 x9:s.n8.dr.length=h.d3.dr.length
 node:∀x∈s.n8.dl,-1<=x/\x<s.gp.d3.dl.length
 edge:∀x∈s.n8.dr,-1<=x/\x<s.gp.d3.dr.length
 sm:Dd s.gp
variable{L:Bj}
def fm{x:AE}(h:(KE t x L).2=0):KE t x L=(⟨x.d3,L.foldl Ch x.ec⟩,0)/\L.any (Nx t x)=T:=by
 unfold KE at h|-
 grind
structure Qy(t:AC)(r:ey)(h:AE)(m:AQ):Prop where
 f:IW t r h m
 sat:Ou t r.f0 r.d5 h m r.ij=(X,0)
 solve:Gu t r.f0 h m.d4=(m.em,0)
 chk:Gp t r.f0.d3 h.d3 m.d4 r.ij=0
 put:(KE t (C1 t r (CQ h (dS r h m)) (cS r h m)) (CR r (cS r h m) m.em)).2=0
 few:(C1 t r (CQ h (dS r h m)) (cS r h m)).d3.dl.length<=40/\(C1 t r (CQ h (dS r h m)) (cS r h m)).d3.dr.length<=80
def PH(t:AC)(r:ey)(h:AE)(m:AQ):AE:=⟨(C1 t r (CQ h (dS r h m)) (cS r h m)).d3,(CR r (cS r h m) m.em).foldl Ch (C1 t r (CQ h (dS r h m)) (cS r h m)).ec⟩
def TI(t:AC)(r:ey)(h:AE)(m:AQ):AT:=AT.mk r m h (PH t r h m) (Gr h (dS r h m)) (cS r h m)
variable{r:ey}{h:AE}
def UB(hf:A2 t)(fr:Is r)(K:D3 r.d5<=40){m:AQ}(e:(Ea t r h m).2=0):Qy t r h m/\Ea t r h m=(TI t r h m,0):=by
 unfold Ea at e|-;split at e
 next u=>exact absurd e u
 rename_i u;rw[ae u];split at e
 next y=>exact absurd e y
 rename_i y;rw[ae y];split at e
 .cases e
 rename_i G;rw[ae G];split at e
 next z=>exact absurd e z
 rename_i z;rw[ae z];split at e
 .cases e
 rename_i H;rw[ae H];split at e
 next E=>exact absurd e E
 rename_i E;rw[ae E];split at e
 next F=>exact absurd e F
 rename_i F;rw[ae F];split at e
 .cases e
 rename_i I;rw[ae I];have u:=K'.1 u;have y:=K'.1 y;have G:=K'.1 G;have z:=K'.1 z;have H:=K'.1 H;have E:=K'.1 E;have F:=K'.1 F;obtain⟨_,_,_,ha⟩:=YL hf K (ZU u y G z H);have s:IW t r h m:=⟨hf,fr,u,y,ha,(ZW E).1⟩;unfold cx at e|-;split at e
 next D=>exact absurd e D
 rename_i D;rw[ae D];have D:=K'.1 D;obtain⟨J,N⟩:=fm D;split at e
 .cases e
 rename_i o;rw[ae o];rw[J]at o;refine⟨⟨s,?_,?_,G,D,?_⟩,?_⟩
 .exact Prod.ext s_ F
 .exact Prod.ext H z
 .simp[not_or]at o;exact o
 .rw[J];rfl
def Qy.trk{m:AQ}(s:Qy t r h m):LJ h (TI t r h m):=by
 have hr:=s.f.rem;have o:=s.f.put;have G:((C1 t r (CQ h (dS r h m)) (cS r h m)).d3.dl.length)=(dS r h m).dl.length+(E5 r).length:=by
  show (H! (_++_))=_;rw[b6,c9];show((dS r h m).dl.map _).length+_=_;rw[c9];rfl
 have he:((C1 t r (CQ h (dS r h m)) (cS r h m)).d3.dr.length)=(dS r h m).dr.length+(LR r).length:=by
  show (H! (_++_))=_;rw[b6,c9];show((dS r h m).dr.map _).length+_=_;rw[c9];rfl
 have z:NI (PH t r h m).ec (C1 t r (CQ h (dS r h m)) (cS r h m)).ec:=eR _ _;have E:(PH t r h m).ec.length=(C1 t r (CQ h (dS r h m)) (cS r h m)).d3.dl.length:=by
  have:=congrArg H! z;rw[c9,c9]at this;rw[this,o.AbV]
 refine ⟨LG _ _,LG _ _,λx u=>?_,λx u=>?_,⟨?_,?_,?_,λv hv=>?_⟩⟩
 .obtain⟨i,hi,rfl⟩:=D!.1 u;have:=R4 (dS r h m).dl i;have F:(TI t r h m).gp.d3.dl.length=(C1 t r (CQ h (dS r h m)) (cS r h m)).d3.dl.length:=rfl
  grind
 .obtain⟨i,hi,rfl⟩:=D!.1 u;have:=R4 (dS r h m).dr i;have F:(TI t r h m).gp.d3.dr.length=(C1 t r (CQ h (dS r h m)) (cS r h m)).d3.dr.length:=rfl
  grind
 .have:=s.few.1;show(C1 t r (CQ h (dS r h m)) (cS r h m)).d3.dl.length<=1000;omega
 .have:=s.few.2;show(C1 t r (CQ h (dS r h m)) (cS r h m)).d3.dr.length<=1000;omega
 .have:=s.few.1;show(PH t r h m).ec.length<=1000;omega
 .have D:v.length∈(PH t r h m).ec.map H!:=D!.2 ⟨v,hv,rfl⟩;rw[z,s.f.rows]at D;obtain⟨n,y,e⟩:=D!.1 D;have:=IN o.hf (I! _) (Cw o.hv).par (o.kind n y).2;omega
end Go.Sf.Sc
namespace Go.Sf.Sc
open Go Go.Sf
def CX(l by':Fp):Fp:=l.map λx=>if x<0 then -1 else AA by' x
def CS(m tr:d4):d4:=⟨CX m.dl tr.dl,CX m.dr tr.dr⟩
def Ko(m:d4)(l:List AT):d4:=l.foldl (λm s=>CS m s.n8) m
def Iy(g:d3):d4:=⟨Az g.dl.length,Az g.dr.length⟩
variable{l by':Fp}
def jm(y:l.length<=1000)(h:∀x∈l,-1<=x/\x<by'.length):G5 l by'=Y (CX l by'):=by
 unfold G5 slices_Clone_int;rw[BZ b_,bs,Bo (λi=>(Az l.length).map λj=>if j<i then(if AA l j<0 then -1 else AA by' (AA l j))else AA l j) U]
 .grind[CX,Yn,Cf]
 .conv=>rhs;rw[<-RD l]
  grind [Cf]
 .intro i o i1;have u:=h _ (AG o i1);rw[AD o n!,bs,Ir _ o i1,ae (show¬i<i by omega)];by_cases e:0<=AA l i
  .rw[ac h?,AD e u.2,bs,bs,Hl _ o]
   grind
  grind
variable{i:Int}
theorem JB(n:Nat)(e:0<=i)(i1:i<n):AA (Az n) i=i:=by
 have:=Ir (n:=n) (λx=>x) e i1
 rwa [I_]at this
def bJ{n:Nat}(h:n<=1000):G8 n=Y (Az n):=by
 unfold G8 Gg;rw[ac U,bs,I?,F!,Bo (λi=>(Az n).map λj=>if j<i then j else 0) U]
 .rw[bs];congr 1
  conv=>rhs;rw[<-I_ (Az n)]
  exact Cf λj D u=>ac u
 .refine A' (by simp[Ay]) (λk E F=>?_);have e:(Az n)[k]'(by simpa[Ay]using E)=(k:Int):=by simp[Az]
  simp only[F?,G_,e];rw[ae U]
 .intro i y i1;rw[AD y n!,bs,Hl _ y];congr 1;refine Cf λj D u=>?_;by_cases o:j=i
  .rw[ac o,ac U,o]
  .rw[ae o];by_cases z:j<i
   .rw[ac z,ac (show j<i+1 by omega)]
   .rw[ae z,ae (show¬j<i+1 by omega)]
variable{g:d3}
def lv(h:CG g=0):EI g=Y (Iy g):=by
 have e:=DY h;have:=e.ea;have:=e.eb;unfold EI Gb;rw[NZ,bs,ae l_,bJ U,bs,bJ U,bs,bs];rfl
def gA{n:Nat}(h:n<=1000):Ku n=Y (Az n):=by
 unfold Ku;rw[Mk (λ_=>X) id]
 .rw[bs,F_,List.filter_eq_self.2 λ_ _=>rfl]
 .intro i s e i1 o;rw[AP a_,bs,ac rfl];rfl
def yh(h:CG g=0):QL g=Y (Iy g):=by
 have e:=DY h;have:=e.ea;have:=e.eb;unfold QL;rw[gA U,bs,gA U,bs];rfl
structure IB(m:d4)(g:d3):Prop where
 wi:m.dl.length<=1000
 x9:m.dr.length<=1000
 node:∀x∈m.dl,-1<=x/\x<g.dl.length
 edge:∀x∈m.dr,-1<=x/\x<g.dr.length
def ABB(h:CG g=0):IB (Iy g) g:=by
 have o:=DY h;have:=o.ea;have:=o.eb;refine⟨by show(Az _).length<=1000;rw[Ay];omega,by show(Az _).length<=1000;rw[Ay];omega,λx e=>?_,λx e=>?_⟩
 .have:=DA.1 e;omega
 .have:=DA.1 e;omega
def Mg{n:Nat}(o:∀x∈l,-1<=x/\x<by'.length)(hb:∀x∈by',-1<=x/\x<n):∀x∈CX l by',-1<=x/\x<n:=by
 intro x e;obtain⟨y,u,rfl⟩:=D!.1 e
 grind [AG]
variable{m:d4}{h:AE}
def wO{s:AT}(e:IB m h.d3)(o:LJ h s):IB (CS m s.n8) s.gp.d3:=by
 refine ⟨by show(H' _ _).length<=1000;rw[c9];exact e.wi,by show(H' _ _).length<=1000;rw[c9];exact e.x9,?_,?_⟩
 .exact Mg (λx u=>by have:=e.node x u;rw[o.wi];exact this) o.node
 .exact Mg (λx u=>by have:=e.edge x u;rw[o.x9];exact this) o.edge
variable{t:AC}{rules:List ey}
def Tp(hf:A2 t)(hr:FZ rules){m:GB}(e:(FV t rules h m).2=0):
  (0<=m.ey/\m.ey<rules.length)/\Qy t (AA rules m.ey) h m.ll/\FV t rules h m=(TI t (AA rules m.ey) h m.ll,0):=by
 unfold FV at e|-;split at e
 .cases e
 rename_i u;rw[ae u];have o:=hr.each _ (AG (l:=rules) (i:=m.ey) U U);exact⟨U,UB hf o.1 o.2 e⟩
def Tk(hf:A2 t)(e:GP t rules h=0):EO t rules=0/\(Dl t h).2=0/\(BD t).2=0/\It t h:=by grind[GP,O1]
variable{d:B4}
def RA(hf:A2 t)(hr:FZ rules)(h:PD t rules d):∀n:Nat,n<=d.kl.length ->
  Dd (EP t rules d.j4 (d.kl.take n)).2/\IB (Ko (Iy d.j4.d3) (EP t rules d.j4 (d.kl.take n)).1) (EP t rules d.j4 (d.kl.take n)).2.d3
 |0,_=>by
  obtain ⟨_,y,o,u⟩:=Tk hf h.given;exact⟨Ri hf o u,ABB u.ge⟩
 |n+1,D=>by
  obtain ⟨y,o⟩:=RA hf hr h n U;have he:=h.moves n U U;have e:=Ba (l:=d.kl) (i:=(n:Int)) U U;rw[show((n:Int)+1).toNat=n+1 by omega,I?]at e;unfold Q0 at he;rw[I?]at he;obtain⟨_,s,z⟩:=Tp hf hr he;rw[e,Ov,z];refine⟨s.trk.sm,?_⟩;unfold Ko at o|-;rw[B'];exact wO o s.trk
noncomputable def Nz(t:AC)(rules:List ey)(d:B4):AE×d4×Int:=
 if (Sh t rules d).2.2≠0 then(⟨⟨[],[]⟩,[]⟩,⟨[],[]⟩,(Sh t rules d).2.2)else((EP t rules d.j4 d.kl).2,Ko (Iy d.j4.d3) (EP t rules d.j4 d.kl).1,0)
theorem oQ{x:AE}(h:Dd x):IF x=Y x:=by
 have:=h.ea;have:=h.eb;have:=h.vals;unfold IF slices_Clone_int DG;rw[BZ b_,bs,BZ b_,bs];rw[Bo (λi=>AE.mk x.d3 (x.ec.take i.toNat)) U t_]
 .rw[I?,C!];rfl
 .intro i e i1;have:=h.rows _ (AG e i1)
  grind [AD,BZ,AX,AP,Ba]
def qk(hf:A2 t)(hr:FZ rules)(h:PD t rules d){f:Int->AE×d4->Option (AE×d4)}
  (y:∀(i:Int)(s:AE×d4),0<=i->i<d.kl.length->IB s.2 s.1.d3->LJ s.1 (AA (EP t rules d.j4 d.kl).1 i)->f i s=Y ((AA (EP t rules d.j4 d.kl).1 i).gp,CS s.2 (AA (EP t rules d.j4 d.kl).1 i).n8)):
  kx f 0 ((EP t rules d.j4 d.kl).1.length:Int) (d.j4,Iy d.j4.d3)=Y ((EP t rules d.j4 d.kl).2,Ko (Iy d.j4.d3) (EP t rules d.j4 d.kl).1):=by
 rw [Tz,Bo (λi=>((EP t rules d.j4 (d.kl.take i.toNat)).2,Ko (Iy d.j4.d3) (EP t rules d.j4 (d.kl.take i.toNat)).1)) U t_]
 .rw[I?,C!]
 .intro i e i1;obtain⟨D,z⟩:=RA hf hr h i.toNat U;have he:=h.moves i e i1;unfold Q0 at he;obtain⟨_,s,u⟩:=Tp hf hr he;have o:=zA t rules d.j4 d.kl i e i1;rw[u]at o;rw[y i _ e i1 z (by rw[o];exact s.trk),Ba e i1,Ov,u,o];unfold Ko;rw[B'];rfl
def jo(hf:A2 t)(hr:FZ rules)(d:B4):Eb t rules d=Y (Nz t rules d):=by
 unfold Eb Nz;rw[fe hf hr,bs];refine D1 λy=>?_;have h:=ZD.1 y;obtain⟨_,_,_,hh⟩:=Tk hf h.given;rw[lv hh.ge,bs,pC h];simp;rw[qk hf hr h λi s z i1 e u=>?_]
 .have:=(RA hf hr h d.kl.length (az _)).1
  grind [C!,oQ]
 .rw[AD z (by rw[Tz];exact i1),bs,jm e.wi (λx o=>by rw[u.wi];exact e.node x o),bs,jm e.x9 (λx o=>by rw[u.x9];exact e.edge x o),bs];rfl
structure mw(m:AQ):Prop where
 ea:m.d4.dl.length<=1000
 eb:m.d4.dr.length<=1000
 vars:m.em.length<=1000
structure wd(d:B4):Prop where
 start:Dd d.j4
 len:d.kl.length<=1000
 moves:∀m∈d.kl,mw m.ll
variable{r:ey}
theorem Qy.small{m:AQ}(s:Qy t r h m):mw m:=by
 have o:=s.f.left;have e:=s.f.ro.left;have u:=s.f.at_.len;have y:=s.f.at_.q.vars;have:=e.ea;have:=e.eb;exact⟨U,U,U⟩
theorem PD.small(hf:A2 t)(hr:FZ rules)(h:PD t rules d):wd d:=by
 obtain ⟨_,_,o,u⟩:=Tk hf h.given;refine⟨Ri hf o u,by have:=h.few;omega,λm e=>?_⟩;obtain⟨i,y,i1,rfl⟩:=BP e;have he:=h.moves i y i1;unfold Q0 at he;exact(Tp hf hr he).2.1.small
def uh:(Nz t rules d).2.2=(Sh t rules d).2.2:=by grind[Nz]
def uU{m:GB}(h:PD t rules d)(u:d.kl.length<30)(e:(FV t rules (EP t rules d.j4 d.kl).2 m).2=0):PD t rules ⟨d.j4,d.kl++[m]⟩:=by
 refine ⟨h.given,an,λi o i1=>?_⟩;simp at i1;show Q0 t rules d.j4 (d.kl++[m]) i=0;by_cases hi:i<d.kl.length
 .rw[qZ o hi];exact h.moves i o hi
 grind [Q0,nC,I?,H?]
theorem P8{α:Type}[Inhabited α]{l:List α}(v:α)(e:0<=i)(o:i<l.length):AA (BE l i v) i=v:=by grind[AA,BE]
variable{j:Int}
theorem Tc{α:Type}[Inhabited α]{l:List α}(v:α)(e:0<=i)(o:0<=j)(h:j≠i):AA (BE l i v) j=AA l j:=by grind[AA,BE]
end Go.Sf.Sc
namespace Go.Sf.Sc
open Go Go.Sf
end Go.Sf.Sc
namespace Go.Sf.Sc
open Go Go.Sf
end Go.Sf.Sc
namespace Go.Sf.Sc
open Go Go.Sf
def zX{ρ:Type}{f:Int×Int->Option (B2 (Int×Int) ρ)}(I:Int->Int->Prop)(b:Int){s a:Int}(y:I a s)
  (step:∀i s,a<=i->I i s->(i<b/\∃s',f (s,i)=Y (.next (s',i+1))/\I (i+1) s')\/f (s,i)=Y (.brk (s,i))):∃i s',a<=i/\I i s'/\DC f (s,a)=Y (.inl (s',i)):=by
 have key:∀(n:Nat)(i s:Int),a<=i->I i s->b-i<=n->∃j s',i<=j/\I j s'/\Mc f (s,i) (.inl (s',j)):=by
  intro n
  induction n with
  |zero=>
   intro i s hi e hb;rcases step i s hi e with⟨h,_⟩|h
   .omega
   .exact⟨i,s,I! _,e,.brk h⟩
  |succ n F=>
   intro i s hi e hb;rcases step i s hi e with⟨_,s',o,u⟩|h
   .obtain⟨j,s2,G,z,D⟩:=F (i+1) s' U u U;exact⟨j,s2,U,z,.next o D⟩
   .exact⟨i,s,I! _,e,.brk h⟩
 obtain ⟨j,s',o,u,E⟩:=key (b-a).toNat a s (I! _) y U;exact⟨j,s',o,u,E.eq⟩
def br{ρ:Type}{q w k:Int}(c:Int)(I:q<=1000)(z:0<=k)(u:k<=1000)(y:1<=c/\c<=80)(D:1<=w/\w<=400000):∃w' E,(1<=w'/\w'<=400000)/\DC (ρ:=ρ) (λ(o:Int×Int)=>
  if ((decide (o.2<q))&&(decide (o.1<=5000)))=X then
  Y (.next (AJ (o.1*c),AJ (o.2+1)))
  else
  Y (.brk (o.1,o.2))) (w,k)=Y (.inl (w',E)):=by
 obtain ⟨i,s',N,G,H⟩:=zX (ρ:=ρ) (f:=λ(o:Int×Int)=>
  if ((decide (o.2<q))&&(decide (o.1<=5000)))=X then
  Y (.next (AJ (o.1*c),AJ (o.2+1)))
  else
  Y (.brk (o.1,o.2))) (λi s=>(1<=s/\s<=400000)/\0<=i/\i<=1000) q (s:=w) (a:=k) ⟨D,z,u⟩ (λi s hi F=>by
   by_cases e:i<q/\s<=5000
   .left;have J:1*1<=s*c:=K_ F.1.1 y.1 U U;have K:s*c<=5000*80:=K_ e.2 y.2 U U
    grind [AU]
   grind)
 exact ⟨s',i,G.1,H⟩
def kE:∀(N:Nat)(c:d5)(p:d6)(w:Int),SizeOf.sizeOf c<=N->EQ c->P4 p->D3 c<=1000->1<=w->w<=5000->∃b,∀n,N<=n->Dt n p c w=Y b
 |0,c,_,_,h,_,_,_,_,_=>by have:=D5 c;omega|N+1,c,p,w,h,ζ,S,hk,w0,w1=>by
  have key:∀q:d6,P4 q->∃b,∀n,N<=n->ej (DC (ρ:=Bool) (λ(o:Int×Int)=>
    if ((decide (o.2<(q.d3.dl.length:Int)))&&(decide (o.1<=5000)))=X then
    Y (.next (AJ (o.1*40),AJ (o.2+1)))
    else
    Y (.brk (o.1,o.2))) (w,(p.d3.dl.length:Int))) (λo=>
    ej (DC (ρ:=Bool) (λ(s2:Int×Int)=>
    if ((decide (s2.2<(q.d3.dr.length:Int)))&&(decide (s2.1<=5000)))=X then
    Y (.next (AJ (s2.1*80),AJ (s2.2+1)))
    else
    Y (.brk (s2.1,s2.2))) (o.1,(p.d3.dr.length:Int))) (λs2=>
    ej (DC (ρ:=Bool) (λ(y:Int)=>
    if ((decide (y<(c.fl.length:Int)))&&(decide (s2.1<=5000)))=X then
    (idx c.fl y).bind λE=>
    (Dt n q E s2.1).bind λF=>
    if (!F)=X then
    Y (.ret T)
    else
    Y (.next (AJ (y+1)))
    else
    Y (.brk y)) 0) (λy=>
    Y (decide (s2.1<=5000))) (λδ=>Y δ)) (λZ=>Y Z)) (λv0=>Y v0)=Y b:=by
   intro q z;have q1:=z.ea;have q2:=z.eb;have p1:=S.ea;have p2:=S.eb;obtain⟨a,k,ha,η⟩:=br (ρ:=Bool) (q:=q.d3.dl.length) (w:=w) (k:=p.d3.dl.length) 40 U U U U U;obtain⟨a',k',O,D⟩:=br (ρ:=Bool) (q:=q.d3.dr.length) (w:=a) (k:=p.d3.dr.length) 80 U U U U ha;have hkl:c.fl.length<=1000:=by have:=VS c.fl;have:=VT c;omega
   by_cases K:a'<=5000
   .have kids:∀x∈c.fl,∃b,∀n,N<=n->Dt n q x a'=Y b:=λx G=>by
     have H:=Eg G;have I:=XQ G;have h3:=VT c;exact kE N x q a' U (ζ.k x G) z U O.1 K
    have u:∀i:Int,∃b:Bool,0<=i->i<c.fl.length->∀n,N<=n->Dt n q (AA c.fl i) a'=Y b:=λi=>by
     by_cases e:0<=i/\i<c.fl.length
     .obtain⟨b,hb⟩:=kids _ (AG e.1 e.2);exact⟨b,λ_ _=>hb⟩
     .exact⟨X,λH I=>absurd ⟨H,I⟩ e⟩
    obtain ⟨g,hg⟩:=Classical.axiomOfChoice u;refine⟨(fst (λi=>if g i=X then W else Y (Sum.inr T:Int ⊕ Bool)) 0 c.fl.length).isNone,λn J=>?_⟩;rw[η,B8];simp only[];rw[D,B8];simp only[];rw[QR (λi=>if g i=X then W else Y (.inr T)) (b:=c.fl.length) U]
    .cases e:fst (λi=>if g i=X then W else Y (Sum.inr T:Int ⊕ Bool)) 0 (c.fl.length:Int)with
     |none=>
      show Y (decide (a'<=5000))=Y X;rw[decide_eq_true K]
     |some r=>
      obtain ⟨i,_,_,P,_⟩:=Cd e;split at P
      .cases P
      .cases P;rfl
    .intro i ε i1 _;rw[ac an,AD ε i1,bs,hg i ε i1 n J,bs,AU U U];cases g i<;>rfl
    .rw[ae V]
   .refine⟨T,λn J=>?_⟩;rw[η,B8];simp only[];rw[D,B8];simp only[];rw[QR (λ_=>W) (b:=0) U (λi H I _=>U) (by rw[ae an])];rw[nj U];show Y _=Y _;rw[decide_eq_false K]
  have z:P4 (if c.kg=5 then c.d6 else p):=by split;exact ζ.q;exact S
  obtain ⟨b,hb⟩:=key _ z;refine⟨b,λn J=>?_⟩;obtain⟨n,rfl⟩:∃k,n=k+1:=⟨n-1,U⟩;rw[Dt,show(if decide (c.kg=5)=X then Y c.d6 else Y p)=Y (if c.kg=5 then c.d6 else p)by by_cases e:c.kg=5<;>simp[e],bs];exact hb n U
end Go.Sf.Sc
namespace Go.Sf.Sc
open Go Go.Sf
variable{r:ey}
def gU(e:(CH r).Sm):(AI r.d5).Sm:=by
 have o:TV.Sms [_,_,_,_,_,_,_,_,_,_,_,_,_,_,_,_,_,_,_,_,_,_,_,_,_]:=e;obtain⟨_,_,_,_,_,_,_,_,_,_,_,H,I,i1,i2,_,u,y,c3,z,c5,D,E,F,G,_⟩:=o;exact⟨u,y,c3,z,c5,D,E,F,G,trivial⟩
variable{t:AC}
def jZ(hf:A2 t)(st:(AL t).Sm)(e:(CH r).Sm)(h:AE):∃b,HV t r h=Y b/\(b=X->Is r/\D3 r.d5<=40):=by
 obtain ⟨o,u,_⟩:=Sx st;obtain⟨y,z,D⟩:=qf e;obtain⟨E,F,G⟩:=oy hf st r.f0 (gU e) h;unfold HV
 grind
variable{rules:List ey}
def u0(st:(AL t).Sm)(ζ:∀r∈rules,(CH r).Sm)(h:AE):∃b,Ik t rules h=Y b/\(b=X->A2 t/\FZ rules):=by
 obtain ⟨b1,e1,f1⟩:=Sx st;obtain⟨b2,e2⟩:=eF h;unfold Ik;by_cases S:(((decide (4<(rules.length:Int)))&&(decide ((rules.length:Int)<=10)))||(decide (12<(rules.length:Int))))=X
 .rw[ac S,bs,ac rfl,bs,ac rfl];exact⟨T,rfl,λh=>c!⟩
 rw [ae S,e1,bs,bs];cases b1 with
 |false=>exact⟨T,rfl,λh=>c!⟩
 |true=>
 rw [ae a!,e2,bs,bs];cases b2 with
 |false=>exact⟨T,rfl,λh=>c!⟩
 |true=>
 rw [ae a!];have hf:=f1 rfl;have hl:rules.length<=12:=by
  simp only[M!,mo,qo,not_or]at S;omega
 rcases XZ (f:=λ(o:Int)(δ:Bool)=>
  (idx rules o).bind λy=>
  (HV t y h).bind λz=>
  if (!z)=X then
  Y (.ret T)
  else
  (if δ=X then((idx rules o).bind λD=>
  Y (decide ((D.f0.d3.dl.length:Int)<=3)))else Y T).bind λE=>
  (if E=X then((idx rules o).bind λF=>
  Y (decide ((F.f0.d3.dr.length:Int)<=2)))else Y T).bind λG=>
  (if G=X then((idx rules o).bind λH=>
  Y (decide ((H.eh.d3.dl.length:Int)<=5)))else Y T).bind λI=>
  (if I=X then((idx rules o).bind λJ=>
  (idx rules o).bind λK=>
  (Oa J.f0 K.d5 1).bind λN=>
  Y (N))else Y T).bind λO=>
  Y (.next O)) (λi _=>∀j:Int,0<=j->j<i->Is (AA rules j)/\D3 (AA rules j).d5<=40) (λ_=>False) (λr=>r=T) (a:=0) (b:=rules.length) (s:=X) U (λj h1 h2=>U) (λi s o i1 P=>by
   have hm:=AG o i1;obtain⟨b3,u,f3⟩:=jZ hf st (ζ _ hm) h;simp only[AD o i1,bs];rw[u,bs];cases b3 with
   |false=>exact .inr (.inr ⟨T,rfl,rfl⟩)|true=>
    obtain ⟨ε,k2⟩:=f3 rfl;obtain⟨η,e4⟩:=kE _ (AA rules i).d5 (AA rules i).f0 1 (az _) ε.cond ε.left U a! a!;have e5:Oa (AA rules i).f0 (AA rules i).d5 1=Y η:=Dp _ e4;left;refine⟨(((s&&decide (((AA rules i).f0.d3.dl.length:Int)<=3))&&decide (((AA rules i).f0.d3.dr.length:Int)<=2))&&decide (((AA rules i).eh.d3.dl.length:Int)<=5))&&η,?_,λj Z j1=>?_⟩
    .rw[ae a!,e5];cases s<;>cases decide (((AA rules i).f0.d3.dl.length:Int)<=3)<;>cases decide (((AA rules i).f0.d3.dr.length:Int)<=2)<;>cases decide (((AA rules i).eh.d3.dl.length:Int)<=5)<;>rfl
    .by_cases e:j=i
     .rw[e];exact⟨ε,k2⟩
     .exact P j Z U)with⟨s',u,h3⟩|⟨r,u,h3⟩
 .rw[u,B8];have P:=h3.resolve_right id;have hr:FZ rules:=⟨hl,λr hr=>by
   obtain ⟨i,o,i1,rfl⟩:=BP hr;exact P i o i1⟩
  rw [rl hf hr,bs];exact⟨_,rfl,λ_=>⟨hf,hr⟩⟩
 .rw[u,WE,h3];exact⟨T,rfl,λh=>c!⟩
variable{h:AE}
def nR:∃b,Ie h=Y b/\(b=X->Dd h):=by
 unfold Ie Ju;rw[bs];by_cases o:((!((decide ((h.d3.dl.length:Int)<=45))&&(decide ((h.d3.dr.length:Int)<=90))))||(decide (45<(h.ec.length:Int))))=X
 .rw[ac o];exact⟨T,rfl,λh=>c!⟩
 rw [ae o,Bq (λi=>decide (12<((AA h.ec i).length:Int))) T]
 .cases e:kp (λi=>decide (12<((AA h.ec i).length:Int))) 0 h.ec.length with
  |true=>exact⟨T,rfl,λh=>c!⟩
  |false=>
   refine ⟨X,rfl,λ_=>?_⟩;rw[B5]at e;simp only[M!,K?,Bool.and_eq_false_iff,decide_eq_false_iff_not,qo,not_or]at o;refine⟨U,U,U,λv hv=>?_⟩
   grind [BP]
 .intro i u i1 _;rw[AD u i1,bs,JL]
end Go.Sf.Sc
namespace Go.Sf.Sc
open Go Go.Sf
end Go.Sf.Sc
namespace Go.Sf.Sc
open Go Go.Sf
def Z1(x:Int):Prop:=-9223372036854775808<=x/\x<=9223372036854775807
structure WR(h:AE):Prop where
 s:Dd h
 w:∀v∈h.ec,∀x∈v,Z1 x
def rP(l m:List Fp):DR l m slices_Equal_int=Y (decide (l=m)):=by
 unfold DR;simp only[Ka,bs];exact R3 l m
def Tt(a b:AE):Gf a b=Y (decide (a=b)):=by
 unfold Gf;rw[Ka,bs,fo,bs,rP,bs];obtain⟨⟨n,e⟩,v⟩:=a;obtain⟨⟨z,D⟩,E⟩:=b;by_cases o:n=z<;>by_cases u:e=D<;>by_cases y:v=E<;>simp[o,u,y]
def oZ(a b:d6):HF a b=Y (decide (a=b)):=by
 unfold HF Rh;simp only[Ka,fo,oe,oh,bs];obtain⟨⟨n,e⟩,s,v,t⟩:=a;obtain⟨⟨E,F⟩,s',G,H⟩:=b;by_cases o:n=E<;>by_cases u:e=F<;>by_cases y:s=s'<;>by_cases z:v=G<;>by_cases D:t=H<;>simp[o,u,y,z,D]
noncomputable def jL(a b:ey):Bool:=@decide (a=b) (K! _)
noncomputable def jK(a b:AT):Bool:=@decide (a=b) (K! _)
def jM{a b:ey}:jL a b=X↔a=b:=by unfold jL;exact@decide_eq_true_iff _ (K! _)
def WT{a b:AT}:jK a b=X↔a=b:=by unfold jK;exact@decide_eq_true_iff _ (K! _)
def v8(a b:ey):jL a b=(decide (a.kh=b.kh)&&decide (a.ij=b.ij)&&decide (a.f0=b.f0)&&decide (a.eh=b.eh)&&decide (a.mR=b.mR)&&decide (a.l4=b.l4)&&Wy a.d5 b.d5):=by
 rw [M',jM];simp only[mo,qo,ZY];obtain⟨n,l,r,k,i,j,c⟩:=a;obtain⟨e,o,u,y,z,D,c'⟩:=b;simp only[ey.mk.injEq]
 grind
def wK(a b:AT):jK a b=(jL a.ey b.ey&&decide (a.ll=b.ll)&&decide (a.gx=b.gx)&&decide (a.gp=b.gp)&&decide (a.n8=b.n8)&&decide (a.sr=b.sr)):=by
 rw [M',WT];simp only[mo,qo,jM];obtain⟨r,m,u,y,t,c⟩:=a;obtain⟨z,m',e,o,D,c'⟩:=b;simp only[AT.mk.injEq]
 grind
def dg{b c:Bool}{o:K1}(h:o=Y c):(if b=X then o else Y T)=Y (b&&c):=by
 subst h;cases b<;>rfl
def vV(a b:ey):M6 a b=Y (jL a b):=by
 unfold M6;simp only[oZ,Ka,Wh,vU,bs];rw[v8];obtain⟨n,l,r,⟨H,I⟩,i,j,c⟩:=a;obtain⟨J,K,N,⟨e,o⟩,O,P,c'⟩:=b;simp only[];by_cases u:n=J<;>by_cases y:j=P<;>by_cases z:l=K<;>by_cases D:r=N<;>simp[u,y,z,D];by_cases E:H=e<;>by_cases F:I=o<;>by_cases G:i=O<;>simp[E,F,G]
def rX(a b:AQ):K5 a b=Y (decide (a=b)):=by
 unfold K5;simp only[Wh,Ka,bs];obtain⟨m,v⟩:=a;obtain⟨m',u⟩:=b;by_cases e:m=m'<;>by_cases o:v=u<;>simp[e,o]
def vW(a b:AT):NC a b=Y (jK a b):=by
 unfold NC;simp only[vV,rX,Tt,Wh,bs,wK];cases jL a.ey b.ey<;>by_cases e:a.ll=b.ll<;>by_cases o:a.gx=b.gx<;>by_cases u:a.gp=b.gp<;>by_cases y:a.n8=b.n8<;>simp[e,o,u,y]
structure ze(s:AT):Prop where
 b:WR s.gx
 a:WR s.gp
variable{κ:List Fp}
def aP(h:∀v∈κ,∀x∈v,Z1 x):∀{L:Bj},(∀p∈L,Z1 p.2)->∀{κ:List Fp},(∀v∈κ,∀x∈v,Z1 x)->∀v∈L.foldl Ch κ,∀x∈v,Z1 x
 |[],_,_,k=>k|p::L,o,κ,k=>by
  rw [B_];refine aP h (L:=L) (λq u=>o q (E' _ u)) ?_;unfold Ch;split
  .intro v hv x e;obtain⟨n,y,rfl⟩:=List.mem_iff_getElem.1 hv;rw[List.getElem_modify]at e;split at e
   .rcases z? e with e|rfl
    .exact k _ (I' _) _ e
    .exact o p (G? ..)
   .exact k _ (I' _) _ e
  .exact k
variable{t:AC}{h:AE}
def p9(hf:A2 t)(e:(Dl t h).2=0):WR h:=by
 obtain ⟨hv,hh⟩:=O1 hf e;refine⟨Ri hf hv hh,λv o x u=>?_⟩;obtain⟨i,y,i1,rfl⟩:=BP o;have:=hh.low i y (by have:=hh.len;omega) x u;unfold Z1;omega
variable{r:ey}
def qA{m:AQ}(s:Qy t r h m):ze (TI t r h m):=by
 have hh:=s.f.hh;have z:=p9 s.f.hf s.f.he;have D:=s.f.put;have hT:=Cw s.f.hv;refine⟨z,s.trk.sm,?_⟩;have hb:=(fm s.put).2;refine aP (κ:=[]) V (λp e=>?_) ?_
 .obtain⟨sl,F,rfl⟩:=D!.1 e;have k:=D.slot sl F;rw[y!]at hb;have o:=hb _ e;unfold Nx at o;have E:=D.kind _ (AG k.2.2.1.1 k.2.2.1.2);have G:=Ra s.f.hf hT E.1 E.2 _ (AG k.2.2.2.1 k.2.2.2.2);simp only[M!,qo,not_or]at o;unfold Z1;unfold Rw at o|-;dsimp only at o|-;omega
 .intro v hv x y;unfold C1 Ot at hv;rcases x!.1 hv with hv|hv
  .unfold CQ at hv;obtain⟨i,hi,rfl⟩:=D!.1 hv;have:=s.f.rem.ea.1 i hi;exact z.w _ (AG this.1 (by have:=hh.len;omega)) x y
  .obtain⟨i,hi,rfl⟩:=D!.1 hv;unfold Vm at y;obtain⟨a,ha,rfl⟩:=D!.1 y;have u:=F3 hi;have k:=s.f.grow.kind _ (AG (l:=r.eh.d3.dl) u.1 u.2);have H:=Ra s.f.hf hT k.1 k.2 a ha;have o:=VO s.f.hf hT k.1 k.2 a ha;unfold Z1;omega
end Go.Sf.Sc
namespace Go.Sf.Sc
open Go Go.Sf
def dY{q:P5}:∀(n:Nat)(f:AM),f.eb.length+n=f.p.dr.length->(∀i:Int,0<=i->i<f.p.dr.length->PL.at_ f.fu.dr i=PL.at_ q.dr i)->ER n f=ER n {f with fu:=q}
 |0,_,_,_=>rfl|n+1,f,o,h=>by
  rw [ER,ER];refine congrArg (λF=>(Az f.g.dr.length).flatMap F) (funext λk=>?_);have e:SV f k=SV {f with fu:=q} k:=by
   grind [SV,Ll]
  rw [e,dY n {f with eb:=f.eb++[k]} an h]
def dc{q:P5}:∀(n:Nat)(f:AM),f.ea.length+n=f.p.dl.length->f.eb=[]->(∀i:Int,0<=i->i<f.p.dl.length->PL.at_ f.fu.dl i=PL.at_ q.dl i)->(∀i:Int,0<=i->i<f.p.dr.length->PL.at_ f.fu.dr i=PL.at_ q.dr i)->Fa n f=Fa n {f with fu:=q}
 |0,f,_,he,_,h=>dY f.p.dr.length f (by rw[he];simp) h|n+1,f,u,he,o,h=>by
  rw [Fa,Fa];refine congrArg (λF=>(Az f.g.dl.length).flatMap F) (funext λk=>?_);have e:SW f k=SW {f with fu:=q} k:=by
   grind [SW]
  rw [e,dc n {f with ea:=f.ea++[k]} an he o h]
variable{i v:Int}
def nD{n:Nat}(e:0<=i)(o:i<n):AA (A_ n v) i=v:=by
 unfold AA
 grind
def F0(t:AC)(p g:d3)(inj:Bool):AM:=⟨p,g,KQ t,P5.mk W W,inj,5001,[],[],[]⟩
variable{t:AC}
def qL{p g:d3}{inj:Bool}:Fa p.dl.length (F0 t p g inj)=Fa p.dl.length (FF t p g (NY p) inj):=
 dc (q:=P5.of (NY p)) p.dl.length (F0 t p g inj) r_ rfl (λi e i1=>(nD e i1).symm) (λi e i1=>(nD e i1).symm)
theorem rR{p g:d3}{inj:Bool}(y:A2 t)(hv:(BD t).2=0)(u:Nu (FF t p g (NY p) inj)):GV t p g ⟨W,W⟩ inj 5001=Y (Jl t p g (NY p) inj):=by
 unfold GV;rw[l5 y (Cw hv) hv,bs];have o:Nu (F0 t p g inj):=⟨trivial,trivial,u.ends,u.kinds,u.small⟩;have h:=oU (f:=F0 t p g inj) o ⟨by show(0:Int)<=5001;omega,by show(5001:Int)<=10000;omega,by show((0:Nat):Int)<=5001;omega⟩ rfl rfl;rw[dZ _ _ o rfl,show(F0 t p g inj).p.dl.length=p.dl.length from rfl,qL]at h;have e:AM.mk p g (KQ t) ⟨W,W⟩ inj 5001 [] [] []=F0 t p g inj:=rfl;rw[e,h];rfl
def MN(t:AC)(p g:d3)(inj:Bool):List d4×Int:=
 if Ew t p g≠0 then([],Ew t p g)else if 5000<(Jl t p g (NY p) inj).length then([],3)else(Jl t p g (NY p) inj,0)
theorem yB(hf:A2 t)(p g:d3)(inj:Bool):Lk t p g inj=Y (MN t p g inj):=by
 unfold Lk MN;rw[Wi hf,bs];refine D1 λe=>?_
 grind [XU,NY,J1,rR,bs,Jl]
theorem yU(hf:A2 t)(p g:d3)(inj:Bool):M0 t p g inj=Y (MN t p g inj):=by
 unfold M0 MN;rw[Up hf,bs];refine D1 λe=>?_;obtain⟨hv,u⟩:=XU (inj:=inj) (pa:=NY p) e (by simp[NY]) (by simp[NY]);have o:=(On e).2.1;have:=o.ea;have:=o.eb
 grind [rq,bs,uD,Jl,NY]
end Go.Sf.Sc
namespace Go.Sf.Sc
open Go Go.Sf
def ax{α:Type}[Inhabited α]{x:List α}{p:α->Bool}{f:Int->List α->Option (List α)}(y:x.length<=5000)
  (hf:∀(i:Int)(s:List α),0<=i->i<x.length->s.length<=5000->f i s=Y (if p (AA x i)=X then s++[AA x i]else s)):
  kx f 0 (x.length:Int) []=Y (x.filter p):=by
 rw [Bo (a:=0) (b:=x.length) (s:=[]) (λi=>(x.take i.toNat).filter p) U rfl,I?,C!];intro i e i1;have o:((x.take i.toNat).filter p).length<=5000:=n_
 rw [hf i _ e i1 o,Ba e i1,C?];cases u:p (AA x i)<;>simp[u]
def L0(t:AC)(p:d6)(h:AE)(inj:Bool):List AQ×Int:=
 if OX t p h≠0 then([],OX t p h)else if(MN t p.d3 h.d3 inj).2≠0 then([],(MN t p.d3 h.d3 inj).2)else
 (((MN t p.d3 h.d3 inj).1.filter λy=>decide ((GY p h y).2=0)).map λy=>⟨y,(GY p h y).1⟩,0)
variable{t:AC}
theorem de{p g:d3}{inj:Bool}(h:(MN t p g inj).2=0):(MN t p g inj).1.length<=5000/\∀m∈(MN t p g inj).1,Gp t p g m inj=0:=by grind[MN,ni]
def rW(hf:A2 t)(p:d6)(h:AE)(inj:Bool):E1 t p h inj=Y (L0 t p h inj):=by
 unfold E1 L0;rw[bH hf,bs];refine D1 λD=>?_;rw[yB hf,bs];refine D1 λE=>?_;obtain⟨H,I⟩:=de E;rw[Qa (F:=λy=>((GY p h y).1,decide ((GY p h y).2=0))) H,bs];intro i s G i1 o;have u:GL p h (AA (MN t p.d3 h.d3 inj).1 i)=Y (GY p h (AA (MN t p.d3 h.d3 inj).1 i)):=by
  obtain ⟨hv,z,hh,e⟩:=Qu hf D (I _ (AG G i1));exact jv z (λs o=>PA (Cw hv) z hh e o)
 grind [AD,bs,GY,AA,MN,AP,AX]
def rm(hf:A2 t)(p:d6)(h:AE)(inj:Bool):H7 t p h inj=Y (L0 t p h inj):=by
 unfold H7 L0;rw[bS hf,bs];refine D1 λD=>?_;rw[yU hf,bs];refine D1 λE=>?_;obtain⟨H,I⟩:=de E;rw[Qa (F:=λy=>((GY p h y).1,decide ((GY p h y).2=0))) H,bs];intro i s G i1 o;have u:I3 p h (AA (MN t p.d3 h.d3 inj).1 i)=Y (GY p h (AA (MN t p.d3 h.d3 inj).1 i)):=by
  obtain ⟨hv,z,hh,e⟩:=Qu hf D (I _ (AG G i1));exact j9 z (λs o=>PA (Cw hv) z hh e o)
 grind [AD,bs,GY,AA,MN,AP,AX]
variable{p:d6}{h:AE}
theorem Vn{inj:Bool}:(L0 t p h inj).1.length<=5000:=by grind[L0,de,c9,Nat.le_trans,D']
noncomputable def Rg(t:AC)(r:ey)(h:AE):Int:=if DZ t r≠0 then DZ t r else(Dl t h).2
variable{r:ey}
def jp(hf:A2 t)(fr:Is r)(h:AE):IV t r h=Y (Rg t r h):=by
 unfold IV Rg;rw[O6 hf,bs];by_cases hv:¬(BD t).2=0
 .grind[DZ,BD]
 have hv:=K'.1 hv;rw[ae j!,fh hf fr,bs,Vw hf];exact D1 λ_=>rfl
def vh(hf:A2 t)(fr:Is r)(h:AE):Ha t r h=Y (Rg t r h):=by
 unfold Ha Rg;rw[gG hf fr,bs,V3 hf];exact D1 λ_=>rfl
theorem rM(hf:A2 t)(fr:Is r)(o:D3 r.d5<=40)(e:Rg t r h=0)(m:AQ):IU t r h m=Y (Ea t r h m):=by
 have:=Y0 hf fr o h m;unfold FY at this;rw[jp hf fr,bs,ae d_]at this;cases k:IU t r h m with
 |none=>rw[k]at this;cases this
 |some x=>rw[k]at this;exact this
noncomputable def Hy(t:AC)(r:ey)(h:AE):List AQ×Int:=
 if Rg t r h≠0 then([],Rg t r h)else if(L0 t r.f0 h r.ij).2≠0 then([],(L0 t r.f0 h r.ij).2)else
 ((L0 t r.f0 h r.ij).1.filter λm=>decide ((Ea t r h m).2=0),0)
def yD(hf:A2 t)(fr:Is r)(e:D3 r.d5<=40)(h:AE):FE t r h=Y (Hy t r h):=by
 unfold FE Hy;rw[jp hf fr,bs];refine D1 λo=>?_;rw[rW hf,bs];refine D1 λu=>?_;rw[ax (p:=λm=>decide ((Ea t r h m).2=0)) Vn,bs]
 grind [AD,bs,rM,Ea,AA,L0,AP,AX]
def yV(hf:A2 t)(fr:Is r)(e:D3 r.d5<=40)(h:AE):Fo t r h=Y (Hy t r h):=by
 unfold Fo Hy;rw[vh hf fr,bs];refine D1 λo=>?_;rw[rm hf,bs];refine D1 λu=>?_;rw[ax (p:=λm=>decide ((Ea t r h m).2=0)) Vn,bs]
 grind [AD,bs,pA,Ea,AA,L0,AP,AX]
def uY:(Hy t r h).1.length<=5000:=by grind[Hy,Nat.le_trans,D',Vn]
theorem nG{m:AQ}(e:m∈(Hy t r h).1):(Ea t r h m).2=0:=by
 unfold Hy at e
 grind
end Go.Sf.Sc
namespace Go.Sf
end Go.Sf
namespace Go.Sf.Sc
open Go Go.Sf
instance:Inhabited GB:=⟨⟨0,default⟩⟩
end Go.Sf.Sc
namespace Go.Sf.Sc
open Go Go.Sf
structure X8(h:AE)(p:BM):Prop where
 wi:p.dl.length<=1000
 x9:p.dr.length<=1000
 node:∀x∈p.dl,0<=x/\x<h.d3.dl.length
 edge:∀x∈p.dr,0<=x/\x<h.d3.dr.length
end Go.Sf.Sc
