/- Plain lemmas: what the functions of the program and of the reference compute. -/
import Derived.Test.YthcncnllajfkfaaGreatP25
set_option linter.all false
set_option maxRecDepth 100000
open Option renaming some->Y,none->W
open Bool renaming true->X,false->T
open List renaming mem_append->w_,any_eq_false->w!,drop_eq_nil_of_le->w?,drop_eq_getElem_cons->x_,getElem?_eq_getElem->x!,replicate->x?,ext_getElem->y_,replicate_succ'->y!,mem_flatMap->y?,length_singleton->z_,nodup_nil->z!
open Classical renaming not_not->z?
open Bool renaming not_eq_true'->A_,true_and->A',false_eq_true->A!
open Int renaming toNat_natCast->A?
namespace Go.Sf.Sc
open Go Go.Sf
variable{all:List kp}{k:Int}
theorem T9(h:ND all k=0)(d:(AA all k).sr.length<=1000):-1000000<=(AA all k).Low/\(AA all k).Aaf<=1000000:=by grind[ND]
variable{t:AC}{i:Int}
theorem hU(h:I3 t i=0):∀k,((A4 t i).length:Int)-(AA t.d3 i).qo.length<=k->k<(A4 t i).length->ND (A4 t i) k=0:=by
 unfold I3 at h;dsimp only at h;split at h
 .cases h
 split at h
 .cases h
 split at h
 .cases h
 split at h
 .cases h
 exact Va h
variable{a:Int}
theorem Rb{n:Nat}(d:0<=a):B1 t (n+1) a=B1 t n (par t a)++(AA t.d3 a).qo:=by grind[B1]
theorem pu(h:ND all k=0)(d:(AA all k).sr.length<=1000):(AA all k).Low<=(AA all k).Aaf:=by grind[ND]
theorem UA(hf:A3 t)(h:Fc t){Q:kp->Prop}(T9:∀{all:List kp}{k:Int},ND all k=0->(AA all k).sr.length<=1000->Q (AA all k)):∀(n:Nat)(a:Int),a<t.d3.length->a<n->∀x∈B1 t n a,Q x
 |0,_,_,_=>by simp[B1]|n+1,a,ha,B=>by
  by_cases g:a<0
  .rw[K6 g];simp
  .have w:=h.par a U ha;intro x d;rw[Rb U]at d;rcases w_.1 d with d|d
   .exact UA hf h T9 n (par t a) U U x d
   .obtain⟨j,z,A,rfl⟩:=BT d;have e:A4 t a=B1 t a.toNat (par t a)++(AA t.d3 a).qo:=by
     unfold A4;rw[show(a+1).toNat=a.toNat+1 by omega,Rb U]
    have y:(A4 t a).length=(B1 t a.toNat (par t a)).length+(AA t.d3 a).qo.length:=by rw[e,b6]
    have o:=hU (h.node a U ha) ((B1 t a.toNat (par t a)).length+j) U U;have r:AA (A4 t a) ((B1 t a.toNat (par t a)).length+j)=AA (AA t.d3 a).qo j:=by
     grind [On,AA]
    have u:=PE hf (Int.le_refl _) h.par ha (AA (A4 t a) ((B1 t a.toNat (par t a)).length+j)) (AF U U);have:=T9 o (by have:=u.names;omega)
    rwa [r]at this
theorem Rc(hf:A3 t)(h:Fc t)(d:0<=a)(ha:a<t.d3.length):∀x∈A4 t a,-1000000<=x.Low/\x.Aaf<=1000000:=UA hf h T9 _ a ha U
theorem VG(hf:A3 t)(h:Fc t)(d:0<=a)(ha:a<t.d3.length):∀x∈A4 t a,x.Low<=x.Aaf:=UA hf h pu _ a ha U
theorem bZ(d:E2 t k):∀(n:Nat)(a b:Int),a<k->a<n->b∈Kk t n a->0<=b/\b<=a/\(A4 t b).length<=(B1 t n a).length
 |0,_,_,_,_=>by simp[Kk]|n+1,a,b,ha,j=>by
  intro hb;rw[Kk]at hb;split at hb
  .cases hb
  .rename_i e;have g:=d a U ha;rw[Rb U];rcases List.mem_cons.1 hb with rfl|hb
   .refine⟨U,U,?_⟩;unfold A4;rw[Oo d (b+1).toNat (n+1) b ha U U,Rb U];exact az _
   .have:=bZ d n (par t a) b U U hb
    grind
variable{b:Int}
theorem aa(h:Fc t)(ha:a<t.d3.length)(hb:G2 t a b=X):(A4 t b).length<=(A4 t a).length:=by
 unfold G2 at hb;rw[List.any_eq_true]at hb;obtain⟨x,d,e⟩:=hb;rw[tn]at e;subst e;by_cases g:a<0
 .have:(a+1).toNat=0:=U
  rw [this]at d;cases d
 .exact(bZ h.par (a+1).toNat a b ha U d).2.2
theorem kO{α:Type}{Q:Prop}[Decidable Q]{v:α}{ζ:Option α}{δ:α}(he:a=b↔Q)(h:Q->ζ=Y δ):(if(!decide (a=b))=X then Y v else ζ)=Y (if¬Q then v else δ):=m?
def RM(t:AC)(k:Int)(v:Fp)(j:Int):Bool:=decide (AA v j<(AA (A4 t k) j).Low)||decide ((AA (A4 t k) j).Aaf<AA v j)
def Gi(t:AC)(k:Int)(v:Fp):Int:=
 if (t.d3.length:Int)<=k then 6 else if(AA t.d3 k).sc=X then 13 else if¬v.length=(A4 t k).length then 20 else
 if l3 (RM t k v) 0 (A4 t k).length=X then 6 else 0
def JZ(t:AC)(g:d5)(i:Int):Int:=
 if (t.d4.length:Int)<=(AA g.d4 i).kg then 6 else if Hl t g i=T then 13 else 0
def Dq(t:AC)(h:AG):Int×Int:=
 if (BC t).2≠0 then(-1,(BC t).2)else if CE h.d5≠0 then(-1,CE h.d5)else if¬h.ej.length=h.d5.d3.length then(-1,20)else
 match fst (λi=>(nz (Gi t (AA h.d5.d3 i) (AA h.ej i))).map λe=>(i,e)) 0 h.d5.d3.length with
 |some r=>r|none=>(fst (λi=>(nz (JZ t h.d5 i)).map λe=>(i,e)) 0 h.d5.d4.length).getD (-1,0)
theorem JP(hv:(BC t).2=0)(d:0<=k)(e:k<t.d3.length):Ff t k=(A4 t k,0):=by grind[Ff,NP]
theorem WZ{x:Bool}{y:Bool}:(if x=X then Y X else Y y)=Y (x||y):=by cases x<;>rfl
theorem ui(hf:A3 t)(hv:(BC t).2=0)(d:0<=k)(v:Fp):Md t k v=Y (Gi t k v):=by
 unfold Md Gi;by_cases e:(t.d3.length:Int)<=k
 .grind
 rw [ae f_,ae e,AD d U,bs];refine de λ_=>?_;rw[Ts hf,JP hv d U,bs];refine kO an λg=>?_;rw[Bf (RM t k v) 6]
 .cases l3 (RM t k v) 0 (A4 t k).length<;>rfl
 grind [A4,AD,WZ,RM,AA]
theorem vE(hf:A3 t)(hv:(BC t).2=0)(d:0<=k)(v:Fp):LP t k v=Y (Gi t k v):=by
 unfold LP Gi;by_cases e:(t.d3.length:Int)<=k
 .grind
 rw [ae f_,ae e,AD d U,bs];refine de λ_=>?_;rw[O1 hf,JP hv d U,bs];refine kO an λg=>?_;rw[Bf (RM t k v) 6]
 .cases l3 (RM t k v) 0 (A4 t k).length<;>rfl
 grind [A4,AD,WZ,RM,AA]
theorem ew(e i:Int):(if(!decide (e=0))=X then Y (B0.ret (σ:=Unit) (ρ:=Int×Int) (i,e))else Y (.next ()))=Y (TM ((nz e).map λe=>(i,e))):=by grind[nz,TM]
theorem Vq(hf:A3 t)(h:AG):G5 t h=Y (Dq t h):=by
 unfold G5 Dq;rw[O0 hf,bs];refine Dy λhv=>?_;rw[Oz,bs];refine Dy λj=>?_;have go:=Dh j;refine kO U λy=>?_;rw[Bj (λi=>(nz (Gi t (AA h.d5.d3 i) (AA h.ej i))).map λe=>(i,e)),Da]
 .cases o:fst (λi=>(nz (Gi t (AA h.d5.d3 i) (AA h.ej i))).map λe=>(i,e)) 0 h.d5.d3.length with
  |some r=>rfl|none=>
   have u:=BH.1 o;dsimp only;rw[Bj (λi=>(nz (JZ t h.d5 i)).map λe=>(i,e)),Da]
   .grind
   .intro i d i1 _;have w:=go.fit _ (AF (l:=h.d5.d4) d i1);rw[AD d i1,bs];unfold JZ Hl;by_cases g:(t.d4.length:Int)<=(AA h.d5.d4 i).kg
    .rw[ac g?,ac g];rfl
    .rw[ae g?,ae g,AD U U,bs,AD U U,bs,ng hf,bs];cases LE t (AA h.d5.d4 i).kg (AA h.d5.d3 (AA h.d5.d4 i).ke) (AA h.d5.d3 (AA h.d5.d4 i).To)<;>rfl
 .intro i d i1 _;rw[AD d i1,bs,AD d U,bs,ui hf hv (go.kind _ (AF d i1)).1,bs];exact ew _ i
theorem Vx(hf:A3 t)(h:AG):F2 t h=Y (Dq t h):=by
 unfold F2 Dq;rw[R7 hf,bs];refine Dy λhv=>?_;rw[NU,bs];refine Dy λj=>?_;have go:=Dh j;refine kO U λy=>?_;rw[Bj (λi=>(nz (Gi t (AA h.d5.d3 i) (AA h.ej i))).map λe=>(i,e)),Da]
 .cases o:fst (λi=>(nz (Gi t (AA h.d5.d3 i) (AA h.ej i))).map λe=>(i,e)) 0 h.d5.d3.length with
  |some r=>rfl|none=>
   have u:=BH.1 o;dsimp only;rw[Bj (λi=>(nz (JZ t h.d5 i)).map λe=>(i,e)),Da]
   .grind
   .intro i d i1 _;have w:=go.fit _ (AF (l:=h.d5.d4) d i1);rw[AD d i1,bs];unfold JZ Hl;by_cases g:(t.d4.length:Int)<=(AA h.d5.d4 i).kg
    .rw[ac g?,ac g];rfl
    .rw[ae g?,ae g,AD U U,bs,AD U U,bs,Yu hf,bs];cases LE t (AA h.d5.d4 i).kg (AA h.d5.d3 (AA h.d5.d4 i).ke) (AA h.d5.d3 (AA h.d5.d4 i).To)<;>rfl
 .intro i d i1 _;rw[AD d i1,bs,AD d U,bs,vE hf hv (go.kind _ (AF d i1)).1,bs];exact ew _ i
structure Ie(t:AC)(h:AG):Prop where
 g:Cp h.d5
 len:h.ej.length=h.d5.d3.length
 kind:∀i:Int,0<=i->i<h.d5.d3.length->0<=AA h.d5.d3 i/\AA h.d5.d3 i<t.d3.length
 row:∀i:Int,0<=i->i<h.d5.d3.length->(AA h.ej i).length=(A4 t (AA h.d5.d3 i)).length
 low:∀i:Int,0<=i->i<h.d5.d3.length->∀x∈AA h.ej i,-1000000<=x/\x<=1000000
 ge:CE h.d5=0
 ty:C0 t h.d5=X
variable{h:AG}
theorem US(e:(Dq t h).2=0):(∀i:Int,0<=i->i<h.d5.d3.length->Gi t (AA h.d5.d3 i) (AA h.ej i)=0)/\∀i:Int,0<=i->i<h.d5.d4.length->JZ t h.d5 i=0:=by
 unfold Dq at e;split at e
 next j=>exact absurd e j
 split at e
 next j=>exact absurd e j
 split at e
 .cases e
 rename_i j w y;have u:∀i:Int,0<=i->i<h.d5.d3.length->Gi t (AA h.d5.d3 i) (AA h.ej i)=0:=by
  split at e
  .rename_i r hr;obtain⟨i,_,_,k,_⟩:=Cl hr;unfold nz at k;split at k
   .cases k
   next d=>cases k;exact absurd e d
  next hr=>exact λi g i1=>IX.1 (QK.1 (BH.1 hr i g i1))
 have he:∀i:Int,0<=i->i<h.d5.d4.length->JZ t h.d5 i=0:=by
  have o:fst (λi=>(nz (Gi t (AA h.d5.d3 i) (AA h.ej i))).map λe=>(i,e)) 0 h.d5.d3.length=W:=BH.2 λi g i1=>by rw[u i g i1];rfl
  rw [o]at e;dsimp only at e;cases hr:fst (λi=>(nz (JZ t h.d5 i)).map λe=>(i,e)) 0 h.d5.d4.length with
  |some r=>
   rw [hr]at e;obtain⟨i,_,_,k,_⟩:=Cl hr;unfold nz at k;split at k
   .cases k
   next d=>cases k;exact absurd e d
  |none=>exact λi g i1=>IX.1 (QK.1 (BH.1 hr i g i1))
 exact ⟨u,he⟩
theorem QJ(hf:A3 t)(e:(Dq t h).2=0):(BC t).2=0/\Ie t h:=by
 obtain ⟨u,he⟩:=US e;unfold Dq at e;split at e
 next g=>exact absurd e g
 split at e
 next g=>exact absurd e g
 split at e
 .cases e
 rename_i g z C;have hv:=z?.1 g;have go:=Dh (z?.1 z);have r:∀i:Int,0<=i->i<h.d5.d3.length->(0<=AA h.d5.d3 i/\AA h.d5.d3 i<t.d3.length)/\(AA h.ej i).length=(A4 t (AA h.d5.d3 i)).length/\∀j:Int,0<=j->j<(A4 t (AA h.d5.d3 i)).length->RM t (AA h.d5.d3 i) (AA h.ej i) j=T:=by
  intro i d i1;have E:=(go.kind _ (AF d i1)).1;have:=u i d i1;unfold Gi at this;split at this
  .cases this
  split at this
  .cases this
  split at this
  .cases this
  split at this
  .cases this
  rename_i a1 a2 a3 D;exact⟨⟨E,U⟩,z?.1 a3,By.1 (by simpa using D)⟩
 have y:C0 t h.d5=X:=by
  unfold C0;rw[pq,A_,A_,w!,w!];refine⟨λn u=>?_,λx w=>?_⟩
  .obtain⟨i,d,i1,rfl⟩:=BT u;have:=(r i d i1).1.2;simp;omega
  .obtain⟨i,d,i1,rfl⟩:=BT w;have:=he i d i1;unfold JZ at this;split at this
   .cases this
   .simp;omega
 suffices o:∀i:Int,0<=i->i<h.d5.d3.length->∀x∈AA h.ej i,-1000000<=x/\x<=1000000 from⟨hv,go,z?.1 C,λi d i1=>(r i d i1).1,λi d i1=>(r i d i1).2.1,o,z?.1 z,y⟩
 intro i d i1 x w;obtain⟨A,G,F⟩:=r i d i1;obtain⟨j,B,H,rfl⟩:=BT w;have:=F j B U;unfold RM at this;simp[decide_eq_false_iff_not]at this;have:=Rc hf (Cq hv) A.1 A.2 _ (AF (l:=A4 t (AA h.d5.d3 i)) B U);omega
end Go.Sf.Sc
namespace Go.Sf.Sc
open Go Go.Sf
def KT(t:AC)(p g:d5)(m:d6)(i:Int):a5:=
 if AA m.d3 i<0\/g.d3.length<=AA m.d3 i then Y 6 else if G2 t (AA g.d3 (AA m.d3 i)) (AA p.d3 i)=T then Y 13 else W
def OZ(t:AC)(p g:d5)(m:d6):Int:=
 if m.d3.length≠p.d3.length\/m.d4.length≠p.d4.length then 20 else
 match fst (KT t p g m) 0 m.d3.length with
 |some e=>e|none=>(fst (Gl p g m) 0 m.d4.length).getD 0
def Ga(t:AC)(p g:d5)(m:d6)(inj:Bool):Int:=
 if Ep t p g≠0 then Ep t p g else if OZ t p g m≠0 then OZ t p g m else if(inj&&!Ij m)=X then 5 else 0
structure Zv(t:AC)(p g:d5)(m:d6):Prop where
 Aal:m.d3.length=p.d3.length
 Aap:m.d4.length=p.d4.length
 node:∀i:Int,0<=i->i<m.d3.length->(0<=AA m.d3 i/\AA m.d3 i<g.d3.length)/\G2 t (AA g.d3 (AA m.d3 i)) (AA p.d3 i)=X
 edge:∀i:Int,0<=i->i<m.d4.length->0<=AA m.d4 i/\AA m.d4 i<g.d4.length
variable{t:AC}
theorem Oi{p g:d5}(h:Ep t p g=0):(BC t).2=0/\Cp p/\Cp g/\(∀n∈p.d3,0<=n/\n<t.d3.length)/\∀n∈g.d3,0<=n/\n<t.d3.length:=by
 unfold Ep at h;split at h
 .grind
 split at h
 .grind
 split at h
 .grind
 split at h
 .rename_i e j o d;rw[pq]at d
  grind [Dh,Hq]
 .cases h
variable{m:d6}
theorem jo{p g:d5}(h:OZ t p g m=0):Zv t p g m:=by
 unfold OZ at h;split at h
 .cases h
 rename_i e;have d:fst (KT t p g m) 0 m.d3.length=W:=by
  grind [Cl,KT]
 rw [d]at h;have he:=S0 (λi=>by
  grind [Gl]) h
 refine ⟨U,U,λi i1 i2=>?_,λi i1 i2=>?_⟩
 .grind[BH,KT]
 grind [Gl]
theorem av(hf:A3 t){p g:d5}(y:Ep t p g=0)(m:d6):HQ t p g m=Y (OZ t p g m):=by
 obtain ⟨hv,A,E,tp,B⟩:=Oi y;unfold HQ OZ;refine Q4 i? λC=>?_;rw[lU hf (Cq hv) hv,bs,Bj (KT t p g m),Da]
 .cases D:fst (KT t p g m) 0 m.d3.length with
  |some e=>rfl|none=>
   dsimp only;rw[Bj (Gl p g m),C8];intro i i1 i2 _;unfold Gl;rw[AD i1 i2,bs];by_cases d:AA m.d4 i<0\/g.d4.length<=AA m.d4 i
   .rw[ac c?,ac d];rfl
   .have hf:=A.fit _ (AF (l:=p.d4) i1 U);rw[ae c?,ae d,AD i1 U,bs,AD U U,bs];by_cases j:(AA p.d4 i).kg=(AA g.d4 (AA m.d4 i)).kg
    .rw[ae e?,ae e?,AD U U,bs];by_cases o:AA m.d3 (AA p.d4 i).ke=(AA g.d4 (AA m.d4 i)).ke
     .rw[ae g_,AD U U,bs,bs];by_cases r:AA m.d3 (AA p.d4 i).To=(AA g.d4 (AA m.d4 i)).To
      .rw[ae o2,ae (by simp[o,r])];rfl
      .rw[ac o2,ac (.inr r)];rfl
     .rw[ac g_,bs,ac rfl,ac (.inl o)];rfl
    .rw[ac e?,ac j];rfl
 .intro i i1 i2 _;unfold KT;rw[AD i1 i2,bs];by_cases d:AA m.d3 i<0\/g.d3.length<=AA m.d3 i
  .rw[ac c?,ac d];rfl
  .have u:=tp _ (AF (l:=p.d3) i1 U);have w:=B _ (AF (l:=g.d3) (show 0<=AA m.d3 i by omega) U);rw[ae c?,ae d,AD i1 U,bs,AD u.1 (by unfold KB;rw[c9,A5];exact u.2),bs,AD U U,bs];have e:AA (KB t) (AA p.d3 i)=Pq t (AA p.d3 i):=by unfold KB;exact JI (Pq t) u.1 u.2
   rw [e,AD w.1 (by unfold Pq;rw[c9,A5];exact w.2),bs];have z:AA (Pq t (AA p.d3 i)) (AA g.d3 (AA m.d3 i))=G2 t (AA g.d3 (AA m.d3 i)) (AA p.d3 i):=by unfold Pq;exact JI (λk=>G2 t k (AA p.d3 i)) w.1 w.2
   rw [z];cases G2 t (AA g.d3 (AA m.d3 i)) (AA p.d3 i)<;>rfl
variable{l:Fp}
theorem jX(d:l.length<=1000):Iu l=Y (!Jx l):=by grind[Iu,XK,Jy,AbE,Jx]
theorem Zf(hf:A3 t)(p g:d5)(m:d6)(inj:Bool):GJ t p g m inj=Y (Ga t p g m inj):=by
 unfold GJ Ga;rw[Wc hf,bs];refine EO λd=>?_;rw[av hf d,bs];refine EO λo=>?_;obtain⟨_,j,r,_⟩:=Oi d;have e:=jo o;have:=j.ec;have:=j.eh;have:=e.Aal;have:=e.Aap;rw[jX U,jX U];unfold Ij;cases inj<;>cases Jx m.d3<;>cases Jx m.d4<;>rfl
theorem u9(l:Fp):Ke l=Y (Jx l):=cw l
theorem oS{p g:d5}(w:Ep t p g=0)(m:d6)(inj:Bool):J4 t p g m inj=Y (if OZ t p g m≠0 then OZ t p g m else if(inj&&!Ij m)=X then 5 else 0):=by
 obtain ⟨hv,A,D,tp,B⟩:=Oi w;unfold J4 OZ;by_cases y:m.d3.length≠p.d3.length\/m.d4.length≠p.d4.length
 .grind
 rw [ae i?,ae y,Bj (KT t p g m),Da]
 .cases C:fst (KT t p g m) 0 m.d3.length with
  |some e=>
   grind [Cl,KT]
  |none=>
   dsimp only;rw[Bj (Gl p g m),Da]
   .grind[fst,Gl,Cl,u9,Ij,Jx]
   intro i i1 i2 _;unfold Gl;rw[AD i1 i2];simp only[bs,Vp];by_cases d:AA m.d4 i<0\/g.d4.length<=AA m.d4 i
   .rw[ac c?,ac d];rfl
   .have hf:=A.fit _ (AF (l:=p.d4) i1 U);rw[ae c?,ae d,AD i1 U,bs,AD U U,bs];by_cases j:(AA p.d4 i).kg=(AA g.d4 (AA m.d4 i)).kg
    .rw[ae e?,ae e?,AD U U,bs];by_cases o:AA m.d3 (AA p.d4 i).ke=(AA g.d4 (AA m.d4 i)).ke
     .rw[ae g_,AD U U,bs,bs];by_cases r:AA m.d3 (AA p.d4 i).To=(AA g.d4 (AA m.d4 i)).To
      .rw[ae o2,ae (by simp[o,r])];rfl
      .rw[ac o2,ac (.inr r)];rfl
     .rw[ac g_,bs,ac rfl,ac (.inl o)];rfl
    .rw[ac e?,ac j];rfl
 .intro i i1 i2 _;unfold KT;rw[AD i1 i2];simp only[bs,Vp];by_cases d:AA m.d3 i<0\/g.d3.length<=AA m.d3 i
  .rw[ac c?,ac d];rfl
  .have z:=tp _ (AF (l:=p.d3) i1 U);have u:=B _ (AF (l:=g.d3) (show 0<=AA m.d3 i by omega) U);rw[ae c?,ae d,AD U U,bs,AD i1 U,bs,We (Cq hv) u.1 u.2 z.1,bs];cases G2 t (AA g.d3 (AA m.d3 i)) (AA p.d3 i)<;>rfl
theorem Zm(hf:A3 t)(p g:d5)(m:d6)(inj:Bool):HD t p g m inj=Y (Ga t p g m inj):=by
 unfold HD Ga;rw[Ui hf,bs];refine EO λd=>?_;rw[oS d,bs]
theorem df{p g:d5}{inj:Bool}(h:Ga t p g m inj=0):Ep t p g=0/\Zv t p g m:=by grind[Ga,jo]
end Go.Sf.Sc
namespace Go.Sf.Sc
open Go Go.Sf
section
variable{α σ ρ:Type}
def Ek(step:α->σ->B0 σ ρ):List α->σ->σ ⊕ ρ
 |[],s=>.inl s|a::r,s=>match step a s with
  |.next s'=>Ek step r s'|.brk s'=>.inl s'|.ret r=>.inr r
variable{f:Int->σ->Option (B0 σ ρ)}
theorem VY[Inhabited α]{l:List α}(step:α->σ->B0 σ ρ)(I:σ->Prop)(h:∀(i:Int)s,0<=i->i<l.length->I s->f i s=Y (step (AA l i) s)/\∀s',step (AA l i) s=.next s'->I s'):
  ∀(n:Nat)(a:Int)(s:σ),0<=a->a+n=l.length->I s->z1 f n a s=Y (Ek step (l.drop a.toNat) s)
 |0,a,s,d,o,_=>by
  rw [w? U];rfl
 |n+1,a,s,d,o,u=>by
  obtain ⟨g,j⟩:=h a s d U u;have hd:l.drop a.toNat=AA l a::l.drop (a+1).toNat:=by
   grind [x_,AA,x!]
  rw [GF,g,hd,Ek];cases e:step (AA l a) s with
  |next s'=>
   simp only;exact VY step I h n (a+1) s' U U (j s' e)
  |brk s'=>rfl|ret r=>rfl
theorem Sz[Inhabited α]{l:List α}(step:α->σ->B0 σ ρ)(I:σ->Prop){s:σ}(d:I s)(h:∀(i:Int)s,0<=i->i<l.length->I s->f i s=Y (step (AA l i) s)/\∀s',step (AA l i) s=.next s'->I s'):
  jj f 0 l.length s=Y (Ek step l s):=by
 have:=VY step I h l.length 0 s U U d;unfold jj;rw[show((l.length:Int)-0).toNat=l.length by omega];exact this
theorem gI[Inhabited α](step:α->σ->B0 σ ρ)(I:σ->Prop):∀(l:List α)(s s':σ),I s->(∀a∈l,∀s s',I s->step a s=.next s'->I s')->(∀a∈l,∀s s',step a s≠.brk s')->Ek step l s=.inl s'->I s'
 |[],s,s',h,_,_,e=>by cases e;exact h
 |a::r,s,s',h,d,hb,e=>by
  rw [Ek]at e;split at e
  next s2 g=>exact gI step I r s2 s' (d a V s s2 h g) (λa ha=>d a (by simp[ha])) (λa ha=>hb a (by simp[ha])) e
  .grind
  .cases e
end
def DU(x:gt)(l:Fp):Int:=if x.Var<0 then x.Add else AJ (AA l x.Var+x.Add)
variable{x:gt}{l:Fp}
theorem Vr(h:x.Var<l.length):E5 x l=Y (DU x l):=by grind[E5,DU,AD]
theorem bH(h:x.Var<l.length):J6 x l=Y (DU x l):=Vr h
theorem fF(d:-1<=x.Var)(h:x.Var<l.length)(e:l.length<=1000):Fd x l=Y (DU x l,0):=by grind[Fd,C4,AT,Vr]
theorem QP(d:-1<=x.Var)(h:x.Var<l.length):FP x l=Y (DU x l,0):=by grind[FP,bH]
def MH(x:Test)(l:Fp):Bool:=(decide (x.kq=1)&&decide (DU x.gp l<=DU x.ei l))||(decide (x.kq=2)&&decide (DU x.gp l=DU x.ei l))
structure JN(n:Int)(x:gt):Prop where
 low:-1<=x.Var
 high:x.Var<n
 add:-1000000<=x.Add/\x.Add<=1000000
def RH(l:Fp):Prop:=∀x∈l,-2000000<=x/\x<=2000000
variable{n:Int}
theorem Us(h:JN n x)(d:RH l)(e:n<=l.length):DU x l=(if x.Var<0 then x.Add else AA l x.Var+x.Add)/\-3000000<=DU x l/\DU x l<=3000000:=by
 unfold DU;have:=h.add;by_cases g:x.Var<0
 .grind
 .have hh:=h.high;have:=d _ (AF (l:=l) (show 0<=x.Var by omega) U)
  grind [AT]
theorem bG(h:JN n x)(d:n<=l.length):L3 x l=Y (DU x l,X):=by
 have e:=h.low;have g:=h.high
 grind [L3,DU,AD]
theorem r_holds{x:Test}(e:JN n x.gp)(g:JN n x.ei)(d:n<=l.length):N4 x l=Y (MH x l):=by
 unfold N4;rw[bG e d,bG g d];rfl
variable{a b:Int}
theorem be(ha:-4000000<=a/\a<=4000000)(hb:-4000000<=b/\b<=4000000):Hb a b=Y (if a+b<0 then(-1,a+b+18446744073709551616)else(0,a+b)):=by
 have d:∀c:Int,IntKind.u64.wrap c=c % 18446744073709551616:=λc=>by
  simp [IntKind.wrap,IntKind.signed,IntKind.bits]
 have g:∀c:Int,-4000000<=c/\c<=4000000->Gk .i64 .shr c 63=Y (if c<0 then -1 else 0):=by
  intro c r;unfold Gk;have e:c.fdiv (2^ (min (63:Int).toNat (IntKind.bits .i64)))=if c<0 then -1 else 0:=by
   show c.fdiv (2^ 63)=_
   grind
  simp only[e];have:(0:Int)<=63/\IntKind.min .i64<=(if c<0 then -1 else 0)/\(if c<0 then -1 else 0)<=IntKind.max .i64:=by
   split<;>decide
  rw [ac this]
 unfold Hb Je;rw[d,d,ac U,bs,g a ha,g b hb,bs,bs];congr 1;have u:∀c:Int,-10<=c->c<=10->AJ c=c:=λc j o=>AT U U
 grind
def Lj(a:Int):Int×Int:=if a<0 then(-1,a+18446744073709551616)else(0,a)
theorem fL(h:JN n x)(d:RH l)(o:n<=l.length):Fh x l=Y ((Lj (DU x l)).1,(Lj (DU x l)).2,X):=by
 have r:=h.low;have u:=h.high;have w:=h.add;have g:=(Us h d o).1;unfold Fh;by_cases j:x.Var=-1
 .have e:DU x l=x.Add:=by rw[g,ac U]
  rw [e,ac e?,be U U,bs,Int.zero_add];rfl
 .have:=d _ (AF (l:=l) (show 0<=x.Var by omega) U);have e:DU x l=AA l x.Var+x.Add:=by rw[g,ae U]
  rw [e,ae e?,ae an,AD U U,bs,be U U,bs];rfl
theorem s7(a b:Int):cmp_Compare_int a b=Y (if a<b then -1 else if b<a then 1 else 0):=by
 unfold cmp_Compare_int cmp_isNaN_int
 grind
theorem AAi(a b:Int):JR a b=Y (if a<b then -1 else if b<a then 1 else 0):=s7 a b
theorem wt(a b:Int):PF [a,b]=Y (if a=0 then b else a):=by
 unfold PF;show em (z1 _ 2 0 ()) _ _=_;rw[GF,show idx [a,b] 0=Y a from rfl,bs]
 grind [em,z1,GF,idx]
theorem p_holds{x:Test}(g:JN n x.gp)(j:JN n x.ei)(d:RH l)(e:n<=l.length):Gs x l=Y (MH x l):=by
 have o:=(Us g d e).2;have s2:=(Us j d e).2;unfold Gs MH;rw[fL g d e,fL j d e];simp[s7,AAi,wt];generalize DU x.gp l=a at o;generalize DU x.ei l=b at s2;have key:(if(if(Lj a).1<(Lj b).1 then(-1:Int)else if(Lj b).1<(Lj a).1 then 1 else 0)=0 then(if(Lj a).2<(Lj b).2 then(-1:Int)else if(Lj b).2<(Lj a).2 then 1 else 0)else(if(Lj a).1<(Lj b).1 then(-1:Int)else if(Lj b).1<(Lj a).1 then 1 else 0))=if a<b then -1 else if b<a then 1 else 0:=by
  grind [Lj]
 rw [key];congr 2
 .grind
 grind
end Go.Sf.Sc
namespace Go.Sf.Sc
open Go Go.Sf
structure Uy(t:AC)(q:ea):Prop where
 g:Cp q.d5
 kind:∀n∈q.d5.d3,0<=n/\n<t.d3.length
 vars:0<=q.fd/\q.fd<=12
 few:q.ek.length<=10/\q.kl.length<=10
 slot:∀s∈q.ek,(0<=s.po/\s.po<q.d5.d3.length)/\(0<=s.kp/\s.kp<(A4 t (AA q.d5.d3 s.po)).length)/\JN q.fd s.gt
 test:∀x∈q.kl,(x.kq=1\/x.kq=2)/\JN q.fd x.gp/\JN q.fd x.ei
 ge:CE q.d5=0
 ty:C0 t q.d5=X
variable{n:Int}{x:gt}
theorem sV(h:Oc n x=X):JN n x:=by
 unfold Oc at h;simp[tn]at h;exact⟨h.1.1.1,h.1.1.2,h.1.2,h.2⟩
theorem sW{l:List Test}(h:Js n l=0):∀x∈l,(x.kq=1\/x.kq=2)/\JN n x.gp/\JN n x.ei:=by
 unfold Js at h;split at h
 .cases h
 split at h
 .cases h
 have g:=Va h;intro x d;obtain⟨i,j,i1,rfl⟩:=BT d;have:=g i j i1;unfold Lb at this;split at this
 .cases this
 split at this
 .rename_i o e;rw[pq]at e
  grind [sV]
 .cases this
theorem mB(n:Int)(l:List Test):Js n l≠9:=by
 unfold Js;split
 .decide
 split
 .decide
 intro h;cases hr:fst (λi=>nz (Lb n (AA l i))) 0 l.length with
 |none=>rw[hr]at h;cases h
 |some r=>
  grind [Cl,nz,Lb]
variable{t:AC}{q:ea}
theorem qy(hv:(BC t).2=0)(h:FD t q=0\/FD t q=9):Uy t q:=by
 have w:=YQ q.d5;unfold FD at h;rw[ae l_]at h;split at h
 .omega
 rename_i j;have g:=Dh (z?.1 j);split at h
 .omega
 rename_i e;split at h
 .omega
 rename_i z;split at h
 .omega
 rename_i A;split at h
 .omega
 rename_i B;split at h
 .grind[mB]
 rename_i u;refine⟨g,(Hq g f_).1,U,U,λs y=>?_,sW (z?.1 u),z?.1 j,f_⟩;have hb:TN t q s=T:=by
  grind
 unfold TN at hb;simp[Bool.not_eq_false',decide_eq_false_iff_not]at hb;obtain⟨⟨⟨d,D⟩,E⟩,F,G⟩:=hb;unfold Sr at d;dsimp only at d;split at d
 .cases d
 rename_i C;have r:=(Hq g f_).1 _ (AF (l:=q.d5.d3) (show 0<=s.po by omega) U);rw[JP hv r.1 r.2]at d;split at d
 .cases d
 rename_i o;have o:¬(s.kp<0\/((A4 t (AA q.d5.d3 s.po)).length:Int)<=s.kp):=o;exact⟨U,U,U,U,U,U⟩
def Oj(h:AG)(m:d6)(s:CA):Int:=AA (AA h.ej (AA m.d3 s.po)) s.kp
def Qy(h:AG)(m:d6)(s:CA)(st:Fp×a6):Fp×a6:=
 if 0<=s.gt.Var/\AA st.2 s.gt.Var=T then(BE st.1 s.gt.Var (AJ (Oj h m s-s.gt.Add)),BE st.2 s.gt.Var X)else st
def FQ{ρ:Type}(r:ρ)(h:AG)(m:d6)(s:CA)(st:Fp×a6):B0 (Fp×a6) ρ:=
 if DU s.gt (Qy h m s st).1=Oj h m s then .next (Qy h m s st)else .ret r
structure VI(n:Int)(st:Fp×a6):Prop where
 l1:(st.1.length:Int)=n
 l2:(st.2.length:Int)=n
 small:RH st.1
structure KP(n:Int)(h:AG)(m:d6)(s:CA):Prop where
 node:0<=s.po/\s.po<m.d3.length
 val:0<=AA m.d3 s.po/\AA m.d3 s.po<h.ej.length
 AbF:0<=s.kp/\s.kp<(AA h.ej (AA m.d3 s.po)).length
 term:JN n s.gt
 has:-1000000<=Oj h m s/\Oj h m s<=1000000
variable{h:AG}{m:d6}{s:CA}
theorem O4(g:Fc t)(j:Uy t q)(hh:Ie t h)(e:Zv t q.d5 h.d5 m)(o:s∈q.ek):KP q.fd h m s:=by
 obtain ⟨u,w,y⟩:=j.slot s o;have z:=e.Aal;have d:=e.node s.po u.1 U;have hr:=hh.row _ d.1.1 d.1.2;have r:=hh.kind _ d.1.1 d.1.2;have hb:=aa g r.2 d.2;have hv:=hh.len;refine⟨U,U,U,y,?_⟩;unfold Oj;exact hh.low _ d.1.1 d.1.2 _ (AF w.1 U)
theorem DP{α:Type}(l:List α)(i:Int)(a:α):(BE l i a).length=l.length:=by unfold BE;rw[List.length_set]
variable{i:Int}
theorem rc{α:Type}{l:List α}{a x:α}(h:x∈BE l i a):x∈l\/x=a:=List.mem_or_eq_of_mem_set h
variable{st:Fp×a6}
theorem ot(e:KP n h m s)(hi:VI n st):VI n (Qy h m s st):=by
 have g:=e.has;have j:=e.term.add;unfold Qy;split
 .refine⟨by rw[DP];exact hi.l1,by rw[DP];exact hi.l2,λx d=>?_⟩;rcases rc d with d|rfl
  .exact hi.small x d
  grind [AT]
 .exact hi
def GN(q:ea)(h:AG)(m:d6):Fp×Int:=
 match Ek (FQ (([],11):Fp×Int) h m) q.ek (x? q.fd.toNat 0,x? q.fd.toNat T)with
 |.inr r=>r|.inl st=>if l3 (λi=>!MH (AA q.kl i) st.1) 0 q.kl.length=X then([],16)else(st.1,0)
theorem T1(d:0<=n):VI n (x? n.toNat 0,x? n.toNat T):=by
 refine ⟨an,an,λx e=>?_⟩
 grind
variable{st':Fp×a6}
theorem RG{ρ:Type}{r:ρ}(d:KP n h m s)(hi:VI n st)(e:FQ r h m s st=.next st'):VI n st':=by grind[FQ,ot]
theorem ou{ρ:Type}{r:ρ}:FQ r h m s st≠.brk st':=by grind[FQ]
theorem QS{ρ:Type}{r:ρ}{l:List CA}(d:∀s∈l,KP n h m s)(hi:VI n st)(e:Ek (FQ r h m) l st=.inl st'):VI n st':=
 gI (FQ r h m) (VI n) l st st' hi (λa ha _ _ g j=>RG (d a ha) g j) (λ_ _ _ _=>ou) e
theorem R0{ρ:Type}{r:ρ}(w:KP n h m s)(hi:VI n st){θ:Fp×a6->Option (B0 (Fp×a6) ρ)}
  (j:∀st':Fp×a6,(st'.1.length:Int)=n->θ st'=Y (if DU s.gt st'.1=Oj h m s then .next st' else .ret r)):
  ((if(decide (0<=s.gt.Var))=X then((idx st.2 s.gt.Var).bind λo=>Y (!o))else Y T).bind λu=>
   if u=X then(idx st.1 s.gt.Var).bind λ_=>(idx st.2 s.gt.Var).bind λ_=>θ (BE st.1 s.gt.Var (AJ (Oj h m s-s.gt.Add)),BE st.2 s.gt.Var X)else θ (st.1,st.2))=Y (FQ r h m s st):=by
 have y:=w.term.high;have l1:=hi.l1;have l2:=hi.l2;unfold FQ;by_cases d:0<=s.gt.Var
 .rw[ac c?,AD d U,bs,bs];by_cases g:AA st.2 s.gt.Var=T
  .rw[ac o!,AD d U,bs,bs,j _ (by dsimp only;rw[DP];exact l1)];have e:Qy h m s st=(BE st.1 s.gt.Var (AJ (Oj h m s-s.gt.Add)),BE st.2 s.gt.Var X):=by unfold Qy;rw[ac ⟨d,g⟩]
   rw [e]
  .rw[ae g?,j _ l1];have e:Qy h m s st=st:=by unfold Qy;rw[ae (λe=>g e.2)]
   rw [e]
 .rw[ae c?,bs,ae a!,j _ l1];have e:Qy h m s st=st:=by unfold Qy;rw[ae (λe=>d e.1)]
  rw [e]
theorem iM{ρ:Type}{r:ρ}(j:KP n h m s)(hi:VI n st){θ:Fp×a6->Option (B0 (Fp×a6) ρ)}
  (o:∀st':Fp×a6,(st'.1.length:Int)=n->θ st'=Y (if DU s.gt st'.1=Oj h m s then .next st' else .ret r)):
  ((if(decide (0<=s.gt.Var))=X then((idx st.2 s.gt.Var).bind λd=>Y (!d))else Y T).bind λe=>
   if e=X then(idx st.2 s.gt.Var).bind λ_=>(idx st.1 s.gt.Var).bind λ_=>θ (BE st.1 s.gt.Var (AJ (Oj h m s-s.gt.Add)),BE st.2 s.gt.Var X)else θ (st.1,st.2))=Y (FQ r h m s st):=by
 rw [<-R0 j hi o];have u:=j.term.high;have l1:=hi.l1;have l2:=hi.l2;by_cases g:0<=s.gt.Var
 .rw[AD g U,AD g U];rfl
 .rw[ae g?];rfl
variable{v:Int}
theorem bR{t:gt}{f:gt->Fp->a5}(hf:∀l:Fp,(l.length:Int)=n->f t l=Y (DU t l))(st':Fp×a6)(e:(st'.1.length:Int)=n):((f t st'.1).bind λd=>if(!decide (d=v))=X then Y (B0.ret (([],11):Fp×Int))else Y (.next st'))=Y (if DU t st'.1=v then .next st' else .ret ([],11)):=m?
theorem jV(j:Uy t q)(o:∀s∈q.ek,KP q.fd h m s):GB q h m=Y (GN q h m):=by
 have hv:=j.vars;unfold GB GN He;rw[ac U,bs,ac U,bs];rw[Sz (FQ (([],11):Fp×Int) h m) (VI q.fd) (T1 hv.1)]
 .cases hr:Ek (FQ (([],11):Fp×Int) h m) q.ek (x? q.fd.toNat 0,x? q.fd.toNat T)with
  |inr r=>rfl|inl st=>
   have hi:=QS o (T1 hv.1) hr;rw[B2,Bf (λi=>!MH (AA q.kl i) st.1) ([],16)]
   .dsimp only;cases l3 (λi=>!MH (AA q.kl i) st.1) 0 q.kl.length<;>rfl
   .intro i d i1 _;have u:=j.test _ (AF d i1);rw[AD d i1,bs,p_holds u.2.1 u.2.2 hi.small (by have:=hi.l1;omega),bs]
    grind
 .intro i st d i1 hi;have ha:=o _ (AF d i1);refine⟨?_,λs' e=>RG ha hi e⟩;rw[AD d i1,bs,AD ha.node.1 ha.node.2,bs,AD ha.val.1 ha.val.2,bs,AD ha.AbF.1 ha.AbF.2,bs];exact R0 ha hi (θ:=λst'=>(E5 (AA q.ek i).gt st'.1).bind λg=>if(!decide (g=Oj h m (AA q.ek i)))=X then Y (B0.ret (([],11):Fp×Int))else Y (.next st')) (bR λl w=>Vr p!)
theorem jh(j:Uy t q)(o:∀s∈q.ek,KP q.fd h m s):Ip q h m=Y (GN q h m):=by
 have hv:=j.vars;unfold Ip GN He;rw[ac U,bs,ac U,bs];rw[Sz (FQ (([],11):Fp×Int) h m) (VI q.fd) (T1 hv.1)]
 .cases hr:Ek (FQ (([],11):Fp×Int) h m) q.ek (x? q.fd.toNat 0,x? q.fd.toNat T)with
  |inr r=>rfl|inl st=>
   have hi:=QS o (T1 hv.1) hr;rw[B2,Bf (λi=>!MH (AA q.kl i) st.1) ([],16)]
   .dsimp only;cases l3 (λi=>!MH (AA q.kl i) st.1) 0 q.kl.length<;>rfl
   .intro i d i1 _;have u:=j.test _ (AF d i1);rw[AD d i1,bs,r_holds u.2.1 u.2.2 (by have:=hi.l1;omega),bs]
    grind
 .intro i st d i1 hi;have ha:=o _ (AF d i1);refine⟨?_,λs' e=>RG ha hi e⟩;rw[AD d i1,bs,AD ha.node.1 ha.node.2,bs,AD ha.val.1 ha.val.2,bs,AD ha.AbF.1 ha.AbF.2,bs];exact iM ha hi (θ:=λst'=>(J6 (AA q.ek i).gt st'.1).bind λg=>if(!decide (g=Oj h m (AA q.ek i)))=X then Y (B0.ret (([],11):Fp×Int))else Y (.next st')) (bR λl w=>bH p!)
def OT(t:AC)(p:ea)(h:AG):Int:=if FD t p≠0 then FD t p else(Dq t h).2
theorem ar(hf:A3 t)(p:ea)(h:AG):E4 t p h=Y (OT t p h):=by
 unfold E4 OT;rw[Yn hf,bs];refine EO λ_=>?_;rw[Vq hf];rfl
theorem bC(hf:A3 t)(p:ea)(h:AG):IQ t p h=Y (OT t p h):=by
 unfold IQ OT;rw[cy hf,bs];refine EO λ_=>?_;rw[Vx hf];rfl
def Gd(t:AC)(p:ea)(h:AG)(m:d6):Fp×Int:=
 if OT t p h≠0 then([],OT t p h)else if Ga t p.d5 h.d5 m T≠0 then([],Ga t p.d5 h.d5 m T)else GN p h m
variable{p:ea}
theorem Qz(hf:A3 t){inj:Bool}(d:OT t p h=0)(e:Ga t p.d5 h.d5 m inj=0):(BC t).2=0/\Uy t p/\Ie t h/\Zv t p.d5 h.d5 m:=by
 unfold OT at d;split at d
 .grind
 rename_i g;obtain⟨hv,hh⟩:=QJ hf d;exact⟨hv,qy hv (.inl (z?.1 g)),hh,(df e).2⟩
theorem jN(hf:A3 t)(p:ea)(h:AG)(m:d6):E3 t p h m=Y (Gd t p h m):=by
 unfold E3 Gd;rw[ar hf,bs];refine Dy λe=>?_;rw[Zf hf,bs];refine Dy λg=>?_;obtain⟨hv,d,hh,o⟩:=Qz hf e g;rw[jV d (λs j=>O4 (Cq hv) d hh o j)];rfl
theorem uz(hf:A3 t)(p:ea)(h:AG)(m:d6):J5 t p h m=Y (Gd t p h m):=by
 unfold J5 Gd;rw[bC hf,bs];refine Dy λe=>?_;rw[Zm hf,bs];refine Dy λg=>?_;obtain⟨hv,d,hh,o⟩:=Qz hf e g;rw[jh d (λs j=>O4 (Cq hv) d hh o j)];rfl
theorem ov(d:Uy t q)(g:∀s∈q.ek,KP q.fd h m s)(e:(GN q h m).2=0):((GN q h m).1.length:Int)=q.fd/\RH (GN q h m).1:=by
 unfold GN at e|-;cases hr:Ek (FQ (([],11):Fp×Int) h m) q.ek (x? q.fd.toNat 0,x? q.fd.toNat T)with
 |inr r=>
  rw [hr]at e;have:∀(l:List CA)(st:Fp×a6)(r:Fp×Int),Ek (FQ (([],11):Fp×Int) h m) l st=.inr r->r=([],11):=by
   intro l
   induction l with
   |nil=>intro st r h;cases h
   |cons a l o=>
    grind [Ek,FQ]
  grind
 |inl st=>
  rw [hr]at e;have hi:=QS g (T1 d.vars.1) hr;dsimp only at e|-;split at e
  .cases e
  next j=>rw[ae j];exact⟨hi.l1,hi.small⟩
end Go.Sf.Sc
namespace Go.Sf.Sc
open Go Go.Sf
variable{i:Int}
theorem Kv{n:Nat}{α:Type}[Inhabited α](F:Int->α)(d:0<=i)(v:α):BE ((A0 n).map F) i v=(A0 n).map λj=>if j=i then v else F j:=by
 unfold BE;refine y_ V (λk e g=>?_)
 grind [A5,A0]
theorem DL{n:Nat}{α:Type}{F G:Int->α}(h:∀j,0<=j->j<(n:Int)->F j=G j):(A0 n).map F=(A0 n).map G:=by grind[List.map_congr_left,C6]
def Hx(n:Nat)(k:Int):a6:=(A0 n).map λj=>decide (j<k)
theorem Ya(n:Nat):Hx n 0=x? n T:=by
 unfold Hx;refine y_ (by simp[A5]) (λk d e=>?_)
 grind [A0,A5]
theorem aj(n:Nat)(k:Int):(Hx n k).length=n:=by unfold Hx;rw[c9,A5]
def Oe(q:ea)(h:AG)(m:d6)(given:Fp):Fp×Bool:=
 match Ek (FQ (([],T):Fp×Bool) h m) q.ek (given++x? (q.fd-given.length).toNat 0,Hx q.fd.toNat given.length)with
 |.inr r=>r|.inl st=>if l3 (λi=>!MH (AA q.kl i) st.1) 0 q.kl.length=X then([],T)else(st.1,X)
variable{n:Int}{given:Fp}
theorem Xr(e:0<=n)(g:given.length<=n)(hv:RH given):VI n (given++x? (n-given.length).toNat 0,Hx n.toNat given.length):=by
 refine ⟨an,by show((Hx n.toNat given.length).length:Int)=n;rw[aj];omega,λx d=>?_⟩;rcases w_.1 d with d|d
 .exact hv x d
 grind
variable{q:ea}{m:d6}{t:AC}
theorem xm{s:Bm}(o:Uy t q)(u:∀x∈q.ek,KP q.fd s.h m x)(z:given.length<=q.fd)(hv:RH given):EU s q m given=Y (Oe q s.h m given):=by
 have B:=o.vars;unfold EU Oe slices_Clone_int;rw[Be b_,bs,AT U U];have C:dV given (q.fd-given.length) 0=Y (given++x? (q.fd-given.length).toNat 0):=by
  grind [dV,AX]
 have D:He q.fd T=Y (x? q.fd.toNat T):=by
  grind [He]
 rw [C,bs,D,bs];have E:n8 (λ(d:Int)(w:a6)=>(idx w d).bind λA=>Y (BE w d X)) 0 (given.length:Int) (x? q.fd.toNat T)=Y (Hx q.fd.toNat given.length):=by
  refine CC (λi=>Hx q.fd.toNat i) U (Ya _) (λi d i1=>?_);rw[AD d (by rw[aj];omega),bs];congr 1;unfold Hx;rw[Kv _ d]
  grind
 rw [E,bs];have j:=Xr B.1 z hv;rw[Sz (FQ (([],T):Fp×Bool) s.h m) (VI q.fd) j]
 .cases hr:Ek (FQ (([],T):Fp×Bool) s.h m) q.ek (given++x? (q.fd-given.length).toNat 0,Hx q.fd.toNat given.length)with
  |inr r=>rfl|inl st=>
   have hi:=QS u j hr;rw[B2,Bf (λi=>!MH (AA q.kl i) st.1) ([],T)]
   .dsimp only;cases l3 (λi=>!MH (AA q.kl i) st.1) 0 q.kl.length<;>rfl
   .intro i d i1 _;have y:=o.test _ (AF d i1);rw[AD d i1,bs,p_holds y.2.1 y.2.2 hi.small (by have:=hi.l1;omega),bs]
    grind
 .intro i st d i1 hi;have ha:=u _ (AF d i1);refine⟨?_,λs' e=>RG ha hi e⟩;rw[AD d i1,bs,AD ha.node.1 ha.node.2,bs,AD ha.val.1 ha.val.2,bs,AD ha.AbF.1 ha.AbF.2,bs];refine R0 ha hi (θ:=λst'=>(Fd (AA q.ek i).gt st'.1).bind λg=>if((!decide (g.2=0))||(!decide (g.1=Oj s.h m (AA q.ek i))))=X then Y (B0.ret (([],T):Fp×Bool))else Y (.next st')) (λst' F=>?_);rw[fF ha.term.low p! U,bs]
  grind
variable{h:AG}
theorem yL(A:Uy t q)(B:∀x∈q.ek,KP q.fd h m x)(G:given.length<=q.fd)(hv:RH given):Mu q h m given=Y (Oe q h m given):=by
 have E:=A.vars;unfold Mu Oe;have J:He q.fd T=Y (x? q.fd.toNat T):=by
  unfold He;rw[ac U]
 rw [Be b_,bs,J,bs];have F:n8 (λ(d:Int)(g:Fp×a6)=>
   (idx g.2 d).bind λH=>
   if (decide ((given.length:Int)<=d))=X then
   (AY g.1 [0]).bind λy=>
   Y (y,BE g.2 d (decide (d<(given.length:Int))))
   else
   Y (g.1,BE g.2 d (decide (d<(given.length:Int))))) 0 q.fd (given,x? q.fd.toNat T)=Y (given++x? (q.fd-given.length).toNat 0,(A0 q.fd.toNat).map λj=>decide (j<q.fd)&&decide (j<(given.length:Int))):=by
  refine CC (λi=>(given++x? (i-given.length).toNat 0,(A0 q.fd.toNat).map λj=>decide (j<i)&&decide (j<(given.length:Int)))) E.1 ?_ (λi d i1=>?_)
  .have K:((0:Int)-given.length).toNat=0:=U
   rw [K];simp;rw[<-Ya];unfold Hx;refine DL (λj C D=>?_);rw[show decide (j<0)=T by simp;omega];rfl
  .dsimp only;rw[AD d (by rw[c9,A5];omega),bs];have L:BE ((A0 q.fd.toNat).map λj=>decide (j<i)&&decide (j<(given.length:Int))) i (decide (i<(given.length:Int)))=(A0 q.fd.toNat).map λj=>decide (j<i+1)&&decide (j<(given.length:Int)):=by
    rw [Kv _ d];refine DL (λj C D=>?_);by_cases e:j=i
    .rw[ac e,e,show decide (i<i+1)=X by simp;omega,A']
    .rw[ae e];congr 1;rw[decide_eq_decide];omega
   rw [L];by_cases hi:(given.length:Int)<=i
   .rw[ac n_,AS a_,bs];congr 2;rw[ci,show(i+1-given.length).toNat=(i-given.length).toNat+1 by omega,y!]
   .rw[ae n_];have M:(i+1-given.length).toNat=(i-given.length).toNat:=U
    rw [M]
 have z:((A0 q.fd.toNat).map λj=>decide (j<q.fd)&&decide (j<(given.length:Int)))=Hx q.fd.toNat given.length:=by
  unfold Hx;refine DL (λj C D=>?_);rw[show decide (j<q.fd)=X by simp;omega,A']
 rw [z]at F;rw[F,bs];have u:=Xr E.1 G hv;dsimp only;rw[Sz (FQ (([],T):Fp×Bool) h m) (VI q.fd) u]
 .cases hr:Ek (FQ (([],T):Fp×Bool) h m) q.ek (given++x? (q.fd-given.length).toNat 0,Hx q.fd.toNat given.length)with
  |inr r=>rfl|inl st=>
   have hi:=QS B u hr;rw[B2,Bf (λi=>!MH (AA q.kl i) st.1) ([],T)]
   .dsimp only;cases l3 (λi=>!MH (AA q.kl i) st.1) 0 q.kl.length<;>rfl
   .intro i d i1 _;have w:=A.test _ (AF d i1);have I:=hi.l1;rw[AD d i1,bs,QP w.2.1.low (by have:=w.2.1.high;omega),bs,QP w.2.2.low (by have:=w.2.2.high;omega),bs,<-I7];unfold MH;dsimp only;congr 1;generalize DU (AA q.kl i).gp st.1=a;generalize DU (AA q.kl i).ei st.1=b;rcases w.1 with e|e
    .rw[e,eq_iff_iff];simp
    .rw[e,eq_iff_iff];simp
 .intro i st d i1 hi;have ha:=B _ (AF d i1);refine⟨?_,λs' e=>RG ha hi e⟩;rw[AD d i1,bs,AD ha.node.1 ha.node.2,bs,AD ha.val.1 ha.val.2,bs,AD ha.AbF.1 ha.AbF.2,bs];refine R0 ha hi (θ:=λst'=>(FP (AA q.ek i).gt st'.1).bind λo=>if(!decide (o.1=Oj h m (AA q.ek i)))=X then Y (B0.ret (([],T):Fp×Bool))else Y (.next st')) (λst' I=>?_);rw[QP ha.term.low p!,bs];by_cases e:DU (AA q.ek i).gt st'.1=Oj h m (AA q.ek i)
  .rw[ae c_,ac e]
  .rw[ac c_,ae e]
theorem sd(g:Uy t q)(j:∀s∈q.ek,KP q.fd h m s)(o:given.length<=q.fd)(hv:RH given)(e:(Oe q h m given).2=X):((Oe q h m given).1.length:Int)=q.fd/\RH (Oe q h m given).1:=by
 unfold Oe at e|-;have d:=Xr g.vars.1 o hv;cases hr:Ek (FQ (([],T):Fp×Bool) h m) q.ek (given++x? (q.fd-given.length).toNat 0,Hx q.fd.toNat given.length)with
 |inr r=>
  rw [hr]at e;have:∀(l:List CA)(st:Fp×a6)(r:Fp×Bool),Ek (FQ (([],T):Fp×Bool) h m) l st=.inr r->r=([],T):=by
   intro l
   induction l with
   |nil=>intro st r h;cases h
   |cons a l w=>
    grind [Ek,FQ]
  grind
 |inl st=>
  rw [hr]at e;have hi:=QS j d hr;dsimp only at e|-;split at e
  .cases e
  next u=>rw[ae u];exact⟨hi.l1,hi.small⟩
def Vt(n:Nat)(by' f0:Fp):Fp:=(A0 by'.length).foldl (λl i=>BE l (AA by' i) (AA f0 i)) (x? n (-1))
theorem aL(d f0:Fp):∀(e:Fp)(l:Fp),(e.foldl (λl i=>BE l (AA d i) (AA f0 i)) l).length=l.length
 |[],l=>rfl|k::e,l=>by rw[List.foldl_cons,aL d f0 e,DP]
theorem Ys{n:Nat}{d f0:Fp}(hb:∀x∈d,0<=x/\x<n)(w:d.length<=f0.length):n8 (λ(g:Int)(o:Fp)=>
  (idx d g).bind λe=>
  (idx f0 g).bind λj=>
  (idx o e).bind λr=>
  Y (BE o e j)) 0 (d.length:Int) (x? n (-1))=Y (Vt n d f0):=by
 have h:=CC (f:=λ(g:Int)(o:Fp)=>
  (idx d g).bind λe=>
  (idx f0 g).bind λj=>
  (idx o e).bind λr=>
  Y (BE o e j)) (λi=>(A0 i.toNat).foldl (λl i=>BE l (AA d i) (AA f0 i)) (x? n (-1))) (a:=0) (b:=d.length) (s:=x? n (-1)) U rfl (λi g i1=>by
   have u:=hb _ (AF g i1);rw[AD g i1,bs,AD g U,bs,AD u.1 (by rw[aL];simpa using u.2),bs,Em g,List.foldl_append];rfl)
 rw [h,A?];rfl
theorem fQ{n:Nat}{d f0:Fp}(g:n<=1000)(hb:∀x∈d,0<=x/\x<n)(e:d.length<=f0.length):Gq n d f0=Y (Vt n d f0):=by
 unfold Gq De;rw[ac ⟨rfl,U,U⟩,bs];show(n8 _ 0 _ (x? (n:Int).toNat (-1))).bind _=_;rw[A?,Ys hb e];rfl
theorem fg{n:Nat}{d f0:Fp}(g:n<=1000)(hb:∀x∈d,0<=x/\x<n)(e:d.length<=f0.length):Kg n d f0=Y (Vt n d f0):=by
 unfold Kg;rw[CC (a:=0) (b:=n) (s:=[]) (λi=>x? i.toNat (-1)) U rfl,bs,A?,Ys hb e]
 .rfl
 .intro i j i1;rw[AS a_,bs,show(i+1).toNat=i.toNat+1 by omega,y!]
end Go.Sf.Sc
namespace Go.Sf.Sc
open Go Go.Sf
structure sj(f:AM):Prop where
 nl:f.ec.length<=f.p.d3.length
 node:∀i:Int,0<=i->i<f.ec.length->(0<=AA f.ec i/\AA f.ec i<f.g.d3.length)/\AA (AA f.is (AA f.p.d3 i)) (AA f.g.d3 (AA f.ec i))=X
 edge:∀i:Int,0<=i->i<f.eh.length->(0<=AA f.eh i/\AA f.eh i<f.g.d4.length)/\AA f.g.d4 (AA f.eh i)=⟨(AA f.p.d4 i).kg,AA f.ec (AA f.p.d4 i).ke,AA f.ec (AA f.p.d4 i).To⟩
 inj:f.fq=X->f.ec.Nodup/\f.eh.Nodup
structure kE(f:AM)(m:d6):Prop where
 nl:m.d3.length=f.p.d3.length
 el:m.d4.length=f.p.d4.length
 node:∀i:Int,0<=i->i<m.d3.length->(0<=AA m.d3 i/\AA m.d3 i<f.g.d3.length)/\AA (AA f.is (AA f.p.d3 i)) (AA f.g.d3 (AA m.d3 i))=X
 edge:∀i:Int,0<=i->i<m.d4.length->(0<=AA m.d4 i/\AA m.d4 i<f.g.d4.length)/\AA f.g.d4 (AA m.d4 i)=⟨(AA f.p.d4 i).kg,AA m.d3 (AA f.p.d4 i).ke,AA m.d3 (AA f.p.d4 i).To⟩
 inj:f.fq=X->m.d3.Nodup/\m.d4.Nodup
variable{i:Int}
theorem NC{α:Type}[Inhabited α](l:List α)(x:α)(h:i=l.length):AA (l++[x]) i=x:=by grind[On]
variable{l:Fp}{k:Int}
theorem Yh{b:Bool}(h:(!(b&&l.any λx=>decide (k=x)))=X)(hb:b=X)(d:l.Nodup):(l++[k]).Nodup:=m?
theorem Zy:∀(n:Nat)(f:AM),sj f->f.ec.length=f.p.d3.length->f.eh.length+n=f.p.d4.length->∀m∈EM n f,kE f m
 |0,f,j,y,he,m,d=>by
  rw [EM,List.mem_singleton]at d;subst d;exact⟨y,by simpa using he,j.node,j.edge,j.inj⟩
 |n+1,f,j,y,he,m,d=>by
  rw [EM,y?]at d;obtain⟨k,u,d⟩:=d;have u:=C6.1 u;split at d
  .rename_i o;unfold SU at o;rw[pq]at o;obtain⟨r,w⟩:=o;rw[Xo,pq,tn]at r;have:=Zy n {f with eh:=f.eh++[k]} ⟨j.nl,j.node,λi z i1=>by
    have i1:i<((f.eh++[k]).length:Int):=i1;simp at i1;show(0<=AA (f.eh++[k]) i/\AA (f.eh++[k]) i<f.g.d4.length)/\AA f.g.d4 (AA (f.eh++[k]) i)=⟨(AA f.p.d4 i).kg,AA f.ec (AA f.p.d4 i).ke,AA f.ec (AA f.p.d4 i).To⟩;by_cases e:i=f.eh.length
    .rw[NC _ _ e];exact⟨u,by rw[e];exact r.2⟩
    .rw[Ll _ _ z U];exact j.edge i z U,λhi=>⟨(j.inj hi).1,Yh w hi (j.inj hi).2⟩⟩ y (by show(f.eh++[k]).length+n=f.p.d4.length;rw[b6,z_];omega) m d
   exact ⟨this.nl,this.el,this.node,this.edge,this.inj⟩
  .cases d
theorem Zz:∀(n:Nat)(f:AM),sj f->f.eh=[]->f.ec.length+n=f.p.d3.length->∀m∈FT n f,kE f m
 |0,f,o,he,z,m,j=>by
  grind [FT,Zy]
 |n+1,f,o,he,z,m,j=>by
  rw [FT,y?]at j;obtain⟨k,u,j⟩:=j;have u:=C6.1 u;split at j
  .rename_i d;unfold SV at d;rw[pq,pq]at d;obtain⟨⟨_,w⟩,y⟩:=d;have:=Zz n {f with ec:=f.ec++[k]} ⟨by show(f.ec++[k]).length<=f.p.d3.length;rw[b6,z_];omega,λi r i1=>by
    have i1:i<((f.ec++[k]).length:Int):=i1;simp at i1;show(0<=AA (f.ec++[k]) i/\AA (f.ec++[k]) i<f.g.d3.length)/\AA (AA f.is (AA f.p.d3 i)) (AA f.g.d3 (AA (f.ec++[k]) i))=X;by_cases e:i=f.ec.length
    .rw[NC _ _ e];exact⟨u,by rw[e];exact w⟩
    .rw[Ll _ _ r U];exact o.node i r U,λi r i1=>by
    have i1:i<(f.eh.length:Int):=i1;rw[he]at i1;have:i<(0:Nat):=i1;omega,λhi=>⟨Yh y hi (o.inj hi).1,(o.inj hi).2⟩⟩ he (by show(f.ec++[k]).length+n=f.p.d3.length;rw[b6,z_];omega) m j
   exact ⟨this.nl,this.el,this.node,this.edge,this.inj⟩
  .cases j
variable{t:AC}{m:d6}
theorem YL{p g:d5}{pa:d6}{inj:Bool}(d:m∈JY t p g pa inj):kE (FF t p g pa inj) m:=
 Zz _ (FF t p g pa inj) ⟨Nat.zero_le _,λi e i1=>by have i1:i<(0:Nat):=i1;omega,λi e i1=>by have i1:i<(0:Nat):=i1;omega,λ_=>⟨z!,z!⟩⟩ rfl p? m (List.mem_of_mem_take d)
theorem eG{p g:d5}{pa:d6}{inj:Bool}(h:Ep t p g=0)(r:m∈JY t p g pa inj):Zv t p g m:=by
 obtain ⟨hv,z,A,tp,u⟩:=Oi h;have:=YL r;refine⟨this.nl,this.el,λi d i1=>?_,λi d i1=>(this.edge i d i1).1⟩;obtain⟨e,o⟩:=this.node i d i1;refine⟨e,?_⟩;have j:=this.nl;have w:=tp _ (AF (l:=p.d3) d (by show i<(p.d3.length:Int);have j:m.d3.length=p.d3.length:=j;omega));have y:=u _ (AF (l:=g.d3) e.1 e.2);have o:AA (AA (KB t) (AA p.d3 i)) (AA g.d3 (AA m.d3 i))=X:=o
 grind [AA,KB,Pq,JI,G2]
theorem nE{p g:d5}{pa:d6}{inj:Bool}(h:Ep t p g=0)(o:m∈JY t p g pa inj):Ga t p g m inj=0:=by
 have ok:=eG h o;have r:=YL o;have u:OZ t p g m=0:=by
  unfold OZ;rw[ae (by have:=ok.Aal;have:=ok.Aap;omega)];have w:fst (KT t p g m) 0 m.d3.length=W:=by
   rw [BH];intro i d i1;obtain⟨e,j⟩:=ok.node i d i1
   grind [KT]
  have y:fst (Gl p g m) 0 m.d4.length=W:=by
   rw [BH];intro i d i1;obtain⟨e,j⟩:=r.edge i d i1;have e:0<=AA m.d4 i/\AA m.d4 i<g.d4.length:=e;have j:AA g.d4 (AA m.d4 i)=⟨(AA p.d4 i).kg,AA m.d3 (AA p.d4 i).ke,AA m.d3 (AA p.d4 i).To⟩:=j
   grind [Gl]
  rw [w,y];rfl
 unfold Ga;rw[ae s?,ae p_];cases inj
 .rfl
 .have:=r.inj rfl
  grind [Ij,Jy]
theorem dr{p g:d5}{pa:d6}{inj:Bool}(h:(UH t p g pa inj).2=0):(UH t p g pa inj).1.length<=5000/\∀m∈(UH t p g pa inj).1,Zv t p g m:=by grind[UH,eG]
structure Xv(t:AC)(p:ea)(h:AG)(x:AP):Prop where
 q:Uy t p
 m:Zv t p.d5 h.d5 x.d6
 len:(x.fd.length:Int)=p.fd
 small:RH x.fd
structure mL(t:AC)(p:ea)(c:d7):Prop where
 q:Uy t c.ea
 vars:p.fd<=c.ea.fd
 map:T6 p.d5 c.ea.d5 c.Map
 inj:Ij c.Map=X
def EG(t:AC)(c:d7)(h:AG)(m:AP)(inj:Bool):List AP×Int:=
 let x:=UH t c.ea.d5 h.d5 ⟨Vt c.ea.d5.d3.length c.Map.d3 m.d6.d3,Vt c.ea.d5.d4.length c.Map.d4 m.d6.d4⟩ inj
 if x.2≠0 then([],x.2)else((x.1.filter λy=>(Oe c.ea h y m.fd).2).map λy=>⟨y,(Oe c.ea h y m.fd).1⟩,0)
instance:Inhabited d6:=⟨⟨[],[]⟩⟩
instance:Inhabited AP:=⟨⟨default,[]⟩⟩
instance:Inhabited BN:=⟨⟨0,default,[]⟩⟩
theorem Qe{x:List d6}{F:d6->Fp×Bool}{f:Int->List AP->Option (List AP)}(j:x.length<=5000)
  (hf:∀(i:Int)(s:List AP),0<=i->i<x.length->s.length<=5000->f i s=Y (if(F (AA x i)).2=X then s++[⟨AA x i,(F (AA x i)).1⟩]else s)):
  n8 f 0 (x.length:Int) []=Y ((x.filter λy=>(F y).2).map λy=>⟨y,(F y).1⟩):=by
 rw [CC (a:=0) (b:=x.length) (s:=[]) (λi=>((x.take i.toNat).filter λy=>(F y).2).map λy=>(⟨y,(F y).1⟩:AP)) U rfl,A?,List.take_length];intro i d i1;have e:(((x.take i.toNat).filter λy=>(F y).2).map λy=>(⟨y,(F y).1⟩:AP)).length<=5000:=by
  grind
 rw [hf i _ d i1 e,CH d i1,List.filter_append,List.map_append];cases g:(F (AA x i)).2<;>simp[g]
variable{p:ea}{c:d7}
theorem xZ{s:Bm}{m:AP}(hf:A3 s.t)(hv:(BC s.t).2=0)(hh:Ie s.t s.h)(ha:Xv s.t p s.h m)(hi:mL s.t p c):Ce s c m=Y (EG s.t c s.h m s.fq):=by
 have A:=hi.q.g.ec;have ge:=hi.q.g.eh;have m1:=hi.map.Aal;have B:=hi.map.Aap;have C:=ha.m.Aal;have D:=ha.m.Aap;unfold Ce EG;rw[fQ U (λx e=>by obtain⟨i,d,i1,rfl⟩:=BT e;exact(hi.map.node i d i1).1) U,bs,
  fQ U (λx e=>by obtain⟨i,d,i1,rfl⟩:=BT e;exact(hi.map.edge i d i1).1) U,bs,qh hf,bs]
 dsimp only;refine Dy λj=>?_;obtain⟨u,w⟩:=dr j;rw[Qe (F:=λy=>Oe c.ea s.h y m.fd) u]
 .rfl
 .intro i st d i1 z;have o:=w _ (AF d i1);have r:(m.fd.length:Int)<=c.ea.fd:=so
  rw [AD d i1,bs,xm hi.q (λx e=>O4 (Cq hv) hi.q hh o e) r ha.small,bs,<-I7]
  grind [AS,AX]
variable{h:AG}
theorem xz{inj:Bool}{m:AP}(hf:A3 t)(hv:(BC t).2=0)(hh:Ie t h)(ha:Xv t p h m)(hi:mL t p c):FY t c h m inj=Y (EG t c h m inj):=by
 have A:=hi.q.g.ec;have ge:=hi.q.g.eh;have m1:=hi.map.Aal;have B:=hi.map.Aap;have C:=ha.m.Aal;have D:=ha.m.Aap;unfold FY EG;rw[fg U (λx e=>by obtain⟨i,d,i1,rfl⟩:=BT e;exact(hi.map.node i d i1).1) U,bs,
  fg U (λx e=>by obtain⟨i,d,i1,rfl⟩:=BT e;exact(hi.map.edge i d i1).1) U,bs,rC hf,bs]
 dsimp only;refine Dy λj=>?_;obtain⟨u,w⟩:=dr j;rw[Qe (F:=λy=>Oe c.ea h y m.fd) u]
 .rfl
 .intro i st d i1 z;have o:=w _ (AF d i1);have r:(m.fd.length:Int)<=c.ea.fd:=so
  rw [AD d i1,bs,yL hi.q (λx e=>O4 (Cq hv) hi.q hh o e) r ha.small,bs,<-I7]
  grind [AS,AX]
theorem iy{inj:Bool}{m:AP}(hv:(BC t).2=0)(hh:Ie t h)(ha:Xv t p h m)(hi:mL t p c)(e:(EG t c h m inj).2=0):(EG t c h m inj).1.length<=5000/\∀x∈(EG t c h m inj).1,Xv t c.ea h x:=by
 unfold EG at e|-;dsimp only at e|-;split at e
 .grind
 rename_i j;rw[ae j];obtain⟨u,w⟩:=dr (z?.1 j);refine⟨by dsimp only;rw[c9];exact Nat.le_trans (List.length_filter_le _ _) u,λx d=>?_⟩;dsimp only at d;rw[List.mem_map]at d;obtain⟨y,g,rfl⟩:=d;rw[List.mem_filter]at g;have o:=w y g.1;have r:(m.fd.length:Int)<=c.ea.fd:=so
 have:=sd hi.q (λx d=>O4 (Cq hv) hi.q hh o d) r ha.small g.2;exact⟨hi.q,o,this.1,this.2⟩
end Go.Sf.Sc
namespace Go.Sf.Sc
open Go Go.Sf
inductive CV(t:AC):ea->d7->Prop where
 |mk (p:ea) (c:d7) (few:c.fu.length<=40) (rng:1<=c.kq/\c.kq<=5) (one:c.kq=2\/c.kq=5->c.fu.length=1) (ins:c.kq=5->mL t p c) (kids:∀k∈c.fu,CV t (if c.kq=5 then c.ea else p) k):CV t p c
variable{t:AC}{p:ea}{c:d7}
theorem CV.few(h:CV t p c):c.fu.length<=40:=j_
theorem CV.rng(h:CV t p c):1<=c.kq/\c.kq<=5:=j_
theorem CV.one(h:CV t p c):c.kq=2\/c.kq=5->c.fu.length=1:=j_
theorem CV.ins(h:CV t p c):c.kq=5->mL t p c:=j_
theorem CV.kids(h:CV t p c):∀k∈c.fu,CV t (if c.kq=5 then c.ea else p) k:=j_
theorem CV.kid(h:CV t p c)(d:¬c.kq=5):∀k∈c.fu,CV t p k:=λk e=>by have:=h.kids k e;rwa[ae d]at this
theorem CV.kid5(h:CV t p c)(d:c.kq=5):∀k∈c.fu,CV t c.ea k:=λk e=>by have:=h.kids k e;rwa[ac d]at this
theorem VM:∀l:List d7,l.length<=TO l
 |[]=>by simp|c::l=>by
  have:=VM l
  grind [TO,Dv,VN,cE]
variable{q:ea}{v:Int}
theorem AAr(hv:(BC t).2=0)(h:TT t q v=0):Uy t q:=by grind[TT,qy]
theorem s8(hv:(BC t).2=0):∀(N:Nat)(c:d7)(p:ea),SizeOf.sizeOf c<=N->Dv c<=40->T3 N c=X->I4 N t p c=0->CV t p c
 |0,c,_,h,_,_,_=>by have:=Dx c;omega|N+1,c,p,h,L,z,ho=>by
  have E:=VN c;have F:=VM c.fu;rw[T3,pq]at z;obtain⟨u,o⟩:=z;have d:c.kq=2\/c.kq=5->c.fu.length=1:=by
   intro j;unfold UQ at u
   grind
  have g:1<=c.kq/\c.kq<=5:=by
   grind [UQ]
  have w:∀q,(fst (λi=>nz (I4 N t q (AA c.fu i))) 0 c.fu.length).getD 0=0->∀k∈c.fu,CV t q k:=by
   intro q A k j;have G:=Va A;have J:=XI j;have K:=Eb j;rw[List.all_eq_true]at o;obtain⟨i,H,i1,e⟩:=BT j;have y:=G i H i1;rw[e]at y;exact s8 hv N k q U U (o k j) y
  rw [I4]at ho;by_cases r:c.kq=5
  .rw[ac r]at ho;split at ho
   .cases ho
   rename_i I;split at ho
   .grind
   rename_i B;split at ho
   .grind
   rename_i C;split at ho
   .cases ho
   rename_i D;refine CV.mk p c U g d (λ_=>⟨AAr hv (z?.1 B),U,WS (z?.1 C),by simpa using D⟩) ?_
   grind
  .rw[ae r]at ho;refine CV.mk p c U g d (λe=>absurd e r) ?_
   grind
section
variable{α σ ρ:Type}
variable{f:Int->σ->Option (B0 σ ρ)}
theorem U1[Inhabited α]{l:List α}(step:α->σ->B0 σ ρ)(I:Int->σ->Prop)(h:∀(i:Int)s,0<=i->i<l.length->I i s->f i s=Y (step (AA l i) s)/\∀s',step (AA l i) s=.next s'->I (i+1) s'):
  ∀(n:Nat)(a:Int)(s:σ),0<=a->a+n=l.length->I a s->z1 f n a s=Y (Ek step (l.drop a.toNat) s)
 |0,a,s,d,o,_=>by
  rw [w? U];rfl
 |n+1,a,s,d,o,u=>by
  obtain ⟨g,j⟩:=h a s d U u;have hd:l.drop a.toNat=AA l a::l.drop (a+1).toNat:=by
   grind [x_,AA,x!]
  rw [GF,g,hd,Ek];cases e:step (AA l a) s with
  |next s'=>
   simp only;exact U1 step I h n (a+1) s' U U (j s' e)
  |brk s'=>rfl|ret r=>rfl
theorem YK[Inhabited α]{l:List α}(step:α->σ->B0 σ ρ)(I:Int->σ->Prop){s:σ}(d:I 0 s)(h:∀(i:Int)s,0<=i->i<l.length->I i s->f i s=Y (step (AA l i) s)/\∀s',step (AA l i) s=.next s'->I (i+1) s'):
  jj f 0 l.length s=Y (Ek step l s):=by
 have:=U1 step I h l.length 0 s U U d;unfold jj;rw[show((l.length:Int)-0).toNat=l.length by omega];exact this
theorem Y1{d s2:α->σ->B0 σ ρ}:∀{l:List α}{s:σ},(∀a∈l,d a=s2 a)->Ek d l s=Ek s2 l s
 |[],_,_=>rfl|a::l,s,h=>by
  rw [Ek,Ek,h a V];split
  .exact Y1 λb hb=>h b (by simp[hb])
  .rfl
  .rfl
end
abbrev zM:AP:=⟨⟨[],[]⟩,[]⟩
abbrev zP:BN:=⟨0,zM,[]⟩
def PB(w:d7->BN×Int)(k:d7)(s:BN×BN):B0 (BN×BN) (BN×Int):=
 if (w k).2≠0 then .ret (zP,(w k).2)else .next (s.1,⟨s.2.Aaw,s.2.og,s.2.fu++[(w k).1]⟩)
def VE(w:d7->BN×Int)(l:List d7):BN×Int:=
 match Ek (PB w) l (zP,zP)with
 |.inl s=>(s.2,0)|.inr r=>r
def DE(t:AC)(h:AG)(inj:Bool):Nat->d7->AP->BN×Int
 |0,_,_=>(zP,0)|N+1,c,m=>
  if c.kq=2 then(if(DE t h inj N (AA c.fu 0) m).2=0 then(zP,10)else if(DE t h inj N (AA c.fu 0) m).2=10 then(zP,0)else(zP,(DE t h inj N (AA c.fu 0) m).2))else
  if c.kq=3 then VE (λk=>DE t h inj N k m) c.fu else
  if c.kq=4 then(fst (λi=>if(DE t h inj N (AA c.fu i) m).2=0 then Y (⟨i,zM,[(DE t h inj N (AA c.fu i) m).1]⟩,0)else if(DE t h inj N (AA c.fu i) m).2≠10 then Y (zP,(DE t h inj N (AA c.fu i) m).2)else W) 0 c.fu.length).getD (zP,10)else
  if c.kq=5 then
   (if(EG t c h m inj).2≠0 then(zP,(EG t c h m inj).2)else
   (fst (λi=>if(DE t h inj N (AA c.fu 0) (AA (EG t c h m inj).1 i)).2=0 then Y (⟨0,AA (EG t c h m inj).1 i,[(DE t h inj N (AA c.fu 0) (AA (EG t c h m inj).1 i)).1]⟩,0)else
    if (DE t h inj N (AA c.fu 0) (AA (EG t c h m inj).1 i)).2≠10 then Y (zP,(DE t h inj N (AA c.fu 0) (AA (EG t c h m inj).1 i)).2)else W) 0 (EG t c h m inj).1.length).getD (zP,10))else
  (zP,0)
def DD(t:AC)(h:AG)(inj:Bool):Nat->d7->AP->BN×Int
 |0,_,_=>(zP,0)|N+1,c,m=>
  if c.kq=2 then(if(DD t h inj N (AA c.fu 0) m).2=0 then(zP,10)else if(DD t h inj N (AA c.fu 0) m).2=10 then(zP,0)else(zP,(DD t h inj N (AA c.fu 0) m).2))else
  if c.kq=3 then VE (λk=>DD t h inj N k m) c.fu else
  if c.kq=4 then(fst (λi=>if(DD t h inj N (AA c.fu i) m).2≠10 then Y (⟨i,zM,[(DD t h inj N (AA c.fu i) m).1]⟩,(DD t h inj N (AA c.fu i) m).2)else W) 0 c.fu.length).getD (zP,10)else
  if c.kq=5 then
   (if(EG t c h m inj).2≠0 then(zP,(EG t c h m inj).2)else
   (fst (λi=>if(DD t h inj N (AA c.fu 0) (AA (EG t c h m inj).1 i)).2≠10 then Y (⟨0,AA (EG t c h m inj).1 i,[(DD t h inj N (AA c.fu 0) (AA (EG t c h m inj).1 i)).1]⟩,(DD t h inj N (AA c.fu 0) (AA (EG t c h m inj).1 i)).2)else W) 0 (EG t c h m inj).1.length).getD (zP,10))else
  (zP,0)
def Nv(x:BN×Int):BN×Int:=if x.2=0 then x else(zP,x.2)
theorem na(x:BN×Int):(Nv x).2=x.2:=by unfold Nv;split<;>rfl
theorem nZ{x:BN×Int}(h:x.2=0):(Nv x).1=x.1:=by unfold Nv;rw[ac h]
theorem pj(w:d7->BN×Int)(l:List d7):Nv (VE w l)=VE w l:=by
 unfold VE;have:∀(l:List d7)(s:BN×BN)(r:BN×Int),Ek (PB w) l s=.inr r->Nv r=r:=by
  intro l
  induction l with
  |nil=>intro s r h;cases h
  |cons a l g=>
   intro s r h;rw[Ek]at h;split at h
   .exact g _ _ h
   .cases h
   .rename_i j d;cases h;unfold PB at d;split at d
    next e=>cases d;unfold Nv;rw[ae e]
    .cases d
 cases hr:Ek (PB w) l (zP,zP)with
 |inl s=>rfl|inr r=>exact this _ _ _ hr
theorem aR(o:Option (BN×Int)):Nv (o.getD (zP,10))=(o.map Nv).getD (zP,10):=by cases o<;>rfl
theorem kA(t:AC)(h:AG)(inj:Bool):∀(N:Nat)(c:d7)(m:AP),DE t h inj N c m=Nv (DD t h inj N c m)
 |0,_,_=>rfl|N+1,c,m=>by
  have w:=kA t h inj N;have key:∀(c:d7)(m:AP),(DE t h inj N c m).2=(DD t h inj N c m).2:=λc m=>by rw[w,na]
  have pick:∀(k:d7)(m x:AP)(i:Int),(if(DE t h inj N k m).2=0 then Y ((⟨i,x,[(DE t h inj N k m).1]⟩:BN),(0:Int))else if(DE t h inj N k m).2≠10 then Y (zP,(DE t h inj N k m).2)else W)=(if(DD t h inj N k m).2≠10 then Y ((⟨i,x,[(DD t h inj N k m).1]⟩:BN),(DD t h inj N k m).2)else W).map Nv:=by
   intro k m x i;rw[key];by_cases d:(DD t h inj N k m).2=0
   .rw[ac d,ac U,w,nZ d];simp[Nv,d]
   .rw[ae d];by_cases e:(DD t h inj N k m).2≠10
    .rw[ac e,ac e];simp[Nv,d]
    grind
  rw [DE,DD];by_cases j:c.kq=2
  .rw[ac j,ac j,key];by_cases d:(DD t h inj N (AA c.fu 0) m).2=0
   .rw[ac d];rfl
   .rw[ae d];by_cases e:(DD t h inj N (AA c.fu 0) m).2=10
    .rw[ac e];rfl
    .rw[ae e];unfold Nv;rw[ae d]
  rw [ae j,ae j];by_cases o:c.kq=3
  .rw[ac o,ac o,pj];unfold VE;rw[Y1 (s2:=PB λk=>DD t h inj N k m)];intro k _;funext s;unfold PB;simp only[key];by_cases d:(DD t h inj N k m).2=0
   .rw[ae (by simp[d]),ae (by simp[d]),w,nZ d]
   .rw[ac d,ac d]
  rw [ae o,ae o];by_cases r:c.kq=4
  .rw[ac r,ac r,aR,<-KX];congr 1;exact congrArg (λF=>fst F 0 (c.fu.length:Int)) (funext λi=>pick _ _ _ _)
  rw [ae r,ae r];by_cases u:c.kq=5
  .rw[ac u,ac u];by_cases g:(EG t c h m inj).2≠0
   .rw[ac g,ac g];unfold Nv;rw[ae g]
   .rw[ae g,ae g,aR,<-KX];congr 1;exact congrArg (λF=>fst F 0 ((EG t c h m inj).1.length:Int)) (funext λi=>pick _ _ _ _)
  rw [ae u,ae u];rfl
end Go.Sf.Sc
namespace Go.Sf.Sc
open Go Go.Sf
def S1(i:Int)(s:BN×BN):Prop:=(s.2.fu.length:Int)=i
theorem Yp{s:Bm}(hf:A3 s.t)(hv:(BC s.t).2=0)(hh:Ie s.t s.h):∀(N:Nat)(c:d7)(p:ea)(m:AP),SizeOf.sizeOf c<=N->CV s.t p c->Xv s.t p s.h m->∀n,2*N<=n->BA n s c m=Y (DE s.t s.h s.fq N c m)
 |0,c,_,_,h,_,_,_,_=>by have:=Dx c;omega|N+1,c,p,m,h,j,ha,n,C=>by
  obtain ⟨n,rfl⟩:∃k,n=k+2:=⟨n-2,U⟩;have kid:∀(i:Int),0<=i->i<c.fu.length->SizeOf.sizeOf (AA c.fu i)<=N:=λi d i1=>by
   have:=Eb (AF (l:=c.fu) d i1);omega
  rw [BA,DE];by_cases o:c.kq=2
  .have B:=j.one (.inl o);rw[ac g_,ac o,AD U U,bs,Yp hf hv hh N _ p m (kid 0 U U) (j.kid U _ (AF U U)) ha (n+1) U,bs]
   grind
  rw [ae g_,ae o];by_cases w:c.kq=3
  .rw[ac v6,ac w];have z:=j.few;rw[YK (PB λk=>DE s.t s.h s.fq N k m) S1 (show S1 0 (zP,zP)from rfl)]
   .unfold VE;show em (Y (Ek (PB λk=>DE s.t s.h s.fq N k m) c.fu (zP,zP))) _ _=_;cases Ek (PB λk=>DE s.t s.h s.fq N k m) c.fu (zP,zP)<;>rfl
   .intro i st d i1 hi;unfold S1 at hi;rw[AD d i1,bs,Yp hf hv hh N _ p m (kid i d i1) (j.kid U _ (AF d i1)) ha (n+1) U,bs]
    grind [PB,DE,AA,AS,AX,S1]
  rw [ae v6,ae w];by_cases y:c.kq=4
  .rw[ac (by simpa using y),ac y];rw[Gt (λ_=>zP) (λi=>if(DE s.t s.h s.fq N (AA c.fu i) m).2=0 then Y (⟨i,zM,[(DE s.t s.h s.fq N (AA c.fu i) m).1]⟩,0)else if(DE s.t s.h s.fq N (AA c.fu i) m).2≠10 then Y (zP,(DE s.t s.h s.fq N (AA c.fu i) m).2)else W) U rfl]
   .cases fst (λi=>if(DE s.t s.h s.fq N (AA c.fu i) m).2=0 then Y ((⟨i,zM,[(DE s.t s.h s.fq N (AA c.fu i) m).1]⟩:BN),(0:Int))else if(DE s.t s.h s.fq N (AA c.fu i) m).2≠10 then Y (zP,(DE s.t s.h s.fq N (AA c.fu i) m).2)else W) 0 c.fu.length<;>rfl
   .intro i d i1 _;rw[AD d i1,bs,Yp hf hv hh N _ p m (kid i d i1) (j.kid U _ (AF d i1)) ha (n+1) U,bs];generalize DE s.t s.h s.fq N (AA c.fu i) m=x;by_cases g:x.2=0
    .rw[ac g?,ac g];try rfl
    .rw[ae g?,ae g];by_cases e:x.2=10
     .rw[ae c_,ae c_];try rfl
     .rw[ac c_,ac e];try rfl
  rw [ae (by simpa using y),ae y];by_cases r:c.kq=5
  .rw[ac o2,ac r];have hi:=j.ins r;have B:=j.one (.inr r);rw[Bh,xZ hf hv hh ha hi,bs];by_cases u:(EG s.t c s.h m s.fq).2=0
   .obtain⟨e,A⟩:=iy hv hh ha hi u;rw[ae p_,ae p_];generalize (EG s.t c s.h m s.fq).1=l at e A;rw[Gt (λ_=>zP) (λi=>if(DE s.t s.h s.fq N (AA c.fu 0) (AA l i)).2=0 then Y (⟨0,AA l i,[(DE s.t s.h s.fq N (AA c.fu 0) (AA l i)).1]⟩,0)else if(DE s.t s.h s.fq N (AA c.fu 0) (AA l i)).2≠10 then Y (zP,(DE s.t s.h s.fq N (AA c.fu 0) (AA l i)).2)else W) U rfl]
    .cases fst (λi=>if(DE s.t s.h s.fq N (AA c.fu 0) (AA l i)).2=0 then Y ((⟨0,AA l i,[(DE s.t s.h s.fq N (AA c.fu 0) (AA l i)).1]⟩:BN),(0:Int))else if(DE s.t s.h s.fq N (AA c.fu 0) (AA l i)).2≠10 then Y (zP,(DE s.t s.h s.fq N (AA c.fu 0) (AA l i)).2)else W) 0 l.length<;>rfl
    .intro i d i1 _;rw[AD d i1,bs,AD U U,bs,Yp hf hv hh N _ c.ea _ (kid 0 U U) (j.kid5 r _ (AF U U)) (A _ (AF d i1)) n U,bs];generalize DE s.t s.h s.fq N (AA c.fu 0) (AA l i)=x;by_cases g:x.2=0
     .rw[ac g?,ac g];try rfl
     .rw[ae g?,ae g];by_cases e:x.2=10
      .rw[ae c_,ae c_];try rfl
      .rw[ac c_,ac e];try rfl
   .rw[ac p_,ac u];try rfl
  grind
variable{t:AC}
theorem Tt{d:AG}{inj:Bool}(hf:A3 t)(hv:(BC t).2=0)(hh:Ie t d):∀(N:Nat)(c:d7)(p:ea)(m:AP),SizeOf.sizeOf c<=N->CV t p c->Xv t p d m->∀n,N<=n->DJ n t c d m inj=Y (DD t d inj N c m)
 |0,c,_,_,h,_,_,_,_=>by have:=Dx c;omega|N+1,c,p,m,h,j,ha,n,C=>by
  obtain ⟨n,rfl⟩:∃k,n=k+1:=⟨n-1,U⟩;have kid:∀(i:Int),0<=i->i<c.fu.length->SizeOf.sizeOf (AA c.fu i)<=N:=λi e i1=>by
   have:=Eb (AF (l:=c.fu) e i1);omega
  rw [DJ,DD];by_cases o:c.kq=2
  .have B:=j.one (.inl o);rw[ac g_,ac o,AD U U,bs,Tt hf hv hh N _ p m (kid 0 U U) (j.kid U _ (AF U U)) ha n U,bs]
   grind
  rw [ae g_,ae o];by_cases u:c.kq=3
  .rw[ac i9,ac u];have z:=j.few;rw[YK (PB λk=>DD t d inj N k m) S1 (show S1 0 (zP,zP)from rfl)]
   .unfold VE;show em (Y (Ek (PB λk=>DD t d inj N k m) c.fu (zP,zP))) _ _=_;cases Ek (PB λk=>DD t d inj N k m) c.fu (zP,zP)<;>rfl
   .intro i st e i1 hi;unfold S1 at hi;rw[AD e i1,bs,Tt hf hv hh N _ p m (kid i e i1) (j.kid U _ (AF e i1)) ha n U,bs]
    grind [PB,DD,AA,AS,AX,S1]
  rw [ae i9,ae u];by_cases w:c.kq=4
  .rw[ac v6,ac w];rw[Gt (λ_=>zP) (λi=>if(DD t d inj N (AA c.fu i) m).2≠10 then Y (⟨i,zM,[(DD t d inj N (AA c.fu i) m).1]⟩,(DD t d inj N (AA c.fu i) m).2)else W) U rfl]
   .cases fst (λi=>if(DD t d inj N (AA c.fu i) m).2≠10 then Y ((⟨i,zM,[(DD t d inj N (AA c.fu i) m).1]⟩:BN),(DD t d inj N (AA c.fu i) m).2)else W) 0 c.fu.length<;>rfl
   .intro i e i1 _;rw[AD e i1,bs,Tt hf hv hh N _ p m (kid i e i1) (j.kid U _ (AF e i1)) ha n U,bs];generalize DD t d inj N (AA c.fu i) m=x;by_cases g:x.2=10
    .rw[ae o!,ae o!];try rfl
    .rw[ac o!,ac g];try rfl
  rw [ae v6,ae w];by_cases r:c.kq=5
  .rw[ac o2,ac r];have hi:=j.ins r;have B:=j.one (.inr r);rw[xz hf hv hh ha hi,bs];by_cases y:(EG t c d m inj).2=0
   .obtain⟨g,A⟩:=iy hv hh ha hi y;rw[ae (by simp[y]),ae (by simp[y])];generalize (EG t c d m inj).1=l at g A;rw[Gt (λ_=>zP) (λi=>if(DD t d inj N (AA c.fu 0) (AA l i)).2≠10 then Y (⟨0,AA l i,[(DD t d inj N (AA c.fu 0) (AA l i)).1]⟩,(DD t d inj N (AA c.fu 0) (AA l i)).2)else W) U rfl]
    .cases fst (λi=>if(DD t d inj N (AA c.fu 0) (AA l i)).2≠10 then Y ((⟨0,AA l i,[(DD t d inj N (AA c.fu 0) (AA l i)).1]⟩:BN),(DD t d inj N (AA c.fu 0) (AA l i)).2)else W) 0 l.length<;>rfl
    .intro i e i1 _;rw[AD U U,bs,AD e i1,bs,Tt hf hv hh N _ c.ea _ (kid 0 U U) (j.kid5 r _ (AF U U)) (A _ (AF e i1)) n U,bs];generalize DD t d inj N (AA c.fu 0) (AA l i)=x;by_cases g:x.2=10
     .rw[ae o!,ae o!];try rfl
     .rw[ac o!,ac g];try rfl
   grind
  grind
end Go.Sf.Sc
namespace Go.Sf.Sc
open Go Go.Sf
noncomputable def VK(t:AC)(p:ea)(c:d7)(h:AG)(m:AP)(inj:Bool):Int:=
 if JS t p c≠0 then JS t p c else if(Dq t h).2≠0 then(Dq t h).2 else if Ga t p.d5 h.d5 m.d6 inj≠0 then Ga t p.d5 h.d5 m.d6 inj else
 if (Gd t p h m.d6).2≠0 then(Gd t p h m.d6).2 else if(Gd t p h m.d6).1=m.fd then 0 else 11
variable{t:AC}{c:d7}
theorem qe(hf:A3 t)(p:ea)(d:EL c)(h:AG)(m:AP)(inj:Bool):GD t p c h m inj=Y (VK t p c h m inj):=by
 unfold GD VK;rw[ug hf p d,bs];refine EO λ_=>?_;rw[Vq hf,bs];refine EO λ_=>?_;rw[Zf hf,bs];refine EO λ_=>?_;rw[jN hf,bs];refine EO λ_=>?_;rw[Pc,bs]
 grind
variable{p:ea}{h:AG}
theorem YD(hf:A3 t)(z:Dv c<=40){m:AP}{inj:Bool}(e:VK t p c h m inj=0):(BC t).2=0/\Ie t h/\CV t p c/\Xv t p h m:=by
 unfold VK at e;split at e
 .grind
 rename_i d;split at e
 .grind
 rename_i j;split at e
 .grind
 rename_i o;split at e
 .grind
 rename_i r;split at e
 case isFalse=>cases e
 rename_i C;have d:=z?.1 d;have j:=z?.1 j;have o:=z?.1 o;have r:=z?.1 r;obtain⟨hv,hh⟩:=QJ hf j;have w:=(df o).2;unfold JS at d;split at d
 .grind
 rename_i A;split at d
 .grind
 rename_i u;have y:=qy hv (.inl (z?.1 A));have u:=z?.1 u;have B:j7 c=X:=by
  grind [M3]
 suffices g:(m.fd.length:Int)=p.fd/\RH m.fd from⟨hv,hh,s8 hv _ c p (az _) z B d,y,w,g.1,g.2⟩
 have g:∀s∈p.ek,KP p.fd h m.d6 s:=λs g=>O4 (Cq hv) y hh w g
 grind [Gd,ov]
end Go.Sf.Sc
namespace Go.Sf.Sc
open Go Go.Sf
def R5:Nat->d7->Bool
 |0,_=>X|N+1,c=>if l3 (λi=>!R5 N (AA c.fu i)) 0 c.fu.length=X then T else decide (AJ ((c.ea.d5.d3.length:Int)+c.ea.d5.d4.length)<=6)
theorem bE:∀(N:Nat)(c:d7),SizeOf.sizeOf c<=N->∀n,N<=n->GV n c=Y (R5 N c)
 |0,c,h,_,_=>by have:=Dx c;omega|N+1,c,h,n,e=>by
  obtain ⟨n,rfl⟩:∃k,n=k+1:=⟨n-1,U⟩;rw[GV,R5,Bf (λi=>!R5 N (AA c.fu i)) T]
  .cases l3 (λi=>!R5 N (AA c.fu i)) 0 c.fu.length<;>rfl
  .intro i d i1 _;have:=Eb (AF (l:=c.fu) d i1);rw[AD d i1,bs,bE N _ U n U,bs,I7]
theorem rH(c:d7):Sd c=Y (R5 (SizeOf.sizeOf c) c):=D0 (SizeOf.sizeOf c) λn d=>bE _ c (az _) n d
def Vj(a:Int):Nat->Int->Int
 |0,s=>s|k+1,s=>AJ (Vj a k s*a)
theorem tL{a b k s:Int}(g:0<=k)(e:k<=1000)(hb:b<=1000):C3 (ρ:=Bool) (λ(d:Int×Int)=>
  if (decide (d.2<b))=X then
  Y (.next (AJ (d.1*a),AJ (d.2+1)))
  else
  Y (.brk (d.1,d.2))) (s,k)=Y (.inl (Vj a (max k b-k).toNat s,max k b)):=by
 refine Pz (λi=>Vj a (i-k).toNat s) U (by rw[show(k-k).toNat=0 by omega];rfl) (λi j i1=>?_) ?_
 .rw[ac an,show(i+1-k).toNat=(i-k).toNat+1 by omega,Vj];dsimp only;rw[AT (n:=i+1) U U]
 .rw[ae an]
def SJ(a b:Int):Nat->ea->d7->Bool
 |0,_,_=>X|N+1,p,c=>
  let q:=if c.kq=5 then c.ea else p
  if l3 (λi=>!SJ a b N q (AA c.fu i)) 0 c.fu.length=X then T else
  decide (Vj b (max (p.d5.d4.length:Int) q.d5.d4.length-p.d5.d4.length).toNat (Vj a (max (p.d5.d3.length:Int) q.d5.d3.length-p.d5.d3.length).toNat 1)<=5000)
theorem fc(a b:Int):∀(N:Nat)(c:d7)(p:ea),SizeOf.sizeOf c<=N->EL c->P5 p->∀n,N<=n->Ei n p c a b=Y (SJ a b N p c)
 |0,c,_,h,_,_,_,_=>by have:=Dx c;omega|N+1,c,p,h,g,y,n,J=>by
  obtain ⟨n,rfl⟩:∃k,n=k+1:=⟨n-1,U⟩;have D:=g.q.ec;have E:=g.q.eh;have F:=y.ec;have G:=y.eh;have e:∀q:ea,P5 q->(em (C3 (ρ:=Bool) (λ(d:Int×Int)=>
    if (decide (d.2<(q.d5.d3.length:Int)))=X then
    Y (.next (AJ (d.1*a),AJ (d.2+1)))
    else
    Y (.brk (d.1,d.2))) (1,(p.d5.d3.length:Int))) (λd=>
    em (C3 (ρ:=Bool) (λ(s2:Int×Int)=>
    if (decide (s2.2<(q.d5.d4.length:Int)))=X then
    Y (.next (AJ (s2.1*b),AJ (s2.2+1)))
    else
    Y (.brk (s2.1,s2.2))) (d.1,(p.d5.d4.length:Int))) (λs2=>
    em (jj (ρ:=Bool) (λ(z:Int)(_:Unit)=>
    (idx c.fu z).bind λj=>
    (Ei n q j a b).bind λo=>
    if (!o)=X then
    Y (.ret T)
    else
    Y (.next ())) 0 (c.fu.length:Int) ()) (λ_=>
    Y (decide (s2.1<=5000))) (λA=>Y A)) (λB=>Y B)) (λC=>Y C))=
    Y (if l3 (λi=>!SJ a b N q (AA c.fu i)) 0 c.fu.length=X then T else
     decide (Vj b (max (p.d5.d4.length:Int) q.d5.d4.length-p.d5.d4.length).toNat (Vj a (max (p.d5.d3.length:Int) q.d5.d3.length-p.d5.d3.length).toNat 1)<=5000)):=by
   intro q r;have H:=r.ec;have I:=r.eh;rw[tL U U U,B2];dsimp only;rw[tL U U U,B2,Bf (λi=>!SJ a b N q (AA c.fu i)) T]
   .cases l3 (λi=>!SJ a b N q (AA c.fu i)) 0 c.fu.length<;>rfl
   .intro i u i1 _;have:=Eb (AF (l:=c.fu) u i1);rw[AD u i1,bs,fc a b N _ q U (g.k _ (AF u i1)) r n U,bs,I7]
  rw [Ei,SJ];by_cases w:c.kq=5
  .rw[ac v6,ac w,bs,e _ g.q]
  grind
variable{c:d7}{p:ea}
theorem oI(a b:Int)(d:EL c)(e:P5 p):RO p c a b=Y (SJ a b (SizeOf.sizeOf c) p c):=D0 (SizeOf.sizeOf c) λn g=>fc a b _ c p (az _) d e n g
theorem dt(h:AG):∃b,IN h=Y b:=by
 unfold IN Jf;rw[bs];split
 .exact⟨_,rfl⟩
 .rw[Bf (λi=>decide (12<((AA h.ej i).length:Int))) T]
  .cases l3 (λi=>decide (12<((AA h.ej i).length:Int))) 0 h.ej.length
   .exact⟨X,rfl⟩
   .exact⟨T,rfl⟩
  .intro i d i1 _;rw[AD d i1,bs,I7]
variable{t:AC}
theorem oQ(hf:A3 t)(st:(AL t).Sm)(p g:d5):∃b,OA t p g=Y b:=by
 obtain ⟨b,e,_⟩:=Sw st;unfold OA Jf;rw[e,bs,Ui hf]
 grind
theorem oR(hf:A3 t)(st:(AL t).Sm)(p:ea)(w:(AI c).Sm)(h:AG):∃b,OC t p c h=Y b/\(b=X->EL c/\Dv c<=40/\P5 p):=by
 obtain ⟨y,z,A⟩:=mu w;obtain⟨B,r,C⟩:=Tk p;obtain⟨D,u⟩:=dt h;unfold OC;rw[z,bs];cases y
 .exact⟨T,rfl,λh=>d_⟩
 rw [r];cases B
 .exact⟨T,rfl,λh=>d_⟩
 rw [u];cases D
 .exact⟨T,rfl,λh=>d_⟩
 have g:=A rfl;have j:=C rfl;simp only[bs,Bool.not_true,A!,if_false];rw[oK hf p g.1,bs];have d:∀o:K1,(∃b,o=Y b)->∃b,o=Y b/\(b=X->EL c/\Dv c<=40/\P5 p):=λo⟨b,e⟩=>⟨b,e,λ_=>⟨g.1,g.2,j⟩⟩;refine d _ ?_;split
 .exact⟨X,rfl⟩
 .obtain⟨E,F⟩:=oQ hf st p.d5 h.d5;unfold Qr;rw[r,u,F,rH,oI 14 18 g.1 j];simp only[bs,if_true];cases E<;>simp only[A!,if_false,if_true,bs,Bool.false_and]
  .exact⟨_,rfl⟩
  .split
   .exact⟨_,rfl⟩
   .exact⟨_,rfl⟩
noncomputable def wS(t:AC)(p:ea)(c:d7)(h:AG)(m:AP)(inj:Bool):BN×Int:=
 if VK t p c h m inj≠0 then(zP,VK t p c h m inj)else DE t h inj (SizeOf.sizeOf c) c m
theorem oA(hf:A3 t)(p:ea)(e:EL c)(g:Dv c<=40)(h:AG)(m:AP)(inj:Bool):Ey t p c h m inj=Y (wS t p c h m inj):=by
 unfold Ey wS;rw[qe hf p e,bs];refine Dy λj=>?_;obtain⟨hv,hh,d,ha⟩:=YD hf g j;rw[show Fy (Bm.mk t h inj) c m=Y (DE t h inj (SizeOf.sizeOf c) c m)from D0 (2*SizeOf.sizeOf c) λn o=>Yp (s:=⟨t,h,inj⟩) hf hv hh _ c p m (az _) d ha n o];rfl
noncomputable def Ol(t:AC)(p:ea)(c:d7)(h:AG)(m:AP)(inj:Bool):Bool×Int:=
 if (wS t p c h m inj).2=10 then(T,0)else(decide ((wS t p c h m inj).2=0),(wS t p c h m inj).2)
theorem iE(hf:A3 t)(p:ea)(d:EL c)(e:Dv c<=40)(h:AG)(m:AP)(inj:Bool):EC t p c h m inj=Y (Ol t p c h m inj):=by grind[EC,Ol,oA,wS]
variable{h:AG}
theorem rD(hf:A3 t){inj:Bool}{m:AP}(hv:(BC t).2=0)(hh:Ie t h)(d:CV t p c)(ha:Xv t p h m):Qs t c h m inj=Y (DD t h inj (SizeOf.sizeOf c) c m):=D0 (SizeOf.sizeOf c) λn e=>Tt hf hv hh _ c p m (az _) d ha n e
end Go.Sf.Sc
namespace Go.Sf.Sc
open Go Go.Sf
end Go.Sf.Sc
namespace Go.Sf.Sc
open Go Go.Sf
theorem vk(t:AC)(p:ea)(c:d7)(h:AG)(m:AP)(inj:Bool):wS t p c h m inj=if VK t p c h m inj≠0 then(zP,VK t p c h m inj)else Nv (DD t h inj (SizeOf.sizeOf c) c m):=by
 unfold wS;rw[kA]
end Go.Sf.Sc
