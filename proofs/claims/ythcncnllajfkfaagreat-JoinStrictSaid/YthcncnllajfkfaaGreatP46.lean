/- Plain lemmas: what the functions of the program and of the reference compute. -/
import Derived.Test.YthcncnllajfkfaaGreatP25
set_option linter.all false
set_option maxRecDepth 100000
open Option renaming some->Y,none->W
open Bool renaming true->X,false->T
open List renaming mem_append->v1,any_eq_false->v5,drop_eq_nil_of_le->v6,drop_eq_getElem_cons->v_,getElem?_eq_getElem->v!,replicate->v?,ext_getElem->w_,replicate_succ'->w!,mem_flatMap->w?,length_singleton->x_,nodup_nil->x!
open Classical renaming not_not->x?
open Bool renaming not_eq_true'->y_,true_and->y!,false_eq_true->y?
open Int renaming toNat_natCast->z_
namespace Go.Sf.Sc
open Go Go.Sf
variable{all:List ke}{k:Int}
theorem Tq(h:OI all k=0)(d:(AA all k).pc.length<=1000):-1000000<=(AA all k).Low/\(AA all k).Aab<=1000000:=by grind[OI]
variable{t:AC}{i:Int}
theorem jA(h:Ka t i=0):∀k,((BL t i).length:Int)-(AA t.dl i).po.length<=k->k<(BL t i).length->OI (BL t i) k=0:=by
 unfold Ka at h;dsimp only at h;split at h
 .cases h
 split at h
 .cases h
 split at h
 .cases h
 split at h
 .cases h
 exact VG h
variable{a:Int}
theorem RQ{n:Nat}(d:0<=a):Cg t (n+1) a=Cg t n (par t a)++(AA t.dl a).po:=by grind[Cg]
theorem qP(h:OI all k=0)(d:(AA all k).pc.length<=1000):(AA all k).Low<=(AA all k).Aab:=by grind[OI]
theorem Ts(hf:A0 t)(h:F6 t){Q:ke->Prop}(Tq:∀{all:List ke}{k:Int},OI all k=0->(AA all k).pc.length<=1000->Q (AA all k)):∀(n:Nat)(a:Int),a<t.dl.length->a<n->∀x∈Cg t n a,Q x
 |0,_,_,_=>by simp[Cg]|n+1,a,ha,B=>by
  by_cases g:a<0
  .rw[LH g];simp
  .have w:=h.par a U ha;intro x d;rw[RQ U]at d;rcases v1.1 d with d|d
   .exact Ts hf h Tq n (par t a) U U x d
   .obtain⟨j,z,A,rfl⟩:=Bh d;have e:BL t a=Cg t a.toNat (par t a)++(AA t.dl a).po:=by
     unfold BL;rw[show(a+1).toNat=a.toNat+1 by omega,RQ U]
    have y:(BL t a).length=(Cg t a.toNat (par t a)).length+(AA t.dl a).po.length:=by rw[e,az]
    have o:=jA (h.node a U ha) ((Cg t a.toNat (par t a)).length+j) U U;have r:AA (BL t a) ((Cg t a.toNat (par t a)).length+j)=AA (AA t.dl a).po j:=by
     grind [On,AA]
    have u:=PF hf (Int.le_refl _) h.par ha (AA (BL t a) ((Cg t a.toNat (par t a)).length+j)) (AI U U);have:=Tq o (by have:=u.names;omega)
    rwa [r]at this
theorem Tt(hf:A0 t)(h:F6 t)(d:0<=a)(ha:a<t.dl.length):∀x∈BL t a,-1000000<=x.Low/\x.Aab<=1000000:=Ts hf h Tq _ a ha U
theorem aH(hf:A0 t)(h:F6 t)(d:0<=a)(ha:a<t.dl.length):∀x∈BL t a,x.Low<=x.Aab:=Ts hf h qP _ a ha U
theorem b6(d:Ff t k):∀(n:Nat)(a b:Int),a<k->a<n->b∈Kz t n a->0<=b/\b<=a/\(BL t b).length<=(Cg t n a).length
 |0,_,_,_,_=>by simp[Kz]|n+1,a,b,ha,j=>by
  intro hb;rw[Kz]at hb;split at hb
  .cases hb
  .rename_i e;have g:=d a U ha;rw[RQ U];rcases List.mem_cons.1 hb with rfl|hb
   .refine⟨U,U,?_⟩;unfold BL;rw[Oo d (b+1).toNat (n+1) b ha U U,RQ U];exact ae _
   .have:=b6 d n (par t a) b U U hb
    grind
variable{b:Int}
theorem bA(h:F6 t)(ha:a<t.dl.length)(hb:HP t a b=X):(BL t b).length<=(BL t a).length:=by
 unfold HP at hb;rw[List.any_eq_true]at hb;obtain⟨x,d,e⟩:=hb;rw[sA]at e;subst e;by_cases g:a<0
 .have:(a+1).toNat=0:=U
  rw [this]at d;cases d
 .exact(b6 h.par (a+1).toNat a b ha U d).2.2
theorem lb{α:Type}{Q:Prop}[Decidable Q]{v:α}{ζ:Option α}{δ:α}(he:a=b↔Q)(h:Q->ζ=Y δ):(if(!decide (a=b))=X then Y v else ζ)=Y (if¬Q then v else δ):=l?
def SL(t:AC)(k:Int)(v:Fp)(j:Int):Bool:=decide (AA v j<(AA (BL t k) j).Low)||decide ((AA (BL t k) j).Aab<AA v j)
def IH(t:AC)(k:Int)(v:Fp):Int:=
 if (t.dl.length:Int)<=k then 6 else if(AA t.dl k).up=X then 13 else if¬v.length=(BL t k).length then 20 else
 if kg (SL t k v) 0 (BL t k).length=X then 6 else 0
def Lt(t:AC)(g:dr)(i:Int):Int:=
 if (t.d3.length:Int)<=(AA g.d3 i).ia then 6 else if J9 t g i=T then 13 else 0
def ER(t:AC)(h:AF):Int×Int:=
 if (BF t).2≠0 then(-1,(BF t).2)else if CL h.dr≠0 then(-1,CL h.dr)else if¬h.eb.length=h.dr.dl.length then(-1,20)else
 match fst (λi=>(nz (IH t (AA h.dr.dl i) (AA h.eb i))).map λe=>(i,e)) 0 h.dr.dl.length with
 |some r=>r|none=>(fst (λi=>(nz (Lt t h.dr i)).map λe=>(i,e)) 0 h.dr.d3.length).getD (-1,0)
theorem K4(hv:(BF t).2=0)(d:0<=k)(e:k<t.dl.length):IF t k=(BL t k,0):=by grind[IF,NP]
theorem WE{x:Bool}{y:Bool}:(if x=X then Y X else Y y)=Y (x||y):=by cases x<;>rfl
theorem vP(hf:A0 t)(hv:(BF t).2=0)(d:0<=k)(v:Fp):Mp t k v=Y (IH t k v):=by
 unfold Mp IH;by_cases e:(t.dl.length:Int)<=k
 .grind
 rw [ac d_,ac e,AD d U,bs];refine dk λ_=>?_;rw[TU hf,K4 hv d U,bs];refine lb a_ λg=>?_;rw[Bk (SL t k v) 6]
 .cases kg (SL t k v) 0 (BL t k).length<;>rfl
 grind [BL,AD,WE,SL,AA]
theorem vo(hf:A0 t)(hv:(BF t).2=0)(d:0<=k)(v:Fp):LV t k v=Y (IH t k v):=by
 unfold LV IH;by_cases e:(t.dl.length:Int)<=k
 .grind
 rw [ac d_,ac e,AD d U,bs];refine dk λ_=>?_;rw[TW hf,K4 hv d U,bs];refine lb a_ λg=>?_;rw[Bk (SL t k v) 6]
 .cases kg (SL t k v) 0 (BL t k).length<;>rfl
 grind [BL,AD,WE,SL,AA]
theorem fZ(e i:Int):(if(!decide (e=0))=X then Y (CF.ret (σ:=Unit) (ρ:=Int×Int) (i,e))else Y (.next ()))=Y (S8 ((nz e).map λe=>(i,e))):=by grind[nz,S8]
theorem Vb(hf:A0 t)(h:AF):HU t h=Y (ER t h):=by
 unfold HU ER;rw[Oy hf,bs];refine D2 λhv=>?_;rw[NV,bs];refine D2 λj=>?_;have go:=Dp j;refine lb U λy=>?_;rw[B9 (λi=>(nz (IH t (AA h.dr.dl i) (AA h.eb i))).map λe=>(i,e)),Eo]
 .cases o:fst (λi=>(nz (IH t (AA h.dr.dl i) (AA h.eb i))).map λe=>(i,e)) 0 h.dr.dl.length with
  |some r=>rfl|none=>
   have u:=Bf.1 o;dsimp only;rw[B9 (λi=>(nz (Lt t h.dr i)).map λe=>(i,e)),Eo]
   .grind
   .intro i d i1 _;have w:=go.fit _ (AI (l:=h.dr.d3) d i1);rw[AD d i1,bs];unfold Lt J9;by_cases g:(t.d3.length:Int)<=(AA h.dr.d3 i).ia
    .rw[a6 h_,a6 g];rfl
    .rw[ac h_,ac g,AD U U,bs,AD U U,bs,oS hf,bs];cases OK t (AA h.dr.d3 i).ia (AA h.dr.dl (AA h.dr.d3 i).hV) (AA h.dr.dl (AA h.dr.d3 i).To)<;>rfl
 .intro i d i1 _;rw[AD d i1,bs,AD d U,bs,vP hf hv (go.kind _ (AI d i1)).1,bs];exact fZ _ i
theorem Vi(hf:A0 t)(h:AF):GL t h=Y (ER t h):=by
 unfold GL ER;rw[R0 hf,bs];refine D2 λhv=>?_;rw[Oz,bs];refine D2 λj=>?_;have go:=Dp j;refine lb U λy=>?_;rw[B9 (λi=>(nz (IH t (AA h.dr.dl i) (AA h.eb i))).map λe=>(i,e)),Eo]
 .cases o:fst (λi=>(nz (IH t (AA h.dr.dl i) (AA h.eb i))).map λe=>(i,e)) 0 h.dr.dl.length with
  |some r=>rfl|none=>
   have u:=Bf.1 o;dsimp only;rw[B9 (λi=>(nz (Lt t h.dr i)).map λe=>(i,e)),Eo]
   .grind
   .intro i d i1 _;have w:=go.fit _ (AI (l:=h.dr.d3) d i1);rw[AD d i1,bs];unfold Lt J9;by_cases g:(t.d3.length:Int)<=(AA h.dr.d3 i).ia
    .rw[a6 h_,a6 g];rfl
    .rw[ac h_,ac g,AD U U,bs,AD U U,bs,ot hf,bs];cases OK t (AA h.dr.d3 i).ia (AA h.dr.dl (AA h.dr.d3 i).hV) (AA h.dr.dl (AA h.dr.d3 i).To)<;>rfl
 .intro i d i1 _;rw[AD d i1,bs,AD d U,bs,vo hf hv (go.kind _ (AI d i1)).1,bs];exact fZ _ i
structure Ix(t:AC)(h:AF):Prop where
 g:D6 h.dr
 len:h.eb.length=h.dr.dl.length
 kind:∀i:Int,0<=i->i<h.dr.dl.length->0<=AA h.dr.dl i/\AA h.dr.dl i<t.dl.length
 row:∀i:Int,0<=i->i<h.dr.dl.length->(AA h.eb i).length=(BL t (AA h.dr.dl i)).length
 low:∀i:Int,0<=i->i<h.dr.dl.length->∀x∈AA h.eb i,-1000000<=x/\x<=1000000
 ge:CL h.dr=0
 ty:DZ t h.dr=X
variable{h:AF}
theorem UF(e:(ER t h).2=0):(∀i:Int,0<=i->i<h.dr.dl.length->IH t (AA h.dr.dl i) (AA h.eb i)=0)/\∀i:Int,0<=i->i<h.dr.d3.length->Lt t h.dr i=0:=by
 unfold ER at e;split at e
 next j=>exact absurd e j
 split at e
 next j=>exact absurd e j
 split at e
 .cases e
 rename_i j w y;have u:∀i:Int,0<=i->i<h.dr.dl.length->IH t (AA h.dr.dl i) (AA h.eb i)=0:=by
  split at e
  .rename_i r hr;obtain⟨i,_,_,k,_⟩:=Cc hr;unfold nz at k;split at k
   .cases k
   next d=>cases k;exact absurd e d
  next hr=>exact λi g i1=>L5.1 (Oh.1 (Bf.1 hr i g i1))
 have he:∀i:Int,0<=i->i<h.dr.d3.length->Lt t h.dr i=0:=by
  have o:fst (λi=>(nz (IH t (AA h.dr.dl i) (AA h.eb i))).map λe=>(i,e)) 0 h.dr.dl.length=W:=Bf.2 λi g i1=>by rw[u i g i1];rfl
  rw [o]at e;dsimp only at e;cases hr:fst (λi=>(nz (Lt t h.dr i)).map λe=>(i,e)) 0 h.dr.d3.length with
  |some r=>
   rw [hr]at e;obtain⟨i,_,_,k,_⟩:=Cc hr;unfold nz at k;split at k
   .cases k
   next d=>cases k;exact absurd e d
  |none=>exact λi g i1=>L5.1 (Oh.1 (Bf.1 hr i g i1))
 exact ⟨u,he⟩
theorem Ou(hf:A0 t)(e:(ER t h).2=0):(BF t).2=0/\Ix t h:=by
 obtain ⟨u,he⟩:=UF e;unfold ER at e;split at e
 next g=>exact absurd e g
 split at e
 next g=>exact absurd e g
 split at e
 .cases e
 rename_i g z C;have hv:=x?.1 g;have go:=Dp (x?.1 z);have r:∀i:Int,0<=i->i<h.dr.dl.length->(0<=AA h.dr.dl i/\AA h.dr.dl i<t.dl.length)/\(AA h.eb i).length=(BL t (AA h.dr.dl i)).length/\∀j:Int,0<=j->j<(BL t (AA h.dr.dl i)).length->SL t (AA h.dr.dl i) (AA h.eb i) j=T:=by
  intro i d i1;have F:=(go.kind _ (AI d i1)).1;have:=u i d i1;unfold IH at this;split at this
  .cases this
  split at this
  .cases this
  split at this
  .cases this
  split at this
  .cases this
  rename_i a1 H D E;exact⟨⟨F,U⟩,x?.1 D,B6.1 (by simpa using E)⟩
 have y:DZ t h.dr=X:=by
  unfold DZ;rw[ne,y_,y_,v5,v5];refine⟨λn u=>?_,λx w=>?_⟩
  .obtain⟨i,d,i1,rfl⟩:=Bh u;have:=(r i d i1).1.2;simp;omega
  .obtain⟨i,d,i1,rfl⟩:=Bh w;have:=he i d i1;unfold Lt at this;split at this
   .cases this
   .simp;omega
 suffices o:∀i:Int,0<=i->i<h.dr.dl.length->∀x∈AA h.eb i,-1000000<=x/\x<=1000000 from⟨hv,go,x?.1 C,λi d i1=>(r i d i1).1,λi d i1=>(r i d i1).2.1,o,x?.1 z,y⟩
 intro i d i1 x w;obtain⟨A,I,G⟩:=r i d i1;obtain⟨j,B,J,rfl⟩:=Bh w;have:=G j B U;unfold SL at this;simp[decide_eq_false_iff_not]at this;have:=Tt hf (C6 hv) A.1 A.2 _ (AI (l:=BL t (AA h.dr.dl i)) B U);omega
end Go.Sf.Sc
namespace Go.Sf.Sc
open Go Go.Sf
def Ki(t:AC)(p g:dr)(m:d4)(i:Int):QQ:=
 if AA m.dl i<0\/g.dl.length<=AA m.dl i then Y 6 else if HP t (AA g.dl (AA m.dl i)) (AA p.dl i)=T then Y 13 else W
def OX(t:AC)(p g:dr)(m:d4):Int:=
 if m.dl.length≠p.dl.length\/m.d3.length≠p.d3.length then 20 else
 match fst (Ki t p g m) 0 m.dl.length with
 |some e=>e|none=>(fst (Hj p g m) 0 m.d3.length).getD 0
def Gx(t:AC)(p g:dr)(m:d4)(inj:Bool):Int:=
 if E5 t p g≠0 then E5 t p g else if OX t p g m≠0 then OX t p g m else if(inj&&!MP m)=X then 5 else 0
structure aC(t:AC)(p g:dr)(m:d4):Prop where
 t2:m.dl.length=p.dl.length
 wi:m.d3.length=p.d3.length
 node:∀i:Int,0<=i->i<m.dl.length->(0<=AA m.dl i/\AA m.dl i<g.dl.length)/\HP t (AA g.dl (AA m.dl i)) (AA p.dl i)=X
 edge:∀i:Int,0<=i->i<m.d3.length->0<=AA m.d3 i/\AA m.d3 i<g.d3.length
variable{t:AC}
theorem Of{p g:dr}(h:E5 t p g=0):(BF t).2=0/\D6 p/\D6 g/\(∀n∈p.dl,0<=n/\n<t.dl.length)/\∀n∈g.dl,0<=n/\n<t.dl.length:=by
 unfold E5 at h;split at h
 .grind
 split at h
 .grind
 split at h
 .grind
 split at h
 .rename_i e j o d;rw[ne]at d
  grind [Dp,IA]
 .cases h
variable{m:d4}
theorem ki{p g:dr}(h:OX t p g m=0):aC t p g m:=by
 unfold OX at h;split at h
 .cases h
 rename_i e;have d:fst (Ki t p g m) 0 m.dl.length=W:=by
  grind [Cc,Ki]
 rw [d]at h;have he:=Sj (λi=>by
  grind [Hj]) h
 refine ⟨U,U,λi i1 i2=>?_,λi i1 i2=>?_⟩
 .grind[Bf,Ki]
 grind [Hj]
theorem bS(hf:A0 t){p g:dr}(y:E5 t p g=0)(m:d4):Ho t p g m=Y (OX t p g m):=by
 obtain ⟨hv,A,E,tp,B⟩:=Of y;unfold Ho OX;refine Qt i! λC=>?_;rw[mR hf (C6 hv) hv,bs,B9 (Ki t p g m),Eo]
 .cases D:fst (Ki t p g m) 0 m.dl.length with
  |some e=>rfl|none=>
   dsimp only;rw[B9 (Hj p g m),DI];intro i i1 i2 _;unfold Hj;rw[AD i1 i2,bs];by_cases d:AA m.d3 i<0\/g.d3.length<=AA m.d3 i
   .rw[a6 c!,a6 d];rfl
   .have hf:=A.fit _ (AI (l:=p.d3) i1 U);rw[ac c!,ac d,AD i1 U,bs,AD U U,bs];by_cases j:(AA p.d3 i).ia=(AA g.d3 (AA m.d3 i)).ia
    .rw[ac f_,ac f_,AD U U,bs];by_cases o:AA m.dl (AA p.d3 i).hV=(AA g.d3 (AA m.d3 i)).hV
     .rw[ac h!,AD U U,bs,bs];by_cases r:AA m.dl (AA p.d3 i).To=(AA g.d3 (AA m.d3 i)).To
      .rw[ac n_,ac (by simp[o,r])];rfl
      .rw[a6 n_,a6 (.inr r)];rfl
     .rw[a6 h!,bs,a6 rfl,a6 (.inl o)];rfl
    .rw[a6 f_,a6 j];rfl
 .intro i i1 i2 _;unfold Ki;rw[AD i1 i2,bs];by_cases d:AA m.dl i<0\/g.dl.length<=AA m.dl i
  .rw[a6 c!,a6 d];rfl
  .have u:=tp _ (AI (l:=p.dl) i1 U);have w:=B _ (AI (l:=g.dl) (show 0<=AA m.dl i by omega) U);rw[ac c!,ac d,AD i1 U,bs,AD u.1 (by unfold KT;rw[c9,A4];exact u.2),bs,AD U U,bs];have e:AA (KT t) (AA p.dl i)=Pr t (AA p.dl i):=by unfold KT;exact Iw (Pr t) u.1 u.2
   rw [e,AD w.1 (by unfold Pr;rw[c9,A4];exact w.2),bs];have z:AA (Pr t (AA p.dl i)) (AA g.dl (AA m.dl i))=HP t (AA g.dl (AA m.dl i)) (AA p.dl i):=by unfold Pr;exact Iw (λk=>HP t k (AA p.dl i)) w.1 w.2
   rw [z];cases HP t (AA g.dl (AA m.dl i)) (AA p.dl i)<;>rfl
variable{l:Fp}
theorem kP(d:l.length<=1000):JB l=Y (!J8 l):=by grind[JB,W6,QB,Abn,J8]
theorem Zy(hf:A0 t)(p g:dr)(m:d4)(inj:Bool):Gd t p g m inj=Y (Gx t p g m inj):=by
 unfold Gd Gx;rw[WI hf,bs];refine EX λd=>?_;rw[bS hf d,bs];refine EX λo=>?_;obtain⟨_,j,r,_⟩:=Of d;have e:=ki o;have:=j.ea;have:=j.eg;have:=e.t2;have:=e.wi;rw[kP U,kP U];unfold MP;cases inj<;>cases J8 m.dl<;>cases J8 m.d3<;>rfl
theorem vh(l:Fp):Kt l=Y (J8 l):=dG l
theorem o8{p g:dr}(w:E5 t p g=0)(m:d4)(inj:Bool):KJ t p g m inj=Y (if OX t p g m≠0 then OX t p g m else if(inj&&!MP m)=X then 5 else 0):=by
 obtain ⟨hv,A,D,tp,B⟩:=Of w;unfold KJ OX;by_cases y:m.dl.length≠p.dl.length\/m.d3.length≠p.d3.length
 .grind
 rw [ac i!,ac y,B9 (Ki t p g m),Eo]
 .cases C:fst (Ki t p g m) 0 m.dl.length with
  |some e=>
   grind [Cc,Ki]
  |none=>
   dsimp only;rw[B9 (Hj p g m),Eo]
   .grind[fst,Hj,Cc,vh,MP,J8]
   intro i i1 i2 _;unfold Hj;rw[AD i1 i2];simp only[bs,VZ];by_cases d:AA m.d3 i<0\/g.d3.length<=AA m.d3 i
   .rw[a6 c!,a6 d];rfl
   .have hf:=A.fit _ (AI (l:=p.d3) i1 U);rw[ac c!,ac d,AD i1 U,bs,AD U U,bs];by_cases j:(AA p.d3 i).ia=(AA g.d3 (AA m.d3 i)).ia
    .rw[ac f_,ac f_,AD U U,bs];by_cases o:AA m.dl (AA p.d3 i).hV=(AA g.d3 (AA m.d3 i)).hV
     .rw[ac h!,AD U U,bs,bs];by_cases r:AA m.dl (AA p.d3 i).To=(AA g.d3 (AA m.d3 i)).To
      .rw[ac n_,ac (by simp[o,r])];rfl
      .rw[a6 n_,a6 (.inr r)];rfl
     .rw[a6 h!,bs,a6 rfl,a6 (.inl o)];rfl
    .rw[a6 f_,a6 j];rfl
 .intro i i1 i2 _;unfold Ki;rw[AD i1 i2];simp only[bs,VZ];by_cases d:AA m.dl i<0\/g.dl.length<=AA m.dl i
  .rw[a6 c!,a6 d];rfl
  .have z:=tp _ (AI (l:=p.dl) i1 U);have u:=B _ (AI (l:=g.dl) (show 0<=AA m.dl i by omega) U);rw[ac c!,ac d,AD U U,bs,AD i1 U,bs,WL (C6 hv) u.1 u.2 z.1,bs];cases HP t (AA g.dl (AA m.dl i)) (AA p.dl i)<;>rfl
theorem Z2(hf:A0 t)(p g:dr)(m:d4)(inj:Bool):Hc t p g m inj=Y (Gx t p g m inj):=by
 unfold Hc Gx;rw[UV hf,bs];refine EX λd=>?_;rw[o8 d,bs]
theorem dm{p g:dr}{inj:Bool}(h:Gx t p g m inj=0):E5 t p g=0/\aC t p g m:=by grind[Gx,ki]
end Go.Sf.Sc
namespace Go.Sf.Sc
open Go Go.Sf
section
variable{α σ ρ:Type}
def E3(step:α->σ->CF σ ρ):List α->σ->σ ⊕ ρ
 |[],s=>.inl s|a::r,s=>match step a s with
  |.next s'=>E3 step r s'|.brk s'=>.inl s'|.ret r=>.inr r
variable{f:Int->σ->Option (CF σ ρ)}
theorem VE[Inhabited α]{l:List α}(step:α->σ->CF σ ρ)(I:σ->Prop)(h:∀(i:Int)s,0<=i->i<l.length->I s->f i s=Y (step (AA l i) s)/\∀s',step (AA l i) s=.next s'->I s'):
  ∀(n:Nat)(a:Int)(s:σ),0<=a->a+n=l.length->I s->tl f n a s=Y (E3 step (l.drop a.toNat) s)
 |0,a,s,d,o,_=>by
  rw [v6 U];rfl
 |n+1,a,s,d,o,u=>by
  obtain ⟨g,j⟩:=h a s d U u;have hd:l.drop a.toNat=AA l a::l.drop (a+1).toNat:=by
   grind [v_,AA,v!]
  rw [Ew,g,hd,E3];cases e:step (AA l a) s with
  |next s'=>
   simp only;exact VE step I h n (a+1) s' U U (j s' e)
  |brk s'=>rfl|ret r=>rfl
theorem Si[Inhabited α]{l:List α}(step:α->σ->CF σ ρ)(I:σ->Prop){s:σ}(d:I s)(h:∀(i:Int)s,0<=i->i<l.length->I s->f i s=Y (step (AA l i) s)/\∀s',step (AA l i) s=.next s'->I s'):
  gt f 0 l.length s=Y (E3 step l s):=by
 have:=VE step I h l.length 0 s U U d;unfold gt;rw[show((l.length:Int)-0).toNat=l.length by omega];exact this
theorem iH[Inhabited α](step:α->σ->CF σ ρ)(I:σ->Prop):∀(l:List α)(s s':σ),I s->(∀a∈l,∀s s',I s->step a s=.next s'->I s')->(∀a∈l,∀s s',step a s≠.brk s')->E3 step l s=.inl s'->I s'
 |[],s,s',h,_,_,e=>by cases e;exact h
 |a::r,s,s',h,d,hb,e=>by
  rw [E3]at e;split at e
  next s2 g=>exact iH step I r s2 s' (d a V s s2 h g) (λa ha=>d a (by simp[ha])) (λa ha=>hb a (by simp[ha])) e
  .grind
  .cases e
end
def Df(x:gl)(l:Fp):Int:=if x.Var<0 then x.Add else At (AA l x.Var+x.Add)
variable{x:gl}{l:Fp}
theorem Vc(h:x.Var<l.length):FL x l=Y (Df x l):=by grind[FL,Df,AD]
theorem be(h:x.Var<l.length):KL x l=Y (Df x l):=Vc h
theorem fj(d:-1<=x.Var)(h:x.Var<l.length)(e:l.length<=1000):F7 x l=Y (Df x l,0):=by grind[F7,DF,A1,Vc]
theorem QJ(d:-1<=x.Var)(h:x.Var<l.length):Fr x l=Y (Df x l,0):=by grind[Fr,be]
def MS(x:Test)(l:Fp):Bool:=(decide (x.jj=1)&&decide (Df x.fu l<=Df x.ec l))||(decide (x.jj=2)&&decide (Df x.fu l=Df x.ec l))
structure Je(n:Int)(x:gl):Prop where
 low:-1<=x.Var
 high:x.Var<n
 add:-1000000<=x.Add/\x.Add<=1000000
def Q9(l:Fp):Prop:=∀x∈l,-2000000<=x/\x<=2000000
variable{n:Int}
theorem Uj(h:Je n x)(d:Q9 l)(e:n<=l.length):Df x l=(if x.Var<0 then x.Add else AA l x.Var+x.Add)/\-3000000<=Df x l/\Df x l<=3000000:=by
 unfold Df;have:=h.add;by_cases g:x.Var<0
 .grind
 .have hh:=h.high;have:=d _ (AI (l:=l) (show 0<=x.Var by omega) U)
  grind [A1]
theorem bd(h:Je n x)(d:n<=l.length):L7 x l=Y (Df x l,X):=by
 have e:=h.low;have g:=h.high
 grind [L7,Df,AD]
theorem r_holds{x:Test}(e:Je n x.fu)(g:Je n x.ec)(d:n<=l.length):N5 x l=Y (MS x l):=by
 unfold N5;rw[bd e d,bd g d];rfl
variable{a b:Int}
theorem cA(ha:-4000000<=a/\a<=4000000)(hb:-4000000<=b/\b<=4000000):Hu a b=Y (if a+b<0 then(-1,a+b+18446744073709551616)else(0,a+b)):=by
 have d:∀c:Int,IntKind.u64.wrap c=c % 18446744073709551616:=λc=>by
  simp [IntKind.wrap,IntKind.signed,IntKind.bits]
 have g:∀c:Int,-4000000<=c/\c<=4000000->Ny .i64 .shr c 63=Y (if c<0 then -1 else 0):=by
  intro c r;unfold Ny;have e:c.fdiv (2^ (min (63:Int).toNat (IntKind.bits .i64)))=if c<0 then -1 else 0:=by
   show c.fdiv (2^ 63)=_
   grind
  simp only[e];have:(0:Int)<=63/\IntKind.min .i64<=(if c<0 then -1 else 0)/\(if c<0 then -1 else 0)<=IntKind.max .i64:=by
   split<;>decide
  rw [a6 this]
 unfold Hu Jr;rw[d,d,a6 U,bs,g a ha,g b hb,bs,bs];congr 1;have u:∀c:Int,-10<=c->c<=10->At c=c:=λc j o=>A1 U U
 grind
def Lr(a:Int):Int×Int:=if a<0 then(-1,a+18446744073709551616)else(0,a)
theorem fz(h:Je n x)(d:Q9 l)(o:n<=l.length):F9 x l=Y ((Lr (Df x l)).1,(Lr (Df x l)).2,X):=by
 have r:=h.low;have u:=h.high;have w:=h.add;have g:=(Uj h d o).1;unfold F9;by_cases j:x.Var=-1
 .have e:Df x l=x.Add:=by rw[g,a6 U]
  rw [e,a6 f_,cA U U,bs,Int.zero_add];rfl
 .have:=d _ (AI (l:=l) (show 0<=x.Var by omega) U);have e:Df x l=AA l x.Var+x.Add:=by rw[g,ac U]
  rw [e,ac f_,ac a_,AD U U,bs,cA U U,bs];rfl
theorem tf(a b:Int):cmp_Compare_int a b=Y (if a<b then -1 else if b<a then 1 else 0):=by
 unfold cmp_Compare_int cmp_isNaN_int
 grind
theorem ABC(a b:Int):Jg a b=Y (if a<b then -1 else if b<a then 1 else 0):=tf a b
theorem xS(a b:Int):PH [a,b]=Y (if a=0 then b else a):=by
 unfold PH;show ei (tl _ 2 0 ()) _ _=_;rw[Ew,show idx [a,b] 0=Y a from rfl,bs]
 grind [ei,tl,Ew,idx]
theorem p_holds{x:Test}(g:Je n x.fu)(j:Je n x.ec)(d:Q9 l)(e:n<=l.length):HF x l=Y (MS x l):=by
 have o:=(Uj g d e).2;have s2:=(Uj j d e).2;unfold HF MS;rw[fz g d e,fz j d e];simp[tf,ABC,xS];generalize Df x.fu l=a at o;generalize Df x.ec l=b at s2;have key:(if(if(Lr a).1<(Lr b).1 then(-1:Int)else if(Lr b).1<(Lr a).1 then 1 else 0)=0 then(if(Lr a).2<(Lr b).2 then(-1:Int)else if(Lr b).2<(Lr a).2 then 1 else 0)else(if(Lr a).1<(Lr b).1 then(-1:Int)else if(Lr b).1<(Lr a).1 then 1 else 0))=if a<b then -1 else if b<a then 1 else 0:=by
  grind [Lr]
 rw [key];congr 2
 .grind
 grind
end Go.Sf.Sc
namespace Go.Sf.Sc
open Go Go.Sf
structure Up(t:AC)(q:d7):Prop where
 g:D6 q.dr
 kind:∀n∈q.dr.dl,0<=n/\n<t.dl.length
 vars:0<=q.ey/\q.ey<=12
 few:q.ek.length<=10/\q.j4.length<=10
 slot:∀s∈q.ek,(0<=s.o4/\s.o4<q.dr.dl.length)/\(0<=s.ke/\s.ke<(BL t (AA q.dr.dl s.o4)).length)/\Je q.ey s.gl
 test:∀x∈q.j4,(x.jj=1\/x.jj=2)/\Je q.ey x.fu/\Je q.ey x.ec
 ge:CL q.dr=0
 ty:DZ t q.dr=X
variable{n:Int}{x:gl}
theorem tN(h:Pw n x=X):Je n x:=by
 unfold Pw at h;simp[sA]at h;exact⟨h.1.1.1,h.1.1.2,h.1.2,h.2⟩
theorem tO{l:List Test}(h:Lz n l=0):∀x∈l,(x.jj=1\/x.jj=2)/\Je n x.fu/\Je n x.ec:=by
 unfold Lz at h;split at h
 .cases h
 split at h
 .cases h
 have g:=VG h;intro x d;obtain⟨i,j,i1,rfl⟩:=Bh d;have:=g i j i1;unfold Qp at this;split at this
 .cases this
 split at this
 .rename_i o e;rw[ne]at e
  grind [tN]
 .cases this
theorem nF(n:Int)(l:List Test):Lz n l≠9:=by
 unfold Lz;split
 .decide
 split
 .decide
 intro h;cases hr:fst (λi=>nz (Qp n (AA l i))) 0 l.length with
 |none=>rw[hr]at h;cases h
 |some r=>
  grind [Cc,nz,Qp]
variable{t:AC}{q:d7}
theorem rZ(hv:(BF t).2=0)(h:JP t q=0\/JP t q=9):Up t q:=by
 have w:=YK q.dr;unfold JP at h;rw[ac l!]at h;split at h
 .omega
 rename_i j;have g:=Dp (x?.1 j);split at h
 .omega
 rename_i e;split at h
 .omega
 rename_i z;split at h
 .omega
 rename_i A;split at h
 .omega
 rename_i B;split at h
 .grind[nF]
 rename_i u;refine⟨g,(IA g d_).1,U,U,λs y=>?_,tO (x?.1 u),x?.1 j,d_⟩;have hb:Tu t q s=T:=by
  grind
 unfold Tu at hb;simp[Bool.not_eq_false',decide_eq_false_iff_not]at hb;obtain⟨⟨⟨d,D⟩,E⟩,F,G⟩:=hb;unfold Tr at d;dsimp only at d;split at d
 .cases d
 rename_i C;have r:=(IA g d_).1 _ (AI (l:=q.dr.dl) (show 0<=s.o4 by omega) U);rw[K4 hv r.1 r.2]at d;split at d
 .cases d
 rename_i o;have o:¬(s.ke<0\/((BL t (AA q.dr.dl s.o4)).length:Int)<=s.ke):=o;exact⟨U,U,U,U,U,U⟩
def Og(h:AF)(m:d4)(s:C4):Int:=AA (AA h.eb (AA m.dl s.o4)) s.ke
def Qn(h:AF)(m:d4)(s:C4)(st:Fp×a5):Fp×a5:=
 if 0<=s.gl.Var/\AA st.2 s.gl.Var=T then(BR st.1 s.gl.Var (At (Og h m s-s.gl.Add)),BR st.2 s.gl.Var X)else st
def Fu{ρ:Type}(r:ρ)(h:AF)(m:d4)(s:C4)(st:Fp×a5):CF (Fp×a5) ρ:=
 if Df s.gl (Qn h m s st).1=Og h m s then .next (Qn h m s st)else .ret r
structure VI(n:Int)(st:Fp×a5):Prop where
 l1:(st.1.length:Int)=n
 l2:(st.2.length:Int)=n
 small:Q9 st.1
structure Kf(n:Int)(h:AF)(m:d4)(s:C4):Prop where
 node:0<=s.o4/\s.o4<m.dl.length
 val:0<=AA m.dl s.o4/\AA m.dl s.o4<h.eb.length
 Abo:0<=s.ke/\s.ke<(AA h.eb (AA m.dl s.o4)).length
 term:Je n s.gl
 has:-1000000<=Og h m s/\Og h m s<=1000000
variable{h:AF}{m:d4}{s:C4}
theorem O2(g:F6 t)(j:Up t q)(hh:Ix t h)(e:aC t q.dr h.dr m)(o:s∈q.ek):Kf q.ey h m s:=by
 obtain ⟨u,w,y⟩:=j.slot s o;have z:=e.t2;have d:=e.node s.o4 u.1 U;have hr:=hh.row _ d.1.1 d.1.2;have r:=hh.kind _ d.1.1 d.1.2;have hb:=bA g r.2 d.2;have hv:=hh.len;refine⟨U,U,U,y,?_⟩;unfold Og;exact hh.low _ d.1.1 d.1.2 _ (AI w.1 U)
theorem KS{α:Type}(l:List α)(i:Int)(a:α):(BR l i a).length=l.length:=by unfold BR;rw[List.length_set]
variable{i:Int}
theorem sK{α:Type}{l:List α}{a x:α}(h:x∈BR l i a):x∈l\/x=a:=List.mem_or_eq_of_mem_set h
variable{st:Fp×a5}
theorem pR(e:Kf n h m s)(hi:VI n st):VI n (Qn h m s st):=by
 have g:=e.has;have j:=e.term.add;unfold Qn;split
 .refine⟨by rw[KS];exact hi.l1,by rw[KS];exact hi.l2,λx d=>?_⟩;rcases sK d with d|rfl
  .exact hi.small x d
  grind [A1]
 .exact hi
def Gh(q:d7)(h:AF)(m:d4):Fp×Int:=
 match E3 (Fu (([],11):Fp×Int) h m) q.ek (v? q.ey.toNat 0,v? q.ey.toNat T)with
 |.inr r=>r|.inl st=>if kg (λi=>!MS (AA q.j4 i) st.1) 0 q.j4.length=X then([],16)else(st.1,0)
theorem Th(d:0<=n):VI n (v? n.toNat 0,v? n.toNat T):=by
 refine ⟨a_,a_,λx e=>?_⟩
 grind
variable{st':Fp×a5}
theorem Q6{ρ:Type}{r:ρ}(d:Kf n h m s)(hi:VI n st)(e:Fu r h m s st=.next st'):VI n st':=by grind[Fu,pR]
theorem pS{ρ:Type}{r:ρ}:Fu r h m s st≠.brk st':=by grind[Fu]
theorem QK{ρ:Type}{r:ρ}{l:List C4}(d:∀s∈l,Kf n h m s)(hi:VI n st)(e:E3 (Fu r h m) l st=.inl st'):VI n st':=
 iH (Fu r h m) (VI n) l st st' hi (λa ha _ _ g j=>Q6 (d a ha) g j) (λ_ _ _ _=>pS) e
theorem Rr{ρ:Type}{r:ρ}(w:Kf n h m s)(hi:VI n st){θ:Fp×a5->Option (CF (Fp×a5) ρ)}
  (j:∀st':Fp×a5,(st'.1.length:Int)=n->θ st'=Y (if Df s.gl st'.1=Og h m s then .next st' else .ret r)):
  ((if(decide (0<=s.gl.Var))=X then((idx st.2 s.gl.Var).bind λo=>Y (!o))else Y T).bind λu=>
   if u=X then(idx st.1 s.gl.Var).bind λ_=>(idx st.2 s.gl.Var).bind λ_=>θ (BR st.1 s.gl.Var (At (Og h m s-s.gl.Add)),BR st.2 s.gl.Var X)else θ (st.1,st.2))=Y (Fu r h m s st):=by
 have y:=w.term.high;have l1:=hi.l1;have l2:=hi.l2;unfold Fu;by_cases d:0<=s.gl.Var
 .rw[a6 c!,AD d U,bs,bs];by_cases g:AA st.2 s.gl.Var=T
  .rw[a6 o2,AD d U,bs,bs,j _ (by dsimp only;rw[KS];exact l1)];have e:Qn h m s st=(BR st.1 s.gl.Var (At (Og h m s-s.gl.Add)),BR st.2 s.gl.Var X):=by unfold Qn;rw[a6 ⟨d,g⟩]
   rw [e]
  .rw[ac h_,j _ l1];have e:Qn h m s st=st:=by unfold Qn;rw[ac (λe=>g e.2)]
   rw [e]
 .rw[ac c!,bs,ac a!,j _ l1];have e:Qn h m s st=st:=by unfold Qn;rw[ac (λe=>d e.1)]
  rw [e]
theorem jM{ρ:Type}{r:ρ}(j:Kf n h m s)(hi:VI n st){θ:Fp×a5->Option (CF (Fp×a5) ρ)}
  (o:∀st':Fp×a5,(st'.1.length:Int)=n->θ st'=Y (if Df s.gl st'.1=Og h m s then .next st' else .ret r)):
  ((if(decide (0<=s.gl.Var))=X then((idx st.2 s.gl.Var).bind λd=>Y (!d))else Y T).bind λe=>
   if e=X then(idx st.2 s.gl.Var).bind λ_=>(idx st.1 s.gl.Var).bind λ_=>θ (BR st.1 s.gl.Var (At (Og h m s-s.gl.Add)),BR st.2 s.gl.Var X)else θ (st.1,st.2))=Y (Fu r h m s st):=by
 rw [<-Rr j hi o];have u:=j.term.high;have l1:=hi.l1;have l2:=hi.l2;by_cases g:0<=s.gl.Var
 .rw[AD g U,AD g U];rfl
 .rw[ac h_];rfl
variable{v:Int}
theorem bq{t:gl}{f:gl->Fp->QQ}(hf:∀l:Fp,(l.length:Int)=n->f t l=Y (Df t l))(st':Fp×a5)(e:(st'.1.length:Int)=n):((f t st'.1).bind λd=>if(!decide (d=v))=X then Y (CF.ret (([],11):Fp×Int))else Y (.next st'))=Y (if Df t st'.1=v then .next st' else .ret ([],11)):=l?
theorem kN(j:Up t q)(o:∀s∈q.ek,Kf q.ey h m s):GU q h m=Y (Gh q h m):=by
 have hv:=j.vars;unfold GU Gh Hv;rw[a6 U,bs,a6 U,bs];rw[Si (Fu (([],11):Fp×Int) h m) (VI q.ey) (Th hv.1)]
 .cases hr:E3 (Fu (([],11):Fp×Int) h m) q.ek (v? q.ey.toNat 0,v? q.ey.toNat T)with
  |inr r=>rfl|inl st=>
   have hi:=QK o (Th hv.1) hr;rw[B1,Bk (λi=>!MS (AA q.j4 i) st.1) ([],16)]
   .dsimp only;cases kg (λi=>!MS (AA q.j4 i) st.1) 0 q.j4.length<;>rfl
   .intro i d i1 _;have u:=j.test _ (AI d i1);rw[AD d i1,bs,p_holds u.2.1 u.2.2 hi.small (by have:=hi.l1;omega),bs]
    grind
 .intro i st d i1 hi;have ha:=o _ (AI d i1);refine⟨?_,λs' e=>Q6 ha hi e⟩;rw[AD d i1,bs,AD ha.node.1 ha.node.2,bs,AD ha.val.1 ha.val.2,bs,AD ha.Abo.1 ha.Abo.2,bs];exact Rr ha hi (θ:=λst'=>(FL (AA q.ek i).gl st'.1).bind λg=>if(!decide (g=Og h m (AA q.ek i)))=X then Y (CF.ret (([],11):Fp×Int))else Y (.next st')) (bq λl w=>Vc o!)
theorem kY(j:Up t q)(o:∀s∈q.ek,Kf q.ey h m s):I6 q h m=Y (Gh q h m):=by
 have hv:=j.vars;unfold I6 Gh Hv;rw[a6 U,bs,a6 U,bs];rw[Si (Fu (([],11):Fp×Int) h m) (VI q.ey) (Th hv.1)]
 .cases hr:E3 (Fu (([],11):Fp×Int) h m) q.ek (v? q.ey.toNat 0,v? q.ey.toNat T)with
  |inr r=>rfl|inl st=>
   have hi:=QK o (Th hv.1) hr;rw[B1,Bk (λi=>!MS (AA q.j4 i) st.1) ([],16)]
   .dsimp only;cases kg (λi=>!MS (AA q.j4 i) st.1) 0 q.j4.length<;>rfl
   .intro i d i1 _;have u:=j.test _ (AI d i1);rw[AD d i1,bs,r_holds u.2.1 u.2.2 (by have:=hi.l1;omega),bs]
    grind
 .intro i st d i1 hi;have ha:=o _ (AI d i1);refine⟨?_,λs' e=>Q6 ha hi e⟩;rw[AD d i1,bs,AD ha.node.1 ha.node.2,bs,AD ha.val.1 ha.val.2,bs,AD ha.Abo.1 ha.Abo.2,bs];exact jM ha hi (θ:=λst'=>(KL (AA q.ek i).gl st'.1).bind λg=>if(!decide (g=Og h m (AA q.ek i)))=X then Y (CF.ret (([],11):Fp×Int))else Y (.next st')) (bq λl w=>be o!)
def OP(t:AC)(p:d7)(h:AF):Int:=if JP t p≠0 then JP t p else(ER t h).2
theorem bP(hf:A0 t)(p:d7)(h:AF):FK t p h=Y (OP t p h):=by
 unfold FK OP;rw[Ym hf,bs];refine EX λ_=>?_;rw[Vb hf];rfl
theorem bZ(hf:A0 t)(p:d7)(h:AF):Ih t p h=Y (OP t p h):=by
 unfold Ih OP;rw[dI hf,bs];refine EX λ_=>?_;rw[Vi hf];rfl
def G4(t:AC)(p:d7)(h:AF)(m:d4):Fp×Int:=
 if OP t p h≠0 then([],OP t p h)else if Gx t p.dr h.dr m T≠0 then([],Gx t p.dr h.dr m T)else Gh p h m
variable{p:d7}
theorem Qo(hf:A0 t){inj:Bool}(d:OP t p h=0)(e:Gx t p.dr h.dr m inj=0):(BF t).2=0/\Up t p/\Ix t h/\aC t p.dr h.dr m:=by
 unfold OP at d;split at d
 .grind
 rename_i g;obtain⟨hv,hh⟩:=Ou hf d;exact⟨hv,rZ hv (.inl (x?.1 g)),hh,(dm e).2⟩
theorem kD(hf:A0 t)(p:d7)(h:AF)(m:d4):FJ t p h m=Y (G4 t p h m):=by
 unfold FJ G4;rw[bP hf,bs];refine D2 λe=>?_;rw[Zy hf,bs];refine D2 λg=>?_;obtain⟨hv,d,hh,o⟩:=Qo hf e g;rw[kN d (λs j=>O2 (C6 hv) d hh o j)];rfl
theorem ve(hf:A0 t)(p:d7)(h:AF)(m:d4):KK t p h m=Y (G4 t p h m):=by
 unfold KK G4;rw[bZ hf,bs];refine D2 λe=>?_;rw[Z2 hf,bs];refine D2 λg=>?_;obtain⟨hv,d,hh,o⟩:=Qo hf e g;rw[kY d (λs j=>O2 (C6 hv) d hh o j)];rfl
theorem pT(d:Up t q)(g:∀s∈q.ek,Kf q.ey h m s)(e:(Gh q h m).2=0):((Gh q h m).1.length:Int)=q.ey/\Q9 (Gh q h m).1:=by
 unfold Gh at e|-;cases hr:E3 (Fu (([],11):Fp×Int) h m) q.ek (v? q.ey.toNat 0,v? q.ey.toNat T)with
 |inr r=>
  rw [hr]at e;have:∀(l:List C4)(st:Fp×a5)(r:Fp×Int),E3 (Fu (([],11):Fp×Int) h m) l st=.inr r->r=([],11):=by
   intro l
   induction l with
   |nil=>intro st r h;cases h
   |cons a l o=>
    grind [E3,Fu]
  grind
 |inl st=>
  rw [hr]at e;have hi:=QK g (Th d.vars.1) hr;dsimp only at e|-;split at e
  .cases e
  next j=>rw[ac j];exact⟨hi.l1,hi.small⟩
end Go.Sf.Sc
namespace Go.Sf.Sc
open Go Go.Sf
variable{i:Int}
theorem Io{n:Nat}{α:Type}[Inhabited α](F:Int->α)(d:0<=i)(v:α):BR ((A3 n).map F) i v=(A3 n).map λj=>if j=i then v else F j:=by
 unfold BR;refine w_ V (λk e g=>?_)
 grind [A4,A3]
theorem Cu{n:Nat}{α:Type}{F G:Int->α}(h:∀j,0<=j->j<(n:Int)->F j=G j):(A3 n).map F=(A3 n).map G:=by grind[List.map_congr_left,Dx]
def IJ(n:Nat)(k:Int):a5:=(A3 n).map λj=>decide (j<k)
theorem YZ(n:Nat):IJ n 0=v? n T:=by
 unfold IJ;refine w_ (by simp[A4]) (λk d e=>?_)
 grind [A3,A4]
theorem bH(n:Nat)(k:Int):(IJ n k).length=n:=by unfold IJ;rw[c9,A4]
def Oa(q:d7)(h:AF)(m:d4)(given:Fp):Fp×Bool:=
 match E3 (Fu (([],T):Fp×Bool) h m) q.ek (given++v? (q.ey-given.length).toNat 0,IJ q.ey.toNat given.length)with
 |.inr r=>r|.inl st=>if kg (λi=>!MS (AA q.j4 i) st.1) 0 q.j4.length=X then([],T)else(st.1,X)
variable{n:Int}{given:Fp}
theorem Xg(e:0<=n)(g:given.length<=n)(hv:Q9 given):VI n (given++v? (n-given.length).toNat 0,IJ n.toNat given.length):=by
 refine ⟨a_,by show((IJ n.toNat given.length).length:Int)=n;rw[bH];omega,λx d=>?_⟩;rcases v1.1 d with d|d
 .exact hv x d
 grind
variable{q:d7}{m:d4}{t:AC}
theorem yV{s:Bs}(o:Up t q)(u:∀x∈q.ek,Kf q.ey s.h m x)(z:given.length<=q.ey)(hv:Q9 given):Ed s q m given=Y (Oa q s.h m given):=by
 have B:=o.vars;unfold Ed Oa slices_Clone_int;rw[Be a?,bs,A1 U U];have C:dc given (q.ey-given.length) 0=Y (given++v? (q.ey-given.length).toNat 0):=by
  grind [dc,AY]
 have D:Hv q.ey T=Y (v? q.ey.toNat T):=by
  grind [Hv]
 rw [C,bs,D,bs];have E:ls (λ(d:Int)(w:a5)=>(idx w d).bind λA=>Y (BR w d X)) 0 (given.length:Int) (v? q.ey.toNat T)=Y (IJ q.ey.toNat given.length):=by
  refine By (λi=>IJ q.ey.toNat i) U (YZ _) (λi d i1=>?_);rw[AD d (by rw[bH];omega),bs];congr 1;unfold IJ;rw[Io _ d]
  grind
 rw [E,bs];have j:=Xg B.1 z hv;rw[Si (Fu (([],T):Fp×Bool) s.h m) (VI q.ey) j]
 .cases hr:E3 (Fu (([],T):Fp×Bool) s.h m) q.ek (given++v? (q.ey-given.length).toNat 0,IJ q.ey.toNat given.length)with
  |inr r=>rfl|inl st=>
   have hi:=QK u j hr;rw[B1,Bk (λi=>!MS (AA q.j4 i) st.1) ([],T)]
   .dsimp only;cases kg (λi=>!MS (AA q.j4 i) st.1) 0 q.j4.length<;>rfl
   .intro i d i1 _;have y:=o.test _ (AI d i1);rw[AD d i1,bs,p_holds y.2.1 y.2.2 hi.small (by have:=hi.l1;omega),bs]
    grind
 .intro i st d i1 hi;have ha:=u _ (AI d i1);refine⟨?_,λs' e=>Q6 ha hi e⟩;rw[AD d i1,bs,AD ha.node.1 ha.node.2,bs,AD ha.val.1 ha.val.2,bs,AD ha.Abo.1 ha.Abo.2,bs];refine Rr ha hi (θ:=λst'=>(F7 (AA q.ek i).gl st'.1).bind λg=>if((!decide (g.2=0))||(!decide (g.1=Og s.h m (AA q.ek i))))=X then Y (CF.ret (([],T):Fp×Bool))else Y (.next st')) (λst' F=>?_);rw[fj ha.term.low o! U,bs]
  grind
variable{h:AF}
theorem yr(A:Up t q)(B:∀x∈q.ek,Kf q.ey h m x)(G:given.length<=q.ey)(hv:Q9 given):Mz q h m given=Y (Oa q h m given):=by
 have E:=A.vars;unfold Mz Oa;have J:Hv q.ey T=Y (v? q.ey.toNat T):=by
  unfold Hv;rw[a6 U]
 rw [Be a?,bs,J,bs];have F:ls (λ(d:Int)(g:Fp×a5)=>
   (idx g.2 d).bind λH=>
   if (decide ((given.length:Int)<=d))=X then
   (Aw g.1 [0]).bind λy=>
   Y (y,BR g.2 d (decide (d<(given.length:Int))))
   else
   Y (g.1,BR g.2 d (decide (d<(given.length:Int))))) 0 q.ey (given,v? q.ey.toNat T)=Y (given++v? (q.ey-given.length).toNat 0,(A3 q.ey.toNat).map λj=>decide (j<q.ey)&&decide (j<(given.length:Int))):=by
  refine By (λi=>(given++v? (i-given.length).toNat 0,(A3 q.ey.toNat).map λj=>decide (j<i)&&decide (j<(given.length:Int)))) E.1 ?_ (λi d i1=>?_)
  .have K:((0:Int)-given.length).toNat=0:=U
   rw [K];simp;rw[<-YZ];unfold IJ;refine Cu (λj C D=>?_);rw[show decide (j<0)=T by simp;omega];rfl
  .dsimp only;rw[AD d (by rw[c9,A4];omega),bs];have L:BR ((A3 q.ey.toNat).map λj=>decide (j<i)&&decide (j<(given.length:Int))) i (decide (i<(given.length:Int)))=(A3 q.ey.toNat).map λj=>decide (j<i+1)&&decide (j<(given.length:Int)):=by
    rw [Io _ d];refine Cu (λj C D=>?_);by_cases e:j=i
    .rw[a6 e,e,show decide (i<i+1)=X by simp;omega,y!]
    .rw[ac e];congr 1;rw[decide_eq_decide];omega
   rw [L];by_cases hi:(given.length:Int)<=i
   .rw[a6 o?,AV b_,bs];congr 2;rw[ci,show(i+1-given.length).toNat=(i-given.length).toNat+1 by omega,w!]
   .rw[ac o?];have M:(i+1-given.length).toNat=(i-given.length).toNat:=U
    rw [M]
 have z:((A3 q.ey.toNat).map λj=>decide (j<q.ey)&&decide (j<(given.length:Int)))=IJ q.ey.toNat given.length:=by
  unfold IJ;refine Cu (λj C D=>?_);rw[show decide (j<q.ey)=X by simp;omega,y!]
 rw [z]at F;rw[F,bs];have u:=Xg E.1 G hv;dsimp only;rw[Si (Fu (([],T):Fp×Bool) h m) (VI q.ey) u]
 .cases hr:E3 (Fu (([],T):Fp×Bool) h m) q.ek (given++v? (q.ey-given.length).toNat 0,IJ q.ey.toNat given.length)with
  |inr r=>rfl|inl st=>
   have hi:=QK B u hr;rw[B1,Bk (λi=>!MS (AA q.j4 i) st.1) ([],T)]
   .dsimp only;cases kg (λi=>!MS (AA q.j4 i) st.1) 0 q.j4.length<;>rfl
   .intro i d i1 _;have w:=A.test _ (AI d i1);have I:=hi.l1;rw[AD d i1,bs,QJ w.2.1.low (by have:=w.2.1.high;omega),bs,QJ w.2.2.low (by have:=w.2.2.high;omega),bs,<-JO];unfold MS;dsimp only;congr 1;generalize Df (AA q.j4 i).fu st.1=a;generalize Df (AA q.j4 i).ec st.1=b;rcases w.1 with e|e
    .rw[e,eq_iff_iff];simp
    .rw[e,eq_iff_iff];simp
 .intro i st d i1 hi;have ha:=B _ (AI d i1);refine⟨?_,λs' e=>Q6 ha hi e⟩;rw[AD d i1,bs,AD ha.node.1 ha.node.2,bs,AD ha.val.1 ha.val.2,bs,AD ha.Abo.1 ha.Abo.2,bs];refine Rr ha hi (θ:=λst'=>(Fr (AA q.ek i).gl st'.1).bind λo=>if(!decide (o.1=Og h m (AA q.ek i)))=X then Y (CF.ret (([],T):Fp×Bool))else Y (.next st')) (λst' I=>?_);rw[QJ ha.term.low o!,bs];by_cases e:Df (AA q.ek i).gl st'.1=Og h m (AA q.ek i)
  .rw[ac b?,a6 e]
  .rw[a6 b?,ac e]
theorem tT(g:Up t q)(j:∀s∈q.ek,Kf q.ey h m s)(o:given.length<=q.ey)(hv:Q9 given)(e:(Oa q h m given).2=X):((Oa q h m given).1.length:Int)=q.ey/\Q9 (Oa q h m given).1:=by
 unfold Oa at e|-;have d:=Xg g.vars.1 o hv;cases hr:E3 (Fu (([],T):Fp×Bool) h m) q.ek (given++v? (q.ey-given.length).toNat 0,IJ q.ey.toNat given.length)with
 |inr r=>
  rw [hr]at e;have:∀(l:List C4)(st:Fp×a5)(r:Fp×Bool),E3 (Fu (([],T):Fp×Bool) h m) l st=.inr r->r=([],T):=by
   intro l
   induction l with
   |nil=>intro st r h;cases h
   |cons a l w=>
    grind [E3,Fu]
  grind
 |inl st=>
  rw [hr]at e;have hi:=QK j d hr;dsimp only at e|-;split at e
  .cases e
  next u=>rw[ac u];exact⟨hi.l1,hi.small⟩
def Ve(n:Nat)(by' fd:Fp):Fp:=(A3 by'.length).foldl (λl i=>BR l (AA by' i) (AA fd i)) (v? n (-1))
theorem aj(d fd:Fp):∀(e:Fp)(l:Fp),(e.foldl (λl i=>BR l (AA d i) (AA fd i)) l).length=l.length
 |[],l=>rfl|k::e,l=>by rw[List.foldl_cons,aj d fd e,KS]
theorem Ys{n:Nat}{d fd:Fp}(hb:∀x∈d,0<=x/\x<n)(w:d.length<=fd.length):ls (λ(g:Int)(o:Fp)=>
  (idx d g).bind λe=>
  (idx fd g).bind λj=>
  (idx o e).bind λr=>
  Y (BR o e j)) 0 (d.length:Int) (v? n (-1))=Y (Ve n d fd):=by
 have h:=By (f:=λ(g:Int)(o:Fp)=>
  (idx d g).bind λe=>
  (idx fd g).bind λj=>
  (idx o e).bind λr=>
  Y (BR o e j)) (λi=>(A3 i.toNat).foldl (λl i=>BR l (AA d i) (AA fd i)) (v? n (-1))) (a:=0) (b:=d.length) (s:=v? n (-1)) U rfl (λi g i1=>by
   have u:=hb _ (AI g i1);rw[AD g i1,bs,AD g U,bs,AD u.1 (by rw[aj];simpa using u.2),bs,Hh g,List.foldl_append];rfl)
 rw [h,z_];rfl
theorem gF{n:Nat}{d fd:Fp}(g:n<=1000)(hb:∀x∈d,0<=x/\x<n)(e:d.length<=fd.length):HD n d fd=Y (Ve n d fd):=by
 unfold HD DM;rw[a6 ⟨rfl,U,U⟩,bs];show(ls _ 0 _ (v? (n:Int).toNat (-1))).bind _=_;rw[z_,Ys hb e];rfl
theorem gX{n:Nat}{d fd:Fp}(g:n<=1000)(hb:∀x∈d,0<=x/\x<n)(e:d.length<=fd.length):Kv n d fd=Y (Ve n d fd):=by
 unfold Kv;rw[By (a:=0) (b:=n) (s:=[]) (λi=>v? i.toNat (-1)) U rfl,bs,z_,Ys hb e]
 .rfl
 .intro i j i1;rw[AV b_,bs,show(i+1).toNat=i.toNat+1 by omega,w!]
end Go.Sf.Sc
namespace Go.Sf.Sc
open Go Go.Sf
structure tW(f:AM):Prop where
 nl:f.ea.length<=f.p.dl.length
 node:∀i:Int,0<=i->i<f.ea.length->(0<=AA f.ea i/\AA f.ea i<f.g.dl.length)/\AA (AA f.is (AA f.p.dl i)) (AA f.g.dl (AA f.ea i))=X
 edge:∀i:Int,0<=i->i<f.eg.length->(0<=AA f.eg i/\AA f.eg i<f.g.d3.length)/\AA f.g.d3 (AA f.eg i)=⟨(AA f.p.d3 i).ia,AA f.ea (AA f.p.d3 i).hV,AA f.ea (AA f.p.d3 i).To⟩
 inj:f.en=X->f.ea.Nodup/\f.eg.Nodup
structure lM(f:AM)(m:d4):Prop where
 nl:m.dl.length=f.p.dl.length
 el:m.d3.length=f.p.d3.length
 node:∀i:Int,0<=i->i<m.dl.length->(0<=AA m.dl i/\AA m.dl i<f.g.dl.length)/\AA (AA f.is (AA f.p.dl i)) (AA f.g.dl (AA m.dl i))=X
 edge:∀i:Int,0<=i->i<m.d3.length->(0<=AA m.d3 i/\AA m.d3 i<f.g.d3.length)/\AA f.g.d3 (AA m.d3 i)=⟨(AA f.p.d3 i).ia,AA m.dl (AA f.p.d3 i).hV,AA m.dl (AA f.p.d3 i).To⟩
 inj:f.en=X->m.dl.Nodup/\m.d3.Nodup
variable{i:Int}
theorem jU{α:Type}[Inhabited α](l:List α)(x:α)(h:i=l.length):AA (l++[x]) i=x:=by grind[On]
variable{l:Fp}{k:Int}
theorem Yf{b:Bool}(h:(!(b&&l.any λx=>decide (k=x)))=X)(hb:b=X)(d:l.Nodup):(l++[k]).Nodup:=l?
theorem aE:∀(n:Nat)(f:AM),tW f->f.ea.length=f.p.dl.length->f.eg.length+n=f.p.d3.length->∀m∈EU n f,lM f m
 |0,f,j,y,he,m,d=>by
  rw [EU,List.mem_singleton]at d;subst d;exact⟨y,by simpa using he,j.node,j.edge,j.inj⟩
 |n+1,f,j,y,he,m,d=>by
  rw [EU,w?]at d;obtain⟨k,u,d⟩:=d;have u:=Dx.1 u;split at d
  .rename_i o;unfold SI at o;rw[ne]at o;obtain⟨r,w⟩:=o;rw[Xc,ne,sA]at r;have:=aE n {f with eg:=f.eg++[k]} ⟨j.nl,j.node,λi z i1=>by
    have i1:i<((f.eg++[k]).length:Int):=i1;simp at i1;show(0<=AA (f.eg++[k]) i/\AA (f.eg++[k]) i<f.g.d3.length)/\AA f.g.d3 (AA (f.eg++[k]) i)=⟨(AA f.p.d3 i).ia,AA f.ea (AA f.p.d3 i).hV,AA f.ea (AA f.p.d3 i).To⟩;by_cases e:i=f.eg.length
    .rw[jU _ _ e];exact⟨u,by rw[e];exact r.2⟩
    .rw[Xu _ _ z U];exact j.edge i z U,λhi=>⟨(j.inj hi).1,Yf w hi (j.inj hi).2⟩⟩ y (by show(f.eg++[k]).length+n=f.p.d3.length;rw[az,x_];omega) m d
   exact ⟨this.nl,this.el,this.node,this.edge,this.inj⟩
  .cases d
theorem aF:∀(n:Nat)(f:AM),tW f->f.eg=[]->f.ea.length+n=f.p.dl.length->∀m∈Fw n f,lM f m
 |0,f,o,he,z,m,j=>by
  grind [Fw,aE]
 |n+1,f,o,he,z,m,j=>by
  rw [Fw,w?]at j;obtain⟨k,u,j⟩:=j;have u:=Dx.1 u;split at j
  .rename_i d;unfold SJ at d;rw[ne,ne]at d;obtain⟨⟨_,w⟩,y⟩:=d;have:=aF n {f with ea:=f.ea++[k]} ⟨by show(f.ea++[k]).length<=f.p.dl.length;rw[az,x_];omega,λi r i1=>by
    have i1:i<((f.ea++[k]).length:Int):=i1;simp at i1;show(0<=AA (f.ea++[k]) i/\AA (f.ea++[k]) i<f.g.dl.length)/\AA (AA f.is (AA f.p.dl i)) (AA f.g.dl (AA (f.ea++[k]) i))=X;by_cases e:i=f.ea.length
    .rw[jU _ _ e];exact⟨u,by rw[e];exact w⟩
    .rw[Xu _ _ r U];exact o.node i r U,λi r i1=>by
    have i1:i<(f.eg.length:Int):=i1;rw[he]at i1;have:i<(0:Nat):=i1;omega,λhi=>⟨Yf y hi (o.inj hi).1,(o.inj hi).2⟩⟩ he (by show(f.ea++[k]).length+n=f.p.dl.length;rw[az,x_];omega) m j
   exact ⟨this.nl,this.el,this.node,this.edge,this.inj⟩
  .cases j
variable{t:AC}{m:d4}
theorem YF{p g:dr}{pa:d4}{inj:Bool}(d:m∈Jk t p g pa inj):lM (FF t p g pa inj) m:=
 aF _ (FF t p g pa inj) ⟨Nat.zero_le _,λi e i1=>by have i1:i<(0:Nat):=i1;omega,λi e i1=>by have i1:i<(0:Nat):=i1;omega,λ_=>⟨x!,x!⟩⟩ rfl p_ m (List.mem_of_mem_take d)
theorem eT{p g:dr}{pa:d4}{inj:Bool}(h:E5 t p g=0)(r:m∈Jk t p g pa inj):aC t p g m:=by
 obtain ⟨hv,z,A,tp,u⟩:=Of h;have:=YF r;refine⟨this.nl,this.el,λi d i1=>?_,λi d i1=>(this.edge i d i1).1⟩;obtain⟨e,o⟩:=this.node i d i1;refine⟨e,?_⟩;have j:=this.nl;have w:=tp _ (AI (l:=p.dl) d (by show i<(p.dl.length:Int);have j:m.dl.length=p.dl.length:=j;omega));have y:=u _ (AI (l:=g.dl) e.1 e.2);have o:AA (AA (KT t) (AA p.dl i)) (AA g.dl (AA m.dl i))=X:=o
 grind [AA,KT,Pr,Iw,HP]
theorem n8{p g:dr}{pa:d4}{inj:Bool}(h:E5 t p g=0)(o:m∈Jk t p g pa inj):Gx t p g m inj=0:=by
 have ok:=eT h o;have r:=YF o;have u:OX t p g m=0:=by
  unfold OX;rw[ac (by have:=ok.t2;have:=ok.wi;omega)];have w:fst (Ki t p g m) 0 m.dl.length=W:=by
   rw [Bf];intro i d i1;obtain⟨e,j⟩:=ok.node i d i1
   grind [Ki]
  have y:fst (Hj p g m) 0 m.d3.length=W:=by
   rw [Bf];intro i d i1;obtain⟨e,j⟩:=r.edge i d i1;have e:0<=AA m.d3 i/\AA m.d3 i<g.d3.length:=e;have j:AA g.d3 (AA m.d3 i)=⟨(AA p.d3 i).ia,AA m.dl (AA p.d3 i).hV,AA m.dl (AA p.d3 i).To⟩:=j
   grind [Hj]
  rw [w,y];rfl
 unfold Gx;rw[ac q_,ac k?];cases inj
 .rfl
 .have:=r.inj rfl
  grind [MP,QB]
theorem d8{p g:dr}{pa:d4}{inj:Bool}(h:(T3 t p g pa inj).2=0):(T3 t p g pa inj).1.length<=5000/\∀m∈(T3 t p g pa inj).1,aC t p g m:=by grind[T3,eT]
structure Xl(t:AC)(p:d7)(h:AF)(x:AP):Prop where
 q:Up t p
 m:aC t p.dr h.dr x.d4
 len:(x.ey.length:Int)=p.ey
 small:Q9 x.ey
structure nN(t:AC)(p:d7)(c:d5):Prop where
 q:Up t c.d7
 vars:p.ey<=c.d7.ey
 map:cg p.dr c.d7.dr c.Map
 inj:MP c.Map=X
def EQ(t:AC)(c:d5)(h:AF)(m:AP)(inj:Bool):List AP×Int:=
 let x:=T3 t c.d7.dr h.dr ⟨Ve c.d7.dr.dl.length c.Map.dl m.d4.dl,Ve c.d7.dr.d3.length c.Map.d3 m.d4.d3⟩ inj
 if x.2≠0 then([],x.2)else((x.1.filter λy=>(Oa c.d7 h y m.ey).2).map λy=>⟨y,(Oa c.d7 h y m.ey).1⟩,0)
instance:Inhabited d4:=⟨⟨[],[]⟩⟩
instance:Inhabited AP:=⟨⟨default,[]⟩⟩
instance:Inhabited BQ:=⟨⟨0,default,[]⟩⟩
theorem QW{x:List d4}{F:d4->Fp×Bool}{f:Int->List AP->Option (List AP)}(j:x.length<=5000)
  (hf:∀(i:Int)(s:List AP),0<=i->i<x.length->s.length<=5000->f i s=Y (if(F (AA x i)).2=X then s++[⟨AA x i,(F (AA x i)).1⟩]else s)):
  ls f 0 (x.length:Int) []=Y ((x.filter λy=>(F y).2).map λy=>⟨y,(F y).1⟩):=by
 rw [By (a:=0) (b:=x.length) (s:=[]) (λi=>((x.take i.toNat).filter λy=>(F y).2).map λy=>(⟨y,(F y).1⟩:AP)) U rfl,z_,List.take_length];intro i d i1;have e:(((x.take i.toNat).filter λy=>(F y).2).map λy=>(⟨y,(F y).1⟩:AP)).length<=5000:=by
  grind
 rw [hf i _ d i1 e,BU d i1,List.filter_append,List.map_append];cases g:(F (AA x i)).2<;>simp[g]
variable{p:d7}{c:d5}
theorem yJ{s:Bs}{m:AP}(hf:A0 s.t)(hv:(BF s.t).2=0)(hh:Ix s.t s.h)(ha:Xl s.t p s.h m)(hi:nN s.t p c):Cm s c m=Y (EQ s.t c s.h m s.en):=by
 have A:=hi.q.g.ea;have ge:=hi.q.g.eg;have m1:=hi.map.t2;have B:=hi.map.wi;have C:=ha.m.t2;have D:=ha.m.wi;unfold Cm EQ;rw[gF U (λx e=>by obtain⟨i,d,i1,rfl⟩:=Bh e;exact(hi.map.node i d i1).1) U,bs,
  gF U (λx e=>by obtain⟨i,d,i1,rfl⟩:=Bh e;exact(hi.map.edge i d i1).1) U,bs,rN hf,bs]
 dsimp only;refine D2 λj=>?_;obtain⟨u,w⟩:=d8 j;rw[QW (F:=λy=>Oa c.d7 s.h y m.ey) u]
 .rfl
 .intro i st d i1 z;have o:=w _ (AI d i1);have r:(m.ey.length:Int)<=c.d7.ey:=r_
  rw [AD d i1,bs,yV hi.q (λx e=>O2 (C6 hv) hi.q hh o e) r ha.small,bs,<-JO]
  grind [AV,AY]
variable{h:AF}
theorem yd{inj:Bool}{m:AP}(hf:A0 t)(hv:(BF t).2=0)(hh:Ix t h)(ha:Xl t p h m)(hi:nN t p c):F4 t c h m inj=Y (EQ t c h m inj):=by
 have A:=hi.q.g.ea;have ge:=hi.q.g.eg;have m1:=hi.map.t2;have B:=hi.map.wi;have C:=ha.m.t2;have D:=ha.m.wi;unfold F4 EQ;rw[gX U (λx e=>by obtain⟨i,d,i1,rfl⟩:=Bh e;exact(hi.map.node i d i1).1) U,bs,
  gX U (λx e=>by obtain⟨i,d,i1,rfl⟩:=Bh e;exact(hi.map.edge i d i1).1) U,bs,ra hf,bs]
 dsimp only;refine D2 λj=>?_;obtain⟨u,w⟩:=d8 j;rw[QW (F:=λy=>Oa c.d7 h y m.ey) u]
 .rfl
 .intro i st d i1 z;have o:=w _ (AI d i1);have r:(m.ey.length:Int)<=c.d7.ey:=r_
  rw [AD d i1,bs,yr hi.q (λx e=>O2 (C6 hv) hi.q hh o e) r ha.small,bs,<-JO]
  grind [AV,AY]
theorem jp{inj:Bool}{m:AP}(hv:(BF t).2=0)(hh:Ix t h)(ha:Xl t p h m)(hi:nN t p c)(e:(EQ t c h m inj).2=0):(EQ t c h m inj).1.length<=5000/\∀x∈(EQ t c h m inj).1,Xl t c.d7 h x:=by
 unfold EQ at e|-;dsimp only at e|-;split at e
 .grind
 rename_i j;rw[ac j];obtain⟨u,w⟩:=d8 (x?.1 j);refine⟨by dsimp only;rw[c9];exact Nat.le_trans (List.length_filter_le _ _) u,λx d=>?_⟩;dsimp only at d;rw[List.mem_map]at d;obtain⟨y,g,rfl⟩:=d;rw[List.mem_filter]at g;have o:=w y g.1;have r:(m.ey.length:Int)<=c.d7.ey:=r_
 have:=tT hi.q (λx d=>O2 (C6 hv) hi.q hh o d) r ha.small g.2;exact⟨hi.q,o,this.1,this.2⟩
end Go.Sf.Sc
namespace Go.Sf.Sc
open Go Go.Sf
inductive CV(t:AC):d7->d5->Prop where
 |mk (p:d7) (c:d5) (few:c.em.length<=40) (rng:1<=c.jj/\c.jj<=5) (one:c.jj=2\/c.jj=5->c.em.length=1) (ins:c.jj=5->nN t p c) (kids:∀k∈c.em,CV t (if c.jj=5 then c.d7 else p) k):CV t p c
variable{t:AC}{p:d7}{c:d5}
theorem CV.few(h:CV t p c):c.em.length<=40:=j_
theorem CV.rng(h:CV t p c):1<=c.jj/\c.jj<=5:=j_
theorem CV.one(h:CV t p c):c.jj=2\/c.jj=5->c.em.length=1:=j_
theorem CV.ins(h:CV t p c):c.jj=5->nN t p c:=j_
theorem CV.kids(h:CV t p c):∀k∈c.em,CV t (if c.jj=5 then c.d7 else p) k:=j_
theorem CV.kid(h:CV t p c)(d:¬c.jj=5):∀k∈c.em,CV t p k:=λk e=>by have:=h.kids k e;rwa[ac d]at this
theorem CV.kid5(h:CV t p c)(d:c.jj=5):∀k∈c.em,CV t c.d7 k:=λk e=>by have:=h.kids k e;rwa[a6 d]at this
theorem U7:∀l:List d5,l.length<=S9 l
 |[]=>by simp|c::l=>by
  have:=U7 l
  grind [S9,Do,U8,cE]
variable{q:d7}{v:Int}
theorem ABH(hv:(BF t).2=0)(h:VM t q v=0):Up t q:=by grind[VM,rZ]
theorem th(hv:(BF t).2=0):∀(N:Nat)(c:d5)(p:d7),SizeOf.sizeOf c<=N->Do c<=40->Tj N c=X->Ma N t p c=0->CV t p c
 |0,c,_,h,_,_,_=>by have:=EI c;omega|N+1,c,p,h,L,z,ho=>by
  have E:=U8 c;have F:=U7 c.em;rw[Tj,ne]at z;obtain⟨u,o⟩:=z;have d:c.jj=2\/c.jj=5->c.em.length=1:=by
   intro j;unfold UD at u
   grind
  have g:1<=c.jj/\c.jj<=5:=by
   grind [UD]
  have w:∀q,(fst (λi=>nz (Ma N t q (AA c.em i))) 0 c.em.length).getD 0=0->∀k∈c.em,CV t q k:=by
   intro q A k j;have G:=VG A;have J:=Wz j;have K:=FG j;rw[List.all_eq_true]at o;obtain⟨i,H,i1,e⟩:=Bh j;have y:=G i H i1;rw[e]at y;exact th hv N k q U U (o k j) y
  rw [Ma]at ho;by_cases r:c.jj=5
  .rw[a6 r]at ho;split at ho
   .cases ho
   rename_i I;split at ho
   .grind
   rename_i B;split at ho
   .grind
   rename_i C;split at ho
   .cases ho
   rename_i D;refine CV.mk p c U g d (λ_=>⟨ABH hv (x?.1 B),U,V8 (x?.1 C),by simpa using D⟩) ?_
   grind
  .rw[ac r]at ho;refine CV.mk p c U g d (λe=>absurd e r) ?_
   grind
section
variable{α σ ρ:Type}
variable{f:Int->σ->Option (CF σ ρ)}
theorem Ut[Inhabited α]{l:List α}(step:α->σ->CF σ ρ)(I:Int->σ->Prop)(h:∀(i:Int)s,0<=i->i<l.length->I i s->f i s=Y (step (AA l i) s)/\∀s',step (AA l i) s=.next s'->I (i+1) s'):
  ∀(n:Nat)(a:Int)(s:σ),0<=a->a+n=l.length->I a s->tl f n a s=Y (E3 step (l.drop a.toNat) s)
 |0,a,s,d,o,_=>by
  rw [v6 U];rfl
 |n+1,a,s,d,o,u=>by
  obtain ⟨g,j⟩:=h a s d U u;have hd:l.drop a.toNat=AA l a::l.drop (a+1).toNat:=by
   grind [v_,AA,v!]
  rw [Ew,g,hd,E3];cases e:step (AA l a) s with
  |next s'=>
   simp only;exact Ut step I h n (a+1) s' U U (j s' e)
  |brk s'=>rfl|ret r=>rfl
theorem YD[Inhabited α]{l:List α}(step:α->σ->CF σ ρ)(I:Int->σ->Prop){s:σ}(d:I 0 s)(h:∀(i:Int)s,0<=i->i<l.length->I i s->f i s=Y (step (AA l i) s)/\∀s',step (AA l i) s=.next s'->I (i+1) s'):
  gt f 0 l.length s=Y (E3 step l s):=by
 have:=Ut step I h l.length 0 s U U d;unfold gt;rw[show((l.length:Int)-0).toNat=l.length by omega];exact this
theorem Y3{d s2:α->σ->CF σ ρ}:∀{l:List α}{s:σ},(∀a∈l,d a=s2 a)->E3 d l s=E3 s2 l s
 |[],_,_=>rfl|a::l,s,h=>by
  rw [E3,E3,h a V];split
  .exact Y3 λb hb=>h b (by simp[hb])
  .rfl
  .rfl
end
abbrev zM:AP:=⟨⟨[],[]⟩,[]⟩
abbrev zP:BQ:=⟨0,zM,[]⟩
def PD(w:d5->BQ×Int)(k:d5)(s:BQ×BQ):CF (BQ×BQ) (BQ×Int):=
 if (w k).2≠0 then .ret (zP,(w k).2)else .next (s.1,⟨s.2.Aag,s.2.j0,s.2.em++[(w k).1]⟩)
def U2(w:d5->BQ×Int)(l:List d5):BQ×Int:=
 match E3 (PD w) l (zP,zP)with
 |.inl s=>(s.2,0)|.inr r=>r
def DR(t:AC)(h:AF)(inj:Bool):Nat->d5->AP->BQ×Int
 |0,_,_=>(zP,0)|N+1,c,m=>
  if c.jj=2 then(if(DR t h inj N (AA c.em 0) m).2=0 then(zP,10)else if(DR t h inj N (AA c.em 0) m).2=10 then(zP,0)else(zP,(DR t h inj N (AA c.em 0) m).2))else
  if c.jj=3 then U2 (λk=>DR t h inj N k m) c.em else
  if c.jj=4 then(fst (λi=>if(DR t h inj N (AA c.em i) m).2=0 then Y (⟨i,zM,[(DR t h inj N (AA c.em i) m).1]⟩,0)else if(DR t h inj N (AA c.em i) m).2≠10 then Y (zP,(DR t h inj N (AA c.em i) m).2)else W) 0 c.em.length).getD (zP,10)else
  if c.jj=5 then
   (if(EQ t c h m inj).2≠0 then(zP,(EQ t c h m inj).2)else
   (fst (λi=>if(DR t h inj N (AA c.em 0) (AA (EQ t c h m inj).1 i)).2=0 then Y (⟨0,AA (EQ t c h m inj).1 i,[(DR t h inj N (AA c.em 0) (AA (EQ t c h m inj).1 i)).1]⟩,0)else
    if (DR t h inj N (AA c.em 0) (AA (EQ t c h m inj).1 i)).2≠10 then Y (zP,(DR t h inj N (AA c.em 0) (AA (EQ t c h m inj).1 i)).2)else W) 0 (EQ t c h m inj).1.length).getD (zP,10))else
  (zP,0)
def DQ(t:AC)(h:AF)(inj:Bool):Nat->d5->AP->BQ×Int
 |0,_,_=>(zP,0)|N+1,c,m=>
  if c.jj=2 then(if(DQ t h inj N (AA c.em 0) m).2=0 then(zP,10)else if(DQ t h inj N (AA c.em 0) m).2=10 then(zP,0)else(zP,(DQ t h inj N (AA c.em 0) m).2))else
  if c.jj=3 then U2 (λk=>DQ t h inj N k m) c.em else
  if c.jj=4 then(fst (λi=>if(DQ t h inj N (AA c.em i) m).2≠10 then Y (⟨i,zM,[(DQ t h inj N (AA c.em i) m).1]⟩,(DQ t h inj N (AA c.em i) m).2)else W) 0 c.em.length).getD (zP,10)else
  if c.jj=5 then
   (if(EQ t c h m inj).2≠0 then(zP,(EQ t c h m inj).2)else
   (fst (λi=>if(DQ t h inj N (AA c.em 0) (AA (EQ t c h m inj).1 i)).2≠10 then Y (⟨0,AA (EQ t c h m inj).1 i,[(DQ t h inj N (AA c.em 0) (AA (EQ t c h m inj).1 i)).1]⟩,(DQ t h inj N (AA c.em 0) (AA (EQ t c h m inj).1 i)).2)else W) 0 (EQ t c h m inj).1.length).getD (zP,10))else
  (zP,0)
def Nu(x:BQ×Int):BQ×Int:=if x.2=0 then x else(zP,x.2)
theorem oM(x:BQ×Int):(Nu x).2=x.2:=by unfold Nu;split<;>rfl
theorem oL{x:BQ×Int}(h:x.2=0):(Nu x).1=x.1:=by unfold Nu;rw[a6 h]
theorem qN(w:d5->BQ×Int)(l:List d5):Nu (U2 w l)=U2 w l:=by
 unfold U2;have:∀(l:List d5)(s:BQ×BQ)(r:BQ×Int),E3 (PD w) l s=.inr r->Nu r=r:=by
  intro l
  induction l with
  |nil=>intro s r h;cases h
  |cons a l g=>
   intro s r h;rw[E3]at h;split at h
   .exact g _ _ h
   .cases h
   .rename_i j d;cases h;unfold PD at d;split at d
    next e=>cases d;unfold Nu;rw[ac e]
    .cases d
 cases hr:E3 (PD w) l (zP,zP)with
 |inl s=>rfl|inr r=>exact this _ _ _ hr
theorem aq(o:Option (BQ×Int)):Nu (o.getD (zP,10))=(o.map Nu).getD (zP,10):=by cases o<;>rfl
theorem lG(t:AC)(h:AF)(inj:Bool):∀(N:Nat)(c:d5)(m:AP),DR t h inj N c m=Nu (DQ t h inj N c m)
 |0,_,_=>rfl|N+1,c,m=>by
  have w:=lG t h inj N;have key:∀(c:d5)(m:AP),(DR t h inj N c m).2=(DQ t h inj N c m).2:=λc m=>by rw[w,oM]
  have pick:∀(k:d5)(m x:AP)(i:Int),(if(DR t h inj N k m).2=0 then Y ((⟨i,x,[(DR t h inj N k m).1]⟩:BQ),(0:Int))else if(DR t h inj N k m).2≠10 then Y (zP,(DR t h inj N k m).2)else W)=(if(DQ t h inj N k m).2≠10 then Y ((⟨i,x,[(DQ t h inj N k m).1]⟩:BQ),(DQ t h inj N k m).2)else W).map Nu:=by
   intro k m x i;rw[key];by_cases d:(DQ t h inj N k m).2=0
   .rw[a6 d,a6 U,w,oL d];simp[Nu,d]
   .rw[ac d];by_cases e:(DQ t h inj N k m).2≠10
    .rw[a6 e,a6 e];simp[Nu,d]
    grind
  rw [DR,DQ];by_cases j:c.jj=2
  .rw[a6 j,a6 j,key];by_cases d:(DQ t h inj N (AA c.em 0) m).2=0
   .rw[a6 d];rfl
   .rw[ac d];by_cases e:(DQ t h inj N (AA c.em 0) m).2=10
    .rw[a6 e];rfl
    .rw[ac e];unfold Nu;rw[ac d]
  rw [ac j,ac j];by_cases o:c.jj=3
  .rw[a6 o,a6 o,qN];unfold U2;rw[Y3 (s2:=PD λk=>DQ t h inj N k m)];intro k _;funext s;unfold PD;simp only[key];by_cases d:(DQ t h inj N k m).2=0
   .rw[ac (by simp[d]),ac (by simp[d]),w,oL d]
   .rw[a6 d,a6 d]
  rw [ac o,ac o];by_cases r:c.jj=4
  .rw[a6 r,a6 r,aq,<-Gl];congr 1;exact congrArg (λF=>fst F 0 (c.em.length:Int)) (funext λi=>pick _ _ _ _)
  rw [ac r,ac r];by_cases u:c.jj=5
  .rw[a6 u,a6 u];by_cases g:(EQ t c h m inj).2≠0
   .rw[a6 g,a6 g];unfold Nu;rw[ac g]
   .rw[ac g,ac g,aq,<-Gl];congr 1;exact congrArg (λF=>fst F 0 ((EQ t c h m inj).1.length:Int)) (funext λi=>pick _ _ _ _)
  rw [ac u,ac u];rfl
end Go.Sf.Sc
namespace Go.Sf.Sc
open Go Go.Sf
def Sl(i:Int)(s:BQ×BQ):Prop:=(s.2.em.length:Int)=i
theorem Yo{s:Bs}(hf:A0 s.t)(hv:(BF s.t).2=0)(hh:Ix s.t s.h):∀(N:Nat)(c:d5)(p:d7)(m:AP),SizeOf.sizeOf c<=N->CV s.t p c->Xl s.t p s.h m->∀n,2*N<=n->BA n s c m=Y (DR s.t s.h s.en N c m)
 |0,c,_,_,h,_,_,_,_=>by have:=EI c;omega|N+1,c,p,m,h,j,ha,n,C=>by
  obtain ⟨n,rfl⟩:∃k,n=k+2:=⟨n-2,U⟩;have kid:∀(i:Int),0<=i->i<c.em.length->SizeOf.sizeOf (AA c.em i)<=N:=λi d i1=>by
   have:=FG (AI (l:=c.em) d i1);omega
  rw [BA,DR];by_cases o:c.jj=2
  .have B:=j.one (.inl o);rw[a6 h!,a6 o,AD U U,bs,Yo hf hv hh N _ p m (kid 0 U U) (j.kid U _ (AI U U)) ha (n+1) U,bs]
   grind
  rw [ac h!,ac o];by_cases w:c.jj=3
  .rw[a6 n!,a6 w];have z:=j.few;rw[YD (PD λk=>DR s.t s.h s.en N k m) Sl (show Sl 0 (zP,zP)from rfl)]
   .unfold U2;show ei (Y (E3 (PD λk=>DR s.t s.h s.en N k m) c.em (zP,zP))) _ _=_;cases E3 (PD λk=>DR s.t s.h s.en N k m) c.em (zP,zP)<;>rfl
   .intro i st d i1 hi;unfold Sl at hi;rw[AD d i1,bs,Yo hf hv hh N _ p m (kid i d i1) (j.kid U _ (AI d i1)) ha (n+1) U,bs]
    grind [PD,DR,AA,AV,AY,Sl]
  rw [ac n!,ac w];by_cases y:c.jj=4
  .rw[a6 (by simpa using y),a6 y];rw[EY (λ_=>zP) (λi=>if(DR s.t s.h s.en N (AA c.em i) m).2=0 then Y (⟨i,zM,[(DR s.t s.h s.en N (AA c.em i) m).1]⟩,0)else if(DR s.t s.h s.en N (AA c.em i) m).2≠10 then Y (zP,(DR s.t s.h s.en N (AA c.em i) m).2)else W) U rfl]
   .cases fst (λi=>if(DR s.t s.h s.en N (AA c.em i) m).2=0 then Y ((⟨i,zM,[(DR s.t s.h s.en N (AA c.em i) m).1]⟩:BQ),(0:Int))else if(DR s.t s.h s.en N (AA c.em i) m).2≠10 then Y (zP,(DR s.t s.h s.en N (AA c.em i) m).2)else W) 0 c.em.length<;>rfl
   .intro i d i1 _;rw[AD d i1,bs,Yo hf hv hh N _ p m (kid i d i1) (j.kid U _ (AI d i1)) ha (n+1) U,bs];generalize DR s.t s.h s.en N (AA c.em i) m=x;by_cases g:x.2=0
    .rw[a6 h_,a6 g];try rfl
    .rw[ac h_,ac g];by_cases e:x.2=10
     .rw[ac b?,ac b?];try rfl
     .rw[a6 b?,a6 e];try rfl
  rw [ac (by simpa using y),ac y];by_cases r:c.jj=5
  .rw[a6 n_,a6 r];have hi:=j.ins r;have B:=j.one (.inr r);rw[Bo,yJ hf hv hh ha hi,bs];by_cases u:(EQ s.t c s.h m s.en).2=0
   .obtain⟨e,A⟩:=jp hv hh ha hi u;rw[ac k?,ac k?];generalize (EQ s.t c s.h m s.en).1=l at e A;rw[EY (λ_=>zP) (λi=>if(DR s.t s.h s.en N (AA c.em 0) (AA l i)).2=0 then Y (⟨0,AA l i,[(DR s.t s.h s.en N (AA c.em 0) (AA l i)).1]⟩,0)else if(DR s.t s.h s.en N (AA c.em 0) (AA l i)).2≠10 then Y (zP,(DR s.t s.h s.en N (AA c.em 0) (AA l i)).2)else W) U rfl]
    .cases fst (λi=>if(DR s.t s.h s.en N (AA c.em 0) (AA l i)).2=0 then Y ((⟨0,AA l i,[(DR s.t s.h s.en N (AA c.em 0) (AA l i)).1]⟩:BQ),(0:Int))else if(DR s.t s.h s.en N (AA c.em 0) (AA l i)).2≠10 then Y (zP,(DR s.t s.h s.en N (AA c.em 0) (AA l i)).2)else W) 0 l.length<;>rfl
    .intro i d i1 _;rw[AD d i1,bs,AD U U,bs,Yo hf hv hh N _ c.d7 _ (kid 0 U U) (j.kid5 r _ (AI U U)) (A _ (AI d i1)) n U,bs];generalize DR s.t s.h s.en N (AA c.em 0) (AA l i)=x;by_cases g:x.2=0
     .rw[a6 h_,a6 g];try rfl
     .rw[ac h_,ac g];by_cases e:x.2=10
      .rw[ac b?,ac b?];try rfl
      .rw[a6 b?,a6 e];try rfl
   .rw[a6 k?,a6 u];try rfl
  grind
variable{t:AC}
theorem TX{d:AF}{inj:Bool}(hf:A0 t)(hv:(BF t).2=0)(hh:Ix t d):∀(N:Nat)(c:d5)(p:d7)(m:AP),SizeOf.sizeOf c<=N->CV t p c->Xl t p d m->∀n,N<=n->DX n t c d m inj=Y (DQ t d inj N c m)
 |0,c,_,_,h,_,_,_,_=>by have:=EI c;omega|N+1,c,p,m,h,j,ha,n,C=>by
  obtain ⟨n,rfl⟩:∃k,n=k+1:=⟨n-1,U⟩;have kid:∀(i:Int),0<=i->i<c.em.length->SizeOf.sizeOf (AA c.em i)<=N:=λi e i1=>by
   have:=FG (AI (l:=c.em) e i1);omega
  rw [DX,DQ];by_cases o:c.jj=2
  .have B:=j.one (.inl o);rw[a6 h!,a6 o,AD U U,bs,TX hf hv hh N _ p m (kid 0 U U) (j.kid U _ (AI U U)) ha n U,bs]
   grind
  rw [ac h!,ac o];by_cases u:c.jj=3
  .rw[a6 g_,a6 u];have z:=j.few;rw[YD (PD λk=>DQ t d inj N k m) Sl (show Sl 0 (zP,zP)from rfl)]
   .unfold U2;show ei (Y (E3 (PD λk=>DQ t d inj N k m) c.em (zP,zP))) _ _=_;cases E3 (PD λk=>DQ t d inj N k m) c.em (zP,zP)<;>rfl
   .intro i st e i1 hi;unfold Sl at hi;rw[AD e i1,bs,TX hf hv hh N _ p m (kid i e i1) (j.kid U _ (AI e i1)) ha n U,bs]
    grind [PD,DQ,AA,AV,AY,Sl]
  rw [ac g_,ac u];by_cases w:c.jj=4
  .rw[a6 n!,a6 w];rw[EY (λ_=>zP) (λi=>if(DQ t d inj N (AA c.em i) m).2≠10 then Y (⟨i,zM,[(DQ t d inj N (AA c.em i) m).1]⟩,(DQ t d inj N (AA c.em i) m).2)else W) U rfl]
   .cases fst (λi=>if(DQ t d inj N (AA c.em i) m).2≠10 then Y ((⟨i,zM,[(DQ t d inj N (AA c.em i) m).1]⟩:BQ),(DQ t d inj N (AA c.em i) m).2)else W) 0 c.em.length<;>rfl
   .intro i e i1 _;rw[AD e i1,bs,TX hf hv hh N _ p m (kid i e i1) (j.kid U _ (AI e i1)) ha n U,bs];generalize DQ t d inj N (AA c.em i) m=x;by_cases g:x.2=10
    .rw[ac o2,ac o2];try rfl
    .rw[a6 o2,a6 g];try rfl
  rw [ac n!,ac w];by_cases r:c.jj=5
  .rw[a6 n_,a6 r];have hi:=j.ins r;have B:=j.one (.inr r);rw[yd hf hv hh ha hi,bs];by_cases y:(EQ t c d m inj).2=0
   .obtain⟨g,A⟩:=jp hv hh ha hi y;rw[ac (by simp[y]),ac (by simp[y])];generalize (EQ t c d m inj).1=l at g A;rw[EY (λ_=>zP) (λi=>if(DQ t d inj N (AA c.em 0) (AA l i)).2≠10 then Y (⟨0,AA l i,[(DQ t d inj N (AA c.em 0) (AA l i)).1]⟩,(DQ t d inj N (AA c.em 0) (AA l i)).2)else W) U rfl]
    .cases fst (λi=>if(DQ t d inj N (AA c.em 0) (AA l i)).2≠10 then Y ((⟨0,AA l i,[(DQ t d inj N (AA c.em 0) (AA l i)).1]⟩:BQ),(DQ t d inj N (AA c.em 0) (AA l i)).2)else W) 0 l.length<;>rfl
    .intro i e i1 _;rw[AD U U,bs,AD e i1,bs,TX hf hv hh N _ c.d7 _ (kid 0 U U) (j.kid5 r _ (AI U U)) (A _ (AI e i1)) n U,bs];generalize DQ t d inj N (AA c.em 0) (AA l i)=x;by_cases g:x.2=10
     .rw[ac o2,ac o2];try rfl
     .rw[a6 o2,a6 g];try rfl
   grind
  grind
end Go.Sf.Sc
namespace Go.Sf.Sc
open Go Go.Sf
noncomputable def U5(t:AC)(p:d7)(c:d5)(h:AF)(m:AP)(inj:Bool):Int:=
 if PK t p c≠0 then PK t p c else if(ER t h).2≠0 then(ER t h).2 else if Gx t p.dr h.dr m.d4 inj≠0 then Gx t p.dr h.dr m.d4 inj else
 if (G4 t p h m.d4).2≠0 then(G4 t p h m.d4).2 else if(G4 t p h m.d4).1=m.ey then 0 else 11
variable{t:AC}{c:d5}
theorem rK(hf:A0 t)(p:d7)(d:ET c)(h:AF)(m:AP)(inj:Bool):GW t p c h m inj=Y (U5 t p c h m inj):=by
 unfold GW U5;rw[vM hf p d,bs];refine EX λ_=>?_;rw[Vb hf,bs];refine EX λ_=>?_;rw[Zy hf,bs];refine EX λ_=>?_;rw[kD hf,bs];refine EX λ_=>?_;rw[Kb,bs]
 grind
variable{p:d7}{h:AF}
theorem X3(hf:A0 t)(z:Do c<=40){m:AP}{inj:Bool}(e:U5 t p c h m inj=0):(BF t).2=0/\Ix t h/\CV t p c/\Xl t p h m:=by
 unfold U5 at e;split at e
 .grind
 rename_i d;split at e
 .grind
 rename_i j;split at e
 .grind
 rename_i o;split at e
 .grind
 rename_i r;split at e
 case isFalse=>cases e
 rename_i C;have d:=x?.1 d;have j:=x?.1 j;have o:=x?.1 o;have r:=x?.1 r;obtain⟨hv,hh⟩:=Ou hf j;have w:=(dm o).2;unfold PK at d;split at d
 .grind
 rename_i A;split at d
 .grind
 rename_i u;have y:=rZ hv (.inl (x?.1 A));have u:=x?.1 u;have B:uR c=X:=by
  grind [ST]
 suffices g:(m.ey.length:Int)=p.ey/\Q9 m.ey from⟨hv,hh,th hv _ c p (ae _) z B d,y,w,g.1,g.2⟩
 have g:∀s∈p.ek,Kf p.ey h m.d4 s:=λs g=>O2 (C6 hv) y hh w g
 grind [G4,pT]
end Go.Sf.Sc
namespace Go.Sf.Sc
open Go Go.Sf
def Rx:Nat->d5->Bool
 |0,_=>X|N+1,c=>if kg (λi=>!Rx N (AA c.em i)) 0 c.em.length=X then T else decide (At ((c.d7.dr.dl.length:Int)+c.d7.dr.d3.length)<=6)
theorem ba:∀(N:Nat)(c:d5),SizeOf.sizeOf c<=N->∀n,N<=n->Gs n c=Y (Rx N c)
 |0,c,h,_,_=>by have:=EI c;omega|N+1,c,h,n,e=>by
  obtain ⟨n,rfl⟩:∃k,n=k+1:=⟨n-1,U⟩;rw[Gs,Rx,Bk (λi=>!Rx N (AA c.em i)) T]
  .cases kg (λi=>!Rx N (AA c.em i)) 0 c.em.length<;>rfl
  .intro i d i1 _;have:=FG (AI (l:=c.em) d i1);rw[AD d i1,bs,ba N _ U n U,bs,JO]
theorem rf(c:d5):SR c=Y (Rx (SizeOf.sizeOf c) c):=DV (SizeOf.sizeOf c) λn d=>ba _ c (ae _) n d
def VT(a:Int):Nat->Int->Int
 |0,s=>s|k+1,s=>At (VT a k s*a)
theorem uG{a b k s:Int}(g:0<=k)(e:k<=1000)(hb:b<=1000):D5 (ρ:=Bool) (λ(d:Int×Int)=>
  if (decide (d.2<b))=X then
  Y (.next (At (d.1*a),At (d.2+1)))
  else
  Y (.brk (d.1,d.2))) (s,k)=Y (.inl (VT a (max k b-k).toNat s,max k b)):=by
 refine P1 (λi=>VT a (i-k).toNat s) U (by rw[show(k-k).toNat=0 by omega];rfl) (λi j i1=>?_) ?_
 .rw[a6 a_,show(i+1-k).toNat=(i-k).toNat+1 by omega,VT];dsimp only;rw[A1 (n:=i+1) U U]
 .rw[ac a_]
def R8(a b:Int):Nat->d7->d5->Bool
 |0,_,_=>X|N+1,p,c=>
  let q:=if c.jj=5 then c.d7 else p
  if kg (λi=>!R8 a b N q (AA c.em i)) 0 c.em.length=X then T else
  decide (VT b (max (p.dr.d3.length:Int) q.dr.d3.length-p.dr.d3.length).toNat (VT a (max (p.dr.dl.length:Int) q.dr.dl.length-p.dr.dl.length).toNat 1)<=5000)
theorem gT(a b:Int):∀(N:Nat)(c:d5)(p:d7),SizeOf.sizeOf c<=N->ET c->P7 p->∀n,N<=n->E1 n p c a b=Y (R8 a b N p c)
 |0,c,_,h,_,_,_,_=>by have:=EI c;omega|N+1,c,p,h,g,y,n,J=>by
  obtain ⟨n,rfl⟩:∃k,n=k+1:=⟨n-1,U⟩;have D:=g.q.ea;have E:=g.q.eg;have F:=y.ea;have G:=y.eg;have e:∀q:d7,P7 q->(ei (D5 (ρ:=Bool) (λ(d:Int×Int)=>
    if (decide (d.2<(q.dr.dl.length:Int)))=X then
    Y (.next (At (d.1*a),At (d.2+1)))
    else
    Y (.brk (d.1,d.2))) (1,(p.dr.dl.length:Int))) (λd=>
    ei (D5 (ρ:=Bool) (λ(s2:Int×Int)=>
    if (decide (s2.2<(q.dr.d3.length:Int)))=X then
    Y (.next (At (s2.1*b),At (s2.2+1)))
    else
    Y (.brk (s2.1,s2.2))) (d.1,(p.dr.d3.length:Int))) (λs2=>
    ei (gt (ρ:=Bool) (λ(z:Int)(_:Unit)=>
    (idx c.em z).bind λj=>
    (E1 n q j a b).bind λo=>
    if (!o)=X then
    Y (.ret T)
    else
    Y (.next ())) 0 (c.em.length:Int) ()) (λ_=>
    Y (decide (s2.1<=5000))) (λA=>Y A)) (λB=>Y B)) (λC=>Y C))=
    Y (if kg (λi=>!R8 a b N q (AA c.em i)) 0 c.em.length=X then T else
     decide (VT b (max (p.dr.d3.length:Int) q.dr.d3.length-p.dr.d3.length).toNat (VT a (max (p.dr.dl.length:Int) q.dr.dl.length-p.dr.dl.length).toNat 1)<=5000)):=by
   intro q r;have H:=r.ea;have I:=r.eg;rw[uG U U U,B1];dsimp only;rw[uG U U U,B1,Bk (λi=>!R8 a b N q (AA c.em i)) T]
   .cases kg (λi=>!R8 a b N q (AA c.em i)) 0 c.em.length<;>rfl
   .intro i u i1 _;have:=FG (AI (l:=c.em) u i1);rw[AD u i1,bs,gT a b N _ q U (g.k _ (AI u i1)) r n U,bs,JO]
  rw [E1,R8];by_cases w:c.jj=5
  .rw[a6 n!,a6 w,bs,e _ g.q]
  grind
variable{c:d5}{p:d7}
theorem ou(a b:Int)(d:ET c)(e:P7 p):RF p c a b=Y (R8 a b (SizeOf.sizeOf c) p c):=DV (SizeOf.sizeOf c) λn g=>gT a b _ c p (ae _) d e n g
theorem d9(h:AF):∃b,If h=Y b:=by
 unfold If Jt;rw[bs];split
 .exact⟨_,rfl⟩
 .rw[Bk (λi=>decide (12<((AA h.eb i).length:Int))) T]
  .cases kg (λi=>decide (12<((AA h.eb i).length:Int))) 0 h.eb.length
   .exact⟨X,rfl⟩
   .exact⟨T,rfl⟩
  .intro i d i1 _;rw[AD d i1,bs,JO]
variable{t:AC}
theorem o6(hf:A0 t)(st:(AK t).Sm)(p g:dr):∃b,N8 t p g=Y b:=by
 obtain ⟨b,e,_⟩:=Se st;unfold N8 Jt;rw[e,bs,UV hf]
 grind
theorem o7(hf:A0 t)(st:(AK t).Sm)(p:d7)(w:(AJ c).Sm)(h:AF):∃b,N9 t p c h=Y b/\(b=X->ET c/\Do c<=40/\P7 p):=by
 obtain ⟨y,z,A⟩:=nm w;obtain⟨B,r,C⟩:=TO p;obtain⟨D,u⟩:=d9 h;unfold N9;rw[z,bs];cases y
 .exact⟨T,rfl,λh=>c_⟩
 rw [r];cases B
 .exact⟨T,rfl,λh=>c_⟩
 rw [u];cases D
 .exact⟨T,rfl,λh=>c_⟩
 have g:=A rfl;have j:=C rfl;simp only[bs,Bool.not_true,y?,if_false];rw[oy hf p g.1,bs];have d:∀o:K1,(∃b,o=Y b)->∃b,o=Y b/\(b=X->ET c/\Do c<=40/\P7 p):=λo⟨b,e⟩=>⟨b,e,λ_=>⟨g.1,g.2,j⟩⟩;refine d _ ?_;split
 .exact⟨X,rfl⟩
 .obtain⟨E,F⟩:=o6 hf st p.dr h.dr;unfold Qg;rw[r,u,F,rf,ou 14 18 g.1 j];simp only[bs,if_true];cases E<;>simp only[y?,if_false,if_true,bs,Bool.false_and]
  .exact⟨_,rfl⟩
  .split
   .exact⟨_,rfl⟩
   .exact⟨_,rfl⟩
noncomputable def wS(t:AC)(p:d7)(c:d5)(h:AF)(m:AP)(inj:Bool):BQ×Int:=
 if U5 t p c h m inj≠0 then(zP,U5 t p c h m inj)else DR t h inj (SizeOf.sizeOf c) c m
theorem oh(hf:A0 t)(p:d7)(e:ET c)(g:Do c<=40)(h:AF)(m:AP)(inj:Bool):FC t p c h m inj=Y (wS t p c h m inj):=by
 unfold FC wS;rw[rK hf p e,bs];refine D2 λj=>?_;obtain⟨hv,hh,d,ha⟩:=X3 hf g j;rw[show GJ (Bs.mk t h inj) c m=Y (DR t h inj (SizeOf.sizeOf c) c m)from DV (2*SizeOf.sizeOf c) λn o=>Yo (s:=⟨t,h,inj⟩) hf hv hh _ c p m (ae _) d ha n o];rfl
noncomputable def Ok(t:AC)(p:d7)(c:d5)(h:AF)(m:AP)(inj:Bool):Bool×Int:=
 if (wS t p c h m inj).2=10 then(T,0)else(decide ((wS t p c h m inj).2=0),(wS t p c h m inj).2)
theorem jF(hf:A0 t)(p:d7)(d:ET c)(e:Do c<=40)(h:AF)(m:AP)(inj:Bool):EK t p c h m inj=Y (Ok t p c h m inj):=by grind[EK,Ok,oh,wS]
variable{h:AF}
theorem rb(hf:A0 t){inj:Bool}{m:AP}(hv:(BF t).2=0)(hh:Ix t h)(d:CV t p c)(ha:Xl t p h m):Qh t c h m inj=Y (DQ t h inj (SizeOf.sizeOf c) c m):=DV (SizeOf.sizeOf c) λn e=>TX hf hv hh _ c p m (ae _) d ha n e
end Go.Sf.Sc
namespace Go.Sf.Sc
open Go Go.Sf
end Go.Sf.Sc
namespace Go.Sf.Sc
open Go Go.Sf
theorem wW(t:AC)(p:d7)(c:d5)(h:AF)(m:AP)(inj:Bool):wS t p c h m inj=if U5 t p c h m inj≠0 then(zP,U5 t p c h m inj)else Nu (DQ t h inj (SizeOf.sizeOf c) c m):=by
 unfold wS;rw[lG]
end Go.Sf.Sc
