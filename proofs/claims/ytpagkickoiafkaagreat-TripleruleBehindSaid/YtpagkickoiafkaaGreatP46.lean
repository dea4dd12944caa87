/- Plain lemmas: what the functions of the program and of the reference compute. -/
import Derived.Test.YtpagkickoiafkaaGreatP25
set_option linter.all false
set_option maxRecDepth 100000
open Option renaming some->Y,none->W
open Bool renaming true->X,false->T
open List renaming mem_append->v?,any_eq_false->w_,drop_eq_nil_of_le->w!,drop_eq_getElem_cons->w?,getElem?_eq_getElem->x_,replicate->x!,ext_getElem->x?,replicate_succ'->y_,mem_flatMap->y!,length_singleton->y?,nodup_nil->z_
open Classical renaming not_not->z!
open Bool renaming not_eq_true'->z?,true_and->A_,false_eq_true->A'
open Int renaming toNat_natCast->A!
namespace Go.Sf.Sc
open Go Go.Sf
variable{all:List gt}{k:Int}
theorem TA(h:Mm all k=0)(hn:(AA all k).kg.length<=1000):-1000000<=(AA all k).Low/\(AA all k).vB<=1000000:=by grind[Mm]
variable{t:AC}{i:Int}
theorem eU(h:JB t i=0):∀k,((A4 t i).length:Int)-(AA t.bq i).kl.length<=k->k<(A4 t i).length->Mm (A4 t i) k=0:=by
 unfold JB at h;dsimp only at h;split at h
 .cases h
 split at h
 .cases h
 split at h
 .cases h
 split at h
 .cases h
 exact Uq h
variable{a:Int}
theorem QO{n:Nat}(d:0<=a):CF t (n+1) a=CF t n (par t a)++(AA t.bq a).kl:=by grind[CF]
theorem na(h:Mm all k=0)(hn:(AA all k).kg.length<=1000):(AA all k).Low<=(AA all k).vB:=by grind[Mm]
theorem TC(hf:Ay t)(h:D7 t){Q:gt->Prop}(TA:∀{all:List gt}{k:Int},Mm all k=0->(AA all k).kg.length<=1000->Q (AA all k)):∀(n:Nat)(a:Int),a<t.bq.length->a<n->∀x∈CF t n a,Q x
 |0,_,_,_=>by simp[CF]|n+1,a,g,hn=>by
  by_cases o:a<0
  .rw[Jv o];simp
  .have y:=h.par a U g;intro x d;rw[QO U]at d;rcases v?.1 d with d|d
   .exact TC hf h TA n (par t a) U U x d
   .obtain⟨j,A,B,rfl⟩:=A9 d;have e:A4 t a=CF t a.toNat (par t a)++(AA t.bq a).kl:=by
     unfold A4;rw[show(a+1).toNat=a.toNat+1 by omega,QO U]
    have z:(A4 t a).length=(CF t a.toNat (par t a)).length+(AA t.bq a).kl.length:=by rw[e,a5]
    have r:=eU (h.node a U g) ((CF t a.toNat (par t a)).length+j) U U;have u:AA (A4 t a) ((CF t a.toNat (par t a)).length+j)=AA (AA t.bq a).kl j:=by
     grind [IN,AA]
    have w:=Ng hf (Int.le_refl _) h.par g (AA (A4 t a) ((CF t a.toNat (par t a)).length+j)) (AG U U);have:=TA r (by have:=w.names;omega)
    rwa [u]at this
theorem TD(hf:Ay t)(h:D7 t)(e:0<=a)(d:a<t.bq.length):∀x∈A4 t a,-1000000<=x.Low/\x.vB<=1000000:=TC hf h TA _ a d U
theorem Y8(hf:Ay t)(h:D7 t)(e:0<=a)(d:a<t.bq.length):∀x∈A4 t a,x.Low<=x.vB:=TC hf h na _ a d U
theorem aR(e:D6 t k):∀(n:Nat)(a b:Int),a<k->a<n->b∈F3 t n a->0<=b/\b<=a/\(A4 t b).length<=(CF t n a).length
 |0,_,_,_,_=>by simp[F3]|n+1,a,b,g,hn=>by
  intro d;rw[F3]at d;split at d
  .cases d
  .rename_i j;have o:=e a U g;rw[QO U];rcases List.mem_cons.1 d with rfl|d
   .refine⟨U,U,?_⟩;unfold A4;rw[NB e (b+1).toNat (n+1) b g U U,QO U];exact aN _
   .have:=aR e n (par t a) b U U d
    grind
variable{b:Int}
theorem Zk(h:D7 t)(j:a<t.bq.length)(d:x9 t a b=X):(A4 t b).length<=(A4 t a).length:=by
 unfold x9 at d;rw[List.any_eq_true]at d;obtain⟨x,g,e⟩:=d;rw[ml]at e;subst e;by_cases o:a<0
 .have:(a+1).toNat=0:=U
  rw [this]at g;cases g
 .exact(aR h.par (a+1).toNat a b j U g).2.2
theorem ij{α:Type}{Q:Prop}[Decidable Q]{v:α}{ζ:Option α}{δ:α}(he:a=b↔Q)(h:Q->ζ=Y δ):(if(!decide (a=b))=X then Y v else ζ)=Y (if¬Q then v else δ):=m_
def RJ(t:AC)(k:Int)(v:Fp)(j:Int):Bool:=decide (AA v j<(AA (A4 t k) j).Low)||decide ((AA (A4 t k) j).vB<AA v j)
def FU(t:AC)(k:Int)(v:Fp):Int:=
 if (t.bq.length:Int)<=k then 6 else if(AA t.bq k).o3=X then 13 else if¬v.length=(A4 t k).length then 20 else
 if gp (RJ t k v) 0 (A4 t k).length=X then 6 else 0
def Hj(t:AC)(g:ci)(i:Int):Int:=
 if (t.ca.length:Int)<=(AA g.ca i).fa then 6 else if De t g i=T then 13 else 0
def Cy(t:AC)(h:AH):Int×Int:=
 if (A8 t).2≠0 then(-1,(A8 t).2)else if Bt h.ci≠0 then(-1,Bt h.ci)else if¬h.eg.length=h.ci.bq.length then(-1,20)else
 match fst (λi=>(nz (FU t (AA h.ci.bq i) (AA h.eg i))).map λe=>(i,e)) 0 h.ci.bq.length with
 |some r=>r|none=>(fst (λi=>(nz (Hj t h.ci i)).map λe=>(i,e)) 0 h.ci.ca.length).getD (-1,0)
theorem IR(hv:(A8 t).2=0)(d:0<=k)(e:k<t.bq.length):GR t k=(A4 t k,0):=by grind[GR,Lx]
theorem Vu{x:Bool}{y:Bool}:(if x=X then Y X else Y y)=Y (x||y):=by cases x<;>rfl
theorem sb(hf:Ay t)(hv:(A8 t).2=0)(d:0<=k)(v:Fp):Pk t k v=Y (FU t k v):=by
 unfold Pk FU;by_cases e:(t.bq.length:Int)<=k
 .grind
 rw [aE h_,aE e,AD d U,bs];refine ZC λ_=>?_;rw[Sj hf,IR hv d U,bs];refine ij an λg=>?_;rw[BT (RJ t k v) 6]
 .cases gp (RJ t k v) 0 (A4 t k).length<;>rfl
 grind [A4,AD,Vu,RJ,AA]
theorem tH(hf:Ay t)(hv:(A8 t).2=0)(d:0<=k)(v:Fp):N5 t k v=Y (FU t k v):=by
 unfold N5 FU;by_cases e:(t.bq.length:Int)<=k
 .grind
 rw [aE h_,aE e,AD d U,bs];refine ZC λ_=>?_;rw[Qy hf,IR hv d U,bs];refine ij an λg=>?_;rw[BT (RJ t k v) 6]
 .cases gp (RJ t k v) 0 (A4 t k).length<;>rfl
 grind [A4,AD,Vu,RJ,AA]
theorem cU(e i:Int):(if(!decide (e=0))=X then Y (B3.ret (σ:=Unit) (ρ:=Int×Int) (i,e))else Y (.next ()))=Y (SB ((nz e).map λe=>(i,e))):=by grind[nz,SB]
theorem cl(hf:Ay t)(h:AH):J1 t h=Y (Cy t h):=by
 unfold J1 Cy;rw[Ov hf,bs];refine Do λhv=>?_;rw[NN,bs];refine Do λo=>?_;have go:=DQ o;refine ij U λy=>?_;rw[Bk (λi=>(nz (FU t (AA h.ci.bq i) (AA h.eg i))).map λe=>(i,e)),Dz]
 .cases hn:fst (λi=>(nz (FU t (AA h.ci.bq i) (AA h.eg i))).map λe=>(i,e)) 0 h.ci.bq.length with
  |some r=>rfl|none=>
   have u:=BQ.1 hn;dsimp only;rw[Bk (λi=>(nz (Hj t h.ci i)).map λe=>(i,e)),Dz]
   .grind
   .intro i d g _;have w:=go.fit _ (AG (l:=h.ci.ca) d g);rw[AD d g,bs];unfold Hj De;by_cases j:(t.ca.length:Int)<=(AA h.ci.ca i).fa
    .rw[QQ k_,QQ j];rfl
    .rw[aE k_,aE j,AD U U,bs,AD U U,bs,cd hf,bs];cases Fw t (AA h.ci.ca i).fa (AA h.ci.bq (AA h.ci.ca i).fd) (AA h.ci.bq (AA h.ci.ca i).To)<;>rfl
 .intro i d g _;rw[AD d g,bs,AD d U,bs,sb hf hv (go.kind _ (AG d g)).1,bs];exact cU _ i
theorem Sp(hf:Ay t)(h:AH):GN t h=Y (Cy t h):=by
 unfold GN Cy;rw[Sn hf,bs];refine Do λhv=>?_;rw[NO,bs];refine Do λo=>?_;have go:=DQ o;refine ij U λy=>?_;rw[Bk (λi=>(nz (FU t (AA h.ci.bq i) (AA h.eg i))).map λe=>(i,e)),Dz]
 .cases hn:fst (λi=>(nz (FU t (AA h.ci.bq i) (AA h.eg i))).map λe=>(i,e)) 0 h.ci.bq.length with
  |some r=>rfl|none=>
   have u:=BQ.1 hn;dsimp only;rw[Bk (λi=>(nz (Hj t h.ci i)).map λe=>(i,e)),Dz]
   .grind
   .intro i d g _;have w:=go.fit _ (AG (l:=h.ci.ca) d g);rw[AD d g,bs];unfold Hj De;by_cases j:(t.ca.length:Int)<=(AA h.ci.ca i).fa
    .rw[QQ k_,QQ j];rfl
    .rw[aE k_,aE j,AD U U,bs,AD U U,bs,X5 hf,bs];cases Fw t (AA h.ci.ca i).fa (AA h.ci.bq (AA h.ci.ca i).fd) (AA h.ci.bq (AA h.ci.ca i).To)<;>rfl
 .intro i d g _;rw[AD d g,bs,AD d U,bs,tH hf hv (go.kind _ (AG d g)).1,bs];exact cU _ i
structure KM(t:AC)(h:AH):Prop where
 g:BW h.ci
 len:h.eg.length=h.ci.bq.length
 kind:∀i:Int,0<=i->i<h.ci.bq.length->0<=AA h.ci.bq i/\AA h.ci.bq i<t.bq.length
 row:∀i:Int,0<=i->i<h.ci.bq.length->(AA h.eg i).length=(A4 t (AA h.ci.bq i)).length
 low:∀i:Int,0<=i->i<h.ci.bq.length->∀x∈AA h.eg i,-1000000<=x/\x<=1000000
 ge:Bt h.ci=0
 ty:CS t h.ci=X
variable{h:AH}
theorem TS(e:(Cy t h).2=0):(∀i:Int,0<=i->i<h.ci.bq.length->FU t (AA h.ci.bq i) (AA h.eg i)=0)/\∀i:Int,0<=i->i<h.ci.ca.length->Hj t h.ci i=0:=by
 unfold Cy at e;split at e
 next u=>exact absurd e u
 split at e
 next u=>exact absurd e u
 split at e
 .cases e
 rename_i u y z;have hn:∀i:Int,0<=i->i<h.ci.bq.length->FU t (AA h.ci.bq i) (AA h.eg i)=0:=by
  split at e
  .rename_i r d;obtain⟨i,_,_,k,_⟩:=DG d;unfold nz at k;split at k
   .cases k
   next g=>cases k;exact absurd e g
  next d=>exact λi j o=>Qv.1 (On.1 (BQ.1 d i j o))
 have he:∀i:Int,0<=i->i<h.ci.ca.length->Hj t h.ci i=0:=by
  have w:fst (λi=>(nz (FU t (AA h.ci.bq i) (AA h.eg i))).map λe=>(i,e)) 0 h.ci.bq.length=W:=BQ.2 λi j o=>by rw[hn i j o];rfl
  rw [w]at e;dsimp only at e;cases d:fst (λi=>(nz (Hj t h.ci i)).map λe=>(i,e)) 0 h.ci.ca.length with
  |some r=>
   rw [d]at e;obtain⟨i,_,_,k,_⟩:=DG d;unfold nz at k;split at k
   .cases k
   next g=>cases k;exact absurd e g
  |none=>exact λi j o=>Qv.1 (On.1 (BQ.1 d i j o))
 exact ⟨hn,he⟩
theorem NE(hf:Ay t)(e:(Cy t h).2=0):(A8 t).2=0/\KM t h:=by
 obtain ⟨hn,he⟩:=TS e;unfold Cy at e;split at e
 next o=>exact absurd e o
 split at e
 next o=>exact absurd e o
 split at e
 .cases e
 rename_i o z C;have hv:=z!.1 o;have go:=DQ (z!.1 z);have u:∀i:Int,0<=i->i<h.ci.bq.length->(0<=AA h.ci.bq i/\AA h.ci.bq i<t.bq.length)/\(AA h.eg i).length=(A4 t (AA h.ci.bq i)).length/\∀j:Int,0<=j->j<(A4 t (AA h.ci.bq i)).length->RJ t (AA h.ci.bq i) (AA h.eg i) j=T:=by
  intro i d g;have F:=(go.kind _ (AG d g)).1;have:=hn i d g;unfold FU at this;split at this
  .cases this
  split at this
  .cases this
  split at this
  .cases this
  split at this
  .cases this
  rename_i a1 a2 D E;exact⟨⟨F,U⟩,z!.1 D,BY.1 (by simpa using E)⟩
 have y:CS t h.ci=X:=by
  unfold CS;rw[gN,z?,z?,w_,w_];refine⟨λn hn=>?_,λx w=>?_⟩
  .obtain⟨i,d,g,rfl⟩:=A9 hn;have:=(u i d g).1.2;simp;omega
  .obtain⟨i,d,g,rfl⟩:=A9 w;have:=he i d g;unfold Hj at this;split at this
   .cases this
   .simp;omega
 suffices r:∀i:Int,0<=i->i<h.ci.bq.length->∀x∈AA h.eg i,-1000000<=x/\x<=1000000 from⟨hv,go,z!.1 C,λi d g=>(u i d g).1,λi d g=>(u i d g).2.1,r,z!.1 z,y⟩
 intro i d g x w;obtain⟨A,H,G⟩:=u i d g;obtain⟨j,B,I,rfl⟩:=A9 w;have:=G j B U;unfold RJ at this;simp[decide_eq_false_iff_not]at this;have:=TD hf (CY hv) A.1 A.2 _ (AG (l:=A4 t (AA h.ci.bq i)) B U);omega
end Go.Sf.Sc
namespace Go.Sf.Sc
open Go Go.Sf
def Gu(t:AC)(p g:ci)(m:cE)(i:Int):K1:=
 if AA m.bq i<0\/g.bq.length<=AA m.bq i then Y 6 else if x9 t (AA g.bq (AA m.bq i)) (AA p.bq i)=T then Y 13 else W
def JC(t:AC)(p g:ci)(m:cE):Int:=
 if m.bq.length≠p.bq.length\/m.ca.length≠p.ca.length then 20 else
 match fst (Gu t p g m) 0 m.bq.length with
 |some e=>e|none=>(fst (Dm p g m) 0 m.ca.length).getD 0
def EN(t:AC)(p g:ci)(m:cE)(inj:Bool):Int:=
 if EF t p g≠0 then EF t p g else if JC t p g m≠0 then JC t p g m else if(inj&&!G7 m)=X then 5 else 0
structure Y4(t:AC)(p g:ci)(m:cE):Prop where
 pr:m.bq.length=p.bq.length
 sr:m.ca.length=p.ca.length
 node:∀i:Int,0<=i->i<m.bq.length->(0<=AA m.bq i/\AA m.bq i<g.bq.length)/\x9 t (AA g.bq (AA m.bq i)) (AA p.bq i)=X
 edge:∀i:Int,0<=i->i<m.ca.length->0<=AA m.ca i/\AA m.ca i<g.ca.length
variable{t:AC}
theorem LF{p g:ci}(h:EF t p g=0):(A8 t).2=0/\BW p/\BW g/\(∀n∈p.bq,0<=n/\n<t.bq.length)/\∀n∈g.bq,0<=n/\n<t.bq.length:=by
 unfold EF at h;split at h
 .grind
 split at h
 .grind
 split at h
 .grind
 split at h
 .rename_i e j o d;rw[gN]at d
  grind [DQ,Ez]
 .cases h
variable{m:cE}
theorem gx{p g:ci}(h:JC t p g m=0):Y4 t p g m:=by
 unfold JC at h;split at h
 .cases h
 rename_i j;have hn:fst (Gu t p g m) 0 m.bq.length=W:=by
  grind [DG,Gu]
 rw [hn]at h;have he:=Pj (λi=>by
  grind [Dm]) h
 refine ⟨U,U,λi d e=>?_,λi d e=>?_⟩
 .grind[BQ,Gu]
 grind [Dm]
theorem Zy(hf:Ay t){p g:ci}(A:EF t p g=0)(m:cE):Ja t p g m=Y (JC t p g m):=by
 obtain ⟨hv,C,F,tp,D⟩:=LF A;unfold Ja JC;refine QG j! λE=>?_;rw[rC hf (CY hv) hv,bs,Bk (Gu t p g m),Dz]
 .cases hn:fst (Gu t p g m) 0 m.bq.length with
  |some e=>rfl|none=>
   dsimp only;rw[Bk (Dm p g m),Cr];intro i j z _;unfold Dm;rw[AD j z,bs];by_cases d:AA m.ca i<0\/g.ca.length<=AA m.ca i
   .rw[QQ b?,QQ d];rfl
   .have hf:=C.fit _ (AG (l:=p.ca) j U);rw[aE b?,aE d,AD j U,bs,AD U U,bs];by_cases o:(AA p.ca i).fa=(AA g.ca (AA m.ca i)).fa
    .rw[aE f?,aE f?,AD U U,bs];by_cases r:AA m.bq (AA p.ca i).fd=(AA g.ca (AA m.ca i)).fd
     .rw[aE n_,AD U U,bs,bs];by_cases u:AA m.bq (AA p.ca i).To=(AA g.ca (AA m.ca i)).To
      .rw[aE e_,aE (by simp[r,u])];rfl
      .rw[QQ e_,QQ (.inr u)];rfl
     .rw[QQ n_,bs,QQ rfl,QQ (.inl r)];rfl
    .rw[QQ f?,QQ o];rfl
 .intro i j z _;unfold Gu;rw[AD j z,bs];by_cases d:AA m.bq i<0\/g.bq.length<=AA m.bq i
  .rw[QQ b?,QQ d];rfl
  .have w:=tp _ (AG (l:=p.bq) j U);have y:=D _ (AG (l:=g.bq) (show 0<=AA m.bq i by omega) U);rw[aE b?,aE d,AD j U,bs,AD w.1 (by unfold KD;rw[az,Az];exact w.2),bs,AD U U,bs];have e:AA (KD t) (AA p.bq i)=OF t (AA p.bq i):=by unfold KD;exact GH (OF t) w.1 w.2
   rw [e,AD y.1 (by unfold OF;rw[az,Az];exact y.2),bs];have B:AA (OF t (AA p.bq i)) (AA g.bq (AA m.bq i))=x9 t (AA g.bq (AA m.bq i)) (AA p.bq i):=by unfold OF;exact GH (λk=>x9 t k (AA p.bq i)) y.1 y.2
   rw [B];cases x9 t (AA g.bq (AA m.bq i)) (AA p.bq i)<;>rfl
variable{l:Fp}
theorem gU(d:l.length<=1000):Hs l=Y (!JM l):=by grind[Hs,WZ,Hg,Abh,JM]
theorem Ym(hf:Ay t)(p g:ci)(m:cE)(inj:Bool):Hr t p g m inj=Y (EN t p g m inj):=by
 unfold Hr EN;rw[Yq hf,bs];refine Di λd=>?_;rw[Zy hf d,bs];refine Di λo=>?_;obtain⟨_,j,r,_⟩:=LF d;have e:=gx o;have:=j.d6;have:=j.d7;have:=e.pr;have:=e.sr;rw[gU U,gU U];unfold G7;cases inj<;>cases JM m.bq<;>cases JM m.ca<;>rfl
theorem tD(l:Fp):JV l=Y (JM l):=a8 l
theorem mK{p g:ci}(z:EF t p g=0)(m:cE)(inj:Bool):MU t p g m inj=Y (if JC t p g m≠0 then JC t p g m else if(inj&&!G7 m)=X then 5 else 0):=by
 obtain ⟨hv,C,E,tp,D⟩:=LF z;unfold MU JC;by_cases A:m.bq.length≠p.bq.length\/m.ca.length≠p.ca.length
 .grind
 rw [aE j!,aE A,Bk (Gu t p g m),Dz]
 .cases hn:fst (Gu t p g m) 0 m.bq.length with
  |some e=>
   grind [DG,Gu]
  |none=>
   dsimp only;rw[Bk (Dm p g m),Dz]
   .grind[fst,Dm,DG,tD,G7,JM]
   intro i j w _;unfold Dm;rw[AD j w];simp only[bs,U8];by_cases d:AA m.ca i<0\/g.ca.length<=AA m.ca i
   .rw[QQ b?,QQ d];rfl
   .have hf:=C.fit _ (AG (l:=p.ca) j U);rw[aE b?,aE d,AD j U,bs,AD U U,bs];by_cases o:(AA p.ca i).fa=(AA g.ca (AA m.ca i)).fa
    .rw[aE f?,aE f?,AD U U,bs];by_cases r:AA m.bq (AA p.ca i).fd=(AA g.ca (AA m.ca i)).fd
     .rw[aE n_,AD U U,bs,bs];by_cases u:AA m.bq (AA p.ca i).To=(AA g.ca (AA m.ca i)).To
      .rw[aE e_,aE (by simp[r,u])];rfl
      .rw[QQ e_,QQ (.inr u)];rfl
     .rw[QQ n_,bs,QQ rfl,QQ (.inl r)];rfl
    .rw[QQ f?,QQ o];rfl
 .intro i j w _;unfold Gu;rw[AD j w];simp only[bs,U8];by_cases d:AA m.bq i<0\/g.bq.length<=AA m.bq i
  .rw[QQ b?,QQ d];rfl
  .have B:=tp _ (AG (l:=p.bq) j U);have y:=D _ (AG (l:=g.bq) (show 0<=AA m.bq i by omega) U);rw[aE b?,aE d,AD U U,bs,AD j U,bs,Vx (CY hv) y.1 y.2 B.1,bs];cases x9 t (AA g.bq (AA m.bq i)) (AA p.bq i)<;>rfl
theorem Yu(hf:Ay t)(p g:ci)(m:cE)(inj:Bool):I3 t p g m inj=Y (EN t p g m inj):=by
 unfold I3 EN;rw[Ti hf,bs];refine Di λd=>?_;rw[mK d,bs]
theorem bZ{p g:ci}{inj:Bool}(h:EN t p g m inj=0):EF t p g=0/\Y4 t p g m:=by grind[EN,gx]
end Go.Sf.Sc
namespace Go.Sf.Sc
open Go Go.Sf
section
variable{α σ ρ:Type}
def EC(step:α->σ->B3 σ ρ):List α->σ->σ ⊕ ρ
 |[],s=>.inl s|a::r,s=>match step a s with
  |.next s'=>EC step r s'|.brk s'=>.inl s'|.ret r=>.inr r
variable{f:Int->σ->Option (B3 σ ρ)}
theorem Uo[Inhabited α]{l:List α}(step:α->σ->B3 σ ρ)(I:σ->Prop)(h:∀(i:Int)s,0<=i->i<l.length->I s->f i s=Y (step (AA l i) s)/\∀s',step (AA l i) s=.next s'->I s'):
  ∀(n:Nat)(a:Int)(s:σ),0<=a->a+n=l.length->I s->FR f n a s=Y (EC step (l.drop a.toNat) s)
 |0,a,s,d,o,_=>by
  rw [w! U];rfl
 |n+1,a,s,d,o,u=>by
  obtain ⟨g,j⟩:=h a s d U u;have hd:l.drop a.toNat=AA l a::l.drop (a+1).toNat:=by
   grind [w?,AA,x_]
  rw [Em,g,hd,EC];cases e:step (AA l a) s with
  |next s'=>
   simp only;exact Uo step I h n (a+1) s' U U (j s' e)
  |brk s'=>rfl|ret r=>rfl
theorem Rr[Inhabited α]{l:List α}(step:α->σ->B3 σ ρ)(I:σ->Prop){s:σ}(d:I s)(h:∀(i:Int)s,0<=i->i<l.length->I s->f i s=Y (step (AA l i) s)/\∀s',step (AA l i) s=.next s'->I s'):
  Aj f 0 l.length s=Y (EC step l s):=by
 have:=Uo step I h l.length 0 s U U d;unfold Aj;rw[show((l.length:Int)-0).toNat=l.length by omega];exact this
theorem dY[Inhabited α](step:α->σ->B3 σ ρ)(I:σ->Prop):∀(l:List α)(s s':σ),I s->(∀a∈l,∀s s',I s->step a s=.next s'->I s')->(∀a∈l,∀s s',step a s≠.brk s')->EC step l s=.inl s'->I s'
 |[],s,s',h,_,_,e=>by cases e;exact h
 |a::r,s,s',h,hn,j,e=>by
  rw [EC]at e;split at e
  next s2 g=>exact dY step I r s2 s' (hn a V s s2 h g) (λa d=>hn a p!) (λa d=>j a p!) e
  .grind
  .cases e
end
def C5(x:fb)(l:Fp):Int:=if x.Var<0 then x.Add else Ag (AA l x.Var+x.Add)
variable{x:fb}{l:Fp}
theorem U9(h:x.Var<l.length):ER x l=Y (C5 x l):=by grind[ER,C5,AD]
theorem aA(h:x.Var<l.length):I4 x l=Y (C5 x l):=U9 h
theorem cf(d:-1<=x.Var)(h:x.Var<l.length)(e:l.length<=1000):E0 x l=Y (C5 x l,0):=by grind[E0,Ck,Ar,U9]
theorem Oy(d:-1<=x.Var)(h:x.Var<l.length):Es x l=Y (C5 x l,0):=by grind[Es,aA]
def Ku(x:Test)(l:Fp):Bool:=(decide (x.fu=1)&&decide (C5 x.eh l<=C5 x.d5 l))||(decide (x.fu=2)&&decide (C5 x.eh l=C5 x.d5 l))
structure IM(n:Int)(x:fb):Prop where
 low:-1<=x.Var
 high:x.Var<n
 add:-1000000<=x.Add/\x.Add<=1000000
def P8(l:Fp):Prop:=∀x∈l,-2000000<=x/\x<=2000000
variable{n:Int}
theorem Tv(h:IM n x)(d:P8 l)(hn:n<=l.length):C5 x l=(if x.Var<0 then x.Add else AA l x.Var+x.Add)/\-3000000<=C5 x l/\C5 x l<=3000000:=by
 unfold C5;have:=h.add;by_cases e:x.Var<0
 .grind
 .have hh:=h.high;have:=d _ (AG (l:=l) (show 0<=x.Var by omega) U)
  grind [Ar]
theorem Z9(h:IM n x)(hn:n<=l.length):Kf x l=Y (C5 x l,X):=by
 have d:=h.low;have e:=h.high
 grind [Kf,C5,AD]
theorem r_holds{x:Test}(d:IM n x.eh)(e:IM n x.d5)(hn:n<=l.length):MQ x l=Y (Ku x l):=by
 unfold MQ;rw[Z9 d hn,Z9 e hn];rfl
variable{a b:Int}
theorem aU(j:-4000000<=a/\a<=4000000)(o:-4000000<=b/\b<=4000000):Gg a b=Y (if a+b<0 then(-1,a+b+18446744073709551616)else(0,a+b)):=by
 have d:∀c:Int,IntKind.u64.wrap c=c % 18446744073709551616:=λc=>by
  simp [IntKind.wrap,IntKind.signed,IntKind.bits]
 have g:∀c:Int,-4000000<=c/\c<=4000000->MN .i64 .shr c 63=Y (if c<0 then -1 else 0):=by
  intro c w;unfold MN;have e:c.fdiv (2^ (min (63:Int).toNat (IntKind.bits .i64)))=if c<0 then -1 else 0:=by
   show c.fdiv (2^ 63)=_
   grind
  simp only[e];have:(0:Int)<=63/\IntKind.min .i64<=(if c<0 then -1 else 0)/\(if c<0 then -1 else 0)<=IntKind.max .i64:=by
   split<;>decide
  rw [QQ this]
 unfold Gg Ie;rw[d,d,QQ U,bs,g a j,g b o,bs,bs];congr 1;have y:∀c:Int,-10<=c->c<=10->Ag c=c:=λc r u=>Ar U U
 grind
def KK(a:Int):Int×Int:=if a<0 then(-1,a+18446744073709551616)else(0,a)
theorem cj(h:IM n x)(d:P8 l)(hn:n<=l.length):E3 x l=Y ((KK (C5 x l)).1,(KK (C5 x l)).2,X):=by
 have o:=h.low;have r:=h.high;have u:=h.add;have g:=(Tv h d hn).1;unfold E3;by_cases j:x.Var=-1
 .have e:C5 x l=x.Add:=by rw[g,QQ U]
  rw [e,QQ k_,aU U U,bs,Int.zero_add];rfl
 .have:=d _ (AG (l:=l) (show 0<=x.Var by omega) U);have e:C5 x l=AA l x.Var+x.Add:=by rw[g,aE U]
  rw [e,aE k_,aE an,AD U U,bs,aU U U,bs];rfl
theorem qt(a b:Int):cmp_Compare_int a b=Y (if a<b then -1 else if b<a then 1 else 0):=by
 unfold cmp_Compare_int cmp_isNaN_int
 grind
theorem yg(a b:Int):IS a b=Y (if a<b then -1 else if b<a then 1 else 0):=qt a b
theorem uu(a b:Int):Nj [a,b]=Y (if a=0 then b else a):=by
 unfold Nj;show AL (FR _ 2 0 ()) _ _=_;rw[Em,show idx [a,b] 0=Y a from rfl,bs]
 grind [AL,FR,Em,idx]
theorem p_holds{x:Test}(e:IM n x.eh)(g:IM n x.d5)(d:P8 l)(hn:n<=l.length):F8 x l=Y (Ku x l):=by
 have j:=(Tv e d hn).2;have s2:=(Tv g d hn).2;unfold F8 Ku;rw[cj e d hn,cj g d hn];simp[qt,yg,uu];generalize C5 x.eh l=a at j;generalize C5 x.d5 l=b at s2;have key:(if(if(KK a).1<(KK b).1 then(-1:Int)else if(KK b).1<(KK a).1 then 1 else 0)=0 then(if(KK a).2<(KK b).2 then(-1:Int)else if(KK b).2<(KK a).2 then 1 else 0)else(if(KK a).1<(KK b).1 then(-1:Int)else if(KK b).1<(KK a).1 then 1 else 0))=if a<b then -1 else if b<a then 1 else 0:=by
  grind [KK]
 rw [key];congr 2
 .grind
 grind
end Go.Sf.Sc
namespace Go.Sf.Sc
open Go Go.Sf
structure UP(t:AC)(q:d4):Prop where
 g:BW q.ci
 kind:∀n∈q.ci.bq,0<=n/\n<t.bq.length
 vars:0<=q.ek/\q.ek<=12
 few:q.ed.length<=10/\q.f0.length<=10
 slot:∀s∈q.ed,(0<=s.j0/\s.j0<q.ci.bq.length)/\(0<=s.gt/\s.gt<(A4 t (AA q.ci.bq s.j0)).length)/\IM q.ek s.fb
 test:∀x∈q.f0,(x.fu=1\/x.fu=2)/\IM q.ek x.eh/\IM q.ek x.d5
 ge:Bt q.ci=0
 ty:CS t q.ci=X
variable{n:Int}{x:fb}
theorem qV(h:OP n x=X):IM n x:=by
 unfold OP at h;simp[ml]at h;exact⟨h.1.1.1,h.1.1.2,h.1.2,h.2⟩
theorem qW{l:List Test}(h:KZ n l=0):∀x∈l,(x.fu=1\/x.fu=2)/\IM n x.eh/\IM n x.d5:=by
 unfold KZ at h;split at h
 .cases h
 split at h
 .cases h
 have g:=Uq h;intro x d;obtain⟨i,j,o,rfl⟩:=A9 d;have:=g i j o;unfold PX at this;split at this
 .cases this
 split at this
 .rename_i r e;rw[gN]at e
  grind [qV]
 .cases this
theorem kD(n:Int)(l:List Test):KZ n l≠9:=by
 unfold KZ;split
 .decide
 split
 .decide
 intro h;cases d:fst (λi=>nz (PX n (AA l i))) 0 l.length with
 |none=>rw[d]at h;cases h
 |some r=>
  grind [DG,nz,PX]
variable{t:AC}{q:d4}
theorem oy(hv:(A8 t).2=0)(h:GW t q=0\/GW t q=9):UP t q:=by
 have y:=Xd q.ci;unfold GW at h;rw[aE u?]at h;split at h
 .omega
 rename_i o;have g:=DQ (z!.1 o);split at h
 .omega
 rename_i e;split at h
 .omega
 rename_i A;split at h
 .omega
 rename_i B;split at h
 .omega
 rename_i C;split at h
 .grind[kD]
 rename_i w;refine⟨g,(Ez g h_).1,U,U,λs z=>?_,qW (z!.1 w),z!.1 o,h_⟩;have j:TE t q s=T:=by
  grind
 unfold TE at j;simp[Bool.not_eq_false',decide_eq_false_iff_not]at j;obtain⟨⟨⟨d,E⟩,F⟩,G,H⟩:=j;unfold TB at d;dsimp only at d;split at d
 .cases d
 rename_i D;have u:=(Ez g h_).1 _ (AG (l:=q.ci.bq) (show 0<=s.j0 by omega) U);rw[IR hv u.1 u.2]at d;split at d
 .cases d
 rename_i r;have r:¬(s.gt<0\/((A4 t (AA q.ci.bq s.j0)).length:Int)<=s.gt):=r;exact⟨U,U,U,U,U,U⟩
def M3(h:AH)(m:cE)(s:Cz):Int:=AA (AA h.eg (AA m.bq s.j0)) s.gt
def PW(h:AH)(m:cE)(s:Cz)(st:Fp×Ne):Fp×Ne:=
 if 0<=s.fb.Var/\AA st.2 s.fb.Var=T then(BM st.1 s.fb.Var (Ag (M3 h m s-s.fb.Add)),BM st.2 s.fb.Var X)else st
def Et{ρ:Type}(r:ρ)(h:AH)(m:cE)(s:Cz)(st:Fp×Ne):B3 (Fp×Ne) ρ:=
 if C5 s.fb (PW h m s st).1=M3 h m s then .next (PW h m s st)else .ret r
structure VI(n:Int)(st:Fp×Ne):Prop where
 l1:(st.1.length:Int)=n
 l2:(st.2.length:Int)=n
 small:P8 st.1
structure JG(n:Int)(h:AH)(m:cE)(s:Cz):Prop where
 node:0<=s.j0/\s.j0<m.bq.length
 val:0<=AA m.bq s.j0/\AA m.bq s.j0<h.eg.length
 Abg:0<=s.gt/\s.gt<(AA h.eg (AA m.bq s.j0)).length
 term:IM n s.fb
 has:-1000000<=M3 h m s/\M3 h m s<=1000000
variable{h:AH}{m:cE}{s:Cz}
theorem O2(e:D7 t)(g:UP t q)(hh:KM t h)(d:Y4 t q.ci h.ci m)(j:s∈q.ed):JG q.ek h m s:=by
 obtain ⟨r,u,w⟩:=g.slot s j;have y:=d.pr;have hn:=d.node s.j0 r.1 U;have z:=hh.row _ hn.1.1 hn.1.2;have o:=hh.kind _ hn.1.1 hn.1.2;have A:=Zk e o.2 hn.2;have hv:=hh.len;refine⟨U,U,U,w,?_⟩;unfold M3;exact hh.low _ hn.1.1 hn.1.2 _ (AG u.1 U)
theorem Tr{α:Type}(l:List α)(i:Int)(a:α):(BM l i a).length=l.length:=by unfold BM;rw[List.length_set]
variable{i:Int}
theorem pR{α:Type}{l:List α}{a x:α}(h:x∈BM l i a):x∈l\/x=a:=List.mem_or_eq_of_mem_set h
theorem mg(e:JG n h m s){st:Fp×Ne}(hi:VI n st):VI n (PW h m s st):=by
 have g:=e.has;have j:=e.term.add;unfold PW;split
 .refine⟨by rw[Tr];exact hi.l1,by rw[Tr];exact hi.l2,λx d=>?_⟩;rcases pR d with d|rfl
  .exact hi.small x d
  grind [Ar]
 .exact hi
def G2(q:d4)(h:AH)(m:cE):Fp×Int:=
 match EC (Et (([],11):Fp×Int) h m) q.ed (x! q.ek.toNat 0,x! q.ek.toNat T)with
 |.inr r=>r|.inl st=>if gp (λi=>!Ku (AA q.f0 i) st.1) 0 q.f0.length=X then([],16)else(st.1,0)
theorem S4(d:0<=n):VI n (x! n.toNat 0,x! n.toNat T):=by
 refine ⟨an,an,λx e=>?_⟩
 grind
theorem P3{ρ:Type}{r:ρ}(g:JG n h m s){st d:Fp×Ne}(hi:VI n st)(e:Et r h m s st=.next d):VI n d:=by grind[Et,mg]
theorem mh{ρ:Type}{r:ρ}{st d:Fp×Ne}:Et r h m s st≠.brk d:=by grind[Et]
theorem O0{ρ:Type}{r:ρ}{l:List Cz}(g:∀s∈l,JG n h m s){st d:Fp×Ne}(hi:VI n st)(e:EC (Et r h m) l st=.inl d):VI n d:=
 dY (Et r h m) (VI n) l st d hi (λa j _ _ o u=>P3 (g a j) o u) (λ_ _ _ _=>mh) e
theorem Ql{ρ:Type}{r:ρ}(y:JG n h m s){st:Fp×Ne}(hi:VI n st){θ:Fp×Ne->Option (B3 (Fp×Ne) ρ)}
  (o:∀d:Fp×Ne,(d.1.length:Int)=n->θ d=Y (if C5 s.fb d.1=M3 h m s then .next d else .ret r)):
  ((if(decide (0<=s.fb.Var))=X then((idx st.2 s.fb.Var).bind λu=>Y (!u))else Y T).bind λw=>
   if w=X then(idx st.1 s.fb.Var).bind λ_=>(idx st.2 s.fb.Var).bind λ_=>θ (BM st.1 s.fb.Var (Ag (M3 h m s-s.fb.Add)),BM st.2 s.fb.Var X)else θ (st.1,st.2))=Y (Et r h m s st):=by
 have z:=y.term.high;have l1:=hi.l1;have l2:=hi.l2;unfold Et;by_cases g:0<=s.fb.Var
 .rw[QQ t!,AD g U,bs,bs];by_cases j:AA st.2 s.fb.Var=T
  .rw[QQ j_,AD g U,bs,bs,o _ (by dsimp only;rw[Tr];exact l1)];have e:PW h m s st=(BM st.1 s.fb.Var (Ag (M3 h m s-s.fb.Add)),BM st.2 s.fb.Var X):=by unfold PW;rw[QQ ⟨g,j⟩]
   rw [e]
  .rw[aE k_,o _ l1];have e:PW h m s st=st:=by unfold PW;rw[aE (λe=>j e.2)]
   rw [e]
 .rw[aE t!,bs,aE a_,o _ l1];have e:PW h m s st=st:=by unfold PW;rw[aE (λe=>g e.1)]
  rw [e]
theorem ez{ρ:Type}{r:ρ}(o:JG n h m s){st:Fp×Ne}(hi:VI n st){θ:Fp×Ne->Option (B3 (Fp×Ne) ρ)}
  (u:∀d:Fp×Ne,(d.1.length:Int)=n->θ d=Y (if C5 s.fb d.1=M3 h m s then .next d else .ret r)):
  ((if(decide (0<=s.fb.Var))=X then((idx st.2 s.fb.Var).bind λe=>Y (!e))else Y T).bind λg=>
   if g=X then(idx st.2 s.fb.Var).bind λ_=>(idx st.1 s.fb.Var).bind λ_=>θ (BM st.1 s.fb.Var (Ag (M3 h m s-s.fb.Add)),BM st.2 s.fb.Var X)else θ (st.1,st.2))=Y (Et r h m s st):=by
 rw [<-Ql o hi u];have w:=o.term.high;have l1:=hi.l1;have l2:=hi.l2;by_cases j:0<=s.fb.Var
 .rw[AD j U,AD j U];rfl
 .rw[aE k_];rfl
variable{v:Int}
theorem aK{t:fb}{f:fb->Fp->K1}(hf:∀l:Fp,(l.length:Int)=n->f t l=Y (C5 t l))(d:Fp×Ne)(g:(d.1.length:Int)=n):((f t d.1).bind λe=>if(!decide (e=v))=X then Y (B3.ret (([],11):Fp×Int))else Y (.next d))=Y (if C5 t d.1=v then .next d else .ret ([],11)):=m_
theorem sv(w:UP t q)(y:∀s∈q.ed,JG q.ek h m s):IQ q h m=Y (G2 q h m):=by
 have hv:=w.vars;unfold IQ G2 GV;rw[QQ U,bs,QQ U,bs];rw[Rr (Et (([],11):Fp×Int) h m) (VI q.ek) (S4 hv.1)]
 .cases A:EC (Et (([],11):Fp×Int) h m) q.ed (x! q.ek.toNat 0,x! q.ek.toNat T)with
  |inr r=>rfl|inl st=>
   have hi:=O0 y (S4 hv.1) A;rw[Bj,BT (λi=>!Ku (AA q.f0 i) st.1) ([],16)]
   .dsimp only;cases gp (λi=>!Ku (AA q.f0 i) st.1) 0 q.f0.length<;>rfl
   .intro i j o _;have z:=w.test _ (AG j o);rw[AD j o,bs,p_holds z.2.1 z.2.2 hi.small (by have:=hi.l1;omega),bs]
    grind
 .intro i st j o hi;have d:=y _ (AG j o);refine⟨?_,λs' e=>P3 d hi e⟩;rw[AD j o,bs,AD d.node.1 d.node.2,bs,AD d.val.1 d.val.2,bs,AD d.Abg.1 d.Abg.2,bs];exact Ql d hi (θ:=λg=>(ER (AA q.ed i).fb g.1).bind λu=>if(!decide (u=M3 h m (AA q.ed i)))=X then Y (B3.ret (([],11):Fp×Int))else Y (.next g)) (aK λl B=>U9 (by have:=d.term.high;omega))
theorem gk(w:UP t q)(y:∀s∈q.ed,JG q.ek h m s):Hm q h m=Y (G2 q h m):=by
 have hv:=w.vars;unfold Hm G2 GV;rw[QQ U,bs,QQ U,bs];rw[Rr (Et (([],11):Fp×Int) h m) (VI q.ek) (S4 hv.1)]
 .cases A:EC (Et (([],11):Fp×Int) h m) q.ed (x! q.ek.toNat 0,x! q.ek.toNat T)with
  |inr r=>rfl|inl st=>
   have hi:=O0 y (S4 hv.1) A;rw[Bj,BT (λi=>!Ku (AA q.f0 i) st.1) ([],16)]
   .dsimp only;cases gp (λi=>!Ku (AA q.f0 i) st.1) 0 q.f0.length<;>rfl
   .intro i j o _;have z:=w.test _ (AG j o);rw[AD j o,bs,r_holds z.2.1 z.2.2 (by have:=hi.l1;omega),bs]
    grind
 .intro i st j o hi;have d:=y _ (AG j o);refine⟨?_,λs' e=>P3 d hi e⟩;rw[AD j o,bs,AD d.node.1 d.node.2,bs,AD d.val.1 d.val.2,bs,AD d.Abg.1 d.Abg.2,bs];exact ez d hi (θ:=λg=>(I4 (AA q.ed i).fb g.1).bind λu=>if(!decide (u=M3 h m (AA q.ed i)))=X then Y (B3.ret (([],11):Fp×Int))else Y (.next g)) (aK λl B=>aA (by have:=d.term.high;omega))
def N1(t:AC)(p:d4)(h:AH):Int:=if GW t p≠0 then GW t p else(Cy t h).2
theorem lh(hf:Ay t)(p:d4)(h:AH):IP t p h=Y (N1 t p h):=by
 unfold IP N1;rw[Xz hf,bs];refine Di λ_=>?_;rw[cl hf];rfl
theorem Z6(hf:Ay t)(p:d4)(h:AH):Ki t p h=Y (N1 t p h):=by
 unfold Ki N1;rw[bB hf,bs];refine Di λ_=>?_;rw[Sp hf];rfl
def FI(t:AC)(p:d4)(h:AH)(m:cE):Fp×Int:=
 if N1 t p h≠0 then([],N1 t p h)else if EN t p.ci h.ci m T≠0 then([],EN t p.ci h.ci m T)else G2 p h m
variable{p:d4}
theorem SO(hf:Ay t){inj:Bool}(d:N1 t p h=0)(e:EN t p.ci h.ci m inj=0):(A8 t).2=0/\UP t p/\KM t h/\Y4 t p.ci h.ci m:=by
 unfold N1 at d;split at d
 .grind
 rename_i g;obtain⟨hv,hh⟩:=NE hf d;exact⟨hv,oy hv (.inl (z!.1 g)),hh,(bZ e).2⟩
theorem gK(hf:Ay t)(p:d4)(h:AH)(m:cE):Ge t p h m=Y (FI t p h m):=by
 unfold Ge FI;rw[lh hf,bs];refine Do λe=>?_;rw[Ym hf,bs];refine Do λg=>?_;obtain⟨hv,d,hh,o⟩:=SO hf e g;rw[sv d (λs j=>O2 (CY hv) d hh o j)];rfl
theorem s9(hf:Ay t)(p:d4)(h:AH)(m:cE):MV t p h m=Y (FI t p h m):=by
 unfold MV FI;rw[Z6 hf,bs];refine Do λe=>?_;rw[Yu hf,bs];refine Do λg=>?_;obtain⟨hv,d,hh,o⟩:=SO hf e g;rw[gk d (λs j=>O2 (CY hv) d hh o j)];rfl
theorem mj(g:UP t q)(j:∀s∈q.ed,JG q.ek h m s)(e:(G2 q h m).2=0):((G2 q h m).1.length:Int)=q.ek/\P8 (G2 q h m).1:=by
 unfold G2 at e|-;cases d:EC (Et (([],11):Fp×Int) h m) q.ed (x! q.ek.toNat 0,x! q.ek.toNat T)with
 |inr r=>
  rw [d]at e;have:∀(l:List Cz)(st:Fp×Ne)(r:Fp×Int),EC (Et (([],11):Fp×Int) h m) l st=.inr r->r=([],11):=by
   intro l
   induction l with
   |nil=>intro st r h;cases h
   |cons a l u=>
    grind [EC,Et]
  grind
 |inl st=>
  rw [d]at e;have hi:=O0 j (S4 g.vars.1) d;dsimp only at e|-;split at e
  .cases e
  next o=>rw[aE o];exact⟨hi.l1,hi.small⟩
end Go.Sf.Sc
namespace Go.Sf.Sc
open Go Go.Sf
variable{i:Int}
theorem Jp{n:Nat}{α:Type}[Inhabited α](F:Int->α)(d:0<=i)(v:α):BM ((Ak n).map F) i v=(Ak n).map λj=>if j=i then v else F j:=by
 unfold BM;refine x? V (λk e g=>?_)
 grind [Az,Ak]
theorem DB{n:Nat}{α:Type}{F G:Int->α}(h:∀j,0<=j->j<(n:Int)->F j=G j):(Ak n).map F=(Ak n).map G:=by grind[List.map_congr_left,CB]
def Gx(n:Nat)(k:Int):Ne:=(Ak n).map λj=>decide (j<k)
theorem Xk(n:Nat):Gx n 0=x! n T:=by
 unfold Gx;refine x? u! (λk d e=>?_)
 grind [Ak,Az]
theorem Zn(n:Nat)(k:Int):(Gx n k).length=n:=by unfold Gx;rw[az,Az]
def Mz(q:d4)(h:AH)(m:cE)(given:Fp):Fp×Bool:=
 match EC (Et (([],T):Fp×Bool) h m) q.ed (given++x! (q.ek-given.length).toNat 0,Gx q.ek.toNat given.length)with
 |.inr r=>r|.inl st=>if gp (λi=>!Ku (AA q.f0 i) st.1) 0 q.f0.length=X then([],T)else(st.1,X)
variable{n:Int}{given:Fp}
theorem Wy(e:0<=n)(g:given.length<=n)(hv:P8 given):VI n (given++x! (n-given.length).toNat 0,Gx n.toNat given.length):=by
 refine ⟨an,by show((Gx n.toNat given.length).length:Int)=n;rw[Zn];omega,λx d=>?_⟩;rcases v?.1 d with d|d
 .exact hv x d
 grind
variable{q:d4}{m:cE}{t:AC}
theorem vt{s:Ba}(y:UP t q)(z:∀x∈q.ed,JG q.ek s.h m x)(C:given.length<=q.ek)(hv:P8 given):Dt s q m given=Y (Mz q s.h m given):=by
 have hn:=y.vars;unfold Dt Mz slices_Clone_int;rw[BO a?,bs,Ar U U];have E:bP given (q.ek-given.length) 0=Y (given++x! (q.ek-given.length).toNat 0):=by
  grind [bP,AY]
 have F:GV q.ek T=Y (x! q.ek.toNat T):=by
  grind [GV]
 rw [E,bs,F,bs];have G:BB (λ(d:Int)(A:Ne)=>(idx A d).bind λD=>Y (BM A d X)) 0 (given.length:Int) (x! q.ek.toNat T)=Y (Gx q.ek.toNat given.length):=by
  refine BR (λi=>Gx q.ek.toNat i) U (Xk _) (λi d o=>?_);rw[AD d (by rw[Zn];omega),bs];congr 1;unfold Gx;rw[Jp _ d]
  grind
 rw [G,bs];have w:=Wy hn.1 C hv;rw[Rr (Et (([],T):Fp×Bool) s.h m) (VI q.ek) w]
 .cases H:EC (Et (([],T):Fp×Bool) s.h m) q.ed (given++x! (q.ek-given.length).toNat 0,Gx q.ek.toNat given.length)with
  |inr r=>rfl|inl st=>
   have hi:=O0 z w H;rw[Bj,BT (λi=>!Ku (AA q.f0 i) st.1) ([],T)]
   .dsimp only;cases gp (λi=>!Ku (AA q.f0 i) st.1) 0 q.f0.length<;>rfl
   .intro i d o _;have B:=y.test _ (AG d o);rw[AD d o,bs,p_holds B.2.1 B.2.2 hi.small (by have:=hi.l1;omega),bs]
    grind
 .intro i st d o hi;have g:=z _ (AG d o);refine⟨?_,λs' e=>P3 g hi e⟩;rw[AD d o,bs,AD g.node.1 g.node.2,bs,AD g.val.1 g.val.2,bs,AD g.Abg.1 g.Abg.2,bs];refine Ql g hi (θ:=λj=>(E0 (AA q.ed i).fb j.1).bind λu=>if((!decide (u.2=0))||(!decide (u.1=M3 s.h m (AA q.ed i))))=X then Y (B3.ret (([],T):Fp×Bool))else Y (.next j)) (λj I=>?_);rw[cf g.term.low (by have:=g.term.high;omega) U,bs]
  grind
variable{h:AH}
theorem wR(D:UP t q)(E:∀x∈q.ed,JG q.ek h m x)(I:given.length<=q.ek)(hv:P8 given):LR q h m given=Y (Mz q h m given):=by
 have hn:=D.vars;unfold LR Mz;have L:GV q.ek T=Y (x! q.ek.toNat T):=by
  unfold GV;rw[QQ U]
 rw [BO a?,bs,L,bs];have H:BB (λ(d:Int)(w:Fp×Ne)=>
   (idx w.2 d).bind λJ=>
   if (decide ((given.length:Int)<=d))=X then
   (Al w.1 [0]).bind λB=>
   Y (B,BM w.2 d (decide (d<(given.length:Int))))
   else
   Y (w.1,BM w.2 d (decide (d<(given.length:Int))))) 0 q.ek (given,x! q.ek.toNat T)=Y (given++x! (q.ek-given.length).toNat 0,(Ak q.ek.toNat).map λj=>decide (j<q.ek)&&decide (j<(given.length:Int))):=by
  refine BR (λi=>(given++x! (i-given.length).toNat 0,(Ak q.ek.toNat).map λj=>decide (j<i)&&decide (j<(given.length:Int)))) hn.1 ?_ (λi d u=>?_)
  .have M:((0:Int)-given.length).toNat=0:=U
   rw [M];simp;rw[<-Xk];unfold Gx;refine DB (λj F G=>?_);rw[show decide (j<0)=T by simp;omega];rfl
  .dsimp only;rw[AD d (by rw[az,Az];omega),bs];have N:BM ((Ak q.ek.toNat).map λj=>decide (j<i)&&decide (j<(given.length:Int))) i (decide (i<(given.length:Int)))=(Ak q.ek.toNat).map λj=>decide (j<i+1)&&decide (j<(given.length:Int)):=by
    rw [Jp _ d];refine DB (λj F G=>?_);by_cases e:j=i
    .rw[QQ e,e,show decide (i<i+1)=X by simp;omega,A_]
    .rw[aE e];congr 1;rw[decide_eq_decide];omega
   rw [N];by_cases hi:(given.length:Int)<=i
   .rw[QQ k!,AU a!,bs];congr 2;rw[bk,show(i+1-given.length).toNat=(i-given.length).toNat+1 by omega,y_]
   .rw[aE k!];have O:(i+1-given.length).toNat=(i-given.length).toNat:=U
    rw [O]
 have C:((Ak q.ek.toNat).map λj=>decide (j<q.ek)&&decide (j<(given.length:Int)))=Gx q.ek.toNat given.length:=by
  unfold Gx;refine DB (λj F G=>?_);rw[show decide (j<q.ek)=X by simp;omega,A_]
 rw [C]at H;rw[H,bs];have z:=Wy hn.1 I hv;dsimp only;rw[Rr (Et (([],T):Fp×Bool) h m) (VI q.ek) z]
 .cases P:EC (Et (([],T):Fp×Bool) h m) q.ed (given++x! (q.ek-given.length).toNat 0,Gx q.ek.toNat given.length)with
  |inr r=>rfl|inl st=>
   have hi:=O0 E z P;rw[Bj,BT (λi=>!Ku (AA q.f0 i) st.1) ([],T)]
   .dsimp only;cases gp (λi=>!Ku (AA q.f0 i) st.1) 0 q.f0.length<;>rfl
   .intro i d u _;have A:=D.test _ (AG d u);have K:=hi.l1;rw[AD d u,bs,Oy A.2.1.low (by have:=A.2.1.high;omega),bs,Oy A.2.2.low (by have:=A.2.2.high;omega),bs,<-Hk];unfold Ku;dsimp only;congr 1;generalize C5 (AA q.f0 i).eh st.1=a;generalize C5 (AA q.f0 i).d5 st.1=b;rcases A.1 with e|e
    .rw[e,eq_iff_iff];simp
    .rw[e,eq_iff_iff];simp
 .intro i st d u hi;have g:=E _ (AG d u);refine⟨?_,λs' e=>P3 g hi e⟩;rw[AD d u,bs,AD g.node.1 g.node.2,bs,AD g.val.1 g.val.2,bs,AD g.Abg.1 g.Abg.2,bs];refine Ql g hi (θ:=λo=>(Es (AA q.ed i).fb o.1).bind λy=>if(!decide (y.1=M3 h m (AA q.ed i)))=X then Y (B3.ret (([],T):Fp×Bool))else Y (.next o)) (λo K=>?_);rw[Oy g.term.low (by have:=g.term.high;omega),bs];by_cases e:C5 (AA q.ed i).fb o.1=M3 h m (AA q.ed i)
  .rw[aE c!,QQ e]
  .rw[QQ c!,aE e]
theorem qZ(j:UP t q)(o:∀s∈q.ed,JG q.ek h m s)(u:given.length<=q.ek)(hv:P8 given)(e:(Mz q h m given).2=X):((Mz q h m given).1.length:Int)=q.ek/\P8 (Mz q h m given).1:=by
 unfold Mz at e|-;have d:=Wy j.vars.1 u hv;cases g:EC (Et (([],T):Fp×Bool) h m) q.ed (given++x! (q.ek-given.length).toNat 0,Gx q.ek.toNat given.length)with
 |inr r=>
  rw [g]at e;have:∀(l:List Cz)(st:Fp×Ne)(r:Fp×Bool),EC (Et (([],T):Fp×Bool) h m) l st=.inr r->r=([],T):=by
   intro l
   induction l with
   |nil=>intro st r h;cases h
   |cons a l y=>
    grind [EC,Et]
  grind
 |inl st=>
  rw [g]at e;have hi:=O0 o d g;dsimp only at e|-;split at e
  .cases e
  next w=>rw[aE w];exact⟨hi.l1,hi.small⟩
def VB(n:Nat)(by' images:Fp):Fp:=(Ak by'.length).foldl (λl i=>BM l (AA by' i) (AA images i)) (x! n (-1))
theorem ZV(d images:Fp):∀(e:Fp)(l:Fp),(e.foldl (λl i=>BM l (AA d i) (AA images i)) l).length=l.length
 |[],l=>rfl|k::e,l=>by rw[List.foldl_cons,ZV d images e,Tr]
theorem X3{n:Nat}{d images:Fp}(y:∀x∈d,0<=x/\x<n)(z:d.length<=images.length):BB (λ(g:Int)(o:Fp)=>
  (idx d g).bind λe=>
  (idx images g).bind λj=>
  (idx o e).bind λr=>
  Y (BM o e j)) 0 (d.length:Int) (x! n (-1))=Y (VB n d images):=by
 have h:=BR (f:=λ(g:Int)(o:Fp)=>
  (idx d g).bind λe=>
  (idx images g).bind λj=>
  (idx o e).bind λr=>
  Y (BM o e j)) (λi=>(Ak i.toNat).foldl (λl i=>BM l (AA d i) (AA images i)) (x! n (-1))) (a:=0) (b:=d.length) (s:=x! n (-1)) U rfl (λi g u=>by
   have w:=y _ (AG g u);rw[AD g u,bs,AD g U,bs,AD w.1 (by rw[ZV];simpa using w.2),bs,Fd g,List.foldl_append];rfl)
 rw [h,A!];rfl
theorem cr{n:Nat}{d images:Fp}(hn:n<=1000)(e:∀x∈d,0<=x/\x<n)(g:d.length<=images.length):F6 n d images=Y (VB n d images):=by
 unfold F6 EO;rw[QQ ⟨rfl,U,U⟩,bs];show(BB _ 0 _ (x! (n:Int).toNat (-1))).bind _=_;rw[A!,X3 e g];rfl
theorem dI{n:Nat}{d images:Fp}(hn:n<=1000)(e:∀x∈d,0<=x/\x<n)(g:d.length<=images.length):JX n d images=Y (VB n d images):=by
 unfold JX;rw[BR (a:=0) (b:=n) (s:=[]) (λi=>x! i.toNat (-1)) U rfl,bs,A!,X3 e g]
 .rfl
 .intro i j o;rw[AU a!,bs,show(i+1).toNat=i.toNat+1 by omega,y_]
end Go.Sf.Sc
namespace Go.Sf.Sc
open Go Go.Sf
structure qj(f:AM):Prop where
 nl:f.d6.length<=f.p.bq.length
 node:∀i:Int,0<=i->i<f.d6.length->(0<=AA f.d6 i/\AA f.d6 i<f.g.bq.length)/\AA (AA f.is (AA f.p.bq i)) (AA f.g.bq (AA f.d6 i))=X
 edge:∀i:Int,0<=i->i<f.d7.length->(0<=AA f.d7 i/\AA f.d7 i<f.g.ca.length)/\AA f.g.ca (AA f.d7 i)=⟨(AA f.p.ca i).fa,AA f.d6 (AA f.p.ca i).fd,AA f.d6 (AA f.p.ca i).To⟩
 inj:f.ei=X->f.d6.Nodup/\f.d7.Nodup
structure iU(f:AM)(m:cE):Prop where
 nl:m.bq.length=f.p.bq.length
 el:m.ca.length=f.p.ca.length
 node:∀i:Int,0<=i->i<m.bq.length->(0<=AA m.bq i/\AA m.bq i<f.g.bq.length)/\AA (AA f.is (AA f.p.bq i)) (AA f.g.bq (AA m.bq i))=X
 edge:∀i:Int,0<=i->i<m.ca.length->(0<=AA m.ca i/\AA m.ca i<f.g.ca.length)/\AA f.g.ca (AA m.ca i)=⟨(AA f.p.ca i).fa,AA m.bq (AA f.p.ca i).fd,AA m.bq (AA f.p.ca i).To⟩
 inj:f.ei=X->m.bq.Nodup/\m.ca.Nodup
variable{i:Int}
theorem fH{α:Type}[Inhabited α](l:List α)(x:α)(h:i=l.length):AA (l++[x]) i=x:=by grind[IN]
variable{l:Fp}{k:Int}
theorem Xs{b:Bool}(h:(!(b&&l.any λx=>decide (k=x)))=X)(d:b=X)(e:l.Nodup):(l++[k]).Nodup:=m_
theorem Y5:∀(n:Nat)(f:AM),qj f->f.d6.length=f.p.bq.length->f.d7.length+n=f.p.ca.length->∀m∈EZ n f,iU f m
 |0,f,j,hn,he,m,d=>by
  rw [EZ,List.mem_singleton]at d;subst d;exact⟨hn,by simpa using he,j.node,j.edge,j.inj⟩
 |n+1,f,j,hn,he,m,d=>by
  rw [EZ,y!]at d;obtain⟨k,w,d⟩:=d;have w:=CB.1 w;split at d
  .rename_i o;unfold UV at o;rw[gN]at o;obtain⟨r,y⟩:=o;rw[Wv,gN,ml]at r;have:=Y5 n {f with d7:=f.d7++[k]} ⟨j.nl,j.node,λi z u=>by
    have u:i<((f.d7++[k]).length:Int):=u;simp at u;show(0<=AA (f.d7++[k]) i/\AA (f.d7++[k]) i<f.g.ca.length)/\AA f.g.ca (AA (f.d7++[k]) i)=⟨(AA f.p.ca i).fa,AA f.d6 (AA f.p.ca i).fd,AA f.d6 (AA f.p.ca i).To⟩;by_cases e:i=f.d7.length
    .rw[fH _ _ e];exact⟨w,by rw[e];exact r.2⟩
    .rw[bR _ _ z U];exact j.edge i z U,λhi=>⟨(j.inj hi).1,Xs y hi (j.inj hi).2⟩⟩ hn (by show(f.d7++[k]).length+n=f.p.ca.length;rw[a5,y?];omega) m d
   exact ⟨this.nl,this.el,this.node,this.edge,this.inj⟩
  .cases d
theorem Y6:∀(n:Nat)(f:AM),qj f->f.d7=[]->f.d6.length+n=f.p.bq.length->∀m∈Gm n f,iU f m
 |0,f,r,he,hn,m,o=>by
  grind [Gm,Y5]
 |n+1,f,r,he,hn,m,o=>by
  rw [Gm,y!]at o;obtain⟨k,w,o⟩:=o;have w:=CB.1 w;split at o
  .rename_i j;unfold UW at j;rw[gN,gN]at j;obtain⟨⟨_,y⟩,z⟩:=j;have:=Y6 n {f with d6:=f.d6++[k]} ⟨by show(f.d6++[k]).length<=f.p.bq.length;rw[a5,y?];omega,λi u d=>by
    have d:i<((f.d6++[k]).length:Int):=d;simp at d;show(0<=AA (f.d6++[k]) i/\AA (f.d6++[k]) i<f.g.bq.length)/\AA (AA f.is (AA f.p.bq i)) (AA f.g.bq (AA (f.d6++[k]) i))=X;by_cases e:i=f.d6.length
    .rw[fH _ _ e];exact⟨w,by rw[e];exact y⟩
    .rw[bR _ _ u U];exact r.node i u U,λi u d=>by
    have d:i<(f.d7.length:Int):=d;rw[he]at d;have:i<(0:Nat):=d;omega,λhi=>⟨Xs z hi (r.inj hi).1,(r.inj hi).2⟩⟩ he (by show(f.d6++[k]).length+n=f.p.bq.length;rw[a5,y?];omega) m o
   exact ⟨this.nl,this.el,this.node,this.edge,this.inj⟩
  .cases o
variable{t:AC}{m:cE}
theorem XY{p g:ci}{pa:cE}{inj:Bool}(e:m∈KQ t p g pa inj):iU (FF t p g pa inj) m:=
 Y6 _ (FF t p g pa inj) ⟨Nat.zero_le _,λi j d=>by have d:i<(0:Nat):=d;omega,λi j d=>by have d:i<(0:Nat):=d;omega,λ_=>⟨z_,z_⟩⟩ rfl (by show 0+p.bq.length=p.bq.length;omega) m (List.mem_of_mem_take e)
theorem b9{p g:ci}{pa:cE}{inj:Bool}(h:EF t p g=0)(u:m∈KQ t p g pa inj):Y4 t p g m:=by
 obtain ⟨hv,A,B,tp,w⟩:=LF h;have:=XY u;refine⟨this.nl,this.el,λi d e=>?_,λi d e=>(this.edge i d e).1⟩;obtain⟨j,r⟩:=this.node i d e;refine⟨j,?_⟩;have o:=this.nl;have y:=tp _ (AG (l:=p.bq) d (by show i<(p.bq.length:Int);have o:m.bq.length=p.bq.length:=o;omega));have z:=w _ (AG (l:=g.bq) j.1 j.2);have r:AA (AA (KD t) (AA p.bq i)) (AA g.bq (AA m.bq i))=X:=r
 grind [AA,KD,OF,GH,x9]
theorem ko{p g:ci}{pa:cE}{inj:Bool}(h:EF t p g=0)(r:m∈KQ t p g pa inj):EN t p g m inj=0:=by
 have ok:=b9 h r;have u:=XY r;have w:JC t p g m=0:=by
  unfold JC;rw[aE (by have:=ok.pr;have:=ok.sr;omega)];have y:fst (Gu t p g m) 0 m.bq.length=W:=by
   rw [BQ];intro i d e;obtain⟨j,o⟩:=ok.node i d e
   grind [Gu]
  have z:fst (Dm p g m) 0 m.ca.length=W:=by
   rw [BQ];intro i d e;obtain⟨j,o⟩:=u.edge i d e;have j:0<=AA m.ca i/\AA m.ca i<g.ca.length:=j;have o:AA g.ca (AA m.ca i)=⟨(AA p.ca i).fa,AA m.bq (AA p.ca i).fd,AA m.bq (AA p.ca i).To⟩:=o
   grind [Dm]
  rw [y,z];rfl
 unfold EN;rw[aE (by simp[h]),aE (by simp[w])];cases inj
 .rfl
 .have:=u.inj rfl
  grind [G7,Hg]
theorem bl{p g:ci}{pa:cE}{inj:Bool}(h:(TL t p g pa inj).2=0):(TL t p g pa inj).1.length<=5000/\∀m∈(TL t p g pa inj).1,Y4 t p g m:=by grind[TL,b9]
structure W4(t:AC)(p:d4)(h:AH)(x:AN):Prop where
 q:UP t p
 m:Y4 t p.ci h.ci x.cE
 len:(x.ek.length:Int)=p.ek
 small:P8 x.ek
structure kK(t:AC)(p:d4)(c:c9):Prop where
 q:UP t c.d4
 vars:p.ek<=c.d4.ek
 map:ai p.ci c.d4.ci c.Map
 inj:G7 c.Map=X
def Dk(t:AC)(c:c9)(h:AH)(m:AN)(inj:Bool):List AN×Int:=
 let x:=TL t c.d4.ci h.ci ⟨VB c.d4.ci.bq.length c.Map.bq m.cE.bq,VB c.d4.ci.ca.length c.Map.ca m.cE.ca⟩ inj
 if x.2≠0 then([],x.2)else((x.1.filter λy=>(Mz c.d4 h y m.ek).2).map λy=>⟨y,(Mz c.d4 h y m.ek).1⟩,0)
instance:Inhabited cE:=⟨⟨[],[]⟩⟩
instance:Inhabited AN:=⟨⟨default,[]⟩⟩
instance:Inhabited BC:=⟨⟨0,default,[]⟩⟩
theorem SI{x:List cE}{F:cE->Fp×Bool}{f:Int->List AN->Option (List AN)}(o:x.length<=5000)
  (hf:∀(i:Int)(s:List AN),0<=i->i<x.length->s.length<=5000->f i s=Y (if(F (AA x i)).2=X then s++[⟨AA x i,(F (AA x i)).1⟩]else s)):
  BB f 0 (x.length:Int) []=Y ((x.filter λy=>(F y).2).map λy=>⟨y,(F y).1⟩):=by
 rw [BR (a:=0) (b:=x.length) (s:=[]) (λi=>((x.take i.toNat).filter λy=>(F y).2).map λy=>(⟨y,(F y).1⟩:AN)) U rfl,A!,List.take_length];intro i d e;have g:(((x.take i.toNat).filter λy=>(F y).2).map λy=>(⟨y,(F y).1⟩:AN)).length<=5000:=by
  grind
 rw [hf i _ d e g,Cb d e,List.filter_append,List.map_append];cases j:(F (AA x i)).2<;>simp[j]
variable{p:d4}{c:c9}
theorem vf{s:Ba}{m:AN}(hf:Ay s.t)(hv:(A8 s.t).2=0)(hh:KM s.t s.h)(o:W4 s.t p s.h m)(hi:kK s.t p c):DF s c m=Y (Dk s.t c s.h m s.ei):=by
 have gn:=hi.q.g.d6;have ge:=hi.q.g.d7;have m1:=hi.map.pr;have C:=hi.map.sr;have D:=o.m.pr;have E:=o.m.sr;unfold DF Dk;rw[cr U (λx j=>by obtain⟨i,d,e,rfl⟩:=A9 j;exact(hi.map.node i d e).1) U,bs,
  cr U (λx j=>by obtain⟨i,d,e,rfl⟩:=A9 j;exact(hi.map.edge i d e).1) U,bs,oi hf,bs]
 dsimp only;refine Do λr=>?_;obtain⟨z,A⟩:=bl r;rw[SI (F:=λy=>Mz c.d4 s.h y m.ek) z]
 .rfl
 .intro i st d e B;have u:=A _ (AG d e);have w:(m.ek.length:Int)<=c.d4.ek:=by have:=o.len;have:=hi.vars;omega
  rw [AD d e,bs,vt hi.q (λx j=>O2 (CY hv) hi.q hh u j) w o.small,bs,<-Hk]
  grind [AU,AY]
variable{h:AH}
theorem wF{inj:Bool}{m:AN}(hf:Ay t)(hv:(A8 t).2=0)(hh:KM t h)(o:W4 t p h m)(hi:kK t p c):Hn t c h m inj=Y (Dk t c h m inj):=by
 have gn:=hi.q.g.d6;have ge:=hi.q.g.d7;have m1:=hi.map.pr;have C:=hi.map.sr;have D:=o.m.pr;have E:=o.m.sr;unfold Hn Dk;rw[dI U (λx j=>by obtain⟨i,d,e,rfl⟩:=A9 j;exact(hi.map.node i d e).1) U,bs,
  dI U (λx j=>by obtain⟨i,d,e,rfl⟩:=A9 j;exact(hi.map.edge i d e).1) U,bs,o5 hf,bs]
 dsimp only;refine Do λr=>?_;obtain⟨z,A⟩:=bl r;rw[SI (F:=λy=>Mz c.d4 h y m.ek) z]
 .rfl
 .intro i st d e B;have u:=A _ (AG d e);have w:(m.ek.length:Int)<=c.d4.ek:=by have:=o.len;have:=hi.vars;omega
  rw [AD d e,bs,wR hi.q (λx j=>O2 (CY hv) hi.q hh u j) w o.small,bs,<-Hk]
  grind [AU,AY]
theorem fc{inj:Bool}{m:AN}(hv:(A8 t).2=0)(hh:KM t h)(j:W4 t p h m)(hi:kK t p c)(e:(Dk t c h m inj).2=0):(Dk t c h m inj).1.length<=5000/\∀x∈(Dk t c h m inj).1,W4 t c.d4 h x:=by
 unfold Dk at e|-;dsimp only at e|-;split at e
 .grind
 rename_i o;rw[aE o];obtain⟨w,z⟩:=bl (z!.1 o);refine⟨by dsimp only;rw[az];exact Nat.le_trans (List.length_filter_le _ _) w,λx d=>?_⟩;dsimp only at d;rw[List.mem_map]at d;obtain⟨y,g,rfl⟩:=d;rw[List.mem_filter]at g;have r:=z y g.1;have u:(m.ek.length:Int)<=c.d4.ek:=by have:=j.len;have:=hi.vars;omega
 have:=qZ hi.q (λx d=>O2 (CY hv) hi.q hh r d) u j.small g.2;exact⟨hi.q,r,this.1,this.2⟩
end Go.Sf.Sc
namespace Go.Sf.Sc
open Go Go.Sf
inductive CV(t:AC):d4->c9->Prop where
 |mk (p:d4) (c:c9) (few:c.ej.length<=40) (rng:1<=c.fu/\c.fu<=5) (one:c.fu=2\/c.fu=5->c.ej.length=1) (ins:c.fu=5->kK t p c) (kids:∀k∈c.ej,CV t (if c.fu=5 then c.d4 else p) k):CV t p c
variable{t:AC}{p:d4}{c:c9}
theorem CV.few(h:CV t p c):c.ej.length<=40:=h?
theorem CV.rng(h:CV t p c):1<=c.fu/\c.fu<=5:=h?
theorem CV.one(h:CV t p c):c.fu=2\/c.fu=5->c.ej.length=1:=h?
theorem CV.ins(h:CV t p c):c.fu=5->kK t p c:=h?
theorem CV.kids(h:CV t p c):∀k∈c.ej,CV t (if c.fu=5 then c.d4 else p) k:=h?
theorem CV.kid(h:CV t p c)(d:¬c.fu=5):∀k∈c.ej,CV t p k:=λk e=>by have:=h.kids k e;rwa[aE d]at this
theorem CV.kid5(h:CV t p c)(d:c.fu=5):∀k∈c.ej,CV t c.d4 k:=λk e=>by have:=h.kids k e;rwa[QQ d]at this
theorem ZD:∀l:List c9,l.length<=SD l
 |[]=>by simp|c::l=>by
  have:=ZD l
  grind [SD,DM,XN,ae]
variable{q:d4}{v:Int}
theorem yl(hv:(A8 t).2=0)(h:Uv t q v=0):UP t q:=by grind[Uv,oy]
theorem qu(hv:(A8 t).2=0):∀(N:Nat)(c:c9)(p:d4),SizeOf.sizeOf c<=N->DM c<=40->R7 N c=X->J5 N t p c=0->CV t p c
 |0,c,_,h,_,_,_=>by have:=DP c;omega|N+1,c,p,h,M,z,ho=>by
  have E:=XN c;have F:=ZD c.ej;rw[R7,gN]at z;obtain⟨u,o⟩:=z;have d:c.fu=2\/c.fu=5->c.ej.length=1:=by
   intro j;unfold Rs at u
   grind
  have g:1<=c.fu/\c.fu<=5:=by
   grind [Rs]
  have w:∀q,(fst (λi=>nz (J5 N t q (AA c.ej i))) 0 c.ej.length).getD 0=0->∀k∈c.ej,CV t q k:=by
   intro q A k j;have G:=Uq A;have K:=ba j;have L:=Ey j;rw[List.all_eq_true]at o;obtain⟨i,H,I,e⟩:=A9 j;have y:=G i H I;rw[e]at y;exact qu hv N k q U U (o k j) y
  rw [J5]at ho;by_cases r:c.fu=5
  .rw[QQ r]at ho;split at ho
   .cases ho
   rename_i J;split at ho
   .grind
   rename_i B;split at ho
   .grind
   rename_i C;split at ho
   .cases ho
   rename_i D;refine CV.mk p c U g d (λ_=>⟨yl hv (z!.1 B),U,Vn (z!.1 C),by simpa using D⟩) ?_
   grind
  .rw[aE r]at ho;refine CV.mk p c U g d (λe=>absurd e r) ?_
   grind
section
variable{α σ ρ:Type}
variable{f:Int->σ->Option (B3 σ ρ)}
theorem UU[Inhabited α]{l:List α}(step:α->σ->B3 σ ρ)(I:Int->σ->Prop)(h:∀(i:Int)s,0<=i->i<l.length->I i s->f i s=Y (step (AA l i) s)/\∀s',step (AA l i) s=.next s'->I (i+1) s'):
  ∀(n:Nat)(a:Int)(s:σ),0<=a->a+n=l.length->I a s->FR f n a s=Y (EC step (l.drop a.toNat) s)
 |0,a,s,d,o,_=>by
  rw [w! U];rfl
 |n+1,a,s,d,o,u=>by
  obtain ⟨g,j⟩:=h a s d U u;have hd:l.drop a.toNat=AA l a::l.drop (a+1).toNat:=by
   grind [w?,AA,x_]
  rw [Em,g,hd,EC];cases e:step (AA l a) s with
  |next s'=>
   simp only;exact UU step I h n (a+1) s' U U (j s' e)
  |brk s'=>rfl|ret r=>rfl
theorem XX[Inhabited α]{l:List α}(step:α->σ->B3 σ ρ)(I:Int->σ->Prop){s:σ}(d:I 0 s)(h:∀(i:Int)s,0<=i->i<l.length->I i s->f i s=Y (step (AA l i) s)/\∀s',step (AA l i) s=.next s'->I (i+1) s'):
  Aj f 0 l.length s=Y (EC step l s):=by
 have:=UU step I h l.length 0 s U U d;unfold Aj;rw[show((l.length:Int)-0).toNat=l.length by omega];exact this
theorem YD{d s2:α->σ->B3 σ ρ}:∀{l:List α}{s:σ},(∀a∈l,d a=s2 a)->EC d l s=EC s2 l s
 |[],_,_=>rfl|a::l,s,h=>by
  rw [EC,EC,h a V];split
  .exact YD λb e=>h b c!
  .rfl
  .rfl
end
abbrev zM:AN:=⟨⟨[],[]⟩,[]⟩
abbrev zP:BC:=⟨0,zM,[]⟩
def Nc(w:c9->BC×Int)(k:c9)(s:BC×BC):B3 (BC×BC) (BC×Int):=
 if (w k).2≠0 then .ret (zP,(w k).2)else .next (s.1,⟨s.2.x8,s.2.gh,s.2.ej++[(w k).1]⟩)
def Uf(w:c9->BC×Int)(l:List c9):BC×Int:=
 match EC (Nc w) l (zP,zP)with
 |.inl s=>(s.2,0)|.inr r=>r
def Cs(t:AC)(h:AH)(inj:Bool):Nat->c9->AN->BC×Int
 |0,_,_=>(zP,0)|N+1,c,m=>
  if c.fu=2 then(if(Cs t h inj N (AA c.ej 0) m).2=0 then(zP,10)else if(Cs t h inj N (AA c.ej 0) m).2=10 then(zP,0)else(zP,(Cs t h inj N (AA c.ej 0) m).2))else
  if c.fu=3 then Uf (λk=>Cs t h inj N k m) c.ej else
  if c.fu=4 then(fst (λi=>if(Cs t h inj N (AA c.ej i) m).2=0 then Y (⟨i,zM,[(Cs t h inj N (AA c.ej i) m).1]⟩,0)else if(Cs t h inj N (AA c.ej i) m).2≠10 then Y (zP,(Cs t h inj N (AA c.ej i) m).2)else W) 0 c.ej.length).getD (zP,10)else
  if c.fu=5 then
   (if(Dk t c h m inj).2≠0 then(zP,(Dk t c h m inj).2)else
   (fst (λi=>if(Cs t h inj N (AA c.ej 0) (AA (Dk t c h m inj).1 i)).2=0 then Y (⟨0,AA (Dk t c h m inj).1 i,[(Cs t h inj N (AA c.ej 0) (AA (Dk t c h m inj).1 i)).1]⟩,0)else
    if (Cs t h inj N (AA c.ej 0) (AA (Dk t c h m inj).1 i)).2≠10 then Y (zP,(Cs t h inj N (AA c.ej 0) (AA (Dk t c h m inj).1 i)).2)else W) 0 (Dk t c h m inj).1.length).getD (zP,10))else
  (zP,0)
def C0(t:AC)(h:AH)(inj:Bool):Nat->c9->AN->BC×Int
 |0,_,_=>(zP,0)|N+1,c,m=>
  if c.fu=2 then(if(C0 t h inj N (AA c.ej 0) m).2=0 then(zP,10)else if(C0 t h inj N (AA c.ej 0) m).2=10 then(zP,0)else(zP,(C0 t h inj N (AA c.ej 0) m).2))else
  if c.fu=3 then Uf (λk=>C0 t h inj N k m) c.ej else
  if c.fu=4 then(fst (λi=>if(C0 t h inj N (AA c.ej i) m).2≠10 then Y (⟨i,zM,[(C0 t h inj N (AA c.ej i) m).1]⟩,(C0 t h inj N (AA c.ej i) m).2)else W) 0 c.ej.length).getD (zP,10)else
  if c.fu=5 then
   (if(Dk t c h m inj).2≠0 then(zP,(Dk t c h m inj).2)else
   (fst (λi=>if(C0 t h inj N (AA c.ej 0) (AA (Dk t c h m inj).1 i)).2≠10 then Y (⟨0,AA (Dk t c h m inj).1 i,[(C0 t h inj N (AA c.ej 0) (AA (Dk t c h m inj).1 i)).1]⟩,(C0 t h inj N (AA c.ej 0) (AA (Dk t c h m inj).1 i)).2)else W) 0 (Dk t c h m inj).1.length).getD (zP,10))else
  (zP,0)
def MK(x:BC×Int):BC×Int:=if x.2=0 then x else(zP,x.2)
theorem lV(x:BC×Int):(MK x).2=x.2:=by unfold MK;split<;>rfl
theorem lU{x:BC×Int}(h:x.2=0):(MK x).1=x.1:=by unfold MK;rw[QQ h]
theorem nZ(w:c9->BC×Int)(l:List c9):MK (Uf w l)=Uf w l:=by
 unfold Uf;have:∀(l:List c9)(s:BC×BC)(r:BC×Int),EC (Nc w) l s=.inr r->MK r=r:=by
  intro l
  induction l with
  |nil=>intro s r h;cases h
  |cons a l j=>
   intro s r h;rw[EC]at h;split at h
   .exact j _ _ h
   .cases h
   .rename_i o d;cases h;unfold Nc at d;split at d
    next e=>cases d;unfold MK;rw[aE e]
    .cases d
 cases g:EC (Nc w) l (zP,zP)with
 |inl s=>rfl|inr r=>exact this _ _ _ g
theorem Zb(o:Option (BC×Int)):MK (o.getD (zP,10))=(o.map MK).getD (zP,10):=by cases o<;>rfl
theorem iO(t:AC)(h:AH)(inj:Bool):∀(N:Nat)(c:c9)(m:AN),Cs t h inj N c m=MK (C0 t h inj N c m)
 |0,_,_=>rfl|N+1,c,m=>by
  have w:=iO t h inj N;have key:∀(c:c9)(m:AN),(Cs t h inj N c m).2=(C0 t h inj N c m).2:=λc m=>by rw[w,lV]
  have pick:∀(k:c9)(m x:AN)(i:Int),(if(Cs t h inj N k m).2=0 then Y ((⟨i,x,[(Cs t h inj N k m).1]⟩:BC),(0:Int))else if(Cs t h inj N k m).2≠10 then Y (zP,(Cs t h inj N k m).2)else W)=(if(C0 t h inj N k m).2≠10 then Y ((⟨i,x,[(C0 t h inj N k m).1]⟩:BC),(C0 t h inj N k m).2)else W).map MK:=by
   intro k m x i;rw[key];by_cases d:(C0 t h inj N k m).2=0
   .rw[QQ d,QQ U,w,lU d];simp[MK,d]
   .rw[aE d];by_cases e:(C0 t h inj N k m).2≠10
    .rw[QQ e,QQ e];simp[MK,d]
    grind
  rw [Cs,C0];by_cases j:c.fu=2
  .rw[QQ j,QQ j,key];by_cases d:(C0 t h inj N (AA c.ej 0) m).2=0
   .rw[QQ d];rfl
   .rw[aE d];by_cases e:(C0 t h inj N (AA c.ej 0) m).2=10
    .rw[QQ e];rfl
    .rw[aE e];unfold MK;rw[aE d]
  rw [aE j,aE j];by_cases o:c.fu=3
  .rw[QQ o,QQ o,nZ];unfold Uf;rw[YD (s2:=Nc λk=>C0 t h inj N k m)];intro k _;funext s;unfold Nc;simp only[key];by_cases d:(C0 t h inj N k m).2=0
   .rw[aE p!,aE p!,w,lU d]
   .rw[QQ d,QQ d]
  rw [aE o,aE o];by_cases r:c.fu=4
  .rw[QQ r,QQ r,Zb,<-Qs];congr 1;exact congrArg (λF=>fst F 0 (c.ej.length:Int)) (funext λi=>pick _ _ _ _)
  rw [aE r,aE r];by_cases u:c.fu=5
  .rw[QQ u,QQ u];by_cases g:(Dk t c h m inj).2≠0
   .rw[QQ g,QQ g];unfold MK;rw[aE g]
   .rw[aE g,aE g,Zb,<-Qs];congr 1;exact congrArg (λF=>fst F 0 ((Dk t c h m inj).1.length:Int)) (funext λi=>pick _ _ _ _)
  rw [aE u,aE u];rfl
end Go.Sf.Sc
namespace Go.Sf.Sc
open Go Go.Sf
def Rt(i:Int)(s:BC×BC):Prop:=(s.2.ej.length:Int)=i
theorem X0{s:Ba}(hf:Ay s.t)(hv:(A8 s.t).2=0)(hh:KM s.t s.h):∀(N:Nat)(c:c9)(p:d4)(m:AN),SizeOf.sizeOf c<=N->CV s.t p c->W4 s.t p s.h m->∀n,2*N<=n->BS n s c m=Y (Cs s.t s.h s.ei N c m)
 |0,c,_,_,h,_,_,_,_=>by have:=DP c;omega|N+1,c,p,m,h,j,w,n,hn=>by
  obtain ⟨n,rfl⟩:∃k,n=k+2:=⟨n-2,U⟩;have kid:∀(i:Int),0<=i->i<c.ej.length->SizeOf.sizeOf (AA c.ej i)<=N:=λi d e=>by
   have:=Ey (AG (l:=c.ej) d e);omega
  rw [BS,Cs];by_cases o:c.fu=2
  .have C:=j.one (.inl o);rw[QQ f?,QQ o,AD U U,bs,X0 hf hv hh N _ p m (kid 0 U U) (j.kid U _ (AG U U)) w (n+1) U,bs]
   grind
  rw [aE f?,aE o];by_cases y:c.fu=3
  .rw[QQ i!,QQ y];have A:=j.few;rw[XX (Nc λk=>Cs s.t s.h s.ei N k m) Rt (show Rt 0 (zP,zP)from rfl)]
   .unfold Uf;show AL (Y (EC (Nc λk=>Cs s.t s.h s.ei N k m) c.ej (zP,zP))) _ _=_;cases EC (Nc λk=>Cs s.t s.h s.ei N k m) c.ej (zP,zP)<;>rfl
   .intro i st d e hi;unfold Rt at hi;rw[AD d e,bs,X0 hf hv hh N _ p m (kid i d e) (j.kid U _ (AG d e)) w (n+1) U,bs]
    grind [Nc,Cs,AA,AU,AY,Rt]
  rw [aE i!,aE y];by_cases z:c.fu=4
  .rw[QQ t?,QQ z];rw[Lt (λ_=>zP) (λi=>if(Cs s.t s.h s.ei N (AA c.ej i) m).2=0 then Y (⟨i,zM,[(Cs s.t s.h s.ei N (AA c.ej i) m).1]⟩,0)else if(Cs s.t s.h s.ei N (AA c.ej i) m).2≠10 then Y (zP,(Cs s.t s.h s.ei N (AA c.ej i) m).2)else W) U rfl]
   .cases fst (λi=>if(Cs s.t s.h s.ei N (AA c.ej i) m).2=0 then Y ((⟨i,zM,[(Cs s.t s.h s.ei N (AA c.ej i) m).1]⟩:BC),(0:Int))else if(Cs s.t s.h s.ei N (AA c.ej i) m).2≠10 then Y (zP,(Cs s.t s.h s.ei N (AA c.ej i) m).2)else W) 0 c.ej.length<;>rfl
   .intro i d e _;rw[AD d e,bs,X0 hf hv hh N _ p m (kid i d e) (j.kid U _ (AG d e)) w (n+1) U,bs];generalize Cs s.t s.h s.ei N (AA c.ej i) m=x;by_cases e0:x.2=0
    .rw[QQ (by simpa using e0),QQ e0];try rfl
    .rw[aE (by simpa using e0),aE e0];by_cases g:x.2=10
     .rw[aE u_,aE u_];try rfl
     .rw[QQ u_,QQ g];try rfl
  rw [aE t?,aE z];by_cases r:c.fu=5
  .rw[QQ n_,QQ r];have hi:=j.ins r;have C:=j.one (.inr r);rw[B6,vf hf hv hh w hi,bs];by_cases u:(Dk s.t c s.h m s.ei).2=0
   .obtain⟨g,B⟩:=fc hv hh w hi u;rw[aE o?,aE o?];generalize (Dk s.t c s.h m s.ei).1=l at g B;rw[Lt (λ_=>zP) (λi=>if(Cs s.t s.h s.ei N (AA c.ej 0) (AA l i)).2=0 then Y (⟨0,AA l i,[(Cs s.t s.h s.ei N (AA c.ej 0) (AA l i)).1]⟩,0)else if(Cs s.t s.h s.ei N (AA c.ej 0) (AA l i)).2≠10 then Y (zP,(Cs s.t s.h s.ei N (AA c.ej 0) (AA l i)).2)else W) U rfl]
    .cases fst (λi=>if(Cs s.t s.h s.ei N (AA c.ej 0) (AA l i)).2=0 then Y ((⟨0,AA l i,[(Cs s.t s.h s.ei N (AA c.ej 0) (AA l i)).1]⟩:BC),(0:Int))else if(Cs s.t s.h s.ei N (AA c.ej 0) (AA l i)).2≠10 then Y (zP,(Cs s.t s.h s.ei N (AA c.ej 0) (AA l i)).2)else W) 0 l.length<;>rfl
    .intro i d e _;rw[AD d e,bs,AD U U,bs,X0 hf hv hh N _ c.d4 _ (kid 0 U U) (j.kid5 r _ (AG U U)) (B _ (AG d e)) n U,bs];generalize Cs s.t s.h s.ei N (AA c.ej 0) (AA l i)=x;by_cases e0:x.2=0
     .rw[QQ (by simpa using e0),QQ e0];try rfl
     .rw[aE (by simpa using e0),aE e0];by_cases g:x.2=10
      .rw[aE u_,aE u_];try rfl
      .rw[QQ u_,QQ g];try rfl
   .rw[QQ o?,QQ u];try rfl
  grind
variable{t:AC}
theorem So{d:AH}{inj:Bool}(hf:Ay t)(hv:(A8 t).2=0)(hh:KM t d):∀(N:Nat)(c:c9)(p:d4)(m:AN),SizeOf.sizeOf c<=N->CV t p c->W4 t p d m->∀n,N<=n->Dx n t c d m inj=Y (C0 t d inj N c m)
 |0,c,_,_,h,_,_,_,_=>by have:=DP c;omega|N+1,c,p,m,h,o,w,n,hn=>by
  obtain ⟨n,rfl⟩:∃k,n=k+1:=⟨n-1,U⟩;have kid:∀(i:Int),0<=i->i<c.ej.length->SizeOf.sizeOf (AA c.ej i)<=N:=λi e g=>by
   have:=Ey (AG (l:=c.ej) e g);omega
  rw [Dx,C0];by_cases r:c.fu=2
  .have D:=o.one (.inl r);rw[QQ n_,QQ r,AD U U,bs,So hf hv hh N _ p m (kid 0 U U) (o.kid U _ (AG U U)) w n U,bs]
   grind
  rw [aE n_,aE r];by_cases y:c.fu=3
  .rw[QQ i!,QQ y];have B:=o.few;rw[XX (Nc λk=>C0 t d inj N k m) Rt (show Rt 0 (zP,zP)from rfl)]
   .unfold Uf;show AL (Y (EC (Nc λk=>C0 t d inj N k m) c.ej (zP,zP))) _ _=_;cases EC (Nc λk=>C0 t d inj N k m) c.ej (zP,zP)<;>rfl
   .intro i st e g hi;unfold Rt at hi;rw[AD e g,bs,So hf hv hh N _ p m (kid i e g) (o.kid U _ (AG e g)) w n U,bs]
    grind [Nc,C0,AA,AU,AY,Rt]
  rw [aE i!,aE y];by_cases z:c.fu=4
  .rw[QQ t?,QQ z];rw[Lt (λ_=>zP) (λi=>if(C0 t d inj N (AA c.ej i) m).2≠10 then Y (⟨i,zM,[(C0 t d inj N (AA c.ej i) m).1]⟩,(C0 t d inj N (AA c.ej i) m).2)else W) U rfl]
   .cases fst (λi=>if(C0 t d inj N (AA c.ej i) m).2≠10 then Y ((⟨i,zM,[(C0 t d inj N (AA c.ej i) m).1]⟩:BC),(C0 t d inj N (AA c.ej i) m).2)else W) 0 c.ej.length<;>rfl
   .intro i e g _;rw[AD e g,bs,So hf hv hh N _ p m (kid i e g) (o.kid U _ (AG e g)) w n U,bs];generalize C0 t d inj N (AA c.ej i) m=x;by_cases j:x.2=10
    .rw[aE j_,aE j_];try rfl
    .rw[QQ j_,QQ j];try rfl
  rw [aE t?,aE z];by_cases u:c.fu=5
  .rw[QQ e_,QQ u];have hi:=o.ins u;have D:=o.one (.inr u);rw[wF hf hv hh w hi,bs];by_cases A:(Dk t c d m inj).2=0
   .obtain⟨j,C⟩:=fc hv hh w hi A;rw[aE (by simp[A]),aE (by simp[A])];generalize (Dk t c d m inj).1=l at j C;rw[Lt (λ_=>zP) (λi=>if(C0 t d inj N (AA c.ej 0) (AA l i)).2≠10 then Y (⟨0,AA l i,[(C0 t d inj N (AA c.ej 0) (AA l i)).1]⟩,(C0 t d inj N (AA c.ej 0) (AA l i)).2)else W) U rfl]
    .cases fst (λi=>if(C0 t d inj N (AA c.ej 0) (AA l i)).2≠10 then Y ((⟨0,AA l i,[(C0 t d inj N (AA c.ej 0) (AA l i)).1]⟩:BC),(C0 t d inj N (AA c.ej 0) (AA l i)).2)else W) 0 l.length<;>rfl
    .intro i e g _;rw[AD U U,bs,AD e g,bs,So hf hv hh N _ c.d4 _ (kid 0 U U) (o.kid5 u _ (AG U U)) (C _ (AG e g)) n U,bs];generalize C0 t d inj N (AA c.ej 0) (AA l i)=x;by_cases j:x.2=10
     .rw[aE j_,aE j_];try rfl
     .rw[QQ j_,QQ j];try rfl
   grind
  grind
end Go.Sf.Sc
namespace Go.Sf.Sc
open Go Go.Sf
noncomputable def SV(t:AC)(p:d4)(c:c9)(h:AH)(m:AN)(inj:Bool):Int:=
 if Lp t p c≠0 then Lp t p c else if(Cy t h).2≠0 then(Cy t h).2 else if EN t p.ci h.ci m.cE inj≠0 then EN t p.ci h.ci m.cE inj else
 if (FI t p h m.cE).2≠0 then(FI t p h m.cE).2 else if(FI t p h m.cE).1=m.ek then 0 else 11
variable{t:AC}{c:c9}
theorem oc(hf:Ay t)(p:d4)(d:Dn c)(h:AH)(m:AN)(inj:Bool):IT t p c h m inj=Y (SV t p c h m inj):=by
 unfold IT SV;rw[sZ hf p d,bs];refine Di λ_=>?_;rw[cl hf,bs];refine Di λ_=>?_;rw[Ym hf,bs];refine Di λ_=>?_;rw[gK hf,bs];refine Di λ_=>?_;rw[PH,bs]
 grind
variable{p:d4}{h:AH}
theorem XM(hf:Ay t)(z:DM c<=40){m:AN}{inj:Bool}(e:SV t p c h m inj=0):(A8 t).2=0/\KM t h/\CV t p c/\W4 t p h m:=by
 unfold SV at e;split at e
 .grind
 rename_i d;split at e
 .grind
 rename_i j;split at e
 .grind
 rename_i o;split at e
 .grind
 rename_i r;split at e
 case isFalse=>cases e
 rename_i C;have d:=z!.1 d;have j:=z!.1 j;have o:=z!.1 o;have r:=z!.1 r;obtain⟨hv,hh⟩:=NE hf j;have w:=(bZ o).2;unfold Lp at d;split at d
 .grind
 rename_i A;split at d
 .grind
 rename_i u;have y:=oy hv (.inl (z!.1 A));have u:=z!.1 u;have B:du c=X:=by
  grind [La]
 suffices g:(m.ek.length:Int)=p.ek/\P8 m.ek from⟨hv,hh,qu hv _ c p (aN _) z B d,y,w,g.1,g.2⟩
 have g:∀s∈p.ed,JG p.ek h m.cE s:=λs g=>O2 (CY hv) y hh w g
 grind [FI,mj]
end Go.Sf.Sc
namespace Go.Sf.Sc
open Go Go.Sf
def Qu:Nat->c9->Bool
 |0,_=>X|N+1,c=>if gp (λi=>!Qu N (AA c.ej i)) 0 c.ej.length=X then T else decide (Ag ((c.d4.ci.bq.length:Int)+c.d4.ci.ca.length)<=6)
theorem Z7:∀(N:Nat)(c:c9),SizeOf.sizeOf c<=N->∀n,N<=n->Ft n c=Y (Qu N c)
 |0,c,h,_,_=>by have:=DP c;omega|N+1,c,h,n,hn=>by
  obtain ⟨n,rfl⟩:∃k,n=k+1:=⟨n-1,U⟩;rw[Ft,Qu,BT (λi=>!Qu N (AA c.ej i)) T]
  .cases gp (λi=>!Qu N (AA c.ej i)) 0 c.ej.length<;>rfl
  .intro i d e _;have:=Ey (AG (l:=c.ej) d e);rw[AD d e,bs,Z7 N _ U n U,bs,Hk]
theorem o8(c:c9):RQ c=Y (Qu (SizeOf.sizeOf c) c):=EG (SizeOf.sizeOf c) λn hn=>Z7 _ c (aN _) n hn
def U2(a:Int):Nat->Int->Int
 |0,s=>s|k+1,s=>Ag (U2 a k s*a)
theorem rG{a b k s:Int}(g:0<=k)(e:k<=1000)(j:b<=1000):EI (ρ:=Bool) (λ(d:Int×Int)=>
  if (decide (d.2<b))=X then
  Y (.next (Ag (d.1*a),Ag (d.2+1)))
  else
  Y (.brk (d.1,d.2))) (s,k)=Y (.inl (U2 a (max k b-k).toNat s,max k b)):=by
 refine OX (λi=>U2 a (i-k).toNat s) U (by rw[show(k-k).toNat=0 by omega];rfl) (λi o r=>?_) ?_
 .rw[QQ an,show(i+1-k).toNat=(i-k).toNat+1 by omega,U2];dsimp only;rw[Ar (n:=i+1) U U]
 .rw[aE an]
def RB(a b:Int):Nat->d4->c9->Bool
 |0,_,_=>X|N+1,p,c=>
  let q:=if c.fu=5 then c.d4 else p
  if gp (λi=>!RB a b N q (AA c.ej i)) 0 c.ej.length=X then T else
  decide (U2 b (max (p.ci.ca.length:Int) q.ci.ca.length-p.ci.ca.length).toNat (U2 a (max (p.ci.bq.length:Int) q.ci.bq.length-p.ci.bq.length).toNat 1)<=5000)
theorem dG(a b:Int):∀(N:Nat)(c:c9)(p:d4),SizeOf.sizeOf c<=N->Dn c->SA p->∀n,N<=n->EB n p c a b=Y (RB a b N p c)
 |0,c,_,h,_,_,_,_=>by have:=DP c;omega|N+1,c,p,h,g,z,n,hn=>by
  obtain ⟨n,rfl⟩:∃k,n=k+1:=⟨n-1,U⟩;have E:=g.q.d6;have F:=g.q.d7;have G:=z.d6;have H:=z.d7;have e:∀q:d4,SA q->(AL (EI (ρ:=Bool) (λ(d:Int×Int)=>
    if (decide (d.2<(q.ci.bq.length:Int)))=X then
    Y (.next (Ag (d.1*a),Ag (d.2+1)))
    else
    Y (.brk (d.1,d.2))) (1,(p.ci.bq.length:Int))) (λd=>
    AL (EI (ρ:=Bool) (λ(s2:Int×Int)=>
    if (decide (s2.2<(q.ci.ca.length:Int)))=X then
    Y (.next (Ag (s2.1*b),Ag (s2.2+1)))
    else
    Y (.brk (s2.1,s2.2))) (d.1,(p.ci.ca.length:Int))) (λs2=>
    AL (Aj (ρ:=Bool) (λ(A:Int)(_:Unit)=>
    (idx c.ej A).bind λj=>
    (EB n q j a b).bind λo=>
    if (!o)=X then
    Y (.ret T)
    else
    Y (.next ())) 0 (c.ej.length:Int) ()) (λ_=>
    Y (decide (s2.1<=5000))) (λB=>Y B)) (λC=>Y C)) (λD=>Y D))=
    Y (if gp (λi=>!RB a b N q (AA c.ej i)) 0 c.ej.length=X then T else
     decide (U2 b (max (p.ci.ca.length:Int) q.ci.ca.length-p.ci.ca.length).toNat (U2 a (max (p.ci.bq.length:Int) q.ci.bq.length-p.ci.bq.length).toNat 1)<=5000)):=by
   intro q r;have I:=r.d6;have J:=r.d7;rw[rG U U U,Bj];dsimp only;rw[rG U U U,Bj,BT (λi=>!RB a b N q (AA c.ej i)) T]
   .cases gp (λi=>!RB a b N q (AA c.ej i)) 0 c.ej.length<;>rfl
   .intro i u w _;have:=Ey (AG (l:=c.ej) u w);rw[AD u w,bs,dG a b N _ q U (g.k _ (AG u w)) r n U,bs,Hk]
  rw [EB,RB];by_cases y:c.fu=5
  .rw[QQ i!,QQ y,bs,e _ g.q]
  grind
variable{c:c9}{p:d4}
theorem mB(a b:Int)(d:Dn c)(e:SA p):QD p c a b=Y (RB a b (SizeOf.sizeOf c) p c):=EG (SizeOf.sizeOf c) λn hn=>dG a b _ c p (aN _) d e n hn
theorem ny(h:AH):∃b,NQ h=Y b:=by
 unfold NQ Jj;rw[bs];split
 .exact⟨_,rfl⟩
 .rw[BT (λi=>decide (12<((AA h.eg i).length:Int))) T]
  .cases gp (λi=>decide (12<((AA h.eg i).length:Int))) 0 h.eg.length
   .exact⟨X,rfl⟩
   .exact⟨T,rfl⟩
  .intro i d e _;rw[AD d e,bs,Hk]
variable{t:AC}
theorem mI(hf:Ay t)(st:(AO t).Sm)(p g:ci):∃b,MT t p g=Y b:=by
 obtain ⟨b,e,_⟩:=ZN st;unfold MT Jj;rw[e,bs,Ti hf]
 grind
theorem mJ(hf:Ay t)(st:(AO t).Sm)(p:d4)(w:(AI c).Sm)(h:AH):∃b,MY t p c h=Y b/\(b=X->Dn c/\DM c<=40/\SA p):=by
 obtain ⟨y,z,A⟩:=kf w;obtain⟨B,r,C⟩:=Sa p;obtain⟨D,u⟩:=ny h;unfold MY;rw[z,bs];cases y
 .exact⟨T,rfl,λh=>d!⟩
 rw [r];cases B
 .exact⟨T,rfl,λh=>d!⟩
 rw [u];cases D
 .exact⟨T,rfl,λh=>d!⟩
 have g:=A rfl;have j:=C rfl;simp only[bs,Bool.not_true,A',if_false];rw[mC hf p g.1,bs];have d:∀o:I1,(∃b,o=Y b)->∃b,o=Y b/\(b=X->Dn c/\DM c<=40/\SA p):=λo⟨b,e⟩=>⟨b,e,λ_=>⟨g.1,g.2,j⟩⟩;refine d _ ?_;split
 .exact⟨X,rfl⟩
 .obtain⟨E,F⟩:=mI hf st p.ci h.ci;unfold PP;rw[r,u,F,o8,mB 14 18 g.1 j];simp only[bs,if_true];cases E<;>simp only[A',if_false,if_true,bs,Bool.false_and]
  .exact⟨_,rfl⟩
  .split
   .exact⟨_,rfl⟩
   .exact⟨_,rfl⟩
noncomputable def wS(t:AC)(p:d4)(c:c9)(h:AH)(m:AN)(inj:Bool):BC×Int:=
 if SV t p c h m inj≠0 then(zP,SV t p c h m inj)else Cs t h inj (SizeOf.sizeOf c) c m
theorem lz(hf:Ay t)(p:d4)(e:Dn c)(g:DM c<=40)(h:AH)(m:AN)(inj:Bool):Gv t p c h m inj=Y (wS t p c h m inj):=by
 unfold Gv wS;rw[oc hf p e,bs];refine Do λj=>?_;obtain⟨hv,hh,d,o⟩:=XM hf g j;rw[show G4 (Ba.mk t h inj) c m=Y (Cs t h inj (SizeOf.sizeOf c) c m)from EG (2*SizeOf.sizeOf c) λn hn=>X0 (s:=⟨t,h,inj⟩) hf hv hh _ c p m (aN _) d o n hn];rfl
noncomputable def LY(t:AC)(p:d4)(c:c9)(h:AH)(m:AN)(inj:Bool):Bool×Int:=
 if (wS t p c h m inj).2=10 then(T,0)else(decide ((wS t p c h m inj).2=0),(wS t p c h m inj).2)
theorem eZ(hf:Ay t)(p:d4)(d:Dn c)(e:DM c<=40)(h:AH)(m:AN)(inj:Bool):Fy t p c h m inj=Y (LY t p c h m inj):=by grind[Fy,LY,lz,wS]
variable{h:AH}
theorem o6(hf:Ay t){inj:Bool}{m:AN}(hv:(A8 t).2=0)(hh:KM t h)(d:CV t p c)(e:W4 t p h m):SM t c h m inj=Y (C0 t h inj (SizeOf.sizeOf c) c m):=EG (SizeOf.sizeOf c) λn hn=>So hf hv hh _ c p m (aN _) d e n hn
end Go.Sf.Sc
namespace Go.Sf.Sc
open Go Go.Sf
end Go.Sf.Sc
namespace Go.Sf.Sc
open Go Go.Sf
theorem t6(t:AC)(p:d4)(c:c9)(h:AH)(m:AN)(inj:Bool):wS t p c h m inj=if SV t p c h m inj≠0 then(zP,SV t p c h m inj)else MK (C0 t h inj (SizeOf.sizeOf c) c m):=by
 unfold wS;rw[iO]
end Go.Sf.Sc
