/- Plain lemmas: what the functions of the program and of the reference compute. -/
import Derived.Test.YthcncnllajfkfaaGreatP25
set_option linter.all false
set_option maxRecDepth 100000
open Option renaming some->Y,none->W
open Bool renaming true->X,false->T
open List renaming mem_append->v5,any_eq_false->v6,drop_eq_nil_of_le->v_,drop_eq_getElem_cons->v!,getElem?_eq_getElem->v?,replicate->w_,ext_getElem->w!,replicate_succ'->w?,mem_flatMap->x_,length_singleton->x!,nodup_nil->x?
open Classical renaming not_not->y_
open Bool renaming not_eq_true'->y!,true_and->y?,false_eq_true->z_
open Int renaming toNat_natCast->z!
namespace Go.Sf.Sc
open Go Go.Sf
variable{all:List ke}{k:Int}
theorem Tf(h:N8 all k=0)(d:(AA all k).pc.length<=1000):-1000000<=(AA all k).Low/\(AA all k).z5<=1000000:=by grind[N8]
variable{t:AC}{i:Int}
theorem ir(h:KP t i=0):∀k,((BA t i).length:Int)-(AA t.dl i).po.length<=k->k<(BA t i).length->N8 (BA t i) k=0:=by
 unfold KP at h;dsimp only at h;split at h
 .cases h
 split at h
 .cases h
 split at h
 .cases h
 split at h
 .cases h
 exact U7 h
variable{a:Int}
theorem RG{n:Nat}(d:0<=a):CW t (n+1) a=CW t n (par t a)++(AA t.dl a).po:=by grind[CW]
theorem qF(h:N8 all k=0)(d:(AA all k).pc.length<=1000):(AA all k).Low<=(AA all k).z5:=by grind[N8]
theorem Th(hf:Aq t)(h:Fv t){Q:ke->Prop}(Tf:∀{all:List ke}{k:Int},N8 all k=0->(AA all k).pc.length<=1000->Q (AA all k)):∀(n:Nat)(a:Int),a<t.dl.length->a<n->∀x∈CW t n a,Q x
 |0,_,_,_=>by simp[CW]|n+1,a,ha,B=>by
  by_cases g:a<0
  .rw[K7 g];simp
  .have w:=h.par a U ha;intro x d;rw[RG U]at d;rcases v5.1 d with d|d
   .exact Th hf h Tf n (par t a) U U x d
   .obtain⟨j,z,A,rfl⟩:=BW d;have e:BA t a=CW t a.toNat (par t a)++(AA t.dl a).po:=by
     unfold BA;rw[show(a+1).toNat=a.toNat+1 by omega,RG U]
    have y:(BA t a).length=(CW t a.toNat (par t a)).length+(AA t.dl a).po.length:=by rw[e,az]
    have o:=ir (h.node a U ha) ((CW t a.toNat (par t a)).length+j) U U;have r:AA (BA t a) ((CW t a.toNat (par t a)).length+j)=AA (AA t.dl a).po j:=by
     grind [Od,AA]
    have u:=O4 hf (Int.le_refl _) h.par ha (AA (BA t a) ((CW t a.toNat (par t a)).length+j)) (AI U U);have:=Tf o (by have:=u.names;omega)
    rwa [r]at this
theorem Ti(hf:Aq t)(h:Fv t)(d:0<=a)(ha:a<t.dl.length):∀x∈BA t a,-1000000<=x.Low/\x.z5<=1000000:=Th hf h Tf _ a ha U
theorem aB(hf:Aq t)(h:Fv t)(d:0<=a)(ha:a<t.dl.length):∀x∈BA t a,x.Low<=x.z5:=Th hf h qF _ a ha U
theorem br(d:FT t k):∀(n:Nat)(a b:Int),a<k->a<n->b∈Ko t n a->0<=b/\b<=a/\(BA t b).length<=(CW t n a).length
 |0,_,_,_,_=>by simp[Ko]|n+1,a,b,ha,j=>by
  intro hb;rw[Ko]at hb;split at hb
  .cases hb
  .rename_i e;have g:=d a U ha;rw[RG U];rcases List.mem_cons.1 hb with rfl|hb
   .refine⟨U,U,?_⟩;unfold BA;rw[Oe d (b+1).toNat (n+1) b ha U U,RG U];exact ae _
   .have:=br d n (par t a) b U U hb
    grind
variable{b:Int}
theorem av(h:Fv t)(ha:a<t.dl.length)(hb:HD t a b=X):(BA t b).length<=(BA t a).length:=by
 unfold HD at hb;rw[List.any_eq_true]at hb;obtain⟨x,d,e⟩:=hb;rw[sA]at e;subst e;by_cases g:a<0
 .have:(a+1).toNat=0:=U
  rw [this]at d;cases d
 .exact(br h.par (a+1).toNat a b ha U d).2.2
theorem lO{α:Type}{Q:Prop}[Decidable Q]{v:α}{ζ:Option α}{δ:α}(he:a=b↔Q)(h:Q->ζ=Y δ):(if(!decide (a=b))=X then Y v else ζ)=Y (if¬Q then v else δ):=m?
def SB(t:AC)(k:Int)(v:Fp)(j:Int):Bool:=decide (AA v j<(AA (BA t k) j).Low)||decide ((AA (BA t k) j).z5<AA v j)
def H7(t:AC)(k:Int)(v:Fp):Int:=
 if (t.dl.length:Int)<=k then 6 else if(AA t.dl k).up=X then 13 else if¬v.length=(BA t k).length then 20 else
 if kl (SB t k v) 0 (BA t k).length=X then 6 else 0
def Lh(t:AC)(g:dr)(i:Int):Int:=
 if (t.d3.length:Int)<=(AA g.d3 i).ia then 6 else if Jz t g i=T then 13 else 0
def EH(t:AC)(h:AF):Int×Int:=
 if (A5 t).2≠0 then(-1,(A5 t).2)else if CA h.dr≠0 then(-1,CA h.dr)else if¬h.eb.length=h.dr.dl.length then(-1,20)else
 match fst (λi=>(nz (H7 t (AA h.dr.dl i) (AA h.eb i))).map λe=>(i,e)) 0 h.dr.dl.length with
 |some r=>r|none=>(fst (λi=>(nz (Lh t h.dr i)).map λe=>(i,e)) 0 h.dr.d3.length).getD (-1,0)
theorem Ks(hv:(A5 t).2=0)(d:0<=k)(e:k<t.dl.length):H5 t k=(BA t k,0):=by grind[H5,ND]
theorem V7{x:Bool}{y:Bool}:(if x=X then Y X else Y y)=Y (x||y):=by cases x<;>rfl
theorem vF(hf:Aq t)(hv:(A5 t).2=0)(d:0<=k)(v:Fp):Md t k v=Y (H7 t k v):=by
 unfold Md H7;by_cases e:(t.dl.length:Int)<=k
 .grind
 rw [ac d_,ac e,AD d U,bs];refine de λ_=>?_;rw[TK hf,Ks hv d U,bs];refine lO a_ λg=>?_;rw[BZ (SB t k v) 6]
 .cases kl (SB t k v) 0 (BA t k).length<;>rfl
 grind [BA,AD,V7,SB,AA]
theorem vb(hf:Aq t)(hv:(A5 t).2=0)(d:0<=k)(v:Fp):LJ t k v=Y (H7 t k v):=by
 unfold LJ H7;by_cases e:(t.dl.length:Int)<=k
 .grind
 rw [ac d_,ac e,AD d U,bs];refine de λ_=>?_;rw[TL hf,Ks hv d U,bs];refine lO a_ λg=>?_;rw[BZ (SB t k v) 6]
 .cases kl (SB t k v) 0 (BA t k).length<;>rfl
 grind [BA,AD,V7,SB,AA]
theorem fT(e i:Int):(if(!decide (e=0))=X then Y (B5.ret (σ:=Unit) (ρ:=Int×Int) (i,e))else Y (.next ()))=Y (Sx ((nz e).map λe=>(i,e))):=by grind[nz,Sx]
theorem VS(hf:Aq t)(h:AF):HH t h=Y (EH t h):=by
 unfold HH EH;rw[Ol hf,bs];refine Ds λhv=>?_;rw[NJ,bs];refine Ds λj=>?_;have go:=Df j;refine lO U λy=>?_;rw[Bz (λi=>(nz (H7 t (AA h.dr.dl i) (AA h.eb i))).map λe=>(i,e)),Ee]
 .cases o:fst (λi=>(nz (H7 t (AA h.dr.dl i) (AA h.eb i))).map λe=>(i,e)) 0 h.dr.dl.length with
  |some r=>rfl|none=>
   have u:=BU.1 o;dsimp only;rw[Bz (λi=>(nz (Lh t h.dr i)).map λe=>(i,e)),Ee]
   .grind
   .intro i d i1 _;have w:=go.fit _ (AI (l:=h.dr.d3) d i1);rw[AD d i1,bs];unfold Lh Jz;by_cases g:(t.d3.length:Int)<=(AA h.dr.d3 i).ia
    .rw[a6 h?,a6 g];rfl
    .rw[ac h?,ac g,AD U U,bs,AD U U,bs,oH hf,bs];cases OA t (AA h.dr.d3 i).ia (AA h.dr.dl (AA h.dr.d3 i).hV) (AA h.dr.dl (AA h.dr.d3 i).To)<;>rfl
 .intro i d i1 _;rw[AD d i1,bs,AD d U,bs,vF hf hv (go.kind _ (AI d i1)).1,bs];exact fT _ i
theorem VZ(hf:Aq t)(h:AF):GB t h=Y (EH t h):=by
 unfold GB EH;rw[Rp hf,bs];refine Ds λhv=>?_;rw[Om,bs];refine Ds λj=>?_;have go:=Df j;refine lO U λy=>?_;rw[Bz (λi=>(nz (H7 t (AA h.dr.dl i) (AA h.eb i))).map λe=>(i,e)),Ee]
 .cases o:fst (λi=>(nz (H7 t (AA h.dr.dl i) (AA h.eb i))).map λe=>(i,e)) 0 h.dr.dl.length with
  |some r=>rfl|none=>
   have u:=BU.1 o;dsimp only;rw[Bz (λi=>(nz (Lh t h.dr i)).map λe=>(i,e)),Ee]
   .grind
   .intro i d i1 _;have w:=go.fit _ (AI (l:=h.dr.d3) d i1);rw[AD d i1,bs];unfold Lh Jz;by_cases g:(t.d3.length:Int)<=(AA h.dr.d3 i).ia
    .rw[a6 h?,a6 g];rfl
    .rw[ac h?,ac g,AD U U,bs,AD U U,bs,oc hf,bs];cases OA t (AA h.dr.d3 i).ia (AA h.dr.dl (AA h.dr.d3 i).hV) (AA h.dr.dl (AA h.dr.d3 i).To)<;>rfl
 .intro i d i1 _;rw[AD d i1,bs,AD d U,bs,vb hf hv (go.kind _ (AI d i1)).1,bs];exact fT _ i
structure Im(t:AC)(h:AF):Prop where
 g:Dw h.dr
 len:h.eb.length=h.dr.dl.length
 kind:∀i:Int,0<=i->i<h.dr.dl.length->0<=AA h.dr.dl i/\AA h.dr.dl i<t.dl.length
 row:∀i:Int,0<=i->i<h.dr.dl.length->(AA h.eb i).length=(BA t (AA h.dr.dl i)).length
 low:∀i:Int,0<=i->i<h.dr.dl.length->∀x∈AA h.eb i,-1000000<=x/\x<=1000000
 ge:CA h.dr=0
 ty:DO t h.dr=X
variable{h:AF}
theorem T5(e:(EH t h).2=0):(∀i:Int,0<=i->i<h.dr.dl.length->H7 t (AA h.dr.dl i) (AA h.eb i)=0)/\∀i:Int,0<=i->i<h.dr.d3.length->Lh t h.dr i=0:=by
 unfold EH at e;split at e
 next j=>exact absurd e j
 split at e
 next j=>exact absurd e j
 split at e
 .cases e
 rename_i j w y;have u:∀i:Int,0<=i->i<h.dr.dl.length->H7 t (AA h.dr.dl i) (AA h.eb i)=0:=by
  split at e
  .rename_i r hr;obtain⟨i,_,_,k,_⟩:=CQ hr;unfold nz at k;split at k
   .cases k
   next d=>cases k;exact absurd e d
  next hr=>exact λi g i1=>Lt.1 (OX.1 (BU.1 hr i g i1))
 have he:∀i:Int,0<=i->i<h.dr.d3.length->Lh t h.dr i=0:=by
  have o:fst (λi=>(nz (H7 t (AA h.dr.dl i) (AA h.eb i))).map λe=>(i,e)) 0 h.dr.dl.length=W:=BU.2 λi g i1=>by rw[u i g i1];rfl
  rw [o]at e;dsimp only at e;cases hr:fst (λi=>(nz (Lh t h.dr i)).map λe=>(i,e)) 0 h.dr.d3.length with
  |some r=>
   rw [hr]at e;obtain⟨i,_,_,k,_⟩:=CQ hr;unfold nz at k;split at k
   .cases k
   next d=>cases k;exact absurd e d
  |none=>exact λi g i1=>Lt.1 (OX.1 (BU.1 hr i g i1))
 exact ⟨u,he⟩
theorem Oh(hf:Aq t)(e:(EH t h).2=0):(A5 t).2=0/\Im t h:=by
 obtain ⟨u,he⟩:=T5 e;unfold EH at e;split at e
 next g=>exact absurd e g
 split at e
 next g=>exact absurd e g
 split at e
 .cases e
 rename_i g z C;have hv:=y_.1 g;have go:=Df (y_.1 z);have r:∀i:Int,0<=i->i<h.dr.dl.length->(0<=AA h.dr.dl i/\AA h.dr.dl i<t.dl.length)/\(AA h.eb i).length=(BA t (AA h.dr.dl i)).length/\∀j:Int,0<=j->j<(BA t (AA h.dr.dl i)).length->SB t (AA h.dr.dl i) (AA h.eb i) j=T:=by
  intro i d i1;have F:=(go.kind _ (AI d i1)).1;have:=u i d i1;unfold H7 at this;split at this
  .cases this
  split at this
  .cases this
  split at this
  .cases this
  split at this
  .cases this
  rename_i a1 H D E;exact⟨⟨F,U⟩,y_.1 D,Bw.1 (by simpa using E)⟩
 have y:DO t h.dr=X:=by
  unfold DO;rw[ne,y!,y!,v6,v6];refine⟨λn u=>?_,λx w=>?_⟩
  .obtain⟨i,d,i1,rfl⟩:=BW u;have:=(r i d i1).1.2;simp;omega
  .obtain⟨i,d,i1,rfl⟩:=BW w;have:=he i d i1;unfold Lh at this;split at this
   .cases this
   .simp;omega
 suffices o:∀i:Int,0<=i->i<h.dr.dl.length->∀x∈AA h.eb i,-1000000<=x/\x<=1000000 from⟨hv,go,y_.1 C,λi d i1=>(r i d i1).1,λi d i1=>(r i d i1).2.1,o,y_.1 z,y⟩
 intro i d i1 x w;obtain⟨A,I,G⟩:=r i d i1;obtain⟨j,B,J,rfl⟩:=BW w;have:=G j B U;unfold SB at this;simp[decide_eq_false_iff_not]at this;have:=Ti hf (Cw hv) A.1 A.2 _ (AI (l:=BA t (AA h.dr.dl i)) B U);omega
end Go.Sf.Sc
namespace Go.Sf.Sc
open Go Go.Sf
def KY(t:AC)(p g:dr)(m:d4)(i:Int):QQ:=
 if AA m.dl i<0\/g.dl.length<=AA m.dl i then Y 6 else if HD t (AA g.dl (AA m.dl i)) (AA p.dl i)=T then Y 13 else W
def ON(t:AC)(p g:dr)(m:d4):Int:=
 if m.dl.length≠p.dl.length\/m.d3.length≠p.d3.length then 20 else
 match fst (KY t p g m) 0 m.dl.length with
 |some e=>e|none=>(fst (HZ p g m) 0 m.d3.length).getD 0
def Gn(t:AC)(p g:dr)(m:d4)(inj:Bool):Int:=
 if Et t p g≠0 then Et t p g else if ON t p g m≠0 then ON t p g m else if(inj&&!ME m)=X then 5 else 0
structure Z7(t:AC)(p g:dr)(m:d4):Prop where
 t1:m.dl.length=p.dl.length
 wl:m.d3.length=p.d3.length
 node:∀i:Int,0<=i->i<m.dl.length->(0<=AA m.dl i/\AA m.dl i<g.dl.length)/\HD t (AA g.dl (AA m.dl i)) (AA p.dl i)=X
 edge:∀i:Int,0<=i->i<m.d3.length->0<=AA m.d3 i/\AA m.d3 i<g.d3.length
variable{t:AC}
theorem OV{p g:dr}(h:Et t p g=0):(A5 t).2=0/\Dw p/\Dw g/\(∀n∈p.dl,0<=n/\n<t.dl.length)/\∀n∈g.dl,0<=n/\n<t.dl.length:=by
 unfold Et at h;split at h
 .grind
 split at h
 .grind
 split at h
 .grind
 split at h
 .rename_i e j o d;rw[ne]at d
  grind [Df,Hx]
 .cases h
variable{m:d4}
theorem kU{p g:dr}(h:ON t p g m=0):Z7 t p g m:=by
 unfold ON at h;split at h
 .cases h
 rename_i e;have d:fst (KY t p g m) 0 m.dl.length=W:=by
  grind [CQ,KY]
 rw [d]at h;have he:=SX (λi=>by
  grind [HZ]) h
 refine ⟨U,U,λi i1 i2=>?_,λi i1 i2=>?_⟩
 .grind[BU,KY]
 grind [HZ]
theorem bM(hf:Aq t){p g:dr}(y:Et t p g=0)(m:d4):He t p g m=Y (ON t p g m):=by
 obtain ⟨hv,A,E,tp,B⟩:=OV y;unfold He ON;refine Qj i! λC=>?_;rw[mI hf (Cw hv) hv,bs,Bz (KY t p g m),Ee]
 .cases D:fst (KY t p g m) 0 m.dl.length with
  |some e=>rfl|none=>
   dsimp only;rw[Bz (HZ p g m),C8];intro i i1 i2 _;unfold HZ;rw[AD i1 i2,bs];by_cases d:AA m.d3 i<0\/g.d3.length<=AA m.d3 i
   .rw[a6 c!,a6 d];rfl
   .have hf:=A.fit _ (AI (l:=p.d3) i1 U);rw[ac c!,ac d,AD i1 U,bs,AD U U,bs];by_cases j:(AA p.d3 i).ia=(AA g.d3 (AA m.d3 i)).ia
    .rw[ac f?,ac f?,AD U U,bs];by_cases o:AA m.dl (AA p.d3 i).hV=(AA g.d3 (AA m.d3 i)).hV
     .rw[ac h_,AD U U,bs,bs];by_cases r:AA m.dl (AA p.d3 i).To=(AA g.d3 (AA m.d3 i)).To
      .rw[ac n?,ac (by simp[o,r])];rfl
      .rw[a6 n?,a6 (.inr r)];rfl
     .rw[a6 h_,bs,a6 rfl,a6 (.inl o)];rfl
    .rw[a6 f?,a6 j];rfl
 .intro i i1 i2 _;unfold KY;rw[AD i1 i2,bs];by_cases d:AA m.dl i<0\/g.dl.length<=AA m.dl i
  .rw[a6 c!,a6 d];rfl
  .have u:=tp _ (AI (l:=p.dl) i1 U);have w:=B _ (AI (l:=g.dl) (show 0<=AA m.dl i by omega) U);rw[ac c!,ac d,AD i1 U,bs,AD u.1 (by unfold KI;rw[c9,Au];exact u.2),bs,AD U U,bs];have e:AA (KI t) (AA p.dl i)=Pg t (AA p.dl i):=by unfold KI;exact Il (Pg t) u.1 u.2
   rw [e,AD w.1 (by unfold Pg;rw[c9,Au];exact w.2),bs];have z:AA (Pg t (AA p.dl i)) (AA g.dl (AA m.dl i))=HD t (AA g.dl (AA m.dl i)) (AA p.dl i):=by unfold Pg;exact Il (λk=>HD t k (AA p.dl i)) w.1 w.2
   rw [z];cases HD t (AA g.dl (AA m.dl i)) (AA p.dl i)<;>rfl
variable{l:Fp}
theorem kG(d:l.length<=1000):I1 l=Y (!Jy l):=by grind[I1,Ww,P1,Abo,Jy]
theorem Zt(hf:Aq t)(p g:dr)(m:d4)(inj:Bool):GU t p g m inj=Y (Gn t p g m inj):=by
 unfold GU Gn;rw[WA hf,bs];refine EM λd=>?_;rw[bM hf d,bs];refine EM λo=>?_;obtain⟨_,j,r,_⟩:=OV d;have e:=kU o;have:=j.ea;have:=j.eh;have:=e.t1;have:=e.wl;rw[kG U,kG U];unfold ME;cases inj<;>cases Jy m.dl<;>cases Jy m.d3<;>rfl
theorem vX(l:Fp):Ki l=Y (Jy l):=cy l
theorem ou{p g:dr}(w:Et t p g=0)(m:d4)(inj:Bool):J9 t p g m inj=Y (if ON t p g m≠0 then ON t p g m else if(inj&&!ME m)=X then 5 else 0):=by
 obtain ⟨hv,A,D,tp,B⟩:=OV w;unfold J9 ON;by_cases y:m.dl.length≠p.dl.length\/m.d3.length≠p.d3.length
 .grind
 rw [ac i!,ac y,Bz (KY t p g m),Ee]
 .cases C:fst (KY t p g m) 0 m.dl.length with
  |some e=>
   grind [CQ,KY]
  |none=>
   dsimp only;rw[Bz (HZ p g m),Ee]
   .grind[fst,HZ,CQ,vX,ME,Jy]
   intro i i1 i2 _;unfold HZ;rw[AD i1 i2];simp only[bs,VQ];by_cases d:AA m.d3 i<0\/g.d3.length<=AA m.d3 i
   .rw[a6 c!,a6 d];rfl
   .have hf:=A.fit _ (AI (l:=p.d3) i1 U);rw[ac c!,ac d,AD i1 U,bs,AD U U,bs];by_cases j:(AA p.d3 i).ia=(AA g.d3 (AA m.d3 i)).ia
    .rw[ac f?,ac f?,AD U U,bs];by_cases o:AA m.dl (AA p.d3 i).hV=(AA g.d3 (AA m.d3 i)).hV
     .rw[ac h_,AD U U,bs,bs];by_cases r:AA m.dl (AA p.d3 i).To=(AA g.d3 (AA m.d3 i)).To
      .rw[ac n?,ac (by simp[o,r])];rfl
      .rw[a6 n?,a6 (.inr r)];rfl
     .rw[a6 h_,bs,a6 rfl,a6 (.inl o)];rfl
    .rw[a6 f?,a6 j];rfl
 .intro i i1 i2 _;unfold KY;rw[AD i1 i2];simp only[bs,VQ];by_cases d:AA m.dl i<0\/g.dl.length<=AA m.dl i
  .rw[a6 c!,a6 d];rfl
  .have z:=tp _ (AI (l:=p.dl) i1 U);have u:=B _ (AI (l:=g.dl) (show 0<=AA m.dl i by omega) U);rw[ac c!,ac d,AD U U,bs,AD i1 U,bs,WD (Cw hv) u.1 u.2 z.1,bs];cases HD t (AA g.dl (AA m.dl i)) (AA p.dl i)<;>rfl
theorem Zx(hf:Aq t)(p g:dr)(m:d4)(inj:Bool):HN t p g m inj=Y (Gn t p g m inj):=by
 unfold HN Gn;rw[UL hf,bs];refine EM λd=>?_;rw[ou d,bs]
theorem df{p g:dr}{inj:Bool}(h:Gn t p g m inj=0):Et t p g=0/\Z7 t p g m:=by grind[Gn,kU]
end Go.Sf.Sc
namespace Go.Sf.Sc
open Go Go.Sf
section
variable{α σ ρ:Type}
def Er(step:α->σ->B5 σ ρ):List α->σ->σ ⊕ ρ
 |[],s=>.inl s|a::r,s=>match step a s with
  |.next s'=>Er step r s'|.brk s'=>.inl s'|.ret r=>.inr r
variable{f:Int->σ->Option (B5 σ ρ)}
theorem U5[Inhabited α]{l:List α}(step:α->σ->B5 σ ρ)(I:σ->Prop)(h:∀(i:Int)s,0<=i->i<l.length->I s->f i s=Y (step (AA l i) s)/\∀s',step (AA l i) s=.next s'->I s'):
  ∀(n:Nat)(a:Int)(s:σ),0<=a->a+n=l.length->I s->tn f n a s=Y (Er step (l.drop a.toNat) s)
 |0,a,s,d,o,_=>by
  rw [v_ U];rfl
 |n+1,a,s,d,o,u=>by
  obtain ⟨g,j⟩:=h a s d U u;have hd:l.drop a.toNat=AA l a::l.drop (a+1).toNat:=by
   grind [v!,AA,v?]
  rw [Ek,g,hd,Er];cases e:step (AA l a) s with
  |next s'=>
   simp only;exact U5 step I h n (a+1) s' U U (j s' e)
  |brk s'=>rfl|ret r=>rfl
theorem SW[Inhabited α]{l:List α}(step:α->σ->B5 σ ρ)(I:σ->Prop){s:σ}(d:I s)(h:∀(i:Int)s,0<=i->i<l.length->I s->f i s=Y (step (AA l i) s)/\∀s',step (AA l i) s=.next s'->I s'):
  gt f 0 l.length s=Y (Er step l s):=by
 have:=U5 step I h l.length 0 s U U d;unfold gt;rw[show((l.length:Int)-0).toNat=l.length by omega];exact this
theorem iB[Inhabited α](step:α->σ->B5 σ ρ)(I:σ->Prop):∀(l:List α)(s s':σ),I s->(∀a∈l,∀s s',I s->step a s=.next s'->I s')->(∀a∈l,∀s s',step a s≠.brk s')->Er step l s=.inl s'->I s'
 |[],s,s',h,_,_,e=>by cases e;exact h
 |a::r,s,s',h,d,hb,e=>by
  rw [Er]at e;split at e
  next s2 g=>exact iB step I r s2 s' (d a V s s2 h g) (λa ha=>d a (by simp[ha])) (λa ha=>hb a (by simp[ha])) e
  .grind
  .cases e
end
def DV(x:gl)(l:Fp):Int:=if x.Var<0 then x.Add else Al (AA l x.Var+x.Add)
variable{x:gl}{l:Fp}
theorem VT(h:x.Var<l.length):FA x l=Y (DV x l):=by grind[FA,DV,AD]
theorem bX(h:x.Var<l.length):KB x l=Y (DV x l):=VT h
theorem fZ(d:-1<=x.Var)(h:x.Var<l.length)(e:l.length<=1000):Fw x l=Y (DV x l,0):=by grind[Fw,C5,Ar,VT]
theorem P9(d:-1<=x.Var)(h:x.Var<l.length):FY x l=Y (DV x l,0):=by grind[FY,bX]
def MI(x:Test)(l:Fp):Bool:=(decide (x.jj=1)&&decide (DV x.fu l<=DV x.ec l))||(decide (x.jj=2)&&decide (DV x.fu l=DV x.ec l))
structure JU(n:Int)(x:gl):Prop where
 low:-1<=x.Var
 high:x.Var<n
 add:-1000000<=x.Add/\x.Add<=1000000
def Qz(l:Fp):Prop:=∀x∈l,-2000000<=x/\x<=2000000
variable{n:Int}
theorem UZ(h:JU n x)(d:Qz l)(e:n<=l.length):DV x l=(if x.Var<0 then x.Add else AA l x.Var+x.Add)/\-3000000<=DV x l/\DV x l<=3000000:=by
 unfold DV;have:=h.add;by_cases g:x.Var<0
 .grind
 .have hh:=h.high;have:=d _ (AI (l:=l) (show 0<=x.Var by omega) U)
  grind [Ar]
theorem bW(h:JU n x)(d:n<=l.length):Lv x l=Y (DV x l,X):=by
 have e:=h.low;have g:=h.high
 grind [Lv,DV,AD]
theorem r_holds{x:Test}(e:JU n x.fu)(g:JU n x.ec)(d:n<=l.length):Nv x l=Y (MI x l):=by
 unfold Nv;rw[bW e d,bW g d];rfl
variable{a b:Int}
theorem bz(ha:-4000000<=a/\a<=4000000)(hb:-4000000<=b/\b<=4000000):Hk a b=Y (if a+b<0 then(-1,a+b+18446744073709551616)else(0,a+b)):=by
 have d:∀c:Int,IntKind.u64.wrap c=c % 18446744073709551616:=λc=>by
  simp [IntKind.wrap,IntKind.signed,IntKind.bits]
 have g:∀c:Int,-4000000<=c/\c<=4000000->Nn .i64 .shr c 63=Y (if c<0 then -1 else 0):=by
  intro c r;unfold Nn;have e:c.fdiv (2^ (min (63:Int).toNat (IntKind.bits .i64)))=if c<0 then -1 else 0:=by
   show c.fdiv (2^ 63)=_
   grind
  simp only[e];have:(0:Int)<=63/\IntKind.min .i64<=(if c<0 then -1 else 0)/\(if c<0 then -1 else 0)<=IntKind.max .i64:=by
   split<;>decide
  rw [a6 this]
 unfold Hk Jh;rw[d,d,a6 U,bs,g a ha,g b hb,bs,bs];congr 1;have u:∀c:Int,-10<=c->c<=10->Al c=c:=λc j o=>Ar U U
 grind
def Lf(a:Int):Int×Int:=if a<0 then(-1,a+18446744073709551616)else(0,a)
theorem fk(h:JU n x)(d:Qz l)(o:n<=l.length):Fy x l=Y ((Lf (DV x l)).1,(Lf (DV x l)).2,X):=by
 have r:=h.low;have u:=h.high;have w:=h.add;have g:=(UZ h d o).1;unfold Fy;by_cases j:x.Var=-1
 .have e:DV x l=x.Add:=by rw[g,a6 U]
  rw [e,a6 f?,bz U U,bs,Int.zero_add];rfl
 .have:=d _ (AI (l:=l) (show 0<=x.Var by omega) U);have e:DV x l=AA l x.Var+x.Add:=by rw[g,ac U]
  rw [e,ac f?,ac a_,AD U U,bs,bz U U,bs];rfl
theorem tS(a b:Int):cmp_Compare_int a b=Y (if a<b then -1 else if b<a then 1 else 0):=by
 unfold cmp_Compare_int cmp_isNaN_int
 grind
theorem AA3(a b:Int):JW a b=Y (if a<b then -1 else if b<a then 1 else 0):=tS a b
theorem xI(a b:Int):O6 [a,b]=Y (if a=0 then b else a):=by
 unfold O6;show ei (tn _ 2 0 ()) _ _=_;rw[Ek,show idx [a,b] 0=Y a from rfl,bs]
 grind [ei,tn,Ek,idx]
theorem p_holds{x:Test}(g:JU n x.fu)(j:JU n x.ec)(d:Qz l)(e:n<=l.length):G3 x l=Y (MI x l):=by
 have o:=(UZ g d e).2;have s2:=(UZ j d e).2;unfold G3 MI;rw[fk g d e,fk j d e];simp[tS,AA3,xI];generalize DV x.fu l=a at o;generalize DV x.ec l=b at s2;have key:(if(if(Lf a).1<(Lf b).1 then(-1:Int)else if(Lf b).1<(Lf a).1 then 1 else 0)=0 then(if(Lf a).2<(Lf b).2 then(-1:Int)else if(Lf b).2<(Lf a).2 then 1 else 0)else(if(Lf a).1<(Lf b).1 then(-1:Int)else if(Lf b).1<(Lf a).1 then 1 else 0))=if a<b then -1 else if b<a then 1 else 0:=by
  grind [Lf]
 rw [key];congr 2
 .grind
 grind
end Go.Sf.Sc
namespace Go.Sf.Sc
open Go Go.Sf
structure Uf(t:AC)(q:d7):Prop where
 g:Dw q.dr
 kind:∀n∈q.dr.dl,0<=n/\n<t.dl.length
 vars:0<=q.ey/\q.ey<=12
 few:q.ek.length<=10/\q.j4.length<=10
 slot:∀s∈q.ek,(0<=s.o3/\s.o3<q.dr.dl.length)/\(0<=s.ke/\s.ke<(BA t (AA q.dr.dl s.o3)).length)/\JU q.ey s.gl
 test:∀x∈q.j4,(x.jj=1\/x.jj=2)/\JU q.ey x.fu/\JU q.ey x.ec
 ge:CA q.dr=0
 ty:DO t q.dr=X
variable{n:Int}{x:gl}
theorem tD(h:Pm n x=X):JU n x:=by
 unfold Pm at h;simp[sA]at h;exact⟨h.1.1.1,h.1.1.2,h.1.2,h.2⟩
theorem tE{l:List Test}(h:Lp n l=0):∀x∈l,(x.jj=1\/x.jj=2)/\JU n x.fu/\JU n x.ec:=by
 unfold Lp at h;split at h
 .cases h
 split at h
 .cases h
 have g:=U7 h;intro x d;obtain⟨i,j,i1,rfl⟩:=BW d;have:=g i j i1;unfold Qf at this;split at this
 .cases this
 split at this
 .rename_i o e;rw[ne]at e
  grind [tD]
 .cases this
theorem mz(n:Int)(l:List Test):Lp n l≠9:=by
 unfold Lp;split
 .decide
 split
 .decide
 intro h;cases hr:fst (λi=>nz (Qf n (AA l i))) 0 l.length with
 |none=>rw[hr]at h;cases h
 |some r=>
  grind [CQ,nz,Qf]
variable{t:AC}{q:d7}
theorem rM(hv:(A5 t).2=0)(h:JF t q=0\/JF t q=9):Uf t q:=by
 have w:=YF q.dr;unfold JF at h;rw[ac l?]at h;split at h
 .omega
 rename_i j;have g:=Df (y_.1 j);split at h
 .omega
 rename_i e;split at h
 .omega
 rename_i z;split at h
 .omega
 rename_i A;split at h
 .omega
 rename_i B;split at h
 .grind[mz]
 rename_i u;refine⟨g,(Hx g d_).1,U,U,λs y=>?_,tE (y_.1 u),y_.1 j,d_⟩;have hb:Tj t q s=T:=by
  grind
 unfold Tj at hb;simp[Bool.not_eq_false',decide_eq_false_iff_not]at hb;obtain⟨⟨⟨d,D⟩,E⟩,F,G⟩:=hb;unfold Tg at d;dsimp only at d;split at d
 .cases d
 rename_i C;have r:=(Hx g d_).1 _ (AI (l:=q.dr.dl) (show 0<=s.o3 by omega) U);rw[Ks hv r.1 r.2]at d;split at d
 .cases d
 rename_i o;have o:¬(s.ke<0\/((BA t (AA q.dr.dl s.o3)).length:Int)<=s.ke):=o;exact⟨U,U,U,U,U,U⟩
def OW(h:AF)(m:d4)(s:Cu):Int:=AA (AA h.eb (AA m.dl s.o3)) s.ke
def Qd(h:AF)(m:d4)(s:Cu)(st:Fp×a5):Fp×a5:=
 if 0<=s.gl.Var/\AA st.2 s.gl.Var=T then(BG st.1 s.gl.Var (Al (OW h m s-s.gl.Add)),BG st.2 s.gl.Var X)else st
def Fa{ρ:Type}(r:ρ)(h:AF)(m:d4)(s:Cu)(st:Fp×a5):B5 (Fp×a5) ρ:=
 if DV s.gl (Qd h m s st).1=OW h m s then .next (Qd h m s st)else .ret r
structure VI(n:Int)(st:Fp×a5):Prop where
 l1:(st.1.length:Int)=n
 l2:(st.2.length:Int)=n
 small:Qz st.1
structure KV(n:Int)(h:AF)(m:d4)(s:Cu):Prop where
 node:0<=s.o3/\s.o3<m.dl.length
 val:0<=AA m.dl s.o3/\AA m.dl s.o3<h.eb.length
 Abl:0<=s.ke/\s.ke<(AA h.eb (AA m.dl s.o3)).length
 term:JU n s.gl
 has:-1000000<=OW h m s/\OW h m s<=1000000
variable{h:AF}{m:d4}{s:Cu}
theorem Oq(g:Fv t)(j:Uf t q)(hh:Im t h)(e:Z7 t q.dr h.dr m)(o:s∈q.ek):KV q.ey h m s:=by
 obtain ⟨u,w,y⟩:=j.slot s o;have z:=e.t1;have d:=e.node s.o3 u.1 U;have hr:=hh.row _ d.1.1 d.1.2;have r:=hh.kind _ d.1.1 d.1.2;have hb:=av g r.2 d.2;have hv:=hh.len;refine⟨U,U,U,y,?_⟩;unfold OW;exact hh.low _ d.1.1 d.1.2 _ (AI w.1 U)
theorem KH{α:Type}(l:List α)(i:Int)(a:α):(BG l i a).length=l.length:=by unfold BG;rw[List.length_set]
variable{i:Int}
theorem r7{α:Type}{l:List α}{a x:α}(h:x∈BG l i a):x∈l\/x=a:=List.mem_or_eq_of_mem_set h
variable{st:Fp×a5}
theorem pH(e:KV n h m s)(hi:VI n st):VI n (Qd h m s st):=by
 have g:=e.has;have j:=e.term.add;unfold Qd;split
 .refine⟨by rw[KH];exact hi.l1,by rw[KH];exact hi.l2,λx d=>?_⟩;rcases r7 d with d|rfl
  .exact hi.small x d
  grind [Ar]
 .exact hi
def GY(q:d7)(h:AF)(m:d4):Fp×Int:=
 match Er (Fa (([],11):Fp×Int) h m) q.ek (w_ q.ey.toNat 0,w_ q.ey.toNat T)with
 |.inr r=>r|.inl st=>if kl (λi=>!MI (AA q.j4 i) st.1) 0 q.j4.length=X then([],16)else(st.1,0)
theorem TX(d:0<=n):VI n (w_ n.toNat 0,w_ n.toNat T):=by
 refine ⟨a_,a_,λx e=>?_⟩
 grind
variable{st':Fp×a5}
theorem Qw{ρ:Type}{r:ρ}(d:KV n h m s)(hi:VI n st)(e:Fa r h m s st=.next st'):VI n st':=by grind[Fa,pH]
theorem pI{ρ:Type}{r:ρ}:Fa r h m s st≠.brk st':=by grind[Fa]
theorem QA{ρ:Type}{r:ρ}{l:List Cu}(d:∀s∈l,KV n h m s)(hi:VI n st)(e:Er (Fa r h m) l st=.inl st'):VI n st':=
 iB (Fa r h m) (VI n) l st st' hi (λa ha _ _ g j=>Qw (d a ha) g j) (λ_ _ _ _=>pI) e
theorem Rf{ρ:Type}{r:ρ}(w:KV n h m s)(hi:VI n st){θ:Fp×a5->Option (B5 (Fp×a5) ρ)}
  (j:∀st':Fp×a5,(st'.1.length:Int)=n->θ st'=Y (if DV s.gl st'.1=OW h m s then .next st' else .ret r)):
  ((if(decide (0<=s.gl.Var))=X then((idx st.2 s.gl.Var).bind λo=>Y (!o))else Y T).bind λu=>
   if u=X then(idx st.1 s.gl.Var).bind λ_=>(idx st.2 s.gl.Var).bind λ_=>θ (BG st.1 s.gl.Var (Al (OW h m s-s.gl.Add)),BG st.2 s.gl.Var X)else θ (st.1,st.2))=Y (Fa r h m s st):=by
 have y:=w.term.high;have l1:=hi.l1;have l2:=hi.l2;unfold Fa;by_cases d:0<=s.gl.Var
 .rw[a6 c!,AD d U,bs,bs];by_cases g:AA st.2 s.gl.Var=T
  .rw[a6 o_,AD d U,bs,bs,j _ (by dsimp only;rw[KH];exact l1)];have e:Qd h m s st=(BG st.1 s.gl.Var (Al (OW h m s-s.gl.Add)),BG st.2 s.gl.Var X):=by unfold Qd;rw[a6 ⟨d,g⟩]
   rw [e]
  .rw[ac h?,j _ l1];have e:Qd h m s st=st:=by unfold Qd;rw[ac (λe=>g e.2)]
   rw [e]
 .rw[ac c!,bs,ac a!,j _ l1];have e:Qd h m s st=st:=by unfold Qd;rw[ac (λe=>d e.1)]
  rw [e]
theorem jF{ρ:Type}{r:ρ}(j:KV n h m s)(hi:VI n st){θ:Fp×a5->Option (B5 (Fp×a5) ρ)}
  (o:∀st':Fp×a5,(st'.1.length:Int)=n->θ st'=Y (if DV s.gl st'.1=OW h m s then .next st' else .ret r)):
  ((if(decide (0<=s.gl.Var))=X then((idx st.2 s.gl.Var).bind λd=>Y (!d))else Y T).bind λe=>
   if e=X then(idx st.2 s.gl.Var).bind λ_=>(idx st.1 s.gl.Var).bind λ_=>θ (BG st.1 s.gl.Var (Al (OW h m s-s.gl.Add)),BG st.2 s.gl.Var X)else θ (st.1,st.2))=Y (Fa r h m s st):=by
 rw [<-Rf j hi o];have u:=j.term.high;have l1:=hi.l1;have l2:=hi.l2;by_cases g:0<=s.gl.Var
 .rw[AD g U,AD g U];rfl
 .rw[ac h?];rfl
variable{v:Int}
theorem bi{t:gl}{f:gl->Fp->QQ}(hf:∀l:Fp,(l.length:Int)=n->f t l=Y (DV t l))(st':Fp×a5)(e:(st'.1.length:Int)=n):((f t st'.1).bind λd=>if(!decide (d=v))=X then Y (B5.ret (([],11):Fp×Int))else Y (.next st'))=Y (if DV t st'.1=v then .next st' else .ret ([],11)):=m?
theorem kE(j:Uf t q)(o:∀s∈q.ek,KV q.ey h m s):GK q h m=Y (GY q h m):=by
 have hv:=j.vars;unfold GK GY Hl;rw[a6 U,bs,a6 U,bs];rw[SW (Fa (([],11):Fp×Int) h m) (VI q.ey) (TX hv.1)]
 .cases hr:Er (Fa (([],11):Fp×Int) h m) q.ek (w_ q.ey.toNat 0,w_ q.ey.toNat T)with
  |inr r=>rfl|inl st=>
   have hi:=QA o (TX hv.1) hr;rw[Br,BZ (λi=>!MI (AA q.j4 i) st.1) ([],16)]
   .dsimp only;cases kl (λi=>!MI (AA q.j4 i) st.1) 0 q.j4.length<;>rfl
   .intro i d i1 _;have u:=j.test _ (AI d i1);rw[AD d i1,bs,p_holds u.2.1 u.2.2 hi.small (by have:=hi.l1;omega),bs]
    grind
 .intro i st d i1 hi;have ha:=o _ (AI d i1);refine⟨?_,λs' e=>Qw ha hi e⟩;rw[AD d i1,bs,AD ha.node.1 ha.node.2,bs,AD ha.val.1 ha.val.2,bs,AD ha.Abl.1 ha.Abl.2,bs];exact Rf ha hi (θ:=λst'=>(FA (AA q.ek i).gl st'.1).bind λg=>if(!decide (g=OW h m (AA q.ek i)))=X then Y (B5.ret (([],11):Fp×Int))else Y (.next st')) (bi λl w=>VT p_)
theorem kP(j:Uf t q)(o:∀s∈q.ek,KV q.ey h m s):Iw q h m=Y (GY q h m):=by
 have hv:=j.vars;unfold Iw GY Hl;rw[a6 U,bs,a6 U,bs];rw[SW (Fa (([],11):Fp×Int) h m) (VI q.ey) (TX hv.1)]
 .cases hr:Er (Fa (([],11):Fp×Int) h m) q.ek (w_ q.ey.toNat 0,w_ q.ey.toNat T)with
  |inr r=>rfl|inl st=>
   have hi:=QA o (TX hv.1) hr;rw[Br,BZ (λi=>!MI (AA q.j4 i) st.1) ([],16)]
   .dsimp only;cases kl (λi=>!MI (AA q.j4 i) st.1) 0 q.j4.length<;>rfl
   .intro i d i1 _;have u:=j.test _ (AI d i1);rw[AD d i1,bs,r_holds u.2.1 u.2.2 (by have:=hi.l1;omega),bs]
    grind
 .intro i st d i1 hi;have ha:=o _ (AI d i1);refine⟨?_,λs' e=>Qw ha hi e⟩;rw[AD d i1,bs,AD ha.node.1 ha.node.2,bs,AD ha.val.1 ha.val.2,bs,AD ha.Abl.1 ha.Abl.2,bs];exact jF ha hi (θ:=λst'=>(KB (AA q.ek i).gl st'.1).bind λg=>if(!decide (g=OW h m (AA q.ek i)))=X then Y (B5.ret (([],11):Fp×Int))else Y (.next st')) (bi λl w=>bX p_)
def OF(t:AC)(p:d7)(h:AF):Int:=if JF t p≠0 then JF t p else(EH t h).2
theorem bJ(hf:Aq t)(p:d7)(h:AF):E9 t p h=Y (OF t p h):=by
 unfold E9 OF;rw[Yh hf,bs];refine EM λ_=>?_;rw[VS hf];rfl
theorem bS(hf:Aq t)(p:d7)(h:AF):IW t p h=Y (OF t p h):=by
 unfold IW OF;rw[dA hf,bs];refine EM λ_=>?_;rw[VZ hf];rfl
def Gu(t:AC)(p:d7)(h:AF)(m:d4):Fp×Int:=
 if OF t p h≠0 then([],OF t p h)else if Gn t p.dr h.dr m T≠0 then([],Gn t p.dr h.dr m T)else GY p h m
variable{p:d7}
theorem Qe(hf:Aq t){inj:Bool}(d:OF t p h=0)(e:Gn t p.dr h.dr m inj=0):(A5 t).2=0/\Uf t p/\Im t h/\Z7 t p.dr h.dr m:=by
 unfold OF at d;split at d
 .grind
 rename_i g;obtain⟨hv,hh⟩:=Oh hf d;exact⟨hv,rM hv (.inl (y_.1 g)),hh,(df e).2⟩
theorem jz(hf:Aq t)(p:d7)(h:AF)(m:d4):E8 t p h m=Y (Gu t p h m):=by
 unfold E8 Gu;rw[bJ hf,bs];refine Ds λe=>?_;rw[Zt hf,bs];refine Ds λg=>?_;obtain⟨hv,d,hh,o⟩:=Qe hf e g;rw[kE d (λs j=>Oq (Cw hv) d hh o j)];rfl
theorem vU(hf:Aq t)(p:d7)(h:AF)(m:d4):KA t p h m=Y (Gu t p h m):=by
 unfold KA Gu;rw[bS hf,bs];refine Ds λe=>?_;rw[Zx hf,bs];refine Ds λg=>?_;obtain⟨hv,d,hh,o⟩:=Qe hf e g;rw[kP d (λs j=>Oq (Cw hv) d hh o j)];rfl
theorem pJ(d:Uf t q)(g:∀s∈q.ek,KV q.ey h m s)(e:(GY q h m).2=0):((GY q h m).1.length:Int)=q.ey/\Qz (GY q h m).1:=by
 unfold GY at e|-;cases hr:Er (Fa (([],11):Fp×Int) h m) q.ek (w_ q.ey.toNat 0,w_ q.ey.toNat T)with
 |inr r=>
  rw [hr]at e;have:∀(l:List Cu)(st:Fp×a5)(r:Fp×Int),Er (Fa (([],11):Fp×Int) h m) l st=.inr r->r=([],11):=by
   intro l
   induction l with
   |nil=>intro st r h;cases h
   |cons a l o=>
    grind [Er,Fa]
  grind
 |inl st=>
  rw [hr]at e;have hi:=QA g (TX d.vars.1) hr;dsimp only at e|-;split at e
  .cases e
  next j=>rw[ac j];exact⟨hi.l1,hi.small⟩
end Go.Sf.Sc
namespace Go.Sf.Sc
open Go Go.Sf
variable{i:Int}
theorem Ic{n:Nat}{α:Type}[Inhabited α](F:Int->α)(d:0<=i)(v:α):BG ((At n).map F) i v=(At n).map λj=>if j=i then v else F j:=by
 unfold BG;refine w! V (λk e g=>?_)
 grind [Au,At]
theorem Ci{n:Nat}{α:Type}{F G:Int->α}(h:∀j,0<=j->j<(n:Int)->F j=G j):(At n).map F=(At n).map G:=by grind[List.map_congr_left,Dm]
def H9(n:Nat)(k:Int):a5:=(At n).map λj=>decide (j<k)
theorem YU(n:Nat):H9 n 0=w_ n T:=by
 unfold H9;refine w! (by simp[Au]) (λk d e=>?_)
 grind [At,Au]
theorem bA(n:Nat)(k:Int):(H9 n k).length=n:=by unfold H9;rw[c9,Au]
def OQ(q:d7)(h:AF)(m:d4)(given:Fp):Fp×Bool:=
 match Er (Fa (([],T):Fp×Bool) h m) q.ek (given++w_ (q.ey-given.length).toNat 0,H9 q.ey.toNat given.length)with
 |.inr r=>r|.inl st=>if kl (λi=>!MI (AA q.j4 i) st.1) 0 q.j4.length=X then([],T)else(st.1,X)
variable{n:Int}{given:Fp}
theorem Xa(e:0<=n)(g:given.length<=n)(hv:Qz given):VI n (given++w_ (n-given.length).toNat 0,H9 n.toNat given.length):=by
 refine ⟨a_,by show((H9 n.toNat given.length).length:Int)=n;rw[bA];omega,λx d=>?_⟩;rcases v5.1 d with d|d
 .exact hv x d
 grind
variable{q:d7}{m:d4}{t:AC}
theorem yL{s:Bh}(o:Uf t q)(u:∀x∈q.ek,KV q.ey s.h m x)(z:given.length<=q.ey)(hv:Qz given):ET s q m given=Y (OQ q s.h m given):=by
 have B:=o.vars;unfold ET OQ slices_Clone_int;rw[BT a?,bs,Ar U U];have C:dW given (q.ey-given.length) 0=Y (given++w_ (q.ey-given.length).toNat 0):=by
  grind [dW,AY]
 have D:Hl q.ey T=Y (w_ q.ey.toNat T):=by
  grind [Hl]
 rw [C,bs,D,bs];have E:ls (λ(d:Int)(w:a5)=>(idx w d).bind λA=>Y (BG w d X)) 0 (given.length:Int) (w_ q.ey.toNat T)=Y (H9 q.ey.toNat given.length):=by
  refine Bo (λi=>H9 q.ey.toNat i) U (YU _) (λi d i1=>?_);rw[AD d (by rw[bA];omega),bs];congr 1;unfold H9;rw[Ic _ d]
  grind
 rw [E,bs];have j:=Xa B.1 z hv;rw[SW (Fa (([],T):Fp×Bool) s.h m) (VI q.ey) j]
 .cases hr:Er (Fa (([],T):Fp×Bool) s.h m) q.ek (given++w_ (q.ey-given.length).toNat 0,H9 q.ey.toNat given.length)with
  |inr r=>rfl|inl st=>
   have hi:=QA u j hr;rw[Br,BZ (λi=>!MI (AA q.j4 i) st.1) ([],T)]
   .dsimp only;cases kl (λi=>!MI (AA q.j4 i) st.1) 0 q.j4.length<;>rfl
   .intro i d i1 _;have y:=o.test _ (AI d i1);rw[AD d i1,bs,p_holds y.2.1 y.2.2 hi.small (by have:=hi.l1;omega),bs]
    grind
 .intro i st d i1 hi;have ha:=u _ (AI d i1);refine⟨?_,λs' e=>Qw ha hi e⟩;rw[AD d i1,bs,AD ha.node.1 ha.node.2,bs,AD ha.val.1 ha.val.2,bs,AD ha.Abl.1 ha.Abl.2,bs];refine Rf ha hi (θ:=λst'=>(Fw (AA q.ek i).gl st'.1).bind λg=>if((!decide (g.2=0))||(!decide (g.1=OW s.h m (AA q.ek i))))=X then Y (B5.ret (([],T):Fp×Bool))else Y (.next st')) (λst' F=>?_);rw[fZ ha.term.low p_ U,bs]
  grind
variable{h:AF}
theorem yg(A:Uf t q)(B:∀x∈q.ek,KV q.ey h m x)(G:given.length<=q.ey)(hv:Qz given):Mp q h m given=Y (OQ q h m given):=by
 have E:=A.vars;unfold Mp OQ;have J:Hl q.ey T=Y (w_ q.ey.toNat T):=by
  unfold Hl;rw[a6 U]
 rw [BT a?,bs,J,bs];have F:ls (λ(d:Int)(g:Fp×a5)=>
   (idx g.2 d).bind λH=>
   if (decide ((given.length:Int)<=d))=X then
   (Am g.1 [0]).bind λy=>
   Y (y,BG g.2 d (decide (d<(given.length:Int))))
   else
   Y (g.1,BG g.2 d (decide (d<(given.length:Int))))) 0 q.ey (given,w_ q.ey.toNat T)=Y (given++w_ (q.ey-given.length).toNat 0,(At q.ey.toNat).map λj=>decide (j<q.ey)&&decide (j<(given.length:Int))):=by
  refine Bo (λi=>(given++w_ (i-given.length).toNat 0,(At q.ey.toNat).map λj=>decide (j<i)&&decide (j<(given.length:Int)))) E.1 ?_ (λi d i1=>?_)
  .have K:((0:Int)-given.length).toNat=0:=U
   rw [K];simp;rw[<-YU];unfold H9;refine Ci (λj C D=>?_);rw[show decide (j<0)=T by simp;omega];rfl
  .dsimp only;rw[AD d (by rw[c9,Au];omega),bs];have L:BG ((At q.ey.toNat).map λj=>decide (j<i)&&decide (j<(given.length:Int))) i (decide (i<(given.length:Int)))=(At q.ey.toNat).map λj=>decide (j<i+1)&&decide (j<(given.length:Int)):=by
    rw [Ic _ d];refine Ci (λj C D=>?_);by_cases e:j=i
    .rw[a6 e,e,show decide (i<i+1)=X by simp;omega,y?]
    .rw[ac e];congr 1;rw[decide_eq_decide];omega
   rw [L];by_cases hi:(given.length:Int)<=i
   .rw[a6 o?,AV b_,bs];congr 2;rw[ci,show(i+1-given.length).toNat=(i-given.length).toNat+1 by omega,w?]
   .rw[ac o?];have M:(i+1-given.length).toNat=(i-given.length).toNat:=U
    rw [M]
 have z:((At q.ey.toNat).map λj=>decide (j<q.ey)&&decide (j<(given.length:Int)))=H9 q.ey.toNat given.length:=by
  unfold H9;refine Ci (λj C D=>?_);rw[show decide (j<q.ey)=X by simp;omega,y?]
 rw [z]at F;rw[F,bs];have u:=Xa E.1 G hv;dsimp only;rw[SW (Fa (([],T):Fp×Bool) h m) (VI q.ey) u]
 .cases hr:Er (Fa (([],T):Fp×Bool) h m) q.ek (given++w_ (q.ey-given.length).toNat 0,H9 q.ey.toNat given.length)with
  |inr r=>rfl|inl st=>
   have hi:=QA B u hr;rw[Br,BZ (λi=>!MI (AA q.j4 i) st.1) ([],T)]
   .dsimp only;cases kl (λi=>!MI (AA q.j4 i) st.1) 0 q.j4.length<;>rfl
   .intro i d i1 _;have w:=A.test _ (AI d i1);have I:=hi.l1;rw[AD d i1,bs,P9 w.2.1.low (by have:=w.2.1.high;omega),bs,P9 w.2.2.low (by have:=w.2.2.high;omega),bs,<-JE];unfold MI;dsimp only;congr 1;generalize DV (AA q.j4 i).fu st.1=a;generalize DV (AA q.j4 i).ec st.1=b;rcases w.1 with e|e
    .rw[e,eq_iff_iff];simp
    .rw[e,eq_iff_iff];simp
 .intro i st d i1 hi;have ha:=B _ (AI d i1);refine⟨?_,λs' e=>Qw ha hi e⟩;rw[AD d i1,bs,AD ha.node.1 ha.node.2,bs,AD ha.val.1 ha.val.2,bs,AD ha.Abl.1 ha.Abl.2,bs];refine Rf ha hi (θ:=λst'=>(FY (AA q.ek i).gl st'.1).bind λo=>if(!decide (o.1=OW h m (AA q.ek i)))=X then Y (B5.ret (([],T):Fp×Bool))else Y (.next st')) (λst' I=>?_);rw[P9 ha.term.low p_,bs];by_cases e:DV (AA q.ek i).gl st'.1=OW h m (AA q.ek i)
  .rw[ac b?,a6 e]
  .rw[a6 b?,ac e]
theorem tI(g:Uf t q)(j:∀s∈q.ek,KV q.ey h m s)(o:given.length<=q.ey)(hv:Qz given)(e:(OQ q h m given).2=X):((OQ q h m given).1.length:Int)=q.ey/\Qz (OQ q h m given).1:=by
 unfold OQ at e|-;have d:=Xa g.vars.1 o hv;cases hr:Er (Fa (([],T):Fp×Bool) h m) q.ek (given++w_ (q.ey-given.length).toNat 0,H9 q.ey.toNat given.length)with
 |inr r=>
  rw [hr]at e;have:∀(l:List Cu)(st:Fp×a5)(r:Fp×Bool),Er (Fa (([],T):Fp×Bool) h m) l st=.inr r->r=([],T):=by
   intro l
   induction l with
   |nil=>intro st r h;cases h
   |cons a l w=>
    grind [Er,Fa]
  grind
 |inl st=>
  rw [hr]at e;have hi:=QA j d hr;dsimp only at e|-;split at e
  .cases e
  next u=>rw[ac u];exact⟨hi.l1,hi.small⟩
def VV(n:Nat)(by' fd:Fp):Fp:=(At by'.length).foldl (λl i=>BG l (AA by' i) (AA fd i)) (w_ n (-1))
theorem aY(d fd:Fp):∀(e:Fp)(l:Fp),(e.foldl (λl i=>BG l (AA d i) (AA fd i)) l).length=l.length
 |[],l=>rfl|k::e,l=>by rw[List.foldl_cons,aY d fd e,KH]
theorem Yn{n:Nat}{d fd:Fp}(hb:∀x∈d,0<=x/\x<n)(w:d.length<=fd.length):ls (λ(g:Int)(o:Fp)=>
  (idx d g).bind λe=>
  (idx fd g).bind λj=>
  (idx o e).bind λr=>
  Y (BG o e j)) 0 (d.length:Int) (w_ n (-1))=Y (VV n d fd):=by
 have h:=Bo (f:=λ(g:Int)(o:Fp)=>
  (idx d g).bind λe=>
  (idx fd g).bind λj=>
  (idx o e).bind λr=>
  Y (BG o e j)) (λi=>(At i.toNat).foldl (λl i=>BG l (AA d i) (AA fd i)) (w_ n (-1))) (a:=0) (b:=d.length) (s:=w_ n (-1)) U rfl (λi g i1=>by
   have u:=hb _ (AI g i1);rw[AD g i1,bs,AD g U,bs,AD u.1 (by rw[aY];simpa using u.2),bs,HU g,List.foldl_append];rfl)
 rw [h,z!];rfl
theorem fz{n:Nat}{d fd:Fp}(g:n<=1000)(hb:∀x∈d,0<=x/\x<n)(e:d.length<=fd.length):G0 n d fd=Y (VV n d fd):=by
 unfold G0 DC;rw[a6 ⟨rfl,U,U⟩,bs];show(ls _ 0 _ (w_ (n:Int).toNat (-1))).bind _=_;rw[z!,Yn hb e];rfl
theorem gQ{n:Nat}{d fd:Fp}(g:n<=1000)(hb:∀x∈d,0<=x/\x<n)(e:d.length<=fd.length):Kk n d fd=Y (VV n d fd):=by
 unfold Kk;rw[Bo (a:=0) (b:=n) (s:=[]) (λi=>w_ i.toNat (-1)) U rfl,bs,z!,Yn hb e]
 .rfl
 .intro i j i1;rw[AV b_,bs,show(i+1).toNat=i.toNat+1 by omega,w?]
end Go.Sf.Sc
namespace Go.Sf.Sc
open Go Go.Sf
structure tL(f:AM):Prop where
 nl:f.ea.length<=f.p.dl.length
 node:∀i:Int,0<=i->i<f.ea.length->(0<=AA f.ea i/\AA f.ea i<f.g.dl.length)/\AA (AA f.is (AA f.p.dl i)) (AA f.g.dl (AA f.ea i))=X
 edge:∀i:Int,0<=i->i<f.eh.length->(0<=AA f.eh i/\AA f.eh i<f.g.d3.length)/\AA f.g.d3 (AA f.eh i)=⟨(AA f.p.d3 i).ia,AA f.ea (AA f.p.d3 i).hV,AA f.ea (AA f.p.d3 i).To⟩
 inj:f.en=X->f.ea.Nodup/\f.eh.Nodup
structure k9(f:AM)(m:d4):Prop where
 nl:m.dl.length=f.p.dl.length
 el:m.d3.length=f.p.d3.length
 node:∀i:Int,0<=i->i<m.dl.length->(0<=AA m.dl i/\AA m.dl i<f.g.dl.length)/\AA (AA f.is (AA f.p.dl i)) (AA f.g.dl (AA m.dl i))=X
 edge:∀i:Int,0<=i->i<m.d3.length->(0<=AA m.d3 i/\AA m.d3 i<f.g.d3.length)/\AA f.g.d3 (AA m.d3 i)=⟨(AA f.p.d3 i).ia,AA m.dl (AA f.p.d3 i).hV,AA m.dl (AA f.p.d3 i).To⟩
 inj:f.en=X->m.dl.Nodup/\m.d3.Nodup
variable{i:Int}
theorem jN{α:Type}[Inhabited α](l:List α)(x:α)(h:i=l.length):AA (l++[x]) i=x:=by grind[Od]
variable{l:Fp}{k:Int}
theorem Ya{b:Bool}(h:(!(b&&l.any λx=>decide (k=x)))=X)(hb:b=X)(d:l.Nodup):(l++[k]).Nodup:=m?
theorem Z8:∀(n:Nat)(f:AM),tL f->f.ea.length=f.p.dl.length->f.eh.length+n=f.p.d3.length->∀m∈EK n f,k9 f m
 |0,f,j,y,he,m,d=>by
  rw [EK,List.mem_singleton]at d;subst d;exact⟨y,by simpa using he,j.node,j.edge,j.inj⟩
 |n+1,f,j,y,he,m,d=>by
  rw [EK,x_]at d;obtain⟨k,u,d⟩:=d;have u:=Dm.1 u;split at d
  .rename_i o;unfold R8 at o;rw[ne]at o;obtain⟨r,w⟩:=o;rw[XW,ne,sA]at r;have:=Z8 n {f with eh:=f.eh++[k]} ⟨j.nl,j.node,λi z i1=>by
    have i1:i<((f.eh++[k]).length:Int):=i1;simp at i1;show(0<=AA (f.eh++[k]) i/\AA (f.eh++[k]) i<f.g.d3.length)/\AA f.g.d3 (AA (f.eh++[k]) i)=⟨(AA f.p.d3 i).ia,AA f.ea (AA f.p.d3 i).hV,AA f.ea (AA f.p.d3 i).To⟩;by_cases e:i=f.eh.length
    .rw[jN _ _ e];exact⟨u,by rw[e];exact r.2⟩
    .rw[Xq _ _ z U];exact j.edge i z U,λhi=>⟨(j.inj hi).1,Ya w hi (j.inj hi).2⟩⟩ y (by show(f.eh++[k]).length+n=f.p.d3.length;rw[az,x!];omega) m d
   exact ⟨this.nl,this.el,this.node,this.edge,this.inj⟩
  .cases d
theorem Z9:∀(n:Nat)(f:AM),tL f->f.eh=[]->f.ea.length+n=f.p.dl.length->∀m∈Fd n f,k9 f m
 |0,f,o,he,z,m,j=>by
  grind [Fd,Z8]
 |n+1,f,o,he,z,m,j=>by
  rw [Fd,x_]at j;obtain⟨k,u,j⟩:=j;have u:=Dm.1 u;split at j
  .rename_i d;unfold R9 at d;rw[ne,ne]at d;obtain⟨⟨_,w⟩,y⟩:=d;have:=Z9 n {f with ea:=f.ea++[k]} ⟨by show(f.ea++[k]).length<=f.p.dl.length;rw[az,x!];omega,λi r i1=>by
    have i1:i<((f.ea++[k]).length:Int):=i1;simp at i1;show(0<=AA (f.ea++[k]) i/\AA (f.ea++[k]) i<f.g.dl.length)/\AA (AA f.is (AA f.p.dl i)) (AA f.g.dl (AA (f.ea++[k]) i))=X;by_cases e:i=f.ea.length
    .rw[jN _ _ e];exact⟨u,by rw[e];exact w⟩
    .rw[Xq _ _ r U];exact o.node i r U,λi r i1=>by
    have i1:i<(f.eh.length:Int):=i1;rw[he]at i1;have:i<(0:Nat):=i1;omega,λhi=>⟨Ya y hi (o.inj hi).1,(o.inj hi).2⟩⟩ he (by show(f.ea++[k]).length+n=f.p.dl.length;rw[az,x!];omega) m j
   exact ⟨this.nl,this.el,this.node,this.edge,this.inj⟩
  .cases j
variable{t:AC}{m:d4}
theorem YA{p g:dr}{pa:d4}{inj:Bool}(d:m∈Ja t p g pa inj):k9 (FF t p g pa inj) m:=
 Z9 _ (FF t p g pa inj) ⟨Nat.zero_le _,λi e i1=>by have i1:i<(0:Nat):=i1;omega,λi e i1=>by have i1:i<(0:Nat):=i1;omega,λ_=>⟨x?,x?⟩⟩ rfl p! m (List.mem_of_mem_take d)
theorem eJ{p g:dr}{pa:d4}{inj:Bool}(h:Et t p g=0)(r:m∈Ja t p g pa inj):Z7 t p g m:=by
 obtain ⟨hv,z,A,tp,u⟩:=OV h;have:=YA r;refine⟨this.nl,this.el,λi d i1=>?_,λi d i1=>(this.edge i d i1).1⟩;obtain⟨e,o⟩:=this.node i d i1;refine⟨e,?_⟩;have j:=this.nl;have w:=tp _ (AI (l:=p.dl) d (by show i<(p.dl.length:Int);have j:m.dl.length=p.dl.length:=j;omega));have y:=u _ (AI (l:=g.dl) e.1 e.2);have o:AA (AA (KI t) (AA p.dl i)) (AA g.dl (AA m.dl i))=X:=o
 grind [AA,KI,Pg,Il,HD]
theorem nm{p g:dr}{pa:d4}{inj:Bool}(h:Et t p g=0)(o:m∈Ja t p g pa inj):Gn t p g m inj=0:=by
 have ok:=eJ h o;have r:=YA o;have u:ON t p g m=0:=by
  unfold ON;rw[ac (by have:=ok.t1;have:=ok.wl;omega)];have w:fst (KY t p g m) 0 m.dl.length=W:=by
   rw [BU];intro i d i1;obtain⟨e,j⟩:=ok.node i d i1
   grind [KY]
  have y:fst (HZ p g m) 0 m.d3.length=W:=by
   rw [BU];intro i d i1;obtain⟨e,j⟩:=r.edge i d i1;have e:0<=AA m.d3 i/\AA m.d3 i<g.d3.length:=e;have j:AA g.d3 (AA m.d3 i)=⟨(AA p.d3 i).ia,AA m.dl (AA p.d3 i).hV,AA m.dl (AA p.d3 i).To⟩:=j
   grind [HZ]
  rw [w,y];rfl
 unfold Gn;rw[ac k?,ac l_];cases inj
 .rfl
 .have:=r.inj rfl
  grind [ME,P1]
theorem dt{p g:dr}{pa:d4}{inj:Bool}(h:(Tr t p g pa inj).2=0):(Tr t p g pa inj).1.length<=5000/\∀m∈(Tr t p g pa inj).1,Z7 t p g m:=by grind[Tr,eJ]
structure Xf(t:AC)(p:d7)(h:AF)(x:AP):Prop where
 q:Uf t p
 m:Z7 t p.dr h.dr x.d4
 len:(x.ey.length:Int)=p.ey
 small:Qz x.ey
structure nE(t:AC)(p:d7)(c:d5):Prop where
 q:Uf t c.d7
 vars:p.ey<=c.d7.ey
 map:cY p.dr c.d7.dr c.Map
 inj:ME c.Map=X
def EG(t:AC)(c:d5)(h:AF)(m:AP)(inj:Bool):List AP×Int:=
 let x:=Tr t c.d7.dr h.dr ⟨VV c.d7.dr.dl.length c.Map.dl m.d4.dl,VV c.d7.dr.d3.length c.Map.d3 m.d4.d3⟩ inj
 if x.2≠0 then([],x.2)else((x.1.filter λy=>(OQ c.d7 h y m.ey).2).map λy=>⟨y,(OQ c.d7 h y m.ey).1⟩,0)
instance:Inhabited d4:=⟨⟨[],[]⟩⟩
instance:Inhabited AP:=⟨⟨default,[]⟩⟩
instance:Inhabited BF:=⟨⟨0,default,[]⟩⟩
theorem QL{x:List d4}{F:d4->Fp×Bool}{f:Int->List AP->Option (List AP)}(j:x.length<=5000)
  (hf:∀(i:Int)(s:List AP),0<=i->i<x.length->s.length<=5000->f i s=Y (if(F (AA x i)).2=X then s++[⟨AA x i,(F (AA x i)).1⟩]else s)):
  ls f 0 (x.length:Int) []=Y ((x.filter λy=>(F y).2).map λy=>⟨y,(F y).1⟩):=by
 rw [Bo (a:=0) (b:=x.length) (s:=[]) (λi=>((x.take i.toNat).filter λy=>(F y).2).map λy=>(⟨y,(F y).1⟩:AP)) U rfl,z!,List.take_length];intro i d i1;have e:(((x.take i.toNat).filter λy=>(F y).2).map λy=>(⟨y,(F y).1⟩:AP)).length<=5000:=by
  grind
 rw [hf i _ d i1 e,BJ d i1,List.filter_append,List.map_append];cases g:(F (AA x i)).2<;>simp[g]
variable{p:d7}{c:d5}
theorem xz{s:Bh}{m:AP}(hf:Aq s.t)(hv:(A5 s.t).2=0)(hh:Im s.t s.h)(ha:Xf s.t p s.h m)(hi:nE s.t p c):Cc s c m=Y (EG s.t c s.h m s.en):=by
 have A:=hi.q.g.ea;have ge:=hi.q.g.eh;have m1:=hi.map.t1;have B:=hi.map.wl;have C:=ha.m.t1;have D:=ha.m.wl;unfold Cc EG;rw[fz U (λx e=>by obtain⟨i,d,i1,rfl⟩:=BW e;exact(hi.map.node i d i1).1) U,bs,
  fz U (λx e=>by obtain⟨i,d,i1,rfl⟩:=BW e;exact(hi.map.edge i d i1).1) U,bs,rC hf,bs]
 dsimp only;refine Ds λj=>?_;obtain⟨u,w⟩:=dt j;rw[QL (F:=λy=>OQ c.d7 s.h y m.ey) u]
 .rfl
 .intro i st d i1 z;have o:=w _ (AI d i1);have r:(m.ey.length:Int)<=c.d7.ey:=r!
  rw [AD d i1,bs,yL hi.q (λx e=>Oq (Cw hv) hi.q hh o e) r ha.small,bs,<-JE]
  grind [AV,AY]
variable{h:AF}
theorem yT{inj:Bool}{m:AP}(hf:Aq t)(hv:(A5 t).2=0)(hh:Im t h)(ha:Xf t p h m)(hi:nE t p c):Ft t c h m inj=Y (EG t c h m inj):=by
 have A:=hi.q.g.ea;have ge:=hi.q.g.eh;have m1:=hi.map.t1;have B:=hi.map.wl;have C:=ha.m.t1;have D:=ha.m.wl;unfold Ft EG;rw[gQ U (λx e=>by obtain⟨i,d,i1,rfl⟩:=BW e;exact(hi.map.node i d i1).1) U,bs,
  gQ U (λx e=>by obtain⟨i,d,i1,rfl⟩:=BW e;exact(hi.map.edge i d i1).1) U,bs,rN hf,bs]
 dsimp only;refine Ds λj=>?_;obtain⟨u,w⟩:=dt j;rw[QL (F:=λy=>OQ c.d7 h y m.ey) u]
 .rfl
 .intro i st d i1 z;have o:=w _ (AI d i1);have r:(m.ey.length:Int)<=c.d7.ey:=r!
  rw [AD d i1,bs,yg hi.q (λx e=>Oq (Cw hv) hi.q hh o e) r ha.small,bs,<-JE]
  grind [AV,AY]
theorem je{inj:Bool}{m:AP}(hv:(A5 t).2=0)(hh:Im t h)(ha:Xf t p h m)(hi:nE t p c)(e:(EG t c h m inj).2=0):(EG t c h m inj).1.length<=5000/\∀x∈(EG t c h m inj).1,Xf t c.d7 h x:=by
 unfold EG at e|-;dsimp only at e|-;split at e
 .grind
 rename_i j;rw[ac j];obtain⟨u,w⟩:=dt (y_.1 j);refine⟨by dsimp only;rw[c9];exact Nat.le_trans (List.length_filter_le _ _) u,λx d=>?_⟩;dsimp only at d;rw[List.mem_map]at d;obtain⟨y,g,rfl⟩:=d;rw[List.mem_filter]at g;have o:=w y g.1;have r:(m.ey.length:Int)<=c.d7.ey:=r!
 have:=tI hi.q (λx d=>Oq (Cw hv) hi.q hh o d) r ha.small g.2;exact⟨hi.q,o,this.1,this.2⟩
end Go.Sf.Sc
namespace Go.Sf.Sc
open Go Go.Sf
inductive CV(t:AC):d7->d5->Prop where
 |mk (p:d7) (c:d5) (few:c.em.length<=40) (rng:1<=c.jj/\c.jj<=5) (one:c.jj=2\/c.jj=5->c.em.length=1) (ins:c.jj=5->nE t p c) (kids:∀k∈c.em,CV t (if c.jj=5 then c.d7 else p) k):CV t p c
variable{t:AC}{p:d7}{c:d5}
theorem CV.few(h:CV t p c):c.em.length<=40:=j_
theorem CV.rng(h:CV t p c):1<=c.jj/\c.jj<=5:=j_
theorem CV.one(h:CV t p c):c.jj=2\/c.jj=5->c.em.length=1:=j_
theorem CV.ins(h:CV t p c):c.jj=5->nE t p c:=j_
theorem CV.kids(h:CV t p c):∀k∈c.em,CV t (if c.jj=5 then c.d7 else p) k:=j_
theorem CV.kid(h:CV t p c)(d:¬c.jj=5):∀k∈c.em,CV t p k:=λk e=>by have:=h.kids k e;rwa[ac d]at this
theorem CV.kid5(h:CV t p c)(d:c.jj=5):∀k∈c.em,CV t c.d7 k:=λk e=>by have:=h.kids k e;rwa[a6 d]at this
theorem Uy:∀l:List d5,l.length<=Sz l
 |[]=>by simp|c::l=>by
  have:=Uy l
  grind [Sz,De,Uz,cE]
variable{q:d7}{v:Int}
theorem AA8(hv:(A5 t).2=0)(h:VC t q v=0):Uf t q:=by grind[VC,rM]
theorem tT(hv:(A5 t).2=0):∀(N:Nat)(c:d5)(p:d7),SizeOf.sizeOf c<=N->De c<=40->TZ N c=X->MP N t p c=0->CV t p c
 |0,c,_,h,_,_,_=>by have:=D8 c;omega|N+1,c,p,h,L,z,ho=>by
  have E:=Uz c;have F:=Uy c.em;rw[TZ,ne]at z;obtain⟨u,o⟩:=z;have d:c.jj=2\/c.jj=5->c.em.length=1:=by
   intro j;unfold T3 at u
   grind
  have g:1<=c.jj/\c.jj<=5:=by
   grind [T3]
  have w:∀q,(fst (λi=>nz (MP N t q (AA c.em i))) 0 c.em.length).getD 0=0->∀k∈c.em,CV t q k:=by
   intro q A k j;have G:=U7 A;have J:=Wt j;have K:=E5 j;rw[List.all_eq_true]at o;obtain⟨i,H,i1,e⟩:=BW j;have y:=G i H i1;rw[e]at y;exact tT hv N k q U U (o k j) y
  rw [MP]at ho;by_cases r:c.jj=5
  .rw[a6 r]at ho;split at ho
   .cases ho
   rename_i I;split at ho
   .grind
   rename_i B;split at ho
   .grind
   rename_i C;split at ho
   .cases ho
   rename_i D;refine CV.mk p c U g d (λ_=>⟨AA8 hv (y_.1 B),U,V1 (y_.1 C),by simpa using D⟩) ?_
   grind
  .rw[ac r]at ho;refine CV.mk p c U g d (λe=>absurd e r) ?_
   grind
section
variable{α σ ρ:Type}
variable{f:Int->σ->Option (B5 σ ρ)}
theorem Uj[Inhabited α]{l:List α}(step:α->σ->B5 σ ρ)(I:Int->σ->Prop)(h:∀(i:Int)s,0<=i->i<l.length->I i s->f i s=Y (step (AA l i) s)/\∀s',step (AA l i) s=.next s'->I (i+1) s'):
  ∀(n:Nat)(a:Int)(s:σ),0<=a->a+n=l.length->I a s->tn f n a s=Y (Er step (l.drop a.toNat) s)
 |0,a,s,d,o,_=>by
  rw [v_ U];rfl
 |n+1,a,s,d,o,u=>by
  obtain ⟨g,j⟩:=h a s d U u;have hd:l.drop a.toNat=AA l a::l.drop (a+1).toNat:=by
   grind [v!,AA,v?]
  rw [Ek,g,hd,Er];cases e:step (AA l a) s with
  |next s'=>
   simp only;exact Uj step I h n (a+1) s' U U (j s' e)
  |brk s'=>rfl|ret r=>rfl
theorem X8[Inhabited α]{l:List α}(step:α->σ->B5 σ ρ)(I:Int->σ->Prop){s:σ}(d:I 0 s)(h:∀(i:Int)s,0<=i->i<l.length->I i s->f i s=Y (step (AA l i) s)/\∀s',step (AA l i) s=.next s'->I (i+1) s'):
  gt f 0 l.length s=Y (Er step l s):=by
 have:=Uj step I h l.length 0 s U U d;unfold gt;rw[show((l.length:Int)-0).toNat=l.length by omega];exact this
theorem Yy{d s2:α->σ->B5 σ ρ}:∀{l:List α}{s:σ},(∀a∈l,d a=s2 a)->Er d l s=Er s2 l s
 |[],_,_=>rfl|a::l,s,h=>by
  rw [Er,Er,h a V];split
  .exact Yy λb hb=>h b (by simp[hb])
  .rfl
  .rfl
end
abbrev zM:AP:=⟨⟨[],[]⟩,[]⟩
abbrev zP:BF:=⟨0,zM,[]⟩
def O2(w:d5->BF×Int)(k:d5)(s:BF×BF):B5 (BF×BF) (BF×Int):=
 if (w k).2≠0 then .ret (zP,(w k).2)else .next (s.1,⟨s.2.Aah,s.2.j0,s.2.em++[(w k).1]⟩)
def Us(w:d5->BF×Int)(l:List d5):BF×Int:=
 match Er (O2 w) l (zP,zP)with
 |.inl s=>(s.2,0)|.inr r=>r
def DH(t:AC)(h:AF)(inj:Bool):Nat->d5->AP->BF×Int
 |0,_,_=>(zP,0)|N+1,c,m=>
  if c.jj=2 then(if(DH t h inj N (AA c.em 0) m).2=0 then(zP,10)else if(DH t h inj N (AA c.em 0) m).2=10 then(zP,0)else(zP,(DH t h inj N (AA c.em 0) m).2))else
  if c.jj=3 then Us (λk=>DH t h inj N k m) c.em else
  if c.jj=4 then(fst (λi=>if(DH t h inj N (AA c.em i) m).2=0 then Y (⟨i,zM,[(DH t h inj N (AA c.em i) m).1]⟩,0)else if(DH t h inj N (AA c.em i) m).2≠10 then Y (zP,(DH t h inj N (AA c.em i) m).2)else W) 0 c.em.length).getD (zP,10)else
  if c.jj=5 then
   (if(EG t c h m inj).2≠0 then(zP,(EG t c h m inj).2)else
   (fst (λi=>if(DH t h inj N (AA c.em 0) (AA (EG t c h m inj).1 i)).2=0 then Y (⟨0,AA (EG t c h m inj).1 i,[(DH t h inj N (AA c.em 0) (AA (EG t c h m inj).1 i)).1]⟩,0)else
    if (DH t h inj N (AA c.em 0) (AA (EG t c h m inj).1 i)).2≠10 then Y (zP,(DH t h inj N (AA c.em 0) (AA (EG t c h m inj).1 i)).2)else W) 0 (EG t c h m inj).1.length).getD (zP,10))else
  (zP,0)
def DG(t:AC)(h:AF)(inj:Bool):Nat->d5->AP->BF×Int
 |0,_,_=>(zP,0)|N+1,c,m=>
  if c.jj=2 then(if(DG t h inj N (AA c.em 0) m).2=0 then(zP,10)else if(DG t h inj N (AA c.em 0) m).2=10 then(zP,0)else(zP,(DG t h inj N (AA c.em 0) m).2))else
  if c.jj=3 then Us (λk=>DG t h inj N k m) c.em else
  if c.jj=4 then(fst (λi=>if(DG t h inj N (AA c.em i) m).2≠10 then Y (⟨i,zM,[(DG t h inj N (AA c.em i) m).1]⟩,(DG t h inj N (AA c.em i) m).2)else W) 0 c.em.length).getD (zP,10)else
  if c.jj=5 then
   (if(EG t c h m inj).2≠0 then(zP,(EG t c h m inj).2)else
   (fst (λi=>if(DG t h inj N (AA c.em 0) (AA (EG t c h m inj).1 i)).2≠10 then Y (⟨0,AA (EG t c h m inj).1 i,[(DG t h inj N (AA c.em 0) (AA (EG t c h m inj).1 i)).1]⟩,(DG t h inj N (AA c.em 0) (AA (EG t c h m inj).1 i)).2)else W) 0 (EG t c h m inj).1.length).getD (zP,10))else
  (zP,0)
def Ni(x:BF×Int):BF×Int:=if x.2=0 then x else(zP,x.2)
theorem oD(x:BF×Int):(Ni x).2=x.2:=by unfold Ni;split<;>rfl
theorem oC{x:BF×Int}(h:x.2=0):(Ni x).1=x.1:=by unfold Ni;rw[a6 h]
theorem qC(w:d5->BF×Int)(l:List d5):Ni (Us w l)=Us w l:=by
 unfold Us;have:∀(l:List d5)(s:BF×BF)(r:BF×Int),Er (O2 w) l s=.inr r->Ni r=r:=by
  intro l
  induction l with
  |nil=>intro s r h;cases h
  |cons a l g=>
   intro s r h;rw[Er]at h;split at h
   .exact g _ _ h
   .cases h
   .rename_i j d;cases h;unfold O2 at d;split at d
    next e=>cases d;unfold Ni;rw[ac e]
    .cases d
 cases hr:Er (O2 w) l (zP,zP)with
 |inl s=>rfl|inr r=>exact this _ _ _ hr
theorem ai(o:Option (BF×Int)):Ni (o.getD (zP,10))=(o.map Ni).getD (zP,10):=by cases o<;>rfl
theorem kw(t:AC)(h:AF)(inj:Bool):∀(N:Nat)(c:d5)(m:AP),DH t h inj N c m=Ni (DG t h inj N c m)
 |0,_,_=>rfl|N+1,c,m=>by
  have w:=kw t h inj N;have key:∀(c:d5)(m:AP),(DH t h inj N c m).2=(DG t h inj N c m).2:=λc m=>by rw[w,oD]
  have pick:∀(k:d5)(m x:AP)(i:Int),(if(DH t h inj N k m).2=0 then Y ((⟨i,x,[(DH t h inj N k m).1]⟩:BF),(0:Int))else if(DH t h inj N k m).2≠10 then Y (zP,(DH t h inj N k m).2)else W)=(if(DG t h inj N k m).2≠10 then Y ((⟨i,x,[(DG t h inj N k m).1]⟩:BF),(DG t h inj N k m).2)else W).map Ni:=by
   intro k m x i;rw[key];by_cases d:(DG t h inj N k m).2=0
   .rw[a6 d,a6 U,w,oC d];simp[Ni,d]
   .rw[ac d];by_cases e:(DG t h inj N k m).2≠10
    .rw[a6 e,a6 e];simp[Ni,d]
    grind
  rw [DH,DG];by_cases j:c.jj=2
  .rw[a6 j,a6 j,key];by_cases d:(DG t h inj N (AA c.em 0) m).2=0
   .rw[a6 d];rfl
   .rw[ac d];by_cases e:(DG t h inj N (AA c.em 0) m).2=10
    .rw[a6 e];rfl
    .rw[ac e];unfold Ni;rw[ac d]
  rw [ac j,ac j];by_cases o:c.jj=3
  .rw[a6 o,a6 o,qC];unfold Us;rw[Yy (s2:=O2 λk=>DG t h inj N k m)];intro k _;funext s;unfold O2;simp only[key];by_cases d:(DG t h inj N k m).2=0
   .rw[ac (by simp[d]),ac (by simp[d]),w,oC d]
   .rw[a6 d,a6 d]
  rw [ac o,ac o];by_cases r:c.jj=4
  .rw[a6 r,a6 r,ai,<-Gb];congr 1;exact congrArg (λF=>fst F 0 (c.em.length:Int)) (funext λi=>pick _ _ _ _)
  rw [ac r,ac r];by_cases u:c.jj=5
  .rw[a6 u,a6 u];by_cases g:(EG t c h m inj).2≠0
   .rw[a6 g,a6 g];unfold Ni;rw[ac g]
   .rw[ac g,ac g,ai,<-Gb];congr 1;exact congrArg (λF=>fst F 0 ((EG t c h m inj).1.length:Int)) (funext λi=>pick _ _ _ _)
  rw [ac u,ac u];rfl
end Go.Sf.Sc
namespace Go.Sf.Sc
open Go Go.Sf
def SY(i:Int)(s:BF×BF):Prop:=(s.2.em.length:Int)=i
theorem Yj{s:Bh}(hf:Aq s.t)(hv:(A5 s.t).2=0)(hh:Im s.t s.h):∀(N:Nat)(c:d5)(p:d7)(m:AP),SizeOf.sizeOf c<=N->CV s.t p c->Xf s.t p s.h m->∀n,2*N<=n->A0 n s c m=Y (DH s.t s.h s.en N c m)
 |0,c,_,_,h,_,_,_,_=>by have:=D8 c;omega|N+1,c,p,m,h,j,ha,n,C=>by
  obtain ⟨n,rfl⟩:∃k,n=k+2:=⟨n-2,U⟩;have kid:∀(i:Int),0<=i->i<c.em.length->SizeOf.sizeOf (AA c.em i)<=N:=λi d i1=>by
   have:=E5 (AI (l:=c.em) d i1);omega
  rw [A0,DH];by_cases o:c.jj=2
  .have B:=j.one (.inl o);rw[a6 h_,a6 o,AD U U,bs,Yj hf hv hh N _ p m (kid 0 U U) (j.kid U _ (AI U U)) ha (n+1) U,bs]
   grind
  rw [ac h_,ac o];by_cases w:c.jj=3
  .rw[a6 n_,a6 w];have z:=j.few;rw[X8 (O2 λk=>DH s.t s.h s.en N k m) SY (show SY 0 (zP,zP)from rfl)]
   .unfold Us;show ei (Y (Er (O2 λk=>DH s.t s.h s.en N k m) c.em (zP,zP))) _ _=_;cases Er (O2 λk=>DH s.t s.h s.en N k m) c.em (zP,zP)<;>rfl
   .intro i st d i1 hi;unfold SY at hi;rw[AD d i1,bs,Yj hf hv hh N _ p m (kid i d i1) (j.kid U _ (AI d i1)) ha (n+1) U,bs]
    grind [O2,DH,AA,AV,AY,SY]
  rw [ac n_,ac w];by_cases y:c.jj=4
  .rw[a6 (by simpa using y),a6 y];rw[EN (λ_=>zP) (λi=>if(DH s.t s.h s.en N (AA c.em i) m).2=0 then Y (⟨i,zM,[(DH s.t s.h s.en N (AA c.em i) m).1]⟩,0)else if(DH s.t s.h s.en N (AA c.em i) m).2≠10 then Y (zP,(DH s.t s.h s.en N (AA c.em i) m).2)else W) U rfl]
   .cases fst (λi=>if(DH s.t s.h s.en N (AA c.em i) m).2=0 then Y ((⟨i,zM,[(DH s.t s.h s.en N (AA c.em i) m).1]⟩:BF),(0:Int))else if(DH s.t s.h s.en N (AA c.em i) m).2≠10 then Y (zP,(DH s.t s.h s.en N (AA c.em i) m).2)else W) 0 c.em.length<;>rfl
   .intro i d i1 _;rw[AD d i1,bs,Yj hf hv hh N _ p m (kid i d i1) (j.kid U _ (AI d i1)) ha (n+1) U,bs];generalize DH s.t s.h s.en N (AA c.em i) m=x;by_cases g:x.2=0
    .rw[a6 h?,a6 g];try rfl
    .rw[ac h?,ac g];by_cases e:x.2=10
     .rw[ac b?,ac b?];try rfl
     .rw[a6 b?,a6 e];try rfl
  rw [ac (by simpa using y),ac y];by_cases r:c.jj=5
  .rw[a6 n?,a6 r];have hi:=j.ins r;have B:=j.one (.inr r);rw[Bc,xz hf hv hh ha hi,bs];by_cases u:(EG s.t c s.h m s.en).2=0
   .obtain⟨e,A⟩:=je hv hh ha hi u;rw[ac l_,ac l_];generalize (EG s.t c s.h m s.en).1=l at e A;rw[EN (λ_=>zP) (λi=>if(DH s.t s.h s.en N (AA c.em 0) (AA l i)).2=0 then Y (⟨0,AA l i,[(DH s.t s.h s.en N (AA c.em 0) (AA l i)).1]⟩,0)else if(DH s.t s.h s.en N (AA c.em 0) (AA l i)).2≠10 then Y (zP,(DH s.t s.h s.en N (AA c.em 0) (AA l i)).2)else W) U rfl]
    .cases fst (λi=>if(DH s.t s.h s.en N (AA c.em 0) (AA l i)).2=0 then Y ((⟨0,AA l i,[(DH s.t s.h s.en N (AA c.em 0) (AA l i)).1]⟩:BF),(0:Int))else if(DH s.t s.h s.en N (AA c.em 0) (AA l i)).2≠10 then Y (zP,(DH s.t s.h s.en N (AA c.em 0) (AA l i)).2)else W) 0 l.length<;>rfl
    .intro i d i1 _;rw[AD d i1,bs,AD U U,bs,Yj hf hv hh N _ c.d7 _ (kid 0 U U) (j.kid5 r _ (AI U U)) (A _ (AI d i1)) n U,bs];generalize DH s.t s.h s.en N (AA c.em 0) (AA l i)=x;by_cases g:x.2=0
     .rw[a6 h?,a6 g];try rfl
     .rw[ac h?,ac g];by_cases e:x.2=10
      .rw[ac b?,ac b?];try rfl
      .rw[a6 b?,a6 e];try rfl
   .rw[a6 l_,a6 u];try rfl
  grind
variable{t:AC}
theorem TM{d:AF}{inj:Bool}(hf:Aq t)(hv:(A5 t).2=0)(hh:Im t d):∀(N:Nat)(c:d5)(p:d7)(m:AP),SizeOf.sizeOf c<=N->CV t p c->Xf t p d m->∀n,N<=n->DM n t c d m inj=Y (DG t d inj N c m)
 |0,c,_,_,h,_,_,_,_=>by have:=D8 c;omega|N+1,c,p,m,h,j,ha,n,C=>by
  obtain ⟨n,rfl⟩:∃k,n=k+1:=⟨n-1,U⟩;have kid:∀(i:Int),0<=i->i<c.em.length->SizeOf.sizeOf (AA c.em i)<=N:=λi e i1=>by
   have:=E5 (AI (l:=c.em) e i1);omega
  rw [DM,DG];by_cases o:c.jj=2
  .have B:=j.one (.inl o);rw[a6 h_,a6 o,AD U U,bs,TM hf hv hh N _ p m (kid 0 U U) (j.kid U _ (AI U U)) ha n U,bs]
   grind
  rw [ac h_,ac o];by_cases u:c.jj=3
  .rw[a6 g_,a6 u];have z:=j.few;rw[X8 (O2 λk=>DG t d inj N k m) SY (show SY 0 (zP,zP)from rfl)]
   .unfold Us;show ei (Y (Er (O2 λk=>DG t d inj N k m) c.em (zP,zP))) _ _=_;cases Er (O2 λk=>DG t d inj N k m) c.em (zP,zP)<;>rfl
   .intro i st e i1 hi;unfold SY at hi;rw[AD e i1,bs,TM hf hv hh N _ p m (kid i e i1) (j.kid U _ (AI e i1)) ha n U,bs]
    grind [O2,DG,AA,AV,AY,SY]
  rw [ac g_,ac u];by_cases w:c.jj=4
  .rw[a6 n_,a6 w];rw[EN (λ_=>zP) (λi=>if(DG t d inj N (AA c.em i) m).2≠10 then Y (⟨i,zM,[(DG t d inj N (AA c.em i) m).1]⟩,(DG t d inj N (AA c.em i) m).2)else W) U rfl]
   .cases fst (λi=>if(DG t d inj N (AA c.em i) m).2≠10 then Y ((⟨i,zM,[(DG t d inj N (AA c.em i) m).1]⟩:BF),(DG t d inj N (AA c.em i) m).2)else W) 0 c.em.length<;>rfl
   .intro i e i1 _;rw[AD e i1,bs,TM hf hv hh N _ p m (kid i e i1) (j.kid U _ (AI e i1)) ha n U,bs];generalize DG t d inj N (AA c.em i) m=x;by_cases g:x.2=10
    .rw[ac o_,ac o_];try rfl
    .rw[a6 o_,a6 g];try rfl
  rw [ac n_,ac w];by_cases r:c.jj=5
  .rw[a6 n?,a6 r];have hi:=j.ins r;have B:=j.one (.inr r);rw[yT hf hv hh ha hi,bs];by_cases y:(EG t c d m inj).2=0
   .obtain⟨g,A⟩:=je hv hh ha hi y;rw[ac (by simp[y]),ac (by simp[y])];generalize (EG t c d m inj).1=l at g A;rw[EN (λ_=>zP) (λi=>if(DG t d inj N (AA c.em 0) (AA l i)).2≠10 then Y (⟨0,AA l i,[(DG t d inj N (AA c.em 0) (AA l i)).1]⟩,(DG t d inj N (AA c.em 0) (AA l i)).2)else W) U rfl]
    .cases fst (λi=>if(DG t d inj N (AA c.em 0) (AA l i)).2≠10 then Y ((⟨0,AA l i,[(DG t d inj N (AA c.em 0) (AA l i)).1]⟩:BF),(DG t d inj N (AA c.em 0) (AA l i)).2)else W) 0 l.length<;>rfl
    .intro i e i1 _;rw[AD U U,bs,AD e i1,bs,TM hf hv hh N _ c.d7 _ (kid 0 U U) (j.kid5 r _ (AI U U)) (A _ (AI e i1)) n U,bs];generalize DG t d inj N (AA c.em 0) (AA l i)=x;by_cases g:x.2=10
     .rw[ac o_,ac o_];try rfl
     .rw[a6 o_,a6 g];try rfl
   grind
  grind
end Go.Sf.Sc
namespace Go.Sf.Sc
open Go Go.Sf
noncomputable def Uw(t:AC)(p:d7)(c:d5)(h:AF)(m:AP)(inj:Bool):Int:=
 if O9 t p c≠0 then O9 t p c else if(EH t h).2≠0 then(EH t h).2 else if Gn t p.dr h.dr m.d4 inj≠0 then Gn t p.dr h.dr m.d4 inj else
 if (Gu t p h m.d4).2≠0 then(Gu t p h m.d4).2 else if(Gu t p h m.d4).1=m.ey then 0 else 11
variable{t:AC}{c:d5}
theorem q8(hf:Aq t)(p:d7)(d:EJ c)(h:AF)(m:AP)(inj:Bool):GL t p c h m inj=Y (Uw t p c h m inj):=by
 unfold GL Uw;rw[vC hf p d,bs];refine EM λ_=>?_;rw[VS hf,bs];refine EM λ_=>?_;rw[Zt hf,bs];refine EM λ_=>?_;rw[jz hf,bs];refine EM λ_=>?_;rw[KQ,bs]
 grind
variable{p:d7}{h:AF}
theorem Xx(hf:Aq t)(z:De c<=40){m:AP}{inj:Bool}(e:Uw t p c h m inj=0):(A5 t).2=0/\Im t h/\CV t p c/\Xf t p h m:=by
 unfold Uw at e;split at e
 .grind
 rename_i d;split at e
 .grind
 rename_i j;split at e
 .grind
 rename_i o;split at e
 .grind
 rename_i r;split at e
 case isFalse=>cases e
 rename_i C;have d:=y_.1 d;have j:=y_.1 j;have o:=y_.1 o;have r:=y_.1 r;obtain⟨hv,hh⟩:=Oh hf j;have w:=(df o).2;unfold O9 at d;split at d
 .grind
 rename_i A;split at d
 .grind
 rename_i u;have y:=rM hv (.inl (y_.1 A));have u:=y_.1 u;have B:uH c=X:=by
  grind [SJ]
 suffices g:(m.ey.length:Int)=p.ey/\Qz m.ey from⟨hv,hh,tT hv _ c p (ae _) z B d,y,w,g.1,g.2⟩
 have g:∀s∈p.ek,KV p.ey h m.d4 s:=λs g=>Oq (Cw hv) y hh w g
 grind [Gu,pJ]
end Go.Sf.Sc
namespace Go.Sf.Sc
open Go Go.Sf
def Rl:Nat->d5->Bool
 |0,_=>X|N+1,c=>if kl (λi=>!Rl N (AA c.em i)) 0 c.em.length=X then T else decide (Al ((c.d7.dr.dl.length:Int)+c.d7.dr.d3.length)<=6)
theorem bU:∀(N:Nat)(c:d5),SizeOf.sizeOf c<=N->∀n,N<=n->Gh n c=Y (Rl N c)
 |0,c,h,_,_=>by have:=D8 c;omega|N+1,c,h,n,e=>by
  obtain ⟨n,rfl⟩:∃k,n=k+1:=⟨n-1,U⟩;rw[Gh,Rl,BZ (λi=>!Rl N (AA c.em i)) T]
  .cases kl (λi=>!Rl N (AA c.em i)) 0 c.em.length<;>rfl
  .intro i d i1 _;have:=E5 (AI (l:=c.em) d i1);rw[AD d i1,bs,bU N _ U n U,bs,JE]
theorem rU(c:d5):SH c=Y (Rl (SizeOf.sizeOf c) c):=DK (SizeOf.sizeOf c) λn d=>bU _ c (ae _) n d
def VK(a:Int):Nat->Int->Int
 |0,s=>s|k+1,s=>Al (VK a k s*a)
theorem tz{a b k s:Int}(g:0<=k)(e:k<=1000)(hb:b<=1000):Dv (ρ:=Bool) (λ(d:Int×Int)=>
  if (decide (d.2<b))=X then
  Y (.next (Al (d.1*a),Al (d.2+1)))
  else
  Y (.brk (d.1,d.2))) (s,k)=Y (.inl (VK a (max k b-k).toNat s,max k b)):=by
 refine Pr (λi=>VK a (i-k).toNat s) U (by rw[show(k-k).toNat=0 by omega];rfl) (λi j i1=>?_) ?_
 .rw[a6 a_,show(i+1-k).toNat=(i-k).toNat+1 by omega,VK];dsimp only;rw[Ar (n:=i+1) U U]
 .rw[ac a_]
def Ry(a b:Int):Nat->d7->d5->Bool
 |0,_,_=>X|N+1,p,c=>
  let q:=if c.jj=5 then c.d7 else p
  if kl (λi=>!Ry a b N q (AA c.em i)) 0 c.em.length=X then T else
  decide (VK b (max (p.dr.d3.length:Int) q.dr.d3.length-p.dr.d3.length).toNat (VK a (max (p.dr.dl.length:Int) q.dr.dl.length-p.dr.dl.length).toNat 1)<=5000)
theorem gM(a b:Int):∀(N:Nat)(c:d5)(p:d7),SizeOf.sizeOf c<=N->EJ c->Px p->∀n,N<=n->Eo n p c a b=Y (Ry a b N p c)
 |0,c,_,h,_,_,_,_=>by have:=D8 c;omega|N+1,c,p,h,g,y,n,J=>by
  obtain ⟨n,rfl⟩:∃k,n=k+1:=⟨n-1,U⟩;have D:=g.q.ea;have E:=g.q.eh;have F:=y.ea;have G:=y.eh;have e:∀q:d7,Px q->(ei (Dv (ρ:=Bool) (λ(d:Int×Int)=>
    if (decide (d.2<(q.dr.dl.length:Int)))=X then
    Y (.next (Al (d.1*a),Al (d.2+1)))
    else
    Y (.brk (d.1,d.2))) (1,(p.dr.dl.length:Int))) (λd=>
    ei (Dv (ρ:=Bool) (λ(s2:Int×Int)=>
    if (decide (s2.2<(q.dr.d3.length:Int)))=X then
    Y (.next (Al (s2.1*b),Al (s2.2+1)))
    else
    Y (.brk (s2.1,s2.2))) (d.1,(p.dr.d3.length:Int))) (λs2=>
    ei (gt (ρ:=Bool) (λ(z:Int)(_:Unit)=>
    (idx c.em z).bind λj=>
    (Eo n q j a b).bind λo=>
    if (!o)=X then
    Y (.ret T)
    else
    Y (.next ())) 0 (c.em.length:Int) ()) (λ_=>
    Y (decide (s2.1<=5000))) (λA=>Y A)) (λB=>Y B)) (λC=>Y C))=
    Y (if kl (λi=>!Ry a b N q (AA c.em i)) 0 c.em.length=X then T else
     decide (VK b (max (p.dr.d3.length:Int) q.dr.d3.length-p.dr.d3.length).toNat (VK a (max (p.dr.dl.length:Int) q.dr.dl.length-p.dr.dl.length).toNat 1)<=5000)):=by
   intro q r;have H:=r.ea;have I:=r.eh;rw[tz U U U,Br];dsimp only;rw[tz U U U,Br,BZ (λi=>!Ry a b N q (AA c.em i)) T]
   .cases kl (λi=>!Ry a b N q (AA c.em i)) 0 c.em.length<;>rfl
   .intro i u i1 _;have:=E5 (AI (l:=c.em) u i1);rw[AD u i1,bs,gM a b N _ q U (g.k _ (AI u i1)) r n U,bs,JE]
  rw [Eo,Ry];by_cases w:c.jj=5
  .rw[a6 n_,a6 w,bs,e _ g.q]
  grind
variable{c:d5}{p:d7}
theorem od(a b:Int)(d:EJ c)(e:Px p):Q5 p c a b=Y (Ry a b (SizeOf.sizeOf c) p c):=DK (SizeOf.sizeOf c) λn g=>gM a b _ c p (ae _) d e n g
theorem du(h:AF):∃b,IU h=Y b:=by
 unfold IU Jj;rw[bs];split
 .exact⟨_,rfl⟩
 .rw[BZ (λi=>decide (12<((AA h.eb i).length:Int))) T]
  .cases kl (λi=>decide (12<((AA h.eb i).length:Int))) 0 h.eb.length
   .exact⟨X,rfl⟩
   .exact⟨T,rfl⟩
  .intro i d i1 _;rw[AD d i1,bs,JE]
variable{t:AC}
theorem oo(hf:Aq t)(st:(AK t).Sm)(p g:dr):∃b,Ny t p g=Y b:=by
 obtain ⟨b,e,_⟩:=ST st;unfold Ny Jj;rw[e,bs,UL hf]
 grind
theorem ot(hf:Aq t)(st:(AK t).Sm)(p:d7)(w:(AJ c).Sm)(h:AF):∃b,Nz t p c h=Y b/\(b=X->EJ c/\De c<=40/\Px p):=by
 obtain ⟨y,z,A⟩:=nY w;obtain⟨B,r,C⟩:=TE p;obtain⟨D,u⟩:=du h;unfold Nz;rw[z,bs];cases y
 .exact⟨T,rfl,λh=>c_⟩
 rw [r];cases B
 .exact⟨T,rfl,λh=>c_⟩
 rw [u];cases D
 .exact⟨T,rfl,λh=>c_⟩
 have g:=A rfl;have j:=C rfl;simp only[bs,Bool.not_true,z_,if_false];rw[oi hf p g.1,bs];have d:∀o:K1,(∃b,o=Y b)->∃b,o=Y b/\(b=X->EJ c/\De c<=40/\Px p):=λo⟨b,e⟩=>⟨b,e,λ_=>⟨g.1,g.2,j⟩⟩;refine d _ ?_;split
 .exact⟨X,rfl⟩
 .obtain⟨E,F⟩:=oo hf st p.dr h.dr;unfold QW;rw[r,u,F,rU,od 14 18 g.1 j];simp only[bs,if_true];cases E<;>simp only[z_,if_false,if_true,bs,Bool.false_and]
  .exact⟨_,rfl⟩
  .split
   .exact⟨_,rfl⟩
   .exact⟨_,rfl⟩
noncomputable def wS(t:AC)(p:d7)(c:d5)(h:AF)(m:AP)(inj:Bool):BF×Int:=
 if Uw t p c h m inj≠0 then(zP,Uw t p c h m inj)else DH t h inj (SizeOf.sizeOf c) c m
theorem oW(hf:Aq t)(p:d7)(e:EJ c)(g:De c<=40)(h:AF)(m:AP)(inj:Bool):E2 t p c h m inj=Y (wS t p c h m inj):=by
 unfold E2 wS;rw[q8 hf p e,bs];refine Ds λj=>?_;obtain⟨hv,hh,d,ha⟩:=Xx hf g j;rw[show F9 (Bh.mk t h inj) c m=Y (DH t h inj (SizeOf.sizeOf c) c m)from DK (2*SizeOf.sizeOf c) λn o=>Yj (s:=⟨t,h,inj⟩) hf hv hh _ c p m (ae _) d ha n o];rfl
noncomputable def Oa(t:AC)(p:d7)(c:d5)(h:AF)(m:AP)(inj:Bool):Bool×Int:=
 if (wS t p c h m inj).2=10 then(T,0)else(decide ((wS t p c h m inj).2=0),(wS t p c h m inj).2)
theorem iz(hf:Aq t)(p:d7)(d:EJ c)(e:De c<=40)(h:AF)(m:AP)(inj:Bool):EA t p c h m inj=Y (Oa t p c h m inj):=by grind[EA,Oa,oW,wS]
variable{h:AF}
theorem rP(hf:Aq t){inj:Bool}{m:AP}(hv:(A5 t).2=0)(hh:Im t h)(d:CV t p c)(ha:Xf t p h m):QX t c h m inj=Y (DG t h inj (SizeOf.sizeOf c) c m):=DK (SizeOf.sizeOf c) λn e=>TM hf hv hh _ c p m (ae _) d ha n e
end Go.Sf.Sc
namespace Go.Sf.Sc
open Go Go.Sf
end Go.Sf.Sc
namespace Go.Sf.Sc
open Go Go.Sf
theorem wL(t:AC)(p:d7)(c:d5)(h:AF)(m:AP)(inj:Bool):wS t p c h m inj=if Uw t p c h m inj≠0 then(zP,Uw t p c h m inj)else Ni (DG t h inj (SizeOf.sizeOf c) c m):=by
 unfold wS;rw[kw]
end Go.Sf.Sc
