/- Plain lemmas: what the functions of the program and of the reference compute. -/
import Derived.Test.YthcncnllajfkfaaGreatP25
set_option linter.all false
set_option maxRecDepth 100000
open Option renaming some->Y,none->W
open Bool renaming true->X,false->T
open List renaming mem_append->v?,any_eq_false->w_,drop_eq_nil_of_le->w!,drop_eq_getElem_cons->w?,getElem?_eq_getElem->x_,replicate->x!,ext_getElem->x?,replicate_succ'->y_,mem_flatMap->y!,length_singleton->y?,nodup_nil->z_
open Classical renaming not_not->z!
open Bool renaming not_eq_true'->z?,true_and->A_,false_eq_true->A'
open Int renaming toNat_natCast->A!
namespace Go.Sf.Sc
open Go Go.Sf
variable{all:List kh}{k:Int}
theorem Ty(h:M7 all k=0)(d:(AA all k).qo.length<=1000):-1000000<=(AA all k).Low/\(AA all k).Aae<=1000000:=by grind[M7]
variable{t:AC}{i:Int}
theorem g6(h:I4 t i=0):∀k,((A4 t i).length:Int)-(AA t.ci i).pr.length<=k->k<(A4 t i).length->M7 (A4 t i) k=0:=by
 unfold I4 at h;dsimp only at h;split at h
 .cases h
 split at h
 .cases h
 split at h
 .cases h
 split at h
 .cases h
 exact VR h
variable{a:Int}
theorem RS{n:Nat}(d:0<=a):B2 t (n+1) a=B2 t n (par t a)++(AA t.ci a).pr:=by grind[B2]
theorem pY(h:M7 all k=0)(d:(AA all k).qo.length<=1000):(AA all k).Low<=(AA all k).Aae:=by grind[M7]
theorem Tz(hf:A3 t)(h:Fd t){Q:kh->Prop}(Ty:∀{all:List kh}{k:Int},M7 all k=0->(AA all k).qo.length<=1000->Q (AA all k)):∀(n:Nat)(a:Int),a<t.ci.length->a<n->∀x∈B2 t n a,Q x
 |0,_,_,_=>by simp[B2]|n+1,a,ha,B=>by
  by_cases g:a<0
  .rw[K6 g];simp
  .have w:=h.par a U ha;intro x d;rw[RS U]at d;rcases v?.1 d with d|d
   .exact Tz hf h Ty n (par t a) U U x d
   .obtain⟨j,z,A,rfl⟩:=BT d;have e:A4 t a=B2 t a.toNat (par t a)++(AA t.ci a).pr:=by
     unfold A4;rw[show(a+1).toNat=a.toNat+1 by omega,RS U]
    have y:(A4 t a).length=(B2 t a.toNat (par t a)).length+(AA t.ci a).pr.length:=by rw[e,b6]
    have o:=g6 (h.node a U ha) ((B2 t a.toNat (par t a)).length+j) U U;have r:AA (A4 t a) ((B2 t a.toNat (par t a)).length+j)=AA (AA t.ci a).pr j:=by
     grind [Og,AA]
    have u:=O6 hf (Int.le_refl _) h.par ha (AA (A4 t a) ((B2 t a.toNat (par t a)).length+j)) (AF U U);have:=Ty o (by have:=u.names;omega)
    rwa [r]at this
theorem RT(hf:A3 t)(h:Fd t)(d:0<=a)(ha:a<t.ci.length):∀x∈A4 t a,-1000000<=x.Low/\x.Aae<=1000000:=Tz hf h Ty _ a ha U
theorem U7(hf:A3 t)(h:Fd t)(d:0<=a)(ha:a<t.ci.length):∀x∈A4 t a,x.Low<=x.Aae:=Tz hf h pY _ a ha U
theorem bU(d:E2 t k):∀(n:Nat)(a b:Int),a<k->a<n->b∈Kk t n a->0<=b/\b<=a/\(A4 t b).length<=(B2 t n a).length
 |0,_,_,_,_=>by simp[Kk]|n+1,a,b,ha,j=>by
  intro hb;rw[Kk]at hb;split at hb
  .cases hb
  .rename_i e;have g:=d a U ha;rw[RS U];rcases List.mem_cons.1 hb with rfl|hb
   .refine⟨U,U,?_⟩;unfold A4;rw[Oh d (b+1).toNat (n+1) b ha U U,RS U];exact az _
   .have:=bU d n (par t a) b U U hb
    grind
variable{b:Int}
theorem aV(h:Fd t)(ha:a<t.ci.length)(hb:G4 t a b=X):(A4 t b).length<=(A4 t a).length:=by
 unfold G4 at hb;rw[List.any_eq_true]at hb;obtain⟨x,d,e⟩:=hb;rw[sx]at e;subst e;by_cases g:a<0
 .have:(a+1).toNat=0:=U
  rw [this]at d;cases d
 .exact(bU h.par (a+1).toNat a b ha U d).2.2
theorem kJ{α:Type}{Q:Prop}[Decidable Q]{v:α}{ζ:Option α}{δ:α}(he:a=b↔Q)(h:Q->ζ=Y δ):(if(!decide (a=b))=X then Y v else ζ)=Y (if¬Q then v else δ):=m?
def RE(t:AC)(k:Int)(v:Fp)(j:Int):Bool:=decide (AA v j<(AA (A4 t k) j).Low)||decide ((AA (A4 t k) j).Aae<AA v j)
def Gm(t:AC)(k:Int)(v:Fp):Int:=
 if (t.ci.length:Int)<=k then 6 else if(AA t.ci k).p0=X then 13 else if¬v.length=(A4 t k).length then 20 else
 if kq (RE t k v) 0 (A4 t k).length=X then 6 else 0
def JZ(t:AC)(g:d3)(i:Int):Int:=
 if (t.c9.length:Int)<=(AA g.c9 i).j4 then 6 else if Hp t g i=T then 13 else 0
def Dd(t:AC)(h:AG):Int×Int:=
 if (BD t).2≠0 then(-1,(BD t).2)else if CE h.d3≠0 then(-1,CE h.d3)else if¬h.eh.length=h.d3.ci.length then(-1,20)else
 match fst (λi=>(nz (Gm t (AA h.d3.ci i) (AA h.eh i))).map λe=>(i,e)) 0 h.d3.ci.length with
 |some r=>r|none=>(fst (λi=>(nz (JZ t h.d3 i)).map λe=>(i,e)) 0 h.d3.c9.length).getD (-1,0)
theorem JP(hv:(BD t).2=0)(d:0<=k)(e:k<t.ci.length):Fg t k=(A4 t k,0):=by grind[Fg,NG]
theorem WU{x:Bool}{y:Bool}:(if x=X then Y X else Y y)=Y (x||y):=by cases x<;>rfl
theorem uc(hf:A3 t)(hv:(BD t).2=0)(d:0<=k)(v:Fp):MY t k v=Y (Gm t k v):=by
 unfold MY Gm;by_cases e:(t.ci.length:Int)<=k
 .grind
 rw [ae f_,ae e,AD d U,bs];refine dY λ_=>?_;rw[Tg hf,JP hv d U,bs];refine kJ an λg=>?_;rw[Bo (RE t k v) 6]
 .cases kq (RE t k v) 0 (A4 t k).length<;>rfl
 grind [A4,AD,WU,RE,AA]
theorem u9(hf:A3 t)(hv:(BD t).2=0)(d:0<=k)(v:Fp):LM t k v=Y (Gm t k v):=by
 unfold LM Gm;by_cases e:(t.ci.length:Int)<=k
 .grind
 rw [ae f_,ae e,AD d U,bs];refine dY λ_=>?_;rw[Ou hf,JP hv d U,bs];refine kJ an λg=>?_;rw[Bo (RE t k v) 6]
 .cases kq (RE t k v) 0 (A4 t k).length<;>rfl
 grind [A4,AD,WU,RE,AA]
theorem eZ(e i:Int):(if(!decide (e=0))=X then Y (Bz.ret (σ:=Unit) (ρ:=Int×Int) (i,e))else Y (.next ()))=Y (TD ((nz e).map λe=>(i,e))):=by grind[nz,TD]
theorem Vh(hf:A3 t)(h:AG):G6 t h=Y (Dd t h):=by
 unfold G6 Dd;rw[Ot hf,bs];refine Dy λhv=>?_;rw[Oq,bs];refine Dy λj=>?_;have go:=Di j;refine kJ U λy=>?_;rw[Bh (λi=>(nz (Gm t (AA h.d3.ci i) (AA h.eh i))).map λe=>(i,e)),Db]
 .cases o:fst (λi=>(nz (Gm t (AA h.d3.ci i) (AA h.eh i))).map λe=>(i,e)) 0 h.d3.ci.length with
  |some r=>rfl|none=>
   have u:=BC.1 o;dsimp only;rw[Bh (λi=>(nz (JZ t h.d3 i)).map λe=>(i,e)),Db]
   .grind
   .intro i d i1 _;have w:=go.fit _ (AF (l:=h.d3.c9) d i1);rw[AD d i1,bs];unfold JZ Hp;by_cases g:(t.c9.length:Int)<=(AA h.d3.c9 i).j4
    .rw[ac g_,ac g];rfl
    .rw[ae g_,ae g,AD U U,bs,AD U U,bs,nW hf,bs];cases LD t (AA h.d3.c9 i).j4 (AA h.d3.ci (AA h.d3.c9 i).jj) (AA h.d3.ci (AA h.d3.c9 i).To)<;>rfl
 .intro i d i1 _;rw[AD d i1,bs,AD d U,bs,uc hf hv (go.kind _ (AF d i1)).1,bs];exact eZ _ i
theorem Vo(hf:A3 t)(h:AG):F3 t h=Y (Dd t h):=by
 unfold F3 Dd;rw[R1 hf,bs];refine Dy λhv=>?_;rw[NN,bs];refine Dy λj=>?_;have go:=Di j;refine kJ U λy=>?_;rw[Bh (λi=>(nz (Gm t (AA h.d3.ci i) (AA h.eh i))).map λe=>(i,e)),Db]
 .cases o:fst (λi=>(nz (Gm t (AA h.d3.ci i) (AA h.eh i))).map λe=>(i,e)) 0 h.d3.ci.length with
  |some r=>rfl|none=>
   have u:=BC.1 o;dsimp only;rw[Bh (λi=>(nz (JZ t h.d3 i)).map λe=>(i,e)),Db]
   .grind
   .intro i d i1 _;have w:=go.fit _ (AF (l:=h.d3.c9) d i1);rw[AD d i1,bs];unfold JZ Hp;by_cases g:(t.c9.length:Int)<=(AA h.d3.c9 i).j4
    .rw[ac g_,ac g];rfl
    .rw[ae g_,ae g,AD U U,bs,AD U U,bs,Yt hf,bs];cases LD t (AA h.d3.c9 i).j4 (AA h.d3.ci (AA h.d3.c9 i).jj) (AA h.d3.ci (AA h.d3.c9 i).To)<;>rfl
 .intro i d i1 _;rw[AD d i1,bs,AD d U,bs,u9 hf hv (go.kind _ (AF d i1)).1,bs];exact eZ _ i
structure If(t:AC)(h:AG):Prop where
 g:Cp h.d3
 len:h.eh.length=h.d3.ci.length
 kind:∀i:Int,0<=i->i<h.d3.ci.length->0<=AA h.d3.ci i/\AA h.d3.ci i<t.ci.length
 row:∀i:Int,0<=i->i<h.d3.ci.length->(AA h.eh i).length=(A4 t (AA h.d3.ci i)).length
 low:∀i:Int,0<=i->i<h.d3.ci.length->∀x∈AA h.eh i,-1000000<=x/\x<=1000000
 ge:CE h.d3=0
 ty:C0 t h.d3=X
variable{h:AG}
theorem UK(e:(Dd t h).2=0):(∀i:Int,0<=i->i<h.d3.ci.length->Gm t (AA h.d3.ci i) (AA h.eh i)=0)/\∀i:Int,0<=i->i<h.d3.c9.length->JZ t h.d3 i=0:=by
 unfold Dd at e;split at e
 next j=>exact absurd e j
 split at e
 next j=>exact absurd e j
 split at e
 .cases e
 rename_i j w y;have u:∀i:Int,0<=i->i<h.d3.ci.length->Gm t (AA h.d3.ci i) (AA h.eh i)=0:=by
  split at e
  .rename_i r hr;obtain⟨i,_,_,k,_⟩:=Cl hr;unfold nz at k;split at k
   .cases k
   next d=>cases k;exact absurd e d
  next hr=>exact λi g i1=>IZ.1 (QC.1 (BC.1 hr i g i1))
 have he:∀i:Int,0<=i->i<h.d3.c9.length->JZ t h.d3 i=0:=by
  have o:fst (λi=>(nz (Gm t (AA h.d3.ci i) (AA h.eh i))).map λe=>(i,e)) 0 h.d3.ci.length=W:=BC.2 λi g i1=>by rw[u i g i1];rfl
  rw [o]at e;dsimp only at e;cases hr:fst (λi=>(nz (JZ t h.d3 i)).map λe=>(i,e)) 0 h.d3.c9.length with
  |some r=>
   rw [hr]at e;obtain⟨i,_,_,k,_⟩:=Cl hr;unfold nz at k;split at k
   .cases k
   next d=>cases k;exact absurd e d
  |none=>exact λi g i1=>IZ.1 (QC.1 (BC.1 hr i g i1))
 exact ⟨u,he⟩
theorem QB(hf:A3 t)(e:(Dd t h).2=0):(BD t).2=0/\If t h:=by
 obtain ⟨u,he⟩:=UK e;unfold Dd at e;split at e
 next g=>exact absurd e g
 split at e
 next g=>exact absurd e g
 split at e
 .cases e
 rename_i g z C;have hv:=z!.1 g;have go:=Di (z!.1 z);have r:∀i:Int,0<=i->i<h.d3.ci.length->(0<=AA h.d3.ci i/\AA h.d3.ci i<t.ci.length)/\(AA h.eh i).length=(A4 t (AA h.d3.ci i)).length/\∀j:Int,0<=j->j<(A4 t (AA h.d3.ci i)).length->RE t (AA h.d3.ci i) (AA h.eh i) j=T:=by
  intro i d i1;have E:=(go.kind _ (AF d i1)).1;have:=u i d i1;unfold Gm at this;split at this
  .cases this
  split at this
  .cases this
  split at this
  .cases this
  split at this
  .cases this
  rename_i a1 a2 a3 D;exact⟨⟨E,U⟩,z!.1 a3,B0.1 (by simpa using D)⟩
 have y:C0 t h.d3=X:=by
  unfold C0;rw[pc,z?,z?,w_,w_];refine⟨λn u=>?_,λx w=>?_⟩
  .obtain⟨i,d,i1,rfl⟩:=BT u;have:=(r i d i1).1.2;simp;omega
  .obtain⟨i,d,i1,rfl⟩:=BT w;have:=he i d i1;unfold JZ at this;split at this
   .cases this
   .simp;omega
 suffices o:∀i:Int,0<=i->i<h.d3.ci.length->∀x∈AA h.eh i,-1000000<=x/\x<=1000000 from⟨hv,go,z!.1 C,λi d i1=>(r i d i1).1,λi d i1=>(r i d i1).2.1,o,z!.1 z,y⟩
 intro i d i1 x w;obtain⟨A,G,F⟩:=r i d i1;obtain⟨j,B,H,rfl⟩:=BT w;have:=F j B U;unfold RE at this;simp[decide_eq_false_iff_not]at this;have:=RT hf (Cq hv) A.1 A.2 _ (AF (l:=A4 t (AA h.d3.ci i)) B U);omega
end Go.Sf.Sc
namespace Go.Sf.Sc
open Go Go.Sf
def KS(t:AC)(p g:d3)(m:d4)(i:Int):a5:=
 if AA m.ci i<0\/g.ci.length<=AA m.ci i then Y 6 else if G4 t (AA g.ci (AA m.ci i)) (AA p.ci i)=T then Y 13 else W
def OR(t:AC)(p g:d3)(m:d4):Int:=
 if m.ci.length≠p.ci.length\/m.c9.length≠p.c9.length then 20 else
 match fst (KS t p g m) 0 m.ci.length with
 |some e=>e|none=>(fst (Gp p g m) 0 m.c9.length).getD 0
def Gd(t:AC)(p g:d3)(m:d4)(inj:Bool):Int:=
 if Ep t p g≠0 then Ep t p g else if OR t p g m≠0 then OR t p g m else if(inj&&!Ik m)=X then 5 else 0
structure Zr(t:AC)(p g:d3)(m:d4):Prop where
 Aal:m.ci.length=p.ci.length
 Aao:m.c9.length=p.c9.length
 node:∀i:Int,0<=i->i<m.ci.length->(0<=AA m.ci i/\AA m.ci i<g.ci.length)/\G4 t (AA g.ci (AA m.ci i)) (AA p.ci i)=X
 edge:∀i:Int,0<=i->i<m.c9.length->0<=AA m.c9 i/\AA m.c9 i<g.c9.length
variable{t:AC}
theorem Oa{p g:d3}(h:Ep t p g=0):(BD t).2=0/\Cp p/\Cp g/\(∀n∈p.ci,0<=n/\n<t.ci.length)/\∀n∈g.ci,0<=n/\n<t.ci.length:=by
 unfold Ep at h;split at h
 .grind
 split at h
 .grind
 split at h
 .grind
 split at h
 .rename_i e j o d;rw[pc]at d
  grind [Di,Hu]
 .cases h
variable{m:d4}
theorem jh{p g:d3}(h:OR t p g m=0):Zr t p g m:=by
 unfold OR at h;split at h
 .cases h
 rename_i e;have d:fst (KS t p g m) 0 m.ci.length=W:=by
  grind [Cl,KS]
 rw [d]at h;have he:=Sr (λi=>by
  grind [Gp]) h
 refine ⟨U,U,λi i1 i2=>?_,λi i1 i2=>?_⟩
 .grind[BC,KS]
 grind [Gp]
theorem al(hf:A3 t){p g:d3}(y:Ep t p g=0)(m:d4):HV t p g m=Y (OR t p g m):=by
 obtain ⟨hv,A,E,tp,B⟩:=Oa y;unfold HV OR;refine Qx i! λC=>?_;rw[lJ hf (Cq hv) hv,bs,Bh (KS t p g m),Db]
 .cases D:fst (KS t p g m) 0 m.ci.length with
  |some e=>rfl|none=>
   dsimp only;rw[Bh (Gp p g m),C8];intro i i1 i2 _;unfold Gp;rw[AD i1 i2,bs];by_cases d:AA m.c9 i<0\/g.c9.length<=AA m.c9 i
   .rw[ac c?,ac d];rfl
   .have hf:=A.fit _ (AF (l:=p.c9) i1 U);rw[ae c?,ae d,AD i1 U,bs,AD U U,bs];by_cases j:(AA p.c9 i).j4=(AA g.c9 (AA m.c9 i)).j4
    .rw[ae e?,ae e?,AD U U,bs];by_cases o:AA m.ci (AA p.c9 i).jj=(AA g.c9 (AA m.c9 i)).jj
     .rw[ae g!,AD U U,bs,bs];by_cases r:AA m.ci (AA p.c9 i).To=(AA g.c9 (AA m.c9 i)).To
      .rw[ae n?,ae (by simp[o,r])];rfl
      .rw[ac n?,ac (.inr r)];rfl
     .rw[ac g!,bs,ac rfl,ac (.inl o)];rfl
    .rw[ac e?,ac j];rfl
 .intro i i1 i2 _;unfold KS;rw[AD i1 i2,bs];by_cases d:AA m.ci i<0\/g.ci.length<=AA m.ci i
  .rw[ac c?,ac d];rfl
  .have u:=tp _ (AF (l:=p.ci) i1 U);have w:=B _ (AF (l:=g.ci) (show 0<=AA m.ci i by omega) U);rw[ae c?,ae d,AD i1 U,bs,AD u.1 (by unfold KA;rw[cL,A2];exact u.2),bs,AD U U,bs];have e:AA (KA t) (AA p.ci i)=Pk t (AA p.ci i):=by unfold KA;exact JI (Pk t) u.1 u.2
   rw [e,AD w.1 (by unfold Pk;rw[cL,A2];exact w.2),bs];have z:AA (Pk t (AA p.ci i)) (AA g.ci (AA m.ci i))=G4 t (AA g.ci (AA m.ci i)) (AA p.ci i):=by unfold Pk;exact JI (λk=>G4 t k (AA p.ci i)) w.1 w.2
   rw [z];cases G4 t (AA g.ci (AA m.ci i)) (AA p.ci i)<;>rfl
variable{l:Fp}
theorem jS(d:l.length<=1000):Iv l=Y (!Jw l):=by grind[Iv,XF,Jx,AbC,Jw]
theorem Za(hf:A3 t)(p g:d3)(m:d4)(inj:Bool):GL t p g m inj=Y (Gd t p g m inj):=by
 unfold GL Gd;rw[WX hf,bs];refine EN λd=>?_;rw[al hf d,bs];refine EN λo=>?_;obtain⟨_,j,r,_⟩:=Oa d;have e:=jh o;have:=j.ea;have:=j.eb;have:=e.Aal;have:=e.Aao;rw[jS U,jS U];unfold Ik;cases inj<;>cases Jw m.ci<;>cases Jw m.c9<;>rfl
theorem ux(l:Fp):Ke l=Y (Jw l):=cr l
theorem oJ{p g:d3}(w:Ep t p g=0)(m:d4)(inj:Bool):J3 t p g m inj=Y (if OR t p g m≠0 then OR t p g m else if(inj&&!Ik m)=X then 5 else 0):=by
 obtain ⟨hv,A,D,tp,B⟩:=Oa w;unfold J3 OR;by_cases y:m.ci.length≠p.ci.length\/m.c9.length≠p.c9.length
 .grind
 rw [ae i!,ae y,Bh (KS t p g m),Db]
 .cases C:fst (KS t p g m) 0 m.ci.length with
  |some e=>
   grind [Cl,KS]
  |none=>
   dsimp only;rw[Bh (Gp p g m),Db]
   .grind[fst,Gp,Cl,ux,Ik,Jw]
   intro i i1 i2 _;unfold Gp;rw[AD i1 i2];simp only[bs,Vg];by_cases d:AA m.c9 i<0\/g.c9.length<=AA m.c9 i
   .rw[ac c?,ac d];rfl
   .have hf:=A.fit _ (AF (l:=p.c9) i1 U);rw[ae c?,ae d,AD i1 U,bs,AD U U,bs];by_cases j:(AA p.c9 i).j4=(AA g.c9 (AA m.c9 i)).j4
    .rw[ae e?,ae e?,AD U U,bs];by_cases o:AA m.ci (AA p.c9 i).jj=(AA g.c9 (AA m.c9 i)).jj
     .rw[ae g!,AD U U,bs,bs];by_cases r:AA m.ci (AA p.c9 i).To=(AA g.c9 (AA m.c9 i)).To
      .rw[ae n?,ae (by simp[o,r])];rfl
      .rw[ac n?,ac (.inr r)];rfl
     .rw[ac g!,bs,ac rfl,ac (.inl o)];rfl
    .rw[ac e?,ac j];rfl
 .intro i i1 i2 _;unfold KS;rw[AD i1 i2];simp only[bs,Vg];by_cases d:AA m.ci i<0\/g.ci.length<=AA m.ci i
  .rw[ac c?,ac d];rfl
  .have z:=tp _ (AF (l:=p.ci) i1 U);have u:=B _ (AF (l:=g.ci) (show 0<=AA m.ci i by omega) U);rw[ae c?,ae d,AD U U,bs,AD i1 U,bs,WZ (Cq hv) u.1 u.2 z.1,bs];cases G4 t (AA g.ci (AA m.ci i)) (AA p.ci i)<;>rfl
theorem Zh(hf:A3 t)(p g:d3)(m:d4)(inj:Bool):HF t p g m inj=Y (Gd t p g m inj):=by
 unfold HF Gd;rw[Ua hf,bs];refine EN λd=>?_;rw[oJ d,bs]
theorem dZ{p g:d3}{inj:Bool}(h:Gd t p g m inj=0):Ep t p g=0/\Zr t p g m:=by grind[Gd,jh]
end Go.Sf.Sc
namespace Go.Sf.Sc
open Go Go.Sf
section
variable{α σ ρ:Type}
def El(step:α->σ->Bz σ ρ):List α->σ->σ ⊕ ρ
 |[],s=>.inl s|a::r,s=>match step a s with
  |.next s'=>El step r s'|.brk s'=>.inl s'|.ret r=>.inr r
variable{f:Int->σ->Option (Bz σ ρ)}
theorem VP[Inhabited α]{l:List α}(step:α->σ->Bz σ ρ)(I:σ->Prop)(h:∀(i:Int)s,0<=i->i<l.length->I s->f i s=Y (step (AA l i) s)/\∀s',step (AA l i) s=.next s'->I s'):
  ∀(n:Nat)(a:Int)(s:σ),0<=a->a+n=l.length->I s->zt f n a s=Y (El step (l.drop a.toNat) s)
 |0,a,s,d,o,_=>by
  rw [w! U];rfl
 |n+1,a,s,d,o,u=>by
  obtain ⟨g,j⟩:=h a s d U u;have hd:l.drop a.toNat=AA l a::l.drop (a+1).toNat:=by
   grind [w?,AA,x_]
  rw [GG,g,hd,El];cases e:step (AA l a) s with
  |next s'=>
   simp only;exact VP step I h n (a+1) s' U U (j s' e)
  |brk s'=>rfl|ret r=>rfl
theorem Sp[Inhabited α]{l:List α}(step:α->σ->Bz σ ρ)(I:σ->Prop){s:σ}(d:I s)(h:∀(i:Int)s,0<=i->i<l.length->I s->f i s=Y (step (AA l i) s)/\∀s',step (AA l i) s=.next s'->I s'):
  ij f 0 l.length s=Y (El step l s):=by
 have:=VP step I h l.length 0 s U U d;unfold ij;rw[show((l.length:Int)-0).toNat=l.length by omega];exact this
theorem gF[Inhabited α](step:α->σ->Bz σ ρ)(I:σ->Prop):∀(l:List α)(s s':σ),I s->(∀a∈l,∀s s',I s->step a s=.next s'->I s')->(∀a∈l,∀s s',step a s≠.brk s')->El step l s=.inl s'->I s'
 |[],s,s',h,_,_,e=>by cases e;exact h
 |a::r,s,s',h,d,hb,e=>by
  rw [El]at e;split at e
  next s2 g=>exact gF step I r s2 s' (d a V s s2 h g) (λa ha=>d a (by simp[ha])) (λa ha=>hb a (by simp[ha])) e
  .grind
  .cases e
end
def DW(x:gp)(l:Fp):Int:=if x.Var<0 then x.Add else AJ (AA l x.Var+x.Add)
variable{x:gp}{l:Fp}
theorem Vi(h:x.Var<l.length):E5 x l=Y (DW x l):=by grind[E5,DW,AD]
theorem bB(h:x.Var<l.length):J5 x l=Y (DW x l):=Vi h
theorem fB(d:-1<=x.Var)(h:x.Var<l.length)(e:l.length<=1000):Ff x l=Y (DW x l,0):=by grind[Ff,C3,AT,Vi]
theorem QH(d:-1<=x.Var)(h:x.Var<l.length):FO x l=Y (DW x l,0):=by grind[FO,bB]
def MB(x:Test)(l:Fp):Bool:=(decide (x.kl=1)&&decide (DW x.gl l<=DW x.ec l))||(decide (x.kl=2)&&decide (DW x.gl l=DW x.ec l))
structure JN(n:Int)(x:gp):Prop where
 low:-1<=x.Var
 high:x.Var<n
 add:-1000000<=x.Add/\x.Add<=1000000
def Q9(l:Fp):Prop:=∀x∈l,-2000000<=x/\x<=2000000
variable{n:Int}
theorem Uk(h:JN n x)(d:Q9 l)(e:n<=l.length):DW x l=(if x.Var<0 then x.Add else AA l x.Var+x.Add)/\-3000000<=DW x l/\DW x l<=3000000:=by
 unfold DW;have:=h.add;by_cases g:x.Var<0
 .grind
 .have hh:=h.high;have:=d _ (AF (l:=l) (show 0<=x.Var by omega) U)
  grind [AT]
theorem bA(h:JN n x)(d:n<=l.length):Lx x l=Y (DW x l,X):=by
 have e:=h.low;have g:=h.high
 grind [Lx,DW,AD]
theorem r_holds{x:Test}(e:JN n x.gl)(g:JN n x.ec)(d:n<=l.length):Nx x l=Y (MB x l):=by
 unfold Nx;rw[bA e d,bA g d];rfl
variable{a b:Int}
theorem bY(ha:-4000000<=a/\a<=4000000)(hb:-4000000<=b/\b<=4000000):Hf a b=Y (if a+b<0 then(-1,a+b+18446744073709551616)else(0,a+b)):=by
 have d:∀c:Int,IntKind.u64.wrap c=c % 18446744073709551616:=λc=>by
  simp [IntKind.wrap,IntKind.signed,IntKind.bits]
 have g:∀c:Int,-4000000<=c/\c<=4000000->Gn .i64 .shr c 63=Y (if c<0 then -1 else 0):=by
  intro c r;unfold Gn;have e:c.fdiv (2^ (min (63:Int).toNat (IntKind.bits .i64)))=if c<0 then -1 else 0:=by
   show c.fdiv (2^ 63)=_
   grind
  simp only[e];have:(0:Int)<=63/\IntKind.min .i64<=(if c<0 then -1 else 0)/\(if c<0 then -1 else 0)<=IntKind.max .i64:=by
   split<;>decide
  rw [ac this]
 unfold Hf Je;rw[d,d,ac U,bs,g a ha,g b hb,bs,bs];congr 1;have u:∀c:Int,-10<=c->c<=10->AJ c=c:=λc j o=>AT U U
 grind
def Lh(a:Int):Int×Int:=if a<0 then(-1,a+18446744073709551616)else(0,a)
theorem fH(h:JN n x)(d:Q9 l)(o:n<=l.length):Fm x l=Y ((Lh (DW x l)).1,(Lh (DW x l)).2,X):=by
 have r:=h.low;have u:=h.high;have w:=h.add;have g:=(Uk h d o).1;unfold Fm;by_cases j:x.Var=-1
 .have e:DW x l=x.Add:=by rw[g,ac U]
  rw [e,ac e?,bY U U,bs,Int.zero_add];rfl
 .have:=d _ (AF (l:=l) (show 0<=x.Var by omega) U);have e:DW x l=AA l x.Var+x.Add:=by rw[g,ae U]
  rw [e,ae e?,ae an,AD U U,bs,bY U U,bs];rfl
theorem si(a b:Int):cmp_Compare_int a b=Y (if a<b then -1 else if b<a then 1 else 0):=by
 unfold cmp_Compare_int cmp_isNaN_int
 grind
theorem AAY(a b:Int):JR a b=Y (if a<b then -1 else if b<a then 1 else 0):=si a b
theorem we(a b:Int):O7 [a,b]=Y (if a=0 then b else a):=by
 unfold O7;show ej (zt _ 2 0 ()) _ _=_;rw[GG,show idx [a,b] 0=Y a from rfl,bs]
 grind [ej,zt,GG,idx]
theorem p_holds{x:Test}(g:JN n x.gl)(j:JN n x.ec)(d:Q9 l)(e:n<=l.length):Gv x l=Y (MB x l):=by
 have o:=(Uk g d e).2;have s2:=(Uk j d e).2;unfold Gv MB;rw[fH g d e,fH j d e];simp[si,AAY,we];generalize DW x.gl l=a at o;generalize DW x.ec l=b at s2;have key:(if(if(Lh a).1<(Lh b).1 then(-1:Int)else if(Lh b).1<(Lh a).1 then 1 else 0)=0 then(if(Lh a).2<(Lh b).2 then(-1:Int)else if(Lh b).2<(Lh a).2 then 1 else 0)else(if(Lh a).1<(Lh b).1 then(-1:Int)else if(Lh b).1<(Lh a).1 then 1 else 0))=if a<b then -1 else if b<a then 1 else 0:=by
  grind [Lh]
 rw [key];congr 2
 .grind
 grind
end Go.Sf.Sc
namespace Go.Sf.Sc
open Go Go.Sf
structure Uq(t:AC)(q:d6):Prop where
 g:Cp q.d3
 kind:∀n∈q.d3.ci,0<=n/\n<t.ci.length
 vars:0<=q.em/\q.em<=12
 few:q.ei.length<=10/\q.kg.length<=10
 slot:∀s∈q.ei,(0<=s.o4/\s.o4<q.d3.ci.length)/\(0<=s.kh/\s.kh<(A4 t (AA q.d3.ci s.o4)).length)/\JN q.em s.gp
 test:∀x∈q.kg,(x.kl=1\/x.kl=2)/\JN q.em x.gl/\JN q.em x.ec
 ge:CE q.d3=0
 ty:C0 t q.d3=X
variable{n:Int}{x:gp}
theorem sP(h:OU n x=X):JN n x:=by
 unfold OU at h;simp[sx]at h;exact⟨h.1.1.1,h.1.1.2,h.1.2,h.2⟩
theorem sQ{l:List Test}(h:Jr n l=0):∀x∈l,(x.kl=1\/x.kl=2)/\JN n x.gl/\JN n x.ec:=by
 unfold Jr at h;split at h
 .cases h
 split at h
 .cases h
 have g:=VR h;intro x d;obtain⟨i,j,i1,rfl⟩:=BT d;have:=g i j i1;unfold LZ at this;split at this
 .cases this
 split at this
 .rename_i o e;rw[pc]at e
  grind [sP]
 .cases this
theorem lv(n:Int)(l:List Test):Jr n l≠9:=by
 unfold Jr;split
 .decide
 split
 .decide
 intro h;cases hr:fst (λi=>nz (LZ n (AA l i))) 0 l.length with
 |none=>rw[hr]at h;cases h
 |some r=>
  grind [Cl,nz,LZ]
variable{t:AC}{q:d6}
theorem qt(hv:(BD t).2=0)(h:FD t q=0\/FD t q=9):Uq t q:=by
 have w:=YP q.d3;unfold FD at h;rw[ae k_]at h;split at h
 .omega
 rename_i j;have g:=Di (z!.1 j);split at h
 .omega
 rename_i e;split at h
 .omega
 rename_i z;split at h
 .omega
 rename_i A;split at h
 .omega
 rename_i B;split at h
 .grind[lv]
 rename_i u;refine⟨g,(Hu g f_).1,U,U,λs y=>?_,sQ (z!.1 u),z!.1 j,f_⟩;have hb:TE t q s=T:=by
  grind
 unfold TE at hb;simp[Bool.not_eq_false',decide_eq_false_iff_not]at hb;obtain⟨⟨⟨d,D⟩,E⟩,F,G⟩:=hb;unfold Sg at d;dsimp only at d;split at d
 .cases d
 rename_i C;have r:=(Hu g f_).1 _ (AF (l:=q.d3.ci) (show 0<=s.o4 by omega) U);rw[JP hv r.1 r.2]at d;split at d
 .cases d
 rename_i o;have o:¬(s.kh<0\/((A4 t (AA q.d3.ci s.o4)).length:Int)<=s.kh):=o;exact⟨U,U,U,U,U,U⟩
def Ob(h:AG)(m:d4)(s:CA):Int:=AA (AA h.eh (AA m.ci s.o4)) s.kh
def Qr(h:AG)(m:d4)(s:CA)(st:Fp×a6):Fp×a6:=
 if 0<=s.gp.Var/\AA st.2 s.gp.Var=T then(BF st.1 s.gp.Var (AJ (Ob h m s-s.gp.Add)),BF st.2 s.gp.Var X)else st
def FP{ρ:Type}(r:ρ)(h:AG)(m:d4)(s:CA)(st:Fp×a6):Bz (Fp×a6) ρ:=
 if DW s.gp (Qr h m s st).1=Ob h m s then .next (Qr h m s st)else .ret r
structure VI(n:Int)(st:Fp×a6):Prop where
 l1:(st.1.length:Int)=n
 l2:(st.2.length:Int)=n
 small:Q9 st.1
structure KO(n:Int)(h:AG)(m:d4)(s:CA):Prop where
 node:0<=s.o4/\s.o4<m.ci.length
 val:0<=AA m.ci s.o4/\AA m.ci s.o4<h.eh.length
 AbG:0<=s.kh/\s.kh<(AA h.eh (AA m.ci s.o4)).length
 term:JN n s.gp
 has:-1000000<=Ob h m s/\Ob h m s<=1000000
variable{h:AG}{m:d4}{s:CA}
theorem Ox(g:Fd t)(j:Uq t q)(hh:If t h)(e:Zr t q.d3 h.d3 m)(o:s∈q.ei):KO q.em h m s:=by
 obtain ⟨u,w,y⟩:=j.slot s o;have z:=e.Aal;have d:=e.node s.o4 u.1 U;have hr:=hh.row _ d.1.1 d.1.2;have r:=hh.kind _ d.1.1 d.1.2;have hb:=aV g r.2 d.2;have hv:=hh.len;refine⟨U,U,U,y,?_⟩;unfold Ob;exact hh.low _ d.1.1 d.1.2 _ (AF w.1 U)
theorem DQ{α:Type}(l:List α)(i:Int)(a:α):(BF l i a).length=l.length:=by unfold BF;rw[List.length_set]
variable{i:Int}
theorem rW{α:Type}{l:List α}{a x:α}(h:x∈BF l i a):x∈l\/x=a:=List.mem_or_eq_of_mem_set h
variable{st:Fp×a6}
theorem oe(e:KO n h m s)(hi:VI n st):VI n (Qr h m s st):=by
 have g:=e.has;have j:=e.term.add;unfold Qr;split
 .refine⟨by rw[DQ];exact hi.l1,by rw[DQ];exact hi.l2,λx d=>?_⟩;rcases rW d with d|rfl
  .exact hi.small x d
  grind [AT]
 .exact hi
def GP(q:d6)(h:AG)(m:d4):Fp×Int:=
 match El (FP (([],11):Fp×Int) h m) q.ei (x! q.em.toNat 0,x! q.em.toNat T)with
 |.inr r=>r|.inl st=>if kq (λi=>!MB (AA q.kg i) st.1) 0 q.kg.length=X then([],16)else(st.1,0)
theorem Tp(d:0<=n):VI n (x! n.toNat 0,x! n.toNat T):=by
 refine ⟨an,an,λx e=>?_⟩
 grind
variable{st':Fp×a6}
theorem Q8{ρ:Type}{r:ρ}(d:KO n h m s)(hi:VI n st)(e:FP r h m s st=.next st'):VI n st':=by grind[FP,oe]
theorem oh{ρ:Type}{r:ρ}:FP r h m s st≠.brk st':=by grind[FP]
theorem QJ{ρ:Type}{r:ρ}{l:List CA}(d:∀s∈l,KO n h m s)(hi:VI n st)(e:El (FP r h m) l st=.inl st'):VI n st':=
 gF (FP r h m) (VI n) l st st' hi (λa ha _ _ g j=>Q8 (d a ha) g j) (λ_ _ _ _=>oh) e
theorem Rr{ρ:Type}{r:ρ}(w:KO n h m s)(hi:VI n st){θ:Fp×a6->Option (Bz (Fp×a6) ρ)}
  (j:∀st':Fp×a6,(st'.1.length:Int)=n->θ st'=Y (if DW s.gp st'.1=Ob h m s then .next st' else .ret r)):
  ((if(decide (0<=s.gp.Var))=X then((idx st.2 s.gp.Var).bind λo=>Y (!o))else Y T).bind λu=>
   if u=X then(idx st.1 s.gp.Var).bind λ_=>(idx st.2 s.gp.Var).bind λ_=>θ (BF st.1 s.gp.Var (AJ (Ob h m s-s.gp.Add)),BF st.2 s.gp.Var X)else θ (st.1,st.2))=Y (FP r h m s st):=by
 have y:=w.term.high;have l1:=hi.l1;have l2:=hi.l2;unfold FP;by_cases d:0<=s.gp.Var
 .rw[ac c?,AD d U,bs,bs];by_cases g:AA st.2 s.gp.Var=T
  .rw[ac o!,AD d U,bs,bs,j _ (by dsimp only;rw[DQ];exact l1)];have e:Qr h m s st=(BF st.1 s.gp.Var (AJ (Ob h m s-s.gp.Add)),BF st.2 s.gp.Var X):=by unfold Qr;rw[ac ⟨d,g⟩]
   rw [e]
  .rw[ae g_,j _ l1];have e:Qr h m s st=st:=by unfold Qr;rw[ae (λe=>g e.2)]
   rw [e]
 .rw[ae c?,bs,ae a!,j _ l1];have e:Qr h m s st=st:=by unfold Qr;rw[ae (λe=>d e.1)]
  rw [e]
theorem iI{ρ:Type}{r:ρ}(j:KO n h m s)(hi:VI n st){θ:Fp×a6->Option (Bz (Fp×a6) ρ)}
  (o:∀st':Fp×a6,(st'.1.length:Int)=n->θ st'=Y (if DW s.gp st'.1=Ob h m s then .next st' else .ret r)):
  ((if(decide (0<=s.gp.Var))=X then((idx st.2 s.gp.Var).bind λd=>Y (!d))else Y T).bind λe=>
   if e=X then(idx st.2 s.gp.Var).bind λ_=>(idx st.1 s.gp.Var).bind λ_=>θ (BF st.1 s.gp.Var (AJ (Ob h m s-s.gp.Add)),BF st.2 s.gp.Var X)else θ (st.1,st.2))=Y (FP r h m s st):=by
 rw [<-Rr j hi o];have u:=j.term.high;have l1:=hi.l1;have l2:=hi.l2;by_cases g:0<=s.gp.Var
 .rw[AD g U,AD g U];rfl
 .rw[ae g_];rfl
variable{v:Int}
theorem bM{t:gp}{f:gp->Fp->a5}(hf:∀l:Fp,(l.length:Int)=n->f t l=Y (DW t l))(st':Fp×a6)(e:(st'.1.length:Int)=n):((f t st'.1).bind λd=>if(!decide (d=v))=X then Y (Bz.ret (([],11):Fp×Int))else Y (.next st'))=Y (if DW t st'.1=v then .next st' else .ret ([],11)):=m?
theorem jQ(j:Uq t q)(o:∀s∈q.ei,KO q.em h m s):GD q h m=Y (GP q h m):=by
 have hv:=j.vars;unfold GD GP Hi;rw[ac U,bs,ac U,bs];rw[Sp (FP (([],11):Fp×Int) h m) (VI q.em) (Tp hv.1)]
 .cases hr:El (FP (([],11):Fp×Int) h m) q.ei (x! q.em.toNat 0,x! q.em.toNat T)with
  |inr r=>rfl|inl st=>
   have hi:=QJ o (Tp hv.1) hr;rw[B3,Bo (λi=>!MB (AA q.kg i) st.1) ([],16)]
   .dsimp only;cases kq (λi=>!MB (AA q.kg i) st.1) 0 q.kg.length<;>rfl
   .intro i d i1 _;have u:=j.test _ (AF d i1);rw[AD d i1,bs,p_holds u.2.1 u.2.2 hi.small (by have:=hi.l1;omega),bs]
    grind
 .intro i st d i1 hi;have ha:=o _ (AF d i1);refine⟨?_,λs' e=>Q8 ha hi e⟩;rw[AD d i1,bs,AD ha.node.1 ha.node.2,bs,AD ha.val.1 ha.val.2,bs,AD ha.AbG.1 ha.AbG.2,bs];exact Rr ha hi (θ:=λst'=>(E5 (AA q.ei i).gp st'.1).bind λg=>if(!decide (g=Ob h m (AA q.ei i)))=X then Y (Bz.ret (([],11):Fp×Int))else Y (.next st')) (bM λl w=>Vi p_)
theorem jZ(j:Uq t q)(o:∀s∈q.ei,KO q.em h m s):Iq q h m=Y (GP q h m):=by
 have hv:=j.vars;unfold Iq GP Hi;rw[ac U,bs,ac U,bs];rw[Sp (FP (([],11):Fp×Int) h m) (VI q.em) (Tp hv.1)]
 .cases hr:El (FP (([],11):Fp×Int) h m) q.ei (x! q.em.toNat 0,x! q.em.toNat T)with
  |inr r=>rfl|inl st=>
   have hi:=QJ o (Tp hv.1) hr;rw[B3,Bo (λi=>!MB (AA q.kg i) st.1) ([],16)]
   .dsimp only;cases kq (λi=>!MB (AA q.kg i) st.1) 0 q.kg.length<;>rfl
   .intro i d i1 _;have u:=j.test _ (AF d i1);rw[AD d i1,bs,r_holds u.2.1 u.2.2 (by have:=hi.l1;omega),bs]
    grind
 .intro i st d i1 hi;have ha:=o _ (AF d i1);refine⟨?_,λs' e=>Q8 ha hi e⟩;rw[AD d i1,bs,AD ha.node.1 ha.node.2,bs,AD ha.val.1 ha.val.2,bs,AD ha.AbG.1 ha.AbG.2,bs];exact iI ha hi (θ:=λst'=>(J5 (AA q.ei i).gp st'.1).bind λg=>if(!decide (g=Ob h m (AA q.ei i)))=X then Y (Bz.ret (([],11):Fp×Int))else Y (.next st')) (bM λl w=>bB p_)
def OL(t:AC)(p:d6)(h:AG):Int:=if FD t p≠0 then FD t p else(Dd t h).2
theorem ak(hf:A3 t)(p:d6)(h:AG):E4 t p h=Y (OL t p h):=by
 unfold E4 OL;rw[Ym hf,bs];refine EN λ_=>?_;rw[Vh hf];rfl
theorem ay(hf:A3 t)(p:d6)(h:AG):IS t p h=Y (OL t p h):=by
 unfold IS OL;rw[cu hf,bs];refine EN λ_=>?_;rw[Vo hf];rfl
def Gg(t:AC)(p:d6)(h:AG)(m:d4):Fp×Int:=
 if OL t p h≠0 then([],OL t p h)else if Gd t p.d3 h.d3 m T≠0 then([],Gd t p.d3 h.d3 m T)else GP p h m
variable{p:d6}
theorem Qs(hf:A3 t){inj:Bool}(d:OL t p h=0)(e:Gd t p.d3 h.d3 m inj=0):(BD t).2=0/\Uq t p/\If t h/\Zr t p.d3 h.d3 m:=by
 unfold OL at d;split at d
 .grind
 rename_i g;obtain⟨hv,hh⟩:=QB hf d;exact⟨hv,qt hv (.inl (z!.1 g)),hh,(dZ e).2⟩
theorem jJ(hf:A3 t)(p:d6)(h:AG)(m:d4):E3 t p h m=Y (Gg t p h m):=by
 unfold E3 Gg;rw[ak hf,bs];refine Dy λe=>?_;rw[Za hf,bs];refine Dy λg=>?_;obtain⟨hv,d,hh,o⟩:=Qs hf e g;rw[jQ d (λs j=>Ox (Cq hv) d hh o j)];rfl
theorem uu(hf:A3 t)(p:d6)(h:AG)(m:d4):J4 t p h m=Y (Gg t p h m):=by
 unfold J4 Gg;rw[ay hf,bs];refine Dy λe=>?_;rw[Zh hf,bs];refine Dy λg=>?_;obtain⟨hv,d,hh,o⟩:=Qs hf e g;rw[jZ d (λs j=>Ox (Cq hv) d hh o j)];rfl
theorem oi(d:Uq t q)(g:∀s∈q.ei,KO q.em h m s)(e:(GP q h m).2=0):((GP q h m).1.length:Int)=q.em/\Q9 (GP q h m).1:=by
 unfold GP at e|-;cases hr:El (FP (([],11):Fp×Int) h m) q.ei (x! q.em.toNat 0,x! q.em.toNat T)with
 |inr r=>
  rw [hr]at e;have:∀(l:List CA)(st:Fp×a6)(r:Fp×Int),El (FP (([],11):Fp×Int) h m) l st=.inr r->r=([],11):=by
   intro l
   induction l with
   |nil=>intro st r h;cases h
   |cons a l o=>
    grind [El,FP]
  grind
 |inl st=>
  rw [hr]at e;have hi:=QJ g (Tp d.vars.1) hr;dsimp only at e|-;split at e
  .cases e
  next j=>rw[ae j];exact⟨hi.l1,hi.small⟩
end Go.Sf.Sc
namespace Go.Sf.Sc
open Go Go.Sf
variable{i:Int}
theorem Kw{n:Nat}{α:Type}[Inhabited α](F:Int->α)(d:0<=i)(v:α):BF ((Ay n).map F) i v=(Ay n).map λj=>if j=i then v else F j:=by
 unfold BF;refine x? V (λk e g=>?_)
 grind [A2,Ay]
theorem DM{n:Nat}{α:Type}{F G:Int->α}(h:∀j,0<=j->j<(n:Int)->F j=G j):(Ay n).map F=(Ay n).map G:=by grind[List.map_congr_left,C5]
def H0(n:Nat)(k:Int):a6:=(Ay n).map λj=>decide (j<k)
theorem YZ(n:Nat):H0 n 0=x! n T:=by
 unfold H0;refine x? (by simp[A2]) (λk d e=>?_)
 grind [Ay,A2]
theorem aZ(n:Nat)(k:Int):(H0 n k).length=n:=by unfold H0;rw[cL,A2]
def OW(q:d6)(h:AG)(m:d4)(given:Fp):Fp×Bool:=
 match El (FP (([],T):Fp×Bool) h m) q.ei (given++x! (q.em-given.length).toNat 0,H0 q.em.toNat given.length)with
 |.inr r=>r|.inl st=>if kq (λi=>!MB (AA q.kg i) st.1) 0 q.kg.length=X then([],T)else(st.1,X)
variable{n:Int}{given:Fp}
theorem Xo(e:0<=n)(g:given.length<=n)(hv:Q9 given):VI n (given++x! (n-given.length).toNat 0,H0 n.toNat given.length):=by
 refine ⟨an,by show((H0 n.toNat given.length).length:Int)=n;rw[aZ];omega,λx d=>?_⟩;rcases v?.1 d with d|d
 .exact hv x d
 grind
variable{q:d6}{m:d4}{t:AC}
theorem xZ{s:Bj}(o:Uq t q)(u:∀x∈q.ei,KO q.em s.h m x)(z:given.length<=q.em)(hv:Q9 given):EU s q m given=Y (OW q s.h m given):=by
 have B:=o.vars;unfold EU OW slices_Clone_int;rw[Be b_,bs,AT U U];have C:dQ given (q.em-given.length) 0=Y (given++x! (q.em-given.length).toNat 0):=by
  grind [dQ,AX]
 have D:Hi q.em T=Y (x! q.em.toNat T):=by
  grind [Hi]
 rw [C,bs,D,bs];have E:l3 (λ(d:Int)(w:a6)=>(idx w d).bind λA=>Y (BF w d X)) 0 (given.length:Int) (x! q.em.toNat T)=Y (H0 q.em.toNat given.length):=by
  refine CC (λi=>H0 q.em.toNat i) U (YZ _) (λi d i1=>?_);rw[AD d (by rw[aZ];omega),bs];congr 1;unfold H0;rw[Kw _ d]
  grind
 rw [E,bs];have j:=Xo B.1 z hv;rw[Sp (FP (([],T):Fp×Bool) s.h m) (VI q.em) j]
 .cases hr:El (FP (([],T):Fp×Bool) s.h m) q.ei (given++x! (q.em-given.length).toNat 0,H0 q.em.toNat given.length)with
  |inr r=>rfl|inl st=>
   have hi:=QJ u j hr;rw[B3,Bo (λi=>!MB (AA q.kg i) st.1) ([],T)]
   .dsimp only;cases kq (λi=>!MB (AA q.kg i) st.1) 0 q.kg.length<;>rfl
   .intro i d i1 _;have y:=o.test _ (AF d i1);rw[AD d i1,bs,p_holds y.2.1 y.2.2 hi.small (by have:=hi.l1;omega),bs]
    grind
 .intro i st d i1 hi;have ha:=u _ (AF d i1);refine⟨?_,λs' e=>Q8 ha hi e⟩;rw[AD d i1,bs,AD ha.node.1 ha.node.2,bs,AD ha.val.1 ha.val.2,bs,AD ha.AbG.1 ha.AbG.2,bs];refine Rr ha hi (θ:=λst'=>(Ff (AA q.ei i).gp st'.1).bind λg=>if((!decide (g.2=0))||(!decide (g.1=Ob s.h m (AA q.ei i))))=X then Y (Bz.ret (([],T):Fp×Bool))else Y (.next st')) (λst' F=>?_);rw[fB ha.term.low p_ U,bs]
  grind
variable{h:AG}
theorem yA(A:Uq t q)(B:∀x∈q.ei,KO q.em h m x)(G:given.length<=q.em)(hv:Q9 given):Mp q h m given=Y (OW q h m given):=by
 have E:=A.vars;unfold Mp OW;have J:Hi q.em T=Y (x! q.em.toNat T):=by
  unfold Hi;rw[ac U]
 rw [Be b_,bs,J,bs];have F:l3 (λ(d:Int)(g:Fp×a6)=>
   (idx g.2 d).bind λH=>
   if (decide ((given.length:Int)<=d))=X then
   (AY g.1 [0]).bind λy=>
   Y (y,BF g.2 d (decide (d<(given.length:Int))))
   else
   Y (g.1,BF g.2 d (decide (d<(given.length:Int))))) 0 q.em (given,x! q.em.toNat T)=Y (given++x! (q.em-given.length).toNat 0,(Ay q.em.toNat).map λj=>decide (j<q.em)&&decide (j<(given.length:Int))):=by
  refine CC (λi=>(given++x! (i-given.length).toNat 0,(Ay q.em.toNat).map λj=>decide (j<i)&&decide (j<(given.length:Int)))) E.1 ?_ (λi d i1=>?_)
  .have K:((0:Int)-given.length).toNat=0:=U
   rw [K];simp;rw[<-YZ];unfold H0;refine DM (λj C D=>?_);rw[show decide (j<0)=T by simp;omega];rfl
  .dsimp only;rw[AD d (by rw[cL,A2];omega),bs];have L:BF ((Ay q.em.toNat).map λj=>decide (j<i)&&decide (j<(given.length:Int))) i (decide (i<(given.length:Int)))=(Ay q.em.toNat).map λj=>decide (j<i+1)&&decide (j<(given.length:Int)):=by
    rw [Kw _ d];refine DM (λj C D=>?_);by_cases e:j=i
    .rw[ac e,e,show decide (i<i+1)=X by simp;omega,A_]
    .rw[ae e];congr 1;rw[decide_eq_decide];omega
   rw [L];by_cases hi:(given.length:Int)<=i
   .rw[ac n_,AS a_,bs];congr 2;rw[cR,show(i+1-given.length).toNat=(i-given.length).toNat+1 by omega,y_]
   .rw[ae n_];have M:(i+1-given.length).toNat=(i-given.length).toNat:=U
    rw [M]
 have z:((Ay q.em.toNat).map λj=>decide (j<q.em)&&decide (j<(given.length:Int)))=H0 q.em.toNat given.length:=by
  unfold H0;refine DM (λj C D=>?_);rw[show decide (j<q.em)=X by simp;omega,A_]
 rw [z]at F;rw[F,bs];have u:=Xo E.1 G hv;dsimp only;rw[Sp (FP (([],T):Fp×Bool) h m) (VI q.em) u]
 .cases hr:El (FP (([],T):Fp×Bool) h m) q.ei (given++x! (q.em-given.length).toNat 0,H0 q.em.toNat given.length)with
  |inr r=>rfl|inl st=>
   have hi:=QJ B u hr;rw[B3,Bo (λi=>!MB (AA q.kg i) st.1) ([],T)]
   .dsimp only;cases kq (λi=>!MB (AA q.kg i) st.1) 0 q.kg.length<;>rfl
   .intro i d i1 _;have w:=A.test _ (AF d i1);have I:=hi.l1;rw[AD d i1,bs,QH w.2.1.low (by have:=w.2.1.high;omega),bs,QH w.2.2.low (by have:=w.2.2.high;omega),bs,<-I7];unfold MB;dsimp only;congr 1;generalize DW (AA q.kg i).gl st.1=a;generalize DW (AA q.kg i).ec st.1=b;rcases w.1 with e|e
    .rw[e,eq_iff_iff];simp
    .rw[e,eq_iff_iff];simp
 .intro i st d i1 hi;have ha:=B _ (AF d i1);refine⟨?_,λs' e=>Q8 ha hi e⟩;rw[AD d i1,bs,AD ha.node.1 ha.node.2,bs,AD ha.val.1 ha.val.2,bs,AD ha.AbG.1 ha.AbG.2,bs];refine Rr ha hi (θ:=λst'=>(FO (AA q.ei i).gp st'.1).bind λo=>if(!decide (o.1=Ob h m (AA q.ei i)))=X then Y (Bz.ret (([],T):Fp×Bool))else Y (.next st')) (λst' I=>?_);rw[QH ha.term.low p_,bs];by_cases e:DW (AA q.ei i).gp st'.1=Ob h m (AA q.ei i)
  .rw[ae c_,ac e]
  .rw[ac c_,ae e]
theorem sT(g:Uq t q)(j:∀s∈q.ei,KO q.em h m s)(o:given.length<=q.em)(hv:Q9 given)(e:(OW q h m given).2=X):((OW q h m given).1.length:Int)=q.em/\Q9 (OW q h m given).1:=by
 unfold OW at e|-;have d:=Xo g.vars.1 o hv;cases hr:El (FP (([],T):Fp×Bool) h m) q.ei (given++x! (q.em-given.length).toNat 0,H0 q.em.toNat given.length)with
 |inr r=>
  rw [hr]at e;have:∀(l:List CA)(st:Fp×a6)(r:Fp×Bool),El (FP (([],T):Fp×Bool) h m) l st=.inr r->r=([],T):=by
   intro l
   induction l with
   |nil=>intro st r h;cases h
   |cons a l w=>
    grind [El,FP]
  grind
 |inl st=>
  rw [hr]at e;have hi:=QJ j d hr;dsimp only at e|-;split at e
  .cases e
  next u=>rw[ae u];exact⟨hi.l1,hi.small⟩
def Vk(n:Nat)(by' fq:Fp):Fp:=(Ay by'.length).foldl (λl i=>BF l (AA by' i) (AA fq i)) (x! n (-1))
theorem aG(d fq:Fp):∀(e:Fp)(l:Fp),(e.foldl (λl i=>BF l (AA d i) (AA fq i)) l).length=l.length
 |[],l=>rfl|k::e,l=>by rw[List.foldl_cons,aG d fq e,DQ]
theorem Yr{n:Nat}{d fq:Fp}(hb:∀x∈d,0<=x/\x<n)(w:d.length<=fq.length):l3 (λ(g:Int)(o:Fp)=>
  (idx d g).bind λe=>
  (idx fq g).bind λj=>
  (idx o e).bind λr=>
  Y (BF o e j)) 0 (d.length:Int) (x! n (-1))=Y (Vk n d fq):=by
 have h:=CC (f:=λ(g:Int)(o:Fp)=>
  (idx d g).bind λe=>
  (idx fq g).bind λj=>
  (idx o e).bind λr=>
  Y (BF o e j)) (λi=>(Ay i.toNat).foldl (λl i=>BF l (AA d i) (AA fq i)) (x! n (-1))) (a:=0) (b:=d.length) (s:=x! n (-1)) U rfl (λi g i1=>by
   have u:=hb _ (AF g i1);rw[AD g i1,bs,AD g U,bs,AD u.1 (by rw[aG];simpa using u.2),bs,Eo g,List.foldl_append];rfl)
 rw [h,A!];rfl
theorem fM{n:Nat}{d fq:Fp}(g:n<=1000)(hb:∀x∈d,0<=x/\x<n)(e:d.length<=fq.length):Gt n d fq=Y (Vk n d fq):=by
 unfold Gt Df;rw[ac ⟨rfl,U,U⟩,bs];show(l3 _ 0 _ (x! (n:Int).toNat (-1))).bind _=_;rw[A!,Yr hb e];rfl
theorem fY{n:Nat}{d fq:Fp}(g:n<=1000)(hb:∀x∈d,0<=x/\x<n)(e:d.length<=fq.length):Kg n d fq=Y (Vk n d fq):=by
 unfold Kg;rw[CC (a:=0) (b:=n) (s:=[]) (λi=>x! i.toNat (-1)) U rfl,bs,A!,Yr hb e]
 .rfl
 .intro i j i1;rw[AS a_,bs,show(i+1).toNat=i.toNat+1 by omega,y_]
end Go.Sf.Sc
namespace Go.Sf.Sc
open Go Go.Sf
structure sY(f:AM):Prop where
 nl:f.ea.length<=f.p.ci.length
 node:∀i:Int,0<=i->i<f.ea.length->(0<=AA f.ea i/\AA f.ea i<f.g.ci.length)/\AA (AA f.is (AA f.p.ci i)) (AA f.g.ci (AA f.ea i))=X
 edge:∀i:Int,0<=i->i<f.eb.length->(0<=AA f.eb i/\AA f.eb i<f.g.c9.length)/\AA f.g.c9 (AA f.eb i)=⟨(AA f.p.c9 i).j4,AA f.ea (AA f.p.c9 i).jj,AA f.ea (AA f.p.c9 i).To⟩
 inj:f.ff=X->f.ea.Nodup/\f.eb.Nodup
structure j9(f:AM)(m:d4):Prop where
 nl:m.ci.length=f.p.ci.length
 el:m.c9.length=f.p.c9.length
 node:∀i:Int,0<=i->i<m.ci.length->(0<=AA m.ci i/\AA m.ci i<f.g.ci.length)/\AA (AA f.is (AA f.p.ci i)) (AA f.g.ci (AA m.ci i))=X
 edge:∀i:Int,0<=i->i<m.c9.length->(0<=AA m.c9 i/\AA m.c9 i<f.g.c9.length)/\AA f.g.c9 (AA m.c9 i)=⟨(AA f.p.c9 i).j4,AA m.ci (AA f.p.c9 i).jj,AA m.ci (AA f.p.c9 i).To⟩
 inj:f.ff=X->m.ci.Nodup/\m.c9.Nodup
variable{i:Int}
theorem M6{α:Type}[Inhabited α](l:List α)(x:α)(h:i=l.length):AA (l++[x]) i=x:=by grind[Og]
variable{l:Fp}{k:Int}
theorem Yg{b:Bool}(h:(!(b&&l.any λx=>decide (k=x)))=X)(hb:b=X)(d:l.Nodup):(l++[k]).Nodup:=m?
theorem Zt:∀(n:Nat)(f:AM),sY f->f.ea.length=f.p.ci.length->f.eb.length+n=f.p.c9.length->∀m∈EL n f,j9 f m
 |0,f,j,y,he,m,d=>by
  rw [EL,List.mem_singleton]at d;subst d;exact⟨y,by simpa using he,j.node,j.edge,j.inj⟩
 |n+1,f,j,y,he,m,d=>by
  rw [EL,y!]at d;obtain⟨k,u,d⟩:=d;have u:=C5.1 u;split at d
  .rename_i o;unfold SM at o;rw[pc]at o;obtain⟨r,w⟩:=o;rw[Xj,pc,sx]at r;have:=Zt n {f with eb:=f.eb++[k]} ⟨j.nl,j.node,λi z i1=>by
    have i1:i<((f.eb++[k]).length:Int):=i1;simp at i1;show(0<=AA (f.eb++[k]) i/\AA (f.eb++[k]) i<f.g.c9.length)/\AA f.g.c9 (AA (f.eb++[k]) i)=⟨(AA f.p.c9 i).j4,AA f.ea (AA f.p.c9 i).jj,AA f.ea (AA f.p.c9 i).To⟩;by_cases e:i=f.eb.length
    .rw[M6 _ _ e];exact⟨u,by rw[e];exact r.2⟩
    .rw[Lj _ _ z U];exact j.edge i z U,λhi=>⟨(j.inj hi).1,Yg w hi (j.inj hi).2⟩⟩ y (by show(f.eb++[k]).length+n=f.p.c9.length;rw[b6,y?];omega) m d
   exact ⟨this.nl,this.el,this.node,this.edge,this.inj⟩
  .cases d
theorem Zu:∀(n:Nat)(f:AM),sY f->f.eb=[]->f.ea.length+n=f.p.ci.length->∀m∈FR n f,j9 f m
 |0,f,o,he,z,m,j=>by
  grind [FR,Zt]
 |n+1,f,o,he,z,m,j=>by
  rw [FR,y!]at j;obtain⟨k,u,j⟩:=j;have u:=C5.1 u;split at j
  .rename_i d;unfold SN at d;rw[pc,pc]at d;obtain⟨⟨_,w⟩,y⟩:=d;have:=Zu n {f with ea:=f.ea++[k]} ⟨by show(f.ea++[k]).length<=f.p.ci.length;rw[b6,y?];omega,λi r i1=>by
    have i1:i<((f.ea++[k]).length:Int):=i1;simp at i1;show(0<=AA (f.ea++[k]) i/\AA (f.ea++[k]) i<f.g.ci.length)/\AA (AA f.is (AA f.p.ci i)) (AA f.g.ci (AA (f.ea++[k]) i))=X;by_cases e:i=f.ea.length
    .rw[M6 _ _ e];exact⟨u,by rw[e];exact w⟩
    .rw[Lj _ _ r U];exact o.node i r U,λi r i1=>by
    have i1:i<(f.eb.length:Int):=i1;rw[he]at i1;have:i<(0:Nat):=i1;omega,λhi=>⟨Yg y hi (o.inj hi).1,(o.inj hi).2⟩⟩ he (by show(f.ea++[k]).length+n=f.p.ci.length;rw[b6,y?];omega) m j
   exact ⟨this.nl,this.el,this.node,this.edge,this.inj⟩
  .cases j
variable{t:AC}{m:d4}
theorem YK{p g:d3}{pa:d4}{inj:Bool}(d:m∈JY t p g pa inj):j9 (FF t p g pa inj) m:=
 Zu _ (FF t p g pa inj) ⟨Nat.zero_le _,λi e i1=>by have i1:i<(0:Nat):=i1;omega,λi e i1=>by have i1:i<(0:Nat):=i1;omega,λ_=>⟨z_,z_⟩⟩ rfl p! m (List.mem_of_mem_take d)
theorem eC{p g:d3}{pa:d4}{inj:Bool}(h:Ep t p g=0)(r:m∈JY t p g pa inj):Zr t p g m:=by
 obtain ⟨hv,z,A,tp,u⟩:=Oa h;have:=YK r;refine⟨this.nl,this.el,λi d i1=>?_,λi d i1=>(this.edge i d i1).1⟩;obtain⟨e,o⟩:=this.node i d i1;refine⟨e,?_⟩;have j:=this.nl;have w:=tp _ (AF (l:=p.ci) d (by show i<(p.ci.length:Int);have j:m.ci.length=p.ci.length:=j;omega));have y:=u _ (AF (l:=g.ci) e.1 e.2);have o:AA (AA (KA t) (AA p.ci i)) (AA g.ci (AA m.ci i))=X:=o
 grind [AA,KA,Pk,JI,G4]
theorem my{p g:d3}{pa:d4}{inj:Bool}(h:Ep t p g=0)(o:m∈JY t p g pa inj):Gd t p g m inj=0:=by
 have ok:=eC h o;have r:=YK o;have u:OR t p g m=0:=by
  unfold OR;rw[ae (by have:=ok.Aal;have:=ok.Aao;omega)];have w:fst (KS t p g m) 0 m.ci.length=W:=by
   rw [BC];intro i d i1;obtain⟨e,j⟩:=ok.node i d i1
   grind [KS]
  have y:fst (Gp p g m) 0 m.c9.length=W:=by
   rw [BC];intro i d i1;obtain⟨e,j⟩:=r.edge i d i1;have e:0<=AA m.c9 i/\AA m.c9 i<g.c9.length:=e;have j:AA g.c9 (AA m.c9 i)=⟨(AA p.c9 i).j4,AA m.ci (AA p.c9 i).jj,AA m.ci (AA p.c9 i).To⟩:=j
   grind [Gp]
  rw [w,y];rfl
 unfold Gd;rw[ae (by simp[h]),ae p?];cases inj
 .rfl
 .have:=r.inj rfl
  grind [Ik,Jx]
theorem dj{p g:d3}{pa:d4}{inj:Bool}(h:(T9 t p g pa inj).2=0):(T9 t p g pa inj).1.length<=5000/\∀m∈(T9 t p g pa inj).1,Zr t p g m:=by grind[T9,eC]
structure Xs(t:AC)(p:d6)(h:AG)(x:AQ):Prop where
 q:Uq t p
 m:Zr t p.d3 h.d3 x.d4
 len:(x.em.length:Int)=p.em
 small:Q9 x.em
structure mB(t:AC)(p:d6)(c:d5):Prop where
 q:Uq t c.d6
 vars:p.em<=c.d6.em
 map:Tu p.d3 c.d6.d3 c.Map
 inj:Ik c.Map=X
def EG(t:AC)(c:d5)(h:AG)(m:AQ)(inj:Bool):List AQ×Int:=
 let x:=T9 t c.d6.d3 h.d3 ⟨Vk c.d6.d3.ci.length c.Map.ci m.d4.ci,Vk c.d6.d3.c9.length c.Map.c9 m.d4.c9⟩ inj
 if x.2≠0 then([],x.2)else((x.1.filter λy=>(OW c.d6 h y m.em).2).map λy=>⟨y,(OW c.d6 h y m.em).1⟩,0)
instance:Inhabited d4:=⟨⟨[],[]⟩⟩
instance:Inhabited AQ:=⟨⟨default,[]⟩⟩
instance:Inhabited BN:=⟨⟨0,default,[]⟩⟩
theorem QX{x:List d4}{F:d4->Fp×Bool}{f:Int->List AQ->Option (List AQ)}(j:x.length<=5000)
  (hf:∀(i:Int)(s:List AQ),0<=i->i<x.length->s.length<=5000->f i s=Y (if(F (AA x i)).2=X then s++[⟨AA x i,(F (AA x i)).1⟩]else s)):
  l3 f 0 (x.length:Int) []=Y ((x.filter λy=>(F y).2).map λy=>⟨y,(F y).1⟩):=by
 rw [CC (a:=0) (b:=x.length) (s:=[]) (λi=>((x.take i.toNat).filter λy=>(F y).2).map λy=>(⟨y,(F y).1⟩:AQ)) U rfl,A!,List.take_length];intro i d i1;have e:(((x.take i.toNat).filter λy=>(F y).2).map λy=>(⟨y,(F y).1⟩:AQ)).length<=5000:=by
  grind
 rw [hf i _ d i1 e,CH d i1,List.filter_append,List.map_append];cases g:(F (AA x i)).2<;>simp[g]
variable{p:d6}{c:d5}
theorem xO{s:Bj}{m:AQ}(hf:A3 s.t)(hv:(BD s.t).2=0)(hh:If s.t s.h)(ha:Xs s.t p s.h m)(hi:mB s.t p c):Cd s c m=Y (EG s.t c s.h m s.ff):=by
 have A:=hi.q.g.ea;have ge:=hi.q.g.eb;have m1:=hi.map.Aal;have B:=hi.map.Aao;have C:=ha.m.Aal;have D:=ha.m.Aao;unfold Cd EG;rw[fM U (λx e=>by obtain⟨i,d,i1,rfl⟩:=BT e;exact(hi.map.node i d i1).1) U,bs,
  fM U (λx e=>by obtain⟨i,d,i1,rfl⟩:=BT e;exact(hi.map.edge i d i1).1) U,bs,qZ hf,bs]
 dsimp only;refine Dy λj=>?_;obtain⟨u,w⟩:=dj j;rw[QX (F:=λy=>OW c.d6 s.h y m.em) u]
 .rfl
 .intro i st d i1 z;have o:=w _ (AF d i1);have r:(m.em.length:Int)<=c.d6.em:=r!
  rw [AD d i1,bs,xZ hi.q (λx e=>Ox (Cq hv) hi.q hh o e) r ha.small,bs,<-I7]
  grind [AS,AX]
variable{h:AG}
theorem xh{inj:Bool}{m:AQ}(hf:A3 t)(hv:(BD t).2=0)(hh:If t h)(ha:Xs t p h m)(hi:mB t p c):FY t c h m inj=Y (EG t c h m inj):=by
 have A:=hi.q.g.ea;have ge:=hi.q.g.eb;have m1:=hi.map.Aal;have B:=hi.map.Aao;have C:=ha.m.Aal;have D:=ha.m.Aao;unfold FY EG;rw[fY U (λx e=>by obtain⟨i,d,i1,rfl⟩:=BT e;exact(hi.map.node i d i1).1) U,bs,
  fY U (λx e=>by obtain⟨i,d,i1,rfl⟩:=BT e;exact(hi.map.edge i d i1).1) U,bs,qy hf,bs]
 dsimp only;refine Dy λj=>?_;obtain⟨u,w⟩:=dj j;rw[QX (F:=λy=>OW c.d6 h y m.em) u]
 .rfl
 .intro i st d i1 z;have o:=w _ (AF d i1);have r:(m.em.length:Int)<=c.d6.em:=r!
  rw [AD d i1,bs,yA hi.q (λx e=>Ox (Cq hv) hi.q hh o e) r ha.small,bs,<-I7]
  grind [AS,AX]
theorem ir{inj:Bool}{m:AQ}(hv:(BD t).2=0)(hh:If t h)(ha:Xs t p h m)(hi:mB t p c)(e:(EG t c h m inj).2=0):(EG t c h m inj).1.length<=5000/\∀x∈(EG t c h m inj).1,Xs t c.d6 h x:=by
 unfold EG at e|-;dsimp only at e|-;split at e
 .grind
 rename_i j;rw[ae j];obtain⟨u,w⟩:=dj (z!.1 j);refine⟨by dsimp only;rw[cL];exact Nat.le_trans (List.length_filter_le _ _) u,λx d=>?_⟩;dsimp only at d;rw[List.mem_map]at d;obtain⟨y,g,rfl⟩:=d;rw[List.mem_filter]at g;have o:=w y g.1;have r:(m.em.length:Int)<=c.d6.em:=r!
 have:=sT hi.q (λx d=>Ox (Cq hv) hi.q hh o d) r ha.small g.2;exact⟨hi.q,o,this.1,this.2⟩
end Go.Sf.Sc
namespace Go.Sf.Sc
open Go Go.Sf
inductive CV(t:AC):d6->d5->Prop where
 |mk (p:d6) (c:d5) (few:c.fl.length<=40) (rng:1<=c.kl/\c.kl<=5) (one:c.kl=2\/c.kl=5->c.fl.length=1) (ins:c.kl=5->mB t p c) (kids:∀k∈c.fl,CV t (if c.kl=5 then c.d6 else p) k):CV t p c
variable{t:AC}{p:d6}{c:d5}
theorem CV.few(h:CV t p c):c.fl.length<=40:=j_
theorem CV.rng(h:CV t p c):1<=c.kl/\c.kl<=5:=j_
theorem CV.one(h:CV t p c):c.kl=2\/c.kl=5->c.fl.length=1:=j_
theorem CV.ins(h:CV t p c):c.kl=5->mB t p c:=j_
theorem CV.kids(h:CV t p c):∀k∈c.fl,CV t (if c.kl=5 then c.d6 else p) k:=j_
theorem CV.kid(h:CV t p c)(d:¬c.kl=5):∀k∈c.fl,CV t p k:=λk e=>by have:=h.kids k e;rwa[ae d]at this
theorem CV.kid5(h:CV t p c)(d:c.kl=5):∀k∈c.fl,CV t c.d6 k:=λk e=>by have:=h.kids k e;rwa[ac d]at this
theorem VD:∀l:List d5,l.length<=TF l
 |[]=>by simp|c::l=>by
  have:=VD l
  grind [TF,Dv,VE,cE]
variable{q:d6}{v:Int}
theorem AAh(hv:(BD t).2=0)(h:TK t q v=0):Uq t q:=by grind[TK,qt]
theorem sj(hv:(BD t).2=0):∀(N:Nat)(c:d5)(p:d6),SizeOf.sizeOf c<=N->Dv c<=40->Tq N c=X->I5 N t p c=0->CV t p c
 |0,c,_,h,_,_,_=>by have:=Dx c;omega|N+1,c,p,h,L,z,ho=>by
  have E:=VE c;have F:=VD c.fl;rw[Tq,pc]at z;obtain⟨u,o⟩:=z;have d:c.kl=2\/c.kl=5->c.fl.length=1:=by
   intro j;unfold UI at u
   grind
  have g:1<=c.kl/\c.kl<=5:=by
   grind [UI]
  have w:∀q,(fst (λi=>nz (I5 N t q (AA c.fl i))) 0 c.fl.length).getD 0=0->∀k∈c.fl,CV t q k:=by
   intro q A k j;have G:=VR A;have J:=XD j;have K:=Ed j;rw[List.all_eq_true]at o;obtain⟨i,H,i1,e⟩:=BT j;have y:=G i H i1;rw[e]at y;exact sj hv N k q U U (o k j) y
  rw [I5]at ho;by_cases r:c.kl=5
  .rw[ac r]at ho;split at ho
   .cases ho
   rename_i I;split at ho
   .grind
   rename_i B;split at ho
   .grind
   rename_i C;split at ho
   .cases ho
   rename_i D;refine CV.mk p c U g d (λ_=>⟨AAh hv (z!.1 B),U,WL (z!.1 C),by simpa using D⟩) ?_
   grind
  .rw[ae r]at ho;refine CV.mk p c U g d (λe=>absurd e r) ?_
   grind
section
variable{α σ ρ:Type}
variable{f:Int->σ->Option (Bz σ ρ)}
theorem Ut[Inhabited α]{l:List α}(step:α->σ->Bz σ ρ)(I:Int->σ->Prop)(h:∀(i:Int)s,0<=i->i<l.length->I i s->f i s=Y (step (AA l i) s)/\∀s',step (AA l i) s=.next s'->I (i+1) s'):
  ∀(n:Nat)(a:Int)(s:σ),0<=a->a+n=l.length->I a s->zt f n a s=Y (El step (l.drop a.toNat) s)
 |0,a,s,d,o,_=>by
  rw [w! U];rfl
 |n+1,a,s,d,o,u=>by
  obtain ⟨g,j⟩:=h a s d U u;have hd:l.drop a.toNat=AA l a::l.drop (a+1).toNat:=by
   grind [w?,AA,x_]
  rw [GG,g,hd,El];cases e:step (AA l a) s with
  |next s'=>
   simp only;exact Ut step I h n (a+1) s' U U (j s' e)
  |brk s'=>rfl|ret r=>rfl
theorem YJ[Inhabited α]{l:List α}(step:α->σ->Bz σ ρ)(I:Int->σ->Prop){s:σ}(d:I 0 s)(h:∀(i:Int)s,0<=i->i<l.length->I i s->f i s=Y (step (AA l i) s)/\∀s',step (AA l i) s=.next s'->I (i+1) s'):
  ij f 0 l.length s=Y (El step l s):=by
 have:=Ut step I h l.length 0 s U U d;unfold ij;rw[show((l.length:Int)-0).toNat=l.length by omega];exact this
theorem Y0{d s2:α->σ->Bz σ ρ}:∀{l:List α}{s:σ},(∀a∈l,d a=s2 a)->El d l s=El s2 l s
 |[],_,_=>rfl|a::l,s,h=>by
  rw [El,El,h a V];split
  .exact Y0 λb hb=>h b (by simp[hb])
  .rfl
  .rfl
end
abbrev zM:AQ:=⟨⟨[],[]⟩,[]⟩
abbrev zP:BN:=⟨0,zM,[]⟩
def O4(w:d5->BN×Int)(k:d5)(s:BN×BN):Bz (BN×BN) (BN×Int):=
 if (w k).2≠0 then .ret (zP,(w k).2)else .next (s.1,⟨s.2.Aaw,s.2.l4,s.2.fl++[(w k).1]⟩)
def U5(w:d5->BN×Int)(l:List d5):BN×Int:=
 match El (O4 w) l (zP,zP)with
 |.inl s=>(s.2,0)|.inr r=>r
def DE(t:AC)(h:AG)(inj:Bool):Nat->d5->AQ->BN×Int
 |0,_,_=>(zP,0)|N+1,c,m=>
  if c.kl=2 then(if(DE t h inj N (AA c.fl 0) m).2=0 then(zP,10)else if(DE t h inj N (AA c.fl 0) m).2=10 then(zP,0)else(zP,(DE t h inj N (AA c.fl 0) m).2))else
  if c.kl=3 then U5 (λk=>DE t h inj N k m) c.fl else
  if c.kl=4 then(fst (λi=>if(DE t h inj N (AA c.fl i) m).2=0 then Y (⟨i,zM,[(DE t h inj N (AA c.fl i) m).1]⟩,0)else if(DE t h inj N (AA c.fl i) m).2≠10 then Y (zP,(DE t h inj N (AA c.fl i) m).2)else W) 0 c.fl.length).getD (zP,10)else
  if c.kl=5 then
   (if(EG t c h m inj).2≠0 then(zP,(EG t c h m inj).2)else
   (fst (λi=>if(DE t h inj N (AA c.fl 0) (AA (EG t c h m inj).1 i)).2=0 then Y (⟨0,AA (EG t c h m inj).1 i,[(DE t h inj N (AA c.fl 0) (AA (EG t c h m inj).1 i)).1]⟩,0)else
    if (DE t h inj N (AA c.fl 0) (AA (EG t c h m inj).1 i)).2≠10 then Y (zP,(DE t h inj N (AA c.fl 0) (AA (EG t c h m inj).1 i)).2)else W) 0 (EG t c h m inj).1.length).getD (zP,10))else
  (zP,0)
def DD(t:AC)(h:AG)(inj:Bool):Nat->d5->AQ->BN×Int
 |0,_,_=>(zP,0)|N+1,c,m=>
  if c.kl=2 then(if(DD t h inj N (AA c.fl 0) m).2=0 then(zP,10)else if(DD t h inj N (AA c.fl 0) m).2=10 then(zP,0)else(zP,(DD t h inj N (AA c.fl 0) m).2))else
  if c.kl=3 then U5 (λk=>DD t h inj N k m) c.fl else
  if c.kl=4 then(fst (λi=>if(DD t h inj N (AA c.fl i) m).2≠10 then Y (⟨i,zM,[(DD t h inj N (AA c.fl i) m).1]⟩,(DD t h inj N (AA c.fl i) m).2)else W) 0 c.fl.length).getD (zP,10)else
  if c.kl=5 then
   (if(EG t c h m inj).2≠0 then(zP,(EG t c h m inj).2)else
   (fst (λi=>if(DD t h inj N (AA c.fl 0) (AA (EG t c h m inj).1 i)).2≠10 then Y (⟨0,AA (EG t c h m inj).1 i,[(DD t h inj N (AA c.fl 0) (AA (EG t c h m inj).1 i)).1]⟩,(DD t h inj N (AA c.fl 0) (AA (EG t c h m inj).1 i)).2)else W) 0 (EG t c h m inj).1.length).getD (zP,10))else
  (zP,0)
def Np(x:BN×Int):BN×Int:=if x.2=0 then x else(zP,x.2)
theorem nT(x:BN×Int):(Np x).2=x.2:=by unfold Np;split<;>rfl
theorem nS{x:BN×Int}(h:x.2=0):(Np x).1=x.1:=by unfold Np;rw[ac h]
theorem pW(w:d5->BN×Int)(l:List d5):Np (U5 w l)=U5 w l:=by
 unfold U5;have:∀(l:List d5)(s:BN×BN)(r:BN×Int),El (O4 w) l s=.inr r->Np r=r:=by
  intro l
  induction l with
  |nil=>intro s r h;cases h
  |cons a l g=>
   intro s r h;rw[El]at h;split at h
   .exact g _ _ h
   .cases h
   .rename_i j d;cases h;unfold O4 at d;split at d
    next e=>cases d;unfold Np;rw[ae e]
    .cases d
 cases hr:El (O4 w) l (zP,zP)with
 |inl s=>rfl|inr r=>exact this _ _ _ hr
theorem aM(o:Option (BN×Int)):Np (o.getD (zP,10))=(o.map Np).getD (zP,10):=by cases o<;>rfl
theorem j5(t:AC)(h:AG)(inj:Bool):∀(N:Nat)(c:d5)(m:AQ),DE t h inj N c m=Np (DD t h inj N c m)
 |0,_,_=>rfl|N+1,c,m=>by
  have w:=j5 t h inj N;have key:∀(c:d5)(m:AQ),(DE t h inj N c m).2=(DD t h inj N c m).2:=λc m=>by rw[w,nT]
  have pick:∀(k:d5)(m x:AQ)(i:Int),(if(DE t h inj N k m).2=0 then Y ((⟨i,x,[(DE t h inj N k m).1]⟩:BN),(0:Int))else if(DE t h inj N k m).2≠10 then Y (zP,(DE t h inj N k m).2)else W)=(if(DD t h inj N k m).2≠10 then Y ((⟨i,x,[(DD t h inj N k m).1]⟩:BN),(DD t h inj N k m).2)else W).map Np:=by
   intro k m x i;rw[key];by_cases d:(DD t h inj N k m).2=0
   .rw[ac d,ac U,w,nS d];simp[Np,d]
   .rw[ae d];by_cases e:(DD t h inj N k m).2≠10
    .rw[ac e,ac e];simp[Np,d]
    grind
  rw [DE,DD];by_cases j:c.kl=2
  .rw[ac j,ac j,key];by_cases d:(DD t h inj N (AA c.fl 0) m).2=0
   .rw[ac d];rfl
   .rw[ae d];by_cases e:(DD t h inj N (AA c.fl 0) m).2=10
    .rw[ac e];rfl
    .rw[ae e];unfold Np;rw[ae d]
  rw [ae j,ae j];by_cases o:c.kl=3
  .rw[ac o,ac o,pW];unfold U5;rw[Y0 (s2:=O4 λk=>DD t h inj N k m)];intro k _;funext s;unfold O4;simp only[key];by_cases d:(DD t h inj N k m).2=0
   .rw[ae (by simp[d]),ae (by simp[d]),w,nS d]
   .rw[ac d,ac d]
  rw [ae o,ae o];by_cases r:c.kl=4
  .rw[ac r,ac r,aM,<-KX];congr 1;exact congrArg (λF=>fst F 0 (c.fl.length:Int)) (funext λi=>pick _ _ _ _)
  rw [ae r,ae r];by_cases u:c.kl=5
  .rw[ac u,ac u];by_cases g:(EG t c h m inj).2≠0
   .rw[ac g,ac g];unfold Np;rw[ae g]
   .rw[ae g,ae g,aM,<-KX];congr 1;exact congrArg (λF=>fst F 0 ((EG t c h m inj).1.length:Int)) (funext λi=>pick _ _ _ _)
  rw [ae u,ae u];rfl
end Go.Sf.Sc
namespace Go.Sf.Sc
open Go Go.Sf
def Ss(i:Int)(s:BN×BN):Prop:=(s.2.fl.length:Int)=i
theorem Yo{s:Bj}(hf:A3 s.t)(hv:(BD s.t).2=0)(hh:If s.t s.h):∀(N:Nat)(c:d5)(p:d6)(m:AQ),SizeOf.sizeOf c<=N->CV s.t p c->Xs s.t p s.h m->∀n,2*N<=n->BA n s c m=Y (DE s.t s.h s.ff N c m)
 |0,c,_,_,h,_,_,_,_=>by have:=Dx c;omega|N+1,c,p,m,h,j,ha,n,C=>by
  obtain ⟨n,rfl⟩:∃k,n=k+2:=⟨n-2,U⟩;have kid:∀(i:Int),0<=i->i<c.fl.length->SizeOf.sizeOf (AA c.fl i)<=N:=λi d i1=>by
   have:=Ed (AF (l:=c.fl) d i1);omega
  rw [BA,DE];by_cases o:c.kl=2
  .have B:=j.one (.inl o);rw[ac g!,ac o,AD U U,bs,Yo hf hv hh N _ p m (kid 0 U U) (j.kid U _ (AF U U)) ha (n+1) U,bs]
   grind
  rw [ae g!,ae o];by_cases w:c.kl=3
  .rw[ac u?,ac w];have z:=j.few;rw[YJ (O4 λk=>DE s.t s.h s.ff N k m) Ss (show Ss 0 (zP,zP)from rfl)]
   .unfold U5;show ej (Y (El (O4 λk=>DE s.t s.h s.ff N k m) c.fl (zP,zP))) _ _=_;cases El (O4 λk=>DE s.t s.h s.ff N k m) c.fl (zP,zP)<;>rfl
   .intro i st d i1 hi;unfold Ss at hi;rw[AD d i1,bs,Yo hf hv hh N _ p m (kid i d i1) (j.kid U _ (AF d i1)) ha (n+1) U,bs]
    grind [O4,DE,AA,AS,AX,Ss]
  rw [ae u?,ae w];by_cases y:c.kl=4
  .rw[ac (by simpa using y),ac y];rw[Gw (λ_=>zP) (λi=>if(DE s.t s.h s.ff N (AA c.fl i) m).2=0 then Y (⟨i,zM,[(DE s.t s.h s.ff N (AA c.fl i) m).1]⟩,0)else if(DE s.t s.h s.ff N (AA c.fl i) m).2≠10 then Y (zP,(DE s.t s.h s.ff N (AA c.fl i) m).2)else W) U rfl]
   .cases fst (λi=>if(DE s.t s.h s.ff N (AA c.fl i) m).2=0 then Y ((⟨i,zM,[(DE s.t s.h s.ff N (AA c.fl i) m).1]⟩:BN),(0:Int))else if(DE s.t s.h s.ff N (AA c.fl i) m).2≠10 then Y (zP,(DE s.t s.h s.ff N (AA c.fl i) m).2)else W) 0 c.fl.length<;>rfl
   .intro i d i1 _;rw[AD d i1,bs,Yo hf hv hh N _ p m (kid i d i1) (j.kid U _ (AF d i1)) ha (n+1) U,bs];generalize DE s.t s.h s.ff N (AA c.fl i) m=x;by_cases g:x.2=0
    .rw[ac g_,ac g];try rfl
    .rw[ae g_,ae g];by_cases e:x.2=10
     .rw[ae c_,ae c_];try rfl
     .rw[ac c_,ac e];try rfl
  rw [ae (by simpa using y),ae y];by_cases r:c.kl=5
  .rw[ac n?,ac r];have hi:=j.ins r;have B:=j.one (.inr r);rw[Bf,xO hf hv hh ha hi,bs];by_cases u:(EG s.t c s.h m s.ff).2=0
   .obtain⟨e,A⟩:=ir hv hh ha hi u;rw[ae p?,ae p?];generalize (EG s.t c s.h m s.ff).1=l at e A;rw[Gw (λ_=>zP) (λi=>if(DE s.t s.h s.ff N (AA c.fl 0) (AA l i)).2=0 then Y (⟨0,AA l i,[(DE s.t s.h s.ff N (AA c.fl 0) (AA l i)).1]⟩,0)else if(DE s.t s.h s.ff N (AA c.fl 0) (AA l i)).2≠10 then Y (zP,(DE s.t s.h s.ff N (AA c.fl 0) (AA l i)).2)else W) U rfl]
    .cases fst (λi=>if(DE s.t s.h s.ff N (AA c.fl 0) (AA l i)).2=0 then Y ((⟨0,AA l i,[(DE s.t s.h s.ff N (AA c.fl 0) (AA l i)).1]⟩:BN),(0:Int))else if(DE s.t s.h s.ff N (AA c.fl 0) (AA l i)).2≠10 then Y (zP,(DE s.t s.h s.ff N (AA c.fl 0) (AA l i)).2)else W) 0 l.length<;>rfl
    .intro i d i1 _;rw[AD d i1,bs,AD U U,bs,Yo hf hv hh N _ c.d6 _ (kid 0 U U) (j.kid5 r _ (AF U U)) (A _ (AF d i1)) n U,bs];generalize DE s.t s.h s.ff N (AA c.fl 0) (AA l i)=x;by_cases g:x.2=0
     .rw[ac g_,ac g];try rfl
     .rw[ae g_,ae g];by_cases e:x.2=10
      .rw[ae c_,ae c_];try rfl
      .rw[ac c_,ac e];try rfl
   .rw[ac p?,ac u];try rfl
  grind
variable{t:AC}
theorem Th{d:AG}{inj:Bool}(hf:A3 t)(hv:(BD t).2=0)(hh:If t d):∀(N:Nat)(c:d5)(p:d6)(m:AQ),SizeOf.sizeOf c<=N->CV t p c->Xs t p d m->∀n,N<=n->DJ n t c d m inj=Y (DD t d inj N c m)
 |0,c,_,_,h,_,_,_,_=>by have:=Dx c;omega|N+1,c,p,m,h,j,ha,n,C=>by
  obtain ⟨n,rfl⟩:∃k,n=k+1:=⟨n-1,U⟩;have kid:∀(i:Int),0<=i->i<c.fl.length->SizeOf.sizeOf (AA c.fl i)<=N:=λi e i1=>by
   have:=Ed (AF (l:=c.fl) e i1);omega
  rw [DJ,DD];by_cases o:c.kl=2
  .have B:=j.one (.inl o);rw[ac g!,ac o,AD U U,bs,Th hf hv hh N _ p m (kid 0 U U) (j.kid U _ (AF U U)) ha n U,bs]
   grind
  rw [ae g!,ae o];by_cases u:c.kl=3
  .rw[ac i_,ac u];have z:=j.few;rw[YJ (O4 λk=>DD t d inj N k m) Ss (show Ss 0 (zP,zP)from rfl)]
   .unfold U5;show ej (Y (El (O4 λk=>DD t d inj N k m) c.fl (zP,zP))) _ _=_;cases El (O4 λk=>DD t d inj N k m) c.fl (zP,zP)<;>rfl
   .intro i st e i1 hi;unfold Ss at hi;rw[AD e i1,bs,Th hf hv hh N _ p m (kid i e i1) (j.kid U _ (AF e i1)) ha n U,bs]
    grind [O4,DD,AA,AS,AX,Ss]
  rw [ae i_,ae u];by_cases w:c.kl=4
  .rw[ac u?,ac w];rw[Gw (λ_=>zP) (λi=>if(DD t d inj N (AA c.fl i) m).2≠10 then Y (⟨i,zM,[(DD t d inj N (AA c.fl i) m).1]⟩,(DD t d inj N (AA c.fl i) m).2)else W) U rfl]
   .cases fst (λi=>if(DD t d inj N (AA c.fl i) m).2≠10 then Y ((⟨i,zM,[(DD t d inj N (AA c.fl i) m).1]⟩:BN),(DD t d inj N (AA c.fl i) m).2)else W) 0 c.fl.length<;>rfl
   .intro i e i1 _;rw[AD e i1,bs,Th hf hv hh N _ p m (kid i e i1) (j.kid U _ (AF e i1)) ha n U,bs];generalize DD t d inj N (AA c.fl i) m=x;by_cases g:x.2=10
    .rw[ae o!,ae o!];try rfl
    .rw[ac o!,ac g];try rfl
  rw [ae u?,ae w];by_cases r:c.kl=5
  .rw[ac n?,ac r];have hi:=j.ins r;have B:=j.one (.inr r);rw[xh hf hv hh ha hi,bs];by_cases y:(EG t c d m inj).2=0
   .obtain⟨g,A⟩:=ir hv hh ha hi y;rw[ae (by simp[y]),ae (by simp[y])];generalize (EG t c d m inj).1=l at g A;rw[Gw (λ_=>zP) (λi=>if(DD t d inj N (AA c.fl 0) (AA l i)).2≠10 then Y (⟨0,AA l i,[(DD t d inj N (AA c.fl 0) (AA l i)).1]⟩,(DD t d inj N (AA c.fl 0) (AA l i)).2)else W) U rfl]
    .cases fst (λi=>if(DD t d inj N (AA c.fl 0) (AA l i)).2≠10 then Y ((⟨0,AA l i,[(DD t d inj N (AA c.fl 0) (AA l i)).1]⟩:BN),(DD t d inj N (AA c.fl 0) (AA l i)).2)else W) 0 l.length<;>rfl
    .intro i e i1 _;rw[AD U U,bs,AD e i1,bs,Th hf hv hh N _ c.d6 _ (kid 0 U U) (j.kid5 r _ (AF U U)) (A _ (AF e i1)) n U,bs];generalize DD t d inj N (AA c.fl 0) (AA l i)=x;by_cases g:x.2=10
     .rw[ae o!,ae o!];try rfl
     .rw[ac o!,ac g];try rfl
   grind
  grind
end Go.Sf.Sc
namespace Go.Sf.Sc
open Go Go.Sf
noncomputable def VB(t:AC)(p:d6)(c:d5)(h:AG)(m:AQ)(inj:Bool):Int:=
 if JS t p c≠0 then JS t p c else if(Dd t h).2≠0 then(Dd t h).2 else if Gd t p.d3 h.d3 m.d4 inj≠0 then Gd t p.d3 h.d3 m.d4 inj else
 if (Gg t p h m.d4).2≠0 then(Gg t p h m.d4).2 else if(Gg t p h m.d4).1=m.em then 0 else 11
variable{t:AC}{c:d5}
theorem qX(hf:A3 t)(p:d6)(d:EK c)(h:AG)(m:AQ)(inj:Bool):GE t p c h m inj=Y (VB t p c h m inj):=by
 unfold GE VB;rw[ua hf p d,bs];refine EN λ_=>?_;rw[Vh hf,bs];refine EN λ_=>?_;rw[Za hf,bs];refine EN λ_=>?_;rw[jJ hf,bs];refine EN λ_=>?_;rw[PX,bs]
 grind
variable{p:d6}{h:AG}
theorem YA(hf:A3 t)(z:Dv c<=40){m:AQ}{inj:Bool}(e:VB t p c h m inj=0):(BD t).2=0/\If t h/\CV t p c/\Xs t p h m:=by
 unfold VB at e;split at e
 .grind
 rename_i d;split at e
 .grind
 rename_i j;split at e
 .grind
 rename_i o;split at e
 .grind
 rename_i r;split at e
 case isFalse=>cases e
 rename_i C;have d:=z!.1 d;have j:=z!.1 j;have o:=z!.1 o;have r:=z!.1 r;obtain⟨hv,hh⟩:=QB hf j;have w:=(dZ o).2;unfold JS at d;split at d
 .grind
 rename_i A;split at d
 .grind
 rename_i u;have y:=qt hv (.inl (z!.1 A));have u:=z!.1 u;have B:jx c=X:=by
  grind [My]
 suffices g:(m.em.length:Int)=p.em/\Q9 m.em from⟨hv,hh,sj hv _ c p (az _) z B d,y,w,g.1,g.2⟩
 have g:∀s∈p.ei,KO p.em h m.d4 s:=λs g=>Ox (Cq hv) y hh w g
 grind [Gg,oi]
end Go.Sf.Sc
namespace Go.Sf.Sc
open Go Go.Sf
def Rz:Nat->d5->Bool
 |0,_=>X|N+1,c=>if kq (λi=>!Rz N (AA c.fl i)) 0 c.fl.length=X then T else decide (AJ ((c.d6.d3.ci.length:Int)+c.d6.d3.c9.length)<=6)
theorem a7:∀(N:Nat)(c:d5),SizeOf.sizeOf c<=N->∀n,N<=n->GY n c=Y (Rz N c)
 |0,c,h,_,_=>by have:=Dx c;omega|N+1,c,h,n,e=>by
  obtain ⟨n,rfl⟩:∃k,n=k+1:=⟨n-1,U⟩;rw[GY,Rz,Bo (λi=>!Rz N (AA c.fl i)) T]
  .cases kq (λi=>!Rz N (AA c.fl i)) 0 c.fl.length<;>rfl
  .intro i d i1 _;have:=Ed (AF (l:=c.fl) d i1);rw[AD d i1,bs,a7 N _ U n U,bs,I7]
theorem rC(c:d5):SU c=Y (Rz (SizeOf.sizeOf c) c):=D0 (SizeOf.sizeOf c) λn d=>a7 _ c (az _) n d
def Va(a:Int):Nat->Int->Int
 |0,s=>s|k+1,s=>AJ (Va a k s*a)
theorem tE{a b k s:Int}(g:0<=k)(e:k<=1000)(hb:b<=1000):C7 (ρ:=Bool) (λ(d:Int×Int)=>
  if (decide (d.2<b))=X then
  Y (.next (AJ (d.1*a),AJ (d.2+1)))
  else
  Y (.brk (d.1,d.2))) (s,k)=Y (.inl (Va a (max k b-k).toNat s,max k b)):=by
 refine Pt (λi=>Va a (i-k).toNat s) U (by rw[show(k-k).toNat=0 by omega];rfl) (λi j i1=>?_) ?_
 .rw[ac an,show(i+1-k).toNat=(i-k).toNat+1 by omega,Va];dsimp only;rw[AT (n:=i+1) U U]
 .rw[ae an]
def SB(a b:Int):Nat->d6->d5->Bool
 |0,_,_=>X|N+1,p,c=>
  let q:=if c.kl=5 then c.d6 else p
  if kq (λi=>!SB a b N q (AA c.fl i)) 0 c.fl.length=X then T else
  decide (Va b (max (p.d3.c9.length:Int) q.d3.c9.length-p.d3.c9.length).toNat (Va a (max (p.d3.ci.length:Int) q.d3.ci.length-p.d3.ci.length).toNat 1)<=5000)
theorem fW(a b:Int):∀(N:Nat)(c:d5)(p:d6),SizeOf.sizeOf c<=N->EK c->Pz p->∀n,N<=n->Ek n p c a b=Y (SB a b N p c)
 |0,c,_,h,_,_,_,_=>by have:=Dx c;omega|N+1,c,p,h,g,y,n,J=>by
  obtain ⟨n,rfl⟩:∃k,n=k+1:=⟨n-1,U⟩;have D:=g.q.ea;have E:=g.q.eb;have F:=y.ea;have G:=y.eb;have e:∀q:d6,Pz q->(ej (C7 (ρ:=Bool) (λ(d:Int×Int)=>
    if (decide (d.2<(q.d3.ci.length:Int)))=X then
    Y (.next (AJ (d.1*a),AJ (d.2+1)))
    else
    Y (.brk (d.1,d.2))) (1,(p.d3.ci.length:Int))) (λd=>
    ej (C7 (ρ:=Bool) (λ(s2:Int×Int)=>
    if (decide (s2.2<(q.d3.c9.length:Int)))=X then
    Y (.next (AJ (s2.1*b),AJ (s2.2+1)))
    else
    Y (.brk (s2.1,s2.2))) (d.1,(p.d3.c9.length:Int))) (λs2=>
    ej (ij (ρ:=Bool) (λ(z:Int)(_:Unit)=>
    (idx c.fl z).bind λj=>
    (Ek n q j a b).bind λo=>
    if (!o)=X then
    Y (.ret T)
    else
    Y (.next ())) 0 (c.fl.length:Int) ()) (λ_=>
    Y (decide (s2.1<=5000))) (λA=>Y A)) (λB=>Y B)) (λC=>Y C))=
    Y (if kq (λi=>!SB a b N q (AA c.fl i)) 0 c.fl.length=X then T else
     decide (Va b (max (p.d3.c9.length:Int) q.d3.c9.length-p.d3.c9.length).toNat (Va a (max (p.d3.ci.length:Int) q.d3.ci.length-p.d3.ci.length).toNat 1)<=5000)):=by
   intro q r;have H:=r.ea;have I:=r.eb;rw[tE U U U,B3];dsimp only;rw[tE U U U,B3,Bo (λi=>!SB a b N q (AA c.fl i)) T]
   .cases kq (λi=>!SB a b N q (AA c.fl i)) 0 c.fl.length<;>rfl
   .intro i u i1 _;have:=Ed (AF (l:=c.fl) u i1);rw[AD u i1,bs,fW a b N _ q U (g.k _ (AF u i1)) r n U,bs,I7]
  rw [Ek,SB];by_cases w:c.kl=5
  .rw[ac u?,ac w,bs,e _ g.q]
  grind
variable{c:d5}{p:d6}
theorem oC(a b:Int)(d:EK c)(e:Pz p):RG p c a b=Y (SB a b (SizeOf.sizeOf c) p c):=D0 (SizeOf.sizeOf c) λn g=>fW a b _ c p (az _) d e n g
theorem dk(h:AG):∃b,IQ h=Y b:=by
 unfold IQ Jf;rw[bs];split
 .exact⟨_,rfl⟩
 .rw[Bo (λi=>decide (12<((AA h.eh i).length:Int))) T]
  .cases kq (λi=>decide (12<((AA h.eh i).length:Int))) 0 h.eh.length
   .exact⟨X,rfl⟩
   .exact⟨T,rfl⟩
  .intro i d i1 _;rw[AD d i1,bs,I7]
variable{t:AC}
theorem oH(hf:A3 t)(st:(AL t).Sm)(p g:d3):∃b,N3 t p g=Y b:=by
 obtain ⟨b,e,_⟩:=Sn st;unfold N3 Jf;rw[e,bs,Ua hf]
 grind
theorem oI(hf:A3 t)(st:(AL t).Sm)(p:d6)(w:(AI c).Sm)(h:AG):∃b,N5 t p c h=Y b/\(b=X->EK c/\Dv c<=40/\Pz p):=by
 obtain ⟨y,z,A⟩:=mf w;obtain⟨B,r,C⟩:=TZ p;obtain⟨D,u⟩:=dk h;unfold N5;rw[z,bs];cases y
 .exact⟨T,rfl,λh=>d_⟩
 rw [r];cases B
 .exact⟨T,rfl,λh=>d_⟩
 rw [u];cases D
 .exact⟨T,rfl,λh=>d_⟩
 have g:=A rfl;have j:=C rfl;simp only[bs,Bool.not_true,A',if_false];rw[oD hf p g.1,bs];have d:∀o:K1,(∃b,o=Y b)->∃b,o=Y b/\(b=X->EK c/\Dv c<=40/\Pz p):=λo⟨b,e⟩=>⟨b,e,λ_=>⟨g.1,g.2,j⟩⟩;refine d _ ?_;split
 .exact⟨X,rfl⟩
 .obtain⟨E,F⟩:=oH hf st p.d3 h.d3;unfold Qk;rw[r,u,F,rC,oC 14 18 g.1 j];simp only[bs,if_true];cases E<;>simp only[A',if_false,if_true,bs,Bool.false_and]
  .exact⟨_,rfl⟩
  .split
   .exact⟨_,rfl⟩
   .exact⟨_,rfl⟩
noncomputable def wS(t:AC)(p:d6)(c:d5)(h:AG)(m:AQ)(inj:Bool):BN×Int:=
 if VB t p c h m inj≠0 then(zP,VB t p c h m inj)else DE t h inj (SizeOf.sizeOf c) c m
theorem nv(hf:A3 t)(p:d6)(e:EK c)(g:Dv c<=40)(h:AG)(m:AQ)(inj:Bool):Ey t p c h m inj=Y (wS t p c h m inj):=by
 unfold Ey wS;rw[qX hf p e,bs];refine Dy λj=>?_;obtain⟨hv,hh,d,ha⟩:=YA hf g j;rw[show Fy (Bj.mk t h inj) c m=Y (DE t h inj (SizeOf.sizeOf c) c m)from D0 (2*SizeOf.sizeOf c) λn o=>Yo (s:=⟨t,h,inj⟩) hf hv hh _ c p m (az _) d ha n o];rfl
noncomputable def Od(t:AC)(p:d6)(c:d5)(h:AG)(m:AQ)(inj:Bool):Bool×Int:=
 if (wS t p c h m inj).2=10 then(T,0)else(decide ((wS t p c h m inj).2=0),(wS t p c h m inj).2)
theorem iB(hf:A3 t)(p:d6)(d:EK c)(e:Dv c<=40)(h:AG)(m:AQ)(inj:Bool):EC t p c h m inj=Y (Od t p c h m inj):=by grind[EC,Od,nv,wS]
variable{h:AG}
theorem qz(hf:A3 t){inj:Bool}{m:AQ}(hv:(BD t).2=0)(hh:If t h)(d:CV t p c)(ha:Xs t p h m):Ql t c h m inj=Y (DD t h inj (SizeOf.sizeOf c) c m):=D0 (SizeOf.sizeOf c) λn e=>Th hf hv hh _ c p m (az _) d ha n e
end Go.Sf.Sc
namespace Go.Sf.Sc
open Go Go.Sf
end Go.Sf.Sc
namespace Go.Sf.Sc
open Go Go.Sf
theorem vb(t:AC)(p:d6)(c:d5)(h:AG)(m:AQ)(inj:Bool):wS t p c h m inj=if VB t p c h m inj≠0 then(zP,VB t p c h m inj)else Np (DD t h inj (SizeOf.sizeOf c) c m):=by
 unfold wS;rw[j5]
end Go.Sf.Sc
