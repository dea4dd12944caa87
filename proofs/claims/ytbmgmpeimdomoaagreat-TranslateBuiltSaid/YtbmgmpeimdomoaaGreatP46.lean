/- Plain lemmas: what the functions of the program and of the reference compute. -/
import Derived.Test.YtbmgmpeimdomoaaGreatP25
set_option linter.all false
set_option maxRecDepth 100000
open Option renaming some->Y,none->W
open Bool renaming true->X,false->T
open List renaming mem_append->w!,any_eq_false->w?,drop_eq_nil_of_le->x_,drop_eq_getElem_cons->x!,getElem?_eq_getElem->x?,replicate->y_,ext_getElem->y!,replicate_succ'->y?,mem_flatMap->z_,length_singleton->z!,nodup_nil->z?
open Classical renaming not_not->A_
open Int renaming toNat_natCast->A'
namespace Go.Sf.Sc
open Go Go.Sf
variable{all:List ff}{k:Int}
theorem S7(h:NI all k=0)(d:(AA all k).kx.length<=1000):-1000000<=(AA all k).Low/\(AA all k).z5<=1000000:=by grind[NI]
variable{t:AC}{i:Int}
theorem eM(h:Jj t i=0):∀k,((A3 t i).length:Int)-(AA t.az i).gR.length<=k->k<(A3 t i).length->NI (A3 t i) k=0:=by
 unfold Jj at h;dsimp only at h;split at h
 .cases h
 split at h
 .cases h
 split at h
 .cases h
 split at h
 .cases h
 exact Si h
variable{a:Int}
theorem Qf{n:Nat}(d:0<=a):CE t (n+1) a=CE t n (par t a)++(AA t.az a).gR:=by grind[CE]
theorem nL(h:NI all k=0)(d:(AA all k).kx.length<=1000):(AA all k).Low<=(AA all k).z5:=by grind[NI]
theorem S9(hf:Ap t)(h:ET t){Q:ff->Prop}(S7:∀{all:List ff}{k:Int},NI all k=0->(AA all k).kx.length<=1000->Q (AA all k)):∀(n:Nat)(a:Int),a<t.az.length->a<n->∀x∈CE t n a,Q x
 |0,_,_,_=>by simp[CE]|n+1,a,g,C=>by
  by_cases o:a<0
  .rw[KG o];simp
  .have y:=h.par a U g;intro x d;rw[Qf U]at d;rcases w!.1 d with d|d
   .exact S9 hf h S7 n (par t a) U U x d
   .obtain⟨j,A,B,rfl⟩:=BC d;have e:A3 t a=CE t a.toNat (par t a)++(AA t.az a).gR:=by
     unfold A3;rw[show(a+1).toNat=a.toNat+1 by omega,Qf U]
    have z:(A3 t a).length=(CE t a.toNat (par t a)).length+(AA t.az a).gR.length:=by rw[e,aE]
    have r:=eM (h.node a U g) ((CE t a.toNat (par t a)).length+j) U U;have u:AA (A3 t a) ((CE t a.toNat (par t a)).length+j)=AA (AA t.az a).gR j:=by
     grind [Gy,AA]
    have w:=OD hf (Int.le_refl _) h.par g (AA (A3 t a) ((CE t a.toNat (par t a)).length+j)) (AG U U);have:=S7 r (by have:=w.names;omega)
    rwa [u]at this
theorem iP(hf:Ap t)(h:ET t)(e:0<=a)(d:a<t.az.length):∀x∈A3 t a,-1000000<=x.Low/\x.z5<=1000000:=S9 hf h S7 _ a d U
theorem kG(hf:Ap t)(h:ET t)(e:0<=a)(d:a<t.az.length):∀x∈A3 t a,x.Low<=x.z5:=S9 hf h nL _ a d U
theorem aD(e:ES t k):∀(n:Nat)(a b:Int),a<k->a<n->b∈Gc t n a->0<=b/\b<=a/\(A3 t b).length<=(CE t n a).length
 |0,_,_,_,_=>by simp[Gc]|n+1,a,b,g,r=>by
  intro d;rw[Gc]at d;split at d
  .cases d
  .rename_i j;have o:=e a U g;rw[Qf U];rcases List.mem_cons.1 d with rfl|d
   .refine⟨U,U,?_⟩;unfold A3;rw[Nl e (b+1).toNat (n+1) b g U U,Qf U];exact R0 _
   .have:=aD e n (par t a) b U U d
    grind
variable{b:Int}
theorem Zh(h:ET t)(j:a<t.az.length)(d:isB t a b=X):(A3 t b).length<=(A3 t a).length:=by
 unfold isB at d;rw[List.any_eq_true]at d;obtain⟨x,g,e⟩:=d;rw[pE]at e;subst e;by_cases o:a<0
 .have:(a+1).toNat=0:=U
  rw [this]at g;cases g
 .exact(aD h.par (a+1).toNat a b j U g).2.2
theorem iS{α:Type}{Q:Prop}[Decidable Q]{v:α}{ζ:Option α}{δ:α}(he:a=b↔Q)(h:Q->ζ=Y δ):(if(!decide (a=b))=X then Y v else ζ)=Y (if¬Q then v else δ):=o2
def RK(t:AC)(k:Int)(v:Fp)(j:Int):Bool:=decide (AA v j<(AA (A3 t k) j).Low)||decide ((AA (A3 t k) j).z5<AA v j)
def GX(t:AC)(k:Int)(v:Fp):Int:=
 if (t.az.length:Int)<=k then 6 else if(AA t.az k).p0=X then 13 else if¬v.length=(A3 t k).length then 20 else
 if fu (RK t k v) 0 (A3 t k).length=X then 6 else 0
def HZ(t:AC)(g:bi)(i:Int):Int:=
 if (t.be.length:Int)<=(AA g.be i).em then 6 else if DG t g i=T then 13 else 0
def Br(t:AC)(h:AH):Int×Int:=
 if (Az t).2≠0 then(-1,(Az t).2)else if Bz h.bi≠0 then(-1,Bz h.bi)else if¬h.d5.length=h.bi.az.length then(-1,20)else
 match fst (λi=>(nz (GX t (AA h.bi.az i) (AA h.d5 i))).map λe=>(i,e)) 0 h.bi.az.length with
 |some r=>r|none=>(fst (λi=>(nz (HZ t h.bi i)).map λe=>(i,e)) 0 h.bi.be.length).getD (-1,0)
theorem KA(hv:(Az t).2=0)(d:0<=k)(e:k<t.az.length):Gz t k=(A3 t k,0):=by grind[Gz,MP]
theorem Vq{x:Bool}{y:Bool}:(if x=X then Y X else Y y)=Y (x||y):=by cases x<;>rfl
theorem sI(hf:Ap t)(hv:(Az t).2=0)(d:0<=k)(v:Fp):Lb t k v=Y (GX t k v):=by
 unfold Lb GX;by_cases e:(t.az.length:Int)<=k
 .grind
 rw [QQ i?,QQ e,AD d U,bs];refine ZB λ_=>?_;rw[Sr hf,KA hv d U,bs];refine iS an λg=>?_;rw[BN (RK t k v) 6]
 .cases fu (RK t k v) 0 (A3 t k).length<;>rfl
 grind [A3,AD,Vq,RK,AA]
theorem se(hf:Ap t)(hv:(Az t).2=0)(d:0<=k)(v:Fp):Oe t k v=Y (GX t k v):=by
 unfold Oe GX;by_cases e:(t.az.length:Int)<=k
 .grind
 rw [QQ i?,QQ e,AD d U,bs];refine ZB λ_=>?_;rw[Q0 hf,KA hv d U,bs];refine iS an λg=>?_;rw[BN (RK t k v) 6]
 .cases fu (RK t k v) 0 (A3 t k).length<;>rfl
 grind [A3,AD,Vq,RK,AA]
theorem cT(e i:Int):(if(!decide (e=0))=X then Y (B2.ret (σ:=Unit) (ρ:=Int×Int) (i,e))else Y (.next ()))=Y (NY ((nz e).map λe=>(i,e))):=by grind[nz,NY]
theorem Uq(hf:Ap t)(h:AH):F8 t h=Y (Br t h):=by
 unfold F8 Br;rw[PO hf,bs];refine DV λhv=>?_;rw[Nv,bs];refine DV λo=>?_;have go:=Dm o;refine iS U λz=>?_;rw[BU (λi=>(nz (GX t (AA h.bi.az i) (AA h.d5 i))).map λe=>(i,e)),Dz]
 .cases u:fst (λi=>(nz (GX t (AA h.bi.az i) (AA h.d5 i))).map λe=>(i,e)) 0 h.bi.az.length with
  |some r=>rfl|none=>
   have w:=Bc.1 u;dsimp only;rw[BU (λi=>(nz (HZ t h.bi i)).map λe=>(i,e)),Dz]
   .grind
   .intro i d g _;have y:=go.fit _ (AG (l:=h.bi.be) d g);rw[AD d g,bs];unfold HZ DG;by_cases j:(t.be.length:Int)<=(AA h.bi.be i).em
    .rw[Ne h_,Ne j];rfl
    .rw[QQ h_,QQ j,AD U U,bs,AD U U,bs,cd hf,bs];cases IZ t (AA h.bi.be i).em (AA h.bi.az (AA h.bi.be i).fb) (AA h.bi.az (AA h.bi.be i).To)<;>rfl
 .intro i d g _;rw[AD d g,bs,AD d U,bs,sI hf hv (go.kind _ (AG d g)).1,bs];exact cT _ i
theorem YI(hf:Ap t)(h:AH):JV t h=Y (Br t h):=by
 unfold JV Br;rw[Q1 hf,bs];refine DV λhv=>?_;rw[Nx,bs];refine DV λo=>?_;have go:=Dm o;refine iS U λz=>?_;rw[BU (λi=>(nz (GX t (AA h.bi.az i) (AA h.d5 i))).map λe=>(i,e)),Dz]
 .cases u:fst (λi=>(nz (GX t (AA h.bi.az i) (AA h.d5 i))).map λe=>(i,e)) 0 h.bi.az.length with
  |some r=>rfl|none=>
   have w:=Bc.1 u;dsimp only;rw[BU (λi=>(nz (HZ t h.bi i)).map λe=>(i,e)),Dz]
   .grind
   .intro i d g _;have y:=go.fit _ (AG (l:=h.bi.be) d g);rw[AD d g,bs];unfold HZ DG;by_cases j:(t.be.length:Int)<=(AA h.bi.be i).em
    .rw[Ne h_,Ne j];rfl
    .rw[QQ h_,QQ j,AD U U,bs,AD U U,bs,Ux hf,bs];cases IZ t (AA h.bi.be i).em (AA h.bi.az (AA h.bi.be i).fb) (AA h.bi.az (AA h.bi.be i).To)<;>rfl
 .intro i d g _;rw[AD d g,bs,AD d U,bs,se hf hv (go.kind _ (AG d g)).1,bs];exact cT _ i
structure Io(t:AC)(h:AH):Prop where
 g:BV h.bi
 len:h.d5.length=h.bi.az.length
 kind:∀i:Int,0<=i->i<h.bi.az.length->0<=AA h.bi.az i/\AA h.bi.az i<t.az.length
 row:∀i:Int,0<=i->i<h.bi.az.length->(AA h.d5 i).length=(A3 t (AA h.bi.az i)).length
 low:∀i:Int,0<=i->i<h.bi.az.length->∀x∈AA h.d5 i,-1000000<=x/\x<=1000000
 ge:Bz h.bi=0
 ty:CQ t h.bi=X
variable{h:AH}
theorem OO(e:(Br t h).2=0):(∀i:Int,0<=i->i<h.bi.az.length->GX t (AA h.bi.az i) (AA h.d5 i)=0)/\∀i:Int,0<=i->i<h.bi.be.length->HZ t h.bi i=0:=by
 unfold Br at e;split at e
 next u=>exact absurd e u
 split at e
 next u=>exact absurd e u
 split at e
 .cases e
 rename_i u z A;have y:∀i:Int,0<=i->i<h.bi.az.length->GX t (AA h.bi.az i) (AA h.d5 i)=0:=by
  split at e
  .rename_i r d;obtain⟨i,_,_,k,_⟩:=DW d;unfold nz at k;split at k
   .cases k
   next g=>cases k;exact absurd e g
  next d=>exact λi j o=>Qx.1 (PF.1 (Bc.1 d i j o))
 have he:∀i:Int,0<=i->i<h.bi.be.length->HZ t h.bi i=0:=by
  have w:fst (λi=>(nz (GX t (AA h.bi.az i) (AA h.d5 i))).map λe=>(i,e)) 0 h.bi.az.length=W:=Bc.2 λi j o=>by rw[y i j o];rfl
  rw [w]at e;dsimp only at e;cases d:fst (λi=>(nz (HZ t h.bi i)).map λe=>(i,e)) 0 h.bi.be.length with
  |some r=>
   rw [d]at e;obtain⟨i,_,_,k,_⟩:=DW d;unfold nz at k;split at k
   .cases k
   next g=>cases k;exact absurd e g
  |none=>exact λi j o=>Qx.1 (PF.1 (Bc.1 d i j o))
 exact ⟨y,he⟩
theorem FU(hf:Ap t)(e:(Br t h).2=0):(Az t).2=0/\Io t h:=by
 obtain ⟨w,he⟩:=OO e;unfold Br at e;split at e
 next o=>exact absurd e o
 split at e
 next o=>exact absurd e o
 split at e
 .cases e
 rename_i o A D;have hv:=A_.1 o;have go:=Dm (A_.1 A);have u:∀i:Int,0<=i->i<h.bi.az.length->(0<=AA h.bi.az i/\AA h.bi.az i<t.az.length)/\(AA h.d5 i).length=(A3 t (AA h.bi.az i)).length/\∀j:Int,0<=j->j<(A3 t (AA h.bi.az i)).length->RK t (AA h.bi.az i) (AA h.d5 i) j=T:=by
  intro i d g;have G:=(go.kind _ (AG d g)).1;have:=w i d g;unfold GX at this;split at this
  .cases this
  split at this
  .cases this
  split at this
  .cases this
  split at this
  .cases this
  rename_i a1 a2 E F;exact⟨⟨G,U⟩,A_.1 E,Bg.1 (by simpa using F)⟩
 have z:CQ t h.bi=X:=by
  unfold CQ;rw[gN,Bool.not_eq_true',Bool.not_eq_true',w?,w?];refine⟨λn w=>?_,λx y=>?_⟩
  .obtain⟨i,d,g,rfl⟩:=BC w;have:=(u i d g).1.2;simp;omega
  .obtain⟨i,d,g,rfl⟩:=BC y;have:=he i d g;unfold HZ at this;split at this
   .cases this
   .simp;omega
 suffices r:∀i:Int,0<=i->i<h.bi.az.length->∀x∈AA h.d5 i,-1000000<=x/\x<=1000000 from⟨hv,go,A_.1 D,λi d g=>(u i d g).1,λi d g=>(u i d g).2.1,r,A_.1 A,z⟩
 intro i d g x y;obtain⟨B,I,H⟩:=u i d g;obtain⟨j,C,J,rfl⟩:=BC y;have:=H j C U;unfold RK at this;simp[decide_eq_false_iff_not]at this;have:=iP hf (Cg hv) B.1 B.2 _ (AG (l:=A3 t (AA h.bi.az i)) C U);omega
end Go.Sf.Sc
namespace Go.Sf.Sc
open Go Go.Sf
def HV(t:AC)(p g:bi)(m:bk)(i:Int):K1:=
 if AA m.az i<0\/g.az.length<=AA m.az i then Y 6 else if isB t (AA g.az (AA m.az i)) (AA p.az i)=T then Y 13 else W
def Jl(t:AC)(p g:bi)(m:bk):Int:=
 if m.az.length≠p.az.length\/m.be.length≠p.be.length then 20 else
 match fst (HV t p g m) 0 m.az.length with
 |some e=>e|none=>(fst (Ed p g m) 0 m.be.length).getD 0
def Ei(t:AC)(p g:bi)(m:bk)(inj:Bool):Int:=
 if Dl t p g≠0 then Dl t p g else if Jl t p g m≠0 then Jl t p g m else if(inj&&!G2 m)=X then 5 else 0
structure Y3(t:AC)(p g:bi)(m:bk):Prop where
 t2:m.az.length=p.az.length
 x4:m.be.length=p.be.length
 node:∀i:Int,0<=i->i<m.az.length->(0<=AA m.az i/\AA m.az i<g.az.length)/\isB t (AA g.az (AA m.az i)) (AA p.az i)=X
 edge:∀i:Int,0<=i->i<m.be.length->0<=AA m.be i/\AA m.be i<g.be.length
variable{t:AC}
theorem JN{p g:bi}(h:Dl t p g=0):(Az t).2=0/\BV p/\BV g/\(∀n∈p.az,0<=n/\n<t.az.length)/\∀n∈g.az,0<=n/\n<t.az.length:=by
 unfold Dl at h;split at h
 .grind
 split at h
 .grind
 split at h
 .grind
 split at h
 .rename_i e j o d;rw[gN]at d
  grind [Dm,Cu]
 .cases h
variable{m:bk}
theorem gX{p g:bi}(h:Jl t p g m=0):Y3 t p g m:=by
 unfold Jl at h;split at h
 .cases h
 rename_i o;have j:fst (HV t p g m) 0 m.az.length=W:=by
  grind [DW,HV]
 rw [j]at h;have he:=P4 (λi=>by
  grind [Ed]) h
 refine ⟨U,U,λi d e=>?_,λi d e=>?_⟩
 .grind[Bc,HV]
 grind [Ed]
theorem Zp(hf:Ap t){p g:bi}(A:Dl t p g=0)(m:bk):G6 t p g m=Y (Jl t p g m):=by
 obtain ⟨hv,C,G,tp,D⟩:=JN A;unfold G6 Jl;refine Pz j? λE=>?_;rw[jP hf (Cg hv) hv,bs,BU (HV t p g m),Dz]
 .cases F:fst (HV t p g m) 0 m.az.length with
  |some e=>rfl|none=>
   dsimp only;rw[BU (Ed p g m),Cf];intro i j z _;unfold Ed;rw[AD j z,bs];by_cases d:AA m.be i<0\/g.be.length<=AA m.be i
   .rw[Ne b?,Ne d];rfl
   .have hf:=C.fit _ (AG (l:=p.be) j U);rw[QQ b?,QQ d,AD j U,bs,AD U U,bs];by_cases o:(AA p.be i).em=(AA g.be (AA m.be i)).em
    .rw[QQ d!,QQ d!,AD U U,bs];by_cases r:AA m.az (AA p.be i).fb=(AA g.be (AA m.be i)).fb
     .rw[QQ p?,AD U U,bs,bs];by_cases u:AA m.az (AA p.be i).To=(AA g.be (AA m.be i)).To
      .rw[QQ e_,QQ (by simp[r,u])];rfl
      .rw[Ne e_,Ne (.inr u)];rfl
     .rw[Ne p?,bs,Ne rfl,Ne (.inl r)];rfl
    .rw[Ne d!,Ne o];rfl
 .intro i j z _;unfold HV;rw[AD j z,bs];by_cases d:AA m.az i<0\/g.az.length<=AA m.az i
  .rw[Ne b?,Ne d];rfl
  .have w:=tp _ (AG (l:=p.az) j U);have y:=D _ (AG (l:=g.az) (show 0<=AA m.az i by omega) U);rw[QQ b?,QQ d,AD j U,bs,AD w.1 (by unfold Ho;rw[a6,Am];exact w.2),bs,AD U U,bs];have e:AA (Ho t) (AA p.az i)=Nf t (AA p.az i):=by unfold Ho;exact E5 (Nf t) w.1 w.2
   rw [e,AD y.1 (by unfold Nf;rw[a6,Am];exact y.2),bs];have B:AA (Nf t (AA p.az i)) (AA g.az (AA m.az i))=isB t (AA g.az (AA m.az i)) (AA p.az i):=by unfold Nf;exact E5 (λk=>isB t k (AA p.az i)) y.1 y.2
   rw [B];cases isB t (AA g.az (AA m.az i)) (AA p.az i)<;>rfl
variable{l:Fp}
theorem gF(d:l.length<=1000):IS l=Y (!Ju l):=by grind[IS,Wb,IG,Aby,Ju]
theorem Yr(hf:Ap t)(p g:bi)(m:bk)(inj:Bool):GG t p g m inj=Y (Ei t p g m inj):=by
 unfold GG Ei;rw[Vt hf,bs];refine Dp λd=>?_;rw[Zp hf d,bs];refine Dp λo=>?_;obtain⟨_,j,r,_⟩:=JN d;have e:=gX o;have:=j.ci;have:=j.c8;have:=e.t2;have:=e.x4;rw[gF U,gF U];unfold G2;cases inj<;>cases Ju m.az<;>cases Ju m.be<;>rfl
theorem sZ(l:Fp):J1 l=Y (Ju l):=aj l
theorem mA{p g:bi}(z:Dl t p g=0)(m:bk)(inj:Bool):M1 t p g m inj=Y (if Jl t p g m≠0 then Jl t p g m else if(inj&&!G2 m)=X then 5 else 0):=by
 obtain ⟨hv,C,F,tp,D⟩:=JN z;unfold M1 Jl;by_cases A:m.az.length≠p.az.length\/m.be.length≠p.be.length
 .grind
 rw [QQ j?,QQ A,BU (HV t p g m),Dz]
 .cases E:fst (HV t p g m) 0 m.az.length with
  |some e=>
   grind [DW,HV]
  |none=>
   dsimp only;rw[BU (Ed p g m),Dz]
   .grind[fst,Ed,DW,sZ,G2,Ju]
   intro i j w _;unfold Ed;rw[AD j w];simp only[bs,Up];by_cases d:AA m.be i<0\/g.be.length<=AA m.be i
   .rw[Ne b?,Ne d];rfl
   .have hf:=C.fit _ (AG (l:=p.be) j U);rw[QQ b?,QQ d,AD j U,bs,AD U U,bs];by_cases o:(AA p.be i).em=(AA g.be (AA m.be i)).em
    .rw[QQ d!,QQ d!,AD U U,bs];by_cases r:AA m.az (AA p.be i).fb=(AA g.be (AA m.be i)).fb
     .rw[QQ p?,AD U U,bs,bs];by_cases u:AA m.az (AA p.be i).To=(AA g.be (AA m.be i)).To
      .rw[QQ e_,QQ (by simp[r,u])];rfl
      .rw[Ne e_,Ne (.inr u)];rfl
     .rw[Ne p?,bs,Ne rfl,Ne (.inl r)];rfl
    .rw[Ne d!,Ne o];rfl
 .intro i j w _;unfold HV;rw[AD j w];simp only[bs,Up];by_cases d:AA m.az i<0\/g.az.length<=AA m.az i
  .rw[Ne b?,Ne d];rfl
  .have B:=tp _ (AG (l:=p.az) j U);have y:=D _ (AG (l:=g.az) (show 0<=AA m.az i by omega) U);rw[QQ b?,QQ d,AD U U,bs,AD j U,bs,Vv (Cg hv) y.1 y.2 B.1,bs];cases isB t (AA g.az (AA m.az i)) (AA p.az i)<;>rfl
theorem Yu(hf:Ap t)(p g:bi)(m:bk)(inj:Bool):JW t p g m inj=Y (Ei t p g m inj):=by
 unfold JW Ei;rw[Wz hf,bs];refine Dp λd=>?_;rw[mA d,bs]
theorem bX{p g:bi}{inj:Bool}(h:Ei t p g m inj=0):Dl t p g=0/\Y3 t p g m:=by grind[Ei,gX]
end Go.Sf.Sc
namespace Go.Sf.Sc
open Go Go.Sf
section
variable{α σ ρ:Type}
def EZ(step:α->σ->B2 σ ρ):List α->σ->σ ⊕ ρ
 |[],s=>.inl s|a::r,s=>match step a s with
  |.next s'=>EZ step r s'|.brk s'=>.inl s'|.ret r=>.inr r
variable{f:Int->σ->Option (B2 σ ρ)}
theorem UX[Inhabited α]{l:List α}(step:α->σ->B2 σ ρ)(I:σ->Prop)(h:∀(i:Int)s,0<=i->i<l.length->I s->f i s=Y (step (AA l i) s)/\∀s',step (AA l i) s=.next s'->I s'):
  ∀(n:Nat)(a:Int)(s:σ),0<=a->a+n=l.length->I s->tc f n a s=Y (EZ step (l.drop a.toNat) s)
 |0,a,s,d,o,_=>by
  rw [x_ U];rfl
 |n+1,a,s,d,o,u=>by
  obtain ⟨g,j⟩:=h a s d U u;have hd:l.drop a.toNat=AA l a::l.drop (a+1).toNat:=by
   grind [x!,AA,x?]
  rw [FH,g,hd,EZ];cases e:step (AA l a) s with
  |next s'=>
   simp only;exact UX step I h n (a+1) s' U U (j s' e)
  |brk s'=>rfl|ret r=>rfl
theorem Rm[Inhabited α]{l:List α}(step:α->σ->B2 σ ρ)(I:σ->Prop){s:σ}(d:I s)(h:∀(i:Int)s,0<=i->i<l.length->I s->f i s=Y (step (AA l i) s)/\∀s',step (AA l i) s=.next s'->I s'):
  eE f 0 l.length s=Y (EZ step l s):=by
 have:=UX step I h l.length 0 s U U d;unfold eE;rw[show((l.length:Int)-0).toNat=l.length by omega];exact this
theorem dW[Inhabited α](step:α->σ->B2 σ ρ)(I:σ->Prop):∀(l:List α)(s s':σ),I s->(∀a∈l,∀s s',I s->step a s=.next s'->I s')->(∀a∈l,∀s s',step a s≠.brk s')->EZ step l s=.inl s'->I s'
 |[],s,s',h,_,_,e=>by cases e;exact h
 |a::r,s,s',h,g,o,e=>by
  rw [EZ]at e;split at e
  next s2 j=>exact dW step I r s2 s' (g a V s s2 h j) (λa d=>g a (by simp[d])) (λa d=>o a (by simp[d])) e
  .grind
  .cases e
end
def DK(x:ew)(l:Fp):Int:=if x.Var<0 then x.Add else AW (AA l x.Var+x.Add)
variable{x:ew}{l:Fp}
theorem Ur(h:x.Var<l.length):Es x l=Y (DK x l):=by grind[Es,DK,AD]
theorem Zy(h:x.Var<l.length):JY x l=Y (DK x l):=Ur h
theorem ce(d:-1<=x.Var)(h:x.Var<l.length)(e:l.length<=1000):FP x l=Y (DK x l,0):=by grind[FP,Cz,Ao,Ur]
theorem PQ(d:-1<=x.Var)(h:x.Var<l.length):FI x l=Y (DK x l,0):=by grind[FI,Zy]
def LE(x:Test)(l:Fp):Bool:=(decide (x.fq=1)&&decide (DK x.d7 l<=DK x.ca l))||(decide (x.fq=2)&&decide (DK x.d7 l=DK x.ca l))
structure It(n:Int)(x:ew):Prop where
 low:-1<=x.Var
 high:x.Var<n
 add:-1000000<=x.Add/\x.Add<=1000000
def QU(l:Fp):Prop:=∀x∈l,-2000000<=x/\x<=2000000
variable{n:Int}
theorem Tn(h:It n x)(d:QU l)(e:n<=l.length):DK x l=(if x.Var<0 then x.Add else AA l x.Var+x.Add)/\-3000000<=DK x l/\DK x l<=3000000:=by
 unfold DK;have:=h.add;by_cases g:x.Var<0
 .grind
 .have hh:=h.high;have:=d _ (AG (l:=l) (show 0<=x.Var by omega) U)
  grind [Ao]
theorem Zx(h:It n x)(d:n<=l.length):Ky x l=Y (DK x l,X):=by
 have e:=h.low;have g:=h.high
 grind [Ky,DK,AD]
theorem r_holds{x:Test}(e:It n x.d7)(g:It n x.ca)(d:n<=l.length):My x l=Y (LE x l):=by
 unfold My;rw[Zx e d,Zx g d];rfl
variable{a b:Int}
theorem aH(j:-4000000<=a/\a<=4000000)(o:-4000000<=b/\b<=4000000):HF a b=Y (if a+b<0 then(-1,a+b+18446744073709551616)else(0,a+b)):=by
 have d:∀c:Int,IntKind.u64.wrap c=c % 18446744073709551616:=λc=>by
  simp [IntKind.wrap,IntKind.signed,IntKind.bits]
 have g:∀c:Int,-4000000<=c/\c<=4000000->Mv .i64 .shr c 63=Y (if c<0 then -1 else 0):=by
  intro c w;unfold Mv;have e:c.fdiv (2^ (min (63:Int).toNat (IntKind.bits .i64)))=if c<0 then -1 else 0:=by
   show c.fdiv (2^ 63)=_
   grind
  simp only[e];have:(0:Int)<=63/\IntKind.min .i64<=(if c<0 then -1 else 0)/\(if c<0 then -1 else 0)<=IntKind.max .i64:=by
   split<;>decide
  rw [Ne this]
 unfold HF I7;rw[d,d,Ne U,bs,g a j,g b o,bs,bs];congr 1;have y:∀c:Int,-10<=c->c<=10->AW c=c:=λc r u=>Ao U U
 grind
def Kg(a:Int):Int×Int:=if a<0 then(-1,a+18446744073709551616)else(0,a)
theorem cj(h:It n x)(d:QU l)(o:n<=l.length):FR x l=Y ((Kg (DK x l)).1,(Kg (DK x l)).2,X):=by
 have r:=h.low;have u:=h.high;have w:=h.add;have g:=(Tn h d o).1;unfold FR;by_cases j:x.Var=-1
 .have e:DK x l=x.Add:=by rw[g,Ne U]
  rw [e,Ne h_,aH U U,bs,Int.zero_add];rfl
 .have:=d _ (AG (l:=l) (show 0<=x.Var by omega) U);have e:DK x l=AA l x.Var+x.Add:=by rw[g,QQ U]
  rw [e,QQ h_,QQ an,AD U U,bs,aH U U,bs];rfl
theorem qS(a b:Int):cmp_Compare_int a b=Y (if a<b then -1 else if b<a then 1 else 0):=by
 unfold cmp_Compare_int cmp_isNaN_int
 grind
theorem yJ(a b:Int):Iw a b=Y (if a<b then -1 else if b<a then 1 else 0):=qS a b
theorem uV(a b:Int):OF [a,b]=Y (if a=0 then b else a):=by
 unfold OF;show d6 (tc _ 2 0 ()) _ _=_;rw[FH,show idx [a,b] 0=Y a from rfl,bs]
 grind [d6,tc,FH,idx]
theorem p_holds{x:Test}(g:It n x.d7)(j:It n x.ca)(d:QU l)(e:n<=l.length):Gh x l=Y (LE x l):=by
 have o:=(Tn g d e).2;have s2:=(Tn j d e).2;unfold Gh LE;rw[cj g d e,cj j d e];simp[qS,yJ,uV];generalize DK x.d7 l=a at o;generalize DK x.ca l=b at s2;have key:(if(if(Kg a).1<(Kg b).1 then(-1:Int)else if(Kg b).1<(Kg a).1 then 1 else 0)=0 then(if(Kg a).2<(Kg b).2 then(-1:Int)else if(Kg b).2<(Kg a).2 then 1 else 0)else(if(Kg a).1<(Kg b).1 then(-1:Int)else if(Kg b).1<(Kg a).1 then 1 else 0))=if a<b then -1 else if b<a then 1 else 0:=by
  grind [Kg]
 rw [key];congr 2
 .grind
 grind
end Go.Sf.Sc
namespace Go.Sf.Sc
open Go Go.Sf
structure Ty(t:AC)(q:cE):Prop where
 g:BV q.bi
 kind:∀n∈q.bi.az,0<=n/\n<t.az.length
 vars:0<=q.eg/\q.eg<=12
 few:q.d4.length<=10/\q.fv.length<=10
 slot:∀s∈q.d4,(0<=s.kp/\s.kp<q.bi.az.length)/\(0<=s.ff/\s.ff<(A3 t (AA q.bi.az s.kp)).length)/\It q.eg s.ew
 test:∀x∈q.fv,(x.fq=1\/x.fq=2)/\It q.eg x.d7/\It q.eg x.ca
 ge:Bz q.bi=0
 ty:CQ t q.bi=X
variable{n:Int}{x:ew}
theorem qE(h:Ou n x=X):It n x:=by
 unfold Ou at h;simp[pE]at h;exact⟨h.1.1.1,h.1.1.2,h.1.2,h.2⟩
theorem qF{l:List Test}(h:Kr n l=0):∀x∈l,(x.fq=1\/x.fq=2)/\It n x.d7/\It n x.ca:=by
 unfold Kr at h;split at h
 .cases h
 split at h
 .cases h
 have g:=Si h;intro x d;obtain⟨i,j,o,rfl⟩:=BC d;have:=g i j o;unfold Pv at this;split at this
 .cases this
 split at this
 .rename_i r e;rw[gN]at e
  grind [qE]
 .cases this
theorem jx(n:Int)(l:List Test):Kr n l≠9:=by
 unfold Kr;split
 .decide
 split
 .decide
 intro h;cases d:fst (λi=>nz (Pv n (AA l i))) 0 l.length with
 |none=>rw[d]at h;cases h
 |some r=>
  grind [DW,nz,Pv]
variable{t:AC}{q:cE}
theorem oc(hv:(Az t).2=0)(h:Hk t q=0\/Hk t q=9):Ty t q:=by
 have y:=Xo q.bi;unfold Hk at h;rw[QQ t_]at h;split at h
 .omega
 rename_i o;have g:=Dm (A_.1 o);split at h
 .omega
 rename_i e;split at h
 .omega
 rename_i A;split at h
 .omega
 rename_i B;split at h
 .omega
 rename_i C;split at h
 .grind[jx]
 rename_i w;refine⟨g,(Cu g i?).1,U,U,λs z=>?_,qF (A_.1 w),A_.1 o,i?⟩;have j:TA t q s=T:=by
  grind
 unfold TA at j;simp[Bool.not_eq_false',decide_eq_false_iff_not]at j;obtain⟨⟨⟨d,E⟩,F⟩,G,H⟩:=j;unfold S8 at d;dsimp only at d;split at d
 .cases d
 rename_i D;have u:=(Cu g i?).1 _ (AG (l:=q.bi.az) (show 0<=s.kp by omega) U);rw[KA hv u.1 u.2]at d;split at d
 .cases d
 rename_i r;have r:¬(s.ff<0\/((A3 t (AA q.bi.az s.kp)).length:Int)<=s.ff):=r;exact⟨U,U,U,U,U,U⟩
def Nb(h:AH)(m:bk)(s:DN):Int:=AA (AA h.d5 (AA m.az s.kp)) s.ff
def Pu(h:AH)(m:bk)(s:DN)(st:Fp×MV):Fp×MV:=
 if 0<=s.ew.Var/\AA st.2 s.ew.Var=T then(BB st.1 s.ew.Var (AW (Nb h m s-s.ew.Add)),BB st.2 s.ew.Var X)else st
def FJ{ρ:Type}(r:ρ)(h:AH)(m:bk)(s:DN)(st:Fp×MV):B2 (Fp×MV) ρ:=
 if DK s.ew (Pu h m s st).1=Nb h m s then .next (Pu h m s st)else .ret r
structure VI(n:Int)(st:Fp×MV):Prop where
 l1:(st.1.length:Int)=n
 l2:(st.2.length:Int)=n
 small:QU st.1
structure Jp(n:Int)(h:AH)(m:bk)(s:DN):Prop where
 node:0<=s.kp/\s.kp<m.az.length
 val:0<=AA m.az s.kp/\AA m.az s.kp<h.d5.length
 Abz:0<=s.ff/\s.ff<(AA h.d5 (AA m.az s.kp)).length
 term:It n s.ew
 has:-1000000<=Nb h m s/\Nb h m s<=1000000
variable{h:AH}{m:bk}{s:DN}
theorem PU(g:ET t)(j:Ty t q)(hh:Io t h)(e:Y3 t q.bi h.bi m)(o:s∈q.d4):Jp q.eg h m s:=by
 obtain ⟨u,w,y⟩:=j.slot s o;have z:=e.t2;have d:=e.node s.kp u.1 U;have A:=hh.row _ d.1.1 d.1.2;have r:=hh.kind _ d.1.1 d.1.2;have B:=Zh g r.2 d.2;have hv:=hh.len;refine⟨U,U,U,y,?_⟩;unfold Nb;exact hh.low _ d.1.1 d.1.2 _ (AG w.1 U)
theorem Tj{α:Type}(l:List α)(i:Int)(a:α):(BB l i a).length=l.length:=by unfold BB;rw[List.length_set]
variable{i:Int}
theorem o8{α:Type}{l:List α}{a x:α}(h:x∈BB l i a):x∈l\/x=a:=List.mem_or_eq_of_mem_set h
variable{st:Fp×MV}
theorem mS(e:Jp n h m s)(hi:VI n st):VI n (Pu h m s st):=by
 have g:=e.has;have j:=e.term.add;unfold Pu;split
 .refine⟨by rw[Tj];exact hi.l1,by rw[Tj];exact hi.l2,λx d=>?_⟩;rcases o8 d with d|rfl
  .exact hi.small x d
  grind [Ao]
 .exact hi
def Hd(q:cE)(h:AH)(m:bk):Fp×Int:=
 match EZ (FJ (([],11):Fp×Int) h m) q.d4 (y_ q.eg.toNat 0,y_ q.eg.toNat T)with
 |.inr r=>r|.inl st=>if fu (λi=>!LE (AA q.fv i) st.1) 0 q.fv.length=X then([],16)else(st.1,0)
theorem S1(d:0<=n):VI n (y_ n.toNat 0,y_ n.toNat T):=by
 refine ⟨an,an,λx e=>?_⟩
 grind
variable{st':Fp×MV}
theorem QO{ρ:Type}{r:ρ}(d:Jp n h m s)(hi:VI n st)(e:FJ r h m s st=.next st'):VI n st':=by grind[FJ,mS]
theorem mT{ρ:Type}{r:ρ}:FJ r h m s st≠.brk st':=by grind[FJ]
theorem PT{ρ:Type}{r:ρ}{l:List DN}(d:∀s∈l,Jp n h m s)(hi:VI n st)(e:EZ (FJ r h m) l st=.inl st'):VI n st':=
 dW (FJ r h m) (VI n) l st st' hi (λa g _ _ j o=>QO (d a g) j o) (λ_ _ _ _=>mT) e
theorem Qq{ρ:Type}{r:ρ}(w:Jp n h m s)(hi:VI n st){θ:Fp×MV->Option (B2 (Fp×MV) ρ)}
  (j:∀st':Fp×MV,(st'.1.length:Int)=n->θ st'=Y (if DK s.ew st'.1=Nb h m s then .next st' else .ret r)):
  ((if(decide (0<=s.ew.Var))=X then((idx st.2 s.ew.Var).bind λo=>Y (!o))else Y T).bind λu=>
   if u=X then(idx st.1 s.ew.Var).bind λ_=>(idx st.2 s.ew.Var).bind λ_=>θ (BB st.1 s.ew.Var (AW (Nb h m s-s.ew.Add)),BB st.2 s.ew.Var X)else θ (st.1,st.2))=Y (FJ r h m s st):=by
 have y:=w.term.high;have l1:=hi.l1;have l2:=hi.l2;unfold FJ;by_cases d:0<=s.ew.Var
 .rw[Ne b?,AD d U,bs,bs];by_cases g:AA st.2 s.ew.Var=T
  .rw[Ne q_,AD d U,bs,bs,j _ (by dsimp only;rw[Tj];exact l1)];have e:Pu h m s st=(BB st.1 s.ew.Var (AW (Nb h m s-s.ew.Add)),BB st.2 s.ew.Var X):=by unfold Pu;rw[Ne ⟨d,g⟩]
   rw [e]
  .rw[QQ o?,j _ l1];have e:Pu h m s st=st:=by unfold Pu;rw[QQ (λe=>g e.2)]
   rw [e]
 .rw[QQ b?,bs,QQ a_,j _ l1];have e:Pu h m s st=st:=by unfold Pu;rw[QQ (λe=>d e.1)]
  rw [e]
theorem ef{ρ:Type}{r:ρ}(j:Jp n h m s)(hi:VI n st){θ:Fp×MV->Option (B2 (Fp×MV) ρ)}
  (o:∀st':Fp×MV,(st'.1.length:Int)=n->θ st'=Y (if DK s.ew st'.1=Nb h m s then .next st' else .ret r)):
  ((if(decide (0<=s.ew.Var))=X then((idx st.2 s.ew.Var).bind λd=>Y (!d))else Y T).bind λe=>
   if e=X then(idx st.2 s.ew.Var).bind λ_=>(idx st.1 s.ew.Var).bind λ_=>θ (BB st.1 s.ew.Var (AW (Nb h m s-s.ew.Add)),BB st.2 s.ew.Var X)else θ (st.1,st.2))=Y (FJ r h m s st):=by
 rw [<-Qq j hi o];have u:=j.term.high;have l1:=hi.l1;have l2:=hi.l2;by_cases g:0<=s.ew.Var
 .rw[AD g U,AD g U];rfl
 .rw[QQ o?];rfl
variable{v:Int}
theorem Z7{t:ew}{f:ew->Fp->K1}(hf:∀l:Fp,(l.length:Int)=n->f t l=Y (DK t l))(st':Fp×MV)(e:(st'.1.length:Int)=n):((f t st'.1).bind λd=>if(!decide (d=v))=X then Y (B2.ret (([],11):Fp×Int))else Y (.next st'))=Y (if DK t st'.1=v then .next st' else .ret ([],11)):=o2
theorem sO(u:Ty t q)(w:∀s∈q.d4,Jp q.eg h m s):Iu q h m=Y (Hd q h m):=by
 have hv:=u.vars;unfold Iu Hd Eu;rw[Ne U,bs,Ne U,bs];rw[Rm (FJ (([],11):Fp×Int) h m) (VI q.eg) (S1 hv.1)]
 .cases z:EZ (FJ (([],11):Fp×Int) h m) q.d4 (y_ q.eg.toNat 0,y_ q.eg.toNat T)with
  |inr r=>rfl|inl st=>
   have hi:=PT w (S1 hv.1) z;rw[B0,BN (λi=>!LE (AA q.fv i) st.1) ([],16)]
   .dsimp only;cases fu (λi=>!LE (AA q.fv i) st.1) 0 q.fv.length<;>rfl
   .intro i g j _;have y:=u.test _ (AG g j);rw[AD g j,bs,p_holds y.2.1 y.2.2 hi.small (by have:=hi.l1;omega),bs]
    grind
 .intro i st g j hi;have d:=w _ (AG g j);refine⟨?_,λs' e=>QO d hi e⟩;rw[AD g j,bs,AD d.node.1 d.node.2,bs,AD d.val.1 d.val.2,bs,AD d.Abz.1 d.Abz.2,bs];exact Qq d hi (θ:=λst'=>(Es (AA q.d4 i).ew st'.1).bind λo=>if(!decide (o=Nb h m (AA q.d4 i)))=X then Y (B2.ret (([],11):Fp×Int))else Y (.next st')) (Z7 λl A=>Ur (by have:=d.term.high;omega))
theorem gO(u:Ty t q)(w:∀s∈q.d4,Jp q.eg h m s):IK q h m=Y (Hd q h m):=by
 have hv:=u.vars;unfold IK Hd Eu;rw[Ne U,bs,Ne U,bs];rw[Rm (FJ (([],11):Fp×Int) h m) (VI q.eg) (S1 hv.1)]
 .cases z:EZ (FJ (([],11):Fp×Int) h m) q.d4 (y_ q.eg.toNat 0,y_ q.eg.toNat T)with
  |inr r=>rfl|inl st=>
   have hi:=PT w (S1 hv.1) z;rw[B0,BN (λi=>!LE (AA q.fv i) st.1) ([],16)]
   .dsimp only;cases fu (λi=>!LE (AA q.fv i) st.1) 0 q.fv.length<;>rfl
   .intro i g j _;have y:=u.test _ (AG g j);rw[AD g j,bs,r_holds y.2.1 y.2.2 (by have:=hi.l1;omega),bs]
    grind
 .intro i st g j hi;have d:=w _ (AG g j);refine⟨?_,λs' e=>QO d hi e⟩;rw[AD g j,bs,AD d.node.1 d.node.2,bs,AD d.val.1 d.val.2,bs,AD d.Abz.1 d.Abz.2,bs];exact ef d hi (θ:=λst'=>(JY (AA q.d4 i).ew st'.1).bind λo=>if(!decide (o=Nb h m (AA q.d4 i)))=X then Y (B2.ret (([],11):Fp×Int))else Y (.next st')) (Z7 λl A=>Zy (by have:=d.term.high;omega))
def Oa(t:AC)(p:cE)(h:AH):Int:=if Hk t p≠0 then Hk t p else(Br t h).2
theorem lY(hf:Ap t)(p:cE)(h:AH):F1 t p h=Y (Oa t p h):=by
 unfold F1 Oa;rw[YC hf,bs];refine Dp λ_=>?_;rw[Uq hf];rfl
theorem Zv(hf:Ap t)(p:cE)(h:AH):K0 t p h=Y (Oa t p h):=by
 unfold K0 Oa;rw[al hf,bs];refine Dp λ_=>?_;rw[YI hf];rfl
def Fm(t:AC)(p:cE)(h:AH)(m:bk):Fp×Int:=
 if Oa t p h≠0 then([],Oa t p h)else if Ei t p.bi h.bi m T≠0 then([],Ei t p.bi h.bi m T)else Hd p h m
variable{p:cE}
theorem SP(hf:Ap t){inj:Bool}(d:Oa t p h=0)(e:Ei t p.bi h.bi m inj=0):(Az t).2=0/\Ty t p/\Io t h/\Y3 t p.bi h.bi m:=by
 unfold Oa at d;split at d
 .grind
 rename_i g;obtain⟨hv,hh⟩:=FU hf d;exact⟨hv,oc hv (.inl (A_.1 g)),hh,(bX e).2⟩
theorem fx(hf:Ap t)(p:cE)(h:AH)(m:bk):Er t p h m=Y (Fm t p h m):=by
 unfold Er Fm;rw[lY hf,bs];refine DV λe=>?_;rw[Yr hf,bs];refine DV λg=>?_;obtain⟨hv,d,hh,o⟩:=SP hf e g;rw[sO d (λs j=>PU (Cg hv) d hh o j)];rfl
theorem sW(hf:Ap t)(p:cE)(h:AH)(m:bk):M2 t p h m=Y (Fm t p h m):=by
 unfold M2 Fm;rw[Zv hf,bs];refine DV λe=>?_;rw[Yu hf,bs];refine DV λg=>?_;obtain⟨hv,d,hh,o⟩:=SP hf e g;rw[gO d (λs j=>PU (Cg hv) d hh o j)];rfl
theorem mU(g:Ty t q)(j:∀s∈q.d4,Jp q.eg h m s)(e:(Hd q h m).2=0):((Hd q h m).1.length:Int)=q.eg/\QU (Hd q h m).1:=by
 unfold Hd at e|-;cases d:EZ (FJ (([],11):Fp×Int) h m) q.d4 (y_ q.eg.toNat 0,y_ q.eg.toNat T)with
 |inr r=>
  rw [d]at e;have:∀(l:List DN)(st:Fp×MV)(r:Fp×Int),EZ (FJ (([],11):Fp×Int) h m) l st=.inr r->r=([],11):=by
   intro l
   induction l with
   |nil=>intro st r h;cases h
   |cons a l u=>
    grind [EZ,FJ]
  grind
 |inl st=>
  rw [d]at e;have hi:=PT j (S1 g.vars.1) d;dsimp only at e|-;split at e
  .cases e
  next o=>rw[QQ o];exact⟨hi.l1,hi.small⟩
end Go.Sf.Sc
namespace Go.Sf.Sc
open Go Go.Sf
variable{i:Int}
theorem GP{n:Nat}{α:Type}[Inhabited α](F:Int->α)(d:0<=i)(v:α):BB ((AZ n).map F) i v=(AZ n).map λj=>if j=i then v else F j:=by
 unfold BB;refine y! V (λk e g=>?_)
 grind [Am,AZ]
theorem DQ{n:Nat}{α:Type}{F G:Int->α}(h:∀j,0<=j->j<(n:Int)->F j=G j):(AZ n).map F=(AZ n).map G:=by grind[List.map_congr_left,By]
def Ha(n:Nat)(k:Int):MV:=(AZ n).map λj=>decide (j<k)
theorem Xv(n:Nat):Ha n 0=y_ n T:=by
 unfold Ha;refine y! (by simp[Am]) (λk d e=>?_)
 grind [AZ,Am]
theorem Zj(n:Nat)(k:Int):(Ha n k).length=n:=by unfold Ha;rw[a6,Am]
def NW(q:cE)(h:AH)(m:bk)(given:Fp):Fp×Bool:=
 match EZ (FJ (([],T):Fp×Bool) h m) q.d4 (given++y_ (q.eg-given.length).toNat 0,Ha q.eg.toNat given.length)with
 |.inr r=>r|.inl st=>if fu (λi=>!LE (AA q.fv i) st.1) 0 q.fv.length=X then([],T)else(st.1,X)
variable{n:Int}{given:Fp}
theorem XF(e:0<=n)(g:given.length<=n)(hv:QU given):VI n (given++y_ (n-given.length).toNat 0,Ha n.toNat given.length):=by
 refine ⟨an,by show((Ha n.toNat given.length).length:Int)=n;rw[Zj];omega,λx d=>?_⟩;rcases w!.1 d with d|d
 .exact hv x d
 grind
variable{q:cE}{m:bk}{t:AC}
theorem vS{s:BX}(w:Ty t q)(y:∀x∈q.d4,Jp q.eg s.h m x)(B:given.length<=q.eg)(hv:QU given):ED s q m given=Y (NW q s.h m given):=by
 have D:=w.vars;unfold ED NW slices_Clone_int;rw[BM a?,bs,Ao U U];have E:bL given (q.eg-given.length) 0=Y (given++y_ (q.eg-given.length).toNat 0):=by
  grind [bL,AX]
 have F:Eu q.eg T=Y (y_ q.eg.toNat T):=by
  grind [Eu]
 rw [E,bs,F,bs];have G:gp (λ(d:Int)(z:MV)=>(idx z d).bind λC=>Y (BB z d X)) 0 (given.length:Int) (y_ q.eg.toNat T)=Y (Ha q.eg.toNat given.length):=by
  refine BZ (λi=>Ha q.eg.toNat i) U (Xv _) (λi d j=>?_);rw[AD d (by rw[Zj];omega),bs];congr 1;unfold Ha;rw[GP _ d]
  grind
 rw [G,bs];have u:=XF D.1 B hv;rw[Rm (FJ (([],T):Fp×Bool) s.h m) (VI q.eg) u]
 .cases H:EZ (FJ (([],T):Fp×Bool) s.h m) q.d4 (given++y_ (q.eg-given.length).toNat 0,Ha q.eg.toNat given.length)with
  |inr r=>rfl|inl st=>
   have hi:=PT y u H;rw[B0,BN (λi=>!LE (AA q.fv i) st.1) ([],T)]
   .dsimp only;cases fu (λi=>!LE (AA q.fv i) st.1) 0 q.fv.length<;>rfl
   .intro i d j _;have A:=w.test _ (AG d j);rw[AD d j,bs,p_holds A.2.1 A.2.2 hi.small (by have:=hi.l1;omega),bs]
    grind
 .intro i st d j hi;have g:=y _ (AG d j);refine⟨?_,λs' e=>QO g hi e⟩;rw[AD d j,bs,AD g.node.1 g.node.2,bs,AD g.val.1 g.val.2,bs,AD g.Abz.1 g.Abz.2,bs];refine Qq g hi (θ:=λst'=>(FP (AA q.d4 i).ew st'.1).bind λo=>if((!decide (o.2=0))||(!decide (o.1=Nb s.h m (AA q.d4 i))))=X then Y (B2.ret (([],T):Fp×Bool))else Y (.next st')) (λst' I=>?_);rw[ce g.term.low (by have:=g.term.high;omega) U,bs]
  grind
variable{h:AH}
theorem vu(C:Ty t q)(D:∀x∈q.d4,Jp q.eg h m x)(I:given.length<=q.eg)(hv:QU given):Lu q h m given=Y (NW q h m given):=by
 have G:=C.vars;unfold Lu NW;have L:Eu q.eg T=Y (y_ q.eg.toNat T):=by
  unfold Eu;rw[Ne U]
 rw [BM a?,bs,L,bs];have H:gp (λ(d:Int)(u:Fp×MV)=>
   (idx u.2 d).bind λJ=>
   if (decide ((given.length:Int)<=d))=X then
   (Ak u.1 [0]).bind λA=>
   Y (A,BB u.2 d (decide (d<(given.length:Int))))
   else
   Y (u.1,BB u.2 d (decide (d<(given.length:Int))))) 0 q.eg (given,y_ q.eg.toNat T)=Y (given++y_ (q.eg-given.length).toNat 0,(AZ q.eg.toNat).map λj=>decide (j<q.eg)&&decide (j<(given.length:Int))):=by
  refine BZ (λi=>(given++y_ (i-given.length).toNat 0,(AZ q.eg.toNat).map λj=>decide (j<i)&&decide (j<(given.length:Int)))) G.1 ?_ (λi d o=>?_)
  .have M:((0:Int)-given.length).toNat=0:=U
   rw [M];simp;rw[<-Xv];unfold Ha;refine DQ (λj E F=>?_);rw[show decide (j<0)=T by simp;omega];rfl
  .dsimp only;rw[AD d (by rw[a6,Am];omega),bs];have N:BB ((AZ q.eg.toNat).map λj=>decide (j<i)&&decide (j<(given.length:Int))) i (decide (i<(given.length:Int)))=(AZ q.eg.toNat).map λj=>decide (j<i+1)&&decide (j<(given.length:Int)):=by
    rw [GP _ d];refine DQ (λj E F=>?_);by_cases e:j=i
    .rw[Ne e,e,show decide (i<i+1)=X by simp;omega,Bool.true_and]
    .rw[QQ e];congr 1;rw[decide_eq_decide];omega
   rw [N];by_cases hi:(given.length:Int)<=i
   .rw[Ne h!,AV a!,bs];congr 2;rw[ae,show(i+1-given.length).toNat=(i-given.length).toNat+1 by omega,y?]
   .rw[QQ h!];have O:(i+1-given.length).toNat=(i-given.length).toNat:=U
    rw [O]
 have B:((AZ q.eg.toNat).map λj=>decide (j<q.eg)&&decide (j<(given.length:Int)))=Ha q.eg.toNat given.length:=by
  unfold Ha;refine DQ (λj E F=>?_);rw[show decide (j<q.eg)=X by simp;omega,Bool.true_and]
 rw [B]at H;rw[H,bs];have y:=XF G.1 I hv;dsimp only;rw[Rm (FJ (([],T):Fp×Bool) h m) (VI q.eg) y]
 .cases P:EZ (FJ (([],T):Fp×Bool) h m) q.d4 (given++y_ (q.eg-given.length).toNat 0,Ha q.eg.toNat given.length)with
  |inr r=>rfl|inl st=>
   have hi:=PT D y P;rw[B0,BN (λi=>!LE (AA q.fv i) st.1) ([],T)]
   .dsimp only;cases fu (λi=>!LE (AA q.fv i) st.1) 0 q.fv.length<;>rfl
   .intro i d o _;have z:=C.test _ (AG d o);have K:=hi.l1;rw[AD d o,bs,PQ z.2.1.low (by have:=z.2.1.high;omega),bs,PQ z.2.2.low (by have:=z.2.2.high;omega),bs,<-Ib];unfold LE;dsimp only;congr 1;generalize DK (AA q.fv i).d7 st.1=a;generalize DK (AA q.fv i).ca st.1=b;rcases z.1 with e|e
    .rw[e,eq_iff_iff];simp
    .rw[e,eq_iff_iff];simp
 .intro i st d o hi;have g:=D _ (AG d o);refine⟨?_,λs' e=>QO g hi e⟩;rw[AD d o,bs,AD g.node.1 g.node.2,bs,AD g.val.1 g.val.2,bs,AD g.Abz.1 g.Abz.2,bs];refine Qq g hi (θ:=λst'=>(FI (AA q.d4 i).ew st'.1).bind λw=>if(!decide (w.1=Nb h m (AA q.d4 i)))=X then Y (B2.ret (([],T):Fp×Bool))else Y (.next st')) (λst' K=>?_);rw[PQ g.term.low (by have:=g.term.high;omega),bs];by_cases e:DK (AA q.d4 i).ew st'.1=Nb h m (AA q.d4 i)
  .rw[QQ d_,Ne e]
  .rw[Ne d_,QQ e]
theorem qI(j:Ty t q)(o:∀s∈q.d4,Jp q.eg h m s)(u:given.length<=q.eg)(hv:QU given)(e:(NW q h m given).2=X):((NW q h m given).1.length:Int)=q.eg/\QU (NW q h m given).1:=by
 unfold NW at e|-;have d:=XF j.vars.1 u hv;cases g:EZ (FJ (([],T):Fp×Bool) h m) q.d4 (given++y_ (q.eg-given.length).toNat 0,Ha q.eg.toNat given.length)with
 |inr r=>
  rw [g]at e;have:∀(l:List DN)(st:Fp×MV)(r:Fp×Bool),EZ (FJ (([],T):Fp×Bool) h m) l st=.inr r->r=([],T):=by
   intro l
   induction l with
   |nil=>intro st r h;cases h
   |cons a l y=>
    grind [EZ,FJ]
  grind
 |inl st=>
  rw [g]at e;have hi:=PT o d g;dsimp only at e|-;split at e
  .cases e
  next w=>rw[QQ w];exact⟨hi.l1,hi.small⟩
def Ut(n:Nat)(by' images:Fp):Fp:=(AZ by'.length).foldl (λl i=>BB l (AA by' i) (AA images i)) (y_ n (-1))
theorem ZR(d images:Fp):∀(e:Fp)(l:Fp),(e.foldl (λl i=>BB l (AA d i) (AA images i)) l).length=l.length
 |[],l=>rfl|k::e,l=>by rw[List.foldl_cons,ZR d images e,Tj]
theorem YF{n:Nat}{d images:Fp}(y:∀x∈d,0<=x/\x<n)(z:d.length<=images.length):gp (λ(g:Int)(o:Fp)=>
  (idx d g).bind λe=>
  (idx images g).bind λj=>
  (idx o e).bind λr=>
  Y (BB o e j)) 0 (d.length:Int) (y_ n (-1))=Y (Ut n d images):=by
 have h:=BZ (f:=λ(g:Int)(o:Fp)=>
  (idx d g).bind λe=>
  (idx images g).bind λj=>
  (idx o e).bind λr=>
  Y (BB o e j)) (λi=>(AZ i.toNat).foldl (λl i=>BB l (AA d i) (AA images i)) (y_ n (-1))) (a:=0) (b:=d.length) (s:=y_ n (-1)) U rfl (λi g u=>by
   have w:=y _ (AG g u);rw[AD g u,bs,AD g U,bs,AD w.1 (by rw[ZR];simpa using w.2),bs,Gx g,List.foldl_append];rfl)
 rw [h,A'];rfl
theorem cp{n:Nat}{d images:Fp}(j:n<=1000)(e:∀x∈d,0<=x/\x<n)(g:d.length<=images.length):Gg n d images=Y (Ut n d images):=by
 unfold Gg El;rw[Ne ⟨rfl,U,U⟩,bs];show(gp _ 0 _ (y_ (n:Int).toNat (-1))).bind _=_;rw[A',YF e g];rfl
theorem dB{n:Nat}{d images:Fp}(j:n<=1000)(e:∀x∈d,0<=x/\x<n)(g:d.length<=images.length):J3 n d images=Y (Ut n d images):=by
 unfold J3;rw[BZ (a:=0) (b:=n) (s:=[]) (λi=>y_ i.toNat (-1)) U rfl,bs,A',YF e g]
 .rfl
 .intro i o r;rw[AV a!,bs,show(i+1).toNat=i.toNat+1 by omega,y?]
end Go.Sf.Sc
namespace Go.Sf.Sc
open Go Go.Sf
structure qM(f:AL):Prop where
 nl:f.ci.length<=f.p.az.length
 node:∀i:Int,0<=i->i<f.ci.length->(0<=AA f.ci i/\AA f.ci i<f.g.az.length)/\AA (AA f.is (AA f.p.az i)) (AA f.g.az (AA f.ci i))=X
 edge:∀i:Int,0<=i->i<f.c8.length->(0<=AA f.c8 i/\AA f.c8 i<f.g.be.length)/\AA f.g.be (AA f.c8 i)=⟨(AA f.p.be i).em,AA f.ci (AA f.p.be i).fb,AA f.ci (AA f.p.be i).To⟩
 inj:f.eb=X->f.ci.Nodup/\f.c8.Nodup
structure iG(f:AL)(m:bk):Prop where
 nl:m.az.length=f.p.az.length
 el:m.be.length=f.p.be.length
 node:∀i:Int,0<=i->i<m.az.length->(0<=AA m.az i/\AA m.az i<f.g.az.length)/\AA (AA f.is (AA f.p.az i)) (AA f.g.az (AA m.az i))=X
 edge:∀i:Int,0<=i->i<m.be.length->(0<=AA m.be i/\AA m.be i<f.g.be.length)/\AA f.g.be (AA m.be i)=⟨(AA f.p.be i).em,AA m.az (AA f.p.be i).fb,AA m.az (AA f.p.be i).To⟩
 inj:f.eb=X->m.az.Nodup/\m.be.Nodup
variable{i:Int}
theorem fE{α:Type}[Inhabited α](l:List α)(x:α)(h:i=l.length):AA (l++[x]) i=x:=by grind[Gy]
variable{l:Fp}{k:Int}
theorem X5{b:Bool}(h:(!(b&&l.any λx=>decide (k=x)))=X)(d:b=X)(e:l.Nodup):(l++[k]).Nodup:=o2
theorem Y4:∀(n:Nat)(f:AL),qM f->f.ci.length=f.p.az.length->f.c8.length+n=f.p.be.length->∀m∈Dh n f,iG f m
 |0,f,j,z,he,m,d=>by
  rw [Dh,List.mem_singleton]at d;subst d;exact⟨z,by simpa using he,j.node,j.edge,j.inj⟩
 |n+1,f,j,z,he,m,d=>by
  rw [Dh,z_]at d;obtain⟨k,w,d⟩:=d;have w:=By.1 w;split at d
  .rename_i o;unfold P8 at o;rw[gN]at o;obtain⟨r,y⟩:=o;rw[XC,gN,pE]at r;have:=Y4 n {f with c8:=f.c8++[k]} ⟨j.nl,j.node,λi A u=>by
    have u:i<((f.c8++[k]).length:Int):=u;simp at u;show(0<=AA (f.c8++[k]) i/\AA (f.c8++[k]) i<f.g.be.length)/\AA f.g.be (AA (f.c8++[k]) i)=⟨(AA f.p.be i).em,AA f.ci (AA f.p.be i).fb,AA f.ci (AA f.p.be i).To⟩;by_cases e:i=f.c8.length
    .rw[fE _ _ e];exact⟨w,by rw[e];exact r.2⟩
    .rw[bP _ _ A U];exact j.edge i A U,λhi=>⟨(j.inj hi).1,X5 y hi (j.inj hi).2⟩⟩ z (by show(f.c8++[k]).length+n=f.p.be.length;rw[aE,z!];omega) m d
   exact ⟨this.nl,this.el,this.node,this.edge,this.inj⟩
  .cases d
theorem Y5:∀(n:Nat)(f:AL),qM f->f.c8=[]->f.ci.length+n=f.p.az.length->∀m∈EU n f,iG f m
 |0,f,r,he,A,m,o=>by
  grind [EU,Y4]
 |n+1,f,r,he,A,m,o=>by
  rw [EU,z_]at o;obtain⟨k,w,o⟩:=o;have w:=By.1 w;split at o
  .rename_i j;unfold QA at j;rw[gN,gN]at j;obtain⟨⟨_,y⟩,z⟩:=j;have:=Y5 n {f with ci:=f.ci++[k]} ⟨by show(f.ci++[k]).length<=f.p.az.length;rw[aE,z!];omega,λi u d=>by
    have d:i<((f.ci++[k]).length:Int):=d;simp at d;show(0<=AA (f.ci++[k]) i/\AA (f.ci++[k]) i<f.g.az.length)/\AA (AA f.is (AA f.p.az i)) (AA f.g.az (AA (f.ci++[k]) i))=X;by_cases e:i=f.ci.length
    .rw[fE _ _ e];exact⟨w,by rw[e];exact y⟩
    .rw[bP _ _ u U];exact r.node i u U,λi u d=>by
    have d:i<(f.c8.length:Int):=d;rw[he]at d;have:i<(0:Nat):=d;omega,λhi=>⟨X5 z hi (r.inj hi).1,(r.inj hi).2⟩⟩ he (by show(f.ci++[k]).length+n=f.p.az.length;rw[aE,z!];omega) m o
   exact ⟨this.nl,this.el,this.node,this.edge,this.inj⟩
  .cases o
variable{t:AC}{m:bk}
theorem Qi{p g:bi}{pa:bk}{inj:Bool}(e:m∈GW t p g pa inj):iG (FF t p g pa inj) m:=
 Y5 _ (FF t p g pa inj) ⟨Nat.zero_le _,λi j d=>by have d:i<(0:Nat):=d;omega,λi j d=>by have d:i<(0:Nat):=d;omega,λ_=>⟨z?,z?⟩⟩ rfl q? m (List.mem_of_mem_take e)
theorem Wg{p g:bi}{pa:bk}{inj:Bool}(h:Dl t p g=0)(u:m∈GW t p g pa inj):Y3 t p g m:=by
 obtain ⟨hv,A,B,tp,w⟩:=JN h;have:=Qi u;refine⟨this.nl,this.el,λi d e=>?_,λi d e=>(this.edge i d e).1⟩;obtain⟨j,r⟩:=this.node i d e;refine⟨j,?_⟩;have o:=this.nl;have y:=tp _ (AG (l:=p.az) d (by show i<(p.az.length:Int);have o:m.az.length=p.az.length:=o;omega));have z:=w _ (AG (l:=g.az) j.1 j.2);have r:AA (AA (Ho t) (AA p.az i)) (AA g.az (AA m.az i))=X:=r
 grind [AA,Ho,Nf,E5,isB]
theorem kY{p g:bi}{pa:bk}{inj:Bool}(h:Dl t p g=0)(r:m∈GW t p g pa inj):Ei t p g m inj=0:=by
 have ok:=Wg h r;have u:=Qi r;have w:Jl t p g m=0:=by
  unfold Jl;rw[QQ (by have:=ok.t2;have:=ok.x4;omega)];have y:fst (HV t p g m) 0 m.az.length=W:=by
   rw [Bc];intro i d e;obtain⟨j,o⟩:=ok.node i d e
   grind [HV]
  have z:fst (Ed p g m) 0 m.be.length=W:=by
   rw [Bc];intro i d e;obtain⟨j,o⟩:=u.edge i d e;have j:0<=AA m.be i/\AA m.be i<g.be.length:=j;have o:AA g.be (AA m.be i)=⟨(AA p.be i).em,AA m.az (AA p.be i).fb,AA m.az (AA p.be i).To⟩:=o
   grind [Ed]
  rw [y,z];rfl
 unfold Ei;rw[QQ to,QQ (by simp[w])];cases inj
 .rfl
 .have:=u.inj rfl
  grind [G2,IG]
theorem br{p g:bi}{pa:bk}{inj:Bool}(h:(TH t p g pa inj).2=0):(TH t p g pa inj).1.length<=5000/\∀m∈(TH t p g pa inj).1,Y3 t p g m:=by grind[TH,Wg]
structure XH(t:AC)(p:cE)(h:AH)(x:AT):Prop where
 q:Ty t p
 m:Y3 t p.bi h.bi x.bk
 len:(x.eg.length:Int)=p.eg
 small:QU x.eg
structure kA(t:AC)(p:cE)(c:bq):Prop where
 q:Ty t c.cE
 vars:p.eg<=c.cE.eg
 map:aS p.bi c.cE.bi c.Map
 inj:G2 c.Map=X
def D6(t:AC)(c:bq)(h:AH)(m:AT)(inj:Bool):List AT×Int:=
 let x:=TH t c.cE.bi h.bi ⟨Ut c.cE.bi.az.length c.Map.az m.bk.az,Ut c.cE.bi.be.length c.Map.be m.bk.be⟩ inj
 if x.2≠0 then([],x.2)else((x.1.filter λy=>(NW c.cE h y m.eg).2).map λy=>⟨y,(NW c.cE h y m.eg).1⟩,0)
instance:Inhabited bk:=⟨⟨[],[]⟩⟩
instance:Inhabited AT:=⟨⟨default,[]⟩⟩
instance:Inhabited BD:=⟨⟨0,default,[]⟩⟩
theorem SI{x:List bk}{F:bk->Fp×Bool}{f:Int->List AT->Option (List AT)}(o:x.length<=5000)
  (hf:∀(i:Int)(s:List AT),0<=i->i<x.length->s.length<=5000->f i s=Y (if(F (AA x i)).2=X then s++[⟨AA x i,(F (AA x i)).1⟩]else s)):
  gp f 0 (x.length:Int) []=Y ((x.filter λy=>(F y).2).map λy=>⟨y,(F y).1⟩):=by
 rw [BZ (a:=0) (b:=x.length) (s:=[]) (λi=>((x.take i.toNat).filter λy=>(F y).2).map λy=>(⟨y,(F y).1⟩:AT)) U rfl,A',List.take_length];intro i d e;have g:(((x.take i.toNat).filter λy=>(F y).2).map λy=>(⟨y,(F y).1⟩:AT)).length<=5000:=by
  grind
 rw [hf i _ d e g,CP d e,List.filter_append,List.map_append];cases j:(F (AA x i)).2<;>simp[j]
variable{p:cE}{c:bq}
theorem vC{s:BX}{m:AT}(hf:Ap s.t)(hv:(Az s.t).2=0)(hh:Io s.t s.h)(o:XH s.t p s.h m)(hi:kA s.t p c):CU s c m=Y (D6 s.t c s.h m s.eb):=by
 have gn:=hi.q.g.ci;have ge:=hi.q.g.c8;have m1:=hi.map.t2;have C:=hi.map.x4;have D:=o.m.t2;have E:=o.m.x4;unfold CU D6;rw[cp U (λx j=>by obtain⟨i,d,e,rfl⟩:=BC j;exact(hi.map.node i d e).1) U,bs,
  cp U (λx j=>by obtain⟨i,d,e,rfl⟩:=BC j;exact(hi.map.edge i d e).1) U,bs,oS hf,bs]
 dsimp only;refine DV λr=>?_;obtain⟨z,A⟩:=br r;rw[SI (F:=λy=>NW c.cE s.h y m.eg) z]
 .rfl
 .intro i st d e B;have u:=A _ (AG d e);have w:(m.eg.length:Int)<=c.cE.eg:=by have:=o.len;have:=hi.vars;omega
  rw [AD d e,bs,vS hi.q (λx j=>PU (Cg hv) hi.q hh u j) w o.small,bs,<-Ib]
  grind [AV,AX]
variable{h:AH}
theorem ve{inj:Bool}{m:AT}(hf:Ap t)(hv:(Az t).2=0)(hh:Io t h)(o:XH t p h m)(hi:kA t p c):IL t c h m inj=Y (D6 t c h m inj):=by
 have gn:=hi.q.g.ci;have ge:=hi.q.g.c8;have m1:=hi.map.t2;have C:=hi.map.x4;have D:=o.m.t2;have E:=o.m.x4;unfold IL D6;rw[dB U (λx j=>by obtain⟨i,d,e,rfl⟩:=BC j;exact(hi.map.node i d e).1) U,bs,
  dB U (λx j=>by obtain⟨i,d,e,rfl⟩:=BC j;exact(hi.map.edge i d e).1) U,bs,oh hf,bs]
 dsimp only;refine DV λr=>?_;obtain⟨z,A⟩:=br r;rw[SI (F:=λy=>NW c.cE h y m.eg) z]
 .rfl
 .intro i st d e B;have u:=A _ (AG d e);have w:(m.eg.length:Int)<=c.cE.eg:=by have:=o.len;have:=hi.vars;omega
  rw [AD d e,bs,vu hi.q (λx j=>PU (Cg hv) hi.q hh u j) w o.small,bs,<-Ib]
  grind [AV,AX]
theorem fR{inj:Bool}{m:AT}(hv:(Az t).2=0)(hh:Io t h)(j:XH t p h m)(hi:kA t p c)(e:(D6 t c h m inj).2=0):(D6 t c h m inj).1.length<=5000/\∀x∈(D6 t c h m inj).1,XH t c.cE h x:=by
 unfold D6 at e|-;dsimp only at e|-;split at e
 .grind
 rename_i o;rw[QQ o];obtain⟨w,z⟩:=br (A_.1 o);refine⟨by dsimp only;rw[a6];exact Nat.le_trans (List.length_filter_le _ _) w,λx d=>?_⟩;dsimp only at d;rw[List.mem_map]at d;obtain⟨y,g,rfl⟩:=d;rw[List.mem_filter]at g;have r:=z y g.1;have u:(m.eg.length:Int)<=c.cE.eg:=by have:=j.len;have:=hi.vars;omega
 have:=qI hi.q (λx d=>PU (Cg hv) hi.q hh r d) u j.small g.2;exact⟨hi.q,r,this.1,this.2⟩
end Go.Sf.Sc
namespace Go.Sf.Sc
open Go Go.Sf
inductive CV(t:AC):cE->bq->Prop where
 |mk (p:cE) (c:bq) (few:c.eo.length<=40) (rng:1<=c.fq/\c.fq<=5) (one:c.fq=2\/c.fq=5->c.eo.length=1) (ins:c.fq=5->kA t p c) (kids:∀k∈c.eo,CV t (if c.fq=5 then c.cE else p) k):CV t p c
variable{t:AC}{p:cE}{c:bq}
theorem CV.few(h:CV t p c):c.eo.length<=40:=k_
theorem CV.rng(h:CV t p c):1<=c.fq/\c.fq<=5:=k_
theorem CV.one(h:CV t p c):c.fq=2\/c.fq=5->c.eo.length=1:=k_
theorem CV.ins(h:CV t p c):c.fq=5->kA t p c:=k_
theorem CV.kids(h:CV t p c):∀k∈c.eo,CV t (if c.fq=5 then c.cE else p) k:=k_
theorem CV.kid(h:CV t p c)(d:¬c.fq=5):∀k∈c.eo,CV t p k:=λk e=>by have:=h.kids k e;rwa[QQ d]at this
theorem CV.kid5(h:CV t p c)(d:c.fq=5):∀k∈c.eo,CV t c.cE k:=λk e=>by have:=h.kids k e;rwa[Ne d]at this
theorem ZC:∀l:List bq,l.length<=WZ l
 |[]=>by simp|c::l=>by
  have:=ZC l
  grind [WZ,F2,bZ,a5]
variable{q:cE}{v:Int}
theorem yP(hv:(Az t).2=0)(h:Uc t q v=0):Ty t q:=by grind[Uc,oc]
theorem qT(hv:(Az t).2=0):∀(N:Nat)(c:bq)(p:cE),SizeOf.sizeOf c<=N->F2 c<=40->SC N c=X->LN N t p c=0->CV t p c
 |0,c,_,h,_,_,_=>by have:=GQ c;omega|N+1,c,p,h,M,z,ho=>by
  have E:=bZ c;have F:=ZC c.eo;rw[SC,gN]at z;obtain⟨u,o⟩:=z;have d:c.fq=2\/c.fq=5->c.eo.length=1:=by
   intro j;unfold Ro at u
   grind
  have g:1<=c.fq/\c.fq<=5:=by
   grind [Ro]
  have w:∀q,(fst (λi=>nz (LN N t q (AA c.eo i))) 0 c.eo.length).getD 0=0->∀k∈c.eo,CV t q k:=by
   intro q A k j;have G:=Si A;have K:=bY j;have L:=Jb j;rw[List.all_eq_true]at o;obtain⟨i,H,I,e⟩:=BC j;have y:=G i H I;rw[e]at y;exact qT hv N k q U U (o k j) y
  rw [LN]at ho;by_cases r:c.fq=5
  .rw[Ne r]at ho;split at ho
   .cases ho
   rename_i J;split at ho
   .grind
   rename_i B;split at ho
   .grind
   rename_i C;split at ho
   .cases ho
   rename_i D;refine CV.mk p c U g d (λ_=>⟨yP hv (A_.1 B),U,TQ (A_.1 C),by simpa using D⟩) ?_
   grind
  .rw[QQ r]at ho;refine CV.mk p c U g d (λe=>absurd e r) ?_
   grind
section
variable{α σ ρ:Type}
variable{f:Int->σ->Option (B2 σ ρ)}
theorem T5[Inhabited α]{l:List α}(step:α->σ->B2 σ ρ)(I:Int->σ->Prop)(h:∀(i:Int)s,0<=i->i<l.length->I i s->f i s=Y (step (AA l i) s)/\∀s',step (AA l i) s=.next s'->I (i+1) s'):
  ∀(n:Nat)(a:Int)(s:σ),0<=a->a+n=l.length->I a s->tc f n a s=Y (EZ step (l.drop a.toNat) s)
 |0,a,s,d,o,_=>by
  rw [x_ U];rfl
 |n+1,a,s,d,o,u=>by
  obtain ⟨g,j⟩:=h a s d U u;have hd:l.drop a.toNat=AA l a::l.drop (a+1).toNat:=by
   grind [x!,AA,x?]
  rw [FH,g,hd,EZ];cases e:step (AA l a) s with
  |next s'=>
   simp only;exact T5 step I h n (a+1) s' U U (j s' e)
  |brk s'=>rfl|ret r=>rfl
theorem Xk[Inhabited α]{l:List α}(step:α->σ->B2 σ ρ)(I:Int->σ->Prop){s:σ}(d:I 0 s)(h:∀(i:Int)s,0<=i->i<l.length->I i s->f i s=Y (step (AA l i) s)/\∀s',step (AA l i) s=.next s'->I (i+1) s'):
  eE f 0 l.length s=Y (EZ step l s):=by
 have:=T5 step I h l.length 0 s U U d;unfold eE;rw[show((l.length:Int)-0).toNat=l.length by omega];exact this
theorem YP{d s2:α->σ->B2 σ ρ}:∀{l:List α}{s:σ},(∀a∈l,d a=s2 a)->EZ d l s=EZ s2 l s
 |[],_,_=>rfl|a::l,s,h=>by
  rw [EZ,EZ,h a V];split
  .exact YP λb e=>h b d_
  .rfl
  .rfl
end
abbrev zM:AT:=⟨⟨[],[]⟩,[]⟩
abbrev zP:BD:=⟨0,zM,[]⟩
def OA(w:bq->BD×Int)(k:bq)(s:BD×BD):B2 (BD×BD) (BD×Int):=
 if (w k).2≠0 then .ret (zP,(w k).2)else .next (s.1,⟨s.2.Aam,s.2.gE,s.2.eo++[(w k).1]⟩)
def UL(w:bq->BD×Int)(l:List bq):BD×Int:=
 match EZ (OA w) l (zP,zP)with
 |.inl s=>(s.2,0)|.inr r=>r
def C5(t:AC)(h:AH)(inj:Bool):Nat->bq->AT->BD×Int
 |0,_,_=>(zP,0)|N+1,c,m=>
  if c.fq=2 then(if(C5 t h inj N (AA c.eo 0) m).2=0 then(zP,10)else if(C5 t h inj N (AA c.eo 0) m).2=10 then(zP,0)else(zP,(C5 t h inj N (AA c.eo 0) m).2))else
  if c.fq=3 then UL (λk=>C5 t h inj N k m) c.eo else
  if c.fq=4 then(fst (λi=>if(C5 t h inj N (AA c.eo i) m).2=0 then Y (⟨i,zM,[(C5 t h inj N (AA c.eo i) m).1]⟩,0)else if(C5 t h inj N (AA c.eo i) m).2≠10 then Y (zP,(C5 t h inj N (AA c.eo i) m).2)else W) 0 c.eo.length).getD (zP,10)else
  if c.fq=5 then
   (if(D6 t c h m inj).2≠0 then(zP,(D6 t c h m inj).2)else
   (fst (λi=>if(C5 t h inj N (AA c.eo 0) (AA (D6 t c h m inj).1 i)).2=0 then Y (⟨0,AA (D6 t c h m inj).1 i,[(C5 t h inj N (AA c.eo 0) (AA (D6 t c h m inj).1 i)).1]⟩,0)else
    if (C5 t h inj N (AA c.eo 0) (AA (D6 t c h m inj).1 i)).2≠10 then Y (zP,(C5 t h inj N (AA c.eo 0) (AA (D6 t c h m inj).1 i)).2)else W) 0 (D6 t c h m inj).1.length).getD (zP,10))else
  (zP,0)
def C9(t:AC)(h:AH)(inj:Bool):Nat->bq->AT->BD×Int
 |0,_,_=>(zP,0)|N+1,c,m=>
  if c.fq=2 then(if(C9 t h inj N (AA c.eo 0) m).2=0 then(zP,10)else if(C9 t h inj N (AA c.eo 0) m).2=10 then(zP,0)else(zP,(C9 t h inj N (AA c.eo 0) m).2))else
  if c.fq=3 then UL (λk=>C9 t h inj N k m) c.eo else
  if c.fq=4 then(fst (λi=>if(C9 t h inj N (AA c.eo i) m).2≠10 then Y (⟨i,zM,[(C9 t h inj N (AA c.eo i) m).1]⟩,(C9 t h inj N (AA c.eo i) m).2)else W) 0 c.eo.length).getD (zP,10)else
  if c.fq=5 then
   (if(D6 t c h m inj).2≠0 then(zP,(D6 t c h m inj).2)else
   (fst (λi=>if(C9 t h inj N (AA c.eo 0) (AA (D6 t c h m inj).1 i)).2≠10 then Y (⟨0,AA (D6 t c h m inj).1 i,[(C9 t h inj N (AA c.eo 0) (AA (D6 t c h m inj).1 i)).1]⟩,(C9 t h inj N (AA c.eo 0) (AA (D6 t c h m inj).1 i)).2)else W) 0 (D6 t c h m inj).1.length).getD (zP,10))else
  (zP,0)
def Mr(x:BD×Int):BD×Int:=if x.2=0 then x else(zP,x.2)
theorem lK(x:BD×Int):(Mr x).2=x.2:=by unfold Mr;split<;>rfl
theorem lJ{x:BD×Int}(h:x.2=0):(Mr x).1=x.1:=by unfold Mr;rw[Ne h]
theorem nK(w:bq->BD×Int)(l:List bq):Mr (UL w l)=UL w l:=by
 unfold UL;have:∀(l:List bq)(s:BD×BD)(r:BD×Int),EZ (OA w) l s=.inr r->Mr r=r:=by
  intro l
  induction l with
  |nil=>intro s r h;cases h
  |cons a l j=>
   intro s r h;rw[EZ]at h;split at h
   .exact j _ _ h
   .cases h
   .rename_i o d;cases h;unfold OA at d;split at d
    next e=>cases d;unfold Mr;rw[QQ e]
    .cases d
 cases g:EZ (OA w) l (zP,zP)with
 |inl s=>rfl|inr r=>exact this _ _ _ g
theorem ZX(o:Option (BD×Int)):Mr (o.getD (zP,10))=(o.map Mr).getD (zP,10):=by cases o<;>rfl
theorem iC(t:AC)(h:AH)(inj:Bool):∀(N:Nat)(c:bq)(m:AT),C5 t h inj N c m=Mr (C9 t h inj N c m)
 |0,_,_=>rfl|N+1,c,m=>by
  have w:=iC t h inj N;have key:∀(c:bq)(m:AT),(C5 t h inj N c m).2=(C9 t h inj N c m).2:=λc m=>by rw[w,lK]
  have pick:∀(k:bq)(m x:AT)(i:Int),(if(C5 t h inj N k m).2=0 then Y ((⟨i,x,[(C5 t h inj N k m).1]⟩:BD),(0:Int))else if(C5 t h inj N k m).2≠10 then Y (zP,(C5 t h inj N k m).2)else W)=(if(C9 t h inj N k m).2≠10 then Y ((⟨i,x,[(C9 t h inj N k m).1]⟩:BD),(C9 t h inj N k m).2)else W).map Mr:=by
   intro k m x i;rw[key];by_cases d:(C9 t h inj N k m).2=0
   .rw[Ne d,Ne U,w,lJ d];simp[Mr,d]
   .rw[QQ d];by_cases e:(C9 t h inj N k m).2≠10
    .rw[Ne e,Ne e];simp[Mr,d]
    grind
  rw [C5,C9];by_cases j:c.fq=2
  .rw[Ne j,Ne j,key];by_cases d:(C9 t h inj N (AA c.eo 0) m).2=0
   .rw[Ne d];rfl
   .rw[QQ d];by_cases e:(C9 t h inj N (AA c.eo 0) m).2=10
    .rw[Ne e];rfl
    .rw[QQ e];unfold Mr;rw[QQ d]
  rw [QQ j,QQ j];by_cases o:c.fq=3
  .rw[Ne o,Ne o,nK];unfold UL;rw[YP (s2:=OA λk=>C9 t h inj N k m)];intro k _;funext s;unfold OA;simp only[key];by_cases d:(C9 t h inj N k m).2=0
   .rw[QQ (by simp[d]),QQ (by simp[d]),w,lJ d]
   .rw[Ne d,Ne d]
  rw [QQ o,QQ o];by_cases r:c.fq=4
  .rw[Ne r,Ne r,ZX,<-Qv];congr 1;exact congrArg (λF=>fst F 0 (c.eo.length:Int)) (funext λi=>pick _ _ _ _)
  rw [QQ r,QQ r];by_cases u:c.fq=5
  .rw[Ne u,Ne u];by_cases g:(D6 t c h m inj).2≠0
   .rw[Ne g,Ne g];unfold Mr;rw[QQ g]
   .rw[QQ g,QQ g,ZX,<-Qv];congr 1;exact congrArg (λF=>fst F 0 ((D6 t c h m inj).1.length:Int)) (funext λi=>pick _ _ _ _)
  rw [QQ u,QQ u];rfl
end Go.Sf.Sc
namespace Go.Sf.Sc
open Go Go.Sf
def Rp(i:Int)(s:BD×BD):Prop:=(s.2.eo.length:Int)=i
theorem YD{s:BX}(hf:Ap s.t)(hv:(Az s.t).2=0)(hh:Io s.t s.h):∀(N:Nat)(c:bq)(p:cE)(m:AT),SizeOf.sizeOf c<=N->CV s.t p c->XH s.t p s.h m->∀n,2*N<=n->Av n s c m=Y (C5 s.t s.h s.eb N c m)
 |0,c,_,_,h,_,_,_,_=>by have:=GQ c;omega|N+1,c,p,m,h,j,w,n,D=>by
  obtain ⟨n,rfl⟩:∃k,n=k+2:=⟨n-2,U⟩;have kid:∀(i:Int),0<=i->i<c.eo.length->SizeOf.sizeOf (AA c.eo i)<=N:=λi d e=>by
   have:=Jb (AG (l:=c.eo) d e);omega
  rw [Av,C5];by_cases o:c.fq=2
  .have C:=j.one (.inl o);rw[Ne d!,Ne o,AD U U,bs,YD hf hv hh N _ p m (kid 0 U U) (j.kid U _ (AG U U)) w (n+1) U,bs]
   grind
  rw [QQ d!,QQ o];by_cases y:c.fq=3
  .rw[Ne (by simpa using y),Ne y];have A:=j.few;rw[Xk (OA λk=>C5 s.t s.h s.eb N k m) Rp (show Rp 0 (zP,zP)from rfl)]
   .unfold UL;show d6 (Y (EZ (OA λk=>C5 s.t s.h s.eb N k m) c.eo (zP,zP))) _ _=_;cases EZ (OA λk=>C5 s.t s.h s.eb N k m) c.eo (zP,zP)<;>rfl
   .intro i st d e hi;unfold Rp at hi;rw[AD d e,bs,YD hf hv hh N _ p m (kid i d e) (j.kid U _ (AG d e)) w (n+1) U,bs]
    grind [OA,C5,AA,AV,AX,Rp]
  rw [QQ (by simpa using y),QQ y];by_cases z:c.fq=4
  .rw[Ne n_,Ne z];rw[ML (λ_=>zP) (λi=>if(C5 s.t s.h s.eb N (AA c.eo i) m).2=0 then Y (⟨i,zM,[(C5 s.t s.h s.eb N (AA c.eo i) m).1]⟩,0)else if(C5 s.t s.h s.eb N (AA c.eo i) m).2≠10 then Y (zP,(C5 s.t s.h s.eb N (AA c.eo i) m).2)else W) U rfl]
   .cases fst (λi=>if(C5 s.t s.h s.eb N (AA c.eo i) m).2=0 then Y ((⟨i,zM,[(C5 s.t s.h s.eb N (AA c.eo i) m).1]⟩:BD),(0:Int))else if(C5 s.t s.h s.eb N (AA c.eo i) m).2≠10 then Y (zP,(C5 s.t s.h s.eb N (AA c.eo i) m).2)else W) 0 c.eo.length<;>rfl
   .intro i d e _;rw[AD d e,bs,YD hf hv hh N _ p m (kid i d e) (j.kid U _ (AG d e)) w (n+1) U,bs];generalize C5 s.t s.h s.eb N (AA c.eo i) m=x;by_cases e0:x.2=0
    .rw[Ne (by simpa using e0),Ne e0];try rfl
    .rw[QQ (by simpa using e0),QQ e0];by_cases g:x.2=10
     .rw[QQ q_,QQ q_];try rfl
     .rw[Ne q_,Ne g];try rfl
  rw [QQ n_,QQ z];by_cases r:c.fq=5
  .rw[Ne p?,Ne r];have hi:=j.ins r;have C:=j.one (.inr r);rw[BT,vC hf hv hh w hi,bs];by_cases u:(D6 s.t c s.h m s.eb).2=0
   .obtain⟨g,B⟩:=fR hv hh w hi u;rw[QQ g!,QQ g!];generalize (D6 s.t c s.h m s.eb).1=l at g B;rw[ML (λ_=>zP) (λi=>if(C5 s.t s.h s.eb N (AA c.eo 0) (AA l i)).2=0 then Y (⟨0,AA l i,[(C5 s.t s.h s.eb N (AA c.eo 0) (AA l i)).1]⟩,0)else if(C5 s.t s.h s.eb N (AA c.eo 0) (AA l i)).2≠10 then Y (zP,(C5 s.t s.h s.eb N (AA c.eo 0) (AA l i)).2)else W) U rfl]
    .cases fst (λi=>if(C5 s.t s.h s.eb N (AA c.eo 0) (AA l i)).2=0 then Y ((⟨0,AA l i,[(C5 s.t s.h s.eb N (AA c.eo 0) (AA l i)).1]⟩:BD),(0:Int))else if(C5 s.t s.h s.eb N (AA c.eo 0) (AA l i)).2≠10 then Y (zP,(C5 s.t s.h s.eb N (AA c.eo 0) (AA l i)).2)else W) 0 l.length<;>rfl
    .intro i d e _;rw[AD d e,bs,AD U U,bs,YD hf hv hh N _ c.cE _ (kid 0 U U) (j.kid5 r _ (AG U U)) (B _ (AG d e)) n U,bs];generalize C5 s.t s.h s.eb N (AA c.eo 0) (AA l i)=x;by_cases e0:x.2=0
     .rw[Ne (by simpa using e0),Ne e0];try rfl
     .rw[QQ (by simpa using e0),QQ e0];by_cases g:x.2=10
      .rw[QQ q_,QQ q_];try rfl
      .rw[Ne q_,Ne g];try rfl
   .rw[Ne g!,Ne u];try rfl
  grind
variable{t:AC}
theorem St{d:AH}{inj:Bool}(hf:Ap t)(hv:(Az t).2=0)(hh:Io t d):∀(N:Nat)(c:bq)(p:cE)(m:AT),SizeOf.sizeOf c<=N->CV t p c->XH t p d m->∀n,N<=n->EK n t c d m inj=Y (C9 t d inj N c m)
 |0,c,_,_,h,_,_,_,_=>by have:=GQ c;omega|N+1,c,p,m,h,o,w,n,E=>by
  obtain ⟨n,rfl⟩:∃k,n=k+1:=⟨n-1,U⟩;have kid:∀(i:Int),0<=i->i<c.eo.length->SizeOf.sizeOf (AA c.eo i)<=N:=λi e g=>by
   have:=Jb (AG (l:=c.eo) e g);omega
  rw [EK,C9];by_cases r:c.fq=2
  .have D:=o.one (.inl r);rw[Ne p?,Ne r,AD U U,bs,St hf hv hh N _ p m (kid 0 U U) (o.kid U _ (AG U U)) w n U,bs]
   grind
  rw [QQ p?,QQ r];by_cases y:c.fq=3
  .rw[Ne (by simpa using y),Ne y];have B:=o.few;rw[Xk (OA λk=>C9 t d inj N k m) Rp (show Rp 0 (zP,zP)from rfl)]
   .unfold UL;show d6 (Y (EZ (OA λk=>C9 t d inj N k m) c.eo (zP,zP))) _ _=_;cases EZ (OA λk=>C9 t d inj N k m) c.eo (zP,zP)<;>rfl
   .intro i st e g hi;unfold Rp at hi;rw[AD e g,bs,St hf hv hh N _ p m (kid i e g) (o.kid U _ (AG e g)) w n U,bs]
    grind [OA,C9,AA,AV,AX,Rp]
  rw [QQ (by simpa using y),QQ y];by_cases z:c.fq=4
  .rw[Ne n_,Ne z];rw[ML (λ_=>zP) (λi=>if(C9 t d inj N (AA c.eo i) m).2≠10 then Y (⟨i,zM,[(C9 t d inj N (AA c.eo i) m).1]⟩,(C9 t d inj N (AA c.eo i) m).2)else W) U rfl]
   .cases fst (λi=>if(C9 t d inj N (AA c.eo i) m).2≠10 then Y ((⟨i,zM,[(C9 t d inj N (AA c.eo i) m).1]⟩:BD),(C9 t d inj N (AA c.eo i) m).2)else W) 0 c.eo.length<;>rfl
   .intro i e g _;rw[AD e g,bs,St hf hv hh N _ p m (kid i e g) (o.kid U _ (AG e g)) w n U,bs];generalize C9 t d inj N (AA c.eo i) m=x;by_cases j:x.2=10
    .rw[QQ j_,QQ j_];try rfl
    .rw[Ne j_,Ne j];try rfl
  rw [QQ n_,QQ z];by_cases u:c.fq=5
  .rw[Ne e_,Ne u];have hi:=o.ins u;have D:=o.one (.inr u);rw[ve hf hv hh w hi,bs];by_cases A:(D6 t c d m inj).2=0
   .obtain⟨j,C⟩:=fR hv hh w hi A;rw[QQ (by simp[A]),QQ (by simp[A])];generalize (D6 t c d m inj).1=l at j C;rw[ML (λ_=>zP) (λi=>if(C9 t d inj N (AA c.eo 0) (AA l i)).2≠10 then Y (⟨0,AA l i,[(C9 t d inj N (AA c.eo 0) (AA l i)).1]⟩,(C9 t d inj N (AA c.eo 0) (AA l i)).2)else W) U rfl]
    .cases fst (λi=>if(C9 t d inj N (AA c.eo 0) (AA l i)).2≠10 then Y ((⟨0,AA l i,[(C9 t d inj N (AA c.eo 0) (AA l i)).1]⟩:BD),(C9 t d inj N (AA c.eo 0) (AA l i)).2)else W) 0 l.length<;>rfl
    .intro i e g _;rw[AD U U,bs,AD e g,bs,St hf hv hh N _ c.cE _ (kid 0 U U) (o.kid5 u _ (AG U U)) (C _ (AG e g)) n U,bs];generalize C9 t d inj N (AA c.eo 0) (AA l i)=x;by_cases j:x.2=10
     .rw[QQ j_,QQ j_];try rfl
     .rw[Ne j_,Ne j];try rfl
   grind
  grind
end Go.Sf.Sc
namespace Go.Sf.Sc
open Go Go.Sf
noncomputable def SZ(t:AC)(p:cE)(c:bq)(h:AH)(m:AT)(inj:Bool):Int:=
 if NM t p c≠0 then NM t p c else if(Br t h).2≠0 then(Br t h).2 else if Ei t p.bi h.bi m.bk inj≠0 then Ei t p.bi h.bi m.bk inj else
 if (Fm t p h m.bk).2≠0 then(Fm t p h m.bk).2 else if(Fm t p h m.bk).1=m.eg then 0 else 11
variable{t:AC}{c:bq}
theorem oQ(hf:Ap t)(p:cE)(d:Fv c)(h:AH)(m:AT)(inj:Bool):F3 t p c h m inj=Y (SZ t p c h m inj):=by
 unfold F3 SZ;rw[sG hf p d,bs];refine Dp λ_=>?_;rw[Uq hf,bs];refine Dp λ_=>?_;rw[Yr hf,bs];refine Dp λ_=>?_;rw[fx hf,bs];refine Dp λ_=>?_;rw[qj,bs]
 grind
variable{p:cE}{h:AH}
theorem Xb(hf:Ap t)(z:F2 c<=40){m:AT}{inj:Bool}(e:SZ t p c h m inj=0):(Az t).2=0/\Io t h/\CV t p c/\XH t p h m:=by
 unfold SZ at e;split at e
 .grind
 rename_i d;split at e
 .grind
 rename_i j;split at e
 .grind
 rename_i o;split at e
 .grind
 rename_i r;split at e
 case isFalse=>cases e
 rename_i C;have d:=A_.1 d;have j:=A_.1 j;have o:=A_.1 o;have r:=A_.1 r;obtain⟨hv,hh⟩:=FU hf j;have w:=(bX o).2;unfold NM at d;split at d
 .grind
 rename_i A;split at d
 .grind
 rename_i u;have y:=oc hv (.inl (A_.1 A));have u:=A_.1 u;have B:dt c=X:=by
  grind [Oo]
 suffices g:(m.eg.length:Int)=p.eg/\QU m.eg from⟨hv,hh,qT hv _ c p (R0 _) z B d,y,w,g.1,g.2⟩
 have g:∀s∈p.d4,Jp p.eg h m.bk s:=λs g=>PU (Cg hv) y hh w g
 grind [Fm,mU]
end Go.Sf.Sc
namespace Go.Sf.Sc
open Go Go.Sf
noncomputable def wS(t:AC)(p:cE)(c:bq)(h:AH)(m:AT)(inj:Bool):BD×Int:=
 if SZ t p c h m inj≠0 then(zP,SZ t p c h m inj)else C5 t h inj (SizeOf.sizeOf c) c m
variable{t:AC}{c:bq}
theorem lj(hf:Ap t)(p:cE)(e:Fv c)(g:F2 c<=40)(h:AH)(m:AT)(inj:Bool):Ej t p c h m inj=Y (wS t p c h m inj):=by
 unfold Ej wS;rw[oQ hf p e,bs];refine DV λj=>?_;obtain⟨hv,hh,d,r⟩:=Xb hf g j;rw[show Ff (BX.mk t h inj) c m=Y (C5 t h inj (SizeOf.sizeOf c) c m)from GZ (2*SizeOf.sizeOf c) λn o=>YD (s:=⟨t,h,inj⟩) hf hv hh _ c p m (R0 _) d r n o];rfl
noncomputable def L5(t:AC)(p:cE)(c:bq)(h:AH)(m:AT)(inj:Bool):Bool×Int:=
 if (wS t p c h m inj).2=10 then(T,0)else(decide ((wS t p c h m inj).2=0),(wS t p c h m inj).2)
theorem eU(hf:Ap t)(p:cE)(d:Fv c)(e:F2 c<=40)(h:AH)(m:AT)(inj:Bool):D1 t p c h m inj=Y (L5 t p c h m inj):=by grind[D1,L5,lj,wS]
variable{h:AH}{p:cE}
theorem oi(hf:Ap t){inj:Bool}{m:AT}(hv:(Az t).2=0)(hh:Io t h)(d:CV t p c)(e:XH t p h m):SN t c h m inj=Y (C9 t h inj (SizeOf.sizeOf c) c m):=GZ (SizeOf.sizeOf c) λn g=>St hf hv hh _ c p m (R0 _) d e n g
end Go.Sf.Sc
namespace Go.Sf.Sc
open Go Go.Sf
end Go.Sf.Sc
namespace Go.Sf.Sc
open Go Go.Sf
theorem tN(t:AC)(p:cE)(c:bq)(h:AH)(m:AT)(inj:Bool):wS t p c h m inj=if SZ t p c h m inj≠0 then(zP,SZ t p c h m inj)else Mr (C9 t h inj (SizeOf.sizeOf c) c m):=by
 unfold wS;rw[iC]
end Go.Sf.Sc
