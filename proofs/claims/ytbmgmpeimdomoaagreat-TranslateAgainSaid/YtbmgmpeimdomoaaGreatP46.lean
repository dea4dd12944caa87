/- Plain lemmas: what the functions of the program and of the reference compute. -/
import Derived.Test.YtbmgmpeimdomoaaGreatP25
set_option linter.all false
set_option maxRecDepth 100000
open Option renaming some->Y,none->W
open Bool renaming true->X,false->T
open List renaming mem_append->w_,any_eq_false->w!,drop_eq_nil_of_le->w?,drop_eq_getElem_cons->x_,getElem?_eq_getElem->x!,replicate->x?,ext_getElem->y_,replicate_succ'->y!,mem_flatMap->y?,length_singleton->z_,nodup_nil->z!
open Classical renaming not_not->z?
open Int renaming toNat_natCast->A_
namespace Go.Sf.Sc
open Go Go.Sf
variable{all:List ff}{k:Int}
theorem TT(h:Ng all k=0)(d:(AA all k).l3.length<=1000):-1000000<=(AA all k).Low/\(AA all k).Aab<=1000000:=by grind[Ng]
variable{t:AC}{i:Int}
theorem gG(h:J3 t i=0):∀k,((A5 t i).length:Int)-(AA t.az i).iN.length<=k->k<(A5 t i).length->Ng (A5 t i) k=0:=by
 unfold J3 at h;dsimp only at h;split at h
 .cases h
 split at h
 .cases h
 split at h
 .cases h
 split at h
 .cases h
 exact S4 h
variable{a:Int}
theorem Qr{n:Nat}(d:0<=a):CI t (n+1) a=CI t n (par t a)++(AA t.az a).iN:=by grind[CI]
theorem om(h:Ng all k=0)(d:(AA all k).l3.length<=1000):(AA all k).Low<=(AA all k).Aab:=by grind[Ng]
theorem TW(hf:Ao t)(h:Eh t){Q:ff->Prop}(TT:∀{all:List ff}{k:Int},Ng all k=0->(AA all k).l3.length<=1000->Q (AA all k)):∀(n:Nat)(a:Int),a<t.az.length->a<n->∀x∈CI t n a,Q x
 |0,_,_,_=>by simp[CI]|n+1,a,g,C=>by
  by_cases o:a<0
  .rw[Kc o];simp
  .have y:=h.par a U g;intro x d;rw[Qr U]at d;rcases w_.1 d with d|d
   .exact TW hf h TT n (par t a) U U x d
   .obtain⟨j,A,B,rfl⟩:=Ay d;have e:A5 t a=CI t a.toNat (par t a)++(AA t.az a).iN:=by
     unfold A5;rw[show(a+1).toNat=a.toNat+1 by omega,Qr U]
    have z:(A5 t a).length=(CI t a.toNat (par t a)).length+(AA t.az a).iN.length:=by rw[e,aE]
    have r:=gG (h.node a U g) ((CI t a.toNat (par t a)).length+j) U U;have u:AA (A5 t a) ((CI t a.toNat (par t a)).length+j)=AA (AA t.az a).iN j:=by
     grind [HM,AA]
    have w:=OX hf (Int.le_refl _) h.par g (AA (A5 t a) ((CI t a.toNat (par t a)).length+j)) (AG U U);have:=TT r (by have:=w.names;omega)
    rwa [u]at this
theorem jq(hf:Ao t)(h:Eh t)(e:0<=a)(d:a<t.az.length):∀x∈A5 t a,-1000000<=x.Low/\x.Aab<=1000000:=TW hf h TT _ a d U
theorem lz(hf:Ao t)(h:Eh t)(e:0<=a)(d:a<t.az.length):∀x∈A5 t a,x.Low<=x.Aab:=TW hf h om _ a d U
theorem bj(e:Eg t k):∀(n:Nat)(a b:Int),a<k->a<n->b∈Gs t n a->0<=b/\b<=a/\(A5 t b).length<=(CI t n a).length
 |0,_,_,_,_=>by simp[Gs]|n+1,a,b,g,r=>by
  intro d;rw[Gs]at d;split at d
  .cases d
  .rename_i j;have o:=e a U g;rw[Qr U];rcases List.mem_cons.1 d with rfl|d
   .refine⟨U,U,?_⟩;unfold A5;rw[N8 e (b+1).toNat (n+1) b g U U,Qr U];exact R0 _
   .have:=bj e n (par t a) b U U d
    grind
variable{b:Int}
theorem av(h:Eh t)(j:a<t.az.length)(d:isB t a b=X):(A5 t b).length<=(A5 t a).length:=by
 unfold isB at d;rw[List.any_eq_true]at d;obtain⟨x,g,e⟩:=d;rw[o4]at e;subst e;by_cases o:a<0
 .have:(a+1).toNat=0:=U
  rw [this]at g;cases g
 .exact(bj h.par (a+1).toNat a b j U g).2.2
theorem jv{α:Type}{Q:Prop}[Decidable Q]{v:α}{ζ:Option α}{δ:α}(he:a=b↔Q)(h:Q->ζ=Y δ):(if(!decide (a=b))=X then Y v else ζ)=Y (if¬Q then v else δ):=o!
def RX(t:AC)(k:Int)(v:Fp)(j:Int):Bool:=decide (AA v j<(AA (A5 t k) j).Low)||decide ((AA (A5 t k) j).Aab<AA v j)
def Gm(t:AC)(k:Int)(v:Fp):Int:=
 if (t.az.length:Int)<=k then 6 else if(AA t.az k).pq=X then 13 else if¬v.length=(A5 t k).length then 20 else
 if fq (RX t k v) 0 (A5 t k).length=X then 6 else 0
def HP(t:AC)(g:bk)(i:Int):Int:=
 if (t.bi.length:Int)<=(AA g.bi i).em then 6 else if DG t g i=T then 13 else 0
def Bc(t:AC)(h:AH):Int×Int:=
 if (A0 t).2≠0 then(-1,(A0 t).2)else if B5 h.bk≠0 then(-1,B5 h.bk)else if¬h.d6.length=h.bk.az.length then(-1,20)else
 match fst (λi=>(nz (Gm t (AA h.bk.az i) (AA h.d6 i))).map λe=>(i,e)) 0 h.bk.az.length with
 |some r=>r|none=>(fst (λi=>(nz (HP t h.bk i)).map λe=>(i,e)) 0 h.bk.bi.length).getD (-1,0)
theorem KW(hv:(A0 t).2=0)(d:0<=k)(e:k<t.az.length):HN t k=(A5 t k,0):=by grind[HN,Mm]
theorem Wt{x:Bool}{y:Bool}:(if x=X then Y X else Y y)=Y (x||y):=by cases x<;>rfl
theorem uE(hf:Ao t)(hv:(A0 t).2=0)(d:0<=k)(v:Fp):Lz t k v=Y (Gm t k v):=by
 unfold Lz Gm;by_cases e:(t.az.length:Int)<=k
 .grind
 rw [QQ i!,QQ e,AD d U,bs];refine aH λ_=>?_;rw[TA hf,KW hv d U,bs];refine jv an λg=>?_;rw[BO (RX t k v) 6]
 .cases fq (RX t k v) 0 (A5 t k).length<;>rfl
 grind [A5,AD,Wt,RX,AA]
theorem uY(hf:Ao t)(hv:(A0 t).2=0)(d:0<=k)(v:Fp):Ou t k v=Y (Gm t k v):=by
 unfold Ou Gm;by_cases e:(t.az.length:Int)<=k
 .grind
 rw [QQ i!,QQ e,AD d U,bs];refine aH λ_=>?_;rw[RD hf,KW hv d U,bs];refine jv an λg=>?_;rw[BO (RX t k v) 6]
 .cases fq (RX t k v) 0 (A5 t k).length<;>rfl
 grind [A5,AD,Wt,RX,AA]
theorem dx(e i:Int):(if(!decide (e=0))=X then Y (B3.ret (σ:=Unit) (ρ:=Int×Int) (i,e))else Y (.next ()))=Y (Nw ((nz e).map λe=>(i,e))):=by grind[nz,Nw]
theorem RZ(hf:Ao t)(h:AH):Ek t h=Y (Bc t h):=by
 unfold Ek Bc;rw[Pb hf,bs];refine Dd λhv=>?_;rw[OF,bs];refine Dd λo=>?_;have go:=Dt o;refine jv U λz=>?_;rw[Ba (λi=>(nz (Gm t (AA h.bk.az i) (AA h.d6 i))).map λe=>(i,e)),EA]
 .cases u:fst (λi=>(nz (Gm t (AA h.bk.az i) (AA h.d6 i))).map λe=>(i,e)) 0 h.bk.az.length with
  |some r=>rfl|none=>
   have w:=Bb.1 u;dsimp only;rw[Ba (λi=>(nz (HP t h.bk i)).map λe=>(i,e)),EA]
   .grind
   .intro i d g _;have y:=go.fit _ (AG (l:=h.bk.bi) d g);rw[AD d g,bs];unfold HP DG;by_cases j:(t.bi.length:Int)<=(AA h.bk.bi i).em
    .rw[Ne h_,Ne j];rfl
    .rw[QQ h_,QQ j,AD U U,bs,AD U U,bs,eF hf,bs];cases Iu t (AA h.bk.bi i).em (AA h.bk.az (AA h.bk.bi i).fb) (AA h.bk.az (AA h.bk.bi i).To)<;>rfl
 .intro i d g _;rw[AD d g,bs,AD d U,bs,uE hf hv (go.kind _ (AG d g)).1,bs];exact dx _ i
theorem ZJ(hf:Ao t)(h:AH):Jp t h=Y (Bc t h):=by
 unfold Jp Bc;rw[RE hf,bs];refine Dd λhv=>?_;rw[OH,bs];refine Dd λo=>?_;have go:=Dt o;refine jv U λz=>?_;rw[Ba (λi=>(nz (Gm t (AA h.bk.az i) (AA h.d6 i))).map λe=>(i,e)),EA]
 .cases u:fst (λi=>(nz (Gm t (AA h.bk.az i) (AA h.d6 i))).map λe=>(i,e)) 0 h.bk.az.length with
  |some r=>rfl|none=>
   have w:=Bb.1 u;dsimp only;rw[Ba (λi=>(nz (HP t h.bk i)).map λe=>(i,e)),EA]
   .grind
   .intro i d g _;have y:=go.fit _ (AG (l:=h.bk.bi) d g);rw[AD d g,bs];unfold HP DG;by_cases j:(t.bi.length:Int)<=(AA h.bk.bi i).em
    .rw[Ne h_,Ne j];rfl
    .rw[QQ h_,QQ j,AD U U,bs,AD U U,bs,VT hf,bs];cases Iu t (AA h.bk.bi i).em (AA h.bk.az (AA h.bk.bi i).fb) (AA h.bk.az (AA h.bk.bi i).To)<;>rfl
 .intro i d g _;rw[AD d g,bs,AD d U,bs,uY hf hv (go.kind _ (AG d g)).1,bs];exact dx _ i
structure Gg(t:AC)(h:AH):Prop where
 g:BW h.bk
 len:h.d6.length=h.bk.az.length
 kind:∀i:Int,0<=i->i<h.bk.az.length->0<=AA h.bk.az i/\AA h.bk.az i<t.az.length
 row:∀i:Int,0<=i->i<h.bk.az.length->(AA h.d6 i).length=(A5 t (AA h.bk.az i)).length
 low:∀i:Int,0<=i->i<h.bk.az.length->∀x∈AA h.d6 i,-1000000<=x/\x<=1000000
 ge:B5 h.bk=0
 ty:CW t h.bk=X
variable{h:AH}
theorem Mk(e:(Bc t h).2=0):(∀i:Int,0<=i->i<h.bk.az.length->Gm t (AA h.bk.az i) (AA h.d6 i)=0)/\∀i:Int,0<=i->i<h.bk.bi.length->HP t h.bk i=0:=by
 unfold Bc at e;split at e
 next u=>exact absurd e u
 split at e
 next u=>exact absurd e u
 split at e
 .cases e
 rename_i u z A;have y:∀i:Int,0<=i->i<h.bk.az.length->Gm t (AA h.bk.az i) (AA h.d6 i)=0:=by
  split at e
  .rename_i r d;obtain⟨i,_,_,k,_⟩:=Dx d;unfold nz at k;split at k
   .cases k
   next g=>cases k;exact absurd e g
  next d=>exact λi j o=>RA.1 (PW.1 (Bb.1 d i j o))
 have he:∀i:Int,0<=i->i<h.bk.bi.length->HP t h.bk i=0:=by
  have w:fst (λi=>(nz (Gm t (AA h.bk.az i) (AA h.d6 i))).map λe=>(i,e)) 0 h.bk.az.length=W:=Bb.2 λi j o=>by rw[y i j o];rfl
  rw [w]at e;dsimp only at e;cases d:fst (λi=>(nz (HP t h.bk i)).map λe=>(i,e)) 0 h.bk.bi.length with
  |some r=>
   rw [d]at e;obtain⟨i,_,_,k,_⟩:=Dx d;unfold nz at k;split at k
   .cases k
   next g=>cases k;exact absurd e g
  |none=>exact λi j o=>RA.1 (PW.1 (Bb.1 d i j o))
 exact ⟨y,he⟩
theorem Du(hf:Ao t)(e:(Bc t h).2=0):(A0 t).2=0/\Gg t h:=by
 obtain ⟨w,he⟩:=Mk e;unfold Bc at e;split at e
 next o=>exact absurd e o
 split at e
 next o=>exact absurd e o
 split at e
 .cases e
 rename_i o A D;have hv:=z?.1 o;have go:=Dt (z?.1 A);have u:∀i:Int,0<=i->i<h.bk.az.length->(0<=AA h.bk.az i/\AA h.bk.az i<t.az.length)/\(AA h.d6 i).length=(A5 t (AA h.bk.az i)).length/\∀j:Int,0<=j->j<(A5 t (AA h.bk.az i)).length->RX t (AA h.bk.az i) (AA h.d6 i) j=T:=by
  intro i d g;have G:=(go.kind _ (AG d g)).1;have:=w i d g;unfold Gm at this;split at this
  .cases this
  split at this
  .cases this
  split at this
  .cases this
  split at this
  .cases this
  rename_i a1 a2 E F;exact⟨⟨G,U⟩,z?.1 E,BV.1 (by simpa using F)⟩
 have z:CW t h.bk=X:=by
  unfold CW;rw[gR,Bool.not_eq_true',Bool.not_eq_true',w!,w!];refine⟨λn w=>?_,λx y=>?_⟩
  .obtain⟨i,d,g,rfl⟩:=Ay w;have:=(u i d g).1.2;simp;omega
  .obtain⟨i,d,g,rfl⟩:=Ay y;have:=he i d g;unfold HP at this;split at this
   .cases this
   .simp;omega
 suffices r:∀i:Int,0<=i->i<h.bk.az.length->∀x∈AA h.d6 i,-1000000<=x/\x<=1000000 from⟨hv,go,z?.1 D,λi d g=>(u i d g).1,λi d g=>(u i d g).2.1,r,z?.1 A,z⟩
 intro i d g x y;obtain⟨B,I,H⟩:=u i d g;obtain⟨j,C,J,rfl⟩:=Ay y;have:=H j C U;unfold RX at this;simp[decide_eq_false_iff_not]at this;have:=jq hf (Ck hv) B.1 B.2 _ (AG (l:=A5 t (AA h.bk.az i)) C U);omega
end Go.Sf.Sc
namespace Go.Sf.Sc
open Go Go.Sf
def Ht(t:AC)(p g:bk)(m:bn)(i:Int):K1:=
 if AA m.az i<0\/g.az.length<=AA m.az i then Y 6 else if isB t (AA g.az (AA m.az i)) (AA p.az i)=T then Y 13 else W
def J5(t:AC)(p g:bk)(m:bn):Int:=
 if m.az.length≠p.az.length\/m.bi.length≠p.bi.length then 20 else
 match fst (Ht t p g m) 0 m.az.length with
 |some e=>e|none=>(fst (Es p g m) 0 m.bi.length).getD 0
def Ez(t:AC)(p g:bk)(m:bn)(inj:Bool):Int:=
 if Ds t p g≠0 then Ds t p g else if J5 t p g m≠0 then J5 t p g m else if(inj&&!Gz m)=X then 5 else 0
structure Z8(t:AC)(p g:bk)(m:bn):Prop where
 tc:m.az.length=p.az.length
 wi:m.bi.length=p.bi.length
 node:∀i:Int,0<=i->i<m.az.length->(0<=AA m.az i/\AA m.az i<g.az.length)/\isB t (AA g.az (AA m.az i)) (AA p.az i)=X
 edge:∀i:Int,0<=i->i<m.bi.length->0<=AA m.bi i/\AA m.bi i<g.bi.length
variable{t:AC}
theorem Ji{p g:bk}(h:Ds t p g=0):(A0 t).2=0/\BW p/\BW g/\(∀n∈p.az,0<=n/\n<t.az.length)/\∀n∈g.az,0<=n/\n<t.az.length:=by
 unfold Ds at h;split at h
 .grind
 split at h
 .grind
 split at h
 .grind
 split at h
 .rename_i e j o d;rw[gR]at d
  grind [Dt,Cw]
 .cases h
variable{m:bn}
theorem jH{p g:bk}(h:J5 t p g m=0):Z8 t p g m:=by
 unfold J5 at h;split at h
 .cases h
 rename_i o;have j:fst (Ht t p g m) 0 m.az.length=W:=by
  grind [Dx,Ht]
 rw [j]at h;have he:=QG (λi=>by
  grind [Es]) h
 refine ⟨U,U,λi d e=>?_,λi d e=>?_⟩
 .grind[Bb,Ht]
 grind [Es]
theorem bE(hf:Ao t){p g:bk}(A:Ds t p g=0)(m:bn):HV t p g m=Y (J5 t p g m):=by
 obtain ⟨hv,C,G,tp,D⟩:=Ji A;unfold HV J5;refine QB j? λE=>?_;rw[kh hf (Ck hv) hv,bs,Ba (Ht t p g m),EA]
 .cases F:fst (Ht t p g m) 0 m.az.length with
  |some e=>rfl|none=>
   dsimp only;rw[Ba (Es p g m),Cj];intro i j z _;unfold Es;rw[AD j z,bs];by_cases d:AA m.bi i<0\/g.bi.length<=AA m.bi i
   .rw[Ne c_,Ne d];rfl
   .have hf:=C.fit _ (AG (l:=p.bi) j U);rw[QQ c_,QQ d,AD j U,bs,AD U U,bs];by_cases o:(AA p.bi i).em=(AA g.bi (AA m.bi i)).em
    .rw[QQ b?,QQ b?,AD U U,bs];by_cases r:AA m.az (AA p.bi i).fb=(AA g.bi (AA m.bi i)).fb
     .rw[QQ p_,AD U U,bs,bs];by_cases u:AA m.az (AA p.bi i).To=(AA g.bi (AA m.bi i)).To
      .rw[QQ e_,QQ (by simp[r,u])];rfl
      .rw[Ne e_,Ne (.inr u)];rfl
     .rw[Ne p_,bs,Ne rfl,Ne (.inl r)];rfl
    .rw[Ne b?,Ne o];rfl
 .intro i j z _;unfold Ht;rw[AD j z,bs];by_cases d:AA m.az i<0\/g.az.length<=AA m.az i
  .rw[Ne c_,Ne d];rfl
  .have w:=tp _ (AG (l:=p.az) j U);have y:=D _ (AG (l:=g.az) (show 0<=AA m.az i by omega) U);rw[QQ c_,QQ d,AD j U,bs,AD w.1 (by unfold IB;rw[a6,Am];exact w.2),bs,AD U U,bs];have e:AA (IB t) (AA p.az i)=N3 t (AA p.az i):=by unfold IB;exact FH (N3 t) w.1 w.2
   rw [e,AD y.1 (by unfold N3;rw[a6,Am];exact y.2),bs];have B:AA (N3 t (AA p.az i)) (AA g.az (AA m.az i))=isB t (AA g.az (AA m.az i)) (AA p.az i):=by unfold N3;exact FH (λk=>isB t k (AA p.az i)) y.1 y.2
   rw [B];cases isB t (AA g.az (AA m.az i)) (AA p.az i)<;>rfl
variable{l:Fp}
theorem iu(d:l.length<=1000):Iq l=Y (!KE l):=by grind[Iq,Xh,Gy,Abw,KE]
theorem Zt(hf:Ao t)(p g:bk)(m:bn)(inj:Bool):GR t p g m inj=Y (Ez t p g m inj):=by
 unfold GR Ez;rw[Ww hf,bs];refine Dy λd=>?_;rw[bE hf d,bs];refine Dy λo=>?_;obtain⟨_,j,r,_⟩:=Ji d;have e:=jH o;have:=j.cE;have:=j.c9;have:=e.tc;have:=e.wi;rw[iu U,iu U];unfold Gz;cases inj<;>cases KE m.az<;>cases KE m.bi<;>rfl
theorem uT(l:Fp):KM l=Y (KE l):=cR l
theorem nW{p g:bk}(z:Ds t p g=0)(m:bn)(inj:Bool):NN t p g m inj=Y (if J5 t p g m≠0 then J5 t p g m else if(inj&&!Gz m)=X then 5 else 0):=by
 obtain ⟨hv,C,F,tp,D⟩:=Ji z;unfold NN J5;by_cases A:m.az.length≠p.az.length\/m.bi.length≠p.bi.length
 .grind
 rw [QQ j?,QQ A,Ba (Ht t p g m),EA]
 .cases E:fst (Ht t p g m) 0 m.az.length with
  |some e=>
   grind [Dx,Ht]
  |none=>
   dsimp only;rw[Ba (Es p g m),EA]
   .grind[fst,Es,Dx,uT,Gz,KE]
   intro i j w _;unfold Es;rw[AD j w];simp only[bs,VM];by_cases d:AA m.bi i<0\/g.bi.length<=AA m.bi i
   .rw[Ne c_,Ne d];rfl
   .have hf:=C.fit _ (AG (l:=p.bi) j U);rw[QQ c_,QQ d,AD j U,bs,AD U U,bs];by_cases o:(AA p.bi i).em=(AA g.bi (AA m.bi i)).em
    .rw[QQ b?,QQ b?,AD U U,bs];by_cases r:AA m.az (AA p.bi i).fb=(AA g.bi (AA m.bi i)).fb
     .rw[QQ p_,AD U U,bs,bs];by_cases u:AA m.az (AA p.bi i).To=(AA g.bi (AA m.bi i)).To
      .rw[QQ e_,QQ (by simp[r,u])];rfl
      .rw[Ne e_,Ne (.inr u)];rfl
     .rw[Ne p_,bs,Ne rfl,Ne (.inl r)];rfl
    .rw[Ne b?,Ne o];rfl
 .intro i j w _;unfold Ht;rw[AD j w];simp only[bs,VM];by_cases d:AA m.az i<0\/g.az.length<=AA m.az i
  .rw[Ne c_,Ne d];rfl
  .have B:=tp _ (AG (l:=p.az) j U);have y:=D _ (AG (l:=g.az) (show 0<=AA m.az i by omega) U);rw[QQ c_,QQ d,AD U U,bs,AD j U,bs,Wy (Ck hv) y.1 y.2 B.1,bs];cases isB t (AA g.az (AA m.az i)) (AA p.az i)<;>rfl
theorem Zy(hf:Ao t)(p g:bk)(m:bn)(inj:Bool):Jq t p g m inj=Y (Ez t p g m inj):=by
 unfold Jq Ez;rw[X7 hf,bs];refine Dy λd=>?_;rw[nW d,bs]
theorem dI{p g:bk}{inj:Bool}(h:Ez t p g m inj=0):Ds t p g=0/\Z8 t p g m:=by grind[Ez,jH]
end Go.Sf.Sc
namespace Go.Sf.Sc
open Go Go.Sf
section
variable{α σ ρ:Type}
def Eo(step:α->σ->B3 σ ρ):List α->σ->σ ⊕ ρ
 |[],s=>.inl s|a::r,s=>match step a s with
  |.next s'=>Eo step r s'|.brk s'=>.inl s'|.ret r=>.inr r
variable{f:Int->σ->Option (B3 σ ρ)}
theorem U0[Inhabited α]{l:List α}(step:α->σ->B3 σ ρ)(I:σ->Prop)(h:∀(i:Int)s,0<=i->i<l.length->I s->f i s=Y (step (AA l i) s)/\∀s',step (AA l i) s=.next s'->I s'):
  ∀(n:Nat)(a:Int)(s:σ),0<=a->a+n=l.length->I s->sr f n a s=Y (Eo step (l.drop a.toNat) s)
 |0,a,s,d,o,_=>by
  rw [w? U];rfl
 |n+1,a,s,d,o,u=>by
  obtain ⟨g,j⟩:=h a s d U u;have hd:l.drop a.toNat=AA l a::l.drop (a+1).toNat:=by
   grind [x_,AA,x!]
  rw [FW,g,hd,Eo];cases e:step (AA l a) s with
  |next s'=>
   simp only;exact U0 step I h n (a+1) s' U U (j s' e)
  |brk s'=>rfl|ret r=>rfl
theorem R4[Inhabited α]{l:List α}(step:α->σ->B3 σ ρ)(I:σ->Prop){s:σ}(d:I s)(h:∀(i:Int)s,0<=i->i<l.length->I s->f i s=Y (step (AA l i) s)/\∀s',step (AA l i) s=.next s'->I s'):
  eE f 0 l.length s=Y (Eo step l s):=by
 have:=U0 step I h l.length 0 s U U d;unfold eE;rw[show((l.length:Int)-0).toNat=l.length by omega];exact this
theorem fO[Inhabited α](step:α->σ->B3 σ ρ)(I:σ->Prop):∀(l:List α)(s s':σ),I s->(∀a∈l,∀s s',I s->step a s=.next s'->I s')->(∀a∈l,∀s s',step a s≠.brk s')->Eo step l s=.inl s'->I s'
 |[],s,s',h,_,_,e=>by cases e;exact h
 |a::r,s,s',h,g,o,e=>by
  rw [Eo]at e;split at e
  next s2 j=>exact fO step I r s2 s' (g a V s s2 h j) (λa d=>g a (by simp[d])) (λa d=>o a (by simp[d])) e
  .grind
  .cases e
end
def DT(x:ez)(l:Fp):Int:=if x.Var<0 then x.Add else AZ (AA l x.Var+x.Add)
variable{x:ez}{l:Fp}
theorem VN(h:x.Var<l.length):E8 x l=Y (DT x l):=by grind[E8,DT,AD]
theorem bP(h:x.Var<l.length):Js x l=Y (DT x l):=VN h
theorem eG(d:-1<=x.Var)(h:x.Var<l.length)(e:l.length<=1000):Ff x l=Y (DT x l,0):=by grind[Ff,C5,Ap,VN]
theorem Pd(d:-1<=x.Var)(h:x.Var<l.length):FX x l=Y (DT x l,0):=by grind[FX,bP]
def LZ(x:Test)(l:Fp):Bool:=(decide (x.fu=1)&&decide (DT x.ea l<=DT x.ci l))||(decide (x.fu=2)&&decide (DT x.ea l=DT x.ci l))
structure JG(n:Int)(x:ez):Prop where
 low:-1<=x.Var
 high:x.Var<n
 add:-1000000<=x.Add/\x.Add<=1000000
def Qh(l:Fp):Prop:=∀x∈l,-2000000<=x/\x<=2000000
variable{n:Int}
theorem UD(h:JG n x)(d:Qh l)(e:n<=l.length):DT x l=(if x.Var<0 then x.Add else AA l x.Var+x.Add)/\-3000000<=DT x l/\DT x l<=3000000:=by
 unfold DT;have:=h.add;by_cases g:x.Var<0
 .grind
 .have hh:=h.high;have:=d _ (AG (l:=l) (show 0<=x.Var by omega) U)
  grind [Ap]
theorem bO(h:JG n x)(d:n<=l.length):LI x l=Y (DT x l,X):=by
 have e:=h.low;have g:=h.high
 grind [LI,DT,AD]
theorem r_holds{x:Test}(e:JG n x.ea)(g:JG n x.ci)(d:n<=l.length):NI x l=Y (LZ x l):=by
 unfold NI;rw[bO e d,bO g d];rfl
variable{a b:Int}
theorem br(j:-4000000<=a/\a<=4000000)(o:-4000000<=b/\b<=4000000):Hg a b=Y (if a+b<0 then(-1,a+b+18446744073709551616)else(0,a+b)):=by
 have d:∀c:Int,IntKind.u64.wrap c=c % 18446744073709551616:=λc=>by
  simp [IntKind.wrap,IntKind.signed,IntKind.bits]
 have g:∀c:Int,-4000000<=c/\c<=4000000->NE .i64 .shr c 63=Y (if c<0 then -1 else 0):=by
  intro c w;unfold NE;have e:c.fdiv (2^ (min (63:Int).toNat (IntKind.bits .i64)))=if c<0 then -1 else 0:=by
   show c.fdiv (2^ 63)=_
   grind
  simp only[e];have:(0:Int)<=63/\IntKind.min .i64<=(if c<0 then -1 else 0)/\(if c<0 then -1 else 0)<=IntKind.max .i64:=by
   split<;>decide
  rw [Ne this]
 unfold Hg JS;rw[d,d,Ne U,bs,g a j,g b o,bs,bs];congr 1;have y:∀c:Int,-10<=c->c<=10->AZ c=c:=λc r u=>Ap U U
 grind
def K3(a:Int):Int×Int:=if a<0 then(-1,a+18446744073709551616)else(0,a)
theorem eM(h:JG n x)(d:Qh l)(o:n<=l.length):Fh x l=Y ((K3 (DT x l)).1,(K3 (DT x l)).2,X):=by
 have r:=h.low;have u:=h.high;have w:=h.add;have g:=(UD h d o).1;unfold Fh;by_cases j:x.Var=-1
 .have e:DT x l=x.Add:=by rw[g,Ne U]
  rw [e,Ne h_,br U U,bs,Int.zero_add];rfl
 .have:=d _ (AG (l:=l) (show 0<=x.Var by omega) U);have e:DT x l=AA l x.Var+x.Add:=by rw[g,QQ U]
  rw [e,QQ h_,QQ an,AD U U,bs,br U U,bs];rfl
theorem sF(a b:Int):cmp_Compare_int a b=Y (if a<b then -1 else if b<a then 1 else 0):=by
 unfold cmp_Compare_int cmp_isNaN_int
 grind
theorem ze(a b:Int):JJ a b=Y (if a<b then -1 else if b<a then 1 else 0):=sF a b
theorem vu(a b:Int):OZ [a,b]=Y (if a=0 then b else a):=by
 unfold OZ;show eb (sr _ 2 0 ()) _ _=_;rw[FW,show idx [a,b] 0=Y a from rfl,bs]
 grind [eb,sr,FW,idx]
theorem p_holds{x:Test}(g:JG n x.ea)(j:JG n x.ci)(d:Qh l)(e:n<=l.length):Gx x l=Y (LZ x l):=by
 have o:=(UD g d e).2;have s2:=(UD j d e).2;unfold Gx LZ;rw[eM g d e,eM j d e];simp[sF,ze,vu];generalize DT x.ea l=a at o;generalize DT x.ci l=b at s2;have key:(if(if(K3 a).1<(K3 b).1 then(-1:Int)else if(K3 b).1<(K3 a).1 then 1 else 0)=0 then(if(K3 a).2<(K3 b).2 then(-1:Int)else if(K3 b).2<(K3 a).2 then 1 else 0)else(if(K3 a).1<(K3 b).1 then(-1:Int)else if(K3 b).1<(K3 a).1 then 1 else 0))=if a<b then -1 else if b<a then 1 else 0:=by
  grind [K3]
 rw [key];congr 2
 .grind
 grind
end Go.Sf.Sc
namespace Go.Sf.Sc
open Go Go.Sf
structure UP(t:AC)(q:c7):Prop where
 g:BW q.bk
 kind:∀n∈q.bk.az,0<=n/\n<t.az.length
 vars:0<=q.ei/\q.ei<=12
 few:q.d5.length<=10/\q.f0.length<=10
 slot:∀s∈q.d5,(0<=s.ln/\s.ln<q.bk.az.length)/\(0<=s.ff/\s.ff<(A5 t (AA q.bk.az s.ln)).length)/\JG q.ei s.ez
 test:∀x∈q.f0,(x.fu=1\/x.fu=2)/\JG q.ei x.ea/\JG q.ei x.ci
 ge:B5 q.bk=0
 ty:CW t q.bk=X
variable{n:Int}{x:ez}
theorem rn(h:O6 n x=X):JG n x:=by
 unfold O6 at h;simp[o4]at h;exact⟨h.1.1.1,h.1.1.2,h.1.2,h.2⟩
theorem rq{l:List Test}(h:LB n l=0):∀x∈l,(x.fu=1\/x.fu=2)/\JG n x.ea/\JG n x.ci:=by
 unfold LB at h;split at h
 .cases h
 split at h
 .cases h
 have g:=S4 h;intro x d;obtain⟨i,j,o,rfl⟩:=Ay d;have:=g i j o;unfold P7 at this;split at this
 .cases this
 split at this
 .rename_i r e;rw[gR]at e
  grind [rn]
 .cases this
theorem lZ(n:Int)(l:List Test):LB n l≠9:=by
 unfold LB;split
 .decide
 split
 .decide
 intro h;cases d:fst (λi=>nz (P7 n (AA l i))) 0 l.length with
 |none=>rw[d]at h;cases h
 |some r=>
  grind [Dx,nz,P7]
variable{t:AC}{q:c7}
theorem qJ(hv:(A0 t).2=0)(h:H7 t q=0\/H7 t q=9):UP t q:=by
 have y:=Yp q.bk;unfold H7 at h;rw[QQ t!]at h;split at h
 .omega
 rename_i o;have g:=Dt (z?.1 o);split at h
 .omega
 rename_i e;split at h
 .omega
 rename_i A;split at h
 .omega
 rename_i B;split at h
 .omega
 rename_i C;split at h
 .grind[lZ]
 rename_i w;refine⟨g,(Cw g i!).1,U,U,λs z=>?_,rq (z?.1 w),z?.1 o,i!⟩;have j:TX t q s=T:=by
  grind
 unfold TX at j;simp[Bool.not_eq_false',decide_eq_false_iff_not]at j;obtain⟨⟨⟨d,E⟩,F⟩,G,H⟩:=j;unfold TU at d;dsimp only at d;split at d
 .cases d
 rename_i D;have u:=(Cw g i!).1 _ (AG (l:=q.bk.az) (show 0<=s.ln by omega) U);rw[KW hv u.1 u.2]at d;split at d
 .cases d
 rename_i r;have r:¬(s.ff<0\/((A5 t (AA q.bk.az s.ln)).length:Int)<=s.ff):=r;exact⟨U,U,U,U,U,U⟩
def N0(h:AH)(m:bn)(s:DW):Int:=AA (AA h.d6 (AA m.az s.ln)) s.ff
def P6(h:AH)(m:bn)(s:DW)(st:Fp×MV):Fp×MV:=
 if 0<=s.ez.Var/\AA st.2 s.ez.Var=T then(BB st.1 s.ez.Var (AZ (N0 h m s-s.ez.Add)),BB st.2 s.ez.Var X)else st
def FY{ρ:Type}(r:ρ)(h:AH)(m:bn)(s:DW)(st:Fp×MV):B3 (Fp×MV) ρ:=
 if DT s.ez (P6 h m s st).1=N0 h m s then .next (P6 h m s st)else .ret r
structure VI(n:Int)(st:Fp×MV):Prop where
 l1:(st.1.length:Int)=n
 l2:(st.2.length:Int)=n
 small:Qh st.1
structure J9(n:Int)(h:AH)(m:bn)(s:DW):Prop where
 node:0<=s.ln/\s.ln<m.az.length
 val:0<=AA m.az s.ln/\AA m.az s.ln<h.d6.length
 Aby:0<=s.ff/\s.ff<(AA h.d6 (AA m.az s.ln)).length
 term:JG n s.ez
 has:-1000000<=N0 h m s/\N0 h m s<=1000000
variable{h:AH}{m:bn}{s:DW}
theorem Pg(g:Eh t)(j:UP t q)(hh:Gg t h)(e:Z8 t q.bk h.bk m)(o:s∈q.d5):J9 q.ei h m s:=by
 obtain ⟨u,w,y⟩:=j.slot s o;have z:=e.tc;have d:=e.node s.ln u.1 U;have A:=hh.row _ d.1.1 d.1.2;have r:=hh.kind _ d.1.1 d.1.2;have B:=av g r.2 d.2;have hv:=hh.len;refine⟨U,U,U,y,?_⟩;unfold N0;exact hh.low _ d.1.1 d.1.2 _ (AG w.1 U)
theorem T9{α:Type}(l:List α)(i:Int)(a:α):(BB l i a).length=l.length:=by unfold BB;rw[List.length_set]
variable{i:Int}
theorem ql{α:Type}{l:List α}{a x:α}(h:x∈BB l i a):x∈l\/x=a:=List.mem_or_eq_of_mem_set h
variable{st:Fp×MV}
theorem nx(e:J9 n h m s)(hi:VI n st):VI n (P6 h m s st):=by
 have g:=e.has;have j:=e.term.add;unfold P6;split
 .refine⟨by rw[T9];exact hi.l1,by rw[T9];exact hi.l2,λx d=>?_⟩;rcases ql d with d|rfl
  .exact hi.small x d
  grind [Ap]
 .exact hi
def Hx(q:c7)(h:AH)(m:bn):Fp×Int:=
 match Eo (FY (([],11):Fp×Int) h m) q.d5 (x? q.ei.toNat 0,x? q.ei.toNat T)with
 |.inr r=>r|.inl st=>if fq (λi=>!LZ (AA q.f0 i) st.1) 0 q.f0.length=X then([],16)else(st.1,0)
theorem TL(d:0<=n):VI n (x? n.toNat 0,x? n.toNat T):=by
 refine ⟨an,an,λx e=>?_⟩
 grind
variable{st':Fp×MV}
theorem Qb{ρ:Type}{r:ρ}(d:J9 n h m s)(hi:VI n st)(e:FY r h m s st=.next st'):VI n st':=by grind[FY,nx]
theorem ny{ρ:Type}{r:ρ}:FY r h m s st≠.brk st':=by grind[FY]
theorem Pf{ρ:Type}{r:ρ}{l:List DW}(d:∀s∈l,J9 n h m s)(hi:VI n st)(e:Eo (FY r h m) l st=.inl st'):VI n st':=
 fO (FY r h m) (VI n) l st st' hi (λa g _ _ j o=>Qb (d a g) j o) (λ_ _ _ _=>ny) e
theorem Q3{ρ:Type}{r:ρ}(w:J9 n h m s)(hi:VI n st){θ:Fp×MV->Option (B3 (Fp×MV) ρ)}
  (j:∀st':Fp×MV,(st'.1.length:Int)=n->θ st'=Y (if DT s.ez st'.1=N0 h m s then .next st' else .ret r)):
  ((if(decide (0<=s.ez.Var))=X then((idx st.2 s.ez.Var).bind λo=>Y (!o))else Y T).bind λu=>
   if u=X then(idx st.1 s.ez.Var).bind λ_=>(idx st.2 s.ez.Var).bind λ_=>θ (BB st.1 s.ez.Var (AZ (N0 h m s-s.ez.Add)),BB st.2 s.ez.Var X)else θ (st.1,st.2))=Y (FY r h m s st):=by
 have y:=w.term.high;have l1:=hi.l1;have l2:=hi.l2;unfold FY;by_cases d:0<=s.ez.Var
 .rw[Ne c_,AD d U,bs,bs];by_cases g:AA st.2 s.ez.Var=T
  .rw[Ne q?,AD d U,bs,bs,j _ (by dsimp only;rw[T9];exact l1)];have e:P6 h m s st=(BB st.1 s.ez.Var (AZ (N0 h m s-s.ez.Add)),BB st.2 s.ez.Var X):=by unfold P6;rw[Ne ⟨d,g⟩]
   rw [e]
  .rw[QQ p!,j _ l1];have e:P6 h m s st=st:=by unfold P6;rw[QQ (λe=>g e.2)]
   rw [e]
 .rw[QQ c_,bs,QQ a_,j _ l1];have e:P6 h m s st=st:=by unfold P6;rw[QQ (λe=>d e.1)]
  rw [e]
theorem gW{ρ:Type}{r:ρ}(j:J9 n h m s)(hi:VI n st){θ:Fp×MV->Option (B3 (Fp×MV) ρ)}
  (o:∀st':Fp×MV,(st'.1.length:Int)=n->θ st'=Y (if DT s.ez st'.1=N0 h m s then .next st' else .ret r)):
  ((if(decide (0<=s.ez.Var))=X then((idx st.2 s.ez.Var).bind λd=>Y (!d))else Y T).bind λe=>
   if e=X then(idx st.2 s.ez.Var).bind λ_=>(idx st.1 s.ez.Var).bind λ_=>θ (BB st.1 s.ez.Var (AZ (N0 h m s-s.ez.Add)),BB st.2 s.ez.Var X)else θ (st.1,st.2))=Y (FY r h m s st):=by
 rw [<-Q3 j hi o];have u:=j.term.high;have l1:=hi.l1;have l2:=hi.l2;by_cases g:0<=s.ez.Var
 .rw[AD g U,AD g U];rfl
 .rw[QQ p!];rfl
variable{v:Int}
theorem bZ{t:ez}{f:ez->Fp->K1}(hf:∀l:Fp,(l.length:Int)=n->f t l=Y (DT t l))(st':Fp×MV)(e:(st'.1.length:Int)=n):((f t st'.1).bind λd=>if(!decide (d=v))=X then Y (B3.ret (([],11):Fp×Int))else Y (.next st'))=Y (if DT t st'.1=v then .next st' else .ret ([],11)):=o!
theorem uJ(u:UP t q)(w:∀s∈q.d5,J9 q.ei h m s):JH q h m=Y (Hx q h m):=by
 have hv:=u.vars;unfold JH Hx FA;rw[Ne U,bs,Ne U,bs];rw[R4 (FY (([],11):Fp×Int) h m) (VI q.ei) (TL hv.1)]
 .cases z:Eo (FY (([],11):Fp×Int) h m) q.d5 (x? q.ei.toNat 0,x? q.ei.toNat T)with
  |inr r=>rfl|inl st=>
   have hi:=Pf w (TL hv.1) z;rw[CB,BO (λi=>!LZ (AA q.f0 i) st.1) ([],16)]
   .dsimp only;cases fq (λi=>!LZ (AA q.f0 i) st.1) 0 q.f0.length<;>rfl
   .intro i g j _;have y:=u.test _ (AG g j);rw[AD g j,bs,p_holds y.2.1 y.2.2 hi.small (by have:=hi.l1;omega),bs]
    grind
 .intro i st g j hi;have d:=w _ (AG g j);refine⟨?_,λs' e=>Qb d hi e⟩;rw[AD g j,bs,AD d.node.1 d.node.2,bs,AD d.val.1 d.val.2,bs,AD d.Aby.1 d.Aby.2,bs];exact Q3 d hi (θ:=λst'=>(E8 (AA q.d5 i).ez st'.1).bind λo=>if(!decide (o=N0 h m (AA q.d5 i)))=X then Y (B3.ret (([],11):Fp×Int))else Y (.next st')) (bZ λl A=>VN (by have:=d.term.high;omega))
theorem jD(u:UP t q)(w:∀s∈q.d5,J9 q.ei h m s):Ii q h m=Y (Hx q h m):=by
 have hv:=u.vars;unfold Ii Hx FA;rw[Ne U,bs,Ne U,bs];rw[R4 (FY (([],11):Fp×Int) h m) (VI q.ei) (TL hv.1)]
 .cases z:Eo (FY (([],11):Fp×Int) h m) q.d5 (x? q.ei.toNat 0,x? q.ei.toNat T)with
  |inr r=>rfl|inl st=>
   have hi:=Pf w (TL hv.1) z;rw[CB,BO (λi=>!LZ (AA q.f0 i) st.1) ([],16)]
   .dsimp only;cases fq (λi=>!LZ (AA q.f0 i) st.1) 0 q.f0.length<;>rfl
   .intro i g j _;have y:=u.test _ (AG g j);rw[AD g j,bs,r_holds y.2.1 y.2.2 (by have:=hi.l1;omega),bs]
    grind
 .intro i st g j hi;have d:=w _ (AG g j);refine⟨?_,λs' e=>Qb d hi e⟩;rw[AD g j,bs,AD d.node.1 d.node.2,bs,AD d.val.1 d.val.2,bs,AD d.Aby.1 d.Aby.2,bs];exact gW d hi (θ:=λst'=>(Js (AA q.d5 i).ez st'.1).bind λo=>if(!decide (o=N0 h m (AA q.d5 i)))=X then Y (B3.ret (([],11):Fp×Int))else Y (.next st')) (bZ λl A=>bP (by have:=d.term.high;omega))
def Ot(t:AC)(p:c7)(h:AH):Int:=if H7 t p≠0 then H7 t p else(Bc t h).2
theorem nC(hf:Ao t)(p:c7)(h:AH):GG t p h=Y (Ot t p h):=by
 unfold GG Ot;rw[ZB hf,bs];refine Dy λ_=>?_;rw[RZ hf];rfl
theorem bL(hf:Ao t)(p:c7)(h:AH):LK t p h=Y (Ot t p h):=by
 unfold LK Ot;rw[cU hf,bs];refine Dy λ_=>?_;rw[ZJ hf];rfl
def F5(t:AC)(p:c7)(h:AH)(m:bn):Fp×Int:=
 if Ot t p h≠0 then([],Ot t p h)else if Ez t p.bk h.bk m T≠0 then([],Ez t p.bk h.bk m T)else Hx p h m
variable{p:c7}
theorem Sj(hf:Ao t){inj:Bool}(d:Ot t p h=0)(e:Ez t p.bk h.bk m inj=0):(A0 t).2=0/\UP t p/\Gg t h/\Z8 t p.bk h.bk m:=by
 unfold Ot at d;split at d
 .grind
 rename_i g;obtain⟨hv,hh⟩:=Du hf d;exact⟨hv,qJ hv (.inl (z?.1 g)),hh,(dI e).2⟩
theorem ig(hf:Ao t)(p:c7)(h:AH)(m:bn):E7 t p h m=Y (F5 t p h m):=by
 unfold E7 F5;rw[nC hf,bs];refine Dd λe=>?_;rw[Zt hf,bs];refine Dd λg=>?_;obtain⟨hv,d,hh,o⟩:=Sj hf e g;rw[uJ d (λs j=>Pg (Ck hv) d hh o j)];rfl
theorem uQ(hf:Ao t)(p:c7)(h:AH)(m:bn):NO t p h m=Y (F5 t p h m):=by
 unfold NO F5;rw[bL hf,bs];refine Dd λe=>?_;rw[Zy hf,bs];refine Dd λg=>?_;obtain⟨hv,d,hh,o⟩:=Sj hf e g;rw[jD d (λs j=>Pg (Ck hv) d hh o j)];rfl
theorem n7(g:UP t q)(j:∀s∈q.d5,J9 q.ei h m s)(e:(Hx q h m).2=0):((Hx q h m).1.length:Int)=q.ei/\Qh (Hx q h m).1:=by
 unfold Hx at e|-;cases d:Eo (FY (([],11):Fp×Int) h m) q.d5 (x? q.ei.toNat 0,x? q.ei.toNat T)with
 |inr r=>
  rw [d]at e;have:∀(l:List DW)(st:Fp×MV)(r:Fp×Int),Eo (FY (([],11):Fp×Int) h m) l st=.inr r->r=([],11):=by
   intro l
   induction l with
   |nil=>intro st r h;cases h
   |cons a l u=>
    grind [Eo,FY]
  grind
 |inl st=>
  rw [d]at e;have hi:=Pf j (TL g.vars.1) d;dsimp only at e|-;split at e
  .cases e
  next o=>rw[QQ o];exact⟨hi.l1,hi.small⟩
end Go.Sf.Sc
namespace Go.Sf.Sc
open Go Go.Sf
variable{i:Int}
theorem Gc{n:Nat}{α:Type}[Inhabited α](F:Int->α)(d:0<=i)(v:α):BB ((AY n).map F) i v=(AY n).map λj=>if j=i then v else F j:=by
 unfold BB;refine y_ V (λk e g=>?_)
 grind [Am,AY]
theorem Da{n:Nat}{α:Type}{F G:Int->α}(h:∀j,0<=j->j<(n:Int)->F j=G j):(AY n).map F=(AY n).map G:=by grind[List.map_congr_left,Bs]
def Hu(n:Nat)(k:Int):MV:=(AY n).map λj=>decide (j<k)
theorem Yv(n:Nat):Hu n 0=x? n T:=by
 unfold Hu;refine y_ (by simp[Am]) (λk d e=>?_)
 grind [AY,Am]
theorem ax(n:Nat)(k:Int):(Hu n k).length=n:=by unfold Hu;rw[a6,Am]
def Nu(q:c7)(h:AH)(m:bn)(given:Fp):Fp×Bool:=
 match Eo (FY (([],T):Fp×Bool) h m) q.d5 (given++x? (q.ei-given.length).toNat 0,Hu q.ei.toNat given.length)with
 |.inr r=>r|.inl st=>if fq (λi=>!LZ (AA q.f0 i) st.1) 0 q.f0.length=X then([],T)else(st.1,X)
variable{n:Int}{given:Fp}
theorem YH(e:0<=n)(g:given.length<=n)(hv:Qh given):VI n (given++x? (n-given.length).toNat 0,Hu n.toNat given.length):=by
 refine ⟨an,by show((Hu n.toNat given.length).length:Int)=n;rw[ax];omega,λx d=>?_⟩;rcases w_.1 d with d|d
 .exact hv x d
 grind
variable{q:c7}{m:bn}{t:AC}
theorem wx{s:Bf}(w:UP t q)(y:∀x∈q.d5,J9 q.ei s.h m x)(B:given.length<=q.ei)(hv:Qh given):EO s q m given=Y (Nu q s.h m given):=by
 have D:=w.vars;unfold EO Nu slices_Clone_int;rw[BL b_,bs,Ap U U];have E:cw given (q.ei-given.length) 0=Y (given++x? (q.ei-given.length).toNat 0):=by
  grind [cw,AW]
 have F:FA q.ei T=Y (x? q.ei.toNat T):=by
  grind [FA]
 rw [E,bs,F,bs];have G:gp (λ(d:Int)(z:MV)=>(idx z d).bind λC=>Y (BB z d X)) 0 (given.length:Int) (x? q.ei.toNat T)=Y (Hu q.ei.toNat given.length):=by
  refine BQ (λi=>Hu q.ei.toNat i) U (Yv _) (λi d j=>?_);rw[AD d (by rw[ax];omega),bs];congr 1;unfold Hu;rw[Gc _ d]
  grind
 rw [G,bs];have u:=YH D.1 B hv;rw[R4 (FY (([],T):Fp×Bool) s.h m) (VI q.ei) u]
 .cases H:Eo (FY (([],T):Fp×Bool) s.h m) q.d5 (given++x? (q.ei-given.length).toNat 0,Hu q.ei.toNat given.length)with
  |inr r=>rfl|inl st=>
   have hi:=Pf y u H;rw[CB,BO (λi=>!LZ (AA q.f0 i) st.1) ([],T)]
   .dsimp only;cases fq (λi=>!LZ (AA q.f0 i) st.1) 0 q.f0.length<;>rfl
   .intro i d j _;have A:=w.test _ (AG d j);rw[AD d j,bs,p_holds A.2.1 A.2.2 hi.small (by have:=hi.l1;omega),bs]
    grind
 .intro i st d j hi;have g:=y _ (AG d j);refine⟨?_,λs' e=>Qb g hi e⟩;rw[AD d j,bs,AD g.node.1 g.node.2,bs,AD g.val.1 g.val.2,bs,AD g.Aby.1 g.Aby.2,bs];refine Q3 g hi (θ:=λst'=>(Ff (AA q.d5 i).ez st'.1).bind λo=>if((!decide (o.2=0))||(!decide (o.1=N0 s.h m (AA q.d5 i))))=X then Y (B3.ret (([],T):Fp×Bool))else Y (.next st')) (λst' I=>?_);rw[eG g.term.low (by have:=g.term.high;omega) U,bs]
  grind
variable{h:AH}
theorem xN(C:UP t q)(D:∀x∈q.d5,J9 q.ei h m x)(I:given.length<=q.ei)(hv:Qh given):MH q h m given=Y (Nu q h m given):=by
 have G:=C.vars;unfold MH Nu;have L:FA q.ei T=Y (x? q.ei.toNat T):=by
  unfold FA;rw[Ne U]
 rw [BL b_,bs,L,bs];have H:gp (λ(d:Int)(u:Fp×MV)=>
   (idx u.2 d).bind λJ=>
   if (decide ((given.length:Int)<=d))=X then
   (Al u.1 [0]).bind λA=>
   Y (A,BB u.2 d (decide (d<(given.length:Int))))
   else
   Y (u.1,BB u.2 d (decide (d<(given.length:Int))))) 0 q.ei (given,x? q.ei.toNat T)=Y (given++x? (q.ei-given.length).toNat 0,(AY q.ei.toNat).map λj=>decide (j<q.ei)&&decide (j<(given.length:Int))):=by
  refine BQ (λi=>(given++x? (i-given.length).toNat 0,(AY q.ei.toNat).map λj=>decide (j<i)&&decide (j<(given.length:Int)))) G.1 ?_ (λi d o=>?_)
  .have M:((0:Int)-given.length).toNat=0:=U
   rw [M];simp;rw[<-Yv];unfold Hu;refine Da (λj E F=>?_);rw[show decide (j<0)=T by simp;omega];rfl
  .dsimp only;rw[AD d (by rw[a6,Am];omega),bs];have N:BB ((AY q.ei.toNat).map λj=>decide (j<i)&&decide (j<(given.length:Int))) i (decide (i<(given.length:Int)))=(AY q.ei.toNat).map λj=>decide (j<i+1)&&decide (j<(given.length:Int)):=by
    rw [Gc _ d];refine Da (λj E F=>?_);by_cases e:j=i
    .rw[Ne e,e,show decide (i<i+1)=X by simp;omega,Bool.true_and]
    .rw[QQ e];congr 1;rw[decide_eq_decide];omega
   rw [N];by_cases hi:(given.length:Int)<=i
   .rw[Ne h?,AS a?,bs];congr 2;rw[ae,show(i+1-given.length).toNat=(i-given.length).toNat+1 by omega,y!]
   .rw[QQ h?];have O:(i+1-given.length).toNat=(i-given.length).toNat:=U
    rw [O]
 have B:((AY q.ei.toNat).map λj=>decide (j<q.ei)&&decide (j<(given.length:Int)))=Hu q.ei.toNat given.length:=by
  unfold Hu;refine Da (λj E F=>?_);rw[show decide (j<q.ei)=X by simp;omega,Bool.true_and]
 rw [B]at H;rw[H,bs];have y:=YH G.1 I hv;dsimp only;rw[R4 (FY (([],T):Fp×Bool) h m) (VI q.ei) y]
 .cases P:Eo (FY (([],T):Fp×Bool) h m) q.d5 (given++x? (q.ei-given.length).toNat 0,Hu q.ei.toNat given.length)with
  |inr r=>rfl|inl st=>
   have hi:=Pf D y P;rw[CB,BO (λi=>!LZ (AA q.f0 i) st.1) ([],T)]
   .dsimp only;cases fq (λi=>!LZ (AA q.f0 i) st.1) 0 q.f0.length<;>rfl
   .intro i d o _;have z:=C.test _ (AG d o);have K:=hi.l1;rw[AD d o,bs,Pd z.2.1.low (by have:=z.2.1.high;omega),bs,Pd z.2.2.low (by have:=z.2.2.high;omega),bs,<-Iw];unfold LZ;dsimp only;congr 1;generalize DT (AA q.f0 i).ea st.1=a;generalize DT (AA q.f0 i).ci st.1=b;rcases z.1 with e|e
    .rw[e,eq_iff_iff];simp
    .rw[e,eq_iff_iff];simp
 .intro i st d o hi;have g:=D _ (AG d o);refine⟨?_,λs' e=>Qb g hi e⟩;rw[AD d o,bs,AD g.node.1 g.node.2,bs,AD g.val.1 g.val.2,bs,AD g.Aby.1 g.Aby.2,bs];refine Q3 g hi (θ:=λst'=>(FX (AA q.d5 i).ez st'.1).bind λw=>if(!decide (w.1=N0 h m (AA q.d5 i)))=X then Y (B3.ret (([],T):Fp×Bool))else Y (.next st')) (λst' K=>?_);rw[Pd g.term.low (by have:=g.term.high;omega),bs];by_cases e:DT (AA q.d5 i).ez st'.1=N0 h m (AA q.d5 i)
  .rw[QQ d!,Ne e]
  .rw[Ne d!,QQ e]
theorem ru(j:UP t q)(o:∀s∈q.d5,J9 q.ei h m s)(u:given.length<=q.ei)(hv:Qh given)(e:(Nu q h m given).2=X):((Nu q h m given).1.length:Int)=q.ei/\Qh (Nu q h m given).1:=by
 unfold Nu at e|-;have d:=YH j.vars.1 u hv;cases g:Eo (FY (([],T):Fp×Bool) h m) q.d5 (given++x? (q.ei-given.length).toNat 0,Hu q.ei.toNat given.length)with
 |inr r=>
  rw [g]at e;have:∀(l:List DW)(st:Fp×MV)(r:Fp×Bool),Eo (FY (([],T):Fp×Bool) h m) l st=.inr r->r=([],T):=by
   intro l
   induction l with
   |nil=>intro st r h;cases h
   |cons a l y=>
    grind [Eo,FY]
  grind
 |inl st=>
  rw [g]at e;have hi:=Pf o d g;dsimp only at e|-;split at e
  .cases e
  next w=>rw[QQ w];exact⟨hi.l1,hi.small⟩
def VP(n:Nat)(by' images:Fp):Fp:=(AY by'.length).foldl (λl i=>BB l (AA by' i) (AA images i)) (x? n (-1))
theorem aX(d images:Fp):∀(e:Fp)(l:Fp),(e.foldl (λl i=>BB l (AA d i) (AA images i)) l).length=l.length
 |[],l=>rfl|k::e,l=>by rw[List.foldl_cons,aX d images e,T9]
theorem ZE{n:Nat}{d images:Fp}(y:∀x∈d,0<=x/\x<n)(z:d.length<=images.length):gp (λ(g:Int)(o:Fp)=>
  (idx d g).bind λe=>
  (idx images g).bind λj=>
  (idx o e).bind λr=>
  Y (BB o e j)) 0 (d.length:Int) (x? n (-1))=Y (VP n d images):=by
 have h:=BQ (f:=λ(g:Int)(o:Fp)=>
  (idx d g).bind λe=>
  (idx images g).bind λj=>
  (idx o e).bind λr=>
  Y (BB o e j)) (λi=>(AY i.toNat).foldl (λl i=>BB l (AA d i) (AA images i)) (x? n (-1))) (a:=0) (b:=d.length) (s:=x? n (-1)) U rfl (λi g u=>by
   have w:=y _ (AG g u);rw[AD g u,bs,AD g U,bs,AD w.1 (by rw[aX];simpa using w.2),bs,HL g,List.foldl_append];rfl)
 rw [h,A_];rfl
theorem eR{n:Nat}{d images:Fp}(j:n<=1000)(e:∀x∈d,0<=x/\x<n)(g:d.length<=images.length):Gw n d images=Y (VP n d images):=by
 unfold Gw E3;rw[Ne ⟨rfl,U,U⟩,bs];show(gp _ 0 _ (x? (n:Int).toNat (-1))).bind _=_;rw[A_,ZE e g];rfl
theorem eu{n:Nat}{d images:Fp}(j:n<=1000)(e:∀x∈d,0<=x/\x<n)(g:d.length<=images.length):KO n d images=Y (VP n d images):=by
 unfold KO;rw[BQ (a:=0) (b:=n) (s:=[]) (λi=>x? i.toNat (-1)) U rfl,bs,A_,ZE e g]
 .rfl
 .intro i o r;rw[AS a?,bs,show(i+1).toNat=i.toNat+1 by omega,y!]
end Go.Sf.Sc
namespace Go.Sf.Sc
open Go Go.Sf
structure r6(f:AL):Prop where
 nl:f.cE.length<=f.p.az.length
 node:∀i:Int,0<=i->i<f.cE.length->(0<=AA f.cE i/\AA f.cE i<f.g.az.length)/\AA (AA f.is (AA f.p.az i)) (AA f.g.az (AA f.cE i))=X
 edge:∀i:Int,0<=i->i<f.c9.length->(0<=AA f.c9 i/\AA f.c9 i<f.g.bi.length)/\AA f.g.bi (AA f.c9 i)=⟨(AA f.p.bi i).em,AA f.cE (AA f.p.bi i).fb,AA f.cE (AA f.p.bi i).To⟩
 inj:f.ec=X->f.cE.Nodup/\f.c9.Nodup
structure jf(f:AL)(m:bn):Prop where
 nl:m.az.length=f.p.az.length
 el:m.bi.length=f.p.bi.length
 node:∀i:Int,0<=i->i<m.az.length->(0<=AA m.az i/\AA m.az i<f.g.az.length)/\AA (AA f.is (AA f.p.az i)) (AA f.g.az (AA m.az i))=X
 edge:∀i:Int,0<=i->i<m.bi.length->(0<=AA m.bi i/\AA m.bi i<f.g.bi.length)/\AA f.g.bi (AA m.bi i)=⟨(AA f.p.bi i).em,AA m.az (AA f.p.bi i).fb,AA m.az (AA f.p.bi i).To⟩
 inj:f.ec=X->m.az.Nodup/\m.bi.Nodup
variable{i:Int}
theorem gw{α:Type}[Inhabited α](l:List α)(x:α)(h:i=l.length):AA (l++[x]) i=x:=by grind[HM]
variable{l:Fp}{k:Int}
theorem Y4{b:Bool}(h:(!(b&&l.any λx=>decide (k=x)))=X)(d:b=X)(e:l.Nodup):(l++[k]).Nodup:=o!
theorem Z9:∀(n:Nat)(f:AL),r6 f->f.cE.length=f.p.az.length->f.c9.length+n=f.p.bi.length->∀m∈Do n f,jf f m
 |0,f,j,z,he,m,d=>by
  rw [Do,List.mem_singleton]at d;subst d;exact⟨z,by simpa using he,j.node,j.edge,j.inj⟩
 |n+1,f,j,z,he,m,d=>by
  rw [Do,y?]at d;obtain⟨k,w,d⟩:=d;have w:=Bs.1 w;split at d
  .rename_i o;unfold QK at o;rw[gR]at o;obtain⟨r,y⟩:=o;rw[YF,gR,o4]at r;have:=Z9 n {f with c9:=f.c9++[k]} ⟨j.nl,j.node,λi A u=>by
    have u:i<((f.c9++[k]).length:Int):=u;simp at u;show(0<=AA (f.c9++[k]) i/\AA (f.c9++[k]) i<f.g.bi.length)/\AA f.g.bi (AA (f.c9++[k]) i)=⟨(AA f.p.bi i).em,AA f.cE (AA f.p.bi i).fb,AA f.cE (AA f.p.bi i).To⟩;by_cases e:i=f.c9.length
    .rw[gw _ _ e];exact⟨w,by rw[e];exact r.2⟩
    .rw[cz _ _ A U];exact j.edge i A U,λhi=>⟨(j.inj hi).1,Y4 y hi (j.inj hi).2⟩⟩ z (by show(f.c9++[k]).length+n=f.p.bi.length;rw[aE,z_];omega) m d
   exact ⟨this.nl,this.el,this.node,this.edge,this.inj⟩
  .cases d
theorem aA:∀(n:Nat)(f:AL),r6 f->f.c9=[]->f.cE.length+n=f.p.az.length->∀m∈Ei n f,jf f m
 |0,f,r,he,A,m,o=>by
  grind [Ei,Z9]
 |n+1,f,r,he,A,m,o=>by
  rw [Ei,y?]at o;obtain⟨k,w,o⟩:=o;have w:=Bs.1 w;split at o
  .rename_i j;unfold QM at j;rw[gR,gR]at j;obtain⟨⟨_,y⟩,z⟩:=j;have:=aA n {f with cE:=f.cE++[k]} ⟨by show(f.cE++[k]).length<=f.p.az.length;rw[aE,z_];omega,λi u d=>by
    have d:i<((f.cE++[k]).length:Int):=d;simp at d;show(0<=AA (f.cE++[k]) i/\AA (f.cE++[k]) i<f.g.az.length)/\AA (AA f.is (AA f.p.az i)) (AA f.g.az (AA (f.cE++[k]) i))=X;by_cases e:i=f.cE.length
    .rw[gw _ _ e];exact⟨w,by rw[e];exact y⟩
    .rw[cz _ _ u U];exact r.node i u U,λi u d=>by
    have d:i<(f.c9.length:Int):=d;rw[he]at d;have:i<(0:Nat):=d;omega,λhi=>⟨Y4 z hi (r.inj hi).1,(r.inj hi).2⟩⟩ he (by show(f.cE++[k]).length+n=f.p.az.length;rw[aE,z_];omega) m o
   exact ⟨this.nl,this.el,this.node,this.edge,this.inj⟩
  .cases o
variable{t:AC}{m:bn}
theorem Qu{p g:bk}{pa:bn}{inj:Bool}(e:m∈Gl t p g pa inj):jf (FF t p g pa inj) m:=
 aA _ (FF t p g pa inj) ⟨Nat.zero_le _,λi j d=>by have d:i<(0:Nat):=d;omega,λi j d=>by have d:i<(0:Nat):=d;omega,λ_=>⟨z!,z!⟩⟩ rfl r! m (List.mem_of_mem_take e)
theorem Xm{p g:bk}{pa:bn}{inj:Bool}(h:Ds t p g=0)(u:m∈Gl t p g pa inj):Z8 t p g m:=by
 obtain ⟨hv,A,B,tp,w⟩:=Ji h;have:=Qu u;refine⟨this.nl,this.el,λi d e=>?_,λi d e=>(this.edge i d e).1⟩;obtain⟨j,r⟩:=this.node i d e;refine⟨j,?_⟩;have o:=this.nl;have y:=tp _ (AG (l:=p.az) d (by show i<(p.az.length:Int);have o:m.az.length=p.az.length:=o;omega));have z:=w _ (AG (l:=g.az) j.1 j.2);have r:AA (AA (IB t) (AA p.az i)) (AA g.az (AA m.az i))=X:=r
 grind [AA,IB,N3,FH,isB]
theorem mQ{p g:bk}{pa:bn}{inj:Bool}(h:Ds t p g=0)(r:m∈Gl t p g pa inj):Ez t p g m inj=0:=by
 have ok:=Xm h r;have u:=Qu r;have w:J5 t p g m=0:=by
  unfold J5;rw[QQ (by have:=ok.tc;have:=ok.wi;omega)];have y:fst (Ht t p g m) 0 m.az.length=W:=by
   rw [Bb];intro i d e;obtain⟨j,o⟩:=ok.node i d e
   grind [Ht]
  have z:fst (Es p g m) 0 m.bi.length=W:=by
   rw [Bb];intro i d e;obtain⟨j,o⟩:=u.edge i d e;have j:0<=AA m.bi i/\AA m.bi i<g.bi.length:=j;have o:AA g.bi (AA m.bi i)=⟨(AA p.bi i).em,AA m.az (AA p.bi i).fb,AA m.az (AA p.bi i).To⟩:=o
   grind [Es]
  rw [y,z];rfl
 unfold Ez;rw[QQ (by simp[h]),QQ (by simp[w])];cases inj
 .rfl
 .have:=u.inj rfl
  grind [Gz,Gy]
theorem dU{p g:bk}{pa:bn}{inj:Bool}(h:(Te t p g pa inj).2=0):(Te t p g pa inj).1.length<=5000/\∀m∈(Te t p g pa inj).1,Z8 t p g m:=by grind[Te,Xm]
structure YJ(t:AC)(p:c7)(h:AH)(x:AU):Prop where
 q:UP t p
 m:Z8 t p.bk h.bk x.bn
 len:(x.ei.length:Int)=p.ei
 small:Qh x.ei
structure lj(t:AC)(p:c7)(c:ca):Prop where
 q:UP t c.c7
 vars:p.ei<=c.c7.ei
 map:cD p.bk c.c7.bk c.Map
 inj:Gz c.Map=X
def EG(t:AC)(c:ca)(h:AH)(m:AU)(inj:Bool):List AU×Int:=
 let x:=Te t c.c7.bk h.bk ⟨VP c.c7.bk.az.length c.Map.az m.bn.az,VP c.c7.bk.bi.length c.Map.bi m.bn.bi⟩ inj
 if x.2≠0 then([],x.2)else((x.1.filter λy=>(Nu c.c7 h y m.ei).2).map λy=>⟨y,(Nu c.c7 h y m.ei).1⟩,0)
instance:Inhabited bn:=⟨⟨[],[]⟩⟩
instance:Inhabited AU:=⟨⟨default,[]⟩⟩
instance:Inhabited BD:=⟨⟨0,default,[]⟩⟩
theorem SZ{x:List bn}{F:bn->Fp×Bool}{f:Int->List AU->Option (List AU)}(o:x.length<=5000)
  (hf:∀(i:Int)(s:List AU),0<=i->i<x.length->s.length<=5000->f i s=Y (if(F (AA x i)).2=X then s++[⟨AA x i,(F (AA x i)).1⟩]else s)):
  gp f 0 (x.length:Int) []=Y ((x.filter λy=>(F y).2).map λy=>⟨y,(F y).1⟩):=by
 rw [BQ (a:=0) (b:=x.length) (s:=[]) (λi=>((x.take i.toNat).filter λy=>(F y).2).map λy=>(⟨y,(F y).1⟩:AU)) U rfl,A_,List.take_length];intro i d e;have g:(((x.take i.toNat).filter λy=>(F y).2).map λy=>(⟨y,(F y).1⟩:AU)).length<=5000:=by
  grind
 rw [hf i _ d e g,CU d e,List.filter_append,List.map_append];cases j:(F (AA x i)).2<;>simp[j]
variable{p:c7}{c:ca}
theorem wd{s:Bf}{m:AU}(hf:Ao s.t)(hv:(A0 s.t).2=0)(hh:Gg s.t s.h)(o:YJ s.t p s.h m)(hi:lj s.t p c):Ca s c m=Y (EG s.t c s.h m s.ec):=by
 have gn:=hi.q.g.cE;have ge:=hi.q.g.c9;have m1:=hi.map.tc;have C:=hi.map.wi;have D:=o.m.tc;have E:=o.m.wi;unfold Ca EG;rw[eR U (λx j=>by obtain⟨i,d,e,rfl⟩:=Ay j;exact(hi.map.node i d e).1) U,bs,
  eR U (λx j=>by obtain⟨i,d,e,rfl⟩:=Ay j;exact(hi.map.edge i d e).1) U,bs,p7 hf,bs]
 dsimp only;refine Dd λr=>?_;obtain⟨z,A⟩:=dU r;rw[SZ (F:=λy=>Nu c.c7 s.h y m.ei) z]
 .rfl
 .intro i st d e B;have u:=A _ (AG d e);have w:(m.ei.length:Int)<=c.c7.ei:=by have:=o.len;have:=hi.vars;omega
  rw [AD d e,bs,wx hi.q (λx j=>Pg (Ck hv) hi.q hh u j) w o.small,bs,<-Iw]
  grind [AS,AW]
variable{h:AH}
theorem xA{inj:Bool}{m:AU}(hf:Ao t)(hv:(A0 t).2=0)(hh:Gg t h)(o:YJ t p h m)(hi:lj t p c):Ij t c h m inj=Y (EG t c h m inj):=by
 have gn:=hi.q.g.cE;have ge:=hi.q.g.c9;have m1:=hi.map.tc;have C:=hi.map.wi;have D:=o.m.tc;have E:=o.m.wi;unfold Ij EG;rw[eu U (λx j=>by obtain⟨i,d,e,rfl⟩:=Ay j;exact(hi.map.node i d e).1) U,bs,
  eu U (λx j=>by obtain⟨i,d,e,rfl⟩:=Ay j;exact(hi.map.edge i d e).1) U,bs,qM hf,bs]
 dsimp only;refine Dd λr=>?_;obtain⟨z,A⟩:=dU r;rw[SZ (F:=λy=>Nu c.c7 h y m.ei) z]
 .rfl
 .intro i st d e B;have u:=A _ (AG d e);have w:(m.ei.length:Int)<=c.c7.ei:=by have:=o.len;have:=hi.vars;omega
  rw [AD d e,bs,xN hi.q (λx j=>Pg (Ck hv) hi.q hh u j) w o.small,bs,<-Iw]
  grind [AS,AW]
theorem iH{inj:Bool}{m:AU}(hv:(A0 t).2=0)(hh:Gg t h)(j:YJ t p h m)(hi:lj t p c)(e:(EG t c h m inj).2=0):(EG t c h m inj).1.length<=5000/\∀x∈(EG t c h m inj).1,YJ t c.c7 h x:=by
 unfold EG at e|-;dsimp only at e|-;split at e
 .grind
 rename_i o;rw[QQ o];obtain⟨w,z⟩:=dU (z?.1 o);refine⟨by dsimp only;rw[a6];exact Nat.le_trans (List.length_filter_le _ _) w,λx d=>?_⟩;dsimp only at d;rw[List.mem_map]at d;obtain⟨y,g,rfl⟩:=d;rw[List.mem_filter]at g;have r:=z y g.1;have u:(m.ei.length:Int)<=c.c7.ei:=by have:=j.len;have:=hi.vars;omega
 have:=ru hi.q (λx d=>Pg (Ck hv) hi.q hh r d) u j.small g.2;exact⟨hi.q,r,this.1,this.2⟩
end Go.Sf.Sc
namespace Go.Sf.Sc
open Go Go.Sf
inductive CV(t:AC):c7->ca->Prop where
 |mk (p:c7) (c:ca) (few:c.ew.length<=40) (rng:1<=c.fu/\c.fu<=5) (one:c.fu=2\/c.fu=5->c.ew.length=1) (ins:c.fu=5->lj t p c) (kids:∀k∈c.ew,CV t (if c.fu=5 then c.c7 else p) k):CV t p c
variable{t:AC}{p:c7}{c:ca}
theorem CV.few(h:CV t p c):c.ew.length<=40:=k?
theorem CV.rng(h:CV t p c):1<=c.fu/\c.fu<=5:=k?
theorem CV.one(h:CV t p c):c.fu=2\/c.fu=5->c.ew.length=1:=k?
theorem CV.ins(h:CV t p c):c.fu=5->lj t p c:=k?
theorem CV.kids(h:CV t p c):∀k∈c.ew,CV t (if c.fu=5 then c.c7 else p) k:=k?
theorem CV.kid(h:CV t p c)(d:¬c.fu=5):∀k∈c.ew,CV t p k:=λk e=>by have:=h.kids k e;rwa[QQ d]at this
theorem CV.kid5(h:CV t p c)(d:c.fu=5):∀k∈c.ew,CV t c.c7 k:=λk e=>by have:=h.kids k e;rwa[Ne d]at this
theorem aI:∀l:List ca,l.length<=Xf l
 |[]=>by simp|c::l=>by
  have:=aI l
  grind [Xf,GH,dK,a5]
variable{q:c7}{v:Int}
theorem zj(hv:(A0 t).2=0)(h:U7 t q v=0):UP t q:=by grind[U7,qJ]
theorem sG(hv:(A0 t).2=0):∀(N:Nat)(c:ca)(p:c7),SizeOf.sizeOf c<=N->GH c<=40->ST N c=X->Lj N t p c=0->CV t p c
 |0,c,_,h,_,_,_=>by have:=Gd c;omega|N+1,c,p,h,M,z,ho=>by
  have E:=dK c;have F:=aI c.ew;rw[ST,gR]at z;obtain⟨u,o⟩:=z;have d:c.fu=2\/c.fu=5->c.ew.length=1:=by
   intro j;unfold R5 at u
   grind
  have g:1<=c.fu/\c.fu<=5:=by
   grind [R5]
  have w:∀q,(fst (λi=>nz (Lj N t q (AA c.ew i))) 0 c.ew.length).getD 0=0->∀k∈c.ew,CV t q k:=by
   intro q A k j;have G:=S4 A;have K:=dJ j;have L:=Jv j;rw[List.all_eq_true]at o;obtain⟨i,H,I,e⟩:=Ay j;have y:=G i H I;rw[e]at y;exact sG hv N k q U U (o k j) y
  rw [Lj]at ho;by_cases r:c.fu=5
  .rw[Ne r]at ho;split at ho
   .cases ho
   rename_i J;split at ho
   .grind
   rename_i B;split at ho
   .grind
   rename_i C;split at ho
   .cases ho
   rename_i D;refine CV.mk p c U g d (λ_=>⟨zj hv (z?.1 B),U,SC (z?.1 C),by simpa using D⟩) ?_
   grind
  .rw[QQ r]at ho;refine CV.mk p c U g d (λe=>absurd e r) ?_
   grind
section
variable{α σ ρ:Type}
variable{f:Int->σ->Option (B3 σ ρ)}
theorem UT[Inhabited α]{l:List α}(step:α->σ->B3 σ ρ)(I:Int->σ->Prop)(h:∀(i:Int)s,0<=i->i<l.length->I i s->f i s=Y (step (AA l i) s)/\∀s',step (AA l i) s=.next s'->I (i+1) s'):
  ∀(n:Nat)(a:Int)(s:σ),0<=a->a+n=l.length->I a s->sr f n a s=Y (Eo step (l.drop a.toNat) s)
 |0,a,s,d,o,_=>by
  rw [w? U];rfl
 |n+1,a,s,d,o,u=>by
  obtain ⟨g,j⟩:=h a s d U u;have hd:l.drop a.toNat=AA l a::l.drop (a+1).toNat:=by
   grind [x_,AA,x!]
  rw [FW,g,hd,Eo];cases e:step (AA l a) s with
  |next s'=>
   simp only;exact UT step I h n (a+1) s' U U (j s' e)
  |brk s'=>rfl|ret r=>rfl
theorem Yl[Inhabited α]{l:List α}(step:α->σ->B3 σ ρ)(I:Int->σ->Prop){s:σ}(d:I 0 s)(h:∀(i:Int)s,0<=i->i<l.length->I i s->f i s=Y (step (AA l i) s)/\∀s',step (AA l i) s=.next s'->I (i+1) s'):
  eE f 0 l.length s=Y (Eo step l s):=by
 have:=UT step I h l.length 0 s U U d;unfold eE;rw[show((l.length:Int)-0).toNat=l.length by omega];exact this
theorem ZQ{d s2:α->σ->B3 σ ρ}:∀{l:List α}{s:σ},(∀a∈l,d a=s2 a)->Eo d l s=Eo s2 l s
 |[],_,_=>rfl|a::l,s,h=>by
  rw [Eo,Eo,h a V];split
  .exact ZQ λb e=>h b d!
  .rfl
  .rfl
end
abbrev zM:AU:=⟨⟨[],[]⟩,[]⟩
abbrev zP:BD:=⟨0,zM,[]⟩
def OU(w:ca->BD×Int)(k:ca)(s:BD×BD):B3 (BD×BD) (BD×Int):=
 if (w k).2≠0 then .ret (zP,(w k).2)else .next (s.1,⟨s.2.Aal,s.2.gN,s.2.ew++[(w k).1]⟩)
def Up(w:ca->BD×Int)(l:List ca):BD×Int:=
 match Eo (OU w) l (zP,zP)with
 |.inl s=>(s.2,0)|.inr r=>r
def DD(t:AC)(h:AH)(inj:Bool):Nat->ca->AU->BD×Int
 |0,_,_=>(zP,0)|N+1,c,m=>
  if c.fu=2 then(if(DD t h inj N (AA c.ew 0) m).2=0 then(zP,10)else if(DD t h inj N (AA c.ew 0) m).2=10 then(zP,0)else(zP,(DD t h inj N (AA c.ew 0) m).2))else
  if c.fu=3 then Up (λk=>DD t h inj N k m) c.ew else
  if c.fu=4 then(fst (λi=>if(DD t h inj N (AA c.ew i) m).2=0 then Y (⟨i,zM,[(DD t h inj N (AA c.ew i) m).1]⟩,0)else if(DD t h inj N (AA c.ew i) m).2≠10 then Y (zP,(DD t h inj N (AA c.ew i) m).2)else W) 0 c.ew.length).getD (zP,10)else
  if c.fu=5 then
   (if(EG t c h m inj).2≠0 then(zP,(EG t c h m inj).2)else
   (fst (λi=>if(DD t h inj N (AA c.ew 0) (AA (EG t c h m inj).1 i)).2=0 then Y (⟨0,AA (EG t c h m inj).1 i,[(DD t h inj N (AA c.ew 0) (AA (EG t c h m inj).1 i)).1]⟩,0)else
    if (DD t h inj N (AA c.ew 0) (AA (EG t c h m inj).1 i)).2≠10 then Y (zP,(DD t h inj N (AA c.ew 0) (AA (EG t c h m inj).1 i)).2)else W) 0 (EG t c h m inj).1.length).getD (zP,10))else
  (zP,0)
def DH(t:AC)(h:AH)(inj:Bool):Nat->ca->AU->BD×Int
 |0,_,_=>(zP,0)|N+1,c,m=>
  if c.fu=2 then(if(DH t h inj N (AA c.ew 0) m).2=0 then(zP,10)else if(DH t h inj N (AA c.ew 0) m).2=10 then(zP,0)else(zP,(DH t h inj N (AA c.ew 0) m).2))else
  if c.fu=3 then Up (λk=>DH t h inj N k m) c.ew else
  if c.fu=4 then(fst (λi=>if(DH t h inj N (AA c.ew i) m).2≠10 then Y (⟨i,zM,[(DH t h inj N (AA c.ew i) m).1]⟩,(DH t h inj N (AA c.ew i) m).2)else W) 0 c.ew.length).getD (zP,10)else
  if c.fu=5 then
   (if(EG t c h m inj).2≠0 then(zP,(EG t c h m inj).2)else
   (fst (λi=>if(DH t h inj N (AA c.ew 0) (AA (EG t c h m inj).1 i)).2≠10 then Y (⟨0,AA (EG t c h m inj).1 i,[(DH t h inj N (AA c.ew 0) (AA (EG t c h m inj).1 i)).1]⟩,(DH t h inj N (AA c.ew 0) (AA (EG t c h m inj).1 i)).2)else W) 0 (EG t c h m inj).1.length).getD (zP,10))else
  (zP,0)
def NA(x:BD×Int):BD×Int:=if x.2=0 then x else(zP,x.2)
theorem mt(x:BD×Int):(NA x).2=x.2:=by unfold NA;split<;>rfl
theorem mr{x:BD×Int}(h:x.2=0):(NA x).1=x.1:=by unfold NA;rw[Ne h]
theorem ol(w:ca->BD×Int)(l:List ca):NA (Up w l)=Up w l:=by
 unfold Up;have:∀(l:List ca)(s:BD×BD)(r:BD×Int),Eo (OU w) l s=.inr r->NA r=r:=by
  intro l
  induction l with
  |nil=>intro s r h;cases h
  |cons a l j=>
   intro s r h;rw[Eo]at h;split at h
   .exact j _ _ h
   .cases h
   .rename_i o d;cases h;unfold OU at d;split at d
    next e=>cases d;unfold NA;rw[QQ e]
    .cases d
 cases g:Eo (OU w) l (zP,zP)with
 |inl s=>rfl|inr r=>exact this _ _ _ g
theorem ah(o:Option (BD×Int)):NA (o.getD (zP,10))=(o.map NA).getD (zP,10):=by cases o<;>rfl
theorem jZ(t:AC)(h:AH)(inj:Bool):∀(N:Nat)(c:ca)(m:AU),DD t h inj N c m=NA (DH t h inj N c m)
 |0,_,_=>rfl|N+1,c,m=>by
  have w:=jZ t h inj N;have key:∀(c:ca)(m:AU),(DD t h inj N c m).2=(DH t h inj N c m).2:=λc m=>by rw[w,mt]
  have pick:∀(k:ca)(m x:AU)(i:Int),(if(DD t h inj N k m).2=0 then Y ((⟨i,x,[(DD t h inj N k m).1]⟩:BD),(0:Int))else if(DD t h inj N k m).2≠10 then Y (zP,(DD t h inj N k m).2)else W)=(if(DH t h inj N k m).2≠10 then Y ((⟨i,x,[(DH t h inj N k m).1]⟩:BD),(DH t h inj N k m).2)else W).map NA:=by
   intro k m x i;rw[key];by_cases d:(DH t h inj N k m).2=0
   .rw[Ne d,Ne U,w,mr d];simp[NA,d]
   .rw[QQ d];by_cases e:(DH t h inj N k m).2≠10
    .rw[Ne e,Ne e];simp[NA,d]
    grind
  rw [DD,DH];by_cases j:c.fu=2
  .rw[Ne j,Ne j,key];by_cases d:(DH t h inj N (AA c.ew 0) m).2=0
   .rw[Ne d];rfl
   .rw[QQ d];by_cases e:(DH t h inj N (AA c.ew 0) m).2=10
    .rw[Ne e];rfl
    .rw[QQ e];unfold NA;rw[QQ d]
  rw [QQ j,QQ j];by_cases o:c.fu=3
  .rw[Ne o,Ne o,ol];unfold Up;rw[ZQ (s2:=OU λk=>DH t h inj N k m)];intro k _;funext s;unfold OU;simp only[key];by_cases d:(DH t h inj N k m).2=0
   .rw[QQ (by simp[d]),QQ (by simp[d]),w,mr d]
   .rw[Ne d,Ne d]
  rw [QQ o,QQ o];by_cases r:c.fu=4
  .rw[Ne r,Ne r,ah,<-Q8];congr 1;exact congrArg (λF=>fst F 0 (c.ew.length:Int)) (funext λi=>pick _ _ _ _)
  rw [QQ r,QQ r];by_cases u:c.fu=5
  .rw[Ne u,Ne u];by_cases g:(EG t c h m inj).2≠0
   .rw[Ne g,Ne g];unfold NA;rw[QQ g]
   .rw[QQ g,QQ g,ah,<-Q8];congr 1;exact congrArg (λF=>fst F 0 ((EG t c h m inj).1.length:Int)) (funext λi=>pick _ _ _ _)
  rw [QQ u,QQ u];rfl
end Go.Sf.Sc
namespace Go.Sf.Sc
open Go Go.Sf
def R6(i:Int)(s:BD×BD):Prop:=(s.2.ew.length:Int)=i
theorem ZC{s:Bf}(hf:Ao s.t)(hv:(A0 s.t).2=0)(hh:Gg s.t s.h):∀(N:Nat)(c:ca)(p:c7)(m:AU),SizeOf.sizeOf c<=N->CV s.t p c->YJ s.t p s.h m->∀n,2*N<=n->Av n s c m=Y (DD s.t s.h s.ec N c m)
 |0,c,_,_,h,_,_,_,_=>by have:=Gd c;omega|N+1,c,p,m,h,j,w,n,D=>by
  obtain ⟨n,rfl⟩:∃k,n=k+2:=⟨n-2,U⟩;have kid:∀(i:Int),0<=i->i<c.ew.length->SizeOf.sizeOf (AA c.ew i)<=N:=λi d e=>by
   have:=Jv (AG (l:=c.ew) d e);omega
  rw [Av,DD];by_cases o:c.fu=2
  .have C:=j.one (.inl o);rw[Ne b?,Ne o,AD U U,bs,ZC hf hv hh N _ p m (kid 0 U U) (j.kid U _ (AG U U)) w (n+1) U,bs]
   grind
  rw [QQ b?,QQ o];by_cases y:c.fu=3
  .rw[Ne (by simpa using y),Ne y];have A:=j.few;rw[Yl (OU λk=>DD s.t s.h s.ec N k m) R6 (show R6 0 (zP,zP)from rfl)]
   .unfold Up;show eb (Y (Eo (OU λk=>DD s.t s.h s.ec N k m) c.ew (zP,zP))) _ _=_;cases Eo (OU λk=>DD s.t s.h s.ec N k m) c.ew (zP,zP)<;>rfl
   .intro i st d e hi;unfold R6 at hi;rw[AD d e,bs,ZC hf hv hh N _ p m (kid i d e) (j.kid U _ (AG d e)) w (n+1) U,bs]
    grind [OU,DD,AA,AS,AW,R6]
  rw [QQ (by simpa using y),QQ y];by_cases z:c.fu=4
  .rw[Ne n!,Ne z];rw[Mh (λ_=>zP) (λi=>if(DD s.t s.h s.ec N (AA c.ew i) m).2=0 then Y (⟨i,zM,[(DD s.t s.h s.ec N (AA c.ew i) m).1]⟩,0)else if(DD s.t s.h s.ec N (AA c.ew i) m).2≠10 then Y (zP,(DD s.t s.h s.ec N (AA c.ew i) m).2)else W) U rfl]
   .cases fst (λi=>if(DD s.t s.h s.ec N (AA c.ew i) m).2=0 then Y ((⟨i,zM,[(DD s.t s.h s.ec N (AA c.ew i) m).1]⟩:BD),(0:Int))else if(DD s.t s.h s.ec N (AA c.ew i) m).2≠10 then Y (zP,(DD s.t s.h s.ec N (AA c.ew i) m).2)else W) 0 c.ew.length<;>rfl
   .intro i d e _;rw[AD d e,bs,ZC hf hv hh N _ p m (kid i d e) (j.kid U _ (AG d e)) w (n+1) U,bs];generalize DD s.t s.h s.ec N (AA c.ew i) m=x;by_cases e0:x.2=0
    .rw[Ne (by simpa using e0),Ne e0];try rfl
    .rw[QQ (by simpa using e0),QQ e0];by_cases g:x.2=10
     .rw[QQ q?,QQ q?];try rfl
     .rw[Ne q?,Ne g];try rfl
  rw [QQ n!,QQ z];by_cases r:c.fu=5
  .rw[Ne p_,Ne r];have hi:=j.ins r;have C:=j.one (.inr r);rw[BZ,wd hf hv hh w hi,bs];by_cases u:(EG s.t c s.h m s.ec).2=0
   .obtain⟨g,B⟩:=iH hv hh w hi u;rw[QQ g!,QQ g!];generalize (EG s.t c s.h m s.ec).1=l at g B;rw[Mh (λ_=>zP) (λi=>if(DD s.t s.h s.ec N (AA c.ew 0) (AA l i)).2=0 then Y (⟨0,AA l i,[(DD s.t s.h s.ec N (AA c.ew 0) (AA l i)).1]⟩,0)else if(DD s.t s.h s.ec N (AA c.ew 0) (AA l i)).2≠10 then Y (zP,(DD s.t s.h s.ec N (AA c.ew 0) (AA l i)).2)else W) U rfl]
    .cases fst (λi=>if(DD s.t s.h s.ec N (AA c.ew 0) (AA l i)).2=0 then Y ((⟨0,AA l i,[(DD s.t s.h s.ec N (AA c.ew 0) (AA l i)).1]⟩:BD),(0:Int))else if(DD s.t s.h s.ec N (AA c.ew 0) (AA l i)).2≠10 then Y (zP,(DD s.t s.h s.ec N (AA c.ew 0) (AA l i)).2)else W) 0 l.length<;>rfl
    .intro i d e _;rw[AD d e,bs,AD U U,bs,ZC hf hv hh N _ c.c7 _ (kid 0 U U) (j.kid5 r _ (AG U U)) (B _ (AG d e)) n U,bs];generalize DD s.t s.h s.ec N (AA c.ew 0) (AA l i)=x;by_cases e0:x.2=0
     .rw[Ne (by simpa using e0),Ne e0];try rfl
     .rw[QQ (by simpa using e0),QQ e0];by_cases g:x.2=10
      .rw[QQ q?,QQ q?];try rfl
      .rw[Ne q?,Ne g];try rfl
   .rw[Ne g!,Ne u];try rfl
  grind
variable{t:AC}
theorem TD{d:AH}{inj:Bool}(hf:Ao t)(hv:(A0 t).2=0)(hh:Gg t d):∀(N:Nat)(c:ca)(p:c7)(m:AU),SizeOf.sizeOf c<=N->CV t p c->YJ t p d m->∀n,N<=n->EX n t c d m inj=Y (DH t d inj N c m)
 |0,c,_,_,h,_,_,_,_=>by have:=Gd c;omega|N+1,c,p,m,h,o,w,n,E=>by
  obtain ⟨n,rfl⟩:∃k,n=k+1:=⟨n-1,U⟩;have kid:∀(i:Int),0<=i->i<c.ew.length->SizeOf.sizeOf (AA c.ew i)<=N:=λi e g=>by
   have:=Jv (AG (l:=c.ew) e g);omega
  rw [EX,DH];by_cases r:c.fu=2
  .have D:=o.one (.inl r);rw[Ne p_,Ne r,AD U U,bs,TD hf hv hh N _ p m (kid 0 U U) (o.kid U _ (AG U U)) w n U,bs]
   grind
  rw [QQ p_,QQ r];by_cases y:c.fu=3
  .rw[Ne (by simpa using y),Ne y];have B:=o.few;rw[Yl (OU λk=>DH t d inj N k m) R6 (show R6 0 (zP,zP)from rfl)]
   .unfold Up;show eb (Y (Eo (OU λk=>DH t d inj N k m) c.ew (zP,zP))) _ _=_;cases Eo (OU λk=>DH t d inj N k m) c.ew (zP,zP)<;>rfl
   .intro i st e g hi;unfold R6 at hi;rw[AD e g,bs,TD hf hv hh N _ p m (kid i e g) (o.kid U _ (AG e g)) w n U,bs]
    grind [OU,DH,AA,AS,AW,R6]
  rw [QQ (by simpa using y),QQ y];by_cases z:c.fu=4
  .rw[Ne n!,Ne z];rw[Mh (λ_=>zP) (λi=>if(DH t d inj N (AA c.ew i) m).2≠10 then Y (⟨i,zM,[(DH t d inj N (AA c.ew i) m).1]⟩,(DH t d inj N (AA c.ew i) m).2)else W) U rfl]
   .cases fst (λi=>if(DH t d inj N (AA c.ew i) m).2≠10 then Y ((⟨i,zM,[(DH t d inj N (AA c.ew i) m).1]⟩:BD),(DH t d inj N (AA c.ew i) m).2)else W) 0 c.ew.length<;>rfl
   .intro i e g _;rw[AD e g,bs,TD hf hv hh N _ p m (kid i e g) (o.kid U _ (AG e g)) w n U,bs];generalize DH t d inj N (AA c.ew i) m=x;by_cases j:x.2=10
    .rw[QQ j!,QQ j!];try rfl
    .rw[Ne j!,Ne j];try rfl
  rw [QQ n!,QQ z];by_cases u:c.fu=5
  .rw[Ne e_,Ne u];have hi:=o.ins u;have D:=o.one (.inr u);rw[xA hf hv hh w hi,bs];by_cases A:(EG t c d m inj).2=0
   .obtain⟨j,C⟩:=iH hv hh w hi A;rw[QQ (by simp[A]),QQ (by simp[A])];generalize (EG t c d m inj).1=l at j C;rw[Mh (λ_=>zP) (λi=>if(DH t d inj N (AA c.ew 0) (AA l i)).2≠10 then Y (⟨0,AA l i,[(DH t d inj N (AA c.ew 0) (AA l i)).1]⟩,(DH t d inj N (AA c.ew 0) (AA l i)).2)else W) U rfl]
    .cases fst (λi=>if(DH t d inj N (AA c.ew 0) (AA l i)).2≠10 then Y ((⟨0,AA l i,[(DH t d inj N (AA c.ew 0) (AA l i)).1]⟩:BD),(DH t d inj N (AA c.ew 0) (AA l i)).2)else W) 0 l.length<;>rfl
    .intro i e g _;rw[AD U U,bs,AD e g,bs,TD hf hv hh N _ c.c7 _ (kid 0 U U) (o.kid5 u _ (AG U U)) (C _ (AG e g)) n U,bs];generalize DH t d inj N (AA c.ew 0) (AA l i)=x;by_cases j:x.2=10
     .rw[QQ j!,QQ j!];try rfl
     .rw[Ne j!,Ne j];try rfl
   grind
  grind
end Go.Sf.Sc
namespace Go.Sf.Sc
open Go Go.Sf
noncomputable def Sw(t:AC)(p:c7)(c:ca)(h:AH)(m:AU)(inj:Bool):Int:=
 if Ni t p c≠0 then Ni t p c else if(Bc t h).2≠0 then(Bc t h).2 else if Ez t p.bk h.bk m.bn inj≠0 then Ez t p.bk h.bk m.bn inj else
 if (F5 t p h m.bn).2≠0 then(F5 t p h m.bn).2 else if(F5 t p h m.bn).1=m.ei then 0 else 11
variable{t:AC}{c:ca}
theorem p5(hf:Ao t)(p:c7)(d:GB c)(h:AH)(m:AU)(inj:Bool):GI t p c h m inj=Y (Sw t p c h m inj):=by
 unfold GI Sw;rw[uC hf p d,bs];refine Dy λ_=>?_;rw[RZ hf,bs];refine Dy λ_=>?_;rw[Zt hf,bs];refine Dy λ_=>?_;rw[ig hf,bs];refine Dy λ_=>?_;rw[sU,bs]
 grind
variable{p:c7}{h:AH}
theorem Yb(hf:Ao t)(z:GH c<=40){m:AU}{inj:Bool}(e:Sw t p c h m inj=0):(A0 t).2=0/\Gg t h/\CV t p c/\YJ t p h m:=by
 unfold Sw at e;split at e
 .grind
 rename_i d;split at e
 .grind
 rename_i j;split at e
 .grind
 rename_i o;split at e
 .grind
 rename_i r;split at e
 case isFalse=>cases e
 rename_i C;have d:=z?.1 d;have j:=z?.1 j;have o:=z?.1 o;have r:=z?.1 r;obtain⟨hv,hh⟩:=Du hf j;have w:=(dI o).2;unfold Ni at d;split at d
 .grind
 rename_i A;split at d
 .grind
 rename_i u;have y:=qJ hv (.inl (z?.1 A));have u:=z?.1 u;have B:fi c=X:=by
  grind [O4]
 suffices g:(m.ei.length:Int)=p.ei/\Qh m.ei from⟨hv,hh,sG hv _ c p (R0 _) z B d,y,w,g.1,g.2⟩
 have g:∀s∈p.d5,J9 p.ei h m.bn s:=λs g=>Pg (Ck hv) y hh w g
 grind [F5,n7]
end Go.Sf.Sc
namespace Go.Sf.Sc
open Go Go.Sf
noncomputable def wS(t:AC)(p:c7)(c:ca)(h:AH)(m:AU)(inj:Bool):BD×Int:=
 if Sw t p c h m inj≠0 then(zP,Sw t p c h m inj)else DD t h inj (SizeOf.sizeOf c) c m
variable{t:AC}{c:ca}
theorem nL(hf:Ao t)(p:c7)(e:GB c)(g:GH c<=40)(h:AH)(m:AU)(inj:Bool):E0 t p c h m inj=Y (wS t p c h m inj):=by
 unfold E0 wS;rw[p5 hf p e,bs];refine Dd λj=>?_;obtain⟨hv,hh,d,r⟩:=Yb hf g j;rw[show F1 (Bf.mk t h inj) c m=Y (DD t h inj (SizeOf.sizeOf c) c m)from Gp (2*SizeOf.sizeOf c) λn o=>ZC (s:=⟨t,h,inj⟩) hf hv hh _ c p m (R0 _) d r n o];rfl
noncomputable def MQ(t:AC)(p:c7)(c:ca)(h:AH)(m:AU)(inj:Bool):Bool×Int:=
 if (wS t p c h m inj).2=10 then(T,0)else(decide ((wS t p c h m inj).2=0),(wS t p c h m inj).2)
theorem gL(hf:Ao t)(p:c7)(d:GB c)(e:GH c<=40)(h:AH)(m:AU)(inj:Bool):EC t p c h m inj=Y (MQ t p c h m inj):=by grind[EC,MQ,nL,wS]
variable{h:AH}{p:c7}
theorem qN(hf:Ao t){inj:Bool}{m:AU}(hv:(A0 t).2=0)(hh:Gg t h)(d:CV t p c)(e:YJ t p h m):Sh t c h m inj=Y (DH t h inj (SizeOf.sizeOf c) c m):=Gp (SizeOf.sizeOf c) λn g=>TD hf hv hh _ c p m (R0 _) d e n g
end Go.Sf.Sc
namespace Go.Sf.Sc
open Go Go.Sf
end Go.Sf.Sc
namespace Go.Sf.Sc
open Go Go.Sf
theorem uz(t:AC)(p:c7)(c:ca)(h:AH)(m:AU)(inj:Bool):wS t p c h m inj=if Sw t p c h m inj≠0 then(zP,Sw t p c h m inj)else NA (DH t h inj (SizeOf.sizeOf c) c m):=by
 unfold wS;rw[jZ]
end Go.Sf.Sc
