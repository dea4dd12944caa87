/- Plain lemmas: what the functions of the program and of the reference compute. -/
import Derived.Test.YtbgedoajacpdbaaGreatDoorP25
set_option linter.all false
set_option maxRecDepth 100000
namespace Go.Sf.Sc
open Go Go.Sf
variable{k:Int}
theorem QK{d:List kl}(h:M8 d k=0)(e:(AA d k).up.length<=1000):-1000000<=(AA d k).Low/\(AA d k).AaD<=1000000:=by grind[M8]
variable{t:AC}{i:Int}
theorem Yr(h:IC t i=0):∀k,((Ax t i).length:Int)-(AA t.d3 i).tn.length<=k->k<(Ax t i).length->M8 (Ax t i) k=0:=by
 unfold IC at h;dsimp only at h;split at h
 .cases h
 split at h
 .cases h
 split at h
 .cases h
 split at h
 .cases h
 exact UL h
variable{a:Int}
theorem OC{n:Nat}(d:0<=a):By t (n+1) a=By t n (par t a)++(AA t.d3 a).tn:=by grind[By]
theorem T5(hf:Ap t)(h:F1 t){Q:kl->Prop}(QK:∀{d:List kl}{k:Int},M8 d k=0->(AA d k).up.length<=1000->Q (AA d k)):∀(n:Nat)(a:Int),a<t.d3.length->a<n->∀x∈By t n a,Q x
 |0,_,_,_=>by simp[By]|n+1,a,o,D=>by
  by_cases r:a<0
  .rw[Is r];simp
  .have z:=h.par a (by omega) o;intro x g;rw[OC (by omega)]at g;rcases List.mem_append.1 g with g|g
   .exact T5 hf h QK n (par t a) (by omega) (by omega) x g
   .obtain⟨j,B,C,rfl⟩:=BW g;have e:Ax t a=By t a.toNat (par t a)++(AA t.d3 a).tn:=by
     unfold Ax;rw[show(a+1).toNat=a.toNat+1 by omega,OC (by omega)]
    have A:(Ax t a).length=(By t a.toNat (par t a)).length+(AA t.d3 a).tn.length:=by rw[e,cE]
    have u:=Yr (h.node a (by omega) o) ((By t a.toNat (par t a)).length+j) (by omega) (by omega);have w:AA (Ax t a) ((By t a.toNat (par t a)).length+j)=AA (AA t.d3 a).tn j:=by
     grind [O9,AA]
    have y:=Lu hf (Int.le_refl _) h.par o (AA (Ax t a) ((By t a.toNat (par t a)).length+j)) (AJ (by omega) (by omega));have:=QK u (by have:=y.names;omega)
    rwa [w]at this
theorem aJ(hf:Ap t)(h:F1 t)(e:0<=a)(d:a<t.d3.length):∀x∈Ax t a,-1000000<=x.Low/\x.AaD<=1000000:=T5 hf h QK _ a d (by omega)
theorem WL(e:Ew t k):∀(n:Nat)(a b:Int),a<k->a<n->b∈O4 t n a->0<=b/\b<=a/\(Ax t b).length<=(By t n a).length
 |0,_,_,_,_=>by simp[O4]|n+1,a,b,g,r=>by
  intro d;rw[O4]at d;split at d
  .cases d
  .rename_i j;have o:=e a (by omega) g;rw[OC (by omega)];rcases List.mem_cons.1 d with rfl|d
   .refine⟨by omega,by omega,?_⟩;unfold Ax;rw[LV e (b+1).toNat (n+1) b g (by omega) (by omega),OC (by omega)];exact bk _
   .have:=WL e n (par t a) b (by omega) (by omega) d
    grind
variable{b:Int}
theorem Vr(h:F1 t)(j:a<t.d3.length)(d:If t a b=true):(Ax t b).length<=(Ax t a).length:=by
 unfold If at d;rw[List.any_eq_true]at d;obtain⟨x,g,e⟩:=d;rw[zzX]at e;subst e;by_cases o:a<0
 .have:(a+1).toNat=0:=by omega
  rw [this]at g;cases g
 .exact(WL h.par (a+1).toNat a b j (by omega) g).2.2
theorem aL{α:Type}{Q:Prop}[Decidable Q]{v:α}{X:Option α}{Y:α}(he:a=b↔Q)(h:Q->X=some Y):(if(!decide (a=b))=true then some v else X)=some (if¬Q then v else Y):=by grind
def RC(t:AC)(k:Int)(v:Fp)(j:Int):Bool:=decide (AA v j<(AA (Ax t k) j).Low)||decide ((AA (Ax t k) j).AaD<AA v j)
def I9(t:AC)(k:Int)(v:Fp):Int:=
 if (t.d3.length:Int)<=k then 6 else if(AA t.d3 k).Aao=true then 13 else if¬v.length=(Ax t k).length then 20 else
 if ne (RC t k v) 0 (Ax t k).length=true then 6 else 0
def Ng(t:AC)(g:d5)(i:Int):Int:=
 if (t.d4.length:Int)<=(AA g.d4 i).kp then 6 else if LM t g i=false then 13 else 0
def Hc(t:AC)(h:AG):Int×Int:=
 if (Au t).2≠0 then(-1,(Au t).2)else if Bt h.d5≠0 then(-1,Bt h.d5)else if¬h.gn.length=h.d5.d3.length then(-1,20)else
 match fst (fun i=>(nz (I9 t (AA h.d5.d3 i) (AA h.gn i))).map fun e=>(i,e)) 0 h.d5.d3.length with
 |some r=>r|none=>(fst (fun i=>(nz (Ng t h.d5 i)).map fun e=>(i,e)) 0 h.d5.d4.length).getD (-1,0)
theorem Ic(hv:(Au t).2=0)(d:0<=k)(e:k<t.d3.length):GD t k=(Ax t k,0):=by grind[GD,LZ]
theorem Sp{x:Bool}{y:Bool}:(if x=true then some true else some y)=some (x||y):=by cases x<;>rfl
theorem ke(hf:Ap t)(hv:(Au t).2=0)(d:0<=k)(v:Fp):Ie t k v=some (I9 t k v):=by
 unfold Ie I9;by_cases e:(t.d3.length:Int)<=k
 .grind
 rw [az (by simpa using e),az e,AD d (by omega),bs];refine XH fun _=>?_;rw[P5 hf,Ic hv d (by omega),bs];refine aL (by simp;omega) fun g=>?_;rw[BJ (RC t k v) 6]
 .cases ne (RC t k v) 0 (Ax t k).length<;>rfl
 grind [Ax,AD,Sp,RC,AA]
theorem lD(hf:Ap t)(hv:(Au t).2=0)(d:0<=k)(v:Fp):MO t k v=some (I9 t k v):=by
 unfold MO I9;by_cases e:(t.d3.length:Int)<=k
 .grind
 rw [az (by simpa using e),az e,AD d (by omega),bs];refine XH fun _=>?_;rw[P7 hf,Ic hv d (by omega),bs];refine aL (by simp;omega) fun g=>?_;rw[BJ (RC t k v) 6]
 .cases ne (RC t k v) 0 (Ax t k).length<;>rfl
 grind [Ax,AD,Sp,RC,AA]
theorem Xo(e i:Int):(if(!decide (e=0))=true then some (Bk.ret (σ:=Unit) (ρ:=Int×Int) (i,e))else some (.next ()))=some (Pb ((nz e).map fun e=>(i,e))):=by grind[nz,Pb]
theorem SF(hf:Ap t)(h:AG):E1 t h=some (Hc t h):=by
 unfold E1 Hc;rw[Ld hf,bs];refine C8 fun hv=>?_;rw[Lc,bs];refine C8 fun o=>?_;have go:=DF o;refine aL (by omega) fun z=>?_;rw[BV (fun i=>(nz (I9 t (AA h.d5.d3 i) (AA h.gn i))).map fun e=>(i,e)),Dk]
 .cases u:fst (fun i=>(nz (I9 t (AA h.d5.d3 i) (AA h.gn i))).map fun e=>(i,e)) 0 h.d5.d3.length with
  |some r=>rfl|none=>
   have w:=B3.1 u;dsimp only;rw[BV (fun i=>(nz (Ng t h.d5 i)).map fun e=>(i,e)),Dk]
   .grind
   .intro i d g _;have y:=go.fit _ (AJ (l:=h.d5.d4) d g);rw[AD d g,bs];unfold Ng LM;by_cases j:(t.d4.length:Int)<=(AA h.d5.d4 i).kp
    .rw[ae (by simpa using j),ae j];rfl
    .rw[az (by simpa using j),az j,AD (by omega) (by omega),bs,AD (by omega) (by omega),bs,cq hf,bs];cases Qu t (AA h.d5.d4 i).kp (AA h.d5.d3 (AA h.d5.d4 i).kq) (AA h.d5.d3 (AA h.d5.d4 i).To)<;>rfl
 .intro i d g _;rw[AD d g,bs,AD d (by omega),bs,ke hf hv (go.kind _ (AJ d g)).1,bs];exact Xo _ i
theorem SL(hf:Ap t)(h:AG):Ga t h=some (Hc t h):=by
 unfold Ga Hc;rw[Ob hf,bs];refine C8 fun hv=>?_;rw[Lf,bs];refine C8 fun o=>?_;have go:=DF o;refine aL (by omega) fun z=>?_;rw[BV (fun i=>(nz (I9 t (AA h.d5.d3 i) (AA h.gn i))).map fun e=>(i,e)),Dk]
 .cases u:fst (fun i=>(nz (I9 t (AA h.d5.d3 i) (AA h.gn i))).map fun e=>(i,e)) 0 h.d5.d3.length with
  |some r=>rfl|none=>
   have w:=B3.1 u;dsimp only;rw[BV (fun i=>(nz (Ng t h.d5 i)).map fun e=>(i,e)),Dk]
   .grind
   .intro i d g _;have y:=go.fit _ (AJ (l:=h.d5.d4) d g);rw[AD d g,bs];unfold Ng LM;by_cases j:(t.d4.length:Int)<=(AA h.d5.d4 i).kp
    .rw[ae (by simpa using j),ae j];rfl
    .rw[az (by simpa using j),az j,AD (by omega) (by omega),bs,AD (by omega) (by omega),bs,dH hf,bs];cases Qu t (AA h.d5.d4 i).kp (AA h.d5.d3 (AA h.d5.d4 i).kq) (AA h.d5.d3 (AA h.d5.d4 i).To)<;>rfl
 .intro i d g _;rw[AD d g,bs,AD d (by omega),bs,lD hf hv (go.kind _ (AJ d g)).1,bs];exact Xo _ i
structure IF(t:AC)(h:AG):Prop where
 g:Do h.d5
 len:h.gn.length=h.d5.d3.length
 kind:∀i:Int,0<=i->i<h.d5.d3.length->0<=AA h.d5.d3 i/\AA h.d5.d3 i<t.d3.length
 row:∀i:Int,0<=i->i<h.d5.d3.length->(AA h.gn i).length=(Ax t (AA h.d5.d3 i)).length
 low:∀i:Int,0<=i->i<h.d5.d3.length->∀x∈AA h.gn i,-1000000<=x/\x<=1000000
 ge:Bt h.d5=0
 ty:Ci t h.d5=true
variable{h:AG}
theorem Se(hf:Ap t)(e:(Hc t h).2=0):(Au t).2=0/\IF t h:=by
 unfold Hc at e;split at e
 .rename_i w;exact absurd e w
 split at e
 .rename_i w;exact absurd e w
 split at e
 .cases e
 rename_i w E H;have hv:=Classical.not_not.1 w;have go:=DF (Classical.not_not.1 E);have z:∀i:Int,0<=i->i<h.d5.d3.length->I9 t (AA h.d5.d3 i) (AA h.gn i)=0:=by
  split at e
  .rename_i r o;obtain⟨i,_,_,k,_⟩:=C7 o;unfold nz at k;split at k
   .cases k
   .rename_i u;cases k;exact absurd e u
  .rename_i o;exact fun i d g=>OZ.1 (Mu.1 (B3.1 o i d g))
 have A:∀i:Int,0<=i->i<h.d5.d3.length->(0<=AA h.d5.d3 i/\AA h.d5.d3 i<t.d3.length)/\(AA h.gn i).length=(Ax t (AA h.d5.d3 i)).length/\∀j:Int,0<=j->j<(Ax t (AA h.d5.d3 i)).length->RC t (AA h.d5.d3 i) (AA h.gn i) j=false:=by
  intro i d g;have K:=(go.kind _ (AJ d g)).1;have:=z i d g;unfold I9 at this;split at this
  .cases this
  split at this
  .cases this
  split at this
  .cases this
  split at this
  .cases this
  rename_i a1 M I J;exact⟨⟨K,by omega⟩,Classical.not_not.1 I,Bf.1 (by simpa using J)⟩
 have he:∀i:Int,0<=i->i<h.d5.d4.length->Ng t h.d5 i=0:=by
  have C:fst (fun i=>(nz (I9 t (AA h.d5.d3 i) (AA h.gn i))).map fun e=>(i,e)) 0 h.d5.d3.length=none:=B3.2 fun i d g=>by rw[z i d g];rfl
  rw [C]at e;dsimp only at e;cases o:fst (fun i=>(nz (Ng t h.d5 i)).map fun e=>(i,e)) 0 h.d5.d4.length with
  |some r=>
   rw [o]at e;obtain⟨i,_,_,k,_⟩:=C7 o;unfold nz at k;split at k
   .cases k
   .rename_i u;cases k;exact absurd e u
  |none=>exact fun i d g=>OZ.1 (Mu.1 (B3.1 o i d g))
 have D:Ci t h.d5=true:=by
  unfold Ci;rw[tg,Bool.not_eq_true',Bool.not_eq_true',List.any_eq_false,List.any_eq_false];refine⟨fun n z=>?_,fun x B=>?_⟩
  .obtain⟨i,d,g,rfl⟩:=BW z;have:=(A i d g).1.2;simp;omega
  .obtain⟨i,d,g,rfl⟩:=BW B;have:=he i d g;unfold Ng at this;split at this
   .cases this
   .simp;omega
 suffices y:∀i:Int,0<=i->i<h.d5.d3.length->∀x∈AA h.gn i,-1000000<=x/\x<=1000000 from⟨hv,go,Classical.not_not.1 H,fun i d g=>(A i d g).1,fun i d g=>(A i d g).2.1,y,Classical.not_not.1 E,D⟩
 intro i d g x B;obtain⟨F,N,L⟩:=A i d g;obtain⟨j,G,O,rfl⟩:=BW B;have:=L j G (by omega);unfold RC at this;simp[decide_eq_false_iff_not]at this;have:=aJ hf (Cz hv) F.1 F.2 _ (AJ (l:=Ax t (AA h.d5.d3 i)) G (by omega));omega
end Go.Sf.Sc
namespace Go.Sf.Sc
open Go Go.Sf
def IJ(t:AC)(p g:d5)(m:d6)(i:Int):QQ:=
 if AA m.d3 i<0\/g.d3.length<=AA m.d3 i then some 6 else if If t (AA g.d3 (AA m.d3 i)) (AA p.d3 i)=false then some 13 else none
def LE(t:AC)(p g:d5)(m:d6):Int:=
 if m.d3.length≠p.d3.length\/m.d4.length≠p.d4.length then 20 else
 match fst (IJ t p g m) 0 m.d3.length with
 |some e=>e|none=>(fst (Fm p g m) 0 m.d4.length).getD 0
def FK(t:AC)(p g:d5)(m:d6)(inj:Bool):Int:=
 if Ed t p g≠0 then Ed t p g else if LE t p g m≠0 then LE t p g m else if(inj&&!JZ m)=true then 5 else 0
structure VR(t:AC)(p g:d5)(m:d6):Prop where
 AaQ:m.d3.length=p.d3.length
 Aa7:m.d4.length=p.d4.length
 node:∀i:Int,0<=i->i<m.d3.length->(0<=AA m.d3 i/\AA m.d3 i<g.d3.length)/\If t (AA g.d3 (AA m.d3 i)) (AA p.d3 i)=true
 edge:∀i:Int,0<=i->i<m.d4.length->0<=AA m.d4 i/\AA m.d4 i<g.d4.length
variable{t:AC}
theorem LN{p g:d5}(h:Ed t p g=0):(Au t).2=0/\Do p/\Do g/\(∀n∈p.d3,0<=n/\n<t.d3.length)/\∀n∈g.d3,0<=n/\n<t.d3.length:=by
 unfold Ed at h;split at h
 .grind
 split at h
 .grind
 split at h
 .grind
 split at h
 .rename_i e j o d;rw[tg]at d
  grind [DF,H6]
 .cases h
variable{m:d6}
theorem Zv{p g:d5}(h:LE t p g m=0):VR t p g m:=by
 unfold LE at h;split at h
 .cases h
 rename_i o;have j:fst (IJ t p g m) 0 m.d3.length=none:=by
  grind [C7,IJ]
 rw [j]at h;have he:=PH (fun i=>by
  grind [Fm]) h
 refine ⟨by omega,by omega,fun i d e=>?_,fun i d e=>?_⟩
 .grind[B3,IJ]
 grind [Fm]
theorem Vz(hf:Ap t){p g:d5}(A:Ed t p g=0)(m:d6):E4 t p g m=some (LE t p g m):=by
 obtain ⟨hv,C,G,tp,D⟩:=LN A;unfold E4 LE;refine Nb (by simp;try omega) fun E=>?_;rw[bB hf (Cz hv) hv,bs,BV (IJ t p g m),Dk]
 .cases F:fst (IJ t p g m) 0 m.d3.length with
  |some e=>rfl|none=>
   dsimp only;rw[BV (Fm p g m),CS];intro i j z _;unfold Fm;rw[AD j z,bs];by_cases d:AA m.d4 i<0\/g.d4.length<=AA m.d4 i
   .rw[ae (by simpa using d),ae d];rfl
   .have hf:=C.fit _ (AJ (l:=p.d4) j (by omega));rw[az (by simpa using d),az d,AD j (by omega),bs,AD (by omega) (by omega),bs];by_cases o:(AA p.d4 i).kp=(AA g.d4 (AA m.d4 i)).kp
    .rw[az (by simpa using o),az (by simpa using o),AD (by omega) (by omega),bs];by_cases r:AA m.d3 (AA p.d4 i).kq=(AA g.d4 (AA m.d4 i)).kq
     .rw[az (by simpa using r),AD (by omega) (by omega),bs,bs];by_cases u:AA m.d3 (AA p.d4 i).To=(AA g.d4 (AA m.d4 i)).To
      .rw[az (by simpa using u),az (by simp[r,u])];rfl
      .rw[ae (by simpa using u),ae (.inr u)];rfl
     .rw[ae (by simpa using r),bs,ae rfl,ae (.inl r)];rfl
    .rw[ae (by simpa using o),ae o];rfl
 .intro i j z _;unfold IJ;rw[AD j z,bs];by_cases d:AA m.d3 i<0\/g.d3.length<=AA m.d3 i
  .rw[ae (by simpa using d),ae d];rfl
  .have w:=tp _ (AJ (l:=p.d3) j (by omega));have y:=D _ (AJ (l:=g.d3) (show 0<=AA m.d3 i by omega) (by omega));rw[az (by simpa using d),az d,AD j (by omega),bs,AD w.1 (by unfold H4;rw[ca,BE];exact w.2),bs,AD (by omega) (by omega),bs];have e:AA (H4 t) (AA p.d3 i)=MW t (AA p.d3 i):=by unfold H4;exact Ia (MW t) w.1 w.2
   rw [e,AD y.1 (by unfold MW;rw[ca,BE];exact y.2),bs];have B:AA (MW t (AA p.d3 i)) (AA g.d3 (AA m.d3 i))=If t (AA g.d3 (AA m.d3 i)) (AA p.d3 i):=by unfold MW;exact Ia (fun k=>If t k (AA p.d3 i)) y.1 y.2
   rw [B];cases If t (AA g.d3 (AA m.d3 i)) (AA p.d3 i)<;>rfl
variable{l:Fp}
theorem Zj(d:l.length<=1000):Gy l=some (!IL l):=by grind[Gy,TP,Om,AbL,IL]
theorem VH(hf:Ap t)(p g:d5)(m:d6)(inj:Bool):EJ t p g m inj=some (FK t p g m inj):=by
 unfold EJ FK;rw[Ss hf,bs];refine DY fun d=>?_;rw[Vz hf d,bs];refine DY fun o=>?_;obtain⟨_,j,r,_⟩:=LN d;have e:=Zv o;have:=j.ei;have:=j.em;have:=e.AaQ;have:=e.Aa7;rw[Zj (by omega),Zj (by omega)];unfold JZ;cases inj<;>cases IL m.d3<;>cases IL m.d4<;>rfl
theorem k7(l:Fp):IV l=some (IL l):=Wo l
theorem dO{p g:d5}(z:Ed t p g=0)(m:d6)(inj:Bool):Ks t p g m inj=some (if LE t p g m≠0 then LE t p g m else if(inj&&!JZ m)=true then 5 else 0):=by
 obtain ⟨hv,C,F,tp,D⟩:=LN z;unfold Ks LE;by_cases A:m.d3.length≠p.d3.length\/m.d4.length≠p.d4.length
 .grind
 rw [az (by simp;try omega),az A,BV (IJ t p g m),Dk]
 .cases E:fst (IJ t p g m) 0 m.d3.length with
  |some e=>
   grind [C7,IJ]
  |none=>
   dsimp only;rw[BV (Fm p g m),Dk]
   .grind[fst,Fm,C7,k7,JZ,IL]
   intro i j w _;unfold Fm;rw[AD j w];simp only[bs,SE];by_cases d:AA m.d4 i<0\/g.d4.length<=AA m.d4 i
   .rw[ae (by simpa using d),ae d];rfl
   .have hf:=C.fit _ (AJ (l:=p.d4) j (by omega));rw[az (by simpa using d),az d,AD j (by omega),bs,AD (by omega) (by omega),bs];by_cases o:(AA p.d4 i).kp=(AA g.d4 (AA m.d4 i)).kp
    .rw[az (by simpa using o),az (by simpa using o),AD (by omega) (by omega),bs];by_cases r:AA m.d3 (AA p.d4 i).kq=(AA g.d4 (AA m.d4 i)).kq
     .rw[az (by simpa using r),AD (by omega) (by omega),bs,bs];by_cases u:AA m.d3 (AA p.d4 i).To=(AA g.d4 (AA m.d4 i)).To
      .rw[az (by simpa using u),az (by simp[r,u])];rfl
      .rw[ae (by simpa using u),ae (.inr u)];rfl
     .rw[ae (by simpa using r),bs,ae rfl,ae (.inl r)];rfl
    .rw[ae (by simpa using o),ae o];rfl
 .intro i j w _;unfold IJ;rw[AD j w];simp only[bs,SE];by_cases d:AA m.d3 i<0\/g.d3.length<=AA m.d3 i
  .rw[ae (by simpa using d),ae d];rfl
  .have B:=tp _ (AJ (l:=p.d3) j (by omega));have y:=D _ (AJ (l:=g.d3) (show 0<=AA m.d3 i by omega) (by omega));rw[az (by simpa using d),az d,AD (by omega) (by omega),bs,AD j (by omega),bs,Su (Cz hv) y.1 y.2 B.1,bs];cases If t (AA g.d3 (AA m.d3 i)) (AA p.d3 i)<;>rfl
theorem VM(hf:Ap t)(p g:d5)(m:d6)(inj:Bool):H1 t p g m inj=some (FK t p g m inj):=by
 unfold H1 FK;rw[RF hf,bs];refine DY fun d=>?_;rw[dO d,bs]
theorem XI{p g:d5}{inj:Bool}(h:FK t p g m inj=0):Ed t p g=0/\VR t p g m:=by grind[FK,Zv]
end Go.Sf.Sc
namespace Go.Sf.Sc
open Go Go.Sf
section
variable{α σ ρ:Type}
def Dt(step:α->σ->Bk σ ρ):List α->σ->σ ⊕ ρ
 |[],s=>.inl s|a::r,s=>match step a s with
  |.next s'=>Dt step r s'|.brk s'=>.inl s'|.ret r=>.inr r
variable{f:Int->σ->Option (Bk σ ρ)}
theorem Ry[Inhabited α]{l:List α}(step:α->σ->Bk σ ρ)(I:σ->Prop)(h:∀(i:Int)s,0<=i->i<l.length->I s->f i s=some (step (AA l i) s)/\∀s',step (AA l i) s=.next s'->I s'):
  ∀(n:Nat)(a:Int)(s:σ),0<=a->a+n=l.length->I s->Aac f n a s=some (Dt step (l.drop a.toNat) s)
 |0,a,s,d,o,_=>by
  rw [List.drop_eq_nil_of_le (by omega)];rfl
 |n+1,a,s,d,o,u=>by
  obtain ⟨g,j⟩:=h a s d (by omega) u;have hd:l.drop a.toNat=AA l a::l.drop (a+1).toNat:=by
   grind [List.drop_eq_getElem_cons,AA,List.getElem?_eq_getElem]
  rw [EN,g,hd,Dt];cases e:step (AA l a) s with
  |next s'=>
   simp only;exact Ry step I h n (a+1) s' (by omega) (by omega) (j s' e)
  |brk s'=>rfl|ret r=>rfl
theorem PG[Inhabited α]{l:List α}(step:α->σ->Bk σ ρ)(I:σ->Prop){s:σ}(d:I s)(h:∀(i:Int)s,0<=i->i<l.length->I s->f i s=some (step (AA l i) s)/\∀s',step (AA l i) s=.next s'->I s'):
  j4 f 0 l.length s=some (Dt step l s):=by
 have:=Ry step I h l.length 0 s (by omega) (by omega) d;unfold j4;rw[show((l.length:Int)-0).toNat=l.length by omega];exact this
theorem YQ[Inhabited α](step:α->σ->Bk σ ρ)(I:σ->Prop):∀(l:List α)(s s':σ),I s->(∀a∈l,∀s s',I s->step a s=.next s'->I s')->(∀a∈l,∀s s',step a s≠.brk s')->Dt step l s=.inl s'->I s'
 |[],s,s',h,_,_,e=>by cases e;exact h
 |a::r,s,s',h,g,o,e=>by
  rw [Dt]at e;split at e
  .rename_i s2 j;exact YQ step I r s2 s' (g a (by simp) s s2 h j) (fun a d=>g a (by simp[d])) (fun a d=>o a (by simp[d])) e
  .grind
  .cases e
end
def Cn(x:j0)(l:Fp):Int:=if x.Var<0 then x.Add else Ad (AA l x.Var+x.Add)
variable{x:j0}{l:Fp}
theorem SG(h:x.Var<l.length):D0 x l=some (Cn x l):=by grind[D0,Cn,AD]
theorem V8(h:x.Var<l.length):H2 x l=some (Cn x l):=SG h
theorem Xu(d:-1<=x.Var)(h:x.Var<l.length)(e:l.length<=1000):EX x l=some (Cn x l,0):=by grind[EX,CO,Am,SG]
theorem Mz(d:-1<=x.Var)(h:x.Var<l.length):EQ x l=some (Cn x l,0):=by grind[EQ,V8]
def Jb(x:Test)(l:Fp):Bool:=(decide (x.mo=1)&&decide (Cn x.kg l<=Cn x.fd l))||(decide (x.mo=2)&&decide (Cn x.kg l=Cn x.fd l))
structure HO(n:Int)(x:j0):Prop where
 low:-1<=x.Var
 high:x.Var<n
 add:-1000000<=x.Add/\x.Add<=1000000
def Nx(l:Fp):Prop:=∀x∈l,-2000000<=x/\x<=2000000
variable{n:Int}
theorem RM(h:HO n x)(d:Nx l)(e:n<=l.length):Cn x l=(if x.Var<0 then x.Add else AA l x.Var+x.Add)/\-3000000<=Cn x l/\Cn x l<=3000000:=by
 unfold Cn;have:=h.add;by_cases g:x.Var<0
 .grind
 .have hh:=h.high;have:=d _ (AJ (l:=l) (show 0<=x.Var by omega) (by omega))
  grind [Am]
theorem V7(h:HO n x)(d:n<=l.length):JL x l=some (Cn x l,true):=by
 have e:=h.low;have g:=h.high
 grind [JL,Cn,AD]
theorem r_holds{x:Test}(e:HO n x.kg)(g:HO n x.fd)(d:n<=l.length):Kn x l=some (Jb x l):=by
 unfold Kn;rw[V7 e d,V7 g d];rfl
variable{a b:Int}
theorem WN(j:-4000000<=a/\a<=4000000)(o:-4000000<=b/\b<=4000000):F3 a b=some (if a+b<0 then(-1,a+b+18446744073709551616)else(0,a+b)):=by
 have d:∀c:Int,IntKind.u64.wrap c=c % 18446744073709551616:=fun c=>by
  simp [IntKind.wrap,IntKind.signed,IntKind.bits]
 have g:∀c:Int,-4000000<=c/\c<=4000000->Kg .i64 .shr c 63=some (if c<0 then -1 else 0):=by
  intro c w;unfold Kg;have e:c.fdiv (2^ (min (63:Int).toNat (IntKind.bits .i64)))=if c<0 then -1 else 0:=by
   show c.fdiv (2^ 63)=_
   grind
  simp only[e];have:(0:Int)<=63/\IntKind.min .i64<=(if c<0 then -1 else 0)/\(if c<0 then -1 else 0)<=IntKind.max .i64:=by
   split<;>decide
  rw [ae this]
 unfold F3 Hf;rw[d,d,ae (by omega),bs,g a j,g b o,bs,bs];congr 1;have y:∀c:Int,-10<=c->c<=10->Ad c=c:=fun c r u=>Am (by omega) (by omega)
 grind
def I7(a:Int):Int×Int:=if a<0 then(-1,a+18446744073709551616)else(0,a)
theorem Xw(h:HO n x)(d:Nx l)(o:n<=l.length):Ea x l=some ((I7 (Cn x l)).1,(I7 (Cn x l)).2,true):=by
 have r:=h.low;have u:=h.high;have w:=h.add;have g:=(RM h d o).1;unfold Ea;by_cases j:x.Var=-1
 .have e:Cn x l=x.Add:=by rw[g,ae (by omega)]
  rw [e,ae (by simpa using j),WN (by omega) (by omega),bs,Int.zero_add];rfl
 .have:=d _ (AJ (l:=l) (show 0<=x.Var by omega) (by omega));have e:Cn x l=AA l x.Var+x.Add:=by rw[g,az (by omega)]
  rw [e,az (by simpa using j),az (by simp;omega),AD (by omega) (by omega),bs,WN (by omega) (by omega),bs];rfl
theorem io(a b:Int):cmp_Compare_int a b=some (if a<b then -1 else if b<a then 1 else 0):=by
 unfold cmp_Compare_int cmp_isNaN_int
 grind
theorem rK(a b:Int):HT a b=some (if a<b then -1 else if b<a then 1 else 0):=io a b
theorem mr(a b:Int):Lw [a,b]=some (if a=0 then b else a):=by
 unfold Lw;show ff (Aac _ 2 0 ()) _ _=_;rw[EN,show idx [a,b] 0=some a from rfl,bs]
 grind [ff,Aac,EN,idx]
theorem p_holds{x:Test}(g:HO n x.kg)(j:HO n x.fd)(d:Nx l)(e:n<=l.length):FR x l=some (Jb x l):=by
 have o:=(RM g d e).2;have s2:=(RM j d e).2;unfold FR Jb;rw[Xw g d e,Xw j d e];simp[io,rK,mr];generalize Cn x.kg l=a at o;generalize Cn x.fd l=b at s2;have key:(if(if(I7 a).1<(I7 b).1 then(-1:Int)else if(I7 b).1<(I7 a).1 then 1 else 0)=0 then(if(I7 a).2<(I7 b).2 then(-1:Int)else if(I7 b).2<(I7 a).2 then 1 else 0)else(if(I7 a).1<(I7 b).1 then(-1:Int)else if(I7 b).1<(I7 a).1 then 1 else 0))=if a<b then -1 else if b<a then 1 else 0:=by
  grind [I7]
 rw [key];congr 2
 .grind
 grind
end Go.Sf.Sc
namespace Go.Sf.Sc
open Go Go.Sf
structure RO(t:AC)(q:ec):Prop where
 g:Do q.d5
 kind:∀n∈q.d5.d3,0<=n/\n<t.d3.length
 vars:0<=q.hT/\q.hT<=12
 few:q.fq.length<=10/\q.pq.length<=10
 slot:∀s∈q.fq,(0<=s.sx/\s.sx<q.d5.d3.length)/\(0<=s.kl/\s.kl<(Ax t (AA q.d5.d3 s.sx)).length)/\HO q.hT s.j0
 test:∀x∈q.pq,(x.mo=1\/x.mo=2)/\HO q.hT x.kg/\HO q.hT x.fd
 ge:Bt q.d5=0
 ty:Ci t q.d5=true
variable{n:Int}{x:j0}
theorem iU(h:Mb n x=true):HO n x:=by
 unfold Mb at h;simp[zzX]at h;exact⟨h.1.1.1,h.1.1.2,h.1.2,h.2⟩
theorem iV{l:List Test}(h:JH n l=0):∀x∈l,(x.mo=1\/x.mo=2)/\HO n x.kg/\HO n x.fd:=by
 unfold JH at h;split at h
 .cases h
 split at h
 .cases h
 have g:=UL h;intro x d;obtain⟨i,j,o,rfl⟩:=BW d;have:=g i j o;unfold NY at this;split at this
 .cases this
 split at this
 .rename_i r e;rw[tg]at e
  grind [iU]
 .cases this
theorem be(n:Int)(l:List Test):JH n l≠9:=by
 unfold JH;split
 .decide
 split
 .decide
 intro h;cases d:fst (fun i=>nz (NY n (AA l i))) 0 l.length with
 |none=>rw[d]at h;cases h
 |some r=>
  grind [C7,nz,NY]
variable{t:AC}{q:ec}
theorem fx(hv:(Au t).2=0)(h:G8 t q=0\/G8 t q=9):RO t q:=by
 have y:=UO q.d5;unfold G8 at h;rw[az (by simp[hv])]at h;split at h
 .omega
 rename_i o;have g:=DF (Classical.not_not.1 o);split at h
 .omega
 rename_i e;split at h
 .omega
 rename_i A;split at h
 .omega
 rename_i B;split at h
 .omega
 rename_i C;split at h
 .grind[be]
 rename_i w;refine⟨g,(H6 g (by simpa using e)).1,by omega,by omega,fun s z=>?_,iV (Classical.not_not.1 w),Classical.not_not.1 o,by simpa using e⟩;have j:QM t q s=false:=by
  grind
 unfold QM at j;simp[Bool.not_eq_false',decide_eq_false_iff_not]at j;obtain⟨⟨⟨d,E⟩,F⟩,G,H⟩:=j;unfold QL at d;dsimp only at d;split at d
 .cases d
 rename_i D;have u:=(H6 g (by simpa using e)).1 _ (AJ (l:=q.d5.d3) (show 0<=s.sx by omega) (by omega));rw[Ic hv u.1 u.2]at d;split at d
 .cases d
 rename_i r;have r:¬(s.kl<0\/((Ax t (AA q.d5.d3 s.sx)).length:Int)<=s.kl):=r;exact⟨by omega,by omega,by omega,by omega,by omega,by omega⟩
def LO(h:AG)(m:d6)(s:CT):Int:=AA (AA h.gn (AA m.d3 s.sx)) s.kl
def NW(h:AG)(m:d6)(s:CT)(st:Fp×a6):Fp×a6:=
 if 0<=s.j0.Var/\AA st.2 s.j0.Var=false then(BC st.1 s.j0.Var (Ad (LO h m s-s.j0.Add)),BC st.2 s.j0.Var true)else st
def ES{ρ:Type}(r:ρ)(h:AG)(m:d6)(s:CT)(st:Fp×a6):Bk (Fp×a6) ρ:=
 if Cn s.j0 (NW h m s st).1=LO h m s then .next (NW h m s st)else .ret r
structure VI(n:Int)(st:Fp×a6):Prop where
 l1:(st.1.length:Int)=n
 l2:(st.2.length:Int)=n
 small:Nx st.1
structure IG(n:Int)(h:AG)(m:d6)(s:CT):Prop where
 node:0<=s.sx/\s.sx<m.d3.length
 val:0<=AA m.d3 s.sx/\AA m.d3 s.sx<h.gn.length
 AbG:0<=s.kl/\s.kl<(AA h.gn (AA m.d3 s.sx)).length
 term:HO n s.j0
 has:-1000000<=LO h m s/\LO h m s<=1000000
variable{h:AG}{m:d6}{s:CT}
theorem Lk(g:F1 t)(j:RO t q)(hh:IF t h)(e:VR t q.d5 h.d5 m)(o:s∈q.fq):IG q.hT h m s:=by
 obtain ⟨u,w,y⟩:=j.slot s o;have z:=e.AaQ;have d:=e.node s.sx u.1 (by omega);have A:=hh.row _ d.1.1 d.1.2;have r:=hh.kind _ d.1.1 d.1.2;have B:=Vr g r.2 d.2;have hv:=hh.len;refine⟨by omega,by omega,by omega,y,?_⟩;unfold LO;exact hh.low _ d.1.1 d.1.2 _ (AJ w.1 (by omega))
theorem RL{α:Type}(l:List α)(i:Int)(a:α):(BC l i a).length=l.length:=by unfold BC;rw[List.length_set]
variable{i:Int}
theorem gW{α:Type}{l:List α}{a x:α}(h:x∈BC l i a):x∈l\/x=a:=List.mem_or_eq_of_mem_set h
variable{st:Fp×a6}
theorem dr(e:IG n h m s)(hi:VI n st):VI n (NW h m s st):=by
 have g:=e.has;have j:=e.term.add;unfold NW;split
 .refine⟨by rw[RL];exact hi.l1,by rw[RL];exact hi.l2,fun x d=>?_⟩;rcases gW d with d|rfl
  .exact hi.small x d
  grind [Am]
 .exact hi
def E7(q:ec)(h:AG)(m:d6):Fp×Int:=
 match Dt (ES (([],11):Fp×Int) h m) q.fq (List.replicate q.hT.toNat 0,List.replicate q.hT.toNat false)with
 |.inr r=>r|.inl st=>if ne (fun i=>!Jb (AA q.pq i) st.1) 0 q.pq.length=true then([],16)else(st.1,0)
theorem QE(d:0<=n):VI n (List.replicate n.toNat 0,List.replicate n.toNat false):=by
 refine ⟨by simp;omega,by simp;omega,fun x e=>?_⟩
 grind
variable{st':Fp×a6}
theorem Nw{ρ:Type}{r:ρ}(d:IG n h m s)(hi:VI n st)(e:ES r h m s st=.next st'):VI n st':=by grind[ES,dr]
theorem dt{ρ:Type}{r:ρ}:ES r h m s st≠.brk st':=by grind[ES]
theorem M1{ρ:Type}{r:ρ}{l:List CT}(d:∀s∈l,IG n h m s)(hi:VI n st)(e:Dt (ES r h m) l st=.inl st'):VI n st':=
 YQ (ES r h m) (VI n) l st st' hi (fun a g _ _ j o=>Nw (d a g) j o) (fun _ _ _ _=>dt) e
theorem OS{ρ:Type}{r:ρ}(w:IG n h m s)(hi:VI n st){T:Fp×a6->Option (Bk (Fp×a6) ρ)}
  (j:∀st':Fp×a6,(st'.1.length:Int)=n->T st'=some (if Cn s.j0 st'.1=LO h m s then .next st' else .ret r)):
  ((if(decide (0<=s.j0.Var))=true then((idx st.2 s.j0.Var).bind fun o=>some (!o))else some false).bind fun u=>
   if u=true then(idx st.1 s.j0.Var).bind fun _=>(idx st.2 s.j0.Var).bind fun _=>T (BC st.1 s.j0.Var (Ad (LO h m s-s.j0.Add)),BC st.2 s.j0.Var true)else T (st.1,st.2))=some (ES r h m s st):=by
 have y:=w.term.high;have l1:=hi.l1;have l2:=hi.l2;unfold ES;by_cases d:0<=s.j0.Var
 .rw[ae (by simpa using d),AD d (by omega),bs,bs];by_cases g:AA st.2 s.j0.Var=false
  .rw[ae (by simp[g]),AD d (by omega),bs,bs,j _ (by dsimp only;rw[RL];exact l1)];have e:NW h m s st=(BC st.1 s.j0.Var (Ad (LO h m s-s.j0.Add)),BC st.2 s.j0.Var true):=by unfold NW;rw[ae ⟨d,g⟩]
   rw [e]
  .rw[az (by simpa using g),j _ l1];have e:NW h m s st=st:=by unfold NW;rw[az (fun e=>g e.2)]
   rw [e]
 .rw[az (by simpa using d),bs,az (by decide),j _ l1];have e:NW h m s st=st:=by unfold NW;rw[az (fun e=>d e.1)]
  rw [e]
theorem Y5{ρ:Type}{r:ρ}(j:IG n h m s)(hi:VI n st){T:Fp×a6->Option (Bk (Fp×a6) ρ)}
  (o:∀st':Fp×a6,(st'.1.length:Int)=n->T st'=some (if Cn s.j0 st'.1=LO h m s then .next st' else .ret r)):
  ((if(decide (0<=s.j0.Var))=true then((idx st.2 s.j0.Var).bind fun d=>some (!d))else some false).bind fun e=>
   if e=true then(idx st.2 s.j0.Var).bind fun _=>(idx st.1 s.j0.Var).bind fun _=>T (BC st.1 s.j0.Var (Ad (LO h m s-s.j0.Add)),BC st.2 s.j0.Var true)else T (st.1,st.2))=some (ES r h m s st):=by
 rw [<-OS j hi o];have u:=j.term.high;have l1:=hi.l1;have l2:=hi.l2;by_cases g:0<=s.j0.Var
 .rw[AD g (by omega),AD g (by omega)];rfl
 .rw[az (by simpa using g)];rfl
variable{v:Int}
theorem WG{t:j0}{f:j0->Fp->QQ}(hf:∀l:Fp,(l.length:Int)=n->f t l=some (Cn t l))(st':Fp×a6)(e:(st'.1.length:Int)=n):((f t st'.1).bind fun d=>if(!decide (d=v))=true then some (Bk.ret (([],11):Fp×Int))else some (.next st'))=some (if Cn t st'.1=v then .next st' else .ret ([],11)):=by grind
theorem Zh(u:RO t q)(w:∀s∈q.fq,IG q.hT h m s):Ey q h m=some (E7 q h m):=by
 have hv:=u.vars;unfold Ey E7 GW;rw[ae (by omega),bs,ae (by omega),bs];rw[PG (ES (([],11):Fp×Int) h m) (VI q.hT) (QE hv.1)]
 .cases z:Dt (ES (([],11):Fp×Int) h m) q.fq (List.replicate q.hT.toNat 0,List.replicate q.hT.toNat false)with
  |inr r=>rfl|inl st=>
   have hi:=M1 w (QE hv.1) z;rw[BT,BJ (fun i=>!Jb (AA q.pq i) st.1) ([],16)]
   .dsimp only;cases ne (fun i=>!Jb (AA q.pq i) st.1) 0 q.pq.length<;>rfl
   .intro i g j _;have y:=u.test _ (AJ g j);rw[AD g j,bs,p_holds y.2.1 y.2.2 hi.small (by have:=hi.l1;omega),bs]
    grind
 .intro i st g j hi;have d:=w _ (AJ g j);refine⟨?_,fun s' e=>Nw d hi e⟩;rw[AD g j,bs,AD d.node.1 d.node.2,bs,AD d.val.1 d.val.2,bs,AD d.AbG.1 d.AbG.2,bs];exact OS d hi (T:=fun st'=>(D0 (AA q.fq i).j0 st'.1).bind fun o=>if(!decide (o=LO h m (AA q.fq i)))=true then some (Bk.ret (([],11):Fp×Int))else some (.next st')) (WG fun l A=>SG (by have:=d.term.high;omega))
theorem Zr(u:RO t q)(w:∀s∈q.fq,IG q.hT h m s):Gs q h m=some (E7 q h m):=by
 have hv:=u.vars;unfold Gs E7 GW;rw[ae (by omega),bs,ae (by omega),bs];rw[PG (ES (([],11):Fp×Int) h m) (VI q.hT) (QE hv.1)]
 .cases z:Dt (ES (([],11):Fp×Int) h m) q.fq (List.replicate q.hT.toNat 0,List.replicate q.hT.toNat false)with
  |inr r=>rfl|inl st=>
   have hi:=M1 w (QE hv.1) z;rw[BT,BJ (fun i=>!Jb (AA q.pq i) st.1) ([],16)]
   .dsimp only;cases ne (fun i=>!Jb (AA q.pq i) st.1) 0 q.pq.length<;>rfl
   .intro i g j _;have y:=u.test _ (AJ g j);rw[AD g j,bs,r_holds y.2.1 y.2.2 (by have:=hi.l1;omega),bs]
    grind
 .intro i st g j hi;have d:=w _ (AJ g j);refine⟨?_,fun s' e=>Nw d hi e⟩;rw[AD g j,bs,AD d.node.1 d.node.2,bs,AD d.val.1 d.val.2,bs,AD d.AbG.1 d.AbG.2,bs];exact Y5 d hi (T:=fun st'=>(H2 (AA q.fq i).j0 st'.1).bind fun o=>if(!decide (o=LO h m (AA q.fq i)))=true then some (Bk.ret (([],11):Fp×Int))else some (.next st')) (WG fun l A=>V8 (by have:=d.term.high;omega))
def NE(t:AC)(p:ec)(h:AG):Int:=if G8 t p≠0 then G8 t p else(Hc t h).2
theorem Vy(hf:Ap t)(p:ec)(h:AG):DQ t p h=some (NE t p h):=by
 unfold DQ NE;rw[Uh hf,bs];refine DY fun _=>?_;rw[SF hf];rfl
theorem V5(hf:Ap t)(p:ec)(h:AG):JO t p h=some (NE t p h):=by
 unfold JO NE;rw[Wq hf,bs];refine DY fun _=>?_;rw[SL hf];rfl
def FL(t:AC)(p:ec)(h:AG)(m:d6):Fp×Int:=
 if NE t p h≠0 then([],NE t p h)else if FK t p.d5 h.d5 m false≠0 then([],FK t p.d5 h.d5 m false)else E7 p h m
variable{p:ec}
theorem NX(hf:Ap t){inj:Bool}(d:NE t p h=0)(e:FK t p.d5 h.d5 m inj=0):(Au t).2=0/\RO t p/\IF t h/\VR t p.d5 h.d5 m:=by
 unfold NE at d;split at d
 .grind
 rename_i g;obtain⟨hv,hh⟩:=Se hf d;exact⟨hv,fx hv (.inl (Classical.not_not.1 g)),hh,(XI e).2⟩
theorem Zc(hf:Ap t)(p:ec)(h:AG)(m:d6):DP t p h m=some (FL t p h m):=by
 unfold DP FL;rw[Vy hf,bs];refine C8 fun e=>?_;rw[VH hf,bs];refine C8 fun g=>?_;obtain⟨hv,d,hh,o⟩:=NX hf e g;rw[Zh d (fun s j=>Lk (Cz hv) d hh o j)];rfl
theorem kv(hf:Ap t)(p:ec)(h:AG)(m:d6):Kt t p h m=some (FL t p h m):=by
 unfold Kt FL;rw[V5 hf,bs];refine C8 fun e=>?_;rw[VM hf,bs];refine C8 fun g=>?_;obtain⟨hv,d,hh,o⟩:=NX hf e g;rw[Zr d (fun s j=>Lk (Cz hv) d hh o j)];rfl
theorem du(g:RO t q)(j:∀s∈q.fq,IG q.hT h m s)(e:(E7 q h m).2=0):((E7 q h m).1.length:Int)=q.hT/\Nx (E7 q h m).1:=by
 unfold E7 at e|-;cases d:Dt (ES (([],11):Fp×Int) h m) q.fq (List.replicate q.hT.toNat 0,List.replicate q.hT.toNat false)with
 |inr r=>
  rw [d]at e;have:∀(l:List CT)(st:Fp×a6)(r:Fp×Int),Dt (ES (([],11):Fp×Int) h m) l st=.inr r->r=([],11):=by
   intro l
   induction l with
   |nil=>intro st r h;cases h
   |cons a l u=>
    grind [Dt,ES]
  grind
 |inl st=>
  rw [d]at e;have hi:=M1 j (QE g.vars.1) d;dsimp only at e|-;split at e
  .cases e
  .rename_i o;rw[az o];exact⟨hi.l1,hi.small⟩
end Go.Sf.Sc
namespace Go.Sf.Sc
open Go Go.Sf
variable{i:Int}
theorem Il{n:Nat}{α:Type}[Inhabited α](F:Int->α)(d:0<=i)(v:α):BC ((Aw n).map F) i v=(Aw n).map fun j=>if j=i then v else F j:=by
 unfold BC;refine List.ext_getElem (by simp) (fun k e g=>?_)
 grind [BE,Aw]
theorem Cu{n:Nat}{α:Type}{F G:Int->α}(h:∀j,0<=j->j<(n:Int)->F j=G j):(Aw n).map F=(Aw n).map G:=by grind[List.map_congr_left,FY]
def GG(n:Nat)(k:Int):a6:=(Aw n).map fun j=>decide (j<k)
theorem UV(n:Nat):GG n 0=List.replicate n false:=by
 unfold GG;refine List.ext_getElem (by simp[BE]) (fun k d e=>?_)
 grind [Aw,BE]
theorem Vt(n:Nat)(k:Int):(GG n k).length=n:=by unfold GG;rw[ca,BE]
def LH(q:ec)(h:AG)(m:d6)(given:Fp):Fp×Bool:=
 match Dt (ES (([],false):Fp×Bool) h m) q.fq (given++List.replicate (q.hT-given.length).toNat 0,GG q.hT.toNat given.length)with
 |.inr r=>r|.inl st=>if ne (fun i=>!Jb (AA q.pq i) st.1) 0 q.pq.length=true then([],false)else(st.1,true)
variable{n:Int}{given:Fp}
theorem Tp(e:0<=n)(g:given.length<=n)(hv:Nx given):VI n (given++List.replicate (n-given.length).toNat 0,GG n.toNat given.length):=by
 refine ⟨by simp;omega,by show((GG n.toNat given.length).length:Int)=n;rw[Vt];omega,fun x d=>?_⟩;rcases List.mem_append.1 d with d|d
 .exact hv x d
 grind
variable{q:ec}{m:d6}{t:AC}
theorem nu{s:An}(w:RO t q)(y:∀x∈q.fq,IG q.hT s.h m x)(B:given.length<=q.hT)(hv:Nx given):Dc s q m given=some (LH q s.h m given):=by
 have D:=w.vars;unfold Dc LH slices_Clone_int;rw[BY (by unfold Ae;omega),bs,Am (by omega) (by omega)];have E:TJ given (q.hT-given.length) 0=some (given++List.replicate (q.hT-given.length).toNat 0):=by
  grind [TJ,Ae]
 have F:GW q.hT false=some (List.replicate q.hT.toNat false):=by
  grind [GW]
 rw [E,bs,F,bs];have G:pr (fun(d:Int)(z:a6)=>(idx z d).bind fun C=>some (BC z d true)) 0 (given.length:Int) (List.replicate q.hT.toNat false)=some (GG q.hT.toNat given.length):=by
  refine Bo (fun i=>GG q.hT.toNat i) (by omega) (UV _) (fun i d j=>?_);rw[AD d (by rw[Vt];omega),bs];congr 1;unfold GG;rw[Il _ d]
  grind
 rw [G,bs];have u:=Tp D.1 B hv;rw[PG (ES (([],false):Fp×Bool) s.h m) (VI q.hT) u]
 .cases H:Dt (ES (([],false):Fp×Bool) s.h m) q.fq (given++List.replicate (q.hT-given.length).toNat 0,GG q.hT.toNat given.length)with
  |inr r=>rfl|inl st=>
   have hi:=M1 y u H;rw[BT,BJ (fun i=>!Jb (AA q.pq i) st.1) ([],false)]
   .dsimp only;cases ne (fun i=>!Jb (AA q.pq i) st.1) 0 q.pq.length<;>rfl
   .intro i d j _;have A:=w.test _ (AJ d j);rw[AD d j,bs,p_holds A.2.1 A.2.2 hi.small (by have:=hi.l1;omega),bs]
    grind
 .intro i st d j hi;have g:=y _ (AJ d j);refine⟨?_,fun s' e=>Nw g hi e⟩;rw[AD d j,bs,AD g.node.1 g.node.2,bs,AD g.val.1 g.val.2,bs,AD g.AbG.1 g.AbG.2,bs];refine OS g hi (T:=fun st'=>(EX (AA q.fq i).j0 st'.1).bind fun o=>if((!decide (o.2=0))||(!decide (o.1=LO s.h m (AA q.fq i))))=true then some (Bk.ret (([],false):Fp×Bool))else some (.next st')) (fun st' I=>?_);rw[Xu g.term.low (by have:=g.term.high;omega) (by omega),bs]
  grind
variable{h:AG}
theorem oR(C:RO t q)(D:∀x∈q.fq,IG q.hT h m x)(I:given.length<=q.hT)(hv:Nx given):J5 q h m given=some (LH q h m given):=by
 have G:=C.vars;unfold J5 LH;have L:GW q.hT false=some (List.replicate q.hT.toNat false):=by
  unfold GW;rw[ae (by omega)]
 rw [BY (by unfold Ae;omega),bs,L,bs];have H:pr (fun(d:Int)(u:Fp×a6)=>
   (idx u.2 d).bind fun J=>
   if (decide ((given.length:Int)<=d))=true then
   (Ah u.1 [0]).bind fun A=>
   some (A,BC u.2 d (decide (d<(given.length:Int))))
   else
   some (u.1,BC u.2 d (decide (d<(given.length:Int))))) 0 q.hT (given,List.replicate q.hT.toNat false)=some (given++List.replicate (q.hT-given.length).toNat 0,(Aw q.hT.toNat).map fun j=>decide (j<q.hT)&&decide (j<(given.length:Int))):=by
  refine Bo (fun i=>(given++List.replicate (i-given.length).toNat 0,(Aw q.hT.toNat).map fun j=>decide (j<i)&&decide (j<(given.length:Int)))) G.1 ?_ (fun i d o=>?_)
  .have M:((0:Int)-given.length).toNat=0:=by omega
   rw [M];simp;rw[<-UV];unfold GG;refine Cu (fun j E F=>?_);rw[show decide (j<0)=false by simp;omega];rfl
  .dsimp only;rw[AD d (by rw[ca,BE];omega),bs];have N:BC ((Aw q.hT.toNat).map fun j=>decide (j<i)&&decide (j<(given.length:Int))) i (decide (i<(given.length:Int)))=(Aw q.hT.toNat).map fun j=>decide (j<i+1)&&decide (j<(given.length:Int)):=by
    rw [Il _ d];refine Cu (fun j E F=>?_);by_cases e:j=i
    .rw[ae e,e,show decide (i<i+1)=true by simp;omega,Bool.true_and]
    .rw[az e];congr 1;rw[decide_eq_decide];omega
   rw [N];by_cases hi:(given.length:Int)<=i
   .rw[ae (by simpa using hi),Af (by simp;unfold Ae;omega),bs];congr 2;rw[ci,show(i+1-given.length).toNat=(i-given.length).toNat+1 by omega,List.replicate_succ']
   .rw[az (by simpa using hi)];have O:(i+1-given.length).toNat=(i-given.length).toNat:=by omega
    rw [O]
 have B:((Aw q.hT.toNat).map fun j=>decide (j<q.hT)&&decide (j<(given.length:Int)))=GG q.hT.toNat given.length:=by
  unfold GG;refine Cu (fun j E F=>?_);rw[show decide (j<q.hT)=true by simp;omega,Bool.true_and]
 rw [B]at H;rw[H,bs];have y:=Tp G.1 I hv;dsimp only;rw[PG (ES (([],false):Fp×Bool) h m) (VI q.hT) y]
 .cases P:Dt (ES (([],false):Fp×Bool) h m) q.fq (given++List.replicate (q.hT-given.length).toNat 0,GG q.hT.toNat given.length)with
  |inr r=>rfl|inl st=>
   have hi:=M1 D y P;rw[BT,BJ (fun i=>!Jb (AA q.pq i) st.1) ([],false)]
   .dsimp only;cases ne (fun i=>!Jb (AA q.pq i) st.1) 0 q.pq.length<;>rfl
   .intro i d o _;have z:=C.test _ (AJ d o);have K:=hi.l1;rw[AD d o,bs,Mz z.2.1.low (by have:=z.2.1.high;omega),bs,Mz z.2.2.low (by have:=z.2.2.high;omega),bs,<-Hw];unfold Jb;dsimp only;congr 1;generalize Cn (AA q.pq i).kg st.1=a;generalize Cn (AA q.pq i).fd st.1=b;rcases z.1 with e|e
    .rw[e,eq_iff_iff];simp
    .rw[e,eq_iff_iff];simp
 .intro i st d o hi;have g:=D _ (AJ d o);refine⟨?_,fun s' e=>Nw g hi e⟩;rw[AD d o,bs,AD g.node.1 g.node.2,bs,AD g.val.1 g.val.2,bs,AD g.AbG.1 g.AbG.2,bs];refine OS g hi (T:=fun st'=>(EQ (AA q.fq i).j0 st'.1).bind fun w=>if(!decide (w.1=LO h m (AA q.fq i)))=true then some (Bk.ret (([],false):Fp×Bool))else some (.next st')) (fun st' K=>?_);rw[Mz g.term.low (by have:=g.term.high;omega),bs];by_cases e:Cn (AA q.fq i).j0 st'.1=LO h m (AA q.fq i)
  .rw[az (by simp[e]),ae e]
  .rw[ae (by simp[e]),az e]
theorem iY(j:RO t q)(o:∀s∈q.fq,IG q.hT h m s)(u:given.length<=q.hT)(hv:Nx given)(e:(LH q h m given).2=true):((LH q h m given).1.length:Int)=q.hT/\Nx (LH q h m given).1:=by
 unfold LH at e|-;have d:=Tp j.vars.1 u hv;cases g:Dt (ES (([],false):Fp×Bool) h m) q.fq (given++List.replicate (q.hT-given.length).toNat 0,GG q.hT.toNat given.length)with
 |inr r=>
  rw [g]at e;have:∀(l:List CT)(st:Fp×a6)(r:Fp×Bool),Dt (ES (([],false):Fp×Bool) h m) l st=.inr r->r=([],false):=by
   intro l
   induction l with
   |nil=>intro st r h;cases h
   |cons a l y=>
    grind [Dt,ES]
  grind
 |inl st=>
  rw [g]at e;have hi:=M1 o d g;dsimp only at e|-;split at e
  .cases e
  .rename_i w;rw[az w];exact⟨hi.l1,hi.small⟩
def SH(n:Nat)(by' images:Fp):Fp:=(Aw by'.length).foldl (fun l i=>BC l (AA by' i) (AA images i)) (List.replicate n (-1))
theorem Vg(d images:Fp):∀(e:Fp)(l:Fp),(e.foldl (fun l i=>BC l (AA d i) (AA images i)) l).length=l.length
 |[],l=>rfl|k::e,l=>by rw[List.foldl_cons,Vg d images e,RL]
theorem Ul{n:Nat}{d images:Fp}(y:∀x∈d,0<=x/\x<n)(z:d.length<=images.length):pr (fun(g:Int)(o:Fp)=>
  (idx d g).bind fun e=>
  (idx images g).bind fun j=>
  (idx o e).bind fun r=>
  some (BC o e j)) 0 (d.length:Int) (List.replicate n (-1))=some (SH n d images):=by
 have h:=Bo (f:=fun(g:Int)(o:Fp)=>
  (idx d g).bind fun e=>
  (idx images g).bind fun j=>
  (idx o e).bind fun r=>
  some (BC o e j)) (fun i=>(Aw i.toNat).foldl (fun l i=>BC l (AA d i) (AA images i)) (List.replicate n (-1))) (a:=0) (b:=d.length) (s:=List.replicate n (-1)) (by omega) rfl (fun i g u=>by
   have w:=y _ (AJ g u);rw[AD g u,bs,AD g (by omega),bs,AD w.1 (by rw[Vg];simpa using w.2),bs,Fh g,List.foldl_append];rfl)
 rw [h,Int.toNat_natCast];rfl
theorem X0{n:Nat}{d images:Fp}(j:n<=1000)(e:∀x∈d,0<=x/\x<n)(g:d.length<=images.length):FP n d images=some (SH n d images):=by
 unfold FP Dz;rw[ae ⟨rfl,by omega,by omega⟩,bs];show(pr _ 0 _ (List.replicate (n:Int).toNat (-1))).bind _=_;rw[Int.toNat_natCast,Ul e g];rfl
theorem YB{n:Nat}{d images:Fp}(j:n<=1000)(e:∀x∈d,0<=x/\x<n)(g:d.length<=images.length):IX n d images=some (SH n d images):=by
 unfold IX;rw[Bo (a:=0) (b:=n) (s:=[]) (fun i=>List.replicate i.toNat (-1)) (by omega) rfl,bs,Int.toNat_natCast,Ul e g]
 .rfl
 .intro i o r;rw[Af (by simp;unfold Ae;omega),bs,show(i+1).toNat=i.toNat+1 by omega,List.replicate_succ']
end Go.Sf.Sc
namespace Go.Sf.Sc
open Go Go.Sf
structure ic(f:AH):Prop where
 nl:f.ei.length<=f.p.d3.length
 node:∀i:Int,0<=i->i<f.ei.length->(0<=AA f.ei i/\AA f.ei i<f.g.d3.length)/\AA (AA f.is (AA f.p.d3 i)) (AA f.g.d3 (AA f.ei i))=true
 edge:∀i:Int,0<=i->i<f.em.length->(0<=AA f.em i/\AA f.em i<f.g.d4.length)/\AA f.g.d4 (AA f.em i)=⟨(AA f.p.d4 i).kp,AA f.ei (AA f.p.d4 i).kq,AA f.ei (AA f.p.d4 i).To⟩
 inj:f.ej=true->f.ei.Nodup/\f.em.Nodup
structure aD(f:AH)(m:d6):Prop where
 nl:m.d3.length=f.p.d3.length
 el:m.d4.length=f.p.d4.length
 node:∀i:Int,0<=i->i<m.d3.length->(0<=AA m.d3 i/\AA m.d3 i<f.g.d3.length)/\AA (AA f.is (AA f.p.d3 i)) (AA f.g.d3 (AA m.d3 i))=true
 edge:∀i:Int,0<=i->i<m.d4.length->(0<=AA m.d4 i/\AA m.d4 i<f.g.d4.length)/\AA f.g.d4 (AA m.d4 i)=⟨(AA f.p.d4 i).kp,AA m.d3 (AA f.p.d4 i).kq,AA m.d3 (AA f.p.d4 i).To⟩
 inj:f.ej=true->m.d3.Nodup/\m.d4.Nodup
variable{i:Int}
theorem ZD{α:Type}[Inhabited α](l:List α)(x:α)(h:i=l.length):AA (l++[x]) i=x:=by grind[O9]
variable{l:Fp}{k:Int}
theorem Ub{b:Bool}(h:(!(b&&l.any fun x=>decide (k=x)))=true)(d:b=true)(e:l.Nodup):(l++[k]).Nodup:=by grind
theorem VS:∀(n:Nat)(f:AH),ic f->f.ei.length=f.p.d3.length->f.em.length+n=f.p.d4.length->∀m∈DW n f,aD f m
 |0,f,j,z,he,m,d=>by
  rw [DW,List.mem_singleton]at d;subst d;exact⟨z,by simpa using he,j.node,j.edge,j.inj⟩
 |n+1,f,j,z,he,m,d=>by
  rw [DW,List.mem_flatMap]at d;obtain⟨k,w,d⟩:=d;have w:=FY.1 w;split at d
  .rename_i o;unfold Ou at o;rw[tg]at o;obtain⟨r,y⟩:=o;rw[Tk,tg,zzX]at r;have:=VS n {f with em:=f.em++[k]} ⟨j.nl,j.node,fun i A u=>by
    have u:i<((f.em++[k]).length:Int):=u;simp at u;show(0<=AA (f.em++[k]) i/\AA (f.em++[k]) i<f.g.d4.length)/\AA f.g.d4 (AA (f.em++[k]) i)=⟨(AA f.p.d4 i).kp,AA f.ei (AA f.p.d4 i).kq,AA f.ei (AA f.p.d4 i).To⟩;by_cases e:i=f.em.length
    .rw[ZD _ _ e];exact⟨w,by rw[e];exact r.2⟩
    .rw[XC _ _ A (by omega)];exact j.edge i A (by omega),fun hi=>⟨(j.inj hi).1,Ub y hi (j.inj hi).2⟩⟩ z (by show(f.em++[k]).length+n=f.p.d4.length;rw[cE,List.length_singleton];omega) m d
   exact ⟨this.nl,this.el,this.node,this.edge,this.inj⟩
  .cases d
theorem VT:∀(n:Nat)(f:AH),ic f->f.em=[]->f.ei.length+n=f.p.d3.length->∀m∈ET n f,aD f m
 |0,f,r,he,A,m,o=>by
  grind [ET,VS]
 |n+1,f,r,he,A,m,o=>by
  rw [ET,List.mem_flatMap]at o;obtain⟨k,w,o⟩:=o;have w:=FY.1 w;split at o
  .rename_i j;unfold Ov at j;rw[tg,tg]at j;obtain⟨⟨_,y⟩,z⟩:=j;have:=VT n {f with ei:=f.ei++[k]} ⟨by show(f.ei++[k]).length<=f.p.d3.length;rw[cE,List.length_singleton];omega,fun i u d=>by
    have d:i<((f.ei++[k]).length:Int):=d;simp at d;show(0<=AA (f.ei++[k]) i/\AA (f.ei++[k]) i<f.g.d3.length)/\AA (AA f.is (AA f.p.d3 i)) (AA f.g.d3 (AA (f.ei++[k]) i))=true;by_cases e:i=f.ei.length
    .rw[ZD _ _ e];exact⟨w,by rw[e];exact y⟩
    .rw[XC _ _ u (by omega)];exact r.node i u (by omega),fun i u d=>by
    have d:i<(f.em.length:Int):=d;rw[he]at d;have:i<(0:Nat):=d;omega,fun hi=>⟨Ub z hi (r.inj hi).1,(r.inj hi).2⟩⟩ he (by show(f.ei++[k]).length+n=f.p.d3.length;rw[cE,List.length_singleton];omega) m o
   exact ⟨this.nl,this.el,this.node,this.edge,this.inj⟩
  .cases o
variable{t:AC}{m:d6}
theorem UJ{p g:d5}{pa:d6}{inj:Bool}(e:m∈Ha t p g pa inj):aD (FF t p g pa inj) m:=
 VT _ (FF t p g pa inj) ⟨Nat.zero_le _,fun i j d=>by have d:i<(0:Nat):=d;omega,fun i j d=>by have d:i<(0:Nat):=d;omega,fun _=>⟨List.nodup_nil,List.nodup_nil⟩⟩ rfl (by show 0+p.d3.length=p.d3.length;omega) m (List.mem_of_mem_take e)
theorem Xa{p g:d5}{pa:d6}{inj:Bool}(h:Ed t p g=0)(u:m∈Ha t p g pa inj):VR t p g m:=by
 obtain ⟨hv,A,B,tp,w⟩:=LN h;have:=UJ u;refine⟨this.nl,this.el,fun i d e=>?_,fun i d e=>(this.edge i d e).1⟩;obtain⟨j,r⟩:=this.node i d e;refine⟨j,?_⟩;have o:=this.nl;have y:=tp _ (AJ (l:=p.d3) d (by show i<(p.d3.length:Int);have o:m.d3.length=p.d3.length:=o;omega));have z:=w _ (AJ (l:=g.d3) j.1 j.2);have r:AA (AA (H4 t) (AA p.d3 i)) (AA g.d3 (AA m.d3 i))=true:=r
 grind [AA,H4,MW,Ia,If]
theorem cU{p g:d5}{pa:d6}{inj:Bool}(h:Ed t p g=0)(r:m∈Ha t p g pa inj):FK t p g m inj=0:=by
 have ok:=Xa h r;have u:=UJ r;have w:LE t p g m=0:=by
  unfold LE;rw[az (by have:=ok.AaQ;have:=ok.Aa7;omega)];have y:fst (IJ t p g m) 0 m.d3.length=none:=by
   rw [B3];intro i d e;obtain⟨j,o⟩:=ok.node i d e
   grind [IJ]
  have z:fst (Fm p g m) 0 m.d4.length=none:=by
   rw [B3];intro i d e;obtain⟨j,o⟩:=u.edge i d e;have j:0<=AA m.d4 i/\AA m.d4 i<g.d4.length:=j;have o:AA g.d4 (AA m.d4 i)=⟨(AA p.d4 i).kp,AA m.d3 (AA p.d4 i).kq,AA m.d3 (AA p.d4 i).To⟩:=o
   grind [Fm]
  rw [y,z];rfl
 unfold FK;rw[az (by simp[h]),az (by simp[w])];cases inj
 .rfl
 .have:=u.inj rfl
  grind [JZ,Om]
theorem XO{p g:d5}{pa:d6}{inj:Bool}(h:(Qt t p g pa inj).2=0):(Qt t p g pa inj).1.length<=5000/\∀m∈(Qt t p g pa inj).1,VR t p g m:=by grind[Qt,Xa]
structure Tr(t:AC)(p:ec)(h:AG)(x:AL):Prop where
 q:RO t p
 m:VR t p.d5 h.d5 x.d6
 len:(x.hT.length:Int)=p.hT
 small:Nx x.hT
structure bn(t:AC)(p:ec)(c:d7):Prop where
 q:RO t c.ec
 vars:p.hT<=c.ec.hT
 map:Wb p.d5 c.ec.d5 c.Map
 inj:JZ c.Map=true
def DR(t:AC)(c:d7)(h:AG)(m:AL)(inj:Bool):List AL×Int:=
 let x:=Qt t c.ec.d5 h.d5 ⟨SH c.ec.d5.d3.length c.Map.d3 m.d6.d3,SH c.ec.d5.d4.length c.Map.d4 m.d6.d4⟩ inj
 if x.2≠0 then([],x.2)else((x.1.filter fun y=>(LH c.ec h y m.hT).2).map fun y=>⟨y,(LH c.ec h y m.hT).1⟩,0)
instance:Inhabited d6:=⟨⟨[],[]⟩⟩
instance:Inhabited AL:=⟨⟨default,[]⟩⟩
instance:Inhabited Ay:=⟨⟨0,default,[]⟩⟩
theorem M9{x:List d6}{F:d6->Fp×Bool}{f:Int->List AL->Option (List AL)}(o:x.length<=5000)
  (hf:∀(i:Int)(s:List AL),0<=i->i<x.length->s.length<=5000->f i s=some (if(F (AA x i)).2=true then s++[⟨AA x i,(F (AA x i)).1⟩]else s)):
  pr f 0 (x.length:Int) []=some ((x.filter fun y=>(F y).2).map fun y=>⟨y,(F y).1⟩):=by
 rw [Bo (a:=0) (b:=x.length) (s:=[]) (fun i=>((x.take i.toNat).filter fun y=>(F y).2).map fun y=>(⟨y,(F y).1⟩:AL)) (by omega) rfl,Int.toNat_natCast,List.take_length];intro i d e;have g:(((x.take i.toNat).filter fun y=>(F y).2).map fun y=>(⟨y,(F y).1⟩:AL)).length<=5000:=by
  grind
 rw [hf i _ d e g,CQ d e,List.filter_append,List.map_append];cases j:(F (AA x i)).2<;>simp[j]
variable{p:ec}{c:d7}
theorem nZ{s:An}{m:AL}(hf:Ap s.t)(hv:(Au s.t).2=0)(hh:IF s.t s.h)(o:Tr s.t p s.h m)(hi:bn s.t p c):Bl s c m=some (DR s.t c s.h m s.ej):=by
 have C:=hi.q.g.ei;have ge:=hi.q.g.em;have m1:=hi.map.AaQ;have D:=hi.map.Aa7;have E:=o.m.AaQ;have G:=o.m.Aa7;unfold Bl DR;rw[X0 (by omega) (fun x j=>by obtain⟨i,d,e,rfl⟩:=BW j;exact(hi.map.node i d e).1) (by omega),bs,
  X0 (by omega) (fun x j=>by obtain⟨i,d,e,rfl⟩:=BW j;exact(hi.map.edge i d e).1) (by omega),bs,fi hf,bs]
 dsimp only;refine C8 fun r=>?_;obtain⟨z,A⟩:=XO r;rw[M9 (F:=fun y=>LH c.ec s.h y m.hT) z]
 .rfl
 .intro i st d e B;have u:=A _ (AJ d e);have w:(m.hT.length:Int)<=c.ec.hT:=by have:=o.len;have:=hi.vars;omega
  rw [AD d e,bs,nu hi.q (fun x j=>Lk (Cz hv) hi.q hh u j) w o.small,bs,<-Hw]
  grind [Af,Ae]
variable{h:AG}
theorem oC{inj:Bool}{m:AL}(hf:Ap t)(hv:(Au t).2=0)(hh:IF t h)(o:Tr t p h m)(hi:bn t p c):Gt t c h m inj=some (DR t c h m inj):=by
 have C:=hi.q.g.ei;have ge:=hi.q.g.em;have m1:=hi.map.AaQ;have D:=hi.map.Aa7;have E:=o.m.AaQ;have G:=o.m.Aa7;unfold Gt DR;rw[YB (by omega) (fun x j=>by obtain⟨i,d,e,rfl⟩:=BW j;exact(hi.map.node i d e).1) (by omega),bs,
  YB (by omega) (fun x j=>by obtain⟨i,d,e,rfl⟩:=BW j;exact(hi.map.edge i d e).1) (by omega),bs,fz hf,bs]
 dsimp only;refine C8 fun r=>?_;obtain⟨z,A⟩:=XO r;rw[M9 (F:=fun y=>LH c.ec h y m.hT) z]
 .rfl
 .intro i st d e B;have u:=A _ (AJ d e);have w:(m.hT.length:Int)<=c.ec.hT:=by have:=o.len;have:=hi.vars;omega
  rw [AD d e,bs,oR hi.q (fun x j=>Lk (Cz hv) hi.q hh u j) w o.small,bs,<-Hw]
  grind [Af,Ae]
theorem ZO{inj:Bool}{m:AL}(hv:(Au t).2=0)(hh:IF t h)(j:Tr t p h m)(hi:bn t p c)(e:(DR t c h m inj).2=0):(DR t c h m inj).1.length<=5000/\∀x∈(DR t c h m inj).1,Tr t c.ec h x:=by
 unfold DR at e|-;dsimp only at e|-;split at e
 .grind
 rename_i o;rw[az o];obtain⟨w,z⟩:=XO (Classical.not_not.1 o);refine⟨by dsimp only;rw[ca];exact Nat.le_trans (List.length_filter_le _ _) w,fun x d=>?_⟩;dsimp only at d;rw[List.mem_map]at d;obtain⟨y,g,rfl⟩:=d;rw[List.mem_filter]at g;have r:=z y g.1;have u:(m.hT.length:Int)<=c.ec.hT:=by have:=j.len;have:=hi.vars;omega
 have:=iY hi.q (fun x d=>Lk (Cz hv) hi.q hh r d) u j.small g.2;exact⟨hi.q,r,this.1,this.2⟩
end Go.Sf.Sc
namespace Go.Sf.Sc
open Go Go.Sf
inductive CV(t:AC):ec->d7->Prop where
 |mk (p:ec) (c:d7) (few:c.gp.length<=40) (rng:1<=c.mo/\c.mo<=5) (one:c.mo=2\/c.mo=5->c.gp.length=1) (ins:c.mo=5->bn t p c) (kids:∀k∈c.gp,CV t (if c.mo=5 then c.ec else p) k):CV t p c
variable{t:AC}{p:ec}{c:d7}
theorem CV.few(h:CV t p c):c.gp.length<=40:=by cases h;assumption
theorem CV.rng(h:CV t p c):1<=c.mo/\c.mo<=5:=by cases h;assumption
theorem CV.one(h:CV t p c):c.mo=2\/c.mo=5->c.gp.length=1:=by cases h;assumption
theorem CV.ins(h:CV t p c):c.mo=5->bn t p c:=by cases h;assumption
theorem CV.kids(h:CV t p c):∀k∈c.gp,CV t (if c.mo=5 then c.ec else p) k:=by cases h;assumption
theorem CV.kid(h:CV t p c)(d:¬c.mo=5):∀k∈c.gp,CV t p k:=fun k e=>by have:=h.kids k e;rwa[az d]at this
theorem CV.kid5(h:CV t p c)(d:c.mo=5):∀k∈c.gp,CV t c.ec k:=fun k e=>by have:=h.kids k e;rwa[ae d]at this
theorem Ro:∀l:List d7,l.length<=Pc l
 |[]=>by simp|c::l=>by
  have:=Ro l
  grind [Pc,Dv,Rp,c8]
variable{q:ec}{v:Int}
theorem rP(hv:(Au t).2=0)(h:R3 t q v=0):RO t q:=by grind[R3,fx]
theorem ip(hv:(Au t).2=0):∀(N:Nat)(c:d7)(p:ec),SizeOf.sizeOf c<=N->Dv c<=40->QG N c=true->Jk N t p c=0->CV t p c
 |0,c,_,h,_,_,_=>by have:=D7 c;omega|N+1,c,p,h,M,z,ho=>by
  have E:=Rp c;have F:=Ro c.gp;rw[QG,tg]at z;obtain⟨u,o⟩:=z;have d:c.mo=2\/c.mo=5->c.gp.length=1:=by
   intro j;unfold Q1 at u
   grind
  have g:1<=c.mo/\c.mo<=5:=by
   grind [Q1]
  have w:∀q,(fst (fun i=>nz (Jk N t q (AA c.gp i))) 0 c.gp.length).getD 0=0->∀k∈c.gp,CV t q k:=by
   intro q A k j;have G:=UL A;have K:=TN j;have L:=E5 j;rw[List.all_eq_true]at o;obtain⟨i,H,I,e⟩:=BW j;have y:=G i H I;rw[e]at y;exact ip hv N k q (by omega) (by omega) (o k j) y
  rw [Jk]at ho;by_cases r:c.mo=5
  .rw[ae r]at ho;split at ho
   .cases ho
   rename_i J;split at ho
   .grind
   rename_i B;split at ho
   .grind
   rename_i C;split at ho
   .cases ho
   rename_i D;refine CV.mk p c (by omega) g d (fun _=>⟨rP hv (Classical.not_not.1 B),by omega,Sh (Classical.not_not.1 C),by simpa using D⟩) ?_
   grind
  .rw[az r]at ho;refine CV.mk p c (by omega) g d (fun e=>absurd e r) ?_
   grind
section
variable{α σ ρ:Type}
variable{f:Int->σ->Option (Bk σ ρ)}
theorem RR[Inhabited α]{l:List α}(step:α->σ->Bk σ ρ)(I:Int->σ->Prop)(h:∀(i:Int)s,0<=i->i<l.length->I i s->f i s=some (step (AA l i) s)/\∀s',step (AA l i) s=.next s'->I (i+1) s'):
  ∀(n:Nat)(a:Int)(s:σ),0<=a->a+n=l.length->I a s->Aac f n a s=some (Dt step (l.drop a.toNat) s)
 |0,a,s,d,o,_=>by
  rw [List.drop_eq_nil_of_le (by omega)];rfl
 |n+1,a,s,d,o,u=>by
  obtain ⟨g,j⟩:=h a s d (by omega) u;have hd:l.drop a.toNat=AA l a::l.drop (a+1).toNat:=by
   grind [List.drop_eq_getElem_cons,AA,List.getElem?_eq_getElem]
  rw [EN,g,hd,Dt];cases e:step (AA l a) s with
  |next s'=>
   simp only;exact RR step I h n (a+1) s' (by omega) (by omega) (j s' e)
  |brk s'=>rfl|ret r=>rfl
theorem UI[Inhabited α]{l:List α}(step:α->σ->Bk σ ρ)(I:Int->σ->Prop){s:σ}(d:I 0 s)(h:∀(i:Int)s,0<=i->i<l.length->I i s->f i s=some (step (AA l i) s)/\∀s',step (AA l i) s=.next s'->I (i+1) s'):
  j4 f 0 l.length s=some (Dt step l s):=by
 have:=RR step I h l.length 0 s (by omega) (by omega) d;unfold j4;rw[show((l.length:Int)-0).toNat=l.length by omega];exact this
theorem Uv{d s2:α->σ->Bk σ ρ}:∀{l:List α}{s:σ},(∀a∈l,d a=s2 a)->Dt d l s=Dt s2 l s
 |[],_,_=>rfl|a::l,s,h=>by
  rw [Dt,Dt,h a (by simp)];split
  .exact Uv fun b e=>h b (by simp[e])
  .rfl
  .rfl
end
abbrev zM:AL:=⟨⟨[],[]⟩,[]⟩
abbrev zP:Ay:=⟨0,zM,[]⟩
def Ls(w:d7->Ay×Int)(k:d7)(s:Ay×Ay):Bk (Ay×Ay) (Ay×Int):=
 if (w k).2≠0 then .ret (zP,(w k).2)else .next (s.1,⟨s.2.AaB,s.2.og,s.2.gp++[(w k).1]⟩)
def Ra(w:d7->Ay×Int)(l:List d7):Ay×Int:=
 match Dt (Ls w) l (zP,zP)with
 |.inl s=>(s.2,0)|.inr r=>r
def CZ(t:AC)(h:AG)(inj:Bool):Nat->d7->AL->Ay×Int
 |0,_,_=>(zP,0)|N+1,c,m=>
  if c.mo=2 then(if(CZ t h inj N (AA c.gp 0) m).2=0 then(zP,10)else if(CZ t h inj N (AA c.gp 0) m).2=10 then(zP,0)else(zP,(CZ t h inj N (AA c.gp 0) m).2))else
  if c.mo=3 then Ra (fun k=>CZ t h inj N k m) c.gp else
  if c.mo=4 then(fst (fun i=>if(CZ t h inj N (AA c.gp i) m).2=0 then some (⟨i,zM,[(CZ t h inj N (AA c.gp i) m).1]⟩,0)else if(CZ t h inj N (AA c.gp i) m).2≠10 then some (zP,(CZ t h inj N (AA c.gp i) m).2)else none) 0 c.gp.length).getD (zP,10)else
  if c.mo=5 then
   (if(DR t c h m inj).2≠0 then(zP,(DR t c h m inj).2)else
   (fst (fun i=>if(CZ t h inj N (AA c.gp 0) (AA (DR t c h m inj).1 i)).2=0 then some (⟨0,AA (DR t c h m inj).1 i,[(CZ t h inj N (AA c.gp 0) (AA (DR t c h m inj).1 i)).1]⟩,0)else
    if (CZ t h inj N (AA c.gp 0) (AA (DR t c h m inj).1 i)).2≠10 then some (zP,(CZ t h inj N (AA c.gp 0) (AA (DR t c h m inj).1 i)).2)else none) 0 (DR t c h m inj).1.length).getD (zP,10))else
  (zP,0)
def CY(t:AC)(h:AG)(inj:Bool):Nat->d7->AL->Ay×Int
 |0,_,_=>(zP,0)|N+1,c,m=>
  if c.mo=2 then(if(CY t h inj N (AA c.gp 0) m).2=0 then(zP,10)else if(CY t h inj N (AA c.gp 0) m).2=10 then(zP,0)else(zP,(CY t h inj N (AA c.gp 0) m).2))else
  if c.mo=3 then Ra (fun k=>CY t h inj N k m) c.gp else
  if c.mo=4 then(fst (fun i=>if(CY t h inj N (AA c.gp i) m).2≠10 then some (⟨i,zM,[(CY t h inj N (AA c.gp i) m).1]⟩,(CY t h inj N (AA c.gp i) m).2)else none) 0 c.gp.length).getD (zP,10)else
  if c.mo=5 then
   (if(DR t c h m inj).2≠0 then(zP,(DR t c h m inj).2)else
   (fst (fun i=>if(CY t h inj N (AA c.gp 0) (AA (DR t c h m inj).1 i)).2≠10 then some (⟨0,AA (DR t c h m inj).1 i,[(CY t h inj N (AA c.gp 0) (AA (DR t c h m inj).1 i)).1]⟩,(CY t h inj N (AA c.gp 0) (AA (DR t c h m inj).1 i)).2)else none) 0 (DR t c h m inj).1.length).getD (zP,10))else
  (zP,0)
def Kc(x:Ay×Int):Ay×Int:=if x.2=0 then x else(zP,x.2)
theorem cl(x:Ay×Int):(Kc x).2=x.2:=by unfold Kc;split<;>rfl
theorem cj{x:Ay×Int}(h:x.2=0):(Kc x).1=x.1:=by unfold Kc;rw[ae h]
theorem ex(w:d7->Ay×Int)(l:List d7):Kc (Ra w l)=Ra w l:=by
 unfold Ra;have:∀(l:List d7)(s:Ay×Ay)(r:Ay×Int),Dt (Ls w) l s=.inr r->Kc r=r:=by
  intro l
  induction l with
  |nil=>intro s r h;cases h
  |cons a l j=>
   intro s r h;rw[Dt]at h;split at h
   .exact j _ _ h
   .cases h
   .rename_i o d;cases h;unfold Ls at d;split at d
    .rename_i e;cases d;unfold Kc;rw[az e]
    .cases d
 cases g:Dt (Ls w) l (zP,zP)with
 |inl s=>rfl|inr r=>exact this _ _ _ g
theorem Vk(o:Option (Ay×Int)):Kc (o.getD (zP,10))=(o.map Kc).getD (zP,10):=by cases o<;>rfl
theorem Z9(t:AC)(h:AG)(inj:Bool):∀(N:Nat)(c:d7)(m:AL),CZ t h inj N c m=Kc (CY t h inj N c m)
 |0,_,_=>rfl|N+1,c,m=>by
  have w:=Z9 t h inj N;have key:∀(c:d7)(m:AL),(CZ t h inj N c m).2=(CY t h inj N c m).2:=fun c m=>by rw[w,cl]
  have pick:∀(k:d7)(m x:AL)(i:Int),(if(CZ t h inj N k m).2=0 then some ((⟨i,x,[(CZ t h inj N k m).1]⟩:Ay),(0:Int))else if(CZ t h inj N k m).2≠10 then some (zP,(CZ t h inj N k m).2)else none)=(if(CY t h inj N k m).2≠10 then some ((⟨i,x,[(CY t h inj N k m).1]⟩:Ay),(CY t h inj N k m).2)else none).map Kc:=by
   intro k m x i;rw[key];by_cases d:(CY t h inj N k m).2=0
   .rw[ae d,ae (by omega),w,cj d];simp[Kc,d]
   .rw[az d];by_cases e:(CY t h inj N k m).2≠10
    .rw[ae e,ae e];simp[Kc,d]
    grind
  rw [CZ,CY];by_cases j:c.mo=2
  .rw[ae j,ae j,key];by_cases d:(CY t h inj N (AA c.gp 0) m).2=0
   .rw[ae d];rfl
   .rw[az d];by_cases e:(CY t h inj N (AA c.gp 0) m).2=10
    .rw[ae e];rfl
    .rw[az e];unfold Kc;rw[az d]
  rw [az j,az j];by_cases o:c.mo=3
  .rw[ae o,ae o,ex];unfold Ra;rw[Uv (s2:=Ls fun k=>CY t h inj N k m)];intro k _;funext s;unfold Ls;simp only[key];by_cases d:(CY t h inj N k m).2=0
   .rw[az (by simp[d]),az (by simp[d]),w,cj d]
   .rw[ae d,ae d]
  rw [az o,az o];by_cases r:c.mo=4
  .rw[ae r,ae r,Vk,<-OX];congr 1;exact congrArg (fun F=>fst F 0 (c.gp.length:Int)) (funext fun i=>pick _ _ _ _)
  rw [az r,az r];by_cases u:c.mo=5
  .rw[ae u,ae u];by_cases g:(DR t c h m inj).2≠0
   .rw[ae g,ae g];unfold Kc;rw[az g]
   .rw[az g,az g,Vk,<-OX];congr 1;exact congrArg (fun F=>fst F 0 ((DR t c h m inj).1.length:Int)) (funext fun i=>pick _ _ _ _)
  rw [az u,az u];rfl
end Go.Sf.Sc
namespace Go.Sf.Sc
open Go Go.Sf
def PI(i:Int)(s:Ay×Ay):Prop:=(s.2.gp.length:Int)=i
theorem Ui{s:An}(hf:Ap s.t)(hv:(Au s.t).2=0)(hh:IF s.t s.h):∀(N:Nat)(c:d7)(p:ec)(m:AL),SizeOf.sizeOf c<=N->CV s.t p c->Tr s.t p s.h m->∀n,2*N<=n->Ai n s c m=some (CZ s.t s.h s.ej N c m)
 |0,c,_,_,h,_,_,_,_=>by have:=D7 c;omega|N+1,c,p,m,h,o,y,n,E=>by
  obtain ⟨n,rfl⟩:∃k,n=k+2:=⟨n-2,by omega⟩;have kid:∀(i:Int),0<=i->i<c.gp.length->SizeOf.sizeOf (AA c.gp i)<=N:=fun i d e=>by
   have:=E5 (AJ (l:=c.gp) d e);omega
  rw [Ai,CZ];by_cases r:c.mo=2
  .have D:=o.one (.inl r);rw[ae (by simpa using r),ae r,AD (by omega) (by omega),bs,Ui hf hv hh N _ p m (kid 0 (by omega) (by omega)) (o.kid (by omega) _ (AJ (by omega) (by omega))) y (n+1) (by omega),bs]
   grind
  rw [az (by simpa using r),az r];by_cases z:c.mo=3
  .rw[ae (by simpa using z),ae z];have B:=o.few;rw[UI (Ls fun k=>CZ s.t s.h s.ej N k m) PI (show PI 0 (zP,zP)from rfl)]
   .unfold Ra;show ff (some (Dt (Ls fun k=>CZ s.t s.h s.ej N k m) c.gp (zP,zP))) _ _=_;cases Dt (Ls fun k=>CZ s.t s.h s.ej N k m) c.gp (zP,zP)<;>rfl
   .intro i st d e hi;unfold PI at hi;rw[AD d e,bs,Ui hf hv hh N _ p m (kid i d e) (o.kid (by omega) _ (AJ d e)) y (n+1) (by omega),bs]
    grind [Ls,CZ,AA,Af,Ae,PI]
  rw [az (by simpa using z),az z];by_cases A:c.mo=4
  .rw[ae (by simpa using A),ae A];rw[KG (fun _=>zP) (fun i=>if(CZ s.t s.h s.ej N (AA c.gp i) m).2=0 then some (⟨i,zM,[(CZ s.t s.h s.ej N (AA c.gp i) m).1]⟩,0)else if(CZ s.t s.h s.ej N (AA c.gp i) m).2≠10 then some (zP,(CZ s.t s.h s.ej N (AA c.gp i) m).2)else none) (by omega) rfl]
   .cases fst (fun i=>if(CZ s.t s.h s.ej N (AA c.gp i) m).2=0 then some ((⟨i,zM,[(CZ s.t s.h s.ej N (AA c.gp i) m).1]⟩:Ay),(0:Int))else if(CZ s.t s.h s.ej N (AA c.gp i) m).2≠10 then some (zP,(CZ s.t s.h s.ej N (AA c.gp i) m).2)else none) 0 c.gp.length<;>rfl
   .intro i d e _;rw[AD d e,bs,Ui hf hv hh N _ p m (kid i d e) (o.kid (by omega) _ (AJ d e)) y (n+1) (by omega),bs];generalize CZ s.t s.h s.ej N (AA c.gp i) m=x;by_cases j:x.2=0
    .rw[ae (by simpa using j),ae j];try rfl
    .rw[az (by simpa using j),az j];by_cases g:x.2=10
     .rw[az (by simp[g]),az (by simp[g])];try rfl
     .rw[ae (by simp[g]),ae g];try rfl
  rw [az (by simpa using A),az A];by_cases u:c.mo=5
  .rw[ae (by simpa using u),ae u];have hi:=o.ins u;have D:=o.one (.inr u);rw[BF,nZ hf hv hh y hi,bs];by_cases w:(DR s.t c s.h m s.ej).2=0
   .obtain⟨g,C⟩:=ZO hv hh y hi w;rw[az (by simp[w]),az (by simp[w])];generalize (DR s.t c s.h m s.ej).1=l at g C;rw[KG (fun _=>zP) (fun i=>if(CZ s.t s.h s.ej N (AA c.gp 0) (AA l i)).2=0 then some (⟨0,AA l i,[(CZ s.t s.h s.ej N (AA c.gp 0) (AA l i)).1]⟩,0)else if(CZ s.t s.h s.ej N (AA c.gp 0) (AA l i)).2≠10 then some (zP,(CZ s.t s.h s.ej N (AA c.gp 0) (AA l i)).2)else none) (by omega) rfl]
    .cases fst (fun i=>if(CZ s.t s.h s.ej N (AA c.gp 0) (AA l i)).2=0 then some ((⟨0,AA l i,[(CZ s.t s.h s.ej N (AA c.gp 0) (AA l i)).1]⟩:Ay),(0:Int))else if(CZ s.t s.h s.ej N (AA c.gp 0) (AA l i)).2≠10 then some (zP,(CZ s.t s.h s.ej N (AA c.gp 0) (AA l i)).2)else none) 0 l.length<;>rfl
    .intro i d e _;rw[AD d e,bs,AD (by omega) (by omega),bs,Ui hf hv hh N _ c.ec _ (kid 0 (by omega) (by omega)) (o.kid5 u _ (AJ (by omega) (by omega))) (C _ (AJ d e)) n (by omega),bs];generalize CZ s.t s.h s.ej N (AA c.gp 0) (AA l i)=x;by_cases j:x.2=0
     .rw[ae (by simpa using j),ae j];try rfl
     .rw[az (by simpa using j),az j];by_cases g:x.2=10
      .rw[az (by simp[g]),az (by simp[g])];try rfl
      .rw[ae (by simp[g]),ae g];try rfl
   .rw[ae (by simp[w]),ae w];try rfl
  grind
variable{t:AC}
theorem P8{d:AG}{inj:Bool}(hf:Ap t)(hv:(Au t).2=0)(hh:IF t d):∀(N:Nat)(c:d7)(p:ec)(m:AL),SizeOf.sizeOf c<=N->CV t p c->Tr t p d m->∀n,N<=n->Dh n t c d m inj=some (CY t d inj N c m)
 |0,c,_,_,h,_,_,_,_=>by have:=D7 c;omega|N+1,c,p,m,h,o,w,n,E=>by
  obtain ⟨n,rfl⟩:∃k,n=k+1:=⟨n-1,by omega⟩;have kid:∀(i:Int),0<=i->i<c.gp.length->SizeOf.sizeOf (AA c.gp i)<=N:=fun i e g=>by
   have:=E5 (AJ (l:=c.gp) e g);omega
  rw [Dh,CY];by_cases r:c.mo=2
  .have D:=o.one (.inl r);rw[ae (by simpa using r),ae r,AD (by omega) (by omega),bs,P8 hf hv hh N _ p m (kid 0 (by omega) (by omega)) (o.kid (by omega) _ (AJ (by omega) (by omega))) w n (by omega),bs]
   grind
  rw [az (by simpa using r),az r];by_cases y:c.mo=3
  .rw[ae (by simpa using y),ae y];have B:=o.few;rw[UI (Ls fun k=>CY t d inj N k m) PI (show PI 0 (zP,zP)from rfl)]
   .unfold Ra;show ff (some (Dt (Ls fun k=>CY t d inj N k m) c.gp (zP,zP))) _ _=_;cases Dt (Ls fun k=>CY t d inj N k m) c.gp (zP,zP)<;>rfl
   .intro i st e g hi;unfold PI at hi;rw[AD e g,bs,P8 hf hv hh N _ p m (kid i e g) (o.kid (by omega) _ (AJ e g)) w n (by omega),bs]
    grind [Ls,CY,AA,Af,Ae,PI]
  rw [az (by simpa using y),az y];by_cases z:c.mo=4
  .rw[ae (by simpa using z),ae z];rw[KG (fun _=>zP) (fun i=>if(CY t d inj N (AA c.gp i) m).2≠10 then some (⟨i,zM,[(CY t d inj N (AA c.gp i) m).1]⟩,(CY t d inj N (AA c.gp i) m).2)else none) (by omega) rfl]
   .cases fst (fun i=>if(CY t d inj N (AA c.gp i) m).2≠10 then some ((⟨i,zM,[(CY t d inj N (AA c.gp i) m).1]⟩:Ay),(CY t d inj N (AA c.gp i) m).2)else none) 0 c.gp.length<;>rfl
   .intro i e g _;rw[AD e g,bs,P8 hf hv hh N _ p m (kid i e g) (o.kid (by omega) _ (AJ e g)) w n (by omega),bs];generalize CY t d inj N (AA c.gp i) m=x;by_cases j:x.2=10
    .rw[az (by simp[j]),az (by simp[j])];try rfl
    .rw[ae (by simp[j]),ae j];try rfl
  rw [az (by simpa using z),az z];by_cases u:c.mo=5
  .rw[ae (by simpa using u),ae u];have hi:=o.ins u;have D:=o.one (.inr u);rw[oC hf hv hh w hi,bs];by_cases A:(DR t c d m inj).2=0
   .obtain⟨j,C⟩:=ZO hv hh w hi A;rw[az (by simp[A]),az (by simp[A])];generalize (DR t c d m inj).1=l at j C;rw[KG (fun _=>zP) (fun i=>if(CY t d inj N (AA c.gp 0) (AA l i)).2≠10 then some (⟨0,AA l i,[(CY t d inj N (AA c.gp 0) (AA l i)).1]⟩,(CY t d inj N (AA c.gp 0) (AA l i)).2)else none) (by omega) rfl]
    .cases fst (fun i=>if(CY t d inj N (AA c.gp 0) (AA l i)).2≠10 then some ((⟨0,AA l i,[(CY t d inj N (AA c.gp 0) (AA l i)).1]⟩:Ay),(CY t d inj N (AA c.gp 0) (AA l i)).2)else none) 0 l.length<;>rfl
    .intro i e g _;rw[AD (by omega) (by omega),bs,AD e g,bs,P8 hf hv hh N _ c.ec _ (kid 0 (by omega) (by omega)) (o.kid5 u _ (AJ (by omega) (by omega))) (C _ (AJ e g)) n (by omega),bs];generalize CY t d inj N (AA c.gp 0) (AA l i)=x;by_cases j:x.2=10
     .rw[az (by simp[j]),az (by simp[j])];try rfl
     .rw[ae (by simp[j]),ae j];try rfl
   grind
  grind
end Go.Sf.Sc
namespace Go.Sf.Sc
open Go Go.Sf
noncomputable def Rl(t:AC)(p:ec)(c:d7)(h:AG)(m:AL)(inj:Bool):Int:=
 if Lz t p c≠0 then Lz t p c else if(Hc t h).2≠0 then(Hc t h).2 else if FK t p.d5 h.d5 m.d6 inj≠0 then FK t p.d5 h.d5 m.d6 inj else
 if (FL t p h m.d6).2≠0 then(FL t p h m.d6).2 else if(FL t p h m.d6).1=m.hT then 0 else 11
variable{t:AC}{c:d7}
theorem fg(hf:Ap t)(p:ec)(d:DV c)(h:AG)(m:AL)(inj:Bool):D2 t p c h m inj=some (Rl t p c h m inj):=by
 unfold D2 Rl;rw[kZ hf p d,bs];refine DY fun _=>?_;rw[SF hf,bs];refine DY fun _=>?_;rw[VH hf,bs];refine DY fun _=>?_;rw[Zc hf,bs];refine DY fun _=>?_;rw[jA,bs]
 grind
variable{p:ec}{h:AG}
theorem UA(hf:Ap t)(z:Dv c<=40){m:AL}{inj:Bool}(e:Rl t p c h m inj=0):(Au t).2=0/\IF t h/\CV t p c/\Tr t p h m:=by
 unfold Rl at e;split at e
 .grind
 rename_i d;split at e
 .grind
 rename_i j;split at e
 .grind
 rename_i o;split at e
 .grind
 rename_i r;split at e
 case isFalse=>cases e
 rename_i C;have d:=Classical.not_not.1 d;have j:=Classical.not_not.1 j;have o:=Classical.not_not.1 o;have r:=Classical.not_not.1 r;obtain⟨hv,hh⟩:=Se hf j;have w:=(XI o).2;unfold Lz at d;split at d
 .grind
 rename_i A;split at d
 .grind
 rename_i u;have y:=fx hv (.inl (Classical.not_not.1 A));have u:=Classical.not_not.1 u;have B:jW c=true:=by
  grind [O1]
 suffices g:(m.hT.length:Int)=p.hT/\Nx m.hT from⟨hv,hh,ip hv _ c p (bk _) z B d,y,w,g.1,g.2⟩
 have g:∀s∈p.fq,IG p.hT h m.d6 s:=fun s g=>Lk (Cz hv) y hh w g
 grind [FL,du]
end Go.Sf.Sc
namespace Go.Sf.Sc
open Go Go.Sf
def OY:Nat->d7->Bool
 |0,_=>true|N+1,c=>if ne (fun i=>!OY N (AA c.gp i)) 0 c.gp.length=true then false else decide (Ad ((c.ec.d5.d3.length:Int)+c.ec.d5.d4.length)<=6)
theorem V6:∀(N:Nat)(c:d7),SizeOf.sizeOf c<=N->∀n,N<=n->FG n c=some (OY N c)
 |0,c,h,_,_=>by have:=D7 c;omega|N+1,c,h,n,g=>by
  obtain ⟨n,rfl⟩:∃k,n=k+1:=⟨n-1,by omega⟩;rw[FG,OY,BJ (fun i=>!OY N (AA c.gp i)) false]
  .cases ne (fun i=>!OY N (AA c.gp i)) 0 c.gp.length<;>rfl
  .intro i d e _;have:=E5 (AJ (l:=c.gp) d e);rw[AD d e,bs,V6 N _ (by omega) n (by omega),bs,Hw]
theorem gC(c:d7):O0 c=some (OY (SizeOf.sizeOf c) c):=EG (SizeOf.sizeOf c) fun n d=>V6 _ c (bk _) n d
def R8(a:Int):Nat->Int->Int
 |0,s=>s|k+1,s=>Ad (R8 a k s*a)
theorem jD{a b k s:Int}(g:0<=k)(e:k<=1000)(j:b<=1000):EA (ρ:=Bool) (fun(d:Int×Int)=>
  if (decide (d.2<b))=true then
  some (.next (Ad (d.1*a),Ad (d.2+1)))
  else
  some (.brk (d.1,d.2))) (s,k)=some (.inl (R8 a (max k b-k).toNat s,max k b)):=by
 refine Mg (fun i=>R8 a (i-k).toNat s) (by omega) (by rw[show(k-k).toNat=0 by omega];rfl) (fun i o r=>?_) ?_
 .rw[ae (by simp;omega),show(i+1-k).toNat=(i-k).toNat+1 by omega,R8];dsimp only;rw[Am (n:=i+1) (by omega) (by omega)]
 .rw[az (by simp;omega)]
def Oj(a b:Int):Nat->ec->d7->Bool
 |0,_,_=>true|N+1,p,c=>
  let q:=if c.mo=5 then c.ec else p
  if ne (fun i=>!Oj a b N q (AA c.gp i)) 0 c.gp.length=true then false else
  decide (R8 b (max (p.d5.d4.length:Int) q.d5.d4.length-p.d5.d4.length).toNat (R8 a (max (p.d5.d3.length:Int) q.d5.d3.length-p.d5.d3.length).toNat 1)<=5000)
theorem X9(a b:Int):∀(N:Nat)(c:d7)(p:ec),SizeOf.sizeOf c<=N->DV c->Mm p->∀n,N<=n->Ds n p c a b=some (Oj a b N p c)
 |0,c,_,h,_,_,_,_=>by have:=D7 c;omega|N+1,c,p,h,g,z,n,K=>by
  obtain ⟨n,rfl⟩:∃k,n=k+1:=⟨n-1,by omega⟩;have E:=g.q.ei;have F:=g.q.em;have G:=z.ei;have H:=z.em;have e:∀q:ec,Mm q->(ff (EA (ρ:=Bool) (fun(d:Int×Int)=>
    if (decide (d.2<(q.d5.d3.length:Int)))=true then
    some (.next (Ad (d.1*a),Ad (d.2+1)))
    else
    some (.brk (d.1,d.2))) (1,(p.d5.d3.length:Int))) (fun d=>
    ff (EA (ρ:=Bool) (fun(s2:Int×Int)=>
    if (decide (s2.2<(q.d5.d4.length:Int)))=true then
    some (.next (Ad (s2.1*b),Ad (s2.2+1)))
    else
    some (.brk (s2.1,s2.2))) (d.1,(p.d5.d4.length:Int))) (fun s2=>
    ff (j4 (ρ:=Bool) (fun(A:Int)(_:Unit)=>
    (idx c.gp A).bind fun j=>
    (Ds n q j a b).bind fun o=>
    if (!o)=true then
    some (.ret false)
    else
    some (.next ())) 0 (c.gp.length:Int) ()) (fun _=>
    some (decide (s2.1<=5000))) (fun B=>some B)) (fun C=>some C)) (fun D=>some D))=
    some (if ne (fun i=>!Oj a b N q (AA c.gp i)) 0 c.gp.length=true then false else
     decide (R8 b (max (p.d5.d4.length:Int) q.d5.d4.length-p.d5.d4.length).toNat (R8 a (max (p.d5.d3.length:Int) q.d5.d3.length-p.d5.d3.length).toNat 1)<=5000)):=by
   intro q r;have I:=r.ei;have J:=r.em;rw[jD (by omega) (by omega) (by omega),BT];dsimp only;rw[jD (by omega) (by omega) (by omega),BT,BJ (fun i=>!Oj a b N q (AA c.gp i)) false]
   .cases ne (fun i=>!Oj a b N q (AA c.gp i)) 0 c.gp.length<;>rfl
   .intro i u w _;have:=E5 (AJ (l:=c.gp) u w);rw[AD u w,bs,X9 a b N _ q (by omega) (g.k _ (AJ u w)) r n (by omega),bs,Hw]
  rw [Ds,Oj];by_cases y:c.mo=5
  .rw[ae (by simpa using y),ae y,bs,e _ g.q]
  grind
variable{c:d7}{p:ec}
theorem dI(a b:Int)(d:DV c)(e:Mm p):N4 p c a b=some (Oj a b (SizeOf.sizeOf c) p c):=EG (SizeOf.sizeOf c) fun n g=>X9 a b _ c p (bk _) d e n g
theorem XP(h:AG):∃b,GZ h=some b:=by
 unfold GZ Hh;rw[bs];split
 .exact⟨_,rfl⟩
 .rw[BJ (fun i=>decide (12<((AA h.gn i).length:Int))) false]
  .cases ne (fun i=>decide (12<((AA h.gn i).length:Int))) 0 h.gn.length
   .exact⟨true,rfl⟩
   .exact⟨false,rfl⟩
  .intro i d e _;rw[AD d e,bs,Hw]
variable{t:AC}
theorem dM(hf:Ap t)(st:(AP t).Sm)(p g:d5):∃b,Kr t p g=some b:=by
 obtain ⟨b,e,_⟩:=Rt st;unfold Kr Hh;rw[e,bs,RF hf]
 grind
theorem dN(hf:Ap t)(st:(AP t).Sm)(p:ec)(w:(AK c).Sm)(h:AG):∃b,Kv t p c h=some b/\(b=true->DV c/\Dv c<=40/\Mm p):=by
 obtain ⟨y,z,A⟩:=cM w;obtain⟨B,r,C⟩:=P1 p;obtain⟨D,u⟩:=XP h;unfold Kv;rw[z,bs];cases y
 .exact⟨false,rfl,fun h=>by cases h⟩
 rw [r];cases B
 .exact⟨false,rfl,fun h=>by cases h⟩
 rw [u];cases D
 .exact⟨false,rfl,fun h=>by cases h⟩
 have g:=A rfl;have j:=C rfl;simp only[bs,Bool.not_true,Bool.false_eq_true,if_false];rw[dJ hf p g.1,bs];have d:∀o:K1,(∃b,o=some b)->∃b,o=some b/\(b=true->DV c/\Dv c<=40/\Mm p):=fun o⟨b,e⟩=>⟨b,e,fun _=>⟨g.1,g.2,j⟩⟩;refine d _ ?_;split
 .exact⟨true,rfl⟩
 .obtain⟨E,F⟩:=dM hf st p.d5 h.d5;unfold NP;rw[r,u,F,gC,dI 14 18 g.1 j];simp only[bs,if_true];cases E<;>simp only[Bool.false_eq_true,if_false,if_true,bs,Bool.false_and]
  .exact⟨_,rfl⟩
  .split
   .exact⟨_,rfl⟩
   .exact⟨_,rfl⟩
noncomputable def wS(t:AC)(p:ec)(c:d7)(h:AG)(m:AL)(inj:Bool):Ay×Int:=
 if Rl t p c h m inj≠0 then(zP,Rl t p c h m inj)else CZ t h inj (SizeOf.sizeOf c) c m
theorem dE(hf:Ap t)(p:ec)(e:DV c)(g:Dv c<=40)(h:AG)(m:AL)(inj:Bool):DH t p c h m inj=some (wS t p c h m inj):=by
 unfold DH wS;rw[fg hf p e,bs];refine C8 fun j=>?_;obtain⟨hv,hh,d,r⟩:=UA hf g j;rw[show DO (An.mk t h inj) c m=some (CZ t h inj (SizeOf.sizeOf c) c m)from EG (2*SizeOf.sizeOf c) fun n o=>Ui (s:=⟨t,h,inj⟩) hf hv hh _ c p m (bk _) d r n o];rfl
noncomputable def LP(t:AC)(p:ec)(c:d7)(h:AG)(m:AL)(inj:Bool):Bool×Int:=
 if (wS t p c h m inj).2=10 then(false,0)else(decide ((wS t p c h m inj).2=0),(wS t p c h m inj).2)
theorem Yy(hf:Ap t)(p:ec)(d:DV c)(e:Dv c<=40)(h:AG)(m:AL)(inj:Bool):Cp t p c h m inj=some (LP t p c h m inj):=by grind[Cp,LP,dE,wS]
variable{h:AG}
theorem gA(hf:Ap t){inj:Bool}{m:AL}(hv:(Au t).2=0)(hh:IF t h)(d:CV t p c)(e:Tr t p h m):Pl t c h m inj=some (CY t h inj (SizeOf.sizeOf c) c m):=EG (SizeOf.sizeOf c) fun n g=>P8 hf hv hh _ c p m (bk _) d e n g
end Go.Sf.Sc
namespace Go.Sf.Sc
open Go Go.Sf
end Go.Sf.Sc
namespace Go.Sf.Sc
open Go Go.Sf
theorem ly(t:AC)(p:ec)(c:d7)(h:AG)(m:AL)(inj:Bool):wS t p c h m inj=if Rl t p c h m inj≠0 then(zP,Rl t p c h m inj)else Kc (CY t h inj (SizeOf.sizeOf c) c m):=by
 unfold wS;rw[Z9]
end Go.Sf.Sc
