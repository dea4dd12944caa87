/- Plain lemmas: what the functions of the program and of the reference compute. -/
import Derived.Test.YtjgaphkmbjbdkaaGreatP25
set_option linter.all false
set_option maxRecDepth 100000
namespace Go.Sf.Sc
open Go Go.Sf
variable{all:List kg}{k:Int}
theorem R7(h:Mv all k=0)(d:(AA all k).qo.length<=1000):-1000000<=(AA all k).Low/\(AA all k).z5<=1000000:=by grind[Mv]
variable{t:AC}{i:Int}
theorem b6(h:JL t i=0):∀k,((A6 t i).length:Int)-(AA t.d3 i).q0.length<=k->k<(A6 t i).length->Mv (A6 t i) k=0:=by
 unfold JL at h;dsimp only at h;split at h
 .cases h
 split at h
 .cases h
 split at h
 .cases h
 split at h
 .cases h
 exact Vq h
variable{a:Int}
theorem Pv{n:Nat}(d:0<=a):CI t (n+1) a=CI t n (par t a)++(AA t.d3 a).q0:=by grind[CI]
theorem kG(h:Mv all k=0)(d:(AA all k).qo.length<=1000):(AA all k).Low<=(AA all k).z5:=by grind[Mv]
theorem R9(hf:Az t)(h:E0 t){Q:kg->Prop}(R7:∀{all:List kg}{k:Int},Mv all k=0->(AA all k).qo.length<=1000->Q (AA all k)):∀(n:Nat)(a:Int),a<t.d3.length->a<n->∀x∈CI t n a,Q x
 |0,_,_,_=>by simp[CI]|n+1,a,g,C=>by
  by_cases o:a<0
  .rw[J0 o];simp
  .have y:=h.par a (by omega) g;intro x d;rw[Pv (by omega)]at d;rcases List.mem_append.1 d with d|d
   .exact R9 hf h R7 n (par t a) (by omega) (by omega) x d
   .obtain⟨j,A,B,rfl⟩:=Bb d;have e:A6 t a=CI t a.toNat (par t a)++(AA t.d3 a).q0:=by
     unfold A6;rw[show(a+1).toNat=a.toNat+1 by omega,Pv (by omega)]
    have z:(A6 t a).length=(CI t a.toNat (par t a)).length+(AA t.d3 a).q0.length:=by rw[e,ba]
    have r:=b6 (h.node a (by omega) g) ((CI t a.toNat (par t a)).length+j) (by omega) (by omega);have u:AA (A6 t a) ((CI t a.toNat (par t a)).length+j)=AA (AA t.d3 a).q0 j:=by
     grind [NO,AA]
    have w:=Nj hf (Int.le_refl _) h.par g (AA (A6 t a) ((CI t a.toNat (par t a)).length+j)) (AI (by omega) (by omega));have:=R7 r (by have:=w.names;omega)
    rwa [u]at this
theorem SA(hf:Az t)(h:E0 t)(e:0<=a)(d:a<t.d3.length):∀x∈A6 t a,-1000000<=x.Low/\x.z5<=1000000:=R9 hf h R7 _ a d (by omega)
theorem XP(hf:Az t)(h:E0 t)(e:0<=a)(d:a<t.d3.length):∀x∈A6 t a,x.Low<=x.z5:=R9 hf h kG _ a d (by omega)
theorem YT(e:Eh t k):∀(n:Nat)(a b:Int),a<k->a<n->b∈Jl t n a->0<=b/\b<=a/\(A6 t b).length<=(CI t n a).length
 |0,_,_,_,_=>by simp[Jl]|n+1,a,b,g,r=>by
  intro d;rw[Jl]at d;split at d
  .cases d
  .rename_i j;have o:=e a (by omega) g;rw[Pv (by omega)];rcases List.mem_cons.1 d with rfl|d
   .refine⟨by omega,by omega,?_⟩;unfold A6;rw[NP e (b+1).toNat (n+1) b g (by omega) (by omega),Pv (by omega)];exact az _
   .have:=YT e n (par t a) b (by omega) (by omega) d
    grind
variable{b:Int}
theorem Xv(h:E0 t)(j:a<t.d3.length)(d:GD t a b=true):(A6 t b).length<=(A6 t a).length:=by
 unfold GD at d;rw[List.any_eq_true]at d;obtain⟨x,g,e⟩:=d;rw[t2]at e;subst e;by_cases o:a<0
 .have:(a+1).toNat=0:=by omega
  rw [this]at g;cases g
 .exact(YT h.par (a+1).toNat a b j (by omega) g).2.2
theorem eW{α:Type}{Q:Prop}[Decidable Q]{v:α}{X:Option α}{Y:α}(he:a=b↔Q)(h:Q->X=some Y):(if(!decide (a=b))=true then some v else X)=some (if¬Q then v else Y):=by grind
def Qk(t:AC)(k:Int)(v:Fp)(j:Int):Bool:=decide (AA v j<(AA (A6 t k) j).Low)||decide ((AA (A6 t k) j).z5<AA v j)
def G5(t:AC)(k:Int)(v:Fp):Int:=
 if (t.d3.length:Int)<=k then 6 else if(AA t.d3 k).wa=true then 13 else if¬v.length=(A6 t k).length then 20 else
 if ll (Qk t k v) 0 (A6 t k).length=true then 6 else 0
def KZ(t:AC)(g:d5)(i:Int):Int:=
 if (t.d4.length:Int)<=(AA g.d4 i).jj then 6 else if Ix t g i=false then 13 else 0
def FE(t:AC)(h:AF):Int×Int:=
 if (A7 t).2≠0 then(-1,(A7 t).2)else if Bw h.d5≠0 then(-1,Bw h.d5)else if¬h.ed.length=h.d5.d3.length then(-1,20)else
 match fst (fun i=>(nz (G5 t (AA h.d5.d3 i) (AA h.ed i))).map fun e=>(i,e)) 0 h.d5.d3.length with
 |some r=>r|none=>(fst (fun i=>(nz (KZ t h.d5 i)).map fun e=>(i,e)) 0 h.d5.d4.length).getD (-1,0)
theorem Jn(hv:(A7 t).2=0)(d:0<=k)(e:k<t.d3.length):G3 t k=(A6 t k,0):=by grind[G3,MA]
theorem UJ{x:Bool}{y:Bool}:(if x=true then some true else some y)=some (x||y):=by cases x<;>rfl
theorem ob(hf:Az t)(hv:(A7 t).2=0)(d:0<=k)(v:Fp):LV t k v=some (G5 t k v):=by
 unfold LV G5;by_cases e:(t.d3.length:Int)<=k
 .grind
 rw [ae (by simpa using e),ae e,AD d (by omega),bs];refine Zh fun _=>?_;rw[Rs hf,Jn hv d (by omega),bs];refine eW (by simp;omega) fun g=>?_;rw[BQ (Qk t k v) 6]
 .cases ll (Qk t k v) 0 (A6 t k).length<;>rfl
 grind [A6,AD,UJ,Qk,AA]
theorem o5(hf:Az t)(hv:(A7 t).2=0)(d:0<=k)(v:Fp):KD t k v=some (G5 t k v):=by
 unfold KD G5;by_cases e:(t.d3.length:Int)<=k
 .grind
 rw [ae (by simpa using e),ae e,AD d (by omega),bs];refine Zh fun _=>?_;rw[Rt hf,Jn hv d (by omega),bs];refine eW (by simp;omega) fun g=>?_;rw[BQ (Qk t k v) 6]
 .cases ll (Qk t k v) 0 (A6 t k).length<;>rfl
 grind [A6,AD,UJ,Qk,AA]
theorem aG(e i:Int):(if(!decide (e=0))=true then some (CC.ret (σ:=Unit) (ρ:=Int×Int) (i,e))else some (.next ()))=some (RW ((nz e).map fun e=>(i,e))):=by grind[nz,RW]
theorem WG(hf:Az t)(h:AF):GG t h=some (FE t h):=by
 unfold GG FE;rw[Oh hf,bs];refine FG fun hv=>?_;rw[MC,bs];refine FG fun o=>?_;have go:=DF o;refine eW (by omega) fun z=>?_;rw[Bn (fun i=>(nz (G5 t (AA h.d5.d3 i) (AA h.ed i))).map fun e=>(i,e)),EA]
 .cases u:fst (fun i=>(nz (G5 t (AA h.d5.d3 i) (AA h.ed i))).map fun e=>(i,e)) 0 h.d5.d3.length with
  |some r=>rfl|none=>
   have w:=BW.1 u;dsimp only;rw[Bn (fun i=>(nz (KZ t h.d5 i)).map fun e=>(i,e)),EA]
   .grind
   .intro i d g _;have y:=go.fit _ (AI (l:=h.d5.d4) d g);rw[AD d g,bs];unfold KZ Ix;by_cases j:(t.d4.length:Int)<=(AA h.d5.d4 i).jj
    .rw[a6 (by simpa using j),a6 j];rfl
    .rw[ae (by simpa using j),ae j,AD (by omega) (by omega),bs,AD (by omega) (by omega),bs,iM hf,bs];cases Mx t (AA h.d5.d4 i).jj (AA h.d5.d3 (AA h.d5.d4 i).ib) (AA h.d5.d3 (AA h.d5.d4 i).To)<;>rfl
 .intro i d g _;rw[AD d g,bs,AD d (by omega),bs,ob hf hv (go.kind _ (AI d g)).1,bs];exact aG _ i
theorem WQ(hf:Az t)(h:AF):FI t h=some (FE t h):=by
 unfold FI FE;rw[QN hf,bs];refine FG fun hv=>?_;rw[NV,bs];refine FG fun o=>?_;have go:=DF o;refine eW (by omega) fun z=>?_;rw[Bn (fun i=>(nz (G5 t (AA h.d5.d3 i) (AA h.ed i))).map fun e=>(i,e)),EA]
 .cases u:fst (fun i=>(nz (G5 t (AA h.d5.d3 i) (AA h.ed i))).map fun e=>(i,e)) 0 h.d5.d3.length with
  |some r=>rfl|none=>
   have w:=BW.1 u;dsimp only;rw[Bn (fun i=>(nz (KZ t h.d5 i)).map fun e=>(i,e)),EA]
   .grind
   .intro i d g _;have y:=go.fit _ (AI (l:=h.d5.d4) d g);rw[AD d g,bs];unfold KZ Ix;by_cases j:(t.d4.length:Int)<=(AA h.d5.d4 i).jj
    .rw[a6 (by simpa using j),a6 j];rfl
    .rw[ae (by simpa using j),ae j,AD (by omega) (by omega),bs,AD (by omega) (by omega),bs,ip hf,bs];cases Mx t (AA h.d5.d4 i).jj (AA h.d5.d3 (AA h.d5.d4 i).ib) (AA h.d5.d3 (AA h.d5.d4 i).To)<;>rfl
 .intro i d g _;rw[AD d g,bs,AD d (by omega),bs,o5 hf hv (go.kind _ (AI d g)).1,bs];exact aG _ i
structure Hr(t:AC)(h:AF):Prop where
 g:DD h.d5
 len:h.ed.length=h.d5.d3.length
 kind:∀i:Int,0<=i->i<h.d5.d3.length->0<=AA h.d5.d3 i/\AA h.d5.d3 i<t.d3.length
 row:∀i:Int,0<=i->i<h.d5.d3.length->(AA h.ed i).length=(A6 t (AA h.d5.d3 i)).length
 low:∀i:Int,0<=i->i<h.d5.d3.length->∀x∈AA h.ed i,-1000000<=x/\x<=1000000
 ge:Bw h.d5=0
 ty:C9 t h.d5=true
variable{h:AF}
theorem SS(e:(FE t h).2=0):(∀i:Int,0<=i->i<h.d5.d3.length->G5 t (AA h.d5.d3 i) (AA h.ed i)=0)/\∀i:Int,0<=i->i<h.d5.d4.length->KZ t h.d5 i=0:=by
 unfold FE at e;split at e
 .rename_i u;exact absurd e u
 split at e
 .rename_i u;exact absurd e u
 split at e
 .cases e
 rename_i u z A;have y:∀i:Int,0<=i->i<h.d5.d3.length->G5 t (AA h.d5.d3 i) (AA h.ed i)=0:=by
  split at e
  .rename_i r d;obtain⟨i,_,_,k,_⟩:=Cu d;unfold nz at k;split at k
   .cases k
   .rename_i g;cases k;exact absurd e g
  .rename_i d;exact fun i j o=>Kk.1 (NG.1 (BW.1 d i j o))
 have he:∀i:Int,0<=i->i<h.d5.d4.length->KZ t h.d5 i=0:=by
  have w:fst (fun i=>(nz (G5 t (AA h.d5.d3 i) (AA h.ed i))).map fun e=>(i,e)) 0 h.d5.d3.length=none:=BW.2 fun i j o=>by rw[y i j o];rfl
  rw [w]at e;dsimp only at e;cases d:fst (fun i=>(nz (KZ t h.d5 i)).map fun e=>(i,e)) 0 h.d5.d4.length with
  |some r=>
   rw [d]at e;obtain⟨i,_,_,k,_⟩:=Cu d;unfold nz at k;split at k
   .cases k
   .rename_i g;cases k;exact absurd e g
  |none=>exact fun i j o=>Kk.1 (NG.1 (BW.1 d i j o))
 exact ⟨y,he⟩
theorem QH(hf:Az t)(e:(FE t h).2=0):(A7 t).2=0/\Hr t h:=by
 obtain ⟨w,he⟩:=SS e;unfold FE at e;split at e
 .rename_i o;exact absurd e o
 split at e
 .rename_i o;exact absurd e o
 split at e
 .cases e
 rename_i o A D;have hv:=Classical.not_not.1 o;have go:=DF (Classical.not_not.1 A);have u:∀i:Int,0<=i->i<h.d5.d3.length->(0<=AA h.d5.d3 i/\AA h.d5.d3 i<t.d3.length)/\(AA h.ed i).length=(A6 t (AA h.d5.d3 i)).length/\∀j:Int,0<=j->j<(A6 t (AA h.d5.d3 i)).length->Qk t (AA h.d5.d3 i) (AA h.ed i) j=false:=by
  intro i d g;have G:=(go.kind _ (AI d g)).1;have:=w i d g;unfold G5 at this;split at this
  .cases this
  split at this
  .cases this
  split at this
  .cases this
  split at this
  .cases this
  rename_i a1 I E F;exact⟨⟨G,by omega⟩,Classical.not_not.1 E,BV.1 (by simpa using F)⟩
 have z:C9 t h.d5=true:=by
  unfold C9;rw[o4,Bool.not_eq_true',Bool.not_eq_true',List.any_eq_false,List.any_eq_false];refine⟨fun n w=>?_,fun x y=>?_⟩
  .obtain⟨i,d,g,rfl⟩:=Bb w;have:=(u i d g).1.2;simp;omega
  .obtain⟨i,d,g,rfl⟩:=Bb y;have:=he i d g;unfold KZ at this;split at this
   .cases this
   .simp;omega
 suffices r:∀i:Int,0<=i->i<h.d5.d3.length->∀x∈AA h.ed i,-1000000<=x/\x<=1000000 from⟨hv,go,Classical.not_not.1 D,fun i d g=>(u i d g).1,fun i d g=>(u i d g).2.1,r,Classical.not_not.1 A,z⟩
 intro i d g x y;obtain⟨B,J,H⟩:=u i d g;obtain⟨j,C,K,rfl⟩:=Bb y;have:=H j C (by omega);unfold Qk at this;simp[decide_eq_false_iff_not]at this;have:=SA hf (C4 hv) B.1 B.2 _ (AI (l:=A6 t (AA h.d5.d3 i)) C (by omega));omega
end Go.Sf.Sc
namespace Go.Sf.Sc
open Go Go.Sf
def LR(t:AC)(p g:d5)(m:d6)(i:Int):QQ:=
 if AA m.d3 i<0\/g.d3.length<=AA m.d3 i then some 6 else if GD t (AA g.d3 (AA m.d3 i)) (AA p.d3 i)=false then some 13 else none
def PE(t:AC)(p g:d5)(m:d6):Int:=
 if m.d3.length≠p.d3.length\/m.d4.length≠p.d4.length then 20 else
 match fst (LR t p g m) 0 m.d3.length with
 |some e=>e|none=>(fst (G9 p g m) 0 m.d4.length).getD 0
def Gs(t:AC)(p g:d5)(m:d6)(inj:Bool):Int:=
 if GT t p g≠0 then GT t p g else if PE t p g m≠0 then PE t p g m else if(inj&&!LX m)=true then 5 else 0
structure XM(t:AC)(p g:d5)(m:d6):Prop where
 tn:m.d3.length=p.d3.length
 wj:m.d4.length=p.d4.length
 node:∀i:Int,0<=i->i<m.d3.length->(0<=AA m.d3 i/\AA m.d3 i<g.d3.length)/\GD t (AA g.d3 (AA m.d3 i)) (AA p.d3 i)=true
 edge:∀i:Int,0<=i->i<m.d4.length->0<=AA m.d4 i/\AA m.d4 i<g.d4.length
variable{t:AC}
theorem Oc{p g:d5}(h:GT t p g=0):(A7 t).2=0/\DD p/\DD g/\(∀n∈p.d3,0<=n/\n<t.d3.length)/\∀n∈g.d3,0<=n/\n<t.d3.length:=by
 unfold GT at h;split at h
 .grind
 split at h
 .grind
 split at h
 .grind
 split at h
 .rename_i e j o d;rw[o4]at d
  grind [DF,Gx]
 .cases h
variable{m:d6}
theorem di{p g:d5}(h:PE t p g m=0):XM t p g m:=by
 unfold PE at h;split at h
 .cases h
 rename_i o;have j:fst (LR t p g m) 0 m.d3.length=none:=by
  grind [Cu,LR]
 rw [j]at h;have he:=RB (fun i=>by
  grind [G9]) h
 refine ⟨by omega,by omega,fun i d e=>?_,fun i d e=>?_⟩
 .grind[BW,LR]
 grind [G9]
theorem X7(hf:Az t){p g:d5}(A:GT t p g=0)(m:d6):Gb t p g m=some (PE t p g m):=by
 obtain ⟨hv,C,G,tp,D⟩:=Oc A;unfold Gb PE;refine Nl (by simp;try omega) fun E=>?_;rw[nJ hf (C4 hv) hv,bs,Bn (LR t p g m),EA]
 .cases F:fst (LR t p g m) 0 m.d3.length with
  |some e=>rfl|none=>
   dsimp only;rw[Bn (G9 p g m),Cw];intro i j z _;unfold G9;rw[AD j z,bs];by_cases d:AA m.d4 i<0\/g.d4.length<=AA m.d4 i
   .rw[a6 (by simpa using d),a6 d];rfl
   .have hf:=C.fit _ (AI (l:=p.d4) j (by omega));rw[ae (by simpa using d),ae d,AD j (by omega),bs,AD (by omega) (by omega),bs];by_cases o:(AA p.d4 i).jj=(AA g.d4 (AA m.d4 i)).jj
    .rw[ae (by simpa using o),ae (by simpa using o),AD (by omega) (by omega),bs];by_cases r:AA m.d3 (AA p.d4 i).ib=(AA g.d4 (AA m.d4 i)).ib
     .rw[ae (by simpa using r),AD (by omega) (by omega),bs,bs];by_cases u:AA m.d3 (AA p.d4 i).To=(AA g.d4 (AA m.d4 i)).To
      .rw[ae (by simpa using u),ae (by simp[r,u])];rfl
      .rw[a6 (by simpa using u),a6 (.inr u)];rfl
     .rw[a6 (by simpa using r),bs,a6 rfl,a6 (.inl r)];rfl
    .rw[a6 (by simpa using o),a6 o];rfl
 .intro i j z _;unfold LR;rw[AD j z,bs];by_cases d:AA m.d3 i<0\/g.d3.length<=AA m.d3 i
  .rw[a6 (by simpa using d),a6 d];rfl
  .have w:=tp _ (AI (l:=p.d3) j (by omega));have y:=D _ (AI (l:=g.d3) (show 0<=AA m.d3 i by omega) (by omega));rw[ae (by simpa using d),ae d,AD j (by omega),bs,AD w.1 (by unfold KO;rw[ca,A5];exact w.2),bs,AD (by omega) (by omega),bs];have e:AA (KO t) (AA p.d3 i)=OG t (AA p.d3 i):=by unfold KO;exact Hq (OG t) w.1 w.2
   rw [e,AD y.1 (by unfold OG;rw[ca,A5];exact y.2),bs];have B:AA (OG t (AA p.d3 i)) (AA g.d3 (AA m.d3 i))=GD t (AA g.d3 (AA m.d3 i)) (AA p.d3 i):=by unfold OG;exact Hq (fun k=>GD t k (AA p.d3 i)) y.1 y.2
   rw [B];cases GD t (AA g.d3 (AA m.d3 i)) (AA p.d3 i)<;>rfl
variable{l:Fp}
theorem dT(d:l.length<=1000):H4 l=some (!Hu l):=by grind[H4,Uw,J3,Abm,Hu]
theorem W5(hf:Az t)(p g:d5)(m:d6)(inj:Bool):FV t p g m inj=some (Gs t p g m inj):=by
 unfold FV Gs;rw[W8 hf,bs];refine Dz fun d=>?_;rw[X7 hf d,bs];refine Dz fun o=>?_;obtain⟨_,j,r,_⟩:=Oc d;have e:=di o;have:=j.ec;have:=j.ei;have:=e.tn;have:=e.wj;rw[dT (by omega),dT (by omega)];unfold LX;cases inj<;>cases Hu m.d3<;>cases Hu m.d4<;>rfl
theorem oy(l:Fp):Jd l=some (Hu l):=UO l
theorem jB{p g:d5}(z:GT t p g=0)(m:d6)(inj:Bool):I3 t p g m inj=some (if PE t p g m≠0 then PE t p g m else if(inj&&!LX m)=true then 5 else 0):=by
 obtain ⟨hv,C,F,tp,D⟩:=Oc z;unfold I3 PE;by_cases A:m.d3.length≠p.d3.length\/m.d4.length≠p.d4.length
 .grind
 rw [ae (by simp;try omega),ae A,Bn (LR t p g m),EA]
 .cases E:fst (LR t p g m) 0 m.d3.length with
  |some e=>
   grind [Cu,LR]
  |none=>
   dsimp only;rw[Bn (G9 p g m),EA]
   .grind[fst,G9,Cu,oy,LX,Hu]
   intro i j w _;unfold G9;rw[AD j w];simp only[bs,Tl];by_cases d:AA m.d4 i<0\/g.d4.length<=AA m.d4 i
   .rw[a6 (by simpa using d),a6 d];rfl
   .have hf:=C.fit _ (AI (l:=p.d4) j (by omega));rw[ae (by simpa using d),ae d,AD j (by omega),bs,AD (by omega) (by omega),bs];by_cases o:(AA p.d4 i).jj=(AA g.d4 (AA m.d4 i)).jj
    .rw[ae (by simpa using o),ae (by simpa using o),AD (by omega) (by omega),bs];by_cases r:AA m.d3 (AA p.d4 i).ib=(AA g.d4 (AA m.d4 i)).ib
     .rw[ae (by simpa using r),AD (by omega) (by omega),bs,bs];by_cases u:AA m.d3 (AA p.d4 i).To=(AA g.d4 (AA m.d4 i)).To
      .rw[ae (by simpa using u),ae (by simp[r,u])];rfl
      .rw[a6 (by simpa using u),a6 (.inr u)];rfl
     .rw[a6 (by simpa using r),bs,a6 rfl,a6 (.inl r)];rfl
    .rw[a6 (by simpa using o),a6 o];rfl
 .intro i j w _;unfold LR;rw[AD j w];simp only[bs,Tl];by_cases d:AA m.d3 i<0\/g.d3.length<=AA m.d3 i
  .rw[a6 (by simpa using d),a6 d];rfl
  .have B:=tp _ (AI (l:=p.d3) j (by omega));have y:=D _ (AI (l:=g.d3) (show 0<=AA m.d3 i by omega) (by omega));rw[ae (by simpa using d),ae d,AD (by omega) (by omega),bs,AD j (by omega),bs,UN (C4 hv) y.1 y.2 B.1,bs];cases GD t (AA g.d3 (AA m.d3 i)) (AA p.d3 i)<;>rfl
theorem XB(hf:Az t)(p g:d5)(m:d6)(inj:Bool):GM t p g m inj=some (Gs t p g m inj):=by
 unfold GM Gs;rw[U9 hf,bs];refine Dz fun d=>?_;rw[jB d,bs]
variable{inj:Bool}
theorem Zi{p g:d5}(h:Gs t p g m inj=0):GT t p g=0/\XM t p g m:=by grind[Gs,di]
end Go.Sf.Sc
namespace Go.Sf.Sc
open Go Go.Sf
section
variable{α σ ρ:Type}
def EK(step:α->σ->CC σ ρ):List α->σ->σ ⊕ ρ
 |[],s=>.inl s|a::r,s=>match step a s with
  |.next s'=>EK step r s'|.brk s'=>.inl s'|.ret r=>.inr r
variable{f:Int->σ->Option (CC σ ρ)}
theorem TU[Inhabited α]{l:List α}(step:α->σ->CC σ ρ)(I:σ->Prop)(h:∀(i:Int)s,0<=i->i<l.length->I s->f i s=some (step (AA l i) s)/\∀s',step (AA l i) s=.next s'->I s'):
  ∀(n:Nat)(a:Int)(s:σ),0<=a->a+n=l.length->I s->wb f n a s=some (EK step (l.drop a.toNat) s)
 |0,a,s,d,o,_=>by
  rw [List.drop_eq_nil_of_le (by omega)];rfl
 |n+1,a,s,d,o,u=>by
  obtain ⟨g,j⟩:=h a s d (by omega) u;have hd:l.drop a.toNat=AA l a::l.drop (a+1).toNat:=by
   grind [List.drop_eq_getElem_cons,AA,List.getElem?_eq_getElem]
  rw [GF,g,hd,EK];cases e:step (AA l a) s with
  |next s'=>
   simp only;exact TU step I h n (a+1) s' (by omega) (by omega) (j s' e)
  |brk s'=>rfl|ret r=>rfl
theorem RA[Inhabited α]{l:List α}(step:α->σ->CC σ ρ)(I:σ->Prop){s:σ}(d:I s)(h:∀(i:Int)s,0<=i->i<l.length->I s->f i s=some (step (AA l i) s)/\∀s',step (AA l i) s=.next s'->I s'):
  hT f 0 l.length s=some (EK step l s):=by
 have:=TU step I h l.length 0 s (by omega) (by omega) d;unfold hT;rw[show((l.length:Int)-0).toNat=l.length by omega];exact this
theorem bL[Inhabited α](step:α->σ->CC σ ρ)(I:σ->Prop):∀(l:List α)(s s':σ),I s->(∀a∈l,∀s s',I s->step a s=.next s'->I s')->(∀a∈l,∀s s',step a s≠.brk s')->EK step l s=.inl s'->I s'
 |[],s,s',h,_,_,e=>by cases e;exact h
 |a::r,s,s',h,g,o,e=>by
  rw [EK]at e;split at e
  .rename_i s2 j;exact bL step I r s2 s' (g a (by simp) s s2 h j) (fun a d=>g a (by simp[d])) (fun a d=>o a (by simp[d])) e
  .grind
  .cases e
end
def DI(x:gn)(l:Fp):Int:=if x.Var<0 then x.Add else Am (AA l x.Var+x.Add)
variable{x:gn}{l:Fp}
theorem Tm(h:x.Var<l.length):EY x l=some (DI x l):=by grind[EY,DI,AD]
theorem YH(h:x.Var<l.length):I5 x l=some (DI x l):=Tm h
theorem aM(d:-1<=x.Var)(h:x.Var<l.length)(e:l.length<=1000):E1 x l=some (DI x l,0):=by grind[E1,Cs,Ay,Tm]
theorem Oj(d:-1<=x.Var)(h:x.Var<l.length):Eo x l=some (DI x l,0):=by grind[Eo,YH]
def K6(x:Test)(l:Fp):Bool:=(decide (x.j0=1)&&decide (DI x.gt l<=DI x.ee l))||(decide (x.j0=2)&&decide (DI x.gt l=DI x.ee l))
structure IS(n:Int)(x:gn):Prop where
 low:-1<=x.Var
 high:x.Var<n
 add:-1000000<=x.Add/\x.Add<=1000000
def Pf(l:Fp):Prop:=∀x∈l,-2000000<=x/\x<=2000000
variable{n:Int}
theorem St(h:IS n x)(d:Pf l)(e:n<=l.length):DI x l=(if x.Var<0 then x.Add else AA l x.Var+x.Add)/\-3000000<=DI x l/\DI x l<=3000000:=by
 unfold DI;have:=h.add;by_cases g:x.Var<0
 .grind
 .have hh:=h.high;have:=d _ (AI (l:=l) (show 0<=x.Var by omega) (by omega))
  grind [Ay]
theorem YG(h:IS n x)(d:n<=l.length):Km x l=some (DI x l,true):=by
 have e:=h.low;have g:=h.high
 grind [Km,DI,AD]
theorem r_holds{x:Test}(e:IS n x.gt)(g:IS n x.ee)(d:n<=l.length):Mi x l=some (K6 x l):=by
 unfold Mi;rw[YG e d,YG g d];rfl
variable{a b:Int}
theorem YW(j:-4000000<=a/\a<=4000000)(o:-4000000<=b/\b<=4000000):Gi a b=some (if a+b<0 then(-1,a+b+18446744073709551616)else(0,a+b)):=by
 have d:∀c:Int,IntKind.u64.wrap c=c % 18446744073709551616:=fun c=>by
  simp [IntKind.wrap,IntKind.signed,IntKind.bits]
 have g:∀c:Int,-4000000<=c/\c<=4000000->MZ .i64 .shr c 63=some (if c<0 then -1 else 0):=by
  intro c w;unfold MZ;have e:c.fdiv (2^ (min (63:Int).toNat (IntKind.bits .i64)))=if c<0 then -1 else 0:=by
   show c.fdiv (2^ 63)=_
   grind
  simp only[e];have:(0:Int)<=63/\IntKind.min .i64<=(if c<0 then -1 else 0)/\(if c<0 then -1 else 0)<=IntKind.max .i64:=by
   split<;>decide
  rw [a6 this]
 unfold Gi Ig;rw[d,d,a6 (by omega),bs,g a j,g b o,bs,bs];congr 1;have y:∀c:Int,-10<=c->c<=10->Am c=c:=fun c r u=>Ay (by omega) (by omega)
 grind
def KW(a:Int):Int×Int:=if a<0 then(-1,a+18446744073709551616)else(0,a)
theorem aS(h:IS n x)(d:Pf l)(o:n<=l.length):E3 x l=some ((KW (DI x l)).1,(KW (DI x l)).2,true):=by
 have r:=h.low;have u:=h.high;have w:=h.add;have g:=(St h d o).1;unfold E3;by_cases j:x.Var=-1
 .have e:DI x l=x.Add:=by rw[g,a6 (by omega)]
  rw [e,a6 (by simpa using j),YW (by omega) (by omega),bs,Int.zero_add];rfl
 .have:=d _ (AI (l:=l) (show 0<=x.Var by omega) (by omega));have e:DI x l=AA l x.Var+x.Add:=by rw[g,ae (by omega)]
  rw [e,ae (by simpa using j),ae (by simp;omega),AD (by omega) (by omega),bs,YW (by omega) (by omega),bs];rfl
theorem m9(a b:Int):cmp_Compare_int a b=some (if a<b then -1 else if b<a then 1 else 0):=by
 unfold cmp_Compare_int cmp_isNaN_int
 grind
theorem ua(a b:Int):IV a b=some (if a<b then -1 else if b<a then 1 else 0):=m9 a b
theorem qR(a b:Int):Nn [a,b]=some (if a=0 then b else a):=by
 unfold Nn;show ek (wb _ 2 0 ()) _ _=_;rw[GF,show idx [a,b] 0=some a from rfl,bs]
 grind [ek,wb,GF,idx]
theorem p_holds{x:Test}(g:IS n x.gt)(j:IS n x.ee)(d:Pf l)(e:n<=l.length):F4 x l=some (K6 x l):=by
 have o:=(St g d e).2;have s2:=(St j d e).2;unfold F4 K6;rw[aS g d e,aS j d e];simp[m9,ua,qR];generalize DI x.gt l=a at o;generalize DI x.ee l=b at s2;have key:(if(if(KW a).1<(KW b).1 then(-1:Int)else if(KW b).1<(KW a).1 then 1 else 0)=0 then(if(KW a).2<(KW b).2 then(-1:Int)else if(KW b).2<(KW a).2 then 1 else 0)else(if(KW a).1<(KW b).1 then(-1:Int)else if(KW b).1<(KW a).1 then 1 else 0))=if a<b then -1 else if b<a then 1 else 0:=by
  grind [KW]
 rw [key];congr 2
 .grind
 grind
end Go.Sf.Sc
namespace Go.Sf.Sc
open Go Go.Sf
structure Sx(t:AC)(q:ea):Prop where
 g:DD q.d5
 kind:∀n∈q.d5.d3,0<=n/\n<t.d3.length
 vars:0<=q.fa/\q.fa<=12
 few:q.em.length<=10/\q.kq.length<=10
 slot:∀s∈q.em,(0<=s.po/\s.po<q.d5.d3.length)/\(0<=s.kg/\s.kg<(A6 t (AA q.d5.d3 s.po)).length)/\IS q.fa s.gn
 test:∀x∈q.kq,(x.j0=1\/x.j0=2)/\IS q.fa x.gt/\IS q.fa x.ee
 ge:Bw q.d5=0
 ty:C9 t q.d5=true
variable{n:Int}{x:gn}
theorem mg(h:OM n x=true):IS n x:=by
 unfold OM at h;simp[t2]at h;exact⟨h.1.1.1,h.1.1.2,h.1.2,h.2⟩
theorem mh{l:List Test}(h:Kf n l=0):∀x∈l,(x.j0=1\/x.j0=2)/\IS n x.gt/\IS n x.ee:=by
 unfold Kf at h;split at h
 .cases h
 split at h
 .cases h
 have g:=Vq h;intro x d;obtain⟨i,j,o,rfl⟩:=Bb d;have:=g i j o;unfold PH at this;split at this
 .cases this
 split at this
 .rename_i r e;rw[o4]at e
  grind [mg]
 .cases this
theorem gC(n:Int)(l:List Test):Kf n l≠9:=by
 unfold Kf;split
 .decide
 split
 .decide
 intro h;cases d:fst (fun i=>nz (PH n (AA l i))) 0 l.length with
 |none=>rw[d]at h;cases h
 |some r=>
  grind [Cu,nz,PH]
variable{t:AC}{q:ea}
theorem lM(hv:(A7 t).2=0)(h:ID t q=0\/ID t q=9):Sx t q:=by
 have y:=Vt q.d5;unfold ID at h;rw[ae (by simp[hv])]at h;split at h
 .omega
 rename_i o;have g:=DF (Classical.not_not.1 o);split at h
 .omega
 rename_i e;split at h
 .omega
 rename_i A;split at h
 .omega
 rename_i B;split at h
 .omega
 rename_i C;split at h
 .grind[gC]
 rename_i w;refine⟨g,(Gx g (by simpa using e)).1,by omega,by omega,fun s z=>?_,mh (Classical.not_not.1 w),Classical.not_not.1 o,by simpa using e⟩;have j:SB t q s=false:=by
  grind
 unfold SB at j;simp[Bool.not_eq_false',decide_eq_false_iff_not]at j;obtain⟨⟨⟨d,E⟩,F⟩,G,H⟩:=j;unfold R8 at d;dsimp only at d;split at d
 .cases d
 rename_i D;have u:=(Gx g (by simpa using e)).1 _ (AI (l:=q.d5.d3) (show 0<=s.po by omega) (by omega));rw[Jn hv u.1 u.2]at d;split at d
 .cases d
 rename_i r;have r:¬(s.kg<0\/((A6 t (AA q.d5.d3 s.po)).length:Int)<=s.kg):=r;exact⟨by omega,by omega,by omega,by omega,by omega,by omega⟩
def NE(h:AF)(m:d6)(s:CP):Int:=AA (AA h.ed (AA m.d3 s.po)) s.kg
def PG(h:AF)(m:d6)(s:CP)(st:Fp×a5):Fp×a5:=
 if 0<=s.gn.Var/\AA st.2 s.gn.Var=false then(BN st.1 s.gn.Var (Am (NE h m s-s.gn.Add)),BN st.2 s.gn.Var true)else st
def Ep{ρ:Type}(r:ρ)(h:AF)(m:d6)(s:CP)(st:Fp×a5):CC (Fp×a5) ρ:=
 if DI s.gn (PG h m s st).1=NE h m s then .next (PG h m s st)else .ret r
structure VI(n:Int)(st:Fp×a5):Prop where
 l1:(st.1.length:Int)=n
 l2:(st.2.length:Int)=n
 small:Pf st.1
structure JO(n:Int)(h:AF)(m:d6)(s:CP):Prop where
 node:0<=s.po/\s.po<m.d3.length
 val:0<=AA m.d3 s.po/\AA m.d3 s.po<h.ed.length
 Abl:0<=s.kg/\s.kg<(AA h.ed (AA m.d3 s.po)).length
 term:IS n s.gn
 has:-1000000<=NE h m s/\NE h m s<=1000000
variable{h:AF}{m:d6}{s:CP}
theorem QR(g:E0 t)(j:Sx t q)(hh:Hr t h)(e:XM t q.d5 h.d5 m)(o:s∈q.em):JO q.fa h m s:=by
 obtain ⟨u,w,y⟩:=j.slot s o;have z:=e.tn;have d:=e.node s.po u.1 (by omega);have A:=hh.row _ d.1.1 d.1.2;have r:=hh.kind _ d.1.1 d.1.2;have B:=Xv g r.2 d.2;have hv:=hh.len;refine⟨by omega,by omega,by omega,y,?_⟩;unfold NE;exact hh.low _ d.1.1 d.1.2 _ (AI w.1 (by omega))
theorem Sr{α:Type}(l:List α)(i:Int)(a:α):(BN l i a).length=l.length:=by unfold BN;rw[List.length_set]
variable{i:Int}
theorem lq{α:Type}{l:List α}{a x:α}(h:x∈BN l i a):x∈l\/x=a:=List.mem_or_eq_of_mem_set h
variable{st:Fp×a5}
theorem jW(e:JO n h m s)(hi:VI n st):VI n (PG h m s st):=by
 have g:=e.has;have j:=e.term.add;unfold PG;split
 .refine⟨by rw[Sr];exact hi.l1,by rw[Sr];exact hi.l2,fun x d=>?_⟩;rcases lq d with d|rfl
  .exact hi.small x d
  grind [Ay]
 .exact hi
def OK(q:ea)(h:AF)(m:d6):Fp×Int:=
 match EK (Ep (([],11):Fp×Int) h m) q.em (List.replicate q.fa.toNat 0,List.replicate q.fa.toNat false)with
 |.inr r=>r|.inl st=>if ll (fun i=>!K6 (AA q.kq i) st.1) 0 q.kq.length=true then([],16)else(st.1,0)
theorem R2(d:0<=n):VI n (List.replicate n.toNat 0,List.replicate n.toNat false):=by
 refine ⟨by simp;omega,by simp;omega,fun x e=>?_⟩
 grind
variable{st':Fp×a5}
theorem Pc{ρ:Type}{r:ρ}(d:JO n h m s)(hi:VI n st)(e:Ep r h m s st=.next st'):VI n st':=by grind[Ep,jW]
theorem jX{ρ:Type}{r:ρ}:Ep r h m s st≠.brk st':=by grind[Ep]
theorem Ol{ρ:Type}{r:ρ}{l:List CP}(d:∀s∈l,JO n h m s)(hi:VI n st)(e:EK (Ep r h m) l st=.inl st'):VI n st':=
 bL (Ep r h m) (VI n) l st st' hi (fun a g _ _ j o=>Pc (d a g) j o) (fun _ _ _ _=>jX) e
theorem QD{ρ:Type}{r:ρ}(w:JO n h m s)(hi:VI n st){T:Fp×a5->Option (CC (Fp×a5) ρ)}
  (j:∀st':Fp×a5,(st'.1.length:Int)=n->T st'=some (if DI s.gn st'.1=NE h m s then .next st' else .ret r)):
  ((if(decide (0<=s.gn.Var))=true then((idx st.2 s.gn.Var).bind fun o=>some (!o))else some false).bind fun u=>
   if u=true then(idx st.1 s.gn.Var).bind fun _=>(idx st.2 s.gn.Var).bind fun _=>T (BN st.1 s.gn.Var (Am (NE h m s-s.gn.Add)),BN st.2 s.gn.Var true)else T (st.1,st.2))=some (Ep r h m s st):=by
 have y:=w.term.high;have l1:=hi.l1;have l2:=hi.l2;unfold Ep;by_cases d:0<=s.gn.Var
 .rw[a6 (by simpa using d),AD d (by omega),bs,bs];by_cases g:AA st.2 s.gn.Var=false
  .rw[a6 (by simp[g]),AD d (by omega),bs,bs,j _ (by dsimp only;rw[Sr];exact l1)];have e:PG h m s st=(BN st.1 s.gn.Var (Am (NE h m s-s.gn.Add)),BN st.2 s.gn.Var true):=by unfold PG;rw[a6 ⟨d,g⟩]
   rw [e]
  .rw[ae (by simpa using g),j _ l1];have e:PG h m s st=st:=by unfold PG;rw[ae (fun e=>g e.2)]
   rw [e]
 .rw[ae (by simpa using d),bs,ae (by decide),j _ l1];have e:PG h m s st=st:=by unfold PG;rw[ae (fun e=>d e.1)]
  rw [e]
theorem cL{ρ:Type}{r:ρ}(j:JO n h m s)(hi:VI n st){T:Fp×a5->Option (CC (Fp×a5) ρ)}
  (o:∀st':Fp×a5,(st'.1.length:Int)=n->T st'=some (if DI s.gn st'.1=NE h m s then .next st' else .ret r)):
  ((if(decide (0<=s.gn.Var))=true then((idx st.2 s.gn.Var).bind fun d=>some (!d))else some false).bind fun e=>
   if e=true then(idx st.2 s.gn.Var).bind fun _=>(idx st.1 s.gn.Var).bind fun _=>T (BN st.1 s.gn.Var (Am (NE h m s-s.gn.Add)),BN st.2 s.gn.Var true)else T (st.1,st.2))=some (Ep r h m s st):=by
 rw [<-QD j hi o];have u:=j.term.high;have l1:=hi.l1;have l2:=hi.l2;by_cases g:0<=s.gn.Var
 .rw[AD g (by omega),AD g (by omega)];rfl
 .rw[ae (by simpa using g)];rfl
variable{v:Int}
theorem YO{t:gn}{f:gn->Fp->QQ}(hf:∀l:Fp,(l.length:Int)=n->f t l=some (DI t l))(st':Fp×a5)(e:(st'.1.length:Int)=n):((f t st'.1).bind fun d=>if(!decide (d=v))=true then some (CC.ret (([],11):Fp×Int))else some (.next st'))=some (if DI t st'.1=v then .next st' else .ret ([],11)):=by grind
theorem om(u:Sx t q)(w:∀s∈q.em,JO q.fa h m s):Gg q h m=some (OK q h m):=by
 have hv:=u.vars;unfold Gg OK JW;rw[a6 (by omega),bs,a6 (by omega),bs];rw[RA (Ep (([],11):Fp×Int) h m) (VI q.fa) (R2 hv.1)]
 .cases z:EK (Ep (([],11):Fp×Int) h m) q.em (List.replicate q.fa.toNat 0,List.replicate q.fa.toNat false)with
  |inr r=>rfl|inl st=>
   have hi:=Ol w (R2 hv.1) z;rw[Bt,BQ (fun i=>!K6 (AA q.kq i) st.1) ([],16)]
   .dsimp only;cases ll (fun i=>!K6 (AA q.kq i) st.1) 0 q.kq.length<;>rfl
   .intro i g j _;have y:=u.test _ (AI g j);rw[AD g j,bs,p_holds y.2.1 y.2.2 hi.small (by have:=hi.l1;omega),bs]
    grind
 .intro i st g j hi;have d:=w _ (AI g j);refine⟨?_,fun s' e=>Pc d hi e⟩;rw[AD g j,bs,AD d.node.1 d.node.2,bs,AD d.val.1 d.val.2,bs,AD d.Abl.1 d.Abl.2,bs];exact QD d hi (T:=fun st'=>(EY (AA q.em i).gn st'.1).bind fun o=>if(!decide (o=NE h m (AA q.em i)))=true then some (CC.ret (([],11):Fp×Int))else some (.next st')) (YO fun l A=>Tm (by have:=d.term.high;omega))
theorem pC(u:Sx t q)(w:∀s∈q.em,JO q.fa h m s):Jf q h m=some (OK q h m):=by
 have hv:=u.vars;unfold Jf OK JW;rw[a6 (by omega),bs,a6 (by omega),bs];rw[RA (Ep (([],11):Fp×Int) h m) (VI q.fa) (R2 hv.1)]
 .cases z:EK (Ep (([],11):Fp×Int) h m) q.em (List.replicate q.fa.toNat 0,List.replicate q.fa.toNat false)with
  |inr r=>rfl|inl st=>
   have hi:=Ol w (R2 hv.1) z;rw[Bt,BQ (fun i=>!K6 (AA q.kq i) st.1) ([],16)]
   .dsimp only;cases ll (fun i=>!K6 (AA q.kq i) st.1) 0 q.kq.length<;>rfl
   .intro i g j _;have y:=u.test _ (AI g j);rw[AD g j,bs,r_holds y.2.1 y.2.2 (by have:=hi.l1;omega),bs]
    grind
 .intro i st g j hi;have d:=w _ (AI g j);refine⟨?_,fun s' e=>Pc d hi e⟩;rw[AD g j,bs,AD d.node.1 d.node.2,bs,AD d.val.1 d.val.2,bs,AD d.Abl.1 d.Abl.2,bs];exact cL d hi (T:=fun st'=>(I5 (AA q.em i).gn st'.1).bind fun o=>if(!decide (o=NE h m (AA q.em i)))=true then some (CC.ret (([],11):Fp×Int))else some (.next st')) (YO fun l A=>YH (by have:=d.term.high;omega))
def RM(t:AC)(p:ea)(h:AF):Int:=if ID t p≠0 then ID t p else(FE t h).2
theorem iS(hf:Az t)(p:ea)(h:AF):EX t p h=some (RM t p h):=by
 unfold EX RM;rw[WI hf,bs];refine Dz fun _=>?_;rw[WG hf];rfl
theorem iy(hf:Az t)(p:ea)(h:AF):Hb t p h=some (RM t p h):=by
 unfold Hb RM;rw[ZM hf,bs];refine Dz fun _=>?_;rw[WQ hf];rfl
def Fu(t:AC)(p:ea)(h:AF)(m:d6):Fp×Int:=
 if RM t p h≠0 then([],RM t p h)else if Gs t p.d5 h.d5 m false≠0 then([],Gs t p.d5 h.d5 m false)else OK p h m
variable{p:ea}{inj:Bool}
theorem Un(hf:Az t)(d:RM t p h=0)(e:Gs t p.d5 h.d5 m inj=0):(A7 t).2=0/\Sx t p/\Hr t h/\XM t p.d5 h.d5 m:=by
 unfold RM at d;split at d
 .grind
 rename_i g;obtain⟨hv,hh⟩:=QH hf d;exact⟨hv,lM hv (.inl (Classical.not_not.1 g)),hh,(Zi e).2⟩
theorem dL(hf:Az t)(p:ea)(h:AF)(m:d6):EW t p h m=some (Fu t p h m):=by
 unfold EW Fu;rw[iS hf,bs];refine FG fun e=>?_;rw[W5 hf,bs];refine FG fun g=>?_;obtain⟨hv,d,hh,o⟩:=Un hf e g;rw[om d (fun s j=>QR (C4 hv) d hh o j)];rfl
theorem ou(hf:Az t)(p:ea)(h:AF)(m:d6):I4 t p h m=some (Fu t p h m):=by
 unfold I4 Fu;rw[iy hf,bs];refine FG fun e=>?_;rw[XB hf,bs];refine FG fun g=>?_;obtain⟨hv,d,hh,o⟩:=Un hf e g;rw[pC d (fun s j=>QR (C4 hv) d hh o j)];rfl
theorem jY(g:Sx t q)(j:∀s∈q.em,JO q.fa h m s)(e:(OK q h m).2=0):((OK q h m).1.length:Int)=q.fa/\Pf (OK q h m).1:=by
 unfold OK at e|-;cases d:EK (Ep (([],11):Fp×Int) h m) q.em (List.replicate q.fa.toNat 0,List.replicate q.fa.toNat false)with
 |inr r=>
  rw [d]at e;have:∀(l:List CP)(st:Fp×a5)(r:Fp×Int),EK (Ep (([],11):Fp×Int) h m) l st=.inr r->r=([],11):=by
   intro l
   induction l with
   |nil=>intro st r h;cases h
   |cons a l u=>
    grind [EK,Ep]
  grind
 |inl st=>
  rw [d]at e;have hi:=Ol j (R2 g.vars.1) d;dsimp only at e|-;split at e
  .cases e
  .rename_i o;rw[ae o];exact⟨hi.l1,hi.small⟩
end Go.Sf.Sc
namespace Go.Sf.Sc
open Go Go.Sf
variable{i:Int}
theorem Hh{n:Nat}{α:Type}[Inhabited α](F:Int->α)(d:0<=i)(v:α):BN ((Au n).map F) i v=(Au n).map fun j=>if j=i then v else F j:=by
 unfold BN;refine List.ext_getElem (by simp) (fun k e g=>?_)
 grind [A5,Au]
theorem Ca{n:Nat}{α:Type}{F G:Int->α}(h:∀j,0<=j->j<(n:Int)->F j=G j):(Au n).map F=(Au n).map G:=by grind[List.map_congr_left,DT]
def G7(n:Nat)(k:Int):a5:=(Au n).map fun j=>decide (j<k)
theorem V2(n:Nat):G7 n 0=List.replicate n false:=by
 unfold G7;refine List.ext_getElem (by simp[A5]) (fun k d e=>?_)
 grind [Au,A5]
theorem Xz(n:Nat)(k:Int):(G7 n k).length=n:=by unfold G7;rw[ca,A5]
def M9(q:ea)(h:AF)(m:d6)(given:Fp):Fp×Bool:=
 match EK (Ep (([],false):Fp×Bool) h m) q.em (given++List.replicate (q.fa-given.length).toNat 0,G7 q.fa.toNat given.length)with
 |.inr r=>r|.inl st=>if ll (fun i=>!K6 (AA q.kq i) st.1) 0 q.kq.length=true then([],false)else(st.1,true)
variable{n:Int}{given:Fp}
theorem VL(e:0<=n)(g:given.length<=n)(hv:Pf given):VI n (given++List.replicate (n-given.length).toNat 0,G7 n.toNat given.length):=by
 refine ⟨by simp;omega,by show((G7 n.toNat given.length).length:Int)=n;rw[Xz];omega,fun x d=>?_⟩;rcases List.mem_append.1 d with d|d
 .exact hv x d
 grind
variable{q:ea}{m:d6}{t:AC}
theorem rP{s:BD}(w:Sx t q)(y:∀x∈q.em,JO q.fa s.h m x)(B:given.length<=q.fa)(hv:Pf given):D3 s q m given=some (M9 q s.h m given):=by
 have D:=w.vars;unfold D3 M9 slices_Clone_int;rw[Bm (by unfold AZ;omega),bs,Ay (by omega) (by omega)];have E:Za given (q.fa-given.length) 0=some (given++List.replicate (q.fa-given.length).toNat 0):=by
  grind [Za,AZ]
 have F:JW q.fa false=some (List.replicate q.fa.toNat false):=by
  grind [JW]
 rw [E,bs,F,bs];have G:ne (fun(d:Int)(z:a5)=>(idx z d).bind fun C=>some (BN z d true)) 0 (given.length:Int) (List.replicate q.fa.toNat false)=some (G7 q.fa.toNat given.length):=by
  refine Bo (fun i=>G7 q.fa.toNat i) (by omega) (V2 _) (fun i d j=>?_);rw[AD d (by rw[Xz];omega),bs];congr 1;unfold G7;rw[Hh _ d]
  grind
 rw [G,bs];have u:=VL D.1 B hv;rw[RA (Ep (([],false):Fp×Bool) s.h m) (VI q.fa) u]
 .cases H:EK (Ep (([],false):Fp×Bool) s.h m) q.em (given++List.replicate (q.fa-given.length).toNat 0,G7 q.fa.toNat given.length)with
  |inr r=>rfl|inl st=>
   have hi:=Ol y u H;rw[Bt,BQ (fun i=>!K6 (AA q.kq i) st.1) ([],false)]
   .dsimp only;cases ll (fun i=>!K6 (AA q.kq i) st.1) 0 q.kq.length<;>rfl
   .intro i d j _;have A:=w.test _ (AI d j);rw[AD d j,bs,p_holds A.2.1 A.2.2 hi.small (by have:=hi.l1;omega),bs]
    grind
 .intro i st d j hi;have g:=y _ (AI d j);refine⟨?_,fun s' e=>Pc g hi e⟩;rw[AD d j,bs,AD g.node.1 g.node.2,bs,AD g.val.1 g.val.2,bs,AD g.Abl.1 g.Abl.2,bs];refine QD g hi (T:=fun st'=>(E1 (AA q.em i).gn st'.1).bind fun o=>if((!decide (o.2=0))||(!decide (o.1=NE s.h m (AA q.em i))))=true then some (CC.ret (([],false):Fp×Bool))else some (.next st')) (fun st' I=>?_);rw[aM g.term.low (by have:=g.term.high;omega) (by omega),bs]
  grind
variable{h:AF}
theorem rj(C:Sx t q)(D:∀x∈q.em,JO q.fa h m x)(I:given.length<=q.fa)(hv:Pf given):Lk q h m given=some (M9 q h m given):=by
 have G:=C.vars;unfold Lk M9;have L:JW q.fa false=some (List.replicate q.fa.toNat false):=by
  unfold JW;rw[a6 (by omega)]
 rw [Bm (by unfold AZ;omega),bs,L,bs];have H:ne (fun(d:Int)(u:Fp×a5)=>
   (idx u.2 d).bind fun J=>
   if (decide ((given.length:Int)<=d))=true then
   (Ap u.1 [0]).bind fun A=>
   some (A,BN u.2 d (decide (d<(given.length:Int))))
   else
   some (u.1,BN u.2 d (decide (d<(given.length:Int))))) 0 q.fa (given,List.replicate q.fa.toNat false)=some (given++List.replicate (q.fa-given.length).toNat 0,(Au q.fa.toNat).map fun j=>decide (j<q.fa)&&decide (j<(given.length:Int))):=by
  refine Bo (fun i=>(given++List.replicate (i-given.length).toNat 0,(Au q.fa.toNat).map fun j=>decide (j<i)&&decide (j<(given.length:Int)))) G.1 ?_ (fun i d o=>?_)
  .have M:((0:Int)-given.length).toNat=0:=by omega
   rw [M];simp;rw[<-V2];unfold G7;refine Ca (fun j E F=>?_);rw[show decide (j<0)=false by simp;omega];rfl
  .dsimp only;rw[AD d (by rw[ca,A5];omega),bs];have N:BN ((Au q.fa.toNat).map fun j=>decide (j<i)&&decide (j<(given.length:Int))) i (decide (i<(given.length:Int)))=(Au q.fa.toNat).map fun j=>decide (j<i+1)&&decide (j<(given.length:Int)):=by
    rw [Hh _ d];refine Ca (fun j E F=>?_);by_cases e:j=i
    .rw[a6 e,e,show decide (i<i+1)=true by simp;omega,Bool.true_and]
    .rw[ae e];congr 1;rw[decide_eq_decide];omega
   rw [N];by_cases hi:(given.length:Int)<=i
   .rw[a6 (by simpa using hi),AY (by simp;unfold AZ;omega),bs];congr 2;rw[ci,show(i+1-given.length).toNat=(i-given.length).toNat+1 by omega,List.replicate_succ']
   .rw[ae (by simpa using hi)];have O:(i+1-given.length).toNat=(i-given.length).toNat:=by omega
    rw [O]
 have B:((Au q.fa.toNat).map fun j=>decide (j<q.fa)&&decide (j<(given.length:Int)))=G7 q.fa.toNat given.length:=by
  unfold G7;refine Ca (fun j E F=>?_);rw[show decide (j<q.fa)=true by simp;omega,Bool.true_and]
 rw [B]at H;rw[H,bs];have y:=VL G.1 I hv;dsimp only;rw[RA (Ep (([],false):Fp×Bool) h m) (VI q.fa) y]
 .cases P:EK (Ep (([],false):Fp×Bool) h m) q.em (given++List.replicate (q.fa-given.length).toNat 0,G7 q.fa.toNat given.length)with
  |inr r=>rfl|inl st=>
   have hi:=Ol D y P;rw[Bt,BQ (fun i=>!K6 (AA q.kq i) st.1) ([],false)]
   .dsimp only;cases ll (fun i=>!K6 (AA q.kq i) st.1) 0 q.kq.length<;>rfl
   .intro i d o _;have z:=C.test _ (AI d o);have K:=hi.l1;rw[AD d o,bs,Oj z.2.1.low (by have:=z.2.1.high;omega),bs,Oj z.2.2.low (by have:=z.2.2.high;omega),bs,<-IC];unfold K6;dsimp only;congr 1;generalize DI (AA q.kq i).gt st.1=a;generalize DI (AA q.kq i).ee st.1=b;rcases z.1 with e|e
    .rw[e,eq_iff_iff];simp
    .rw[e,eq_iff_iff];simp
 .intro i st d o hi;have g:=D _ (AI d o);refine⟨?_,fun s' e=>Pc g hi e⟩;rw[AD d o,bs,AD g.node.1 g.node.2,bs,AD g.val.1 g.val.2,bs,AD g.Abl.1 g.Abl.2,bs];refine QD g hi (T:=fun st'=>(Eo (AA q.em i).gn st'.1).bind fun w=>if(!decide (w.1=NE h m (AA q.em i)))=true then some (CC.ret (([],false):Fp×Bool))else some (.next st')) (fun st' K=>?_);rw[Oj g.term.low (by have:=g.term.high;omega),bs];by_cases e:DI (AA q.em i).gn st'.1=NE h m (AA q.em i)
  .rw[ae (by simp[e]),a6 e]
  .rw[a6 (by simp[e]),ae e]
theorem mr(j:Sx t q)(o:∀s∈q.em,JO q.fa h m s)(u:given.length<=q.fa)(hv:Pf given)(e:(M9 q h m given).2=true):((M9 q h m given).1.length:Int)=q.fa/\Pf (M9 q h m given).1:=by
 unfold M9 at e|-;have d:=VL j.vars.1 u hv;cases g:EK (Ep (([],false):Fp×Bool) h m) q.em (given++List.replicate (q.fa-given.length).toNat 0,G7 q.fa.toNat given.length)with
 |inr r=>
  rw [g]at e;have:∀(l:List CP)(st:Fp×a5)(r:Fp×Bool),EK (Ep (([],false):Fp×Bool) h m) l st=.inr r->r=([],false):=by
   intro l
   induction l with
   |nil=>intro st r h;cases h
   |cons a l y=>
    grind [EK,Ep]
  grind
 |inl st=>
  rw [g]at e;have hi:=Ol o d g;dsimp only at e|-;split at e
  .cases e
  .rename_i w;rw[ae w];exact⟨hi.l1,hi.small⟩
def Tp(n:Nat)(by' fd:Fp):Fp:=(Au by'.length).foldl (fun l i=>BN l (AA by' i) (AA fd i)) (List.replicate n (-1))
theorem Xj(d fd:Fp):∀(e:Fp)(l:Fp),(e.foldl (fun l i=>BN l (AA d i) (AA fd i)) l).length=l.length
 |[],l=>rfl|k::e,l=>by rw[List.foldl_cons,Xj d fd e,Sr]
theorem WL{n:Nat}{d fd:Fp}(y:∀x∈d,0<=x/\x<n)(z:d.length<=fd.length):ne (fun(g:Int)(o:Fp)=>
  (idx d g).bind fun e=>
  (idx fd g).bind fun j=>
  (idx o e).bind fun r=>
  some (BN o e j)) 0 (d.length:Int) (List.replicate n (-1))=some (Tp n d fd):=by
 have h:=Bo (f:=fun(g:Int)(o:Fp)=>
  (idx d g).bind fun e=>
  (idx fd g).bind fun j=>
  (idx o e).bind fun r=>
  some (BN o e j)) (fun i=>(Au i.toNat).foldl (fun l i=>BN l (AA d i) (AA fd i)) (List.replicate n (-1))) (a:=0) (b:=d.length) (s:=List.replicate n (-1)) (by omega) rfl (fun i g u=>by
   have w:=y _ (AI g u);rw[AD g u,bs,AD g (by omega),bs,AD w.1 (by rw[Xj];simpa using w.2),bs,GQ g,List.foldl_append];rfl)
 rw [h,Int.toNat_natCast];rfl
theorem aX{n:Nat}{d fd:Fp}(j:n<=1000)(e:∀x∈d,0<=x/\x<n)(g:d.length<=fd.length):F2 n d fd=some (Tp n d fd):=by
 unfold F2 DL;rw[a6 ⟨rfl,by omega,by omega⟩,bs];show(ne _ 0 _ (List.replicate (n:Int).toNat (-1))).bind _=_;rw[Int.toNat_natCast,WL e g];rfl
theorem av{n:Nat}{d fd:Fp}(j:n<=1000)(e:∀x∈d,0<=x/\x<n)(g:d.length<=fd.length):Jg n d fd=some (Tp n d fd):=by
 unfold Jg;rw[Bo (a:=0) (b:=n) (s:=[]) (fun i=>List.replicate i.toNat (-1)) (by omega) rfl,bs,Int.toNat_natCast,WL e g]
 .rfl
 .intro i o r;rw[AY (by simp;unfold AZ;omega),bs,show(i+1).toNat=i.toNat+1 by omega,List.replicate_succ']
end Go.Sf.Sc
namespace Go.Sf.Sc
open Go Go.Sf
structure mw(f:AK):Prop where
 nl:f.ec.length<=f.p.d3.length
 node:∀i:Int,0<=i->i<f.ec.length->(0<=AA f.ec i/\AA f.ec i<f.g.d3.length)/\AA (AA f.is (AA f.p.d3 i)) (AA f.g.d3 (AA f.ec i))=true
 edge:∀i:Int,0<=i->i<f.ei.length->(0<=AA f.ei i/\AA f.ei i<f.g.d4.length)/\AA f.g.d4 (AA f.ei i)=⟨(AA f.p.d4 i).jj,AA f.ec (AA f.p.d4 i).ib,AA f.ec (AA f.p.d4 i).To⟩
 inj:f.fb=true->f.ec.Nodup/\f.ei.Nodup
structure eJ(f:AK)(m:d6):Prop where
 nl:m.d3.length=f.p.d3.length
 el:m.d4.length=f.p.d4.length
 node:∀i:Int,0<=i->i<m.d3.length->(0<=AA m.d3 i/\AA m.d3 i<f.g.d3.length)/\AA (AA f.is (AA f.p.d3 i)) (AA f.g.d3 (AA m.d3 i))=true
 edge:∀i:Int,0<=i->i<m.d4.length->(0<=AA m.d4 i/\AA m.d4 i<f.g.d4.length)/\AA f.g.d4 (AA m.d4 i)=⟨(AA f.p.d4 i).jj,AA m.d3 (AA f.p.d4 i).ib,AA m.d3 (AA f.p.d4 i).To⟩
 inj:f.fb=true->m.d3.Nodup/\m.d4.Nodup
variable{i:Int}
theorem cW{α:Type}[Inhabited α](l:List α)(x:α)(h:i=l.length):AA (l++[x]) i=x:=by grind[NO]
variable{l:Fp}{k:Int}
theorem V9{b:Bool}(h:(!(b&&l.any fun x=>decide (k=x)))=true)(d:b=true)(e:l.Nodup):(l++[k]).Nodup:=by grind
theorem XN:∀(n:Nat)(f:AK),mw f->f.ec.length=f.p.d3.length->f.ei.length+n=f.p.d4.length->∀m∈Ea n f,eJ f m
 |0,f,j,z,he,m,d=>by
  rw [Ea,List.mem_singleton]at d;subst d;exact⟨z,by simpa using he,j.node,j.edge,j.inj⟩
 |n+1,f,j,z,he,m,d=>by
  rw [Ea,List.mem_flatMap]at d;obtain⟨k,w,d⟩:=d;have w:=DT.1 w;split at d
  .rename_i o;unfold S5 at o;rw[o4]at o;obtain⟨r,y⟩:=o;rw[VH,o4,t2]at r;have:=XN n {f with ei:=f.ei++[k]} ⟨j.nl,j.node,fun i A u=>by
    have u:i<((f.ei++[k]).length:Int):=u;simp at u;show(0<=AA (f.ei++[k]) i/\AA (f.ei++[k]) i<f.g.d4.length)/\AA f.g.d4 (AA (f.ei++[k]) i)=⟨(AA f.p.d4 i).jj,AA f.ec (AA f.p.d4 i).ib,AA f.ec (AA f.p.d4 i).To⟩;by_cases e:i=f.ei.length
    .rw[cW _ _ e];exact⟨w,by rw[e];exact r.2⟩
    .rw[Zb _ _ A (by omega)];exact j.edge i A (by omega),fun hi=>⟨(j.inj hi).1,V9 y hi (j.inj hi).2⟩⟩ z (by show(f.ei++[k]).length+n=f.p.d4.length;rw[ba,List.length_singleton];omega) m d
   exact ⟨this.nl,this.el,this.node,this.edge,this.inj⟩
  .cases d
theorem XO:∀(n:Nat)(f:AK),mw f->f.ei=[]->f.ec.length+n=f.p.d3.length->∀m∈Gq n f,eJ f m
 |0,f,r,he,A,m,o=>by
  grind [Gq,XN]
 |n+1,f,r,he,A,m,o=>by
  rw [Gq,List.mem_flatMap]at o;obtain⟨k,w,o⟩:=o;have w:=DT.1 w;split at o
  .rename_i j;unfold S6 at j;rw[o4,o4]at j;obtain⟨⟨_,y⟩,z⟩:=j;have:=XO n {f with ec:=f.ec++[k]} ⟨by show(f.ec++[k]).length<=f.p.d3.length;rw[ba,List.length_singleton];omega,fun i u d=>by
    have d:i<((f.ec++[k]).length:Int):=d;simp at d;show(0<=AA (f.ec++[k]) i/\AA (f.ec++[k]) i<f.g.d3.length)/\AA (AA f.is (AA f.p.d3 i)) (AA f.g.d3 (AA (f.ec++[k]) i))=true;by_cases e:i=f.ec.length
    .rw[cW _ _ e];exact⟨w,by rw[e];exact y⟩
    .rw[Zb _ _ u (by omega)];exact r.node i u (by omega),fun i u d=>by
    have d:i<(f.ei.length:Int):=d;rw[he]at d;have:i<(0:Nat):=d;omega,fun hi=>⟨V9 z hi (r.inj hi).1,(r.inj hi).2⟩⟩ he (by show(f.ec++[k]).length+n=f.p.d3.length;rw[ba,List.length_singleton];omega) m o
   exact ⟨this.nl,this.el,this.node,this.edge,this.inj⟩
  .cases o
variable{t:AC}{pa:d6}{inj:Bool}{m:d6}
theorem ey{p g:d5}(e:m∈PO t p g pa inj):eJ (FF t p g pa inj) m:=
 XO _ (FF t p g pa inj) ⟨Nat.zero_le _,fun i j d=>by have d:i<(0:Nat):=d;omega,fun i j d=>by have d:i<(0:Nat):=d;omega,fun _=>⟨List.nodup_nil,List.nodup_nil⟩⟩ rfl (by show 0+p.d3.length=p.d3.length;omega) m (List.mem_of_mem_take e)
theorem kW{p g:d5}(h:GT t p g=0)(u:m∈PO t p g pa inj):XM t p g m:=by
 obtain ⟨hv,A,B,tp,w⟩:=Oc h;have:=ey u;refine⟨this.nl,this.el,fun i d e=>?_,fun i d e=>(this.edge i d e).1⟩;obtain⟨j,r⟩:=this.node i d e;refine⟨j,?_⟩;have o:=this.nl;have y:=tp _ (AI (l:=p.d3) d (by show i<(p.d3.length:Int);have o:m.d3.length=p.d3.length:=o;omega));have z:=w _ (AI (l:=g.d3) j.1 j.2);have r:AA (AA (KO t) (AA p.d3 i)) (AA g.d3 (AA m.d3 i))=true:=r
 grind [AA,KO,OG,Hq,GD]
theorem Zp{p g:d5}(h:(SH t p g pa inj).2=0):(SH t p g pa inj).1.length<=5000/\∀m∈(SH t p g pa inj).1,XM t p g m:=by grind[SH,kW]
structure VP(t:AC)(p:ea)(h:AF)(x:AL):Prop where
 q:Sx t p
 m:XM t p.d5 h.d5 x.d6
 len:(x.fa.length:Int)=p.fa
 small:Pf x.fa
structure gI(t:AC)(p:ea)(c:d7):Prop where
 q:Sx t c.ea
 vars:p.fa<=c.ea.fa
 map:VV p.d5 c.ea.d5 c.Map
 inj:LX c.Map=true
def Dw(t:AC)(c:d7)(h:AF)(m:AL)(inj:Bool):List AL×Int:=
 let x:=SH t c.ea.d5 h.d5 ⟨Tp c.ea.d5.d3.length c.Map.d3 m.d6.d3,Tp c.ea.d5.d4.length c.Map.d4 m.d6.d4⟩ inj
 if x.2≠0 then([],x.2)else((x.1.filter fun y=>(M9 c.ea h y m.fa).2).map fun y=>⟨y,(M9 c.ea h y m.fa).1⟩,0)
instance:Inhabited d6:=⟨⟨[],[]⟩⟩
instance:Inhabited AL:=⟨⟨default,[]⟩⟩
instance:Inhabited BA:=⟨⟨0,default,[]⟩⟩
theorem UY{x:List d6}{F:d6->Fp×Bool}{f:Int->List AL->Option (List AL)}(o:x.length<=5000)
  (hf:∀(i:Int)(s:List AL),0<=i->i<x.length->s.length<=5000->f i s=some (if(F (AA x i)).2=true then s++[⟨AA x i,(F (AA x i)).1⟩]else s)):
  ne f 0 (x.length:Int) []=some ((x.filter fun y=>(F y).2).map fun y=>⟨y,(F y).1⟩):=by
 rw [Bo (a:=0) (b:=x.length) (s:=[]) (fun i=>((x.take i.toNat).filter fun y=>(F y).2).map fun y=>(⟨y,(F y).1⟩:AL)) (by omega) rfl,Int.toNat_natCast,List.take_length];intro i d e;have g:(((x.take i.toNat).filter fun y=>(F y).2).map fun y=>(⟨y,(F y).1⟩:AL)).length<=5000:=by
  grind
 rw [hf i _ d e g,BS d e,List.filter_append,List.map_append];cases j:(F (AA x i)).2<;>simp[j]
variable{p:ea}{c:d7}
theorem rA{s:BD}{m:AL}(hf:Az s.t)(hv:(A7 s.t).2=0)(hh:Hr s.t s.h)(o:VP s.t p s.h m)(hi:gI s.t p c):CS s c m=some (Dw s.t c s.h m s.fb):=by
 have C:=hi.q.g.ec;have ge:=hi.q.g.ei;have m1:=hi.map.tn;have D:=hi.map.wj;have E:=o.m.tn;have G:=o.m.wj;unfold CS Dw;rw[aX (by omega) (fun x j=>by obtain⟨i,d,e,rfl⟩:=Bb j;exact(hi.map.node i d e).1) (by omega),bs,
  aX (by omega) (fun x j=>by obtain⟨i,d,e,rfl⟩:=Bb j;exact(hi.map.edge i d e).1) (by omega),bs,lC hf,bs]
 dsimp only;refine FG fun r=>?_;obtain⟨z,A⟩:=Zp r;rw[UY (F:=fun y=>M9 c.ea s.h y m.fa) z]
 .rfl
 .intro i st d e B;have u:=A _ (AI d e);have w:(m.fa.length:Int)<=c.ea.fa:=by have:=o.len;have:=hi.vars;omega
  rw [AD d e,bs,rP hi.q (fun x j=>QR (C4 hv) hi.q hh u j) w o.small,bs,<-IC]
  grind [AY,AZ]
variable{h:AF}
theorem rV{m:AL}(hf:Az t)(hv:(A7 t).2=0)(hh:Hr t h)(o:VP t p h m)(hi:gI t p c):Ew t c h m inj=some (Dw t c h m inj):=by
 have C:=hi.q.g.ec;have ge:=hi.q.g.ei;have m1:=hi.map.tn;have D:=hi.map.wj;have E:=o.m.tn;have G:=o.m.wj;unfold Ew Dw;rw[av (by omega) (fun x j=>by obtain⟨i,d,e,rfl⟩:=Bb j;exact(hi.map.node i d e).1) (by omega),bs,
  av (by omega) (fun x j=>by obtain⟨i,d,e,rfl⟩:=Bb j;exact(hi.map.edge i d e).1) (by omega),bs,lO hf,bs]
 dsimp only;refine FG fun r=>?_;obtain⟨z,A⟩:=Zp r;rw[UY (F:=fun y=>M9 c.ea h y m.fa) z]
 .rfl
 .intro i st d e B;have u:=A _ (AI d e);have w:(m.fa.length:Int)<=c.ea.fa:=by have:=o.len;have:=hi.vars;omega
  rw [AD d e,bs,rj hi.q (fun x j=>QR (C4 hv) hi.q hh u j) w o.small,bs,<-IC]
  grind [AY,AZ]
theorem cr{m:AL}(hv:(A7 t).2=0)(hh:Hr t h)(j:VP t p h m)(hi:gI t p c)(e:(Dw t c h m inj).2=0):(Dw t c h m inj).1.length<=5000/\∀x∈(Dw t c h m inj).1,VP t c.ea h x:=by
 unfold Dw at e|-;dsimp only at e|-;split at e
 .grind
 rename_i o;rw[ae o];obtain⟨w,z⟩:=Zp (Classical.not_not.1 o);refine⟨by dsimp only;rw[ca];exact Nat.le_trans (List.length_filter_le _ _) w,fun x d=>?_⟩;dsimp only at d;rw[List.mem_map]at d;obtain⟨y,g,rfl⟩:=d;rw[List.mem_filter]at g;have r:=z y g.1;have u:(m.fa.length:Int)<=c.ea.fa:=by have:=j.len;have:=hi.vars;omega
 have:=mr hi.q (fun x d=>QR (C4 hv) hi.q hh r d) u j.small g.2;exact⟨hi.q,r,this.1,this.2⟩
end Go.Sf.Sc
namespace Go.Sf.Sc
open Go Go.Sf
inductive CV(t:AC):ea->d7->Prop where
 |mk (p:ea) (c:d7) (few:c.en.length<=40) (rng:1<=c.j0/\c.j0<=5) (one:c.j0=2\/c.j0=5->c.en.length=1) (ins:c.j0=5->gI t p c) (kids:∀k∈c.en,CV t (if c.j0=5 then c.ea else p) k):CV t p c
variable{t:AC}{p:ea}{c:d7}
theorem CV.few(h:CV t p c):c.en.length<=40:=by cases h;assumption
theorem CV.rng(h:CV t p c):1<=c.j0/\c.j0<=5:=by cases h;assumption
theorem CV.one(h:CV t p c):c.j0=2\/c.j0=5->c.en.length=1:=by cases h;assumption
theorem CV.ins(h:CV t p c):c.j0=5->gI t p c:=by cases h;assumption
theorem CV.kids(h:CV t p c):∀k∈c.en,CV t (if c.j0=5 then c.ea else p) k:=by cases h;assumption
theorem CV.kid(h:CV t p c)(d:¬c.j0=5):∀k∈c.en,CV t p k:=fun k e=>by have:=h.kids k e;rwa[ae d]at this
theorem CV.kid5(h:CV t p c)(d:c.j0=5):∀k∈c.en,CV t c.ea k:=fun k e=>by have:=h.kids k e;rwa[a6 d]at this
theorem TN:∀l:List d7,l.length<=RX l
 |[]=>by simp|c::l=>by
  have:=TN l
  grind [RX,Dc,TO,cE]
variable{q:ea}{v:Int}
theorem uf(hv:(A7 t).2=0)(h:Ta t q v=0):Sx t q:=by grind[Ta,lM]
theorem nA(hv:(A7 t).2=0):∀(N:Nat)(c:d7)(p:ea),SizeOf.sizeOf c<=N->Dc c<=40->R4 N c=true->LE N t p c=0->CV t p c
 |0,c,_,h,_,_,_=>by have:=Dn c;omega|N+1,c,p,h,M,z,ho=>by
  have E:=TO c;have F:=TN c.en;rw[R4,o4]at z;obtain⟨u,o⟩:=z;have d:c.j0=2\/c.j0=5->c.en.length=1:=by
   intro j;unfold SQ at u
   grind
  have g:1<=c.j0/\c.j0<=5:=by
   grind [SQ]
  have w:∀q,(fst (fun i=>nz (LE N t q (AA c.en i))) 0 c.en.length).getD 0=0->∀k∈c.en,CV t q k:=by
   intro q A k j;have G:=Vq A;have K:=Uu j;have L:=ET j;rw[List.all_eq_true]at o;obtain⟨i,H,I,e⟩:=Bb j;have y:=G i H I;rw[e]at y;exact nA hv N k q (by omega) (by omega) (o k j) y
  rw [LE]at ho;by_cases r:c.j0=5
  .rw[a6 r]at ho;split at ho
   .cases ho
   rename_i J;split at ho
   .grind
   rename_i B;split at ho
   .grind
   rename_i C;split at ho
   .cases ho
   rename_i D;refine CV.mk p c (by omega) g d (fun _=>⟨uf hv (Classical.not_not.1 B),by omega,RJ (Classical.not_not.1 C),by simpa using D⟩) ?_
   grind
  .rw[ae r]at ho;refine CV.mk p c (by omega) g d (fun e=>absurd e r) ?_
   grind
section
variable{α σ ρ:Type}
variable{f:Int->σ->Option (CC σ ρ)}
theorem S4[Inhabited α]{l:List α}(step:α->σ->CC σ ρ)(I:Int->σ->Prop)(h:∀(i:Int)s,0<=i->i<l.length->I i s->f i s=some (step (AA l i) s)/\∀s',step (AA l i) s=.next s'->I (i+1) s'):
  ∀(n:Nat)(a:Int)(s:σ),0<=a->a+n=l.length->I a s->wb f n a s=some (EK step (l.drop a.toNat) s)
 |0,a,s,d,o,_=>by
  rw [List.drop_eq_nil_of_le (by omega)];rfl
 |n+1,a,s,d,o,u=>by
  obtain ⟨g,j⟩:=h a s d (by omega) u;have hd:l.drop a.toNat=AA l a::l.drop (a+1).toNat:=by
   grind [List.drop_eq_getElem_cons,AA,List.getElem?_eq_getElem]
  rw [GF,g,hd,EK];cases e:step (AA l a) s with
  |next s'=>
   simp only;exact S4 step I h n (a+1) s' (by omega) (by omega) (j s' e)
  |brk s'=>rfl|ret r=>rfl
theorem Vo[Inhabited α]{l:List α}(step:α->σ->CC σ ρ)(I:Int->σ->Prop){s:σ}(d:I 0 s)(h:∀(i:Int)s,0<=i->i<l.length->I i s->f i s=some (step (AA l i) s)/\∀s',step (AA l i) s=.next s'->I (i+1) s'):
  hT f 0 l.length s=some (EK step l s):=by
 have:=S4 step I h l.length 0 s (by omega) (by omega) d;unfold hT;rw[show((l.length:Int)-0).toNat=l.length by omega];exact this
theorem WY{d s2:α->σ->CC σ ρ}:∀{l:List α}{s:σ},(∀a∈l,d a=s2 a)->EK d l s=EK s2 l s
 |[],_,_=>rfl|a::l,s,h=>by
  rw [EK,EK,h a (by simp)];split
  .exact WY fun b e=>h b (by simp[e])
  .rfl
  .rfl
end
abbrev zM:AL:=⟨⟨[],[]⟩,[]⟩
abbrev zP:BA:=⟨0,zM,[]⟩
def Ng(w:d7->BA×Int)(k:d7)(s:BA×BA):CC (BA×BA) (BA×Int):=
 if (w k).2≠0 then .ret (zP,(w k).2)else .next (s.1,⟨s.2.Aag,s.2.kp,s.2.en++[(w k).1]⟩)
def TB(w:d7->BA×Int)(l:List d7):BA×Int:=
 match EK (Ng w) l (zP,zP)with
 |.inl s=>(s.2,0)|.inr r=>r
def C2(t:AC)(h:AF)(inj:Bool):Nat->d7->AL->BA×Int
 |0,_,_=>(zP,0)|N+1,c,m=>
  if c.j0=2 then(if(C2 t h inj N (AA c.en 0) m).2=0 then(zP,10)else if(C2 t h inj N (AA c.en 0) m).2=10 then(zP,0)else(zP,(C2 t h inj N (AA c.en 0) m).2))else
  if c.j0=3 then TB (fun k=>C2 t h inj N k m) c.en else
  if c.j0=4 then(fst (fun i=>if(C2 t h inj N (AA c.en i) m).2=0 then some (⟨i,zM,[(C2 t h inj N (AA c.en i) m).1]⟩,0)else if(C2 t h inj N (AA c.en i) m).2≠10 then some (zP,(C2 t h inj N (AA c.en i) m).2)else none) 0 c.en.length).getD (zP,10)else
  if c.j0=5 then
   (if(Dw t c h m inj).2≠0 then(zP,(Dw t c h m inj).2)else
   (fst (fun i=>if(C2 t h inj N (AA c.en 0) (AA (Dw t c h m inj).1 i)).2=0 then some (⟨0,AA (Dw t c h m inj).1 i,[(C2 t h inj N (AA c.en 0) (AA (Dw t c h m inj).1 i)).1]⟩,0)else
    if (C2 t h inj N (AA c.en 0) (AA (Dw t c h m inj).1 i)).2≠10 then some (zP,(C2 t h inj N (AA c.en 0) (AA (Dw t c h m inj).1 i)).2)else none) 0 (Dw t c h m inj).1.length).getD (zP,10))else
  (zP,0)
def C1(t:AC)(h:AF)(inj:Bool):Nat->d7->AL->BA×Int
 |0,_,_=>(zP,0)|N+1,c,m=>
  if c.j0=2 then(if(C1 t h inj N (AA c.en 0) m).2=0 then(zP,10)else if(C1 t h inj N (AA c.en 0) m).2=10 then(zP,0)else(zP,(C1 t h inj N (AA c.en 0) m).2))else
  if c.j0=3 then TB (fun k=>C1 t h inj N k m) c.en else
  if c.j0=4 then(fst (fun i=>if(C1 t h inj N (AA c.en i) m).2≠10 then some (⟨i,zM,[(C1 t h inj N (AA c.en i) m).1]⟩,(C1 t h inj N (AA c.en i) m).2)else none) 0 c.en.length).getD (zP,10)else
  if c.j0=5 then
   (if(Dw t c h m inj).2≠0 then(zP,(Dw t c h m inj).2)else
   (fst (fun i=>if(C1 t h inj N (AA c.en 0) (AA (Dw t c h m inj).1 i)).2≠10 then some (⟨0,AA (Dw t c h m inj).1 i,[(C1 t h inj N (AA c.en 0) (AA (Dw t c h m inj).1 i)).1]⟩,(C1 t h inj N (AA c.en 0) (AA (Dw t c h m inj).1 i)).2)else none) 0 (Dw t c h m inj).1.length).getD (zP,10))else
  (zP,0)
def MU(x:BA×Int):BA×Int:=if x.2=0 then x else(zP,x.2)
theorem iI(x:BA×Int):(MU x).2=x.2:=by unfold MU;split<;>rfl
theorem iH{x:BA×Int}(h:x.2=0):(MU x).1=x.1:=by unfold MU;rw[a6 h]
theorem kF(w:d7->BA×Int)(l:List d7):MU (TB w l)=TB w l:=by
 unfold TB;have:∀(l:List d7)(s:BA×BA)(r:BA×Int),EK (Ng w) l s=.inr r->MU r=r:=by
  intro l
  induction l with
  |nil=>intro s r h;cases h
  |cons a l j=>
   intro s r h;rw[EK]at h;split at h
   .exact j _ _ h
   .cases h
   .rename_i o d;cases h;unfold Ng at d;split at d
    .rename_i e;cases d;unfold MU;rw[ae e]
    .cases d
 cases g:EK (Ng w) l (zP,zP)with
 |inl s=>rfl|inr r=>exact this _ _ _ g
theorem Xn(o:Option (BA×Int)):MU (o.getD (zP,10))=(o.map MU).getD (zP,10):=by cases o<;>rfl
theorem eE(t:AC)(h:AF)(inj:Bool):∀(N:Nat)(c:d7)(m:AL),C2 t h inj N c m=MU (C1 t h inj N c m)
 |0,_,_=>rfl|N+1,c,m=>by
  have w:=eE t h inj N;have key:∀(c:d7)(m:AL),(C2 t h inj N c m).2=(C1 t h inj N c m).2:=fun c m=>by rw[w,iI]
  have pick:∀(k:d7)(m x:AL)(i:Int),(if(C2 t h inj N k m).2=0 then some ((⟨i,x,[(C2 t h inj N k m).1]⟩:BA),(0:Int))else if(C2 t h inj N k m).2≠10 then some (zP,(C2 t h inj N k m).2)else none)=(if(C1 t h inj N k m).2≠10 then some ((⟨i,x,[(C1 t h inj N k m).1]⟩:BA),(C1 t h inj N k m).2)else none).map MU:=by
   intro k m x i;rw[key];by_cases d:(C1 t h inj N k m).2=0
   .rw[a6 d,a6 (by omega),w,iH d];simp[MU,d]
   .rw[ae d];by_cases e:(C1 t h inj N k m).2≠10
    .rw[a6 e,a6 e];simp[MU,d]
    grind
  rw [C2,C1];by_cases j:c.j0=2
  .rw[a6 j,a6 j,key];by_cases d:(C1 t h inj N (AA c.en 0) m).2=0
   .rw[a6 d];rfl
   .rw[ae d];by_cases e:(C1 t h inj N (AA c.en 0) m).2=10
    .rw[a6 e];rfl
    .rw[ae e];unfold MU;rw[ae d]
  rw [ae j,ae j];by_cases o:c.j0=3
  .rw[a6 o,a6 o,kF];unfold TB;rw[WY (s2:=Ng fun k=>C1 t h inj N k m)];intro k _;funext s;unfold Ng;simp only[key];by_cases d:(C1 t h inj N k m).2=0
   .rw[ae (by simp[d]),ae (by simp[d]),w,iH d]
   .rw[a6 d,a6 d]
  rw [ae o,ae o];by_cases r:c.j0=4
  .rw[a6 r,a6 r,Xn,<-QG];congr 1;exact congrArg (fun F=>fst F 0 (c.en.length:Int)) (funext fun i=>pick _ _ _ _)
  rw [ae r,ae r];by_cases u:c.j0=5
  .rw[a6 u,a6 u];by_cases g:(Dw t c h m inj).2≠0
   .rw[a6 g,a6 g];unfold MU;rw[ae g]
   .rw[ae g,ae g,Xn,<-QG];congr 1;exact congrArg (fun F=>fst F 0 ((Dw t c h m inj).1.length:Int)) (funext fun i=>pick _ _ _ _)
  rw [ae u,ae u];rfl
end Go.Sf.Sc
namespace Go.Sf.Sc
open Go Go.Sf
def RC(i:Int)(s:BA×BA):Prop:=(s.2.en.length:Int)=i
theorem WJ{s:BD}(hf:Az s.t)(hv:(A7 s.t).2=0)(hh:Hr s.t s.h):∀(N:Nat)(c:d7)(p:ea)(m:AL),SizeOf.sizeOf c<=N->CV s.t p c->VP s.t p s.h m->∀n,2*N<=n->Av n s c m=some (C2 s.t s.h s.fb N c m)
 |0,c,_,_,h,_,_,_,_=>by have:=Dn c;omega|N+1,c,p,m,h,o,y,n,E=>by
  obtain ⟨n,rfl⟩:∃k,n=k+2:=⟨n-2,by omega⟩;have kid:∀(i:Int),0<=i->i<c.en.length->SizeOf.sizeOf (AA c.en i)<=N:=fun i d e=>by
   have:=ET (AI (l:=c.en) d e);omega
  rw [Av,C2];by_cases r:c.j0=2
  .have D:=o.one (.inl r);rw[a6 (by simpa using r),a6 r,AD (by omega) (by omega),bs,WJ hf hv hh N _ p m (kid 0 (by omega) (by omega)) (o.kid (by omega) _ (AI (by omega) (by omega))) y (n+1) (by omega),bs]
   grind
  rw [ae (by simpa using r),ae r];by_cases z:c.j0=3
  .rw[a6 (by simpa using z),a6 z];have B:=o.few;rw[Vo (Ng fun k=>C2 s.t s.h s.fb N k m) RC (show RC 0 (zP,zP)from rfl)]
   .unfold TB;show ek (some (EK (Ng fun k=>C2 s.t s.h s.fb N k m) c.en (zP,zP))) _ _=_;cases EK (Ng fun k=>C2 s.t s.h s.fb N k m) c.en (zP,zP)<;>rfl
   .intro i st d e hi;unfold RC at hi;rw[AD d e,bs,WJ hf hv hh N _ p m (kid i d e) (o.kid (by omega) _ (AI d e)) y (n+1) (by omega),bs]
    grind [Ng,C2,AA,AY,AZ,RC]
  rw [ae (by simpa using z),ae z];by_cases A:c.j0=4
  .rw[a6 (by simpa using A),a6 A];rw[Hk (fun _=>zP) (fun i=>if(C2 s.t s.h s.fb N (AA c.en i) m).2=0 then some (⟨i,zM,[(C2 s.t s.h s.fb N (AA c.en i) m).1]⟩,0)else if(C2 s.t s.h s.fb N (AA c.en i) m).2≠10 then some (zP,(C2 s.t s.h s.fb N (AA c.en i) m).2)else none) (by omega) rfl]
   .cases fst (fun i=>if(C2 s.t s.h s.fb N (AA c.en i) m).2=0 then some ((⟨i,zM,[(C2 s.t s.h s.fb N (AA c.en i) m).1]⟩:BA),(0:Int))else if(C2 s.t s.h s.fb N (AA c.en i) m).2≠10 then some (zP,(C2 s.t s.h s.fb N (AA c.en i) m).2)else none) 0 c.en.length<;>rfl
   .intro i d e _;rw[AD d e,bs,WJ hf hv hh N _ p m (kid i d e) (o.kid (by omega) _ (AI d e)) y (n+1) (by omega),bs];generalize C2 s.t s.h s.fb N (AA c.en i) m=x;by_cases j:x.2=0
    .rw[a6 (by simpa using j),a6 j];try rfl
    .rw[ae (by simpa using j),ae j];by_cases g:x.2=10
     .rw[ae (by simp[g]),ae (by simp[g])];try rfl
     .rw[a6 (by simp[g]),a6 g];try rfl
  rw [ae (by simpa using A),ae A];by_cases u:c.j0=5
  .rw[a6 (by simpa using u),a6 u];have hi:=o.ins u;have D:=o.one (.inr u);rw[BR,rA hf hv hh y hi,bs];by_cases w:(Dw s.t c s.h m s.fb).2=0
   .obtain⟨g,C⟩:=cr hv hh y hi w;rw[ae (by simp[w]),ae (by simp[w])];generalize (Dw s.t c s.h m s.fb).1=l at g C;rw[Hk (fun _=>zP) (fun i=>if(C2 s.t s.h s.fb N (AA c.en 0) (AA l i)).2=0 then some (⟨0,AA l i,[(C2 s.t s.h s.fb N (AA c.en 0) (AA l i)).1]⟩,0)else if(C2 s.t s.h s.fb N (AA c.en 0) (AA l i)).2≠10 then some (zP,(C2 s.t s.h s.fb N (AA c.en 0) (AA l i)).2)else none) (by omega) rfl]
    .cases fst (fun i=>if(C2 s.t s.h s.fb N (AA c.en 0) (AA l i)).2=0 then some ((⟨0,AA l i,[(C2 s.t s.h s.fb N (AA c.en 0) (AA l i)).1]⟩:BA),(0:Int))else if(C2 s.t s.h s.fb N (AA c.en 0) (AA l i)).2≠10 then some (zP,(C2 s.t s.h s.fb N (AA c.en 0) (AA l i)).2)else none) 0 l.length<;>rfl
    .intro i d e _;rw[AD d e,bs,AD (by omega) (by omega),bs,WJ hf hv hh N _ c.ea _ (kid 0 (by omega) (by omega)) (o.kid5 u _ (AI (by omega) (by omega))) (C _ (AI d e)) n (by omega),bs];generalize C2 s.t s.h s.fb N (AA c.en 0) (AA l i)=x;by_cases j:x.2=0
     .rw[a6 (by simpa using j),a6 j];try rfl
     .rw[ae (by simpa using j),ae j];by_cases g:x.2=10
      .rw[ae (by simp[g]),ae (by simp[g])];try rfl
      .rw[a6 (by simp[g]),a6 g];try rfl
   .rw[a6 (by simp[w]),a6 w];try rfl
  grind
variable{t:AC}{inj:Bool}
theorem Ru{d:AF}(hf:Az t)(hv:(A7 t).2=0)(hh:Hr t d):∀(N:Nat)(c:d7)(p:ea)(m:AL),SizeOf.sizeOf c<=N->CV t p c->VP t p d m->∀n,N<=n->C7 n t c d m inj=some (C1 t d inj N c m)
 |0,c,_,_,h,_,_,_,_=>by have:=Dn c;omega|N+1,c,p,m,h,o,w,n,E=>by
  obtain ⟨n,rfl⟩:∃k,n=k+1:=⟨n-1,by omega⟩;have kid:∀(i:Int),0<=i->i<c.en.length->SizeOf.sizeOf (AA c.en i)<=N:=fun i e g=>by
   have:=ET (AI (l:=c.en) e g);omega
  rw [C7,C1];by_cases r:c.j0=2
  .have D:=o.one (.inl r);rw[a6 (by simpa using r),a6 r,AD (by omega) (by omega),bs,Ru hf hv hh N _ p m (kid 0 (by omega) (by omega)) (o.kid (by omega) _ (AI (by omega) (by omega))) w n (by omega),bs]
   grind
  rw [ae (by simpa using r),ae r];by_cases y:c.j0=3
  .rw[a6 (by simpa using y),a6 y];have B:=o.few;rw[Vo (Ng fun k=>C1 t d inj N k m) RC (show RC 0 (zP,zP)from rfl)]
   .unfold TB;show ek (some (EK (Ng fun k=>C1 t d inj N k m) c.en (zP,zP))) _ _=_;cases EK (Ng fun k=>C1 t d inj N k m) c.en (zP,zP)<;>rfl
   .intro i st e g hi;unfold RC at hi;rw[AD e g,bs,Ru hf hv hh N _ p m (kid i e g) (o.kid (by omega) _ (AI e g)) w n (by omega),bs]
    grind [Ng,C1,AA,AY,AZ,RC]
  rw [ae (by simpa using y),ae y];by_cases z:c.j0=4
  .rw[a6 (by simpa using z),a6 z];rw[Hk (fun _=>zP) (fun i=>if(C1 t d inj N (AA c.en i) m).2≠10 then some (⟨i,zM,[(C1 t d inj N (AA c.en i) m).1]⟩,(C1 t d inj N (AA c.en i) m).2)else none) (by omega) rfl]
   .cases fst (fun i=>if(C1 t d inj N (AA c.en i) m).2≠10 then some ((⟨i,zM,[(C1 t d inj N (AA c.en i) m).1]⟩:BA),(C1 t d inj N (AA c.en i) m).2)else none) 0 c.en.length<;>rfl
   .intro i e g _;rw[AD e g,bs,Ru hf hv hh N _ p m (kid i e g) (o.kid (by omega) _ (AI e g)) w n (by omega),bs];generalize C1 t d inj N (AA c.en i) m=x;by_cases j:x.2=10
    .rw[ae (by simp[j]),ae (by simp[j])];try rfl
    .rw[a6 (by simp[j]),a6 j];try rfl
  rw [ae (by simpa using z),ae z];by_cases u:c.j0=5
  .rw[a6 (by simpa using u),a6 u];have hi:=o.ins u;have D:=o.one (.inr u);rw[rV hf hv hh w hi,bs];by_cases A:(Dw t c d m inj).2=0
   .obtain⟨j,C⟩:=cr hv hh w hi A;rw[ae (by simp[A]),ae (by simp[A])];generalize (Dw t c d m inj).1=l at j C;rw[Hk (fun _=>zP) (fun i=>if(C1 t d inj N (AA c.en 0) (AA l i)).2≠10 then some (⟨0,AA l i,[(C1 t d inj N (AA c.en 0) (AA l i)).1]⟩,(C1 t d inj N (AA c.en 0) (AA l i)).2)else none) (by omega) rfl]
    .cases fst (fun i=>if(C1 t d inj N (AA c.en 0) (AA l i)).2≠10 then some ((⟨0,AA l i,[(C1 t d inj N (AA c.en 0) (AA l i)).1]⟩:BA),(C1 t d inj N (AA c.en 0) (AA l i)).2)else none) 0 l.length<;>rfl
    .intro i e g _;rw[AD (by omega) (by omega),bs,AD e g,bs,Ru hf hv hh N _ c.ea _ (kid 0 (by omega) (by omega)) (o.kid5 u _ (AI (by omega) (by omega))) (C _ (AI e g)) n (by omega),bs];generalize C1 t d inj N (AA c.en 0) (AA l i)=x;by_cases j:x.2=10
     .rw[ae (by simp[j]),ae (by simp[j])];try rfl
     .rw[a6 (by simp[j]),a6 j];try rfl
   grind
  grind
end Go.Sf.Sc
namespace Go.Sf.Sc
open Go Go.Sf
noncomputable def TL(t:AC)(p:ea)(c:d7)(h:AF)(m:AL)(inj:Bool):Int:=
 if Nr t p c≠0 then Nr t p c else if(FE t h).2≠0 then(FE t h).2 else if Gs t p.d5 h.d5 m.d6 inj≠0 then Gs t p.d5 h.d5 m.d6 inj else
 if (Fu t p h m.d6).2≠0 then(Fu t p h m.d6).2 else if(Fu t p h m.d6).1=m.fa then 0 else 11
variable{t:AC}{c:d7}
theorem k8(hf:Az t)(p:ea)(d:Dx c)(h:AF)(m:AL)(inj:Bool):FP t p c h m inj=some (TL t p c h m inj):=by
 unfold FP TL;rw[oY hf p d,bs];refine Dz fun _=>?_;rw[WG hf,bs];refine Dz fun _=>?_;rw[W5 hf,bs];refine Dz fun _=>?_;rw[dL hf,bs];refine Dz fun _=>?_;rw[J8,bs]
 grind
variable{p:ea}{h:AF}{inj:Bool}
theorem Vg(hf:Az t)(z:Dc c<=40){m:AL}(e:TL t p c h m inj=0):(A7 t).2=0/\Hr t h/\CV t p c/\VP t p h m:=by
 unfold TL at e;split at e
 .grind
 rename_i d;split at e
 .grind
 rename_i j;split at e
 .grind
 rename_i o;split at e
 .grind
 rename_i r;split at e
 case isFalse=>cases e
 rename_i C;have d:=Classical.not_not.1 d;have j:=Classical.not_not.1 j;have o:=Classical.not_not.1 o;have r:=Classical.not_not.1 r;obtain⟨hv,hh⟩:=QH hf j;have w:=(Zi o).2;unfold Nr at d;split at d
 .grind
 rename_i A;split at d
 .grind
 rename_i u;have y:=lM hv (.inl (Classical.not_not.1 A));have u:=Classical.not_not.1 u;have B:nX c=true:=by
  grind [Qs]
 suffices g:(m.fa.length:Int)=p.fa/\Pf m.fa from⟨hv,hh,nA hv _ c p (az _) z B d,y,w,g.1,g.2⟩
 have g:∀s∈p.em,JO p.fa h m.d6 s:=fun s g=>QR (C4 hv) y hh w g
 grind [Fu,jY]
end Go.Sf.Sc
namespace Go.Sf.Sc
open Go Go.Sf
def QJ:Nat->d7->Bool
 |0,_=>true|N+1,c=>if ll (fun i=>!QJ N (AA c.en i)) 0 c.en.length=true then false else decide (Am ((c.ea.d5.d3.length:Int)+c.ea.d5.d4.length)<=6)
theorem YE:∀(N:Nat)(c:d7),SizeOf.sizeOf c<=N->∀n,N<=n->Fg n c=some (QJ N c)
 |0,c,h,_,_=>by have:=Dn c;omega|N+1,c,h,n,g=>by
  obtain ⟨n,rfl⟩:∃k,n=k+1:=⟨n-1,by omega⟩;rw[Fg,QJ,BQ (fun i=>!QJ N (AA c.en i)) false]
  .cases ll (fun i=>!QJ N (AA c.en i)) 0 c.en.length<;>rfl
  .intro i d e _;have:=ET (AI (l:=c.en) d e);rw[AD d e,bs,YE N _ (by omega) n (by omega),bs,IC]
theorem lQ(c:d7):Qr c=some (QJ (SizeOf.sizeOf c) c):=Dd (SizeOf.sizeOf c) fun n d=>YE _ c (az _) n d
def Tf(a:Int):Nat->Int->Int
 |0,s=>s|k+1,s=>Am (Tf a k s*a)
theorem nM{a b k s:Int}(g:0<=k)(e:k<=1000)(j:b<=1000):EG (ρ:=Bool) (fun(d:Int×Int)=>
  if (decide (d.2<b))=true then
  some (.next (Am (d.1*a),Am (d.2+1)))
  else
  some (.brk (d.1,d.2))) (s,k)=some (.inl (Tf a (max k b-k).toNat s,max k b)):=by
 refine Qw (fun i=>Tf a (i-k).toNat s) (by omega) (by rw[show(k-k).toNat=0 by omega];rfl) (fun i o r=>?_) ?_
 .rw[a6 (by simp;omega),show(i+1-k).toNat=(i-k).toNat+1 by omega,Tf];dsimp only;rw[Ay (n:=i+1) (by omega) (by omega)]
 .rw[ae (by simp;omega)]
def Qc(a b:Int):Nat->ea->d7->Bool
 |0,_,_=>true|N+1,p,c=>
  let q:=if c.j0=5 then c.ea else p
  if ll (fun i=>!Qc a b N q (AA c.en i)) 0 c.en.length=true then false else
  decide (Tf b (max (p.d5.d4.length:Int) q.d5.d4.length-p.d5.d4.length).toNat (Tf a (max (p.d5.d3.length:Int) q.d5.d3.length-p.d5.d3.length).toNat 1)<=5000)
theorem am(a b:Int):∀(N:Nat)(c:d7)(p:ea),SizeOf.sizeOf c<=N->Dx c->OV p->∀n,N<=n->EJ n p c a b=some (Qc a b N p c)
 |0,c,_,h,_,_,_,_=>by have:=Dn c;omega|N+1,c,p,h,g,z,n,K=>by
  obtain ⟨n,rfl⟩:∃k,n=k+1:=⟨n-1,by omega⟩;have E:=g.q.ec;have F:=g.q.ei;have G:=z.ec;have H:=z.ei;have e:∀q:ea,OV q->(ek (EG (ρ:=Bool) (fun(d:Int×Int)=>
    if (decide (d.2<(q.d5.d3.length:Int)))=true then
    some (.next (Am (d.1*a),Am (d.2+1)))
    else
    some (.brk (d.1,d.2))) (1,(p.d5.d3.length:Int))) (fun d=>
    ek (EG (ρ:=Bool) (fun(s2:Int×Int)=>
    if (decide (s2.2<(q.d5.d4.length:Int)))=true then
    some (.next (Am (s2.1*b),Am (s2.2+1)))
    else
    some (.brk (s2.1,s2.2))) (d.1,(p.d5.d4.length:Int))) (fun s2=>
    ek (hT (ρ:=Bool) (fun(A:Int)(_:Unit)=>
    (idx c.en A).bind fun j=>
    (EJ n q j a b).bind fun o=>
    if (!o)=true then
    some (.ret false)
    else
    some (.next ())) 0 (c.en.length:Int) ()) (fun _=>
    some (decide (s2.1<=5000))) (fun B=>some B)) (fun C=>some C)) (fun D=>some D))=
    some (if ll (fun i=>!Qc a b N q (AA c.en i)) 0 c.en.length=true then false else
     decide (Tf b (max (p.d5.d4.length:Int) q.d5.d4.length-p.d5.d4.length).toNat (Tf a (max (p.d5.d3.length:Int) q.d5.d3.length-p.d5.d3.length).toNat 1)<=5000)):=by
   intro q r;have I:=r.ec;have J:=r.ei;rw[nM (by omega) (by omega) (by omega),Bt];dsimp only;rw[nM (by omega) (by omega) (by omega),Bt,BQ (fun i=>!Qc a b N q (AA c.en i)) false]
   .cases ll (fun i=>!Qc a b N q (AA c.en i)) 0 c.en.length<;>rfl
   .intro i u w _;have:=ET (AI (l:=c.en) u w);rw[AD u w,bs,am a b N _ q (by omega) (g.k _ (AI u w)) r n (by omega),bs,IC]
  rw [EJ,Qc];by_cases y:c.j0=5
  .rw[a6 (by simpa using y),a6 y,bs,e _ g.q]
  grind
variable{c:d7}{p:ea}
theorem iq(a b:Int)(d:Dx c)(e:OV p):Pl p c a b=some (Qc a b (SizeOf.sizeOf c) p c):=Dd (SizeOf.sizeOf c) fun n g=>am a b _ c p (az _) d e n g
theorem Zr(h:AF):∃b,GW h=some b:=by
 unfold GW Ii;rw[bs];split
 .exact⟨_,rfl⟩
 .rw[BQ (fun i=>decide (12<((AA h.ed i).length:Int))) false]
  .cases ll (fun i=>decide (12<((AA h.ed i).length:Int))) 0 h.ed.length
   .exact⟨true,rfl⟩
   .exact⟨false,rfl⟩
  .intro i d e _;rw[AD d e,bs,IC]
variable{t:AC}
theorem i7(hf:Az t)(st:(AM t).Sm)(p g:d5):∃b,Mm t p g=some b:=by
 obtain ⟨b,e,_⟩:=Q8 st;unfold Mm Ii;rw[e,bs,U9 hf]
 grind
theorem jA(hf:Az t)(st:(AM t).Sm)(p:ea)(w:(AH c).Sm)(h:AF):∃b,Mn t p c h=some b/\(b=true->Dx c/\Dc c<=40/\OV p):=by
 obtain ⟨y,z,A⟩:=gi w;obtain⟨B,r,C⟩:=Rk p;obtain⟨D,u⟩:=Zr h;unfold Mn;rw[z,bs];cases y
 .exact⟨false,rfl,fun h=>by cases h⟩
 rw [r];cases B
 .exact⟨false,rfl,fun h=>by cases h⟩
 rw [u];cases D
 .exact⟨false,rfl,fun h=>by cases h⟩
 have g:=A rfl;have j:=C rfl;simp only[bs,Bool.not_true,Bool.false_eq_true,if_false];rw[iu hf p g.1,bs];have d:∀o:K1,(∃b,o=some b)->∃b,o=some b/\(b=true->Dx c/\Dc c<=40/\OV p):=fun o⟨b,e⟩=>⟨b,e,fun _=>⟨g.1,g.2,j⟩⟩;refine d _ ?_;split
 .exact⟨true,rfl⟩
 .obtain⟨E,F⟩:=i7 hf st p.d5 h.d5;unfold O7;rw[r,u,F,lQ,iq 14 18 g.1 j];simp only[bs,if_true];cases E<;>simp only[Bool.false_eq_true,if_false,if_true,bs,Bool.false_and]
  .exact⟨_,rfl⟩
  .split
   .exact⟨_,rfl⟩
   .exact⟨_,rfl⟩
noncomputable def wS(t:AC)(p:ea)(c:d7)(h:AF)(m:AL)(inj:Bool):BA×Int:=
 if TL t p c h m inj≠0 then(zP,TL t p c h m inj)else C2 t h inj (SizeOf.sizeOf c) c m
theorem ii(hf:Az t)(p:ea)(e:Dx c)(g:Dc c<=40)(h:AF)(m:AL)(inj:Bool):EQ t p c h m inj=some (wS t p c h m inj):=by
 unfold EQ wS;rw[k8 hf p e,bs];refine FG fun j=>?_;obtain⟨hv,hh,d,r⟩:=Vg hf g j;rw[show FC (BD.mk t h inj) c m=some (C2 t h inj (SizeOf.sizeOf c) c m)from Dd (2*SizeOf.sizeOf c) fun n o=>WJ (s:=⟨t,h,inj⟩) hf hv hh _ c p m (az _) d r n o];rfl
noncomputable def NJ(t:AC)(p:ea)(c:d7)(h:AF)(m:AL)(inj:Bool):Bool×Int:=
 if (wS t p c h m inj).2=10 then(false,0)else(decide ((wS t p c h m inj).2=0),(wS t p c h m inj).2)
theorem cD(hf:Az t)(p:ea)(d:Dx c)(e:Dc c<=40)(h:AF)(m:AL)(inj:Bool):Dp t p c h m inj=some (NJ t p c h m inj):=by grind[Dp,NJ,ii,wS]
variable{h:AF}{inj:Bool}
theorem lP(hf:Az t){m:AL}(hv:(A7 t).2=0)(hh:Hr t h)(d:CV t p c)(e:VP t p h m):O8 t c h m inj=some (C1 t h inj (SizeOf.sizeOf c) c m):=Dd (SizeOf.sizeOf c) fun n g=>Ru hf hv hh _ c p m (az _) d e n g
end Go.Sf.Sc
namespace Go.Sf.Sc
open Go Go.Sf
end Go.Sf.Sc
namespace Go.Sf.Sc
open Go Go.Sf
theorem pV(t:AC)(p:ea)(c:d7)(h:AF)(m:AL)(inj:Bool):wS t p c h m inj=if TL t p c h m inj≠0 then(zP,TL t p c h m inj)else MU (C1 t h inj (SizeOf.sizeOf c) c m):=by
 unfold wS;rw[eE]
end Go.Sf.Sc
