/- Plain lemmas: what the functions of the program and of the reference compute. -/
import Derived.Test.YtdnblcjdhbadaaaGreatP25
set_option linter.all false
set_option maxRecDepth 100000
namespace Go.Sf.Sc
open Go Go.Sf
variable{all:List mo}{k:Int}
theorem Q5(h:LU all k=0)(d:(AA all k).tg.length<=1000):-1000000<=(AA all k).Low/\(AA all k).Aao<=1000000:=by grind[LU]
variable{t:AC}{i:Int}
theorem Z4(h:H9 t i=0):∀k,((Ax t i).length:Int)-(AA t.d4 i).tl.length<=k->k<(Ax t i).length->LU (Ax t i) k=0:=by
 unfold H9 at h;dsimp only at h;split at h
 .cases h
 split at h
 .cases h
 split at h
 .cases h
 split at h
 .cases h
 exact VK h
variable{a:Int}
theorem Oj{n:Nat}(d:0<=a):B3 t (n+1) a=B3 t n (par t a)++(AA t.d4 a).tl:=by grind[B3]
theorem hU(h:LU all k=0)(d:(AA all k).tg.length<=1000):(AA all k).Low<=(AA all k).Aao:=by grind[LU]
theorem Q7(hf:Au t)(h:Em t){Q:mo->Prop}(Q5:∀{all:List mo}{k:Int},LU all k=0->(AA all k).tg.length<=1000->Q (AA all k)):∀(n:Nat)(a:Int),a<t.d4.length->a<n->∀x∈B3 t n a,Q x
 |0,_,_,_=>by simp[B3]|n+1,a,g,C=>by
  by_cases o:a<0
  .rw[Ir o];simp
  .have y:=h.par a (by omega) g;intro x d;rw[Oj (by omega)]at d;rcases List.mem_append.1 d with d|d
   .exact Q7 hf h Q5 n (par t a) (by omega) (by omega) x d
   .obtain⟨j,A,B,rfl⟩:=BZ d;have e:Ax t a=B3 t a.toNat (par t a)++(AA t.d4 a).tl:=by
     unfold Ax;rw[show(a+1).toNat=a.toNat+1 by omega,Oj (by omega)]
    have z:(Ax t a).length=(B3 t a.toNat (par t a)).length+(AA t.d4 a).tl.length:=by rw[e,bk]
    have r:=Z4 (h.node a (by omega) g) ((B3 t a.toNat (par t a)).length+j) (by omega) (by omega);have u:AA (Ax t a) ((B3 t a.toNat (par t a)).length+j)=AA (AA t.d4 a).tl j:=by
     grind [Lv,AA]
    have w:=ML hf (Int.le_refl _) h.par g (AA (Ax t a) ((B3 t a.toNat (par t a)).length+j)) (AI (by omega) (by omega));have:=Q5 r (by have:=w.names;omega)
    rwa [u]at this
theorem Q8(hf:Au t)(h:Em t)(e:0<=a)(d:a<t.d4.length):∀x∈Ax t a,-1000000<=x.Low/\x.Aao<=1000000:=Q7 hf h Q5 _ a d (by omega)
theorem eD(hf:Au t)(h:Em t)(e:0<=a)(d:a<t.d4.length):∀x∈Ax t a,x.Low<=x.Aao:=Q7 hf h hU _ a d (by omega)
theorem Xa(e:Eb t k):∀(n:Nat)(a b:Int),a<k->a<n->b∈Pt t n a->0<=b/\b<=a/\(Ax t b).length<=(B3 t n a).length
 |0,_,_,_,_=>by simp[Pt]|n+1,a,b,g,r=>by
  intro d;rw[Pt]at d;split at d
  .cases d
  .rename_i j;have o:=e a (by omega) g;rw[Oj (by omega)];rcases List.mem_cons.1 d with rfl|d
   .refine⟨by omega,by omega,?_⟩;unfold Ax;rw[Lw e (b+1).toNat (n+1) b g (by omega) (by omega),Oj (by omega)];exact az _
   .have:=Xa e n (par t a) b (by omega) (by omega) d
    grind
variable{b:Int}
theorem W4(h:Em t)(j:a<t.d4.length)(d:If t a b=true):(Ax t b).length<=(Ax t a).length:=by
 unfold If at d;rw[List.any_eq_true]at d;obtain⟨x,g,e⟩:=d;rw[x7]at e;subst e;by_cases o:a<0
 .have:(a+1).toNat=0:=by omega
  rw [this]at g;cases g
 .exact(Xa h.par (a+1).toNat a b j (by omega) g).2.2
theorem cL{α:Type}{Q:Prop}[Decidable Q]{v:α}{X:Option α}{Y:α}(he:a=b↔Q)(h:Q->X=some Y):(if(!decide (a=b))=true then some v else X)=some (if¬Q then v else Y):=by grind
def Rb(t:AC)(k:Int)(v:Fp)(j:Int):Bool:=decide (AA v j<(AA (Ax t k) j).Low)||decide ((AA (Ax t k) j).Aao<AA v j)
def JJ(t:AC)(k:Int)(v:Fp):Int:=
 if (t.d4.length:Int)<=k then 6 else if(AA t.d4 k).Aae=true then 13 else if¬v.length=(Ax t k).length then 20 else
 if ns (Rb t k v) 0 (Ax t k).length=true then 6 else 0
def OD(t:AC)(g:d6)(i:Int):Int:=
 if (t.d5.length:Int)<=(AA g.d5 i).kg then 6 else if E6 t g i=false then 13 else 0
def Iw(t:AC)(h:AG):Int×Int:=
 if (A1 t).2≠0 then(-1,(A1 t).2)else if Bn h.d6≠0 then(-1,Bn h.d6)else if¬h.hT.length=h.d6.d4.length then(-1,20)else
 match fst (fun i=>(nz (JJ t (AA h.d6.d4 i) (AA h.hT i))).map fun e=>(i,e)) 0 h.d6.d4.length with
 |some r=>r|none=>(fst (fun i=>(nz (OD t h.d6 i)).map fun e=>(i,e)) 0 h.d6.d5.length).getD (-1,0)
theorem Ie(hv:(A1 t).2=0)(d:0<=k)(e:k<t.d4.length):Fx t k=(Ax t k,0):=by grind[Fx,Lz]
theorem T1{x:Bool}{y:Bool}:(if x=true then some true else some y)=some (x||y):=by cases x<;>rfl
theorem mR(hf:Au t)(hv:(A1 t).2=0)(d:0<=k)(v:Fp):OE t k v=some (JJ t k v):=by
 unfold OE JJ;by_cases e:(t.d4.length:Int)<=k
 .grind
 rw [ae (by simpa using e),ae e,AD d (by omega),bs];refine WZ fun _=>?_;rw[Qn hf,Ie hv d (by omega),bs];refine cL (by simp only[];omega) fun g=>?_;rw[BE (Rb t k v) 6]
 .cases ns (Rb t k v) 0 (Ax t k).length<;>rfl
 grind [Ax,AD,T1,Rb,AA]
theorem mr(hf:Au t)(hv:(A1 t).2=0)(d:0<=k)(v:Fp):Mi t k v=some (JJ t k v):=by
 unfold Mi JJ;by_cases e:(t.d4.length:Int)<=k
 .grind
 rw [ae (by simpa using e),ae e,AD d (by omega),bs];refine WZ fun _=>?_;rw[Qo hf,Ie hv d (by omega),bs];refine cL (by simp only[];omega) fun g=>?_;rw[BE (Rb t k v) 6]
 .cases ns (Rb t k v) 0 (Ax t k).length<;>rfl
 grind [Ax,AD,T1,Rb,AA]
theorem Yv(e i:Int):(if(!decide (e=0))=true then some (B0.ret (σ:=Unit) (ρ:=Int×Int) (i,e))else some (.next ()))=some (Lk ((nz e).map fun e=>(i,e))):=by grind[nz,Lk]
theorem Y5(hf:Au t)(h:AG):Ix t h=some (Iw t h):=by
 unfold Ix Iw;rw[NV hf,bs];refine Dt fun hv=>?_;rw[L6,bs];refine Dt fun o=>?_;have go:=C3 o;refine cL (by omega) fun z=>?_;rw[BV (fun i=>(nz (JJ t (AA h.d6.d4 i) (AA h.hT i))).map fun e=>(i,e)),DE]
 .cases u:fst (fun i=>(nz (JJ t (AA h.d6.d4 i) (AA h.hT i))).map fun e=>(i,e)) 0 h.d6.d4.length with
  |some r=>rfl|none=>
   have w:=CH.1 u;dsimp only;rw[BV (fun i=>(nz (OD t h.d6 i)).map fun e=>(i,e)),DE]
   .grind
   .intro i d g _;have y:=go.fit _ (AI (l:=h.d6.d5) d g);rw[AD d g,bs];unfold OD E6;by_cases j:(t.d5.length:Int)<=(AA h.d6.d5 i).kg
    .rw[a6 (by simpa using j),a6 j];rfl
    .rw[ae (by simpa using j),ae j,AD (by omega) (by omega),bs,AD (by omega) (by omega),bs,Y1 hf,bs];cases P6 t (AA h.d6.d5 i).kg (AA h.d6.d4 (AA h.d6.d5 i).kq) (AA h.d6.d4 (AA h.d6.d5 i).To)<;>rfl
 .intro i d g _;rw[AD d g,bs,AD d (by omega),bs,mR hf hv (go.kind _ (AI d g)).1,bs];exact Yv _ i
theorem ZN(hf:Au t)(h:AG):Hy t h=some (Iw t h):=by
 unfold Hy Iw;rw[PL hf,bs];refine Dt fun hv=>?_;rw[L7,bs];refine Dt fun o=>?_;have go:=C3 o;refine cL (by omega) fun z=>?_;rw[BV (fun i=>(nz (JJ t (AA h.d6.d4 i) (AA h.hT i))).map fun e=>(i,e)),DE]
 .cases u:fst (fun i=>(nz (JJ t (AA h.d6.d4 i) (AA h.hT i))).map fun e=>(i,e)) 0 h.d6.d4.length with
  |some r=>rfl|none=>
   have w:=CH.1 u;dsimp only;rw[BV (fun i=>(nz (OD t h.d6 i)).map fun e=>(i,e)),DE]
   .grind
   .intro i d g _;have y:=go.fit _ (AI (l:=h.d6.d5) d g);rw[AD d g,bs];unfold OD E6;by_cases j:(t.d5.length:Int)<=(AA h.d6.d5 i).kg
    .rw[a6 (by simpa using j),a6 j];rfl
    .rw[ae (by simpa using j),ae j,AD (by omega) (by omega),bs,AD (by omega) (by omega),bs,ZH hf,bs];cases P6 t (AA h.d6.d5 i).kg (AA h.d6.d4 (AA h.d6.d5 i).kq) (AA h.d6.d4 (AA h.d6.d5 i).To)<;>rfl
 .intro i d g _;rw[AD d g,bs,AD d (by omega),bs,mr hf hv (go.kind _ (AI d g)).1,bs];exact Yv _ i
structure JH(t:AC)(h:AG):Prop where
 g:Cc h.d6
 len:h.hT.length=h.d6.d4.length
 kind:∀i:Int,0<=i->i<h.d6.d4.length->0<=AA h.d6.d4 i/\AA h.d6.d4 i<t.d4.length
 row:∀i:Int,0<=i->i<h.d6.d4.length->(AA h.hT i).length=(Ax t (AA h.d6.d4 i)).length
 low:∀i:Int,0<=i->i<h.d6.d4.length->∀x∈AA h.hT i,-1000000<=x/\x<=1000000
 ge:Bn h.d6=0
 ty:CQ t h.d6=true
variable{h:AG}
theorem Ts(hf:Au t)(e:(Iw t h).2=0):(A1 t).2=0/\JH t h:=by
 unfold Iw at e;split at e
 .rename_i w;exact absurd e w
 split at e
 .rename_i w;exact absurd e w
 split at e
 .cases e
 rename_i w E H;have hv:=Classical.not_not.1 w;have go:=C3 (Classical.not_not.1 E);have z:∀i:Int,0<=i->i<h.d6.d4.length->JJ t (AA h.d6.d4 i) (AA h.hT i)=0:=by
  split at e
  .rename_i r o;obtain⟨i,_,_,k,_⟩:=C4 o;unfold nz at k;split at k
   .cases k
   .rename_i u;cases k;exact absurd e u
  .rename_i o;exact fun i d g=>PJ.1 (NQ.1 (CH.1 o i d g))
 have A:∀i:Int,0<=i->i<h.d6.d4.length->(0<=AA h.d6.d4 i/\AA h.d6.d4 i<t.d4.length)/\(AA h.hT i).length=(Ax t (AA h.d6.d4 i)).length/\∀j:Int,0<=j->j<(Ax t (AA h.d6.d4 i)).length->Rb t (AA h.d6.d4 i) (AA h.hT i) j=false:=by
  intro i d g;have K:=(go.kind _ (AI d g)).1;have:=z i d g;unfold JJ at this;split at this
  .cases this
  split at this
  .cases this
  split at this
  .cases this
  split at this
  .cases this
  rename_i a1 M I J;exact⟨⟨K,by omega⟩,Classical.not_not.1 I,Bp.1 (by simpa using J)⟩
 have he:∀i:Int,0<=i->i<h.d6.d5.length->OD t h.d6 i=0:=by
  have C:fst (fun i=>(nz (JJ t (AA h.d6.d4 i) (AA h.hT i))).map fun e=>(i,e)) 0 h.d6.d4.length=none:=CH.2 fun i d g=>by rw[z i d g];rfl
  rw [C]at e;dsimp only at e;cases o:fst (fun i=>(nz (OD t h.d6 i)).map fun e=>(i,e)) 0 h.d6.d5.length with
  |some r=>
   rw [o]at e;obtain⟨i,_,_,k,_⟩:=C4 o;unfold nz at k;split at k
   .cases k
   .rename_i u;cases k;exact absurd e u
  |none=>exact fun i d g=>PJ.1 (NQ.1 (CH.1 o i d g))
 have D:CQ t h.d6=true:=by
  unfold CQ;rw[pc,Bool.not_eq_true',Bool.not_eq_true',List.any_eq_false,List.any_eq_false];refine⟨fun n z=>?_,fun x B=>?_⟩
  .obtain⟨i,d,g,rfl⟩:=BZ z;have:=(A i d g).1.2;simp;omega
  .obtain⟨i,d,g,rfl⟩:=BZ B;have:=he i d g;unfold OD at this;split at this
   .cases this
   .simp;omega
 suffices y:∀i:Int,0<=i->i<h.d6.d4.length->∀x∈AA h.hT i,-1000000<=x/\x<=1000000 from⟨hv,go,Classical.not_not.1 H,fun i d g=>(A i d g).1,fun i d g=>(A i d g).2.1,y,Classical.not_not.1 E,D⟩
 intro i d g x B;obtain⟨F,N,L⟩:=A i d g;obtain⟨j,G,O,rfl⟩:=BZ B;have:=L j G (by omega);unfold Rb at this;simp only[Bool.or_eq_false_iff,decide_eq_false_iff_not]at this;have:=Q8 hf (Cd hv) F.1 F.2 _ (AI (l:=Ax t (AA h.d6.d4 i)) G (by omega));omega
end Go.Sf.Sc
namespace Go.Sf.Sc
open Go Go.Sf
def Jz(t:AC)(p g:d6)(m:d7)(i:Int):QQ:=
 if AA m.d4 i<0\/g.d4.length<=AA m.d4 i then some 6 else if If t (AA g.d4 (AA m.d4 i)) (AA p.d4 i)=false then some 13 else none
def N0(t:AC)(p g:d6)(m:d7):Int:=
 if m.d4.length≠p.d4.length\/m.d5.length≠p.d5.length then 20 else
 match fst (Jz t p g m) 0 m.d4.length with
 |some e=>e|none=>(fst (GZ p g m) 0 m.d5.length).getD 0
def Fr(t:AC)(p g:d6)(m:d7)(inj:Bool):Int:=
 if FN t p g≠0 then FN t p g else if N0 t p g m≠0 then N0 t p g m else if(inj&&!J3 m)=true then 5 else 0
structure WU(t:AC)(p g:d6)(m:d7):Prop where
 Aas:m.d4.length=p.d4.length
 Aaz:m.d5.length=p.d5.length
 node:∀i:Int,0<=i->i<m.d4.length->(0<=AA m.d4 i/\AA m.d4 i<g.d4.length)/\If t (AA g.d4 (AA m.d4 i)) (AA p.d4 i)=true
 edge:∀i:Int,0<=i->i<m.d5.length->0<=AA m.d5 i/\AA m.d5 i<g.d5.length
variable{t:AC}
theorem NO{p g:d6}(h:FN t p g=0):(A1 t).2=0/\Cc p/\Cc g/\(∀n∈p.d4,0<=n/\n<t.d4.length)/\∀n∈g.d4,0<=n/\n<t.d4.length:=by
 unfold FN at h;split at h
 .grind
 split at h
 .grind
 split at h
 .grind
 split at h
 .rename_i e j o d;rw[pc]at d
  grind [C3,Gr]
 .cases h
variable{m:d7}
theorem be{p g:d6}(h:N0 t p g m=0):WU t p g m:=by
 unfold N0 at h;split at h
 .cases h
 rename_i o;have j:fst (Jz t p g m) 0 m.d4.length=none:=by
  grind [C4,Jz]
 rw [j]at h;have he:=P9 (fun i=>by
  grind [GZ]) h
 refine ⟨by omega,by omega,fun i d e=>?_,fun i d e=>?_⟩
 .grind[CH,Jz]
 grind [GZ]
theorem XD(hf:Au t){p g:d6}(A:FN t p g=0)(m:d7):IV t p g m=some (N0 t p g m):=by
 obtain ⟨hv,C,G,tp,D⟩:=NO A;unfold IV N0;refine N9 (by simp;try omega) fun E=>?_;rw[km hf (Cd hv) hv,bs,BV (Jz t p g m),DE]
 .cases F:fst (Jz t p g m) 0 m.d4.length with
  |some e=>rfl|none=>
   dsimp only;rw[BV (GZ p g m),CP];intro i j z _;unfold GZ;rw[AD j z,bs];by_cases d:AA m.d5 i<0\/g.d5.length<=AA m.d5 i
   .rw[a6 (by simpa using d),a6 d];rfl
   .have hf:=C.fit _ (AI (l:=p.d5) j (by omega));rw[ae (by simpa using d),ae d,AD j (by omega),bs,AD (by omega) (by omega),bs];by_cases o:(AA p.d5 i).kg=(AA g.d5 (AA m.d5 i)).kg
    .rw[ae (by simpa using o),ae (by simpa using o),AD (by omega) (by omega),bs];by_cases r:AA m.d4 (AA p.d5 i).kq=(AA g.d5 (AA m.d5 i)).kq
     .rw[ae (by simpa using r),AD (by omega) (by omega),bs,bs];by_cases u:AA m.d4 (AA p.d5 i).To=(AA g.d5 (AA m.d5 i)).To
      .rw[ae (by simpa using u),ae (by simp[r,u])];rfl
      .rw[a6 (by simpa using u),a6 (.inr u)];rfl
     .rw[a6 (by simpa using r),bs,a6 rfl,a6 (.inl r)];rfl
    .rw[a6 (by simpa using o),a6 o];rfl
 .intro i j z _;unfold Jz;rw[AD j z,bs];by_cases d:AA m.d4 i<0\/g.d4.length<=AA m.d4 i
  .rw[a6 (by simpa using d),a6 d];rfl
  .have w:=tp _ (AI (l:=p.d4) j (by omega));have y:=D _ (AI (l:=g.d4) (show 0<=AA m.d4 i by omega) (by omega));rw[ae (by simpa using d),ae d,AD j (by omega),bs,AD w.1 (by unfold I8;rw[ci,BN];exact w.2),bs,AD (by omega) (by omega),bs];have e:AA (I8 t) (AA p.d4 i)=Ms t (AA p.d4 i):=by unfold I8;exact Ib (Ms t) w.1 w.2
   rw [e,AD y.1 (by unfold Ms;rw[ci,BN];exact y.2),bs];have B:AA (Ms t (AA p.d4 i)) (AA g.d4 (AA m.d4 i))=If t (AA g.d4 (AA m.d4 i)) (AA p.d4 i):=by unfold Ms;exact Ib (fun k=>If t k (AA p.d4 i)) y.1 y.2
   rw [B];cases If t (AA g.d4 (AA m.d4 i)) (AA p.d4 i)<;>rfl
variable{l:Fp}
theorem bS(d:l.length<=1000):Gh l=some (!IH l):=by grind[Gh,UY,RF,Abx,IH]
theorem WC(hf:Au t)(p g:d6)(m:d7)(inj:Bool):Gf t p g m inj=some (Fr t p g m inj):=by
 unfold Gf Fr;rw[WH hf,bs];refine C6 fun d=>?_;rw[XD hf d,bs];refine C6 fun o=>?_;obtain⟨_,j,r,_⟩:=NO d;have e:=be o;have:=j.ej;have:=j.fd;have:=e.Aas;have:=e.Aaz;rw[bS (by omega),bS (by omega)];unfold J3;cases inj<;>cases IH m.d4<;>cases IH m.d5<;>rfl
theorem mj(l:Fp):IP l=some (IH l):=Xy l
theorem fY{p g:d6}(z:FN t p g=0)(m:d7)(inj:Bool):LA t p g m inj=some (if N0 t p g m≠0 then N0 t p g m else if(inj&&!J3 m)=true then 5 else 0):=by
 obtain ⟨hv,C,F,tp,D⟩:=NO z;unfold LA N0;by_cases A:m.d4.length≠p.d4.length\/m.d5.length≠p.d5.length
 .grind
 rw [ae (by simp;try omega),ae A,BV (Jz t p g m),DE]
 .cases E:fst (Jz t p g m) 0 m.d4.length with
  |some e=>
   grind [C4,Jz]
  |none=>
   dsimp only;rw[BV (GZ p g m),DE]
   .grind[fst,GZ,C4,mj,J3,IH]
   intro i j w _;unfold GZ;rw[AD j w];simp only[bs,TI];by_cases d:AA m.d5 i<0\/g.d5.length<=AA m.d5 i
   .rw[a6 (by simpa using d),a6 d];rfl
   .have hf:=C.fit _ (AI (l:=p.d5) j (by omega));rw[ae (by simpa using d),ae d,AD j (by omega),bs,AD (by omega) (by omega),bs];by_cases o:(AA p.d5 i).kg=(AA g.d5 (AA m.d5 i)).kg
    .rw[ae (by simpa using o),ae (by simpa using o),AD (by omega) (by omega),bs];by_cases r:AA m.d4 (AA p.d5 i).kq=(AA g.d5 (AA m.d5 i)).kq
     .rw[ae (by simpa using r),AD (by omega) (by omega),bs,bs];by_cases u:AA m.d4 (AA p.d5 i).To=(AA g.d5 (AA m.d5 i)).To
      .rw[ae (by simpa using u),ae (by simp[r,u])];rfl
      .rw[a6 (by simpa using u),a6 (.inr u)];rfl
     .rw[a6 (by simpa using r),bs,a6 rfl,a6 (.inl r)];rfl
    .rw[a6 (by simpa using o),a6 o];rfl
 .intro i j w _;unfold Jz;rw[AD j w];simp only[bs,TI];by_cases d:AA m.d4 i<0\/g.d4.length<=AA m.d4 i
  .rw[a6 (by simpa using d),a6 d];rfl
  .have B:=tp _ (AI (l:=p.d4) j (by omega));have y:=D _ (AI (l:=g.d4) (show 0<=AA m.d4 i by omega) (by omega));rw[ae (by simpa using d),ae d,AD (by omega) (by omega),bs,AD j (by omega),bs,T6 (Cd hv) y.1 y.2 B.1,bs];cases If t (AA g.d4 (AA m.d4 i)) (AA p.d4 i)<;>rfl
theorem WK(hf:Au t)(p g:d6)(m:d7)(inj:Bool):Hz t p g m inj=some (Fr t p g m inj):=by
 unfold Hz Fr;rw[Ui hf,bs];refine C6 fun d=>?_;rw[fY d,bs]
variable{inj:Bool}
theorem YM{p g:d6}(h:Fr t p g m inj=0):FN t p g=0/\WU t p g m:=by grind[Fr,be]
end Go.Sf.Sc
namespace Go.Sf.Sc
open Go Go.Sf
section
variable{α σ ρ:Type}
def Df(step:α->σ->B0 σ ρ):List α->σ->σ ⊕ ρ
 |[],s=>.inl s|a::r,s=>match step a s with
  |.next s'=>Df step r s'|.brk s'=>.inl s'|.ret r=>.inr r
variable{f:Int->σ->Option (B0 σ ρ)}
theorem S3[Inhabited α]{l:List α}(step:α->σ->B0 σ ρ)(I:σ->Prop)(h:∀(i:Int)s,0<=i->i<l.length->I s->f i s=some (step (AA l i) s)/\∀s',step (AA l i) s=.next s'->I s'):
  ∀(n:Nat)(a:Int)(s:σ),0<=a->a+n=l.length->I s->FE f n a s=some (Df step (l.drop a.toNat) s)
 |0,a,s,d,o,_=>by
  rw [List.drop_eq_nil_of_le (by omega)];rfl
 |n+1,a,s,d,o,u=>by
  obtain ⟨g,j⟩:=h a s d (by omega) u;have hd:l.drop a.toNat=AA l a::l.drop (a+1).toNat:=by
   grind [List.drop_eq_getElem_cons,AA,List.getElem?_eq_getElem]
  rw [FG,g,hd,Df];cases e:step (AA l a) s with
  |next s'=>
   simp only;exact S3 step I h n (a+1) s' (by omega) (by omega) (j s' e)
  |brk s'=>rfl|ret r=>rfl
theorem P8[Inhabited α]{l:List α}(step:α->σ->B0 σ ρ)(I:σ->Prop){s:σ}(d:I s)(h:∀(i:Int)s,0<=i->i<l.length->I s->f i s=some (step (AA l i) s)/\∀s',step (AA l i) s=.next s'->I s'):
  Ag f 0 l.length s=some (Df step l s):=by
 have:=S3 step I h l.length 0 s (by omega) (by omega) d;unfold Ag;rw[show((l.length:Int)-0).toNat=l.length by omega];exact this
theorem Ze[Inhabited α](step:α->σ->B0 σ ρ)(I:σ->Prop):∀(l:List α)(s s':σ),I s->(∀a∈l,∀s s',I s->step a s=.next s'->I s')->(∀a∈l,∀s s',step a s≠.brk s')->Df step l s=.inl s'->I s'
 |[],s,s',h,_,_,e=>by cases e;exact h
 |a::r,s,s',h,g,o,e=>by
  rw [Df]at e;split at e
  .rename_i s2 j;exact Ze step I r s2 s' (g a (by simp) s s2 h j) (fun a d=>g a (by simp[d])) (fun a d=>o a (by simp[d])) e
  .grind
  .cases e
end
def Cm(x:j4)(l:Fp):Int:=if x.Var<0 then x.Add else Al (AA l x.Var+x.Add)
variable{x:j4}{l:Fp}
theorem TJ(h:x.Var<l.length):Dm x l=some (Cm x l):=by grind[Dm,Cm,AD]
theorem XN(h:x.Var<l.length):H1 x l=some (Cm x l):=TJ h
theorem Y2(d:-1<=x.Var)(h:x.Var<l.length)(e:l.length<=1000):ED x l=some (Cm x l,0):=by grind[ED,CT,Ap,TJ]
theorem NX(d:-1<=x.Var)(h:x.Var<l.length):D8 x l=some (Cm x l,0):=by grind[D8,XN]
def Jk(x:Test)(l:Fp):Bool:=(decide (x.l3=1)&&decide (Cm x.f0 l<=Cm x.ek l))||(decide (x.l3=2)&&decide (Cm x.f0 l=Cm x.ek l))
structure HH(n:Int)(x:j4):Prop where
 low:-1<=x.Var
 high:x.Var<n
 add:-1000000<=x.Add/\x.Add<=1000000
def OW(l:Fp):Prop:=∀x∈l,-2000000<=x/\x<=2000000
variable{n:Int}
theorem Rr(h:HH n x)(d:OW l)(e:n<=l.length):Cm x l=(if x.Var<0 then x.Add else AA l x.Var+x.Add)/\-3000000<=Cm x l/\Cm x l<=3000000:=by
 unfold Cm;have:=h.add;by_cases g:x.Var<0
 .grind
 .have hh:=h.high;have:=d _ (AI (l:=l) (show 0<=x.Var by omega) (by omega))
  grind [Ap]
theorem XM(h:HH n x)(d:n<=l.length):JY x l=some (Cm x l,true):=by
 have e:=h.low;have g:=h.high
 grind [JY,Cm,AD]
theorem r_holds{x:Test}(e:HH n x.f0)(g:HH n x.ek)(d:n<=l.length):K6 x l=some (Jk x l):=by
 unfold K6;rw[XM e d,XM g d];rfl
variable{a b:Int}
theorem Xb(j:-4000000<=a/\a<=4000000)(o:-4000000<=b/\b<=4000000):Fa a b=some (if a+b<0 then(-1,a+b+18446744073709551616)else(0,a+b)):=by
 have d:∀c:Int,IntKind.u64.wrap c=c % 18446744073709551616:=fun c=>by
  simp [IntKind.wrap,IntKind.signed,IntKind.bits]
 have g:∀c:Int,-4000000<=c/\c<=4000000->K0 .i64 .shr c 63=some (if c<0 then -1 else 0):=by
  intro c w;unfold K0;have e:c.fdiv (2^ (min (63:Int).toNat (IntKind.bits .i64)))=if c<0 then -1 else 0:=by
   show c.fdiv (2^ 63)=_
   grind
  simp only[e];have:(0:Int)<=63/\IntKind.min .i64<=(if c<0 then -1 else 0)/\(if c<0 then -1 else 0)<=IntKind.max .i64:=by
   split<;>decide
  rw [a6 this]
 unfold Fa HZ;rw[d,d,a6 (by omega),bs,g a j,g b o,bs,bs];congr 1;have y:∀c:Int,-10<=c->c<=10->Al c=c:=fun c r u=>Ap (by omega) (by omega)
 grind
def JF(a:Int):Int×Int:=if a<0 then(-1,a+18446744073709551616)else(0,a)
theorem Y4(h:HH n x)(d:OW l)(o:n<=l.length):EF x l=some ((JF (Cm x l)).1,(JF (Cm x l)).2,true):=by
 have r:=h.low;have u:=h.high;have w:=h.add;have g:=(Rr h d o).1;unfold EF;by_cases j:x.Var=-1
 .have e:Cm x l=x.Add:=by rw[g,a6 (by omega)]
  rw [e,a6 (by simpa using j),Xb (by omega) (by omega),bs,Int.zero_add];rfl
 .have:=d _ (AI (l:=l) (show 0<=x.Var by omega) (by omega));have e:Cm x l=AA l x.Var+x.Add:=by rw[g,ae (by omega)]
  rw [e,ae (by simpa using j),ae (by simp;omega),AD (by omega) (by omega),bs,Xb (by omega) (by omega),bs];rfl
theorem kX(a b:Int):cmp_Compare_int a b=some (if a<b then -1 else if b<a then 1 else 0):=by
 unfold cmp_Compare_int cmp_isNaN_int
 grind
theorem sW(a b:Int):HL a b=some (if a<b then -1 else if b<a then 1 else 0):=kX a b
theorem od(a b:Int):MN [a,b]=some (if a=0 then b else a):=by
 unfold MN;show AM (FE _ 2 0 ()) _ _=_;rw[FG,show idx [a,b] 0=some a from rfl,bs]
 grind [AM,FE,FG,idx]
theorem p_holds{x:Test}(g:HH n x.f0)(j:HH n x.ek)(d:OW l)(e:n<=l.length):E5 x l=some (Jk x l):=by
 have o:=(Rr g d e).2;have s2:=(Rr j d e).2;unfold E5 Jk;rw[Y4 g d e,Y4 j d e];simp only[bs,Bool.not_true,Bool.or_self,Bool.false_eq_true,if_false,kX,sW,od];generalize Cm x.f0 l=a at o;generalize Cm x.ek l=b at s2;have key:(if(if(JF a).1<(JF b).1 then(-1:Int)else if(JF b).1<(JF a).1 then 1 else 0)=0 then(if(JF a).2<(JF b).2 then(-1:Int)else if(JF b).2<(JF a).2 then 1 else 0)else(if(JF a).1<(JF b).1 then(-1:Int)else if(JF b).1<(JF a).1 then 1 else 0))=if a<b then -1 else if b<a then 1 else 0:=by
  grind [JF]
 rw [key];congr 2
 .grind
 grind
end Go.Sf.Sc
namespace Go.Sf.Sc
open Go Go.Sf
structure R1(t:AC)(q:ec):Prop where
 g:Cc q.d6
 kind:∀n∈q.d6.d4,0<=n/\n<t.d4.length
 vars:0<=q.gn/\q.gn<=12
 few:q.ff.length<=10/\q.l4.length<=10
 slot:∀s∈q.ff,(0<=s.sx/\s.sx<q.d6.d4.length)/\(0<=s.mo/\s.mo<(Ax t (AA q.d6.d4 s.sx)).length)/\HH q.gn s.j4
 test:∀x∈q.l4,(x.l3=1\/x.l3=2)/\HH q.gn x.f0/\HH q.gn x.ek
 ge:Bn q.d6=0
 ty:CQ t q.d6=true
variable{n:Int}{x:j4}
theorem kK(h:M4 n x=true):HH n x:=by
 unfold M4 at h;simp only[pc,x7]at h;exact⟨h.1.1.1,h.1.1.2,h.1.2,h.2⟩
theorem kL{l:List Test}(h:JS n l=0):∀x∈l,(x.l3=1\/x.l3=2)/\HH n x.f0/\HH n x.ek:=by
 unfold JS at h;split at h
 .cases h
 split at h
 .cases h
 have g:=VK h;intro x d;obtain⟨i,j,o,rfl⟩:=BZ d;have:=g i j o;unfold N3 at this;split at this
 .cases this
 split at this
 .rename_i r e;rw[pc]at e
  grind [kK]
 .cases this
theorem di(n:Int)(l:List Test):JS n l≠9:=by
 unfold JS;split
 .decide
 split
 .decide
 intro h;cases d:fst (fun i=>nz (N3 n (AA l i))) 0 l.length with
 |none=>rw[d]at h;cases h
 |some r=>
  grind [C4,nz,N3]
variable{t:AC}{q:ec}
theorem iz(hv:(A1 t).2=0)(h:Gy t q=0\/Gy t q=9):R1 t q:=by
 have y:=VM q.d6;unfold Gy at h;rw[ae (by simp[hv])]at h;split at h
 .omega
 rename_i o;have g:=C3 (Classical.not_not.1 o);split at h
 .omega
 rename_i e;split at h
 .omega
 rename_i A;split at h
 .omega
 rename_i B;split at h
 .omega
 rename_i C;split at h
 .grind[di]
 rename_i w;refine⟨g,(Gr g (by simpa using e)).1,by omega,by omega,fun s z=>?_,kL (Classical.not_not.1 w),Classical.not_not.1 o,by simpa using e⟩;have j:Q9 t q s=false:=by
  grind
 unfold Q9 at j;simp only[Bool.or_eq_false_iff,Bool.not_eq_false',decide_eq_false_iff_not]at j;obtain⟨⟨⟨d,E⟩,F⟩,G,H⟩:=j;unfold Q6 at d;dsimp only at d;split at d
 .cases d
 rename_i D;have u:=(Gr g (by simpa using e)).1 _ (AI (l:=q.d6.d4) (show 0<=s.sx by omega) (by omega));rw[Ie hv u.1 u.2]at d;split at d
 .cases d
 rename_i r;have r:¬(s.mo<0\/((Ax t (AA q.d6.d4 s.sx)).length:Int)<=s.mo):=r;exact⟨by omega,by omega,by omega,by omega,by omega,by omega⟩
def Ll(h:AG)(m:d7)(s:CI):Int:=AA (AA h.hT (AA m.d4 s.sx)) s.mo
def N2(h:AG)(m:d7)(s:CI)(st:Fp×a5):Fp×a5:=
 if 0<=s.j4.Var/\AA st.2 s.j4.Var=false then(BP st.1 s.j4.Var (Al (Ll h m s-s.j4.Add)),BP st.2 s.j4.Var true)else st
def D9{ρ:Type}(r:ρ)(h:AG)(m:d7)(s:CI)(st:Fp×a5):B0 (Fp×a5) ρ:=
 if Cm s.j4 (N2 h m s st).1=Ll h m s then .next (N2 h m s st)else .ret r
structure VI(n:Int)(st:Fp×a5):Prop where
 l1:(st.1.length:Int)=n
 l2:(st.2.length:Int)=n
 small:OW st.1
structure IC(n:Int)(h:AG)(m:d7)(s:CI):Prop where
 node:0<=s.sx/\s.sx<m.d4.length
 val:0<=AA m.d4 s.sx/\AA m.d4 s.sx<h.hT.length
 Aby:0<=s.mo/\s.mo<(AA h.hT (AA m.d4 s.sx)).length
 term:HH n s.j4
 has:-1000000<=Ll h m s/\Ll h m s<=1000000
variable{h:AG}{m:d7}{s:CI}
theorem PO(g:Em t)(j:R1 t q)(hh:JH t h)(e:WU t q.d6 h.d6 m)(o:s∈q.ff):IC q.gn h m s:=by
 obtain ⟨u,w,y⟩:=j.slot s o;have z:=e.Aas;have d:=e.node s.sx u.1 (by omega);have A:=hh.row _ d.1.1 d.1.2;have r:=hh.kind _ d.1.1 d.1.2;have B:=W4 g r.2 d.2;have hv:=hh.len;refine⟨by omega,by omega,by omega,y,?_⟩;unfold Ll;exact hh.low _ d.1.1 d.1.2 _ (AI w.1 (by omega))
theorem Ro{α:Type}(l:List α)(i:Int)(a:α):(BP l i a).length=l.length:=by unfold BP;rw[List.length_set]
variable{i:Int}
theorem jU{α:Type}{l:List α}{a x:α}(h:x∈BP l i a):x∈l\/x=a:=List.mem_or_eq_of_mem_set h
variable{st:Fp×a5}
theorem gF(e:IC n h m s)(hi:VI n st):VI n (N2 h m s st):=by
 have g:=e.has;have j:=e.term.add;unfold N2;split
 .refine⟨by rw[Ro];exact hi.l1,by rw[Ro];exact hi.l2,fun x d=>?_⟩;rcases jU d with d|rfl
  .exact hi.small x d
  grind [Ap]
 .exact hi
def Mx(q:ec)(h:AG)(m:d7):Fp×Int:=
 match Df (D9 (([],11):Fp×Int) h m) q.ff (List.replicate q.gn.toNat 0,List.replicate q.gn.toNat false)with
 |.inr r=>r|.inl st=>if ns (fun i=>!Jk (AA q.l4 i) st.1) 0 q.l4.length=true then([],16)else(st.1,0)
theorem Qx(d:0<=n):VI n (List.replicate n.toNat 0,List.replicate n.toNat false):=by
 refine ⟨by simp;omega,by simp;omega,fun x e=>?_⟩
 grind
variable{st':Fp×a5}
theorem OS{ρ:Type}{r:ρ}(d:IC n h m s)(hi:VI n st)(e:D9 r h m s st=.next st'):VI n st':=by grind[D9,gF]
theorem gG{ρ:Type}{r:ρ}:D9 r h m s st≠.brk st':=by grind[D9]
theorem NZ{ρ:Type}{r:ρ}{l:List CI}(d:∀s∈l,IC n h m s)(hi:VI n st)(e:Df (D9 r h m) l st=.inl st'):VI n st':=
 Ze (D9 r h m) (VI n) l st st' hi (fun a g _ _ j o=>OS (d a g) j o) (fun _ _ _ _=>gG) e
theorem O6{ρ:Type}{r:ρ}(w:IC n h m s)(hi:VI n st){T:Fp×a5->Option (B0 (Fp×a5) ρ)}
  (j:∀st':Fp×a5,(st'.1.length:Int)=n->T st'=some (if Cm s.j4 st'.1=Ll h m s then .next st' else .ret r)):
  ((if(decide (0<=s.j4.Var))=true then((idx st.2 s.j4.Var).bind fun o=>some (!o))else some false).bind fun u=>
   if u=true then(idx st.1 s.j4.Var).bind fun _=>(idx st.2 s.j4.Var).bind fun _=>T (BP st.1 s.j4.Var (Al (Ll h m s-s.j4.Add)),BP st.2 s.j4.Var true)else T (st.1,st.2))=some (D9 r h m s st):=by
 have y:=w.term.high;have l1:=hi.l1;have l2:=hi.l2;unfold D9;by_cases d:0<=s.j4.Var
 .rw[a6 (by simpa using d),AD d (by omega),bs,bs];by_cases g:AA st.2 s.j4.Var=false
  .rw[a6 (by simp[g]),AD d (by omega),bs,bs,j _ (by dsimp only;rw[Ro];exact l1)];have e:N2 h m s st=(BP st.1 s.j4.Var (Al (Ll h m s-s.j4.Add)),BP st.2 s.j4.Var true):=by unfold N2;rw[a6 ⟨d,g⟩]
   rw [e]
  .rw[ae (by simpa using g),j _ l1];have e:N2 h m s st=st:=by unfold N2;rw[ae (fun e=>g e.2)]
   rw [e]
 .rw[ae (by simpa using d),bs,ae (by decide),j _ l1];have e:N2 h m s st=st:=by unfold N2;rw[ae (fun e=>d e.1)]
  rw [e]
theorem aG{ρ:Type}{r:ρ}(j:IC n h m s)(hi:VI n st){T:Fp×a5->Option (B0 (Fp×a5) ρ)}
  (o:∀st':Fp×a5,(st'.1.length:Int)=n->T st'=some (if Cm s.j4 st'.1=Ll h m s then .next st' else .ret r)):
  ((if(decide (0<=s.j4.Var))=true then((idx st.2 s.j4.Var).bind fun d=>some (!d))else some false).bind fun e=>
   if e=true then(idx st.2 s.j4.Var).bind fun _=>(idx st.1 s.j4.Var).bind fun _=>T (BP st.1 s.j4.Var (Al (Ll h m s-s.j4.Add)),BP st.2 s.j4.Var true)else T (st.1,st.2))=some (D9 r h m s st):=by
 rw [<-O6 j hi o];have u:=j.term.high;have l1:=hi.l1;have l2:=hi.l2;by_cases g:0<=s.j4.Var
 .rw[AD g (by omega),AD g (by omega)];rfl
 .rw[ae (by simpa using g)];rfl
variable{v:Int}
theorem XW{t:j4}{f:j4->Fp->QQ}(hf:∀l:Fp,(l.length:Int)=n->f t l=some (Cm t l))(st':Fp×a5)(e:(st'.1.length:Int)=n):((f t st'.1).bind fun d=>if(!decide (d=v))=true then some (B0.ret (([],11):Fp×Int))else some (.next st'))=some (if Cm t st'.1=v then .next st' else .ret ([],11)):=by grind
theorem ma(u:R1 t q)(w:∀s∈q.ff,IC q.gn h m s):HK q h m=some (Mx q h m):=by
 have hv:=u.vars;unfold HK Mx JL;rw[a6 (by omega),bs,a6 (by omega),bs];rw[P8 (D9 (([],11):Fp×Int) h m) (VI q.gn) (Qx hv.1)]
 .cases z:Df (D9 (([],11):Fp×Int) h m) q.ff (List.replicate q.gn.toNat 0,List.replicate q.gn.toNat false)with
  |inr r=>rfl|inl st=>
   have hi:=NZ w (Qx hv.1) z;rw[Bc,BE (fun i=>!Jk (AA q.l4 i) st.1) ([],16)]
   .dsimp only;cases ns (fun i=>!Jk (AA q.l4 i) st.1) 0 q.l4.length<;>rfl
   .intro i g j _;have y:=u.test _ (AI g j);rw[AD g j,bs,p_holds y.2.1 y.2.2 hi.small (by have:=hi.l1;omega),bs]
    grind
 .intro i st g j hi;have d:=w _ (AI g j);refine⟨?_,fun s' e=>OS d hi e⟩;rw[AD g j,bs,AD d.node.1 d.node.2,bs,AD d.val.1 d.val.2,bs,AD d.Aby.1 d.Aby.2,bs];exact O6 d hi (T:=fun st'=>(Dm (AA q.ff i).j4 st'.1).bind fun o=>if(!decide (o=Ll h m (AA q.ff i)))=true then some (B0.ret (([],11):Fp×Int))else some (.next st')) (XW fun l A=>TJ (by have:=d.term.high;omega))
theorem mz(u:R1 t q)(w:∀s∈q.ff,IC q.gn h m s):KE q h m=some (Mx q h m):=by
 have hv:=u.vars;unfold KE Mx JL;rw[a6 (by omega),bs,a6 (by omega),bs];rw[P8 (D9 (([],11):Fp×Int) h m) (VI q.gn) (Qx hv.1)]
 .cases z:Df (D9 (([],11):Fp×Int) h m) q.ff (List.replicate q.gn.toNat 0,List.replicate q.gn.toNat false)with
  |inr r=>rfl|inl st=>
   have hi:=NZ w (Qx hv.1) z;rw[Bc,BE (fun i=>!Jk (AA q.l4 i) st.1) ([],16)]
   .dsimp only;cases ns (fun i=>!Jk (AA q.l4 i) st.1) 0 q.l4.length<;>rfl
   .intro i g j _;have y:=u.test _ (AI g j);rw[AD g j,bs,r_holds y.2.1 y.2.2 (by have:=hi.l1;omega),bs]
    grind
 .intro i st g j hi;have d:=w _ (AI g j);refine⟨?_,fun s' e=>OS d hi e⟩;rw[AD g j,bs,AD d.node.1 d.node.2,bs,AD d.val.1 d.val.2,bs,AD d.Aby.1 d.Aby.2,bs];exact aG d hi (T:=fun st'=>(H1 (AA q.ff i).j4 st'.1).bind fun o=>if(!decide (o=Ll h m (AA q.ff i)))=true then some (B0.ret (([],11):Fp×Int))else some (.next st')) (XW fun l A=>XN (by have:=d.term.high;omega))
def QK(t:AC)(p:ec)(h:AG):Int:=if Gy t p≠0 then Gy t p else(Iw t h).2
theorem e8(hf:Au t)(p:ec)(h:AG):HI t p h=some (QK t p h):=by
 unfold HI QK;rw[Vd hf,bs];refine C6 fun _=>?_;rw[Y5 hf];rfl
theorem fT(hf:Au t)(p:ec)(h:AG):LC t p h=some (QK t p h):=by
 unfold LC QK;rw[X0 hf,bs];refine C6 fun _=>?_;rw[ZN hf];rfl
def E0(t:AC)(p:ec)(h:AG)(m:d7):Fp×Int:=
 if QK t p h≠0 then([],QK t p h)else if Fr t p.d6 h.d6 m false≠0 then([],Fr t p.d6 h.d6 m false)else Mx p h m
variable{p:ec}{inj:Bool}
theorem UR(hf:Au t)(d:QK t p h=0)(e:Fr t p.d6 h.d6 m inj=0):(A1 t).2=0/\R1 t p/\JH t h/\WU t p.d6 h.d6 m:=by
 unfold QK at d;split at d
 .grind
 rename_i g;obtain⟨hv,hh⟩:=Ts hf d;exact⟨hv,iz hv (.inl (Classical.not_not.1 g)),hh,(YM e).2⟩
theorem bL(hf:Au t)(p:ec)(h:AG)(m:d7):FY t p h m=some (E0 t p h m):=by
 unfold FY E0;rw[e8 hf,bs];refine Dt fun e=>?_;rw[WC hf,bs];refine Dt fun g=>?_;obtain⟨hv,d,hh,o⟩:=UR hf e g;rw[ma d (fun s j=>PO (Cd hv) d hh o j)];rfl
theorem mf(hf:Au t)(p:ec)(h:AG)(m:d7):LB t p h m=some (E0 t p h m):=by
 unfold LB E0;rw[fT hf,bs];refine Dt fun e=>?_;rw[WK hf,bs];refine Dt fun g=>?_;obtain⟨hv,d,hh,o⟩:=UR hf e g;rw[mz d (fun s j=>PO (Cd hv) d hh o j)];rfl
theorem gH(g:R1 t q)(j:∀s∈q.ff,IC q.gn h m s)(e:(Mx q h m).2=0):((Mx q h m).1.length:Int)=q.gn/\OW (Mx q h m).1:=by
 unfold Mx at e|-;cases d:Df (D9 (([],11):Fp×Int) h m) q.ff (List.replicate q.gn.toNat 0,List.replicate q.gn.toNat false)with
 |inr r=>
  rw [d]at e;have:∀(l:List CI)(st:Fp×a5)(r:Fp×Int),Df (D9 (([],11):Fp×Int) h m) l st=.inr r->r=([],11):=by
   intro l
   induction l with
   |nil=>intro st r h;cases h
   |cons a l u=>
    grind [Df,D9]
  grind
 |inl st=>
  rw [d]at e;have hi:=NZ j (Qx g.vars.1) d;dsimp only at e|-;split at e
  .cases e
  .rename_i o;rw[ae o];exact⟨hi.l1,hi.small⟩
end Go.Sf.Sc
namespace Go.Sf.Sc
open Go Go.Sf
variable{i:Int}
theorem Ik{n:Nat}{α:Type}[Inhabited α](F:Int->α)(d:0<=i)(v:α):BP ((Az n).map F) i v=(Az n).map fun j=>if j=i then v else F j:=by
 unfold BP;refine List.ext_getElem (by simp) (fun k e g=>?_)
 grind [BN,Az]
theorem Cr{n:Nat}{α:Type}{F G:Int->α}(h:∀j,0<=j->j<(n:Int)->F j=G j):(Az n).map F=(Az n).map G:=by grind[List.map_congr_left,FD]
def F3(n:Nat)(k:Int):a5:=(Az n).map fun j=>decide (j<k)
theorem VS(n:Nat):F3 n 0=List.replicate n false:=by
 unfold F3;refine List.ext_getElem (by simp[BN]) (fun k d e=>?_)
 grind [Az,BN]
theorem W6(n:Nat)(k:Int):(F3 n k).length=n:=by unfold F3;rw[ci,BN]
def Lh(q:ec)(h:AG)(m:d7)(given:Fp):Fp×Bool:=
 match Df (D9 (([],false):Fp×Bool) h m) q.ff (given++List.replicate (q.gn-given.length).toNat 0,F3 q.gn.toNat given.length)with
 |.inr r=>r|.inl st=>if ns (fun i=>!Jk (AA q.l4 i) st.1) 0 q.l4.length=true then([],false)else(st.1,true)
variable{n:Int}{given:Fp}
theorem Us(e:0<=n)(g:given.length<=n)(hv:OW given):VI n (given++List.replicate (n-given.length).toNat 0,F3 n.toNat given.length):=by
 refine ⟨by simp;omega,by show((F3 n.toNat given.length).length:Int)=n;rw[W6];omega,fun x d=>?_⟩;rcases List.mem_append.1 d with d|d
 .exact hv x d
 grind
variable{q:ec}{m:d7}{t:AC}
theorem pW{s:A3}(w:R1 t q)(y:∀x∈q.ff,IC q.gn s.h m x)(B:given.length<=q.gn)(hv:OW given):DP s q m given=some (Lh q s.h m given):=by
 have D:=w.vars;unfold DP Lh slices_Clone_int;rw[BI (by unfold AW;omega),bs,Ap (by omega) (by omega)];have E:UT given (q.gn-given.length) 0=some (given++List.replicate (q.gn-given.length).toNat 0):=by
  grind [UT,AW]
 have F:JL q.gn false=some (List.replicate q.gn.toNat false):=by
  grind [JL]
 rw [E,bs,F,bs];have G:A9 (fun(d:Int)(z:a5)=>(idx z d).bind fun C=>some (BP z d true)) 0 (given.length:Int) (List.replicate q.gn.toNat false)=some (F3 q.gn.toNat given.length):=by
  refine BM (fun i=>F3 q.gn.toNat i) (by omega) (VS _) (fun i d j=>?_);rw[AD d (by rw[W6];omega),bs];congr 1;unfold F3;rw[Ik _ d]
  grind
 rw [G,bs];have u:=Us D.1 B hv;rw[P8 (D9 (([],false):Fp×Bool) s.h m) (VI q.gn) u]
 .cases H:Df (D9 (([],false):Fp×Bool) s.h m) q.ff (given++List.replicate (q.gn-given.length).toNat 0,F3 q.gn.toNat given.length)with
  |inr r=>rfl|inl st=>
   have hi:=NZ y u H;rw[Bc,BE (fun i=>!Jk (AA q.l4 i) st.1) ([],false)]
   .dsimp only;cases ns (fun i=>!Jk (AA q.l4 i) st.1) 0 q.l4.length<;>rfl
   .intro i d j _;have A:=w.test _ (AI d j);rw[AD d j,bs,p_holds A.2.1 A.2.2 hi.small (by have:=hi.l1;omega),bs]
    grind
 .intro i st d j hi;have g:=y _ (AI d j);refine⟨?_,fun s' e=>OS g hi e⟩;rw[AD d j,bs,AD g.node.1 g.node.2,bs,AD g.val.1 g.val.2,bs,AD g.Aby.1 g.Aby.2,bs];refine O6 g hi (T:=fun st'=>(ED (AA q.ff i).j4 st'.1).bind fun o=>if((!decide (o.2=0))||(!decide (o.1=Ll s.h m (AA q.ff i))))=true then some (B0.ret (([],false):Fp×Bool))else some (.next st')) (fun st' I=>?_);rw[Y2 g.term.low (by have:=g.term.high;omega) (by omega),bs]
  grind
variable{h:AG}
theorem p7(C:R1 t q)(D:∀x∈q.ff,IC q.gn h m x)(I:given.length<=q.gn)(hv:OW given):KG q h m given=some (Lh q h m given):=by
 have G:=C.vars;unfold KG Lh;have L:JL q.gn false=some (List.replicate q.gn.toNat false):=by
  unfold JL;rw[a6 (by omega)]
 rw [BI (by unfold AW;omega),bs,L,bs];have H:A9 (fun(d:Int)(u:Fp×a5)=>
   (idx u.2 d).bind fun J=>
   if (decide ((given.length:Int)<=d))=true then
   (Aj u.1 [0]).bind fun A=>
   some (A,BP u.2 d (decide (d<(given.length:Int))))
   else
   some (u.1,BP u.2 d (decide (d<(given.length:Int))))) 0 q.gn (given,List.replicate q.gn.toNat false)=some (given++List.replicate (q.gn-given.length).toNat 0,(Az q.gn.toNat).map fun j=>decide (j<q.gn)&&decide (j<(given.length:Int))):=by
  refine BM (fun i=>(given++List.replicate (i-given.length).toNat 0,(Az q.gn.toNat).map fun j=>decide (j<i)&&decide (j<(given.length:Int)))) G.1 ?_ (fun i d o=>?_)
  .have M:((0:Int)-given.length).toNat=0:=by omega
   rw [M];simp only[List.replicate_zero,List.append_nil,Prod.mk.injEq,true_and];rw[<-VS];unfold F3;refine Cr (fun j E F=>?_);rw[show decide (j<0)=false by simp;omega];rfl
  .dsimp only;rw[AD d (by rw[ci,BN];omega),bs];have N:BP ((Az q.gn.toNat).map fun j=>decide (j<i)&&decide (j<(given.length:Int))) i (decide (i<(given.length:Int)))=(Az q.gn.toNat).map fun j=>decide (j<i+1)&&decide (j<(given.length:Int)):=by
    rw [Ik _ d];refine Cr (fun j E F=>?_);by_cases e:j=i
    .rw[a6 e,e,show decide (i<i+1)=true by simp;omega,Bool.true_and]
    .rw[ae e];congr 1;rw[decide_eq_decide];omega
   rw [N];by_cases hi:(given.length:Int)<=i
   .rw[a6 (by simpa using hi),AT (by simp;unfold AW;omega),bs];congr 2;rw[d3,show(i+1-given.length).toNat=(i-given.length).toNat+1 by omega,List.replicate_succ']
   .rw[ae (by simpa using hi)];have O:(i+1-given.length).toNat=(i-given.length).toNat:=by omega
    rw [O]
 have B:((Az q.gn.toNat).map fun j=>decide (j<q.gn)&&decide (j<(given.length:Int)))=F3 q.gn.toNat given.length:=by
  unfold F3;refine Cr (fun j E F=>?_);rw[show decide (j<q.gn)=true by simp;omega,Bool.true_and]
 rw [B]at H;rw[H,bs];have y:=Us G.1 I hv;dsimp only;rw[P8 (D9 (([],false):Fp×Bool) h m) (VI q.gn) y]
 .cases P:Df (D9 (([],false):Fp×Bool) h m) q.ff (given++List.replicate (q.gn-given.length).toNat 0,F3 q.gn.toNat given.length)with
  |inr r=>rfl|inl st=>
   have hi:=NZ D y P;rw[Bc,BE (fun i=>!Jk (AA q.l4 i) st.1) ([],false)]
   .dsimp only;cases ns (fun i=>!Jk (AA q.l4 i) st.1) 0 q.l4.length<;>rfl
   .intro i d o _;have z:=C.test _ (AI d o);have K:=hi.l1;rw[AD d o,bs,NX z.2.1.low (by have:=z.2.1.high;omega),bs,NX z.2.2.low (by have:=z.2.2.high;omega),bs,<-FO];unfold Jk;dsimp only;congr 1;generalize Cm (AA q.l4 i).f0 st.1=a;generalize Cm (AA q.l4 i).ek st.1=b;rcases z.1 with e|e
    .rw[e,eq_iff_iff];simp
    .rw[e,eq_iff_iff];simp
 .intro i st d o hi;have g:=D _ (AI d o);refine⟨?_,fun s' e=>OS g hi e⟩;rw[AD d o,bs,AD g.node.1 g.node.2,bs,AD g.val.1 g.val.2,bs,AD g.Aby.1 g.Aby.2,bs];refine O6 g hi (T:=fun st'=>(D8 (AA q.ff i).j4 st'.1).bind fun w=>if(!decide (w.1=Ll h m (AA q.ff i)))=true then some (B0.ret (([],false):Fp×Bool))else some (.next st')) (fun st' K=>?_);rw[NX g.term.low (by have:=g.term.high;omega),bs];by_cases e:Cm (AA q.ff i).j4 st'.1=Ll h m (AA q.ff i)
  .rw[ae (by simp[e]),a6 e]
  .rw[a6 (by simp[e]),ae e]
theorem kO(j:R1 t q)(o:∀s∈q.ff,IC q.gn h m s)(u:given.length<=q.gn)(hv:OW given)(e:(Lh q h m given).2=true):((Lh q h m given).1.length:Int)=q.gn/\OW (Lh q h m given).1:=by
 unfold Lh at e|-;have d:=Us j.vars.1 u hv;cases g:Df (D9 (([],false):Fp×Bool) h m) q.ff (given++List.replicate (q.gn-given.length).toNat 0,F3 q.gn.toNat given.length)with
 |inr r=>
  rw [g]at e;have:∀(l:List CI)(st:Fp×a5)(r:Fp×Bool),Df (D9 (([],false):Fp×Bool) h m) l st=.inr r->r=([],false):=by
   intro l
   induction l with
   |nil=>intro st r h;cases h
   |cons a l y=>
    grind [Df,D9]
  grind
 |inl st=>
  rw [g]at e;have hi:=NZ o d g;dsimp only at e|-;split at e
  .cases e
  .rename_i w;rw[ae w];exact⟨hi.l1,hi.small⟩
def TK(n:Nat)(by' images:Fp):Fp:=(Az by'.length).foldl (fun l i=>BP l (AA by' i) (AA images i)) (List.replicate n (-1))
theorem Wp(d images:Fp):∀(e:Fp)(l:Fp),(e.foldl (fun l i=>BP l (AA d i) (AA images i)) l).length=l.length
 |[],l=>rfl|k::e,l=>by rw[List.foldl_cons,Wp d images e,Ro]
theorem Vh{n:Nat}{d images:Fp}(y:∀x∈d,0<=x/\x<n)(z:d.length<=images.length):A9 (fun(g:Int)(o:Fp)=>
  (idx d g).bind fun e=>
  (idx images g).bind fun j=>
  (idx o e).bind fun r=>
  some (BP o e j)) 0 (d.length:Int) (List.replicate n (-1))=some (TK n d images):=by
 have h:=BM (f:=fun(g:Int)(o:Fp)=>
  (idx d g).bind fun e=>
  (idx images g).bind fun j=>
  (idx o e).bind fun r=>
  some (BP o e j)) (fun i=>(Az i.toNat).foldl (fun l i=>BP l (AA d i) (AA images i)) (List.replicate n (-1))) (a:=0) (b:=d.length) (s:=List.replicate n (-1)) (by omega) rfl (fun i g u=>by
   have w:=y _ (AI g u);rw[AD g u,bs,AD g (by omega),bs,AD w.1 (by rw[Wp];simpa using w.2),bs,FL g,List.foldl_append];rfl)
 rw [h,Int.toNat_natCast];rfl
theorem Y9{n:Nat}{d images:Fp}(j:n<=1000)(e:∀x∈d,0<=x/\x<n)(g:d.length<=images.length):E4 n d images=some (TK n d images):=by
 unfold E4 Dk;rw[a6 ⟨rfl,by omega,by omega⟩,bs];show(A9 _ 0 _ (List.replicate (n:Int).toNat (-1))).bind _=_;rw[Int.toNat_natCast,Vh e g];rfl
theorem ZO{n:Nat}{d images:Fp}(j:n<=1000)(e:∀x∈d,0<=x/\x<n)(g:d.length<=images.length):IR n d images=some (TK n d images):=by
 unfold IR;rw[BM (a:=0) (b:=n) (s:=[]) (fun i=>List.replicate i.toNat (-1)) (by omega) rfl,bs,Int.toNat_natCast,Vh e g]
 .rfl
 .intro i o r;rw[AT (by simp;unfold AW;omega),bs,show(i+1).toNat=i.toNat+1 by omega,List.replicate_succ']
end Go.Sf.Sc
namespace Go.Sf.Sc
open Go Go.Sf
structure kS(f:AL):Prop where
 nl:f.ej.length<=f.p.d4.length
 node:∀i:Int,0<=i->i<f.ej.length->(0<=AA f.ej i/\AA f.ej i<f.g.d4.length)/\AA (AA f.is (AA f.p.d4 i)) (AA f.g.d4 (AA f.ej i))=true
 edge:∀i:Int,0<=i->i<f.fd.length->(0<=AA f.fd i/\AA f.fd i<f.g.d5.length)/\AA f.g.d5 (AA f.fd i)=⟨(AA f.p.d5 i).kg,AA f.ej (AA f.p.d5 i).kq,AA f.ej (AA f.p.d5 i).To⟩
 inj:f.gt=true->f.ej.Nodup/\f.fd.Nodup
structure cD(f:AL)(m:d7):Prop where
 nl:m.d4.length=f.p.d4.length
 el:m.d5.length=f.p.d5.length
 node:∀i:Int,0<=i->i<m.d4.length->(0<=AA m.d4 i/\AA m.d4 i<f.g.d4.length)/\AA (AA f.is (AA f.p.d4 i)) (AA f.g.d4 (AA m.d4 i))=true
 edge:∀i:Int,0<=i->i<m.d5.length->(0<=AA m.d5 i/\AA m.d5 i<f.g.d5.length)/\AA f.g.d5 (AA m.d5 i)=⟨(AA f.p.d5 i).kg,AA m.d4 (AA f.p.d5 i).kq,AA m.d4 (AA f.p.d5 i).To⟩
 inj:f.gt=true->m.d4.Nodup/\m.d5.Nodup
variable{i:Int}
theorem aQ{α:Type}[Inhabited α](l:List α)(x:α)(h:i=l.length):AA (l++[x]) i=x:=by grind[Lv]
variable{l:Fp}{k:Int}
theorem VX{b:Bool}(h:(!(b&&l.any fun x=>decide (k=x)))=true)(d:b=true)(e:l.Nodup):(l++[k]).Nodup:=by grind
theorem WV:∀(n:Nat)(f:AL),kS f->f.ej.length=f.p.d4.length->f.fd.length+n=f.p.d5.length->∀m∈Ds n f,cD f m
 |0,f,j,z,he,m,d=>by
  rw [Ds,List.mem_singleton]at d;subst d;exact⟨z,by simpa using he,j.node,j.edge,j.inj⟩
 |n+1,f,j,z,he,m,d=>by
  rw [Ds,List.mem_flatMap]at d;obtain⟨k,w,d⟩:=d;have w:=FD.1 w;split at d
  .rename_i o;unfold R7 at o;rw[pc]at o;obtain⟨r,y⟩:=o;rw[Uq,pc,x7]at r;have:=WV n {f with fd:=f.fd++[k]} ⟨j.nl,j.node,fun i A u=>by
    have u:i<((f.fd++[k]).length:Int):=u;simp only[bk,List.length_singleton]at u;show(0<=AA (f.fd++[k]) i/\AA (f.fd++[k]) i<f.g.d5.length)/\AA f.g.d5 (AA (f.fd++[k]) i)=⟨(AA f.p.d5 i).kg,AA f.ej (AA f.p.d5 i).kq,AA f.ej (AA f.p.d5 i).To⟩;by_cases e:i=f.fd.length
    .rw[aQ _ _ e];exact⟨w,by rw[e];exact r.2⟩
    .rw[YG _ _ A (by omega)];exact j.edge i A (by omega),fun hi=>⟨(j.inj hi).1,VX y hi (j.inj hi).2⟩⟩ z (by show(f.fd++[k]).length+n=f.p.d5.length;rw[bk,List.length_singleton];omega) m d
   exact ⟨this.nl,this.el,this.node,this.edge,this.inj⟩
  .cases d
theorem WW:∀(n:Nat)(f:AL),kS f->f.fd=[]->f.ej.length+n=f.p.d4.length->∀m∈Fm n f,cD f m
 |0,f,r,he,A,m,o=>by
  grind [Fm,WV]
 |n+1,f,r,he,A,m,o=>by
  rw [Fm,List.mem_flatMap]at o;obtain⟨k,w,o⟩:=o;have w:=FD.1 w;split at o
  .rename_i j;unfold R8 at j;rw[pc,pc]at j;obtain⟨⟨_,y⟩,z⟩:=j;have:=WW n {f with ej:=f.ej++[k]} ⟨by show(f.ej++[k]).length<=f.p.d4.length;rw[bk,List.length_singleton];omega,fun i u d=>by
    have d:i<((f.ej++[k]).length:Int):=d;simp only[bk,List.length_singleton]at d;show(0<=AA (f.ej++[k]) i/\AA (f.ej++[k]) i<f.g.d4.length)/\AA (AA f.is (AA f.p.d4 i)) (AA f.g.d4 (AA (f.ej++[k]) i))=true;by_cases e:i=f.ej.length
    .rw[aQ _ _ e];exact⟨w,by rw[e];exact y⟩
    .rw[YG _ _ u (by omega)];exact r.node i u (by omega),fun i u d=>by
    have d:i<(f.fd.length:Int):=d;rw[he]at d;have:i<(0:Nat):=d;omega,fun hi=>⟨VX z hi (r.inj hi).1,(r.inj hi).2⟩⟩ he (by show(f.ej++[k]).length+n=f.p.d4.length;rw[bk,List.length_singleton];omega) m o
   exact ⟨this.nl,this.el,this.node,this.edge,this.inj⟩
  .cases o
variable{t:AC}{pa:d7}{inj:Bool}{m:d7}
theorem cW{p g:d6}(e:m∈OB t p g pa inj):cD (FF t p g pa inj) m:=
 WW _ (FF t p g pa inj) ⟨Nat.zero_le _,fun i j d=>by have d:i<(0:Nat):=d;omega,fun i j d=>by have d:i<(0:Nat):=d;omega,fun _=>⟨List.nodup_nil,List.nodup_nil⟩⟩ rfl (by show 0+p.d4.length=p.d4.length;omega) m (List.mem_of_mem_take e)
theorem iO{p g:d6}(h:FN t p g=0)(u:m∈OB t p g pa inj):WU t p g m:=by
 obtain ⟨hv,A,B,tp,w⟩:=NO h;have:=cW u;refine⟨this.nl,this.el,fun i d e=>?_,fun i d e=>(this.edge i d e).1⟩;obtain⟨j,r⟩:=this.node i d e;refine⟨j,?_⟩;have o:=this.nl;have y:=tp _ (AI (l:=p.d4) d (by show i<(p.d4.length:Int);have o:m.d4.length=p.d4.length:=o;omega));have z:=w _ (AI (l:=g.d4) j.1 j.2);have r:AA (AA (I8 t) (AA p.d4 i)) (AA g.d4 (AA m.d4 i))=true:=r
 grind [AA,I8,Ms,Ib,If]
theorem YV{p g:d6}(h:(RI t p g pa inj).2=0):(RI t p g pa inj).1.length<=5000/\∀m∈(RI t p g pa inj).1,WU t p g m:=by grind[RI,iO]
structure Uu(t:AC)(p:ec)(h:AG)(x:AJ):Prop where
 q:R1 t p
 m:WU t p.d6 h.d6 x.d7
 len:(x.gn.length:Int)=p.gn
 small:OW x.gn
structure dr(t:AC)(p:ec)(c:ea):Prop where
 q:R1 t c.ec
 vars:p.gn<=c.ec.gn
 map:Xn p.d6 c.ec.d6 c.Map
 inj:J3 c.Map=true
def DM(t:AC)(c:ea)(h:AG)(m:AJ)(inj:Bool):List AJ×Int:=
 let x:=RI t c.ec.d6 h.d6 ⟨TK c.ec.d6.d4.length c.Map.d4 m.d7.d4,TK c.ec.d6.d5.length c.Map.d5 m.d7.d5⟩ inj
 if x.2≠0 then([],x.2)else((x.1.filter fun y=>(Lh c.ec h y m.gn).2).map fun y=>⟨y,(Lh c.ec h y m.gn).1⟩,0)
instance:Inhabited d7:=⟨⟨[],[]⟩⟩
instance:Inhabited AJ:=⟨⟨default,[]⟩⟩
instance:Inhabited A0:=⟨⟨0,default,[]⟩⟩
theorem UE{x:List d7}{F:d7->Fp×Bool}{f:Int->List AJ->Option (List AJ)}(o:x.length<=5000)
  (hf:∀(i:Int)(s:List AJ),0<=i->i<x.length->s.length<=5000->f i s=some (if(F (AA x i)).2=true then s++[⟨AA x i,(F (AA x i)).1⟩]else s)):
  A9 f 0 (x.length:Int) []=some ((x.filter fun y=>(F y).2).map fun y=>⟨y,(F y).1⟩):=by
 rw [BM (a:=0) (b:=x.length) (s:=[]) (fun i=>((x.take i.toNat).filter fun y=>(F y).2).map fun y=>(⟨y,(F y).1⟩:AJ)) (by omega) rfl,Int.toNat_natCast,List.take_length];intro i d e;have g:(((x.take i.toNat).filter fun y=>(F y).2).map fun y=>(⟨y,(F y).1⟩:AJ)).length<=5000:=by
  grind
 rw [hf i _ d e g,CJ d e,List.filter_append,List.map_append];cases j:(F (AA x i)).2<;>simp[j]
variable{p:ec}{c:ea}
theorem pL{s:A3}{m:AJ}(hf:Au s.t)(hv:(A1 s.t).2=0)(hh:JH s.t s.h)(o:Uu s.t p s.h m)(hi:dr s.t p c):Cv s c m=some (DM s.t c s.h m s.gt):=by
 have C:=hi.q.g.ej;have ge:=hi.q.g.fd;have m1:=hi.map.Aas;have D:=hi.map.Aaz;have E:=o.m.Aas;have G:=o.m.Aaz;unfold Cv DM;rw[Y9 (by omega) (fun x j=>by obtain⟨i,d,e,rfl⟩:=BZ j;exact(hi.map.node i d e).1) (by omega),bs,
  Y9 (by omega) (fun x j=>by obtain⟨i,d,e,rfl⟩:=BZ j;exact(hi.map.edge i d e).1) (by omega),bs,im hf,bs]
 dsimp only;refine Dt fun r=>?_;obtain⟨z,A⟩:=YV r;rw[UE (F:=fun y=>Lh c.ec s.h y m.gn) z]
 .rfl
 .intro i st d e B;have u:=A _ (AI d e);have w:(m.gn.length:Int)<=c.ec.gn:=by have:=o.len;have:=hi.vars;omega
  rw [AD d e,bs,pW hi.q (fun x j=>PO (Cd hv) hi.q hh u j) w o.small,bs,<-FO]
  grind [AT,AW]
variable{h:AG}
theorem pi{m:AJ}(hf:Au t)(hv:(A1 t).2=0)(hh:JH t h)(o:Uu t p h m)(hi:dr t p c):Gb t c h m inj=some (DM t c h m inj):=by
 have C:=hi.q.g.ej;have ge:=hi.q.g.fd;have m1:=hi.map.Aas;have D:=hi.map.Aaz;have E:=o.m.Aas;have G:=o.m.Aaz;unfold Gb DM;rw[ZO (by omega) (fun x j=>by obtain⟨i,d,e,rfl⟩:=BZ j;exact(hi.map.node i d e).1) (by omega),bs,
  ZO (by omega) (fun x j=>by obtain⟨i,d,e,rfl⟩:=BZ j;exact(hi.map.edge i d e).1) (by omega),bs,jA hf,bs]
 dsimp only;refine Dt fun r=>?_;obtain⟨z,A⟩:=YV r;rw[UE (F:=fun y=>Lh c.ec h y m.gn) z]
 .rfl
 .intro i st d e B;have u:=A _ (AI d e);have w:(m.gn.length:Int)<=c.ec.gn:=by have:=o.len;have:=hi.vars;omega
  rw [AD d e,bs,p7 hi.q (fun x j=>PO (Cd hv) hi.q hh u j) w o.small,bs,<-FO]
  grind [AT,AW]
theorem ap{m:AJ}(hv:(A1 t).2=0)(hh:JH t h)(j:Uu t p h m)(hi:dr t p c)(e:(DM t c h m inj).2=0):(DM t c h m inj).1.length<=5000/\∀x∈(DM t c h m inj).1,Uu t c.ec h x:=by
 unfold DM at e|-;dsimp only at e|-;split at e
 .grind
 rename_i o;rw[ae o];obtain⟨w,z⟩:=YV (Classical.not_not.1 o);refine⟨by dsimp only;rw[ci];exact Nat.le_trans (List.length_filter_le _ _) w,fun x d=>?_⟩;dsimp only at d;rw[List.mem_map]at d;obtain⟨y,g,rfl⟩:=d;rw[List.mem_filter]at g;have r:=z y g.1;have u:(m.gn.length:Int)<=c.ec.gn:=by have:=j.len;have:=hi.vars;omega
 have:=kO hi.q (fun x d=>PO (Cd hv) hi.q hh r d) u j.small g.2;exact⟨hi.q,r,this.1,this.2⟩
end Go.Sf.Sc
namespace Go.Sf.Sc
open Go Go.Sf
inductive CV(t:AC):ec->ea->Prop where
 |mk (p:ec) (c:ea) (few:c.gp.length<=40) (rng:1<=c.l3/\c.l3<=5) (one:c.l3=2\/c.l3=5->c.gp.length=1) (ins:c.l3=5->dr t p c) (kids:∀k∈c.gp,CV t (if c.l3=5 then c.ec else p) k):CV t p c
variable{t:AC}{p:ec}{c:ea}
theorem CV.few(h:CV t p c):c.gp.length<=40:=by cases h;assumption
theorem CV.rng(h:CV t p c):1<=c.l3/\c.l3<=5:=by cases h;assumption
theorem CV.one(h:CV t p c):c.l3=2\/c.l3=5->c.gp.length=1:=by cases h;assumption
theorem CV.ins(h:CV t p c):c.l3=5->dr t p c:=by cases h;assumption
theorem CV.kids(h:CV t p c):∀k∈c.gp,CV t (if c.l3=5 then c.ec else p) k:=by cases h;assumption
theorem CV.kid(h:CV t p c)(d:¬c.l3=5):∀k∈c.gp,CV t p k:=fun k e=>by have:=h.kids k e;rwa[ae d]at this
theorem CV.kid5(h:CV t p c)(d:c.l3=5):∀k∈c.gp,CV t c.ec k:=fun k e=>by have:=h.kids k e;rwa[a6 d]at this
theorem Wa:∀l:List ea,l.length<=QY l
 |[]=>by simp|c::l=>by
  have:=Wa l
  grind [QY,C7,YO,ca]
variable{q:ec}{v:Int}
theorem sa(hv:(A1 t).2=0)(h:S7 t q v=0):R1 t q:=by grind[S7,iz]
theorem kY(hv:(A1 t).2=0):∀(N:Nat)(c:ea)(p:ec),SizeOf.sizeOf c<=N->C7 c<=40->Qz N c=true->Js N t p c=0->CV t p c
 |0,c,_,h,_,_,_=>by have:=DV c;omega|N+1,c,p,h,M,z,ho=>by
  have E:=YO c;have F:=Wa c.gp;rw[Qz,pc]at z;obtain⟨u,o⟩:=z;have d:c.l3=2\/c.l3=5->c.gp.length=1:=by
   intro j;unfold RO at u
   grind
  have g:1<=c.l3/\c.l3<=5:=by
   grind [RO]
  have w:∀q,(fst (fun i=>nz (Js N t q (AA c.gp i))) 0 c.gp.length).getD 0=0->∀k∈c.gp,CV t q k:=by
   intro q A k j;have G:=VK A;have K:=YN j;have L:=EC j;rw[List.all_eq_true]at o;obtain⟨i,H,I,e⟩:=BZ j;have y:=G i H I;rw[e]at y;exact kY hv N k q (by omega) (by omega) (o k j) y
  rw [Js]at ho;by_cases r:c.l3=5
  .rw[a6 r]at ho;split at ho
   .cases ho
   rename_i J;split at ho
   .grind
   rename_i B;split at ho
   .grind
   rename_i C;split at ho
   .cases ho
   rename_i D;refine CV.mk p c (by omega) g d (fun _=>⟨sa hv (Classical.not_not.1 B),by omega,Tu (Classical.not_not.1 C),by simpa using D⟩) ?_
   grind
  .rw[ae r]at ho;refine CV.mk p c (by omega) g d (fun e=>absurd e r) ?_
   grind
section
variable{α σ ρ:Type}
variable{f:Int->σ->Option (B0 σ ρ)}
theorem R5[Inhabited α]{l:List α}(step:α->σ->B0 σ ρ)(I:Int->σ->Prop)(h:∀(i:Int)s,0<=i->i<l.length->I i s->f i s=some (step (AA l i) s)/\∀s',step (AA l i) s=.next s'->I (i+1) s'):
  ∀(n:Nat)(a:Int)(s:σ),0<=a->a+n=l.length->I a s->FE f n a s=some (Df step (l.drop a.toNat) s)
 |0,a,s,d,o,_=>by
  rw [List.drop_eq_nil_of_le (by omega)];rfl
 |n+1,a,s,d,o,u=>by
  obtain ⟨g,j⟩:=h a s d (by omega) u;have hd:l.drop a.toNat=AA l a::l.drop (a+1).toNat:=by
   grind [List.drop_eq_getElem_cons,AA,List.getElem?_eq_getElem]
  rw [FG,g,hd,Df];cases e:step (AA l a) s with
  |next s'=>
   simp only;exact R5 step I h n (a+1) s' (by omega) (by omega) (j s' e)
  |brk s'=>rfl|ret r=>rfl
theorem VG[Inhabited α]{l:List α}(step:α->σ->B0 σ ρ)(I:Int->σ->Prop){s:σ}(d:I 0 s)(h:∀(i:Int)s,0<=i->i<l.length->I i s->f i s=some (step (AA l i) s)/\∀s',step (AA l i) s=.next s'->I (i+1) s'):
  Ag f 0 l.length s=some (Df step l s):=by
 have:=R5 step I h l.length 0 s (by omega) (by omega) d;unfold Ag;rw[show((l.length:Int)-0).toNat=l.length by omega];exact this
theorem Vr{d s2:α->σ->B0 σ ρ}:∀{l:List α}{s:σ},(∀a∈l,d a=s2 a)->Df d l s=Df s2 l s
 |[],_,_=>rfl|a::l,s,h=>by
  rw [Df,Df,h a (by simp)];split
  .exact Vr fun b e=>h b (by simp[e])
  .rfl
  .rfl
end
abbrev zM:AJ:=⟨⟨[],[]⟩,[]⟩
abbrev zP:A0:=⟨0,zM,[]⟩
def MJ(w:ea->A0×Int)(k:ea)(s:A0×A0):B0 (A0×A0) (A0×Int):=
 if (w k).2≠0 then .ret (zP,(w k).2)else .next (s.1,⟨s.2.Aar,s.2.kp,s.2.gp++[(w k).1]⟩)
def Se(w:ea->A0×Int)(l:List ea):A0×Int:=
 match Df (MJ w) l (zP,zP)with
 |.inl s=>(s.2,0)|.inr r=>r
def Cb(t:AC)(h:AG)(inj:Bool):Nat->ea->AJ->A0×Int
 |0,_,_=>(zP,0)|N+1,c,m=>
  if c.l3=2 then(if(Cb t h inj N (AA c.gp 0) m).2=0 then(zP,10)else if(Cb t h inj N (AA c.gp 0) m).2=10 then(zP,0)else(zP,(Cb t h inj N (AA c.gp 0) m).2))else
  if c.l3=3 then Se (fun k=>Cb t h inj N k m) c.gp else
  if c.l3=4 then(fst (fun i=>if(Cb t h inj N (AA c.gp i) m).2=0 then some (⟨i,zM,[(Cb t h inj N (AA c.gp i) m).1]⟩,0)else if(Cb t h inj N (AA c.gp i) m).2≠10 then some (zP,(Cb t h inj N (AA c.gp i) m).2)else none) 0 c.gp.length).getD (zP,10)else
  if c.l3=5 then
   (if(DM t c h m inj).2≠0 then(zP,(DM t c h m inj).2)else
   (fst (fun i=>if(Cb t h inj N (AA c.gp 0) (AA (DM t c h m inj).1 i)).2=0 then some (⟨0,AA (DM t c h m inj).1 i,[(Cb t h inj N (AA c.gp 0) (AA (DM t c h m inj).1 i)).1]⟩,0)else
    if (Cb t h inj N (AA c.gp 0) (AA (DM t c h m inj).1 i)).2≠10 then some (zP,(Cb t h inj N (AA c.gp 0) (AA (DM t c h m inj).1 i)).2)else none) 0 (DM t c h m inj).1.length).getD (zP,10))else
  (zP,0)
def Ca(t:AC)(h:AG)(inj:Bool):Nat->ea->AJ->A0×Int
 |0,_,_=>(zP,0)|N+1,c,m=>
  if c.l3=2 then(if(Ca t h inj N (AA c.gp 0) m).2=0 then(zP,10)else if(Ca t h inj N (AA c.gp 0) m).2=10 then(zP,0)else(zP,(Ca t h inj N (AA c.gp 0) m).2))else
  if c.l3=3 then Se (fun k=>Ca t h inj N k m) c.gp else
  if c.l3=4 then(fst (fun i=>if(Ca t h inj N (AA c.gp i) m).2≠10 then some (⟨i,zM,[(Ca t h inj N (AA c.gp i) m).1]⟩,(Ca t h inj N (AA c.gp i) m).2)else none) 0 c.gp.length).getD (zP,10)else
  if c.l3=5 then
   (if(DM t c h m inj).2≠0 then(zP,(DM t c h m inj).2)else
   (fst (fun i=>if(Ca t h inj N (AA c.gp 0) (AA (DM t c h m inj).1 i)).2≠10 then some (⟨0,AA (DM t c h m inj).1 i,[(Ca t h inj N (AA c.gp 0) (AA (DM t c h m inj).1 i)).1]⟩,(Ca t h inj N (AA c.gp 0) (AA (DM t c h m inj).1 i)).2)else none) 0 (DM t c h m inj).1.length).getD (zP,10))else
  (zP,0)
def Kw(x:A0×Int):A0×Int:=if x.2=0 then x else(zP,x.2)
theorem eo(x:A0×Int):(Kw x).2=x.2:=by unfold Kw;split<;>rfl
theorem en{x:A0×Int}(h:x.2=0):(Kw x).1=x.1:=by unfold Kw;rw[a6 h]
theorem hO(w:ea->A0×Int)(l:List ea):Kw (Se w l)=Se w l:=by
 unfold Se;have:∀(l:List ea)(s:A0×A0)(r:A0×Int),Df (MJ w) l s=.inr r->Kw r=r:=by
  intro l
  induction l with
  |nil=>intro s r h;cases h
  |cons a l j=>
   intro s r h;rw[Df]at h;split at h
   .exact j _ _ h
   .cases h
   .rename_i o d;cases h;unfold MJ at d;split at d
    .rename_i e;cases d;unfold Kw;rw[ae e]
    .cases d
 cases g:Df (MJ w) l (zP,zP)with
 |inl s=>rfl|inr r=>exact this _ _ _ g
theorem Wt(o:Option (A0×Int)):Kw (o.getD (zP,10))=(o.map Kw).getD (zP,10):=by cases o<;>rfl
theorem b7(t:AC)(h:AG)(inj:Bool):∀(N:Nat)(c:ea)(m:AJ),Cb t h inj N c m=Kw (Ca t h inj N c m)
 |0,_,_=>rfl|N+1,c,m=>by
  have w:=b7 t h inj N;have key:∀(c:ea)(m:AJ),(Cb t h inj N c m).2=(Ca t h inj N c m).2:=fun c m=>by rw[w,eo]
  have pick:∀(k:ea)(m x:AJ)(i:Int),(if(Cb t h inj N k m).2=0 then some ((⟨i,x,[(Cb t h inj N k m).1]⟩:A0),(0:Int))else if(Cb t h inj N k m).2≠10 then some (zP,(Cb t h inj N k m).2)else none)=(if(Ca t h inj N k m).2≠10 then some ((⟨i,x,[(Ca t h inj N k m).1]⟩:A0),(Ca t h inj N k m).2)else none).map Kw:=by
   intro k m x i;rw[key];by_cases d:(Ca t h inj N k m).2=0
   .rw[a6 d,a6 (by omega),w,en d];simp[Kw,d]
   .rw[ae d];by_cases e:(Ca t h inj N k m).2≠10
    .rw[a6 e,a6 e];simp[Kw,d]
    grind
  rw [Cb,Ca];by_cases j:c.l3=2
  .rw[a6 j,a6 j,key];by_cases d:(Ca t h inj N (AA c.gp 0) m).2=0
   .rw[a6 d];rfl
   .rw[ae d];by_cases e:(Ca t h inj N (AA c.gp 0) m).2=10
    .rw[a6 e];rfl
    .rw[ae e];unfold Kw;rw[ae d]
  rw [ae j,ae j];by_cases o:c.l3=3
  .rw[a6 o,a6 o,hO];unfold Se;rw[Vr (s2:=MJ fun k=>Ca t h inj N k m)];intro k _;funext s;unfold MJ;simp only[key];by_cases d:(Ca t h inj N k m).2=0
   .rw[ae (by simp[d]),ae (by simp[d]),w,en d]
   .rw[a6 d,a6 d]
  rw [ae o,ae o];by_cases r:c.l3=4
  .rw[a6 r,a6 r,Wt,<-PF];congr 1;exact congrArg (fun F=>fst F 0 (c.gp.length:Int)) (funext fun i=>pick _ _ _ _)
  rw [ae r,ae r];by_cases u:c.l3=5
  .rw[a6 u,a6 u];by_cases g:(DM t c h m inj).2≠0
   .rw[a6 g,a6 g];unfold Kw;rw[ae g]
   .rw[ae g,ae g,Wt,<-PF];congr 1;exact congrArg (fun F=>fst F 0 ((DM t c h m inj).1.length:Int)) (funext fun i=>pick _ _ _ _)
  rw [ae u,ae u];rfl
end Go.Sf.Sc
namespace Go.Sf.Sc
open Go Go.Sf
def QA(i:Int)(s:A0×A0):Prop:=(s.2.gp.length:Int)=i
theorem Ve{s:A3}(hf:Au s.t)(hv:(A1 s.t).2=0)(hh:JH s.t s.h):∀(N:Nat)(c:ea)(p:ec)(m:AJ),SizeOf.sizeOf c<=N->CV s.t p c->Uu s.t p s.h m->∀n,2*N<=n->BH n s c m=some (Cb s.t s.h s.gt N c m)
 |0,c,_,_,h,_,_,_,_=>by have:=DV c;omega|N+1,c,p,m,h,j,w,n,D=>by
  obtain ⟨n,rfl⟩:∃k,n=k+2:=⟨n-2,by omega⟩;have kid:∀(i:Int),0<=i->i<c.gp.length->SizeOf.sizeOf (AA c.gp i)<=N:=fun i d e=>by
   have:=EC (AI (l:=c.gp) d e);omega
  rw [BH,Cb];by_cases o:c.l3=2
  .have C:=j.one (.inl o);rw[a6 (by simpa using o),a6 o,AD (by omega) (by omega),bs,Ve hf hv hh N _ p m (kid 0 (by omega) (by omega)) (j.kid (by omega) _ (AI (by omega) (by omega))) w (n+1) (by omega),bs]
   grind
  rw [ae (by simpa using o),ae o];by_cases y:c.l3=3
  .rw[a6 (by simpa using y),a6 y];have A:=j.few;rw[VG (MJ fun k=>Cb s.t s.h s.gt N k m) QA (show QA 0 (zP,zP)from rfl)]
   .unfold Se;show AM (some (Df (MJ fun k=>Cb s.t s.h s.gt N k m) c.gp (zP,zP))) _ _=_;cases Df (MJ fun k=>Cb s.t s.h s.gt N k m) c.gp (zP,zP)<;>rfl
   .intro i st d e hi;unfold QA at hi;rw[AD d e,bs,Ve hf hv hh N _ p m (kid i d e) (j.kid (by omega) _ (AI d e)) w (n+1) (by omega),bs]
    grind [MJ,Cb,AA,AT,AW,QA]
  rw [ae (by simpa using y),ae y];by_cases z:c.l3=4
  .rw[a6 (by simpa using z),a6 z];rw[KW (fun _=>zP) (fun i=>if(Cb s.t s.h s.gt N (AA c.gp i) m).2=0 then some (⟨i,zM,[(Cb s.t s.h s.gt N (AA c.gp i) m).1]⟩,0)else if(Cb s.t s.h s.gt N (AA c.gp i) m).2≠10 then some (zP,(Cb s.t s.h s.gt N (AA c.gp i) m).2)else none) (by omega) rfl]
   .cases fst (fun i=>if(Cb s.t s.h s.gt N (AA c.gp i) m).2=0 then some ((⟨i,zM,[(Cb s.t s.h s.gt N (AA c.gp i) m).1]⟩:A0),(0:Int))else if(Cb s.t s.h s.gt N (AA c.gp i) m).2≠10 then some (zP,(Cb s.t s.h s.gt N (AA c.gp i) m).2)else none) 0 c.gp.length<;>rfl
   .intro i d e _;rw[AD d e,bs,Ve hf hv hh N _ p m (kid i d e) (j.kid (by omega) _ (AI d e)) w (n+1) (by omega),bs];generalize Cb s.t s.h s.gt N (AA c.gp i) m=x;by_cases e0:x.2=0
    .rw[a6 (by simpa using e0),a6 e0];try rfl
    .rw[ae (by simpa using e0),ae e0];by_cases g:x.2=10
     .rw[ae (by simp[g]),ae (by simp[g])];try rfl
     .rw[a6 (by simp[g]),a6 g];try rfl
  rw [ae (by simpa using z),ae z];by_cases r:c.l3=5
  .rw[a6 (by simpa using r),a6 r];have hi:=j.ins r;have C:=j.one (.inr r);rw[Bt,pL hf hv hh w hi,bs];by_cases u:(DM s.t c s.h m s.gt).2=0
   .obtain⟨g,B⟩:=ap hv hh w hi u;rw[ae (by simp[u]),ae (by simp[u])];generalize (DM s.t c s.h m s.gt).1=l at g B;rw[KW (fun _=>zP) (fun i=>if(Cb s.t s.h s.gt N (AA c.gp 0) (AA l i)).2=0 then some (⟨0,AA l i,[(Cb s.t s.h s.gt N (AA c.gp 0) (AA l i)).1]⟩,0)else if(Cb s.t s.h s.gt N (AA c.gp 0) (AA l i)).2≠10 then some (zP,(Cb s.t s.h s.gt N (AA c.gp 0) (AA l i)).2)else none) (by omega) rfl]
    .cases fst (fun i=>if(Cb s.t s.h s.gt N (AA c.gp 0) (AA l i)).2=0 then some ((⟨0,AA l i,[(Cb s.t s.h s.gt N (AA c.gp 0) (AA l i)).1]⟩:A0),(0:Int))else if(Cb s.t s.h s.gt N (AA c.gp 0) (AA l i)).2≠10 then some (zP,(Cb s.t s.h s.gt N (AA c.gp 0) (AA l i)).2)else none) 0 l.length<;>rfl
    .intro i d e _;rw[AD d e,bs,AD (by omega) (by omega),bs,Ve hf hv hh N _ c.ec _ (kid 0 (by omega) (by omega)) (j.kid5 r _ (AI (by omega) (by omega))) (B _ (AI d e)) n (by omega),bs];generalize Cb s.t s.h s.gt N (AA c.gp 0) (AA l i)=x;by_cases e0:x.2=0
     .rw[a6 (by simpa using e0),a6 e0];try rfl
     .rw[ae (by simpa using e0),ae e0];by_cases g:x.2=10
      .rw[ae (by simp[g]),ae (by simp[g])];try rfl
      .rw[a6 (by simp[g]),a6 g];try rfl
   .rw[a6 (by simp[u]),a6 u];try rfl
  grind
variable{t:AC}{inj:Bool}
theorem Qp{d:AG}(hf:Au t)(hv:(A1 t).2=0)(hh:JH t d):∀(N:Nat)(c:ea)(p:ec)(m:AJ),SizeOf.sizeOf c<=N->CV t p c->Uu t p d m->∀n,N<=n->DU n t c d m inj=some (Ca t d inj N c m)
 |0,c,_,_,h,_,_,_,_=>by have:=DV c;omega|N+1,c,p,m,h,o,w,n,E=>by
  obtain ⟨n,rfl⟩:∃k,n=k+1:=⟨n-1,by omega⟩;have kid:∀(i:Int),0<=i->i<c.gp.length->SizeOf.sizeOf (AA c.gp i)<=N:=fun i e g=>by
   have:=EC (AI (l:=c.gp) e g);omega
  rw [DU,Ca];by_cases r:c.l3=2
  .have D:=o.one (.inl r);rw[a6 (by simpa using r),a6 r,AD (by omega) (by omega),bs,Qp hf hv hh N _ p m (kid 0 (by omega) (by omega)) (o.kid (by omega) _ (AI (by omega) (by omega))) w n (by omega),bs]
   grind
  rw [ae (by simpa using r),ae r];by_cases y:c.l3=3
  .rw[a6 (by simpa using y),a6 y];have B:=o.few;rw[VG (MJ fun k=>Ca t d inj N k m) QA (show QA 0 (zP,zP)from rfl)]
   .unfold Se;show AM (some (Df (MJ fun k=>Ca t d inj N k m) c.gp (zP,zP))) _ _=_;cases Df (MJ fun k=>Ca t d inj N k m) c.gp (zP,zP)<;>rfl
   .intro i st e g hi;unfold QA at hi;rw[AD e g,bs,Qp hf hv hh N _ p m (kid i e g) (o.kid (by omega) _ (AI e g)) w n (by omega),bs]
    grind [MJ,Ca,AA,AT,AW,QA]
  rw [ae (by simpa using y),ae y];by_cases z:c.l3=4
  .rw[a6 (by simpa using z),a6 z];rw[KW (fun _=>zP) (fun i=>if(Ca t d inj N (AA c.gp i) m).2≠10 then some (⟨i,zM,[(Ca t d inj N (AA c.gp i) m).1]⟩,(Ca t d inj N (AA c.gp i) m).2)else none) (by omega) rfl]
   .cases fst (fun i=>if(Ca t d inj N (AA c.gp i) m).2≠10 then some ((⟨i,zM,[(Ca t d inj N (AA c.gp i) m).1]⟩:A0),(Ca t d inj N (AA c.gp i) m).2)else none) 0 c.gp.length<;>rfl
   .intro i e g _;rw[AD e g,bs,Qp hf hv hh N _ p m (kid i e g) (o.kid (by omega) _ (AI e g)) w n (by omega),bs];generalize Ca t d inj N (AA c.gp i) m=x;by_cases j:x.2=10
    .rw[ae (by simp[j]),ae (by simp[j])];try rfl
    .rw[a6 (by simp[j]),a6 j];try rfl
  rw [ae (by simpa using z),ae z];by_cases u:c.l3=5
  .rw[a6 (by simpa using u),a6 u];have hi:=o.ins u;have D:=o.one (.inr u);rw[pi hf hv hh w hi,bs];by_cases A:(DM t c d m inj).2=0
   .obtain⟨j,C⟩:=ap hv hh w hi A;rw[ae (by simp[A]),ae (by simp[A])];generalize (DM t c d m inj).1=l at j C;rw[KW (fun _=>zP) (fun i=>if(Ca t d inj N (AA c.gp 0) (AA l i)).2≠10 then some (⟨0,AA l i,[(Ca t d inj N (AA c.gp 0) (AA l i)).1]⟩,(Ca t d inj N (AA c.gp 0) (AA l i)).2)else none) (by omega) rfl]
    .cases fst (fun i=>if(Ca t d inj N (AA c.gp 0) (AA l i)).2≠10 then some ((⟨0,AA l i,[(Ca t d inj N (AA c.gp 0) (AA l i)).1]⟩:A0),(Ca t d inj N (AA c.gp 0) (AA l i)).2)else none) 0 l.length<;>rfl
    .intro i e g _;rw[AD (by omega) (by omega),bs,AD e g,bs,Qp hf hv hh N _ c.ec _ (kid 0 (by omega) (by omega)) (o.kid5 u _ (AI (by omega) (by omega))) (C _ (AI e g)) n (by omega),bs];generalize Ca t d inj N (AA c.gp 0) (AA l i)=x;by_cases j:x.2=10
     .rw[ae (by simp[j]),ae (by simp[j])];try rfl
     .rw[a6 (by simp[j]),a6 j];try rfl
   grind
  grind
end Go.Sf.Sc
namespace Go.Sf.Sc
open Go Go.Sf
noncomputable def St(t:AC)(p:ec)(c:ea)(h:AG)(m:AJ)(inj:Bool):Int:=
 if MQ t p c≠0 then MQ t p c else if(Iw t h).2≠0 then(Iw t h).2 else if Fr t p.d6 h.d6 m.d7 inj≠0 then Fr t p.d6 h.d6 m.d7 inj else
 if (E0 t p h m.d7).2≠0 then(E0 t p h m.d7).2 else if(E0 t p h m.d7).1=m.gn then 0 else 11
variable{t:AC}{c:ea}
theorem ig(hf:Au t)(p:ec)(d:DN c)(h:AG)(m:AJ)(inj:Bool):HM t p c h m inj=some (St t p c h m inj):=by
 unfold HM St;rw[mP hf p d,bs];refine C6 fun _=>?_;rw[Y5 hf,bs];refine C6 fun _=>?_;rw[WC hf,bs];refine C6 fun _=>?_;rw[bL hf,bs];refine C6 fun _=>?_;rw[Nk,bs]
 grind
variable{p:ec}{h:AG}{inj:Bool}
theorem U7(hf:Au t)(z:C7 c<=40){m:AJ}(e:St t p c h m inj=0):(A1 t).2=0/\JH t h/\CV t p c/\Uu t p h m:=by
 unfold St at e;split at e
 .grind
 rename_i d;split at e
 .grind
 rename_i j;split at e
 .grind
 rename_i o;split at e
 .grind
 rename_i r;split at e
 case isFalse=>cases e
 rename_i C;have d:=Classical.not_not.1 d;have j:=Classical.not_not.1 j;have o:=Classical.not_not.1 o;have r:=Classical.not_not.1 r;obtain⟨hv,hh⟩:=Ts hf j;have w:=(YM o).2;unfold MQ at d;split at d
 .grind
 rename_i A;split at d
 .grind
 rename_i u;have y:=iz hv (.inl (Classical.not_not.1 A));have u:=Classical.not_not.1 u;have B:lQ c=true:=by
  grind [Pp]
 suffices g:(m.gn.length:Int)=p.gn/\OW m.gn from⟨hv,hh,kY hv _ c p (az _) z B d,y,w,g.1,g.2⟩
 have g:∀s∈p.ff,IC p.gn h m.d7 s:=fun s g=>PO (Cd hv) y hh w g
 grind [E0,gH]
end Go.Sf.Sc
namespace Go.Sf.Sc
open Go Go.Sf
def PI:Nat->ea->Bool
 |0,_=>true|N+1,c=>if ns (fun i=>!PI N (AA c.gp i)) 0 c.gp.length=true then false else decide (Al ((c.ec.d6.d4.length:Int)+c.ec.d6.d5.length)<=6)
theorem XK:∀(N:Nat)(c:ea),SizeOf.sizeOf c<=N->∀n,N<=n->Ew n c=some (PI N c)
 |0,c,h,_,_=>by have:=DV c;omega|N+1,c,h,n,g=>by
  obtain ⟨n,rfl⟩:∃k,n=k+1:=⟨n-1,by omega⟩;rw[Ew,PI,BE (fun i=>!PI N (AA c.gp i)) false]
  .cases ns (fun i=>!PI N (AA c.gp i)) 0 c.gp.length<;>rfl
  .intro i d e _;have:=EC (AI (l:=c.gp) d e);rw[AD d e,bs,XK N _ (by omega) n (by omega),bs,FO]
theorem jC(c:ea):Pn c=some (PI (SizeOf.sizeOf c) c):=Dw (SizeOf.sizeOf c) fun n d=>XK _ c (az _) n d
def TB(a:Int):Nat->Int->Int
 |0,s=>s|k+1,s=>Al (TB a k s*a)
theorem kv{a b k s:Int}(g:0<=k)(e:k<=1000)(j:b<=1000):ER (ρ:=Bool) (fun(d:Int×Int)=>
  if (decide (d.2<b))=true then
  some (.next (Al (d.1*a),Al (d.2+1)))
  else
  some (.brk (d.1,d.2))) (s,k)=some (.inl (TB a (max k b-k).toNat s,max k b)):=by
 refine Pu (fun i=>TB a (i-k).toNat s) (by omega) (by rw[show(k-k).toNat=0 by omega];rfl) (fun i o r=>?_) ?_
 .rw[a6 (by simp;omega),show(i+1-k).toNat=(i-k).toNat+1 by omega,TB];dsimp only;rw[Ap (n:=i+1) (by omega) (by omega)]
 .rw[ae (by simp;omega)]
def PY(a b:Int):Nat->ec->ea->Bool
 |0,_,_=>true|N+1,p,c=>
  let q:=if c.l3=5 then c.ec else p
  if ns (fun i=>!PY a b N q (AA c.gp i)) 0 c.gp.length=true then false else
  decide (TB b (max (p.d6.d5.length:Int) q.d6.d5.length-p.d6.d5.length).toNat (TB a (max (p.d6.d4.length:Int) q.d6.d4.length-p.d6.d4.length).toNat 1)<=5000)
theorem ZL(a b:Int):∀(N:Nat)(c:ea)(p:ec),SizeOf.sizeOf c<=N->DN c->QW p->∀n,N<=n->De n p c a b=some (PY a b N p c)
 |0,c,_,h,_,_,_,_=>by have:=DV c;omega|N+1,c,p,h,g,z,n,K=>by
  obtain ⟨n,rfl⟩:∃k,n=k+1:=⟨n-1,by omega⟩;have E:=g.q.ej;have F:=g.q.fd;have G:=z.ej;have H:=z.fd;have e:∀q:ec,QW q->(AM (ER (ρ:=Bool) (fun(d:Int×Int)=>
    if (decide (d.2<(q.d6.d4.length:Int)))=true then
    some (.next (Al (d.1*a),Al (d.2+1)))
    else
    some (.brk (d.1,d.2))) (1,(p.d6.d4.length:Int))) (fun d=>
    AM (ER (ρ:=Bool) (fun(s2:Int×Int)=>
    if (decide (s2.2<(q.d6.d5.length:Int)))=true then
    some (.next (Al (s2.1*b),Al (s2.2+1)))
    else
    some (.brk (s2.1,s2.2))) (d.1,(p.d6.d5.length:Int))) (fun s2=>
    AM (Ag (ρ:=Bool) (fun(A:Int)(_:Unit)=>
    (idx c.gp A).bind fun j=>
    (De n q j a b).bind fun o=>
    if (!o)=true then
    some (.ret false)
    else
    some (.next ())) 0 (c.gp.length:Int) ()) (fun _=>
    some (decide (s2.1<=5000))) (fun B=>some B)) (fun C=>some C)) (fun D=>some D))=
    some (if ns (fun i=>!PY a b N q (AA c.gp i)) 0 c.gp.length=true then false else
     decide (TB b (max (p.d6.d5.length:Int) q.d6.d5.length-p.d6.d5.length).toNat (TB a (max (p.d6.d4.length:Int) q.d6.d4.length-p.d6.d4.length).toNat 1)<=5000)):=by
   intro q r;have I:=r.ej;have J:=r.fd;rw[kv (by omega) (by omega) (by omega),Bc];dsimp only;rw[kv (by omega) (by omega) (by omega),Bc,BE (fun i=>!PY a b N q (AA c.gp i)) false]
   .cases ns (fun i=>!PY a b N q (AA c.gp i)) 0 c.gp.length<;>rfl
   .intro i u w _;have:=EC (AI (l:=c.gp) u w);rw[AD u w,bs,ZL a b N _ q (by omega) (g.k _ (AI u w)) r n (by omega),bs,FO]
  rw [De,PY];by_cases y:c.l3=5
  .rw[a6 (by simpa using y),a6 y,bs,e _ g.q]
  grind
variable{c:ea}{p:ec}
theorem fO(a b:Int)(d:DN c)(e:QW p):Ob p c a b=some (PY a b (SizeOf.sizeOf c) p c):=Dw (SizeOf.sizeOf c) fun n g=>ZL a b _ c p (az _) d e n g
theorem iI(h:AG):∃b,Hf h=some b:=by
 unfold Hf Hb;rw[bs];split
 .exact⟨_,rfl⟩
 .rw[BE (fun i=>decide (12<((AA h.hT i).length:Int))) false]
  .cases ns (fun i=>decide (12<((AA h.hT i).length:Int))) 0 h.hT.length
   .exact⟨true,rfl⟩
   .exact⟨false,rfl⟩
  .intro i d e _;rw[AD d e,bs,FO]
variable{t:AC}
theorem fV(hf:Au t)(st:(AO t).Sm)(p g:d6):∃b,K9 t p g=some b:=by
 obtain ⟨b,e,_⟩:=Sz st;unfold K9 Hb;rw[e,bs,Ui hf]
 grind
theorem fW(hf:Au t)(st:(AO t).Sm)(p:ec)(w:(AH c).Sm)(h:AG):∃b,LE t p c h=some b/\(b=true->DN c/\C7 c<=40/\QW p):=by
 obtain ⟨y,z,A⟩:=eO w;obtain⟨B,r,C⟩:=Qk p;obtain⟨D,u⟩:=iI h;unfold LE;rw[z,bs];cases y
 .exact⟨false,rfl,fun h=>by cases h⟩
 rw [r];cases B
 .exact⟨false,rfl,fun h=>by cases h⟩
 rw [u];cases D
 .exact⟨false,rfl,fun h=>by cases h⟩
 have g:=A rfl;have j:=C rfl;simp only[bs,Bool.not_true,Bool.false_eq_true,if_false];rw[fQ hf p g.1,bs];have d:∀o:K1,(∃b,o=some b)->∃b,o=some b/\(b=true->DN c/\C7 c<=40/\QW p):=fun o⟨b,e⟩=>⟨b,e,fun _=>⟨g.1,g.2,j⟩⟩;refine d _ ?_;split
 .exact⟨true,rfl⟩
 .obtain⟨E,F⟩:=fV hf st p.d6 h.d6;unfold Nt;rw[r,u,F,jC,fO 14 18 g.1 j];simp only[bs,if_true];cases E<;>simp only[Bool.false_eq_true,if_false,if_true,bs,Bool.false_and]
  .exact⟨_,rfl⟩
  .split
   .exact⟨_,rfl⟩
   .exact⟨_,rfl⟩
noncomputable def wS(t:AC)(p:ec)(c:ea)(h:AG)(m:AJ)(inj:Bool):A0×Int:=
 if St t p c h m inj≠0 then(zP,St t p c h m inj)else Cb t h inj (SizeOf.sizeOf c) c m
theorem fJ(hf:Au t)(p:ec)(e:DN c)(g:C7 c<=40)(h:AG)(m:AJ)(inj:Bool):Fy t p c h m inj=some (wS t p c h m inj):=by
 unfold Fy wS;rw[ig hf p e,bs];refine Dt fun j=>?_;obtain⟨hv,hh,d,r⟩:=U7 hf g j;rw[show F9 (A3.mk t h inj) c m=some (Cb t h inj (SizeOf.sizeOf c) c m)from Dw (2*SizeOf.sizeOf c) fun n o=>Ve (s:=⟨t,h,inj⟩) hf hv hh _ c p m (az _) d r n o];rfl
noncomputable def Lp(t:AC)(p:ec)(c:ea)(h:AG)(m:AJ)(inj:Bool):Bool×Int:=
 if (wS t p c h m inj).2=10 then(false,0)else(decide ((wS t p c h m inj).2=0),(wS t p c h m inj).2)
theorem Z9(hf:Au t)(p:ec)(d:DN c)(e:C7 c<=40)(h:AG)(m:AJ)(inj:Bool):E2 t p c h m inj=some (Lp t p c h m inj):=by grind[E2,Lp,fJ,wS]
variable{h:AG}{inj:Bool}
theorem jB(hf:Au t){m:AJ}(hv:(A1 t).2=0)(hh:JH t h)(d:CV t p c)(e:Uu t p h m):Qb t c h m inj=some (Ca t h inj (SizeOf.sizeOf c) c m):=Dw (SizeOf.sizeOf c) fun n g=>Qp hf hv hh _ c p m (az _) d e n g
end Go.Sf.Sc
namespace Go.Sf.Sc
open Go Go.Sf
end Go.Sf.Sc
namespace Go.Sf.Sc
open Go Go.Sf
theorem nf(t:AC)(p:ec)(c:ea)(h:AG)(m:AJ)(inj:Bool):wS t p c h m inj=if St t p c h m inj≠0 then(zP,St t p c h m inj)else Kw (Ca t h inj (SizeOf.sizeOf c) c m):=by
 unfold wS;rw[b7]
end Go.Sf.Sc
