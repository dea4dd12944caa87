/- Plain lemmas: what the functions of the program and of the reference compute. -/
import Derived.Test.YtmbomnkcdolalaaGreatP25
set_option linter.all false
set_option maxRecDepth 100000
namespace Go.Sf.Sc
open Go Go.Sf
variable{k:Int}
theorem QB{d:List kp}(h:M3 d k=0)(e:(AA d k).t5.length<=1000):-1000000<=(AA d k).Low/\(AA d k).AaD<=1000000:=by grind[M3]
variable{t:AC}{i:Int}
theorem YP(h:H5 t i=0):∀k,((Ay t i).length:Int)-(AA t.ci i).up.length<=k->k<(Ay t i).length->M3 (Ay t i) k=0:=by
 unfold H5 at h;dsimp only at h;split at h
 .cases h
 split at h
 .cases h
 split at h
 .cases h
 split at h
 .cases h
 exact T7 h
variable{a:Int}
theorem N6{n:Nat}(d:0<=a):By t (n+1) a=By t n (par t a)++(AA t.ci a).up:=by grind[By]
theorem Tp(hf:As t)(h:Fm t){Q:kp->Prop}(QB:∀{d:List kp}{k:Int},M3 d k=0->(AA d k).t5.length<=1000->Q (AA d k)):∀(n:Nat)(a:Int),a<t.ci.length->a<n->∀x∈By t n a,Q x
 |0,_,_,_=>by simp[By]|n+1,a,o,D=>by
  by_cases r:a<0
  .rw[Il r];simp
  .have z:=h.par a (by omega) o;intro x g;rw[N6 (by omega)]at g;rcases List.mem_append.1 g with g|g
   .exact Tp hf h QB n (par t a) (by omega) (by omega) x g
   .obtain⟨j,B,C,rfl⟩:=BW g;have e:Ay t a=By t a.toNat (par t a)++(AA t.ci a).up:=by
     unfold Ay;rw[show(a+1).toNat=a.toNat+1 by omega,N6 (by omega)]
    have A:(Ay t a).length=(By t a.toNat (par t a)).length+(AA t.ci a).up.length:=by rw[e,bk]
    have u:=YP (h.node a (by omega) o) ((By t a.toNat (par t a)).length+j) (by omega) (by omega);have w:AA (Ay t a) ((By t a.toNat (par t a)).length+j)=AA (AA t.ci a).up j:=by
     grind [O2,AA]
    have y:=Ll hf (Int.le_refl _) h.par o (AA (Ay t a) ((By t a.toNat (par t a)).length+j)) (AK (by omega) (by omega));have:=QB u (by have:=y.names;omega)
    rwa [w]at this
theorem Zn(hf:As t)(h:Fm t)(e:0<=a)(d:a<t.ci.length):∀x∈Ay t a,-1000000<=x.Low/\x.AaD<=1000000:=Tp hf h QB _ a d (by omega)
theorem V2(e:Eo t k):∀(n:Nat)(a b:Int),a<k->a<n->b∈Ow t n a->0<=b/\b<=a/\(Ay t b).length<=(By t n a).length
 |0,_,_,_,_=>by simp[Ow]|n+1,a,b,g,r=>by
  intro d;rw[Ow]at d;split at d
  .cases d
  .rename_i j;have o:=e a (by omega) g;rw[N6 (by omega)];rcases List.mem_cons.1 d with rfl|d
   .refine⟨by omega,by omega,?_⟩;unfold Ay;rw[LS e (b+1).toNat (n+1) b g (by omega) (by omega),N6 (by omega)];exact az _
   .have:=V2 e n (par t a) b (by omega) (by omega) d
    grind
variable{b:Int}
theorem Vc(h:Fm t)(j:a<t.ci.length)(d:IX t a b=true):(Ay t b).length<=(Ay t a).length:=by
 unfold IX at d;rw[List.any_eq_true]at d;obtain⟨x,g,e⟩:=d;rw[zzX]at e;subst e;by_cases o:a<0
 .have:(a+1).toNat=0:=by omega
  rw [this]at g;cases g
 .exact(V2 h.par (a+1).toNat a b j (by omega) g).2.2
theorem Zp{α:Type}{Q:Prop}[Decidable Q]{v:α}{X:Option α}{Y:α}(he:a=b↔Q)(h:Q->X=some Y):(if(!decide (a=b))=true then some v else X)=some (if¬Q then v else Y):=by grind
def Qe(t:AC)(k:Int)(v:Fp)(j:Int):Bool:=decide (AA v j<(AA (Ay t k) j).Low)||decide ((AA (Ay t k) j).AaD<AA v j)
def I7(t:AC)(k:Int)(v:Fp):Int:=
 if (t.ci.length:Int)<=k then 6 else if(AA t.ci k).Aao=true then 13 else if¬v.length=(Ay t k).length then 20 else
 if og (Qe t k v) 0 (Ay t k).length=true then 6 else 0
def NZ(t:AC)(g:d4)(i:Int):Int:=
 if (t.d3.length:Int)<=(AA g.d3 i).ne then 6 else if LJ t g i=false then 13 else 0
def GG(t:AC)(h:AG):Int×Int:=
 if (Av t).2≠0 then(-1,(Av t).2)else if Bt h.d4≠0 then(-1,Bt h.d4)else if¬h.fd.length=h.d4.ci.length then(-1,20)else
 match fst (fun i=>(nz (I7 t (AA h.d4.ci i) (AA h.fd i))).map fun e=>(i,e)) 0 h.d4.ci.length with
 |some r=>r|none=>(fst (fun i=>(nz (NZ t h.d4 i)).map fun e=>(i,e)) 0 h.d4.d3.length).getD (-1,0)
theorem IV(hv:(Av t).2=0)(d:0<=k)(e:k<t.ci.length):F7 t k=(Ay t k,0):=by grind[F7,LU]
theorem Pp{x:Bool}{y:Bool}:(if x=true then some true else some y)=some (x||y):=by cases x<;>rfl
theorem jW(hf:As t)(hv:(Av t).2=0)(d:0<=k)(v:Fp):IW t k v=some (I7 t k v):=by
 unfold IW I7;by_cases e:(t.ci.length:Int)<=k
 .grind
 rw [ae (by simpa using e),ae e,AD d (by omega),bs];refine Wn fun _=>?_;rw[Pq hf,IV hv d (by omega),bs];refine Zp (by simp only[];omega) fun g=>?_;rw[BM (Qe t k v) 6]
 .cases og (Qe t k v) 0 (Ay t k).length<;>rfl
 grind [Ay,AD,Pp,Qe,AA]
theorem jq(hf:As t)(hv:(Av t).2=0)(d:0<=k)(v:Fp):MH t k v=some (I7 t k v):=by
 unfold MH I7;by_cases e:(t.ci.length:Int)<=k
 .grind
 rw [ae (by simpa using e),ae e,AD d (by omega),bs];refine Wn fun _=>?_;rw[Ps hf,IV hv d (by omega),bs];refine Zp (by simp only[];omega) fun g=>?_;rw[BM (Qe t k v) 6]
 .cases og (Qe t k v) 0 (Ay t k).length<;>rfl
 grind [Ay,AD,Pp,Qe,AA]
theorem XN(e i:Int):(if(!decide (e=0))=true then some (Bk.ret (σ:=Unit) (ρ:=Int×Int) (i,e))else some (.next ()))=some (Oc ((nz e).map fun e=>(i,e))):=by grind[nz,Oc]
theorem R6(hf:As t)(h:AG):EK t h=some (GG t h):=by
 unfold EK GG;rw[Ms hf,bs];refine Ef fun hv=>?_;rw[LY,bs];refine Ef fun o=>?_;have go:=DB o;refine Zp (by omega) fun z=>?_;rw[BR (fun i=>(nz (I7 t (AA h.d4.ci i) (AA h.fd i))).map fun e=>(i,e)),Dd]
 .cases u:fst (fun i=>(nz (I7 t (AA h.d4.ci i) (AA h.fd i))).map fun e=>(i,e)) 0 h.d4.ci.length with
  |some r=>rfl|none=>
   have w:=CI.1 u;dsimp only;rw[BR (fun i=>(nz (NZ t h.d4 i)).map fun e=>(i,e)),Dd]
   .grind
   .intro i d g _;have y:=go.fit _ (AK (l:=h.d4.d3) d g);rw[AD d g,bs];unfold NZ LJ;by_cases j:(t.d3.length:Int)<=(AA h.d4.d3 i).ne
    .rw[a6 (by simpa using j),a6 j];rfl
    .rw[ae (by simpa using j),ae j,AD (by omega) (by omega),bs,AD (by omega) (by omega),bs,bz hf,bs];cases QL t (AA h.d4.d3 i).ne (AA h.d4.ci (AA h.d4.d3 i).ns) (AA h.d4.ci (AA h.d4.d3 i).To)<;>rfl
 .intro i d g _;rw[AD d g,bs,AD d (by omega),bs,jW hf hv (go.kind _ (AK d g)).1,bs];exact XN _ i
theorem SB(hf:As t)(h:AG):FR t h=some (GG t h):=by
 unfold FR GG;rw[Mv hf,bs];refine Ef fun hv=>?_;rw[LZ,bs];refine Ef fun o=>?_;have go:=DB o;refine Zp (by omega) fun z=>?_;rw[BR (fun i=>(nz (I7 t (AA h.d4.ci i) (AA h.fd i))).map fun e=>(i,e)),Dd]
 .cases u:fst (fun i=>(nz (I7 t (AA h.d4.ci i) (AA h.fd i))).map fun e=>(i,e)) 0 h.d4.ci.length with
  |some r=>rfl|none=>
   have w:=CI.1 u;dsimp only;rw[BR (fun i=>(nz (NZ t h.d4 i)).map fun e=>(i,e)),Dd]
   .grind
   .intro i d g _;have y:=go.fit _ (AK (l:=h.d4.d3) d g);rw[AD d g,bs];unfold NZ LJ;by_cases j:(t.d3.length:Int)<=(AA h.d4.d3 i).ne
    .rw[a6 (by simpa using j),a6 j];rfl
    .rw[ae (by simpa using j),ae j,AD (by omega) (by omega),bs,AD (by omega) (by omega),bs,cL hf,bs];cases QL t (AA h.d4.d3 i).ne (AA h.d4.ci (AA h.d4.d3 i).ns) (AA h.d4.ci (AA h.d4.d3 i).To)<;>rfl
 .intro i d g _;rw[AD d g,bs,AD d (by omega),bs,jq hf hv (go.kind _ (AK d g)).1,bs];exact XN _ i
structure H9(t:AC)(h:AG):Prop where
 g:Di h.d4
 len:h.fd.length=h.d4.ci.length
 kind:∀i:Int,0<=i->i<h.d4.ci.length->0<=AA h.d4.ci i/\AA h.d4.ci i<t.ci.length
 row:∀i:Int,0<=i->i<h.d4.ci.length->(AA h.fd i).length=(Ay t (AA h.d4.ci i)).length
 low:∀i:Int,0<=i->i<h.d4.ci.length->∀x∈AA h.fd i,-1000000<=x/\x<=1000000
 ge:Bt h.d4=0
 ty:Ci t h.d4=true
variable{h:AG}
theorem OR(hf:As t)(e:(GG t h).2=0):(Av t).2=0/\H9 t h:=by
 unfold GG at e;split at e
 .rename_i w;exact absurd e w
 split at e
 .rename_i w;exact absurd e w
 split at e
 .cases e
 rename_i w E H;have hv:=Classical.not_not.1 w;have go:=DB (Classical.not_not.1 E);have z:∀i:Int,0<=i->i<h.d4.ci.length->I7 t (AA h.d4.ci i) (AA h.fd i)=0:=by
  split at e
  .rename_i r o;obtain⟨i,_,_,k,_⟩:=C5 o;unfold nz at k;split at k
   .cases k
   .rename_i u;cases k;exact absurd e u
  .rename_i o;exact fun i d g=>Mn.1 (Mm.1 (CI.1 o i d g))
 have A:∀i:Int,0<=i->i<h.d4.ci.length->(0<=AA h.d4.ci i/\AA h.d4.ci i<t.ci.length)/\(AA h.fd i).length=(Ay t (AA h.d4.ci i)).length/\∀j:Int,0<=j->j<(Ay t (AA h.d4.ci i)).length->Qe t (AA h.d4.ci i) (AA h.fd i) j=false:=by
  intro i d g;have K:=(go.kind _ (AK d g)).1;have:=z i d g;unfold I7 at this;split at this
  .cases this
  split at this
  .cases this
  split at this
  .cases this
  split at this
  .cases this
  rename_i a1 M I J;exact⟨⟨K,by omega⟩,Classical.not_not.1 I,Bb.1 (by simpa using J)⟩
 have he:∀i:Int,0<=i->i<h.d4.d3.length->NZ t h.d4 i=0:=by
  have C:fst (fun i=>(nz (I7 t (AA h.d4.ci i) (AA h.fd i))).map fun e=>(i,e)) 0 h.d4.ci.length=none:=CI.2 fun i d g=>by rw[z i d g];rfl
  rw [C]at e;dsimp only at e;cases o:fst (fun i=>(nz (NZ t h.d4 i)).map fun e=>(i,e)) 0 h.d4.d3.length with
  |some r=>
   rw [o]at e;obtain⟨i,_,_,k,_⟩:=C5 o;unfold nz at k;split at k
   .cases k
   .rename_i u;cases k;exact absurd e u
  |none=>exact fun i d g=>Mn.1 (Mm.1 (CI.1 o i d g))
 have D:Ci t h.d4=true:=by
  unfold Ci;rw[pc,Bool.not_eq_true',Bool.not_eq_true',List.any_eq_false,List.any_eq_false];refine⟨fun n z=>?_,fun x B=>?_⟩
  .obtain⟨i,d,g,rfl⟩:=BW z;have:=(A i d g).1.2;simp;omega
  .obtain⟨i,d,g,rfl⟩:=BW B;have:=he i d g;unfold NZ at this;split at this
   .cases this
   .simp;omega
 suffices y:∀i:Int,0<=i->i<h.d4.ci.length->∀x∈AA h.fd i,-1000000<=x/\x<=1000000 from⟨hv,go,Classical.not_not.1 H,fun i d g=>(A i d g).1,fun i d g=>(A i d g).2.1,y,Classical.not_not.1 E,D⟩
 intro i d g x B;obtain⟨F,N,L⟩:=A i d g;obtain⟨j,G,O,rfl⟩:=BW B;have:=L j G (by omega);unfold Qe at this;simp only[Bool.or_eq_false_iff,decide_eq_false_iff_not]at this;have:=Zn hf (DU hv) F.1 F.2 _ (AK (l:=Ay t (AA h.d4.ci i)) G (by omega));omega
end Go.Sf.Sc
namespace Go.Sf.Sc
open Go Go.Sf
def Jn(t:AC)(p g:d4)(m:d5)(i:Int):QQ:=
 if AA m.ci i<0\/g.ci.length<=AA m.ci i then some 6 else if IX t (AA g.ci (AA m.ci i)) (AA p.ci i)=false then some 13 else none
def NO(t:AC)(p g:d4)(m:d5):Int:=
 if m.ci.length≠p.ci.length\/m.d3.length≠p.d3.length then 20 else
 match fst (Jn t p g m) 0 m.ci.length with
 |some e=>e|none=>(fst (Gi p g m) 0 m.d3.length).getD 0
def F4(t:AC)(p g:d4)(m:d5)(inj:Bool):Int:=
 if FW t p g≠0 then FW t p g else if NO t p g m≠0 then NO t p g m else if(inj&&!Jp m)=true then 5 else 0
structure VA(t:AC)(p g:d4)(m:d5):Prop where
 AaR:m.ci.length=p.ci.length
 Abg:m.d3.length=p.d3.length
 node:∀i:Int,0<=i->i<m.ci.length->(0<=AA m.ci i/\AA m.ci i<g.ci.length)/\IX t (AA g.ci (AA m.ci i)) (AA p.ci i)=true
 edge:∀i:Int,0<=i->i<m.d3.length->0<=AA m.d3 i/\AA m.d3 i<g.d3.length
variable{t:AC}
theorem Mj{p g:d4}(h:FW t p g=0):(Av t).2=0/\Di p/\Di g/\(∀n∈p.ci,0<=n/\n<t.ci.length)/\∀n∈g.ci,0<=n/\n<t.ci.length:=by
 unfold FW at h;split at h
 .grind
 split at h
 .grind
 split at h
 .grind
 split at h
 .rename_i e j o d;rw[pc]at d
  grind [DB,Hz]
 .cases h
variable{m:d5}
theorem ZN{p g:d4}(h:NO t p g m=0):VA t p g m:=by
 unfold NO at h;split at h
 .cases h
 rename_i o;have j:fst (Jn t p g m) 0 m.ci.length=none:=by
  grind [C5,Jn]
 rw [j]at h;have he:=O9 (fun i=>by
  grind [Gi]) h
 refine ⟨by omega,by omega,fun i d e=>?_,fun i d e=>?_⟩
 .grind[CI,Jn]
 grind [Gi]
theorem Vj(hf:As t){p g:d4}(A:FW t p g=0)(m:d5):Ex t p g m=some (NO t p g m):=by
 obtain ⟨hv,C,G,tp,D⟩:=Mj A;unfold Ex NO;refine Ka (by simp;try omega) fun E=>?_;rw[gv hf (DU hv) hv,bs,BR (Jn t p g m),Dd]
 .cases F:fst (Jn t p g m) 0 m.ci.length with
  |some e=>rfl|none=>
   dsimp only;rw[BR (Gi p g m),CG];intro i j z _;unfold Gi;rw[AD j z,bs];by_cases d:AA m.d3 i<0\/g.d3.length<=AA m.d3 i
   .rw[a6 (by simpa using d),a6 d];rfl
   .have hf:=C.fit _ (AK (l:=p.d3) j (by omega));rw[ae (by simpa using d),ae d,AD j (by omega),bs,AD (by omega) (by omega),bs];by_cases o:(AA p.d3 i).ne=(AA g.d3 (AA m.d3 i)).ne
    .rw[ae (by simpa using o),ae (by simpa using o),AD (by omega) (by omega),bs];by_cases r:AA m.ci (AA p.d3 i).ns=(AA g.d3 (AA m.d3 i)).ns
     .rw[ae (by simpa using r),AD (by omega) (by omega),bs,bs];by_cases u:AA m.ci (AA p.d3 i).To=(AA g.d3 (AA m.d3 i)).To
      .rw[ae (by simpa using u),ae (by simp[r,u])];rfl
      .rw[a6 (by simpa using u),a6 (.inr u)];rfl
     .rw[a6 (by simpa using r),bs,a6 rfl,a6 (.inl r)];rfl
    .rw[a6 (by simpa using o),a6 o];rfl
 .intro i j z _;unfold Jn;rw[AD j z,bs];by_cases d:AA m.ci i<0\/g.ci.length<=AA m.ci i
  .rw[a6 (by simpa using d),a6 d];rfl
  .have w:=tp _ (AK (l:=p.ci) j (by omega));have y:=D _ (AK (l:=g.ci) (show 0<=AA m.ci i by omega) (by omega));rw[ae (by simpa using d),ae d,AD j (by omega),bs,AD w.1 (by unfold I0;rw[c8,BG];exact w.2),bs,AD (by omega) (by omega),bs];have e:AA (I0 t) (AA p.ci i)=MQ t (AA p.ci i):=by unfold I0;exact IT (MQ t) w.1 w.2
   rw [e,AD y.1 (by unfold MQ;rw[c8,BG];exact y.2),bs];have B:AA (MQ t (AA p.ci i)) (AA g.ci (AA m.ci i))=IX t (AA g.ci (AA m.ci i)) (AA p.ci i):=by unfold MQ;exact IT (fun k=>IX t k (AA p.ci i)) y.1 y.2
   rw [B];cases IX t (AA g.ci (AA m.ci i)) (AA p.ci i)<;>rfl
variable{l:Fp}
theorem ZD(d:l.length<=1000):Gr l=some (!IF l):=by grind[Gr,TD,QI,AbH,IF]
theorem Uz(hf:As t)(p g:d4)(m:d5)(inj:Bool):EF t p g m inj=some (F4 t p g m inj):=by
 unfold EF F4;rw[U2 hf,bs];refine DC fun d=>?_;rw[Vj hf d,bs];refine DC fun o=>?_;obtain⟨_,j,r,_⟩:=Mj d;have e:=ZN o;have:=j.ec;have:=j.ek;have:=e.AaR;have:=e.Abg;rw[ZD (by omega),ZD (by omega)];unfold Jp;cases inj<;>cases IF m.ci<;>cases IF m.d3<;>rfl
theorem jn(l:Fp):IP l=some (IF l):=WT l
theorem cW{p g:d4}(z:FW t p g=0)(m:d5)(inj:Bool):Kn t p g m inj=some (if NO t p g m≠0 then NO t p g m else if(inj&&!Jp m)=true then 5 else 0):=by
 obtain ⟨hv,C,F,tp,D⟩:=Mj z;unfold Kn NO;by_cases A:m.ci.length≠p.ci.length\/m.d3.length≠p.d3.length
 .grind
 rw [ae (by simp;try omega),ae A,BR (Jn t p g m),Dd]
 .cases E:fst (Jn t p g m) 0 m.ci.length with
  |some e=>
   grind [C5,Jn]
  |none=>
   dsimp only;rw[BR (Gi p g m),Dd]
   .grind[fst,Gi,C5,jn,Jp,IF]
   intro i j w _;unfold Gi;rw[AD j w];simp only[bs,R5];by_cases d:AA m.d3 i<0\/g.d3.length<=AA m.d3 i
   .rw[a6 (by simpa using d),a6 d];rfl
   .have hf:=C.fit _ (AK (l:=p.d3) j (by omega));rw[ae (by simpa using d),ae d,AD j (by omega),bs,AD (by omega) (by omega),bs];by_cases o:(AA p.d3 i).ne=(AA g.d3 (AA m.d3 i)).ne
    .rw[ae (by simpa using o),ae (by simpa using o),AD (by omega) (by omega),bs];by_cases r:AA m.ci (AA p.d3 i).ns=(AA g.d3 (AA m.d3 i)).ns
     .rw[ae (by simpa using r),AD (by omega) (by omega),bs,bs];by_cases u:AA m.ci (AA p.d3 i).To=(AA g.d3 (AA m.d3 i)).To
      .rw[ae (by simpa using u),ae (by simp[r,u])];rfl
      .rw[a6 (by simpa using u),a6 (.inr u)];rfl
     .rw[a6 (by simpa using r),bs,a6 rfl,a6 (.inl r)];rfl
    .rw[a6 (by simpa using o),a6 o];rfl
 .intro i j w _;unfold Jn;rw[AD j w];simp only[bs,R5];by_cases d:AA m.ci i<0\/g.ci.length<=AA m.ci i
  .rw[a6 (by simpa using d),a6 d];rfl
  .have B:=tp _ (AK (l:=p.ci) j (by omega));have y:=D _ (AK (l:=g.ci) (show 0<=AA m.ci i by omega) (by omega));rw[ae (by simpa using d),ae d,AD (by omega) (by omega),bs,AD j (by omega),bs,Sh (DU hv) y.1 y.2 B.1,bs];cases IX t (AA g.ci (AA m.ci i)) (AA p.ci i)<;>rfl
theorem U4(hf:As t)(p g:d4)(m:d5)(inj:Bool):Hv t p g m inj=some (F4 t p g m inj):=by
 unfold Hv F4;rw[TP hf,bs];refine DC fun d=>?_;rw[cW d,bs]
variable{inj:Bool}
theorem Wo{p g:d4}(h:F4 t p g m inj=0):FW t p g=0/\VA t p g m:=by grind[F4,ZN]
end Go.Sf.Sc
namespace Go.Sf.Sc
open Go Go.Sf
section
variable{α σ ρ:Type}
def Dm(step:α->σ->Bk σ ρ):List α->σ->σ ⊕ ρ
 |[],s=>.inl s|a::r,s=>match step a s with
  |.next s'=>Dm step r s'|.brk s'=>.inl s'|.ret r=>.inr r
variable{f:Int->σ->Option (Bk σ ρ)}
theorem Rp[Inhabited α]{l:List α}(step:α->σ->Bk σ ρ)(I:σ->Prop)(h:∀(i:Int)s,0<=i->i<l.length->I s->f i s=some (step (AA l i) s)/\∀s',step (AA l i) s=.next s'->I s'):
  ∀(n:Nat)(a:Int)(s:σ),0<=a->a+n=l.length->I s->Aae f n a s=some (Dm step (l.drop a.toNat) s)
 |0,a,s,d,o,_=>by
  rw [List.drop_eq_nil_of_le (by omega)];rfl
 |n+1,a,s,d,o,u=>by
  obtain ⟨g,j⟩:=h a s d (by omega) u;have hd:l.drop a.toNat=AA l a::l.drop (a+1).toNat:=by
   grind [List.drop_eq_getElem_cons,AA,List.getElem?_eq_getElem]
  rw [FN,g,hd,Dm];cases e:step (AA l a) s with
  |next s'=>
   simp only;exact Rp step I h n (a+1) s' (by omega) (by omega) (j s' e)
  |brk s'=>rfl|ret r=>rfl
theorem O8[Inhabited α]{l:List α}(step:α->σ->Bk σ ρ)(I:σ->Prop){s:σ}(d:I s)(h:∀(i:Int)s,0<=i->i<l.length->I s->f i s=some (step (AA l i) s)/\∀s',step (AA l i) s=.next s'->I s'):
  j4 f 0 l.length s=some (Dm step l s):=by
 have:=Rp step I h l.length 0 s (by omega) (by omega) d;unfold j4;rw[show((l.length:Int)-0).toNat=l.length by omega];exact this
theorem Xx[Inhabited α](step:α->σ->Bk σ ρ)(I:σ->Prop):∀(l:List α)(s s':σ),I s->(∀a∈l,∀s s',I s->step a s=.next s'->I s')->(∀a∈l,∀s s',step a s≠.brk s')->Dm step l s=.inl s'->I s'
 |[],s,s',h,_,_,e=>by cases e;exact h
 |a::r,s,s',h,g,o,e=>by
  rw [Dm]at e;split at e
  .rename_i s2 j;exact Xx step I r s2 s' (g a (by simp) s s2 h j) (fun a d=>g a (by simp[d])) (fun a d=>o a (by simp[d])) e
  .grind
  .cases e
end
def Cn(x:j0)(l:Fp):Int:=if x.Var<0 then x.Add else Af (AA l x.Var+x.Add)
variable{x:j0}{l:Fp}
theorem R7(h:x.Var<l.length):Dx x l=some (Cn x l):=by grind[Dx,Cn,AD]
theorem Vr(h:x.Var<l.length):Hx x l=some (Cn x l):=R7 h
theorem XT(d:-1<=x.Var)(h:x.Var<l.length)(e:l.length<=1000):EU x l=some (Cn x l,0):=by grind[EU,CQ,Ao,R7]
theorem Mu(d:-1<=x.Var)(h:x.Var<l.length):EM x l=some (Cn x l,0):=by grind[EM,Vr]
def JX(x:Test)(l:Fp):Bool:=(decide (x.mo=1)&&decide (Cn x.kl l<=Cn x.em l))||(decide (x.mo=2)&&decide (Cn x.kl l=Cn x.em l))
structure HH(n:Int)(x:j0):Prop where
 low:-1<=x.Var
 high:x.Var<n
 add:-1000000<=x.Add/\x.Add<=1000000
def Nr(l:Fp):Prop:=∀x∈l,-2000000<=x/\x<=2000000
variable{n:Int}
theorem Qn(h:HH n x)(d:Nr l)(e:n<=l.length):Cn x l=(if x.Var<0 then x.Add else AA l x.Var+x.Add)/\-3000000<=Cn x l/\Cn x l<=3000000:=by
 unfold Cn;have:=h.add;by_cases g:x.Var<0
 .grind
 .have hh:=h.high;have:=d _ (AK (l:=l) (show 0<=x.Var by omega) (by omega))
  grind [Ao]
theorem Vq(h:HH n x)(d:n<=l.length):JJ x l=some (Cn x l,true):=by
 have e:=h.low;have g:=h.high
 grind [JJ,Cn,AD]
theorem r_holds{x:Test}(e:HH n x.kl)(g:HH n x.em)(d:n<=l.length):Kj x l=some (JX x l):=by
 unfold Kj;rw[Vq e d,Vq g d];rfl
variable{a b:Int}
theorem V4(j:-4000000<=a/\a<=4000000)(o:-4000000<=b/\b<=4000000):Fr a b=some (if a+b<0 then(-1,a+b+18446744073709551616)else(0,a+b)):=by
 have d:∀c:Int,IntKind.u64.wrap c=c % 18446744073709551616:=fun c=>by
  simp [IntKind.wrap,IntKind.signed,IntKind.bits]
 have g:∀c:Int,-4000000<=c/\c<=4000000->Kc .i64 .shr c 63=some (if c<0 then -1 else 0):=by
  intro c w;unfold Kc;have e:c.fdiv (2^ (min (63:Int).toNat (IntKind.bits .i64)))=if c<0 then -1 else 0:=by
   show c.fdiv (2^ 63)=_
   grind
  simp only[e];have:(0:Int)<=63/\IntKind.min .i64<=(if c<0 then -1 else 0)/\(if c<0 then -1 else 0)<=IntKind.max .i64:=by
   split<;>decide
  rw [a6 this]
 unfold Fr HV;rw[d,d,a6 (by omega),bs,g a j,g b o,bs,bs];congr 1;have y:∀c:Int,-10<=c->c<=10->Af c=c:=fun c r u=>Ao (by omega) (by omega)
 grind
def I4(a:Int):Int×Int:=if a<0 then(-1,a+18446744073709551616)else(0,a)
theorem XW(h:HH n x)(d:Nr l)(o:n<=l.length):EY x l=some ((I4 (Cn x l)).1,(I4 (Cn x l)).2,true):=by
 have r:=h.low;have u:=h.high;have w:=h.add;have g:=(Qn h d o).1;unfold EY;by_cases j:x.Var=-1
 .have e:Cn x l=x.Add:=by rw[g,a6 (by omega)]
  rw [e,a6 (by simpa using j),V4 (by omega) (by omega),bs,Int.zero_add];rfl
 .have:=d _ (AK (l:=l) (show 0<=x.Var by omega) (by omega));have e:Cn x l=AA l x.Var+x.Add:=by rw[g,ae (by omega)]
  rw [e,ae (by simpa using j),ae (by simp;omega),AD (by omega) (by omega),bs,V4 (by omega) (by omega),bs];rfl
theorem gf(a b:Int):HM a b=some (if a<b then -1 else if b<a then 1 else 0):=by
 unfold HM I6
 grind
theorem p5(a b:Int):HN a b=some (if a<b then -1 else if b<a then 1 else 0):=gf a b
theorem li(a b:Int):Lo [a,b]=some (if a=0 then b else a):=by
 unfold Lo;show fq (Aae _ 2 0 ()) _ _=_;rw[FN,show idx [a,b] 0=some a from rfl,bs]
 grind [fq,Aae,FN,idx]
theorem p_holds{x:Test}(g:HH n x.kl)(j:HH n x.em)(d:Nr l)(e:n<=l.length):FE x l=some (JX x l):=by
 have o:=(Qn g d e).2;have s2:=(Qn j d e).2;unfold FE JX;rw[XW g d e,XW j d e];simp only[bs,Bool.not_true,Bool.or_self,Bool.false_eq_true,if_false,gf,p5,li];generalize Cn x.kl l=a at o;generalize Cn x.em l=b at s2;have key:(if(if(I4 a).1<(I4 b).1 then(-1:Int)else if(I4 b).1<(I4 a).1 then 1 else 0)=0 then(if(I4 a).2<(I4 b).2 then(-1:Int)else if(I4 b).2<(I4 a).2 then 1 else 0)else(if(I4 a).1<(I4 b).1 then(-1:Int)else if(I4 b).1<(I4 a).1 then 1 else 0))=if a<b then -1 else if b<a then 1 else 0:=by
  grind [I4]
 rw [key];congr 2
 .grind
 grind
end Go.Sf.Sc
namespace Go.Sf.Sc
open Go Go.Sf
structure RD(t:AC)(q:ea):Prop where
 g:Di q.d4
 kind:∀n∈q.d4.ci,0<=n/\n<t.ci.length
 vars:0<=q.gt/\q.gt<=12
 few:q.ff.length<=10/\q.sr.length<=10
 slot:∀s∈q.ff,(0<=s.tl/\s.tl<q.d4.ci.length)/\(0<=s.kp/\s.kp<(Ay t (AA q.d4.ci s.tl)).length)/\HH q.gt s.j0
 test:∀x∈q.sr,(x.mo=1\/x.mo=2)/\HH q.gt x.kl/\HH q.gt x.em
 ge:Bt q.d4=0
 ty:Ci t q.d4=true
variable{n:Int}{x:j0}
theorem gN(h:MV n x=true):HH n x:=by
 unfold MV at h;simp only[pc,zzX]at h;exact⟨h.1.1.1,h.1.1.2,h.1.2,h.2⟩
theorem gO{l:List Test}(h:JE n l=0):∀x∈l,(x.mo=1\/x.mo=2)/\HH n x.kl/\HH n x.em:=by
 unfold JE at h;split at h
 .cases h
 split at h
 .cases h
 have g:=T7 h;intro x d;obtain⟨i,j,o,rfl⟩:=BW d;have:=g i j o;unfold NR at this;split at this
 .cases this
 split at this
 .rename_i r e;rw[pc]at e
  grind [gN]
 .cases this
theorem ar(n:Int)(l:List Test):JE n l≠9:=by
 unfold JE;split
 .decide
 split
 .decide
 intro h;cases d:fst (fun i=>nz (NR n (AA l i))) 0 l.length with
 |none=>rw[d]at h;cases h
 |some r=>
  grind [C5,nz,NR]
variable{t:AC}{q:ea}
theorem ex(hv:(Av t).2=0)(h:Gz t q=0\/Gz t q=9):RD t q:=by
 have y:=T9 q.d4;unfold Gz at h;rw[ae (by simp[hv])]at h;split at h
 .omega
 rename_i o;have g:=DB (Classical.not_not.1 o);split at h
 .omega
 rename_i e;split at h
 .omega
 rename_i A;split at h
 .omega
 rename_i B;split at h
 .omega
 rename_i C;split at h
 .grind[ar]
 rename_i w;refine⟨g,(Hz g (by simpa using e)).1,by omega,by omega,fun s z=>?_,gO (Classical.not_not.1 w),Classical.not_not.1 o,by simpa using e⟩;have j:QD t q s=false:=by
  grind
 unfold QD at j;simp only[Bool.or_eq_false_iff,Bool.not_eq_false',decide_eq_false_iff_not]at j;obtain⟨⟨⟨d,E⟩,F⟩,G,H⟩:=j;unfold QC at d;dsimp only at d;split at d
 .cases d
 rename_i D;have u:=(Hz g (by simpa using e)).1 _ (AK (l:=q.d4.ci) (show 0<=s.tl by omega) (by omega));rw[IV hv u.1 u.2]at d;split at d
 .cases d
 rename_i r;have r:¬(s.kp<0\/((Ay t (AA q.d4.ci s.tl)).length:Int)<=s.kp):=r;exact⟨by omega,by omega,by omega,by omega,by omega,by omega⟩
def LK(h:AG)(m:d5)(s:CT):Int:=AA (AA h.fd (AA m.ci s.tl)) s.kp
def NQ(h:AG)(m:d5)(s:CT)(st:Fp×a5):Fp×a5:=
 if 0<=s.j0.Var/\AA st.2 s.j0.Var=false then(BI st.1 s.j0.Var (Af (LK h m s-s.j0.Add)),BI st.2 s.j0.Var true)else st
def EO{ρ:Type}(r:ρ)(h:AG)(m:d5)(s:CT)(st:Fp×a5):Bk (Fp×a5) ρ:=
 if Cn s.j0 (NQ h m s st).1=LK h m s then .next (NQ h m s st)else .ret r
structure VI(n:Int)(st:Fp×a5):Prop where
 l1:(st.1.length:Int)=n
 l2:(st.2.length:Int)=n
 small:Nr st.1
structure IA(n:Int)(h:AG)(m:d5)(s:CT):Prop where
 node:0<=s.tl/\s.tl<m.ci.length
 val:0<=AA m.ci s.tl/\AA m.ci s.tl<h.fd.length
 AbG:0<=s.kp/\s.kp<(AA h.fd (AA m.ci s.tl)).length
 term:HH n s.j0
 has:-1000000<=LK h m s/\LK h m s<=1000000
variable{h:AG}{m:d5}{s:CT}
theorem OV(g:Fm t)(j:RD t q)(hh:H9 t h)(e:VA t q.d4 h.d4 m)(o:s∈q.ff):IA q.gt h m s:=by
 obtain ⟨u,w,y⟩:=j.slot s o;have z:=e.AaR;have d:=e.node s.tl u.1 (by omega);have A:=hh.row _ d.1.1 d.1.2;have r:=hh.kind _ d.1.1 d.1.2;have B:=Vc g r.2 d.2;have hv:=hh.len;refine⟨by omega,by omega,by omega,y,?_⟩;unfold LK;exact hh.low _ d.1.1 d.1.2 _ (AK w.1 (by omega))
theorem Ql{α:Type}(l:List α)(i:Int)(a:α):(BI l i a).length=l.length:=by unfold BI;rw[List.length_set]
variable{i:Int}
theorem fR{α:Type}{l:List α}{a x:α}(h:x∈BI l i a):x∈l\/x=a:=List.mem_or_eq_of_mem_set h
variable{st:Fp×a5}
theorem dB(e:IA n h m s)(hi:VI n st):VI n (NQ h m s st):=by
 have g:=e.has;have j:=e.term.add;unfold NQ;split
 .refine⟨by rw[Ql];exact hi.l1,by rw[Ql];exact hi.l2,fun x d=>?_⟩;rcases fR d with d|rfl
  .exact hi.small x d
  grind [Ao]
 .exact hi
def MT(q:ea)(h:AG)(m:d5):Fp×Int:=
 match Dm (EO (([],11):Fp×Int) h m) q.ff (List.replicate q.gt.toNat 0,List.replicate q.gt.toNat false)with
 |.inr r=>r|.inl st=>if og (fun i=>!JX (AA q.sr i) st.1) 0 q.sr.length=true then([],16)else(st.1,0)
theorem P5(d:0<=n):VI n (List.replicate n.toNat 0,List.replicate n.toNat false):=by
 refine ⟨by simp;omega,by simp;omega,fun x e=>?_⟩
 grind
variable{st':Fp×a5}
theorem Nq{ρ:Type}{r:ρ}(d:IA n h m s)(hi:VI n st)(e:EO r h m s st=.next st'):VI n st':=by grind[EO,dB]
theorem dE{ρ:Type}{r:ρ}:EO r h m s st≠.brk st':=by grind[EO]
theorem Mx{ρ:Type}{r:ρ}{l:List CT}(d:∀s∈l,IA n h m s)(hi:VI n st)(e:Dm (EO r h m) l st=.inl st'):VI n st':=
 Xx (EO r h m) (VI n) l st st' hi (fun a g _ _ j o=>Nq (d a g) j o) (fun _ _ _ _=>dE) e
theorem OM{ρ:Type}{r:ρ}(w:IA n h m s)(hi:VI n st){T:Fp×a5->Option (Bk (Fp×a5) ρ)}
  (j:∀st':Fp×a5,(st'.1.length:Int)=n->T st'=some (if Cn s.j0 st'.1=LK h m s then .next st' else .ret r)):
  ((if(decide (0<=s.j0.Var))=true then((idx st.2 s.j0.Var).bind fun o=>some (!o))else some false).bind fun u=>
   if u=true then(idx st.1 s.j0.Var).bind fun _=>(idx st.2 s.j0.Var).bind fun _=>T (BI st.1 s.j0.Var (Af (LK h m s-s.j0.Add)),BI st.2 s.j0.Var true)else T (st.1,st.2))=some (EO r h m s st):=by
 have y:=w.term.high;have l1:=hi.l1;have l2:=hi.l2;unfold EO;by_cases d:0<=s.j0.Var
 .rw[a6 (by simpa using d),AD d (by omega),bs,bs];by_cases g:AA st.2 s.j0.Var=false
  .rw[a6 (by simp[g]),AD d (by omega),bs,bs,j _ (by dsimp only;rw[Ql];exact l1)];have e:NQ h m s st=(BI st.1 s.j0.Var (Af (LK h m s-s.j0.Add)),BI st.2 s.j0.Var true):=by unfold NQ;rw[a6 ⟨d,g⟩]
   rw [e]
  .rw[ae (by simpa using g),j _ l1];have e:NQ h m s st=st:=by unfold NQ;rw[ae (fun e=>g e.2)]
   rw [e]
 .rw[ae (by simpa using d),bs,ae (by decide),j _ l1];have e:NQ h m s st=st:=by unfold NQ;rw[ae (fun e=>d e.1)]
  rw [e]
theorem Yb{ρ:Type}{r:ρ}(j:IA n h m s)(hi:VI n st){T:Fp×a5->Option (Bk (Fp×a5) ρ)}
  (o:∀st':Fp×a5,(st'.1.length:Int)=n->T st'=some (if Cn s.j0 st'.1=LK h m s then .next st' else .ret r)):
  ((if(decide (0<=s.j0.Var))=true then((idx st.2 s.j0.Var).bind fun d=>some (!d))else some false).bind fun e=>
   if e=true then(idx st.2 s.j0.Var).bind fun _=>(idx st.1 s.j0.Var).bind fun _=>T (BI st.1 s.j0.Var (Af (LK h m s-s.j0.Add)),BI st.2 s.j0.Var true)else T (st.1,st.2))=some (EO r h m s st):=by
 rw [<-OM j hi o];have u:=j.term.high;have l1:=hi.l1;have l2:=hi.l2;by_cases g:0<=s.j0.Var
 .rw[AD g (by omega),AD g (by omega)];rfl
 .rw[ae (by simpa using g)];rfl
variable{v:Int}
theorem Vy{t:j0}{f:j0->Fp->QQ}(hf:∀l:Fp,(l.length:Int)=n->f t l=some (Cn t l))(st':Fp×a5)(e:(st'.1.length:Int)=n):((f t st'.1).bind fun d=>if(!decide (d=v))=true then some (Bk.ret (([],11):Fp×Int))else some (.next st'))=some (if Cn t st'.1=v then .next st' else .ret ([],11)):=by grind
theorem je(u:RD t q)(w:∀s∈q.ff,IA q.gt h m s):HK q h m=some (MT q h m):=by
 have hv:=u.vars;unfold HK MT IZ;rw[a6 (by omega),bs,a6 (by omega),bs];rw[O8 (EO (([],11):Fp×Int) h m) (VI q.gt) (P5 hv.1)]
 .cases z:Dm (EO (([],11):Fp×Int) h m) q.ff (List.replicate q.gt.toNat 0,List.replicate q.gt.toNat false)with
  |inr r=>rfl|inl st=>
   have hi:=Mx w (P5 hv.1) z;rw[Bi,BM (fun i=>!JX (AA q.sr i) st.1) ([],16)]
   .dsimp only;cases og (fun i=>!JX (AA q.sr i) st.1) 0 q.sr.length<;>rfl
   .intro i g j _;have y:=u.test _ (AK g j);rw[AD g j,bs,p_holds y.2.1 y.2.2 hi.small (by have:=hi.l1;omega),bs]
    grind
 .intro i st g j hi;have d:=w _ (AK g j);refine⟨?_,fun s' e=>Nq d hi e⟩;rw[AD g j,bs,AD d.node.1 d.node.2,bs,AD d.val.1 d.val.2,bs,AD d.AbG.1 d.AbG.2,bs];exact OM d hi (T:=fun st'=>(Dx (AA q.ff i).j0 st'.1).bind fun o=>if(!decide (o=LK h m (AA q.ff i)))=true then some (Bk.ret (([],11):Fp×Int))else some (.next st')) (Vy fun l A=>R7 (by have:=d.term.high;omega))
theorem jw(u:RD t q)(w:∀s∈q.ff,IA q.gt h m s):Jy q h m=some (MT q h m):=by
 have hv:=u.vars;unfold Jy MT IZ;rw[a6 (by omega),bs,a6 (by omega),bs];rw[O8 (EO (([],11):Fp×Int) h m) (VI q.gt) (P5 hv.1)]
 .cases z:Dm (EO (([],11):Fp×Int) h m) q.ff (List.replicate q.gt.toNat 0,List.replicate q.gt.toNat false)with
  |inr r=>rfl|inl st=>
   have hi:=Mx w (P5 hv.1) z;rw[Bi,BM (fun i=>!JX (AA q.sr i) st.1) ([],16)]
   .dsimp only;cases og (fun i=>!JX (AA q.sr i) st.1) 0 q.sr.length<;>rfl
   .intro i g j _;have y:=u.test _ (AK g j);rw[AD g j,bs,r_holds y.2.1 y.2.2 (by have:=hi.l1;omega),bs]
    grind
 .intro i st g j hi;have d:=w _ (AK g j);refine⟨?_,fun s' e=>Nq d hi e⟩;rw[AD g j,bs,AD d.node.1 d.node.2,bs,AD d.val.1 d.val.2,bs,AD d.AbG.1 d.AbG.2,bs];exact Yb d hi (T:=fun st'=>(Hx (AA q.ff i).j0 st'.1).bind fun o=>if(!decide (o=LK h m (AA q.ff i)))=true then some (Bk.ret (([],11):Fp×Int))else some (.next st')) (Vy fun l A=>Vr (by have:=d.term.high;omega))
def PJ(t:AC)(p:ea)(h:AG):Int:=if Gz t p≠0 then Gz t p else(GG t h).2
theorem b9(hf:As t)(p:ea)(h:AG):Dw t p h=some (PJ t p h):=by
 unfold Dw PJ;rw[UR hf,bs];refine DC fun _=>?_;rw[R6 hf];rfl
theorem cP(hf:As t)(p:ea)(h:AG):Kq t p h=some (PJ t p h):=by
 unfold Kq PJ;rw[WV hf,bs];refine DC fun _=>?_;rw[SB hf];rfl
def E9(t:AC)(p:ea)(h:AG)(m:d5):Fp×Int:=
 if PJ t p h≠0 then([],PJ t p h)else if F4 t p.d4 h.d4 m false≠0 then([],F4 t p.d4 h.d4 m false)else MT p h m
variable{p:ea}{inj:Bool}
theorem S5(hf:As t)(d:PJ t p h=0)(e:F4 t p.d4 h.d4 m inj=0):(Av t).2=0/\RD t p/\H9 t h/\VA t p.d4 h.d4 m:=by
 unfold PJ at d;split at d
 .grind
 rename_i g;obtain⟨hv,hh⟩:=OR hf d;exact⟨hv,ex hv (.inl (Classical.not_not.1 g)),hh,(Wo e).2⟩
theorem Y8(hf:As t)(p:ea)(h:AG)(m:d5):DJ t p h m=some (E9 t p h m):=by
 unfold DJ E9;rw[b9 hf,bs];refine Ef fun e=>?_;rw[Uz hf,bs];refine Ef fun g=>?_;obtain⟨hv,d,hh,o⟩:=S5 hf e g;rw[je d (fun s j=>OV (DU hv) d hh o j)];rfl
theorem ji(hf:As t)(p:ea)(h:AG)(m:d5):Ko t p h m=some (E9 t p h m):=by
 unfold Ko E9;rw[cP hf,bs];refine Ef fun e=>?_;rw[U4 hf,bs];refine Ef fun g=>?_;obtain⟨hv,d,hh,o⟩:=S5 hf e g;rw[jw d (fun s j=>OV (DU hv) d hh o j)];rfl
theorem dF(g:RD t q)(j:∀s∈q.ff,IA q.gt h m s)(e:(MT q h m).2=0):((MT q h m).1.length:Int)=q.gt/\Nr (MT q h m).1:=by
 unfold MT at e|-;cases d:Dm (EO (([],11):Fp×Int) h m) q.ff (List.replicate q.gt.toNat 0,List.replicate q.gt.toNat false)with
 |inr r=>
  rw [d]at e;have:∀(l:List CT)(st:Fp×a5)(r:Fp×Int),Dm (EO (([],11):Fp×Int) h m) l st=.inr r->r=([],11):=by
   intro l
   induction l with
   |nil=>intro st r h;cases h
   |cons a l u=>
    grind [Dm,EO]
  grind
 |inl st=>
  rw [d]at e;have hi:=Mx j (P5 g.vars.1) d;dsimp only at e|-;split at e
  .cases e
  .rename_i o;rw[ae o];exact⟨hi.l1,hi.small⟩
end Go.Sf.Sc
namespace Go.Sf.Sc
open Go Go.Sf
variable{i:Int}
theorem If{n:Nat}{α:Type}[Inhabited α](F:Int->α)(d:0<=i)(v:α):BI ((Ax n).map F) i v=(Ax n).map fun j=>if j=i then v else F j:=by
 unfold BI;refine List.ext_getElem (by simp) (fun k e g=>?_)
 grind [BG,Ax]
theorem Cs{n:Nat}{α:Type}{F G:Int->α}(h:∀j,0<=j->j<(n:Int)->F j=G j):(Ax n).map F=(Ax n).map G:=by grind[List.map_congr_left,FL]
def GA(n:Nat)(k:Int):a5:=(Ax n).map fun j=>decide (j<k)
theorem UF(n:Nat):GA n 0=List.replicate n false:=by
 unfold GA;refine List.ext_getElem (by simp[BG]) (fun k d e=>?_)
 grind [Ax,BG]
theorem Vd(n:Nat)(k:Int):(GA n k).length=n:=by unfold GA;rw[c8,BG]
def LG(q:ea)(h:AG)(m:d5)(given:Fp):Fp×Bool:=
 match Dm (EO (([],false):Fp×Bool) h m) q.ff (given++List.replicate (q.gt-given.length).toNat 0,GA q.gt.toNat given.length)with
 |.inr r=>r|.inl st=>if og (fun i=>!JX (AA q.sr i) st.1) 0 q.sr.length=true then([],false)else(st.1,true)
variable{n:Int}{given:Fp}
theorem Tb(e:0<=n)(g:given.length<=n)(hv:Nr given):VI n (given++List.replicate (n-given.length).toNat 0,GA n.toNat given.length):=by
 refine ⟨by simp;omega,by show((GA n.toNat given.length).length:Int)=n;rw[Vd];omega,fun x d=>?_⟩;rcases List.mem_append.1 d with d|d
 .exact hv x d
 grind
variable{q:ea}{m:d5}{t:AC}
theorem mb{s:Al}(w:RD t q)(y:∀x∈q.ff,IA q.gt s.h m x)(B:given.length<=q.gt)(hv:Nr given):DV s q m given=some (LG q s.h m given):=by
 have D:=w.vars;unfold DV LG slices_Clone_int;rw[BD (by unfold Ad;omega),bs,Ao (by omega) (by omega)];have E:S7 given (q.gt-given.length) 0=some (given++List.replicate (q.gt-given.length).toNat 0):=by
  grind [S7,Ad]
 have F:IZ q.gt false=some (List.replicate q.gt.toNat false):=by
  grind [IZ]
 rw [E,bs,F,bs];have G:sx (fun(d:Int)(z:a5)=>(idx z d).bind fun C=>some (BI z d true)) 0 (given.length:Int) (List.replicate q.gt.toNat false)=some (GA q.gt.toNat given.length):=by
  refine B1 (fun i=>GA q.gt.toNat i) (by omega) (UF _) (fun i d j=>?_);rw[AD d (by rw[Vd];omega),bs];congr 1;unfold GA;rw[If _ d]
  grind
 rw [G,bs];have u:=Tb D.1 B hv;rw[O8 (EO (([],false):Fp×Bool) s.h m) (VI q.gt) u]
 .cases H:Dm (EO (([],false):Fp×Bool) s.h m) q.ff (given++List.replicate (q.gt-given.length).toNat 0,GA q.gt.toNat given.length)with
  |inr r=>rfl|inl st=>
   have hi:=Mx y u H;rw[Bi,BM (fun i=>!JX (AA q.sr i) st.1) ([],false)]
   .dsimp only;cases og (fun i=>!JX (AA q.sr i) st.1) 0 q.sr.length<;>rfl
   .intro i d j _;have A:=w.test _ (AK d j);rw[AD d j,bs,p_holds A.2.1 A.2.2 hi.small (by have:=hi.l1;omega),bs]
    grind
 .intro i st d j hi;have g:=y _ (AK d j);refine⟨?_,fun s' e=>Nq g hi e⟩;rw[AD d j,bs,AD g.node.1 g.node.2,bs,AD g.val.1 g.val.2,bs,AD g.AbG.1 g.AbG.2,bs];refine OM g hi (T:=fun st'=>(EU (AA q.ff i).j0 st'.1).bind fun o=>if((!decide (o.2=0))||(!decide (o.1=LK s.h m (AA q.ff i))))=true then some (Bk.ret (([],false):Fp×Bool))else some (.next st')) (fun st' I=>?_);rw[XT g.term.low (by have:=g.term.high;omega) (by omega),bs]
  grind
variable{h:AG}
theorem nG(C:RD t q)(D:∀x∈q.ff,IA q.gt h m x)(I:given.length<=q.gt)(hv:Nr given):J0 q h m given=some (LG q h m given):=by
 have G:=C.vars;unfold J0 LG;have L:IZ q.gt false=some (List.replicate q.gt.toNat false):=by
  unfold IZ;rw[a6 (by omega)]
 rw [BD (by unfold Ad;omega),bs,L,bs];have H:sx (fun(d:Int)(u:Fp×a5)=>
   (idx u.2 d).bind fun J=>
   if (decide ((given.length:Int)<=d))=true then
   (Ag u.1 [0]).bind fun A=>
   some (A,BI u.2 d (decide (d<(given.length:Int))))
   else
   some (u.1,BI u.2 d (decide (d<(given.length:Int))))) 0 q.gt (given,List.replicate q.gt.toNat false)=some (given++List.replicate (q.gt-given.length).toNat 0,(Ax q.gt.toNat).map fun j=>decide (j<q.gt)&&decide (j<(given.length:Int))):=by
  refine B1 (fun i=>(given++List.replicate (i-given.length).toNat 0,(Ax q.gt.toNat).map fun j=>decide (j<i)&&decide (j<(given.length:Int)))) G.1 ?_ (fun i d o=>?_)
  .have M:((0:Int)-given.length).toNat=0:=by omega
   rw [M];simp only[List.replicate_zero,List.append_nil,Prod.mk.injEq,true_and];rw[<-UF];unfold GA;refine Cs (fun j E F=>?_);rw[show decide (j<0)=false by simp;omega];rfl
  .dsimp only;rw[AD d (by rw[c8,BG];omega),bs];have N:BI ((Ax q.gt.toNat).map fun j=>decide (j<i)&&decide (j<(given.length:Int))) i (decide (i<(given.length:Int)))=(Ax q.gt.toNat).map fun j=>decide (j<i+1)&&decide (j<(given.length:Int)):=by
    rw [If _ d];refine Cs (fun j E F=>?_);by_cases e:j=i
    .rw[a6 e,e,show decide (i<i+1)=true by simp;omega,Bool.true_and]
    .rw[ae e];congr 1;rw[decide_eq_decide];omega
   rw [N];by_cases hi:(given.length:Int)<=i
   .rw[a6 (by simpa using hi),Ai (by simp;unfold Ad;omega),bs];congr 2;rw[ca,show(i+1-given.length).toNat=(i-given.length).toNat+1 by omega,List.replicate_succ']
   .rw[ae (by simpa using hi)];have O:(i+1-given.length).toNat=(i-given.length).toNat:=by omega
    rw [O]
 have B:((Ax q.gt.toNat).map fun j=>decide (j<q.gt)&&decide (j<(given.length:Int)))=GA q.gt.toNat given.length:=by
  unfold GA;refine Cs (fun j E F=>?_);rw[show decide (j<q.gt)=true by simp;omega,Bool.true_and]
 rw [B]at H;rw[H,bs];have y:=Tb G.1 I hv;dsimp only;rw[O8 (EO (([],false):Fp×Bool) h m) (VI q.gt) y]
 .cases P:Dm (EO (([],false):Fp×Bool) h m) q.ff (given++List.replicate (q.gt-given.length).toNat 0,GA q.gt.toNat given.length)with
  |inr r=>rfl|inl st=>
   have hi:=Mx D y P;rw[Bi,BM (fun i=>!JX (AA q.sr i) st.1) ([],false)]
   .dsimp only;cases og (fun i=>!JX (AA q.sr i) st.1) 0 q.sr.length<;>rfl
   .intro i d o _;have z:=C.test _ (AK d o);have K:=hi.l1;rw[AD d o,bs,Mu z.2.1.low (by have:=z.2.1.high;omega),bs,Mu z.2.2.low (by have:=z.2.2.high;omega),bs,<-Hq];unfold JX;dsimp only;congr 1;generalize Cn (AA q.sr i).kl st.1=a;generalize Cn (AA q.sr i).em st.1=b;rcases z.1 with e|e
    .rw[e,eq_iff_iff];simp
    .rw[e,eq_iff_iff];simp
 .intro i st d o hi;have g:=D _ (AK d o);refine⟨?_,fun s' e=>Nq g hi e⟩;rw[AD d o,bs,AD g.node.1 g.node.2,bs,AD g.val.1 g.val.2,bs,AD g.AbG.1 g.AbG.2,bs];refine OM g hi (T:=fun st'=>(EM (AA q.ff i).j0 st'.1).bind fun w=>if(!decide (w.1=LK h m (AA q.ff i)))=true then some (Bk.ret (([],false):Fp×Bool))else some (.next st')) (fun st' K=>?_);rw[Mu g.term.low (by have:=g.term.high;omega),bs];by_cases e:Cn (AA q.ff i).j0 st'.1=LK h m (AA q.ff i)
  .rw[ae (by simp[e]),a6 e]
  .rw[a6 (by simp[e]),ae e]
theorem gR(j:RD t q)(o:∀s∈q.ff,IA q.gt h m s)(u:given.length<=q.gt)(hv:Nr given)(e:(LG q h m given).2=true):((LG q h m given).1.length:Int)=q.gt/\Nr (LG q h m given).1:=by
 unfold LG at e|-;have d:=Tb j.vars.1 u hv;cases g:Dm (EO (([],false):Fp×Bool) h m) q.ff (given++List.replicate (q.gt-given.length).toNat 0,GA q.gt.toNat given.length)with
 |inr r=>
  rw [g]at e;have:∀(l:List CT)(st:Fp×a5)(r:Fp×Bool),Dm (EO (([],false):Fp×Bool) h m) l st=.inr r->r=([],false):=by
   intro l
   induction l with
   |nil=>intro st r h;cases h
   |cons a l y=>
    grind [Dm,EO]
  grind
 |inl st=>
  rw [g]at e;have hi:=Mx o d g;dsimp only at e|-;split at e
  .cases e
  .rename_i w;rw[ae w];exact⟨hi.l1,hi.small⟩
def R8(n:Nat)(by' images:Fp):Fp:=(Ax by'.length).foldl (fun l i=>BI l (AA by' i) (AA images i)) (List.replicate n (-1))
theorem VR(d images:Fp):∀(e:Fp)(l:Fp),(e.foldl (fun l i=>BI l (AA d i) (AA images i)) l).length=l.length
 |[],l=>rfl|k::e,l=>by rw[List.foldl_cons,VR d images e,Ql]
theorem UV{n:Nat}{d images:Fp}(y:∀x∈d,0<=x/\x<n)(z:d.length<=images.length):sx (fun(g:Int)(o:Fp)=>
  (idx d g).bind fun e=>
  (idx images g).bind fun j=>
  (idx o e).bind fun r=>
  some (BI o e j)) 0 (d.length:Int) (List.replicate n (-1))=some (R8 n d images):=by
 have h:=B1 (f:=fun(g:Int)(o:Fp)=>
  (idx d g).bind fun e=>
  (idx images g).bind fun j=>
  (idx o e).bind fun r=>
  some (BI o e j)) (fun i=>(Ax i.toNat).foldl (fun l i=>BI l (AA d i) (AA images i)) (List.replicate n (-1))) (a:=0) (b:=d.length) (s:=List.replicate n (-1)) (by omega) rfl (fun i g u=>by
   have w:=y _ (AK g u);rw[AD g u,bs,AD g (by omega),bs,AD w.1 (by rw[VR];simpa using w.2),bs,FV g,List.foldl_append];rfl)
 rw [h,Int.toNat_natCast];rfl
theorem Xa{n:Nat}{d images:Fp}(j:n<=1000)(e:∀x∈d,0<=x/\x<n)(g:d.length<=images.length):FC n d images=some (R8 n d images):=by
 unfold FC Du;rw[a6 ⟨rfl,by omega,by omega⟩,bs];show(sx _ 0 _ (List.replicate (n:Int).toNat (-1))).bind _=_;rw[Int.toNat_natCast,UV e g];rfl
theorem Xj{n:Nat}{d images:Fp}(j:n<=1000)(e:∀x∈d,0<=x/\x<n)(g:d.length<=images.length):IR n d images=some (R8 n d images):=by
 unfold IR;rw[B1 (a:=0) (b:=n) (s:=[]) (fun i=>List.replicate i.toNat (-1)) (by omega) rfl,bs,Int.toNat_natCast,UV e g]
 .rfl
 .intro i o r;rw[Ai (by simp;unfold Ad;omega),bs,show(i+1).toNat=i.toNat+1 by omega,List.replicate_succ']
end Go.Sf.Sc
namespace Go.Sf.Sc
open Go Go.Sf
structure gV(f:AH):Prop where
 nl:f.ec.length<=f.p.ci.length
 node:∀i:Int,0<=i->i<f.ec.length->(0<=AA f.ec i/\AA f.ec i<f.g.ci.length)/\AA (AA f.is (AA f.p.ci i)) (AA f.g.ci (AA f.ec i))=true
 edge:∀i:Int,0<=i->i<f.ek.length->(0<=AA f.ek i/\AA f.ek i<f.g.d3.length)/\AA f.g.d3 (AA f.ek i)=⟨(AA f.p.d3 i).ne,AA f.ec (AA f.p.d3 i).ns,AA f.ec (AA f.p.d3 i).To⟩
 inj:f.ei=true->f.ec.Nodup/\f.ek.Nodup
structure Zg(f:AH)(m:d5):Prop where
 nl:m.ci.length=f.p.ci.length
 el:m.d3.length=f.p.d3.length
 node:∀i:Int,0<=i->i<m.ci.length->(0<=AA m.ci i/\AA m.ci i<f.g.ci.length)/\AA (AA f.is (AA f.p.ci i)) (AA f.g.ci (AA m.ci i))=true
 edge:∀i:Int,0<=i->i<m.d3.length->(0<=AA m.d3 i/\AA m.d3 i<f.g.d3.length)/\AA f.g.d3 (AA m.d3 i)=⟨(AA f.p.d3 i).ne,AA m.ci (AA f.p.d3 i).ns,AA m.ci (AA f.p.d3 i).To⟩
 inj:f.ei=true->m.ci.Nodup/\m.d3.Nodup
variable{i:Int}
theorem Yj{α:Type}[Inhabited α](l:List α)(x:α)(h:i=l.length):AA (l++[x]) i=x:=by grind[O2]
variable{l:Fp}{k:Int}
theorem UL{b:Bool}(h:(!(b&&l.any fun x=>decide (k=x)))=true)(d:b=true)(e:l.Nodup):(l++[k]).Nodup:=by grind
theorem VB:∀(n:Nat)(f:AH),gV f->f.ec.length=f.p.ci.length->f.ek.length+n=f.p.d3.length->∀m∈D6 n f,Zg f m
 |0,f,j,z,he,m,d=>by
  rw [D6,List.mem_singleton]at d;subst d;exact⟨z,by simpa using he,j.node,j.edge,j.inj⟩
 |n+1,f,j,z,he,m,d=>by
  rw [D6,List.mem_flatMap]at d;obtain⟨k,w,d⟩:=d;have w:=FL.1 w;split at d
  .rename_i o;unfold RI at o;rw[pc]at o;obtain⟨r,y⟩:=o;rw[TY,pc,zzX]at r;have:=VB n {f with ek:=f.ek++[k]} ⟨j.nl,j.node,fun i A u=>by
    have u:i<((f.ek++[k]).length:Int):=u;simp only[bk,List.length_singleton]at u;show(0<=AA (f.ek++[k]) i/\AA (f.ek++[k]) i<f.g.d3.length)/\AA f.g.d3 (AA (f.ek++[k]) i)=⟨(AA f.p.d3 i).ne,AA f.ec (AA f.p.d3 i).ns,AA f.ec (AA f.p.d3 i).To⟩;by_cases e:i=f.ek.length
    .rw[Yj _ _ e];exact⟨w,by rw[e];exact r.2⟩
    .rw[Wh _ _ A (by omega)];exact j.edge i A (by omega),fun hi=>⟨(j.inj hi).1,UL y hi (j.inj hi).2⟩⟩ z (by show(f.ek++[k]).length+n=f.p.d3.length;rw[bk,List.length_singleton];omega) m d
   exact ⟨this.nl,this.el,this.node,this.edge,this.inj⟩
  .cases d
theorem VC:∀(n:Nat)(f:AH),gV f->f.ek=[]->f.ec.length+n=f.p.ci.length->∀m∈F2 n f,Zg f m
 |0,f,r,he,A,m,o=>by
  grind [F2,VB]
 |n+1,f,r,he,A,m,o=>by
  rw [F2,List.mem_flatMap]at o;obtain⟨k,w,o⟩:=o;have w:=FL.1 w;split at o
  .rename_i j;unfold RJ at j;rw[pc,pc]at j;obtain⟨⟨_,y⟩,z⟩:=j;have:=VC n {f with ec:=f.ec++[k]} ⟨by show(f.ec++[k]).length<=f.p.ci.length;rw[bk,List.length_singleton];omega,fun i u d=>by
    have d:i<((f.ec++[k]).length:Int):=d;simp only[bk,List.length_singleton]at d;show(0<=AA (f.ec++[k]) i/\AA (f.ec++[k]) i<f.g.ci.length)/\AA (AA f.is (AA f.p.ci i)) (AA f.g.ci (AA (f.ec++[k]) i))=true;by_cases e:i=f.ec.length
    .rw[Yj _ _ e];exact⟨w,by rw[e];exact y⟩
    .rw[Wh _ _ u (by omega)];exact r.node i u (by omega),fun i u d=>by
    have d:i<(f.ek.length:Int):=d;rw[he]at d;have:i<(0:Nat):=d;omega,fun hi=>⟨UL z hi (r.inj hi).1,(r.inj hi).2⟩⟩ he (by show(f.ec++[k]).length+n=f.p.ci.length;rw[bk,List.length_singleton];omega) m o
   exact ⟨this.nl,this.el,this.node,this.edge,this.inj⟩
  .cases o
variable{t:AC}{pa:d5}{inj:Bool}{m:d5}
theorem Zx{p g:d4}(e:m∈NX t p g pa inj):Zg (FF t p g pa inj) m:=
 VC _ (FF t p g pa inj) ⟨Nat.zero_le _,fun i j d=>by have d:i<(0:Nat):=d;omega,fun i j d=>by have d:i<(0:Nat):=d;omega,fun _=>⟨List.nodup_nil,List.nodup_nil⟩⟩ rfl (by show 0+p.ci.length=p.ci.length;omega) m (List.mem_of_mem_take e)
theorem eJ{p g:d4}(h:FW t p g=0)(u:m∈NX t p g pa inj):VA t p g m:=by
 obtain ⟨hv,A,B,tp,w⟩:=Mj h;have:=Zx u;refine⟨this.nl,this.el,fun i d e=>?_,fun i d e=>(this.edge i d e).1⟩;obtain⟨j,r⟩:=this.node i d e;refine⟨j,?_⟩;have o:=this.nl;have y:=tp _ (AK (l:=p.ci) d (by show i<(p.ci.length:Int);have o:m.ci.length=p.ci.length:=o;omega));have z:=w _ (AK (l:=g.ci) j.1 j.2);have r:AA (AA (I0 t) (AA p.ci i)) (AA g.ci (AA m.ci i))=true:=r
 grind [AA,I0,MQ,IT,IX]
theorem Wu{p g:d4}(h:(QK t p g pa inj).2=0):(QK t p g pa inj).1.length<=5000/\∀m∈(QK t p g pa inj).1,VA t p g m:=by grind[QK,eJ]
structure Td(t:AC)(p:ea)(h:AG)(x:AL):Prop where
 q:RD t p
 m:VA t p.d4 h.d4 x.d5
 len:(x.gt.length:Int)=p.gt
 small:Nr x.gt
structure bB(t:AC)(p:ea)(c:d6):Prop where
 q:RD t c.ea
 vars:p.gt<=c.ea.gt
 map:WG p.d4 c.ea.d4 c.Map
 inj:Jp c.Map=true
def DK(t:AC)(c:d6)(h:AG)(m:AL)(inj:Bool):List AL×Int:=
 let x:=QK t c.ea.d4 h.d4 ⟨R8 c.ea.d4.ci.length c.Map.ci m.d5.ci,R8 c.ea.d4.d3.length c.Map.d3 m.d5.d3⟩ inj
 if x.2≠0 then([],x.2)else((x.1.filter fun y=>(LG c.ea h y m.gt).2).map fun y=>⟨y,(LG c.ea h y m.gt).1⟩,0)
instance:Inhabited d5:=⟨⟨[],[]⟩⟩
instance:Inhabited AL:=⟨⟨default,[]⟩⟩
instance:Inhabited A0:=⟨⟨0,default,[]⟩⟩
theorem Sr{x:List d5}{F:d5->Fp×Bool}{f:Int->List AL->Option (List AL)}(o:x.length<=5000)
  (hf:∀(i:Int)(s:List AL),0<=i->i<x.length->s.length<=5000->f i s=some (if(F (AA x i)).2=true then s++[⟨AA x i,(F (AA x i)).1⟩]else s)):
  sx f 0 (x.length:Int) []=some ((x.filter fun y=>(F y).2).map fun y=>⟨y,(F y).1⟩):=by
 rw [B1 (a:=0) (b:=x.length) (s:=[]) (fun i=>((x.take i.toNat).filter fun y=>(F y).2).map fun y=>(⟨y,(F y).1⟩:AL)) (by omega) rfl,Int.toNat_natCast,List.take_length];intro i d e;have g:(((x.take i.toNat).filter fun y=>(F y).2).map fun y=>(⟨y,(F y).1⟩:AL)).length<=5000:=by
  grind
 rw [hf i _ d e g,Ch d e,List.filter_append,List.map_append];cases j:(F (AA x i)).2<;>simp[j]
variable{p:ea}{c:d6}
theorem mL{s:Al}{m:AL}(hf:As s.t)(hv:(Av s.t).2=0)(hh:H9 s.t s.h)(o:Td s.t p s.h m)(hi:bB s.t p c):Bm s c m=some (DK s.t c s.h m s.ei):=by
 have C:=hi.q.g.ec;have ge:=hi.q.g.ek;have m1:=hi.map.AaR;have D:=hi.map.Abg;have E:=o.m.AaR;have G:=o.m.Abg;unfold Bm DK;rw[Xa (by omega) (fun x j=>by obtain⟨i,d,e,rfl⟩:=BW j;exact(hi.map.node i d e).1) (by omega),bs,
  Xa (by omega) (fun x j=>by obtain⟨i,d,e,rfl⟩:=BW j;exact(hi.map.edge i d e).1) (by omega),bs,ef hf,bs]
 dsimp only;refine Ef fun r=>?_;obtain⟨z,A⟩:=Wu r;rw[Sr (F:=fun y=>LG c.ea s.h y m.gt) z]
 .rfl
 .intro i st d e B;have u:=A _ (AK d e);have w:(m.gt.length:Int)<=c.ea.gt:=by have:=o.len;have:=hi.vars;omega
  rw [AD d e,bs,mb hi.q (fun x j=>OV (DU hv) hi.q hh u j) w o.small,bs,<-Hq]
  grind [Ai,Ad]
variable{h:AG}
theorem ml{m:AL}(hf:As t)(hv:(Av t).2=0)(hh:H9 t h)(o:Td t p h m)(hi:bB t p c):Gl t c h m inj=some (DK t c h m inj):=by
 have C:=hi.q.g.ec;have ge:=hi.q.g.ek;have m1:=hi.map.AaR;have D:=hi.map.Abg;have E:=o.m.AaR;have G:=o.m.Abg;unfold Gl DK;rw[Xj (by omega) (fun x j=>by obtain⟨i,d,e,rfl⟩:=BW j;exact(hi.map.node i d e).1) (by omega),bs,
  Xj (by omega) (fun x j=>by obtain⟨i,d,e,rfl⟩:=BW j;exact(hi.map.edge i d e).1) (by omega),bs,ey hf,bs]
 dsimp only;refine Ef fun r=>?_;obtain⟨z,A⟩:=Wu r;rw[Sr (F:=fun y=>LG c.ea h y m.gt) z]
 .rfl
 .intro i st d e B;have u:=A _ (AK d e);have w:(m.gt.length:Int)<=c.ea.gt:=by have:=o.len;have:=hi.vars;omega
  rw [AD d e,bs,nG hi.q (fun x j=>OV (DU hv) hi.q hh u j) w o.small,bs,<-Hq]
  grind [Ai,Ad]
theorem Yu{m:AL}(hv:(Av t).2=0)(hh:H9 t h)(j:Td t p h m)(hi:bB t p c)(e:(DK t c h m inj).2=0):(DK t c h m inj).1.length<=5000/\∀x∈(DK t c h m inj).1,Td t c.ea h x:=by
 unfold DK at e|-;dsimp only at e|-;split at e
 .grind
 rename_i o;rw[ae o];obtain⟨w,z⟩:=Wu (Classical.not_not.1 o);refine⟨by dsimp only;rw[c8];exact Nat.le_trans (List.length_filter_le _ _) w,fun x d=>?_⟩;dsimp only at d;rw[List.mem_map]at d;obtain⟨y,g,rfl⟩:=d;rw[List.mem_filter]at g;have r:=z y g.1;have u:(m.gt.length:Int)<=c.ea.gt:=by have:=j.len;have:=hi.vars;omega
 have:=gR hi.q (fun x d=>OV (DU hv) hi.q hh r d) u j.small g.2;exact⟨hi.q,r,this.1,this.2⟩
end Go.Sf.Sc
namespace Go.Sf.Sc
open Go Go.Sf
inductive CV(t:AC):ea->d6->Prop where
 |mk (p:ea) (c:d6) (few:c.gn.length<=40) (rng:1<=c.mo/\c.mo<=5) (one:c.mo=2\/c.mo=5->c.gn.length=1) (ins:c.mo=5->bB t p c) (kids:∀k∈c.gn,CV t (if c.mo=5 then c.ea else p) k):CV t p c
variable{t:AC}{p:ea}{c:d6}
theorem CV.few(h:CV t p c):c.gn.length<=40:=by cases h;assumption
theorem CV.rng(h:CV t p c):1<=c.mo/\c.mo<=5:=by cases h;assumption
theorem CV.one(h:CV t p c):c.mo=2\/c.mo=5->c.gn.length=1:=by cases h;assumption
theorem CV.ins(h:CV t p c):c.mo=5->bB t p c:=by cases h;assumption
theorem CV.kids(h:CV t p c):∀k∈c.gn,CV t (if c.mo=5 then c.ea else p) k:=by cases h;assumption
theorem CV.kid(h:CV t p c)(d:¬c.mo=5):∀k∈c.gn,CV t p k:=fun k e=>by have:=h.kids k e;rwa[ae d]at this
theorem CV.kid5(h:CV t p c)(d:c.mo=5):∀k∈c.gn,CV t c.ea k:=fun k e=>by have:=h.kids k e;rwa[a6 d]at this
theorem Rf:∀l:List d6,l.length<=PX l
 |[]=>by simp|c::l=>by
  have:=Rf l
  grind [PX,EP,Rg,c7]
variable{q:ea}{v:Int}
theorem qA(hv:(Av t).2=0)(h:Ru t q v=0):RD t q:=by grind[Ru,ex]
theorem gh(hv:(Av t).2=0):∀(N:Nat)(c:d6)(p:ea),SizeOf.sizeOf c<=N->EP c<=40->P7 N c=true->Jf N t p c=0->CV t p c
 |0,c,_,h,_,_,_=>by have:=D3 c;omega|N+1,c,p,h,M,z,ho=>by
  have E:=Rg c;have F:=Rf c.gn;rw[P7,pc]at z;obtain⟨u,o⟩:=z;have d:c.mo=2\/c.mo=5->c.gn.length=1:=by
   intro j;unfold QT at u
   grind
  have g:1<=c.mo/\c.mo<=5:=by
   grind [QT]
  have w:∀q,(fst (fun i=>nz (Jf N t q (AA c.gn i))) 0 c.gn.length).getD 0=0->∀k∈c.gn,CV t q k:=by
   intro q A k j;have G:=T7 A;have K:=TB j;have L:=Ey j;rw[List.all_eq_true]at o;obtain⟨i,H,I,e⟩:=BW j;have y:=G i H I;rw[e]at y;exact gh hv N k q (by omega) (by omega) (o k j) y
  rw [Jf]at ho;by_cases r:c.mo=5
  .rw[a6 r]at ho;split at ho
   .cases ho
   rename_i J;split at ho
   .grind
   rename_i B;split at ho
   .grind
   rename_i C;split at ho
   .cases ho
   rename_i D;refine CV.mk p c (by omega) g d (fun _=>⟨qA hv (Classical.not_not.1 B),by omega,SX (Classical.not_not.1 C),by simpa using D⟩) ?_
   grind
  .rw[ae r]at ho;refine CV.mk p c (by omega) g d (fun e=>absurd e r) ?_
   grind
section
variable{α σ ρ:Type}
variable{f:Int->σ->Option (Bk σ ρ)}
theorem RG[Inhabited α]{l:List α}(step:α->σ->Bk σ ρ)(I:Int->σ->Prop)(h:∀(i:Int)s,0<=i->i<l.length->I i s->f i s=some (step (AA l i) s)/\∀s',step (AA l i) s=.next s'->I (i+1) s'):
  ∀(n:Nat)(a:Int)(s:σ),0<=a->a+n=l.length->I a s->Aae f n a s=some (Dm step (l.drop a.toNat) s)
 |0,a,s,d,o,_=>by
  rw [List.drop_eq_nil_of_le (by omega)];rfl
 |n+1,a,s,d,o,u=>by
  obtain ⟨g,j⟩:=h a s d (by omega) u;have hd:l.drop a.toNat=AA l a::l.drop (a+1).toNat:=by
   grind [List.drop_eq_getElem_cons,AA,List.getElem?_eq_getElem]
  rw [FN,g,hd,Dm];cases e:step (AA l a) s with
  |next s'=>
   simp only;exact RG step I h n (a+1) s' (by omega) (by omega) (j s' e)
  |brk s'=>rfl|ret r=>rfl
theorem T4[Inhabited α]{l:List α}(step:α->σ->Bk σ ρ)(I:Int->σ->Prop){s:σ}(d:I 0 s)(h:∀(i:Int)s,0<=i->i<l.length->I i s->f i s=some (step (AA l i) s)/\∀s',step (AA l i) s=.next s'->I (i+1) s'):
  j4 f 0 l.length s=some (Dm step l s):=by
 have:=RG step I h l.length 0 s (by omega) (by omega) d;unfold j4;rw[show((l.length:Int)-0).toNat=l.length by omega];exact this
theorem Ue{d s2:α->σ->Bk σ ρ}:∀{l:List α}{s:σ},(∀a∈l,d a=s2 a)->Dm d l s=Dm s2 l s
 |[],_,_=>rfl|a::l,s,h=>by
  rw [Dm,Dm,h a (by simp)];split
  .exact Ue fun b e=>h b (by simp[e])
  .rfl
  .rfl
end
abbrev zM:AL:=⟨⟨[],[]⟩,[]⟩
abbrev zP:A0:=⟨0,zM,[]⟩
def Lj(w:d6->A0×Int)(k:d6)(s:A0×A0):Bk (A0×A0) (A0×Int):=
 if (w k).2≠0 then .ret (zP,(w k).2)else .next (s.1,⟨s.2.AaB,s.2.o3,s.2.gn++[(w k).1]⟩)
def RR(w:d6->A0×Int)(l:List d6):A0×Int:=
 match Dm (Lj w) l (zP,zP)with
 |.inl s=>(s.2,0)|.inr r=>r
def CZ(t:AC)(h:AG)(inj:Bool):Nat->d6->AL->A0×Int
 |0,_,_=>(zP,0)|N+1,c,m=>
  if c.mo=2 then(if(CZ t h inj N (AA c.gn 0) m).2=0 then(zP,10)else if(CZ t h inj N (AA c.gn 0) m).2=10 then(zP,0)else(zP,(CZ t h inj N (AA c.gn 0) m).2))else
  if c.mo=3 then RR (fun k=>CZ t h inj N k m) c.gn else
  if c.mo=4 then(fst (fun i=>if(CZ t h inj N (AA c.gn i) m).2=0 then some (⟨i,zM,[(CZ t h inj N (AA c.gn i) m).1]⟩,0)else if(CZ t h inj N (AA c.gn i) m).2≠10 then some (zP,(CZ t h inj N (AA c.gn i) m).2)else none) 0 c.gn.length).getD (zP,10)else
  if c.mo=5 then
   (if(DK t c h m inj).2≠0 then(zP,(DK t c h m inj).2)else
   (fst (fun i=>if(CZ t h inj N (AA c.gn 0) (AA (DK t c h m inj).1 i)).2=0 then some (⟨0,AA (DK t c h m inj).1 i,[(CZ t h inj N (AA c.gn 0) (AA (DK t c h m inj).1 i)).1]⟩,0)else
    if (CZ t h inj N (AA c.gn 0) (AA (DK t c h m inj).1 i)).2≠10 then some (zP,(CZ t h inj N (AA c.gn 0) (AA (DK t c h m inj).1 i)).2)else none) 0 (DK t c h m inj).1.length).getD (zP,10))else
  (zP,0)
def CY(t:AC)(h:AG)(inj:Bool):Nat->d6->AL->A0×Int
 |0,_,_=>(zP,0)|N+1,c,m=>
  if c.mo=2 then(if(CY t h inj N (AA c.gn 0) m).2=0 then(zP,10)else if(CY t h inj N (AA c.gn 0) m).2=10 then(zP,0)else(zP,(CY t h inj N (AA c.gn 0) m).2))else
  if c.mo=3 then RR (fun k=>CY t h inj N k m) c.gn else
  if c.mo=4 then(fst (fun i=>if(CY t h inj N (AA c.gn i) m).2≠10 then some (⟨i,zM,[(CY t h inj N (AA c.gn i) m).1]⟩,(CY t h inj N (AA c.gn i) m).2)else none) 0 c.gn.length).getD (zP,10)else
  if c.mo=5 then
   (if(DK t c h m inj).2≠0 then(zP,(DK t c h m inj).2)else
   (fst (fun i=>if(CY t h inj N (AA c.gn 0) (AA (DK t c h m inj).1 i)).2≠10 then some (⟨0,AA (DK t c h m inj).1 i,[(CY t h inj N (AA c.gn 0) (AA (DK t c h m inj).1 i)).1]⟩,(CY t h inj N (AA c.gn 0) (AA (DK t c h m inj).1 i)).2)else none) 0 (DK t c h m inj).1.length).getD (zP,10))else
  (zP,0)
def KW(x:A0×Int):A0×Int:=if x.2=0 then x else(zP,x.2)
theorem bu(x:A0×Int):(KW x).2=x.2:=by unfold KW;split<;>rfl
theorem br{x:A0×Int}(h:x.2=0):(KW x).1=x.1:=by unfold KW;rw[a6 h]
theorem dt(w:d6->A0×Int)(l:List d6):KW (RR w l)=RR w l:=by
 unfold RR;have:∀(l:List d6)(s:A0×A0)(r:A0×Int),Dm (Lj w) l s=.inr r->KW r=r:=by
  intro l
  induction l with
  |nil=>intro s r h;cases h
  |cons a l j=>
   intro s r h;rw[Dm]at h;split at h
   .exact j _ _ h
   .cases h
   .rename_i o d;cases h;unfold Lj at d;split at d
    .rename_i e;cases d;unfold KW;rw[ae e]
    .cases d
 cases g:Dm (Lj w) l (zP,zP)with
 |inl s=>rfl|inr r=>exact this _ _ _ g
theorem VV(o:Option (A0×Int)):KW (o.getD (zP,10))=(o.map KW).getD (zP,10):=by cases o<;>rfl
theorem Zc(t:AC)(h:AG)(inj:Bool):∀(N:Nat)(c:d6)(m:AL),CZ t h inj N c m=KW (CY t h inj N c m)
 |0,_,_=>rfl|N+1,c,m=>by
  have w:=Zc t h inj N;have key:∀(c:d6)(m:AL),(CZ t h inj N c m).2=(CY t h inj N c m).2:=fun c m=>by rw[w,bu]
  have pick:∀(k:d6)(m x:AL)(i:Int),(if(CZ t h inj N k m).2=0 then some ((⟨i,x,[(CZ t h inj N k m).1]⟩:A0),(0:Int))else if(CZ t h inj N k m).2≠10 then some (zP,(CZ t h inj N k m).2)else none)=(if(CY t h inj N k m).2≠10 then some ((⟨i,x,[(CY t h inj N k m).1]⟩:A0),(CY t h inj N k m).2)else none).map KW:=by
   intro k m x i;rw[key];by_cases d:(CY t h inj N k m).2=0
   .rw[a6 d,a6 (by omega),w,br d];simp[KW,d]
   .rw[ae d];by_cases e:(CY t h inj N k m).2≠10
    .rw[a6 e,a6 e];simp[KW,d]
    grind
  rw [CZ,CY];by_cases j:c.mo=2
  .rw[a6 j,a6 j,key];by_cases d:(CY t h inj N (AA c.gn 0) m).2=0
   .rw[a6 d];rfl
   .rw[ae d];by_cases e:(CY t h inj N (AA c.gn 0) m).2=10
    .rw[a6 e];rfl
    .rw[ae e];unfold KW;rw[ae d]
  rw [ae j,ae j];by_cases o:c.mo=3
  .rw[a6 o,a6 o,dt];unfold RR;rw[Ue (s2:=Lj fun k=>CY t h inj N k m)];intro k _;funext s;unfold Lj;simp only[key];by_cases d:(CY t h inj N k m).2=0
   .rw[ae (by simp[d]),ae (by simp[d]),w,br d]
   .rw[a6 d,a6 d]
  rw [ae o,ae o];by_cases r:c.mo=4
  .rw[a6 r,a6 r,VV,<-OQ];congr 1;exact congrArg (fun F=>fst F 0 (c.gn.length:Int)) (funext fun i=>pick _ _ _ _)
  rw [ae r,ae r];by_cases u:c.mo=5
  .rw[a6 u,a6 u];by_cases g:(DK t c h m inj).2≠0
   .rw[a6 g,a6 g];unfold KW;rw[ae g]
   .rw[ae g,ae g,VV,<-OQ];congr 1;exact congrArg (fun F=>fst F 0 ((DK t c h m inj).1.length:Int)) (funext fun i=>pick _ _ _ _)
  rw [ae u,ae u];rfl
end Go.Sf.Sc
namespace Go.Sf.Sc
open Go Go.Sf
def PA(i:Int)(s:A0×A0):Prop:=(s.2.gn.length:Int)=i
theorem US{s:Al}(hf:As s.t)(hv:(Av s.t).2=0)(hh:H9 s.t s.h):∀(N:Nat)(c:d6)(p:ea)(m:AL),SizeOf.sizeOf c<=N->CV s.t p c->Td s.t p s.h m->∀n,2*N<=n->Aj n s c m=some (CZ s.t s.h s.ei N c m)
 |0,c,_,_,h,_,_,_,_=>by have:=D3 c;omega|N+1,c,p,m,h,o,y,n,E=>by
  obtain ⟨n,rfl⟩:∃k,n=k+2:=⟨n-2,by omega⟩;have kid:∀(i:Int),0<=i->i<c.gn.length->SizeOf.sizeOf (AA c.gn i)<=N:=fun i d e=>by
   have:=Ey (AK (l:=c.gn) d e);omega
  rw [Aj,CZ];by_cases r:c.mo=2
  .have D:=o.one (.inl r);rw[a6 (by simpa using r),a6 r,AD (by omega) (by omega),bs,US hf hv hh N _ p m (kid 0 (by omega) (by omega)) (o.kid (by omega) _ (AK (by omega) (by omega))) y (n+1) (by omega),bs]
   grind
  rw [ae (by simpa using r),ae r];by_cases z:c.mo=3
  .rw[a6 (by simpa using z),a6 z];have B:=o.few;rw[T4 (Lj fun k=>CZ s.t s.h s.ei N k m) PA (show PA 0 (zP,zP)from rfl)]
   .unfold RR;show fq (some (Dm (Lj fun k=>CZ s.t s.h s.ei N k m) c.gn (zP,zP))) _ _=_;cases Dm (Lj fun k=>CZ s.t s.h s.ei N k m) c.gn (zP,zP)<;>rfl
   .intro i st d e hi;unfold PA at hi;rw[AD d e,bs,US hf hv hh N _ p m (kid i d e) (o.kid (by omega) _ (AK d e)) y (n+1) (by omega),bs]
    grind [Lj,CZ,AA,Ai,Ad,PA]
  rw [ae (by simpa using z),ae z];by_cases A:c.mo=4
  .rw[a6 (by simpa using A),a6 A];rw[JI (fun _=>zP) (fun i=>if(CZ s.t s.h s.ei N (AA c.gn i) m).2=0 then some (⟨i,zM,[(CZ s.t s.h s.ei N (AA c.gn i) m).1]⟩,0)else if(CZ s.t s.h s.ei N (AA c.gn i) m).2≠10 then some (zP,(CZ s.t s.h s.ei N (AA c.gn i) m).2)else none) (by omega) rfl]
   .cases fst (fun i=>if(CZ s.t s.h s.ei N (AA c.gn i) m).2=0 then some ((⟨i,zM,[(CZ s.t s.h s.ei N (AA c.gn i) m).1]⟩:A0),(0:Int))else if(CZ s.t s.h s.ei N (AA c.gn i) m).2≠10 then some (zP,(CZ s.t s.h s.ei N (AA c.gn i) m).2)else none) 0 c.gn.length<;>rfl
   .intro i d e _;rw[AD d e,bs,US hf hv hh N _ p m (kid i d e) (o.kid (by omega) _ (AK d e)) y (n+1) (by omega),bs];generalize CZ s.t s.h s.ei N (AA c.gn i) m=x;by_cases j:x.2=0
    .rw[a6 (by simpa using j),a6 j];try rfl
    .rw[ae (by simpa using j),ae j];by_cases g:x.2=10
     .rw[ae (by simp[g]),ae (by simp[g])];try rfl
     .rw[a6 (by simp[g]),a6 g];try rfl
  rw [ae (by simpa using A),ae A];by_cases u:c.mo=5
  .rw[a6 (by simpa using u),a6 u];have hi:=o.ins u;have D:=o.one (.inr u);rw[BH,mL hf hv hh y hi,bs];by_cases w:(DK s.t c s.h m s.ei).2=0
   .obtain⟨g,C⟩:=Yu hv hh y hi w;rw[ae (by simp[w]),ae (by simp[w])];generalize (DK s.t c s.h m s.ei).1=l at g C;rw[JI (fun _=>zP) (fun i=>if(CZ s.t s.h s.ei N (AA c.gn 0) (AA l i)).2=0 then some (⟨0,AA l i,[(CZ s.t s.h s.ei N (AA c.gn 0) (AA l i)).1]⟩,0)else if(CZ s.t s.h s.ei N (AA c.gn 0) (AA l i)).2≠10 then some (zP,(CZ s.t s.h s.ei N (AA c.gn 0) (AA l i)).2)else none) (by omega) rfl]
    .cases fst (fun i=>if(CZ s.t s.h s.ei N (AA c.gn 0) (AA l i)).2=0 then some ((⟨0,AA l i,[(CZ s.t s.h s.ei N (AA c.gn 0) (AA l i)).1]⟩:A0),(0:Int))else if(CZ s.t s.h s.ei N (AA c.gn 0) (AA l i)).2≠10 then some (zP,(CZ s.t s.h s.ei N (AA c.gn 0) (AA l i)).2)else none) 0 l.length<;>rfl
    .intro i d e _;rw[AD d e,bs,AD (by omega) (by omega),bs,US hf hv hh N _ c.ea _ (kid 0 (by omega) (by omega)) (o.kid5 u _ (AK (by omega) (by omega))) (C _ (AK d e)) n (by omega),bs];generalize CZ s.t s.h s.ei N (AA c.gn 0) (AA l i)=x;by_cases j:x.2=0
     .rw[a6 (by simpa using j),a6 j];try rfl
     .rw[ae (by simpa using j),ae j];by_cases g:x.2=10
      .rw[ae (by simp[g]),ae (by simp[g])];try rfl
      .rw[a6 (by simp[g]),a6 g];try rfl
   .rw[a6 (by simp[w]),a6 w];try rfl
  grind
variable{t:AC}{inj:Bool}
theorem Pt{d:AG}(hf:As t)(hv:(Av t).2=0)(hh:H9 t d):∀(N:Nat)(c:d6)(p:ea)(m:AL),SizeOf.sizeOf c<=N->CV t p c->Td t p d m->∀n,N<=n->Db n t c d m inj=some (CY t d inj N c m)
 |0,c,_,_,h,_,_,_,_=>by have:=D3 c;omega|N+1,c,p,m,h,o,w,n,E=>by
  obtain ⟨n,rfl⟩:∃k,n=k+1:=⟨n-1,by omega⟩;have kid:∀(i:Int),0<=i->i<c.gn.length->SizeOf.sizeOf (AA c.gn i)<=N:=fun i e g=>by
   have:=Ey (AK (l:=c.gn) e g);omega
  rw [Db,CY];by_cases r:c.mo=2
  .have D:=o.one (.inl r);rw[a6 (by simpa using r),a6 r,AD (by omega) (by omega),bs,Pt hf hv hh N _ p m (kid 0 (by omega) (by omega)) (o.kid (by omega) _ (AK (by omega) (by omega))) w n (by omega),bs]
   grind
  rw [ae (by simpa using r),ae r];by_cases y:c.mo=3
  .rw[a6 (by simpa using y),a6 y];have B:=o.few;rw[T4 (Lj fun k=>CY t d inj N k m) PA (show PA 0 (zP,zP)from rfl)]
   .unfold RR;show fq (some (Dm (Lj fun k=>CY t d inj N k m) c.gn (zP,zP))) _ _=_;cases Dm (Lj fun k=>CY t d inj N k m) c.gn (zP,zP)<;>rfl
   .intro i st e g hi;unfold PA at hi;rw[AD e g,bs,Pt hf hv hh N _ p m (kid i e g) (o.kid (by omega) _ (AK e g)) w n (by omega),bs]
    grind [Lj,CY,AA,Ai,Ad,PA]
  rw [ae (by simpa using y),ae y];by_cases z:c.mo=4
  .rw[a6 (by simpa using z),a6 z];rw[JI (fun _=>zP) (fun i=>if(CY t d inj N (AA c.gn i) m).2≠10 then some (⟨i,zM,[(CY t d inj N (AA c.gn i) m).1]⟩,(CY t d inj N (AA c.gn i) m).2)else none) (by omega) rfl]
   .cases fst (fun i=>if(CY t d inj N (AA c.gn i) m).2≠10 then some ((⟨i,zM,[(CY t d inj N (AA c.gn i) m).1]⟩:A0),(CY t d inj N (AA c.gn i) m).2)else none) 0 c.gn.length<;>rfl
   .intro i e g _;rw[AD e g,bs,Pt hf hv hh N _ p m (kid i e g) (o.kid (by omega) _ (AK e g)) w n (by omega),bs];generalize CY t d inj N (AA c.gn i) m=x;by_cases j:x.2=10
    .rw[ae (by simp[j]),ae (by simp[j])];try rfl
    .rw[a6 (by simp[j]),a6 j];try rfl
  rw [ae (by simpa using z),ae z];by_cases u:c.mo=5
  .rw[a6 (by simpa using u),a6 u];have hi:=o.ins u;have D:=o.one (.inr u);rw[ml hf hv hh w hi,bs];by_cases A:(DK t c d m inj).2=0
   .obtain⟨j,C⟩:=Yu hv hh w hi A;rw[ae (by simp[A]),ae (by simp[A])];generalize (DK t c d m inj).1=l at j C;rw[JI (fun _=>zP) (fun i=>if(CY t d inj N (AA c.gn 0) (AA l i)).2≠10 then some (⟨0,AA l i,[(CY t d inj N (AA c.gn 0) (AA l i)).1]⟩,(CY t d inj N (AA c.gn 0) (AA l i)).2)else none) (by omega) rfl]
    .cases fst (fun i=>if(CY t d inj N (AA c.gn 0) (AA l i)).2≠10 then some ((⟨0,AA l i,[(CY t d inj N (AA c.gn 0) (AA l i)).1]⟩:A0),(CY t d inj N (AA c.gn 0) (AA l i)).2)else none) 0 l.length<;>rfl
    .intro i e g _;rw[AD (by omega) (by omega),bs,AD e g,bs,Pt hf hv hh N _ c.ea _ (kid 0 (by omega) (by omega)) (o.kid5 u _ (AK (by omega) (by omega))) (C _ (AK e g)) n (by omega),bs];generalize CY t d inj N (AA c.gn 0) (AA l i)=x;by_cases j:x.2=10
     .rw[ae (by simp[j]),ae (by simp[j])];try rfl
     .rw[a6 (by simp[j]),a6 j];try rfl
   grind
  grind
end Go.Sf.Sc
namespace Go.Sf.Sc
open Go Go.Sf
noncomputable def Rd(t:AC)(p:ea)(c:d6)(h:AG)(m:AL)(inj:Bool):Int:=
 if Lr t p c≠0 then Lr t p c else if(GG t h).2≠0 then(GG t h).2 else if F4 t p.d4 h.d4 m.d5 inj≠0 then F4 t p.d4 h.d4 m.d5 inj else
 if (E9 t p h m.d5).2≠0 then(E9 t p h m.d5).2 else if(E9 t p h m.d5).1=m.gt then 0 else 11
variable{t:AC}{c:d6}
theorem ee(hf:As t)(p:ea)(d:DO c)(h:AG)(m:AL)(inj:Bool):Dz t p c h m inj=some (Rd t p c h m inj):=by
 unfold Dz Rd;rw[jU hf p d,bs];refine DC fun _=>?_;rw[R6 hf,bs];refine DC fun _=>?_;rw[Uz hf,bs];refine DC fun _=>?_;rw[Y8 hf,bs];refine DC fun _=>?_;rw[gw,bs]
 grind
variable{p:ea}{h:AG}{inj:Bool}
theorem Tu(hf:As t)(z:EP c<=40){m:AL}(e:Rd t p c h m inj=0):(Av t).2=0/\H9 t h/\CV t p c/\Td t p h m:=by
 unfold Rd at e;split at e
 .grind
 rename_i d;split at e
 .grind
 rename_i j;split at e
 .grind
 rename_i o;split at e
 .grind
 rename_i r;split at e
 case isFalse=>cases e
 rename_i C;have d:=Classical.not_not.1 d;have j:=Classical.not_not.1 j;have o:=Classical.not_not.1 o;have r:=Classical.not_not.1 r;obtain⟨hv,hh⟩:=OR hf j;have w:=(Wo o).2;unfold Lr at d;split at d
 .grind
 rename_i A;split at d
 .grind
 rename_i u;have y:=ex hv (.inl (Classical.not_not.1 A));have u:=Classical.not_not.1 u;have B:iM c=true:=by
  grind [Ou]
 suffices g:(m.gt.length:Int)=p.gt/\Nr m.gt from⟨hv,hh,gh hv _ c p (az _) z B d,y,w,g.1,g.2⟩
 have g:∀s∈p.ff,IA p.gt h m.d5 s:=fun s g=>OV (DU hv) y hh w g
 grind [E9,dF]
end Go.Sf.Sc
namespace Go.Sf.Sc
open Go Go.Sf
def OS:Nat->d6->Bool
 |0,_=>true|N+1,c=>if og (fun i=>!OS N (AA c.gn i)) 0 c.gn.length=true then false else decide (Af ((c.ea.d4.ci.length:Int)+c.ea.d4.d3.length)<=6)
theorem Vp:∀(N:Nat)(c:d6),SizeOf.sizeOf c<=N->∀n,N<=n->E6 n c=some (OS N c)
 |0,c,h,_,_=>by have:=D3 c;omega|N+1,c,h,n,g=>by
  obtain ⟨n,rfl⟩:∃k,n=k+1:=⟨n-1,by omega⟩;rw[E6,OS,BM (fun i=>!OS N (AA c.gn i)) false]
  .cases og (fun i=>!OS N (AA c.gn i)) 0 c.gn.length<;>rfl
  .intro i d e _;have:=Ey (AK (l:=c.gn) d e);rw[AD d e,bs,Vp N _ (by omega) n (by omega),bs,Hq]
theorem e8(c:d6):Ot c=some (OS (SizeOf.sizeOf c) c):=EB (SizeOf.sizeOf c) fun n d=>Vp _ c (az _) n d
def Rz(a:Int):Nat->Int->Int
 |0,s=>s|k+1,s=>Af (Rz a k s*a)
theorem g7{a b k s:Int}(g:0<=k)(e:k<=1000)(j:b<=1000):EQ (ρ:=Bool) (fun(d:Int×Int)=>
  if (decide (d.2<b))=true then
  some (.next (Af (d.1*a),Af (d.2+1)))
  else
  some (.brk (d.1,d.2))) (s,k)=some (.inl (Rz a (max k b-k).toNat s,max k b)):=by
 refine Ox (fun i=>Rz a (i-k).toNat s) (by omega) (by rw[show(k-k).toNat=0 by omega];rfl) (fun i o r=>?_) ?_
 .rw[a6 (by simp;omega),show(i+1-k).toNat=(i-k).toNat+1 by omega,Rz];dsimp only;rw[Ao (n:=i+1) (by omega) (by omega)]
 .rw[ae (by simp;omega)]
def Of(a b:Int):Nat->ea->d6->Bool
 |0,_,_=>true|N+1,p,c=>
  let q:=if c.mo=5 then c.ea else p
  if og (fun i=>!Of a b N q (AA c.gn i)) 0 c.gn.length=true then false else
  decide (Rz b (max (p.d4.d3.length:Int) q.d4.d3.length-p.d4.d3.length).toNat (Rz a (max (p.d4.ci.length:Int) q.d4.ci.length-p.d4.ci.length).toNat 1)<=5000)
theorem Xh(a b:Int):∀(N:Nat)(c:d6)(p:ea),SizeOf.sizeOf c<=N->DO c->Mf p->∀n,N<=n->Dl n p c a b=some (Of a b N p c)
 |0,c,_,h,_,_,_,_=>by have:=D3 c;omega|N+1,c,p,h,g,z,n,K=>by
  obtain ⟨n,rfl⟩:∃k,n=k+1:=⟨n-1,by omega⟩;have E:=g.q.ec;have F:=g.q.ek;have G:=z.ec;have H:=z.ek;have e:∀q:ea,Mf q->(fq (EQ (ρ:=Bool) (fun(d:Int×Int)=>
    if (decide (d.2<(q.d4.ci.length:Int)))=true then
    some (.next (Af (d.1*a),Af (d.2+1)))
    else
    some (.brk (d.1,d.2))) (1,(p.d4.ci.length:Int))) (fun d=>
    fq (EQ (ρ:=Bool) (fun(s2:Int×Int)=>
    if (decide (s2.2<(q.d4.d3.length:Int)))=true then
    some (.next (Af (s2.1*b),Af (s2.2+1)))
    else
    some (.brk (s2.1,s2.2))) (d.1,(p.d4.d3.length:Int))) (fun s2=>
    fq (j4 (ρ:=Bool) (fun(A:Int)(_:Unit)=>
    (idx c.gn A).bind fun j=>
    (Dl n q j a b).bind fun o=>
    if (!o)=true then
    some (.ret false)
    else
    some (.next ())) 0 (c.gn.length:Int) ()) (fun _=>
    some (decide (s2.1<=5000))) (fun B=>some B)) (fun C=>some C)) (fun D=>some D))=
    some (if og (fun i=>!Of a b N q (AA c.gn i)) 0 c.gn.length=true then false else
     decide (Rz b (max (p.d4.d3.length:Int) q.d4.d3.length-p.d4.d3.length).toNat (Rz a (max (p.d4.ci.length:Int) q.d4.ci.length-p.d4.ci.length).toNat 1)<=5000)):=by
   intro q r;have I:=r.ec;have J:=r.ek;rw[g7 (by omega) (by omega) (by omega),Bi];dsimp only;rw[g7 (by omega) (by omega) (by omega),Bi,BM (fun i=>!Of a b N q (AA c.gn i)) false]
   .cases og (fun i=>!Of a b N q (AA c.gn i)) 0 c.gn.length<;>rfl
   .intro i u w _;have:=Ey (AK (l:=c.gn) u w);rw[AD u w,bs,Xh a b N _ q (by omega) (g.k _ (AK u w)) r n (by omega),bs,Hq]
  rw [Dl,Of];by_cases y:c.mo=5
  .rw[a6 (by simpa using y),a6 y,bs,e _ g.q]
  grind
variable{c:d6}{p:ea}
theorem cM(a b:Int)(d:DO c)(e:Mf p):Ny p c a b=some (Of a b (SizeOf.sizeOf c) p c):=EB (SizeOf.sizeOf c) fun n g=>Xh a b _ c p (az _) d e n g
theorem Ww(h:AG):∃b,GR h=some b:=by
 unfold GR Ha;rw[bs];split
 .exact⟨_,rfl⟩
 .rw[BM (fun i=>decide (12<((AA h.fd i).length:Int))) false]
  .cases og (fun i=>decide (12<((AA h.fd i).length:Int))) 0 h.fd.length
   .exact⟨true,rfl⟩
   .exact⟨false,rfl⟩
  .intro i d e _;rw[AD d e,bs,Hq]
variable{t:AC}
theorem cR(hf:As t)(st:(AN t).Sm)(p g:d4):∃b,Km t p g=some b:=by
 obtain ⟨b,e,_⟩:=Rj st;unfold Km Ha;rw[e,bs,TP hf]
 grind
theorem cT(hf:As t)(st:(AN t).Sm)(p:ea)(w:(AJ c).Sm)(h:AG):∃b,Ks t p c h=some b/\(b=true->DO c/\EP c<=40/\Mf p):=by
 obtain ⟨y,z,A⟩:=bW w;obtain⟨B,r,C⟩:=Pm p;obtain⟨D,u⟩:=Ww h;unfold Ks;rw[z,bs];cases y
 .exact⟨false,rfl,fun h=>by cases h⟩
 rw [r];cases B
 .exact⟨false,rfl,fun h=>by cases h⟩
 rw [u];cases D
 .exact⟨false,rfl,fun h=>by cases h⟩
 have g:=A rfl;have j:=C rfl;simp only[bs,Bool.not_true,Bool.false_eq_true,if_false];rw[cN hf p g.1,bs];have d:∀o:K1,(∃b,o=some b)->∃b,o=some b/\(b=true->DO c/\EP c<=40/\Mf p):=fun o⟨b,e⟩=>⟨b,e,fun _=>⟨g.1,g.2,j⟩⟩;refine d _ ?_;split
 .exact⟨true,rfl⟩
 .obtain⟨E,F⟩:=cR hf st p.d4 h.d4;unfold NF;rw[r,u,F,e8,cM 14 18 g.1 j];simp only[bs,if_true];cases E<;>simp only[Bool.false_eq_true,if_false,if_true,bs,Bool.false_and]
  .exact⟨_,rfl⟩
  .split
   .exact⟨_,rfl⟩
   .exact⟨_,rfl⟩
noncomputable def wS(t:AC)(p:ea)(c:d6)(h:AG)(m:AL)(inj:Bool):A0×Int:=
 if Rd t p c h m inj≠0 then(zP,Rd t p c h m inj)else CZ t h inj (SizeOf.sizeOf c) c m
theorem cI(hf:As t)(p:ea)(e:DO c)(g:EP c<=40)(h:AG)(m:AL)(inj:Bool):DD t p c h m inj=some (wS t p c h m inj):=by
 unfold DD wS;rw[ee hf p e,bs];refine Ef fun j=>?_;obtain⟨hv,hh,d,r⟩:=Tu hf g j;rw[show DI (Al.mk t h inj) c m=some (CZ t h inj (SizeOf.sizeOf c) c m)from EB (2*SizeOf.sizeOf c) fun n o=>US (s:=⟨t,h,inj⟩) hf hv hh _ c p m (az _) d r n o];rfl
noncomputable def LM(t:AC)(p:ea)(c:d6)(h:AG)(m:AL)(inj:Bool):Bool×Int:=
 if (wS t p c h m inj).2=10 then(false,0)else(decide ((wS t p c h m inj).2=0),(wS t p c h m inj).2)
theorem YU(hf:As t)(p:ea)(d:DO c)(e:EP c<=40)(h:AG)(m:AL)(inj:Bool):Co t p c h m inj=some (LM t p c h m inj):=by grind[Co,LM,cI,wS]
variable{h:AG}{inj:Bool}
theorem ez(hf:As t){m:AL}(hv:(Av t).2=0)(hh:H9 t h)(d:CV t p c)(e:Td t p h m):Pa t c h m inj=some (CY t h inj (SizeOf.sizeOf c) c m):=EB (SizeOf.sizeOf c) fun n g=>Pt hf hv hh _ c p m (az _) d e n g
end Go.Sf.Sc
namespace Go.Sf.Sc
open Go Go.Sf
end Go.Sf.Sc
namespace Go.Sf.Sc
open Go Go.Sf
theorem kU(t:AC)(p:ea)(c:d6)(h:AG)(m:AL)(inj:Bool):wS t p c h m inj=if Rd t p c h m inj≠0 then(zP,Rd t p c h m inj)else KW (CY t h inj (SizeOf.sizeOf c) c m):=by
 unfold wS;rw[Zc]
end Go.Sf.Sc
