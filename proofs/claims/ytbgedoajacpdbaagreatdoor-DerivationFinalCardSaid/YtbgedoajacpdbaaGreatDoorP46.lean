/- Plain lemmas: what the functions of the program and of the reference compute. -/
import Derived.Test.YtbgedoajacpdbaaGreatDoorP25
set_option linter.all false
set_option maxRecDepth 100000
namespace Go.Sf.Sc
open Go Go.Sf
variable{k:Int}
theorem P5{d:List kq}(h:Mz d k=0)(e:(AA d k).wi.length<=1000):-1000000<=(AA d k).Low/\(AA d k).AaE<=1000000:=by grind[Mz]
variable{t:AC}{i:Int}
theorem Yi(h:H8 t i=0):∀k,((Ay t i).length:Int)-(AA t.d3 i).x3.length<=k->k<(Ay t i).length->Mz (Ay t i) k=0:=by
 unfold H8 at h;dsimp only at h;split at h
 .cases h
 split at h
 .cases h
 split at h
 .cases h
 split at h
 .cases h
 exact UB h
variable{a:Int}
theorem N3{n:Nat}(d:0<=a):Bx t (n+1) a=Bx t n (par t a)++(AA t.d3 a).x3:=by grind[Bx]
theorem Tt(hf:At t)(h:Fk t){Q:kq->Prop}(P5:∀{d:List kq}{k:Int},Mz d k=0->(AA d k).wi.length<=1000->Q (AA d k)):∀(n:Nat)(a:Int),a<t.d3.length->a<n->∀x∈Bx t n a,Q x
 |0,_,_,_=>by simp[Bx]|n+1,a,o,D=>by
  by_cases r:a<0
  .rw[Il r];simp
  .have z:=h.par a (by omega) o;intro x g;rw[N3 (by omega)]at g;rcases List.mem_append.1 g with g|g
   .exact Tt hf h P5 n (par t a) (by omega) (by omega) x g
   .obtain⟨j,B,C,rfl⟩:=BV g;have e:Ay t a=Bx t a.toNat (par t a)++(AA t.d3 a).x3:=by
     unfold Ay;rw[show(a+1).toNat=a.toNat+1 by omega,N3 (by omega)]
    have A:(Ay t a).length=(Bx t a.toNat (par t a)).length+(AA t.d3 a).x3.length:=by rw[e,cE]
    have u:=Yi (h.node a (by omega) o) ((Bx t a.toNat (par t a)).length+j) (by omega) (by omega);have w:AA (Ay t a) ((Bx t a.toNat (par t a)).length+j)=AA (AA t.d3 a).x3 j:=by
     grind [LM,AA]
    have y:=Lf hf (Int.le_refl _) h.par o (AA (Ay t a) ((Bx t a.toNat (par t a)).length+j)) (AK (by omega) (by omega));have:=P5 u (by have:=y.names;omega)
    rwa [w]at this
theorem aA(hf:At t)(h:Fk t)(e:0<=a)(d:a<t.d3.length):∀x∈Ay t a,-1000000<=x.Low/\x.AaE<=1000000:=Tt hf h P5 _ a d (by omega)
theorem WD(e:Eo t k):∀(n:Nat)(a b:Int),a<k->a<n->b∈Oq t n a->0<=b/\b<=a/\(Ay t b).length<=(Bx t n a).length
 |0,_,_,_,_=>by simp[Oq]|n+1,a,b,g,r=>by
  intro d;rw[Oq]at d;split at d
  .cases d
  .rename_i j;have o:=e a (by omega) g;rw[N3 (by omega)];rcases List.mem_cons.1 d with rfl|d
   .refine⟨by omega,by omega,?_⟩;unfold Ay;rw[LN e (b+1).toNat (n+1) b g (by omega) (by omega),N3 (by omega)];exact bk _
   .have:=WD e n (par t a) b (by omega) (by omega) d
    grind
variable{b:Int}
theorem Vm(h:Fk t)(j:a<t.d3.length)(d:IY t a b=true):(Ay t b).length<=(Ay t a).length:=by
 unfold IY at d;rw[List.any_eq_true]at d;obtain⟨x,g,e⟩:=d;rw[zzX]at e;subst e;by_cases o:a<0
 .have:(a+1).toNat=0:=by omega
  rw [this]at g;cases g
 .exact(WD h.par (a+1).toNat a b j (by omega) g).2.2
theorem aC{α:Type}{Q:Prop}[Decidable Q]{v:α}{X:Option α}{Y:α}(he:a=b↔Q)(h:Q->X=some Y):(if(!decide (a=b))=true then some v else X)=some (if¬Q then v else Y):=by grind
def Qh(t:AC)(k:Int)(v:Fp)(j:Int):Bool:=decide (AA v j<(AA (Ay t k) j).Low)||decide ((AA (Ay t k) j).AaE<AA v j)
def I1(t:AC)(k:Int)(v:Fp):Int:=
 if (t.d3.length:Int)<=k then 6 else if(AA t.d3 k).Aaq=true then 13 else if¬v.length=(Ay t k).length then 20 else
 if og (Qh t k v) 0 (Ay t k).length=true then 6 else 0
def NV(t:AC)(g:d5)(i:Int):Int:=
 if (t.d4.length:Int)<=(AA g.d4 i).mo then 6 else if LD t g i=false then 13 else 0
def H7(t:AC)(h:AG):Int×Int:=
 if (Ax t).2≠0 then(-1,(Ax t).2)else if Bl h.d5≠0 then(-1,Bl h.d5)else if¬h.gn.length=h.d5.d3.length then(-1,20)else
 match fst (fun i=>(nz (I1 t (AA h.d5.d3 i) (AA h.gn i))).map fun e=>(i,e)) 0 h.d5.d3.length with
 |some r=>r|none=>(fst (fun i=>(nz (NV t h.d5 i)).map fun e=>(i,e)) 0 h.d5.d4.length).getD (-1,0)
theorem IW(hv:(Ax t).2=0)(d:0<=k)(e:k<t.d3.length):F9 t k=(Ay t k,0):=by grind[F9,LQ]
theorem Sh{x:Bool}{y:Bool}:(if x=true then some true else some y)=some (x||y):=by cases x<;>rfl
theorem kM(hf:At t)(hv:(Ax t).2=0)(d:0<=k)(v:Fp):IX t k v=some (I1 t k v):=by
 unfold IX I1;by_cases e:(t.d3.length:Int)<=k
 .grind
 rw [az (by simpa using e),az e,AD d (by omega),bs];refine W5 fun _=>?_;rw[Pr hf,IW hv d (by omega),bs];refine aC (by simp only[];omega) fun g=>?_;rw[BP (Qh t k v) 6]
 .cases og (Qh t k v) 0 (Ay t k).length<;>rfl
 grind [Ay,AD,Sh,Qh,AA]
theorem kf(hf:At t)(hv:(Ax t).2=0)(d:0<=k)(v:Fp):ME t k v=some (I1 t k v):=by
 unfold ME I1;by_cases e:(t.d3.length:Int)<=k
 .grind
 rw [az (by simpa using e),az e,AD d (by omega),bs];refine W5 fun _=>?_;rw[Ps hf,IW hv d (by omega),bs];refine aC (by simp only[];omega) fun g=>?_;rw[BP (Qh t k v) 6]
 .cases og (Qh t k v) 0 (Ay t k).length<;>rfl
 grind [Ay,AD,Sh,Qh,AA]
theorem Xf(e i:Int):(if(!decide (e=0))=true then some (Bp.ret (σ:=Unit) (ρ:=Int×Int) (i,e))else some (.next ()))=some (PS ((nz e).map fun e=>(i,e))):=by grind[nz,PS]
theorem UX(hf:At t)(h:AG):Et t h=some (H7 t h):=by
 unfold Et H7;rw[Mn hf,bs];refine Ee fun hv=>?_;rw[KC,bs];refine Ee fun o=>?_;have go:=Cm o;refine aC (by omega) fun z=>?_;rw[BU (fun i=>(nz (I1 t (AA h.d5.d3 i) (AA h.gn i))).map fun e=>(i,e)),Di]
 .cases u:fst (fun i=>(nz (I1 t (AA h.d5.d3 i) (AA h.gn i))).map fun e=>(i,e)) 0 h.d5.d3.length with
  |some r=>rfl|none=>
   have w:=B0.1 u;dsimp only;rw[BU (fun i=>(nz (NV t h.d5 i)).map fun e=>(i,e)),Di]
   .grind
   .intro i d g _;have y:=go.fit _ (AK (l:=h.d5.d4) d g);rw[AD d g,bs];unfold NV LD;by_cases j:(t.d4.length:Int)<=(AA h.d5.d4 i).mo
    .rw[ae (by simpa using j),ae j];rfl
    .rw[az (by simpa using j),az j,AD (by omega) (by omega),bs,AD (by omega) (by omega),bs,cg hf,bs];cases QM t (AA h.d5.d4 i).mo (AA h.d5.d3 (AA h.d5.d4 i).ne) (AA h.d5.d3 (AA h.d5.d4 i).To)<;>rfl
 .intro i d g _;rw[AD d g,bs,AD d (by omega),bs,kM hf hv (go.kind _ (AK d g)).1,bs];exact Xf _ i
theorem Uf(hf:At t)(h:AG):GV t h=some (H7 t h):=by
 unfold GV H7;rw[OP hf,bs];refine Ee fun hv=>?_;rw[LT,bs];refine Ee fun o=>?_;have go:=Cm o;refine aC (by omega) fun z=>?_;rw[BU (fun i=>(nz (I1 t (AA h.d5.d3 i) (AA h.gn i))).map fun e=>(i,e)),Di]
 .cases u:fst (fun i=>(nz (I1 t (AA h.d5.d3 i) (AA h.gn i))).map fun e=>(i,e)) 0 h.d5.d3.length with
  |some r=>rfl|none=>
   have w:=B0.1 u;dsimp only;rw[BU (fun i=>(nz (NV t h.d5 i)).map fun e=>(i,e)),Di]
   .grind
   .intro i d g _;have y:=go.fit _ (AK (l:=h.d5.d4) d g);rw[AD d g,bs];unfold NV LD;by_cases j:(t.d4.length:Int)<=(AA h.d5.d4 i).mo
    .rw[ae (by simpa using j),ae j];rfl
    .rw[az (by simpa using j),az j,AD (by omega) (by omega),bs,AD (by omega) (by omega),bs,dA hf,bs];cases QM t (AA h.d5.d4 i).mo (AA h.d5.d3 (AA h.d5.d4 i).ne) (AA h.d5.d3 (AA h.d5.d4 i).To)<;>rfl
 .intro i d g _;rw[AD d g,bs,AD d (by omega),bs,kf hf hv (go.kind _ (AK d g)).1,bs];exact Xf _ i
structure IB(t:AC)(h:AG):Prop where
 g:Dm h.d5
 len:h.gn.length=h.d5.d3.length
 kind:∀i:Int,0<=i->i<h.d5.d3.length->0<=AA h.d5.d3 i/\AA h.d5.d3 i<t.d3.length
 row:∀i:Int,0<=i->i<h.d5.d3.length->(AA h.gn i).length=(Ay t (AA h.d5.d3 i)).length
 low:∀i:Int,0<=i->i<h.d5.d3.length->∀x∈AA h.gn i,-1000000<=x/\x<=1000000
 ge:Bl h.d5=0
 ty:Cj t h.d5=true
variable{h:AG}
theorem SX(hf:At t)(e:(H7 t h).2=0):(Ax t).2=0/\IB t h:=by
 unfold H7 at e;split at e
 .rename_i w;exact absurd e w
 split at e
 .rename_i w;exact absurd e w
 split at e
 .cases e
 rename_i w E H;have hv:=Classical.not_not.1 w;have go:=Cm (Classical.not_not.1 E);have z:∀i:Int,0<=i->i<h.d5.d3.length->I1 t (AA h.d5.d3 i) (AA h.gn i)=0:=by
  split at e
  .rename_i r o;obtain⟨i,_,_,k,_⟩:=Cw o;unfold nz at k;split at k
   .cases k
   .rename_i u;cases k;exact absurd e u
  .rename_i o;exact fun i d g=>JC.1 (LF.1 (B0.1 o i d g))
 have A:∀i:Int,0<=i->i<h.d5.d3.length->(0<=AA h.d5.d3 i/\AA h.d5.d3 i<t.d3.length)/\(AA h.gn i).length=(Ay t (AA h.d5.d3 i)).length/\∀j:Int,0<=j->j<(Ay t (AA h.d5.d3 i)).length->Qh t (AA h.d5.d3 i) (AA h.gn i) j=false:=by
  intro i d g;have K:=(go.kind _ (AK d g)).1;have:=z i d g;unfold I1 at this;split at this
  .cases this
  split at this
  .cases this
  split at this
  .cases this
  split at this
  .cases this
  rename_i a1 M I J;exact⟨⟨K,by omega⟩,Classical.not_not.1 I,Bi.1 (by simpa using J)⟩
 have he:∀i:Int,0<=i->i<h.d5.d4.length->NV t h.d5 i=0:=by
  have C:fst (fun i=>(nz (I1 t (AA h.d5.d3 i) (AA h.gn i))).map fun e=>(i,e)) 0 h.d5.d3.length=none:=B0.2 fun i d g=>by rw[z i d g];rfl
  rw [C]at e;dsimp only at e;cases o:fst (fun i=>(nz (NV t h.d5 i)).map fun e=>(i,e)) 0 h.d5.d4.length with
  |some r=>
   rw [o]at e;obtain⟨i,_,_,k,_⟩:=Cw o;unfold nz at k;split at k
   .cases k
   .rename_i u;cases k;exact absurd e u
  |none=>exact fun i d g=>JC.1 (LF.1 (B0.1 o i d g))
 have D:Cj t h.d5=true:=by
  unfold Cj;rw[tg,Bool.not_eq_true',Bool.not_eq_true',List.any_eq_false,List.any_eq_false];refine⟨fun n z=>?_,fun x B=>?_⟩
  .obtain⟨i,d,g,rfl⟩:=BV z;have:=(A i d g).1.2;simp;omega
  .obtain⟨i,d,g,rfl⟩:=BV B;have:=he i d g;unfold NV at this;split at this
   .cases this
   .simp;omega
 suffices y:∀i:Int,0<=i->i<h.d5.d3.length->∀x∈AA h.gn i,-1000000<=x/\x<=1000000 from⟨hv,go,Classical.not_not.1 H,fun i d g=>(A i d g).1,fun i d g=>(A i d g).2.1,y,Classical.not_not.1 E,D⟩
 intro i d g x B;obtain⟨F,N,L⟩:=A i d g;obtain⟨j,G,O,rfl⟩:=BV B;have:=L j G (by omega);unfold Qh at this;simp only[Bool.or_eq_false_iff,decide_eq_false_iff_not]at this;have:=aA hf (DF hv) F.1 F.2 _ (AK (l:=Ay t (AA h.d5.d3 i)) G (by omega));omega
end Go.Sf.Sc
namespace Go.Sf.Sc
open Go Go.Sf
def Jk(t:AC)(p g:d5)(m:d6)(i:Int):QQ:=
 if AA m.d3 i<0\/g.d3.length<=AA m.d3 i then some 6 else if IY t (AA g.d3 (AA m.d3 i)) (AA p.d3 i)=false then some 13 else none
def NI(t:AC)(p g:d5)(m:d6):Int:=
 if m.d3.length≠p.d3.length\/m.d4.length≠p.d4.length then 20 else
 match fst (Jk t p g m) 0 m.d3.length with
 |some e=>e|none=>(fst (Gk p g m) 0 m.d4.length).getD 0
def F5(t:AC)(p g:d5)(m:d6)(inj:Bool):Int:=
 if FW t p g≠0 then FW t p g else if NI t p g m≠0 then NI t p g m else if(inj&&!Jm m)=true then 5 else 0
structure VL(t:AC)(p g:d5)(m:d6):Prop where
 AaG:m.d3.length=p.d3.length
 AaP:m.d4.length=p.d4.length
 node:∀i:Int,0<=i->i<m.d3.length->(0<=AA m.d3 i/\AA m.d3 i<g.d3.length)/\IY t (AA g.d3 (AA m.d3 i)) (AA p.d3 i)=true
 edge:∀i:Int,0<=i->i<m.d4.length->0<=AA m.d4 i/\AA m.d4 i<g.d4.length
variable{t:AC}
theorem Mh{p g:d5}(h:FW t p g=0):(Ax t).2=0/\Dm p/\Dm g/\(∀n∈p.d3,0<=n/\n<t.d3.length)/\∀n∈g.d3,0<=n/\n<t.d3.length:=by
 unfold FW at h;split at h
 .grind
 split at h
 .grind
 split at h
 .grind
 split at h
 .rename_i e j o d;rw[tg]at d
  grind [Cm,H1]
 .cases h
variable{m:d6}
theorem Zl{p g:d5}(h:NI t p g m=0):VL t p g m:=by
 unfold NI at h;split at h
 .cases h
 rename_i o;have j:fst (Jk t p g m) 0 m.d3.length=none:=by
  grind [Cw,Jk]
 rw [j]at h;have he:=O4 (fun i=>by
  grind [Gk]) h
 refine ⟨by omega,by omega,fun i d e=>?_,fun i d e=>?_⟩
 .grind[B0,Jk]
 grind [Gk]
theorem Vt(hf:At t){p g:d5}(A:FW t p g=0)(m:d6):Ex t p g m=some (NI t p g m):=by
 obtain ⟨hv,C,G,tp,D⟩:=Mh A;unfold Ex NI;refine Lh (by simp;try omega) fun E=>?_;rw[ij hf (DF hv) hv,bs,BU (Jk t p g m),Di]
 .cases F:fst (Jk t p g m) 0 m.d3.length with
  |some e=>rfl|none=>
   dsimp only;rw[BU (Gk p g m),CT];intro i j z _;unfold Gk;rw[AD j z,bs];by_cases d:AA m.d4 i<0\/g.d4.length<=AA m.d4 i
   .rw[ae (by simpa using d),ae d];rfl
   .have hf:=C.fit _ (AK (l:=p.d4) j (by omega));rw[az (by simpa using d),az d,AD j (by omega),bs,AD (by omega) (by omega),bs];by_cases o:(AA p.d4 i).mo=(AA g.d4 (AA m.d4 i)).mo
    .rw[az (by simpa using o),az (by simpa using o),AD (by omega) (by omega),bs];by_cases r:AA m.d3 (AA p.d4 i).ne=(AA g.d4 (AA m.d4 i)).ne
     .rw[az (by simpa using r),AD (by omega) (by omega),bs,bs];by_cases u:AA m.d3 (AA p.d4 i).To=(AA g.d4 (AA m.d4 i)).To
      .rw[az (by simpa using u),az (by simp[r,u])];rfl
      .rw[ae (by simpa using u),ae (.inr u)];rfl
     .rw[ae (by simpa using r),bs,ae rfl,ae (.inl r)];rfl
    .rw[ae (by simpa using o),ae o];rfl
 .intro i j z _;unfold Jk;rw[AD j z,bs];by_cases d:AA m.d3 i<0\/g.d3.length<=AA m.d3 i
  .rw[ae (by simpa using d),ae d];rfl
  .have w:=tp _ (AK (l:=p.d3) j (by omega));have y:=D _ (AK (l:=g.d3) (show 0<=AA m.d3 i by omega) (by omega));rw[az (by simpa using d),az d,AD j (by omega),bs,AD w.1 (by unfold Iv;rw[ca,A3];exact w.2),bs,AD (by omega) (by omega),bs];have e:AA (Iv t) (AA p.d3 i)=ML t (AA p.d3 i):=by unfold Iv;exact HD (ML t) w.1 w.2
   rw [e,AD y.1 (by unfold ML;rw[ca,A3];exact y.2),bs];have B:AA (ML t (AA p.d3 i)) (AA g.d3 (AA m.d3 i))=IY t (AA g.d3 (AA m.d3 i)) (AA p.d3 i):=by unfold ML;exact HD (fun k=>IY t k (AA p.d3 i)) y.1 y.2
   rw [B];cases IY t (AA g.d3 (AA m.d3 i)) (AA p.d3 i)<;>rfl
variable{l:Fp}
theorem ZZ(d:l.length<=1000):Gs l=some (!IG l):=by grind[Gs,TG,QJ,AbK,IG]
theorem VB(hf:At t)(p g:d5)(m:d6)(inj:Bool):EF t p g m inj=some (F5 t p g m inj):=by
 unfold EF F5;rw[VE hf,bs];refine DW fun d=>?_;rw[Vt hf d,bs];refine DW fun o=>?_;obtain⟨_,j,r,_⟩:=Mh d;have e:=Zl o;have:=j.ei;have:=j.em;have:=e.AaG;have:=e.AaP;rw[ZZ (by omega),ZZ (by omega)];unfold Jm;cases inj<;>cases IG m.d3<;>cases IG m.d4<;>rfl
theorem kY(l:Fp):IR l=some (IG l):=Wf l
theorem dK{p g:d5}(z:FW t p g=0)(m:d6)(inj:Bool):Ki t p g m inj=some (if NI t p g m≠0 then NI t p g m else if(inj&&!Jm m)=true then 5 else 0):=by
 obtain ⟨hv,C,F,tp,D⟩:=Mh z;unfold Ki NI;by_cases A:m.d3.length≠p.d3.length\/m.d4.length≠p.d4.length
 .grind
 rw [az (by simp;try omega),az A,BU (Jk t p g m),Di]
 .cases E:fst (Jk t p g m) 0 m.d3.length with
  |some e=>
   grind [Cw,Jk]
  |none=>
   dsimp only;rw[BU (Gk p g m),Di]
   .grind[fst,Gk,Cw,kY,Jm,IG]
   intro i j w _;unfold Gk;rw[AD j w];simp only[bs,SA];by_cases d:AA m.d4 i<0\/g.d4.length<=AA m.d4 i
   .rw[ae (by simpa using d),ae d];rfl
   .have hf:=C.fit _ (AK (l:=p.d4) j (by omega));rw[az (by simpa using d),az d,AD j (by omega),bs,AD (by omega) (by omega),bs];by_cases o:(AA p.d4 i).mo=(AA g.d4 (AA m.d4 i)).mo
    .rw[az (by simpa using o),az (by simpa using o),AD (by omega) (by omega),bs];by_cases r:AA m.d3 (AA p.d4 i).ne=(AA g.d4 (AA m.d4 i)).ne
     .rw[az (by simpa using r),AD (by omega) (by omega),bs,bs];by_cases u:AA m.d3 (AA p.d4 i).To=(AA g.d4 (AA m.d4 i)).To
      .rw[az (by simpa using u),az (by simp[r,u])];rfl
      .rw[ae (by simpa using u),ae (.inr u)];rfl
     .rw[ae (by simpa using r),bs,ae rfl,ae (.inl r)];rfl
    .rw[ae (by simpa using o),ae o];rfl
 .intro i j w _;unfold Jk;rw[AD j w];simp only[bs,SA];by_cases d:AA m.d3 i<0\/g.d3.length<=AA m.d3 i
  .rw[ae (by simpa using d),ae d];rfl
  .have B:=tp _ (AK (l:=p.d3) j (by omega));have y:=D _ (AK (l:=g.d3) (show 0<=AA m.d3 i by omega) (by omega));rw[az (by simpa using d),az d,AD (by omega) (by omega),bs,AD j (by omega),bs,Sk (DF hv) y.1 y.2 B.1,bs];cases IY t (AA g.d3 (AA m.d3 i)) (AA p.d3 i)<;>rfl
theorem VF(hf:At t)(p g:d5)(m:d6)(inj:Bool):Hx t p g m inj=some (F5 t p g m inj):=by
 unfold Hx F5;rw[TR hf,bs];refine DW fun d=>?_;rw[dK d,bs]
variable{inj:Bool}
theorem W6{p g:d5}(h:F5 t p g m inj=0):FW t p g=0/\VL t p g m:=by grind[F5,Zl]
end Go.Sf.Sc
namespace Go.Sf.Sc
open Go Go.Sf
section
variable{α σ ρ:Type}
def Dq(step:α->σ->Bp σ ρ):List α->σ->σ ⊕ ρ
 |[],s=>.inl s|a::r,s=>match step a s with
  |.next s'=>Dq step r s'|.brk s'=>.inl s'|.ret r=>.inr r
variable{f:Int->σ->Option (Bp σ ρ)}
theorem Rw[Inhabited α]{l:List α}(step:α->σ->Bp σ ρ)(I:σ->Prop)(h:∀(i:Int)s,0<=i->i<l.length->I s->f i s=some (step (AA l i) s)/\∀s',step (AA l i) s=.next s'->I s'):
  ∀(n:Nat)(a:Int)(s:σ),0<=a->a+n=l.length->I s->Aae f n a s=some (Dq step (l.drop a.toNat) s)
 |0,a,s,d,o,_=>by
  rw [List.drop_eq_nil_of_le (by omega)];rfl
 |n+1,a,s,d,o,u=>by
  obtain ⟨g,j⟩:=h a s d (by omega) u;have hd:l.drop a.toNat=AA l a::l.drop (a+1).toNat:=by
   grind [List.drop_eq_getElem_cons,AA,List.getElem?_eq_getElem]
  rw [FP,g,hd,Dq];cases e:step (AA l a) s with
  |next s'=>
   simp only;exact Rw step I h n (a+1) s' (by omega) (by omega) (j s' e)
  |brk s'=>rfl|ret r=>rfl
theorem O3[Inhabited α]{l:List α}(step:α->σ->Bp σ ρ)(I:σ->Prop){s:σ}(d:I s)(h:∀(i:Int)s,0<=i->i<l.length->I s->f i s=some (step (AA l i) s)/\∀s',step (AA l i) s=.next s'->I s'):
  kl f 0 l.length s=some (Dq step l s):=by
 have:=Rw step I h l.length 0 s (by omega) (by omega) d;unfold kl;rw[show((l.length:Int)-0).toNat=l.length by omega];exact this
theorem YH[Inhabited α](step:α->σ->Bp σ ρ)(I:σ->Prop):∀(l:List α)(s s':σ),I s->(∀a∈l,∀s s',I s->step a s=.next s'->I s')->(∀a∈l,∀s s',step a s≠.brk s')->Dq step l s=.inl s'->I s'
 |[],s,s',h,_,_,e=>by cases e;exact h
 |a::r,s,s',h,g,o,e=>by
  rw [Dq]at e;split at e
  .rename_i s2 j;exact YH step I r s2 s' (g a (by simp) s s2 h j) (fun a d=>g a (by simp[d])) (fun a d=>o a (by simp[d])) e
  .grind
  .cases e
end
def Cp(x:j4)(l:Fp):Int:=if x.Var<0 then x.Add else Ae (AA l x.Var+x.Add)
variable{x:j4}{l:Fp}
theorem SB(h:x.Var<l.length):Dy x l=some (Cp x l):=by grind[Dy,Cp,AD]
theorem V1(h:x.Var<l.length):Hz x l=some (Cp x l):=SB h
theorem Xl(d:-1<=x.Var)(h:x.Var<l.length)(e:l.length<=1000):ES x l=some (Cp x l,0):=by grind[ES,CP,As,SB]
theorem Mq(d:-1<=x.Var)(h:x.Var<l.length):EK x l=some (Cp x l,0):=by grind[EK,V1]
def JU(x:Test)(l:Fp):Bool:=(decide (x.ns=1)&&decide (Cp x.kp l<=Cp x.fd l))||(decide (x.ns=2)&&decide (Cp x.kp l=Cp x.fd l))
structure HI(n:Int)(x:j4):Prop where
 low:-1<=x.Var
 high:x.Var<n
 add:-1000000<=x.Add/\x.Add<=1000000
def Nn(l:Fp):Prop:=∀x∈l,-2000000<=x/\x<=2000000
variable{n:Int}
theorem Qq(h:HI n x)(d:Nn l)(e:n<=l.length):Cp x l=(if x.Var<0 then x.Add else AA l x.Var+x.Add)/\-3000000<=Cp x l/\Cp x l<=3000000:=by
 unfold Cp;have:=h.add;by_cases g:x.Var<0
 .grind
 .have hh:=h.high;have:=d _ (AK (l:=l) (show 0<=x.Var by omega) (by omega))
  grind [As]
theorem V0(h:HI n x)(d:n<=l.length):JE x l=some (Cp x l,true):=by
 have e:=h.low;have g:=h.high
 grind [JE,Cp,AD]
theorem r_holds{x:Test}(e:HI n x.kp)(g:HI n x.fd)(d:n<=l.length):Ke x l=some (JU x l):=by
 unfold Ke;rw[V0 e d,V0 g d];rfl
variable{a b:Int}
theorem WG(j:-4000000<=a/\a<=4000000)(o:-4000000<=b/\b<=4000000):Fr a b=some (if a+b<0 then(-1,a+b+18446744073709551616)else(0,a+b)):=by
 have d:∀c:Int,IntKind.u64.wrap c=c % 18446744073709551616:=fun c=>by
  simp [IntKind.wrap,IntKind.signed,IntKind.bits]
 have g:∀c:Int,-4000000<=c/\c<=4000000->KX .i64 .shr c 63=some (if c<0 then -1 else 0):=by
  intro c w;unfold KX;have e:c.fdiv (2^ (min (63:Int).toNat (IntKind.bits .i64)))=if c<0 then -1 else 0:=by
   show c.fdiv (2^ 63)=_
   grind
  simp only[e];have:(0:Int)<=63/\IntKind.min .i64<=(if c<0 then -1 else 0)/\(if c<0 then -1 else 0)<=IntKind.max .i64:=by
   split<;>decide
  rw [ae this]
 unfold Fr HU;rw[d,d,ae (by omega),bs,g a j,g b o,bs,bs];congr 1;have y:∀c:Int,-10<=c->c<=10->Ae c=c:=fun c r u=>As (by omega) (by omega)
 grind
def Iz(a:Int):Int×Int:=if a<0 then(-1,a+18446744073709551616)else(0,a)
theorem Xn(h:HI n x)(d:Nn l)(o:n<=l.length):EW x l=some ((Iz (Cp x l)).1,(Iz (Cp x l)).2,true):=by
 have r:=h.low;have u:=h.high;have w:=h.add;have g:=(Qq h d o).1;unfold EW;by_cases j:x.Var=-1
 .have e:Cp x l=x.Add:=by rw[g,ae (by omega)]
  rw [e,ae (by simpa using j),WG (by omega) (by omega),bs,Int.zero_add];rfl
 .have:=d _ (AK (l:=l) (show 0<=x.Var by omega) (by omega));have e:Cp x l=AA l x.Var+x.Add:=by rw[g,az (by omega)]
  rw [e,az (by simpa using j),az (by simp;omega),AD (by omega) (by omega),bs,WG (by omega) (by omega),bs];rfl
theorem iV(a b:Int):cmp_Compare_int a b=some (if a<b then -1 else if b<a then 1 else 0):=by
 unfold cmp_Compare_int cmp_isNaN_int
 grind
theorem qx(a b:Int):HL a b=some (if a<b then -1 else if b<a then 1 else 0):=iV a b
theorem mZ(a b:Int):Li [a,b]=some (if a=0 then b else a):=by
 unfold Li;show fq (Aae _ 2 0 ()) _ _=_;rw[FP,show idx [a,b] 0=some a from rfl,bs]
 grind [fq,Aae,FP,idx]
theorem p_holds{x:Test}(g:HI n x.kp)(j:HI n x.fd)(d:Nn l)(e:n<=l.length):FH x l=some (JU x l):=by
 have o:=(Qq g d e).2;have s2:=(Qq j d e).2;unfold FH JU;rw[Xn g d e,Xn j d e];simp only[bs,Bool.not_true,Bool.or_self,Bool.false_eq_true,if_false,iV,qx,mZ];generalize Cp x.kp l=a at o;generalize Cp x.fd l=b at s2;have key:(if(if(Iz a).1<(Iz b).1 then(-1:Int)else if(Iz b).1<(Iz a).1 then 1 else 0)=0 then(if(Iz a).2<(Iz b).2 then(-1:Int)else if(Iz b).2<(Iz a).2 then 1 else 0)else(if(Iz a).1<(Iz b).1 then(-1:Int)else if(Iz b).1<(Iz a).1 then 1 else 0))=if a<b then -1 else if b<a then 1 else 0:=by
  grind [Iz]
 rw [key];congr 2
 .grind
 grind
end Go.Sf.Sc
namespace Go.Sf.Sc
open Go Go.Sf
structure Qr(t:AC)(q:ec):Prop where
 g:Dm q.d5
 kind:∀n∈q.d5.d3,0<=n/\n<t.d3.length
 vars:0<=q.hV/\q.hV<=12
 few:q.ff.length<=10/\q.sc.length<=10
 slot:∀s∈q.ff,(0<=s.tl/\s.tl<q.d5.d3.length)/\(0<=s.kq/\s.kq<(Ay t (AA q.d5.d3 s.tl)).length)/\HI q.hV s.j4
 test:∀x∈q.sc,(x.ns=1\/x.ns=2)/\HI q.hV x.kp/\HI q.hV x.fd
 ge:Bl q.d5=0
 ty:Cj t q.d5=true
variable{n:Int}{x:j4}
theorem iI(h:MQ n x=true):HI n x:=by
 unfold MQ at h;simp only[tg,zzX]at h;exact⟨h.1.1.1,h.1.1.2,h.1.2,h.2⟩
theorem iJ{l:List Test}(h:I7 n l=0):∀x∈l,(x.ns=1\/x.ns=2)/\HI n x.kp/\HI n x.fd:=by
 unfold I7 at h;split at h
 .cases h
 split at h
 .cases h
 have g:=UB h;intro x d;obtain⟨i,j,o,rfl⟩:=BV d;have:=g i j o;unfold NN at this;split at this
 .cases this
 split at this
 .rename_i r e;rw[tg]at e
  grind [iI]
 .cases this
theorem bV(n:Int)(l:List Test):I7 n l≠9:=by
 unfold I7;split
 .decide
 split
 .decide
 intro h;cases d:fst (fun i=>nz (NN n (AA l i))) 0 l.length with
 |none=>rw[d]at h;cases h
 |some r=>
  grind [Cw,nz,NN]
variable{t:AC}{q:ec}
theorem fj(hv:(Ax t).2=0)(h:G2 t q=0\/G2 t q=9):Qr t q:=by
 have y:=UE q.d5;unfold G2 at h;rw[az (by simp[hv])]at h;split at h
 .omega
 rename_i o;have g:=Cm (Classical.not_not.1 o);split at h
 .omega
 rename_i e;split at h
 .omega
 rename_i A;split at h
 .omega
 rename_i B;split at h
 .omega
 rename_i C;split at h
 .grind[bV]
 rename_i w;refine⟨g,(H1 g (by simpa using e)).1,by omega,by omega,fun s z=>?_,iJ (Classical.not_not.1 w),Classical.not_not.1 o,by simpa using e⟩;have j:P7 t q s=false:=by
  grind
 unfold P7 at j;simp only[Bool.or_eq_false_iff,Bool.not_eq_false',decide_eq_false_iff_not]at j;obtain⟨⟨⟨d,E⟩,F⟩,G,H⟩:=j;unfold P6 at d;dsimp only at d;split at d
 .cases d
 rename_i D;have u:=(H1 g (by simpa using e)).1 _ (AK (l:=q.d5.d3) (show 0<=s.tl by omega) (by omega));rw[IW hv u.1 u.2]at d;split at d
 .cases d
 rename_i r;have r:¬(s.kq<0\/((Ay t (AA q.d5.d3 s.tl)).length:Int)<=s.kq):=r;exact⟨by omega,by omega,by omega,by omega,by omega,by omega⟩
def LE(h:AG)(m:d6)(s:CU):Int:=AA (AA h.gn (AA m.d3 s.tl)) s.kq
def NM(h:AG)(m:d6)(s:CU)(st:Fp×a6):Fp×a6:=
 if 0<=s.j4.Var/\AA st.2 s.j4.Var=false then(BG st.1 s.j4.Var (Ae (LE h m s-s.j4.Add)),BG st.2 s.j4.Var true)else st
def EM{ρ:Type}(r:ρ)(h:AG)(m:d6)(s:CU)(st:Fp×a6):Bp (Fp×a6) ρ:=
 if Cp s.j4 (NM h m s st).1=LE h m s then .next (NM h m s st)else .ret r
structure VI(n:Int)(st:Fp×a6):Prop where
 l1:(st.1.length:Int)=n
 l2:(st.2.length:Int)=n
 small:Nn st.1
structure IC(n:Int)(h:AG)(m:d6)(s:CU):Prop where
 node:0<=s.tl/\s.tl<m.d3.length
 val:0<=AA m.d3 s.tl/\AA m.d3 s.tl<h.gn.length
 AbM:0<=s.kq/\s.kq<(AA h.gn (AA m.d3 s.tl)).length
 term:HI n s.j4
 has:-1000000<=LE h m s/\LE h m s<=1000000
variable{h:AG}{m:d6}{s:CU}
theorem OR(g:Fk t)(j:Qr t q)(hh:IB t h)(e:VL t q.d5 h.d5 m)(o:s∈q.ff):IC q.hV h m s:=by
 obtain ⟨u,w,y⟩:=j.slot s o;have z:=e.AaG;have d:=e.node s.tl u.1 (by omega);have A:=hh.row _ d.1.1 d.1.2;have r:=hh.kind _ d.1.1 d.1.2;have B:=Vm g r.2 d.2;have hv:=hh.len;refine⟨by omega,by omega,by omega,y,?_⟩;unfold LE;exact hh.low _ d.1.1 d.1.2 _ (AK w.1 (by omega))
theorem Qp{α:Type}(l:List α)(i:Int)(a:α):(BG l i a).length=l.length:=by unfold BG;rw[List.length_set]
variable{i:Int}
theorem gL{α:Type}{l:List α}{a x:α}(h:x∈BG l i a):x∈l\/x=a:=List.mem_or_eq_of_mem_set h
variable{st:Fp×a6}
theorem dl(e:IC n h m s)(hi:VI n st):VI n (NM h m s st):=by
 have g:=e.has;have j:=e.term.add;unfold NM;split
 .refine⟨by rw[Qp];exact hi.l1,by rw[Qp];exact hi.l2,fun x d=>?_⟩;rcases gL d with d|rfl
  .exact hi.small x d
  grind [As]
 .exact hi
def MO(q:ec)(h:AG)(m:d6):Fp×Int:=
 match Dq (EM (([],11):Fp×Int) h m) q.ff (List.replicate q.hV.toNat 0,List.replicate q.hV.toNat false)with
 |.inr r=>r|.inl st=>if og (fun i=>!JU (AA q.sc i) st.1) 0 q.sc.length=true then([],16)else(st.1,0)
theorem Pz(d:0<=n):VI n (List.replicate n.toNat 0,List.replicate n.toNat false):=by
 refine ⟨by simp;omega,by simp;omega,fun x e=>?_⟩
 grind
variable{st':Fp×a6}
theorem Nl{ρ:Type}{r:ρ}(d:IC n h m s)(hi:VI n st)(e:EM r h m s st=.next st'):VI n st':=by grind[EM,dl]
theorem dm{ρ:Type}{r:ρ}:EM r h m s st≠.brk st':=by grind[EM]
theorem Ms{ρ:Type}{r:ρ}{l:List CU}(d:∀s∈l,IC n h m s)(hi:VI n st)(e:Dq (EM r h m) l st=.inl st'):VI n st':=
 YH (EM r h m) (VI n) l st st' hi (fun a g _ _ j o=>Nl (d a g) j o) (fun _ _ _ _=>dm) e
theorem OH{ρ:Type}{r:ρ}(w:IC n h m s)(hi:VI n st){T:Fp×a6->Option (Bp (Fp×a6) ρ)}
  (j:∀st':Fp×a6,(st'.1.length:Int)=n->T st'=some (if Cp s.j4 st'.1=LE h m s then .next st' else .ret r)):
  ((if(decide (0<=s.j4.Var))=true then((idx st.2 s.j4.Var).bind fun o=>some (!o))else some false).bind fun u=>
   if u=true then(idx st.1 s.j4.Var).bind fun _=>(idx st.2 s.j4.Var).bind fun _=>T (BG st.1 s.j4.Var (Ae (LE h m s-s.j4.Add)),BG st.2 s.j4.Var true)else T (st.1,st.2))=some (EM r h m s st):=by
 have y:=w.term.high;have l1:=hi.l1;have l2:=hi.l2;unfold EM;by_cases d:0<=s.j4.Var
 .rw[ae (by simpa using d),AD d (by omega),bs,bs];by_cases g:AA st.2 s.j4.Var=false
  .rw[ae (by simp[g]),AD d (by omega),bs,bs,j _ (by dsimp only;rw[Qp];exact l1)];have e:NM h m s st=(BG st.1 s.j4.Var (Ae (LE h m s-s.j4.Add)),BG st.2 s.j4.Var true):=by unfold NM;rw[ae ⟨d,g⟩]
   rw [e]
  .rw[az (by simpa using g),j _ l1];have e:NM h m s st=st:=by unfold NM;rw[az (fun e=>g e.2)]
   rw [e]
 .rw[az (by simpa using d),bs,az (by decide),j _ l1];have e:NM h m s st=st:=by unfold NM;rw[az (fun e=>d e.1)]
  rw [e]
theorem Yw{ρ:Type}{r:ρ}(j:IC n h m s)(hi:VI n st){T:Fp×a6->Option (Bp (Fp×a6) ρ)}
  (o:∀st':Fp×a6,(st'.1.length:Int)=n->T st'=some (if Cp s.j4 st'.1=LE h m s then .next st' else .ret r)):
  ((if(decide (0<=s.j4.Var))=true then((idx st.2 s.j4.Var).bind fun d=>some (!d))else some false).bind fun e=>
   if e=true then(idx st.2 s.j4.Var).bind fun _=>(idx st.1 s.j4.Var).bind fun _=>T (BG st.1 s.j4.Var (Ae (LE h m s-s.j4.Add)),BG st.2 s.j4.Var true)else T (st.1,st.2))=some (EM r h m s st):=by
 rw [<-OH j hi o];have u:=j.term.high;have l1:=hi.l1;have l2:=hi.l2;by_cases g:0<=s.j4.Var
 .rw[AD g (by omega),AD g (by omega)];rfl
 .rw[az (by simpa using g)];rfl
variable{v:Int}
theorem V8{t:j4}{f:j4->Fp->QQ}(hf:∀l:Fp,(l.length:Int)=n->f t l=some (Cp t l))(st':Fp×a6)(e:(st'.1.length:Int)=n):((f t st'.1).bind fun d=>if(!decide (d=v))=true then some (Bp.ret (([],11):Fp×Int))else some (.next st'))=some (if Cp t st'.1=v then .next st' else .ret ([],11)):=by grind
theorem kR(u:Qr t q)(w:∀s∈q.ff,IC q.hV h m s):Fm q h m=some (MO q h m):=by
 have hv:=u.vars;unfold Fm MO IJ;rw[ae (by omega),bs,ae (by omega),bs];rw[O3 (EM (([],11):Fp×Int) h m) (VI q.hV) (Pz hv.1)]
 .cases z:Dq (EM (([],11):Fp×Int) h m) q.ff (List.replicate q.hV.toNat 0,List.replicate q.hV.toNat false)with
  |inr r=>rfl|inl st=>
   have hi:=Ms w (Pz hv.1) z;rw[Bh,BP (fun i=>!JU (AA q.sc i) st.1) ([],16)]
   .dsimp only;cases og (fun i=>!JU (AA q.sc i) st.1) 0 q.sc.length<;>rfl
   .intro i g j _;have y:=u.test _ (AK g j);rw[AD g j,bs,p_holds y.2.1 y.2.2 hi.small (by have:=hi.l1;omega),bs]
    grind
 .intro i st g j hi;have d:=w _ (AK g j);refine⟨?_,fun s' e=>Nl d hi e⟩;rw[AD g j,bs,AD d.node.1 d.node.2,bs,AD d.val.1 d.val.2,bs,AD d.AbM.1 d.AbM.2,bs];exact OH d hi (T:=fun st'=>(Dy (AA q.ff i).j4 st'.1).bind fun o=>if(!decide (o=LE h m (AA q.ff i)))=true then some (Bp.ret (([],11):Fp×Int))else some (.next st')) (V8 fun l A=>SB (by have:=d.term.high;omega))
theorem ko(u:Qr t q)(w:∀s∈q.ff,IC q.hV h m s):Jv q h m=some (MO q h m):=by
 have hv:=u.vars;unfold Jv MO IJ;rw[ae (by omega),bs,ae (by omega),bs];rw[O3 (EM (([],11):Fp×Int) h m) (VI q.hV) (Pz hv.1)]
 .cases z:Dq (EM (([],11):Fp×Int) h m) q.ff (List.replicate q.hV.toNat 0,List.replicate q.hV.toNat false)with
  |inr r=>rfl|inl st=>
   have hi:=Ms w (Pz hv.1) z;rw[Bh,BP (fun i=>!JU (AA q.sc i) st.1) ([],16)]
   .dsimp only;cases og (fun i=>!JU (AA q.sc i) st.1) 0 q.sc.length<;>rfl
   .intro i g j _;have y:=u.test _ (AK g j);rw[AD g j,bs,r_holds y.2.1 y.2.2 (by have:=hi.l1;omega),bs]
    grind
 .intro i st g j hi;have d:=w _ (AK g j);refine⟨?_,fun s' e=>Nl d hi e⟩;rw[AD g j,bs,AD d.node.1 d.node.2,bs,AD d.val.1 d.val.2,bs,AD d.AbM.1 d.AbM.2,bs];exact Yw d hi (T:=fun st'=>(Hz (AA q.ff i).j4 st'.1).bind fun o=>if(!decide (o=LE h m (AA q.ff i)))=true then some (Bp.ret (([],11):Fp×Int))else some (.next st')) (V8 fun l A=>V1 (by have:=d.term.high;omega))
def PE(t:AC)(p:ec)(h:AG):Int:=if G2 t p≠0 then G2 t p else(H7 t h).2
theorem cq(hf:At t)(p:ec)(h:AG):DQ t p h=some (PE t p h):=by
 unfold DQ PE;rw[UY hf,bs];refine DW fun _=>?_;rw[UX hf];rfl
theorem dG(hf:At t)(p:ec)(h:AG):Kk t p h=some (PE t p h):=by
 unfold Kk PE;rw[Wh hf,bs];refine DW fun _=>?_;rw[Uf hf];rfl
def FA(t:AC)(p:ec)(h:AG)(m:d6):Fp×Int:=
 if PE t p h≠0 then([],PE t p h)else if F5 t p.d5 h.d5 m false≠0 then([],F5 t p.d5 h.d5 m false)else MO p h m
variable{p:ec}{inj:Bool}
theorem S8(hf:At t)(d:PE t p h=0)(e:F5 t p.d5 h.d5 m inj=0):(Ax t).2=0/\Qr t p/\IB t h/\VL t p.d5 h.d5 m:=by
 unfold PE at d;split at d
 .grind
 rename_i g;obtain⟨hv,hh⟩:=SX hf d;exact⟨hv,fj hv (.inl (Classical.not_not.1 g)),hh,(W6 e).2⟩
theorem ZT(hf:At t)(p:ec)(h:AG)(m:d6):DP t p h m=some (FA t p h m):=by
 unfold DP FA;rw[cq hf,bs];refine Ee fun e=>?_;rw[VB hf,bs];refine Ee fun g=>?_;obtain⟨hv,d,hh,o⟩:=S8 hf e g;rw[kR d (fun s j=>OR (DF hv) d hh o j)];rfl
theorem kV(hf:At t)(p:ec)(h:AG)(m:d6):Kj t p h m=some (FA t p h m):=by
 unfold Kj FA;rw[dG hf,bs];refine Ee fun e=>?_;rw[VF hf,bs];refine Ee fun g=>?_;obtain⟨hv,d,hh,o⟩:=S8 hf e g;rw[ko d (fun s j=>OR (DF hv) d hh o j)];rfl
theorem dn(g:Qr t q)(j:∀s∈q.ff,IC q.hV h m s)(e:(MO q h m).2=0):((MO q h m).1.length:Int)=q.hV/\Nn (MO q h m).1:=by
 unfold MO at e|-;cases d:Dq (EM (([],11):Fp×Int) h m) q.ff (List.replicate q.hV.toNat 0,List.replicate q.hV.toNat false)with
 |inr r=>
  rw [d]at e;have:∀(l:List CU)(st:Fp×a6)(r:Fp×Int),Dq (EM (([],11):Fp×Int) h m) l st=.inr r->r=([],11):=by
   intro l
   induction l with
   |nil=>intro st r h;cases h
   |cons a l u=>
    grind [Dq,EM]
  grind
 |inl st=>
  rw [d]at e;have hi:=Ms j (Pz g.vars.1) d;dsimp only at e|-;split at e
  .cases e
  .rename_i o;rw[az o];exact⟨hi.l1,hi.small⟩
end Go.Sf.Sc
namespace Go.Sf.Sc
open Go Go.Sf
variable{i:Int}
theorem GY{n:Nat}{α:Type}[Inhabited α](F:Int->α)(d:0<=i)(v:α):BG ((Ao n).map F) i v=(Ao n).map fun j=>if j=i then v else F j:=by
 unfold BG;refine List.ext_getElem (by simp) (fun k e g=>?_)
 grind [A3,Ao]
theorem CG{n:Nat}{α:Type}{F G:Int->α}(h:∀j,0<=j->j<(n:Int)->F j=G j):(Ao n).map F=(Ao n).map G:=by grind[List.map_congr_left,EQ]
def GD(n:Nat)(k:Int):a6:=(Ao n).map fun j=>decide (j<k)
theorem UL(n:Nat):GD n 0=List.replicate n false:=by
 unfold GD;refine List.ext_getElem (by simp[A3]) (fun k d e=>?_)
 grind [Ao,A3]
theorem Vn(n:Nat)(k:Int):(GD n k).length=n:=by unfold GD;rw[ca,A3]
def LA(q:ec)(h:AG)(m:d6)(given:Fp):Fp×Bool:=
 match Dq (EM (([],false):Fp×Bool) h m) q.ff (given++List.replicate (q.hV-given.length).toNat 0,GD q.hV.toNat given.length)with
 |.inr r=>r|.inl st=>if og (fun i=>!JU (AA q.sc i) st.1) 0 q.sc.length=true then([],false)else(st.1,true)
variable{n:Int}{given:Fp}
theorem Tg(e:0<=n)(g:given.length<=n)(hv:Nn given):VI n (given++List.replicate (n-given.length).toNat 0,GD n.toNat given.length):=by
 refine ⟨by simp;omega,by show((GD n.toNat given.length).length:Int)=n;rw[Vn];omega,fun x d=>?_⟩;rcases List.mem_append.1 d with d|d
 .exact hv x d
 grind
variable{q:ec}{m:d6}{t:AC}
theorem nV{s:Al}(w:Qr t q)(y:∀x∈q.ff,IC q.hV s.h m x)(B:given.length<=q.hV)(hv:Nn given):Da s q m given=some (LA q s.h m given):=by
 have D:=w.vars;unfold Da LA slices_Clone_int;rw[BO (by unfold Ad;omega),bs,As (by omega) (by omega)];have E:TA given (q.hV-given.length) 0=some (given++List.replicate (q.hV-given.length).toNat 0):=by
  grind [TA,Ad]
 have F:IJ q.hV false=some (List.replicate q.hV.toNat false):=by
  grind [IJ]
 rw [E,bs,F,bs];have G:sr (fun(d:Int)(z:a6)=>(idx z d).bind fun C=>some (BG z d true)) 0 (given.length:Int) (List.replicate q.hV.toNat false)=some (GD q.hV.toNat given.length):=by
  refine Bk (fun i=>GD q.hV.toNat i) (by omega) (UL _) (fun i d j=>?_);rw[AD d (by rw[Vn];omega),bs];congr 1;unfold GD;rw[GY _ d]
  grind
 rw [G,bs];have u:=Tg D.1 B hv;rw[O3 (EM (([],false):Fp×Bool) s.h m) (VI q.hV) u]
 .cases H:Dq (EM (([],false):Fp×Bool) s.h m) q.ff (given++List.replicate (q.hV-given.length).toNat 0,GD q.hV.toNat given.length)with
  |inr r=>rfl|inl st=>
   have hi:=Ms y u H;rw[Bh,BP (fun i=>!JU (AA q.sc i) st.1) ([],false)]
   .dsimp only;cases og (fun i=>!JU (AA q.sc i) st.1) 0 q.sc.length<;>rfl
   .intro i d j _;have A:=w.test _ (AK d j);rw[AD d j,bs,p_holds A.2.1 A.2.2 hi.small (by have:=hi.l1;omega),bs]
    grind
 .intro i st d j hi;have g:=y _ (AK d j);refine⟨?_,fun s' e=>Nl g hi e⟩;rw[AD d j,bs,AD g.node.1 g.node.2,bs,AD g.val.1 g.val.2,bs,AD g.AbM.1 g.AbM.2,bs];refine OH g hi (T:=fun st'=>(ES (AA q.ff i).j4 st'.1).bind fun o=>if((!decide (o.2=0))||(!decide (o.1=LE s.h m (AA q.ff i))))=true then some (Bp.ret (([],false):Fp×Bool))else some (.next st')) (fun st' I=>?_);rw[Xl g.term.low (by have:=g.term.high;omega) (by omega),bs]
  grind
variable{h:AG}
theorem n9(C:Qr t q)(D:∀x∈q.ff,IC q.hV h m x)(I:given.length<=q.hV)(hv:Nn given):Jx q h m given=some (LA q h m given):=by
 have G:=C.vars;unfold Jx LA;have L:IJ q.hV false=some (List.replicate q.hV.toNat false):=by
  unfold IJ;rw[ae (by omega)]
 rw [BO (by unfold Ad;omega),bs,L,bs];have H:sr (fun(d:Int)(u:Fp×a6)=>
   (idx u.2 d).bind fun J=>
   if (decide ((given.length:Int)<=d))=true then
   (Ah u.1 [0]).bind fun A=>
   some (A,BG u.2 d (decide (d<(given.length:Int))))
   else
   some (u.1,BG u.2 d (decide (d<(given.length:Int))))) 0 q.hV (given,List.replicate q.hV.toNat false)=some (given++List.replicate (q.hV-given.length).toNat 0,(Ao q.hV.toNat).map fun j=>decide (j<q.hV)&&decide (j<(given.length:Int))):=by
  refine Bk (fun i=>(given++List.replicate (i-given.length).toNat 0,(Ao q.hV.toNat).map fun j=>decide (j<i)&&decide (j<(given.length:Int)))) G.1 ?_ (fun i d o=>?_)
  .have M:((0:Int)-given.length).toNat=0:=by omega
   rw [M];simp only[List.replicate_zero,List.append_nil,Prod.mk.injEq,true_and];rw[<-UL];unfold GD;refine CG (fun j E F=>?_);rw[show decide (j<0)=false by simp;omega];rfl
  .dsimp only;rw[AD d (by rw[ca,A3];omega),bs];have N:BG ((Ao q.hV.toNat).map fun j=>decide (j<i)&&decide (j<(given.length:Int))) i (decide (i<(given.length:Int)))=(Ao q.hV.toNat).map fun j=>decide (j<i+1)&&decide (j<(given.length:Int)):=by
    rw [GY _ d];refine CG (fun j E F=>?_);by_cases e:j=i
    .rw[ae e,e,show decide (i<i+1)=true by simp;omega,Bool.true_and]
    .rw[az e];congr 1;rw[decide_eq_decide];omega
   rw [N];by_cases hi:(given.length:Int)<=i
   .rw[ae (by simpa using hi),Af (by simp;unfold Ad;omega),bs];congr 2;rw[ci,show(i+1-given.length).toNat=(i-given.length).toNat+1 by omega,List.replicate_succ']
   .rw[az (by simpa using hi)];have O:(i+1-given.length).toNat=(i-given.length).toNat:=by omega
    rw [O]
 have B:((Ao q.hV.toNat).map fun j=>decide (j<q.hV)&&decide (j<(given.length:Int)))=GD q.hV.toNat given.length:=by
  unfold GD;refine CG (fun j E F=>?_);rw[show decide (j<q.hV)=true by simp;omega,Bool.true_and]
 rw [B]at H;rw[H,bs];have y:=Tg G.1 I hv;dsimp only;rw[O3 (EM (([],false):Fp×Bool) h m) (VI q.hV) y]
 .cases P:Dq (EM (([],false):Fp×Bool) h m) q.ff (given++List.replicate (q.hV-given.length).toNat 0,GD q.hV.toNat given.length)with
  |inr r=>rfl|inl st=>
   have hi:=Ms D y P;rw[Bh,BP (fun i=>!JU (AA q.sc i) st.1) ([],false)]
   .dsimp only;cases og (fun i=>!JU (AA q.sc i) st.1) 0 q.sc.length<;>rfl
   .intro i d o _;have z:=C.test _ (AK d o);have K:=hi.l1;rw[AD d o,bs,Mq z.2.1.low (by have:=z.2.1.high;omega),bs,Mq z.2.2.low (by have:=z.2.2.high;omega),bs,<-Hs];unfold JU;dsimp only;congr 1;generalize Cp (AA q.sc i).kp st.1=a;generalize Cp (AA q.sc i).fd st.1=b;rcases z.1 with e|e
    .rw[e,eq_iff_iff];simp
    .rw[e,eq_iff_iff];simp
 .intro i st d o hi;have g:=D _ (AK d o);refine⟨?_,fun s' e=>Nl g hi e⟩;rw[AD d o,bs,AD g.node.1 g.node.2,bs,AD g.val.1 g.val.2,bs,AD g.AbM.1 g.AbM.2,bs];refine OH g hi (T:=fun st'=>(EK (AA q.ff i).j4 st'.1).bind fun w=>if(!decide (w.1=LE h m (AA q.ff i)))=true then some (Bp.ret (([],false):Fp×Bool))else some (.next st')) (fun st' K=>?_);rw[Mq g.term.low (by have:=g.term.high;omega),bs];by_cases e:Cp (AA q.ff i).j4 st'.1=LE h m (AA q.ff i)
  .rw[az (by simp[e]),ae e]
  .rw[ae (by simp[e]),az e]
theorem iM(j:Qr t q)(o:∀s∈q.ff,IC q.hV h m s)(u:given.length<=q.hV)(hv:Nn given)(e:(LA q h m given).2=true):((LA q h m given).1.length:Int)=q.hV/\Nn (LA q h m given).1:=by
 unfold LA at e|-;have d:=Tg j.vars.1 u hv;cases g:Dq (EM (([],false):Fp×Bool) h m) q.ff (given++List.replicate (q.hV-given.length).toNat 0,GD q.hV.toNat given.length)with
 |inr r=>
  rw [g]at e;have:∀(l:List CU)(st:Fp×a6)(r:Fp×Bool),Dq (EM (([],false):Fp×Bool) h m) l st=.inr r->r=([],false):=by
   intro l
   induction l with
   |nil=>intro st r h;cases h
   |cons a l y=>
    grind [Dq,EM]
  grind
 |inl st=>
  rw [g]at e;have hi:=Ms o d g;dsimp only at e|-;split at e
  .cases e
  .rename_i w;rw[az w];exact⟨hi.l1,hi.small⟩
def SC(n:Nat)(by' images:Fp):Fp:=(Ao by'.length).foldl (fun l i=>BG l (AA by' i) (AA images i)) (List.replicate n (-1))
theorem Va(d images:Fp):∀(e:Fp)(l:Fp),(e.foldl (fun l i=>BG l (AA d i) (AA images i)) l).length=l.length
 |[],l=>rfl|k::e,l=>by rw[List.foldl_cons,Va d images e,Qp]
theorem Uc{n:Nat}{d images:Fp}(y:∀x∈d,0<=x/\x<n)(z:d.length<=images.length):sr (fun(g:Int)(o:Fp)=>
  (idx d g).bind fun e=>
  (idx images g).bind fun j=>
  (idx o e).bind fun r=>
  some (BG o e j)) 0 (d.length:Int) (List.replicate n (-1))=some (SC n d images):=by
 have h:=Bk (f:=fun(g:Int)(o:Fp)=>
  (idx d g).bind fun e=>
  (idx images g).bind fun j=>
  (idx o e).bind fun r=>
  some (BG o e j)) (fun i=>(Ao i.toNat).foldl (fun l i=>BG l (AA d i) (AA images i)) (List.replicate n (-1))) (a:=0) (b:=d.length) (s:=List.replicate n (-1)) (by omega) rfl (fun i g u=>by
   have w:=y _ (AK g u);rw[AD g u,bs,AD g (by omega),bs,AD w.1 (by rw[Va];simpa using w.2),bs,FV g,List.foldl_append];rfl)
 rw [h,Int.toNat_natCast];rfl
theorem Xr{n:Nat}{d images:Fp}(j:n<=1000)(e:∀x∈d,0<=x/\x<n)(g:d.length<=images.length):FE n d images=some (SC n d images):=by
 unfold FE Dx;rw[ae ⟨rfl,by omega,by omega⟩,bs];show(sr _ 0 _ (List.replicate (n:Int).toNat (-1))).bind _=_;rw[Int.toNat_natCast,Uc e g];rfl
theorem X2{n:Nat}{d images:Fp}(j:n<=1000)(e:∀x∈d,0<=x/\x<n)(g:d.length<=images.length):IT n d images=some (SC n d images):=by
 unfold IT;rw[Bk (a:=0) (b:=n) (s:=[]) (fun i=>List.replicate i.toNat (-1)) (by omega) rfl,bs,Int.toNat_natCast,Uc e g]
 .rfl
 .intro i o r;rw[Af (by simp;unfold Ad;omega),bs,show(i+1).toNat=i.toNat+1 by omega,List.replicate_succ']
end Go.Sf.Sc
namespace Go.Sf.Sc
open Go Go.Sf
structure iQ(f:AI):Prop where
 nl:f.ei.length<=f.p.d3.length
 node:∀i:Int,0<=i->i<f.ei.length->(0<=AA f.ei i/\AA f.ei i<f.g.d3.length)/\AA (AA f.is (AA f.p.d3 i)) (AA f.g.d3 (AA f.ei i))=true
 edge:∀i:Int,0<=i->i<f.em.length->(0<=AA f.em i/\AA f.em i<f.g.d4.length)/\AA f.g.d4 (AA f.em i)=⟨(AA f.p.d4 i).mo,AA f.ei (AA f.p.d4 i).ne,AA f.ei (AA f.p.d4 i).To⟩
 inj:f.ej=true->f.ei.Nodup/\f.em.Nodup
structure Z3(f:AI)(m:d6):Prop where
 nl:m.d3.length=f.p.d3.length
 el:m.d4.length=f.p.d4.length
 node:∀i:Int,0<=i->i<m.d3.length->(0<=AA m.d3 i/\AA m.d3 i<f.g.d3.length)/\AA (AA f.is (AA f.p.d3 i)) (AA f.g.d3 (AA m.d3 i))=true
 edge:∀i:Int,0<=i->i<m.d4.length->(0<=AA m.d4 i/\AA m.d4 i<f.g.d4.length)/\AA f.g.d4 (AA m.d4 i)=⟨(AA f.p.d4 i).mo,AA m.d3 (AA f.p.d4 i).ne,AA m.d3 (AA f.p.d4 i).To⟩
 inj:f.ej=true->m.d3.Nodup/\m.d4.Nodup
variable{i:Int}
theorem Y4{α:Type}[Inhabited α](l:List α)(x:α)(h:i=l.length):AA (l++[x]) i=x:=by grind[LM]
variable{l:Fp}{k:Int}
theorem UR{b:Bool}(h:(!(b&&l.any fun x=>decide (k=x)))=true)(d:b=true)(e:l.Nodup):(l++[k]).Nodup:=by grind
theorem VM:∀(n:Nat)(f:AI),iQ f->f.ei.length=f.p.d3.length->f.em.length+n=f.p.d4.length->∀m∈D7 n f,Z3 f m
 |0,f,j,z,he,m,d=>by
  rw [D7,List.mem_singleton]at d;subst d;exact⟨z,by simpa using he,j.node,j.edge,j.inj⟩
 |n+1,f,j,z,he,m,d=>by
  rw [D7,List.mem_flatMap]at d;obtain⟨k,w,d⟩:=d;have w:=EQ.1 w;split at d
  .rename_i o;unfold Qw at o;rw[tg]at o;obtain⟨r,y⟩:=o;rw[Tb,tg,zzX]at r;have:=VM n {f with em:=f.em++[k]} ⟨j.nl,j.node,fun i A u=>by
    have u:i<((f.em++[k]).length:Int):=u;simp only[cE,List.length_singleton]at u;show(0<=AA (f.em++[k]) i/\AA (f.em++[k]) i<f.g.d4.length)/\AA f.g.d4 (AA (f.em++[k]) i)=⟨(AA f.p.d4 i).mo,AA f.ei (AA f.p.d4 i).ne,AA f.ei (AA f.p.d4 i).To⟩;by_cases e:i=f.em.length
    .rw[Y4 _ _ e];exact⟨w,by rw[e];exact r.2⟩
    .rw[Wv _ _ A (by omega)];exact j.edge i A (by omega),fun hi=>⟨(j.inj hi).1,UR y hi (j.inj hi).2⟩⟩ z (by show(f.em++[k]).length+n=f.p.d4.length;rw[cE,List.length_singleton];omega) m d
   exact ⟨this.nl,this.el,this.node,this.edge,this.inj⟩
  .cases d
theorem VN:∀(n:Nat)(f:AI),iQ f->f.em=[]->f.ei.length+n=f.p.d3.length->∀m∈F3 n f,Z3 f m
 |0,f,r,he,A,m,o=>by
  grind [F3,VM]
 |n+1,f,r,he,A,m,o=>by
  rw [F3,List.mem_flatMap]at o;obtain⟨k,w,o⟩:=o;have w:=EQ.1 w;split at o
  .rename_i j;unfold Qx at j;rw[tg,tg]at j;obtain⟨⟨_,y⟩,z⟩:=j;have:=VN n {f with ei:=f.ei++[k]} ⟨by show(f.ei++[k]).length<=f.p.d3.length;rw[cE,List.length_singleton];omega,fun i u d=>by
    have d:i<((f.ei++[k]).length:Int):=d;simp only[cE,List.length_singleton]at d;show(0<=AA (f.ei++[k]) i/\AA (f.ei++[k]) i<f.g.d3.length)/\AA (AA f.is (AA f.p.d3 i)) (AA f.g.d3 (AA (f.ei++[k]) i))=true;by_cases e:i=f.ei.length
    .rw[Y4 _ _ e];exact⟨w,by rw[e];exact y⟩
    .rw[Wv _ _ u (by omega)];exact r.node i u (by omega),fun i u d=>by
    have d:i<(f.em.length:Int):=d;rw[he]at d;have:i<(0:Nat):=d;omega,fun hi=>⟨UR z hi (r.inj hi).1,(r.inj hi).2⟩⟩ he (by show(f.ei++[k]).length+n=f.p.d3.length;rw[cE,List.length_singleton];omega) m o
   exact ⟨this.nl,this.el,this.node,this.edge,this.inj⟩
  .cases o
variable{t:AC}{pa:d6}{inj:Bool}{m:d6}
theorem aL{p g:d5}(e:m∈NS t p g pa inj):Z3 (FF t p g pa inj) m:=
 VN _ (FF t p g pa inj) ⟨Nat.zero_le _,fun i j d=>by have d:i<(0:Nat):=d;omega,fun i j d=>by have d:i<(0:Nat):=d;omega,fun _=>⟨List.nodup_nil,List.nodup_nil⟩⟩ rfl (by show 0+p.d3.length=p.d3.length;omega) m (List.mem_of_mem_take e)
theorem fF{p g:d5}(h:FW t p g=0)(u:m∈NS t p g pa inj):VL t p g m:=by
 obtain ⟨hv,A,B,tp,w⟩:=Mh h;have:=aL u;refine⟨this.nl,this.el,fun i d e=>?_,fun i d e=>(this.edge i d e).1⟩;obtain⟨j,r⟩:=this.node i d e;refine⟨j,?_⟩;have o:=this.nl;have y:=tp _ (AK (l:=p.d3) d (by show i<(p.d3.length:Int);have o:m.d3.length=p.d3.length:=o;omega));have z:=w _ (AK (l:=g.d3) j.1 j.2);have r:AA (AA (Iv t) (AA p.d3 i)) (AA g.d3 (AA m.d3 i))=true:=r
 grind [AA,Iv,ML,HD,IY]
theorem XC{p g:d5}(h:(QL t p g pa inj).2=0):(QL t p g pa inj).1.length<=5000/\∀m∈(QL t p g pa inj).1,VL t p g m:=by grind[QL,fF]
structure Ti(t:AC)(p:ec)(h:AG)(x:AM):Prop where
 q:Qr t p
 m:VL t p.d5 h.d5 x.d6
 len:(x.hV.length:Int)=p.hV
 small:Nn x.hV
structure bf(t:AC)(p:ec)(c:d7):Prop where
 q:Qr t c.ec
 vars:p.hV<=c.ec.hV
 map:WT p.d5 c.ec.d5 c.Map
 inj:Jm c.Map=true
def DR(t:AC)(c:d7)(h:AG)(m:AM)(inj:Bool):List AM×Int:=
 let x:=QL t c.ec.d5 h.d5 ⟨SC c.ec.d5.d3.length c.Map.d3 m.d6.d3,SC c.ec.d5.d4.length c.Map.d4 m.d6.d4⟩ inj
 if x.2≠0 then([],x.2)else((x.1.filter fun y=>(LA c.ec h y m.hV).2).map fun y=>⟨y,(LA c.ec h y m.hV).1⟩,0)
instance:Inhabited d6:=⟨⟨[],[]⟩⟩
instance:Inhabited AM:=⟨⟨default,[]⟩⟩
instance:Inhabited Az:=⟨⟨0,default,[]⟩⟩
theorem Su{x:List d6}{F:d6->Fp×Bool}{f:Int->List AM->Option (List AM)}(o:x.length<=5000)
  (hf:∀(i:Int)(s:List AM),0<=i->i<x.length->s.length<=5000->f i s=some (if(F (AA x i)).2=true then s++[⟨AA x i,(F (AA x i)).1⟩]else s)):
  sr f 0 (x.length:Int) []=some ((x.filter fun y=>(F y).2).map fun y=>⟨y,(F y).1⟩):=by
 rw [Bk (a:=0) (b:=x.length) (s:=[]) (fun i=>((x.take i.toNat).filter fun y=>(F y).2).map fun y=>(⟨y,(F y).1⟩:AM)) (by omega) rfl,Int.toNat_natCast,List.take_length];intro i d e;have g:(((x.take i.toNat).filter fun y=>(F y).2).map fun y=>(⟨y,(F y).1⟩:AM)).length<=5000:=by
  grind
 rw [hf i _ d e g,CD d e,List.filter_append,List.map_append];cases j:(F (AA x i)).2<;>simp[j]
variable{p:ec}{c:d7}
theorem nI{s:Al}{m:AM}(hf:At s.t)(hv:(Ax s.t).2=0)(hh:IB s.t s.h)(o:Ti s.t p s.h m)(hi:bf s.t p c):Bm s c m=some (DR s.t c s.h m s.ej):=by
 have C:=hi.q.g.ei;have ge:=hi.q.g.em;have m1:=hi.map.AaG;have D:=hi.map.AaP;have E:=o.m.AaG;have G:=o.m.AaP;unfold Bm DR;rw[Xr (by omega) (fun x j=>by obtain⟨i,d,e,rfl⟩:=BV j;exact(hi.map.node i d e).1) (by omega),bs,
  Xr (by omega) (fun x j=>by obtain⟨i,d,e,rfl⟩:=BV j;exact(hi.map.edge i d e).1) (by omega),bs,fa hf,bs]
 dsimp only;refine Ee fun r=>?_;obtain⟨z,A⟩:=XC r;rw[Su (F:=fun y=>LA c.ec s.h y m.hV) z]
 .rfl
 .intro i st d e B;have u:=A _ (AK d e);have w:(m.hV.length:Int)<=c.ec.hV:=by have:=o.len;have:=hi.vars;omega
  rw [AD d e,bs,nV hi.q (fun x j=>OR (DF hv) hi.q hh u j) w o.small,bs,<-Hs]
  grind [Af,Ad]
variable{h:AG}
theorem nf{m:AM}(hf:At t)(hv:(Ax t).2=0)(hh:IB t h)(o:Ti t p h m)(hi:bf t p c):Gn t c h m inj=some (DR t c h m inj):=by
 have C:=hi.q.g.ei;have ge:=hi.q.g.em;have m1:=hi.map.AaG;have D:=hi.map.AaP;have E:=o.m.AaG;have G:=o.m.AaP;unfold Gn DR;rw[X2 (by omega) (fun x j=>by obtain⟨i,d,e,rfl⟩:=BV j;exact(hi.map.node i d e).1) (by omega),bs,
  X2 (by omega) (fun x j=>by obtain⟨i,d,e,rfl⟩:=BV j;exact(hi.map.edge i d e).1) (by omega),bs,fk hf,bs]
 dsimp only;refine Ee fun r=>?_;obtain⟨z,A⟩:=XC r;rw[Su (F:=fun y=>LA c.ec h y m.hV) z]
 .rfl
 .intro i st d e B;have u:=A _ (AK d e);have w:(m.hV.length:Int)<=c.ec.hV:=by have:=o.len;have:=hi.vars;omega
  rw [AD d e,bs,n9 hi.q (fun x j=>OR (DF hv) hi.q hh u j) w o.small,bs,<-Hs]
  grind [Af,Ad]
theorem ZE{m:AM}(hv:(Ax t).2=0)(hh:IB t h)(j:Ti t p h m)(hi:bf t p c)(e:(DR t c h m inj).2=0):(DR t c h m inj).1.length<=5000/\∀x∈(DR t c h m inj).1,Ti t c.ec h x:=by
 unfold DR at e|-;dsimp only at e|-;split at e
 .grind
 rename_i o;rw[az o];obtain⟨w,z⟩:=XC (Classical.not_not.1 o);refine⟨by dsimp only;rw[ca];exact Nat.le_trans (List.length_filter_le _ _) w,fun x d=>?_⟩;dsimp only at d;rw[List.mem_map]at d;obtain⟨y,g,rfl⟩:=d;rw[List.mem_filter]at g;have r:=z y g.1;have u:(m.hV.length:Int)<=c.ec.hV:=by have:=j.len;have:=hi.vars;omega
 have:=iM hi.q (fun x d=>OR (DF hv) hi.q hh r d) u j.small g.2;exact⟨hi.q,r,this.1,this.2⟩
end Go.Sf.Sc
namespace Go.Sf.Sc
open Go Go.Sf
inductive CV(t:AC):ec->d7->Prop where
 |mk (p:ec) (c:d7) (few:c.gt.length<=40) (rng:1<=c.ns/\c.ns<=5) (one:c.ns=2\/c.ns=5->c.gt.length=1) (ins:c.ns=5->bf t p c) (kids:∀k∈c.gt,CV t (if c.ns=5 then c.ec else p) k):CV t p c
variable{t:AC}{p:ec}{c:d7}
theorem CV.few(h:CV t p c):c.gt.length<=40:=by cases h;assumption
theorem CV.rng(h:CV t p c):1<=c.ns/\c.ns<=5:=by cases h;assumption
theorem CV.one(h:CV t p c):c.ns=2\/c.ns=5->c.gt.length=1:=by cases h;assumption
theorem CV.ins(h:CV t p c):c.ns=5->bf t p c:=by cases h;assumption
theorem CV.kids(h:CV t p c):∀k∈c.gt,CV t (if c.ns=5 then c.ec else p) k:=by cases h;assumption
theorem CV.kid(h:CV t p c)(d:¬c.ns=5):∀k∈c.gt,CV t p k:=fun k e=>by have:=h.kids k e;rwa[az d]at this
theorem CV.kid5(h:CV t p c)(d:c.ns=5):∀k∈c.gt,CV t c.ec k:=fun k e=>by have:=h.kids k e;rwa[ae d]at this
theorem Rh:∀l:List d7,l.length<=PT l
 |[]=>by simp|c::l=>by
  have:=Rh l
  grind [PT,EN,Ri,c8]
variable{q:ec}{v:Int}
theorem rB(hv:(Ax t).2=0)(h:R0 t q v=0):Qr t q:=by grind[R0,fj]
theorem iW(hv:(Ax t).2=0):∀(N:Nat)(c:d7)(p:ec),SizeOf.sizeOf c<=N->EN c<=40->P1 N c=true->Jc N t p c=0->CV t p c
 |0,c,_,h,_,_,_=>by have:=D4 c;omega|N+1,c,p,h,M,z,ho=>by
  have E:=Ri c;have F:=Rh c.gt;rw[P1,tg]at z;obtain⟨u,o⟩:=z;have d:c.ns=2\/c.ns=5->c.gt.length=1:=by
   intro j;unfold QU at u
   grind
  have g:1<=c.ns/\c.ns<=5:=by
   grind [QU]
  have w:∀q,(fst (fun i=>nz (Jc N t q (AA c.gt i))) 0 c.gt.length).getD 0=0->∀k∈c.gt,CV t q k:=by
   intro q A k j;have G:=UB A;have K:=TE j;have L:=Ey j;rw[List.all_eq_true]at o;obtain⟨i,H,I,e⟩:=BV j;have y:=G i H I;rw[e]at y;exact iW hv N k q (by omega) (by omega) (o k j) y
  rw [Jc]at ho;by_cases r:c.ns=5
  .rw[ae r]at ho;split at ho
   .cases ho
   rename_i J;split at ho
   .grind
   rename_i B;split at ho
   .grind
   rename_i C;split at ho
   .cases ho
   rename_i D;refine CV.mk p c (by omega) g d (fun _=>⟨rB hv (Classical.not_not.1 B),by omega,SY (Classical.not_not.1 C),by simpa using D⟩) ?_
   grind
  .rw[az r]at ho;refine CV.mk p c (by omega) g d (fun e=>absurd e r) ?_
   grind
section
variable{α σ ρ:Type}
variable{f:Int->σ->Option (Bp σ ρ)}
theorem Qu[Inhabited α]{l:List α}(step:α->σ->Bp σ ρ)(I:Int->σ->Prop)(h:∀(i:Int)s,0<=i->i<l.length->I i s->f i s=some (step (AA l i) s)/\∀s',step (AA l i) s=.next s'->I (i+1) s'):
  ∀(n:Nat)(a:Int)(s:σ),0<=a->a+n=l.length->I a s->Aae f n a s=some (Dq step (l.drop a.toNat) s)
 |0,a,s,d,o,_=>by
  rw [List.drop_eq_nil_of_le (by omega)];rfl
 |n+1,a,s,d,o,u=>by
  obtain ⟨g,j⟩:=h a s d (by omega) u;have hd:l.drop a.toNat=AA l a::l.drop (a+1).toNat:=by
   grind [List.drop_eq_getElem_cons,AA,List.getElem?_eq_getElem]
  rw [FP,g,hd,Dq];cases e:step (AA l a) s with
  |next s'=>
   simp only;exact Qu step I h n (a+1) s' (by omega) (by omega) (j s' e)
  |brk s'=>rfl|ret r=>rfl
theorem T8[Inhabited α]{l:List α}(step:α->σ->Bp σ ρ)(I:Int->σ->Prop){s:σ}(d:I 0 s)(h:∀(i:Int)s,0<=i->i<l.length->I i s->f i s=some (step (AA l i) s)/\∀s',step (AA l i) s=.next s'->I (i+1) s'):
  kl f 0 l.length s=some (Dq step l s):=by
 have:=Qu step I h l.length 0 s (by omega) (by omega) d;unfold kl;rw[show((l.length:Int)-0).toNat=l.length by omega];exact this
theorem Um{d s2:α->σ->Bp σ ρ}:∀{l:List α}{s:σ},(∀a∈l,d a=s2 a)->Dq d l s=Dq s2 l s
 |[],_,_=>rfl|a::l,s,h=>by
  rw [Dq,Dq,h a (by simp)];split
  .exact Um fun b e=>h b (by simp[e])
  .rfl
  .rfl
end
abbrev zM:AM:=⟨⟨[],[]⟩,[]⟩
abbrev zP:Az:=⟨0,zM,[]⟩
def Lc(w:d7->Az×Int)(k:d7)(s:Az×Az):Bp (Az×Az) (Az×Int):=
 if (w k).2≠0 then .ret (zP,(w k).2)else .next (s.1,⟨s.2.AaC,s.2.pc,s.2.gt++[(w k).1]⟩)
def RT(w:d7->Az×Int)(l:List d7):Az×Int:=
 match Dq (Lc w) l (zP,zP)with
 |.inl s=>(s.2,0)|.inr r=>r
def Ca(t:AC)(h:AG)(inj:Bool):Nat->d7->AM->Az×Int
 |0,_,_=>(zP,0)|N+1,c,m=>
  if c.ns=2 then(if(Ca t h inj N (AA c.gt 0) m).2=0 then(zP,10)else if(Ca t h inj N (AA c.gt 0) m).2=10 then(zP,0)else(zP,(Ca t h inj N (AA c.gt 0) m).2))else
  if c.ns=3 then RT (fun k=>Ca t h inj N k m) c.gt else
  if c.ns=4 then(fst (fun i=>if(Ca t h inj N (AA c.gt i) m).2=0 then some (⟨i,zM,[(Ca t h inj N (AA c.gt i) m).1]⟩,0)else if(Ca t h inj N (AA c.gt i) m).2≠10 then some (zP,(Ca t h inj N (AA c.gt i) m).2)else none) 0 c.gt.length).getD (zP,10)else
  if c.ns=5 then
   (if(DR t c h m inj).2≠0 then(zP,(DR t c h m inj).2)else
   (fst (fun i=>if(Ca t h inj N (AA c.gt 0) (AA (DR t c h m inj).1 i)).2=0 then some (⟨0,AA (DR t c h m inj).1 i,[(Ca t h inj N (AA c.gt 0) (AA (DR t c h m inj).1 i)).1]⟩,0)else
    if (Ca t h inj N (AA c.gt 0) (AA (DR t c h m inj).1 i)).2≠10 then some (zP,(Ca t h inj N (AA c.gt 0) (AA (DR t c h m inj).1 i)).2)else none) 0 (DR t c h m inj).1.length).getD (zP,10))else
  (zP,0)
def CZ(t:AC)(h:AG)(inj:Bool):Nat->d7->AM->Az×Int
 |0,_,_=>(zP,0)|N+1,c,m=>
  if c.ns=2 then(if(CZ t h inj N (AA c.gt 0) m).2=0 then(zP,10)else if(CZ t h inj N (AA c.gt 0) m).2=10 then(zP,0)else(zP,(CZ t h inj N (AA c.gt 0) m).2))else
  if c.ns=3 then RT (fun k=>CZ t h inj N k m) c.gt else
  if c.ns=4 then(fst (fun i=>if(CZ t h inj N (AA c.gt i) m).2≠10 then some (⟨i,zM,[(CZ t h inj N (AA c.gt i) m).1]⟩,(CZ t h inj N (AA c.gt i) m).2)else none) 0 c.gt.length).getD (zP,10)else
  if c.ns=5 then
   (if(DR t c h m inj).2≠0 then(zP,(DR t c h m inj).2)else
   (fst (fun i=>if(CZ t h inj N (AA c.gt 0) (AA (DR t c h m inj).1 i)).2≠10 then some (⟨0,AA (DR t c h m inj).1 i,[(CZ t h inj N (AA c.gt 0) (AA (DR t c h m inj).1 i)).1]⟩,(CZ t h inj N (AA c.gt 0) (AA (DR t c h m inj).1 i)).2)else none) 0 (DR t c h m inj).1.length).getD (zP,10))else
  (zP,0)
def KT(x:Az×Int):Az×Int:=if x.2=0 then x else(zP,x.2)
theorem cc(x:Az×Int):(KT x).2=x.2:=by unfold KT;split<;>rfl
theorem cb{x:Az×Int}(h:x.2=0):(KT x).1=x.1:=by unfold KT;rw[ae h]
theorem eh(w:d7->Az×Int)(l:List d7):KT (RT w l)=RT w l:=by
 unfold RT;have:∀(l:List d7)(s:Az×Az)(r:Az×Int),Dq (Lc w) l s=.inr r->KT r=r:=by
  intro l
  induction l with
  |nil=>intro s r h;cases h
  |cons a l j=>
   intro s r h;rw[Dq]at h;split at h
   .exact j _ _ h
   .cases h
   .rename_i o d;cases h;unfold Lc at d;split at d
    .rename_i e;cases d;unfold KT;rw[az e]
    .cases d
 cases g:Dq (Lc w) l (zP,zP)with
 |inl s=>rfl|inr r=>exact this _ _ _ g
theorem Ve(o:Option (Az×Int)):KT (o.getD (zP,10))=(o.map KT).getD (zP,10):=by cases o<;>rfl
theorem Zz(t:AC)(h:AG)(inj:Bool):∀(N:Nat)(c:d7)(m:AM),Ca t h inj N c m=KT (CZ t h inj N c m)
 |0,_,_=>rfl|N+1,c,m=>by
  have w:=Zz t h inj N;have key:∀(c:d7)(m:AM),(Ca t h inj N c m).2=(CZ t h inj N c m).2:=fun c m=>by rw[w,cc]
  have pick:∀(k:d7)(m x:AM)(i:Int),(if(Ca t h inj N k m).2=0 then some ((⟨i,x,[(Ca t h inj N k m).1]⟩:Az),(0:Int))else if(Ca t h inj N k m).2≠10 then some (zP,(Ca t h inj N k m).2)else none)=(if(CZ t h inj N k m).2≠10 then some ((⟨i,x,[(CZ t h inj N k m).1]⟩:Az),(CZ t h inj N k m).2)else none).map KT:=by
   intro k m x i;rw[key];by_cases d:(CZ t h inj N k m).2=0
   .rw[ae d,ae (by omega),w,cb d];simp[KT,d]
   .rw[az d];by_cases e:(CZ t h inj N k m).2≠10
    .rw[ae e,ae e];simp[KT,d]
    grind
  rw [Ca,CZ];by_cases j:c.ns=2
  .rw[ae j,ae j,key];by_cases d:(CZ t h inj N (AA c.gt 0) m).2=0
   .rw[ae d];rfl
   .rw[az d];by_cases e:(CZ t h inj N (AA c.gt 0) m).2=10
    .rw[ae e];rfl
    .rw[az e];unfold KT;rw[az d]
  rw [az j,az j];by_cases o:c.ns=3
  .rw[ae o,ae o,eh];unfold RT;rw[Um (s2:=Lc fun k=>CZ t h inj N k m)];intro k _;funext s;unfold Lc;simp only[key];by_cases d:(CZ t h inj N k m).2=0
   .rw[az (by simp[d]),az (by simp[d]),w,cb d]
   .rw[ae d,ae d]
  rw [az o,az o];by_cases r:c.ns=4
  .rw[ae r,ae r,Ve,<-OL];congr 1;exact congrArg (fun F=>fst F 0 (c.gt.length:Int)) (funext fun i=>pick _ _ _ _)
  rw [az r,az r];by_cases u:c.ns=5
  .rw[ae u,ae u];by_cases g:(DR t c h m inj).2≠0
   .rw[ae g,ae g];unfold KT;rw[az g]
   .rw[az g,az g,Ve,<-OL];congr 1;exact congrArg (fun F=>fst F 0 ((DR t c h m inj).1.length:Int)) (funext fun i=>pick _ _ _ _)
  rw [az u,az u];rfl
end Go.Sf.Sc
namespace Go.Sf.Sc
open Go Go.Sf
def O5(i:Int)(s:Az×Az):Prop:=(s.2.gt.length:Int)=i
theorem UZ{s:Al}(hf:At s.t)(hv:(Ax s.t).2=0)(hh:IB s.t s.h):∀(N:Nat)(c:d7)(p:ec)(m:AM),SizeOf.sizeOf c<=N->CV s.t p c->Ti s.t p s.h m->∀n,2*N<=n->Ai n s c m=some (Ca s.t s.h s.ej N c m)
 |0,c,_,_,h,_,_,_,_=>by have:=D4 c;omega|N+1,c,p,m,h,o,y,n,E=>by
  obtain ⟨n,rfl⟩:∃k,n=k+2:=⟨n-2,by omega⟩;have kid:∀(i:Int),0<=i->i<c.gt.length->SizeOf.sizeOf (AA c.gt i)<=N:=fun i d e=>by
   have:=Ey (AK (l:=c.gt) d e);omega
  rw [Ai,Ca];by_cases r:c.ns=2
  .have D:=o.one (.inl r);rw[ae (by simpa using r),ae r,AD (by omega) (by omega),bs,UZ hf hv hh N _ p m (kid 0 (by omega) (by omega)) (o.kid (by omega) _ (AK (by omega) (by omega))) y (n+1) (by omega),bs]
   grind
  rw [az (by simpa using r),az r];by_cases z:c.ns=3
  .rw[ae (by simpa using z),ae z];have B:=o.few;rw[T8 (Lc fun k=>Ca s.t s.h s.ej N k m) O5 (show O5 0 (zP,zP)from rfl)]
   .unfold RT;show fq (some (Dq (Lc fun k=>Ca s.t s.h s.ej N k m) c.gt (zP,zP))) _ _=_;cases Dq (Lc fun k=>Ca s.t s.h s.ej N k m) c.gt (zP,zP)<;>rfl
   .intro i st d e hi;unfold O5 at hi;rw[AD d e,bs,UZ hf hv hh N _ p m (kid i d e) (o.kid (by omega) _ (AK d e)) y (n+1) (by omega),bs]
    grind [Lc,Ca,AA,Af,Ad,O5]
  rw [az (by simpa using z),az z];by_cases A:c.ns=4
  .rw[ae (by simpa using A),ae A];rw[JB (fun _=>zP) (fun i=>if(Ca s.t s.h s.ej N (AA c.gt i) m).2=0 then some (⟨i,zM,[(Ca s.t s.h s.ej N (AA c.gt i) m).1]⟩,0)else if(Ca s.t s.h s.ej N (AA c.gt i) m).2≠10 then some (zP,(Ca s.t s.h s.ej N (AA c.gt i) m).2)else none) (by omega) rfl]
   .cases fst (fun i=>if(Ca s.t s.h s.ej N (AA c.gt i) m).2=0 then some ((⟨i,zM,[(Ca s.t s.h s.ej N (AA c.gt i) m).1]⟩:Az),(0:Int))else if(Ca s.t s.h s.ej N (AA c.gt i) m).2≠10 then some (zP,(Ca s.t s.h s.ej N (AA c.gt i) m).2)else none) 0 c.gt.length<;>rfl
   .intro i d e _;rw[AD d e,bs,UZ hf hv hh N _ p m (kid i d e) (o.kid (by omega) _ (AK d e)) y (n+1) (by omega),bs];generalize Ca s.t s.h s.ej N (AA c.gt i) m=x;by_cases j:x.2=0
    .rw[ae (by simpa using j),ae j];try rfl
    .rw[az (by simpa using j),az j];by_cases g:x.2=10
     .rw[az (by simp[g]),az (by simp[g])];try rfl
     .rw[ae (by simp[g]),ae g];try rfl
  rw [az (by simpa using A),az A];by_cases u:c.ns=5
  .rw[ae (by simpa using u),ae u];have hi:=o.ins u;have D:=o.one (.inr u);rw[BE,nI hf hv hh y hi,bs];by_cases w:(DR s.t c s.h m s.ej).2=0
   .obtain⟨g,C⟩:=ZE hv hh y hi w;rw[az (by simp[w]),az (by simp[w])];generalize (DR s.t c s.h m s.ej).1=l at g C;rw[JB (fun _=>zP) (fun i=>if(Ca s.t s.h s.ej N (AA c.gt 0) (AA l i)).2=0 then some (⟨0,AA l i,[(Ca s.t s.h s.ej N (AA c.gt 0) (AA l i)).1]⟩,0)else if(Ca s.t s.h s.ej N (AA c.gt 0) (AA l i)).2≠10 then some (zP,(Ca s.t s.h s.ej N (AA c.gt 0) (AA l i)).2)else none) (by omega) rfl]
    .cases fst (fun i=>if(Ca s.t s.h s.ej N (AA c.gt 0) (AA l i)).2=0 then some ((⟨0,AA l i,[(Ca s.t s.h s.ej N (AA c.gt 0) (AA l i)).1]⟩:Az),(0:Int))else if(Ca s.t s.h s.ej N (AA c.gt 0) (AA l i)).2≠10 then some (zP,(Ca s.t s.h s.ej N (AA c.gt 0) (AA l i)).2)else none) 0 l.length<;>rfl
    .intro i d e _;rw[AD d e,bs,AD (by omega) (by omega),bs,UZ hf hv hh N _ c.ec _ (kid 0 (by omega) (by omega)) (o.kid5 u _ (AK (by omega) (by omega))) (C _ (AK d e)) n (by omega),bs];generalize Ca s.t s.h s.ej N (AA c.gt 0) (AA l i)=x;by_cases j:x.2=0
     .rw[ae (by simpa using j),ae j];try rfl
     .rw[az (by simpa using j),az j];by_cases g:x.2=10
      .rw[az (by simp[g]),az (by simp[g])];try rfl
      .rw[ae (by simp[g]),ae g];try rfl
   .rw[ae (by simp[w]),ae w];try rfl
  grind
variable{t:AC}{inj:Bool}
theorem Pt{d:AG}(hf:At t)(hv:(Ax t).2=0)(hh:IB t d):∀(N:Nat)(c:d7)(p:ec)(m:AM),SizeOf.sizeOf c<=N->CV t p c->Ti t p d m->∀n,N<=n->Df n t c d m inj=some (CZ t d inj N c m)
 |0,c,_,_,h,_,_,_,_=>by have:=D4 c;omega|N+1,c,p,m,h,o,w,n,E=>by
  obtain ⟨n,rfl⟩:∃k,n=k+1:=⟨n-1,by omega⟩;have kid:∀(i:Int),0<=i->i<c.gt.length->SizeOf.sizeOf (AA c.gt i)<=N:=fun i e g=>by
   have:=Ey (AK (l:=c.gt) e g);omega
  rw [Df,CZ];by_cases r:c.ns=2
  .have D:=o.one (.inl r);rw[ae (by simpa using r),ae r,AD (by omega) (by omega),bs,Pt hf hv hh N _ p m (kid 0 (by omega) (by omega)) (o.kid (by omega) _ (AK (by omega) (by omega))) w n (by omega),bs]
   grind
  rw [az (by simpa using r),az r];by_cases y:c.ns=3
  .rw[ae (by simpa using y),ae y];have B:=o.few;rw[T8 (Lc fun k=>CZ t d inj N k m) O5 (show O5 0 (zP,zP)from rfl)]
   .unfold RT;show fq (some (Dq (Lc fun k=>CZ t d inj N k m) c.gt (zP,zP))) _ _=_;cases Dq (Lc fun k=>CZ t d inj N k m) c.gt (zP,zP)<;>rfl
   .intro i st e g hi;unfold O5 at hi;rw[AD e g,bs,Pt hf hv hh N _ p m (kid i e g) (o.kid (by omega) _ (AK e g)) w n (by omega),bs]
    grind [Lc,CZ,AA,Af,Ad,O5]
  rw [az (by simpa using y),az y];by_cases z:c.ns=4
  .rw[ae (by simpa using z),ae z];rw[JB (fun _=>zP) (fun i=>if(CZ t d inj N (AA c.gt i) m).2≠10 then some (⟨i,zM,[(CZ t d inj N (AA c.gt i) m).1]⟩,(CZ t d inj N (AA c.gt i) m).2)else none) (by omega) rfl]
   .cases fst (fun i=>if(CZ t d inj N (AA c.gt i) m).2≠10 then some ((⟨i,zM,[(CZ t d inj N (AA c.gt i) m).1]⟩:Az),(CZ t d inj N (AA c.gt i) m).2)else none) 0 c.gt.length<;>rfl
   .intro i e g _;rw[AD e g,bs,Pt hf hv hh N _ p m (kid i e g) (o.kid (by omega) _ (AK e g)) w n (by omega),bs];generalize CZ t d inj N (AA c.gt i) m=x;by_cases j:x.2=10
    .rw[az (by simp[j]),az (by simp[j])];try rfl
    .rw[ae (by simp[j]),ae j];try rfl
  rw [az (by simpa using z),az z];by_cases u:c.ns=5
  .rw[ae (by simpa using u),ae u];have hi:=o.ins u;have D:=o.one (.inr u);rw[nf hf hv hh w hi,bs];by_cases A:(DR t c d m inj).2=0
   .obtain⟨j,C⟩:=ZE hv hh w hi A;rw[az (by simp[A]),az (by simp[A])];generalize (DR t c d m inj).1=l at j C;rw[JB (fun _=>zP) (fun i=>if(CZ t d inj N (AA c.gt 0) (AA l i)).2≠10 then some (⟨0,AA l i,[(CZ t d inj N (AA c.gt 0) (AA l i)).1]⟩,(CZ t d inj N (AA c.gt 0) (AA l i)).2)else none) (by omega) rfl]
    .cases fst (fun i=>if(CZ t d inj N (AA c.gt 0) (AA l i)).2≠10 then some ((⟨0,AA l i,[(CZ t d inj N (AA c.gt 0) (AA l i)).1]⟩:Az),(CZ t d inj N (AA c.gt 0) (AA l i)).2)else none) 0 l.length<;>rfl
    .intro i e g _;rw[AD (by omega) (by omega),bs,AD e g,bs,Pt hf hv hh N _ c.ec _ (kid 0 (by omega) (by omega)) (o.kid5 u _ (AK (by omega) (by omega))) (C _ (AK e g)) n (by omega),bs];generalize CZ t d inj N (AA c.gt 0) (AA l i)=x;by_cases j:x.2=10
     .rw[az (by simp[j]),az (by simp[j])];try rfl
     .rw[ae (by simp[j]),ae j];try rfl
   grind
  grind
end Go.Sf.Sc
namespace Go.Sf.Sc
open Go Go.Sf
noncomputable def Rf(t:AC)(p:ec)(c:d7)(h:AG)(m:AM)(inj:Bool):Int:=
 if Ll t p c≠0 then Ll t p c else if(H7 t h).2≠0 then(H7 t h).2 else if F5 t p.d5 h.d5 m.d6 inj≠0 then F5 t p.d5 h.d5 m.d6 inj else
 if (FA t p h m.d6).2≠0 then(FA t p h m.d6).2 else if(FA t p h m.d6).1=m.hV then 0 else 11
variable{t:AC}{c:d7}
theorem fZ(hf:At t)(p:ec)(d:DU c)(h:AG)(m:AM)(inj:Bool):D0 t p c h m inj=some (Rf t p c h m inj):=by
 unfold D0 Rf;rw[kJ hf p d,bs];refine DW fun _=>?_;rw[UX hf,bs];refine DW fun _=>?_;rw[VB hf,bs];refine DW fun _=>?_;rw[ZT hf,bs];refine DW fun _=>?_;rw[il,bs]
 grind
variable{p:ec}{h:AG}{inj:Bool}
theorem Ty(hf:At t)(z:EN c<=40){m:AM}(e:Rf t p c h m inj=0):(Ax t).2=0/\IB t h/\CV t p c/\Ti t p h m:=by
 unfold Rf at e;split at e
 .grind
 rename_i d;split at e
 .grind
 rename_i j;split at e
 .grind
 rename_i o;split at e
 .grind
 rename_i r;split at e
 case isFalse=>cases e
 rename_i C;have d:=Classical.not_not.1 d;have j:=Classical.not_not.1 j;have o:=Classical.not_not.1 o;have r:=Classical.not_not.1 r;obtain⟨hv,hh⟩:=SX hf j;have w:=(W6 o).2;unfold Ll at d;split at d
 .grind
 rename_i A;split at d
 .grind
 rename_i u;have y:=fj hv (.inl (Classical.not_not.1 A));have u:=Classical.not_not.1 u;have B:jI c=true:=by
  grind [Ol]
 suffices g:(m.hV.length:Int)=p.hV/\Nn m.hV from⟨hv,hh,iW hv _ c p (bk _) z B d,y,w,g.1,g.2⟩
 have g:∀s∈p.ff,IC p.hV h m.d6 s:=fun s g=>OR (DF hv) y hh w g
 grind [FA,dn]
end Go.Sf.Sc
namespace Go.Sf.Sc
open Go Go.Sf
def ON:Nat->d7->Bool
 |0,_=>true|N+1,c=>if og (fun i=>!ON N (AA c.gt i)) 0 c.gt.length=true then false else decide (Ae ((c.ec.d5.d3.length:Int)+c.ec.d5.d4.length)<=6)
theorem Vz:∀(N:Nat)(c:d7),SizeOf.sizeOf c<=N->∀n,N<=n->E7 n c=some (ON N c)
 |0,c,h,_,_=>by have:=D4 c;omega|N+1,c,h,n,g=>by
  obtain ⟨n,rfl⟩:∃k,n=k+1:=⟨n-1,by omega⟩;rw[E7,ON,BP (fun i=>!ON N (AA c.gt i)) false]
  .cases og (fun i=>!ON N (AA c.gt i)) 0 c.gt.length<;>rfl
  .intro i d e _;have:=Ey (AK (l:=c.gt) d e);rw[AD d e,bs,Vz N _ (by omega) n (by omega),bs,Hs]
theorem fm(c:d7):Ok c=some (ON (SizeOf.sizeOf c) c):=EC (SizeOf.sizeOf c) fun n d=>Vz _ c (bk _) n d
def R4(a:Int):Nat->Int->Int
 |0,s=>s|k+1,s=>Ae (R4 a k s*a)
theorem ip{a b k s:Int}(g:0<=k)(e:k<=1000)(j:b<=1000):EO (ρ:=Bool) (fun(d:Int×Int)=>
  if (decide (d.2<b))=true then
  some (.next (Ae (d.1*a),Ae (d.2+1)))
  else
  some (.brk (d.1,d.2))) (s,k)=some (.inl (R4 a (max k b-k).toNat s,max k b)):=by
 refine Ot (fun i=>R4 a (i-k).toNat s) (by omega) (by rw[show(k-k).toNat=0 by omega];rfl) (fun i o r=>?_) ?_
 .rw[ae (by simp;omega),show(i+1-k).toNat=(i-k).toNat+1 by omega,R4];dsimp only;rw[As (n:=i+1) (by omega) (by omega)]
 .rw[az (by simp;omega)]
def Oa(a b:Int):Nat->ec->d7->Bool
 |0,_,_=>true|N+1,p,c=>
  let q:=if c.ns=5 then c.ec else p
  if og (fun i=>!Oa a b N q (AA c.gt i)) 0 c.gt.length=true then false else
  decide (R4 b (max (p.d5.d4.length:Int) q.d5.d4.length-p.d5.d4.length).toNat (R4 a (max (p.d5.d3.length:Int) q.d5.d3.length-p.d5.d3.length).toNat 1)<=5000)
theorem Xy(a b:Int):∀(N:Nat)(c:d7)(p:ec),SizeOf.sizeOf c<=N->DU c->Ma p->∀n,N<=n->Dp n p c a b=some (Oa a b N p c)
 |0,c,_,h,_,_,_,_=>by have:=D4 c;omega|N+1,c,p,h,g,z,n,K=>by
  obtain ⟨n,rfl⟩:∃k,n=k+1:=⟨n-1,by omega⟩;have E:=g.q.ei;have F:=g.q.em;have G:=z.ei;have H:=z.em;have e:∀q:ec,Ma q->(fq (EO (ρ:=Bool) (fun(d:Int×Int)=>
    if (decide (d.2<(q.d5.d3.length:Int)))=true then
    some (.next (Ae (d.1*a),Ae (d.2+1)))
    else
    some (.brk (d.1,d.2))) (1,(p.d5.d3.length:Int))) (fun d=>
    fq (EO (ρ:=Bool) (fun(s2:Int×Int)=>
    if (decide (s2.2<(q.d5.d4.length:Int)))=true then
    some (.next (Ae (s2.1*b),Ae (s2.2+1)))
    else
    some (.brk (s2.1,s2.2))) (d.1,(p.d5.d4.length:Int))) (fun s2=>
    fq (kl (ρ:=Bool) (fun(A:Int)(_:Unit)=>
    (idx c.gt A).bind fun j=>
    (Dp n q j a b).bind fun o=>
    if (!o)=true then
    some (.ret false)
    else
    some (.next ())) 0 (c.gt.length:Int) ()) (fun _=>
    some (decide (s2.1<=5000))) (fun B=>some B)) (fun C=>some C)) (fun D=>some D))=
    some (if og (fun i=>!Oa a b N q (AA c.gt i)) 0 c.gt.length=true then false else
     decide (R4 b (max (p.d5.d4.length:Int) q.d5.d4.length-p.d5.d4.length).toNat (R4 a (max (p.d5.d3.length:Int) q.d5.d3.length-p.d5.d3.length).toNat 1)<=5000)):=by
   intro q r;have I:=r.ei;have J:=r.em;rw[ip (by omega) (by omega) (by omega),Bh];dsimp only;rw[ip (by omega) (by omega) (by omega),Bh,BP (fun i=>!Oa a b N q (AA c.gt i)) false]
   .cases og (fun i=>!Oa a b N q (AA c.gt i)) 0 c.gt.length<;>rfl
   .intro i u w _;have:=Ey (AK (l:=c.gt) u w);rw[AD u w,bs,Xy a b N _ q (by omega) (g.k _ (AK u w)) r n (by omega),bs,Hs]
  rw [Dp,Oa];by_cases y:c.ns=5
  .rw[ae (by simpa using y),ae y,bs,e _ g.q]
  grind
variable{c:d7}{p:ec}
theorem dB(a b:Int)(d:DU c)(e:Ma p):Nv p c a b=some (Oa a b (SizeOf.sizeOf c) p c):=EC (SizeOf.sizeOf c) fun n g=>Xy a b _ c p (bk _) d e n g
theorem XE(h:AG):∃b,GU h=some b:=by
 unfold GU HZ;rw[bs];split
 .exact⟨_,rfl⟩
 .rw[BP (fun i=>decide (12<((AA h.gn i).length:Int))) false]
  .cases og (fun i=>decide (12<((AA h.gn i).length:Int))) 0 h.gn.length
   .exact⟨true,rfl⟩
   .exact⟨false,rfl⟩
  .intro i d e _;rw[AD d e,bs,Hs]
variable{t:AC}
theorem dI(hf:At t)(st:(AQ t).Sm)(p g:d5):∃b,Kh t p g=some b:=by
 obtain ⟨b,e,_⟩:=Rr st;unfold Kh HZ;rw[e,bs,TR hf]
 grind
theorem dJ(hf:At t)(st:(AQ t).Sm)(p:ec)(w:(AJ c).Sm)(h:AG):∃b,Km t p c h=some b/\(b=true->DU c/\EN c<=40/\Ma p):=by
 obtain ⟨y,z,A⟩:=cF w;obtain⟨B,r,C⟩:=Pn p;obtain⟨D,u⟩:=XE h;unfold Km;rw[z,bs];cases y
 .exact⟨false,rfl,fun h=>by cases h⟩
 rw [r];cases B
 .exact⟨false,rfl,fun h=>by cases h⟩
 rw [u];cases D
 .exact⟨false,rfl,fun h=>by cases h⟩
 have g:=A rfl;have j:=C rfl;simp only[bs,Bool.not_true,Bool.false_eq_true,if_false];rw[dE hf p g.1,bs];have d:∀o:K1,(∃b,o=some b)->∃b,o=some b/\(b=true->DU c/\EN c<=40/\Ma p):=fun o⟨b,e⟩=>⟨b,e,fun _=>⟨g.1,g.2,j⟩⟩;refine d _ ?_;split
 .exact⟨true,rfl⟩
 .obtain⟨E,F⟩:=dI hf st p.d5 h.d5;unfold NB;rw[r,u,F,fm,dB 14 18 g.1 j];simp only[bs,if_true];cases E<;>simp only[Bool.false_eq_true,if_false,if_true,bs,Bool.false_and]
  .exact⟨_,rfl⟩
  .split
   .exact⟨_,rfl⟩
   .exact⟨_,rfl⟩
noncomputable def wS(t:AC)(p:ec)(c:d7)(h:AG)(m:AM)(inj:Bool):Az×Int:=
 if Rf t p c h m inj≠0 then(zP,Rf t p c h m inj)else Ca t h inj (SizeOf.sizeOf c) c m
theorem cx(hf:At t)(p:ec)(e:DU c)(g:EN c<=40)(h:AG)(m:AM)(inj:Bool):DG t p c h m inj=some (wS t p c h m inj):=by
 unfold DG wS;rw[fZ hf p e,bs];refine Ee fun j=>?_;obtain⟨hv,hh,d,r⟩:=Ty hf g j;rw[show DO (Al.mk t h inj) c m=some (Ca t h inj (SizeOf.sizeOf c) c m)from EC (2*SizeOf.sizeOf c) fun n o=>UZ (s:=⟨t,h,inj⟩) hf hv hh _ c p m (bk _) d r n o];rfl
noncomputable def LG(t:AC)(p:ec)(c:d7)(h:AG)(m:AM)(inj:Bool):Bool×Int:=
 if (wS t p c h m inj).2=10 then(false,0)else(decide ((wS t p c h m inj).2=0),(wS t p c h m inj).2)
theorem Yp(hf:At t)(p:ec)(d:DU c)(e:EN c<=40)(h:AG)(m:AM)(inj:Bool):Cr t p c h m inj=some (LG t p c h m inj):=by grind[Cr,LG,cx,wS]
variable{h:AG}{inj:Bool}
theorem fl(hf:At t){m:AM}(hv:(Ax t).2=0)(hh:IB t h)(d:CV t p c)(e:Ti t p h m):PW t c h m inj=some (CZ t h inj (SizeOf.sizeOf c) c m):=EC (SizeOf.sizeOf c) fun n g=>Pt hf hv hh _ c p m (bk _) d e n g
end Go.Sf.Sc
namespace Go.Sf.Sc
open Go Go.Sf
end Go.Sf.Sc
namespace Go.Sf.Sc
open Go Go.Sf
theorem lh(t:AC)(p:ec)(c:d7)(h:AG)(m:AM)(inj:Bool):wS t p c h m inj=if Rf t p c h m inj≠0 then(zP,Rf t p c h m inj)else KT (CZ t h inj (SizeOf.sizeOf c) c m):=by
 unfold wS;rw[Zz]
end Go.Sf.Sc
