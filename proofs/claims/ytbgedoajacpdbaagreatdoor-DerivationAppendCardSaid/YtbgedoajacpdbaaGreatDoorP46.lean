/- Plain lemmas: what the functions of the program and of the reference compute. -/
import Derived.Test.YtbgedoajacpdbaaGreatDoorP25
set_option linter.all false
set_option maxRecDepth 100000
namespace Go.Sf.Sc
open Go Go.Sf
variable{k:Int}
theorem QN{d:List mo}(h:M4 d k=0)(e:(AA d k).wi.length<=1000):-1000000<=(AA d k).Low/\(AA d k).AaD<=1000000:=by grind[M4]
variable{t:AC}{i:Int}
theorem Ys(h:IE t i=0):∀k,((Ay t i).length:Int)-(AA t.d3 i).x3.length<=k->k<(Ay t i).length->M4 (Ay t i) k=0:=by
 unfold IE at h;dsimp only at h;split at h
 .cases h
 split at h
 .cases h
 split at h
 .cases h
 split at h
 .cases h
 exact UL h
variable{a:Int}
theorem N7{n:Nat}(d:0<=a):Bz t (n+1) a=Bz t n (par t a)++(AA t.d3 a).x3:=by grind[Bz]
theorem T5(hf:At t)(h:Fu t){Q:mo->Prop}(QN:∀{d:List mo}{k:Int},M4 d k=0->(AA d k).wi.length<=1000->Q (AA d k)):∀(n:Nat)(a:Int),a<t.d3.length->a<n->∀x∈Bz t n a,Q x
 |0,_,_,_=>by simp[Bz]|n+1,a,o,D=>by
  by_cases r:a<0
  .rw[Iv r];simp
  .have z:=h.par a (by omega) o;intro x g;rw[N7 (by omega)]at g;rcases List.mem_append.1 g with g|g
   .exact T5 hf h QN n (par t a) (by omega) (by omega) x g
   .obtain⟨j,B,C,rfl⟩:=BW g;have e:Ay t a=Bz t a.toNat (par t a)++(AA t.d3 a).x3:=by
     unfold Ay;rw[show(a+1).toNat=a.toNat+1 by omega,N7 (by omega)]
    have A:(Ay t a).length=(Bz t a.toNat (par t a)).length+(AA t.d3 a).x3.length:=by rw[e,cE]
    have u:=Ys (h.node a (by omega) o) ((Bz t a.toNat (par t a)).length+j) (by omega) (by omega);have w:AA (Ay t a) ((Bz t a.toNat (par t a)).length+j)=AA (AA t.d3 a).x3 j:=by
     grind [LT,AA]
    have y:=Lo hf (Int.le_refl _) h.par o (AA (Ay t a) ((Bz t a.toNat (par t a)).length+j)) (AJ (by omega) (by omega));have:=QN u (by have:=y.names;omega)
    rwa [w]at this
theorem aM(hf:At t)(h:Fu t)(e:0<=a)(d:a<t.d3.length):∀x∈Ay t a,-1000000<=x.Low/\x.AaD<=1000000:=T5 hf h QN _ a d (by omega)
theorem WS(e:Es t k):∀(n:Nat)(a b:Int),a<k->a<n->b∈Oy t n a->0<=b/\b<=a/\(Ay t b).length<=(Bz t n a).length
 |0,_,_,_,_=>by simp[Oy]|n+1,a,b,g,r=>by
  intro d;rw[Oy]at d;split at d
  .cases d
  .rename_i j;have o:=e a (by omega) g;rw[N7 (by omega)];rcases List.mem_cons.1 d with rfl|d
   .refine⟨by omega,by omega,?_⟩;unfold Ay;rw[LU e (b+1).toNat (n+1) b g (by omega) (by omega),N7 (by omega)];exact bk _
   .have:=WS e n (par t a) b (by omega) (by omega) d
    grind
variable{b:Int}
theorem Vx(h:Fu t)(j:a<t.d3.length)(d:Ih t a b=true):(Ay t b).length<=(Ay t a).length:=by
 unfold Ih at d;rw[List.any_eq_true]at d;obtain⟨x,g,e⟩:=d;rw[zzX]at e;subst e;by_cases o:a<0
 .have:(a+1).toNat=0:=by omega
  rw [this]at g;cases g
 .exact(WS h.par (a+1).toNat a b j (by omega) g).2.2
theorem aO{α:Type}{Q:Prop}[Decidable Q]{v:α}{X:Option α}{Y:α}(he:a=b↔Q)(h:Q->X=some Y):(if(!decide (a=b))=true then some v else X)=some (if¬Q then v else Y):=by grind
def RI(t:AC)(k:Int)(v:Fp)(j:Int):Bool:=decide (AA v j<(AA (Ay t k) j).Low)||decide ((AA (Ay t k) j).AaD<AA v j)
def I9(t:AC)(k:Int)(v:Fp):Int:=
 if (t.d3.length:Int)<=k then 6 else if(AA t.d3 k).Aaq=true then 13 else if¬v.length=(Ay t k).length then 20 else
 if o4 (RI t k v) 0 (Ay t k).length=true then 6 else 0
def Na(t:AC)(g:d4)(i:Int):Int:=
 if (t.d5.length:Int)<=(AA g.d5 i).ne then 6 else if LK t g i=false then 13 else 0
def ID(t:AC)(h:AG):Int×Int:=
 if (Ax t).2≠0 then(-1,(Ax t).2)else if Bk h.d4≠0 then(-1,Bk h.d4)else if¬h.fq.length=h.d4.d3.length then(-1,20)else
 match fst (fun i=>(nz (I9 t (AA h.d4.d3 i) (AA h.fq i))).map fun e=>(i,e)) 0 h.d4.d3.length with
 |some r=>r|none=>(fst (fun i=>(nz (Na t h.d4 i)).map fun e=>(i,e)) 0 h.d4.d5.length).getD (-1,0)
theorem If(hv:(Ax t).2=0)(d:0<=k)(e:k<t.d3.length):GE t k=(Ay t k,0):=by grind[GE,LZ]
theorem Su{x:Bool}{y:Bool}:(if x=true then some true else some y)=some (x||y):=by cases x<;>rfl
theorem kf(hf:At t)(hv:(Ax t).2=0)(d:0<=k)(v:Fp):Ig t k v=some (I9 t k v):=by
 unfold Ig I9;by_cases e:(t.d3.length:Int)<=k
 .grind
 rw [az (by simpa using e),az e,AD d (by omega),bs];refine XH fun _=>?_;rw[P8 hf,If hv d (by omega),bs];refine aO (by simp;omega) fun g=>?_;rw[BL (RI t k v) 6]
 .cases o4 (RI t k v) 0 (Ay t k).length<;>rfl
 grind [Ay,AD,Su,RI,AA]
theorem lG(hf:At t)(hv:(Ax t).2=0)(d:0<=k)(v:Fp):MJ t k v=some (I9 t k v):=by
 unfold MJ I9;by_cases e:(t.d3.length:Int)<=k
 .grind
 rw [az (by simpa using e),az e,AD d (by omega),bs];refine XH fun _=>?_;rw[QA hf,If hv d (by omega),bs];refine aO (by simp;omega) fun g=>?_;rw[BL (RI t k v) 6]
 .cases o4 (RI t k v) 0 (Ay t k).length<;>rfl
 grind [Ay,AD,Su,RI,AA]
theorem Xr(e i:Int):(if(!decide (e=0))=true then some (Bp.ret (σ:=Unit) (ρ:=Int×Int) (i,e))else some (.next ()))=some (Pa ((nz e).map fun e=>(i,e))):=by grind[nz,Pa]
theorem Uh(hf:At t)(h:AG):Ex t h=some (ID t h):=by
 unfold Ex ID;rw[Mt hf,bs];refine Dp fun hv=>?_;rw[KI,bs];refine Dp fun o=>?_;have go:=Cp o;refine aO (by omega) fun z=>?_;rw[BV (fun i=>(nz (I9 t (AA h.d4.d3 i) (AA h.fq i))).map fun e=>(i,e)),Dk]
 .cases u:fst (fun i=>(nz (I9 t (AA h.d4.d3 i) (AA h.fq i))).map fun e=>(i,e)) 0 h.d4.d3.length with
  |some r=>rfl|none=>
   have w:=B2.1 u;dsimp only;rw[BV (fun i=>(nz (Na t h.d4 i)).map fun e=>(i,e)),Dk]
   .grind
   .intro i d g _;have y:=go.fit _ (AJ (l:=h.d4.d5) d g);rw[AD d g,bs];unfold Na LK;by_cases j:(t.d5.length:Int)<=(AA h.d4.d5 i).ne
    .rw[ae (by simpa using j),ae j];rfl
    .rw[az (by simpa using j),az j,AD (by omega) (by omega),bs,AD (by omega) (by omega),bs,cx hf,bs];cases Qy t (AA h.d4.d5 i).ne (AA h.d4.d3 (AA h.d4.d5 i).ns) (AA h.d4.d3 (AA h.d4.d5 i).To)<;>rfl
 .intro i d g _;rw[AD d g,bs,AD d (by omega),bs,kf hf hv (go.kind _ (AJ d g)).1,bs];exact Xr _ i
theorem Up(hf:At t)(h:AG):Ga t h=some (ID t h):=by
 unfold Ga ID;rw[OU hf,bs];refine Dp fun hv=>?_;rw[Lc,bs];refine Dp fun o=>?_;have go:=Cp o;refine aO (by omega) fun z=>?_;rw[BV (fun i=>(nz (I9 t (AA h.d4.d3 i) (AA h.fq i))).map fun e=>(i,e)),Dk]
 .cases u:fst (fun i=>(nz (I9 t (AA h.d4.d3 i) (AA h.fq i))).map fun e=>(i,e)) 0 h.d4.d3.length with
  |some r=>rfl|none=>
   have w:=B2.1 u;dsimp only;rw[BV (fun i=>(nz (Na t h.d4 i)).map fun e=>(i,e)),Dk]
   .grind
   .intro i d g _;have y:=go.fit _ (AJ (l:=h.d4.d5) d g);rw[AD d g,bs];unfold Na LK;by_cases j:(t.d5.length:Int)<=(AA h.d4.d5 i).ne
    .rw[ae (by simpa using j),ae j];rfl
    .rw[az (by simpa using j),az j,AD (by omega) (by omega),bs,AD (by omega) (by omega),bs,dO hf,bs];cases Qy t (AA h.d4.d5 i).ne (AA h.d4.d3 (AA h.d4.d5 i).ns) (AA h.d4.d3 (AA h.d4.d5 i).To)<;>rfl
 .intro i d g _;rw[AD d g,bs,AD d (by omega),bs,lG hf hv (go.kind _ (AJ d g)).1,bs];exact Xr _ i
structure IH(t:AC)(h:AG):Prop where
 g:Do h.d4
 len:h.fq.length=h.d4.d3.length
 kind:∀i:Int,0<=i->i<h.d4.d3.length->0<=AA h.d4.d3 i/\AA h.d4.d3 i<t.d3.length
 row:∀i:Int,0<=i->i<h.d4.d3.length->(AA h.fq i).length=(Ay t (AA h.d4.d3 i)).length
 low:∀i:Int,0<=i->i<h.d4.d3.length->∀x∈AA h.fq i,-1000000<=x/\x<=1000000
 ge:Bk h.d4=0
 ty:Cl t h.d4=true
variable{h:AG}
theorem Sk(hf:At t)(e:(ID t h).2=0):(Ax t).2=0/\IH t h:=by
 unfold ID at e;split at e
 .rename_i w;exact absurd e w
 split at e
 .rename_i w;exact absurd e w
 split at e
 .cases e
 rename_i w E H;have hv:=Classical.not_not.1 w;have go:=Cp (Classical.not_not.1 E);have z:∀i:Int,0<=i->i<h.d4.d3.length->I9 t (AA h.d4.d3 i) (AA h.fq i)=0:=by
  split at e
  .rename_i r o;obtain⟨i,_,_,k,_⟩:=Cz o;unfold nz at k;split at k
   .cases k
   .rename_i u;cases k;exact absurd e u
  .rename_i o;exact fun i d g=>JL.1 (LN.1 (B2.1 o i d g))
 have A:∀i:Int,0<=i->i<h.d4.d3.length->(0<=AA h.d4.d3 i/\AA h.d4.d3 i<t.d3.length)/\(AA h.fq i).length=(Ay t (AA h.d4.d3 i)).length/\∀j:Int,0<=j->j<(Ay t (AA h.d4.d3 i)).length->RI t (AA h.d4.d3 i) (AA h.fq i) j=false:=by
  intro i d g;have K:=(go.kind _ (AJ d g)).1;have:=z i d g;unfold I9 at this;split at this
  .cases this
  split at this
  .cases this
  split at this
  .cases this
  split at this
  .cases this
  rename_i a1 M I J;exact⟨⟨K,by omega⟩,Classical.not_not.1 I,Bc.1 (by simpa using J)⟩
 have he:∀i:Int,0<=i->i<h.d4.d5.length->Na t h.d4 i=0:=by
  have C:fst (fun i=>(nz (I9 t (AA h.d4.d3 i) (AA h.fq i))).map fun e=>(i,e)) 0 h.d4.d3.length=none:=B2.2 fun i d g=>by rw[z i d g];rfl
  rw [C]at e;dsimp only at e;cases o:fst (fun i=>(nz (Na t h.d4 i)).map fun e=>(i,e)) 0 h.d4.d5.length with
  |some r=>
   rw [o]at e;obtain⟨i,_,_,k,_⟩:=Cz o;unfold nz at k;split at k
   .cases k
   .rename_i u;cases k;exact absurd e u
  |none=>exact fun i d g=>JL.1 (LN.1 (B2.1 o i d g))
 have D:Cl t h.d4=true:=by
  unfold Cl;rw[up,Bool.not_eq_true',Bool.not_eq_true',List.any_eq_false,List.any_eq_false];refine⟨fun n z=>?_,fun x B=>?_⟩
  .obtain⟨i,d,g,rfl⟩:=BW z;have:=(A i d g).1.2;simp;omega
  .obtain⟨i,d,g,rfl⟩:=BW B;have:=he i d g;unfold Na at this;split at this
   .cases this
   .simp;omega
 suffices y:∀i:Int,0<=i->i<h.d4.d3.length->∀x∈AA h.fq i,-1000000<=x/\x<=1000000 from⟨hv,go,Classical.not_not.1 H,fun i d g=>(A i d g).1,fun i d g=>(A i d g).2.1,y,Classical.not_not.1 E,D⟩
 intro i d g x B;obtain⟨F,N,L⟩:=A i d g;obtain⟨j,G,O,rfl⟩:=BW B;have:=L j G (by omega);unfold RI at this;simp[decide_eq_false_iff_not]at this;have:=aM hf (DG hv) F.1 F.2 _ (AJ (l:=Ay t (AA h.d4.d3 i)) G (by omega));omega
end Go.Sf.Sc
namespace Go.Sf.Sc
open Go Go.Sf
def Jq(t:AC)(p g:d4)(m:d6)(i:Int):QQ:=
 if AA m.d3 i<0\/g.d3.length<=AA m.d3 i then some 6 else if Ih t (AA g.d3 (AA m.d3 i)) (AA p.d3 i)=false then some 13 else none
def NP(t:AC)(p g:d4)(m:d6):Int:=
 if m.d3.length≠p.d3.length\/m.d5.length≠p.d5.length then 20 else
 match fst (Jq t p g m) 0 m.d3.length with
 |some e=>e|none=>(fst (Gp p g m) 0 m.d5.length).getD 0
def F8(t:AC)(p g:d4)(m:d6)(inj:Bool):Int:=
 if Fc t p g≠0 then Fc t p g else if NP t p g m≠0 then NP t p g m else if(inj&&!Js m)=true then 5 else 0
structure VV(t:AC)(p g:d4)(m:d6):Prop where
 AaH:m.d3.length=p.d3.length
 AaQ:m.d5.length=p.d5.length
 node:∀i:Int,0<=i->i<m.d3.length->(0<=AA m.d3 i/\AA m.d3 i<g.d3.length)/\Ih t (AA g.d3 (AA m.d3 i)) (AA p.d3 i)=true
 edge:∀i:Int,0<=i->i<m.d5.length->0<=AA m.d5 i/\AA m.d5 i<g.d5.length
variable{t:AC}
theorem Mn{p g:d4}(h:Fc t p g=0):(Ax t).2=0/\Do p/\Do g/\(∀n∈p.d3,0<=n/\n<t.d3.length)/\∀n∈g.d3,0<=n/\n<t.d3.length:=by
 unfold Fc at h;split at h
 .grind
 split at h
 .grind
 split at h
 .grind
 split at h
 .rename_i e j o d;rw[up]at d
  grind [Cp,H7]
 .cases h
variable{m:d6}
theorem Zx{p g:d4}(h:NP t p g m=0):VV t p g m:=by
 unfold NP at h;split at h
 .cases h
 rename_i o;have j:fst (Jq t p g m) 0 m.d3.length=none:=by
  grind [Cz,Jq]
 rw [j]at h;have he:=PB (fun i=>by
  grind [Gp]) h
 refine ⟨by omega,by omega,fun i d e=>?_,fun i d e=>?_⟩
 .grind[B2,Jq]
 grind [Gp]
theorem V5(hf:At t){p g:d4}(A:Fc t p g=0)(m:d6):E0 t p g m=some (NP t p g m):=by
 obtain ⟨hv,C,G,tp,D⟩:=Mn A;unfold E0 NP;refine Kc (by simp;try omega) fun E=>?_;rw[jD hf (DG hv) hv,bs,BV (Jq t p g m),Dk]
 .cases F:fst (Jq t p g m) 0 m.d3.length with
  |some e=>rfl|none=>
   dsimp only;rw[BV (Gp p g m),CW];intro i j z _;unfold Gp;rw[AD j z,bs];by_cases d:AA m.d5 i<0\/g.d5.length<=AA m.d5 i
   .rw[ae (by simpa using d),ae d];rfl
   .have hf:=C.fit _ (AJ (l:=p.d5) j (by omega));rw[az (by simpa using d),az d,AD j (by omega),bs,AD (by omega) (by omega),bs];by_cases o:(AA p.d5 i).ne=(AA g.d5 (AA m.d5 i)).ne
    .rw[az (by simpa using o),az (by simpa using o),AD (by omega) (by omega),bs];by_cases r:AA m.d3 (AA p.d5 i).ns=(AA g.d5 (AA m.d5 i)).ns
     .rw[az (by simpa using r),AD (by omega) (by omega),bs,bs];by_cases u:AA m.d3 (AA p.d5 i).To=(AA g.d5 (AA m.d5 i)).To
      .rw[az (by simpa using u),az (by simp[r,u])];rfl
      .rw[ae (by simpa using u),ae (.inr u)];rfl
     .rw[ae (by simpa using r),bs,ae rfl,ae (.inl r)];rfl
    .rw[ae (by simpa using o),ae o];rfl
 .intro i j z _;unfold Jq;rw[AD j z,bs];by_cases d:AA m.d3 i<0\/g.d3.length<=AA m.d3 i
  .rw[ae (by simpa using d),ae d];rfl
  .have w:=tp _ (AJ (l:=p.d3) j (by omega));have y:=D _ (AJ (l:=g.d3) (show 0<=AA m.d3 i by omega) (by omega));rw[az (by simpa using d),az d,AD j (by omega),bs,AD w.1 (by unfold I3;rw[ca,A3];exact w.2),bs,AD (by omega) (by omega),bs];have e:AA (I3 t) (AA p.d3 i)=MQ t (AA p.d3 i):=by unfold I3;exact HI (MQ t) w.1 w.2
   rw [e,AD y.1 (by unfold MQ;rw[ca,A3];exact y.2),bs];have B:AA (MQ t (AA p.d3 i)) (AA g.d3 (AA m.d3 i))=Ih t (AA g.d3 (AA m.d3 i)) (AA p.d3 i):=by unfold MQ;exact HI (fun k=>Ih t k (AA p.d3 i)) y.1 y.2
   rw [B];cases Ih t (AA g.d3 (AA m.d3 i)) (AA p.d3 i)<;>rfl
variable{l:Fp}
theorem Zl(d:l.length<=1000):Gw l=some (!IM l):=by grind[Gw,TR,Qv,AbM,IM]
theorem VM(hf:At t)(p g:d4)(m:d6)(inj:Bool):EJ t p g m inj=some (F8 t p g m inj):=by
 unfold EJ F8;rw[VP hf,bs];refine DX fun d=>?_;rw[V5 hf d,bs];refine DX fun o=>?_;obtain⟨_,j,r,_⟩:=Mn d;have e:=Zx o;have:=j.ei;have:=j.em;have:=e.AaH;have:=e.AaQ;rw[Zl (by omega),Zl (by omega)];unfold Js;cases inj<;>cases IM m.d3<;>cases IM m.d5<;>rfl
theorem k9(l:Fp):IY l=some (IM l):=Ws l
theorem dX{p g:d4}(z:Fc t p g=0)(m:d6)(inj:Bool):Kq t p g m inj=some (if NP t p g m≠0 then NP t p g m else if(inj&&!Js m)=true then 5 else 0):=by
 obtain ⟨hv,C,F,tp,D⟩:=Mn z;unfold Kq NP;by_cases A:m.d3.length≠p.d3.length\/m.d5.length≠p.d5.length
 .grind
 rw [az (by simp;try omega),az A,BV (Jq t p g m),Dk]
 .cases E:fst (Jq t p g m) 0 m.d3.length with
  |some e=>
   grind [Cz,Jq]
  |none=>
   dsimp only;rw[BV (Gp p g m),Dk]
   .grind[fst,Gp,Cz,k9,Js,IM]
   intro i j w _;unfold Gp;rw[AD j w];simp only[bs,SK];by_cases d:AA m.d5 i<0\/g.d5.length<=AA m.d5 i
   .rw[ae (by simpa using d),ae d];rfl
   .have hf:=C.fit _ (AJ (l:=p.d5) j (by omega));rw[az (by simpa using d),az d,AD j (by omega),bs,AD (by omega) (by omega),bs];by_cases o:(AA p.d5 i).ne=(AA g.d5 (AA m.d5 i)).ne
    .rw[az (by simpa using o),az (by simpa using o),AD (by omega) (by omega),bs];by_cases r:AA m.d3 (AA p.d5 i).ns=(AA g.d5 (AA m.d5 i)).ns
     .rw[az (by simpa using r),AD (by omega) (by omega),bs,bs];by_cases u:AA m.d3 (AA p.d5 i).To=(AA g.d5 (AA m.d5 i)).To
      .rw[az (by simpa using u),az (by simp[r,u])];rfl
      .rw[ae (by simpa using u),ae (.inr u)];rfl
     .rw[ae (by simpa using r),bs,ae rfl,ae (.inl r)];rfl
    .rw[ae (by simpa using o),ae o];rfl
 .intro i j w _;unfold Jq;rw[AD j w];simp only[bs,SK];by_cases d:AA m.d3 i<0\/g.d3.length<=AA m.d3 i
  .rw[ae (by simpa using d),ae d];rfl
  .have B:=tp _ (AJ (l:=p.d3) j (by omega));have y:=D _ (AJ (l:=g.d3) (show 0<=AA m.d3 i by omega) (by omega));rw[az (by simpa using d),az d,AD (by omega) (by omega),bs,AD j (by omega),bs,Sx (DG hv) y.1 y.2 B.1,bs];cases Ih t (AA g.d3 (AA m.d3 i)) (AA p.d3 i)<;>rfl
theorem VQ(hf:At t)(p g:d4)(m:d6)(inj:Bool):H2 t p g m inj=some (F8 t p g m inj):=by
 unfold H2 F8;rw[Td hf,bs];refine DX fun d=>?_;rw[dX d,bs]
variable{inj:Bool}
theorem XI{p g:d4}(h:F8 t p g m inj=0):Fc t p g=0/\VV t p g m:=by grind[F8,Zx]
end Go.Sf.Sc
namespace Go.Sf.Sc
open Go Go.Sf
section
variable{α σ ρ:Type}
def Du(step:α->σ->Bp σ ρ):List α->σ->σ ⊕ ρ
 |[],s=>.inl s|a::r,s=>match step a s with
  |.next s'=>Du step r s'|.brk s'=>.inl s'|.ret r=>.inr r
variable{f:Int->σ->Option (Bp σ ρ)}
theorem R6[Inhabited α]{l:List α}(step:α->σ->Bp σ ρ)(I:σ->Prop)(h:∀(i:Int)s,0<=i->i<l.length->I s->f i s=some (step (AA l i) s)/\∀s',step (AA l i) s=.next s'->I s'):
  ∀(n:Nat)(a:Int)(s:σ),0<=a->a+n=l.length->I s->Aae f n a s=some (Du step (l.drop a.toNat) s)
 |0,a,s,d,o,_=>by
  rw [List.drop_eq_nil_of_le (by omega)];rfl
 |n+1,a,s,d,o,u=>by
  obtain ⟨g,j⟩:=h a s d (by omega) u;have hd:l.drop a.toNat=AA l a::l.drop (a+1).toNat:=by
   grind [List.drop_eq_getElem_cons,AA,List.getElem?_eq_getElem]
  rw [FU,g,hd,Du];cases e:step (AA l a) s with
  |next s'=>
   simp only;exact R6 step I h n (a+1) s' (by omega) (by omega) (j s' e)
  |brk s'=>rfl|ret r=>rfl
theorem PA[Inhabited α]{l:List α}(step:α->σ->Bp σ ρ)(I:σ->Prop){s:σ}(d:I s)(h:∀(i:Int)s,0<=i->i<l.length->I s->f i s=some (step (AA l i) s)/\∀s',step (AA l i) s=.next s'->I s'):
  kl f 0 l.length s=some (Du step l s):=by
 have:=R6 step I h l.length 0 s (by omega) (by omega) d;unfold kl;rw[show((l.length:Int)-0).toNat=l.length by omega];exact this
theorem YS[Inhabited α](step:α->σ->Bp σ ρ)(I:σ->Prop):∀(l:List α)(s s':σ),I s->(∀a∈l,∀s s',I s->step a s=.next s'->I s')->(∀a∈l,∀s s',step a s≠.brk s')->Du step l s=.inl s'->I s'
 |[],s,s',h,_,_,e=>by cases e;exact h
 |a::r,s,s',h,g,o,e=>by
  rw [Du]at e;split at e
  .rename_i s2 j;exact YS step I r s2 s' (g a (by simp) s s2 h j) (fun a d=>g a (by simp[d])) (fun a d=>o a (by simp[d])) e
  .grind
  .cases e
end
def Cs(x:kg)(l:Fp):Int:=if x.Var<0 then x.Add else Af (AA l x.Var+x.Add)
variable{x:kg}{l:Fp}
theorem SL(h:x.Var<l.length):D2 x l=some (Cs x l):=by grind[D2,Cs,AD]
theorem WD(h:x.Var<l.length):H4 x l=some (Cs x l):=SL h
theorem Xy(d:-1<=x.Var)(h:x.Var<l.length)(e:l.length<=1000):EX x l=some (Cs x l,0):=by grind[EX,CR,As,SL]
theorem Mv(d:-1<=x.Var)(h:x.Var<l.length):EO x l=some (Cs x l,0):=by grind[EO,WD]
def Ja(x:Test)(l:Fp):Bool:=(decide (x.og=1)&&decide (Cs x.kq l<=Cs x.fd l))||(decide (x.og=2)&&decide (Cs x.kq l=Cs x.fd l))
structure HM(n:Int)(x:kg):Prop where
 low:-1<=x.Var
 high:x.Var<n
 add:-1000000<=x.Add/\x.Add<=1000000
def Ns(l:Fp):Prop:=∀x∈l,-2000000<=x/\x<=2000000
variable{n:Int}
theorem RQ(h:HM n x)(d:Ns l)(e:n<=l.length):Cs x l=(if x.Var<0 then x.Add else AA l x.Var+x.Add)/\-3000000<=Cs x l/\Cs x l<=3000000:=by
 unfold Cs;have:=h.add;by_cases g:x.Var<0
 .grind
 .have hh:=h.high;have:=d _ (AJ (l:=l) (show 0<=x.Var by omega) (by omega))
  grind [As]
theorem WC(h:HM n x)(d:n<=l.length):JM x l=some (Cs x l,true):=by
 have e:=h.low;have g:=h.high
 grind [JM,Cs,AD]
theorem r_holds{x:Test}(e:HM n x.kq)(g:HM n x.fd)(d:n<=l.length):Kl x l=some (Ja x l):=by
 unfold Kl;rw[WC e d,WC g d];rfl
variable{a b:Int}
theorem WU(j:-4000000<=a/\a<=4000000)(o:-4000000<=b/\b<=4000000):Fx a b=some (if a+b<0 then(-1,a+b+18446744073709551616)else(0,a+b)):=by
 have d:∀c:Int,IntKind.u64.wrap c=c % 18446744073709551616:=fun c=>by
  simp [IntKind.wrap,IntKind.signed,IntKind.bits]
 have g:∀c:Int,-4000000<=c/\c<=4000000->Ke .i64 .shr c 63=some (if c<0 then -1 else 0):=by
  intro c w;unfold Ke;have e:c.fdiv (2^ (min (63:Int).toNat (IntKind.bits .i64)))=if c<0 then -1 else 0:=by
   show c.fdiv (2^ 63)=_
   grind
  simp only[e];have:(0:Int)<=63/\IntKind.min .i64<=(if c<0 then -1 else 0)/\(if c<0 then -1 else 0)<=IntKind.max .i64:=by
   split<;>decide
  rw [ae this]
 unfold Fx Ha;rw[d,d,ae (by omega),bs,g a j,g b o,bs,bs];congr 1;have y:∀c:Int,-10<=c->c<=10->Af c=c:=fun c r u=>As (by omega) (by omega)
 grind
def I7(a:Int):Int×Int:=if a<0 then(-1,a+18446744073709551616)else(0,a)
theorem X0(h:HM n x)(d:Ns l)(o:n<=l.length):Ea x l=some ((I7 (Cs x l)).1,(I7 (Cs x l)).2,true):=by
 have r:=h.low;have u:=h.high;have w:=h.add;have g:=(RQ h d o).1;unfold Ea;by_cases j:x.Var=-1
 .have e:Cs x l=x.Add:=by rw[g,ae (by omega)]
  rw [e,ae (by simpa using j),WU (by omega) (by omega),bs,Int.zero_add];rfl
 .have:=d _ (AJ (l:=l) (show 0<=x.Var by omega) (by omega));have e:Cs x l=AA l x.Var+x.Add:=by rw[g,az (by omega)]
  rw [e,az (by simpa using j),az (by simp;omega),AD (by omega) (by omega),bs,WU (by omega) (by omega),bs];rfl
theorem ir(a b:Int):cmp_Compare_int a b=some (if a<b then -1 else if b<a then 1 else 0):=by
 unfold cmp_Compare_int cmp_isNaN_int
 grind
theorem rJ(a b:Int):HO a b=some (if a<b then -1 else if b<a then 1 else 0):=ir a b
theorem mw(a b:Int):Lq [a,b]=some (if a=0 then b else a):=by
 unfold Lq;show gn (Aae _ 2 0 ()) _ _=_;rw[FU,show idx [a,b] 0=some a from rfl,bs]
 grind [gn,Aae,FU,idx]
theorem p_holds{x:Test}(g:HM n x.kq)(j:HM n x.fd)(d:Ns l)(e:n<=l.length):FK x l=some (Ja x l):=by
 have o:=(RQ g d e).2;have s2:=(RQ j d e).2;unfold FK Ja;rw[X0 g d e,X0 j d e];simp[ir,rJ,mw];generalize Cs x.kq l=a at o;generalize Cs x.fd l=b at s2;have key:(if(if(I7 a).1<(I7 b).1 then(-1:Int)else if(I7 b).1<(I7 a).1 then 1 else 0)=0 then(if(I7 a).2<(I7 b).2 then(-1:Int)else if(I7 b).2<(I7 a).2 then 1 else 0)else(if(I7 a).1<(I7 b).1 then(-1:Int)else if(I7 b).1<(I7 a).1 then 1 else 0))=if a<b then -1 else if b<a then 1 else 0:=by
  grind [I7]
 rw [key];congr 2
 .grind
 grind
end Go.Sf.Sc
namespace Go.Sf.Sc
open Go Go.Sf
structure RR(t:AC)(q:ec):Prop where
 g:Do q.d4
 kind:∀n∈q.d4.d3,0<=n/\n<t.d3.length
 vars:0<=q.hV/\q.hV<=12
 few:q.ff.length<=10/\q.sc.length<=10
 slot:∀s∈q.ff,(0<=s.tg/\s.tg<q.d4.d3.length)/\(0<=s.mo/\s.mo<(Ay t (AA q.d4.d3 s.tg)).length)/\HM q.hV s.kg
 test:∀x∈q.sc,(x.og=1\/x.og=2)/\HM q.hV x.kq/\HM q.hV x.fd
 ge:Bk q.d4=0
 ty:Cl t q.d4=true
variable{n:Int}{x:kg}
theorem iY(h:MV n x=true):HM n x:=by
 unfold MV at h;simp[zzX]at h;exact⟨h.1.1.1,h.1.1.2,h.1.2,h.2⟩
theorem iZ{l:List Test}(h:JG n l=0):∀x∈l,(x.og=1\/x.og=2)/\HM n x.kq/\HM n x.fd:=by
 unfold JG at h;split at h
 .cases h
 split at h
 .cases h
 have g:=UL h;intro x d;obtain⟨i,j,o,rfl⟩:=BW d;have:=g i j o;unfold NS at this;split at this
 .cases this
 split at this
 .rename_i r e;rw[up]at e
  grind [iY]
 .cases this
theorem bi(n:Int)(l:List Test):JG n l≠9:=by
 unfold JG;split
 .decide
 split
 .decide
 intro h;cases d:fst (fun i=>nz (NS n (AA l i))) 0 l.length with
 |none=>rw[d]at h;cases h
 |some r=>
  grind [Cz,nz,NS]
variable{t:AC}{q:ec}
theorem gD(hv:(Ax t).2=0)(h:G6 t q=0\/G6 t q=9):RR t q:=by
 have y:=UO q.d4;unfold G6 at h;rw[az (by simp[hv])]at h;split at h
 .omega
 rename_i o;have g:=Cp (Classical.not_not.1 o);split at h
 .omega
 rename_i e;split at h
 .omega
 rename_i A;split at h
 .omega
 rename_i B;split at h
 .omega
 rename_i C;split at h
 .grind[bi]
 rename_i w;refine⟨g,(H7 g (by simpa using e)).1,by omega,by omega,fun s z=>?_,iZ (Classical.not_not.1 w),Classical.not_not.1 o,by simpa using e⟩;have j:QP t q s=false:=by
  grind
 unfold QP at j;simp[Bool.not_eq_false',decide_eq_false_iff_not]at j;obtain⟨⟨⟨d,E⟩,F⟩,G,H⟩:=j;unfold QO at d;dsimp only at d;split at d
 .cases d
 rename_i D;have u:=(H7 g (by simpa using e)).1 _ (AJ (l:=q.d4.d3) (show 0<=s.tg by omega) (by omega));rw[If hv u.1 u.2]at d;split at d
 .cases d
 rename_i r;have r:¬(s.mo<0\/((Ay t (AA q.d4.d3 s.tg)).length:Int)<=s.mo):=r;exact⟨by omega,by omega,by omega,by omega,by omega,by omega⟩
def LM(h:AG)(m:d6)(s:CX):Int:=AA (AA h.fq (AA m.d3 s.tg)) s.mo
def NR(h:AG)(m:d6)(s:CX)(st:Fp×a6):Fp×a6:=
 if 0<=s.kg.Var/\AA st.2 s.kg.Var=false then(BH st.1 s.kg.Var (Af (LM h m s-s.kg.Add)),BH st.2 s.kg.Var true)else st
def EQ{ρ:Type}(r:ρ)(h:AG)(m:d6)(s:CX)(st:Fp×a6):Bp (Fp×a6) ρ:=
 if Cs s.kg (NR h m s st).1=LM h m s then .next (NR h m s st)else .ret r
structure VI(n:Int)(st:Fp×a6):Prop where
 l1:(st.1.length:Int)=n
 l2:(st.2.length:Int)=n
 small:Ns st.1
structure II(n:Int)(h:AG)(m:d6)(s:CX):Prop where
 node:0<=s.tg/\s.tg<m.d3.length
 val:0<=AA m.d3 s.tg/\AA m.d3 s.tg<h.fq.length
 AbK:0<=s.mo/\s.mo<(AA h.fq (AA m.d3 s.tg)).length
 term:HM n s.kg
 has:-1000000<=LM h m s/\LM h m s<=1000000
variable{h:AG}{m:d6}{s:CX}
theorem OW(g:Fu t)(j:RR t q)(hh:IH t h)(e:VV t q.d4 h.d4 m)(o:s∈q.ff):II q.hV h m s:=by
 obtain ⟨u,w,y⟩:=j.slot s o;have z:=e.AaH;have d:=e.node s.tg u.1 (by omega);have A:=hh.row _ d.1.1 d.1.2;have r:=hh.kind _ d.1.1 d.1.2;have B:=Vx g r.2 d.2;have hv:=hh.len;refine⟨by omega,by omega,by omega,y,?_⟩;unfold LM;exact hh.low _ d.1.1 d.1.2 _ (AJ w.1 (by omega))
theorem RP{α:Type}(l:List α)(i:Int)(a:α):(BH l i a).length=l.length:=by unfold BH;rw[List.length_set]
variable{i:Int}
theorem gf{α:Type}{l:List α}{a x:α}(h:x∈BH l i a):x∈l\/x=a:=List.mem_or_eq_of_mem_set h
variable{st:Fp×a6}
theorem eE(e:II n h m s)(hi:VI n st):VI n (NR h m s st):=by
 have g:=e.has;have j:=e.term.add;unfold NR;split
 .refine⟨by rw[RP];exact hi.l1,by rw[RP];exact hi.l2,fun x d=>?_⟩;rcases gf d with d|rfl
  .exact hi.small x d
  grind [As]
 .exact hi
def MT(q:ec)(h:AG)(m:d6):Fp×Int:=
 match Du (EQ (([],11):Fp×Int) h m) q.ff (List.replicate q.hV.toNat 0,List.replicate q.hV.toNat false)with
 |.inr r=>r|.inl st=>if o4 (fun i=>!Ja (AA q.sc i) st.1) 0 q.sc.length=true then([],16)else(st.1,0)
theorem QH(d:0<=n):VI n (List.replicate n.toNat 0,List.replicate n.toNat false):=by
 refine ⟨by simp;omega,by simp;omega,fun x e=>?_⟩
 grind
variable{st':Fp×a6}
theorem Nr{ρ:Type}{r:ρ}(d:II n h m s)(hi:VI n st)(e:EQ r h m s st=.next st'):VI n st':=by grind[EQ,eE]
theorem eF{ρ:Type}{r:ρ}:EQ r h m s st≠.brk st':=by grind[EQ]
theorem Mx{ρ:Type}{r:ρ}{l:List CX}(d:∀s∈l,II n h m s)(hi:VI n st)(e:Du (EQ r h m) l st=.inl st'):VI n st':=
 YS (EQ r h m) (VI n) l st st' hi (fun a g _ _ j o=>Nr (d a g) j o) (fun _ _ _ _=>eF) e
theorem OM{ρ:Type}{r:ρ}(w:II n h m s)(hi:VI n st){T:Fp×a6->Option (Bp (Fp×a6) ρ)}
  (j:∀st':Fp×a6,(st'.1.length:Int)=n->T st'=some (if Cs s.kg st'.1=LM h m s then .next st' else .ret r)):
  ((if(decide (0<=s.kg.Var))=true then((idx st.2 s.kg.Var).bind fun o=>some (!o))else some false).bind fun u=>
   if u=true then(idx st.1 s.kg.Var).bind fun _=>(idx st.2 s.kg.Var).bind fun _=>T (BH st.1 s.kg.Var (Af (LM h m s-s.kg.Add)),BH st.2 s.kg.Var true)else T (st.1,st.2))=some (EQ r h m s st):=by
 have y:=w.term.high;have l1:=hi.l1;have l2:=hi.l2;unfold EQ;by_cases d:0<=s.kg.Var
 .rw[ae (by simpa using d),AD d (by omega),bs,bs];by_cases g:AA st.2 s.kg.Var=false
  .rw[ae (by simp[g]),AD d (by omega),bs,bs,j _ (by dsimp only;rw[RP];exact l1)];have e:NR h m s st=(BH st.1 s.kg.Var (Af (LM h m s-s.kg.Add)),BH st.2 s.kg.Var true):=by unfold NR;rw[ae ⟨d,g⟩]
   rw [e]
  .rw[az (by simpa using g),j _ l1];have e:NR h m s st=st:=by unfold NR;rw[az (fun e=>g e.2)]
   rw [e]
 .rw[az (by simpa using d),bs,az (by decide),j _ l1];have e:NR h m s st=st:=by unfold NR;rw[az (fun e=>d e.1)]
  rw [e]
theorem Y6{ρ:Type}{r:ρ}(j:II n h m s)(hi:VI n st){T:Fp×a6->Option (Bp (Fp×a6) ρ)}
  (o:∀st':Fp×a6,(st'.1.length:Int)=n->T st'=some (if Cs s.kg st'.1=LM h m s then .next st' else .ret r)):
  ((if(decide (0<=s.kg.Var))=true then((idx st.2 s.kg.Var).bind fun d=>some (!d))else some false).bind fun e=>
   if e=true then(idx st.2 s.kg.Var).bind fun _=>(idx st.1 s.kg.Var).bind fun _=>T (BH st.1 s.kg.Var (Af (LM h m s-s.kg.Add)),BH st.2 s.kg.Var true)else T (st.1,st.2))=some (EQ r h m s st):=by
 rw [<-OM j hi o];have u:=j.term.high;have l1:=hi.l1;have l2:=hi.l2;by_cases g:0<=s.kg.Var
 .rw[AD g (by omega),AD g (by omega)];rfl
 .rw[az (by simpa using g)];rfl
variable{v:Int}
theorem WL{t:kg}{f:kg->Fp->QQ}(hf:∀l:Fp,(l.length:Int)=n->f t l=some (Cs t l))(st':Fp×a6)(e:(st'.1.length:Int)=n):((f t st'.1).bind fun d=>if(!decide (d=v))=true then some (Bp.ret (([],11):Fp×Int))else some (.next st'))=some (if Cs t st'.1=v then .next st' else .ret ([],11)):=by grind
theorem ko(u:RR t q)(w:∀s∈q.ff,II q.hV h m s):Fv q h m=some (MT q h m):=by
 have hv:=u.vars;unfold Fv MT IQ;rw[ae (by omega),bs,ae (by omega),bs];rw[PA (EQ (([],11):Fp×Int) h m) (VI q.hV) (QH hv.1)]
 .cases z:Du (EQ (([],11):Fp×Int) h m) q.ff (List.replicate q.hV.toNat 0,List.replicate q.hV.toNat false)with
  |inr r=>rfl|inl st=>
   have hi:=Mx w (QH hv.1) z;rw[Bh,BL (fun i=>!Ja (AA q.sc i) st.1) ([],16)]
   .dsimp only;cases o4 (fun i=>!Ja (AA q.sc i) st.1) 0 q.sc.length<;>rfl
   .intro i g j _;have y:=u.test _ (AJ g j);rw[AD g j,bs,p_holds y.2.1 y.2.2 hi.small (by have:=hi.l1;omega),bs]
    grind
 .intro i st g j hi;have d:=w _ (AJ g j);refine⟨?_,fun s' e=>Nr d hi e⟩;rw[AD g j,bs,AD d.node.1 d.node.2,bs,AD d.val.1 d.val.2,bs,AD d.AbK.1 d.AbK.2,bs];exact OM d hi (T:=fun st'=>(D2 (AA q.ff i).kg st'.1).bind fun o=>if(!decide (o=LM h m (AA q.ff i)))=true then some (Bp.ret (([],11):Fp×Int))else some (.next st')) (WL fun l A=>SL (by have:=d.term.high;omega))
theorem lM(u:RR t q)(w:∀s∈q.ff,II q.hV h m s):J1 q h m=some (MT q h m):=by
 have hv:=u.vars;unfold J1 MT IQ;rw[ae (by omega),bs,ae (by omega),bs];rw[PA (EQ (([],11):Fp×Int) h m) (VI q.hV) (QH hv.1)]
 .cases z:Du (EQ (([],11):Fp×Int) h m) q.ff (List.replicate q.hV.toNat 0,List.replicate q.hV.toNat false)with
  |inr r=>rfl|inl st=>
   have hi:=Mx w (QH hv.1) z;rw[Bh,BL (fun i=>!Ja (AA q.sc i) st.1) ([],16)]
   .dsimp only;cases o4 (fun i=>!Ja (AA q.sc i) st.1) 0 q.sc.length<;>rfl
   .intro i g j _;have y:=u.test _ (AJ g j);rw[AD g j,bs,r_holds y.2.1 y.2.2 (by have:=hi.l1;omega),bs]
    grind
 .intro i st g j hi;have d:=w _ (AJ g j);refine⟨?_,fun s' e=>Nr d hi e⟩;rw[AD g j,bs,AD d.node.1 d.node.2,bs,AD d.val.1 d.val.2,bs,AD d.AbK.1 d.AbK.2,bs];exact Y6 d hi (T:=fun st'=>(H4 (AA q.ff i).kg st'.1).bind fun o=>if(!decide (o=LM h m (AA q.ff i)))=true then some (Bp.ret (([],11):Fp×Int))else some (.next st')) (WL fun l A=>WD (by have:=d.term.high;omega))
def PM(t:AC)(p:ec)(h:AG):Int:=if G6 t p≠0 then G6 t p else(ID t h).2
theorem dB(hf:At t)(p:ec)(h:AG):DR t p h=some (PM t p h):=by
 unfold DR PM;rw[Ui hf,bs];refine DX fun _=>?_;rw[Uh hf];rfl
theorem dT(hf:At t)(p:ec)(h:AG):Ks t p h=some (PM t p h):=by
 unfold Ks PM;rw[Wu hf,bs];refine DX fun _=>?_;rw[Up hf];rfl
def FC(t:AC)(p:ec)(h:AG)(m:d6):Fp×Int:=
 if PM t p h≠0 then([],PM t p h)else if F8 t p.d4 h.d4 m false≠0 then([],F8 t p.d4 h.d4 m false)else MT p h m
variable{p:ec}{inj:Bool}
theorem TJ(hf:At t)(d:PM t p h=0)(e:F8 t p.d4 h.d4 m inj=0):(Ax t).2=0/\RR t p/\IH t h/\VV t p.d4 h.d4 m:=by
 unfold PM at d;split at d
 .grind
 rename_i g;obtain⟨hv,hh⟩:=Sk hf d;exact⟨hv,gD hv (.inl (Classical.not_not.1 g)),hh,(XI e).2⟩
theorem Zf(hf:At t)(p:ec)(h:AG)(m:d6):DQ t p h m=some (FC t p h m):=by
 unfold DQ FC;rw[dB hf,bs];refine Dp fun e=>?_;rw[VM hf,bs];refine Dp fun g=>?_;obtain⟨hv,d,hh,o⟩:=TJ hf e g;rw[ko d (fun s j=>OW (DG hv) d hh o j)];rfl
theorem kz(hf:At t)(p:ec)(h:AG)(m:d6):Kr t p h m=some (FC t p h m):=by
 unfold Kr FC;rw[dT hf,bs];refine Dp fun e=>?_;rw[VQ hf,bs];refine Dp fun g=>?_;obtain⟨hv,d,hh,o⟩:=TJ hf e g;rw[lM d (fun s j=>OW (DG hv) d hh o j)];rfl
theorem eG(g:RR t q)(j:∀s∈q.ff,II q.hV h m s)(e:(MT q h m).2=0):((MT q h m).1.length:Int)=q.hV/\Ns (MT q h m).1:=by
 unfold MT at e|-;cases d:Du (EQ (([],11):Fp×Int) h m) q.ff (List.replicate q.hV.toNat 0,List.replicate q.hV.toNat false)with
 |inr r=>
  rw [d]at e;have:∀(l:List CX)(st:Fp×a6)(r:Fp×Int),Du (EQ (([],11):Fp×Int) h m) l st=.inr r->r=([],11):=by
   intro l
   induction l with
   |nil=>intro st r h;cases h
   |cons a l u=>
    grind [Du,EQ]
  grind
 |inl st=>
  rw [d]at e;have hi:=Mx j (QH g.vars.1) d;dsimp only at e|-;split at e
  .cases e
  .rename_i o;rw[az o];exact⟨hi.l1,hi.small⟩
end Go.Sf.Sc
namespace Go.Sf.Sc
open Go Go.Sf
variable{i:Int}
theorem Gd{n:Nat}{α:Type}[Inhabited α](F:Int->α)(d:0<=i)(v:α):BH ((Ao n).map F) i v=(Ao n).map fun j=>if j=i then v else F j:=by
 unfold BH;refine List.ext_getElem (by simp) (fun k e g=>?_)
 grind [A3,Ao]
theorem CI{n:Nat}{α:Type}{F G:Int->α}(h:∀j,0<=j->j<(n:Int)->F j=G j):(Ao n).map F=(Ao n).map G:=by grind[List.map_congr_left,EU]
def GI(n:Nat)(k:Int):a6:=(Ao n).map fun j=>decide (j<k)
theorem UV(n:Nat):GI n 0=List.replicate n false:=by
 unfold GI;refine List.ext_getElem (by simp[A3]) (fun k d e=>?_)
 grind [Ao,A3]
theorem Vy(n:Nat)(k:Int):(GI n k).length=n:=by unfold GI;rw[ca,A3]
def LH(q:ec)(h:AG)(m:d6)(given:Fp):Fp×Bool:=
 match Du (EQ (([],false):Fp×Bool) h m) q.ff (given++List.replicate (q.hV-given.length).toNat 0,GI q.hV.toNat given.length)with
 |.inr r=>r|.inl st=>if o4 (fun i=>!Ja (AA q.sc i) st.1) 0 q.sc.length=true then([],false)else(st.1,true)
variable{n:Int}{given:Fp}
theorem Ts(e:0<=n)(g:given.length<=n)(hv:Ns given):VI n (given++List.replicate (n-given.length).toNat 0,GI n.toNat given.length):=by
 refine ⟨by simp;omega,by show((GI n.toNat given.length).length:Int)=n;rw[Vy];omega,fun x d=>?_⟩;rcases List.mem_append.1 d with d|d
 .exact hv x d
 grind
variable{q:ec}{m:d6}{t:AC}
theorem nu{s:Al}(w:RR t q)(y:∀x∈q.ff,II q.hV s.h m x)(B:given.length<=q.hV)(hv:Ns given):Db s q m given=some (LH q s.h m given):=by
 have D:=w.vars;unfold Db LH slices_Clone_int;rw[BE (by unfold Ad;omega),bs,As (by omega) (by omega)];have E:TL given (q.hV-given.length) 0=some (given++List.replicate (q.hV-given.length).toNat 0):=by
  grind [TL,Ad]
 have F:IQ q.hV false=some (List.replicate q.hV.toNat false):=by
  grind [IQ]
 rw [E,bs,F,bs];have G:sr (fun(d:Int)(z:a6)=>(idx z d).bind fun C=>some (BH z d true)) 0 (given.length:Int) (List.replicate q.hV.toNat false)=some (GI q.hV.toNat given.length):=by
  refine Bj (fun i=>GI q.hV.toNat i) (by omega) (UV _) (fun i d j=>?_);rw[AD d (by rw[Vy];omega),bs];congr 1;unfold GI;rw[Gd _ d]
  grind
 rw [G,bs];have u:=Ts D.1 B hv;rw[PA (EQ (([],false):Fp×Bool) s.h m) (VI q.hV) u]
 .cases H:Du (EQ (([],false):Fp×Bool) s.h m) q.ff (given++List.replicate (q.hV-given.length).toNat 0,GI q.hV.toNat given.length)with
  |inr r=>rfl|inl st=>
   have hi:=Mx y u H;rw[Bh,BL (fun i=>!Ja (AA q.sc i) st.1) ([],false)]
   .dsimp only;cases o4 (fun i=>!Ja (AA q.sc i) st.1) 0 q.sc.length<;>rfl
   .intro i d j _;have A:=w.test _ (AJ d j);rw[AD d j,bs,p_holds A.2.1 A.2.2 hi.small (by have:=hi.l1;omega),bs]
    grind
 .intro i st d j hi;have g:=y _ (AJ d j);refine⟨?_,fun s' e=>Nr g hi e⟩;rw[AD d j,bs,AD g.node.1 g.node.2,bs,AD g.val.1 g.val.2,bs,AD g.AbK.1 g.AbK.2,bs];refine OM g hi (T:=fun st'=>(EX (AA q.ff i).kg st'.1).bind fun o=>if((!decide (o.2=0))||(!decide (o.1=LM s.h m (AA q.ff i))))=true then some (Bp.ret (([],false):Fp×Bool))else some (.next st')) (fun st' I=>?_);rw[Xy g.term.low (by have:=g.term.high;omega) (by omega),bs]
  grind
variable{h:AG}
theorem oM(C:RR t q)(D:∀x∈q.ff,II q.hV h m x)(I:given.length<=q.hV)(hv:Ns given):J3 q h m given=some (LH q h m given):=by
 have G:=C.vars;unfold J3 LH;have L:IQ q.hV false=some (List.replicate q.hV.toNat false):=by
  unfold IQ;rw[ae (by omega)]
 rw [BE (by unfold Ad;omega),bs,L,bs];have H:sr (fun(d:Int)(u:Fp×a6)=>
   (idx u.2 d).bind fun J=>
   if (decide ((given.length:Int)<=d))=true then
   (Ag u.1 [0]).bind fun A=>
   some (A,BH u.2 d (decide (d<(given.length:Int))))
   else
   some (u.1,BH u.2 d (decide (d<(given.length:Int))))) 0 q.hV (given,List.replicate q.hV.toNat false)=some (given++List.replicate (q.hV-given.length).toNat 0,(Ao q.hV.toNat).map fun j=>decide (j<q.hV)&&decide (j<(given.length:Int))):=by
  refine Bj (fun i=>(given++List.replicate (i-given.length).toNat 0,(Ao q.hV.toNat).map fun j=>decide (j<i)&&decide (j<(given.length:Int)))) G.1 ?_ (fun i d o=>?_)
  .have M:((0:Int)-given.length).toNat=0:=by omega
   rw [M];simp;rw[<-UV];unfold GI;refine CI (fun j E F=>?_);rw[show decide (j<0)=false by simp;omega];rfl
  .dsimp only;rw[AD d (by rw[ca,A3];omega),bs];have N:BH ((Ao q.hV.toNat).map fun j=>decide (j<i)&&decide (j<(given.length:Int))) i (decide (i<(given.length:Int)))=(Ao q.hV.toNat).map fun j=>decide (j<i+1)&&decide (j<(given.length:Int)):=by
    rw [Gd _ d];refine CI (fun j E F=>?_);by_cases e:j=i
    .rw[ae e,e,show decide (i<i+1)=true by simp;omega,Bool.true_and]
    .rw[az e];congr 1;rw[decide_eq_decide];omega
   rw [N];by_cases hi:(given.length:Int)<=i
   .rw[ae (by simpa using hi),Ae (by simp;unfold Ad;omega),bs];congr 2;rw[ci,show(i+1-given.length).toNat=(i-given.length).toNat+1 by omega,List.replicate_succ']
   .rw[az (by simpa using hi)];have O:(i+1-given.length).toNat=(i-given.length).toNat:=by omega
    rw [O]
 have B:((Ao q.hV.toNat).map fun j=>decide (j<q.hV)&&decide (j<(given.length:Int)))=GI q.hV.toNat given.length:=by
  unfold GI;refine CI (fun j E F=>?_);rw[show decide (j<q.hV)=true by simp;omega,Bool.true_and]
 rw [B]at H;rw[H,bs];have y:=Ts G.1 I hv;dsimp only;rw[PA (EQ (([],false):Fp×Bool) h m) (VI q.hV) y]
 .cases P:Du (EQ (([],false):Fp×Bool) h m) q.ff (given++List.replicate (q.hV-given.length).toNat 0,GI q.hV.toNat given.length)with
  |inr r=>rfl|inl st=>
   have hi:=Mx D y P;rw[Bh,BL (fun i=>!Ja (AA q.sc i) st.1) ([],false)]
   .dsimp only;cases o4 (fun i=>!Ja (AA q.sc i) st.1) 0 q.sc.length<;>rfl
   .intro i d o _;have z:=C.test _ (AJ d o);have K:=hi.l1;rw[AD d o,bs,Mv z.2.1.low (by have:=z.2.1.high;omega),bs,Mv z.2.2.low (by have:=z.2.2.high;omega),bs,<-Hx];unfold Ja;dsimp only;congr 1;generalize Cs (AA q.sc i).kq st.1=a;generalize Cs (AA q.sc i).fd st.1=b;rcases z.1 with e|e
    .rw[e,eq_iff_iff];simp
    .rw[e,eq_iff_iff];simp
 .intro i st d o hi;have g:=D _ (AJ d o);refine⟨?_,fun s' e=>Nr g hi e⟩;rw[AD d o,bs,AD g.node.1 g.node.2,bs,AD g.val.1 g.val.2,bs,AD g.AbK.1 g.AbK.2,bs];refine OM g hi (T:=fun st'=>(EO (AA q.ff i).kg st'.1).bind fun w=>if(!decide (w.1=LM h m (AA q.ff i)))=true then some (Bp.ret (([],false):Fp×Bool))else some (.next st')) (fun st' K=>?_);rw[Mv g.term.low (by have:=g.term.high;omega),bs];by_cases e:Cs (AA q.ff i).kg st'.1=LM h m (AA q.ff i)
  .rw[az (by simp[e]),ae e]
  .rw[ae (by simp[e]),az e]
theorem ic(j:RR t q)(o:∀s∈q.ff,II q.hV h m s)(u:given.length<=q.hV)(hv:Ns given)(e:(LH q h m given).2=true):((LH q h m given).1.length:Int)=q.hV/\Ns (LH q h m given).1:=by
 unfold LH at e|-;have d:=Ts j.vars.1 u hv;cases g:Du (EQ (([],false):Fp×Bool) h m) q.ff (given++List.replicate (q.hV-given.length).toNat 0,GI q.hV.toNat given.length)with
 |inr r=>
  rw [g]at e;have:∀(l:List CX)(st:Fp×a6)(r:Fp×Bool),Du (EQ (([],false):Fp×Bool) h m) l st=.inr r->r=([],false):=by
   intro l
   induction l with
   |nil=>intro st r h;cases h
   |cons a l y=>
    grind [Du,EQ]
  grind
 |inl st=>
  rw [g]at e;have hi:=Mx o d g;dsimp only at e|-;split at e
  .cases e
  .rename_i w;rw[az w];exact⟨hi.l1,hi.small⟩
def SM(n:Nat)(by' images:Fp):Fp:=(Ao by'.length).foldl (fun l i=>BH l (AA by' i) (AA images i)) (List.replicate n (-1))
theorem Vl(d images:Fp):∀(e:Fp)(l:Fp),(e.foldl (fun l i=>BH l (AA d i) (AA images i)) l).length=l.length
 |[],l=>rfl|k::e,l=>by rw[List.foldl_cons,Vl d images e,RP]
theorem Um{n:Nat}{d images:Fp}(y:∀x∈d,0<=x/\x<n)(z:d.length<=images.length):sr (fun(g:Int)(o:Fp)=>
  (idx d g).bind fun e=>
  (idx images g).bind fun j=>
  (idx o e).bind fun r=>
  some (BH o e j)) 0 (d.length:Int) (List.replicate n (-1))=some (SM n d images):=by
 have h:=Bj (f:=fun(g:Int)(o:Fp)=>
  (idx d g).bind fun e=>
  (idx images g).bind fun j=>
  (idx o e).bind fun r=>
  some (BH o e j)) (fun i=>(Ao i.toNat).foldl (fun l i=>BH l (AA d i) (AA images i)) (List.replicate n (-1))) (a:=0) (b:=d.length) (s:=List.replicate n (-1)) (by omega) rfl (fun i g u=>by
   have w:=y _ (AJ g u);rw[AD g u,bs,AD g (by omega),bs,AD w.1 (by rw[Vl];simpa using w.2),bs,Fa g,List.foldl_append];rfl)
 rw [h,Int.toNat_natCast];rfl
theorem X5{n:Nat}{d images:Fp}(j:n<=1000)(e:∀x∈d,0<=x/\x<n)(g:d.length<=images.length):FH n d images=some (SM n d images):=by
 unfold FH D1;rw[ae ⟨rfl,by omega,by omega⟩,bs];show(sr _ 0 _ (List.replicate (n:Int).toNat (-1))).bind _=_;rw[Int.toNat_natCast,Um e g];rfl
theorem YF{n:Nat}{d images:Fp}(j:n<=1000)(e:∀x∈d,0<=x/\x<n)(g:d.length<=images.length):Ia n d images=some (SM n d images):=by
 unfold Ia;rw[Bj (a:=0) (b:=n) (s:=[]) (fun i=>List.replicate i.toNat (-1)) (by omega) rfl,bs,Int.toNat_natCast,Um e g]
 .rfl
 .intro i o r;rw[Ae (by simp;unfold Ad;omega),bs,show(i+1).toNat=i.toNat+1 by omega,List.replicate_succ']
end Go.Sf.Sc
namespace Go.Sf.Sc
open Go Go.Sf
structure il(f:AI):Prop where
 nl:f.ei.length<=f.p.d3.length
 node:∀i:Int,0<=i->i<f.ei.length->(0<=AA f.ei i/\AA f.ei i<f.g.d3.length)/\AA (AA f.is (AA f.p.d3 i)) (AA f.g.d3 (AA f.ei i))=true
 edge:∀i:Int,0<=i->i<f.em.length->(0<=AA f.em i/\AA f.em i<f.g.d5.length)/\AA f.g.d5 (AA f.em i)=⟨(AA f.p.d5 i).ne,AA f.ei (AA f.p.d5 i).ns,AA f.ei (AA f.p.d5 i).To⟩
 inj:f.ej=true->f.ei.Nodup/\f.em.Nodup
structure aF(f:AI)(m:d6):Prop where
 nl:m.d3.length=f.p.d3.length
 el:m.d5.length=f.p.d5.length
 node:∀i:Int,0<=i->i<m.d3.length->(0<=AA m.d3 i/\AA m.d3 i<f.g.d3.length)/\AA (AA f.is (AA f.p.d3 i)) (AA f.g.d3 (AA m.d3 i))=true
 edge:∀i:Int,0<=i->i<m.d5.length->(0<=AA m.d5 i/\AA m.d5 i<f.g.d5.length)/\AA f.g.d5 (AA m.d5 i)=⟨(AA f.p.d5 i).ne,AA m.d3 (AA f.p.d5 i).ns,AA m.d3 (AA f.p.d5 i).To⟩
 inj:f.ej=true->m.d3.Nodup/\m.d5.Nodup
variable{i:Int}
theorem ZE{α:Type}[Inhabited α](l:List α)(x:α)(h:i=l.length):AA (l++[x]) i=x:=by grind[LT]
variable{l:Fp}{k:Int}
theorem Ub{b:Bool}(h:(!(b&&l.any fun x=>decide (k=x)))=true)(d:b=true)(e:l.Nodup):(l++[k]).Nodup:=by grind
theorem VW:∀(n:Nat)(f:AI),il f->f.ei.length=f.p.d3.length->f.em.length+n=f.p.d5.length->∀m∈EB n f,aF f m
 |0,f,j,z,he,m,d=>by
  rw [EB,List.mem_singleton]at d;subst d;exact⟨z,by simpa using he,j.node,j.edge,j.inj⟩
 |n+1,f,j,z,he,m,d=>by
  rw [EB,List.mem_flatMap]at d;obtain⟨k,w,d⟩:=d;have w:=EU.1 w;split at d
  .rename_i o;unfold RX at o;rw[up]at o;obtain⟨r,y⟩:=o;rw[Tm,up,zzX]at r;have:=VW n {f with em:=f.em++[k]} ⟨j.nl,j.node,fun i A u=>by
    have u:i<((f.em++[k]).length:Int):=u;simp at u;show(0<=AA (f.em++[k]) i/\AA (f.em++[k]) i<f.g.d5.length)/\AA f.g.d5 (AA (f.em++[k]) i)=⟨(AA f.p.d5 i).ne,AA f.ei (AA f.p.d5 i).ns,AA f.ei (AA f.p.d5 i).To⟩;by_cases e:i=f.em.length
    .rw[ZE _ _ e];exact⟨w,by rw[e];exact r.2⟩
    .rw[XC _ _ A (by omega)];exact j.edge i A (by omega),fun hi=>⟨(j.inj hi).1,Ub y hi (j.inj hi).2⟩⟩ z (by show(f.em++[k]).length+n=f.p.d5.length;rw[cE,List.length_singleton];omega) m d
   exact ⟨this.nl,this.el,this.node,this.edge,this.inj⟩
  .cases d
theorem VX:∀(n:Nat)(f:AI),il f->f.em=[]->f.ei.length+n=f.p.d3.length->∀m∈F6 n f,aF f m
 |0,f,r,he,A,m,o=>by
  grind [F6,VW]
 |n+1,f,r,he,A,m,o=>by
  rw [F6,List.mem_flatMap]at o;obtain⟨k,w,o⟩:=o;have w:=EU.1 w;split at o
  .rename_i j;unfold RY at j;rw[up,up]at j;obtain⟨⟨_,y⟩,z⟩:=j;have:=VX n {f with ei:=f.ei++[k]} ⟨by show(f.ei++[k]).length<=f.p.d3.length;rw[cE,List.length_singleton];omega,fun i u d=>by
    have d:i<((f.ei++[k]).length:Int):=d;simp at d;show(0<=AA (f.ei++[k]) i/\AA (f.ei++[k]) i<f.g.d3.length)/\AA (AA f.is (AA f.p.d3 i)) (AA f.g.d3 (AA (f.ei++[k]) i))=true;by_cases e:i=f.ei.length
    .rw[ZE _ _ e];exact⟨w,by rw[e];exact y⟩
    .rw[XC _ _ u (by omega)];exact r.node i u (by omega),fun i u d=>by
    have d:i<(f.em.length:Int):=d;rw[he]at d;have:i<(0:Nat):=d;omega,fun hi=>⟨Ub z hi (r.inj hi).1,(r.inj hi).2⟩⟩ he (by show(f.ei++[k]).length+n=f.p.d3.length;rw[cE,List.length_singleton];omega) m o
   exact ⟨this.nl,this.el,this.node,this.edge,this.inj⟩
  .cases o
variable{t:AC}{pa:d6}{inj:Bool}{m:d6}
theorem aX{p g:d4}(e:m∈NY t p g pa inj):aF (FF t p g pa inj) m:=
 VX _ (FF t p g pa inj) ⟨Nat.zero_le _,fun i j d=>by have d:i<(0:Nat):=d;omega,fun i j d=>by have d:i<(0:Nat):=d;omega,fun _=>⟨List.nodup_nil,List.nodup_nil⟩⟩ rfl (by show 0+p.d3.length=p.d3.length;omega) m (List.mem_of_mem_take e)
theorem fU{p g:d4}(h:Fc t p g=0)(u:m∈NY t p g pa inj):VV t p g m:=by
 obtain ⟨hv,A,B,tp,w⟩:=Mn h;have:=aX u;refine⟨this.nl,this.el,fun i d e=>?_,fun i d e=>(this.edge i d e).1⟩;obtain⟨j,r⟩:=this.node i d e;refine⟨j,?_⟩;have o:=this.nl;have y:=tp _ (AJ (l:=p.d3) d (by show i<(p.d3.length:Int);have o:m.d3.length=p.d3.length:=o;omega));have z:=w _ (AJ (l:=g.d3) j.1 j.2);have r:AA (AA (I3 t) (AA p.d3 i)) (AA g.d3 (AA m.d3 i))=true:=r
 grind [AA,I3,MQ,HI,Ih]
theorem XO{p g:d4}(h:(Qx t p g pa inj).2=0):(Qx t p g pa inj).1.length<=5000/\∀m∈(Qx t p g pa inj).1,VV t p g m:=by grind[Qx,fU]
structure Tu(t:AC)(p:ec)(h:AG)(x:AL):Prop where
 q:RR t p
 m:VV t p.d4 h.d4 x.d6
 len:(x.hV.length:Int)=p.hV
 small:Ns x.hV
structure bz(t:AC)(p:ec)(c:d7):Prop where
 q:RR t c.ec
 vars:p.hV<=c.ec.hV
 map:Wf p.d4 c.ec.d4 c.Map
 inj:Js c.Map=true
def DT(t:AC)(c:d7)(h:AG)(m:AL)(inj:Bool):List AL×Int:=
 let x:=Qx t c.ec.d4 h.d4 ⟨SM c.ec.d4.d3.length c.Map.d3 m.d6.d3,SM c.ec.d4.d5.length c.Map.d5 m.d6.d5⟩ inj
 if x.2≠0 then([],x.2)else((x.1.filter fun y=>(LH c.ec h y m.hV).2).map fun y=>⟨y,(LH c.ec h y m.hV).1⟩,0)
instance:Inhabited d6:=⟨⟨[],[]⟩⟩
instance:Inhabited AL:=⟨⟨default,[]⟩⟩
instance:Inhabited Az:=⟨⟨0,default,[]⟩⟩
theorem S6{x:List d6}{F:d6->Fp×Bool}{f:Int->List AL->Option (List AL)}(o:x.length<=5000)
  (hf:∀(i:Int)(s:List AL),0<=i->i<x.length->s.length<=5000->f i s=some (if(F (AA x i)).2=true then s++[⟨AA x i,(F (AA x i)).1⟩]else s)):
  sr f 0 (x.length:Int) []=some ((x.filter fun y=>(F y).2).map fun y=>⟨y,(F y).1⟩):=by
 rw [Bj (a:=0) (b:=x.length) (s:=[]) (fun i=>((x.take i.toNat).filter fun y=>(F y).2).map fun y=>(⟨y,(F y).1⟩:AL)) (by omega) rfl,Int.toNat_natCast,List.take_length];intro i d e;have g:(((x.take i.toNat).filter fun y=>(F y).2).map fun y=>(⟨y,(F y).1⟩:AL)).length<=5000:=by
  grind
 rw [hf i _ d e g,CF d e,List.filter_append,List.map_append];cases j:(F (AA x i)).2<;>simp[j]
variable{p:ec}{c:d7}
theorem nY{s:Al}{m:AL}(hf:At s.t)(hv:(Ax s.t).2=0)(hh:IH s.t s.h)(o:Tu s.t p s.h m)(hi:bz s.t p c):Bm s c m=some (DT s.t c s.h m s.ej):=by
 have C:=hi.q.g.ei;have ge:=hi.q.g.em;have m1:=hi.map.AaH;have D:=hi.map.AaQ;have E:=o.m.AaH;have G:=o.m.AaQ;unfold Bm DT;rw[X5 (by omega) (fun x j=>by obtain⟨i,d,e,rfl⟩:=BW j;exact(hi.map.node i d e).1) (by omega),bs,
  X5 (by omega) (fun x j=>by obtain⟨i,d,e,rfl⟩:=BW j;exact(hi.map.edge i d e).1) (by omega),bs,fw hf,bs]
 dsimp only;refine Dp fun r=>?_;obtain⟨z,A⟩:=XO r;rw[S6 (F:=fun y=>LH c.ec s.h y m.hV) z]
 .rfl
 .intro i st d e B;have u:=A _ (AJ d e);have w:(m.hV.length:Int)<=c.ec.hV:=by have:=o.len;have:=hi.vars;omega
  rw [AD d e,bs,nu hi.q (fun x j=>OW (DG hv) hi.q hh u j) w o.small,bs,<-Hx]
  grind [Ae,Ad]
variable{h:AG}
theorem oA{m:AL}(hf:At t)(hv:(Ax t).2=0)(hh:IH t h)(o:Tu t p h m)(hi:bz t p c):Gs t c h m inj=some (DT t c h m inj):=by
 have C:=hi.q.g.ei;have ge:=hi.q.g.em;have m1:=hi.map.AaH;have D:=hi.map.AaQ;have E:=o.m.AaH;have G:=o.m.AaQ;unfold Gs DT;rw[YF (by omega) (fun x j=>by obtain⟨i,d,e,rfl⟩:=BW j;exact(hi.map.node i d e).1) (by omega),bs,
  YF (by omega) (fun x j=>by obtain⟨i,d,e,rfl⟩:=BW j;exact(hi.map.edge i d e).1) (by omega),bs,gF hf,bs]
 dsimp only;refine Dp fun r=>?_;obtain⟨z,A⟩:=XO r;rw[S6 (F:=fun y=>LH c.ec h y m.hV) z]
 .rfl
 .intro i st d e B;have u:=A _ (AJ d e);have w:(m.hV.length:Int)<=c.ec.hV:=by have:=o.len;have:=hi.vars;omega
  rw [AD d e,bs,oM hi.q (fun x j=>OW (DG hv) hi.q hh u j) w o.small,bs,<-Hx]
  grind [Ae,Ad]
theorem ZP{m:AL}(hv:(Ax t).2=0)(hh:IH t h)(j:Tu t p h m)(hi:bz t p c)(e:(DT t c h m inj).2=0):(DT t c h m inj).1.length<=5000/\∀x∈(DT t c h m inj).1,Tu t c.ec h x:=by
 unfold DT at e|-;dsimp only at e|-;split at e
 .grind
 rename_i o;rw[az o];obtain⟨w,z⟩:=XO (Classical.not_not.1 o);refine⟨by dsimp only;rw[ca];exact Nat.le_trans (List.length_filter_le _ _) w,fun x d=>?_⟩;dsimp only at d;rw[List.mem_map]at d;obtain⟨y,g,rfl⟩:=d;rw[List.mem_filter]at g;have r:=z y g.1;have u:(m.hV.length:Int)<=c.ec.hV:=by have:=j.len;have:=hi.vars;omega
 have:=ic hi.q (fun x d=>OW (DG hv) hi.q hh r d) u j.small g.2;exact⟨hi.q,r,this.1,this.2⟩
end Go.Sf.Sc
namespace Go.Sf.Sc
open Go Go.Sf
inductive CV(t:AC):ec->d7->Prop where
 |mk (p:ec) (c:d7) (few:c.hT.length<=40) (rng:1<=c.og/\c.og<=5) (one:c.og=2\/c.og=5->c.hT.length=1) (ins:c.og=5->bz t p c) (kids:∀k∈c.hT,CV t (if c.og=5 then c.ec else p) k):CV t p c
variable{t:AC}{p:ec}{c:d7}
theorem CV.few(h:CV t p c):c.hT.length<=40:=by cases h;assumption
theorem CV.rng(h:CV t p c):1<=c.og/\c.og<=5:=by cases h;assumption
theorem CV.one(h:CV t p c):c.og=2\/c.og=5->c.hT.length=1:=by cases h;assumption
theorem CV.ins(h:CV t p c):c.og=5->bz t p c:=by cases h;assumption
theorem CV.kids(h:CV t p c):∀k∈c.hT,CV t (if c.og=5 then c.ec else p) k:=by cases h;assumption
theorem CV.kid(h:CV t p c)(d:¬c.og=5):∀k∈c.hT,CV t p k:=fun k e=>by have:=h.kids k e;rwa[az d]at this
theorem CV.kid5(h:CV t p c)(d:c.og=5):∀k∈c.hT,CV t c.ec k:=fun k e=>by have:=h.kids k e;rwa[ae d]at this
theorem Rw:∀l:List d7,l.length<=Pb l
 |[]=>by simp|c::l=>by
  have:=Rw l
  grind [Pb,ER,Rx,c8]
variable{q:ec}{v:Int}
theorem rP(hv:(Ax t).2=0)(h:SA t q v=0):RR t q:=by grind[SA,gD]
theorem iu(hv:(Ax t).2=0):∀(N:Nat)(c:d7)(p:ec),SizeOf.sizeOf c<=N->ER c<=40->QJ N c=true->Ji N t p c=0->CV t p c
 |0,c,_,h,_,_,_=>by have:=D8 c;omega|N+1,c,p,h,M,z,ho=>by
  have E:=Rx c;have F:=Rw c.hT;rw[QJ,up]at z;obtain⟨u,o⟩:=z;have d:c.og=2\/c.og=5->c.hT.length=1:=by
   intro j;unfold Q5 at u
   grind
  have g:1<=c.og/\c.og<=5:=by
   grind [Q5]
  have w:∀q,(fst (fun i=>nz (Ji N t q (AA c.hT i))) 0 c.hT.length).getD 0=0->∀k∈c.hT,CV t q k:=by
   intro q A k j;have G:=UL A;have K:=TP j;have L:=E1 j;rw[List.all_eq_true]at o;obtain⟨i,H,I,e⟩:=BW j;have y:=G i H I;rw[e]at y;exact iu hv N k q (by omega) (by omega) (o k j) y
  rw [Ji]at ho;by_cases r:c.og=5
  .rw[ae r]at ho;split at ho
   .cases ho
   rename_i J;split at ho
   .grind
   rename_i B;split at ho
   .grind
   rename_i C;split at ho
   .cases ho
   rename_i D;refine CV.mk p c (by omega) g d (fun _=>⟨rP hv (Classical.not_not.1 B),by omega,Sl (Classical.not_not.1 C),by simpa using D⟩) ?_
   grind
  .rw[az r]at ho;refine CV.mk p c (by omega) g d (fun e=>absurd e r) ?_
   grind
section
variable{α σ ρ:Type}
variable{f:Int->σ->Option (Bp σ ρ)}
theorem RU[Inhabited α]{l:List α}(step:α->σ->Bp σ ρ)(I:Int->σ->Prop)(h:∀(i:Int)s,0<=i->i<l.length->I i s->f i s=some (step (AA l i) s)/\∀s',step (AA l i) s=.next s'->I (i+1) s'):
  ∀(n:Nat)(a:Int)(s:σ),0<=a->a+n=l.length->I a s->Aae f n a s=some (Du step (l.drop a.toNat) s)
 |0,a,s,d,o,_=>by
  rw [List.drop_eq_nil_of_le (by omega)];rfl
 |n+1,a,s,d,o,u=>by
  obtain ⟨g,j⟩:=h a s d (by omega) u;have hd:l.drop a.toNat=AA l a::l.drop (a+1).toNat:=by
   grind [List.drop_eq_getElem_cons,AA,List.getElem?_eq_getElem]
  rw [FU,g,hd,Du];cases e:step (AA l a) s with
  |next s'=>
   simp only;exact RU step I h n (a+1) s' (by omega) (by omega) (j s' e)
  |brk s'=>rfl|ret r=>rfl
theorem UI[Inhabited α]{l:List α}(step:α->σ->Bp σ ρ)(I:Int->σ->Prop){s:σ}(d:I 0 s)(h:∀(i:Int)s,0<=i->i<l.length->I i s->f i s=some (step (AA l i) s)/\∀s',step (AA l i) s=.next s'->I (i+1) s'):
  kl f 0 l.length s=some (Du step l s):=by
 have:=RU step I h l.length 0 s (by omega) (by omega) d;unfold kl;rw[show((l.length:Int)-0).toNat=l.length by omega];exact this
theorem Ux{d s2:α->σ->Bp σ ρ}:∀{l:List α}{s:σ},(∀a∈l,d a=s2 a)->Du d l s=Du s2 l s
 |[],_,_=>rfl|a::l,s,h=>by
  rw [Du,Du,h a (by simp)];split
  .exact Ux fun b e=>h b (by simp[e])
  .rfl
  .rfl
end
abbrev zM:AL:=⟨⟨[],[]⟩,[]⟩
abbrev zP:Az:=⟨0,zM,[]⟩
def Ll(w:d7->Az×Int)(k:d7)(s:Az×Az):Bp (Az×Az) (Az×Int):=
 if (w k).2≠0 then .ret (zP,(w k).2)else .next (s.1,⟨s.2.AaC,s.2.o3,s.2.hT++[(w k).1]⟩)
def Rh(w:d7->Az×Int)(l:List d7):Az×Int:=
 match Du (Ll w) l (zP,zP)with
 |.inl s=>(s.2,0)|.inr r=>r
def Cc(t:AC)(h:AG)(inj:Bool):Nat->d7->AL->Az×Int
 |0,_,_=>(zP,0)|N+1,c,m=>
  if c.og=2 then(if(Cc t h inj N (AA c.hT 0) m).2=0 then(zP,10)else if(Cc t h inj N (AA c.hT 0) m).2=10 then(zP,0)else(zP,(Cc t h inj N (AA c.hT 0) m).2))else
  if c.og=3 then Rh (fun k=>Cc t h inj N k m) c.hT else
  if c.og=4 then(fst (fun i=>if(Cc t h inj N (AA c.hT i) m).2=0 then some (⟨i,zM,[(Cc t h inj N (AA c.hT i) m).1]⟩,0)else if(Cc t h inj N (AA c.hT i) m).2≠10 then some (zP,(Cc t h inj N (AA c.hT i) m).2)else none) 0 c.hT.length).getD (zP,10)else
  if c.og=5 then
   (if(DT t c h m inj).2≠0 then(zP,(DT t c h m inj).2)else
   (fst (fun i=>if(Cc t h inj N (AA c.hT 0) (AA (DT t c h m inj).1 i)).2=0 then some (⟨0,AA (DT t c h m inj).1 i,[(Cc t h inj N (AA c.hT 0) (AA (DT t c h m inj).1 i)).1]⟩,0)else
    if (Cc t h inj N (AA c.hT 0) (AA (DT t c h m inj).1 i)).2≠10 then some (zP,(Cc t h inj N (AA c.hT 0) (AA (DT t c h m inj).1 i)).2)else none) 0 (DT t c h m inj).1.length).getD (zP,10))else
  (zP,0)
def Cb(t:AC)(h:AG)(inj:Bool):Nat->d7->AL->Az×Int
 |0,_,_=>(zP,0)|N+1,c,m=>
  if c.og=2 then(if(Cb t h inj N (AA c.hT 0) m).2=0 then(zP,10)else if(Cb t h inj N (AA c.hT 0) m).2=10 then(zP,0)else(zP,(Cb t h inj N (AA c.hT 0) m).2))else
  if c.og=3 then Rh (fun k=>Cb t h inj N k m) c.hT else
  if c.og=4 then(fst (fun i=>if(Cb t h inj N (AA c.hT i) m).2≠10 then some (⟨i,zM,[(Cb t h inj N (AA c.hT i) m).1]⟩,(Cb t h inj N (AA c.hT i) m).2)else none) 0 c.hT.length).getD (zP,10)else
  if c.og=5 then
   (if(DT t c h m inj).2≠0 then(zP,(DT t c h m inj).2)else
   (fst (fun i=>if(Cb t h inj N (AA c.hT 0) (AA (DT t c h m inj).1 i)).2≠10 then some (⟨0,AA (DT t c h m inj).1 i,[(Cb t h inj N (AA c.hT 0) (AA (DT t c h m inj).1 i)).1]⟩,(Cb t h inj N (AA c.hT 0) (AA (DT t c h m inj).1 i)).2)else none) 0 (DT t c h m inj).1.length).getD (zP,10))else
  (zP,0)
def KZ(x:Az×Int):Az×Int:=if x.2=0 then x else(zP,x.2)
theorem ct(x:Az×Int):(KZ x).2=x.2:=by unfold KZ;split<;>rfl
theorem cr{x:Az×Int}(h:x.2=0):(KZ x).1=x.1:=by unfold KZ;rw[ae h]
theorem fG(w:d7->Az×Int)(l:List d7):KZ (Rh w l)=Rh w l:=by
 unfold Rh;have:∀(l:List d7)(s:Az×Az)(r:Az×Int),Du (Ll w) l s=.inr r->KZ r=r:=by
  intro l
  induction l with
  |nil=>intro s r h;cases h
  |cons a l j=>
   intro s r h;rw[Du]at h;split at h
   .exact j _ _ h
   .cases h
   .rename_i o d;cases h;unfold Ll at d;split at d
    .rename_i e;cases d;unfold KZ;rw[az e]
    .cases d
 cases g:Du (Ll w) l (zP,zP)with
 |inl s=>rfl|inr r=>exact this _ _ _ g
theorem Vp(o:Option (Az×Int)):KZ (o.getD (zP,10))=(o.map KZ).getD (zP,10):=by cases o<;>rfl
theorem aB(t:AC)(h:AG)(inj:Bool):∀(N:Nat)(c:d7)(m:AL),Cc t h inj N c m=KZ (Cb t h inj N c m)
 |0,_,_=>rfl|N+1,c,m=>by
  have w:=aB t h inj N;have key:∀(c:d7)(m:AL),(Cc t h inj N c m).2=(Cb t h inj N c m).2:=fun c m=>by rw[w,ct]
  have pick:∀(k:d7)(m x:AL)(i:Int),(if(Cc t h inj N k m).2=0 then some ((⟨i,x,[(Cc t h inj N k m).1]⟩:Az),(0:Int))else if(Cc t h inj N k m).2≠10 then some (zP,(Cc t h inj N k m).2)else none)=(if(Cb t h inj N k m).2≠10 then some ((⟨i,x,[(Cb t h inj N k m).1]⟩:Az),(Cb t h inj N k m).2)else none).map KZ:=by
   intro k m x i;rw[key];by_cases d:(Cb t h inj N k m).2=0
   .rw[ae d,ae (by omega),w,cr d];simp[KZ,d]
   .rw[az d];by_cases e:(Cb t h inj N k m).2≠10
    .rw[ae e,ae e];simp[KZ,d]
    grind
  rw [Cc,Cb];by_cases j:c.og=2
  .rw[ae j,ae j,key];by_cases d:(Cb t h inj N (AA c.hT 0) m).2=0
   .rw[ae d];rfl
   .rw[az d];by_cases e:(Cb t h inj N (AA c.hT 0) m).2=10
    .rw[ae e];rfl
    .rw[az e];unfold KZ;rw[az d]
  rw [az j,az j];by_cases o:c.og=3
  .rw[ae o,ae o,fG];unfold Rh;rw[Ux (s2:=Ll fun k=>Cb t h inj N k m)];intro k _;funext s;unfold Ll;simp only[key];by_cases d:(Cb t h inj N k m).2=0
   .rw[az (by simp[d]),az (by simp[d]),w,cr d]
   .rw[ae d,ae d]
  rw [az o,az o];by_cases r:c.og=4
  .rw[ae r,ae r,Vp,<-OQ];congr 1;exact congrArg (fun F=>fst F 0 (c.hT.length:Int)) (funext fun i=>pick _ _ _ _)
  rw [az r,az r];by_cases u:c.og=5
  .rw[ae u,ae u];by_cases g:(DT t c h m inj).2≠0
   .rw[ae g,ae g];unfold KZ;rw[az g]
   .rw[az g,az g,Vp,<-OQ];congr 1;exact congrArg (fun F=>fst F 0 ((DT t c h m inj).1.length:Int)) (funext fun i=>pick _ _ _ _)
  rw [az u,az u];rfl
end Go.Sf.Sc
namespace Go.Sf.Sc
open Go Go.Sf
def PD(i:Int)(s:Az×Az):Prop:=(s.2.hT.length:Int)=i
theorem Uj{s:Al}(hf:At s.t)(hv:(Ax s.t).2=0)(hh:IH s.t s.h):∀(N:Nat)(c:d7)(p:ec)(m:AL),SizeOf.sizeOf c<=N->CV s.t p c->Tu s.t p s.h m->∀n,2*N<=n->Ai n s c m=some (Cc s.t s.h s.ej N c m)
 |0,c,_,_,h,_,_,_,_=>by have:=D8 c;omega|N+1,c,p,m,h,o,y,n,E=>by
  obtain ⟨n,rfl⟩:∃k,n=k+2:=⟨n-2,by omega⟩;have kid:∀(i:Int),0<=i->i<c.hT.length->SizeOf.sizeOf (AA c.hT i)<=N:=fun i d e=>by
   have:=E1 (AJ (l:=c.hT) d e);omega
  rw [Ai,Cc];by_cases r:c.og=2
  .have D:=o.one (.inl r);rw[ae (by simpa using r),ae r,AD (by omega) (by omega),bs,Uj hf hv hh N _ p m (kid 0 (by omega) (by omega)) (o.kid (by omega) _ (AJ (by omega) (by omega))) y (n+1) (by omega),bs]
   grind
  rw [az (by simpa using r),az r];by_cases z:c.og=3
  .rw[ae (by simpa using z),ae z];have B:=o.few;rw[UI (Ll fun k=>Cc s.t s.h s.ej N k m) PD (show PD 0 (zP,zP)from rfl)]
   .unfold Rh;show gn (some (Du (Ll fun k=>Cc s.t s.h s.ej N k m) c.hT (zP,zP))) _ _=_;cases Du (Ll fun k=>Cc s.t s.h s.ej N k m) c.hT (zP,zP)<;>rfl
   .intro i st d e hi;unfold PD at hi;rw[AD d e,bs,Uj hf hv hh N _ p m (kid i d e) (o.kid (by omega) _ (AJ d e)) y (n+1) (by omega),bs]
    grind [Ll,Cc,AA,Ae,Ad,PD]
  rw [az (by simpa using z),az z];by_cases A:c.og=4
  .rw[ae (by simpa using A),ae A];rw[JK (fun _=>zP) (fun i=>if(Cc s.t s.h s.ej N (AA c.hT i) m).2=0 then some (⟨i,zM,[(Cc s.t s.h s.ej N (AA c.hT i) m).1]⟩,0)else if(Cc s.t s.h s.ej N (AA c.hT i) m).2≠10 then some (zP,(Cc s.t s.h s.ej N (AA c.hT i) m).2)else none) (by omega) rfl]
   .cases fst (fun i=>if(Cc s.t s.h s.ej N (AA c.hT i) m).2=0 then some ((⟨i,zM,[(Cc s.t s.h s.ej N (AA c.hT i) m).1]⟩:Az),(0:Int))else if(Cc s.t s.h s.ej N (AA c.hT i) m).2≠10 then some (zP,(Cc s.t s.h s.ej N (AA c.hT i) m).2)else none) 0 c.hT.length<;>rfl
   .intro i d e _;rw[AD d e,bs,Uj hf hv hh N _ p m (kid i d e) (o.kid (by omega) _ (AJ d e)) y (n+1) (by omega),bs];generalize Cc s.t s.h s.ej N (AA c.hT i) m=x;by_cases j:x.2=0
    .rw[ae (by simpa using j),ae j];try rfl
    .rw[az (by simpa using j),az j];by_cases g:x.2=10
     .rw[az (by simp[g]),az (by simp[g])];try rfl
     .rw[ae (by simp[g]),ae g];try rfl
  rw [az (by simpa using A),az A];by_cases u:c.og=5
  .rw[ae (by simpa using u),ae u];have hi:=o.ins u;have D:=o.one (.inr u);rw[BF,nY hf hv hh y hi,bs];by_cases w:(DT s.t c s.h m s.ej).2=0
   .obtain⟨g,C⟩:=ZP hv hh y hi w;rw[az (by simp[w]),az (by simp[w])];generalize (DT s.t c s.h m s.ej).1=l at g C;rw[JK (fun _=>zP) (fun i=>if(Cc s.t s.h s.ej N (AA c.hT 0) (AA l i)).2=0 then some (⟨0,AA l i,[(Cc s.t s.h s.ej N (AA c.hT 0) (AA l i)).1]⟩,0)else if(Cc s.t s.h s.ej N (AA c.hT 0) (AA l i)).2≠10 then some (zP,(Cc s.t s.h s.ej N (AA c.hT 0) (AA l i)).2)else none) (by omega) rfl]
    .cases fst (fun i=>if(Cc s.t s.h s.ej N (AA c.hT 0) (AA l i)).2=0 then some ((⟨0,AA l i,[(Cc s.t s.h s.ej N (AA c.hT 0) (AA l i)).1]⟩:Az),(0:Int))else if(Cc s.t s.h s.ej N (AA c.hT 0) (AA l i)).2≠10 then some (zP,(Cc s.t s.h s.ej N (AA c.hT 0) (AA l i)).2)else none) 0 l.length<;>rfl
    .intro i d e _;rw[AD d e,bs,AD (by omega) (by omega),bs,Uj hf hv hh N _ c.ec _ (kid 0 (by omega) (by omega)) (o.kid5 u _ (AJ (by omega) (by omega))) (C _ (AJ d e)) n (by omega),bs];generalize Cc s.t s.h s.ej N (AA c.hT 0) (AA l i)=x;by_cases j:x.2=0
     .rw[ae (by simpa using j),ae j];try rfl
     .rw[az (by simpa using j),az j];by_cases g:x.2=10
      .rw[az (by simp[g]),az (by simp[g])];try rfl
      .rw[ae (by simp[g]),ae g];try rfl
   .rw[ae (by simp[w]),ae w];try rfl
  grind
variable{t:AC}{inj:Bool}
theorem QB{d:AG}(hf:At t)(hv:(Ax t).2=0)(hh:IH t d):∀(N:Nat)(c:d7)(p:ec)(m:AL),SizeOf.sizeOf c<=N->CV t p c->Tu t p d m->∀n,N<=n->Dh n t c d m inj=some (Cb t d inj N c m)
 |0,c,_,_,h,_,_,_,_=>by have:=D8 c;omega|N+1,c,p,m,h,o,w,n,E=>by
  obtain ⟨n,rfl⟩:∃k,n=k+1:=⟨n-1,by omega⟩;have kid:∀(i:Int),0<=i->i<c.hT.length->SizeOf.sizeOf (AA c.hT i)<=N:=fun i e g=>by
   have:=E1 (AJ (l:=c.hT) e g);omega
  rw [Dh,Cb];by_cases r:c.og=2
  .have D:=o.one (.inl r);rw[ae (by simpa using r),ae r,AD (by omega) (by omega),bs,QB hf hv hh N _ p m (kid 0 (by omega) (by omega)) (o.kid (by omega) _ (AJ (by omega) (by omega))) w n (by omega),bs]
   grind
  rw [az (by simpa using r),az r];by_cases y:c.og=3
  .rw[ae (by simpa using y),ae y];have B:=o.few;rw[UI (Ll fun k=>Cb t d inj N k m) PD (show PD 0 (zP,zP)from rfl)]
   .unfold Rh;show gn (some (Du (Ll fun k=>Cb t d inj N k m) c.hT (zP,zP))) _ _=_;cases Du (Ll fun k=>Cb t d inj N k m) c.hT (zP,zP)<;>rfl
   .intro i st e g hi;unfold PD at hi;rw[AD e g,bs,QB hf hv hh N _ p m (kid i e g) (o.kid (by omega) _ (AJ e g)) w n (by omega),bs]
    grind [Ll,Cb,AA,Ae,Ad,PD]
  rw [az (by simpa using y),az y];by_cases z:c.og=4
  .rw[ae (by simpa using z),ae z];rw[JK (fun _=>zP) (fun i=>if(Cb t d inj N (AA c.hT i) m).2≠10 then some (⟨i,zM,[(Cb t d inj N (AA c.hT i) m).1]⟩,(Cb t d inj N (AA c.hT i) m).2)else none) (by omega) rfl]
   .cases fst (fun i=>if(Cb t d inj N (AA c.hT i) m).2≠10 then some ((⟨i,zM,[(Cb t d inj N (AA c.hT i) m).1]⟩:Az),(Cb t d inj N (AA c.hT i) m).2)else none) 0 c.hT.length<;>rfl
   .intro i e g _;rw[AD e g,bs,QB hf hv hh N _ p m (kid i e g) (o.kid (by omega) _ (AJ e g)) w n (by omega),bs];generalize Cb t d inj N (AA c.hT i) m=x;by_cases j:x.2=10
    .rw[az (by simp[j]),az (by simp[j])];try rfl
    .rw[ae (by simp[j]),ae j];try rfl
  rw [az (by simpa using z),az z];by_cases u:c.og=5
  .rw[ae (by simpa using u),ae u];have hi:=o.ins u;have D:=o.one (.inr u);rw[oA hf hv hh w hi,bs];by_cases A:(DT t c d m inj).2=0
   .obtain⟨j,C⟩:=ZP hv hh w hi A;rw[az (by simp[A]),az (by simp[A])];generalize (DT t c d m inj).1=l at j C;rw[JK (fun _=>zP) (fun i=>if(Cb t d inj N (AA c.hT 0) (AA l i)).2≠10 then some (⟨0,AA l i,[(Cb t d inj N (AA c.hT 0) (AA l i)).1]⟩,(Cb t d inj N (AA c.hT 0) (AA l i)).2)else none) (by omega) rfl]
    .cases fst (fun i=>if(Cb t d inj N (AA c.hT 0) (AA l i)).2≠10 then some ((⟨0,AA l i,[(Cb t d inj N (AA c.hT 0) (AA l i)).1]⟩:Az),(Cb t d inj N (AA c.hT 0) (AA l i)).2)else none) 0 l.length<;>rfl
    .intro i e g _;rw[AD (by omega) (by omega),bs,AD e g,bs,QB hf hv hh N _ c.ec _ (kid 0 (by omega) (by omega)) (o.kid5 u _ (AJ (by omega) (by omega))) (C _ (AJ e g)) n (by omega),bs];generalize Cb t d inj N (AA c.hT 0) (AA l i)=x;by_cases j:x.2=10
     .rw[az (by simp[j]),az (by simp[j])];try rfl
     .rw[ae (by simp[j]),ae j];try rfl
   grind
  grind
end Go.Sf.Sc
namespace Go.Sf.Sc
open Go Go.Sf
noncomputable def Ru(t:AC)(p:ec)(c:d7)(h:AG)(m:AL)(inj:Bool):Int:=
 if Lt t p c≠0 then Lt t p c else if(ID t h).2≠0 then(ID t h).2 else if F8 t p.d4 h.d4 m.d6 inj≠0 then F8 t p.d4 h.d4 m.d6 inj else
 if (FC t p h m.d6).2≠0 then(FC t p h m.d6).2 else if(FC t p h m.d6).1=m.hV then 0 else 11
variable{t:AC}{c:d7}
theorem fv(hf:At t)(p:ec)(d:DV c)(h:AG)(m:AL)(inj:Bool):D4 t p c h m inj=some (Ru t p c h m inj):=by
 unfold D4 Ru;rw[kZ hf p d,bs];refine DX fun _=>?_;rw[Uh hf,bs];refine DX fun _=>?_;rw[VM hf,bs];refine DX fun _=>?_;rw[Zf hf,bs];refine DX fun _=>?_;rw[jE,bs]
 grind
variable{p:ec}{h:AG}{inj:Bool}
theorem UA(hf:At t)(z:ER c<=40){m:AL}(e:Ru t p c h m inj=0):(Ax t).2=0/\IH t h/\CV t p c/\Tu t p h m:=by
 unfold Ru at e;split at e
 .grind
 rename_i d;split at e
 .grind
 rename_i j;split at e
 .grind
 rename_i o;split at e
 .grind
 rename_i r;split at e
 case isFalse=>cases e
 rename_i C;have d:=Classical.not_not.1 d;have j:=Classical.not_not.1 j;have o:=Classical.not_not.1 o;have r:=Classical.not_not.1 r;obtain⟨hv,hh⟩:=Sk hf j;have w:=(XI o).2;unfold Lt at d;split at d
 .grind
 rename_i A;split at d
 .grind
 rename_i u;have y:=gD hv (.inl (Classical.not_not.1 A));have u:=Classical.not_not.1 u;have B:jY c=true:=by
  grind [Ou]
 suffices g:(m.hV.length:Int)=p.hV/\Ns m.hV from⟨hv,hh,iu hv _ c p (bk _) z B d,y,w,g.1,g.2⟩
 have g:∀s∈p.ff,II p.hV h m.d6 s:=fun s g=>OW (DG hv) y hh w g
 grind [FC,eG]
end Go.Sf.Sc
namespace Go.Sf.Sc
open Go Go.Sf
def OS:Nat->d7->Bool
 |0,_=>true|N+1,c=>if o4 (fun i=>!OS N (AA c.hT i)) 0 c.hT.length=true then false else decide (Af ((c.ec.d4.d3.length:Int)+c.ec.d4.d5.length)<=6)
theorem WB:∀(N:Nat)(c:d7),SizeOf.sizeOf c<=N->∀n,N<=n->E9 n c=some (OS N c)
 |0,c,h,_,_=>by have:=D8 c;omega|N+1,c,h,n,g=>by
  obtain ⟨n,rfl⟩:∃k,n=k+1:=⟨n-1,by omega⟩;rw[E9,OS,BL (fun i=>!OS N (AA c.hT i)) false]
  .cases o4 (fun i=>!OS N (AA c.hT i)) 0 c.hT.length<;>rfl
  .intro i d e _;have:=E1 (AJ (l:=c.hT) d e);rw[AD d e,bs,WB N _ (by omega) n (by omega),bs,Hx]
theorem gH(c:d7):Oq c=some (OS (SizeOf.sizeOf c) c):=EG (SizeOf.sizeOf c) fun n d=>WB _ c (bk _) n d
def SE(a:Int):Nat->Int->Int
 |0,s=>s|k+1,s=>Af (SE a k s*a)
theorem jH{a b k s:Int}(g:0<=k)(e:k<=1000)(j:b<=1000):ES (ρ:=Bool) (fun(d:Int×Int)=>
  if (decide (d.2<b))=true then
  some (.next (Af (d.1*a),Af (d.2+1)))
  else
  some (.brk (d.1,d.2))) (s,k)=some (.inl (SE a (max k b-k).toNat s,max k b)):=by
 refine Oz (fun i=>SE a (i-k).toNat s) (by omega) (by rw[show(k-k).toNat=0 by omega];rfl) (fun i o r=>?_) ?_
 .rw[ae (by simp;omega),show(i+1-k).toNat=(i-k).toNat+1 by omega,SE];dsimp only;rw[As (n:=i+1) (by omega) (by omega)]
 .rw[az (by simp;omega)]
def Of(a b:Int):Nat->ec->d7->Bool
 |0,_,_=>true|N+1,p,c=>
  let q:=if c.og=5 then c.ec else p
  if o4 (fun i=>!Of a b N q (AA c.hT i)) 0 c.hT.length=true then false else
  decide (SE b (max (p.d4.d5.length:Int) q.d4.d5.length-p.d4.d5.length).toNat (SE a (max (p.d4.d3.length:Int) q.d4.d3.length-p.d4.d3.length).toNat 1)<=5000)
theorem YC(a b:Int):∀(N:Nat)(c:d7)(p:ec),SizeOf.sizeOf c<=N->DV c->Mf p->∀n,N<=n->Dt n p c a b=some (Of a b N p c)
 |0,c,_,h,_,_,_,_=>by have:=D8 c;omega|N+1,c,p,h,g,z,n,K=>by
  obtain ⟨n,rfl⟩:∃k,n=k+1:=⟨n-1,by omega⟩;have E:=g.q.ei;have F:=g.q.em;have G:=z.ei;have H:=z.em;have e:∀q:ec,Mf q->(gn (ES (ρ:=Bool) (fun(d:Int×Int)=>
    if (decide (d.2<(q.d4.d3.length:Int)))=true then
    some (.next (Af (d.1*a),Af (d.2+1)))
    else
    some (.brk (d.1,d.2))) (1,(p.d4.d3.length:Int))) (fun d=>
    gn (ES (ρ:=Bool) (fun(s2:Int×Int)=>
    if (decide (s2.2<(q.d4.d5.length:Int)))=true then
    some (.next (Af (s2.1*b),Af (s2.2+1)))
    else
    some (.brk (s2.1,s2.2))) (d.1,(p.d4.d5.length:Int))) (fun s2=>
    gn (kl (ρ:=Bool) (fun(A:Int)(_:Unit)=>
    (idx c.hT A).bind fun j=>
    (Dt n q j a b).bind fun o=>
    if (!o)=true then
    some (.ret false)
    else
    some (.next ())) 0 (c.hT.length:Int) ()) (fun _=>
    some (decide (s2.1<=5000))) (fun B=>some B)) (fun C=>some C)) (fun D=>some D))=
    some (if o4 (fun i=>!Of a b N q (AA c.hT i)) 0 c.hT.length=true then false else
     decide (SE b (max (p.d4.d5.length:Int) q.d4.d5.length-p.d4.d5.length).toNat (SE a (max (p.d4.d3.length:Int) q.d4.d3.length-p.d4.d3.length).toNat 1)<=5000)):=by
   intro q r;have I:=r.ei;have J:=r.em;rw[jH (by omega) (by omega) (by omega),Bh];dsimp only;rw[jH (by omega) (by omega) (by omega),Bh,BL (fun i=>!Of a b N q (AA c.hT i)) false]
   .cases o4 (fun i=>!Of a b N q (AA c.hT i)) 0 c.hT.length<;>rfl
   .intro i u w _;have:=E1 (AJ (l:=c.hT) u w);rw[AD u w,bs,YC a b N _ q (by omega) (g.k _ (AJ u w)) r n (by omega),bs,Hx]
  rw [Dt,Of];by_cases y:c.og=5
  .rw[ae (by simpa using y),ae y,bs,e _ g.q]
  grind
variable{c:d7}{p:ec}
theorem dP(a b:Int)(d:DV c)(e:Mf p):Nz p c a b=some (Of a b (SizeOf.sizeOf c) p c):=EG (SizeOf.sizeOf c) fun n g=>YC a b _ c p (bk _) d e n g
theorem XQ(h:AG):∃b,GZ h=some b:=by
 unfold GZ Hd;rw[bs];split
 .exact⟨_,rfl⟩
 .rw[BL (fun i=>decide (12<((AA h.fq i).length:Int))) false]
  .cases o4 (fun i=>decide (12<((AA h.fq i).length:Int))) 0 h.fq.length
   .exact⟨true,rfl⟩
   .exact⟨false,rfl⟩
  .intro i d e _;rw[AD d e,bs,Hx]
variable{t:AC}
theorem dV(hf:At t)(st:(AQ t).Sm)(p g:d4):∃b,Ko t p g=some b:=by
 obtain ⟨b,e,_⟩:=R1 st;unfold Ko Hd;rw[e,bs,Td hf]
 grind
theorem dW(hf:At t)(st:(AQ t).Sm)(p:ec)(w:(AK c).Sm)(h:AG):∃b,Ku t p c h=some b/\(b=true->DV c/\ER c<=40/\Mf p):=by
 obtain ⟨y,z,A⟩:=cT w;obtain⟨B,r,C⟩:=P3 p;obtain⟨D,u⟩:=XQ h;unfold Ku;rw[z,bs];cases y
 .exact⟨false,rfl,fun h=>by cases h⟩
 rw [r];cases B
 .exact⟨false,rfl,fun h=>by cases h⟩
 rw [u];cases D
 .exact⟨false,rfl,fun h=>by cases h⟩
 have g:=A rfl;have j:=C rfl;simp only[bs,Bool.not_true,Bool.false_eq_true,if_false];rw[dQ hf p g.1,bs];have d:∀o:K1,(∃b,o=some b)->∃b,o=some b/\(b=true->DV c/\ER c<=40/\Mf p):=fun o⟨b,e⟩=>⟨b,e,fun _=>⟨g.1,g.2,j⟩⟩;refine d _ ?_;split
 .exact⟨true,rfl⟩
 .obtain⟨E,F⟩:=dV hf st p.d4 h.d4;unfold NG;rw[r,u,F,gH,dP 14 18 g.1 j];simp only[bs,if_true];cases E<;>simp only[Bool.false_eq_true,if_false,if_true,bs,Bool.false_and]
  .exact⟨_,rfl⟩
  .split
   .exact⟨_,rfl⟩
   .exact⟨_,rfl⟩
noncomputable def wS(t:AC)(p:ec)(c:d7)(h:AG)(m:AL)(inj:Bool):Az×Int:=
 if Ru t p c h m inj≠0 then(zP,Ru t p c h m inj)else Cc t h inj (SizeOf.sizeOf c) c m
theorem dL(hf:At t)(p:ec)(e:DV c)(g:ER c<=40)(h:AG)(m:AL)(inj:Bool):DH t p c h m inj=some (wS t p c h m inj):=by
 unfold DH wS;rw[fv hf p e,bs];refine Dp fun j=>?_;obtain⟨hv,hh,d,r⟩:=UA hf g j;rw[show DP (Al.mk t h inj) c m=some (Cc t h inj (SizeOf.sizeOf c) c m)from EG (2*SizeOf.sizeOf c) fun n o=>Uj (s:=⟨t,h,inj⟩) hf hv hh _ c p m (bk _) d r n o];rfl
noncomputable def LO(t:AC)(p:ec)(c:d7)(h:AG)(m:AL)(inj:Bool):Bool×Int:=
 if (wS t p c h m inj).2=10 then(false,0)else(decide ((wS t p c h m inj).2=0),(wS t p c h m inj).2)
theorem Yz(hf:At t)(p:ec)(d:DV c)(e:ER c<=40)(h:AG)(m:AL)(inj:Bool):Cv t p c h m inj=some (LO t p c h m inj):=by grind[Cv,LO,dL,wS]
variable{h:AG}{inj:Bool}
theorem gG(hf:At t){m:AL}(hv:(Ax t).2=0)(hh:IH t h)(d:CV t p c)(e:Tu t p h m):Pl t c h m inj=some (Cb t h inj (SizeOf.sizeOf c) c m):=EG (SizeOf.sizeOf c) fun n g=>QB hf hv hh _ c p m (bk _) d e n g
end Go.Sf.Sc
namespace Go.Sf.Sc
open Go Go.Sf
end Go.Sf.Sc
namespace Go.Sf.Sc
open Go Go.Sf
theorem l5(t:AC)(p:ec)(c:d7)(h:AG)(m:AL)(inj:Bool):wS t p c h m inj=if Ru t p c h m inj≠0 then(zP,Ru t p c h m inj)else KZ (Cb t h inj (SizeOf.sizeOf c) c m):=by
 unfold wS;rw[aB]
end Go.Sf.Sc
