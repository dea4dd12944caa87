/- Plain lemmas: what the functions of the program and of the reference compute. -/
import Derived.Test.YtfcfkigfmofniaaGreatP25
set_option linter.all false
set_option maxRecDepth 100000
namespace Go.Sf.Sc
open Go Go.Sf
variable{all:List kq}{k:Int}
theorem SG(h:LU all k=0)(d:(AA all k).r0.length<=1000):-1000000<=(AA all k).ze/\(AA all k).yl<=1000000:=by grind[LU]
variable{t:eb}{i:Int}
theorem bq(h:Hi t i=0):∀k,((Ak t i).length:Int)-(AA t.ca i).pr.length<=k->k<(Ak t i).length->LU (Ak t i) k=0:=by
 unfold Hi at h;dsimp only at h;split at h
 .cases h
 split at h
 .cases h
 split at h
 .cases h
 split at h
 .cases h
 exact WQ h
variable{a:Int}
theorem P2{n:Nat}(d:0<=a):BZ t (n+1) a=BZ t n (par t a)++(AA t.ca a).pr:=by grind[BZ]
theorem kG(h:LU all k=0)(d:(AA all k).r0.length<=1000):(AA all k).ze<=(AA all k).yl:=by grind[LU]
theorem SH(hf:Ai t)(h:Fa t){Q:kq->Prop}(SG:∀{all:List kq}{k:Int},LU all k=0->(AA all k).r0.length<=1000->Q (AA all k)):∀(n:Nat)(a:Int),a<t.ca.length->a<n->∀x∈BZ t n a,Q x
 |0,_,_,_=>by simp[BZ]|n+1,a,g,C=>by
  by_cases o:a<0
  .rw[Jb o];simp
  .have y:=h.par a (by omega) g;intro x d;rw[P2 (by omega)]at d;rcases List.mem_append.1 d with d|d
   .exact SH hf h SG n (par t a) (by omega) (by omega) x d
   .obtain⟨j,A,B,rfl⟩:=BR d;have e:Ak t a=BZ t a.toNat (par t a)++(AA t.ca a).pr:=by
     unfold Ak;rw[show(a+1).toNat=a.toNat+1 by omega,P2 (by omega)]
    have z:(Ak t a).length=(BZ t a.toNat (par t a)).length+(AA t.ca a).pr.length:=by rw[e,bk]
    have r:=bq (h.node a (by omega) g) ((BZ t a.toNat (par t a)).length+j) (by omega) (by omega);have u:AA (Ak t a) ((BZ t a.toNat (par t a)).length+j)=AA (AA t.ca a).pr j:=by
     grind [M4,AA]
    have w:=NR hf (Int.le_refl _) h.par g (AA (Ak t a) ((BZ t a.toNat (par t a)).length+j)) (AF (by omega) (by omega));have:=SG r (by have:=w.names;omega)
    rwa [u]at this
theorem V9(hf:Ai t)(h:Fa t)(e:0<=a)(d:a<t.ca.length):∀x∈Ak t a,-1000000<=x.ze/\x.yl<=1000000:=SH hf h SG _ a d (by omega)
theorem gO(hf:Ai t)(h:Fa t)(e:0<=a)(d:a<t.ca.length):∀x∈Ak t a,x.ze<=x.yl:=SH hf h kG _ a d (by omega)
theorem Yv(e:Ek t k):∀(n:Nat)(a b:Int),a<k->a<n->b∈Pw t n a->0<=b/\b<=a/\(Ak t b).length<=(BZ t n a).length
 |0,_,_,_,_=>by simp[Pw]|n+1,a,b,g,r=>by
  intro d;rw[Pw]at d;split at d
  .cases d
  .rename_i j;have o:=e a (by omega) g;rw[P2 (by omega)];rcases List.mem_cons.1 d with rfl|d
   .refine⟨by omega,by omega,?_⟩;unfold Ak;rw[M5 e (b+1).toNat (n+1) b g (by omega) (by omega),P2 (by omega)];exact b6 _
   .have:=Yv e n (par t a) b (by omega) (by omega) d
    grind
variable{b:Int}
theorem YN(h:Fa t)(j:a<t.ca.length)(d:Hl t a b=true):(Ak t b).length<=(Ak t a).length:=by
 unfold Hl at d;rw[List.any_eq_true]at d;obtain⟨x,g,e⟩:=d;rw[yf]at e;subst e;by_cases o:a<0
 .have:(a+1).toNat=0:=by omega
  rw [this]at g;cases g
 .exact(Yv h.par (a+1).toNat a b j (by omega) g).2.2
theorem d9{α:Type}{Q:Prop}[Decidable Q]{v:α}{X:Option α}{Y:α}(he:a=b↔Q)(h:Q->X=some Y):(if(!decide (a=b))=true then some v else X)=some (if¬Q then v else Y):=by grind
def RU(t:eb)(k:Int)(v:Fp)(j:Int):Bool:=decide (AA v j<(AA (Ak t k) j).ze)||decide ((AA (Ak t k) j).yl<AA v j)
def HE(t:eb)(k:Int)(v:Fp):Int:=
 if (t.ca.length:Int)<=k then 6 else if(AA t.ca k).tc=true then 13 else if¬v.length=(Ak t k).length then 20 else
 if mt (RU t k v) 0 (Ak t k).length=true then 6 else 0
def Kv(t:eb)(g:d3)(i:Int):Int:=
 if (t.ci.length:Int)<=(AA g.ci i).kl then 6 else if Jf t g i=false then 13 else 0
def E4(t:eb)(h:ff):Int×Int:=
 if (As t).2≠0 then(-1,(As t).2)else if Bm h.d3≠0 then(-1,Bm h.d3)else if¬h.ej.length=h.d3.ca.length then(-1,20)else
 match fst (fun i=>(nz (HE t (AA h.d3.ca i) (AA h.ej i))).map fun e=>(i,e)) 0 h.d3.ca.length with
 |some r=>r|none=>(fst (fun i=>(nz (Kv t h.d3 i)).map fun e=>(i,e)) 0 h.d3.ci.length).getD (-1,0)
theorem H5(hv:(As t).2=0)(d:0<=k)(e:k<t.ca.length):Ea t k=(Ak t k,0):=by grind[Ea,M9]
theorem Rw{x:Bool}{y:Bool}:(if x=true then some true else some y)=some (x||y):=by cases x<;>rfl
theorem ov(hf:Ai t)(hv:(As t).2=0)(d:0<=k)(v:Fp):Kw t k v=some (HE t k v):=by
 unfold Kw HE;by_cases e:(t.ca.length:Int)<=k
 .grind
 rw [az (by simpa using e),az e,AC d (by omega),bs];refine Zi fun _=>?_;rw[Rx hf,H5 hv d (by omega),bs];refine d9 (by simp;omega) fun g=>?_;rw[BW (RU t k v) 6]
 .cases mt (RU t k v) 0 (Ak t k).length<;>rfl
 grind [Ak,AC,Rw,RU,AA]
theorem pM(hf:Ai t)(hv:(As t).2=0)(d:0<=k)(v:Fp):Nz t k v=some (HE t k v):=by
 unfold Nz HE;by_cases e:(t.ca.length:Int)<=k
 .grind
 rw [az (by simpa using e),az e,AC d (by omega),bs];refine Zi fun _=>?_;rw[NE hf,H5 hv d (by omega),bs];refine d9 (by simp;omega) fun g=>?_;rw[BW (RU t k v) 6]
 .cases mt (RU t k v) 0 (Ak t k).length<;>rfl
 grind [Ak,AC,Rw,RU,AA]
theorem aJ(e i:Int):(if(!decide (e=0))=true then some (Bf.ret (σ:=Unit) (ρ:=Int×Int) (i,e))else some (.next ()))=some (QV ((nz e).map fun e=>(i,e))):=by grind[nz,QV]
theorem Wn(hf:Ai t)(h:ff):E5 t h=some (E4 t h):=by
 unfold E5 E4;rw[Oc hf,bs];refine CN fun hv=>?_;rw[Lb,bs];refine CN fun o=>?_;have go:=Cr o;refine d9 (by omega) fun z=>?_;rw[BF (fun i=>(nz (HE t (AA h.d3.ca i) (AA h.ej i))).map fun e=>(i,e)),Cx]
 .cases u:fst (fun i=>(nz (HE t (AA h.d3.ca i) (AA h.ej i))).map fun e=>(i,e)) 0 h.d3.ca.length with
  |some r=>rfl|none=>
   have w:=Ay.1 u;dsimp only;rw[BF (fun i=>(nz (Kv t h.d3 i)).map fun e=>(i,e)),Cx]
   .grind
   .intro i d g _;have y:=go.fit _ (AF (l:=h.d3.ci) d g);rw[AC d g,bs];unfold Kv Jf;by_cases j:(t.ci.length:Int)<=(AA h.d3.ci i).kl
    .rw[ae (by simpa using j),ae j];rfl
    .rw[az (by simpa using j),az j,AC (by omega) (by omega),bs,AC (by omega) (by omega),bs,iM hf,bs];cases Ow t (AA h.d3.ci i).kl (AA h.d3.ca (AA h.d3.ci i).kp) (AA h.d3.ca (AA h.d3.ci i).To)<;>rfl
 .intro i d g _;rw[AC d g,bs,AC d (by omega),bs,ov hf hv (go.kind _ (AF d g)).1,bs];exact aJ _ i
theorem UR(hf:Ai t)(h:ff):Gt t h=some (E4 t h):=by
 unfold Gt E4;rw[QN hf,bs];refine CN fun hv=>?_;rw[Lc,bs];refine CN fun o=>?_;have go:=Cr o;refine d9 (by omega) fun z=>?_;rw[BF (fun i=>(nz (HE t (AA h.d3.ca i) (AA h.ej i))).map fun e=>(i,e)),Cx]
 .cases u:fst (fun i=>(nz (HE t (AA h.d3.ca i) (AA h.ej i))).map fun e=>(i,e)) 0 h.d3.ca.length with
  |some r=>rfl|none=>
   have w:=Ay.1 u;dsimp only;rw[BF (fun i=>(nz (Kv t h.d3 i)).map fun e=>(i,e)),Cx]
   .grind
   .intro i d g _;have y:=go.fit _ (AF (l:=h.d3.ci) d g);rw[AC d g,bs];unfold Kv Jf;by_cases j:(t.ci.length:Int)<=(AA h.d3.ci i).kl
    .rw[ae (by simpa using j),ae j];rfl
    .rw[az (by simpa using j),az j,AC (by omega) (by omega),bs,AC (by omega) (by omega),bs,Ww hf,bs];cases Ow t (AA h.d3.ci i).kl (AA h.d3.ca (AA h.d3.ci i).kp) (AA h.d3.ca (AA h.d3.ci i).To)<;>rfl
 .intro i d g _;rw[AC d g,bs,AC d (by omega),bs,pM hf hv (go.kind _ (AF d g)).1,bs];exact aJ _ i
structure Ix(t:eb)(h:ff):Prop where
 g:CQ h.d3
 len:h.ej.length=h.d3.ca.length
 kind:∀i:Int,0<=i->i<h.d3.ca.length->0<=AA h.d3.ca i/\AA h.d3.ca i<t.ca.length
 row:∀i:Int,0<=i->i<h.d3.ca.length->(AA h.ej i).length=(Ak t (AA h.d3.ca i)).length
 low:∀i:Int,0<=i->i<h.d3.ca.length->∀x∈AA h.ej i,-1000000<=x/\x<=1000000
 ge:Bm h.d3=0
 ty:CP t h.d3=true
variable{h:ff}
theorem eR(e:(E4 t h).2=0):(∀i:Int,0<=i->i<h.d3.ca.length->HE t (AA h.d3.ca i) (AA h.ej i)=0)/\∀i:Int,0<=i->i<h.d3.ci.length->Kv t h.d3 i=0:=by
 unfold E4 at e;split at e
 .rename_i u;exact absurd e u
 split at e
 .rename_i u;exact absurd e u
 split at e
 .cases e
 rename_i u z A;have y:∀i:Int,0<=i->i<h.d3.ca.length->HE t (AA h.d3.ca i) (AA h.ej i)=0:=by
  split at e
  .rename_i r d;obtain⟨i,_,_,k,_⟩:=C2 d;unfold nz at k;split at k
   .cases k
   .rename_i g;cases k;exact absurd e g
  .rename_i d;exact fun i j o=>FK.1 (Kz.1 (Ay.1 d i j o))
 have he:∀i:Int,0<=i->i<h.d3.ci.length->Kv t h.d3 i=0:=by
  have w:fst (fun i=>(nz (HE t (AA h.d3.ca i) (AA h.ej i))).map fun e=>(i,e)) 0 h.d3.ca.length=none:=Ay.2 fun i j o=>by rw[y i j o];rfl
  rw [w]at e;dsimp only at e;cases d:fst (fun i=>(nz (Kv t h.d3 i)).map fun e=>(i,e)) 0 h.d3.ci.length with
  |some r=>
   rw [d]at e;obtain⟨i,_,_,k,_⟩:=C2 d;unfold nz at k;split at k
   .cases k
   .rename_i g;cases k;exact absurd e g
  |none=>exact fun i j o=>FK.1 (Kz.1 (Ay.1 d i j o))
 exact ⟨y,he⟩
theorem Up(hf:Ai t)(e:(E4 t h).2=0):(As t).2=0/\Ix t h:=by
 obtain ⟨w,he⟩:=eR e;unfold E4 at e;split at e
 .rename_i o;exact absurd e o
 split at e
 .rename_i o;exact absurd e o
 split at e
 .cases e
 rename_i o A D;have hv:=Classical.not_not.1 o;have go:=Cr (Classical.not_not.1 A);have u:∀i:Int,0<=i->i<h.d3.ca.length->(0<=AA h.d3.ca i/\AA h.d3.ca i<t.ca.length)/\(AA h.ej i).length=(Ak t (AA h.d3.ca i)).length/\∀j:Int,0<=j->j<(Ak t (AA h.d3.ca i)).length->RU t (AA h.d3.ca i) (AA h.ej i) j=false:=by
  intro i d g;have F:=(go.kind _ (AF d g)).1;have:=w i d g;unfold HE at this;split at this
  .cases this
  split at this
  .cases this
  split at this
  .cases this
  split at this
  .cases this
  rename_i a1 a2 a3 E;exact⟨⟨F,by omega⟩,Classical.not_not.1 a3,Bt.1 (by simpa using E)⟩
 have z:CP t h.d3=true:=by
  unfold CP;rw[sr,Bool.not_eq_true',Bool.not_eq_true',List.any_eq_false,List.any_eq_false];refine⟨fun n w=>?_,fun x y=>?_⟩
  .obtain⟨i,d,g,rfl⟩:=BR w;have:=(u i d g).1.2;simp;omega
  .obtain⟨i,d,g,rfl⟩:=BR y;have:=he i d g;unfold Kv at this;split at this
   .cases this
   .simp;omega
 suffices r:∀i:Int,0<=i->i<h.d3.ca.length->∀x∈AA h.ej i,-1000000<=x/\x<=1000000 from⟨hv,go,Classical.not_not.1 D,fun i d g=>(u i d g).1,fun i d g=>(u i d g).2.1,r,Classical.not_not.1 A,z⟩
 intro i d g x y;obtain⟨B,H,G⟩:=u i d g;obtain⟨j,C,I,rfl⟩:=BR y;have:=G j C (by omega);unfold RU at this;simp[decide_eq_false_iff_not]at this;have:=V9 hf (C6 hv) B.1 B.2 _ (AF (l:=Ak t (AA h.d3.ca i)) C (by omega));omega
end Go.Sf.Sc
namespace Go.Sf.Sc
open Go Go.Sf
def I4(t:eb)(p g:d3)(m:d4)(i:Int):a5:=
 if AA m.ca i<0\/g.ca.length<=AA m.ca i then some 6 else if Hl t (AA g.ca (AA m.ca i)) (AA p.ca i)=false then some 13 else none
def Mm(t:eb)(p g:d3)(m:d4):Int:=
 if m.ca.length≠p.ca.length\/m.ci.length≠p.ci.length then 20 else
 match fst (I4 t p g m) 0 m.ca.length with
 |some e=>e|none=>(fst (FY p g m) 0 m.ci.length).getD 0
def FU(t:eb)(p g:d3)(m:d4)(inj:Bool):Int:=
 if Ee t p g≠0 then Ee t p g else if Mm t p g m≠0 then Mm t p g m else if(inj&&!HF m)=true then 5 else 0
structure Xr(t:eb)(p g:d3)(m:d4):Prop where
 yW:m.ca.length=p.ca.length
 zb:m.ci.length=p.ci.length
 node:∀i:Int,0<=i->i<m.ca.length->(0<=AA m.ca i/\AA m.ca i<g.ca.length)/\Hl t (AA g.ca (AA m.ca i)) (AA p.ca i)=true
 edge:∀i:Int,0<=i->i<m.ci.length->0<=AA m.ci i/\AA m.ci i<g.ci.length
variable{t:eb}
theorem Mw{p g:d3}(h:Ee t p g=0):(As t).2=0/\CQ p/\CQ g/\(∀n∈p.ca,0<=n/\n<t.ca.length)/\∀n∈g.ca,0<=n/\n<t.ca.length:=by
 unfold Ee at h;split at h
 .grind
 split at h
 .grind
 split at h
 .grind
 split at h
 .rename_i e j o d;rw[sr]at d
  grind [Cr,Hc]
 .cases h
variable{m:d4}
theorem dU{p g:d3}(h:Mm t p g m=0):Xr t p g m:=by
 unfold Mm at h;split at h
 .cases h
 rename_i o;have j:fst (I4 t p g m) 0 m.ca.length=none:=by
  grind [C2,I4]
 rw [j]at h;have he:=PP (fun i=>by
  grind [FY]) h
 refine ⟨by omega,by omega,fun i d e=>?_,fun i d e=>?_⟩
 .grind[Ay,I4]
 grind [FY]
theorem YX(hf:Ai t){p g:d3}(A:Ee t p g=0)(m:d4):GF t p g m=some (Mm t p g m):=by
 obtain ⟨hv,C,G,tp,D⟩:=Mw A;unfold GF Mm;refine GK (by simp;try omega) fun E=>?_;rw[nW hf (C6 hv) hv,bs,BF (I4 t p g m),Cx]
 .cases F:fst (I4 t p g m) 0 m.ca.length with
  |some e=>rfl|none=>
   dsimp only;rw[BF (FY p g m),CG];intro i j z _;unfold FY;rw[AC j z,bs];by_cases d:AA m.ci i<0\/g.ci.length<=AA m.ci i
   .rw[ae (by simpa using d),ae d];rfl
   .have hf:=C.fit _ (AF (l:=p.ci) j (by omega));rw[az (by simpa using d),az d,AC j (by omega),bs,AC (by omega) (by omega),bs];by_cases o:(AA p.ci i).kl=(AA g.ci (AA m.ci i)).kl
    .rw[az (by simpa using o),az (by simpa using o),AC (by omega) (by omega),bs];by_cases r:AA m.ca (AA p.ci i).kp=(AA g.ci (AA m.ci i)).kp
     .rw[az (by simpa using r),AC (by omega) (by omega),bs,bs];by_cases u:AA m.ca (AA p.ci i).To=(AA g.ci (AA m.ci i)).To
      .rw[az (by simpa using u),az (by simp[r,u])];rfl
      .rw[ae (by simpa using u),ae (.inr u)];rfl
     .rw[ae (by simpa using r),bs,ae rfl,ae (.inl r)];rfl
    .rw[ae (by simpa using o),ae o];rfl
 .intro i j z _;unfold I4;rw[AC j z,bs];by_cases d:AA m.ca i<0\/g.ca.length<=AA m.ca i
  .rw[ae (by simpa using d),ae d];rfl
  .have w:=tp _ (AF (l:=p.ca) j (by omega));have y:=D _ (AF (l:=g.ca) (show 0<=AA m.ca i by omega) (by omega));rw[az (by simpa using d),az d,AC j (by omega),bs,AC w.1 (by unfold Jq;rw[c8,Ap];exact w.2),bs,AC (by omega) (by omega),bs];have e:AA (Jq t) (AA p.ca i)=OA t (AA p.ca i):=by unfold Jq;exact G6 (OA t) w.1 w.2
   rw [e,AC y.1 (by unfold OA;rw[c8,Ap];exact y.2),bs];have B:AA (OA t (AA p.ca i)) (AA g.ca (AA m.ca i))=Hl t (AA g.ca (AA m.ca i)) (AA p.ca i):=by unfold OA;exact G6 (fun k=>Hl t k (AA p.ca i)) y.1 y.2
   rw [B];cases Hl t (AA g.ca (AA m.ca i)) (AA p.ca i)<;>rfl
variable{l:Fp}
theorem dF(d:l.length<=1000):HU l=some (!I6 l):=by grind[HU,VX,Jd,Aav,I6]
theorem Xc(hf:Ai t)(p g:d3)(m:d4)(inj:Bool):FA t p g m inj=some (FU t p g m inj):=by
 unfold FA FU;rw[Xh hf,bs];refine DM fun d=>?_;rw[YX hf d,bs];refine DM fun o=>?_;obtain⟨_,j,r,_⟩:=Mw d;have e:=dU o;have:=j.ea;have:=j.ec;have:=e.yW;have:=e.zb;rw[dF (by omega),dF (by omega)];unfold HF;cases inj<;>cases I6 m.ca<;>cases I6 m.ci<;>rfl
theorem pH(l:Fp):JH l=some (I6 l):=ZK l
theorem iw{p g:d3}(z:Ee t p g=0)(m:d4)(inj:Bool):MI t p g m inj=some (if Mm t p g m≠0 then Mm t p g m else if(inj&&!HF m)=true then 5 else 0):=by
 obtain ⟨hv,C,F,tp,D⟩:=Mw z;unfold MI Mm;by_cases A:m.ca.length≠p.ca.length\/m.ci.length≠p.ci.length
 .grind
 rw [az (by simp;try omega),az A,BF (I4 t p g m),Cx]
 .cases E:fst (I4 t p g m) 0 m.ca.length with
  |some e=>
   grind [C2,I4]
  |none=>
   dsimp only;rw[BF (FY p g m),Cx]
   .grind[fst,FY,C2,pH,HF,I6]
   intro i j w _;unfold FY;rw[AC j w];simp only[bs,UK];by_cases d:AA m.ci i<0\/g.ci.length<=AA m.ci i
   .rw[ae (by simpa using d),ae d];rfl
   .have hf:=C.fit _ (AF (l:=p.ci) j (by omega));rw[az (by simpa using d),az d,AC j (by omega),bs,AC (by omega) (by omega),bs];by_cases o:(AA p.ci i).kl=(AA g.ci (AA m.ci i)).kl
    .rw[az (by simpa using o),az (by simpa using o),AC (by omega) (by omega),bs];by_cases r:AA m.ca (AA p.ci i).kp=(AA g.ci (AA m.ci i)).kp
     .rw[az (by simpa using r),AC (by omega) (by omega),bs,bs];by_cases u:AA m.ca (AA p.ci i).To=(AA g.ci (AA m.ci i)).To
      .rw[az (by simpa using u),az (by simp[r,u])];rfl
      .rw[ae (by simpa using u),ae (.inr u)];rfl
     .rw[ae (by simpa using r),bs,ae rfl,ae (.inl r)];rfl
    .rw[ae (by simpa using o),ae o];rfl
 .intro i j w _;unfold I4;rw[AC j w];simp only[bs,UK];by_cases d:AA m.ca i<0\/g.ca.length<=AA m.ca i
  .rw[ae (by simpa using d),ae d];rfl
  .have B:=tp _ (AF (l:=p.ca) j (by omega));have y:=D _ (AF (l:=g.ca) (show 0<=AA m.ca i by omega) (by omega));rw[az (by simpa using d),az d,AC (by omega) (by omega),bs,AC j (by omega),bs,Uz (C6 hv) y.1 y.2 B.1,bs];cases Hl t (AA g.ca (AA m.ca i)) (AA p.ca i)<;>rfl
theorem Xj(hf:Ai t)(p g:d3)(m:d4)(inj:Bool):If t p g m inj=some (FU t p g m inj):=by
 unfold If FU;rw[Sp hf,bs];refine DM fun d=>?_;rw[iw d,bs]
theorem Zj{p g:d3}{inj:Bool}(h:FU t p g m inj=0):Ee t p g=0/\Xr t p g m:=by grind[FU,dU]
end Go.Sf.Sc
namespace Go.Sf.Sc
open Go Go.Sf
section
variable{α σ ρ:Type}
def Du(step:α->σ->Bf σ ρ):List α->σ->σ ⊕ ρ
 |[],s=>.inl s|a::r,s=>match step a s with
  |.next s'=>Du step r s'|.brk s'=>.inl s'|.ret r=>.inr r
variable{f:Int->σ->Option (Bf σ ρ)}
theorem T5[Inhabited α]{l:List α}(step:α->σ->Bf σ ρ)(I:σ->Prop)(h:∀(i:Int)s,0<=i->i<l.length->I s->f i s=some (step (AA l i) s)/\∀s',step (AA l i) s=.next s'->I s'):
  ∀(n:Nat)(a:Int)(s:σ),0<=a->a+n=l.length->I s->x9 f n a s=some (Du step (l.drop a.toNat) s)
 |0,a,s,d,o,_=>by
  rw [List.drop_eq_nil_of_le (by omega)];rfl
 |n+1,a,s,d,o,u=>by
  obtain ⟨g,j⟩:=h a s d (by omega) u;have hd:l.drop a.toNat=AA l a::l.drop (a+1).toNat:=by
   grind [List.drop_eq_getElem_cons,AA,List.getElem?_eq_getElem]
  rw [EP,g,hd,Du];cases e:step (AA l a) s with
  |next s'=>
   simp only;exact T5 step I h n (a+1) s' (by omega) (by omega) (j s' e)
  |brk s'=>rfl|ret r=>rfl
theorem Q1[Inhabited α]{l:List α}(step:α->σ->Bf σ ρ)(I:σ->Prop){s:σ}(d:I s)(h:∀(i:Int)s,0<=i->i<l.length->I s->f i s=some (step (AA l i) s)/\∀s',step (AA l i) s=.next s'->I s'):
  kg f 0 l.length s=some (Du step l s):=by
 have:=T5 step I h l.length 0 s (by omega) (by omega) d;unfold kg;rw[show((l.length:Int)-0).toNat=l.length by omega];exact this
theorem bJ[Inhabited α](step:α->σ->Bf σ ρ)(I:σ->Prop):∀(l:List α)(s s':σ),I s->(∀a∈l,∀s s',I s->step a s=.next s'->I s')->(∀a∈l,∀s s',step a s≠.brk s')->Du step l s=.inl s'->I s'
 |[],s,s',h,_,_,e=>by cases e;exact h
 |a::r,s,s',h,g,o,e=>by
  rw [Du]at e;split at e
  .rename_i s2 j;exact bJ step I r s2 s' (g a (by simp) s s2 h j) (fun a d=>g a (by simp[d])) (fun a d=>o a (by simp[d])) e
  .grind
  .cases e
end
def Cv(x:jj)(l:Fp):Int:=if x.Var<0 then x.Add else AG (AA l x.Var+x.Add)
variable{x:jj}{l:Fp}
theorem UL(h:x.Var<l.length):EC x l=some (Cv x l):=by grind[EC,Cv,AC]
theorem Yi(h:x.Var<l.length):Ig x l=some (Cv x l):=UL h
theorem aP(d:-1<=x.Var)(h:x.Var<l.length)(e:l.length<=1000):EZ x l=some (Cv x l,0):=by grind[EZ,CU,AV,UL]
theorem Oe(d:-1<=x.Var)(h:x.Var<l.length):ES x l=some (Cv x l,0):=by grind[ES,Yi]
def Ka(x:Test)(l:Fp):Bool:=(decide (x.ll=1)&&decide (Cv x.j4 l<=Cv x.fl l))||(decide (x.ll=2)&&decide (Cv x.j4 l=Cv x.fl l))
structure Hz(n:Int)(x:jj):Prop where
 low:-1<=x.Var
 high:x.Var<n
 add:-1000000<=x.Add/\x.Add<=1000000
def Pj(l:Fp):Prop:=∀x∈l,-2000000<=x/\x<=2000000
variable{n:Int}
theorem Sw(h:Hz n x)(d:Pj l)(e:n<=l.length):Cv x l=(if x.Var<0 then x.Add else AA l x.Var+x.Add)/\-3000000<=Cv x l/\Cv x l<=3000000:=by
 unfold Cv;have:=h.add;by_cases g:x.Var<0
 .grind
 .have hh:=h.high;have:=d _ (AF (l:=l) (show 0<=x.Var by omega) (by omega))
  grind [AV]
theorem Yh(h:Hz n x)(d:n<=l.length):KF x l=some (Cv x l,true):=by
 have e:=h.low;have g:=h.high
 grind [KF,Cv,AC]
theorem r_holds{x:Test}(e:Hz n x.j4)(g:Hz n x.fl)(d:n<=l.length):MC x l=some (Ka x l):=by
 unfold MC;rw[Yh e d,Yh g d];rfl
variable{a b:Int}
theorem Yx(j:-4000000<=a/\a<=4000000)(o:-4000000<=b/\b<=4000000):GM a b=some (if a+b<0 then(-1,a+b+18446744073709551616)else(0,a+b)):=by
 have d:∀c:Int,IntKind.u64.wrap c=c % 18446744073709551616:=fun c=>by
  simp [IntKind.wrap,IntKind.signed,IntKind.bits]
 have g:∀c:Int,-4000000<=c/\c<=4000000->FX .i64 .shr c 63=some (if c<0 then -1 else 0):=by
  intro c w;unfold FX;have e:c.fdiv (2^ (min (63:Int).toNat (IntKind.bits .i64)))=if c<0 then -1 else 0:=by
   show c.fdiv (2^ 63)=_
   grind
  simp only[e];have:(0:Int)<=63/\IntKind.min .i64<=(if c<0 then -1 else 0)/\(if c<0 then -1 else 0)<=IntKind.max .i64:=by
   split<;>decide
  rw [ae this]
 unfold GM IG;rw[d,d,ae (by omega),bs,g a j,g b o,bs,bs];congr 1;have y:∀c:Int,-10<=c->c<=10->AG c=c:=fun c r u=>AV (by omega) (by omega)
 grind
def Jy(a:Int):Int×Int:=if a<0 then(-1,a+18446744073709551616)else(0,a)
theorem aR(h:Hz n x)(d:Pj l)(o:n<=l.length):Ec x l=some ((Jy (Cv x l)).1,(Jy (Cv x l)).2,true):=by
 have r:=h.low;have u:=h.high;have w:=h.add;have g:=(Sw h d o).1;unfold Ec;by_cases j:x.Var=-1
 .have e:Cv x l=x.Add:=by rw[g,ae (by omega)]
  rw [e,ae (by simpa using j),Yx (by omega) (by omega),bs,Int.zero_add];rfl
 .have:=d _ (AF (l:=l) (show 0<=x.Var by omega) (by omega));have e:Cv x l=AA l x.Var+x.Add:=by rw[g,az (by omega)]
  rw [e,az (by simpa using j),az (by simp;omega),AC (by omega) (by omega),bs,Yx (by omega) (by omega),bs];rfl
theorem nL(a b:Int):cmp_Compare_int a b=some (if a<b then -1 else if b<a then 1 else 0):=by
 unfold cmp_Compare_int cmp_isNaN_int
 grind
theorem u9(a b:Int):H7 a b=some (if a<b then -1 else if b<a then 1 else 0):=nL a b
theorem qv(a b:Int):NS [a,b]=some (if a=0 then b else a):=by
 unfold NS;show ek (x9 _ 2 0 ()) _ _=_;rw[EP,show idx [a,b] 0=some a from rfl,bs]
 grind [ek,x9,EP,idx]
theorem p_holds{x:Test}(g:Hz n x.j4)(j:Hz n x.fl)(d:Pj l)(e:n<=l.length):Fm x l=some (Ka x l):=by
 have o:=(Sw g d e).2;have s2:=(Sw j d e).2;unfold Fm Ka;rw[aR g d e,aR j d e];simp[nL,u9,qv];generalize Cv x.j4 l=a at o;generalize Cv x.fl l=b at s2;have key:(if(if(Jy a).1<(Jy b).1 then(-1:Int)else if(Jy b).1<(Jy a).1 then 1 else 0)=0 then(if(Jy a).2<(Jy b).2 then(-1:Int)else if(Jy b).2<(Jy a).2 then 1 else 0)else(if(Jy a).1<(Jy b).1 then(-1:Int)else if(Jy b).1<(Jy a).1 then 1 else 0))=if a<b then -1 else if b<a then 1 else 0:=by
  grind [Jy]
 rw [key];congr 2
 .grind
 grind
end Go.Sf.Sc
namespace Go.Sf.Sc
open Go Go.Sf
structure TR(t:eb)(q:d7):Prop where
 g:CQ q.d3
 kind:∀n∈q.d3.ca,0<=n/\n<t.ca.length
 vars:0<=q.fd/\q.fd<=12
 few:q.ed.length<=10/\q.mh.length<=10
 slot:∀s∈q.ed,(0<=s.pc/\s.pc<q.d3.ca.length)/\(0<=s.kq/\s.kq<(Ak t (AA q.d3.ca s.pc)).length)/\Hz q.fd s.jj
 test:∀x∈q.mh,(x.ll=1\/x.ll=2)/\Hz q.fd x.j4/\Hz q.fd x.fl
 ge:Bm q.d3=0
 ty:CP t q.d3=true
variable{n:Int}{x:jj}
theorem mz(h:Mq n x=true):Hz n x:=by
 unfold Mq at h;simp[yf]at h;exact⟨h.1.1.1,h.1.1.2,h.1.2,h.2⟩
theorem m7{l:List Test}(h:IR n l=0):∀x∈l,(x.ll=1\/x.ll=2)/\Hz n x.j4/\Hz n x.fl:=by
 unfold IR at h;split at h
 .cases h
 split at h
 .cases h
 have g:=WQ h;intro x d;obtain⟨i,j,o,rfl⟩:=BR d;have:=g i j o;unfold Jr at this;split at this
 .cases this
 split at this
 .rename_i r e;rw[sr]at e
  grind [mz]
 .cases this
theorem fo(n:Int)(l:List Test):IR n l≠9:=by
 unfold IR;split
 .decide
 split
 .decide
 intro h;cases d:fst (fun i=>nz (Jr n (AA l i))) 0 l.length with
 |none=>rw[d]at h;cases h
 |some r=>
  grind [C2,nz,Jr]
variable{t:eb}{q:d7}
theorem lO(hv:(As t).2=0)(h:EK t q=0\/EK t q=9):TR t q:=by
 have y:=WT q.d3;unfold EK at h;rw[az (by simp[hv])]at h;split at h
 .omega
 rename_i o;have g:=Cr (Classical.not_not.1 o);split at h
 .omega
 rename_i e;split at h
 .omega
 rename_i A;split at h
 .omega
 rename_i B;split at h
 .omega
 rename_i C;split at h
 .grind[fo]
 rename_i w;refine⟨g,(Hc g (by simpa using e)).1,by omega,by omega,fun s z=>?_,m7 (Classical.not_not.1 w),Classical.not_not.1 o,by simpa using e⟩;have j:RN t q s=false:=by
  grind
 unfold RN at j;simp[Bool.not_eq_false',decide_eq_false_iff_not]at j;obtain⟨⟨⟨d,E⟩,F⟩,G,H⟩:=j;unfold Qv at d;dsimp only at d;split at d
 .cases d
 rename_i D;have u:=(Hc g (by simpa using e)).1 _ (AF (l:=q.d3.ca) (show 0<=s.pc by omega) (by omega));rw[H5 hv u.1 u.2]at d;split at d
 .cases d
 rename_i r;have r:¬(s.kq<0\/((Ak t (AA q.d3.ca s.pc)).length:Int)<=s.kq):=r;exact⟨by omega,by omega,by omega,by omega,by omega,by omega⟩
def Mx(h:ff)(m:d4)(s:Bw):Int:=AA (AA h.ej (AA m.ca s.pc)) s.kq
def PG(h:ff)(m:d4)(s:Bw)(st:Fp×a6):Fp×a6:=
 if 0<=s.jj.Var/\AA st.2 s.jj.Var=false then(Av st.1 s.jj.Var (AG (Mx h m s-s.jj.Add)),Av st.2 s.jj.Var true)else st
def ET{ρ:Type}(r:ρ)(h:ff)(m:d4)(s:Bw)(st:Fp×a6):Bf (Fp×a6) ρ:=
 if Cv s.jj (PG h m s st).1=Mx h m s then .next (PG h m s st)else .ret r
structure VI(n:Int)(st:Fp×a6):Prop where
 l1:(st.1.length:Int)=n
 l2:(st.2.length:Int)=n
 small:Pj st.1
structure Iz(n:Int)(h:ff)(m:d4)(s:Bw):Prop where
 node:0<=s.pc/\s.pc<m.ca.length
 val:0<=AA m.ca s.pc/\AA m.ca s.pc<h.ej.length
 Aax:0<=s.kq/\s.kq<(AA h.ej (AA m.ca s.pc)).length
 term:Hz n s.jj
 has:-1000000<=Mx h m s/\Mx h m s<=1000000
variable{h:ff}{m:d4}{s:Bw}
theorem Oi(g:Fa t)(j:TR t q)(hh:Ix t h)(e:Xr t q.d3 h.d3 m)(o:s∈q.ed):Iz q.fd h m s:=by
 obtain ⟨u,w,y⟩:=j.slot s o;have z:=e.yW;have d:=e.node s.pc u.1 (by omega);have A:=hh.row _ d.1.1 d.1.2;have r:=hh.kind _ d.1.1 d.1.2;have B:=YN g r.2 d.2;have hv:=hh.len;refine⟨by omega,by omega,by omega,y,?_⟩;unfold Mx;exact hh.low _ d.1.1 d.1.2 _ (AF w.1 (by omega))
theorem D6{α:Type}(l:List α)(i:Int)(a:α):(Av l i a).length=l.length:=by unfold Av;rw[List.length_set]
variable{i:Int}
theorem l6{α:Type}{l:List α}{a x:α}(h:x∈Av l i a):x∈l\/x=a:=List.mem_or_eq_of_mem_set h
variable{st:Fp×a6}
theorem jS(e:Iz n h m s)(hi:VI n st):VI n (PG h m s st):=by
 have g:=e.has;have j:=e.term.add;unfold PG;split
 .refine⟨by rw[D6];exact hi.l1,by rw[D6];exact hi.l2,fun x d=>?_⟩;rcases l6 d with d|rfl
  .exact hi.small x d
  grind [AV]
 .exact hi
def HV(q:d7)(h:ff)(m:d4):Fp×Int:=
 match Du (ET (([],11):Fp×Int) h m) q.ed (List.replicate q.fd.toNat 0,List.replicate q.fd.toNat false)with
 |.inr r=>r|.inl st=>if mt (fun i=>!Ka (AA q.mh i) st.1) 0 q.mh.length=true then([],16)else(st.1,0)
theorem SA(d:0<=n):VI n (List.replicate n.toNat 0,List.replicate n.toNat false):=by
 refine ⟨by simp;omega,by simp;omega,fun x e=>?_⟩
 grind
variable{st':Fp×a6}
theorem Pg{ρ:Type}{r:ρ}(d:Iz n h m s)(hi:VI n st)(e:ET r h m s st=.next st'):VI n st':=by grind[ET,jS]
theorem jT{ρ:Type}{r:ρ}:ET r h m s st≠.brk st':=by grind[ET]
theorem Oh{ρ:Type}{r:ρ}{l:List Bw}(d:∀s∈l,Iz n h m s)(hi:VI n st)(e:Du (ET r h m) l st=.inl st'):VI n st':=
 bJ (ET r h m) (VI n) l st st' hi (fun a g _ _ j o=>Pg (d a g) j o) (fun _ _ _ _=>jT) e
theorem QG{ρ:Type}{r:ρ}(w:Iz n h m s)(hi:VI n st){T:Fp×a6->Option (Bf (Fp×a6) ρ)}
  (j:∀st':Fp×a6,(st'.1.length:Int)=n->T st'=some (if Cv s.jj st'.1=Mx h m s then .next st' else .ret r)):
  ((if(decide (0<=s.jj.Var))=true then((idx st.2 s.jj.Var).bind fun o=>some (!o))else some false).bind fun u=>
   if u=true then(idx st.1 s.jj.Var).bind fun _=>(idx st.2 s.jj.Var).bind fun _=>T (Av st.1 s.jj.Var (AG (Mx h m s-s.jj.Add)),Av st.2 s.jj.Var true)else T (st.1,st.2))=some (ET r h m s st):=by
 have y:=w.term.high;have l1:=hi.l1;have l2:=hi.l2;unfold ET;by_cases d:0<=s.jj.Var
 .rw[ae (by simpa using d),AC d (by omega),bs,bs];by_cases g:AA st.2 s.jj.Var=false
  .rw[ae (by simp[g]),AC d (by omega),bs,bs,j _ (by dsimp only;rw[D6];exact l1)];have e:PG h m s st=(Av st.1 s.jj.Var (AG (Mx h m s-s.jj.Add)),Av st.2 s.jj.Var true):=by unfold PG;rw[ae ⟨d,g⟩]
   rw [e]
  .rw[az (by simpa using g),j _ l1];have e:PG h m s st=st:=by unfold PG;rw[az (fun e=>g e.2)]
   rw [e]
 .rw[az (by simpa using d),bs,az (by decide),j _ l1];have e:PG h m s st=st:=by unfold PG;rw[az (fun e=>d e.1)]
  rw [e]
theorem cG{ρ:Type}{r:ρ}(j:Iz n h m s)(hi:VI n st){T:Fp×a6->Option (Bf (Fp×a6) ρ)}
  (o:∀st':Fp×a6,(st'.1.length:Int)=n->T st'=some (if Cv s.jj st'.1=Mx h m s then .next st' else .ret r)):
  ((if(decide (0<=s.jj.Var))=true then((idx st.2 s.jj.Var).bind fun d=>some (!d))else some false).bind fun e=>
   if e=true then(idx st.2 s.jj.Var).bind fun _=>(idx st.1 s.jj.Var).bind fun _=>T (Av st.1 s.jj.Var (AG (Mx h m s-s.jj.Add)),Av st.2 s.jj.Var true)else T (st.1,st.2))=some (ET r h m s st):=by
 rw [<-QG j hi o];have u:=j.term.high;have l1:=hi.l1;have l2:=hi.l2;by_cases g:0<=s.jj.Var
 .rw[AC g (by omega),AC g (by omega)];rfl
 .rw[az (by simpa using g)];rfl
variable{v:Int}
theorem Yq{t:jj}{f:jj->Fp->a5}(hf:∀l:Fp,(l.length:Int)=n->f t l=some (Cv t l))(st':Fp×a6)(e:(st'.1.length:Int)=n):((f t st'.1).bind fun d=>if(!decide (d=v))=true then some (Bf.ret (([],11):Fp×Int))else some (.next st'))=some (if Cv t st'.1=v then .next st' else .ret ([],11)):=by grind
theorem o6(u:TR t q)(w:∀s∈q.ed,Iz q.fd h m s):H4 q h m=some (HV q h m):=by
 have hv:=u.vars;unfold H4 HV F9;rw[ae (by omega),bs,ae (by omega),bs];rw[Q1 (ET (([],11):Fp×Int) h m) (VI q.fd) (SA hv.1)]
 .cases z:Du (ET (([],11):Fp×Int) h m) q.ed (List.replicate q.fd.toNat 0,List.replicate q.fd.toNat false)with
  |inr r=>rfl|inl st=>
   have hi:=Oh w (SA hv.1) z;rw[Ba,BW (fun i=>!Ka (AA q.mh i) st.1) ([],16)]
   .dsimp only;cases mt (fun i=>!Ka (AA q.mh i) st.1) 0 q.mh.length<;>rfl
   .intro i g j _;have y:=u.test _ (AF g j);rw[AC g j,bs,p_holds y.2.1 y.2.2 hi.small (by have:=hi.l1;omega),bs]
    grind
 .intro i st g j hi;have d:=w _ (AF g j);refine⟨?_,fun s' e=>Pg d hi e⟩;rw[AC g j,bs,AC d.node.1 d.node.2,bs,AC d.val.1 d.val.2,bs,AC d.Aax.1 d.Aax.2,bs];exact QG d hi (T:=fun st'=>(EC (AA q.ed i).jj st'.1).bind fun o=>if(!decide (o=Mx h m (AA q.ed i)))=true then some (Bf.ret (([],11):Fp×Int))else some (.next st')) (Yq fun l A=>UL (by have:=d.term.high;omega))
theorem dO(u:TR t q)(w:∀s∈q.ed,Iz q.fd h m s):HK q h m=some (HV q h m):=by
 have hv:=u.vars;unfold HK HV F9;rw[ae (by omega),bs,ae (by omega),bs];rw[Q1 (ET (([],11):Fp×Int) h m) (VI q.fd) (SA hv.1)]
 .cases z:Du (ET (([],11):Fp×Int) h m) q.ed (List.replicate q.fd.toNat 0,List.replicate q.fd.toNat false)with
  |inr r=>rfl|inl st=>
   have hi:=Oh w (SA hv.1) z;rw[Ba,BW (fun i=>!Ka (AA q.mh i) st.1) ([],16)]
   .dsimp only;cases mt (fun i=>!Ka (AA q.mh i) st.1) 0 q.mh.length<;>rfl
   .intro i g j _;have y:=u.test _ (AF g j);rw[AC g j,bs,r_holds y.2.1 y.2.2 (by have:=hi.l1;omega),bs]
    grind
 .intro i st g j hi;have d:=w _ (AF g j);refine⟨?_,fun s' e=>Pg d hi e⟩;rw[AC g j,bs,AC d.node.1 d.node.2,bs,AC d.val.1 d.val.2,bs,AC d.Aax.1 d.Aax.2,bs];exact cG d hi (T:=fun st'=>(Ig (AA q.ed i).jj st'.1).bind fun o=>if(!decide (o=Mx h m (AA q.ed i)))=true then some (Bf.ret (([],11):Fp×Int))else some (.next st')) (Yq fun l A=>Yi (by have:=d.term.high;omega))
def O0(t:eb)(p:d7)(h:ff):Int:=if EK t p≠0 then EK t p else(E4 t h).2
theorem iR(hf:Ai t)(p:d7)(h:ff):E0 t p h=some (O0 t p h):=by
 unfold E0 O0;rw[Wp hf,bs];refine DM fun _=>?_;rw[Wn hf];rfl
theorem Yf(hf:Ai t)(p:d7)(h:ff):KL t p h=some (O0 t p h):=by
 unfold KL O0;rw[ZM hf,bs];refine DM fun _=>?_;rw[UR hf];rfl
def FV(t:eb)(p:d7)(h:ff)(m:d4):Fp×Int:=
 if O0 t p h≠0 then([],O0 t p h)else if FU t p.d3 h.d3 m false≠0 then([],FU t p.d3 h.d3 m false)else HV p h m
variable{p:d7}
theorem RY(hf:Ai t){inj:Bool}(d:O0 t p h=0)(e:FU t p.d3 h.d3 m inj=0):(As t).2=0/\TR t p/\Ix t h/\Xr t p.d3 h.d3 m:=by
 unfold O0 at d;split at d
 .grind
 rename_i g;obtain⟨hv,hh⟩:=Up hf d;exact⟨hv,lO hv (.inl (Classical.not_not.1 g)),hh,(Zj e).2⟩
theorem cx(hf:Ai t)(p:d7)(h:ff)(m:d4):EB t p h m=some (FV t p h m):=by
 unfold EB FV;rw[iR hf,bs];refine CN fun e=>?_;rw[Xc hf,bs];refine CN fun g=>?_;obtain⟨hv,d,hh,o⟩:=RY hf e g;rw[o6 d (fun s j=>Oi (C6 hv) d hh o j)];rfl
theorem pE(hf:Ai t)(p:d7)(h:ff)(m:d4):MJ t p h m=some (FV t p h m):=by
 unfold MJ FV;rw[Yf hf,bs];refine CN fun e=>?_;rw[Xj hf,bs];refine CN fun g=>?_;obtain⟨hv,d,hh,o⟩:=RY hf e g;rw[dO d (fun s j=>Oi (C6 hv) d hh o j)];rfl
theorem jU(g:TR t q)(j:∀s∈q.ed,Iz q.fd h m s)(e:(HV q h m).2=0):((HV q h m).1.length:Int)=q.fd/\Pj (HV q h m).1:=by
 unfold HV at e|-;cases d:Du (ET (([],11):Fp×Int) h m) q.ed (List.replicate q.fd.toNat 0,List.replicate q.fd.toNat false)with
 |inr r=>
  rw [d]at e;have:∀(l:List Bw)(st:Fp×a6)(r:Fp×Int),Du (ET (([],11):Fp×Int) h m) l st=.inr r->r=([],11):=by
   intro l
   induction l with
   |nil=>intro st r h;cases h
   |cons a l u=>
    grind [Du,ET]
  grind
 |inl st=>
  rw [d]at e;have hi:=Oh j (SA g.vars.1) d;dsimp only at e|-;split at e
  .cases e
  .rename_i o;rw[az o];exact⟨hi.l1,hi.small⟩
end Go.Sf.Sc
namespace Go.Sf.Sc
open Go Go.Sf
variable{i:Int}
theorem Gz{n:Nat}{α:Type}[Inhabited α](F:Int->α)(d:0<=i)(v:α):Av ((Ag n).map F) i v=(Ag n).map fun j=>if j=i then v else F j:=by
 unfold Av;refine List.ext_getElem (by simp) (fun k e g=>?_)
 grind [Ap,Ag]
theorem CH{n:Nat}{α:Type}{F G:Int->α}(h:∀j,0<=j->j<(n:Int)->F j=G j):(Ag n).map F=(Ag n).map G:=by grind[List.map_congr_left,DU]
def Gb(n:Nat)(k:Int):a6:=(Ag n).map fun j=>decide (j<k)
theorem WZ(n:Nat):Gb n 0=List.replicate n false:=by
 unfold Gb;refine List.ext_getElem (by simp[Ap]) (fun k d e=>?_)
 grind [Ag,Ap]
theorem YO(n:Nat)(k:Int):(Gb n k).length=n:=by unfold Gb;rw[c8,Ap]
def Ms(q:d7)(h:ff)(m:d4)(given:Fp):Fp×Bool:=
 match Du (ET (([],false):Fp×Bool) h m) q.ed (given++List.replicate (q.fd-given.length).toNat 0,Gb q.fd.toNat given.length)with
 |.inr r=>r|.inl st=>if mt (fun i=>!Ka (AA q.mh i) st.1) 0 q.mh.length=true then([],false)else(st.1,true)
variable{n:Int}{given:Fp}
theorem Vu(e:0<=n)(g:given.length<=n)(hv:Pj given):VI n (given++List.replicate (n-given.length).toNat 0,Gb n.toNat given.length):=by
 refine ⟨by simp;omega,by show((Gb n.toNat given.length).length:Int)=n;rw[YO];omega,fun x d=>?_⟩;rcases List.mem_append.1 d with d|d
 .exact hv x d
 grind
variable{q:d7}{m:d4}{t:eb}
theorem r8{s:BI}(w:TR t q)(y:∀x∈q.ed,Iz q.fd s.h m x)(B:given.length<=q.fd)(hv:Pj given):Dh s q m given=some (Ms q s.h m given):=by
 have D:=w.vars;unfold Dh Ms slices_Clone_int;rw[Ao (by unfold AU;omega),bs,AV (by omega) (by omega)];have E:Zb given (q.fd-given.length) 0=some (given++List.replicate (q.fd-given.length).toNat 0):=by
  grind [Zb,AU]
 have F:F9 q.fd false=some (List.replicate q.fd.toNat false):=by
  grind [F9]
 rw [E,bs,F,bs];have G:nd (fun(d:Int)(z:a6)=>(idx z d).bind fun C=>some (Av z d true)) 0 (given.length:Int) (List.replicate q.fd.toNat false)=some (Gb q.fd.toNat given.length):=by
  refine BY (fun i=>Gb q.fd.toNat i) (by omega) (WZ _) (fun i d j=>?_);rw[AC d (by rw[YO];omega),bs];congr 1;unfold Gb;rw[Gz _ d]
  grind
 rw [G,bs];have u:=Vu D.1 B hv;rw[Q1 (ET (([],false):Fp×Bool) s.h m) (VI q.fd) u]
 .cases H:Du (ET (([],false):Fp×Bool) s.h m) q.ed (given++List.replicate (q.fd-given.length).toNat 0,Gb q.fd.toNat given.length)with
  |inr r=>rfl|inl st=>
   have hi:=Oh y u H;rw[Ba,BW (fun i=>!Ka (AA q.mh i) st.1) ([],false)]
   .dsimp only;cases mt (fun i=>!Ka (AA q.mh i) st.1) 0 q.mh.length<;>rfl
   .intro i d j _;have A:=w.test _ (AF d j);rw[AC d j,bs,p_holds A.2.1 A.2.2 hi.small (by have:=hi.l1;omega),bs]
    grind
 .intro i st d j hi;have g:=y _ (AF d j);refine⟨?_,fun s' e=>Pg g hi e⟩;rw[AC d j,bs,AC g.node.1 g.node.2,bs,AC g.val.1 g.val.2,bs,AC g.Aax.1 g.Aax.2,bs];refine QG g hi (T:=fun st'=>(EZ (AA q.ed i).jj st'.1).bind fun o=>if((!decide (o.2=0))||(!decide (o.1=Mx s.h m (AA q.ed i))))=true then some (Bf.ret (([],false):Fp×Bool))else some (.next st')) (fun st' I=>?_);rw[aP g.term.low (by have:=g.term.high;omega) (by omega),bs]
  grind
variable{h:ff}
theorem sV(C:TR t q)(D:∀x∈q.ed,Iz q.fd h m x)(I:given.length<=q.fd)(hv:Pj given):LB q h m given=some (Ms q h m given):=by
 have G:=C.vars;unfold LB Ms;have L:F9 q.fd false=some (List.replicate q.fd.toNat false):=by
  unfold F9;rw[ae (by omega)]
 rw [Ao (by unfold AU;omega),bs,L,bs];have H:nd (fun(d:Int)(u:Fp×a6)=>
   (idx u.2 d).bind fun J=>
   if (decide ((given.length:Int)<=d))=true then
   (AT u.1 [0]).bind fun A=>
   some (A,Av u.2 d (decide (d<(given.length:Int))))
   else
   some (u.1,Av u.2 d (decide (d<(given.length:Int))))) 0 q.fd (given,List.replicate q.fd.toNat false)=some (given++List.replicate (q.fd-given.length).toNat 0,(Ag q.fd.toNat).map fun j=>decide (j<q.fd)&&decide (j<(given.length:Int))):=by
  refine BY (fun i=>(given++List.replicate (i-given.length).toNat 0,(Ag q.fd.toNat).map fun j=>decide (j<i)&&decide (j<(given.length:Int)))) G.1 ?_ (fun i d o=>?_)
  .have M:((0:Int)-given.length).toNat=0:=by omega
   rw [M];simp;rw[<-WZ];unfold Gb;refine CH (fun j E F=>?_);rw[show decide (j<0)=false by simp;omega];rfl
  .dsimp only;rw[AC d (by rw[c8,Ap];omega),bs];have N:Av ((Ag q.fd.toNat).map fun j=>decide (j<i)&&decide (j<(given.length:Int))) i (decide (i<(given.length:Int)))=(Ag q.fd.toNat).map fun j=>decide (j<i+1)&&decide (j<(given.length:Int)):=by
    rw [Gz _ d];refine CH (fun j E F=>?_);by_cases e:j=i
    .rw[ae e,e,show decide (i<i+1)=true by simp;omega,Bool.true_and]
    .rw[az e];congr 1;rw[decide_eq_decide];omega
   rw [N];by_cases hi:(given.length:Int)<=i
   .rw[ae (by simpa using hi),AQ (by simp;unfold AU;omega),bs];congr 2;rw[c9,show(i+1-given.length).toNat=(i-given.length).toNat+1 by omega,List.replicate_succ']
   .rw[az (by simpa using hi)];have O:(i+1-given.length).toNat=(i-given.length).toNat:=by omega
    rw [O]
 have B:((Ag q.fd.toNat).map fun j=>decide (j<q.fd)&&decide (j<(given.length:Int)))=Gb q.fd.toNat given.length:=by
  unfold Gb;refine CH (fun j E F=>?_);rw[show decide (j<q.fd)=true by simp;omega,Bool.true_and]
 rw [B]at H;rw[H,bs];have y:=Vu G.1 I hv;dsimp only;rw[Q1 (ET (([],false):Fp×Bool) h m) (VI q.fd) y]
 .cases P:Du (ET (([],false):Fp×Bool) h m) q.ed (given++List.replicate (q.fd-given.length).toNat 0,Gb q.fd.toNat given.length)with
  |inr r=>rfl|inl st=>
   have hi:=Oh D y P;rw[Ba,BW (fun i=>!Ka (AA q.mh i) st.1) ([],false)]
   .dsimp only;cases mt (fun i=>!Ka (AA q.mh i) st.1) 0 q.mh.length<;>rfl
   .intro i d o _;have z:=C.test _ (AF d o);have K:=hi.l1;rw[AC d o,bs,Oe z.2.1.low (by have:=z.2.1.high;omega),bs,Oe z.2.2.low (by have:=z.2.2.high;omega),bs,<-JA];unfold Ka;dsimp only;congr 1;generalize Cv (AA q.mh i).j4 st.1=a;generalize Cv (AA q.mh i).fl st.1=b;rcases z.1 with e|e
    .rw[e,eq_iff_iff];simp
    .rw[e,eq_iff_iff];simp
 .intro i st d o hi;have g:=D _ (AF d o);refine⟨?_,fun s' e=>Pg g hi e⟩;rw[AC d o,bs,AC g.node.1 g.node.2,bs,AC g.val.1 g.val.2,bs,AC g.Aax.1 g.Aax.2,bs];refine QG g hi (T:=fun st'=>(ES (AA q.ed i).jj st'.1).bind fun w=>if(!decide (w.1=Mx h m (AA q.ed i)))=true then some (Bf.ret (([],false):Fp×Bool))else some (.next st')) (fun st' K=>?_);rw[Oe g.term.low (by have:=g.term.high;omega),bs];by_cases e:Cv (AA q.ed i).jj st'.1=Mx h m (AA q.ed i)
  .rw[az (by simp[e]),ae e]
  .rw[ae (by simp[e]),az e]
theorem nA(j:TR t q)(o:∀s∈q.ed,Iz q.fd h m s)(u:given.length<=q.fd)(hv:Pj given)(e:(Ms q h m given).2=true):((Ms q h m given).1.length:Int)=q.fd/\Pj (Ms q h m given).1:=by
 unfold Ms at e|-;have d:=Vu j.vars.1 u hv;cases g:Du (ET (([],false):Fp×Bool) h m) q.ed (given++List.replicate (q.fd-given.length).toNat 0,Gb q.fd.toNat given.length)with
 |inr r=>
  rw [g]at e;have:∀(l:List Bw)(st:Fp×a6)(r:Fp×Bool),Du (ET (([],false):Fp×Bool) h m) l st=.inr r->r=([],false):=by
   intro l
   induction l with
   |nil=>intro st r h;cases h
   |cons a l y=>
    grind [Du,ET]
  grind
 |inl st=>
  rw [g]at e;have hi:=Oh o d g;dsimp only at e|-;split at e
  .cases e
  .rename_i w;rw[az w];exact⟨hi.l1,hi.small⟩
def UM(n:Nat)(by' images:Fp):Fp:=(Ag by'.length).foldl (fun l i=>Av l (AA by' i) (AA images i)) (List.replicate n (-1))
theorem YB(d images:Fp):∀(e:Fp)(l:Fp),(e.foldl (fun l i=>Av l (AA d i) (AA images i)) l).length=l.length
 |[],l=>rfl|k::e,l=>by rw[List.foldl_cons,YB d images e,D6]
theorem Wt{n:Nat}{d images:Fp}(y:∀x∈d,0<=x/\x<n)(z:d.length<=images.length):nd (fun(g:Int)(o:Fp)=>
  (idx d g).bind fun e=>
  (idx images g).bind fun j=>
  (idx o e).bind fun r=>
  some (Av o e j)) 0 (d.length:Int) (List.replicate n (-1))=some (UM n d images):=by
 have h:=BY (f:=fun(g:Int)(o:Fp)=>
  (idx d g).bind fun e=>
  (idx images g).bind fun j=>
  (idx o e).bind fun r=>
  some (Av o e j)) (fun i=>(Ag i.toNat).foldl (fun l i=>Av l (AA d i) (AA images i)) (List.replicate n (-1))) (a:=0) (b:=d.length) (s:=List.replicate n (-1)) (by omega) rfl (fun i g u=>by
   have w:=y _ (AF g u);rw[AC g u,bs,AC g (by omega),bs,AC w.1 (by rw[YB];simpa using w.2),bs,Dx g,List.foldl_append];rfl)
 rw [h,Int.toNat_natCast];rfl
theorem aV{n:Nat}{d images:Fp}(j:n<=1000)(e:∀x∈d,0<=x/\x<n)(g:d.length<=images.length):Ff n d images=some (UM n d images):=by
 unfold Ff D8;rw[ae ⟨rfl,by omega,by omega⟩,bs];show(nd _ 0 _ (List.replicate (n:Int).toNat (-1))).bind _=_;rw[Int.toNat_natCast,Wt e g];rfl
theorem aj{n:Nat}{d images:Fp}(j:n<=1000)(e:∀x∈d,0<=x/\x<n)(g:d.length<=images.length):JJ n d images=some (UM n d images):=by
 unfold JJ;rw[BY (a:=0) (b:=n) (s:=[]) (fun i=>List.replicate i.toNat (-1)) (by omega) rfl,bs,Int.toNat_natCast,Wt e g]
 .rfl
 .intro i o r;rw[AQ (by simp;unfold AU;omega),bs,show(i+1).toNat=i.toNat+1 by omega,List.replicate_succ']
end Go.Sf.Sc
namespace Go.Sf.Sc
open Go Go.Sf
structure nF(f:AM):Prop where
 nl:f.ea.length<=f.p.ca.length
 node:∀i:Int,0<=i->i<f.ea.length->(0<=AA f.ea i/\AA f.ea i<f.g.ca.length)/\AA (AA f.is (AA f.p.ca i)) (AA f.g.ca (AA f.ea i))=true
 edge:∀i:Int,0<=i->i<f.ec.length->(0<=AA f.ec i/\AA f.ec i<f.g.ci.length)/\AA f.g.ci (AA f.ec i)=⟨(AA f.p.ci i).kl,AA f.ea (AA f.p.ci i).kp,AA f.ea (AA f.p.ci i).To⟩
 inj:f.fq=true->f.ea.Nodup/\f.ec.Nodup
structure dn(f:AM)(m:d4):Prop where
 nl:m.ca.length=f.p.ca.length
 el:m.ci.length=f.p.ci.length
 node:∀i:Int,0<=i->i<m.ca.length->(0<=AA m.ca i/\AA m.ca i<f.g.ca.length)/\AA (AA f.is (AA f.p.ca i)) (AA f.g.ca (AA m.ca i))=true
 edge:∀i:Int,0<=i->i<m.ci.length->(0<=AA m.ci i/\AA m.ci i<f.g.ci.length)/\AA f.g.ci (AA m.ci i)=⟨(AA f.p.ci i).kl,AA m.ca (AA f.p.ci i).kp,AA m.ca (AA f.p.ci i).To⟩
 inj:f.fq=true->m.ca.Nodup/\m.ci.Nodup
variable{i:Int}
theorem LT{α:Type}[Inhabited α](l:List α)(x:α)(h:i=l.length):AA (l++[x]) i=x:=by grind[M4]
variable{l:Fp}{k:Int}
theorem Wg{b:Bool}(h:(!(b&&l.any fun x=>decide (k=x)))=true)(d:b=true)(e:l.Nodup):(l++[k]).Nodup:=by grind
theorem Xs:∀(n:Nat)(f:AM),nF f->f.ea.length=f.p.ca.length->f.ec.length+n=f.p.ci.length->∀m∈EG n f,dn f m
 |0,f,j,z,he,m,d=>by
  rw [EG,List.mem_singleton]at d;subst d;exact⟨z,by simpa using he,j.node,j.edge,j.inj⟩
 |n+1,f,j,z,he,m,d=>by
  rw [EG,List.mem_flatMap]at d;obtain⟨k,w,d⟩:=d;have w:=DU.1 w;split at d
  .rename_i o;unfold TX at o;rw[sr]at o;obtain⟨r,y⟩:=o;rw[Vp,sr,yf]at r;have:=Xs n {f with ec:=f.ec++[k]} ⟨j.nl,j.node,fun i A u=>by
    have u:i<((f.ec++[k]).length:Int):=u;simp at u;show(0<=AA (f.ec++[k]) i/\AA (f.ec++[k]) i<f.g.ci.length)/\AA f.g.ci (AA (f.ec++[k]) i)=⟨(AA f.p.ci i).kl,AA f.ea (AA f.p.ci i).kp,AA f.ea (AA f.p.ci i).To⟩;by_cases e:i=f.ec.length
    .rw[LT _ _ e];exact⟨w,by rw[e];exact r.2⟩
    .rw[Kq _ _ A (by omega)];exact j.edge i A (by omega),fun hi=>⟨(j.inj hi).1,Wg y hi (j.inj hi).2⟩⟩ z (by show(f.ec++[k]).length+n=f.p.ci.length;rw[bk,List.length_singleton];omega) m d
   exact ⟨this.nl,this.el,this.node,this.edge,this.inj⟩
  .cases d
theorem Xt:∀(n:Nat)(f:AM),nF f->f.ec=[]->f.ea.length+n=f.p.ca.length->∀m∈GR n f,dn f m
 |0,f,r,he,A,m,o=>by
  grind [GR,Xs]
 |n+1,f,r,he,A,m,o=>by
  rw [GR,List.mem_flatMap]at o;obtain⟨k,w,o⟩:=o;have w:=DU.1 w;split at o
  .rename_i j;unfold TY at j;rw[sr,sr]at j;obtain⟨⟨_,y⟩,z⟩:=j;have:=Xt n {f with ea:=f.ea++[k]} ⟨by show(f.ea++[k]).length<=f.p.ca.length;rw[bk,List.length_singleton];omega,fun i u d=>by
    have d:i<((f.ea++[k]).length:Int):=d;simp at d;show(0<=AA (f.ea++[k]) i/\AA (f.ea++[k]) i<f.g.ca.length)/\AA (AA f.is (AA f.p.ca i)) (AA f.g.ca (AA (f.ea++[k]) i))=true;by_cases e:i=f.ea.length
    .rw[LT _ _ e];exact⟨w,by rw[e];exact y⟩
    .rw[Kq _ _ u (by omega)];exact r.node i u (by omega),fun i u d=>by
    have d:i<(f.ec.length:Int):=d;rw[he]at d;have:i<(0:Nat):=d;omega,fun hi=>⟨Wg z hi (r.inj hi).1,(r.inj hi).2⟩⟩ he (by show(f.ea++[k]).length+n=f.p.ca.length;rw[bk,List.length_singleton];omega) m o
   exact ⟨this.nl,this.el,this.node,this.edge,this.inj⟩
  .cases o
variable{t:eb}{m:d4}
theorem WM{p g:d3}{pa:d4}{inj:Bool}(e:m∈J1 t p g pa inj):dn (FF t p g pa inj) m:=
 Xt _ (FF t p g pa inj) ⟨Nat.zero_le _,fun i j d=>by have d:i<(0:Nat):=d;omega,fun i j d=>by have d:i<(0:Nat):=d;omega,fun _=>⟨List.nodup_nil,List.nodup_nil⟩⟩ rfl (by show 0+p.ca.length=p.ca.length;omega) m (List.mem_of_mem_take e)
theorem Z5{p g:d3}{pa:d4}{inj:Bool}(h:Ee t p g=0)(u:m∈J1 t p g pa inj):Xr t p g m:=by
 obtain ⟨hv,A,B,tp,w⟩:=Mw h;have:=WM u;refine⟨this.nl,this.el,fun i d e=>?_,fun i d e=>(this.edge i d e).1⟩;obtain⟨j,r⟩:=this.node i d e;refine⟨j,?_⟩;have o:=this.nl;have y:=tp _ (AF (l:=p.ca) d (by show i<(p.ca.length:Int);have o:m.ca.length=p.ca.length:=o;omega));have z:=w _ (AF (l:=g.ca) j.1 j.2);have r:AA (AA (Jq t) (AA p.ca i)) (AA g.ca (AA m.ca i))=true:=r
 grind [AA,Jq,OA,G6,Hl]
theorem gj{p g:d3}{pa:d4}{inj:Bool}(h:Ee t p g=0)(r:m∈J1 t p g pa inj):FU t p g m inj=0:=by
 have ok:=Z5 h r;have u:=WM r;have w:Mm t p g m=0:=by
  unfold Mm;rw[az (by have:=ok.yW;have:=ok.zb;omega)];have y:fst (I4 t p g m) 0 m.ca.length=none:=by
   rw [Ay];intro i d e;obtain⟨j,o⟩:=ok.node i d e
   grind [I4]
  have z:fst (FY p g m) 0 m.ci.length=none:=by
   rw [Ay];intro i d e;obtain⟨j,o⟩:=u.edge i d e;have j:0<=AA m.ci i/\AA m.ci i<g.ci.length:=j;have o:AA g.ci (AA m.ci i)=⟨(AA p.ci i).kl,AA m.ca (AA p.ci i).kp,AA m.ca (AA p.ci i).To⟩:=o
   grind [FY]
  rw [y,z];rfl
 unfold FU;rw[az (by simp[h]),az (by simp[w])];cases inj
 .rfl
 .have:=u.inj rfl
  grind [HF,Jd]
theorem Zs{p g:d3}{pa:d4}{inj:Bool}(h:(SP t p g pa inj).2=0):(SP t p g pa inj).1.length<=5000/\∀m∈(SP t p g pa inj).1,Xr t p g m:=by grind[SP,Z5]
structure Vw(t:eb)(p:d7)(h:ff)(x:AO):Prop where
 q:TR t p
 m:Xr t p.d3 h.d3 x.d4
 len:(x.fd.length:Int)=p.fd
 small:Pj x.fd
structure gF(t:eb)(p:d7)(c:d5):Prop where
 q:TR t c.d7
 vars:p.fd<=c.d7.fd
 map:SE p.d3 c.d7.d3 c.Map
 inj:HF c.Map=true
def DX(t:eb)(c:d5)(h:ff)(m:AO)(inj:Bool):List AO×Int:=
 let x:=SP t c.d7.d3 h.d3 ⟨UM c.d7.d3.ca.length c.Map.ca m.d4.ca,UM c.d7.d3.ci.length c.Map.ci m.d4.ci⟩ inj
 if x.2≠0 then([],x.2)else((x.1.filter fun y=>(Ms c.d7 h y m.fd).2).map fun y=>⟨y,(Ms c.d7 h y m.fd).1⟩,0)
instance:Inhabited d4:=⟨⟨[],[]⟩⟩
instance:Inhabited AO:=⟨⟨default,[]⟩⟩
instance:Inhabited A1:=⟨⟨0,default,[]⟩⟩
theorem RR{x:List d4}{F:d4->Fp×Bool}{f:Int->List AO->Option (List AO)}(o:x.length<=5000)
  (hf:∀(i:Int)(s:List AO),0<=i->i<x.length->s.length<=5000->f i s=some (if(F (AA x i)).2=true then s++[⟨AA x i,(F (AA x i)).1⟩]else s)):
  nd f 0 (x.length:Int) []=some ((x.filter fun y=>(F y).2).map fun y=>⟨y,(F y).1⟩):=by
 rw [BY (a:=0) (b:=x.length) (s:=[]) (fun i=>((x.take i.toNat).filter fun y=>(F y).2).map fun y=>(⟨y,(F y).1⟩:AO)) (by omega) rfl,Int.toNat_natCast,List.take_length];intro i d e;have g:(((x.take i.toNat).filter fun y=>(F y).2).map fun y=>(⟨y,(F y).1⟩:AO)).length<=5000:=by
  grind
 rw [hf i _ d e g,Bh d e,List.filter_append,List.map_append];cases j:(F (AA x i)).2<;>simp[j]
variable{p:d7}{c:d5}
theorem rj{s:BI}{m:AO}(hf:Ai s.t)(hv:(As s.t).2=0)(hh:Ix s.t s.h)(o:Vw s.t p s.h m)(hi:gF s.t p c):B6 s c m=some (DX s.t c s.h m s.fq):=by
 have C:=hi.q.g.ea;have ge:=hi.q.g.ec;have m1:=hi.map.yW;have D:=hi.map.zb;have E:=o.m.yW;have G:=o.m.zb;unfold B6 DX;rw[aV (by omega) (fun x j=>by obtain⟨i,d,e,rfl⟩:=BR j;exact(hi.map.node i d e).1) (by omega),bs,
  aV (by omega) (fun x j=>by obtain⟨i,d,e,rfl⟩:=BR j;exact(hi.map.edge i d e).1) (by omega),bs,lD hf,bs]
 dsimp only;refine CN fun r=>?_;obtain⟨z,A⟩:=Zs r;rw[RR (F:=fun y=>Ms c.d7 s.h y m.fd) z]
 .rfl
 .intro i st d e B;have u:=A _ (AF d e);have w:(m.fd.length:Int)<=c.d7.fd:=by have:=o.len;have:=hi.vars;omega
  rw [AC d e,bs,r8 hi.q (fun x j=>Oi (C6 hv) hi.q hh u j) w o.small,bs,<-JA]
  grind [AQ,AU]
variable{h:ff}
theorem sJ{inj:Bool}{m:AO}(hf:Ai t)(hv:(As t).2=0)(hh:Ix t h)(o:Vw t p h m)(hi:gF t p c):HL t c h m inj=some (DX t c h m inj):=by
 have C:=hi.q.g.ea;have ge:=hi.q.g.ec;have m1:=hi.map.yW;have D:=hi.map.zb;have E:=o.m.yW;have G:=o.m.zb;unfold HL DX;rw[aj (by omega) (fun x j=>by obtain⟨i,d,e,rfl⟩:=BR j;exact(hi.map.node i d e).1) (by omega),bs,
  aj (by omega) (fun x j=>by obtain⟨i,d,e,rfl⟩:=BR j;exact(hi.map.edge i d e).1) (by omega),bs,lb hf,bs]
 dsimp only;refine CN fun r=>?_;obtain⟨z,A⟩:=Zs r;rw[RR (F:=fun y=>Ms c.d7 h y m.fd) z]
 .rfl
 .intro i st d e B;have u:=A _ (AF d e);have w:(m.fd.length:Int)<=c.d7.fd:=by have:=o.len;have:=hi.vars;omega
  rw [AC d e,bs,sV hi.q (fun x j=>Oi (C6 hv) hi.q hh u j) w o.small,bs,<-JA]
  grind [AQ,AU]
theorem cd{inj:Bool}{m:AO}(hv:(As t).2=0)(hh:Ix t h)(j:Vw t p h m)(hi:gF t p c)(e:(DX t c h m inj).2=0):(DX t c h m inj).1.length<=5000/\∀x∈(DX t c h m inj).1,Vw t c.d7 h x:=by
 unfold DX at e|-;dsimp only at e|-;split at e
 .grind
 rename_i o;rw[az o];obtain⟨w,z⟩:=Zs (Classical.not_not.1 o);refine⟨by dsimp only;rw[c8];exact Nat.le_trans (List.length_filter_le _ _) w,fun x d=>?_⟩;dsimp only at d;rw[List.mem_map]at d;obtain⟨y,g,rfl⟩:=d;rw[List.mem_filter]at g;have r:=z y g.1;have u:(m.fd.length:Int)<=c.d7.fd:=by have:=j.len;have:=hi.vars;omega
 have:=nA hi.q (fun x d=>Oi (C6 hv) hi.q hh r d) u j.small g.2;exact⟨hi.q,r,this.1,this.2⟩
end Go.Sf.Sc
namespace Go.Sf.Sc
open Go Go.Sf
inductive CV(t:eb):d7->d5->Prop where
 |mk (p:d7) (c:d5) (few:c.fu.length<=40) (rng:1<=c.ll/\c.ll<=5) (one:c.ll=2\/c.ll=5->c.fu.length=1) (ins:c.ll=5->gF t p c) (kids:∀k∈c.fu,CV t (if c.ll=5 then c.d7 else p) k):CV t p c
variable{t:eb}{p:d7}{c:d5}
theorem CV.few(h:CV t p c):c.fu.length<=40:=by cases h;assumption
theorem CV.rng(h:CV t p c):1<=c.ll/\c.ll<=5:=by cases h;assumption
theorem CV.one(h:CV t p c):c.ll=2\/c.ll=5->c.fu.length=1:=by cases h;assumption
theorem CV.ins(h:CV t p c):c.ll=5->gF t p c:=by cases h;assumption
theorem CV.kids(h:CV t p c):∀k∈c.fu,CV t (if c.ll=5 then c.d7 else p) k:=by cases h;assumption
theorem CV.kid(h:CV t p c)(d:¬c.ll=5):∀k∈c.fu,CV t p k:=fun k e=>by have:=h.kids k e;rwa[az d]at this
theorem CV.kid5(h:CV t p c)(d:c.ll=5):∀k∈c.fu,CV t c.d7 k:=fun k e=>by have:=h.kids k e;rwa[ae d]at this
theorem Ts:∀l:List d5,l.length<=RO l
 |[]=>by simp|c::l=>by
  have:=Ts l
  grind [RO,EH,Tt,c7]
variable{q:d7}{v:Int}
theorem vE(hv:(As t).2=0)(h:RS t q v=0):TR t q:=by grind[RS,lO]
theorem nM(hv:(As t).2=0):∀(N:Nat)(c:d5)(p:d7),SizeOf.sizeOf c<=N->EH c<=40->SB N c=true->Hj N t p c=0->CV t p c
 |0,c,_,h,_,_,_=>by have:=DO c;omega|N+1,c,p,h,M,z,ho=>by
  have E:=Tt c;have F:=Ts c.fu;rw[SB,sr]at z;obtain⟨u,o⟩:=z;have d:c.ll=2\/c.ll=5->c.fu.length=1:=by
   intro j;unfold SW at u
   grind
  have g:1<=c.ll/\c.ll<=5:=by
   grind [SW]
  have w:∀q,(fst (fun i=>nz (Hj N t q (AA c.fu i))) 0 c.fu.length).getD 0=0->∀k∈c.fu,CV t q k:=by
   intro q A k j;have G:=WQ A;have K:=VV j;have L:=D7 j;rw[List.all_eq_true]at o;obtain⟨i,H,I,e⟩:=BR j;have y:=G i H I;rw[e]at y;exact nM hv N k q (by omega) (by omega) (o k j) y
  rw [Hj]at ho;by_cases r:c.ll=5
  .rw[ae r]at ho;split at ho
   .cases ho
   rename_i J;split at ho
   .grind
   rename_i B;split at ho
   .grind
   rename_i C;split at ho
   .cases ho
   rename_i D;refine CV.mk p c (by omega) g d (fun _=>⟨vE hv (Classical.not_not.1 B),by omega,Ur (Classical.not_not.1 C),by simpa using D⟩) ?_
   grind
  .rw[az r]at ho;refine CV.mk p c (by omega) g d (fun e=>absurd e r) ?_
   grind
section
variable{α σ ρ:Type}
variable{f:Int->σ->Option (Bf σ ρ)}
theorem TW[Inhabited α]{l:List α}(step:α->σ->Bf σ ρ)(I:Int->σ->Prop)(h:∀(i:Int)s,0<=i->i<l.length->I i s->f i s=some (step (AA l i) s)/\∀s',step (AA l i) s=.next s'->I (i+1) s'):
  ∀(n:Nat)(a:Int)(s:σ),0<=a->a+n=l.length->I a s->x9 f n a s=some (Du step (l.drop a.toNat) s)
 |0,a,s,d,o,_=>by
  rw [List.drop_eq_nil_of_le (by omega)];rfl
 |n+1,a,s,d,o,u=>by
  obtain ⟨g,j⟩:=h a s d (by omega) u;have hd:l.drop a.toNat=AA l a::l.drop (a+1).toNat:=by
   grind [List.drop_eq_getElem_cons,AA,List.getElem?_eq_getElem]
  rw [EP,g,hd,Du];cases e:step (AA l a) s with
  |next s'=>
   simp only;exact TW step I h n (a+1) s' (by omega) (by omega) (j s' e)
  |brk s'=>rfl|ret r=>rfl
theorem WL[Inhabited α]{l:List α}(step:α->σ->Bf σ ρ)(I:Int->σ->Prop){s:σ}(d:I 0 s)(h:∀(i:Int)s,0<=i->i<l.length->I i s->f i s=some (step (AA l i) s)/\∀s',step (AA l i) s=.next s'->I (i+1) s'):
  kg f 0 l.length s=some (Du step l s):=by
 have:=TW step I h l.length 0 s (by omega) (by omega) d;unfold kg;rw[show((l.length:Int)-0).toNat=l.length by omega];exact this
theorem W9{d s2:α->σ->Bf σ ρ}:∀{l:List α}{s:σ},(∀a∈l,d a=s2 a)->Du d l s=Du s2 l s
 |[],_,_=>rfl|a::l,s,h=>by
  rw [Du,Du,h a (by simp)];split
  .exact W9 fun b e=>h b (by simp[e])
  .rfl
  .rfl
end
abbrev zM:AO:=⟨⟨[],[]⟩,[]⟩
abbrev zP:A1:=⟨0,zM,[]⟩
def NP(w:d5->A1×Int)(k:d5)(s:A1×A1):Bf (A1×A1) (A1×Int):=
 if (w k).2≠0 then .ret (zP,(w k).2)else .next (s.1,⟨s.2.yX,s.2.n8,s.2.fu++[(w k).1]⟩)
def Tk(w:d5->A1×Int)(l:List d5):A1×Int:=
 match Du (NP w) l (zP,zP)with
 |.inl s=>(s.2,0)|.inr r=>r
def Ci(t:eb)(h:ff)(inj:Bool):Nat->d5->AO->A1×Int
 |0,_,_=>(zP,0)|N+1,c,m=>
  if c.ll=2 then(if(Ci t h inj N (AA c.fu 0) m).2=0 then(zP,10)else if(Ci t h inj N (AA c.fu 0) m).2=10 then(zP,0)else(zP,(Ci t h inj N (AA c.fu 0) m).2))else
  if c.ll=3 then Tk (fun k=>Ci t h inj N k m) c.fu else
  if c.ll=4 then(fst (fun i=>if(Ci t h inj N (AA c.fu i) m).2=0 then some (⟨i,zM,[(Ci t h inj N (AA c.fu i) m).1]⟩,0)else if(Ci t h inj N (AA c.fu i) m).2≠10 then some (zP,(Ci t h inj N (AA c.fu i) m).2)else none) 0 c.fu.length).getD (zP,10)else
  if c.ll=5 then
   (if(DX t c h m inj).2≠0 then(zP,(DX t c h m inj).2)else
   (fst (fun i=>if(Ci t h inj N (AA c.fu 0) (AA (DX t c h m inj).1 i)).2=0 then some (⟨0,AA (DX t c h m inj).1 i,[(Ci t h inj N (AA c.fu 0) (AA (DX t c h m inj).1 i)).1]⟩,0)else
    if (Ci t h inj N (AA c.fu 0) (AA (DX t c h m inj).1 i)).2≠10 then some (zP,(Ci t h inj N (AA c.fu 0) (AA (DX t c h m inj).1 i)).2)else none) 0 (DX t c h m inj).1.length).getD (zP,10))else
  (zP,0)
def Ch(t:eb)(h:ff)(inj:Bool):Nat->d5->AO->A1×Int
 |0,_,_=>(zP,0)|N+1,c,m=>
  if c.ll=2 then(if(Ch t h inj N (AA c.fu 0) m).2=0 then(zP,10)else if(Ch t h inj N (AA c.fu 0) m).2=10 then(zP,0)else(zP,(Ch t h inj N (AA c.fu 0) m).2))else
  if c.ll=3 then Tk (fun k=>Ch t h inj N k m) c.fu else
  if c.ll=4 then(fst (fun i=>if(Ch t h inj N (AA c.fu i) m).2≠10 then some (⟨i,zM,[(Ch t h inj N (AA c.fu i) m).1]⟩,(Ch t h inj N (AA c.fu i) m).2)else none) 0 c.fu.length).getD (zP,10)else
  if c.ll=5 then
   (if(DX t c h m inj).2≠0 then(zP,(DX t c h m inj).2)else
   (fst (fun i=>if(Ch t h inj N (AA c.fu 0) (AA (DX t c h m inj).1 i)).2≠10 then some (⟨0,AA (DX t c h m inj).1 i,[(Ch t h inj N (AA c.fu 0) (AA (DX t c h m inj).1 i)).1]⟩,(Ch t h inj N (AA c.fu 0) (AA (DX t c h m inj).1 i)).2)else none) 0 (DX t c h m inj).1.length).getD (zP,10))else
  (zP,0)
def L4(x:A1×Int):A1×Int:=if x.2=0 then x else(zP,x.2)
theorem iI(x:A1×Int):(L4 x).2=x.2:=by unfold L4;split<;>rfl
theorem iH{x:A1×Int}(h:x.2=0):(L4 x).1=x.1:=by unfold L4;rw[ae h]
theorem kE(w:d5->A1×Int)(l:List d5):L4 (Tk w l)=Tk w l:=by
 unfold Tk;have:∀(l:List d5)(s:A1×A1)(r:A1×Int),Du (NP w) l s=.inr r->L4 r=r:=by
  intro l
  induction l with
  |nil=>intro s r h;cases h
  |cons a l j=>
   intro s r h;rw[Du]at h;split at h
   .exact j _ _ h
   .cases h
   .rename_i o d;cases h;unfold NP at d;split at d
    .rename_i e;cases d;unfold L4;rw[az e]
    .cases d
 cases g:Du (NP w) l (zP,zP)with
 |inl s=>rfl|inr r=>exact this _ _ _ g
theorem YF(o:Option (A1×Int)):L4 (o.getD (zP,10))=(o.map L4).getD (zP,10):=by cases o<;>rfl
theorem dj(t:eb)(h:ff)(inj:Bool):∀(N:Nat)(c:d5)(m:AO),Ci t h inj N c m=L4 (Ch t h inj N c m)
 |0,_,_=>rfl|N+1,c,m=>by
  have w:=dj t h inj N;have key:∀(c:d5)(m:AO),(Ci t h inj N c m).2=(Ch t h inj N c m).2:=fun c m=>by rw[w,iI]
  have pick:∀(k:d5)(m x:AO)(i:Int),(if(Ci t h inj N k m).2=0 then some ((⟨i,x,[(Ci t h inj N k m).1]⟩:A1),(0:Int))else if(Ci t h inj N k m).2≠10 then some (zP,(Ci t h inj N k m).2)else none)=(if(Ch t h inj N k m).2≠10 then some ((⟨i,x,[(Ch t h inj N k m).1]⟩:A1),(Ch t h inj N k m).2)else none).map L4:=by
   intro k m x i;rw[key];by_cases d:(Ch t h inj N k m).2=0
   .rw[ae d,ae (by omega),w,iH d];simp[L4,d]
   .rw[az d];by_cases e:(Ch t h inj N k m).2≠10
    .rw[ae e,ae e];simp[L4,d]
    grind
  rw [Ci,Ch];by_cases j:c.ll=2
  .rw[ae j,ae j,key];by_cases d:(Ch t h inj N (AA c.fu 0) m).2=0
   .rw[ae d];rfl
   .rw[az d];by_cases e:(Ch t h inj N (AA c.fu 0) m).2=10
    .rw[ae e];rfl
    .rw[az e];unfold L4;rw[az d]
  rw [az j,az j];by_cases o:c.ll=3
  .rw[ae o,ae o,kE];unfold Tk;rw[W9 (s2:=NP fun k=>Ch t h inj N k m)];intro k _;funext s;unfold NP;simp only[key];by_cases d:(Ch t h inj N k m).2=0
   .rw[az (by simp[d]),az (by simp[d]),w,iH d]
   .rw[ae d,ae d]
  rw [az o,az o];by_cases r:c.ll=4
  .rw[ae r,ae r,YF,<-QJ];congr 1;exact congrArg (fun F=>fst F 0 (c.fu.length:Int)) (funext fun i=>pick _ _ _ _)
  rw [az r,az r];by_cases u:c.ll=5
  .rw[ae u,ae u];by_cases g:(DX t c h m inj).2≠0
   .rw[ae g,ae g];unfold L4;rw[az g]
   .rw[az g,az g,YF,<-QJ];congr 1;exact congrArg (fun F=>fst F 0 ((DX t c h m inj).1.length:Int)) (funext fun i=>pick _ _ _ _)
  rw [az u,az u];rfl
end Go.Sf.Sc
namespace Go.Sf.Sc
open Go Go.Sf
def Q2(i:Int)(s:A1×A1):Prop:=(s.2.fu.length:Int)=i
theorem Wq{s:BI}(hf:Ai s.t)(hv:(As s.t).2=0)(hh:Ix s.t s.h):∀(N:Nat)(c:d5)(p:d7)(m:AO),SizeOf.sizeOf c<=N->CV s.t p c->Vw s.t p s.h m->∀n,2*N<=n->Am n s c m=some (Ci s.t s.h s.fq N c m)
 |0,c,_,_,h,_,_,_,_=>by have:=DO c;omega|N+1,c,p,m,h,o,y,n,E=>by
  obtain ⟨n,rfl⟩:∃k,n=k+2:=⟨n-2,by omega⟩;have kid:∀(i:Int),0<=i->i<c.fu.length->SizeOf.sizeOf (AA c.fu i)<=N:=fun i d e=>by
   have:=D7 (AF (l:=c.fu) d e);omega
  rw [Am,Ci];by_cases r:c.ll=2
  .have D:=o.one (.inl r);rw[ae (by simpa using r),ae r,AC (by omega) (by omega),bs,Wq hf hv hh N _ p m (kid 0 (by omega) (by omega)) (o.kid (by omega) _ (AF (by omega) (by omega))) y (n+1) (by omega),bs]
   grind
  rw [az (by simpa using r),az r];by_cases z:c.ll=3
  .rw[ae (by simpa using z),ae z];have B:=o.few;rw[WL (NP fun k=>Ci s.t s.h s.fq N k m) Q2 (show Q2 0 (zP,zP)from rfl)]
   .unfold Tk;show ek (some (Du (NP fun k=>Ci s.t s.h s.fq N k m) c.fu (zP,zP))) _ _=_;cases Du (NP fun k=>Ci s.t s.h s.fq N k m) c.fu (zP,zP)<;>rfl
   .intro i st d e hi;unfold Q2 at hi;rw[AC d e,bs,Wq hf hv hh N _ p m (kid i d e) (o.kid (by omega) _ (AF d e)) y (n+1) (by omega),bs]
    grind [NP,Ci,AA,AQ,AU,Q2]
  rw [az (by simpa using z),az z];by_cases A:c.ll=4
  .rw[ae (by simpa using A),ae A];rw[Ho (fun _=>zP) (fun i=>if(Ci s.t s.h s.fq N (AA c.fu i) m).2=0 then some (⟨i,zM,[(Ci s.t s.h s.fq N (AA c.fu i) m).1]⟩,0)else if(Ci s.t s.h s.fq N (AA c.fu i) m).2≠10 then some (zP,(Ci s.t s.h s.fq N (AA c.fu i) m).2)else none) (by omega) rfl]
   .cases fst (fun i=>if(Ci s.t s.h s.fq N (AA c.fu i) m).2=0 then some ((⟨i,zM,[(Ci s.t s.h s.fq N (AA c.fu i) m).1]⟩:A1),(0:Int))else if(Ci s.t s.h s.fq N (AA c.fu i) m).2≠10 then some (zP,(Ci s.t s.h s.fq N (AA c.fu i) m).2)else none) 0 c.fu.length<;>rfl
   .intro i d e _;rw[AC d e,bs,Wq hf hv hh N _ p m (kid i d e) (o.kid (by omega) _ (AF d e)) y (n+1) (by omega),bs];generalize Ci s.t s.h s.fq N (AA c.fu i) m=x;by_cases j:x.2=0
    .rw[ae (by simpa using j),ae j];try rfl
    .rw[az (by simpa using j),az j];by_cases g:x.2=10
     .rw[az (by simp[g]),az (by simp[g])];try rfl
     .rw[ae (by simp[g]),ae g];try rfl
  rw [az (by simpa using A),az A];by_cases u:c.ll=5
  .rw[ae (by simpa using u),ae u];have hi:=o.ins u;have D:=o.one (.inr u);rw[BG,rj hf hv hh y hi,bs];by_cases w:(DX s.t c s.h m s.fq).2=0
   .obtain⟨g,C⟩:=cd hv hh y hi w;rw[az (by simp[w]),az (by simp[w])];generalize (DX s.t c s.h m s.fq).1=l at g C;rw[Ho (fun _=>zP) (fun i=>if(Ci s.t s.h s.fq N (AA c.fu 0) (AA l i)).2=0 then some (⟨0,AA l i,[(Ci s.t s.h s.fq N (AA c.fu 0) (AA l i)).1]⟩,0)else if(Ci s.t s.h s.fq N (AA c.fu 0) (AA l i)).2≠10 then some (zP,(Ci s.t s.h s.fq N (AA c.fu 0) (AA l i)).2)else none) (by omega) rfl]
    .cases fst (fun i=>if(Ci s.t s.h s.fq N (AA c.fu 0) (AA l i)).2=0 then some ((⟨0,AA l i,[(Ci s.t s.h s.fq N (AA c.fu 0) (AA l i)).1]⟩:A1),(0:Int))else if(Ci s.t s.h s.fq N (AA c.fu 0) (AA l i)).2≠10 then some (zP,(Ci s.t s.h s.fq N (AA c.fu 0) (AA l i)).2)else none) 0 l.length<;>rfl
    .intro i d e _;rw[AC d e,bs,AC (by omega) (by omega),bs,Wq hf hv hh N _ c.d7 _ (kid 0 (by omega) (by omega)) (o.kid5 u _ (AF (by omega) (by omega))) (C _ (AF d e)) n (by omega),bs];generalize Ci s.t s.h s.fq N (AA c.fu 0) (AA l i)=x;by_cases j:x.2=0
     .rw[ae (by simpa using j),ae j];try rfl
     .rw[az (by simpa using j),az j];by_cases g:x.2=10
      .rw[az (by simp[g]),az (by simp[g])];try rfl
      .rw[ae (by simp[g]),ae g];try rfl
   .rw[ae (by simp[w]),ae w];try rfl
  grind
variable{t:eb}
theorem Rz{d:ff}{inj:Bool}(hf:Ai t)(hv:(As t).2=0)(hh:Ix t d):∀(N:Nat)(c:d5)(p:d7)(m:AO),SizeOf.sizeOf c<=N->CV t p c->Vw t p d m->∀n,N<=n->Dn n t c d m inj=some (Ch t d inj N c m)
 |0,c,_,_,h,_,_,_,_=>by have:=DO c;omega|N+1,c,p,m,h,o,w,n,E=>by
  obtain ⟨n,rfl⟩:∃k,n=k+1:=⟨n-1,by omega⟩;have kid:∀(i:Int),0<=i->i<c.fu.length->SizeOf.sizeOf (AA c.fu i)<=N:=fun i e g=>by
   have:=D7 (AF (l:=c.fu) e g);omega
  rw [Dn,Ch];by_cases r:c.ll=2
  .have D:=o.one (.inl r);rw[ae (by simpa using r),ae r,AC (by omega) (by omega),bs,Rz hf hv hh N _ p m (kid 0 (by omega) (by omega)) (o.kid (by omega) _ (AF (by omega) (by omega))) w n (by omega),bs]
   grind
  rw [az (by simpa using r),az r];by_cases y:c.ll=3
  .rw[ae (by simpa using y),ae y];have B:=o.few;rw[WL (NP fun k=>Ch t d inj N k m) Q2 (show Q2 0 (zP,zP)from rfl)]
   .unfold Tk;show ek (some (Du (NP fun k=>Ch t d inj N k m) c.fu (zP,zP))) _ _=_;cases Du (NP fun k=>Ch t d inj N k m) c.fu (zP,zP)<;>rfl
   .intro i st e g hi;unfold Q2 at hi;rw[AC e g,bs,Rz hf hv hh N _ p m (kid i e g) (o.kid (by omega) _ (AF e g)) w n (by omega),bs]
    grind [NP,Ch,AA,AQ,AU,Q2]
  rw [az (by simpa using y),az y];by_cases z:c.ll=4
  .rw[ae (by simpa using z),ae z];rw[Ho (fun _=>zP) (fun i=>if(Ch t d inj N (AA c.fu i) m).2≠10 then some (⟨i,zM,[(Ch t d inj N (AA c.fu i) m).1]⟩,(Ch t d inj N (AA c.fu i) m).2)else none) (by omega) rfl]
   .cases fst (fun i=>if(Ch t d inj N (AA c.fu i) m).2≠10 then some ((⟨i,zM,[(Ch t d inj N (AA c.fu i) m).1]⟩:A1),(Ch t d inj N (AA c.fu i) m).2)else none) 0 c.fu.length<;>rfl
   .intro i e g _;rw[AC e g,bs,Rz hf hv hh N _ p m (kid i e g) (o.kid (by omega) _ (AF e g)) w n (by omega),bs];generalize Ch t d inj N (AA c.fu i) m=x;by_cases j:x.2=10
    .rw[az (by simp[j]),az (by simp[j])];try rfl
    .rw[ae (by simp[j]),ae j];try rfl
  rw [az (by simpa using z),az z];by_cases u:c.ll=5
  .rw[ae (by simpa using u),ae u];have hi:=o.ins u;have D:=o.one (.inr u);rw[sJ hf hv hh w hi,bs];by_cases A:(DX t c d m inj).2=0
   .obtain⟨j,C⟩:=cd hv hh w hi A;rw[az (by simp[A]),az (by simp[A])];generalize (DX t c d m inj).1=l at j C;rw[Ho (fun _=>zP) (fun i=>if(Ch t d inj N (AA c.fu 0) (AA l i)).2≠10 then some (⟨0,AA l i,[(Ch t d inj N (AA c.fu 0) (AA l i)).1]⟩,(Ch t d inj N (AA c.fu 0) (AA l i)).2)else none) (by omega) rfl]
    .cases fst (fun i=>if(Ch t d inj N (AA c.fu 0) (AA l i)).2≠10 then some ((⟨0,AA l i,[(Ch t d inj N (AA c.fu 0) (AA l i)).1]⟩:A1),(Ch t d inj N (AA c.fu 0) (AA l i)).2)else none) 0 l.length<;>rfl
    .intro i e g _;rw[AC (by omega) (by omega),bs,AC e g,bs,Rz hf hv hh N _ c.d7 _ (kid 0 (by omega) (by omega)) (o.kid5 u _ (AF (by omega) (by omega))) (C _ (AF e g)) n (by omega),bs];generalize Ch t d inj N (AA c.fu 0) (AA l i)=x;by_cases j:x.2=10
     .rw[az (by simp[j]),az (by simp[j])];try rfl
     .rw[ae (by simp[j]),ae j];try rfl
   grind
  grind
end Go.Sf.Sc
namespace Go.Sf.Sc
open Go Go.Sf
noncomputable def Tq(t:eb)(p:d7)(c:d5)(h:ff)(m:AO)(inj:Bool):Int:=
 if H8 t p c≠0 then H8 t p c else if(E4 t h).2≠0 then(E4 t h).2 else if FU t p.d3 h.d3 m.d4 inj≠0 then FU t p.d3 h.d3 m.d4 inj else
 if (FV t p h m.d4).2≠0 then(FV t p h m.d4).2 else if(FV t p h m.d4).1=m.fd then 0 else 11
variable{t:eb}{c:d5}
theorem lC(hf:Ai t)(p:d7)(d:Db c)(h:ff)(m:AO)(inj:Bool):E1 t p c h m inj=some (Tq t p c h m inj):=by
 unfold E1 Tq;rw[ot hf p d,bs];refine DM fun _=>?_;rw[Wn hf,bs];refine DM fun _=>?_;rw[Xc hf,bs];refine DM fun _=>?_;rw[cx hf,bs];refine DM fun _=>?_;rw[nX,bs]
 grind
variable{p:d7}{h:ff}
theorem WD(hf:Ai t)(z:EH c<=40){m:AO}{inj:Bool}(e:Tq t p c h m inj=0):(As t).2=0/\Ix t h/\CV t p c/\Vw t p h m:=by
 unfold Tq at e;split at e
 .grind
 rename_i d;split at e
 .grind
 rename_i j;split at e
 .grind
 rename_i o;split at e
 .grind
 rename_i r;split at e
 case isFalse=>cases e
 rename_i C;have d:=Classical.not_not.1 d;have j:=Classical.not_not.1 j;have o:=Classical.not_not.1 o;have r:=Classical.not_not.1 r;obtain⟨hv,hh⟩:=Up hf j;have w:=(Zj o).2;unfold H8 at d;split at d
 .grind
 rename_i A;split at d
 .grind
 rename_i u;have y:=lO hv (.inl (Classical.not_not.1 A));have u:=Classical.not_not.1 u;have B:dg c=true:=by
  grind [LK]
 suffices g:(m.fd.length:Int)=p.fd/\Pj m.fd from⟨hv,hh,nM hv _ c p (b6 _) z B d,y,w,g.1,g.2⟩
 have g:∀s∈p.ed,Iz p.fd h m.d4 s:=fun s g=>Oi (C6 hv) y hh w g
 grind [FV,jU]
end Go.Sf.Sc
namespace Go.Sf.Sc
open Go Go.Sf
def QL:Nat->d5->Bool
 |0,_=>true|N+1,c=>if mt (fun i=>!QL N (AA c.fu i)) 0 c.fu.length=true then false else decide (AG ((c.d7.d3.ca.length:Int)+c.d7.d3.ci.length)<=6)
theorem Yg:∀(N:Nat)(c:d5),SizeOf.sizeOf c<=N->∀n,N<=n->FP n c=some (QL N c)
 |0,c,h,_,_=>by have:=DO c;omega|N+1,c,h,n,g=>by
  obtain ⟨n,rfl⟩:∃k,n=k+1:=⟨n-1,by omega⟩;rw[FP,QL,BW (fun i=>!QL N (AA c.fu i)) false]
  .cases mt (fun i=>!QL N (AA c.fu i)) 0 c.fu.length<;>rfl
  .intro i d e _;have:=D7 (AF (l:=c.fu) d e);rw[AC d e,bs,Yg N _ (by omega) n (by omega),bs,JA]
theorem li(c:d5):Qj c=some (QL (SizeOf.sizeOf c) c):=Dy (SizeOf.sizeOf c) fun n d=>Yg _ c (b6 _) n d
def UE(a:Int):Nat->Int->Int
 |0,s=>s|k+1,s=>AG (UE a k s*a)
theorem na{a b k s:Int}(g:0<=k)(e:k<=1000)(j:b<=1000):Ca (ρ:=Bool) (fun(d:Int×Int)=>
  if (decide (d.2<b))=true then
  some (.next (AG (d.1*a),AG (d.2+1)))
  else
  some (.brk (d.1,d.2))) (s,k)=some (.inl (UE a (max k b-k).toNat s,max k b)):=by
 refine OK (fun i=>UE a (i-k).toNat s) (by omega) (by rw[show(k-k).toNat=0 by omega];rfl) (fun i o r=>?_) ?_
 .rw[ae (by simp;omega),show(i+1-k).toNat=(i-k).toNat+1 by omega,UE];dsimp only;rw[AV (n:=i+1) (by omega) (by omega)]
 .rw[az (by simp;omega)]
def QY(a b:Int):Nat->d7->d5->Bool
 |0,_,_=>true|N+1,p,c=>
  let q:=if c.ll=5 then c.d7 else p
  if mt (fun i=>!QY a b N q (AA c.fu i)) 0 c.fu.length=true then false else
  decide (UE b (max (p.d3.ci.length:Int) q.d3.ci.length-p.d3.ci.length).toNat (UE a (max (p.d3.ca.length:Int) q.d3.ca.length-p.d3.ca.length).toNat 1)<=5000)
theorem af(a b:Int):∀(N:Nat)(c:d5)(p:d7),SizeOf.sizeOf c<=N->Db c->OR p->∀n,N<=n->Dt n p c a b=some (QY a b N p c)
 |0,c,_,h,_,_,_,_=>by have:=DO c;omega|N+1,c,p,h,g,z,n,K=>by
  obtain ⟨n,rfl⟩:∃k,n=k+1:=⟨n-1,by omega⟩;have E:=g.q.ea;have F:=g.q.ec;have G:=z.ea;have H:=z.ec;have e:∀q:d7,OR q->(ek (Ca (ρ:=Bool) (fun(d:Int×Int)=>
    if (decide (d.2<(q.d3.ca.length:Int)))=true then
    some (.next (AG (d.1*a),AG (d.2+1)))
    else
    some (.brk (d.1,d.2))) (1,(p.d3.ca.length:Int))) (fun d=>
    ek (Ca (ρ:=Bool) (fun(s2:Int×Int)=>
    if (decide (s2.2<(q.d3.ci.length:Int)))=true then
    some (.next (AG (s2.1*b),AG (s2.2+1)))
    else
    some (.brk (s2.1,s2.2))) (d.1,(p.d3.ci.length:Int))) (fun s2=>
    ek (kg (ρ:=Bool) (fun(A:Int)(_:Unit)=>
    (idx c.fu A).bind fun j=>
    (Dt n q j a b).bind fun o=>
    if (!o)=true then
    some (.ret false)
    else
    some (.next ())) 0 (c.fu.length:Int) ()) (fun _=>
    some (decide (s2.1<=5000))) (fun B=>some B)) (fun C=>some C)) (fun D=>some D))=
    some (if mt (fun i=>!QY a b N q (AA c.fu i)) 0 c.fu.length=true then false else
     decide (UE b (max (p.d3.ci.length:Int) q.d3.ci.length-p.d3.ci.length).toNat (UE a (max (p.d3.ca.length:Int) q.d3.ca.length-p.d3.ca.length).toNat 1)<=5000)):=by
   intro q r;have I:=r.ea;have J:=r.ec;rw[na (by omega) (by omega) (by omega),Ba];dsimp only;rw[na (by omega) (by omega) (by omega),Ba,BW (fun i=>!QY a b N q (AA c.fu i)) false]
   .cases mt (fun i=>!QY a b N q (AA c.fu i)) 0 c.fu.length<;>rfl
   .intro i u w _;have:=D7 (AF (l:=c.fu) u w);rw[AC u w,bs,af a b N _ q (by omega) (g.k _ (AF u w)) r n (by omega),bs,JA]
  rw [Dt,QY];by_cases y:c.ll=5
  .rw[ae (by simpa using y),ae y,bs,e _ g.q]
  grind
variable{c:d5}{p:d7}
theorem im(a b:Int)(d:Db c)(e:OR p):Pq p c a b=some (QY a b (SizeOf.sizeOf c) p c):=Dy (SizeOf.sizeOf c) fun n g=>af a b _ c p (b6 _) d e n g
theorem Zt(h:ff):∃b,K8 h=some b:=by
 unfold K8 JS;rw[bs];split
 .exact⟨_,rfl⟩
 .rw[BW (fun i=>decide (12<((AA h.ej i).length:Int))) false]
  .cases mt (fun i=>decide (12<((AA h.ej i).length:Int))) 0 h.ej.length
   .exact⟨true,rfl⟩
   .exact⟨false,rfl⟩
  .intro i d e _;rw[AC d e,bs,JA]
variable{t:eb}
theorem iu(hf:Ai t)(st:(AJ t).Sm)(p g:d3):∃b,MH t p g=some b:=by
 obtain ⟨b,e,_⟩:=Tz st;unfold MH JS;rw[e,bs,Sp hf]
 grind
theorem iv(hf:Ai t)(st:(AJ t).Sm)(p:d7)(w:(AI c).Sm)(h:ff):∃b,ML t p c h=some b/\(b=true->Db c/\EH c<=40/\OR p):=by
 obtain ⟨y,z,A⟩:=gX w;obtain⟨B,r,C⟩:=Rp p;obtain⟨D,u⟩:=Zt h;unfold ML;rw[z,bs];cases y
 .exact⟨false,rfl,fun h=>by cases h⟩
 rw [r];cases B
 .exact⟨false,rfl,fun h=>by cases h⟩
 rw [u];cases D
 .exact⟨false,rfl,fun h=>by cases h⟩
 have g:=A rfl;have j:=C rfl;simp only[bs,Bool.not_true,Bool.false_eq_true,if_false];rw[ip hf p g.1,bs];have d:∀o:K1,(∃b,o=some b)->∃b,o=some b/\(b=true->Db c/\EH c<=40/\OR p):=fun o⟨b,e⟩=>⟨b,e,fun _=>⟨g.1,g.2,j⟩⟩;refine d _ ?_;split
 .exact⟨true,rfl⟩
 .obtain⟨E,F⟩:=iu hf st p.d3 h.d3;unfold O9;rw[r,u,F,li,im 14 18 g.1 j];simp only[bs,if_true];cases E<;>simp only[Bool.false_eq_true,if_false,if_true,bs,Bool.false_and]
  .exact⟨_,rfl⟩
  .split
   .exact⟨_,rfl⟩
   .exact⟨_,rfl⟩
noncomputable def wS(t:eb)(p:d7)(c:d5)(h:ff)(m:AO)(inj:Bool):A1×Int:=
 if Tq t p c h m inj≠0 then(zP,Tq t p c h m inj)else Ci t h inj (SizeOf.sizeOf c) c m
theorem ia(hf:Ai t)(p:d7)(e:Db c)(g:EH c<=40)(h:ff)(m:AO)(inj:Bool):D3 t p c h m inj=some (wS t p c h m inj):=by
 unfold D3 wS;rw[lC hf p e,bs];refine CN fun j=>?_;obtain⟨hv,hh,d,r⟩:=WD hf g j;rw[show El (BI.mk t h inj) c m=some (Ci t h inj (SizeOf.sizeOf c) c m)from Dy (2*SizeOf.sizeOf c) fun n o=>Wq (s:=⟨t,h,inj⟩) hf hv hh _ c p m (b6 _) d r n o];rfl
noncomputable def Mz(t:eb)(p:d7)(c:d5)(h:ff)(m:AO)(inj:Bool):Bool×Int:=
 if (wS t p c h m inj).2=10 then(false,0)else(decide ((wS t p c h m inj).2=0),(wS t p c h m inj).2)
theorem bz(hf:Ai t)(p:d7)(d:Db c)(e:EH c<=40)(h:ff)(m:AO)(inj:Bool):DP t p c h m inj=some (Mz t p c h m inj):=by grind[DP,Mz,ia,wS]
variable{h:ff}
theorem lc(hf:Ai t){inj:Bool}{m:AO}(hv:(As t).2=0)(hh:Ix t h)(d:CV t p c)(e:Vw t p h m):RW t c h m inj=some (Ch t h inj (SizeOf.sizeOf c) c m):=Dy (SizeOf.sizeOf c) fun n g=>Rz hf hv hh _ c p m (b6 _) d e n g
end Go.Sf.Sc
namespace Go.Sf.Sc
open Go Go.Sf
end Go.Sf.Sc
namespace Go.Sf.Sc
open Go Go.Sf
theorem p0(t:eb)(p:d7)(c:d5)(h:ff)(m:AO)(inj:Bool):wS t p c h m inj=if Tq t p c h m inj≠0 then(zP,Tq t p c h m inj)else L4 (Ch t h inj (SizeOf.sizeOf c) c m):=by
 unfold wS;rw[dj]
end Go.Sf.Sc
