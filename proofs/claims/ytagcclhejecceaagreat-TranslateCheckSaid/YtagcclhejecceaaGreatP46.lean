/- Plain lemmas: what the functions of the program and of the reference compute. -/
import Derived.Test.YtagcclhejecceaaGreatP25
set_option linter.all false
set_option maxRecDepth 100000
namespace Go.Sf.Sc
open Go Go.Sf
variable{all:List kl}{k:Int}
theorem Q3(h:Lp all k=0)(d:(AA all k).sg.length<=1000):-1000000<=(AA all k).xt/\(AA all k).wM<=1000000:=by grind[Lp]
variable{t:AC}{i:Int}
theorem aa(h:IY t i=0):∀k,((BB t i).length:Int)-(AA t.ca i).po.length<=k->k<(BB t i).length->Lp (BB t i) k=0:=by
 unfold IY at h;dsimp only at h;split at h
 .cases h
 split at h
 .cases h
 split at h
 .cases h
 split at h
 .cases h
 exact SY h
variable{a:Int}
theorem Oz{n:Nat}(d:0<=a):B9 t (n+1) a=B9 t n (par t a)++(AA t.ca a).po:=by grind[B9]
theorem g9(h:Lp all k=0)(d:(AA all k).sg.length<=1000):(AA all k).xt<=(AA all k).wM:=by grind[Lp]
theorem Q5(hf:Aw t)(h:FL t){Q:kl->Prop}(Q3:∀{all:List kl}{k:Int},Lp all k=0->(AA all k).sg.length<=1000->Q (AA all k)):∀(n:Nat)(a:Int),a<t.ca.length->a<n->∀x∈B9 t n a,Q x
 |0,_,_,_=>by simp[B9]|n+1,a,g,C=>by
  by_cases o:a<0
  .rw[I9 o];simp
  .have y:=h.par a (by omega) g;intro x d;rw[Oz (by omega)]at d;rcases List.mem_append.1 d with d|d
   .exact Q5 hf h Q3 n (par t a) (by omega) (by omega) x d
   .obtain⟨j,A,B,rfl⟩:=Be d;have e:BB t a=B9 t a.toNat (par t a)++(AA t.ca a).po:=by
     unfold BB;rw[show(a+1).toNat=a.toNat+1 by omega,Oz (by omega)]
    have z:(BB t a).length=(B9 t a.toNat (par t a)).length+(AA t.ca a).po.length:=by rw[e,bk]
    have r:=aa (h.node a (by omega) g) ((B9 t a.toNat (par t a)).length+j) (by omega) (by omega);have u:AA (BB t a) ((B9 t a.toNat (par t a)).length+j)=AA (AA t.ca a).po j:=by
     grind [Pv,AA]
    have w:=Me hf (Int.le_refl _) h.par g (AA (BB t a) ((B9 t a.toNat (par t a)).length+j)) (AJ (by omega) (by omega));have:=Q3 r (by have:=w.names;omega)
    rwa [u]at this
theorem Q6(hf:Aw t)(h:FL t)(e:0<=a)(d:a<t.ca.length):∀x∈BB t a,-1000000<=x.xt/\x.wM<=1000000:=Q5 hf h Q3 _ a d (by omega)
theorem eb(hf:Aw t)(h:FL t)(e:0<=a)(d:a<t.ca.length):∀x∈BB t a,x.xt<=x.wM:=Q5 hf h g9 _ a d (by omega)
theorem YB(e:Et t k):∀(n:Nat)(a b:Int),a<k->a<n->b∈Ou t n a->0<=b/\b<=a/\(BB t b).length<=(B9 t n a).length
 |0,_,_,_,_=>by simp[Ou]|n+1,a,b,g,r=>by
  intro d;rw[Ou]at d;split at d
  .cases d
  .rename_i j;have o:=e a (by omega) g;rw[Oz (by omega)];rcases List.mem_cons.1 d with rfl|d
   .refine⟨by omega,by omega,?_⟩;unfold BB;rw[MH e (b+1).toNat (n+1) b g (by omega) (by omega),Oz (by omega)];exact az _
   .have:=YB e n (par t a) b (by omega) (by omega) d
    grind
variable{b:Int}
theorem Xk(h:FL t)(j:a<t.ca.length)(d:xe t a b=true):(BB t b).length<=(BB t a).length:=by
 unfold xe at d;rw[List.any_eq_true]at d;obtain⟨x,g,e⟩:=d;rw[wq]at e;subst e;by_cases o:a<0
 .have:(a+1).toNat=0:=by omega
  rw [this]at g;cases g
 .exact(YB h.par (a+1).toNat a b j (by omega) g).2.2
theorem cl{α:Type}{Q:Prop}[Decidable Q]{v:α}{X:Option α}{Y:α}(he:a=b↔Q)(h:Q->X=some Y):(if(!decide (a=b))=true then some v else X)=some (if¬Q then v else Y):=by grind
def RW(t:AC)(k:Int)(v:Fp)(j:Int):Bool:=decide (AA v j<(AA (BB t k) j).xt)||decide ((AA (BB t k) j).wM<AA v j)
def Ik(t:AC)(k:Int)(v:Fp):Int:=
 if (t.ca.length:Int)<=k then 6 else if(AA t.ca k).wH=true then 13 else if¬v.length=(BB t k).length then 20 else
 if kx (RW t k v) 0 (BB t k).length=true then 6 else 0
def Mq(t:AC)(g:c9)(i:Int):Int:=
 if (t.ci.length:Int)<=(AA g.ci i).j4 then 6 else if GX t g i=false then 13 else 0
def He(t:AC)(h:AH):Int×Int:=
 if (A8 t).2≠0 then(-1,(A8 t).2)else if B4 h.c9≠0 then(-1,B4 h.c9)else if¬h.eo.length=h.c9.ca.length then(-1,20)else
 match fst (fun i=>(nz (Ik t (AA h.c9.ca i) (AA h.eo i))).map fun e=>(i,e)) 0 h.c9.ca.length with
 |some r=>r|none=>(fst (fun i=>(nz (Mq t h.c9 i)).map fun e=>(i,e)) 0 h.c9.ci.length).getD (-1,0)
theorem I1(hv:(A8 t).2=0)(d:0<=k)(e:k<t.ca.length):F6 t k=(BB t k,0):=by grind[F6,MJ]
theorem UL{x:Bool}{y:Bool}:(if x=true then some true else some y)=some (x||y):=by cases x<;>rfl
theorem mT(hf:Aw t)(hv:(A8 t).2=0)(d:0<=k)(v:Fp):KM t k v=some (Ik t k v):=by
 unfold KM Ik;by_cases e:(t.ca.length:Int)<=k
 .grind
 rw [ae (by simpa using e),ae e,AD d (by omega),bs];refine XH fun _=>?_;rw[Qk hf,I1 hv d (by omega),bs];refine cl (by simp;omega) fun g=>?_;rw[BJ (RW t k v) 6]
 .cases kx (RW t k v) 0 (BB t k).length<;>rfl
 grind [BB,AD,UL,RW,AA]
theorem mn(hf:Aw t)(hv:(A8 t).2=0)(d:0<=k)(v:Fp):M5 t k v=some (Ik t k v):=by
 unfold M5 Ik;by_cases e:(t.ca.length:Int)<=k
 .grind
 rw [ae (by simpa using e),ae e,AD d (by omega),bs];refine XH fun _=>?_;rw[Ql hf,I1 hv d (by omega),bs];refine cl (by simp;omega) fun g=>?_;rw[BJ (RW t k v) 6]
 .cases kx (RW t k v) 0 (BB t k).length<;>rfl
 grind [BB,AD,UL,RW,AA]
theorem Zb(e i:Int):(if(!decide (e=0))=true then some (Bx.ret (σ:=Unit) (ρ:=Int×Int) (i,e))else some (.next ()))=some (L6 ((nz e).map fun e=>(i,e))):=by grind[nz,L6]
theorem WI(hf:Aw t)(h:AH):FB t h=some (He t h):=by
 unfold FB He;rw[Np hf,bs];refine D1 fun hv=>?_;rw[MO,bs];refine D1 fun o=>?_;have go:=DX o;refine cl (by omega) fun z=>?_;rw[BR (fun i=>(nz (Ik t (AA h.c9.ca i) (AA h.eo i))).map fun e=>(i,e)),DZ]
 .cases u:fst (fun i=>(nz (Ik t (AA h.c9.ca i) (AA h.eo i))).map fun e=>(i,e)) 0 h.c9.ca.length with
  |some r=>rfl|none=>
   have w:=CW.1 u;dsimp only;rw[BR (fun i=>(nz (Mq t h.c9 i)).map fun e=>(i,e)),DZ]
   .grind
   .intro i d g _;have y:=go.fit _ (AJ (l:=h.c9.ci) d g);rw[AD d g,bs];unfold Mq GX;by_cases j:(t.ci.length:Int)<=(AA h.c9.ci i).j4
    .rw[a6 (by simpa using j),a6 j];rfl
    .rw[ae (by simpa using j),ae j,AD (by omega) (by omega),bs,AD (by omega) (by omega),bs,Zi hf,bs];cases RF t (AA h.c9.ci i).j4 (AA h.c9.ca (AA h.c9.ci i).kg) (AA h.c9.ca (AA h.c9.ci i).To)<;>rfl
 .intro i d g _;rw[AD d g,bs,AD d (by omega),bs,mT hf hv (go.kind _ (AJ d g)).1,bs];exact Zb _ i
theorem WS(hf:Aw t)(h:AH):Gu t h=some (He t h):=by
 unfold Gu He;rw[PO hf,bs];refine D1 fun hv=>?_;rw[MP,bs];refine D1 fun o=>?_;have go:=DX o;refine cl (by omega) fun z=>?_;rw[BR (fun i=>(nz (Ik t (AA h.c9.ca i) (AA h.eo i))).map fun e=>(i,e)),DZ]
 .cases u:fst (fun i=>(nz (Ik t (AA h.c9.ca i) (AA h.eo i))).map fun e=>(i,e)) 0 h.c9.ca.length with
  |some r=>rfl|none=>
   have w:=CW.1 u;dsimp only;rw[BR (fun i=>(nz (Mq t h.c9 i)).map fun e=>(i,e)),DZ]
   .grind
   .intro i d g _;have y:=go.fit _ (AJ (l:=h.c9.ci) d g);rw[AD d g,bs];unfold Mq GX;by_cases j:(t.ci.length:Int)<=(AA h.c9.ci i).j4
    .rw[a6 (by simpa using j),a6 j];rfl
    .rw[ae (by simpa using j),ae j,AD (by omega) (by omega),bs,AD (by omega) (by omega),bs,Zs hf,bs];cases RF t (AA h.c9.ci i).j4 (AA h.c9.ca (AA h.c9.ci i).kg) (AA h.c9.ca (AA h.c9.ci i).To)<;>rfl
 .intro i d g _;rw[AD d g,bs,AD d (by omega),bs,mn hf hv (go.kind _ (AJ d g)).1,bs];exact Zb _ i
structure JY(t:AC)(h:AH):Prop where
 g:Di h.c9
 len:h.eo.length=h.c9.ca.length
 kind:∀i:Int,0<=i->i<h.c9.ca.length->0<=AA h.c9.ca i/\AA h.c9.ca i<t.ca.length
 row:∀i:Int,0<=i->i<h.c9.ca.length->(AA h.eo i).length=(BB t (AA h.c9.ca i)).length
 low:∀i:Int,0<=i->i<h.c9.ca.length->∀x∈AA h.eo i,-1000000<=x/\x<=1000000
 ge:B4 h.c9=0
 ty:Cw t h.c9=true
variable{h:AH}
theorem dB(e:(He t h).2=0):(∀i:Int,0<=i->i<h.c9.ca.length->Ik t (AA h.c9.ca i) (AA h.eo i)=0)/\∀i:Int,0<=i->i<h.c9.ci.length->Mq t h.c9 i=0:=by
 unfold He at e;split at e
 .rename_i u;exact absurd e u
 split at e
 .rename_i u;exact absurd e u
 split at e
 .cases e
 rename_i u z A;have y:∀i:Int,0<=i->i<h.c9.ca.length->Ik t (AA h.c9.ca i) (AA h.eo i)=0:=by
  split at e
  .rename_i r d;obtain⟨i,_,_,k,_⟩:=Db d;unfold nz at k;split at k
   .cases k
   .rename_i g;cases k;exact absurd e g
  .rename_i d;exact fun i j o=>PK.1 (Nj.1 (CW.1 d i j o))
 have he:∀i:Int,0<=i->i<h.c9.ci.length->Mq t h.c9 i=0:=by
  have w:fst (fun i=>(nz (Ik t (AA h.c9.ca i) (AA h.eo i))).map fun e=>(i,e)) 0 h.c9.ca.length=none:=CW.2 fun i j o=>by rw[y i j o];rfl
  rw [w]at e;dsimp only at e;cases d:fst (fun i=>(nz (Mq t h.c9 i)).map fun e=>(i,e)) 0 h.c9.ci.length with
  |some r=>
   rw [d]at e;obtain⟨i,_,_,k,_⟩:=Db d;unfold nz at k;split at k
   .cases k
   .rename_i g;cases k;exact absurd e g
  |none=>exact fun i j o=>PK.1 (Nj.1 (CW.1 d i j o))
 exact ⟨y,he⟩
theorem UE(hf:Aw t)(e:(He t h).2=0):(A8 t).2=0/\JY t h:=by
 obtain ⟨w,he⟩:=dB e;unfold He at e;split at e
 .rename_i o;exact absurd e o
 split at e
 .rename_i o;exact absurd e o
 split at e
 .cases e
 rename_i o A D;have hv:=Classical.not_not.1 o;have go:=DX (Classical.not_not.1 A);have u:∀i:Int,0<=i->i<h.c9.ca.length->(0<=AA h.c9.ca i/\AA h.c9.ca i<t.ca.length)/\(AA h.eo i).length=(BB t (AA h.c9.ca i)).length/\∀j:Int,0<=j->j<(BB t (AA h.c9.ca i)).length->RW t (AA h.c9.ca i) (AA h.eo i) j=false:=by
  intro i d g;have G:=(go.kind _ (AJ d g)).1;have:=w i d g;unfold Ik at this;split at this
  .cases this
  split at this
  .cases this
  split at this
  .cases this
  split at this
  .cases this
  rename_i a1 a2 E F;exact⟨⟨G,by omega⟩,Classical.not_not.1 E,By.1 (by simpa using F)⟩
 have z:Cw t h.c9=true:=by
  unfold Cw;rw[pr,Bool.not_eq_true',Bool.not_eq_true',List.any_eq_false,List.any_eq_false];refine⟨fun n w=>?_,fun x y=>?_⟩
  .obtain⟨i,d,g,rfl⟩:=Be w;have:=(u i d g).1.2;simp;omega
  .obtain⟨i,d,g,rfl⟩:=Be y;have:=he i d g;unfold Mq at this;split at this
   .cases this
   .simp;omega
 suffices r:∀i:Int,0<=i->i<h.c9.ca.length->∀x∈AA h.eo i,-1000000<=x/\x<=1000000 from⟨hv,go,Classical.not_not.1 D,fun i d g=>(u i d g).1,fun i d g=>(u i d g).2.1,r,Classical.not_not.1 A,z⟩
 intro i d g x y;obtain⟨B,I,H⟩:=u i d g;obtain⟨j,C,J,rfl⟩:=Be y;have:=H j C (by omega);unfold RW at this;simp[decide_eq_false_iff_not]at this;have:=Q6 hf (Cs hv) B.1 B.2 _ (AJ (l:=BB t (AA h.c9.ca i)) C (by omega));omega
end Go.Sf.Sc
namespace Go.Sf.Sc
open Go Go.Sf
def KK(t:AC)(p g:c9)(m:d3)(i:Int):QQ:=
 if AA m.ca i<0\/g.ca.length<=AA m.ca i then some 6 else if xe t (AA g.ca (AA m.ca i)) (AA p.ca i)=false then some 13 else none
def OJ(t:AC)(p g:c9)(m:d3):Int:=
 if m.ca.length≠p.ca.length\/m.ci.length≠p.ci.length then 20 else
 match fst (KK t p g m) 0 m.ca.length with
 |some e=>e|none=>(fst (HF p g m) 0 m.ci.length).getD 0
def GV(t:AC)(p g:c9)(m:d3)(inj:Bool):Int:=
 if F9 t p g≠0 then F9 t p g else if OJ t p g m≠0 then OJ t p g m else if(inj&&!Hg m)=true then 5 else 0
structure XC(t:AC)(p g:c9)(m:d3):Prop where
 w9:m.ca.length=p.ca.length
 xr:m.ci.length=p.ci.length
 node:∀i:Int,0<=i->i<m.ca.length->(0<=AA m.ca i/\AA m.ca i<g.ca.length)/\xe t (AA g.ca (AA m.ca i)) (AA p.ca i)=true
 edge:∀i:Int,0<=i->i<m.ci.length->0<=AA m.ci i/\AA m.ci i<g.ci.length
variable{t:AC}
theorem Nh{p g:c9}(h:F9 t p g=0):(A8 t).2=0/\Di p/\Di g/\(∀n∈p.ca,0<=n/\n<t.ca.length)/\∀n∈g.ca,0<=n/\n<t.ca.length:=by
 unfold F9 at h;split at h
 .grind
 split at h
 .grind
 split at h
 .grind
 split at h
 .rename_i e j o d;rw[pr]at d
  grind [DX,Hb]
 .cases h
variable{m:d3}
theorem cD{p g:c9}(h:OJ t p g m=0):XC t p g m:=by
 unfold OJ at h;split at h
 .cases h
 rename_i o;have j:fst (KK t p g m) 0 m.ca.length=none:=by
  grind [Db,KK]
 rw [j]at h;have he:=P1 (fun i=>by
  grind [HF]) h
 refine ⟨by omega,by omega,fun i d e=>?_,fun i d e=>?_⟩
 .grind[CW,KK]
 grind [HF]
theorem Xp(hf:Aw t){p g:c9}(A:F9 t p g=0)(m:d3):GD t p g m=some (OJ t p g m):=by
 obtain ⟨hv,C,G,tp,D⟩:=Nh A;unfold GD OJ;refine OP (by simp;try omega) fun E=>?_;rw[lF hf (Cs hv) hv,bs,BR (KK t p g m),DZ]
 .cases F:fst (KK t p g m) 0 m.ca.length with
  |some e=>rfl|none=>
   dsimp only;rw[BR (HF p g m),CN];intro i j z _;unfold HF;rw[AD j z,bs];by_cases d:AA m.ci i<0\/g.ci.length<=AA m.ci i
   .rw[a6 (by simpa using d),a6 d];rfl
   .have hf:=C.fit _ (AJ (l:=p.ci) j (by omega));rw[ae (by simpa using d),ae d,AD j (by omega),bs,AD (by omega) (by omega),bs];by_cases o:(AA p.ci i).j4=(AA g.ci (AA m.ci i)).j4
    .rw[ae (by simpa using o),ae (by simpa using o),AD (by omega) (by omega),bs];by_cases r:AA m.ca (AA p.ci i).kg=(AA g.ci (AA m.ci i)).kg
     .rw[ae (by simpa using r),AD (by omega) (by omega),bs,bs];by_cases u:AA m.ca (AA p.ci i).To=(AA g.ci (AA m.ci i)).To
      .rw[ae (by simpa using u),ae (by simp[r,u])];rfl
      .rw[a6 (by simpa using u),a6 (.inr u)];rfl
     .rw[a6 (by simpa using r),bs,a6 rfl,a6 (.inl r)];rfl
    .rw[a6 (by simpa using o),a6 o];rfl
 .intro i j z _;unfold KK;rw[AD j z,bs];by_cases d:AA m.ca i<0\/g.ca.length<=AA m.ca i
  .rw[a6 (by simpa using d),a6 d];rfl
  .have w:=tp _ (AJ (l:=p.ca) j (by omega));have y:=D _ (AJ (l:=g.ca) (show 0<=AA m.ca i by omega) (by omega));rw[ae (by simpa using d),ae d,AD j (by omega),bs,AD w.1 (by unfold JP;rw[c7,BN];exact w.2),bs,AD (by omega) (by omega),bs];have e:AA (JP t) (AA p.ca i)=NC t (AA p.ca i):=by unfold JP;exact I0 (NC t) w.1 w.2
   rw [e,AD y.1 (by unfold NC;rw[c7,BN];exact y.2),bs];have B:AA (NC t (AA p.ca i)) (AA g.ca (AA m.ca i))=xe t (AA g.ca (AA m.ca i)) (AA p.ca i):=by unfold NC;exact I0 (fun k=>xe t k (AA p.ca i)) y.1 y.2
   rw [B];cases xe t (AA g.ca (AA m.ca i)) (AA p.ca i)<;>rfl
variable{l:Fp}
theorem bv(d:l.length<=1000):HT l=some (!Ii l):=by grind[HT,U2,Nd,yM,Ii]
theorem Wy(hf:Aw t)(p g:c9)(m:d3)(inj:Bool):FH t p g m inj=some (GV t p g m inj):=by
 unfold FH GV;rw[W5 hf,bs];refine DQ fun d=>?_;rw[Xp hf d,bs];refine DQ fun o=>?_;obtain⟨_,j,r,_⟩:=Nh d;have e:=cD o;have:=j.d7;have:=j.ei;have:=e.w9;have:=e.xr;rw[bv (by omega),bv (by omega)];unfold Hg;cases inj<;>cases Ii m.ca<;>cases Ii m.ci<;>rfl
theorem mg(l:Fp):Is l=some (Ii l):=Ye l
theorem fl{p g:c9}(z:F9 t p g=0)(m:d3)(inj:Bool):LX t p g m inj=some (if OJ t p g m≠0 then OJ t p g m else if(inj&&!Hg m)=true then 5 else 0):=by
 obtain ⟨hv,C,F,tp,D⟩:=Nh z;unfold LX OJ;by_cases A:m.ca.length≠p.ca.length\/m.ci.length≠p.ci.length
 .grind
 rw [ae (by simp;try omega),ae A,BR (KK t p g m),DZ]
 .cases E:fst (KK t p g m) 0 m.ca.length with
  |some e=>
   grind [Db,KK]
  |none=>
   dsimp only;rw[BR (HF p g m),DZ]
   .grind[fst,HF,Db,mg,Hg,Ii]
   intro i j w _;unfold HF;rw[AD j w];simp only[bs,Sr];by_cases d:AA m.ci i<0\/g.ci.length<=AA m.ci i
   .rw[a6 (by simpa using d),a6 d];rfl
   .have hf:=C.fit _ (AJ (l:=p.ci) j (by omega));rw[ae (by simpa using d),ae d,AD j (by omega),bs,AD (by omega) (by omega),bs];by_cases o:(AA p.ci i).j4=(AA g.ci (AA m.ci i)).j4
    .rw[ae (by simpa using o),ae (by simpa using o),AD (by omega) (by omega),bs];by_cases r:AA m.ca (AA p.ci i).kg=(AA g.ci (AA m.ci i)).kg
     .rw[ae (by simpa using r),AD (by omega) (by omega),bs,bs];by_cases u:AA m.ca (AA p.ci i).To=(AA g.ci (AA m.ci i)).To
      .rw[ae (by simpa using u),ae (by simp[r,u])];rfl
      .rw[a6 (by simpa using u),a6 (.inr u)];rfl
     .rw[a6 (by simpa using r),bs,a6 rfl,a6 (.inl r)];rfl
    .rw[a6 (by simpa using o),a6 o];rfl
 .intro i j w _;unfold KK;rw[AD j w];simp only[bs,Sr];by_cases d:AA m.ca i<0\/g.ca.length<=AA m.ca i
  .rw[a6 (by simpa using d),a6 d];rfl
  .have B:=tp _ (AJ (l:=p.ca) j (by omega));have y:=D _ (AJ (l:=g.ca) (show 0<=AA m.ca i by omega) (by omega));rw[ae (by simpa using d),ae d,AD (by omega) (by omega),bs,AD j (by omega),bs,UO (Cs hv) y.1 y.2 B.1,bs];cases xe t (AA g.ca (AA m.ca i)) (AA p.ca i)<;>rfl
theorem W6(hf:Aw t)(p g:c9)(m:d3)(inj:Bool):IP t p g m inj=some (GV t p g m inj):=by
 unfold IP GV;rw[Zz hf,bs];refine DQ fun d=>?_;rw[fl d,bs]
variable{inj:Bool}
theorem Yz{p g:c9}(h:GV t p g m inj=0):F9 t p g=0/\XC t p g m:=by grind[GV,cD]
end Go.Sf.Sc
namespace Go.Sf.Sc
open Go Go.Sf
section
variable{α σ ρ:Type}
def D3(step:α->σ->Bx σ ρ):List α->σ->σ ⊕ ρ
 |[],s=>.inl s|a::r,s=>match step a s with
  |.next s'=>D3 step r s'|.brk s'=>.inl s'|.ret r=>.inr r
variable{f:Int->σ->Option (Bx σ ρ)}
theorem SW[Inhabited α]{l:List α}(step:α->σ->Bx σ ρ)(I:σ->Prop)(h:∀(i:Int)s,0<=i->i<l.length->I s->f i s=some (step (AA l i) s)/\∀s',step (AA l i) s=.next s'->I s'):
  ∀(n:Nat)(a:Int)(s:σ),0<=a->a+n=l.length->I s->wo f n a s=some (D3 step (l.drop a.toNat) s)
 |0,a,s,d,o,_=>by
  rw [List.drop_eq_nil_of_le (by omega)];rfl
 |n+1,a,s,d,o,u=>by
  obtain ⟨g,j⟩:=h a s d (by omega) u;have hd:l.drop a.toNat=AA l a::l.drop (a+1).toNat:=by
   grind [List.drop_eq_getElem_cons,AA,List.getElem?_eq_getElem]
  rw [E9,g,hd,D3];cases e:step (AA l a) s with
  |next s'=>
   simp only;exact SW step I h n (a+1) s' (by omega) (by omega) (j s' e)
  |brk s'=>rfl|ret r=>rfl
theorem P0[Inhabited α]{l:List α}(step:α->σ->Bx σ ρ)(I:σ->Prop){s:σ}(d:I s)(h:∀(i:Int)s,0<=i->i<l.length->I s->f i s=some (step (AA l i) s)/\∀s',step (AA l i) s=.next s'->I s'):
  jj f 0 l.length s=some (D3 step l s):=by
 have:=SW step I h l.length 0 s (by omega) (by omega) d;unfold jj;rw[show((l.length:Int)-0).toNat=l.length by omega];exact this
theorem Z7[Inhabited α](step:α->σ->Bx σ ρ)(I:σ->Prop):∀(l:List α)(s s':σ),I s->(∀a∈l,∀s s',I s->step a s=.next s'->I s')->(∀a∈l,∀s s',step a s≠.brk s')->D3 step l s=.inl s'->I s'
 |[],s,s',h,_,_,e=>by cases e;exact h
 |a::r,s,s',h,g,o,e=>by
  rw [D3]at e;split at e
  .rename_i s2 j;exact Z7 step I r s2 s' (g a (by simp) s s2 h j) (fun a d=>g a (by simp[d])) (fun a d=>o a (by simp[d])) e
  .grind
  .cases e
end
def C2(x:hV)(l:Fp):Int:=if x.Var<0 then x.Add else AY (AA l x.Var+x.Add)
variable{x:hV}{l:Fp}
theorem Ss(h:x.Var<l.length):EG x l=some (C2 x l):=by grind[EG,C2,AD]
theorem Xw(h:x.Var<l.length):IQ x l=some (C2 x l):=Ss h
theorem Zj(d:-1<=x.Var)(h:x.Var<l.length)(e:l.length<=1000):Ei x l=some (C2 x l,0):=by grind[Ei,Cf,At,Ss]
theorem Nr(d:-1<=x.Var)(h:x.Var<l.length):Eb x l=some (C2 x l,0):=by grind[Eb,Xw]
def J4(x:Test)(l:Fp):Bool:=(decide (x.kp=1)&&decide (C2 x.gt l<=C2 x.ec l))||(decide (x.kp=2)&&decide (C2 x.gt l=C2 x.ec l))
structure Hv(n:Int)(x:hV):Prop where
 low:-1<=x.Var
 high:x.Var<n
 add:-1000000<=x.Add/\x.Add<=1000000
def Oj(l:Fp):Prop:=∀x∈l,-2000000<=x/\x<=2000000
variable{n:Int}
theorem Rj(h:Hv n x)(d:Oj l)(e:n<=l.length):C2 x l=(if x.Var<0 then x.Add else AA l x.Var+x.Add)/\-3000000<=C2 x l/\C2 x l<=3000000:=by
 unfold C2;have:=h.add;by_cases g:x.Var<0
 .grind
 .have hh:=h.high;have:=d _ (AJ (l:=l) (show 0<=x.Var by omega) (by omega))
  grind [At]
theorem Xv(h:Hv n x)(d:n<=l.length):Jn x l=some (C2 x l,true):=by
 have e:=h.low;have g:=h.high
 grind [Jn,C2,AD]
theorem r_holds{x:Test}(e:Hv n x.gt)(g:Hv n x.ec)(d:n<=l.length):LT x l=some (J4 x l):=by
 unfold LT;rw[Xv e d,Xv g d];rfl
variable{a b:Int}
theorem YC(j:-4000000<=a/\a<=4000000)(o:-4000000<=b/\b<=4000000):GL a b=some (if a+b<0 then(-1,a+b+18446744073709551616)else(0,a+b)):=by
 have d:∀c:Int,IntKind.u64.wrap c=c % 18446744073709551616:=fun c=>by
  simp [IntKind.wrap,IntKind.signed,IntKind.bits]
 have g:∀c:Int,-4000000<=c/\c<=4000000->LP .i64 .shr c 63=some (if c<0 then -1 else 0):=by
  intro c w;unfold LP;have e:c.fdiv (2^ (min (63:Int).toNat (IntKind.bits .i64)))=if c<0 then -1 else 0:=by
   show c.fdiv (2^ 63)=_
   grind
  simp only[e];have:(0:Int)<=63/\IntKind.min .i64<=(if c<0 then -1 else 0)/\(if c<0 then -1 else 0)<=IntKind.max .i64:=by
   split<;>decide
  rw [a6 this]
 unfold GL H7;rw[d,d,a6 (by omega),bs,g a j,g b o,bs,bs];congr 1;have y:∀c:Int,-10<=c->c<=10->AY c=c:=fun c r u=>At (by omega) (by omega)
 grind
def JW(a:Int):Int×Int:=if a<0 then(-1,a+18446744073709551616)else(0,a)
theorem Zl(h:Hv n x)(d:Oj l)(o:n<=l.length):Ek x l=some ((JW (C2 x l)).1,(JW (C2 x l)).2,true):=by
 have r:=h.low;have u:=h.high;have w:=h.add;have g:=(Rj h d o).1;unfold Ek;by_cases j:x.Var=-1
 .have e:C2 x l=x.Add:=by rw[g,a6 (by omega)]
  rw [e,a6 (by simpa using j),YC (by omega) (by omega),bs,Int.zero_add];rfl
 .have:=d _ (AJ (l:=l) (show 0<=x.Var by omega) (by omega));have e:C2 x l=AA l x.Var+x.Add:=by rw[g,ae (by omega)]
  rw [e,ae (by simpa using j),ae (by simp;omega),AD (by omega) (by omega),bs,YC (by omega) (by omega),bs];rfl
theorem ko(a b:Int):cmp_Compare_int a b=some (if a<b then -1 else if b<a then 1 else 0):=by
 unfold cmp_Compare_int cmp_isNaN_int
 grind
theorem sS(a b:Int):Hy a b=some (if a<b then -1 else if b<a then 1 else 0):=ko a b
theorem oQ(a b:Int):Mf [a,b]=some (if a=0 then b else a):=by
 unfold Mf;show ek (wo _ 2 0 ()) _ _=_;rw[E9,show idx [a,b] 0=some a from rfl,bs]
 grind [ek,wo,E9,idx]
theorem p_holds{x:Test}(g:Hv n x.gt)(j:Hv n x.ec)(d:Oj l)(e:n<=l.length):Fg x l=some (J4 x l):=by
 have o:=(Rj g d e).2;have s2:=(Rj j d e).2;unfold Fg J4;rw[Zl g d e,Zl j d e];simp[ko,sS,oQ];generalize C2 x.gt l=a at o;generalize C2 x.ec l=b at s2;have key:(if(if(JW a).1<(JW b).1 then(-1:Int)else if(JW b).1<(JW a).1 then 1 else 0)=0 then(if(JW a).2<(JW b).2 then(-1:Int)else if(JW b).2<(JW a).2 then 1 else 0)else(if(JW a).1<(JW b).1 then(-1:Int)else if(JW b).1<(JW a).1 then 1 else 0))=if a<b then -1 else if b<a then 1 else 0:=by
  grind [JW]
 rw [key];congr 2
 .grind
 grind
end Go.Sf.Sc
namespace Go.Sf.Sc
open Go Go.Sf
structure Ru(t:AC)(q:d6):Prop where
 g:Di q.c9
 kind:∀n∈q.c9.ca,0<=n/\n<t.ca.length
 vars:0<=q.fd/\q.fd<=12
 few:q.ej.length<=10/\q.mo.length<=10
 slot:∀s∈q.ej,(0<=s.r0/\s.r0<q.c9.ca.length)/\(0<=s.kl/\s.kl<(BB t (AA q.c9.ca s.r0)).length)/\Hv q.fd s.hV
 test:∀x∈q.mo,(x.kp=1\/x.kp=2)/\Hv q.fd x.gt/\Hv q.fd x.ec
 ge:B4 q.c9=0
 ty:Cw t q.c9=true
variable{n:Int}{x:hV}
theorem kR(h:NM n x=true):Hv n x:=by
 unfold NM at h;simp[wq]at h;exact⟨h.1.1.1,h.1.1.2,h.1.2,h.2⟩
theorem kS{l:List Test}(h:Jg n l=0):∀x∈l,(x.kp=1\/x.kp=2)/\Hv n x.gt/\Hv n x.ec:=by
 unfold Jg at h;split at h
 .cases h
 split at h
 .cases h
 have g:=SY h;intro x d;obtain⟨i,j,o,rfl⟩:=Be d;have:=g i j o;unfold NN at this;split at this
 .cases this
 split at this
 .rename_i r e;rw[pr]at e
  grind [kR]
 .cases this
theorem eJ(n:Int)(l:List Test):Jg n l≠9:=by
 unfold Jg;split
 .decide
 split
 .decide
 intro h;cases d:fst (fun i=>nz (NN n (AA l i))) 0 l.length with
 |none=>rw[d]at h;cases h
 |some r=>
  grind [Db,nz,NN]
variable{t:AC}{q:d6}
theorem iv(hv:(A8 t).2=0)(h:Hh t q=0\/Hh t q=9):Ru t q:=by
 have y:=Vz q.c9;unfold Hh at h;rw[ae (by simp[hv])]at h;split at h
 .omega
 rename_i o;have g:=DX (Classical.not_not.1 o);split at h
 .omega
 rename_i e;split at h
 .omega
 rename_i A;split at h
 .omega
 rename_i B;split at h
 .omega
 rename_i C;split at h
 .grind[eJ]
 rename_i w;refine⟨g,(Hb g (by simpa using e)).1,by omega,by omega,fun s z=>?_,kS (Classical.not_not.1 w),Classical.not_not.1 o,by simpa using e⟩;have j:Q7 t q s=false:=by
  grind
 unfold Q7 at j;simp[Bool.not_eq_false',decide_eq_false_iff_not]at j;obtain⟨⟨⟨d,E⟩,F⟩,G,H⟩:=j;unfold Q4 at d;dsimp only at d;split at d
 .cases d
 rename_i D;have u:=(Hb g (by simpa using e)).1 _ (AJ (l:=q.c9.ca) (show 0<=s.r0 by omega) (by omega));rw[I1 hv u.1 u.2]at d;split at d
 .cases d
 rename_i r;have r:¬(s.kl<0\/((BB t (AA q.c9.ca s.r0)).length:Int)<=s.kl):=r;exact⟨by omega,by omega,by omega,by omega,by omega,by omega⟩
def L8(h:AH)(m:d3)(s:Cx):Int:=AA (AA h.eo (AA m.ca s.r0)) s.kl
def OL(h:AH)(m:d3)(s:Cx)(st:Fp×a5):Fp×a5:=
 if 0<=s.hV.Var/\AA st.2 s.hV.Var=false then(BF st.1 s.hV.Var (AY (L8 h m s-s.hV.Add)),BF st.2 s.hV.Var true)else st
def Ec{ρ:Type}(r:ρ)(h:AH)(m:d3)(s:Cx)(st:Fp×a5):Bx (Fp×a5) ρ:=
 if C2 s.hV (OL h m s st).1=L8 h m s then .next (OL h m s st)else .ret r
structure VI(n:Int)(st:Fp×a5):Prop where
 l1:(st.1.length:Int)=n
 l2:(st.2.length:Int)=n
 small:Oj st.1
structure Ic(n:Int)(h:AH)(m:d3)(s:Cx):Prop where
 node:0<=s.r0/\s.r0<m.ca.length
 val:0<=AA m.ca s.r0/\AA m.ca s.r0<h.eo.length
 yJ:0<=s.kl/\s.kl<(AA h.eo (AA m.ca s.r0)).length
 term:Hv n s.hV
 has:-1000000<=L8 h m s/\L8 h m s<=1000000
variable{h:AH}{m:d3}{s:Cx}
theorem PQ(g:FL t)(j:Ru t q)(hh:JY t h)(e:XC t q.c9 h.c9 m)(o:s∈q.ej):Ic q.fd h m s:=by
 obtain ⟨u,w,y⟩:=j.slot s o;have z:=e.w9;have d:=e.node s.r0 u.1 (by omega);have A:=hh.row _ d.1.1 d.1.2;have r:=hh.kind _ d.1.1 d.1.2;have B:=Xk g r.2 d.2;have hv:=hh.len;refine⟨by omega,by omega,by omega,y,?_⟩;unfold L8;exact hh.low _ d.1.1 d.1.2 _ (AJ w.1 (by omega))
theorem Ri{α:Type}(l:List α)(i:Int)(a:α):(BF l i a).length=l.length:=by unfold BF;rw[List.length_set]
variable{i:Int}
theorem je{α:Type}{l:List α}{a x:α}(h:x∈BF l i a):x∈l\/x=a:=List.mem_or_eq_of_mem_set h
variable{st:Fp×a5}
theorem gF(e:Ic n h m s)(hi:VI n st):VI n (OL h m s st):=by
 have g:=e.has;have j:=e.term.add;unfold OL;split
 .refine⟨by rw[Ri];exact hi.l1,by rw[Ri];exact hi.l2,fun x d=>?_⟩;rcases je d with d|rfl
  .exact hi.small x d
  grind [At]
 .exact hi
def NI(q:d6)(h:AH)(m:d3):Fp×Int:=
 match D3 (Ec (([],11):Fp×Int) h m) q.ej (List.replicate q.fd.toNat 0,List.replicate q.fd.toNat false)with
 |.inr r=>r|.inl st=>if kx (fun i=>!J4 (AA q.mo i) st.1) 0 q.mo.length=true then([],16)else(st.1,0)
theorem Qv(d:0<=n):VI n (List.replicate n.toNat 0,List.replicate n.toNat false):=by
 refine ⟨by simp;omega,by simp;omega,fun x e=>?_⟩
 grind
variable{st':Fp×a5}
theorem Oi{ρ:Type}{r:ρ}(d:Ic n h m s)(hi:VI n st)(e:Ec r h m s st=.next st'):VI n st':=by grind[Ec,gF]
theorem gG{ρ:Type}{r:ρ}:Ec r h m s st≠.brk st':=by grind[Ec]
theorem Nu{ρ:Type}{r:ρ}{l:List Cx}(d:∀s∈l,Ic n h m s)(hi:VI n st)(e:D3 (Ec r h m) l st=.inl st'):VI n st':=
 Z7 (Ec r h m) (VI n) l st st' hi (fun a g _ _ j o=>Oi (d a g) j o) (fun _ _ _ _=>gG) e
theorem PB{ρ:Type}{r:ρ}(w:Ic n h m s)(hi:VI n st){T:Fp×a5->Option (Bx (Fp×a5) ρ)}
  (j:∀st':Fp×a5,(st'.1.length:Int)=n->T st'=some (if C2 s.hV st'.1=L8 h m s then .next st' else .ret r)):
  ((if(decide (0<=s.hV.Var))=true then((idx st.2 s.hV.Var).bind fun o=>some (!o))else some false).bind fun u=>
   if u=true then(idx st.1 s.hV.Var).bind fun _=>(idx st.2 s.hV.Var).bind fun _=>T (BF st.1 s.hV.Var (AY (L8 h m s-s.hV.Add)),BF st.2 s.hV.Var true)else T (st.1,st.2))=some (Ec r h m s st):=by
 have y:=w.term.high;have l1:=hi.l1;have l2:=hi.l2;unfold Ec;by_cases d:0<=s.hV.Var
 .rw[a6 (by simpa using d),AD d (by omega),bs,bs];by_cases g:AA st.2 s.hV.Var=false
  .rw[a6 (by simp[g]),AD d (by omega),bs,bs,j _ (by dsimp only;rw[Ri];exact l1)];have e:OL h m s st=(BF st.1 s.hV.Var (AY (L8 h m s-s.hV.Add)),BF st.2 s.hV.Var true):=by unfold OL;rw[a6 ⟨d,g⟩]
   rw [e]
  .rw[ae (by simpa using g),j _ l1];have e:OL h m s st=st:=by unfold OL;rw[ae (fun e=>g e.2)]
   rw [e]
 .rw[ae (by simpa using d),bs,ae (by decide),j _ l1];have e:OL h m s st=st:=by unfold OL;rw[ae (fun e=>d e.1)]
  rw [e]
theorem av{ρ:Type}{r:ρ}(j:Ic n h m s)(hi:VI n st){T:Fp×a5->Option (Bx (Fp×a5) ρ)}
  (o:∀st':Fp×a5,(st'.1.length:Int)=n->T st'=some (if C2 s.hV st'.1=L8 h m s then .next st' else .ret r)):
  ((if(decide (0<=s.hV.Var))=true then((idx st.2 s.hV.Var).bind fun d=>some (!d))else some false).bind fun e=>
   if e=true then(idx st.2 s.hV.Var).bind fun _=>(idx st.1 s.hV.Var).bind fun _=>T (BF st.1 s.hV.Var (AY (L8 h m s-s.hV.Add)),BF st.2 s.hV.Var true)else T (st.1,st.2))=some (Ec r h m s st):=by
 rw [<-PB j hi o];have u:=j.term.high;have l1:=hi.l1;have l2:=hi.l2;by_cases g:0<=s.hV.Var
 .rw[AD g (by omega),AD g (by omega)];rfl
 .rw[ae (by simpa using g)];rfl
variable{v:Int}
theorem X6{t:hV}{f:hV->Fp->QQ}(hf:∀l:Fp,(l.length:Int)=n->f t l=some (C2 t l))(st':Fp×a5)(e:(st'.1.length:Int)=n):((f t st'.1).bind fun d=>if(!decide (d=v))=true then some (Bx.ret (([],11):Fp×Int))else some (.next st'))=some (if C2 t st'.1=v then .next st' else .ret ([],11)):=by grind
theorem mY(u:Ru t q)(w:∀s∈q.ej,Ic q.fd h m s):Hw q h m=some (NI q h m):=by
 have hv:=u.vars;unfold Hw NI GO;rw[a6 (by omega),bs,a6 (by omega),bs];rw[P0 (Ec (([],11):Fp×Int) h m) (VI q.fd) (Qv hv.1)]
 .cases z:D3 (Ec (([],11):Fp×Int) h m) q.ej (List.replicate q.fd.toNat 0,List.replicate q.fd.toNat false)with
  |inr r=>rfl|inl st=>
   have hi:=Nu w (Qv hv.1) z;rw[CX,BJ (fun i=>!J4 (AA q.mo i) st.1) ([],16)]
   .dsimp only;cases kx (fun i=>!J4 (AA q.mo i) st.1) 0 q.mo.length<;>rfl
   .intro i g j _;have y:=u.test _ (AJ g j);rw[AD g j,bs,p_holds y.2.1 y.2.2 hi.small (by have:=hi.l1;omega),bs]
    grind
 .intro i st g j hi;have d:=w _ (AJ g j);refine⟨?_,fun s' e=>Oi d hi e⟩;rw[AD g j,bs,AD d.node.1 d.node.2,bs,AD d.val.1 d.val.2,bs,AD d.yJ.1 d.yJ.2,bs];exact PB d hi (T:=fun st'=>(EG (AA q.ej i).hV st'.1).bind fun o=>if(!decide (o=L8 h m (AA q.ej i)))=true then some (Bx.ret (([],11):Fp×Int))else some (.next st')) (X6 fun l A=>Ss (by have:=d.term.high;omega))
theorem my(u:Ru t q)(w:∀s∈q.ej,Ic q.fd h m s):KX q h m=some (NI q h m):=by
 have hv:=u.vars;unfold KX NI GO;rw[a6 (by omega),bs,a6 (by omega),bs];rw[P0 (Ec (([],11):Fp×Int) h m) (VI q.fd) (Qv hv.1)]
 .cases z:D3 (Ec (([],11):Fp×Int) h m) q.ej (List.replicate q.fd.toNat 0,List.replicate q.fd.toNat false)with
  |inr r=>rfl|inl st=>
   have hi:=Nu w (Qv hv.1) z;rw[CX,BJ (fun i=>!J4 (AA q.mo i) st.1) ([],16)]
   .dsimp only;cases kx (fun i=>!J4 (AA q.mo i) st.1) 0 q.mo.length<;>rfl
   .intro i g j _;have y:=u.test _ (AJ g j);rw[AD g j,bs,r_holds y.2.1 y.2.2 (by have:=hi.l1;omega),bs]
    grind
 .intro i st g j hi;have d:=w _ (AJ g j);refine⟨?_,fun s' e=>Oi d hi e⟩;rw[AD g j,bs,AD d.node.1 d.node.2,bs,AD d.val.1 d.val.2,bs,AD d.yJ.1 d.yJ.2,bs];exact av d hi (T:=fun st'=>(IQ (AA q.ej i).hV st'.1).bind fun o=>if(!decide (o=L8 h m (AA q.ej i)))=true then some (Bx.ret (([],11):Fp×Int))else some (.next st')) (X6 fun l A=>Xw (by have:=d.term.high;omega))
def QE(t:AC)(p:d6)(h:AH):Int:=if Hh t p≠0 then Hh t p else(He t h).2
theorem fT(hf:Aw t)(p:d6)(h:AH):E4 t p h=some (QE t p h):=by
 unfold E4 QE;rw[WJ hf,bs];refine DQ fun _=>?_;rw[WI hf];rfl
theorem fi(hf:Aw t)(p:d6)(h:AH):LZ t p h=some (QE t p h):=by
 unfold LZ QE;rw[Yf hf,bs];refine DQ fun _=>?_;rw[WS hf];rfl
def FV(t:AC)(p:d6)(h:AH)(m:d3):Fp×Int:=
 if QE t p h≠0 then([],QE t p h)else if GV t p.c9 h.c9 m false≠0 then([],GV t p.c9 h.c9 m false)else NI p h m
variable{p:d6}{inj:Bool}
theorem Uv(hf:Aw t)(d:QE t p h=0)(e:GV t p.c9 h.c9 m inj=0):(A8 t).2=0/\Ru t p/\JY t h/\XC t p.c9 h.c9 m:=by
 unfold QE at d;split at d
 .grind
 rename_i g;obtain⟨hv,hh⟩:=UE hf d;exact⟨hv,iv hv (.inl (Classical.not_not.1 g)),hh,(Yz e).2⟩
theorem bj(hf:Aw t)(p:d6)(h:AH)(m:d3):EF t p h m=some (FV t p h m):=by
 unfold EF FV;rw[fT hf,bs];refine D1 fun e=>?_;rw[Wy hf,bs];refine D1 fun g=>?_;obtain⟨hv,d,hh,o⟩:=Uv hf e g;rw[mY d (fun s j=>PQ (Cs hv) d hh o j)];rfl
theorem md(hf:Aw t)(p:d6)(h:AH)(m:d3):LY t p h m=some (FV t p h m):=by
 unfold LY FV;rw[fi hf,bs];refine D1 fun e=>?_;rw[W6 hf,bs];refine D1 fun g=>?_;obtain⟨hv,d,hh,o⟩:=Uv hf e g;rw[my d (fun s j=>PQ (Cs hv) d hh o j)];rfl
theorem gH(g:Ru t q)(j:∀s∈q.ej,Ic q.fd h m s)(e:(NI q h m).2=0):((NI q h m).1.length:Int)=q.fd/\Oj (NI q h m).1:=by
 unfold NI at e|-;cases d:D3 (Ec (([],11):Fp×Int) h m) q.ej (List.replicate q.fd.toNat 0,List.replicate q.fd.toNat false)with
 |inr r=>
  rw [d]at e;have:∀(l:List Cx)(st:Fp×a5)(r:Fp×Int),D3 (Ec (([],11):Fp×Int) h m) l st=.inr r->r=([],11):=by
   intro l
   induction l with
   |nil=>intro st r h;cases h
   |cons a l u=>
    grind [D3,Ec]
  grind
 |inl st=>
  rw [d]at e;have hi:=Nu j (Qv g.vars.1) d;dsimp only at e|-;split at e
  .cases e
  .rename_i o;rw[ae o];exact⟨hi.l1,hi.small⟩
end Go.Sf.Sc
namespace Go.Sf.Sc
open Go Go.Sf
variable{i:Int}
theorem I3{n:Nat}{α:Type}[Inhabited α](F:Int->α)(d:0<=i)(v:α):BF ((A3 n).map F) i v=(A3 n).map fun j=>if j=i then v else F j:=by
 unfold BF;refine List.ext_getElem (by simp) (fun k e g=>?_)
 grind [BN,A3]
theorem C7{n:Nat}{α:Type}{F G:Int->α}(h:∀j,0<=j->j<(n:Int)->F j=G j):(A3 n).map F=(A3 n).map G:=by grind[List.map_congr_left,Eh]
def Gc(n:Nat)(k:Int):a5:=(A3 n).map fun j=>decide (j<k)
theorem V6(n:Nat):Gc n 0=List.replicate n false:=by
 unfold Gc;refine List.ext_getElem (by simp[BN]) (fun k d e=>?_)
 grind [A3,BN]
theorem Xl(n:Nat)(k:Int):(Gc n k).length=n:=by unfold Gc;rw[c7,BN]
def L4(q:d6)(h:AH)(m:d3)(given:Fp):Fp×Bool:=
 match D3 (Ec (([],false):Fp×Bool) h m) q.ej (given++List.replicate (q.fd-given.length).toNat 0,Gc q.fd.toNat given.length)with
 |.inr r=>r|.inl st=>if kx (fun i=>!J4 (AA q.mo i) st.1) 0 q.mo.length=true then([],false)else(st.1,true)
variable{n:Int}{given:Fp}
theorem VW(e:0<=n)(g:given.length<=n)(hv:Oj given):VI n (given++List.replicate (n-given.length).toNat 0,Gc n.toNat given.length):=by
 refine ⟨by simp;omega,by show((Gc n.toNat given.length).length:Int)=n;rw[Xl];omega,fun x d=>?_⟩;rcases List.mem_append.1 d with d|d
 .exact hv x d
 grind
variable{q:d6}{m:d3}{t:AC}
theorem pS{s:BU}(w:Ru t q)(y:∀x∈q.ej,Ic q.fd s.h m x)(B:given.length<=q.fd)(hv:Oj given):Dn s q m given=some (L4 q s.h m given):=by
 have D:=w.vars;unfold Dn L4 slices_Clone_int;rw[Bs (by unfold Aj;omega),bs,At (by omega) (by omega)];have E:Yr given (q.fd-given.length) 0=some (given++List.replicate (q.fd-given.length).toNat 0):=by
  grind [Yr,Aj]
 have F:GO q.fd false=some (List.replicate q.fd.toNat false):=by
  grind [GO]
 rw [E,bs,F,bs];have G:o4 (fun(d:Int)(z:a5)=>(idx z d).bind fun C=>some (BF z d true)) 0 (given.length:Int) (List.replicate q.fd.toNat false)=some (Gc q.fd.toNat given.length):=by
  refine B0 (fun i=>Gc q.fd.toNat i) (by omega) (V6 _) (fun i d j=>?_);rw[AD d (by rw[Xl];omega),bs];congr 1;unfold Gc;rw[I3 _ d]
  grind
 rw [G,bs];have u:=VW D.1 B hv;rw[P0 (Ec (([],false):Fp×Bool) s.h m) (VI q.fd) u]
 .cases H:D3 (Ec (([],false):Fp×Bool) s.h m) q.ej (given++List.replicate (q.fd-given.length).toNat 0,Gc q.fd.toNat given.length)with
  |inr r=>rfl|inl st=>
   have hi:=Nu y u H;rw[CX,BJ (fun i=>!J4 (AA q.mo i) st.1) ([],false)]
   .dsimp only;cases kx (fun i=>!J4 (AA q.mo i) st.1) 0 q.mo.length<;>rfl
   .intro i d j _;have A:=w.test _ (AJ d j);rw[AD d j,bs,p_holds A.2.1 A.2.2 hi.small (by have:=hi.l1;omega),bs]
    grind
 .intro i st d j hi;have g:=y _ (AJ d j);refine⟨?_,fun s' e=>Oi g hi e⟩;rw[AD d j,bs,AD g.node.1 g.node.2,bs,AD g.val.1 g.val.2,bs,AD g.yJ.1 g.yJ.2,bs];refine PB g hi (T:=fun st'=>(Ei (AA q.ej i).hV st'.1).bind fun o=>if((!decide (o.2=0))||(!decide (o.1=L8 s.h m (AA q.ej i))))=true then some (Bx.ret (([],false):Fp×Bool))else some (.next st')) (fun st' I=>?_);rw[Zj g.term.low (by have:=g.term.high;omega) (by omega),bs]
  grind
variable{h:AH}
theorem p7(C:Ru t q)(D:∀x∈q.ej,Ic q.fd h m x)(I:given.length<=q.fd)(hv:Oj given):KZ q h m given=some (L4 q h m given):=by
 have G:=C.vars;unfold KZ L4;have L:GO q.fd false=some (List.replicate q.fd.toNat false):=by
  unfold GO;rw[a6 (by omega)]
 rw [Bs (by unfold Aj;omega),bs,L,bs];have H:o4 (fun(d:Int)(u:Fp×a5)=>
   (idx u.2 d).bind fun J=>
   if (decide ((given.length:Int)<=d))=true then
   (Ai u.1 [0]).bind fun A=>
   some (A,BF u.2 d (decide (d<(given.length:Int))))
   else
   some (u.1,BF u.2 d (decide (d<(given.length:Int))))) 0 q.fd (given,List.replicate q.fd.toNat false)=some (given++List.replicate (q.fd-given.length).toNat 0,(A3 q.fd.toNat).map fun j=>decide (j<q.fd)&&decide (j<(given.length:Int))):=by
  refine B0 (fun i=>(given++List.replicate (i-given.length).toNat 0,(A3 q.fd.toNat).map fun j=>decide (j<i)&&decide (j<(given.length:Int)))) G.1 ?_ (fun i d o=>?_)
  .have M:((0:Int)-given.length).toNat=0:=by omega
   rw [M];simp;rw[<-V6];unfold Gc;refine C7 (fun j E F=>?_);rw[show decide (j<0)=false by simp;omega];rfl
  .dsimp only;rw[AD d (by rw[c7,BN];omega),bs];have N:BF ((A3 q.fd.toNat).map fun j=>decide (j<i)&&decide (j<(given.length:Int))) i (decide (i<(given.length:Int)))=(A3 q.fd.toNat).map fun j=>decide (j<i+1)&&decide (j<(given.length:Int)):=by
    rw [I3 _ d];refine C7 (fun j E F=>?_);by_cases e:j=i
    .rw[a6 e,e,show decide (i<i+1)=true by simp;omega,Bool.true_and]
    .rw[ae e];congr 1;rw[decide_eq_decide];omega
   rw [N];by_cases hi:(given.length:Int)<=i
   .rw[a6 (by simpa using hi),Aq (by simp;unfold Aj;omega),bs];congr 2;rw[c8,show(i+1-given.length).toNat=(i-given.length).toNat+1 by omega,List.replicate_succ']
   .rw[ae (by simpa using hi)];have O:(i+1-given.length).toNat=(i-given.length).toNat:=by omega
    rw [O]
 have B:((A3 q.fd.toNat).map fun j=>decide (j<q.fd)&&decide (j<(given.length:Int)))=Gc q.fd.toNat given.length:=by
  unfold Gc;refine C7 (fun j E F=>?_);rw[show decide (j<q.fd)=true by simp;omega,Bool.true_and]
 rw [B]at H;rw[H,bs];have y:=VW G.1 I hv;dsimp only;rw[P0 (Ec (([],false):Fp×Bool) h m) (VI q.fd) y]
 .cases P:D3 (Ec (([],false):Fp×Bool) h m) q.ej (given++List.replicate (q.fd-given.length).toNat 0,Gc q.fd.toNat given.length)with
  |inr r=>rfl|inl st=>
   have hi:=Nu D y P;rw[CX,BJ (fun i=>!J4 (AA q.mo i) st.1) ([],false)]
   .dsimp only;cases kx (fun i=>!J4 (AA q.mo i) st.1) 0 q.mo.length<;>rfl
   .intro i d o _;have z:=C.test _ (AJ d o);have K:=hi.l1;rw[AD d o,bs,Nr z.2.1.low (by have:=z.2.1.high;omega),bs,Nr z.2.2.low (by have:=z.2.2.high;omega),bs,<-Hf];unfold J4;dsimp only;congr 1;generalize C2 (AA q.mo i).gt st.1=a;generalize C2 (AA q.mo i).ec st.1=b;rcases z.1 with e|e
    .rw[e,eq_iff_iff];simp
    .rw[e,eq_iff_iff];simp
 .intro i st d o hi;have g:=D _ (AJ d o);refine⟨?_,fun s' e=>Oi g hi e⟩;rw[AD d o,bs,AD g.node.1 g.node.2,bs,AD g.val.1 g.val.2,bs,AD g.yJ.1 g.yJ.2,bs];refine PB g hi (T:=fun st'=>(Eb (AA q.ej i).hV st'.1).bind fun w=>if(!decide (w.1=L8 h m (AA q.ej i)))=true then some (Bx.ret (([],false):Fp×Bool))else some (.next st')) (fun st' K=>?_);rw[Nr g.term.low (by have:=g.term.high;omega),bs];by_cases e:C2 (AA q.ej i).hV st'.1=L8 h m (AA q.ej i)
  .rw[ae (by simp[e]),a6 e]
  .rw[a6 (by simp[e]),ae e]
theorem kW(j:Ru t q)(o:∀s∈q.ej,Ic q.fd h m s)(u:given.length<=q.fd)(hv:Oj given)(e:(L4 q h m given).2=true):((L4 q h m given).1.length:Int)=q.fd/\Oj (L4 q h m given).1:=by
 unfold L4 at e|-;have d:=VW j.vars.1 u hv;cases g:D3 (Ec (([],false):Fp×Bool) h m) q.ej (given++List.replicate (q.fd-given.length).toNat 0,Gc q.fd.toNat given.length)with
 |inr r=>
  rw [g]at e;have:∀(l:List Cx)(st:Fp×a5)(r:Fp×Bool),D3 (Ec (([],false):Fp×Bool) h m) l st=.inr r->r=([],false):=by
   intro l
   induction l with
   |nil=>intro st r h;cases h
   |cons a l y=>
    grind [D3,Ec]
  grind
 |inl st=>
  rw [g]at e;have hi:=Nu o d g;dsimp only at e|-;split at e
  .cases e
  .rename_i w;rw[ae w];exact⟨hi.l1,hi.small⟩
def St(n:Nat)(by' images:Fp):Fp:=(A3 by'.length).foldl (fun l i=>BF l (AA by' i) (AA images i)) (List.replicate n (-1))
theorem XX(d images:Fp):∀(e:Fp)(l:Fp),(e.foldl (fun l i=>BF l (AA d i) (AA images i)) l).length=l.length
 |[],l=>rfl|k::e,l=>by rw[List.foldl_cons,XX d images e,Ri]
theorem WN{n:Nat}{d images:Fp}(y:∀x∈d,0<=x/\x<n)(z:d.length<=images.length):o4 (fun(g:Int)(o:Fp)=>
  (idx d g).bind fun e=>
  (idx images g).bind fun j=>
  (idx o e).bind fun r=>
  some (BF o e j)) 0 (d.length:Int) (List.replicate n (-1))=some (St n d images):=by
 have h:=B0 (f:=fun(g:Int)(o:Fp)=>
  (idx d g).bind fun e=>
  (idx images g).bind fun j=>
  (idx o e).bind fun r=>
  some (BF o e j)) (fun i=>(A3 i.toNat).foldl (fun l i=>BF l (AA d i) (AA images i)) (List.replicate n (-1))) (a:=0) (b:=d.length) (s:=List.replicate n (-1)) (by omega) rfl (fun i g u=>by
   have w:=y _ (AJ g u);rw[AD g u,bs,AD g (by omega),bs,AD w.1 (by rw[XX];simpa using w.2),bs,F2 g,List.foldl_append];rfl)
 rw [h,Int.toNat_natCast];rfl
theorem Zo{n:Nat}{d images:Fp}(j:n<=1000)(e:∀x∈d,0<=x/\x<n)(g:d.length<=images.length):Ff n d images=some (St n d images):=by
 unfold Ff ED;rw[a6 ⟨rfl,by omega,by omega⟩,bs];show(o4 _ 0 _ (List.replicate (n:Int).toNat (-1))).bind _=_;rw[Int.toNat_natCast,WN e g];rfl
theorem Zu{n:Nat}{d images:Fp}(j:n<=1000)(e:∀x∈d,0<=x/\x<n)(g:d.length<=images.length):Iu n d images=some (St n d images):=by
 unfold Iu;rw[B0 (a:=0) (b:=n) (s:=[]) (fun i=>List.replicate i.toNat (-1)) (by omega) rfl,bs,Int.toNat_natCast,WN e g]
 .rfl
 .intro i o r;rw[Aq (by simp;unfold Aj;omega),bs,show(i+1).toNat=i.toNat+1 by omega,List.replicate_succ']
end Go.Sf.Sc
namespace Go.Sf.Sc
open Go Go.Sf
structure kc(f:AL):Prop where
 nl:f.d7.length<=f.p.ca.length
 node:∀i:Int,0<=i->i<f.d7.length->(0<=AA f.d7 i/\AA f.d7 i<f.g.ca.length)/\AA (AA f.is (AA f.p.ca i)) (AA f.g.ca (AA f.d7 i))=true
 edge:∀i:Int,0<=i->i<f.ei.length->(0<=AA f.ei i/\AA f.ei i<f.g.ci.length)/\AA f.g.ci (AA f.ei i)=⟨(AA f.p.ci i).j4,AA f.d7 (AA f.p.ci i).kg,AA f.d7 (AA f.p.ci i).To⟩
 inj:f.em=true->f.d7.Nodup/\f.ei.Nodup
structure cZ(f:AL)(m:d3):Prop where
 nl:m.ca.length=f.p.ca.length
 el:m.ci.length=f.p.ci.length
 node:∀i:Int,0<=i->i<m.ca.length->(0<=AA m.ca i/\AA m.ca i<f.g.ca.length)/\AA (AA f.is (AA f.p.ca i)) (AA f.g.ca (AA m.ca i))=true
 edge:∀i:Int,0<=i->i<m.ci.length->(0<=AA m.ci i/\AA m.ci i<f.g.ci.length)/\AA f.g.ci (AA m.ci i)=⟨(AA f.p.ci i).j4,AA m.ca (AA f.p.ci i).kg,AA m.ca (AA f.p.ci i).To⟩
 inj:f.em=true->m.ca.Nodup/\m.ci.Nodup
variable{i:Int}
theorem Wh{α:Type}[Inhabited α](l:List α)(x:α)(h:i=l.length):AA (l++[x]) i=x:=by grind[Pv]
variable{l:Fp}{k:Int}
theorem WB{b:Bool}(h:(!(b&&l.any fun x=>decide (k=x)))=true)(d:b=true)(e:l.Nodup):(l++[k]).Nodup:=by grind
theorem XD:∀(n:Nat)(f:AL),kc f->f.d7.length=f.p.ca.length->f.ei.length+n=f.p.ci.length->∀m∈EM n f,cZ f m
 |0,f,j,z,he,m,d=>by
  rw [EM,List.mem_singleton]at d;subst d;exact⟨z,by simpa using he,j.node,j.edge,j.inj⟩
 |n+1,f,j,z,he,m,d=>by
  rw [EM,List.mem_flatMap]at d;obtain⟨k,w,d⟩:=d;have w:=Eh.1 w;split at d
  .rename_i o;unfold Rz at o;rw[pr]at o;obtain⟨r,y⟩:=o;rw[VS,pr,wq]at r;have:=XD n {f with ei:=f.ei++[k]} ⟨j.nl,j.node,fun i A u=>by
    have u:i<((f.ei++[k]).length:Int):=u;simp at u;show(0<=AA (f.ei++[k]) i/\AA (f.ei++[k]) i<f.g.ci.length)/\AA f.g.ci (AA (f.ei++[k]) i)=⟨(AA f.p.ci i).j4,AA f.d7 (AA f.p.ci i).kg,AA f.d7 (AA f.p.ci i).To⟩;by_cases e:i=f.ei.length
    .rw[Wh _ _ e];exact⟨w,by rw[e];exact r.2⟩
    .rw[Vh _ _ A (by omega)];exact j.edge i A (by omega),fun hi=>⟨(j.inj hi).1,WB y hi (j.inj hi).2⟩⟩ z (by show(f.ei++[k]).length+n=f.p.ci.length;rw[bk,List.length_singleton];omega) m d
   exact ⟨this.nl,this.el,this.node,this.edge,this.inj⟩
  .cases d
theorem XE:∀(n:Nat)(f:AL),kc f->f.ei=[]->f.d7.length+n=f.p.ca.length->∀m∈GT n f,cZ f m
 |0,f,r,he,A,m,o=>by
  grind [GT,XD]
 |n+1,f,r,he,A,m,o=>by
  rw [GT,List.mem_flatMap]at o;obtain⟨k,w,o⟩:=o;have w:=Eh.1 w;split at o
  .rename_i j;unfold R0 at j;rw[pr,pr]at j;obtain⟨⟨_,y⟩,z⟩:=j;have:=XE n {f with d7:=f.d7++[k]} ⟨by show(f.d7++[k]).length<=f.p.ca.length;rw[bk,List.length_singleton];omega,fun i u d=>by
    have d:i<((f.d7++[k]).length:Int):=d;simp at d;show(0<=AA (f.d7++[k]) i/\AA (f.d7++[k]) i<f.g.ca.length)/\AA (AA f.is (AA f.p.ca i)) (AA f.g.ca (AA (f.d7++[k]) i))=true;by_cases e:i=f.d7.length
    .rw[Wh _ _ e];exact⟨w,by rw[e];exact y⟩
    .rw[Vh _ _ u (by omega)];exact r.node i u (by omega),fun i u d=>by
    have d:i<(f.ei.length:Int):=d;rw[he]at d;have:i<(0:Nat):=d;omega,fun hi=>⟨WB z hi (r.inj hi).1,(r.inj hi).2⟩⟩ he (by show(f.d7++[k]).length+n=f.p.ca.length;rw[bk,List.length_singleton];omega) m o
   exact ⟨this.nl,this.el,this.node,this.edge,this.inj⟩
  .cases o
variable{t:AC}{pa:d3}{inj:Bool}{m:d3}
theorem cy{p g:c9}(e:m∈OT t p g pa inj):cZ (FF t p g pa inj) m:=
 XE _ (FF t p g pa inj) ⟨Nat.zero_le _,fun i j d=>by have d:i<(0:Nat):=d;omega,fun i j d=>by have d:i<(0:Nat):=d;omega,fun _=>⟨List.nodup_nil,List.nodup_nil⟩⟩ rfl (by show 0+p.ca.length=p.ca.length;omega) m (List.mem_of_mem_take e)
theorem iL{p g:c9}(h:F9 t p g=0)(u:m∈OT t p g pa inj):XC t p g m:=by
 obtain ⟨hv,A,B,tp,w⟩:=Nh h;have:=cy u;refine⟨this.nl,this.el,fun i d e=>?_,fun i d e=>(this.edge i d e).1⟩;obtain⟨j,r⟩:=this.node i d e;refine⟨j,?_⟩;have o:=this.nl;have y:=tp _ (AJ (l:=p.ca) d (by show i<(p.ca.length:Int);have o:m.ca.length=p.ca.length:=o;omega));have z:=w _ (AJ (l:=g.ca) j.1 j.2);have r:AA (AA (JP t) (AA p.ca i)) (AA g.ca (AA m.ca i))=true:=r
 grind [AA,JP,NC,I0,xe]
theorem ZB{p g:c9}(h:(RE t p g pa inj).2=0):(RE t p g pa inj).1.length<=5000/\∀m∈(RE t p g pa inj).1,XC t p g m:=by grind[RE,iL]
structure VY(t:AC)(p:d6)(h:AH)(x:AU):Prop where
 q:Ru t p
 m:XC t p.c9 h.c9 x.d3
 len:(x.fd.length:Int)=p.fd
 small:Oj x.fd
structure eU(t:AC)(p:d6)(c:d5):Prop where
 q:Ru t c.d6
 vars:p.fd<=c.d6.fd
 map:YQ p.c9 c.d6.c9 c.Map
 inj:Hg c.Map=true
def Dh(t:AC)(c:d5)(h:AH)(m:AU)(inj:Bool):List AU×Int:=
 let x:=RE t c.d6.c9 h.c9 ⟨St c.d6.c9.ca.length c.Map.ca m.d3.ca,St c.d6.c9.ci.length c.Map.ci m.d3.ci⟩ inj
 if x.2≠0 then([],x.2)else((x.1.filter fun y=>(L4 c.d6 h y m.fd).2).map fun y=>⟨y,(L4 c.d6 h y m.fd).1⟩,0)
instance:Inhabited d3:=⟨⟨[],[]⟩⟩
instance:Inhabited AU:=⟨⟨default,[]⟩⟩
instance:Inhabited A6:=⟨⟨0,default,[]⟩⟩
theorem Uh{x:List d3}{F:d3->Fp×Bool}{f:Int->List AU->Option (List AU)}(o:x.length<=5000)
  (hf:∀(i:Int)(s:List AU),0<=i->i<x.length->s.length<=5000->f i s=some (if(F (AA x i)).2=true then s++[⟨AA x i,(F (AA x i)).1⟩]else s)):
  o4 f 0 (x.length:Int) []=some ((x.filter fun y=>(F y).2).map fun y=>⟨y,(F y).1⟩):=by
 rw [B0 (a:=0) (b:=x.length) (s:=[]) (fun i=>((x.take i.toNat).filter fun y=>(F y).2).map fun y=>(⟨y,(F y).1⟩:AU)) (by omega) rfl,Int.toNat_natCast,List.take_length];intro i d e;have g:(((x.take i.toNat).filter fun y=>(F y).2).map fun y=>(⟨y,(F y).1⟩:AU)).length<=5000:=by
  grind
 rw [hf i _ d e g,DF d e,List.filter_append,List.map_append];cases j:(F (AA x i)).2<;>simp[j]
variable{p:d6}{c:d5}
theorem pB{s:BU}{m:AU}(hf:Aw s.t)(hv:(A8 s.t).2=0)(hh:JY s.t s.h)(o:VY s.t p s.h m)(hi:eU s.t p c):CF s c m=some (Dh s.t c s.h m s.em):=by
 have C:=hi.q.g.d7;have ge:=hi.q.g.ei;have m1:=hi.map.w9;have D:=hi.map.xr;have E:=o.m.w9;have G:=o.m.xr;unfold CF Dh;rw[Zo (by omega) (fun x j=>by obtain⟨i,d,e,rfl⟩:=Be j;exact(hi.map.node i d e).1) (by omega),bs,
  Zo (by omega) (fun x j=>by obtain⟨i,d,e,rfl⟩:=Be j;exact(hi.map.edge i d e).1) (by omega),bs,il hf,bs]
 dsimp only;refine D1 fun r=>?_;obtain⟨z,A⟩:=ZB r;rw[Uh (F:=fun y=>L4 c.d6 s.h y m.fd) z]
 .rfl
 .intro i st d e B;have u:=A _ (AJ d e);have w:(m.fd.length:Int)<=c.d6.fd:=by have:=o.len;have:=hi.vars;omega
  rw [AD d e,bs,pS hi.q (fun x j=>PQ (Cs hv) hi.q hh u j) w o.small,bs,<-Hf]
  grind [Aq,Aj]
variable{h:AH}
theorem pf{m:AU}(hf:Aw t)(hv:(A8 t).2=0)(hh:JY t h)(o:VY t p h m)(hi:eU t p c):HM t c h m inj=some (Dh t c h m inj):=by
 have C:=hi.q.g.d7;have ge:=hi.q.g.ei;have m1:=hi.map.w9;have D:=hi.map.xr;have E:=o.m.w9;have G:=o.m.xr;unfold HM Dh;rw[Zu (by omega) (fun x j=>by obtain⟨i,d,e,rfl⟩:=Be j;exact(hi.map.node i d e).1) (by omega),bs,
  Zu (by omega) (fun x j=>by obtain⟨i,d,e,rfl⟩:=Be j;exact(hi.map.edge i d e).1) (by omega),bs,iw hf,bs]
 dsimp only;refine D1 fun r=>?_;obtain⟨z,A⟩:=ZB r;rw[Uh (F:=fun y=>L4 c.d6 h y m.fd) z]
 .rfl
 .intro i st d e B;have u:=A _ (AJ d e);have w:(m.fd.length:Int)<=c.d6.fd:=by have:=o.len;have:=hi.vars;omega
  rw [AD d e,bs,p7 hi.q (fun x j=>PQ (Cs hv) hi.q hh u j) w o.small,bs,<-Hf]
  grind [Aq,Aj]
theorem bP{m:AU}(hv:(A8 t).2=0)(hh:JY t h)(j:VY t p h m)(hi:eU t p c)(e:(Dh t c h m inj).2=0):(Dh t c h m inj).1.length<=5000/\∀x∈(Dh t c h m inj).1,VY t c.d6 h x:=by
 unfold Dh at e|-;dsimp only at e|-;split at e
 .grind
 rename_i o;rw[ae o];obtain⟨w,z⟩:=ZB (Classical.not_not.1 o);refine⟨by dsimp only;rw[c7];exact Nat.le_trans (List.length_filter_le _ _) w,fun x d=>?_⟩;dsimp only at d;rw[List.mem_map]at d;obtain⟨y,g,rfl⟩:=d;rw[List.mem_filter]at g;have r:=z y g.1;have u:(m.fd.length:Int)<=c.d6.fd:=by have:=j.len;have:=hi.vars;omega
 have:=kW hi.q (fun x d=>PQ (Cs hv) hi.q hh r d) u j.small g.2;exact⟨hi.q,r,this.1,this.2⟩
end Go.Sf.Sc
namespace Go.Sf.Sc
open Go Go.Sf
inductive CV(t:AC):d6->d5->Prop where
 |mk (p:d6) (c:d5) (few:c.gn.length<=40) (rng:1<=c.kp/\c.kp<=5) (one:c.kp=2\/c.kp=5->c.gn.length=1) (ins:c.kp=5->eU t p c) (kids:∀k∈c.gn,CV t (if c.kp=5 then c.d6 else p) k):CV t p c
variable{t:AC}{p:d6}{c:d5}
theorem CV.few(h:CV t p c):c.gn.length<=40:=by cases h;assumption
theorem CV.rng(h:CV t p c):1<=c.kp/\c.kp<=5:=by cases h;assumption
theorem CV.one(h:CV t p c):c.kp=2\/c.kp=5->c.gn.length=1:=by cases h;assumption
theorem CV.ins(h:CV t p c):c.kp=5->eU t p c:=by cases h;assumption
theorem CV.kids(h:CV t p c):∀k∈c.gn,CV t (if c.kp=5 then c.d6 else p) k:=by cases h;assumption
theorem CV.kid(h:CV t p c)(d:¬c.kp=5):∀k∈c.gn,CV t p k:=fun k e=>by have:=h.kids k e;rwa[ae d]at this
theorem CV.kid5(h:CV t p c)(d:c.kp=5):∀k∈c.gn,CV t c.d6 k:=fun k e=>by have:=h.kids k e;rwa[a6 d]at this
theorem XI:∀l:List d5,l.length<=U0 l
 |[]=>by simp|c::l=>by
  have:=XI l
  grind [U0,FY,Y1,cE]
variable{q:d6}{v:Int}
theorem sX(hv:(A8 t).2=0)(h:Sd t q v=0):Ru t q:=by grind[Sd,iv]
theorem ku(hv:(A8 t).2=0):∀(N:Nat)(c:d5)(p:d6),SizeOf.sizeOf c<=N->FY c<=40->QN N c=true->KC N t p c=0->CV t p c
 |0,c,_,h,_,_,_=>by have:=GE c;omega|N+1,c,p,h,M,z,ho=>by
  have E:=Y1 c;have F:=XI c.gn;rw[QN,pr]at z;obtain⟨u,o⟩:=z;have d:c.kp=2\/c.kp=5->c.gn.length=1:=by
   intro j;unfold P2 at u
   grind
  have g:1<=c.kp/\c.kp<=5:=by
   grind [P2]
  have w:∀q,(fst (fun i=>nz (KC N t q (AA c.gn i))) 0 c.gn.length).getD 0=0->∀k∈c.gn,CV t q k:=by
   intro q A k j;have G:=SY A;have K:=Y0 j;have L:=IR j;rw[List.all_eq_true]at o;obtain⟨i,H,I,e⟩:=Be j;have y:=G i H I;rw[e]at y;exact ku hv N k q (by omega) (by omega) (o k j) y
  rw [KC]at ho;by_cases r:c.kp=5
  .rw[a6 r]at ho;split at ho
   .cases ho
   rename_i J;split at ho
   .grind
   rename_i B;split at ho
   .grind
   rename_i C;split at ho
   .cases ho
   rename_i D;refine CV.mk p c (by omega) g d (fun _=>⟨sX hv (Classical.not_not.1 B),by omega,QA (Classical.not_not.1 C),by simpa using D⟩) ?_
   grind
  .rw[ae r]at ho;refine CV.mk p c (by omega) g d (fun e=>absurd e r) ?_
   grind
section
variable{α σ ρ:Type}
variable{f:Int->σ->Option (Bx σ ρ)}
theorem Ry[Inhabited α]{l:List α}(step:α->σ->Bx σ ρ)(I:Int->σ->Prop)(h:∀(i:Int)s,0<=i->i<l.length->I i s->f i s=some (step (AA l i) s)/\∀s',step (AA l i) s=.next s'->I (i+1) s'):
  ∀(n:Nat)(a:Int)(s:σ),0<=a->a+n=l.length->I a s->wo f n a s=some (D3 step (l.drop a.toNat) s)
 |0,a,s,d,o,_=>by
  rw [List.drop_eq_nil_of_le (by omega)];rfl
 |n+1,a,s,d,o,u=>by
  obtain ⟨g,j⟩:=h a s d (by omega) u;have hd:l.drop a.toNat=AA l a::l.drop (a+1).toNat:=by
   grind [List.drop_eq_getElem_cons,AA,List.getElem?_eq_getElem]
  rw [E9,g,hd,D3];cases e:step (AA l a) s with
  |next s'=>
   simp only;exact Ry step I h n (a+1) s' (by omega) (by omega) (j s' e)
  |brk s'=>rfl|ret r=>rfl
theorem Vv[Inhabited α]{l:List α}(step:α->σ->Bx σ ρ)(I:Int->σ->Prop){s:σ}(d:I 0 s)(h:∀(i:Int)s,0<=i->i<l.length->I i s->f i s=some (step (AA l i) s)/\∀s',step (AA l i) s=.next s'->I (i+1) s'):
  jj f 0 l.length s=some (D3 step l s):=by
 have:=Ry step I h l.length 0 s (by omega) (by omega) d;unfold jj;rw[show((l.length:Int)-0).toNat=l.length by omega];exact this
theorem WZ{d s2:α->σ->Bx σ ρ}:∀{l:List α}{s:σ},(∀a∈l,d a=s2 a)->D3 d l s=D3 s2 l s
 |[],_,_=>rfl|a::l,s,h=>by
  rw [D3,D3,h a (by simp)];split
  .exact WZ fun b e=>h b (by simp[e])
  .rfl
  .rfl
end
abbrev zM:AU:=⟨⟨[],[]⟩,[]⟩
abbrev zP:A6:=⟨0,zM,[]⟩
def Mc(w:d5->A6×Int)(k:d5)(s:A6×A6):Bx (A6×A6) (A6×Int):=
 if (w k).2≠0 then .ret (zP,(w k).2)else .next (s.1,⟨s.2.w2,s.2.o3,s.2.gn++[(w k).1]⟩)
def SJ(w:d5->A6×Int)(l:List d5):A6×Int:=
 match D3 (Mc w) l (zP,zP)with
 |.inl s=>(s.2,0)|.inr r=>r
def Cq(t:AC)(h:AH)(inj:Bool):Nat->d5->AU->A6×Int
 |0,_,_=>(zP,0)|N+1,c,m=>
  if c.kp=2 then(if(Cq t h inj N (AA c.gn 0) m).2=0 then(zP,10)else if(Cq t h inj N (AA c.gn 0) m).2=10 then(zP,0)else(zP,(Cq t h inj N (AA c.gn 0) m).2))else
  if c.kp=3 then SJ (fun k=>Cq t h inj N k m) c.gn else
  if c.kp=4 then(fst (fun i=>if(Cq t h inj N (AA c.gn i) m).2=0 then some (⟨i,zM,[(Cq t h inj N (AA c.gn i) m).1]⟩,0)else if(Cq t h inj N (AA c.gn i) m).2≠10 then some (zP,(Cq t h inj N (AA c.gn i) m).2)else none) 0 c.gn.length).getD (zP,10)else
  if c.kp=5 then
   (if(Dh t c h m inj).2≠0 then(zP,(Dh t c h m inj).2)else
   (fst (fun i=>if(Cq t h inj N (AA c.gn 0) (AA (Dh t c h m inj).1 i)).2=0 then some (⟨0,AA (Dh t c h m inj).1 i,[(Cq t h inj N (AA c.gn 0) (AA (Dh t c h m inj).1 i)).1]⟩,0)else
    if (Cq t h inj N (AA c.gn 0) (AA (Dh t c h m inj).1 i)).2≠10 then some (zP,(Cq t h inj N (AA c.gn 0) (AA (Dh t c h m inj).1 i)).2)else none) 0 (Dh t c h m inj).1.length).getD (zP,10))else
  (zP,0)
def Cp(t:AC)(h:AH)(inj:Bool):Nat->d5->AU->A6×Int
 |0,_,_=>(zP,0)|N+1,c,m=>
  if c.kp=2 then(if(Cp t h inj N (AA c.gn 0) m).2=0 then(zP,10)else if(Cp t h inj N (AA c.gn 0) m).2=10 then(zP,0)else(zP,(Cp t h inj N (AA c.gn 0) m).2))else
  if c.kp=3 then SJ (fun k=>Cp t h inj N k m) c.gn else
  if c.kp=4 then(fst (fun i=>if(Cp t h inj N (AA c.gn i) m).2≠10 then some (⟨i,zM,[(Cp t h inj N (AA c.gn i) m).1]⟩,(Cp t h inj N (AA c.gn i) m).2)else none) 0 c.gn.length).getD (zP,10)else
  if c.kp=5 then
   (if(Dh t c h m inj).2≠0 then(zP,(Dh t c h m inj).2)else
   (fst (fun i=>if(Cp t h inj N (AA c.gn 0) (AA (Dh t c h m inj).1 i)).2≠10 then some (⟨0,AA (Dh t c h m inj).1 i,[(Cp t h inj N (AA c.gn 0) (AA (Dh t c h m inj).1 i)).1]⟩,(Cp t h inj N (AA c.gn 0) (AA (Dh t c h m inj).1 i)).2)else none) 0 (Dh t c h m inj).1.length).getD (zP,10))else
  (zP,0)
def LJ(x:A6×Int):A6×Int:=if x.2=0 then x else(zP,x.2)
theorem fM(x:A6×Int):(LJ x).2=x.2:=by unfold LJ;split<;>rfl
theorem fL{x:A6×Int}(h:x.2=0):(LJ x).1=x.1:=by unfold LJ;rw[a6 h]
theorem g7(w:d5->A6×Int)(l:List d5):LJ (SJ w l)=SJ w l:=by
 unfold SJ;have:∀(l:List d5)(s:A6×A6)(r:A6×Int),D3 (Mc w) l s=.inr r->LJ r=r:=by
  intro l
  induction l with
  |nil=>intro s r h;cases h
  |cons a l j=>
   intro s r h;rw[D3]at h;split at h
   .exact j _ _ h
   .cases h
   .rename_i o d;cases h;unfold Mc at d;split at d
    .rename_i e;cases d;unfold LJ;rw[ae e]
    .cases d
 cases g:D3 (Mc w) l (zP,zP)with
 |inl s=>rfl|inr r=>exact this _ _ _ g
theorem Xd(o:Option (A6×Int)):LJ (o.getD (zP,10))=(o.map LJ).getD (zP,10):=by cases o<;>rfl
theorem cU(t:AC)(h:AH)(inj:Bool):∀(N:Nat)(c:d5)(m:AU),Cq t h inj N c m=LJ (Cp t h inj N c m)
 |0,_,_=>rfl|N+1,c,m=>by
  have w:=cU t h inj N;have key:∀(c:d5)(m:AU),(Cq t h inj N c m).2=(Cp t h inj N c m).2:=fun c m=>by rw[w,fM]
  have pick:∀(k:d5)(m x:AU)(i:Int),(if(Cq t h inj N k m).2=0 then some ((⟨i,x,[(Cq t h inj N k m).1]⟩:A6),(0:Int))else if(Cq t h inj N k m).2≠10 then some (zP,(Cq t h inj N k m).2)else none)=(if(Cp t h inj N k m).2≠10 then some ((⟨i,x,[(Cp t h inj N k m).1]⟩:A6),(Cp t h inj N k m).2)else none).map LJ:=by
   intro k m x i;rw[key];by_cases d:(Cp t h inj N k m).2=0
   .rw[a6 d,a6 (by omega),w,fL d];simp[LJ,d]
   .rw[ae d];by_cases e:(Cp t h inj N k m).2≠10
    .rw[a6 e,a6 e];simp[LJ,d]
    grind
  rw [Cq,Cp];by_cases j:c.kp=2
  .rw[a6 j,a6 j,key];by_cases d:(Cp t h inj N (AA c.gn 0) m).2=0
   .rw[a6 d];rfl
   .rw[ae d];by_cases e:(Cp t h inj N (AA c.gn 0) m).2=10
    .rw[a6 e];rfl
    .rw[ae e];unfold LJ;rw[ae d]
  rw [ae j,ae j];by_cases o:c.kp=3
  .rw[a6 o,a6 o,g7];unfold SJ;rw[WZ (s2:=Mc fun k=>Cp t h inj N k m)];intro k _;funext s;unfold Mc;simp only[key];by_cases d:(Cp t h inj N k m).2=0
   .rw[ae (by simp[d]),ae (by simp[d]),w,fL d]
   .rw[a6 d,a6 d]
  rw [ae o,ae o];by_cases r:c.kp=4
  .rw[a6 r,a6 r,Xd,<-PI];congr 1;exact congrArg (fun F=>fst F 0 (c.gn.length:Int)) (funext fun i=>pick _ _ _ _)
  rw [ae r,ae r];by_cases u:c.kp=5
  .rw[a6 u,a6 u];by_cases g:(Dh t c h m inj).2≠0
   .rw[a6 g,a6 g];unfold LJ;rw[ae g]
   .rw[ae g,ae g,Xd,<-PI];congr 1;exact congrArg (fun F=>fst F 0 ((Dh t c h m inj).1.length:Int)) (funext fun i=>pick _ _ _ _)
  rw [ae u,ae u];rfl
end Go.Sf.Sc
namespace Go.Sf.Sc
open Go Go.Sf
def P3(i:Int)(s:A6×A6):Prop:=(s.2.gn.length:Int)=i
theorem WK{s:BU}(hf:Aw s.t)(hv:(A8 s.t).2=0)(hh:JY s.t s.h):∀(N:Nat)(c:d5)(p:d6)(m:AU),SizeOf.sizeOf c<=N->CV s.t p c->VY s.t p s.h m->∀n,2*N<=n->An n s c m=some (Cq s.t s.h s.em N c m)
 |0,c,_,_,h,_,_,_,_=>by have:=GE c;omega|N+1,c,p,m,h,o,y,n,E=>by
  obtain ⟨n,rfl⟩:∃k,n=k+2:=⟨n-2,by omega⟩;have kid:∀(i:Int),0<=i->i<c.gn.length->SizeOf.sizeOf (AA c.gn i)<=N:=fun i d e=>by
   have:=IR (AJ (l:=c.gn) d e);omega
  rw [An,Cq];by_cases r:c.kp=2
  .have D:=o.one (.inl r);rw[a6 (by simpa using r),a6 r,AD (by omega) (by omega),bs,WK hf hv hh N _ p m (kid 0 (by omega) (by omega)) (o.kid (by omega) _ (AJ (by omega) (by omega))) y (n+1) (by omega),bs]
   grind
  rw [ae (by simpa using r),ae r];by_cases z:c.kp=3
  .rw[a6 (by simpa using z),a6 z];have B:=o.few;rw[Vv (Mc fun k=>Cq s.t s.h s.em N k m) P3 (show P3 0 (zP,zP)from rfl)]
   .unfold SJ;show ek (some (D3 (Mc fun k=>Cq s.t s.h s.em N k m) c.gn (zP,zP))) _ _=_;cases D3 (Mc fun k=>Cq s.t s.h s.em N k m) c.gn (zP,zP)<;>rfl
   .intro i st d e hi;unfold P3 at hi;rw[AD d e,bs,WK hf hv hh N _ p m (kid i d e) (o.kid (by omega) _ (AJ d e)) y (n+1) (by omega),bs]
    grind [Mc,Cq,AA,Aq,Aj,P3]
  rw [ae (by simpa using z),ae z];by_cases A:c.kp=4
  .rw[a6 (by simpa using A),a6 A];rw[Ks (fun _=>zP) (fun i=>if(Cq s.t s.h s.em N (AA c.gn i) m).2=0 then some (⟨i,zM,[(Cq s.t s.h s.em N (AA c.gn i) m).1]⟩,0)else if(Cq s.t s.h s.em N (AA c.gn i) m).2≠10 then some (zP,(Cq s.t s.h s.em N (AA c.gn i) m).2)else none) (by omega) rfl]
   .cases fst (fun i=>if(Cq s.t s.h s.em N (AA c.gn i) m).2=0 then some ((⟨i,zM,[(Cq s.t s.h s.em N (AA c.gn i) m).1]⟩:A6),(0:Int))else if(Cq s.t s.h s.em N (AA c.gn i) m).2≠10 then some (zP,(Cq s.t s.h s.em N (AA c.gn i) m).2)else none) 0 c.gn.length<;>rfl
   .intro i d e _;rw[AD d e,bs,WK hf hv hh N _ p m (kid i d e) (o.kid (by omega) _ (AJ d e)) y (n+1) (by omega),bs];generalize Cq s.t s.h s.em N (AA c.gn i) m=x;by_cases j:x.2=0
    .rw[a6 (by simpa using j),a6 j];try rfl
    .rw[ae (by simpa using j),ae j];by_cases g:x.2=10
     .rw[ae (by simp[g]),ae (by simp[g])];try rfl
     .rw[a6 (by simp[g]),a6 g];try rfl
  rw [ae (by simpa using A),ae A];by_cases u:c.kp=5
  .rw[a6 (by simpa using u),a6 u];have hi:=o.ins u;have D:=o.one (.inr u);rw[BQ,pB hf hv hh y hi,bs];by_cases w:(Dh s.t c s.h m s.em).2=0
   .obtain⟨g,C⟩:=bP hv hh y hi w;rw[ae (by simp[w]),ae (by simp[w])];generalize (Dh s.t c s.h m s.em).1=l at g C;rw[Ks (fun _=>zP) (fun i=>if(Cq s.t s.h s.em N (AA c.gn 0) (AA l i)).2=0 then some (⟨0,AA l i,[(Cq s.t s.h s.em N (AA c.gn 0) (AA l i)).1]⟩,0)else if(Cq s.t s.h s.em N (AA c.gn 0) (AA l i)).2≠10 then some (zP,(Cq s.t s.h s.em N (AA c.gn 0) (AA l i)).2)else none) (by omega) rfl]
    .cases fst (fun i=>if(Cq s.t s.h s.em N (AA c.gn 0) (AA l i)).2=0 then some ((⟨0,AA l i,[(Cq s.t s.h s.em N (AA c.gn 0) (AA l i)).1]⟩:A6),(0:Int))else if(Cq s.t s.h s.em N (AA c.gn 0) (AA l i)).2≠10 then some (zP,(Cq s.t s.h s.em N (AA c.gn 0) (AA l i)).2)else none) 0 l.length<;>rfl
    .intro i d e _;rw[AD d e,bs,AD (by omega) (by omega),bs,WK hf hv hh N _ c.d6 _ (kid 0 (by omega) (by omega)) (o.kid5 u _ (AJ (by omega) (by omega))) (C _ (AJ d e)) n (by omega),bs];generalize Cq s.t s.h s.em N (AA c.gn 0) (AA l i)=x;by_cases j:x.2=0
     .rw[a6 (by simpa using j),a6 j];try rfl
     .rw[ae (by simpa using j),ae j];by_cases g:x.2=10
      .rw[ae (by simp[g]),ae (by simp[g])];try rfl
      .rw[a6 (by simp[g]),a6 g];try rfl
   .rw[a6 (by simp[w]),a6 w];try rfl
  grind
variable{t:AC}{inj:Bool}
theorem Qm{d:AH}(hf:Aw t)(hv:(A8 t).2=0)(hh:JY t d):∀(N:Nat)(c:d5)(p:d6)(m:AU),SizeOf.sizeOf c<=N->CV t p c->VY t p d m->∀n,N<=n->Du n t c d m inj=some (Cp t d inj N c m)
 |0,c,_,_,h,_,_,_,_=>by have:=GE c;omega|N+1,c,p,m,h,o,w,n,E=>by
  obtain ⟨n,rfl⟩:∃k,n=k+1:=⟨n-1,by omega⟩;have kid:∀(i:Int),0<=i->i<c.gn.length->SizeOf.sizeOf (AA c.gn i)<=N:=fun i e g=>by
   have:=IR (AJ (l:=c.gn) e g);omega
  rw [Du,Cp];by_cases r:c.kp=2
  .have D:=o.one (.inl r);rw[a6 (by simpa using r),a6 r,AD (by omega) (by omega),bs,Qm hf hv hh N _ p m (kid 0 (by omega) (by omega)) (o.kid (by omega) _ (AJ (by omega) (by omega))) w n (by omega),bs]
   grind
  rw [ae (by simpa using r),ae r];by_cases y:c.kp=3
  .rw[a6 (by simpa using y),a6 y];have B:=o.few;rw[Vv (Mc fun k=>Cp t d inj N k m) P3 (show P3 0 (zP,zP)from rfl)]
   .unfold SJ;show ek (some (D3 (Mc fun k=>Cp t d inj N k m) c.gn (zP,zP))) _ _=_;cases D3 (Mc fun k=>Cp t d inj N k m) c.gn (zP,zP)<;>rfl
   .intro i st e g hi;unfold P3 at hi;rw[AD e g,bs,Qm hf hv hh N _ p m (kid i e g) (o.kid (by omega) _ (AJ e g)) w n (by omega),bs]
    grind [Mc,Cp,AA,Aq,Aj,P3]
  rw [ae (by simpa using y),ae y];by_cases z:c.kp=4
  .rw[a6 (by simpa using z),a6 z];rw[Ks (fun _=>zP) (fun i=>if(Cp t d inj N (AA c.gn i) m).2≠10 then some (⟨i,zM,[(Cp t d inj N (AA c.gn i) m).1]⟩,(Cp t d inj N (AA c.gn i) m).2)else none) (by omega) rfl]
   .cases fst (fun i=>if(Cp t d inj N (AA c.gn i) m).2≠10 then some ((⟨i,zM,[(Cp t d inj N (AA c.gn i) m).1]⟩:A6),(Cp t d inj N (AA c.gn i) m).2)else none) 0 c.gn.length<;>rfl
   .intro i e g _;rw[AD e g,bs,Qm hf hv hh N _ p m (kid i e g) (o.kid (by omega) _ (AJ e g)) w n (by omega),bs];generalize Cp t d inj N (AA c.gn i) m=x;by_cases j:x.2=10
    .rw[ae (by simp[j]),ae (by simp[j])];try rfl
    .rw[a6 (by simp[j]),a6 j];try rfl
  rw [ae (by simpa using z),ae z];by_cases u:c.kp=5
  .rw[a6 (by simpa using u),a6 u];have hi:=o.ins u;have D:=o.one (.inr u);rw[pf hf hv hh w hi,bs];by_cases A:(Dh t c d m inj).2=0
   .obtain⟨j,C⟩:=bP hv hh w hi A;rw[ae (by simp[A]),ae (by simp[A])];generalize (Dh t c d m inj).1=l at j C;rw[Ks (fun _=>zP) (fun i=>if(Cp t d inj N (AA c.gn 0) (AA l i)).2≠10 then some (⟨0,AA l i,[(Cp t d inj N (AA c.gn 0) (AA l i)).1]⟩,(Cp t d inj N (AA c.gn 0) (AA l i)).2)else none) (by omega) rfl]
    .cases fst (fun i=>if(Cp t d inj N (AA c.gn 0) (AA l i)).2≠10 then some ((⟨0,AA l i,[(Cp t d inj N (AA c.gn 0) (AA l i)).1]⟩:A6),(Cp t d inj N (AA c.gn 0) (AA l i)).2)else none) 0 l.length<;>rfl
    .intro i e g _;rw[AD (by omega) (by omega),bs,AD e g,bs,Qm hf hv hh N _ c.d6 _ (kid 0 (by omega) (by omega)) (o.kid5 u _ (AJ (by omega) (by omega))) (C _ (AJ e g)) n (by omega),bs];generalize Cp t d inj N (AA c.gn 0) (AA l i)=x;by_cases j:x.2=10
     .rw[ae (by simp[j]),ae (by simp[j])];try rfl
     .rw[a6 (by simp[j]),a6 j];try rfl
   grind
  grind
end Go.Sf.Sc
namespace Go.Sf.Sc
open Go Go.Sf
noncomputable def SN(t:AC)(p:d6)(c:d5)(h:AH)(m:AU)(inj:Bool):Int:=
 if Lr t p c≠0 then Lr t p c else if(He t h).2≠0 then(He t h).2 else if GV t p.c9 h.c9 m.d3 inj≠0 then GV t p.c9 h.c9 m.d3 inj else
 if (FV t p h m.d3).2≠0 then(FV t p h m.d3).2 else if(FV t p h m.d3).1=m.fd then 0 else 11
variable{t:AC}{c:d5}
theorem ii(hf:Aw t)(p:d6)(d:FU c)(h:AH)(m:AU)(inj:Bool):E5 t p c h m inj=some (SN t p c h m inj):=by
 unfold E5 SN;rw[mR hf p d,bs];refine DQ fun _=>?_;rw[WI hf,bs];refine DQ fun _=>?_;rw[Wy hf,bs];refine DQ fun _=>?_;rw[bj hf,bs];refine DQ fun _=>?_;rw[lG,bs]
 grind
variable{p:d6}{h:AH}{inj:Bool}
theorem Vn(hf:Aw t)(z:FY c<=40){m:AU}(e:SN t p c h m inj=0):(A8 t).2=0/\JY t h/\CV t p c/\VY t p h m:=by
 unfold SN at e;split at e
 .grind
 rename_i d;split at e
 .grind
 rename_i j;split at e
 .grind
 rename_i o;split at e
 .grind
 rename_i r;split at e
 case isFalse=>cases e
 rename_i C;have d:=Classical.not_not.1 d;have j:=Classical.not_not.1 j;have o:=Classical.not_not.1 o;have r:=Classical.not_not.1 r;obtain⟨hv,hh⟩:=UE hf j;have w:=(Yz o).2;unfold Lr at d;split at d
 .grind
 rename_i A;split at d
 .grind
 rename_i u;have y:=iv hv (.inl (Classical.not_not.1 A));have u:=Classical.not_not.1 u;have B:aL c=true:=by
  grind [NG]
 suffices g:(m.fd.length:Int)=p.fd/\Oj m.fd from⟨hv,hh,ku hv _ c p (az _) z B d,y,w,g.1,g.2⟩
 have g:∀s∈p.ej,Ic p.fd h m.d3 s:=fun s g=>PQ (Cs hv) y hh w g
 grind [FV,gH]
end Go.Sf.Sc
namespace Go.Sf.Sc
open Go Go.Sf
noncomputable def wS(t:AC)(p:d6)(c:d5)(h:AH)(m:AU)(inj:Bool):A6×Int:=
 if SN t p c h m inj≠0 then(zP,SN t p c h m inj)else Cq t h inj (SizeOf.sizeOf c) c m
variable{t:AC}{c:d5}
theorem fZ(hf:Aw t)(p:d6)(e:FU c)(g:FY c<=40)(h:AH)(m:AU)(inj:Bool):EB t p c h m inj=some (wS t p c h m inj):=by
 unfold EB wS;rw[ii hf p e,bs];refine D1 fun j=>?_;obtain⟨hv,hh,d,r⟩:=Vn hf g j;rw[show Eu (BU.mk t h inj) c m=some (Cq t h inj (SizeOf.sizeOf c) c m)from Fa (2*SizeOf.sizeOf c) fun n o=>WK (s:=⟨t,h,inj⟩) hf hv hh _ c p m (az _) d r n o];rfl
noncomputable def MA(t:AC)(p:d6)(c:d5)(h:AH)(m:AU)(inj:Bool):Bool×Int:=
 if (wS t p c h m inj).2=10 then(false,0)else(decide ((wS t p c h m inj).2=0),(wS t p c h m inj).2)
theorem aj(hf:Aw t)(p:d6)(d:FU c)(e:FY c<=40)(h:AH)(m:AU)(inj:Bool):Da t p c h m inj=some (MA t p c h m inj):=by grind[Da,MA,fZ,wS]
variable{h:AH}{inj:Bool}{p:d6}
theorem iy(hf:Aw t){m:AU}(hv:(A8 t).2=0)(hh:JY t h)(d:CV t p c)(e:VY t p h m):QU t c h m inj=some (Cp t h inj (SizeOf.sizeOf c) c m):=Fa (SizeOf.sizeOf c) fun n g=>Qm hf hv hh _ c p m (az _) d e n g
end Go.Sf.Sc
namespace Go.Sf.Sc
open Go Go.Sf
end Go.Sf.Sc
namespace Go.Sf.Sc
open Go Go.Sf
theorem nL(t:AC)(p:d6)(c:d5)(h:AH)(m:AU)(inj:Bool):wS t p c h m inj=if SN t p c h m inj≠0 then(zP,SN t p c h m inj)else LJ (Cp t h inj (SizeOf.sizeOf c) c m):=by
 unfold wS;rw[cU]
end Go.Sf.Sc
