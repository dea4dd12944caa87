/- Plain lemmas: what the functions of the program and of the reference compute. -/
import Derived.Test.YtmbomnkcdolalaaGreatP25
set_option linter.all false
set_option maxRecDepth 100000
namespace Go.Sf.Sc
open Go Go.Sf
variable{k:Int}
theorem RZ{d:List ns}(h:Nj d k=0)(e:(AA d k).x3.length<=1000):-1000000<=(AA d k).Low/\(AA d k).AaD<=1000000:=by grind[Nj]
variable{t:AC}{i:Int}
theorem b6(h:Ib t i=0):∀k,((A4 t i).length:Int)-(AA t.d3 i).x4.length<=k->k<(A4 t i).length->Nj (A4 t i) k=0:=by
 unfold Ib at h;dsimp only at h;split at h
 .cases h
 split at h
 .cases h
 split at h
 .cases h
 split at h
 .cases h
 exact WV h
variable{a:Int}
theorem Ok{n:Nat}(d:0<=a):B6 t (n+1) a=B6 t n (par t a)++(AA t.d3 a).x4:=by grind[B6]
theorem WC(hf:An t)(h:GG t){Q:ns->Prop}(RZ:∀{d:List ns}{k:Int},Nj d k=0->(AA d k).x3.length<=1000->Q (AA d k)):∀(n:Nat)(a:Int),a<t.d3.length->a<n->∀x∈B6 t n a,Q x
 |0,_,_,_=>by simp[B6]|n+1,a,o,D=>by
  by_cases r:a<0
  .rw[JN r];simp
  .have z:=h.par a (by omega) o;intro x g;rw[Ok (by omega)]at g;rcases List.mem_append.1 g with g|g
   .exact WC hf h RZ n (par t a) (by omega) (by omega) x g
   .obtain⟨j,B,C,rfl⟩:=Be g;have e:A4 t a=B6 t a.toNat (par t a)++(AA t.d3 a).x4:=by
     unfold A4;rw[show(a+1).toNat=a.toNat+1 by omega,Ok (by omega)]
    have A:(A4 t a).length=(B6 t a.toNat (par t a)).length+(AA t.d3 a).x4.length:=by rw[e,bk]
    have u:=b6 (h.node a (by omega) o) ((B6 t a.toNat (par t a)).length+j) (by omega) (by omega);have w:AA (A4 t a) ((B6 t a.toNat (par t a)).length+j)=AA (AA t.d3 a).x4 j:=by
     grind [L4,AA]
    have y:=ML hf (Int.le_refl _) h.par o (AA (A4 t a) ((B6 t a.toNat (par t a)).length+j)) (AM (by omega) (by omega));have:=RZ u (by have:=y.names;omega)
    rwa [w]at this
theorem eC(hf:An t)(h:GG t)(e:0<=a)(d:a<t.d3.length):∀x∈A4 t a,-1000000<=x.Low/\x.AaD<=1000000:=WC hf h RZ _ a d (by omega)
theorem Yr(e:FD t k):∀(n:Nat)(a b:Int),a<k->a<n->b∈Pu t n a->0<=b/\b<=a/\(A4 t b).length<=(B6 t n a).length
 |0,_,_,_,_=>by simp[Pu]|n+1,a,b,g,r=>by
  intro d;rw[Pu]at d;split at d
  .cases d
  .rename_i j;have o:=e a (by omega) g;rw[Ok (by omega)];rcases List.mem_cons.1 d with rfl|d
   .refine⟨by omega,by omega,?_⟩;unfold A4;rw[L5 e (b+1).toNat (n+1) b g (by omega) (by omega),Ok (by omega)];exact az _
   .have:=Yr e n (par t a) b (by omega) (by omega) d
    grind
variable{b:Int}
theorem YN(h:GG t)(j:a<t.d3.length)(d:JA t a b=true):(A4 t b).length<=(A4 t a).length:=by
 unfold JA at d;rw[List.any_eq_true]at d;obtain⟨x,g,e⟩:=d;rw[zzX]at e;subst e;by_cases o:a<0
 .have:(a+1).toNat=0:=by omega
  rw [this]at g;cases g
 .exact(Yr h.par (a+1).toNat a b j (by omega) g).2.2
theorem eE{α:Type}{Q:Prop}[Decidable Q]{v:α}{X:Option α}{Y:α}(he:a=b↔Q)(h:Q->X=some Y):(if(!decide (a=b))=true then some v else X)=some (if¬Q then v else Y):=by grind
def R5(t:AC)(k:Int)(v:Fp)(j:Int):Bool:=decide (AA v j<(AA (A4 t k) j).Low)||decide ((AA (A4 t k) j).AaD<AA v j)
def Jg(t:AC)(k:Int)(v:Fp):Int:=
 if (t.d3.length:Int)<=k then 6 else if(AA t.d3 k).Aap=true then 13 else if¬v.length=(A4 t k).length then 20 else
 if pc (R5 t k v) 0 (A4 t k).length=true then 6 else 0
def OE(t:AC)(g:d4)(i:Int):Int:=
 if (t.d5.length:Int)<=(AA g.d5 i).og then 6 else if Lv t g i=false then 13 else 0
def Ia(t:AC)(h:AH):Int×Int:=
 if (A2 t).2≠0 then(-1,(A2 t).2)else if Bu h.d4≠0 then(-1,Bu h.d4)else if¬h.fd.length=h.d4.d3.length then(-1,20)else
 match fst (fun i=>(nz (Jg t (AA h.d4.d3 i) (AA h.fd i))).map fun e=>(i,e)) 0 h.d4.d3.length with
 |some r=>r|none=>(fst (fun i=>(nz (OE t h.d4 i)).map fun e=>(i,e)) 0 h.d4.d5.length).getD (-1,0)
theorem I8(hv:(A2 t).2=0)(d:0<=k)(e:k<t.d3.length):GX t k=(A4 t k,0):=by grind[GX,L8]
theorem RJ{x:Bool}{y:Bool}:(if x=true then some true else some y)=some (x||y):=by cases x<;>rfl
theorem oC(hf:An t)(hv:(A2 t).2=0)(d:0<=k)(v:Fp):I9 t k v=some (Jg t k v):=by
 unfold I9 Jg;by_cases e:(t.d3.length:Int)<=k
 .grind
 rw [ae (by simpa using e),ae e,AE d (by omega),bs];refine Zc fun _=>?_;rw[RK hf,I8 hv d (by omega),bs];refine eE (by simp only[];omega) fun g=>?_;rw[BS (R5 t k v) 6]
 .cases pc (R5 t k v) 0 (A4 t k).length<;>rfl
 grind [A4,AE,RJ,R5,AA]
theorem oV(hf:An t)(hv:(A2 t).2=0)(d:0<=k)(v:Fp):Mu t k v=some (Jg t k v):=by
 unfold Mu Jg;by_cases e:(t.d3.length:Int)<=k
 .grind
 rw [ae (by simpa using e),ae e,AE d (by omega),bs];refine Zc fun _=>?_;rw[RL hf,I8 hv d (by omega),bs];refine eE (by simp only[];omega) fun g=>?_;rw[BS (R5 t k v) 6]
 .cases pc (R5 t k v) 0 (A4 t k).length<;>rfl
 grind [A4,AE,RJ,R5,AA]
theorem aC(e i:Int):(if(!decide (e=0))=true then some (Bv.ret (σ:=Unit) (ρ:=Int×Int) (i,e))else some (.next ()))=some (PN ((nz e).map fun e=>(i,e))):=by grind[nz,PN]
theorem Wq(hf:An t)(h:AH):Ei t h=some (Ia t h):=by
 unfold Ei Ia;rw[NV hf,bs];refine Cg fun hv=>?_;rw[Kq,bs];refine Cg fun o=>?_;have go:=C2 o;refine eE (by omega) fun z=>?_;rw[BX (fun i=>(nz (Jg t (AA h.d4.d3 i) (AA h.fd i))).map fun e=>(i,e)),D0]
 .cases u:fst (fun i=>(nz (Jg t (AA h.d4.d3 i) (AA h.fd i))).map fun e=>(i,e)) 0 h.d4.d3.length with
  |some r=>rfl|none=>
   have w:=Bz.1 u;dsimp only;rw[BX (fun i=>(nz (OE t h.d4 i)).map fun e=>(i,e)),D0]
   .grind
   .intro i d g _;have y:=go.fit _ (AM (l:=h.d4.d5) d g);rw[AE d g,bs];unfold OE Lv;by_cases j:(t.d5.length:Int)<=(AA h.d4.d5 i).og
    .rw[a6 (by simpa using j),a6 j];rfl
    .rw[ae (by simpa using j),ae j,AE (by omega) (by omega),bs,AE (by omega) (by omega),bs,gw hf,bs];cases Rj t (AA h.d4.d5 i).og (AA h.d4.d3 (AA h.d4.d5 i).o4) (AA h.d4.d3 (AA h.d4.d5 i).To)<;>rfl
 .intro i d g _;rw[AE d g,bs,AE d (by omega),bs,oC hf hv (go.kind _ (AM d g)).1,bs];exact aC _ i
theorem Wz(hf:An t)(h:AH):Gq t h=some (Ia t h):=by
 unfold Gq Ia;rw[PF hf,bs];refine Cg fun hv=>?_;rw[MB,bs];refine Cg fun o=>?_;have go:=C2 o;refine eE (by omega) fun z=>?_;rw[BX (fun i=>(nz (Jg t (AA h.d4.d3 i) (AA h.fd i))).map fun e=>(i,e)),D0]
 .cases u:fst (fun i=>(nz (Jg t (AA h.d4.d3 i) (AA h.fd i))).map fun e=>(i,e)) 0 h.d4.d3.length with
  |some r=>rfl|none=>
   have w:=Bz.1 u;dsimp only;rw[BX (fun i=>(nz (OE t h.d4 i)).map fun e=>(i,e)),D0]
   .grind
   .intro i d g _;have y:=go.fit _ (AM (l:=h.d4.d5) d g);rw[AE d g,bs];unfold OE Lv;by_cases j:(t.d5.length:Int)<=(AA h.d4.d5 i).og
    .rw[a6 (by simpa using j),a6 j];rfl
    .rw[ae (by simpa using j),ae j,AE (by omega) (by omega),bs,AE (by omega) (by omega),bs,iI hf,bs];cases Rj t (AA h.d4.d5 i).og (AA h.d4.d3 (AA h.d4.d5 i).o4) (AA h.d4.d3 (AA h.d4.d5 i).To)<;>rfl
 .intro i d g _;rw[AE d g,bs,AE d (by omega),bs,oV hf hv (go.kind _ (AM d g)).1,bs];exact aC _ i
structure If(t:AC)(h:AH):Prop where
 g:D3 h.d4
 len:h.fd.length=h.d4.d3.length
 kind:∀i:Int,0<=i->i<h.d4.d3.length->0<=AA h.d4.d3 i/\AA h.d4.d3 i<t.d3.length
 row:∀i:Int,0<=i->i<h.d4.d3.length->(AA h.fd i).length=(A4 t (AA h.d4.d3 i)).length
 low:∀i:Int,0<=i->i<h.d4.d3.length->∀x∈AA h.fd i,-1000000<=x/\x<=1000000
 ge:Bu h.d4=0
 ty:Cw t h.d4=true
variable{h:AH}
theorem US(hf:An t)(e:(Ia t h).2=0):(A2 t).2=0/\If t h:=by
 unfold Ia at e;split at e
 .rename_i w;exact absurd e w
 split at e
 .rename_i w;exact absurd e w
 split at e
 .cases e
 rename_i w E H;have hv:=Classical.not_not.1 w;have go:=C2 (Classical.not_not.1 E);have z:∀i:Int,0<=i->i<h.d4.d3.length->Jg t (AA h.d4.d3 i) (AA h.fd i)=0:=by
  split at e
  .rename_i r o;obtain⟨i,_,_,k,_⟩:=Cz o;unfold nz at k;split at k
   .cases k
   .rename_i u;cases k;exact absurd e u
  .rename_i o;exact fun i d g=>Iu.1 (KP.1 (Bz.1 o i d g))
 have A:∀i:Int,0<=i->i<h.d4.d3.length->(0<=AA h.d4.d3 i/\AA h.d4.d3 i<t.d3.length)/\(AA h.fd i).length=(A4 t (AA h.d4.d3 i)).length/\∀j:Int,0<=j->j<(A4 t (AA h.d4.d3 i)).length->R5 t (AA h.d4.d3 i) (AA h.fd i) j=false:=by
  intro i d g;have K:=(go.kind _ (AM d g)).1;have:=z i d g;unfold Jg at this;split at this
  .cases this
  split at this
  .cases this
  split at this
  .cases this
  split at this
  .cases this
  rename_i a1 M I J;exact⟨⟨K,by omega⟩,Classical.not_not.1 I,Bk.1 (by simpa using J)⟩
 have he:∀i:Int,0<=i->i<h.d4.d5.length->OE t h.d4 i=0:=by
  have C:fst (fun i=>(nz (Jg t (AA h.d4.d3 i) (AA h.fd i))).map fun e=>(i,e)) 0 h.d4.d3.length=none:=Bz.2 fun i d g=>by rw[z i d g];rfl
  rw [C]at e;dsimp only at e;cases o:fst (fun i=>(nz (OE t h.d4 i)).map fun e=>(i,e)) 0 h.d4.d5.length with
  |some r=>
   rw [o]at e;obtain⟨i,_,_,k,_⟩:=Cz o;unfold nz at k;split at k
   .cases k
   .rename_i u;cases k;exact absurd e u
  |none=>exact fun i d g=>Iu.1 (KP.1 (Bz.1 o i d g))
 have D:Cw t h.d4=true:=by
  unfold Cw;rw[pq,Bool.not_eq_true',Bool.not_eq_true',List.any_eq_false,List.any_eq_false];refine⟨fun n z=>?_,fun x B=>?_⟩
  .obtain⟨i,d,g,rfl⟩:=Be z;have:=(A i d g).1.2;simp;omega
  .obtain⟨i,d,g,rfl⟩:=Be B;have:=he i d g;unfold OE at this;split at this
   .cases this
   .simp;omega
 suffices y:∀i:Int,0<=i->i<h.d4.d3.length->∀x∈AA h.fd i,-1000000<=x/\x<=1000000 from⟨hv,go,Classical.not_not.1 H,fun i d g=>(A i d g).1,fun i d g=>(A i d g).2.1,y,Classical.not_not.1 E,D⟩
 intro i d g x B;obtain⟨F,N,L⟩:=A i d g;obtain⟨j,G,O,rfl⟩:=Be B;have:=L j G (by omega);unfold R5 at this;simp only[Bool.or_eq_false_iff,decide_eq_false_iff_not]at this;have:=eC hf (DU hv) F.1 F.2 _ (AM (l:=A4 t (AA h.d4.d3 i)) G (by omega));omega
end Go.Sf.Sc
namespace Go.Sf.Sc
open Go Go.Sf
def KK(t:AC)(p g:d4)(m:d6)(i:Int):QQ:=
 if AA m.d3 i<0\/g.d3.length<=AA m.d3 i then some 6 else if JA t (AA g.d3 (AA m.d3 i)) (AA p.d3 i)=false then some 13 else none
def N3(t:AC)(p g:d4)(m:d6):Int:=
 if m.d3.length≠p.d3.length\/m.d5.length≠p.d5.length then 20 else
 match fst (KK t p g m) 0 m.d3.length with
 |some e=>e|none=>(fst (G7 p g m) 0 m.d5.length).getD 0
def GT(t:AC)(p g:d4)(m:d6)(inj:Bool):Int:=
 if F2 t p g≠0 then F2 t p g else if N3 t p g m≠0 then N3 t p g m else if(inj&&!KM m)=true then 5 else 0
structure Xv(t:AC)(p g:d4)(m:d6):Prop where
 AaF:m.d3.length=p.d3.length
 AaP:m.d5.length=p.d5.length
 node:∀i:Int,0<=i->i<m.d3.length->(0<=AA m.d3 i/\AA m.d3 i<g.d3.length)/\JA t (AA g.d3 (AA m.d3 i)) (AA p.d3 i)=true
 edge:∀i:Int,0<=i->i<m.d5.length->0<=AA m.d5 i/\AA m.d5 i<g.d5.length
variable{t:AC}
theorem NP{p g:d4}(h:F2 t p g=0):(A2 t).2=0/\D3 p/\D3 g/\(∀n∈p.d3,0<=n/\n<t.d3.length)/\∀n∈g.d3,0<=n/\n<t.d3.length:=by
 unfold F2 at h;split at h
 .grind
 split at h
 .grind
 split at h
 .grind
 split at h
 .rename_i e j o d;rw[pq]at d
  grind [C2,IV]
 .cases h
variable{m:d6}
theorem dX{p g:d4}(h:N3 t p g m=0):Xv t p g m:=by
 unfold N3 at h;split at h
 .cases h
 rename_i o;have j:fst (KK t p g m) 0 m.d3.length=none:=by
  grind [Cz,KK]
 rw [j]at h;have he:=OD (fun i=>by
  grind [G7]) h
 refine ⟨by omega,by omega,fun i d e=>?_,fun i d e=>?_⟩
 .grind[Bz,KK]
 grind [G7]
theorem YW(hf:An t){p g:d4}(A:F2 t p g=0)(m:d6):FM t p g m=some (N3 t p g m):=by
 obtain ⟨hv,C,G,tp,D⟩:=NP A;unfold FM N3;refine F1 (by simp;try omega) fun E=>?_;rw[mW hf (DU hv) hv,bs,BX (KK t p g m),D0]
 .cases F:fst (KK t p g m) 0 m.d3.length with
  |some e=>rfl|none=>
   dsimp only;rw[BX (G7 p g m),CN];intro i j z _;unfold G7;rw[AE j z,bs];by_cases d:AA m.d5 i<0\/g.d5.length<=AA m.d5 i
   .rw[a6 (by simpa using d),a6 d];rfl
   .have hf:=C.fit _ (AM (l:=p.d5) j (by omega));rw[ae (by simpa using d),ae d,AE j (by omega),bs,AE (by omega) (by omega),bs];by_cases o:(AA p.d5 i).og=(AA g.d5 (AA m.d5 i)).og
    .rw[ae (by simpa using o),ae (by simpa using o),AE (by omega) (by omega),bs];by_cases r:AA m.d3 (AA p.d5 i).o4=(AA g.d5 (AA m.d5 i)).o4
     .rw[ae (by simpa using r),AE (by omega) (by omega),bs,bs];by_cases u:AA m.d3 (AA p.d5 i).To=(AA g.d5 (AA m.d5 i)).To
      .rw[ae (by simpa using u),ae (by simp[r,u])];rfl
      .rw[a6 (by simpa using u),a6 (.inr u)];rfl
     .rw[a6 (by simpa using r),bs,a6 rfl,a6 (.inl r)];rfl
    .rw[a6 (by simpa using o),a6 o];rfl
 .intro i j z _;unfold KK;rw[AE j z,bs];by_cases d:AA m.d3 i<0\/g.d3.length<=AA m.d3 i
  .rw[a6 (by simpa using d),a6 d];rfl
  .have w:=tp _ (AM (l:=p.d3) j (by omega));have y:=D _ (AM (l:=g.d3) (show 0<=AA m.d3 i by omega) (by omega));rw[ae (by simpa using d),ae d,AE j (by omega),bs,AE w.1 (by unfold JZ;rw[ca,BA];exact w.2),bs,AE (by omega) (by omega),bs];have e:AA (JZ t) (AA p.d3 i)=M1 t (AA p.d3 i):=by unfold JZ;exact Hi (M1 t) w.1 w.2
   rw [e,AE y.1 (by unfold M1;rw[ca,BA];exact y.2),bs];have B:AA (M1 t (AA p.d3 i)) (AA g.d3 (AA m.d3 i))=JA t (AA g.d3 (AA m.d3 i)) (AA p.d3 i):=by unfold M1;exact Hi (fun k=>JA t k (AA p.d3 i)) y.1 y.2
   rw [B];cases JA t (AA g.d3 (AA m.d3 i)) (AA p.d3 i)<;>rfl
variable{l:Fp}
theorem dL(d:l.length<=1000):HI l=some (!Io l):=by grind[HI,VZ,Rg,AbL,Io]
theorem Xi(hf:An t)(p g:d4)(m:d6)(inj:Bool):Ec t p g m inj=some (GT t p g m inj):=by
 unfold Ec GT;rw[Xm hf,bs];refine DV fun d=>?_;rw[YW hf d,bs];refine DV fun o=>?_;obtain⟨_,j,r,_⟩:=NP d;have e:=dX o;have:=j.ei;have:=j.ek;have:=e.AaF;have:=e.AaP;rw[dL (by omega),dL (by omega)];unfold KM;cases inj<;>cases Io m.d3<;>cases Io m.d5<;>rfl
theorem oR(l:Fp):I0 l=some (Io l):=ZI l
theorem iR{p g:d4}(z:F2 t p g=0)(m:d6)(inj:Bool):LN t p g m inj=some (if N3 t p g m≠0 then N3 t p g m else if(inj&&!KM m)=true then 5 else 0):=by
 obtain ⟨hv,C,F,tp,D⟩:=NP z;unfold LN N3;by_cases A:m.d3.length≠p.d3.length\/m.d5.length≠p.d5.length
 .grind
 rw [ae (by simp;try omega),ae A,BX (KK t p g m),D0]
 .cases E:fst (KK t p g m) 0 m.d3.length with
  |some e=>
   grind [Cz,KK]
  |none=>
   dsimp only;rw[BX (G7 p g m),D0]
   .grind[fst,G7,Cz,oR,KM,Io]
   intro i j w _;unfold G7;rw[AE j w];simp only[bs,TQ];by_cases d:AA m.d5 i<0\/g.d5.length<=AA m.d5 i
   .rw[a6 (by simpa using d),a6 d];rfl
   .have hf:=C.fit _ (AM (l:=p.d5) j (by omega));rw[ae (by simpa using d),ae d,AE j (by omega),bs,AE (by omega) (by omega),bs];by_cases o:(AA p.d5 i).og=(AA g.d5 (AA m.d5 i)).og
    .rw[ae (by simpa using o),ae (by simpa using o),AE (by omega) (by omega),bs];by_cases r:AA m.d3 (AA p.d5 i).o4=(AA g.d5 (AA m.d5 i)).o4
     .rw[ae (by simpa using r),AE (by omega) (by omega),bs,bs];by_cases u:AA m.d3 (AA p.d5 i).To=(AA g.d5 (AA m.d5 i)).To
      .rw[ae (by simpa using u),ae (by simp[r,u])];rfl
      .rw[a6 (by simpa using u),a6 (.inr u)];rfl
     .rw[a6 (by simpa using r),bs,a6 rfl,a6 (.inl r)];rfl
    .rw[a6 (by simpa using o),a6 o];rfl
 .intro i j w _;unfold KK;rw[AE j w];simp only[bs,TQ];by_cases d:AA m.d3 i<0\/g.d3.length<=AA m.d3 i
  .rw[a6 (by simpa using d),a6 d];rfl
  .have B:=tp _ (AM (l:=p.d3) j (by omega));have y:=D _ (AM (l:=g.d3) (show 0<=AA m.d3 i by omega) (by omega));rw[ae (by simpa using d),ae d,AE (by omega) (by omega),bs,AE j (by omega),bs,Ub (DU hv) y.1 y.2 B.1,bs];cases JA t (AA g.d3 (AA m.d3 i)) (AA p.d3 i)<;>rfl
theorem Xo(hf:An t)(p g:d4)(m:d6)(inj:Bool):IN t p g m inj=some (GT t p g m inj):=by
 unfold IN GT;rw[Vj hf,bs];refine DV fun d=>?_;rw[iR d,bs]
variable{inj:Bool}
theorem Zd{p g:d4}(h:GT t p g m inj=0):F2 t p g=0/\Xv t p g m:=by grind[GT,dX]
end Go.Sf.Sc
namespace Go.Sf.Sc
open Go Go.Sf
section
variable{α σ ρ:Type}
def D7(step:α->σ->Bv σ ρ):List α->σ->σ ⊕ ρ
 |[],s=>.inl s|a::r,s=>match step a s with
  |.next s'=>D7 step r s'|.brk s'=>.inl s'|.ret r=>.inr r
variable{f:Int->σ->Option (Bv σ ρ)}
theorem TB[Inhabited α]{l:List α}(step:α->σ->Bv σ ρ)(I:σ->Prop)(h:∀(i:Int)s,0<=i->i<l.length->I s->f i s=some (step (AA l i) s)/\∀s',step (AA l i) s=.next s'->I s'):
  ∀(n:Nat)(a:Int)(s:σ),0<=a->a+n=l.length->I s->Aad f n a s=some (D7 step (l.drop a.toNat) s)
 |0,a,s,d,o,_=>by
  rw [List.drop_eq_nil_of_le (by omega)];rfl
 |n+1,a,s,d,o,u=>by
  obtain ⟨g,j⟩:=h a s d (by omega) u;have hd:l.drop a.toNat=AA l a::l.drop (a+1).toNat:=by
   grind [List.drop_eq_getElem_cons,AA,List.getElem?_eq_getElem]
  rw [Ft,g,hd,D7];cases e:step (AA l a) s with
  |next s'=>
   simp only;exact TB step I h n (a+1) s' (by omega) (by omega) (j s' e)
  |brk s'=>rfl|ret r=>rfl
theorem QW[Inhabited α]{l:List α}(step:α->σ->Bv σ ρ)(I:σ->Prop){s:σ}(d:I s)(h:∀(i:Int)s,0<=i->i<l.length->I s->f i s=some (step (AA l i) s)/\∀s',step (AA l i) s=.next s'->I s'):
  kq f 0 l.length s=some (D7 step l s):=by
 have:=TB step I h l.length 0 s (by omega) (by omega) d;unfold kq;rw[show((l.length:Int)-0).toNat=l.length by omega];exact this
theorem bR[Inhabited α](step:α->σ->Bv σ ρ)(I:σ->Prop):∀(l:List α)(s s':σ),I s->(∀a∈l,∀s s',I s->step a s=.next s'->I s')->(∀a∈l,∀s s',step a s≠.brk s')->D7 step l s=.inl s'->I s'
 |[],s,s',h,_,_,e=>by cases e;exact h
 |a::r,s,s',h,g,o,e=>by
  rw [D7]at e;split at e
  .rename_i s2 j;exact bR step I r s2 s' (g a (by simp) s s2 h j) (fun a d=>g a (by simp[d])) (fun a d=>o a (by simp[d])) e
  .grind
  .cases e
end
def C5(x:kp)(l:Fp):Int:=if x.Var<0 then x.Add else Aj (AA l x.Var+x.Add)
variable{x:kp}{l:Fp}
theorem TR(h:x.Var<l.length):EK x l=some (C5 x l):=by grind[EK,C5,AE]
theorem Ye(h:x.Var<l.length):IQ x l=some (C5 x l):=TR h
theorem aK(d:-1<=x.Var)(h:x.Var<l.length)(e:l.length<=1000):Eu x l=some (C5 x l,0):=by grind[Eu,Cb,Ar,TR]
theorem NX(d:-1<=x.Var)(h:x.Var<l.length):Ek x l=some (C5 x l,0):=by grind[Ek,Ye]
def J5(x:Test)(l:Fp):Bool:=(decide (x.mo=1)&&decide (C5 x.ne l<=C5 x.fq l))||(decide (x.mo=2)&&decide (C5 x.ne l=C5 x.fq l))
structure Ho(n:Int)(x:kp):Prop where
 low:-1<=x.Var
 high:x.Var<n
 add:-1000000<=x.Add/\x.Add<=1000000
def OU(l:Fp):Prop:=∀x∈l,-2000000<=x/\x<=2000000
variable{n:Int}
theorem SH(h:Ho n x)(d:OU l)(e:n<=l.length):C5 x l=(if x.Var<0 then x.Add else AA l x.Var+x.Add)/\-3000000<=C5 x l/\C5 x l<=3000000:=by
 unfold C5;have:=h.add;by_cases g:x.Var<0
 .grind
 .have hh:=h.high;have:=d _ (AM (l:=l) (show 0<=x.Var by omega) (by omega))
  grind [Ar]
theorem Yd(h:Ho n x)(d:n<=l.length):Jr x l=some (C5 x l,true):=by
 have e:=h.low;have g:=h.high
 grind [Jr,C5,AE]
theorem r_holds{x:Test}(e:Ho n x.ne)(g:Ho n x.fq)(d:n<=l.length):LI x l=some (J5 x l):=by
 unfold LI;rw[Yd e d,Yd g d];rfl
variable{a b:Int}
theorem Yt(j:-4000000<=a/\a<=4000000)(o:-4000000<=b/\b<=4000000):GI a b=some (if a+b<0 then(-1,a+b+18446744073709551616)else(0,a+b)):=by
 have d:∀c:Int,IntKind.u64.wrap c=c % 18446744073709551616:=fun c=>by
  simp [IntKind.wrap,IntKind.signed,IntKind.bits]
 have g:∀c:Int,-4000000<=c/\c<=4000000->LC .i64 .shr c 63=some (if c<0 then -1 else 0):=by
  intro c w;unfold LC;have e:c.fdiv (2^ (min (63:Int).toNat (IntKind.bits .i64)))=if c<0 then -1 else 0:=by
   show c.fdiv (2^ 63)=_
   grind
  simp only[e];have:(0:Int)<=63/\IntKind.min .i64<=(if c<0 then -1 else 0)/\(if c<0 then -1 else 0)<=IntKind.max .i64:=by
   split<;>decide
  rw [a6 this]
 unfold GI Hz;rw[d,d,a6 (by omega),bs,g a j,g b o,bs,bs];congr 1;have y:∀c:Int,-10<=c->c<=10->Aj c=c:=fun c r u=>Ar (by omega) (by omega)
 grind
def Jd(a:Int):Int×Int:=if a<0 then(-1,a+18446744073709551616)else(0,a)
theorem aM(h:Ho n x)(d:OU l)(o:n<=l.length):Ey x l=some ((Jd (C5 x l)).1,(Jd (C5 x l)).2,true):=by
 have r:=h.low;have u:=h.high;have w:=h.add;have g:=(SH h d o).1;unfold Ey;by_cases j:x.Var=-1
 .have e:C5 x l=x.Add:=by rw[g,a6 (by omega)]
  rw [e,a6 (by simpa using j),Yt (by omega) (by omega),bs,Int.zero_add];rfl
 .have:=d _ (AM (l:=l) (show 0<=x.Var by omega) (by omega));have e:C5 x l=AA l x.Var+x.Add:=by rw[g,ae (by omega)]
  rw [e,ae (by simpa using j),ae (by simp;omega),AE (by omega) (by omega),bs,Yt (by omega) (by omega),bs];rfl
theorem mN(a b:Int):Hr a b=some (if a<b then -1 else if b<a then 1 else 0):=by
 unfold Hr Jf
 grind
theorem uU(a b:Int):Hs a b=some (if a<b then -1 else if b<a then 1 else 0):=mN a b
theorem qJ(a b:Int):MN [a,b]=some (if a=0 then b else a):=by
 unfold MN;show gp (Aad _ 2 0 ()) _ _=_;rw[Ft,show idx [a,b] 0=some a from rfl,bs]
 grind [gp,Aad,Ft,idx]
theorem p_holds{x:Test}(g:Ho n x.ne)(j:Ho n x.fq)(d:OU l)(e:n<=l.length):Fe x l=some (J5 x l):=by
 have o:=(SH g d e).2;have s2:=(SH j d e).2;unfold Fe J5;rw[aM g d e,aM j d e];simp only[bs,Bool.not_true,Bool.or_self,Bool.false_eq_true,if_false,mN,uU,qJ];generalize C5 x.ne l=a at o;generalize C5 x.fq l=b at s2;have key:(if(if(Jd a).1<(Jd b).1 then(-1:Int)else if(Jd b).1<(Jd a).1 then 1 else 0)=0 then(if(Jd a).2<(Jd b).2 then(-1:Int)else if(Jd b).2<(Jd a).2 then 1 else 0)else(if(Jd a).1<(Jd b).1 then(-1:Int)else if(Jd b).1<(Jd a).1 then 1 else 0))=if a<b then -1 else if b<a then 1 else 0:=by
  grind [Jd]
 rw [key];congr 2
 .grind
 grind
end Go.Sf.Sc
namespace Go.Sf.Sc
open Go Go.Sf
structure SL(t:AC)(q:ec):Prop where
 g:D3 q.d4
 kind:∀n∈q.d4.d3,0<=n/\n<t.d3.length
 vars:0<=q.hV/\q.hV<=12
 few:q.gn.length<=10/\q.sx.length<=10
 slot:∀s∈q.gn,(0<=s.t5/\s.t5<q.d4.d3.length)/\(0<=s.ns/\s.ns<(A4 t (AA q.d4.d3 s.t5)).length)/\Ho q.hV s.kp
 test:∀x∈q.sx,(x.mo=1\/x.mo=2)/\Ho q.hV x.ne/\Ho q.hV x.fq
 ge:Bu q.d4=0
 ty:Cw t q.d4=true
variable{n:Int}{x:kp}
theorem l9(h:M7 n x=true):Ho n x:=by
 unfold M7 at h;simp only[pq,zzX]at h;exact⟨h.1.1.1,h.1.1.2,h.1.2,h.2⟩
theorem mA{l:List Test}(h:Jm n l=0):∀x∈l,(x.mo=1\/x.mo=2)/\Ho n x.ne/\Ho n x.fq:=by
 unfold Jm at h;split at h
 .cases h
 split at h
 .cases h
 have g:=WV h;intro x d;obtain⟨i,j,o,rfl⟩:=Be d;have:=g i j o;unfold N6 at this;split at this
 .cases this
 split at this
 .rename_i r e;rw[pq]at e
  grind [l9]
 .cases this
theorem fb(n:Int)(l:List Test):Jm n l≠9:=by
 unfold Jm;split
 .decide
 split
 .decide
 intro h;cases d:fst (fun i=>nz (N6 n (AA l i))) 0 l.length with
 |none=>rw[d]at h;cases h
 |some r=>
  grind [Cz,nz,N6]
variable{t:AC}{q:ec}
theorem kV(hv:(A2 t).2=0)(h:HV t q=0\/HV t q=9):SL t q:=by
 have y:=WX q.d4;unfold HV at h;rw[ae (by simp[hv])]at h;split at h
 .omega
 rename_i o;have g:=C2 (Classical.not_not.1 o);split at h
 .omega
 rename_i e;split at h
 .omega
 rename_i A;split at h
 .omega
 rename_i B;split at h
 .omega
 rename_i C;split at h
 .grind[fb]
 rename_i w;refine⟨g,(IV g (by simpa using e)).1,by omega,by omega,fun s z=>?_,mA (Classical.not_not.1 w),Classical.not_not.1 o,by simpa using e⟩;have j:Rb t q s=false:=by
  grind
 unfold Rb at j;simp only[Bool.or_eq_false_iff,Bool.not_eq_false',decide_eq_false_iff_not]at j;obtain⟨⟨⟨d,E⟩,F⟩,G,H⟩:=j;unfold Ra at d;dsimp only at d;split at d
 .cases d
 rename_i D;have u:=(IV g (by simpa using e)).1 _ (AM (l:=q.d4.d3) (show 0<=s.t5 by omega) (by omega));rw[I8 hv u.1 u.2]at d;split at d
 .cases d
 rename_i r;have r:¬(s.ns<0\/((A4 t (AA q.d4.d3 s.t5)).length:Int)<=s.ns):=r;exact⟨by omega,by omega,by omega,by omega,by omega,by omega⟩
def Lw(h:AH)(m:d6)(s:Cf):Int:=AA (AA h.fd (AA m.d3 s.t5)) s.ns
def N5(h:AH)(m:d6)(s:Cf)(st:Fp×a5):Fp×a5:=
 if 0<=s.kp.Var/\AA st.2 s.kp.Var=false then(BP st.1 s.kp.Var (Aj (Lw h m s-s.kp.Add)),BP st.2 s.kp.Var true)else st
def Em{ρ:Type}(r:ρ)(h:AH)(m:d6)(s:Cf)(st:Fp×a5):Bv (Fp×a5) ρ:=
 if C5 s.kp (N5 h m s st).1=Lw h m s then .next (N5 h m s st)else .ret r
structure VI(n:Int)(st:Fp×a5):Prop where
 l1:(st.1.length:Int)=n
 l2:(st.2.length:Int)=n
 small:OU st.1
structure Ih(n:Int)(h:AH)(m:d6)(s:Cf):Prop where
 node:0<=s.t5/\s.t5<m.d3.length
 val:0<=AA m.d3 s.t5/\AA m.d3 s.t5<h.fd.length
 AbI:0<=s.ns/\s.ns<(AA h.fd (AA m.d3 s.t5)).length
 term:Ho n s.kp
 has:-1000000<=Lw h m s/\Lw h m s<=1000000
variable{h:AH}{m:d6}{s:Cf}
theorem PH(g:GG t)(j:SL t q)(hh:If t h)(e:Xv t q.d4 h.d4 m)(o:s∈q.gn):Ih q.hV h m s:=by
 obtain ⟨u,w,y⟩:=j.slot s o;have z:=e.AaF;have d:=e.node s.t5 u.1 (by omega);have A:=hh.row _ d.1.1 d.1.2;have r:=hh.kind _ d.1.1 d.1.2;have B:=YN g r.2 d.2;have hv:=hh.len;refine⟨by omega,by omega,by omega,y,?_⟩;unfold Lw;exact hh.low _ d.1.1 d.1.2 _ (AM w.1 (by omega))
theorem SF{α:Type}(l:List α)(i:Int)(a:α):(BP l i a).length=l.length:=by unfold BP;rw[List.length_set]
variable{i:Int}
theorem lC{α:Type}{l:List α}{a x:α}(h:x∈BP l i a):x∈l\/x=a:=List.mem_or_eq_of_mem_set h
variable{st:Fp×a5}
theorem i7(e:Ih n h m s)(hi:VI n st):VI n (N5 h m s st):=by
 have g:=e.has;have j:=e.term.add;unfold N5;split
 .refine⟨by rw[SF];exact hi.l1,by rw[SF];exact hi.l2,fun x d=>?_⟩;rcases lC d with d|rfl
  .exact hi.small x d
  grind [Ar]
 .exact hi
def M5(q:ec)(h:AH)(m:d6):Fp×Int:=
 match D7 (Em (([],11):Fp×Int) h m) q.gn (List.replicate q.hV.toNat 0,List.replicate q.hV.toNat false)with
 |.inr r=>r|.inl st=>if pc (fun i=>!J5 (AA q.sx i) st.1) 0 q.sx.length=true then([],16)else(st.1,0)
theorem RS(d:0<=n):VI n (List.replicate n.toNat 0,List.replicate n.toNat false):=by
 refine ⟨by simp;omega,by simp;omega,fun x e=>?_⟩
 grind
variable{st':Fp×a5}
theorem OT{ρ:Type}{r:ρ}(d:Ih n h m s)(hi:VI n st)(e:Em r h m s st=.next st'):VI n st':=by grind[Em,i7]
theorem jA{ρ:Type}{r:ρ}:Em r h m s st≠.brk st':=by grind[Em]
theorem Nb{ρ:Type}{r:ρ}{l:List Cf}(d:∀s∈l,Ih n h m s)(hi:VI n st)(e:D7 (Em r h m) l st=.inl st'):VI n st':=
 bR (Em r h m) (VI n) l st st' hi (fun a g _ _ j o=>OT (d a g) j o) (fun _ _ _ _=>jA) e
theorem O2{ρ:Type}{r:ρ}(w:Ih n h m s)(hi:VI n st){T:Fp×a5->Option (Bv (Fp×a5) ρ)}
  (j:∀st':Fp×a5,(st'.1.length:Int)=n->T st'=some (if C5 s.kp st'.1=Lw h m s then .next st' else .ret r)):
  ((if(decide (0<=s.kp.Var))=true then((idx st.2 s.kp.Var).bind fun o=>some (!o))else some false).bind fun u=>
   if u=true then(idx st.1 s.kp.Var).bind fun _=>(idx st.2 s.kp.Var).bind fun _=>T (BP st.1 s.kp.Var (Aj (Lw h m s-s.kp.Add)),BP st.2 s.kp.Var true)else T (st.1,st.2))=some (Em r h m s st):=by
 have y:=w.term.high;have l1:=hi.l1;have l2:=hi.l2;unfold Em;by_cases d:0<=s.kp.Var
 .rw[a6 (by simpa using d),AE d (by omega),bs,bs];by_cases g:AA st.2 s.kp.Var=false
  .rw[a6 (by simp[g]),AE d (by omega),bs,bs,j _ (by dsimp only;rw[SF];exact l1)];have e:N5 h m s st=(BP st.1 s.kp.Var (Aj (Lw h m s-s.kp.Add)),BP st.2 s.kp.Var true):=by unfold N5;rw[a6 ⟨d,g⟩]
   rw [e]
  .rw[ae (by simpa using g),j _ l1];have e:N5 h m s st=st:=by unfold N5;rw[ae (fun e=>g e.2)]
   rw [e]
 .rw[ae (by simpa using d),bs,ae (by decide),j _ l1];have e:N5 h m s st=st:=by unfold N5;rw[ae (fun e=>d e.1)]
  rw [e]
theorem cL{ρ:Type}{r:ρ}(j:Ih n h m s)(hi:VI n st){T:Fp×a5->Option (Bv (Fp×a5) ρ)}
  (o:∀st':Fp×a5,(st'.1.length:Int)=n->T st'=some (if C5 s.kp st'.1=Lw h m s then .next st' else .ret r)):
  ((if(decide (0<=s.kp.Var))=true then((idx st.2 s.kp.Var).bind fun d=>some (!d))else some false).bind fun e=>
   if e=true then(idx st.2 s.kp.Var).bind fun _=>(idx st.1 s.kp.Var).bind fun _=>T (BP st.1 s.kp.Var (Aj (Lw h m s-s.kp.Add)),BP st.2 s.kp.Var true)else T (st.1,st.2))=some (Em r h m s st):=by
 rw [<-O2 j hi o];have u:=j.term.high;have l1:=hi.l1;have l2:=hi.l2;by_cases g:0<=s.kp.Var
 .rw[AE g (by omega),AE g (by omega)];rfl
 .rw[ae (by simpa using g)];rfl
variable{v:Int}
theorem Ym{t:kp}{f:kp->Fp->QQ}(hf:∀l:Fp,(l.length:Int)=n->f t l=some (C5 t l))(st':Fp×a5)(e:(st'.1.length:Int)=n):((f t st'.1).bind fun d=>if(!decide (d=v))=true then some (Bv.ret (([],11):Fp×Int))else some (.next st'))=some (if C5 t st'.1=v then .next st' else .ret ([],11)):=by grind
theorem oI(u:SL t q)(w:∀s∈q.gn,Ih q.hV h m s):Hq q h m=some (M5 q h m):=by
 have hv:=u.vars;unfold Hq M5 Is;rw[a6 (by omega),bs,a6 (by omega),bs];rw[QW (Em (([],11):Fp×Int) h m) (VI q.hV) (RS hv.1)]
 .cases z:D7 (Em (([],11):Fp×Int) h m) q.gn (List.replicate q.hV.toNat 0,List.replicate q.hV.toNat false)with
  |inr r=>rfl|inl st=>
   have hi:=Nb w (RS hv.1) z;rw[Br,BS (fun i=>!J5 (AA q.sx i) st.1) ([],16)]
   .dsimp only;cases pc (fun i=>!J5 (AA q.sx i) st.1) 0 q.sx.length<;>rfl
   .intro i g j _;have y:=u.test _ (AM g j);rw[AE g j,bs,p_holds y.2.1 y.2.2 hi.small (by have:=hi.l1;omega),bs]
    grind
 .intro i st g j hi;have d:=w _ (AM g j);refine⟨?_,fun s' e=>OT d hi e⟩;rw[AE g j,bs,AE d.node.1 d.node.2,bs,AE d.val.1 d.val.2,bs,AE d.AbI.1 d.AbI.2,bs];exact O2 d hi (T:=fun st'=>(EK (AA q.gn i).kp st'.1).bind fun o=>if(!decide (o=Lw h m (AA q.gn i)))=true then some (Bv.ret (([],11):Fp×Int))else some (.next st')) (Ym fun l A=>TR (by have:=d.term.high;omega))
theorem oa(u:SL t q)(w:∀s∈q.gn,Ih q.hV h m s):KZ q h m=some (M5 q h m):=by
 have hv:=u.vars;unfold KZ M5 Is;rw[a6 (by omega),bs,a6 (by omega),bs];rw[QW (Em (([],11):Fp×Int) h m) (VI q.hV) (RS hv.1)]
 .cases z:D7 (Em (([],11):Fp×Int) h m) q.gn (List.replicate q.hV.toNat 0,List.replicate q.hV.toNat false)with
  |inr r=>rfl|inl st=>
   have hi:=Nb w (RS hv.1) z;rw[Br,BS (fun i=>!J5 (AA q.sx i) st.1) ([],16)]
   .dsimp only;cases pc (fun i=>!J5 (AA q.sx i) st.1) 0 q.sx.length<;>rfl
   .intro i g j _;have y:=u.test _ (AM g j);rw[AE g j,bs,r_holds y.2.1 y.2.2 (by have:=hi.l1;omega),bs]
    grind
 .intro i st g j hi;have d:=w _ (AM g j);refine⟨?_,fun s' e=>OT d hi e⟩;rw[AE g j,bs,AE d.node.1 d.node.2,bs,AE d.val.1 d.val.2,bs,AE d.AbI.1 d.AbI.2,bs];exact cL d hi (T:=fun st'=>(IQ (AA q.gn i).kp st'.1).bind fun o=>if(!decide (o=Lw h m (AA q.gn i)))=true then some (Bv.ret (([],11):Fp×Int))else some (.next st')) (Ym fun l A=>Ye (by have:=d.term.high;omega))
def Qg(t:AC)(p:ec)(h:AH):Int:=if HV t p≠0 then HV t p else(Ia t h).2
theorem g9(hf:An t)(p:ec)(h:AH):EJ t p h=some (Qg t p h):=by
 unfold EJ Qg;rw[Ws hf,bs];refine DV fun _=>?_;rw[Wq hf];rfl
theorem iN(hf:An t)(p:ec)(h:AH):LP t p h=some (Qg t p h):=by
 unfold LP Qg;rw[ZK hf,bs];refine DV fun _=>?_;rw[Wz hf];rfl
def FX(t:AC)(p:ec)(h:AH)(m:d6):Fp×Int:=
 if Qg t p h≠0 then([],Qg t p h)else if GT t p.d4 h.d4 m false≠0 then([],GT t p.d4 h.d4 m false)else M5 p h m
variable{p:ec}{inj:Bool}
theorem VQ(hf:An t)(d:Qg t p h=0)(e:GT t p.d4 h.d4 m inj=0):(A2 t).2=0/\SL t p/\If t h/\Xv t p.d4 h.d4 m:=by
 unfold Qg at d;split at d
 .grind
 rename_i g;obtain⟨hv,hh⟩:=US hf d;exact⟨hv,kV hv (.inl (Classical.not_not.1 g)),hh,(Zd e).2⟩
theorem dB(hf:An t)(p:ec)(h:AH)(m:d6):De t p h m=some (FX t p h m):=by
 unfold De FX;rw[g9 hf,bs];refine Cg fun e=>?_;rw[Xi hf,bs];refine Cg fun g=>?_;obtain⟨hv,d,hh,o⟩:=VQ hf e g;rw[oI d (fun s j=>PH (DU hv) d hh o j)];rfl
theorem oM(hf:An t)(p:ec)(h:AH)(m:d6):LO t p h m=some (FX t p h m):=by
 unfold LO FX;rw[iN hf,bs];refine Cg fun e=>?_;rw[Xo hf,bs];refine Cg fun g=>?_;obtain⟨hv,d,hh,o⟩:=VQ hf e g;rw[oa d (fun s j=>PH (DU hv) d hh o j)];rfl
theorem jB(g:SL t q)(j:∀s∈q.gn,Ih q.hV h m s)(e:(M5 q h m).2=0):((M5 q h m).1.length:Int)=q.hV/\OU (M5 q h m).1:=by
 unfold M5 at e|-;cases d:D7 (Em (([],11):Fp×Int) h m) q.gn (List.replicate q.hV.toNat 0,List.replicate q.hV.toNat false)with
 |inr r=>
  rw [d]at e;have:∀(l:List Cf)(st:Fp×a5)(r:Fp×Int),D7 (Em (([],11):Fp×Int) h m) l st=.inr r->r=([],11):=by
   intro l
   induction l with
   |nil=>intro st r h;cases h
   |cons a l u=>
    grind [D7,Em]
  grind
 |inl st=>
  rw [d]at e;have hi:=Nb j (RS g.vars.1) d;dsimp only at e|-;split at e
  .cases e
  .rename_i o;rw[ae o];exact⟨hi.l1,hi.small⟩
end Go.Sf.Sc
namespace Go.Sf.Sc
open Go Go.Sf
variable{i:Int}
theorem Gt{n:Nat}{α:Type}[Inhabited α](F:Int->α)(d:0<=i)(v:α):BP ((Av n).map F) i v=(Av n).map fun j=>if j=i then v else F j:=by
 unfold BP;refine List.ext_getElem (by simp) (fun k e g=>?_)
 grind [BA,Av]
theorem CO{n:Nat}{α:Type}{F G:Int->α}(h:∀j,0<=j->j<(n:Int)->F j=G j):(Av n).map F=(Av n).map G:=by grind[List.map_congr_left,Es]
def Ga(n:Nat)(k:Int):a5:=(Av n).map fun j=>decide (j<k)
theorem Wd(n:Nat):Ga n 0=List.replicate n false:=by
 unfold Ga;refine List.ext_getElem (by simp[BA]) (fun k d e=>?_)
 grind [Av,BA]
theorem YO(n:Nat)(k:Int):(Ga n k).length=n:=by unfold Ga;rw[ca,BA]
def Ls(q:ec)(h:AH)(m:d6)(given:Fp):Fp×Bool:=
 match D7 (Em (([],false):Fp×Bool) h m) q.gn (given++List.replicate (q.hV-given.length).toNat 0,Ga q.hV.toNat given.length)with
 |.inr r=>r|.inl st=>if pc (fun i=>!J5 (AA q.sx i) st.1) 0 q.sx.length=true then([],false)else(st.1,true)
variable{n:Int}{given:Fp}
theorem Vz(e:0<=n)(g:given.length<=n)(hv:OU given):VI n (given++List.replicate (n-given.length).toNat 0,Ga n.toNat given.length):=by
 refine ⟨by simp;omega,by show((Ga n.toNat given.length).length:Int)=n;rw[YO];omega,fun x d=>?_⟩;rcases List.mem_append.1 d with d|d
 .exact hv x d
 grind
variable{q:ec}{m:d6}{t:AC}
theorem rG{s:As}(w:SL t q)(y:∀x∈q.gn,Ih q.hV s.h m x)(B:given.length<=q.hV)(hv:OU given):Do s q m given=some (Ls q s.h m given):=by
 have D:=w.vars;unfold Do Ls slices_Clone_int;rw[A1 (by unfold Ah;omega),bs,Ar (by omega) (by omega)];have E:VS given (q.hV-given.length) 0=some (given++List.replicate (q.hV-given.length).toNat 0):=by
  grind [VS,Ah]
 have F:Is q.hV false=some (List.replicate q.hV.toNat false):=by
  grind [Is]
 rw [E,bs,F,bs];have G:tc (fun(d:Int)(z:a5)=>(idx z d).bind fun C=>some (BP z d true)) 0 (given.length:Int) (List.replicate q.hV.toNat false)=some (Ga q.hV.toNat given.length):=by
  refine Bt (fun i=>Ga q.hV.toNat i) (by omega) (Wd _) (fun i d j=>?_);rw[AE d (by rw[YO];omega),bs];congr 1;unfold Ga;rw[Gt _ d]
  grind
 rw [G,bs];have u:=Vz D.1 B hv;rw[QW (Em (([],false):Fp×Bool) s.h m) (VI q.hV) u]
 .cases H:D7 (Em (([],false):Fp×Bool) s.h m) q.gn (given++List.replicate (q.hV-given.length).toNat 0,Ga q.hV.toNat given.length)with
  |inr r=>rfl|inl st=>
   have hi:=Nb y u H;rw[Br,BS (fun i=>!J5 (AA q.sx i) st.1) ([],false)]
   .dsimp only;cases pc (fun i=>!J5 (AA q.sx i) st.1) 0 q.sx.length<;>rfl
   .intro i d j _;have A:=w.test _ (AM d j);rw[AE d j,bs,p_holds A.2.1 A.2.2 hi.small (by have:=hi.l1;omega),bs]
    grind
 .intro i st d j hi;have g:=y _ (AM d j);refine⟨?_,fun s' e=>OT g hi e⟩;rw[AE d j,bs,AE g.node.1 g.node.2,bs,AE g.val.1 g.val.2,bs,AE g.AbI.1 g.AbI.2,bs];refine O2 g hi (T:=fun st'=>(Eu (AA q.gn i).kp st'.1).bind fun o=>if((!decide (o.2=0))||(!decide (o.1=Lw s.h m (AA q.gn i))))=true then some (Bv.ret (([],false):Fp×Bool))else some (.next st')) (fun st' I=>?_);rw[aK g.term.low (by have:=g.term.high;omega) (by omega),bs]
  grind
variable{h:AH}
theorem rc(C:SL t q)(D:∀x∈q.gn,Ih q.hV h m x)(I:given.length<=q.hV)(hv:OU given):Kb q h m given=some (Ls q h m given):=by
 have G:=C.vars;unfold Kb Ls;have L:Is q.hV false=some (List.replicate q.hV.toNat false):=by
  unfold Is;rw[a6 (by omega)]
 rw [A1 (by unfold Ah;omega),bs,L,bs];have H:tc (fun(d:Int)(u:Fp×a5)=>
   (idx u.2 d).bind fun J=>
   if (decide ((given.length:Int)<=d))=true then
   (Ak u.1 [0]).bind fun A=>
   some (A,BP u.2 d (decide (d<(given.length:Int))))
   else
   some (u.1,BP u.2 d (decide (d<(given.length:Int))))) 0 q.hV (given,List.replicate q.hV.toNat false)=some (given++List.replicate (q.hV-given.length).toNat 0,(Av q.hV.toNat).map fun j=>decide (j<q.hV)&&decide (j<(given.length:Int))):=by
  refine Bt (fun i=>(given++List.replicate (i-given.length).toNat 0,(Av q.hV.toNat).map fun j=>decide (j<i)&&decide (j<(given.length:Int)))) G.1 ?_ (fun i d o=>?_)
  .have M:((0:Int)-given.length).toNat=0:=by omega
   rw [M];simp only[List.replicate_zero,List.append_nil,Prod.mk.injEq,true_and];rw[<-Wd];unfold Ga;refine CO (fun j E F=>?_);rw[show decide (j<0)=false by simp;omega];rfl
  .dsimp only;rw[AE d (by rw[ca,BA];omega),bs];have N:BP ((Av q.hV.toNat).map fun j=>decide (j<i)&&decide (j<(given.length:Int))) i (decide (i<(given.length:Int)))=(Av q.hV.toNat).map fun j=>decide (j<i+1)&&decide (j<(given.length:Int)):=by
    rw [Gt _ d];refine CO (fun j E F=>?_);by_cases e:j=i
    .rw[a6 e,e,show decide (i<i+1)=true by simp;omega,Bool.true_and]
    .rw[ae e];congr 1;rw[decide_eq_decide];omega
   rw [N];by_cases hi:(given.length:Int)<=i
   .rw[a6 (by simpa using hi),Ai (by simp;unfold Ah;omega),bs];congr 2;rw[ci,show(i+1-given.length).toNat=(i-given.length).toNat+1 by omega,List.replicate_succ']
   .rw[ae (by simpa using hi)];have O:(i+1-given.length).toNat=(i-given.length).toNat:=by omega
    rw [O]
 have B:((Av q.hV.toNat).map fun j=>decide (j<q.hV)&&decide (j<(given.length:Int)))=Ga q.hV.toNat given.length:=by
  unfold Ga;refine CO (fun j E F=>?_);rw[show decide (j<q.hV)=true by simp;omega,Bool.true_and]
 rw [B]at H;rw[H,bs];have y:=Vz G.1 I hv;dsimp only;rw[QW (Em (([],false):Fp×Bool) h m) (VI q.hV) y]
 .cases P:D7 (Em (([],false):Fp×Bool) h m) q.gn (given++List.replicate (q.hV-given.length).toNat 0,Ga q.hV.toNat given.length)with
  |inr r=>rfl|inl st=>
   have hi:=Nb D y P;rw[Br,BS (fun i=>!J5 (AA q.sx i) st.1) ([],false)]
   .dsimp only;cases pc (fun i=>!J5 (AA q.sx i) st.1) 0 q.sx.length<;>rfl
   .intro i d o _;have z:=C.test _ (AM d o);have K:=hi.l1;rw[AE d o,bs,NX z.2.1.low (by have:=z.2.1.high;omega),bs,NX z.2.2.low (by have:=z.2.2.high;omega),bs,<-II];unfold J5;dsimp only;congr 1;generalize C5 (AA q.sx i).ne st.1=a;generalize C5 (AA q.sx i).fq st.1=b;rcases z.1 with e|e
    .rw[e,eq_iff_iff];simp
    .rw[e,eq_iff_iff];simp
 .intro i st d o hi;have g:=D _ (AM d o);refine⟨?_,fun s' e=>OT g hi e⟩;rw[AE d o,bs,AE g.node.1 g.node.2,bs,AE g.val.1 g.val.2,bs,AE g.AbI.1 g.AbI.2,bs];refine O2 g hi (T:=fun st'=>(Ek (AA q.gn i).kp st'.1).bind fun w=>if(!decide (w.1=Lw h m (AA q.gn i)))=true then some (Bv.ret (([],false):Fp×Bool))else some (.next st')) (fun st' K=>?_);rw[NX g.term.low (by have:=g.term.high;omega),bs];by_cases e:C5 (AA q.gn i).kp st'.1=Lw h m (AA q.gn i)
  .rw[ae (by simp[e]),a6 e]
  .rw[a6 (by simp[e]),ae e]
theorem mE(j:SL t q)(o:∀s∈q.gn,Ih q.hV h m s)(u:given.length<=q.hV)(hv:OU given)(e:(Ls q h m given).2=true):((Ls q h m given).1.length:Int)=q.hV/\OU (Ls q h m given).1:=by
 unfold Ls at e|-;have d:=Vz j.vars.1 u hv;cases g:D7 (Em (([],false):Fp×Bool) h m) q.gn (given++List.replicate (q.hV-given.length).toNat 0,Ga q.hV.toNat given.length)with
 |inr r=>
  rw [g]at e;have:∀(l:List Cf)(st:Fp×a5)(r:Fp×Bool),D7 (Em (([],false):Fp×Bool) h m) l st=.inr r->r=([],false):=by
   intro l
   induction l with
   |nil=>intro st r h;cases h
   |cons a l y=>
    grind [D7,Em]
  grind
 |inl st=>
  rw [g]at e;have hi:=Nb o d g;dsimp only at e|-;split at e
  .cases e
  .rename_i w;rw[ae w];exact⟨hi.l1,hi.small⟩
def TS(n:Nat)(by' images:Fp):Fp:=(Av by'.length).foldl (fun l i=>BP l (AA by' i) (AA images i)) (List.replicate n (-1))
theorem YB(d images:Fp):∀(e:Fp)(l:Fp),(e.foldl (fun l i=>BP l (AA d i) (AA images i)) l).length=l.length
 |[],l=>rfl|k::e,l=>by rw[List.foldl_cons,YB d images e,SF]
theorem Ww{n:Nat}{d images:Fp}(y:∀x∈d,0<=x/\x<n)(z:d.length<=images.length):tc (fun(g:Int)(o:Fp)=>
  (idx d g).bind fun e=>
  (idx images g).bind fun j=>
  (idx o e).bind fun r=>
  some (BP o e j)) 0 (d.length:Int) (List.replicate n (-1))=some (TS n d images):=by
 have h:=Bt (f:=fun(g:Int)(o:Fp)=>
  (idx d g).bind fun e=>
  (idx images g).bind fun j=>
  (idx o e).bind fun r=>
  some (BP o e j)) (fun i=>(Av i.toNat).foldl (fun l i=>BP l (AA d i) (AA images i)) (List.replicate n (-1))) (a:=0) (b:=d.length) (s:=List.replicate n (-1)) (by omega) rfl (fun i g u=>by
   have w:=y _ (AM g u);rw[AE g u,bs,AE g (by omega),bs,AE w.1 (by rw[YB];simpa using w.2),bs,Fy g,List.foldl_append];rfl)
 rw [h,Int.toNat_natCast];rfl
theorem aQ{n:Nat}{d images:Fp}(j:n<=1000)(e:∀x∈d,0<=x/\x<n)(g:d.length<=images.length):Fa n d images=some (TS n d images):=by
 unfold Fa EH;rw[a6 ⟨rfl,by omega,by omega⟩,bs];show(tc _ 0 _ (List.replicate (n:Int).toNat (-1))).bind _=_;rw[Int.toNat_natCast,Ww e g];rfl
theorem af{n:Nat}{d images:Fp}(j:n<=1000)(e:∀x∈d,0<=x/\x<n)(g:d.length<=images.length):I2 n d images=some (TS n d images):=by
 unfold I2;rw[Bt (a:=0) (b:=n) (s:=[]) (fun i=>List.replicate i.toNat (-1)) (by omega) rfl,bs,Int.toNat_natCast,Ww e g]
 .rfl
 .intro i o r;rw[Ai (by simp;unfold Ah;omega),bs,show(i+1).toNat=i.toNat+1 by omega,List.replicate_succ']
end Go.Sf.Sc
namespace Go.Sf.Sc
open Go Go.Sf
structure mI(f:AL):Prop where
 nl:f.ei.length<=f.p.d3.length
 node:∀i:Int,0<=i->i<f.ei.length->(0<=AA f.ei i/\AA f.ei i<f.g.d3.length)/\AA (AA f.is (AA f.p.d3 i)) (AA f.g.d3 (AA f.ei i))=true
 edge:∀i:Int,0<=i->i<f.ek.length->(0<=AA f.ek i/\AA f.ek i<f.g.d5.length)/\AA f.g.d5 (AA f.ek i)=⟨(AA f.p.d5 i).og,AA f.ei (AA f.p.d5 i).o4,AA f.ei (AA f.p.d5 i).To⟩
 inj:f.ej=true->f.ei.Nodup/\f.ek.Nodup
structure dw(f:AL)(m:d6):Prop where
 nl:m.d3.length=f.p.d3.length
 el:m.d5.length=f.p.d5.length
 node:∀i:Int,0<=i->i<m.d3.length->(0<=AA m.d3 i/\AA m.d3 i<f.g.d3.length)/\AA (AA f.is (AA f.p.d3 i)) (AA f.g.d3 (AA m.d3 i))=true
 edge:∀i:Int,0<=i->i<m.d5.length->(0<=AA m.d5 i/\AA m.d5 i<f.g.d5.length)/\AA f.g.d5 (AA m.d5 i)=⟨(AA f.p.d5 i).og,AA m.d3 (AA f.p.d5 i).o4,AA m.d3 (AA f.p.d5 i).To⟩
 inj:f.ej=true->m.d3.Nodup/\m.d5.Nodup
variable{i:Int}
theorem cU{α:Type}[Inhabited α](l:List α)(x:α)(h:i=l.length):AA (l++[x]) i=x:=by grind[L4]
variable{l:Fp}{k:Int}
theorem Wj{b:Bool}(h:(!(b&&l.any fun x=>decide (k=x)))=true)(d:b=true)(e:l.Nodup):(l++[k]).Nodup:=by grind
theorem Xw:∀(n:Nat)(f:AL),mI f->f.ei.length=f.p.d3.length->f.ek.length+n=f.p.d5.length->∀m∈EU n f,dw f m
 |0,f,j,z,he,m,d=>by
  rw [EU,List.mem_singleton]at d;subst d;exact⟨z,by simpa using he,j.node,j.edge,j.inj⟩
 |n+1,f,j,z,he,m,d=>by
  rw [EU,List.mem_flatMap]at d;obtain⟨k,w,d⟩:=d;have w:=Es.1 w;split at d
  .rename_i o;unfold SQ at o;rw[pq]at o;obtain⟨r,y⟩:=o;rw[Vs,pq,zzX]at r;have:=Xw n {f with ek:=f.ek++[k]} ⟨j.nl,j.node,fun i A u=>by
    have u:i<((f.ek++[k]).length:Int):=u;simp only[bk,List.length_singleton]at u;show(0<=AA (f.ek++[k]) i/\AA (f.ek++[k]) i<f.g.d5.length)/\AA f.g.d5 (AA (f.ek++[k]) i)=⟨(AA f.p.d5 i).og,AA f.ei (AA f.p.d5 i).o4,AA f.ei (AA f.p.d5 i).To⟩;by_cases e:i=f.ek.length
    .rw[cU _ _ e];exact⟨w,by rw[e];exact r.2⟩
    .rw[ZX _ _ A (by omega)];exact j.edge i A (by omega),fun hi=>⟨(j.inj hi).1,Wj y hi (j.inj hi).2⟩⟩ z (by show(f.ek++[k]).length+n=f.p.d5.length;rw[bk,List.length_singleton];omega) m d
   exact ⟨this.nl,this.el,this.node,this.edge,this.inj⟩
  .cases d
theorem Xx:∀(n:Nat)(f:AL),mI f->f.ek=[]->f.ei.length+n=f.p.d3.length->∀m∈GQ n f,dw f m
 |0,f,r,he,A,m,o=>by
  grind [GQ,Xw]
 |n+1,f,r,he,A,m,o=>by
  rw [GQ,List.mem_flatMap]at o;obtain⟨k,w,o⟩:=o;have w:=Es.1 w;split at o
  .rename_i j;unfold SR at j;rw[pq,pq]at j;obtain⟨⟨_,y⟩,z⟩:=j;have:=Xx n {f with ei:=f.ei++[k]} ⟨by show(f.ei++[k]).length<=f.p.d3.length;rw[bk,List.length_singleton];omega,fun i u d=>by
    have d:i<((f.ei++[k]).length:Int):=d;simp only[bk,List.length_singleton]at d;show(0<=AA (f.ei++[k]) i/\AA (f.ei++[k]) i<f.g.d3.length)/\AA (AA f.is (AA f.p.d3 i)) (AA f.g.d3 (AA (f.ei++[k]) i))=true;by_cases e:i=f.ei.length
    .rw[cU _ _ e];exact⟨w,by rw[e];exact y⟩
    .rw[ZX _ _ u (by omega)];exact r.node i u (by omega),fun i u d=>by
    have d:i<(f.ek.length:Int):=d;rw[he]at d;have:i<(0:Nat):=d;omega,fun hi=>⟨Wj z hi (r.inj hi).1,(r.inj hi).2⟩⟩ he (by show(f.ei++[k]).length+n=f.p.d3.length;rw[bk,List.length_singleton];omega) m o
   exact ⟨this.nl,this.el,this.node,this.edge,this.inj⟩
  .cases o
variable{t:AC}{pa:d6}{inj:Bool}{m:d6}
theorem eR{p g:d4}(e:m∈OB t p g pa inj):dw (FF t p g pa inj) m:=
 Xx _ (FF t p g pa inj) ⟨Nat.zero_le _,fun i j d=>by have d:i<(0:Nat):=d;omega,fun i j d=>by have d:i<(0:Nat):=d;omega,fun _=>⟨List.nodup_nil,List.nodup_nil⟩⟩ rfl (by show 0+p.d3.length=p.d3.length;omega) m (List.mem_of_mem_take e)
theorem j6{p g:d4}(h:F2 t p g=0)(u:m∈OB t p g pa inj):Xv t p g m:=by
 obtain ⟨hv,A,B,tp,w⟩:=NP h;have:=eR u;refine⟨this.nl,this.el,fun i d e=>?_,fun i d e=>(this.edge i d e).1⟩;obtain⟨j,r⟩:=this.node i d e;refine⟨j,?_⟩;have o:=this.nl;have y:=tp _ (AM (l:=p.d3) d (by show i<(p.d3.length:Int);have o:m.d3.length=p.d3.length:=o;omega));have z:=w _ (AM (l:=g.d3) j.1 j.2);have r:AA (AA (JZ t) (AA p.d3 i)) (AA g.d3 (AA m.d3 i))=true:=r
 grind [AA,JZ,M1,Hi,JA]
theorem Zl{p g:d4}(h:(Ri t p g pa inj).2=0):(Ri t p g pa inj).1.length<=5000/\∀m∈(Ri t p g pa inj).1,Xv t p g m:=by grind[Ri,j6]
structure V1(t:AC)(p:ec)(h:AH)(x:AO):Prop where
 q:SL t p
 m:Xv t p.d4 h.d4 x.d6
 len:(x.hV.length:Int)=p.hV
 small:OU x.hV
structure fm(t:AC)(p:ec)(c:d7):Prop where
 q:SL t c.ec
 vars:p.hV<=c.ec.hV
 map:Y5 p.d4 c.ec.d4 c.Map
 inj:KM c.Map=true
def Df(t:AC)(c:d7)(h:AH)(m:AO)(inj:Bool):List AO×Int:=
 let x:=Ri t c.ec.d4 h.d4 ⟨TS c.ec.d4.d3.length c.Map.d3 m.d6.d3,TS c.ec.d4.d5.length c.Map.d5 m.d6.d5⟩ inj
 if x.2≠0 then([],x.2)else((x.1.filter fun y=>(Ls c.ec h y m.hV).2).map fun y=>⟨y,(Ls c.ec h y m.hV).1⟩,0)
instance:Inhabited d6:=⟨⟨[],[]⟩⟩
instance:Inhabited AO:=⟨⟨default,[]⟩⟩
instance:Inhabited A6:=⟨⟨0,default,[]⟩⟩
theorem VC{x:List d6}{F:d6->Fp×Bool}{f:Int->List AO->Option (List AO)}(o:x.length<=5000)
  (hf:∀(i:Int)(s:List AO),0<=i->i<x.length->s.length<=5000->f i s=some (if(F (AA x i)).2=true then s++[⟨AA x i,(F (AA x i)).1⟩]else s)):
  tc f 0 (x.length:Int) []=some ((x.filter fun y=>(F y).2).map fun y=>⟨y,(F y).1⟩):=by
 rw [Bt (a:=0) (b:=x.length) (s:=[]) (fun i=>((x.take i.toNat).filter fun y=>(F y).2).map fun y=>(⟨y,(F y).1⟩:AO)) (by omega) rfl,Int.toNat_natCast,List.take_length];intro i d e;have g:(((x.take i.toNat).filter fun y=>(F y).2).map fun y=>(⟨y,(F y).1⟩:AO)).length<=5000:=by
  grind
 rw [hf i _ d e g,Bx d e,List.filter_append,List.map_append];cases j:(F (AA x i)).2<;>simp[j]
variable{p:ec}{c:d7}
theorem qu{s:As}{m:AO}(hf:An s.t)(hv:(A2 s.t).2=0)(hh:If s.t s.h)(o:V1 s.t p s.h m)(hi:fm s.t p c):Bw s c m=some (Df s.t c s.h m s.ej):=by
 have C:=hi.q.g.ei;have ge:=hi.q.g.ek;have m1:=hi.map.AaF;have D:=hi.map.AaP;have E:=o.m.AaF;have G:=o.m.AaP;unfold Bw Df;rw[aQ (by omega) (fun x j=>by obtain⟨i,d,e,rfl⟩:=Be j;exact(hi.map.node i d e).1) (by omega),bs,
  aQ (by omega) (fun x j=>by obtain⟨i,d,e,rfl⟩:=Be j;exact(hi.map.edge i d e).1) (by omega),bs,kP hf,bs]
 dsimp only;refine Cg fun r=>?_;obtain⟨z,A⟩:=Zl r;rw[VC (F:=fun y=>Ls c.ec s.h y m.hV) z]
 .rfl
 .intro i st d e B;have u:=A _ (AM d e);have w:(m.hV.length:Int)<=c.ec.hV:=by have:=o.len;have:=hi.vars;omega
  rw [AE d e,bs,rG hi.q (fun x j=>PH (DU hv) hi.q hh u j) w o.small,bs,<-II]
  grind [Ai,Ah]
variable{h:AH}
theorem rP{m:AO}(hf:An t)(hv:(A2 t).2=0)(hh:If t h)(o:V1 t p h m)(hi:fm t p c):HC t c h m inj=some (Df t c h m inj):=by
 have C:=hi.q.g.ei;have ge:=hi.q.g.ek;have m1:=hi.map.AaF;have D:=hi.map.AaP;have E:=o.m.AaF;have G:=o.m.AaP;unfold HC Df;rw[af (by omega) (fun x j=>by obtain⟨i,d,e,rfl⟩:=Be j;exact(hi.map.node i d e).1) (by omega),bs,
  af (by omega) (fun x j=>by obtain⟨i,d,e,rfl⟩:=Be j;exact(hi.map.edge i d e).1) (by omega),bs,kY hf,bs]
 dsimp only;refine Cg fun r=>?_;obtain⟨z,A⟩:=Zl r;rw[VC (F:=fun y=>Ls c.ec h y m.hV) z]
 .rfl
 .intro i st d e B;have u:=A _ (AM d e);have w:(m.hV.length:Int)<=c.ec.hV:=by have:=o.len;have:=hi.vars;omega
  rw [AE d e,bs,rc hi.q (fun x j=>PH (DU hv) hi.q hh u j) w o.small,bs,<-II]
  grind [Ai,Ah]
theorem cg{m:AO}(hv:(A2 t).2=0)(hh:If t h)(j:V1 t p h m)(hi:fm t p c)(e:(Df t c h m inj).2=0):(Df t c h m inj).1.length<=5000/\∀x∈(Df t c h m inj).1,V1 t c.ec h x:=by
 unfold Df at e|-;dsimp only at e|-;split at e
 .grind
 rename_i o;rw[ae o];obtain⟨w,z⟩:=Zl (Classical.not_not.1 o);refine⟨by dsimp only;rw[ca];exact Nat.le_trans (List.length_filter_le _ _) w,fun x d=>?_⟩;dsimp only at d;rw[List.mem_map]at d;obtain⟨y,g,rfl⟩:=d;rw[List.mem_filter]at g;have r:=z y g.1;have u:(m.hV.length:Int)<=c.ec.hV:=by have:=j.len;have:=hi.vars;omega
 have:=mE hi.q (fun x d=>PH (DU hv) hi.q hh r d) u j.small g.2;exact⟨hi.q,r,this.1,this.2⟩
end Go.Sf.Sc
namespace Go.Sf.Sc
open Go Go.Sf
inductive CV(t:AC):ec->d7->Prop where
 |mk (p:ec) (c:d7) (few:c.hT.length<=40) (rng:1<=c.mo/\c.mo<=5) (one:c.mo=2\/c.mo=5->c.hT.length=1) (ins:c.mo=5->fm t p c) (kids:∀k∈c.hT,CV t (if c.mo=5 then c.ec else p) k):CV t p c
variable{t:AC}{p:ec}{c:d7}
theorem CV.few(h:CV t p c):c.hT.length<=40:=by cases h;assumption
theorem CV.rng(h:CV t p c):1<=c.mo/\c.mo<=5:=by cases h;assumption
theorem CV.one(h:CV t p c):c.mo=2\/c.mo=5->c.hT.length=1:=by cases h;assumption
theorem CV.ins(h:CV t p c):c.mo=5->fm t p c:=by cases h;assumption
theorem CV.kids(h:CV t p c):∀k∈c.hT,CV t (if c.mo=5 then c.ec else p) k:=by cases h;assumption
theorem CV.kid(h:CV t p c)(d:¬c.mo=5):∀k∈c.hT,CV t p k:=fun k e=>by have:=h.kids k e;rwa[ae d]at this
theorem CV.kid5(h:CV t p c)(d:c.mo=5):∀k∈c.hT,CV t c.ec k:=fun k e=>by have:=h.kids k e;rwa[a6 d]at this
theorem Sz:∀l:List d7,l.length<=Qw l
 |[]=>by simp|c::l=>by
  have:=Sz l
  grind [Qw,Eo,S0,c7]
variable{q:ec}{v:Int}
theorem uZ(hv:(A2 t).2=0)(h:TF t q v=0):SL t q:=by grind[TF,kV]
theorem mO(hv:(A2 t).2=0):∀(N:Nat)(c:d7)(p:ec),SizeOf.sizeOf c<=N->Eo c<=40->RU N c=true->KD N t p c=0->CV t p c
 |0,c,_,h,_,_,_=>by have:=EQ c;omega|N+1,c,p,h,M,z,ho=>by
  have E:=S0 c;have F:=Sz c.hT;rw[RU,pq]at z;obtain⟨u,o⟩:=z;have d:c.mo=2\/c.mo=5->c.hT.length=1:=by
   intro j;unfold Rs at u
   grind
  have g:1<=c.mo/\c.mo<=5:=by
   grind [Rs]
  have w:∀q,(fst (fun i=>nz (KD N t q (AA c.hT i))) 0 c.hT.length).getD 0=0->∀k∈c.hT,CV t q k:=by
   intro q A k j;have G:=WV A;have K:=VX j;have L:=FN j;rw[List.all_eq_true]at o;obtain⟨i,H,I,e⟩:=Be j;have y:=G i H I;rw[e]at y;exact mO hv N k q (by omega) (by omega) (o k j) y
  rw [KD]at ho;by_cases r:c.mo=5
  .rw[a6 r]at ho;split at ho
   .cases ho
   rename_i J;split at ho
   .grind
   rename_i B;split at ho
   .grind
   rename_i C;split at ho
   .cases ho
   rename_i D;refine CV.mk p c (by omega) g d (fun _=>⟨uZ hv (Classical.not_not.1 B),by omega,UT (Classical.not_not.1 C),by simpa using D⟩) ?_
   grind
  .rw[ae r]at ho;refine CV.mk p c (by omega) g d (fun e=>absurd e r) ?_
   grind
section
variable{α σ ρ:Type}
variable{f:Int->σ->Option (Bv σ ρ)}
theorem SO[Inhabited α]{l:List α}(step:α->σ->Bv σ ρ)(I:Int->σ->Prop)(h:∀(i:Int)s,0<=i->i<l.length->I i s->f i s=some (step (AA l i) s)/\∀s',step (AA l i) s=.next s'->I (i+1) s'):
  ∀(n:Nat)(a:Int)(s:σ),0<=a->a+n=l.length->I a s->Aad f n a s=some (D7 step (l.drop a.toNat) s)
 |0,a,s,d,o,_=>by
  rw [List.drop_eq_nil_of_le (by omega)];rfl
 |n+1,a,s,d,o,u=>by
  obtain ⟨g,j⟩:=h a s d (by omega) u;have hd:l.drop a.toNat=AA l a::l.drop (a+1).toNat:=by
   grind [List.drop_eq_getElem_cons,AA,List.getElem?_eq_getElem]
  rw [Ft,g,hd,D7];cases e:step (AA l a) s with
  |next s'=>
   simp only;exact SO step I h n (a+1) s' (by omega) (by omega) (j s' e)
  |brk s'=>rfl|ret r=>rfl
theorem WS[Inhabited α]{l:List α}(step:α->σ->Bv σ ρ)(I:Int->σ->Prop){s:σ}(d:I 0 s)(h:∀(i:Int)s,0<=i->i<l.length->I i s->f i s=some (step (AA l i) s)/\∀s',step (AA l i) s=.next s'->I (i+1) s'):
  kq f 0 l.length s=some (D7 step l s):=by
 have:=SO step I h l.length 0 s (by omega) (by omega) d;unfold kq;rw[show((l.length:Int)-0).toNat=l.length by omega];exact this
theorem XJ{d s2:α->σ->Bv σ ρ}:∀{l:List α}{s:σ},(∀a∈l,d a=s2 a)->D7 d l s=D7 s2 l s
 |[],_,_=>rfl|a::l,s,h=>by
  rw [D7,D7,h a (by simp)];split
  .exact XJ fun b e=>h b (by simp[e])
  .rfl
  .rfl
end
abbrev zM:AO:=⟨⟨[],[]⟩,[]⟩
abbrev zP:A6:=⟨0,zM,[]⟩
def MJ(w:d7->A6×Int)(k:d7)(s:A6×A6):Bv (A6×A6) (A6×Int):=
 if (w k).2≠0 then .ret (zP,(w k).2)else .next (s.1,⟨s.2.AaB,s.2.o3,s.2.hT++[(w k).1]⟩)
def Sj(w:d7->A6×Int)(l:List d7):A6×Int:=
 match D7 (MJ w) l (zP,zP)with
 |.inl s=>(s.2,0)|.inr r=>r
def Cn(t:AC)(h:AH)(inj:Bool):Nat->d7->AO->A6×Int
 |0,_,_=>(zP,0)|N+1,c,m=>
  if c.mo=2 then(if(Cn t h inj N (AA c.hT 0) m).2=0 then(zP,10)else if(Cn t h inj N (AA c.hT 0) m).2=10 then(zP,0)else(zP,(Cn t h inj N (AA c.hT 0) m).2))else
  if c.mo=3 then Sj (fun k=>Cn t h inj N k m) c.hT else
  if c.mo=4 then(fst (fun i=>if(Cn t h inj N (AA c.hT i) m).2=0 then some (⟨i,zM,[(Cn t h inj N (AA c.hT i) m).1]⟩,0)else if(Cn t h inj N (AA c.hT i) m).2≠10 then some (zP,(Cn t h inj N (AA c.hT i) m).2)else none) 0 c.hT.length).getD (zP,10)else
  if c.mo=5 then
   (if(Df t c h m inj).2≠0 then(zP,(Df t c h m inj).2)else
   (fst (fun i=>if(Cn t h inj N (AA c.hT 0) (AA (Df t c h m inj).1 i)).2=0 then some (⟨0,AA (Df t c h m inj).1 i,[(Cn t h inj N (AA c.hT 0) (AA (Df t c h m inj).1 i)).1]⟩,0)else
    if (Cn t h inj N (AA c.hT 0) (AA (Df t c h m inj).1 i)).2≠10 then some (zP,(Cn t h inj N (AA c.hT 0) (AA (Df t c h m inj).1 i)).2)else none) 0 (Df t c h m inj).1.length).getD (zP,10))else
  (zP,0)
def Cm(t:AC)(h:AH)(inj:Bool):Nat->d7->AO->A6×Int
 |0,_,_=>(zP,0)|N+1,c,m=>
  if c.mo=2 then(if(Cm t h inj N (AA c.hT 0) m).2=0 then(zP,10)else if(Cm t h inj N (AA c.hT 0) m).2=10 then(zP,0)else(zP,(Cm t h inj N (AA c.hT 0) m).2))else
  if c.mo=3 then Sj (fun k=>Cm t h inj N k m) c.hT else
  if c.mo=4 then(fst (fun i=>if(Cm t h inj N (AA c.hT i) m).2≠10 then some (⟨i,zM,[(Cm t h inj N (AA c.hT i) m).1]⟩,(Cm t h inj N (AA c.hT i) m).2)else none) 0 c.hT.length).getD (zP,10)else
  if c.mo=5 then
   (if(Df t c h m inj).2≠0 then(zP,(Df t c h m inj).2)else
   (fst (fun i=>if(Cm t h inj N (AA c.hT 0) (AA (Df t c h m inj).1 i)).2≠10 then some (⟨0,AA (Df t c h m inj).1 i,[(Cm t h inj N (AA c.hT 0) (AA (Df t c h m inj).1 i)).1]⟩,(Cm t h inj N (AA c.hT 0) (AA (Df t c h m inj).1 i)).2)else none) 0 (Df t c h m inj).1.length).getD (zP,10))else
  (zP,0)
def K8(x:A6×Int):A6×Int:=if x.2=0 then x else(zP,x.2)
theorem gm(x:A6×Int):(K8 x).2=x.2:=by unfold K8;split<;>rfl
theorem gl{x:A6×Int}(h:x.2=0):(K8 x).1=x.1:=by unfold K8;rw[a6 h]
theorem jn(w:d7->A6×Int)(l:List d7):K8 (Sj w l)=Sj w l:=by
 unfold Sj;have:∀(l:List d7)(s:A6×A6)(r:A6×Int),D7 (MJ w) l s=.inr r->K8 r=r:=by
  intro l
  induction l with
  |nil=>intro s r h;cases h
  |cons a l j=>
   intro s r h;rw[D7]at h;split at h
   .exact j _ _ h
   .cases h
   .rename_i o d;cases h;unfold MJ at d;split at d
    .rename_i e;cases d;unfold K8;rw[ae e]
    .cases d
 cases g:D7 (MJ w) l (zP,zP)with
 |inl s=>rfl|inr r=>exact this _ _ _ g
theorem YF(o:Option (A6×Int)):K8 (o.getD (zP,10))=(o.map K8).getD (zP,10):=by cases o<;>rfl
theorem dn(t:AC)(h:AH)(inj:Bool):∀(N:Nat)(c:d7)(m:AO),Cn t h inj N c m=K8 (Cm t h inj N c m)
 |0,_,_=>rfl|N+1,c,m=>by
  have w:=dn t h inj N;have key:∀(c:d7)(m:AO),(Cn t h inj N c m).2=(Cm t h inj N c m).2:=fun c m=>by rw[w,gm]
  have pick:∀(k:d7)(m x:AO)(i:Int),(if(Cn t h inj N k m).2=0 then some ((⟨i,x,[(Cn t h inj N k m).1]⟩:A6),(0:Int))else if(Cn t h inj N k m).2≠10 then some (zP,(Cn t h inj N k m).2)else none)=(if(Cm t h inj N k m).2≠10 then some ((⟨i,x,[(Cm t h inj N k m).1]⟩:A6),(Cm t h inj N k m).2)else none).map K8:=by
   intro k m x i;rw[key];by_cases d:(Cm t h inj N k m).2=0
   .rw[a6 d,a6 (by omega),w,gl d];simp[K8,d]
   .rw[ae d];by_cases e:(Cm t h inj N k m).2≠10
    .rw[a6 e,a6 e];simp[K8,d]
    grind
  rw [Cn,Cm];by_cases j:c.mo=2
  .rw[a6 j,a6 j,key];by_cases d:(Cm t h inj N (AA c.hT 0) m).2=0
   .rw[a6 d];rfl
   .rw[ae d];by_cases e:(Cm t h inj N (AA c.hT 0) m).2=10
    .rw[a6 e];rfl
    .rw[ae e];unfold K8;rw[ae d]
  rw [ae j,ae j];by_cases o:c.mo=3
  .rw[a6 o,a6 o,jn];unfold Sj;rw[XJ (s2:=MJ fun k=>Cm t h inj N k m)];intro k _;funext s;unfold MJ;simp only[key];by_cases d:(Cm t h inj N k m).2=0
   .rw[ae (by simp[d]),ae (by simp[d]),w,gl d]
   .rw[a6 d,a6 d]
  rw [ae o,ae o];by_cases r:c.mo=4
  .rw[a6 r,a6 r,YF,<-PA];congr 1;exact congrArg (fun F=>fst F 0 (c.hT.length:Int)) (funext fun i=>pick _ _ _ _)
  rw [ae r,ae r];by_cases u:c.mo=5
  .rw[a6 u,a6 u];by_cases g:(Df t c h m inj).2≠0
   .rw[a6 g,a6 g];unfold K8;rw[ae g]
   .rw[ae g,ae g,YF,<-PA];congr 1;exact congrArg (fun F=>fst F 0 ((Df t c h m inj).1.length:Int)) (funext fun i=>pick _ _ _ _)
  rw [ae u,ae u];rfl
end Go.Sf.Sc
namespace Go.Sf.Sc
open Go Go.Sf
def QX(i:Int)(s:A6×A6):Prop:=(s.2.hT.length:Int)=i
theorem Wt{s:As}(hf:An s.t)(hv:(A2 s.t).2=0)(hh:If s.t s.h):∀(N:Nat)(c:d7)(p:ec)(m:AO),SizeOf.sizeOf c<=N->CV s.t p c->V1 s.t p s.h m->∀n,2*N<=n->Ao n s c m=some (Cn s.t s.h s.ej N c m)
 |0,c,_,_,h,_,_,_,_=>by have:=EQ c;omega|N+1,c,p,m,h,o,y,n,E=>by
  obtain ⟨n,rfl⟩:∃k,n=k+2:=⟨n-2,by omega⟩;have kid:∀(i:Int),0<=i->i<c.hT.length->SizeOf.sizeOf (AA c.hT i)<=N:=fun i d e=>by
   have:=FN (AM (l:=c.hT) d e);omega
  rw [Ao,Cn];by_cases r:c.mo=2
  .have D:=o.one (.inl r);rw[a6 (by simpa using r),a6 r,AE (by omega) (by omega),bs,Wt hf hv hh N _ p m (kid 0 (by omega) (by omega)) (o.kid (by omega) _ (AM (by omega) (by omega))) y (n+1) (by omega),bs]
   grind
  rw [ae (by simpa using r),ae r];by_cases z:c.mo=3
  .rw[a6 (by simpa using z),a6 z];have B:=o.few;rw[WS (MJ fun k=>Cn s.t s.h s.ej N k m) QX (show QX 0 (zP,zP)from rfl)]
   .unfold Sj;show gp (some (D7 (MJ fun k=>Cn s.t s.h s.ej N k m) c.hT (zP,zP))) _ _=_;cases D7 (MJ fun k=>Cn s.t s.h s.ej N k m) c.hT (zP,zP)<;>rfl
   .intro i st d e hi;unfold QX at hi;rw[AE d e,bs,Wt hf hv hh N _ p m (kid i d e) (o.kid (by omega) _ (AM d e)) y (n+1) (by omega),bs]
    grind [MJ,Cn,AA,Ai,Ah,QX]
  rw [ae (by simpa using z),ae z];by_cases A:c.mo=4
  .rw[a6 (by simpa using A),a6 A];rw[Hb (fun _=>zP) (fun i=>if(Cn s.t s.h s.ej N (AA c.hT i) m).2=0 then some (⟨i,zM,[(Cn s.t s.h s.ej N (AA c.hT i) m).1]⟩,0)else if(Cn s.t s.h s.ej N (AA c.hT i) m).2≠10 then some (zP,(Cn s.t s.h s.ej N (AA c.hT i) m).2)else none) (by omega) rfl]
   .cases fst (fun i=>if(Cn s.t s.h s.ej N (AA c.hT i) m).2=0 then some ((⟨i,zM,[(Cn s.t s.h s.ej N (AA c.hT i) m).1]⟩:A6),(0:Int))else if(Cn s.t s.h s.ej N (AA c.hT i) m).2≠10 then some (zP,(Cn s.t s.h s.ej N (AA c.hT i) m).2)else none) 0 c.hT.length<;>rfl
   .intro i d e _;rw[AE d e,bs,Wt hf hv hh N _ p m (kid i d e) (o.kid (by omega) _ (AM d e)) y (n+1) (by omega),bs];generalize Cn s.t s.h s.ej N (AA c.hT i) m=x;by_cases j:x.2=0
    .rw[a6 (by simpa using j),a6 j];try rfl
    .rw[ae (by simpa using j),ae j];by_cases g:x.2=10
     .rw[ae (by simp[g]),ae (by simp[g])];try rfl
     .rw[a6 (by simp[g]),a6 g];try rfl
  rw [ae (by simpa using A),ae A];by_cases u:c.mo=5
  .rw[a6 (by simpa using u),a6 u];have hi:=o.ins u;have D:=o.one (.inr u);rw[BO,qu hf hv hh y hi,bs];by_cases w:(Df s.t c s.h m s.ej).2=0
   .obtain⟨g,C⟩:=cg hv hh y hi w;rw[ae (by simp[w]),ae (by simp[w])];generalize (Df s.t c s.h m s.ej).1=l at g C;rw[Hb (fun _=>zP) (fun i=>if(Cn s.t s.h s.ej N (AA c.hT 0) (AA l i)).2=0 then some (⟨0,AA l i,[(Cn s.t s.h s.ej N (AA c.hT 0) (AA l i)).1]⟩,0)else if(Cn s.t s.h s.ej N (AA c.hT 0) (AA l i)).2≠10 then some (zP,(Cn s.t s.h s.ej N (AA c.hT 0) (AA l i)).2)else none) (by omega) rfl]
    .cases fst (fun i=>if(Cn s.t s.h s.ej N (AA c.hT 0) (AA l i)).2=0 then some ((⟨0,AA l i,[(Cn s.t s.h s.ej N (AA c.hT 0) (AA l i)).1]⟩:A6),(0:Int))else if(Cn s.t s.h s.ej N (AA c.hT 0) (AA l i)).2≠10 then some (zP,(Cn s.t s.h s.ej N (AA c.hT 0) (AA l i)).2)else none) 0 l.length<;>rfl
    .intro i d e _;rw[AE d e,bs,AE (by omega) (by omega),bs,Wt hf hv hh N _ c.ec _ (kid 0 (by omega) (by omega)) (o.kid5 u _ (AM (by omega) (by omega))) (C _ (AM d e)) n (by omega),bs];generalize Cn s.t s.h s.ej N (AA c.hT 0) (AA l i)=x;by_cases j:x.2=0
     .rw[a6 (by simpa using j),a6 j];try rfl
     .rw[ae (by simpa using j),ae j];by_cases g:x.2=10
      .rw[ae (by simp[g]),ae (by simp[g])];try rfl
      .rw[a6 (by simp[g]),a6 g];try rfl
   .rw[a6 (by simp[w]),a6 w];try rfl
  grind
variable{t:AC}{inj:Bool}
theorem RM{d:AH}(hf:An t)(hv:(A2 t).2=0)(hh:If t d):∀(N:Nat)(c:d7)(p:ec)(m:AO),SizeOf.sizeOf c<=N->CV t p c->V1 t p d m->∀n,N<=n->Dx n t c d m inj=some (Cm t d inj N c m)
 |0,c,_,_,h,_,_,_,_=>by have:=EQ c;omega|N+1,c,p,m,h,o,w,n,E=>by
  obtain ⟨n,rfl⟩:∃k,n=k+1:=⟨n-1,by omega⟩;have kid:∀(i:Int),0<=i->i<c.hT.length->SizeOf.sizeOf (AA c.hT i)<=N:=fun i e g=>by
   have:=FN (AM (l:=c.hT) e g);omega
  rw [Dx,Cm];by_cases r:c.mo=2
  .have D:=o.one (.inl r);rw[a6 (by simpa using r),a6 r,AE (by omega) (by omega),bs,RM hf hv hh N _ p m (kid 0 (by omega) (by omega)) (o.kid (by omega) _ (AM (by omega) (by omega))) w n (by omega),bs]
   grind
  rw [ae (by simpa using r),ae r];by_cases y:c.mo=3
  .rw[a6 (by simpa using y),a6 y];have B:=o.few;rw[WS (MJ fun k=>Cm t d inj N k m) QX (show QX 0 (zP,zP)from rfl)]
   .unfold Sj;show gp (some (D7 (MJ fun k=>Cm t d inj N k m) c.hT (zP,zP))) _ _=_;cases D7 (MJ fun k=>Cm t d inj N k m) c.hT (zP,zP)<;>rfl
   .intro i st e g hi;unfold QX at hi;rw[AE e g,bs,RM hf hv hh N _ p m (kid i e g) (o.kid (by omega) _ (AM e g)) w n (by omega),bs]
    grind [MJ,Cm,AA,Ai,Ah,QX]
  rw [ae (by simpa using y),ae y];by_cases z:c.mo=4
  .rw[a6 (by simpa using z),a6 z];rw[Hb (fun _=>zP) (fun i=>if(Cm t d inj N (AA c.hT i) m).2≠10 then some (⟨i,zM,[(Cm t d inj N (AA c.hT i) m).1]⟩,(Cm t d inj N (AA c.hT i) m).2)else none) (by omega) rfl]
   .cases fst (fun i=>if(Cm t d inj N (AA c.hT i) m).2≠10 then some ((⟨i,zM,[(Cm t d inj N (AA c.hT i) m).1]⟩:A6),(Cm t d inj N (AA c.hT i) m).2)else none) 0 c.hT.length<;>rfl
   .intro i e g _;rw[AE e g,bs,RM hf hv hh N _ p m (kid i e g) (o.kid (by omega) _ (AM e g)) w n (by omega),bs];generalize Cm t d inj N (AA c.hT i) m=x;by_cases j:x.2=10
    .rw[ae (by simp[j]),ae (by simp[j])];try rfl
    .rw[a6 (by simp[j]),a6 j];try rfl
  rw [ae (by simpa using z),ae z];by_cases u:c.mo=5
  .rw[a6 (by simpa using u),a6 u];have hi:=o.ins u;have D:=o.one (.inr u);rw[rP hf hv hh w hi,bs];by_cases A:(Df t c d m inj).2=0
   .obtain⟨j,C⟩:=cg hv hh w hi A;rw[ae (by simp[A]),ae (by simp[A])];generalize (Df t c d m inj).1=l at j C;rw[Hb (fun _=>zP) (fun i=>if(Cm t d inj N (AA c.hT 0) (AA l i)).2≠10 then some (⟨0,AA l i,[(Cm t d inj N (AA c.hT 0) (AA l i)).1]⟩,(Cm t d inj N (AA c.hT 0) (AA l i)).2)else none) (by omega) rfl]
    .cases fst (fun i=>if(Cm t d inj N (AA c.hT 0) (AA l i)).2≠10 then some ((⟨0,AA l i,[(Cm t d inj N (AA c.hT 0) (AA l i)).1]⟩:A6),(Cm t d inj N (AA c.hT 0) (AA l i)).2)else none) 0 l.length<;>rfl
    .intro i e g _;rw[AE (by omega) (by omega),bs,AE e g,bs,RM hf hv hh N _ c.ec _ (kid 0 (by omega) (by omega)) (o.kid5 u _ (AM (by omega) (by omega))) (C _ (AM e g)) n (by omega),bs];generalize Cm t d inj N (AA c.hT 0) (AA l i)=x;by_cases j:x.2=10
     .rw[ae (by simp[j]),ae (by simp[j])];try rfl
     .rw[a6 (by simp[j]),a6 j];try rfl
   grind
  grind
end Go.Sf.Sc
namespace Go.Sf.Sc
open Go Go.Sf
noncomputable def Sw(t:AC)(p:ec)(c:d7)(h:AH)(m:AO)(inj:Bool):Int:=
 if MQ t p c≠0 then MQ t p c else if(Ia t h).2≠0 then(Ia t h).2 else if GT t p.d4 h.d4 m.d6 inj≠0 then GT t p.d4 h.d4 m.d6 inj else
 if (FX t p h m.d6).2≠0 then(FX t p h m.d6).2 else if(FX t p h m.d6).1=m.hV then 0 else 11
variable{t:AC}{c:d7}
theorem kO(hf:An t)(p:ec)(d:Di c)(h:AH)(m:AO)(inj:Bool):EM t p c h m inj=some (Sw t p c h m inj):=by
 unfold EM Sw;rw[n9 hf p d,bs];refine DV fun _=>?_;rw[Wq hf,bs];refine DV fun _=>?_;rw[Xi hf,bs];refine DV fun _=>?_;rw[dB hf,bs];refine DV fun _=>?_;rw[mX,bs]
 grind
variable{p:ec}{h:AH}{inj:Bool}
theorem WI(hf:An t)(z:Eo c<=40){m:AO}(e:Sw t p c h m inj=0):(A2 t).2=0/\If t h/\CV t p c/\V1 t p h m:=by
 unfold Sw at e;split at e
 .grind
 rename_i d;split at e
 .grind
 rename_i j;split at e
 .grind
 rename_i o;split at e
 .grind
 rename_i r;split at e
 case isFalse=>cases e
 rename_i C;have d:=Classical.not_not.1 d;have j:=Classical.not_not.1 j;have o:=Classical.not_not.1 o;have r:=Classical.not_not.1 r;obtain⟨hv,hh⟩:=US hf j;have w:=(Zd o).2;unfold MQ at d;split at d
 .grind
 rename_i A;split at d
 .grind
 rename_i u;have y:=kV hv (.inl (Classical.not_not.1 A));have u:=Classical.not_not.1 u;have B:mz c=true:=by
  grind [Pl]
 suffices g:(m.hV.length:Int)=p.hV/\OU m.hV from⟨hv,hh,mO hv _ c p (az _) z B d,y,w,g.1,g.2⟩
 have g:∀s∈p.gn,Ih p.hV h m.d6 s:=fun s g=>PH (DU hv) y hh w g
 grind [FX,jB]
end Go.Sf.Sc
namespace Go.Sf.Sc
open Go Go.Sf
def PD:Nat->d7->Bool
 |0,_=>true|N+1,c=>if pc (fun i=>!PD N (AA c.hT i)) 0 c.hT.length=true then false else decide (Aj ((c.ec.d4.d3.length:Int)+c.ec.d4.d5.length)<=6)
theorem Yc:∀(N:Nat)(c:d7),SizeOf.sizeOf c<=N->∀n,N<=n->FU n c=some (PD N c)
 |0,c,h,_,_=>by have:=EQ c;omega|N+1,c,h,n,g=>by
  obtain ⟨n,rfl⟩:∃k,n=k+1:=⟨n-1,by omega⟩;rw[FU,PD,BS (fun i=>!PD N (AA c.hT i)) false]
  .cases pc (fun i=>!PD N (AA c.hT i)) 0 c.hT.length<;>rfl
  .intro i d e _;have:=FN (AM (l:=c.hT) d e);rw[AE d e,bs,Yc N _ (by omega) n (by omega),bs,II]
theorem kc(c:d7):Pj c=some (PD (SizeOf.sizeOf c) c):=EZ (SizeOf.sizeOf c) fun n d=>Yc _ c (az _) n d
def TK(a:Int):Nat->Int->Int
 |0,s=>s|k+1,s=>Aj (TK a k s*a)
theorem mb{a b k s:Int}(g:0<=k)(e:k<=1000)(j:b<=1000):Ep (ρ:=Bool) (fun(d:Int×Int)=>
  if (decide (d.2<b))=true then
  some (.next (Aj (d.1*a),Aj (d.2+1)))
  else
  some (.brk (d.1,d.2))) (s,k)=some (.inl (TK a (max k b-k).toNat s,max k b)):=by
 refine Pv (fun i=>TK a (i-k).toNat s) (by omega) (by rw[show(k-k).toNat=0 by omega];rfl) (fun i o r=>?_) ?_
 .rw[a6 (by simp;omega),show(i+1-k).toNat=(i-k).toNat+1 by omega,TK];dsimp only;rw[Ar (n:=i+1) (by omega) (by omega)]
 .rw[ae (by simp;omega)]
def PQ(a b:Int):Nat->ec->d7->Bool
 |0,_,_=>true|N+1,p,c=>
  let q:=if c.mo=5 then c.ec else p
  if pc (fun i=>!PQ a b N q (AA c.hT i)) 0 c.hT.length=true then false else
  decide (TK b (max (p.d4.d5.length:Int) q.d4.d5.length-p.d4.d5.length).toNat (TK a (max (p.d4.d3.length:Int) q.d4.d3.length-p.d4.d3.length).toNat 1)<=5000)
theorem aZ(a b:Int):∀(N:Nat)(c:d7)(p:ec),SizeOf.sizeOf c<=N->Di c->NG p->∀n,N<=n->D6 n p c a b=some (PQ a b N p c)
 |0,c,_,h,_,_,_,_=>by have:=EQ c;omega|N+1,c,p,h,g,z,n,K=>by
  obtain ⟨n,rfl⟩:∃k,n=k+1:=⟨n-1,by omega⟩;have E:=g.q.ei;have F:=g.q.ek;have G:=z.ei;have H:=z.ek;have e:∀q:ec,NG q->(gp (Ep (ρ:=Bool) (fun(d:Int×Int)=>
    if (decide (d.2<(q.d4.d3.length:Int)))=true then
    some (.next (Aj (d.1*a),Aj (d.2+1)))
    else
    some (.brk (d.1,d.2))) (1,(p.d4.d3.length:Int))) (fun d=>
    gp (Ep (ρ:=Bool) (fun(s2:Int×Int)=>
    if (decide (s2.2<(q.d4.d5.length:Int)))=true then
    some (.next (Aj (s2.1*b),Aj (s2.2+1)))
    else
    some (.brk (s2.1,s2.2))) (d.1,(p.d4.d5.length:Int))) (fun s2=>
    gp (kq (ρ:=Bool) (fun(A:Int)(_:Unit)=>
    (idx c.hT A).bind fun j=>
    (D6 n q j a b).bind fun o=>
    if (!o)=true then
    some (.ret false)
    else
    some (.next ())) 0 (c.hT.length:Int) ()) (fun _=>
    some (decide (s2.1<=5000))) (fun B=>some B)) (fun C=>some C)) (fun D=>some D))=
    some (if pc (fun i=>!PQ a b N q (AA c.hT i)) 0 c.hT.length=true then false else
     decide (TK b (max (p.d4.d5.length:Int) q.d4.d5.length-p.d4.d5.length).toNat (TK a (max (p.d4.d3.length:Int) q.d4.d3.length-p.d4.d3.length).toNat 1)<=5000)):=by
   intro q r;have I:=r.ei;have J:=r.ek;rw[mb (by omega) (by omega) (by omega),Br];dsimp only;rw[mb (by omega) (by omega) (by omega),Br,BS (fun i=>!PQ a b N q (AA c.hT i)) false]
   .cases pc (fun i=>!PQ a b N q (AA c.hT i)) 0 c.hT.length<;>rfl
   .intro i u w _;have:=FN (AM (l:=c.hT) u w);rw[AE u w,bs,aZ a b N _ q (by omega) (g.k _ (AM u w)) r n (by omega),bs,II]
  rw [D6,PQ];by_cases y:c.mo=5
  .rw[a6 (by simpa using y),a6 y,bs,e _ g.q]
  grind
variable{c:d7}{p:ec}
theorem iJ(a b:Int)(d:Di c)(e:NG p):Ob p c a b=some (PQ a b (SizeOf.sizeOf c) p c):=EZ (SizeOf.sizeOf c) fun n g=>aZ a b _ c p (az _) d e n g
theorem Zn(h:AH):∃b,Gp h=some b:=by
 unfold Gp H1;rw[bs];split
 .exact⟨_,rfl⟩
 .rw[BS (fun i=>decide (12<((AA h.fd i).length:Int))) false]
  .cases pc (fun i=>decide (12<((AA h.fd i).length:Int))) 0 h.fd.length
   .exact⟨true,rfl⟩
   .exact⟨false,rfl⟩
  .intro i d e _;rw[AE d e,bs,II]
variable{t:AC}
theorem iP(hf:An t)(st:(AQ t).Sm)(p g:d4):∃b,LM t p g=some b:=by
 obtain ⟨b,e,_⟩:=S6 st;unfold LM H1;rw[e,bs,Vj hf]
 grind
theorem iQ(hf:An t)(st:(AQ t).Sm)(p:ec)(w:(AK c).Sm)(h:AH):∃b,LR t p c h=some b/\(b=true->Di c/\Eo c<=40/\NG p):=by
 obtain ⟨y,z,A⟩:=gN w;obtain⟨B,r,C⟩:=RE p;obtain⟨D,u⟩:=Zn h;unfold LR;rw[z,bs];cases y
 .exact⟨false,rfl,fun h=>by cases h⟩
 rw [r];cases B
 .exact⟨false,rfl,fun h=>by cases h⟩
 rw [u];cases D
 .exact⟨false,rfl,fun h=>by cases h⟩
 have g:=A rfl;have j:=C rfl;simp only[bs,Bool.not_true,Bool.false_eq_true,if_false];rw[iL hf p g.1,bs];have d:∀o:K1,(∃b,o=some b)->∃b,o=some b/\(b=true->Di c/\Eo c<=40/\NG p):=fun o⟨b,e⟩=>⟨b,e,fun _=>⟨g.1,g.2,j⟩⟩;refine d _ ?_;split
 .exact⟨true,rfl⟩
 .obtain⟨E,F⟩:=iP hf st p.d4 h.d4;unfold Nx;rw[r,u,F,kc,iJ 14 18 g.1 j];simp only[bs,if_true];cases E<;>simp only[Bool.false_eq_true,if_false,if_true,bs,Bool.false_and]
  .exact⟨_,rfl⟩
  .split
   .exact⟨_,rfl⟩
   .exact⟨_,rfl⟩
noncomputable def wS(t:AC)(p:ec)(c:d7)(h:AH)(m:AO)(inj:Bool):A6×Int:=
 if Sw t p c h m inj≠0 then(zP,Sw t p c h m inj)else Cn t h inj (SizeOf.sizeOf c) c m
theorem iF(hf:An t)(p:ec)(e:Di c)(g:Eo c<=40)(h:AH)(m:AO)(inj:Bool):DW t p c h m inj=some (wS t p c h m inj):=by
 unfold DW wS;rw[kO hf p e,bs];refine Cg fun j=>?_;obtain⟨hv,hh,d,r⟩:=WI hf g j;rw[show Dd (As.mk t h inj) c m=some (Cn t h inj (SizeOf.sizeOf c) c m)from EZ (2*SizeOf.sizeOf c) fun n o=>Wt (s:=⟨t,h,inj⟩) hf hv hh _ c p m (az _) d r n o];rfl
noncomputable def Lx(t:AC)(p:ec)(c:d7)(h:AH)(m:AO)(inj:Bool):Bool×Int:=
 if (wS t p c h m inj).2=10 then(false,0)else(decide ((wS t p c h m inj).2=0),(wS t p c h m inj).2)
theorem cD(hf:An t)(p:ec)(d:Di c)(e:Eo c<=40)(h:AH)(m:AO)(inj:Bool):C6 t p c h m inj=some (Lx t p c h m inj):=by grind[C6,Lx,iF,wS]
variable{h:AH}{inj:Bool}
theorem kZ(hf:An t){m:AO}(hv:(A2 t).2=0)(hh:If t h)(d:CV t p c)(e:V1 t p h m):Qz t c h m inj=some (Cm t h inj (SizeOf.sizeOf c) c m):=EZ (SizeOf.sizeOf c) fun n g=>RM hf hv hh _ c p m (az _) d e n g
end Go.Sf.Sc
namespace Go.Sf.Sc
open Go Go.Sf
end Go.Sf.Sc
namespace Go.Sf.Sc
open Go Go.Sf
theorem pH(t:AC)(p:ec)(c:d7)(h:AH)(m:AO)(inj:Bool):wS t p c h m inj=if Sw t p c h m inj≠0 then(zP,Sw t p c h m inj)else K8 (Cm t h inj (SizeOf.sizeOf c) c m):=by
 unfold wS;rw[dn]
end Go.Sf.Sc
