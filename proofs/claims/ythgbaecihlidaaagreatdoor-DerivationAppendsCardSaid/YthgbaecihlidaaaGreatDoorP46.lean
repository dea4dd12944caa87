/- Plain lemmas: what the functions of the program and of the reference compute. -/
import Derived.Test.YthgbaecihlidaaaGreatDoorP25
set_option linter.all false
set_option maxRecDepth 100000
namespace Go.Sf.Sc
open Go Go.Sf
variable{all:List mh}{k:Int}
theorem Q2(h:KO all k=0)(d:(AA all k).sx.length<=1000):-1000000<=(AA all k).Low/\(AA all k).Aam<=1000000:=by grind[KO]
variable{t:ej}{i:Int}
theorem ZW(h:G5 t i=0):∀k,((At t i).length:Int)-(AA t.d5 i).r0.length<=k->k<(At t i).length->KO (At t i) k=0:=by
 unfold G5 at h;dsimp only at h;split at h
 .cases h
 split at h
 .cases h
 split at h
 .cases h
 split at h
 .cases h
 exact SJ h
variable{a:Int}
theorem OQ{n:Nat}(d:0<=a):Be t (n+1) a=Be t n (par t a)++(AA t.d5 a).r0:=by grind[Be]
theorem gi(h:KO all k=0)(d:(AA all k).sx.length<=1000):(AA all k).Low<=(AA all k).Aam:=by grind[KO]
theorem Q3(hf:A6 t)(h:E8 t){Q:mh->Prop}(Q2:∀{all:List mh}{k:Int},KO all k=0->(AA all k).sx.length<=1000->Q (AA all k)):∀(n:Nat)(a:Int),a<t.d5.length->a<n->∀x∈Be t n a,Q x
 |0,_,_,_=>by simp[Be]|n+1,a,g,C=>by
  by_cases o:a<0
  .rw[Ik o];simp
  .have y:=h.par a (by omega) g;intro x d;rw[OQ (by omega)]at d;rcases List.mem_append.1 d with d|d
   .exact Q3 hf h Q2 n (par t a) (by omega) (by omega) x d
   .obtain⟨j,A,B,rfl⟩:=Bh d;have e:At t a=Be t a.toNat (par t a)++(AA t.d5 a).r0:=by
     unfold At;rw[show(a+1).toNat=a.toNat+1 by omega,OQ (by omega)]
    have z:(At t a).length=(Be t a.toNat (par t a)).length+(AA t.d5 a).r0.length:=by rw[e,cE]
    have r:=ZW (h.node a (by omega) g) ((Be t a.toNat (par t a)).length+j) (by omega) (by omega);have u:AA (At t a) ((Be t a.toNat (par t a)).length+j)=AA (AA t.d5 a).r0 j:=by
     grind [Lk,AA]
    have w:=L5 hf (Int.le_refl _) h.par g (AA (At t a) ((Be t a.toNat (par t a)).length+j)) (AF (by omega) (by omega));have:=Q2 r (by have:=w.names;omega)
    rwa [u]at this
theorem UR(hf:A6 t)(h:E8 t)(e:0<=a)(d:a<t.d5.length):∀x∈At t a,-1000000<=x.Low/\x.Aam<=1000000:=Q3 hf h Q2 _ a d (by omega)
theorem Vx(hf:A6 t)(h:E8 t)(e:0<=a)(d:a<t.d5.length):∀x∈At t a,x.Low<=x.Aam:=Q3 hf h gi _ a d (by omega)
theorem Ww(e:D8 t k):∀(n:Nat)(a b:Int),a<k->a<n->b∈IX t n a->0<=b/\b<=a/\(At t b).length<=(Be t n a).length
 |0,_,_,_,_=>by simp[IX]|n+1,a,b,g,r=>by
  intro d;rw[IX]at d;split at d
  .cases d
  .rename_i j;have o:=e a (by omega) g;rw[OQ (by omega)];rcases List.mem_cons.1 d with rfl|d
   .refine⟨by omega,by omega,?_⟩;unfold At;rw[Ll e (b+1).toNat (n+1) b g (by omega) (by omega),OQ (by omega)];exact bk _
   .have:=Ww e n (par t a) b (by omega) (by omega) d
    grind
variable{b:Int}
theorem WT(h:E8 t)(j:a<t.d5.length)(d:Gt t a b=true):(At t b).length<=(At t a).length:=by
 unfold Gt at d;rw[List.any_eq_true]at d;obtain⟨x,g,e⟩:=d;rw[zzX]at e;subst e;by_cases o:a<0
 .have:(a+1).toNat=0:=by omega
  rw [this]at g;cases g
 .exact(Ww h.par (a+1).toNat a b j (by omega) g).2.2
theorem bR{α:Type}{Q:Prop}[Decidable Q]{v:α}{X:Option α}{Y:α}(he:a=b↔Q)(h:Q->X=some Y):(if(!decide (a=b))=true then some v else X)=some (if¬Q then v else Y):=by grind
def OF(t:ej)(k:Int)(v:Fp)(j:Int):Bool:=decide (AA v j<(AA (At t k) j).Low)||decide ((AA (At t k) j).Aam<AA v j)
def FQ(t:ej)(k:Int)(v:Fp):Int:=
 if (t.d5.length:Int)<=k then 6 else if(AA t.d5 k).qo=true then 13 else if¬v.length=(At t k).length then 20 else
 if n8 (OF t k v) 0 (At t k).length=true then 6 else 0
def Hb(t:ej)(g:d6)(i:Int):Int:=
 if (t.d7.length:Int)<=(AA g.d7 i).mt then 6 else if GI t g i=false then 13 else 0
def Df(t:ej)(h:gt):Int×Int:=
 if (A1 t).2≠0 then(-1,(A1 t).2)else if Bn h.d6≠0 then(-1,Bn h.d6)else if¬h.gp.length=h.d6.d5.length then(-1,20)else
 match fst (fun i=>(nz (FQ t (AA h.d6.d5 i) (AA h.gp i))).map fun e=>(i,e)) 0 h.d6.d5.length with
 |some r=>r|none=>(fst (fun i=>(nz (Hb t h.d6 i)).map fun e=>(i,e)) 0 h.d6.d7.length).getD (-1,0)
theorem Jt(hv:(A1 t).2=0)(d:0<=k)(e:k<t.d5.length):EU t k=(At t k,0):=by grind[EU,KV]
theorem Vf{x:Bool}{y:Bool}:(if x=true then some true else some y)=some (x||y):=by cases x<;>rfl
theorem mZ(hf:A6 t)(hv:(A1 t).2=0)(d:0<=k)(v:Fp):Jy t k v=some (FQ t k v):=by
 unfold Jy FQ;by_cases e:(t.d5.length:Int)<=k
 .grind
 rw [b6 (by simpa using e),b6 e,AC d (by omega),bs];refine dg fun _=>?_;rw[Qq hf,Jt hv d (by omega),bs];refine bR (by simp;omega) fun g=>?_;rw[Br (OF t k v) 6]
 .cases n8 (OF t k v) 0 (At t k).length<;>rfl
 grind [At,AC,Vf,OF,AA]
theorem m7(hf:A6 t)(hv:(A1 t).2=0)(d:0<=k)(v:Fp):MW t k v=some (FQ t k v):=by
 unfold MW FQ;by_cases e:(t.d5.length:Int)<=k
 .grind
 rw [b6 (by simpa using e),b6 e,AC d (by omega),bs];refine dg fun _=>?_;rw[Om hf,Jt hv d (by omega),bs];refine bR (by simp;omega) fun g=>?_;rw[Br (OF t k v) 6]
 .cases n8 (OF t k v) 0 (At t k).length<;>rfl
 grind [At,AC,Vf,OF,AA]
theorem YL(e i:Int):(if(!decide (e=0))=true then some (Bu.ret (σ:=Unit) (ρ:=Int×Int) (i,e))else some (.next ()))=some (Pr ((nz e).map fun e=>(i,e))):=by grind[nz,Pr]
theorem Sb(hf:A6 t)(h:gt):Ft t h=some (Df t h):=by
 unfold Ft Df;rw[Lu hf,bs];refine FK fun hv=>?_;rw[KW,bs];refine FK fun o=>?_;have go:=Cp o;refine bR (by omega) fun z=>?_;rw[Bb (fun i=>(nz (FQ t (AA h.d6.d5 i) (AA h.gp i))).map fun e=>(i,e)),DN]
 .cases u:fst (fun i=>(nz (FQ t (AA h.d6.d5 i) (AA h.gp i))).map fun e=>(i,e)) 0 h.d6.d5.length with
  |some r=>rfl|none=>
   have w:=A5.1 u;dsimp only;rw[Bb (fun i=>(nz (Hb t h.d6 i)).map fun e=>(i,e)),DN]
   .grind
   .intro i d g _;have y:=go.fit _ (AF (l:=h.d6.d7) d g);rw[AC d g,bs];unfold Hb GI;by_cases j:(t.d7.length:Int)<=(AA h.d6.d7 i).mt
    .rw[az (by simpa using j),az j];rfl
    .rw[b6 (by simpa using j),b6 j,AC (by omega) (by omega),bs,AC (by omega) (by omega),bs,eY hf,bs];cases Is t (AA h.d6.d7 i).mt (AA h.d6.d5 (AA h.d6.d7 i).nd) (AA h.d6.d5 (AA h.d6.d7 i).To)<;>rfl
 .intro i d g _;rw[AC d g,bs,AC d (by omega),bs,mZ hf hv (go.kind _ (AF d g)).1,bs];exact YL _ i
theorem pv(hf:A6 t)(h:gt):K3 t h=some (Df t h):=by
 unfold K3 Df;rw[On hf,bs];refine FK fun hv=>?_;rw[KX,bs];refine FK fun o=>?_;have go:=Cp o;refine bR (by omega) fun z=>?_;rw[Bb (fun i=>(nz (FQ t (AA h.d6.d5 i) (AA h.gp i))).map fun e=>(i,e)),DN]
 .cases u:fst (fun i=>(nz (FQ t (AA h.d6.d5 i) (AA h.gp i))).map fun e=>(i,e)) 0 h.d6.d5.length with
  |some r=>rfl|none=>
   have w:=A5.1 u;dsimp only;rw[Bb (fun i=>(nz (Hb t h.d6 i)).map fun e=>(i,e)),DN]
   .grind
   .intro i d g _;have y:=go.fit _ (AF (l:=h.d6.d7) d g);rw[AC d g,bs];unfold Hb GI;by_cases j:(t.d7.length:Int)<=(AA h.d6.d7 i).mt
    .rw[az (by simpa using j),az j];rfl
    .rw[b6 (by simpa using j),b6 j,AC (by omega) (by omega),bs,AC (by omega) (by omega),bs,VC hf,bs];cases Is t (AA h.d6.d7 i).mt (AA h.d6.d5 (AA h.d6.d7 i).nd) (AA h.d6.d5 (AA h.d6.d7 i).To)<;>rfl
 .intro i d g _;rw[AC d g,bs,AC d (by omega),bs,m7 hf hv (go.kind _ (AF d g)).1,bs];exact YL _ i
structure Ko(t:ej)(h:gt):Prop where
 g:CN h.d6
 len:h.gp.length=h.d6.d5.length
 kind:∀i:Int,0<=i->i<h.d6.d5.length->0<=AA h.d6.d5 i/\AA h.d6.d5 i<t.d5.length
 row:∀i:Int,0<=i->i<h.d6.d5.length->(AA h.gp i).length=(At t (AA h.d6.d5 i)).length
 low:∀i:Int,0<=i->i<h.d6.d5.length->∀x∈AA h.gp i,-1000000<=x/\x<=1000000
 ge:Bn h.d6=0
 ty:CW t h.d6=true
variable{h:gt}
theorem RN(e:(Df t h).2=0):(∀i:Int,0<=i->i<h.d6.d5.length->FQ t (AA h.d6.d5 i) (AA h.gp i)=0)/\∀i:Int,0<=i->i<h.d6.d7.length->Hb t h.d6 i=0:=by
 unfold Df at e;split at e
 .rename_i u;exact absurd e u
 split at e
 .rename_i u;exact absurd e u
 split at e
 .cases e
 rename_i u z A;have y:∀i:Int,0<=i->i<h.d6.d5.length->FQ t (AA h.d6.d5 i) (AA h.gp i)=0:=by
  split at e
  .rename_i r d;obtain⟨i,_,_,k,_⟩:=DT d;unfold nz at k;split at k
   .cases k
   .rename_i g;cases k;exact absurd e g
  .rename_i d;exact fun i j o=>Fg.1 (Ld.1 (A5.1 d i j o))
 have he:∀i:Int,0<=i->i<h.d6.d7.length->Hb t h.d6 i=0:=by
  have w:fst (fun i=>(nz (FQ t (AA h.d6.d5 i) (AA h.gp i))).map fun e=>(i,e)) 0 h.d6.d5.length=none:=A5.2 fun i j o=>by rw[y i j o];rfl
  rw [w]at e;dsimp only at e;cases d:fst (fun i=>(nz (Hb t h.d6 i)).map fun e=>(i,e)) 0 h.d6.d7.length with
  |some r=>
   rw [d]at e;obtain⟨i,_,_,k,_⟩:=DT d;unfold nz at k;split at k
   .cases k
   .rename_i g;cases k;exact absurd e g
  |none=>exact fun i j o=>Fg.1 (Ld.1 (A5.1 d i j o))
 exact ⟨y,he⟩
theorem Qm(hf:A6 t)(e:(Df t h).2=0):(A1 t).2=0/\Ko t h:=by
 obtain ⟨w,he⟩:=RN e;unfold Df at e;split at e
 .rename_i o;exact absurd e o
 split at e
 .rename_i o;exact absurd e o
 split at e
 .cases e
 rename_i o A D;have hv:=Classical.not_not.1 o;have go:=Cp (Classical.not_not.1 A);have u:∀i:Int,0<=i->i<h.d6.d5.length->(0<=AA h.d6.d5 i/\AA h.d6.d5 i<t.d5.length)/\(AA h.gp i).length=(At t (AA h.d6.d5 i)).length/\∀j:Int,0<=j->j<(At t (AA h.d6.d5 i)).length->OF t (AA h.d6.d5 i) (AA h.gp i) j=false:=by
  intro i d g;have F:=(go.kind _ (AF d g)).1;have:=w i d g;unfold FQ at this;split at this
  .cases this
  split at this
  .cases this
  split at this
  .cases this
  split at this
  .cases this
  rename_i a1 a2 a3 E;exact⟨⟨F,by omega⟩,Classical.not_not.1 a3,Bk.1 (by simpa using E)⟩
 have z:CW t h.d6=true:=by
  unfold CW;rw[tg,Bool.not_eq_true',Bool.not_eq_true',List.any_eq_false,List.any_eq_false];refine⟨fun n w=>?_,fun x y=>?_⟩
  .obtain⟨i,d,g,rfl⟩:=Bh w;have:=(u i d g).1.2;simp;omega
  .obtain⟨i,d,g,rfl⟩:=Bh y;have:=he i d g;unfold Hb at this;split at this
   .cases this
   .simp;omega
 suffices r:∀i:Int,0<=i->i<h.d6.d5.length->∀x∈AA h.gp i,-1000000<=x/\x<=1000000 from⟨hv,go,Classical.not_not.1 D,fun i d g=>(u i d g).1,fun i d g=>(u i d g).2.1,r,Classical.not_not.1 A,z⟩
 intro i d g x y;obtain⟨B,H,G⟩:=u i d g;obtain⟨j,C,I,rfl⟩:=Bh y;have:=G j C (by omega);unfold OF at this;simp[decide_eq_false_iff_not]at this;have:=UR hf (C8 hv) B.1 B.2 _ (AF (l:=At t (AA h.d6.d5 i)) C (by omega));omega
end Go.Sf.Sc
namespace Go.Sf.Sc
open Go Go.Sf
def L6(t:ej)(p g:d6)(m:eb)(i:Int):a6:=
 if AA m.d5 i<0\/g.d5.length<=AA m.d5 i then some 6 else if Gt t (AA g.d5 (AA m.d5 i)) (AA p.d5 i)=false then some 13 else none
def Oc(t:ej)(p g:d6)(m:eb):Int:=
 if m.d5.length≠p.d5.length\/m.d7.length≠p.d7.length then 20 else
 match fst (L6 t p g m) 0 m.d5.length with
 |some e=>e|none=>(fst (Gu p g m) 0 m.d7.length).getD 0
def IH(t:ej)(p g:d6)(m:eb)(inj:Bool):Int:=
 if ED t p g≠0 then ED t p g else if Oc t p g m≠0 then Oc t p g m else if(inj&&!Hv m)=true then 5 else 0
structure Vu(t:ej)(p g:d6)(m:eb):Prop where
 AaH:m.d5.length=p.d5.length
 AaN:m.d7.length=p.d7.length
 node:∀i:Int,0<=i->i<m.d5.length->(0<=AA m.d5 i/\AA m.d5 i<g.d5.length)/\Gt t (AA g.d5 (AA m.d5 i)) (AA p.d5 i)=true
 edge:∀i:Int,0<=i->i<m.d7.length->0<=AA m.d7 i/\AA m.d7 i<g.d7.length
variable{t:ej}
theorem RI{p g:d6}(h:ED t p g=0):(A1 t).2=0/\CN p/\CN g/\(∀n∈p.d5,0<=n/\n<t.d5.length)/\∀n∈g.d5,0<=n/\n<t.d5.length:=by
 unfold ED at h;split at h
 .grind
 split at h
 .grind
 split at h
 .grind
 split at h
 .rename_i e j o d;rw[tg]at d
  grind [Cp,GK]
 .cases h
variable{m:eb}
theorem aj{p g:d6}(h:Oc t p g m=0):Vu t p g m:=by
 unfold Oc at h;split at h
 .cases h
 rename_i o;have j:fst (L6 t p g m) 0 m.d5.length=none:=by
  grind [DT,L6]
 rw [j]at h;have he:=PZ (fun i=>by
  grind [Gu]) h
 refine ⟨by omega,by omega,fun i d e=>?_,fun i d e=>?_⟩
 .grind[A5,L6]
 grind [Gu]
theorem Wd(hf:A6 t){p g:d6}(A:ED t p g=0)(m:eb):F6 t p g m=some (Oc t p g m):=by
 obtain ⟨hv,C,G,tp,D⟩:=RI A;unfold F6 Oc;refine Nu (by simp;try omega) fun E=>?_;rw[cN hf (C8 hv) hv,bs,Bb (L6 t p g m),DN]
 .cases F:fst (L6 t p g m) 0 m.d5.length with
  |some e=>rfl|none=>
   dsimp only;rw[Bb (Gu p g m),Cc];intro i j z _;unfold Gu;rw[AC j z,bs];by_cases d:AA m.d7 i<0\/g.d7.length<=AA m.d7 i
   .rw[az (by simpa using d),az d];rfl
   .have hf:=C.fit _ (AF (l:=p.d7) j (by omega));rw[b6 (by simpa using d),b6 d,AC j (by omega),bs,AC (by omega) (by omega),bs];by_cases o:(AA p.d7 i).mt=(AA g.d7 (AA m.d7 i)).mt
    .rw[b6 (by simpa using o),b6 (by simpa using o),AC (by omega) (by omega),bs];by_cases r:AA m.d5 (AA p.d7 i).nd=(AA g.d7 (AA m.d7 i)).nd
     .rw[b6 (by simpa using r),AC (by omega) (by omega),bs,bs];by_cases u:AA m.d5 (AA p.d7 i).To=(AA g.d7 (AA m.d7 i)).To
      .rw[b6 (by simpa using u),b6 (by simp[r,u])];rfl
      .rw[az (by simpa using u),az (.inr u)];rfl
     .rw[az (by simpa using r),bs,az rfl,az (.inl r)];rfl
    .rw[az (by simpa using o),az o];rfl
 .intro i j z _;unfold L6;rw[AC j z,bs];by_cases d:AA m.d5 i<0\/g.d5.length<=AA m.d5 i
  .rw[az (by simpa using d),az d];rfl
  .have w:=tp _ (AF (l:=p.d5) j (by omega));have y:=D _ (AF (l:=g.d5) (show 0<=AA m.d5 i by omega) (by omega));rw[b6 (by simpa using d),b6 d,AC j (by omega),bs,AC w.1 (by unfold Lh;rw[d3,BD];exact w.2),bs,AC (by omega) (by omega),bs];have e:AA (Lh t) (AA p.d5 i)=QB t (AA p.d5 i):=by unfold Lh;exact IY (QB t) w.1 w.2
   rw [e,AC y.1 (by unfold QB;rw[d3,BD];exact y.2),bs];have B:AA (QB t (AA p.d5 i)) (AA g.d5 (AA m.d5 i))=Gt t (AA g.d5 (AA m.d5 i)) (AA p.d5 i):=by unfold QB;exact IY (fun k=>Gt t k (AA p.d5 i)) y.1 y.2
   rw [B];cases Gt t (AA g.d5 (AA m.d5 i)) (AA p.d5 i)<;>rfl
variable{l:Fp}
theorem aR(d:l.length<=1000):Gy l=some (!Jc l):=by grind[Gy,Tq,Io,AbH,Jc]
theorem Vh(hf:A6 t)(p g:d6)(m:eb)(inj:Bool):E2 t p g m inj=some (IH t p g m inj):=by
 unfold E2 IH;rw[TH hf,bs];refine Dp fun d=>?_;rw[Wd hf d,bs];refine Dp fun o=>?_;obtain⟨_,j,r,_⟩:=RI d;have e:=aj o;have:=j.ek;have:=j.em;have:=e.AaH;have:=e.AaN;rw[aR (by omega),aR (by omega)];unfold Hv;cases inj<;>cases Jc m.d5<;>cases Jc m.d7<;>rfl
variable{inj:Bool}
theorem Xp{p g:d6}(h:IH t p g m inj=0):ED t p g=0/\Vu t p g m:=by grind[IH,aj]
end Go.Sf.Sc
namespace Go.Sf.Sc
open Go Go.Sf
section
variable{α σ ρ:Type}
def Gx(step:α->σ->Bu σ ρ):List α->σ->σ ⊕ ρ
 |[],s=>.inl s|a::r,s=>match step a s with
  |.next s'=>Gx step r s'|.brk s'=>.inl s'|.ret r=>.inr r
variable{f:Int->σ->Option (Bu σ ρ)}
theorem SH[Inhabited α]{l:List α}(step:α->σ->Bu σ ρ)(I:σ->Prop)(h:∀(i:Int)s,0<=i->i<l.length->I s->f i s=some (step (AA l i) s)/\∀s',step (AA l i) s=.next s'->I s'):
  ∀(n:Nat)(a:Int)(s:σ),0<=a->a+n=l.length->I s->Aaa f n a s=some (Gx step (l.drop a.toNat) s)
 |0,a,s,d,o,_=>by
  rw [List.drop_eq_nil_of_le (by omega)];rfl
 |n+1,a,s,d,o,u=>by
  obtain ⟨g,j⟩:=h a s d (by omega) u;have hd:l.drop a.toNat=AA l a::l.drop (a+1).toNat:=by
   grind [List.drop_eq_getElem_cons,AA,List.getElem?_eq_getElem]
  rw [EN,g,hd,Gx];cases e:step (AA l a) s with
  |next s'=>
   simp only;exact SH step I h n (a+1) s' (by omega) (by omega) (j s' e)
  |brk s'=>rfl|ret r=>rfl
theorem WJ[Inhabited α]{l:List α}(step:α->σ->Bu σ ρ)(I:σ->Prop){s:σ}(d:I s)(h:∀(i:Int)s,0<=i->i<l.length->I s->f i s=some (step (AA l i) s)/\∀s',step (AA l i) s=.next s'->I s'):
  kq f 0 l.length s=some (Gx step l s):=by
 have:=SH step I h l.length 0 s (by omega) (by omega) d;unfold kq;rw[show((l.length:Int)-0).toNat=l.length by omega];exact this
theorem Yy[Inhabited α](step:α->σ->Bu σ ρ)(I:σ->Prop):∀(l:List α)(s s':σ),I s->(∀a∈l,∀s s',I s->step a s=.next s'->I s')->(∀a∈l,∀s s',step a s≠.brk s')->Gx step l s=.inl s'->I s'
 |[],s,s',h,_,_,e=>by cases e;exact h
 |a::r,s,s',h,j,u,e=>by
  rw [Gx]at e;split at e
  .rename_i g o;exact Yy step I r g s' (j a (by simp) s g h o) (fun a d=>j a (by simp[d])) (fun a d=>u a (by simp[d])) e
  .grind
  .cases e
end
def FN(x:kg)(l:Fp):Int:=if x.Var<0 then x.Add else AK (AA l x.Var+x.Add)
variable{x:kg}{l:Fp}
theorem We(h:x.Var<l.length):EB x l=some (FN x l):=by grind[EB,FN,AC]
theorem YS(d:-1<=x.Var)(h:x.Var<l.length)(e:l.length<=1000):ET x l=some (FN x l,0):=by grind[ET,CZ,AV,We]
def Pa(x:Test)(l:Fp):Bool:=(decide (x.o3=1)&&decide (FN x.kl l<=FN x.gn l))||(decide (x.o3=2)&&decide (FN x.kl l=FN x.gn l))
structure Jo(n:Int)(x:kg):Prop where
 low:-1<=x.Var
 high:x.Var<n
 add:-1000000<=x.Add/\x.Add<=1000000
def Ov(l:Fp):Prop:=∀x∈l,-2000000<=x/\x<=2000000
variable{n:Int}
theorem Rg(h:Jo n x)(d:Ov l)(e:n<=l.length):FN x l=(if x.Var<0 then x.Add else AA l x.Var+x.Add)/\-3000000<=FN x l/\FN x l<=3000000:=by
 unfold FN;have:=h.add;by_cases g:x.Var<0
 .grind
 .have hh:=h.high;have:=d _ (AF (l:=l) (show 0<=x.Var by omega) (by omega))
  grind [AV]
variable{a b:Int}
theorem W5(j:-4000000<=a/\a<=4000000)(o:-4000000<=b/\b<=4000000):GA a b=some (if a+b<0 then(-1,a+b+18446744073709551616)else(0,a+b)):=by
 have d:∀c:Int,IntKind.u64.wrap c=c % 18446744073709551616:=fun c=>by
  simp [IntKind.wrap,IntKind.signed,IntKind.bits]
 have g:∀c:Int,-4000000<=c/\c<=4000000->FR .i64 .shr c 63=some (if c<0 then -1 else 0):=by
  intro c w;unfold FR;have e:c.fdiv (2^ (min (63:Int).toNat (IntKind.bits .i64)))=if c<0 then -1 else 0:=by
   show c.fdiv (2^ 63)=_
   grind
  simp only[e];have:(0:Int)<=63/\IntKind.min .i64<=(if c<0 then -1 else 0)/\(if c<0 then -1 else 0)<=IntKind.max .i64:=by
   split<;>decide
  rw [az this]
 unfold GA Hd;rw[d,d,az (by omega),bs,g a j,g b o,bs,bs];congr 1;have y:∀c:Int,-10<=c->c<=10->AK c=c:=fun c r u=>AV (by omega) (by omega)
 grind
def JA(a:Int):Int×Int:=if a<0 then(-1,a+18446744073709551616)else(0,a)
theorem YV(h:Jo n x)(d:Ov l)(o:n<=l.length):EX x l=some ((JA (FN x l)).1,(JA (FN x l)).2,true):=by
 have r:=h.low;have u:=h.high;have w:=h.add;have g:=(Rg h d o).1;unfold EX;by_cases j:x.Var=-1
 .have e:FN x l=x.Add:=by rw[g,az (by omega)]
  rw [e,az (by simpa using j),W5 (by omega) (by omega),bs,Int.zero_add];rfl
 .have:=d _ (AF (l:=l) (show 0<=x.Var by omega) (by omega));have e:FN x l=AA l x.Var+x.Add:=by rw[g,b6 (by omega)]
  rw [e,b6 (by simpa using j),b6 (by simp;omega),AC (by omega) (by omega),bs,W5 (by omega) (by omega),bs];rfl
theorem kj(a b:Int):cmp_Compare_int a b=some (if a<b then -1 else if b<a then 1 else 0):=by
 unfold cmp_Compare_int cmp_isNaN_int
 grind
theorem r8(a b:Int):HO a b=some (if a<b then -1 else if b<a then 1 else 0):=kj a b
theorem oY(a b:Int):L7 [a,b]=some (if a=0 then b else a):=by
 unfold L7;show fl (Aaa _ 2 0 ()) _ _=_;rw[EN,show idx [a,b] 0=some a from rfl,bs]
 grind [fl,Aaa,EN,idx]
theorem p_holds{x:Test}(g:Jo n x.kl)(j:Jo n x.gn)(d:Ov l)(e:n<=l.length):Fc x l=some (Pa x l):=by
 have o:=(Rg g d e).2;have r:=(Rg j d e).2;unfold Fc Pa;rw[YV g d e,YV j d e];simp[kj,r8,oY];generalize FN x.kl l=a at o;generalize FN x.gn l=b at r;have key:(if(if(JA a).1<(JA b).1 then(-1:Int)else if(JA b).1<(JA a).1 then 1 else 0)=0 then(if(JA a).2<(JA b).2 then(-1:Int)else if(JA b).2<(JA a).2 then 1 else 0)else(if(JA a).1<(JA b).1 then(-1:Int)else if(JA b).1<(JA a).1 then 1 else 0))=if a<b then -1 else if b<a then 1 else 0:=by
  grind [JA]
 rw [key];congr 2
 .grind
 grind
end Go.Sf.Sc
namespace Go.Sf.Sc
open Go Go.Sf
structure TO(t:ej)(q:ed):Prop where
 g:CN q.d6
 kind:∀n∈q.d6.d5,0<=n/\n<t.d5.length
 vars:0<=q.fq/\q.fq<=12
 few:q.ff.length<=10/\q.ns.length<=10
 slot:∀s∈q.ff,(0<=s.p0/\s.p0<q.d6.d5.length)/\(0<=s.mh/\s.mh<(At t (AA q.d6.d5 s.p0)).length)/\Jo q.fq s.kg
 test:∀x∈q.ns,(x.o3=1\/x.o3=2)/\Jo q.fq x.kl/\Jo q.fq x.gn
 ge:Bn q.d6=0
 ty:CW t q.d6=true
variable{n:Int}{x:kg}
theorem kP(h:LZ n x=true):Jo n x:=by
 unfold LZ at h;simp[zzX]at h;exact⟨h.1.1.1,h.1.1.2,h.1.2,h.2⟩
theorem kQ{l:List Test}(h:Hp n l=0):∀x∈l,(x.o3=1\/x.o3=2)/\Jo n x.kl/\Jo n x.gn:=by
 unfold Hp at h;split at h
 .cases h
 split at h
 .cases h
 have g:=SJ h;intro x d;obtain⟨i,j,o,rfl⟩:=Bh d;have:=g i j o;unfold I2 at this;split at this
 .cases this
 split at this
 .rename_i r e;rw[tg]at e
  grind [kP]
 .cases this
theorem cz(n:Int)(l:List Test):Hp n l≠9:=by
 unfold Hp;split
 .decide
 split
 .decide
 intro h;cases d:fst (fun i=>nz (I2 n (AA l i))) 0 l.length with
 |none=>rw[d]at h;cases h
 |some r=>
  grind [DT,nz,I2]
variable{t:ej}{q:ed}
theorem iw(hv:(A1 t).2=0)(h:EG t q=0\/EG t q=9):TO t q:=by
 have y:=Uj q.d6;unfold EG at h;rw[b6 (by simp[hv])]at h;split at h
 .omega
 rename_i o;have g:=Cp (Classical.not_not.1 o);split at h
 .omega
 rename_i e;split at h
 .omega
 rename_i A;split at h
 .omega
 rename_i B;split at h
 .omega
 rename_i C;split at h
 .grind[cz]
 rename_i w;refine⟨g,(GK g (by simpa using e)).1,by omega,by omega,fun s z=>?_,kQ (Classical.not_not.1 w),Classical.not_not.1 o,by simpa using e⟩;have j:Pt t q s=false:=by
  grind
 unfold Pt at j;simp[Bool.not_eq_false',decide_eq_false_iff_not]at j;obtain⟨⟨⟨d,E⟩,F⟩,G,H⟩:=j;unfold PQ at d;dsimp only at d;split at d
 .cases d
 rename_i D;have u:=(GK g (by simpa using e)).1 _ (AF (l:=q.d6.d5) (show 0<=s.p0 by omega) (by omega));rw[Jt hv u.1 u.2]at d;split at d
 .cases d
 rename_i r;have r:¬(s.mh<0\/((At t (AA q.d6.d5 s.p0)).length:Int)<=s.mh):=r;exact⟨by omega,by omega,by omega,by omega,by omega,by omega⟩
def P4(h:gt)(m:eb)(s:Bv):Int:=AA (AA h.gp (AA m.d5 s.p0)) s.mh
def Nn(h:gt)(m:eb)(s:Bv)(st:Fp×ae):Fp×ae:=
 if 0<=s.kg.Var/\AA st.2 s.kg.Var=false then(BN st.1 s.kg.Var (AK (P4 h m s-s.kg.Add)),BN st.2 s.kg.Var true)else st
def GF{ρ:Type}(r:ρ)(h:gt)(m:eb)(s:Bv)(st:Fp×ae):Bu (Fp×ae) ρ:=
 if FN s.kg (Nn h m s st).1=P4 h m s then .next (Nn h m s st)else .ret r
structure VI(n:Int)(st:Fp×ae):Prop where
 l1:(st.1.length:Int)=n
 l2:(st.2.length:Int)=n
 small:Ov st.1
structure Kq(n:Int)(h:gt)(m:eb)(s:Bv):Prop where
 node:0<=s.p0/\s.p0<m.d5.length
 val:0<=AA m.d5 s.p0/\AA m.d5 s.p0<h.gp.length
 Ab6:0<=s.mh/\s.mh<(AA h.gp (AA m.d5 s.p0)).length
 term:Jo n s.kg
 has:-1000000<=P4 h m s/\P4 h m s<=1000000
variable{h:gt}{m:eb}{s:Bv}
theorem Qt(g:E8 t)(j:TO t q)(hh:Ko t h)(e:Vu t q.d6 h.d6 m)(o:s∈q.ff):Kq q.fq h m s:=by
 obtain ⟨u,w,y⟩:=j.slot s o;have z:=e.AaH;have d:=e.node s.p0 u.1 (by omega);have A:=hh.row _ d.1.1 d.1.2;have r:=hh.kind _ d.1.1 d.1.2;have B:=WT g r.2 d.2;have hv:=hh.len;refine⟨by omega,by omega,by omega,y,?_⟩;unfold P4;exact hh.low _ d.1.1 d.1.2 _ (AF w.1 (by omega))
theorem D5{α:Type}(l:List α)(i:Int)(a:α):(BN l i a).length=l.length:=by unfold BN;rw[List.length_set]
variable{i:Int}
theorem jZ{α:Type}{l:List α}{a x:α}(h:x∈BN l i a):x∈l\/x=a:=List.mem_or_eq_of_mem_set h
variable{st:Fp×ae}
theorem fc(e:Kq n h m s)(hi:VI n st):VI n (Nn h m s st):=by
 have g:=e.has;have j:=e.term.add;unfold Nn;split
 .refine⟨by rw[D5];exact hi.l1,by rw[D5];exact hi.l2,fun x d=>?_⟩;rcases jZ d with d|rfl
  .exact hi.small x d
  grind [AV]
 .exact hi
def IU(q:ed)(h:gt)(m:eb):Fp×Int:=
 match Gx (GF (([],11):Fp×Int) h m) q.ff (List.replicate q.fq.toNat 0,List.replicate q.fq.toNat false)with
 |.inr r=>r|.inl st=>if n8 (fun i=>!Pa (AA q.ns i) st.1) 0 q.ns.length=true then([],16)else(st.1,0)
theorem Vr(d:0<=n):VI n (List.replicate n.toNat 0,List.replicate n.toNat false):=by
 refine ⟨by simp;omega,by simp;omega,fun x e=>?_⟩
 grind
variable{st':Fp×ae}
theorem Sp{ρ:Type}{r:ρ}(d:Kq n h m s)(hi:VI n st)(e:GF r h m s st=.next st'):VI n st':=by grind[GF,fc]
theorem fe{ρ:Type}{r:ρ}:GF r h m s st≠.brk st':=by grind[GF]
theorem Rd{ρ:Type}{r:ρ}{l:List Bv}(d:∀s∈l,Kq n h m s)(hi:VI n st)(e:Gx (GF r h m) l st=.inl st'):VI n st':=
 Yy (GF r h m) (VI n) l st st' hi (fun a g _ _ j o=>Sp (d a g) j o) (fun _ _ _ _=>fe) e
theorem VK{ρ:Type}{r:ρ}(w:Kq n h m s)(hi:VI n st){T:Fp×ae->Option (Bu (Fp×ae) ρ)}
  (j:∀st':Fp×ae,(st'.1.length:Int)=n->T st'=some (if FN s.kg st'.1=P4 h m s then .next st' else .ret r)):
  ((if(decide (0<=s.kg.Var))=true then((idx st.2 s.kg.Var).bind fun o=>some (!o))else some false).bind fun u=>
   if u=true then(idx st.1 s.kg.Var).bind fun _=>(idx st.2 s.kg.Var).bind fun _=>T (BN st.1 s.kg.Var (AK (P4 h m s-s.kg.Add)),BN st.2 s.kg.Var true)else T (st.1,st.2))=some (GF r h m s st):=by
 have y:=w.term.high;have l1:=hi.l1;have l2:=hi.l2;unfold GF;by_cases d:0<=s.kg.Var
 .rw[az (by simpa using d),AC d (by omega),bs,bs];by_cases g:AA st.2 s.kg.Var=false
  .rw[az (by simp[g]),AC d (by omega),bs,bs,j _ (by dsimp only;rw[D5];exact l1)];have e:Nn h m s st=(BN st.1 s.kg.Var (AK (P4 h m s-s.kg.Add)),BN st.2 s.kg.Var true):=by unfold Nn;rw[az ⟨d,g⟩]
   rw [e]
  .rw[b6 (by simpa using g),j _ l1];have e:Nn h m s st=st:=by unfold Nn;rw[b6 (fun e=>g e.2)]
   rw [e]
 .rw[b6 (by simpa using d),bs,b6 (by decide),j _ l1];have e:Nn h m s st=st:=by unfold Nn;rw[b6 (fun e=>d e.1)]
  rw [e]
variable{v:Int}
theorem fh{t:kg}{f:kg->Fp->a6}(hf:∀l:Fp,(l.length:Int)=n->f t l=some (FN t l))(st':Fp×ae)(e:(st'.1.length:Int)=n):((f t st'.1).bind fun d=>if(!decide (d=v))=true then some (Bu.ret (([],11):Fp×Int))else some (.next st'))=some (if FN t st'.1=v then .next st' else .ret ([],11)):=by grind
theorem aP(u:TO t q)(w:∀s∈q.ff,Kq q.fq h m s):Et q h m=some (IU q h m):=by
 have hv:=u.vars;unfold Et IU J1;rw[az (by omega),bs,az (by omega),bs];rw[WJ (GF (([],11):Fp×Int) h m) (VI q.fq) (Vr hv.1)]
 .cases z:Gx (GF (([],11):Fp×Int) h m) q.ff (List.replicate q.fq.toNat 0,List.replicate q.fq.toNat false)with
  |inr r=>rfl|inl st=>
   have hi:=Rd w (Vr hv.1) z;rw[B6,Br (fun i=>!Pa (AA q.ns i) st.1) ([],16)]
   .dsimp only;cases n8 (fun i=>!Pa (AA q.ns i) st.1) 0 q.ns.length<;>rfl
   .intro i g j _;have y:=u.test _ (AF g j);rw[AC g j,bs,p_holds y.2.1 y.2.2 hi.small (by have:=hi.l1;omega),bs]
    grind
 .intro i st g j hi;have d:=w _ (AF g j);refine⟨?_,fun s' e=>Sp d hi e⟩;rw[AC g j,bs,AC d.node.1 d.node.2,bs,AC d.val.1 d.val.2,bs,AC d.Ab6.1 d.Ab6.2,bs];exact VK d hi (T:=fun st'=>(EB (AA q.ff i).kg st'.1).bind fun o=>if(!decide (o=P4 h m (AA q.ff i)))=true then some (Bu.ret (([],11):Fp×Int))else some (.next st')) (fh fun l A=>We (by have:=d.term.high;omega))
def NW(t:ej)(p:ed)(h:gt):Int:=if EG t p≠0 then EG t p else(Df t h).2
theorem Wb(hf:A6 t)(p:ed)(h:gt):EA t p h=some (NW t p h):=by
 unfold EA NW;rw[U6 hf,bs];refine Dp fun _=>?_;rw[Sb hf];rfl
def IA(t:ej)(p:ed)(h:gt)(m:eb):Fp×Int:=
 if NW t p h≠0 then([],NW t p h)else if IH t p.d6 h.d6 m false≠0 then([],IH t p.d6 h.d6 m false)else IU p h m
variable{p:ed}{inj:Bool}
theorem Tf(hf:A6 t)(d:NW t p h=0)(e:IH t p.d6 h.d6 m inj=0):(A1 t).2=0/\TO t p/\Ko t h/\Vu t p.d6 h.d6 m:=by
 unfold NW at d;split at d
 .grind
 rename_i g;obtain⟨hv,hh⟩:=Qm hf d;exact⟨hv,iw hv (.inl (Classical.not_not.1 g)),hh,(Xp e).2⟩
theorem aI(hf:A6 t)(p:ed)(h:gt)(m:eb):D9 t p h m=some (IA t p h m):=by
 unfold D9 IA;rw[Wb hf,bs];refine FK fun e=>?_;rw[Vh hf,bs];refine FK fun g=>?_;obtain⟨hv,d,hh,o⟩:=Tf hf e g;rw[aP d (fun s j=>Qt (C8 hv) d hh o j)];rfl
theorem fg(g:TO t q)(j:∀s∈q.ff,Kq q.fq h m s)(e:(IU q h m).2=0):((IU q h m).1.length:Int)=q.fq/\Ov (IU q h m).1:=by
 unfold IU at e|-;cases d:Gx (GF (([],11):Fp×Int) h m) q.ff (List.replicate q.fq.toNat 0,List.replicate q.fq.toNat false)with
 |inr r=>
  rw [d]at e;have:∀(l:List Bv)(st:Fp×ae)(r:Fp×Int),Gx (GF (([],11):Fp×Int) h m) l st=.inr r->r=([],11):=by
   intro l
   induction l with
   |nil=>intro st r h;cases h
   |cons a l u=>
    grind [Gx,GF]
  grind
 |inl st=>
  rw [d]at e;have hi:=Rd j (Vr g.vars.1) d;dsimp only at e|-;split at e
  .cases e
  .rename_i o;rw[b6 o];exact⟨hi.l1,hi.small⟩
end Go.Sf.Sc
namespace Go.Sf.Sc
open Go Go.Sf
variable{i:Int}
theorem KF{n:Nat}{α:Type}[Inhabited α](F:Int->α)(d:0<=i)(v:α):BN ((A7 n).map F) i v=(A7 n).map fun j=>if j=i then v else F j:=by
 unfold BN;refine List.ext_getElem (by simp) (fun k e g=>?_)
 grind [BD,A7]
theorem Dv{n:Nat}{α:Type}{F G:Int->α}(h:∀j,0<=j->j<(n:Int)->F j=G j):(A7 n).map F=(A7 n).map G:=by grind[List.map_congr_left,ES]
def JC(n:Nat)(k:Int):ae:=(A7 n).map fun j=>decide (j<k)
theorem bq(n:Nat):JC n 0=List.replicate n false:=by
 unfold JC;refine List.ext_getElem (by simp[BD]) (fun k d e=>?_)
 grind [A7,BD]
theorem WV(n:Nat)(k:Int):(JC n k).length=n:=by unfold JC;rw[d3,BD]
def Oe(q:ed)(h:gt)(m:eb)(given:Fp):Fp×Bool:=
 match Gx (GF (([],false):Fp×Bool) h m) q.ff (given++List.replicate (q.fq-given.length).toNat 0,JC q.fq.toNat given.length)with
 |.inr r=>r|.inl st=>if n8 (fun i=>!Pa (AA q.ns i) st.1) 0 q.ns.length=true then([],false)else(st.1,true)
variable{n:Int}{given:Fp}
theorem ZC(e:0<=n)(g:given.length<=n)(hv:Ov given):VI n (given++List.replicate (n-given.length).toNat 0,JC n.toNat given.length):=by
 refine ⟨by simp;omega,by show((JC n.toNat given.length).length:Int)=n;rw[WV];omega,fun x d=>?_⟩;rcases List.mem_append.1 d with d|d
 .exact hv x d
 grind
variable{q:ed}{m:eb}{t:ej}
theorem ph{s:BE}(w:TO t q)(y:∀x∈q.ff,Kq q.fq s.h m x)(B:given.length<=q.fq)(hv:Ov given):Dg s q m given=some (Oe q s.h m given):=by
 have D:=w.vars;unfold Dg Oe slices_Clone_int;rw[Bq (by unfold AZ;omega),bs,AV (by omega) (by omega)];have E:Xi given (q.fq-given.length) 0=some (given++List.replicate (q.fq-given.length).toNat 0):=by
  grind [Xi,AZ]
 have F:J1 q.fq false=some (List.replicate q.fq.toNat false):=by
  grind [J1]
 rw [E,bs,F,bs];have G:pq (fun(d:Int)(z:ae)=>(idx z d).bind fun C=>some (BN z d true)) 0 (given.length:Int) (List.replicate q.fq.toNat false)=some (JC q.fq.toNat given.length):=by
  refine Bz (fun i=>JC q.fq.toNat i) (by omega) (bq _) (fun i d j=>?_);rw[AC d (by rw[WV];omega),bs];congr 1;unfold JC;rw[KF _ d]
  grind
 rw [G,bs];have u:=ZC D.1 B hv;rw[WJ (GF (([],false):Fp×Bool) s.h m) (VI q.fq) u]
 .cases H:Gx (GF (([],false):Fp×Bool) s.h m) q.ff (given++List.replicate (q.fq-given.length).toNat 0,JC q.fq.toNat given.length)with
  |inr r=>rfl|inl st=>
   have hi:=Rd y u H;rw[B6,Br (fun i=>!Pa (AA q.ns i) st.1) ([],false)]
   .dsimp only;cases n8 (fun i=>!Pa (AA q.ns i) st.1) 0 q.ns.length<;>rfl
   .intro i d j _;have A:=w.test _ (AF d j);rw[AC d j,bs,p_holds A.2.1 A.2.2 hi.small (by have:=hi.l1;omega),bs]
    grind
 .intro i st d j hi;have g:=y _ (AF d j);refine⟨?_,fun s' e=>Sp g hi e⟩;rw[AC d j,bs,AC g.node.1 g.node.2,bs,AC g.val.1 g.val.2,bs,AC g.Ab6.1 g.Ab6.2,bs];refine VK g hi (T:=fun st'=>(ET (AA q.ff i).kg st'.1).bind fun o=>if((!decide (o.2=0))||(!decide (o.1=P4 s.h m (AA q.ff i))))=true then some (Bu.ret (([],false):Fp×Bool))else some (.next st')) (fun st' I=>?_);rw[YS g.term.low (by have:=g.term.high;omega) (by omega),bs]
  grind
variable{h:gt}
theorem kT(j:TO t q)(o:∀s∈q.ff,Kq q.fq h m s)(u:given.length<=q.fq)(hv:Ov given)(e:(Oe q h m given).2=true):((Oe q h m given).1.length:Int)=q.fq/\Ov (Oe q h m given).1:=by
 unfold Oe at e|-;have d:=ZC j.vars.1 u hv;cases g:Gx (GF (([],false):Fp×Bool) h m) q.ff (given++List.replicate (q.fq-given.length).toNat 0,JC q.fq.toNat given.length)with
 |inr r=>
  rw [g]at e;have:∀(l:List Bv)(st:Fp×ae)(r:Fp×Bool),Gx (GF (([],false):Fp×Bool) h m) l st=.inr r->r=([],false):=by
   intro l
   induction l with
   |nil=>intro st r h;cases h
   |cons a l y=>
    grind [Gx,GF]
  grind
 |inl st=>
  rw [g]at e;have hi:=Rd o d g;dsimp only at e|-;split at e
  .cases e
  .rename_i w;rw[b6 w];exact⟨hi.l1,hi.small⟩
def VA(n:Nat)(by' images:Fp):Fp:=(A7 by'.length).foldl (fun l i=>BN l (AA by' i) (AA images i)) (List.replicate n (-1))
theorem WG(d images:Fp):∀(e:Fp)(l:Fp),(e.foldl (fun l i=>BN l (AA d i) (AA images i)) l).length=l.length
 |[],l=>rfl|k::e,l=>by rw[List.foldl_cons,WG d images e,D5]
theorem cQ{n:Nat}{d images:Fp}(y:∀x∈d,0<=x/\x<n)(z:d.length<=images.length):pq (fun(g:Int)(o:Fp)=>
  (idx d g).bind fun e=>
  (idx images g).bind fun j=>
  (idx o e).bind fun r=>
  some (BN o e j)) 0 (d.length:Int) (List.replicate n (-1))=some (VA n d images):=by
 have h:=Bz (f:=fun(g:Int)(o:Fp)=>
  (idx d g).bind fun e=>
  (idx images g).bind fun j=>
  (idx o e).bind fun r=>
  some (BN o e j)) (fun i=>(A7 i.toNat).foldl (fun l i=>BN l (AA d i) (AA images i)) (List.replicate n (-1))) (a:=0) (b:=d.length) (s:=List.replicate n (-1)) (by omega) rfl (fun i g u=>by
   have w:=y _ (AF g u);rw[AC g u,bs,AC g (by omega),bs,AC w.1 (by rw[WG];simpa using w.2),bs,I7 g,List.foldl_append];rfl)
 rw [h,Int.toNat_natCast];rfl
theorem Ya{n:Nat}{d images:Fp}(j:n<=1000)(e:∀x∈d,0<=x/\x<n)(g:d.length<=images.length):FY n d images=some (VA n d images):=by
 unfold FY D6;rw[az ⟨rfl,by omega,by omega⟩,bs];show(pq _ 0 _ (List.replicate (n:Int).toNat (-1))).bind _=_;rw[Int.toNat_natCast,cQ e g];rfl
end Go.Sf.Sc
namespace Go.Sf.Sc
open Go Go.Sf
structure kZ(f:AH):Prop where
 nl:f.ek.length<=f.p.d5.length
 node:∀i:Int,0<=i->i<f.ek.length->(0<=AA f.ek i/\AA f.ek i<f.g.d5.length)/\AA (AA f.is (AA f.p.d5 i)) (AA f.g.d5 (AA f.ek i))=true
 edge:∀i:Int,0<=i->i<f.em.length->(0<=AA f.em i/\AA f.em i<f.g.d7.length)/\AA f.g.d7 (AA f.em i)=⟨(AA f.p.d7 i).mt,AA f.ek (AA f.p.d7 i).nd,AA f.ek (AA f.p.d7 i).To⟩
 inj:f.hV=true->f.ek.Nodup/\f.em.Nodup
structure bF(f:AH)(m:eb):Prop where
 nl:m.d5.length=f.p.d5.length
 el:m.d7.length=f.p.d7.length
 node:∀i:Int,0<=i->i<m.d5.length->(0<=AA m.d5 i/\AA m.d5 i<f.g.d5.length)/\AA (AA f.is (AA f.p.d5 i)) (AA f.g.d5 (AA m.d5 i))=true
 edge:∀i:Int,0<=i->i<m.d7.length->(0<=AA m.d7 i/\AA m.d7 i<f.g.d7.length)/\AA f.g.d7 (AA m.d7 i)=⟨(AA f.p.d7 i).mt,AA m.d5 (AA f.p.d7 i).nd,AA m.d5 (AA f.p.d7 i).To⟩
 inj:f.hV=true->m.d5.Nodup/\m.d7.Nodup
variable{i:Int}
theorem KN{α:Type}[Inhabited α](l:List α)(x:α)(h:i=l.length):AA (l++[x]) i=x:=by grind[Lk]
variable{l:Fp}{k:Int}
theorem Uy{b:Bool}(h:(!(b&&l.any fun x=>decide (k=x)))=true)(d:b=true)(e:l.Nodup):(l++[k]).Nodup:=by grind
theorem Vv:∀(n:Nat)(f:AH),kZ f->f.ek.length=f.p.d5.length->f.em.length+n=f.p.d7.length->∀m∈FV n f,bF f m
 |0,f,j,z,he,m,d=>by
  rw [FV,List.mem_singleton]at d;subst d;exact⟨z,by simpa using he,j.node,j.edge,j.inj⟩
 |n+1,f,j,z,he,m,d=>by
  rw [FV,List.mem_flatMap]at d;obtain⟨k,w,d⟩:=d;have w:=ES.1 w;split at d
  .rename_i o;unfold Ro at o;rw[tg]at o;obtain⟨r,y⟩:=o;rw[Y0,tg,zzX]at r;have:=Vv n {f with em:=f.em++[k]} ⟨j.nl,j.node,fun i A u=>by
    have u:i<((f.em++[k]).length:Int):=u;simp at u;show(0<=AA (f.em++[k]) i/\AA (f.em++[k]) i<f.g.d7.length)/\AA f.g.d7 (AA (f.em++[k]) i)=⟨(AA f.p.d7 i).mt,AA f.ek (AA f.p.d7 i).nd,AA f.ek (AA f.p.d7 i).To⟩;by_cases e:i=f.em.length
    .rw[KN _ _ e];exact⟨w,by rw[e];exact r.2⟩
    .rw[Js _ _ A (by omega)];exact j.edge i A (by omega),fun hi=>⟨(j.inj hi).1,Uy y hi (j.inj hi).2⟩⟩ z (by show(f.em++[k]).length+n=f.p.d7.length;rw[cE,List.length_singleton];omega) m d
   exact ⟨this.nl,this.el,this.node,this.edge,this.inj⟩
  .cases d
theorem Vw:∀(n:Nat)(f:AH),kZ f->f.em=[]->f.ek.length+n=f.p.d5.length->∀m∈Kk n f,bF f m
 |0,f,r,he,A,m,o=>by
  grind [Kk,Vv]
 |n+1,f,r,he,A,m,o=>by
  rw [Kk,List.mem_flatMap]at o;obtain⟨k,w,o⟩:=o;have w:=ES.1 w;split at o
  .rename_i j;unfold SZ at j;rw[tg,tg]at j;obtain⟨⟨_,y⟩,z⟩:=j;have:=Vw n {f with ek:=f.ek++[k]} ⟨by show(f.ek++[k]).length<=f.p.d5.length;rw[cE,List.length_singleton];omega,fun i u d=>by
    have d:i<((f.ek++[k]).length:Int):=d;simp at d;show(0<=AA (f.ek++[k]) i/\AA (f.ek++[k]) i<f.g.d5.length)/\AA (AA f.is (AA f.p.d5 i)) (AA f.g.d5 (AA (f.ek++[k]) i))=true;by_cases e:i=f.ek.length
    .rw[KN _ _ e];exact⟨w,by rw[e];exact y⟩
    .rw[Js _ _ u (by omega)];exact r.node i u (by omega),fun i u d=>by
    have d:i<(f.em.length:Int):=d;rw[he]at d;have:i<(0:Nat):=d;omega,fun hi=>⟨Uy z hi (r.inj hi).1,(r.inj hi).2⟩⟩ he (by show(f.ek++[k]).length+n=f.p.d5.length;rw[cE,List.length_singleton];omega) m o
   exact ⟨this.nl,this.el,this.node,this.edge,this.inj⟩
  .cases o
variable{t:ej}{pa:eb}{inj:Bool}{m:eb}
theorem Uf{p g:d6}(e:m∈Jw t p g pa inj):bF (FF t p g pa inj) m:=
 Vw _ (FF t p g pa inj) ⟨Nat.zero_le _,fun i j d=>by have d:i<(0:Nat):=d;omega,fun i j d=>by have d:i<(0:Nat):=d;omega,fun _=>⟨List.nodup_nil,List.nodup_nil⟩⟩ rfl (by show 0+p.d5.length=p.d5.length;omega) m (List.mem_of_mem_take e)
theorem X7{p g:d6}(h:ED t p g=0)(u:m∈Jw t p g pa inj):Vu t p g m:=by
 obtain ⟨hv,A,B,tp,w⟩:=RI h;have:=Uf u;refine⟨this.nl,this.el,fun i d e=>?_,fun i d e=>(this.edge i d e).1⟩;obtain⟨j,r⟩:=this.node i d e;refine⟨j,?_⟩;have o:=this.nl;have y:=tp _ (AF (l:=p.d5) d (by show i<(p.d5.length:Int);have o:m.d5.length=p.d5.length:=o;omega));have z:=w _ (AF (l:=g.d5) j.1 j.2);have r:AA (AA (Lh t) (AA p.d5 i)) (AA g.d5 (AA m.d5 i))=true:=r
 grind [AA,Lh,QB,IY,Gt]
theorem dz{p g:d6}(h:ED t p g=0)(r:m∈Jw t p g pa inj):IH t p g m inj=0:=by
 have ok:=X7 h r;have u:=Uf r;have w:Oc t p g m=0:=by
  unfold Oc;rw[b6 (by have:=ok.AaH;have:=ok.AaN;omega)];have y:fst (L6 t p g m) 0 m.d5.length=none:=by
   rw [A5];intro i d e;obtain⟨j,o⟩:=ok.node i d e
   grind [L6]
  have z:fst (Gu p g m) 0 m.d7.length=none:=by
   rw [A5];intro i d e;obtain⟨j,o⟩:=u.edge i d e;have j:0<=AA m.d7 i/\AA m.d7 i<g.d7.length:=j;have o:AA g.d7 (AA m.d7 i)=⟨(AA p.d7 i).mt,AA m.d5 (AA p.d7 i).nd,AA m.d5 (AA p.d7 i).To⟩:=o
   grind [Gu]
  rw [y,z];rfl
 unfold IH;rw[b6 (by simp[h]),b6 (by simp[w])];cases inj
 .rfl
 .have:=u.inj rfl
  grind [Hv,Io]
theorem dn{p g:d6}(h:(Tr t p g pa inj).2=0):(Tr t p g pa inj).1.length<=5000/\∀m∈(Tr t p g pa inj).1,Vu t p g m:=by grind[Tr,X7]
structure Zo(t:ej)(p:ed)(h:gt)(x:AS):Prop where
 q:TO t p
 m:Vu t p.d6 h.d6 x.eb
 len:(x.fq.length:Int)=p.fq
 small:Ov x.fq
structure kY(t:ej)(p:ed)(c:ea):Prop where
 q:TO t c.ed
 vars:p.fq<=c.ed.fq
 map:Q0 p.d6 c.ed.d6 c.Map
 inj:Hv c.Map=true
def H8(t:ej)(c:ea)(h:gt)(m:AS)(inj:Bool):List AS×Int:=
 let x:=Tr t c.ed.d6 h.d6 ⟨VA c.ed.d6.d5.length c.Map.d5 m.eb.d5,VA c.ed.d6.d7.length c.Map.d7 m.eb.d7⟩ inj
 if x.2≠0 then([],x.2)else((x.1.filter fun y=>(Oe c.ed h y m.fq).2).map fun y=>⟨y,(Oe c.ed h y m.fq).1⟩,0)
instance:Inhabited eb:=⟨⟨[],[]⟩⟩
instance:Inhabited AS:=⟨⟨default,[]⟩⟩
instance:Inhabited B1:=⟨⟨0,default,[]⟩⟩
theorem TS{x:List eb}{F:eb->Fp×Bool}{f:Int->List AS->Option (List AS)}(o:x.length<=5000)
  (hf:∀(i:Int)(s:List AS),0<=i->i<x.length->s.length<=5000->f i s=some (if(F (AA x i)).2=true then s++[⟨AA x i,(F (AA x i)).1⟩]else s)):
  pq f 0 (x.length:Int) []=some ((x.filter fun y=>(F y).2).map fun y=>⟨y,(F y).1⟩):=by
 rw [Bz (a:=0) (b:=x.length) (s:=[]) (fun i=>((x.take i.toNat).filter fun y=>(F y).2).map fun y=>(⟨y,(F y).1⟩:AS)) (by omega) rfl,Int.toNat_natCast,List.take_length];intro i d e;have g:(((x.take i.toNat).filter fun y=>(F y).2).map fun y=>(⟨y,(F y).1⟩:AS)).length<=5000:=by
  grind
 rw [hf i _ d e g,B3 d e,List.filter_append,List.map_append];cases j:(F (AA x i)).2<;>simp[j]
variable{p:ed}{c:ea}
theorem pP{s:BE}{m:AS}(hf:A6 s.t)(hv:(A1 s.t).2=0)(hh:Ko s.t s.h)(o:Zo s.t p s.h m)(hi:kY s.t p c):CB s c m=some (H8 s.t c s.h m s.hV):=by
 have C:=hi.q.g.ek;have ge:=hi.q.g.em;have m1:=hi.map.AaH;have D:=hi.map.AaN;have E:=o.m.AaH;have G:=o.m.AaN;unfold CB H8;rw[Ya (by omega) (fun x j=>by obtain⟨i,d,e,rfl⟩:=Bh j;exact(hi.map.node i d e).1) (by omega),bs,
  Ya (by omega) (fun x j=>by obtain⟨i,d,e,rfl⟩:=Bh j;exact(hi.map.edge i d e).1) (by omega),bs,il hf,bs]
 dsimp only;refine FK fun r=>?_;obtain⟨z,A⟩:=dn r;rw[TS (F:=fun y=>Oe c.ed s.h y m.fq) z]
 .rfl
 .intro i st d e B;have u:=A _ (AF d e);have w:(m.fq.length:Int)<=c.ed.fq:=by have:=o.len;have:=hi.vars;omega
  rw [AC d e,bs,ph hi.q (fun x j=>Qt (C8 hv) hi.q hh u j) w o.small,bs,<-Kl]
  grind [AY,AZ]
variable{h:gt}
theorem l3{m:AS}(hv:(A1 t).2=0)(hh:Ko t h)(j:Zo t p h m)(hi:kY t p c)(e:(H8 t c h m inj).2=0):(H8 t c h m inj).1.length<=5000/\∀x∈(H8 t c h m inj).1,Zo t c.ed h x:=by
 unfold H8 at e|-;dsimp only at e|-;split at e
 .grind
 rename_i o;rw[b6 o];obtain⟨w,z⟩:=dn (Classical.not_not.1 o);refine⟨by dsimp only;rw[d3];exact Nat.le_trans (List.length_filter_le _ _) w,fun x d=>?_⟩;dsimp only at d;rw[List.mem_map]at d;obtain⟨y,g,rfl⟩:=d;rw[List.mem_filter]at g;have r:=z y g.1;have u:(m.fq.length:Int)<=c.ed.fq:=by have:=j.len;have:=hi.vars;omega
 have:=kT hi.q (fun x d=>Qt (C8 hv) hi.q hh r d) u j.small g.2;exact⟨hi.q,r,this.1,this.2⟩
end Go.Sf.Sc
namespace Go.Sf.Sc
open Go Go.Sf
inductive CV(t:ej):ed->ea->Prop where
 |mk (p:ed) (c:ea) (few:c.hT.length<=40) (rng:1<=c.o3/\c.o3<=5) (one:c.o3=2\/c.o3=5->c.hT.length=1) (ins:c.o3=5->kY t p c) (kids:∀k∈c.hT,CV t (if c.o3=5 then c.ed else p) k):CV t p c
variable{t:ej}{p:ed}{c:ea}
theorem CV.few(h:CV t p c):c.hT.length<=40:=by cases h;assumption
theorem CV.rng(h:CV t p c):1<=c.o3/\c.o3<=5:=by cases h;assumption
theorem CV.one(h:CV t p c):c.o3=2\/c.o3=5->c.hT.length=1:=by cases h;assumption
theorem CV.ins(h:CV t p c):c.o3=5->kY t p c:=by cases h;assumption
theorem CV.kids(h:CV t p c):∀k∈c.hT,CV t (if c.o3=5 then c.ed else p) k:=by cases h;assumption
theorem CV.kid(h:CV t p c)(d:¬c.o3=5):∀k∈c.hT,CV t p k:=fun k e=>by have:=h.kids k e;rwa[b6 d]at this
theorem CV.kid5(h:CV t p c)(d:c.o3=5):∀k∈c.hT,CV t c.ed k:=fun k e=>by have:=h.kids k e;rwa[az d]at this
theorem R7:∀l:List ea,l.length<=Pu l
 |[]=>by simp|c::l=>by
  have:=R7 l
  grind [Pu,EO,R8,ci]
variable{q:ed}{v:Int}
theorem sF(hv:(A1 t).2=0)(h:P5 t q v=0):TO t q:=by grind[P5,iw]
theorem km(hv:(A1 t).2=0):∀(N:Nat)(c:ea)(p:ed),SizeOf.sizeOf c<=N->EO c<=40->Qw N c=true->G6 N t p c=0->CV t p c
 |0,c,_,h,_,_,_=>by have:=Dm c;omega|N+1,c,p,h,M,z,ho=>by
  have E:=R8 c;have F:=R7 c.hT;rw[Qw,tg]at z;obtain⟨u,o⟩:=z;have d:c.o3=2\/c.o3=5->c.hT.length=1:=by
   intro j;unfold RL at u
   grind
  have g:1<=c.o3/\c.o3<=5:=by
   grind [RL]
  have w:∀q,(fst (fun i=>nz (G6 N t q (AA c.hT i))) 0 c.hT.length).getD 0=0->∀k∈c.hT,CV t q k:=by
   intro q A k j;have G:=SJ A;have K:=Tl j;have L:=EQ j;rw[List.all_eq_true]at o;obtain⟨i,H,I,e⟩:=Bh j;have y:=G i H I;rw[e]at y;exact km hv N k q (by omega) (by omega) (o k j) y
  rw [G6]at ho;by_cases r:c.o3=5
  .rw[az r]at ho;split at ho
   .cases ho
   rename_i J;split at ho
   .grind
   rename_i B;split at ho
   .grind
   rename_i C;split at ho
   .cases ho
   rename_i D;refine CV.mk p c (by omega) g d (fun _=>⟨sF hv (Classical.not_not.1 B),by omega,Ut (Classical.not_not.1 C),by simpa using D⟩) ?_
   grind
  .rw[b6 r]at ho;refine CV.mk p c (by omega) g d (fun e=>absurd e r) ?_
   grind
section
variable{α σ ρ:Type}
variable{f:Int->σ->Option (Bu σ ρ)}
theorem Rm[Inhabited α]{l:List α}(step:α->σ->Bu σ ρ)(I:Int->σ->Prop)(h:∀(i:Int)s,0<=i->i<l.length->I i s->f i s=some (step (AA l i) s)/\∀s',step (AA l i) s=.next s'->I (i+1) s'):
  ∀(n:Nat)(a:Int)(s:σ),0<=a->a+n=l.length->I a s->Aaa f n a s=some (Gx step (l.drop a.toNat) s)
 |0,a,s,d,o,_=>by
  rw [List.drop_eq_nil_of_le (by omega)];rfl
 |n+1,a,s,d,o,u=>by
  obtain ⟨g,j⟩:=h a s d (by omega) u;have hd:l.drop a.toNat=AA l a::l.drop (a+1).toNat:=by
   grind [List.drop_eq_getElem_cons,AA,List.getElem?_eq_getElem]
  rw [EN,g,hd,Gx];cases e:step (AA l a) s with
  |next s'=>
   simp only;exact Rm step I h n (a+1) s' (by omega) (by omega) (j s' e)
  |brk s'=>rfl|ret r=>rfl
theorem be[Inhabited α]{l:List α}(step:α->σ->Bu σ ρ)(I:Int->σ->Prop){s:σ}(d:I 0 s)(h:∀(i:Int)s,0<=i->i<l.length->I i s->f i s=some (step (AA l i) s)/\∀s',step (AA l i) s=.next s'->I (i+1) s'):
  kq f 0 l.length s=some (Gx step l s):=by
 have:=Rm step I h l.length 0 s (by omega) (by omega) d;unfold kq;rw[show((l.length:Int)-0).toNat=l.length by omega];exact this
end
abbrev zM:AS:=⟨⟨[],[]⟩,[]⟩
abbrev zP:B1:=⟨0,zM,[]⟩
def Xh(w:ea->B1×Int)(k:ea)(s:B1×B1):Bu (B1×B1) (B1×Int):=
 if (w k).2≠0 then .ret (zP,(w k).2)else .next (s.1,⟨s.2.Aa0,s.2.pr,s.2.hT++[(w k).1]⟩)
def oR(w:ea->B1×Int)(l:List ea):B1×Int:=
 match Gx (Xh w) l (zP,zP)with
 |.inl s=>(s.2,0)|.inr r=>r
def DC(t:ej)(h:gt)(inj:Bool):Nat->ea->AS->B1×Int
 |0,_,_=>(zP,0)|N+1,c,m=>
  if c.o3=2 then(if(DC t h inj N (AA c.hT 0) m).2=0 then(zP,10)else if(DC t h inj N (AA c.hT 0) m).2=10 then(zP,0)else(zP,(DC t h inj N (AA c.hT 0) m).2))else
  if c.o3=3 then oR (fun k=>DC t h inj N k m) c.hT else
  if c.o3=4 then(fst (fun i=>if(DC t h inj N (AA c.hT i) m).2=0 then some (⟨i,zM,[(DC t h inj N (AA c.hT i) m).1]⟩,0)else if(DC t h inj N (AA c.hT i) m).2≠10 then some (zP,(DC t h inj N (AA c.hT i) m).2)else none) 0 c.hT.length).getD (zP,10)else
  if c.o3=5 then
   (if(H8 t c h m inj).2≠0 then(zP,(H8 t c h m inj).2)else
   (fst (fun i=>if(DC t h inj N (AA c.hT 0) (AA (H8 t c h m inj).1 i)).2=0 then some (⟨0,AA (H8 t c h m inj).1 i,[(DC t h inj N (AA c.hT 0) (AA (H8 t c h m inj).1 i)).1]⟩,0)else
    if (DC t h inj N (AA c.hT 0) (AA (H8 t c h m inj).1 i)).2≠10 then some (zP,(DC t h inj N (AA c.hT 0) (AA (H8 t c h m inj).1 i)).2)else none) 0 (H8 t c h m inj).1.length).getD (zP,10))else
  (zP,0)
end Go.Sf.Sc
namespace Go.Sf.Sc
open Go Go.Sf
def XH(i:Int)(s:B1×B1):Prop:=(s.2.hT.length:Int)=i
theorem U7{s:BE}(hf:A6 s.t)(hv:(A1 s.t).2=0)(hh:Ko s.t s.h):∀(N:Nat)(c:ea)(p:ed)(m:AS),SizeOf.sizeOf c<=N->CV s.t p c->Zo s.t p s.h m->∀n,2*N<=n->Aw n s c m=some (DC s.t s.h s.hV N c m)
 |0,c,_,_,h,_,_,_,_=>by have:=Dm c;omega|N+1,c,p,m,h,o,y,n,E=>by
  obtain ⟨n,rfl⟩:∃k,n=k+2:=⟨n-2,by omega⟩;have kid:∀(i:Int),0<=i->i<c.hT.length->SizeOf.sizeOf (AA c.hT i)<=N:=fun i d e=>by
   have:=EQ (AF (l:=c.hT) d e);omega
  rw [Aw,DC];by_cases r:c.o3=2
  .have D:=o.one (.inl r);rw[az (by simpa using r),az r,AC (by omega) (by omega),bs,U7 hf hv hh N _ p m (kid 0 (by omega) (by omega)) (o.kid (by omega) _ (AF (by omega) (by omega))) y (n+1) (by omega),bs]
   grind
  rw [b6 (by simpa using r),b6 r];by_cases z:c.o3=3
  .rw[az (by simpa using z),az z];have B:=o.few;rw[be (Xh fun k=>DC s.t s.h s.hV N k m) XH (show XH 0 (zP,zP)from rfl)]
   .unfold oR;show fl (some (Gx (Xh fun k=>DC s.t s.h s.hV N k m) c.hT (zP,zP))) _ _=_;cases Gx (Xh fun k=>DC s.t s.h s.hV N k m) c.hT (zP,zP)<;>rfl
   .intro i st d e hi;unfold XH at hi;rw[AC d e,bs,U7 hf hv hh N _ p m (kid i d e) (o.kid (by omega) _ (AF d e)) y (n+1) (by omega),bs]
    grind [Xh,DC,AA,AY,AZ,XH]
  rw [b6 (by simpa using z),b6 z];by_cases A:c.o3=4
  .rw[az (by simpa using A),az A];rw[M7 (fun _=>zP) (fun i=>if(DC s.t s.h s.hV N (AA c.hT i) m).2=0 then some (⟨i,zM,[(DC s.t s.h s.hV N (AA c.hT i) m).1]⟩,0)else if(DC s.t s.h s.hV N (AA c.hT i) m).2≠10 then some (zP,(DC s.t s.h s.hV N (AA c.hT i) m).2)else none) (by omega) rfl]
   .cases fst (fun i=>if(DC s.t s.h s.hV N (AA c.hT i) m).2=0 then some ((⟨i,zM,[(DC s.t s.h s.hV N (AA c.hT i) m).1]⟩:B1),(0:Int))else if(DC s.t s.h s.hV N (AA c.hT i) m).2≠10 then some (zP,(DC s.t s.h s.hV N (AA c.hT i) m).2)else none) 0 c.hT.length<;>rfl
   .intro i d e _;rw[AC d e,bs,U7 hf hv hh N _ p m (kid i d e) (o.kid (by omega) _ (AF d e)) y (n+1) (by omega),bs];generalize DC s.t s.h s.hV N (AA c.hT i) m=x;by_cases j:x.2=0
    .rw[az (by simpa using j),az j];try rfl
    .rw[b6 (by simpa using j),b6 j];by_cases g:x.2=10
     .rw[b6 (by simp[g]),b6 (by simp[g])];try rfl
     .rw[az (by simp[g]),az g];try rfl
  rw [b6 (by simpa using A),b6 A];by_cases u:c.o3=5
  .rw[az (by simpa using u),az u];have hi:=o.ins u;have D:=o.one (.inr u);rw[BP,pP hf hv hh y hi,bs];by_cases w:(H8 s.t c s.h m s.hV).2=0
   .obtain⟨g,C⟩:=l3 hv hh y hi w;rw[b6 (by simp[w]),b6 (by simp[w])];generalize (H8 s.t c s.h m s.hV).1=l at g C;rw[M7 (fun _=>zP) (fun i=>if(DC s.t s.h s.hV N (AA c.hT 0) (AA l i)).2=0 then some (⟨0,AA l i,[(DC s.t s.h s.hV N (AA c.hT 0) (AA l i)).1]⟩,0)else if(DC s.t s.h s.hV N (AA c.hT 0) (AA l i)).2≠10 then some (zP,(DC s.t s.h s.hV N (AA c.hT 0) (AA l i)).2)else none) (by omega) rfl]
    .cases fst (fun i=>if(DC s.t s.h s.hV N (AA c.hT 0) (AA l i)).2=0 then some ((⟨0,AA l i,[(DC s.t s.h s.hV N (AA c.hT 0) (AA l i)).1]⟩:B1),(0:Int))else if(DC s.t s.h s.hV N (AA c.hT 0) (AA l i)).2≠10 then some (zP,(DC s.t s.h s.hV N (AA c.hT 0) (AA l i)).2)else none) 0 l.length<;>rfl
    .intro i d e _;rw[AC d e,bs,AC (by omega) (by omega),bs,U7 hf hv hh N _ c.ed _ (kid 0 (by omega) (by omega)) (o.kid5 u _ (AF (by omega) (by omega))) (C _ (AF d e)) n (by omega),bs];generalize DC s.t s.h s.hV N (AA c.hT 0) (AA l i)=x;by_cases j:x.2=0
     .rw[az (by simpa using j),az j];try rfl
     .rw[b6 (by simpa using j),b6 j];by_cases g:x.2=10
      .rw[b6 (by simp[g]),b6 (by simp[g])];try rfl
      .rw[az (by simp[g]),az g];try rfl
   .rw[az (by simp[w]),az w];try rfl
  grind
end Go.Sf.Sc
namespace Go.Sf.Sc
open Go Go.Sf
noncomputable def V0(t:ej)(p:ed)(c:ea)(h:gt)(m:AS)(inj:Bool):Int:=
 if HP t p c≠0 then HP t p c else if(Df t h).2≠0 then(Df t h).2 else if IH t p.d6 h.d6 m.eb inj≠0 then IH t p.d6 h.d6 m.eb inj else
 if (IA t p h m.eb).2≠0 then(IA t p h m.eb).2 else if(IA t p h m.eb).1=m.fq then 0 else 11
variable{t:ej}{c:ea}
theorem ii(hf:A6 t)(p:ed)(d:Da c)(h:gt)(m:AS)(inj:Bool):Eu t p c h m inj=some (V0 t p c h m inj):=by
 unfold Eu V0;rw[mX hf p d,bs];refine Dp fun _=>?_;rw[Sb hf,bs];refine Dp fun _=>?_;rw[Vh hf,bs];refine Dp fun _=>?_;rw[aI hf,bs];refine Dp fun _=>?_;rw[lC,bs]
 grind
variable{p:ed}{h:gt}{inj:Bool}
theorem bQ(hf:A6 t)(z:EO c<=40){m:AS}(e:V0 t p c h m inj=0):(A1 t).2=0/\Ko t h/\CV t p c/\Zo t p h m:=by
 unfold V0 at e;split at e
 .grind
 rename_i d;split at e
 .grind
 rename_i j;split at e
 .grind
 rename_i o;split at e
 .grind
 rename_i r;split at e
 case isFalse=>cases e
 rename_i C;have d:=Classical.not_not.1 d;have j:=Classical.not_not.1 j;have o:=Classical.not_not.1 o;have r:=Classical.not_not.1 r;obtain⟨hv,hh⟩:=Qm hf j;have w:=(Xp o).2;unfold HP at d;split at d
 .grind
 rename_i A;split at d
 .grind
 rename_i u;have y:=iw hv (.inl (Classical.not_not.1 A));have u:=Classical.not_not.1 u;have B:a7 c=true:=by
  grind [KG]
 suffices g:(m.fq.length:Int)=p.fq/\Ov m.fq from⟨hv,hh,km hv _ c p (bk _) z B d,y,w,g.1,g.2⟩
 have g:∀s∈p.ff,Kq p.fq h m.eb s:=fun s g=>Qt (C8 hv) y hh w g
 grind [IA,fg]
end Go.Sf.Sc
namespace Go.Sf.Sc
open Go Go.Sf
def Ok:Nat->ea->Bool
 |0,_=>true|N+1,c=>if n8 (fun i=>!Ok N (AA c.hT i)) 0 c.hT.length=true then false else decide (AK ((c.ed.d6.d5.length:Int)+c.ed.d6.d7.length)<=6)
theorem Wn:∀(N:Nat)(c:ea),SizeOf.sizeOf c<=N->∀n,N<=n->FG n c=some (Ok N c)
 |0,c,h,_,_=>by have:=Dm c;omega|N+1,c,h,n,g=>by
  obtain ⟨n,rfl⟩:∃k,n=k+1:=⟨n-1,by omega⟩;rw[FG,Ok,Br (fun i=>!Ok N (AA c.hT i)) false]
  .cases n8 (fun i=>!Ok N (AA c.hT i)) 0 c.hT.length<;>rfl
  .intro i d e _;have:=EQ (AF (l:=c.hT) d e);rw[AC d e,bs,Wn N _ (by omega) n (by omega),bs,Kl]
theorem jF(c:ea):O9 c=some (Ok (SizeOf.sizeOf c) c):=Ey (SizeOf.sizeOf c) fun n d=>Wn _ c (bk _) n d
def SR(a:Int):Nat->Int->Int
 |0,s=>s|k+1,s=>AK (SR a k s*a)
theorem lH{a b k s:Int}(g:0<=k)(e:k<=1000)(j:b<=1000):C7 (ρ:=Bool) (fun(d:Int×Int)=>
  if (decide (d.2<b))=true then
  some (.next (AK (d.1*a),AK (d.2+1)))
  else
  some (.brk (d.1,d.2))) (s,k)=some (.inl (SR a (max k b-k).toNat s,max k b)):=by
 refine qp (fun i=>SR a (i-k).toNat s) (by omega) (by rw[show(k-k).toNat=0 by omega];rfl) (fun i o r=>?_) ?_
 .rw[az (by simp;omega),show(i+1-k).toNat=(i-k).toNat+1 by omega,SR];dsimp only;rw[AV (n:=i+1) (by omega) (by omega)]
 .rw[b6 (by simp;omega)]
def Oy(a b:Int):Nat->ed->ea->Bool
 |0,_,_=>true|N+1,p,c=>
  let q:=if c.o3=5 then c.ed else p
  if n8 (fun i=>!Oy a b N q (AA c.hT i)) 0 c.hT.length=true then false else
  decide (SR b (max (p.d6.d7.length:Int) q.d6.d7.length-p.d6.d7.length).toNat (SR a (max (p.d6.d5.length:Int) q.d6.d5.length-p.d6.d5.length).toNat 1)<=5000)
theorem Yi(a b:Int):∀(N:Nat)(c:ea)(p:ed),SizeOf.sizeOf c<=N->Da c->My p->∀n,N<=n->Du n p c a b=some (Oy a b N p c)
 |0,c,_,h,_,_,_,_=>by have:=Dm c;omega|N+1,c,p,h,j,A,n,L=>by
  obtain ⟨n,rfl⟩:∃k,n=k+1:=⟨n-1,by omega⟩;have F:=j.q.ek;have G:=j.q.em;have H:=A.ek;have I:=A.em;have g:∀q:ed,My q->(fl (C7 (ρ:=Bool) (fun(d:Int×Int)=>
    if (decide (d.2<(q.d6.d5.length:Int)))=true then
    some (.next (AK (d.1*a),AK (d.2+1)))
    else
    some (.brk (d.1,d.2))) (1,(p.d6.d5.length:Int))) (fun d=>
    fl (C7 (ρ:=Bool) (fun(e:Int×Int)=>
    if (decide (e.2<(q.d6.d7.length:Int)))=true then
    some (.next (AK (e.1*b),AK (e.2+1)))
    else
    some (.brk (e.1,e.2))) (d.1,(p.d6.d7.length:Int))) (fun e=>
    fl (kq (ρ:=Bool) (fun(B:Int)(_:Unit)=>
    (idx c.hT B).bind fun o=>
    (Du n q o a b).bind fun r=>
    if (!r)=true then
    some (.ret false)
    else
    some (.next ())) 0 (c.hT.length:Int) ()) (fun _=>
    some (decide (e.1<=5000))) (fun C=>some C)) (fun D=>some D)) (fun E=>some E))=
    some (if n8 (fun i=>!Oy a b N q (AA c.hT i)) 0 c.hT.length=true then false else
     decide (SR b (max (p.d6.d7.length:Int) q.d6.d7.length-p.d6.d7.length).toNat (SR a (max (p.d6.d5.length:Int) q.d6.d5.length-p.d6.d5.length).toNat 1)<=5000)):=by
   intro q u;have J:=u.ek;have K:=u.em;rw[lH (by omega) (by omega) (by omega),B6];dsimp only;rw[lH (by omega) (by omega) (by omega),B6,Br (fun i=>!Oy a b N q (AA c.hT i)) false]
   .cases n8 (fun i=>!Oy a b N q (AA c.hT i)) 0 c.hT.length<;>rfl
   .intro i w y _;have:=EQ (AF (l:=c.hT) w y);rw[AC w y,bs,Yi a b N _ q (by omega) (j.k _ (AF w y)) u n (by omega),bs,Kl]
  rw [Du,Oy];by_cases z:c.o3=5
  .rw[az (by simpa using z),az z,bs,g _ j.q]
  grind
variable{c:ea}{p:ed}
theorem fH(a b:Int)(d:Da c)(e:My p):OH p c a b=some (Oy a b (SizeOf.sizeOf c) p c):=Ey (SizeOf.sizeOf c) fun n g=>Yi a b _ c p (bk _) d e n g
theorem Xy(h:gt):∃b,J7 h=some b:=by
 unfold J7 Ic;rw[bs];split
 .exact⟨_,rfl⟩
 .rw[Br (fun i=>decide (12<((AA h.gp i).length:Int))) false]
  .cases n8 (fun i=>decide (12<((AA h.gp i).length:Int))) 0 h.gp.length
   .exact⟨true,rfl⟩
   .exact⟨false,rfl⟩
  .intro i d e _;rw[AC d e,bs,Kl]
variable{t:ej}
theorem fK(hf:A6 t)(st:(AN t).Sm)(p g:d6):∃b,K4 t p g=some b:=by
 obtain ⟨b,e,_⟩:=SD st;unfold K4 Ic;rw[e,bs,jI hf]
 grind
theorem fL(hf:A6 t)(st:(AN t).Sm)(p:ed)(w:(AI c).Sm)(h:gt):∃b,K6 t p c h=some b/\(b=true->Da c/\EO c<=40/\My p):=by
 obtain ⟨y,z,A⟩:=dr w;obtain⟨B,r,C⟩:=Qj p;obtain⟨D,u⟩:=Xy h;unfold K6;rw[z,bs];cases y
 .exact⟨false,rfl,fun h=>by cases h⟩
 rw [r];cases B
 .exact⟨false,rfl,fun h=>by cases h⟩
 rw [u];cases D
 .exact⟨false,rfl,fun h=>by cases h⟩
 have g:=A rfl;have j:=C rfl;simp only[bs,Bool.not_true,Bool.false_eq_true,if_false];rw[fI hf p g.1,bs];have d:∀o:K1,(∃b,o=some b)->∃b,o=some b/\(b=true->Da c/\EO c<=40/\My p):=fun o⟨b,e⟩=>⟨b,e,fun _=>⟨g.1,g.2,j⟩⟩;refine d _ ?_;split
 .exact⟨true,rfl⟩
 .obtain⟨E,F⟩:=fK hf st p.d6 h.d6;unfold Nf;rw[r,u,F,jF,fH 14 18 g.1 j];simp only[bs,if_true];cases E<;>simp only[Bool.false_eq_true,if_false,if_true,bs,Bool.false_and]
  .exact⟨_,rfl⟩
  .split
   .exact⟨_,rfl⟩
   .exact⟨_,rfl⟩
noncomputable def wS(t:ej)(p:ed)(c:ea)(h:gt)(m:AS)(inj:Bool):B1×Int:=
 if V0 t p c h m inj≠0 then(zP,V0 t p c h m inj)else DC t h inj (SizeOf.sizeOf c) c m
theorem fA(hf:A6 t)(p:ed)(e:Da c)(g:EO c<=40)(h:gt)(m:AS)(inj:Bool):D1 t p c h m inj=some (wS t p c h m inj):=by
 unfold D1 wS;rw[ii hf p e,bs];refine FK fun j=>?_;obtain⟨hv,hh,d,r⟩:=bQ hf g j;rw[show Eh (BE.mk t h inj) c m=some (DC t h inj (SizeOf.sizeOf c) c m)from Ey (2*SizeOf.sizeOf c) fun n o=>U7 (s:=⟨t,h,inj⟩) hf hv hh _ c p m (bk _) d r n o];rfl
noncomputable def Vo(t:ej)(p:ed)(c:ea)(h:gt)(m:AS)(inj:Bool):Bool×Int:=
 if (wS t p c h m inj).2=10 then(false,0)else(decide ((wS t p c h m inj).2=0),(wS t p c h m inj).2)
theorem Zd(hf:A6 t)(p:ed)(d:Da c)(e:EO c<=40)(h:gt)(m:AS)(inj:Bool):DP t p c h m inj=some (Vo t p c h m inj):=by grind[DP,Vo,fA,wS]
end Go.Sf.Sc
namespace Go.Sf.Sc
open Go Go.Sf
end Go.Sf.Sc
namespace Go.Sf.Sc
open Go Go.Sf
end Go.Sf.Sc
