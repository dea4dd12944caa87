/- Plain lemmas: what the functions of the program and of the reference compute. -/
import Derived.Test.YthgbaecihlidaaaGreatDoorP25
set_option linter.all false
set_option maxRecDepth 100000
namespace Go.Sf.Sc
open Go Go.Sf
variable{all:List mh}{k:Int}
theorem Q4(h:KQ all k=0)(d:(AA all k).sx.length<=1000):-1000000<=(AA all k).Low/\(AA all k).Aam<=1000000:=by grind[KQ]
variable{t:ej}{i:Int}
theorem ZY(h:G8 t i=0):∀k,((Au t i).length:Int)-(AA t.d5 i).r0.length<=k->k<(Au t i).length->KQ (Au t i) k=0:=by
 unfold G8 at h;dsimp only at h;split at h
 .cases h
 split at h
 .cases h
 split at h
 .cases h
 split at h
 .cases h
 exact SN h
variable{a:Int}
theorem OT{n:Nat}(d:0<=a):Be t (n+1) a=Be t n (par t a)++(AA t.d5 a).r0:=by grind[Be]
theorem iA(h:KQ all k=0)(d:(AA all k).sx.length<=1000):(AA all k).Low<=(AA all k).Aam:=by grind[KQ]
theorem Q5(hf:A6 t)(h:FA t){Q:mh->Prop}(Q4:∀{all:List mh}{k:Int},KQ all k=0->(AA all k).sx.length<=1000->Q (AA all k)):∀(n:Nat)(a:Int),a<t.d5.length->a<n->∀x∈Be t n a,Q x
 |0,_,_,_=>by simp[Be]|n+1,a,g,C=>by
  by_cases o:a<0
  .rw[Im o];simp
  .have y:=h.par a (by omega) g;intro x d;rw[OT (by omega)]at d;rcases List.mem_append.1 d with d|d
   .exact Q5 hf h Q4 n (par t a) (by omega) (by omega) x d
   .obtain⟨j,A,B,rfl⟩:=Bh d;have e:Au t a=Be t a.toNat (par t a)++(AA t.d5 a).r0:=by
     unfold Au;rw[show(a+1).toNat=a.toNat+1 by omega,OT (by omega)]
    have z:(Au t a).length=(Be t a.toNat (par t a)).length+(AA t.d5 a).r0.length:=by rw[e,cE]
    have r:=ZY (h.node a (by omega) g) ((Be t a.toNat (par t a)).length+j) (by omega) (by omega);have u:AA (Au t a) ((Be t a.toNat (par t a)).length+j)=AA (AA t.d5 a).r0 j:=by
     grind [Ll,AA]
    have w:=L6 hf (Int.le_refl _) h.par g (AA (Au t a) ((Be t a.toNat (par t a)).length+j)) (AF (by omega) (by omega));have:=Q4 r (by have:=w.names;omega)
    rwa [u]at this
theorem UV(hf:A6 t)(h:FA t)(e:0<=a)(d:a<t.d5.length):∀x∈Au t a,-1000000<=x.Low/\x.Aam<=1000000:=Q5 hf h Q4 _ a d (by omega)
theorem V0(hf:A6 t)(h:FA t)(e:0<=a)(d:a<t.d5.length):∀x∈Au t a,x.Low<=x.Aam:=Q5 hf h iA _ a d (by omega)
theorem Wy(e:D8 t k):∀(n:Nat)(a b:Int),a<k->a<n->b∈IZ t n a->0<=b/\b<=a/\(Au t b).length<=(Be t n a).length
 |0,_,_,_,_=>by simp[IZ]|n+1,a,b,g,r=>by
  intro d;rw[IZ]at d;split at d
  .cases d
  .rename_i j;have o:=e a (by omega) g;rw[OT (by omega)];rcases List.mem_cons.1 d with rfl|d
   .refine⟨by omega,by omega,?_⟩;unfold Au;rw[Ln e (b+1).toNat (n+1) b g (by omega) (by omega),OT (by omega)];exact bk _
   .have:=Wy e n (par t a) b (by omega) (by omega) d
    grind
variable{b:Int}
theorem WV(h:FA t)(j:a<t.d5.length)(d:Gv t a b=true):(Au t b).length<=(Au t a).length:=by
 unfold Gv at d;rw[List.any_eq_true]at d;obtain⟨x,g,e⟩:=d;rw[zzX]at e;subst e;by_cases o:a<0
 .have:(a+1).toNat=0:=by omega
  rw [this]at g;cases g
 .exact(Wy h.par (a+1).toNat a b j (by omega) g).2.2
theorem bV{α:Type}{Q:Prop}[Decidable Q]{v:α}{X:Option α}{Y:α}(he:a=b↔Q)(h:Q->X=some Y):(if(!decide (a=b))=true then some v else X)=some (if¬Q then v else Y):=by grind
def OH(t:ej)(k:Int)(v:Fp)(j:Int):Bool:=decide (AA v j<(AA (Au t k) j).Low)||decide ((AA (Au t k) j).Aam<AA v j)
def FT(t:ej)(k:Int)(v:Fp):Int:=
 if (t.d5.length:Int)<=k then 6 else if(AA t.d5 k).qo=true then 13 else if¬v.length=(Au t k).length then 20 else
 if n8 (OH t k v) 0 (Au t k).length=true then 6 else 0
def He(t:ej)(g:d6)(i:Int):Int:=
 if (t.d7.length:Int)<=(AA g.d7 i).mt then 6 else if GL t g i=false then 13 else 0
def Dg(t:ej)(h:gt):Int×Int:=
 if (A1 t).2≠0 then(-1,(A1 t).2)else if Bn h.d6≠0 then(-1,Bn h.d6)else if¬h.gp.length=h.d6.d5.length then(-1,20)else
 match fst (fun i=>(nz (FT t (AA h.d6.d5 i) (AA h.gp i))).map fun e=>(i,e)) 0 h.d6.d5.length with
 |some r=>r|none=>(fst (fun i=>(nz (He t h.d6 i)).map fun e=>(i,e)) 0 h.d6.d7.length).getD (-1,0)
theorem Jw(hv:(A1 t).2=0)(d:0<=k)(e:k<t.d5.length):EW t k=(Au t k,0):=by grind[EW,KW]
theorem Vi{x:Bool}{y:Bool}:(if x=true then some true else some y)=some (x||y):=by cases x<;>rfl
theorem nN(hf:A6 t)(hv:(A1 t).2=0)(d:0<=k)(v:Fp):J1 t k v=some (FT t k v):=by
 unfold J1 FT;by_cases e:(t.d5.length:Int)<=k
 .grind
 rw [b6 (by simpa using e),b6 e,AD d (by omega),bs];refine dl fun _=>?_;rw[Qs hf,Jw hv d (by omega),bs];refine bV (by simp;omega) fun g=>?_;rw[Br (OH t k v) 6]
 .cases n8 (OH t k v) 0 (Au t k).length<;>rfl
 grind [Au,AD,Vi,OH,AA]
theorem ng(hf:A6 t)(hv:(A1 t).2=0)(d:0<=k)(v:Fp):MY t k v=some (FT t k v):=by
 unfold MY FT;by_cases e:(t.d5.length:Int)<=k
 .grind
 rw [b6 (by simpa using e),b6 e,AD d (by omega),bs];refine dl fun _=>?_;rw[Oq hf,Jw hv d (by omega),bs];refine bV (by simp;omega) fun g=>?_;rw[Br (OH t k v) 6]
 .cases n8 (OH t k v) 0 (Au t k).length<;>rfl
 grind [Au,AD,Vi,OH,AA]
theorem YN(e i:Int):(if(!decide (e=0))=true then some (Bu.ret (σ:=Unit) (ρ:=Int×Int) (i,e))else some (.next ()))=some (Pu ((nz e).map fun e=>(i,e))):=by grind[nz,Pu]
theorem Sh(hf:A6 t)(h:gt):Fv t h=some (Dg t h):=by
 unfold Fv Dg;rw[Lv hf,bs];refine FM fun hv=>?_;rw[KX,bs];refine FM fun o=>?_;have go:=Cp o;refine bV (by omega) fun z=>?_;rw[Bb (fun i=>(nz (FT t (AA h.d6.d5 i) (AA h.gp i))).map fun e=>(i,e)),DN]
 .cases u:fst (fun i=>(nz (FT t (AA h.d6.d5 i) (AA h.gp i))).map fun e=>(i,e)) 0 h.d6.d5.length with
  |some r=>rfl|none=>
   have w:=A5.1 u;dsimp only;rw[Bb (fun i=>(nz (He t h.d6 i)).map fun e=>(i,e)),DN]
   .grind
   .intro i d g _;have y:=go.fit _ (AF (l:=h.d6.d7) d g);rw[AD d g,bs];unfold He GL;by_cases j:(t.d7.length:Int)<=(AA h.d6.d7 i).mt
    .rw[az (by simpa using j),az j];rfl
    .rw[b6 (by simpa using j),b6 j,AD (by omega) (by omega),bs,AD (by omega) (by omega),bs,ei hf,bs];cases Iu t (AA h.d6.d7 i).mt (AA h.d6.d5 (AA h.d6.d7 i).nd) (AA h.d6.d5 (AA h.d6.d7 i).To)<;>rfl
 .intro i d g _;rw[AD d g,bs,AD d (by omega),bs,nN hf hv (go.kind _ (AF d g)).1,bs];exact YN _ i
theorem qv(hf:A6 t)(h:gt):K4 t h=some (Dg t h):=by
 unfold K4 Dg;rw[Ot hf,bs];refine FM fun hv=>?_;rw[KY,bs];refine FM fun o=>?_;have go:=Cp o;refine bV (by omega) fun z=>?_;rw[Bb (fun i=>(nz (FT t (AA h.d6.d5 i) (AA h.gp i))).map fun e=>(i,e)),DN]
 .cases u:fst (fun i=>(nz (FT t (AA h.d6.d5 i) (AA h.gp i))).map fun e=>(i,e)) 0 h.d6.d5.length with
  |some r=>rfl|none=>
   have w:=A5.1 u;dsimp only;rw[Bb (fun i=>(nz (He t h.d6 i)).map fun e=>(i,e)),DN]
   .grind
   .intro i d g _;have y:=go.fit _ (AF (l:=h.d6.d7) d g);rw[AD d g,bs];unfold He GL;by_cases j:(t.d7.length:Int)<=(AA h.d6.d7 i).mt
    .rw[az (by simpa using j),az j];rfl
    .rw[b6 (by simpa using j),b6 j,AD (by omega) (by omega),bs,AD (by omega) (by omega),bs,VF hf,bs];cases Iu t (AA h.d6.d7 i).mt (AA h.d6.d5 (AA h.d6.d7 i).nd) (AA h.d6.d5 (AA h.d6.d7 i).To)<;>rfl
 .intro i d g _;rw[AD d g,bs,AD d (by omega),bs,ng hf hv (go.kind _ (AF d g)).1,bs];exact YN _ i
structure Kq(t:ej)(h:gt):Prop where
 g:CN h.d6
 len:h.gp.length=h.d6.d5.length
 kind:∀i:Int,0<=i->i<h.d6.d5.length->0<=AA h.d6.d5 i/\AA h.d6.d5 i<t.d5.length
 row:∀i:Int,0<=i->i<h.d6.d5.length->(AA h.gp i).length=(Au t (AA h.d6.d5 i)).length
 low:∀i:Int,0<=i->i<h.d6.d5.length->∀x∈AA h.gp i,-1000000<=x/\x<=1000000
 ge:Bn h.d6=0
 ty:CW t h.d6=true
variable{h:gt}
theorem RP(e:(Dg t h).2=0):(∀i:Int,0<=i->i<h.d6.d5.length->FT t (AA h.d6.d5 i) (AA h.gp i)=0)/\∀i:Int,0<=i->i<h.d6.d7.length->He t h.d6 i=0:=by
 unfold Dg at e;split at e
 .rename_i u;exact absurd e u
 split at e
 .rename_i u;exact absurd e u
 split at e
 .cases e
 rename_i u z A;have y:∀i:Int,0<=i->i<h.d6.d5.length->FT t (AA h.d6.d5 i) (AA h.gp i)=0:=by
  split at e
  .rename_i r d;obtain⟨i,_,_,k,_⟩:=DU d;unfold nz at k;split at k
   .cases k
   .rename_i g;cases k;exact absurd e g
  .rename_i d;exact fun i j o=>Fm.1 (Lf.1 (A5.1 d i j o))
 have he:∀i:Int,0<=i->i<h.d6.d7.length->He t h.d6 i=0:=by
  have w:fst (fun i=>(nz (FT t (AA h.d6.d5 i) (AA h.gp i))).map fun e=>(i,e)) 0 h.d6.d5.length=none:=A5.2 fun i j o=>by rw[y i j o];rfl
  rw [w]at e;dsimp only at e;cases d:fst (fun i=>(nz (He t h.d6 i)).map fun e=>(i,e)) 0 h.d6.d7.length with
  |some r=>
   rw [d]at e;obtain⟨i,_,_,k,_⟩:=DU d;unfold nz at k;split at k
   .cases k
   .rename_i g;cases k;exact absurd e g
  |none=>exact fun i j o=>Fm.1 (Lf.1 (A5.1 d i j o))
 exact ⟨y,he⟩
theorem Qo(hf:A6 t)(e:(Dg t h).2=0):(A1 t).2=0/\Kq t h:=by
 obtain ⟨w,he⟩:=RP e;unfold Dg at e;split at e
 .rename_i o;exact absurd e o
 split at e
 .rename_i o;exact absurd e o
 split at e
 .cases e
 rename_i o A D;have hv:=Classical.not_not.1 o;have go:=Cp (Classical.not_not.1 A);have u:∀i:Int,0<=i->i<h.d6.d5.length->(0<=AA h.d6.d5 i/\AA h.d6.d5 i<t.d5.length)/\(AA h.gp i).length=(Au t (AA h.d6.d5 i)).length/\∀j:Int,0<=j->j<(Au t (AA h.d6.d5 i)).length->OH t (AA h.d6.d5 i) (AA h.gp i) j=false:=by
  intro i d g;have F:=(go.kind _ (AF d g)).1;have:=w i d g;unfold FT at this;split at this
  .cases this
  split at this
  .cases this
  split at this
  .cases this
  split at this
  .cases this
  rename_i a1 a2 a3 E;exact⟨⟨F,by omega⟩,Classical.not_not.1 a3,Bk.1 (by simpa using E)⟩
 have z:CW t h.d6=true:=by
  unfold CW;rw[tg,Bool.not_eq_true',Bool.not_eq_true',List.any_eq_false,List.any_eq_false];refine⟨fun n w=>?_,fun x y=>?_⟩
  .obtain⟨i,d,g,rfl⟩:=Bh w;have:=(u i d g).1.2;simp;omega
  .obtain⟨i,d,g,rfl⟩:=Bh y;have:=he i d g;unfold He at this;split at this
   .cases this
   .simp;omega
 suffices r:∀i:Int,0<=i->i<h.d6.d5.length->∀x∈AA h.gp i,-1000000<=x/\x<=1000000 from⟨hv,go,Classical.not_not.1 D,fun i d g=>(u i d g).1,fun i d g=>(u i d g).2.1,r,Classical.not_not.1 A,z⟩
 intro i d g x y;obtain⟨B,H,G⟩:=u i d g;obtain⟨j,C,I,rfl⟩:=Bh y;have:=G j C (by omega);unfold OH at this;simp[decide_eq_false_iff_not]at this;have:=UV hf (C8 hv) B.1 B.2 _ (AF (l:=Au t (AA h.d6.d5 i)) C (by omega));omega
end Go.Sf.Sc
namespace Go.Sf.Sc
open Go Go.Sf
def L7(t:ej)(p g:d6)(m:eb)(i:Int):a6:=
 if AA m.d5 i<0\/g.d5.length<=AA m.d5 i then some 6 else if Gv t (AA g.d5 (AA m.d5 i)) (AA p.d5 i)=false then some 13 else none
def Of(t:ej)(p g:d6)(m:eb):Int:=
 if m.d5.length≠p.d5.length\/m.d7.length≠p.d7.length then 20 else
 match fst (L7 t p g m) 0 m.d5.length with
 |some e=>e|none=>(fst (Gw p g m) 0 m.d7.length).getD 0
def IK(t:ej)(p g:d6)(m:eb)(inj:Bool):Int:=
 if EE t p g≠0 then EE t p g else if Of t p g m≠0 then Of t p g m else if(inj&&!Hy m)=true then 5 else 0
structure Vx(t:ej)(p g:d6)(m:eb):Prop where
 AaG:m.d5.length=p.d5.length
 AaR:m.d7.length=p.d7.length
 node:∀i:Int,0<=i->i<m.d5.length->(0<=AA m.d5 i/\AA m.d5 i<g.d5.length)/\Gv t (AA g.d5 (AA m.d5 i)) (AA p.d5 i)=true
 edge:∀i:Int,0<=i->i<m.d7.length->0<=AA m.d7 i/\AA m.d7 i<g.d7.length
variable{t:ej}
theorem RK{p g:d6}(h:EE t p g=0):(A1 t).2=0/\CN p/\CN g/\(∀n∈p.d5,0<=n/\n<t.d5.length)/\∀n∈g.d5,0<=n/\n<t.d5.length:=by
 unfold EE at h;split at h
 .grind
 split at h
 .grind
 split at h
 .grind
 split at h
 .rename_i e j o d;rw[tg]at d
  grind [Cp,GN]
 .cases h
variable{m:eb}
theorem am{p g:d6}(h:Of t p g m=0):Vx t p g m:=by
 unfold Of at h;split at h
 .cases h
 rename_i o;have j:fst (L7 t p g m) 0 m.d5.length=none:=by
  grind [DU,L7]
 rw [j]at h;have he:=Pc (fun i=>by
  grind [Gw]) h
 refine ⟨by omega,by omega,fun i d e=>?_,fun i d e=>?_⟩
 .grind[A5,L7]
 grind [Gw]
theorem Wf(hf:A6 t){p g:d6}(A:EE t p g=0)(m:eb):F9 t p g m=some (Of t p g m):=by
 obtain ⟨hv,C,G,tp,D⟩:=RK A;unfold F9 Of;refine Nv (by simp;try omega) fun E=>?_;rw[cR hf (C8 hv) hv,bs,Bb (L7 t p g m),DN]
 .cases F:fst (L7 t p g m) 0 m.d5.length with
  |some e=>rfl|none=>
   dsimp only;rw[Bb (Gw p g m),Cc];intro i j z _;unfold Gw;rw[AD j z,bs];by_cases d:AA m.d7 i<0\/g.d7.length<=AA m.d7 i
   .rw[az (by simpa using d),az d];rfl
   .have hf:=C.fit _ (AF (l:=p.d7) j (by omega));rw[b6 (by simpa using d),b6 d,AD j (by omega),bs,AD (by omega) (by omega),bs];by_cases o:(AA p.d7 i).mt=(AA g.d7 (AA m.d7 i)).mt
    .rw[b6 (by simpa using o),b6 (by simpa using o),AD (by omega) (by omega),bs];by_cases r:AA m.d5 (AA p.d7 i).nd=(AA g.d7 (AA m.d7 i)).nd
     .rw[b6 (by simpa using r),AD (by omega) (by omega),bs,bs];by_cases u:AA m.d5 (AA p.d7 i).To=(AA g.d7 (AA m.d7 i)).To
      .rw[b6 (by simpa using u),b6 (by simp[r,u])];rfl
      .rw[az (by simpa using u),az (.inr u)];rfl
     .rw[az (by simpa using r),bs,az rfl,az (.inl r)];rfl
    .rw[az (by simpa using o),az o];rfl
 .intro i j z _;unfold L7;rw[AD j z,bs];by_cases d:AA m.d5 i<0\/g.d5.length<=AA m.d5 i
  .rw[az (by simpa using d),az d];rfl
  .have w:=tp _ (AF (l:=p.d5) j (by omega));have y:=D _ (AF (l:=g.d5) (show 0<=AA m.d5 i by omega) (by omega));rw[b6 (by simpa using d),b6 d,AD j (by omega),bs,AD w.1 (by unfold Li;rw[d3,BD];exact w.2),bs,AD (by omega) (by omega),bs];have e:AA (Li t) (AA p.d5 i)=QD t (AA p.d5 i):=by unfold Li;exact Ia (QD t) w.1 w.2
   rw [e,AD y.1 (by unfold QD;rw[d3,BD];exact y.2),bs];have B:AA (QD t (AA p.d5 i)) (AA g.d5 (AA m.d5 i))=Gv t (AA g.d5 (AA m.d5 i)) (AA p.d5 i):=by unfold QD;exact Ia (fun k=>Gv t k (AA p.d5 i)) y.1 y.2
   rw [B];cases Gv t (AA g.d5 (AA m.d5 i)) (AA p.d5 i)<;>rfl
variable{l:Fp}
theorem aU(d:l.length<=1000):G0 l=some (!Jf l):=by grind[G0,Tu,Iq,AbM,Jf]
theorem Vk(hf:A6 t)(p g:d6)(m:eb)(inj:Bool):E4 t p g m inj=some (IK t p g m inj):=by
 unfold E4 IK;rw[TL hf,bs];refine Dq fun d=>?_;rw[Wf hf d,bs];refine Dq fun o=>?_;obtain⟨_,j,r,_⟩:=RK d;have e:=am o;have:=j.ek;have:=j.em;have:=e.AaG;have:=e.AaR;rw[aU (by omega),aU (by omega)];unfold Hy;cases inj<;>cases Jf m.d5<;>cases Jf m.d7<;>rfl
variable{inj:Bool}
theorem Xr{p g:d6}(h:IK t p g m inj=0):EE t p g=0/\Vx t p g m:=by grind[IK,am]
end Go.Sf.Sc
namespace Go.Sf.Sc
open Go Go.Sf
section
variable{α σ ρ:Type}
def Gz(step:α->σ->Bu σ ρ):List α->σ->σ ⊕ ρ
 |[],s=>.inl s|a::r,s=>match step a s with
  |.next s'=>Gz step r s'|.brk s'=>.inl s'|.ret r=>.inr r
variable{f:Int->σ->Option (Bu σ ρ)}
theorem SL[Inhabited α]{l:List α}(step:α->σ->Bu σ ρ)(I:σ->Prop)(h:∀(i:Int)s,0<=i->i<l.length->I s->f i s=some (step (AA l i) s)/\∀s',step (AA l i) s=.next s'->I s'):
  ∀(n:Nat)(a:Int)(s:σ),0<=a->a+n=l.length->I s->Aaa f n a s=some (Gz step (l.drop a.toNat) s)
 |0,a,s,d,o,_=>by
  rw [List.drop_eq_nil_of_le (by omega)];rfl
 |n+1,a,s,d,o,u=>by
  obtain ⟨g,j⟩:=h a s d (by omega) u;have hd:l.drop a.toNat=AA l a::l.drop (a+1).toNat:=by
   grind [List.drop_eq_getElem_cons,AA,List.getElem?_eq_getElem]
  rw [EO,g,hd,Gz];cases e:step (AA l a) s with
  |next s'=>
   simp only;exact SL step I h n (a+1) s' (by omega) (by omega) (j s' e)
  |brk s'=>rfl|ret r=>rfl
theorem WL[Inhabited α]{l:List α}(step:α->σ->Bu σ ρ)(I:σ->Prop){s:σ}(d:I s)(h:∀(i:Int)s,0<=i->i<l.length->I s->f i s=some (step (AA l i) s)/\∀s',step (AA l i) s=.next s'->I s'):
  kq f 0 l.length s=some (Gz step l s):=by
 have:=SL step I h l.length 0 s (by omega) (by omega) d;unfold kq;rw[show((l.length:Int)-0).toNat=l.length by omega];exact this
theorem Y0[Inhabited α](step:α->σ->Bu σ ρ)(I:σ->Prop):∀(l:List α)(s s':σ),I s->(∀a∈l,∀s s',I s->step a s=.next s'->I s')->(∀a∈l,∀s s',step a s≠.brk s')->Gz step l s=.inl s'->I s'
 |[],s,s',h,_,_,e=>by cases e;exact h
 |a::r,s,s',h,j,u,e=>by
  rw [Gz]at e;split at e
  .rename_i g o;exact Y0 step I r g s' (j a (by simp) s g h o) (fun a d=>j a (by simp[d])) (fun a d=>u a (by simp[d])) e
  .grind
  .cases e
end
def FP(x:kg)(l:Fp):Int:=if x.Var<0 then x.Add else AK (AA l x.Var+x.Add)
variable{x:kg}{l:Fp}
theorem Wg(h:x.Var<l.length):EB x l=some (FP x l):=by grind[EB,FP,AD]
theorem YU(d:-1<=x.Var)(h:x.Var<l.length)(e:l.length<=1000):EU x l=some (FP x l,0):=by grind[EU,CZ,AW,Wg]
def Pd(x:Test)(l:Fp):Bool:=(decide (x.o3=1)&&decide (FP x.kl l<=FP x.fu l))||(decide (x.o3=2)&&decide (FP x.kl l=FP x.fu l))
structure Jr(n:Int)(x:kg):Prop where
 low:-1<=x.Var
 high:x.Var<n
 add:-1000000<=x.Add/\x.Add<=1000000
def Oy(l:Fp):Prop:=∀x∈l,-2000000<=x/\x<=2000000
variable{n:Int}
theorem Rj(h:Jr n x)(d:Oy l)(e:n<=l.length):FP x l=(if x.Var<0 then x.Add else AA l x.Var+x.Add)/\-3000000<=FP x l/\FP x l<=3000000:=by
 unfold FP;have:=h.add;by_cases g:x.Var<0
 .grind
 .have hh:=h.high;have:=d _ (AF (l:=l) (show 0<=x.Var by omega) (by omega))
  grind [AW]
variable{a b:Int}
theorem W7(j:-4000000<=a/\a<=4000000)(o:-4000000<=b/\b<=4000000):GE a b=some (if a+b<0 then(-1,a+b+18446744073709551616)else(0,a+b)):=by
 have d:∀c:Int,IntKind.u64.wrap c=c % 18446744073709551616:=fun c=>by
  simp [IntKind.wrap,IntKind.signed,IntKind.bits]
 have g:∀c:Int,-4000000<=c/\c<=4000000->FU .i64 .shr c 63=some (if c<0 then -1 else 0):=by
  intro c w;unfold FU;have e:c.fdiv (2^ (min (63:Int).toNat (IntKind.bits .i64)))=if c<0 then -1 else 0:=by
   show c.fdiv (2^ 63)=_
   grind
  simp only[e];have:(0:Int)<=63/\IntKind.min .i64<=(if c<0 then -1 else 0)/\(if c<0 then -1 else 0)<=IntKind.max .i64:=by
   split<;>decide
  rw [az this]
 unfold GE Hg;rw[d,d,az (by omega),bs,g a j,g b o,bs,bs];congr 1;have y:∀c:Int,-10<=c->c<=10->AK c=c:=fun c r u=>AW (by omega) (by omega)
 grind
def JC(a:Int):Int×Int:=if a<0 then(-1,a+18446744073709551616)else(0,a)
theorem YX(h:Jr n x)(d:Oy l)(o:n<=l.length):EY x l=some ((JC (FP x l)).1,(JC (FP x l)).2,true):=by
 have r:=h.low;have u:=h.high;have w:=h.add;have g:=(Rj h d o).1;unfold EY;by_cases j:x.Var=-1
 .have e:FP x l=x.Add:=by rw[g,az (by omega)]
  rw [e,az (by simpa using j),W7 (by omega) (by omega),bs,Int.zero_add];rfl
 .have:=d _ (AF (l:=l) (show 0<=x.Var by omega) (by omega));have e:FP x l=AA l x.Var+x.Add:=by rw[g,b6 (by omega)]
  rw [e,b6 (by simpa using j),b6 (by simp;omega),AD (by omega) (by omega),bs,W7 (by omega) (by omega),bs];rfl
theorem lK(a b:Int):cmp_Compare_int a b=some (if a<b then -1 else if b<a then 1 else 0):=by
 unfold cmp_Compare_int cmp_isNaN_int
 grind
theorem th(a b:Int):HQ a b=some (if a<b then -1 else if b<a then 1 else 0):=lK a b
theorem pZ(a b:Int):L8 [a,b]=some (if a=0 then b else a):=by
 unfold L8;show fl (Aaa _ 2 0 ()) _ _=_;rw[EO,show idx [a,b] 0=some a from rfl,bs]
 grind [fl,Aaa,EO,idx]
theorem p_holds{x:Test}(g:Jr n x.kl)(j:Jr n x.fu)(d:Oy l)(e:n<=l.length):Fe x l=some (Pd x l):=by
 have o:=(Rj g d e).2;have r:=(Rj j d e).2;unfold Fe Pd;rw[YX g d e,YX j d e];simp[lK,th,pZ];generalize FP x.kl l=a at o;generalize FP x.fu l=b at r;have key:(if(if(JC a).1<(JC b).1 then(-1:Int)else if(JC b).1<(JC a).1 then 1 else 0)=0 then(if(JC a).2<(JC b).2 then(-1:Int)else if(JC b).2<(JC a).2 then 1 else 0)else(if(JC a).1<(JC b).1 then(-1:Int)else if(JC b).1<(JC a).1 then 1 else 0))=if a<b then -1 else if b<a then 1 else 0:=by
  grind [JC]
 rw [key];congr 2
 .grind
 grind
end Go.Sf.Sc
namespace Go.Sf.Sc
open Go Go.Sf
structure TR(t:ej)(q:ed):Prop where
 g:CN q.d6
 kind:∀n∈q.d6.d5,0<=n/\n<t.d5.length
 vars:0<=q.fq/\q.fq<=12
 few:q.ff.length<=10/\q.ns.length<=10
 slot:∀s∈q.ff,(0<=s.p0/\s.p0<q.d6.d5.length)/\(0<=s.mh/\s.mh<(Au t (AA q.d6.d5 s.p0)).length)/\Jr q.fq s.kg
 test:∀x∈q.ns,(x.o3=1\/x.o3=2)/\Jr q.fq x.kl/\Jr q.fq x.fu
 ge:Bn q.d6=0
 ty:CW t q.d6=true
variable{n:Int}{x:kg}
theorem kj(h:La n x=true):Jr n x:=by
 unfold La at h;simp[zzX]at h;exact⟨h.1.1.1,h.1.1.2,h.1.2,h.2⟩
theorem km{l:List Test}(h:Hs n l=0):∀x∈l,(x.o3=1\/x.o3=2)/\Jr n x.kl/\Jr n x.fu:=by
 unfold Hs at h;split at h
 .cases h
 split at h
 .cases h
 have g:=SN h;intro x d;obtain⟨i,j,o,rfl⟩:=Bh d;have:=g i j o;unfold I4 at this;split at this
 .cases this
 split at this
 .rename_i r e;rw[tg]at e
  grind [kj]
 .cases this
theorem dG(n:Int)(l:List Test):Hs n l≠9:=by
 unfold Hs;split
 .decide
 split
 .decide
 intro h;cases d:fst (fun i=>nz (I4 n (AA l i))) 0 l.length with
 |none=>rw[d]at h;cases h
 |some r=>
  grind [DU,nz,I4]
variable{t:ej}{q:ed}
theorem jJ(hv:(A1 t).2=0)(h:EH t q=0\/EH t q=9):TR t q:=by
 have y:=Un q.d6;unfold EH at h;rw[b6 (by simp[hv])]at h;split at h
 .omega
 rename_i o;have g:=Cp (Classical.not_not.1 o);split at h
 .omega
 rename_i e;split at h
 .omega
 rename_i A;split at h
 .omega
 rename_i B;split at h
 .omega
 rename_i C;split at h
 .grind[dG]
 rename_i w;refine⟨g,(GN g (by simpa using e)).1,by omega,by omega,fun s z=>?_,km (Classical.not_not.1 w),Classical.not_not.1 o,by simpa using e⟩;have j:Pw t q s=false:=by
  grind
 unfold Pw at j;simp[Bool.not_eq_false',decide_eq_false_iff_not]at j;obtain⟨⟨⟨d,E⟩,F⟩,G,H⟩:=j;unfold PU at d;dsimp only at d;split at d
 .cases d
 rename_i D;have u:=(GN g (by simpa using e)).1 _ (AF (l:=q.d6.d5) (show 0<=s.p0 by omega) (by omega));rw[Jw hv u.1 u.2]at d;split at d
 .cases d
 rename_i r;have r:¬(s.mh<0\/((Au t (AA q.d6.d5 s.p0)).length:Int)<=s.mh):=r;exact⟨by omega,by omega,by omega,by omega,by omega,by omega⟩
def P7(h:gt)(m:eb)(s:Bv):Int:=AA (AA h.gp (AA m.d5 s.p0)) s.mh
def Np(h:gt)(m:eb)(s:Bv)(st:Fp×ae):Fp×ae:=
 if 0<=s.kg.Var/\AA st.2 s.kg.Var=false then(BN st.1 s.kg.Var (AK (P7 h m s-s.kg.Add)),BN st.2 s.kg.Var true)else st
def GI{ρ:Type}(r:ρ)(h:gt)(m:eb)(s:Bv)(st:Fp×ae):Bu (Fp×ae) ρ:=
 if FP s.kg (Np h m s st).1=P7 h m s then .next (Np h m s st)else .ret r
structure VI(n:Int)(st:Fp×ae):Prop where
 l1:(st.1.length:Int)=n
 l2:(st.2.length:Int)=n
 small:Oy st.1
structure Kr(n:Int)(h:gt)(m:eb)(s:Bv):Prop where
 node:0<=s.p0/\s.p0<m.d5.length
 val:0<=AA m.d5 s.p0/\AA m.d5 s.p0<h.gp.length
 Ab5:0<=s.mh/\s.mh<(AA h.gp (AA m.d5 s.p0)).length
 term:Jr n s.kg
 has:-1000000<=P7 h m s/\P7 h m s<=1000000
variable{h:gt}{m:eb}{s:Bv}
theorem Qv(g:FA t)(j:TR t q)(hh:Kq t h)(e:Vx t q.d6 h.d6 m)(o:s∈q.ff):Kr q.fq h m s:=by
 obtain ⟨u,w,y⟩:=j.slot s o;have z:=e.AaG;have d:=e.node s.p0 u.1 (by omega);have A:=hh.row _ d.1.1 d.1.2;have r:=hh.kind _ d.1.1 d.1.2;have B:=WV g r.2 d.2;have hv:=hh.len;refine⟨by omega,by omega,by omega,y,?_⟩;unfold P7;exact hh.low _ d.1.1 d.1.2 _ (AF w.1 (by omega))
theorem D5{α:Type}(l:List α)(i:Int)(a:α):(BN l i a).length=l.length:=by unfold BN;rw[List.length_set]
variable{i:Int}
theorem ju{α:Type}{l:List α}{a x:α}(h:x∈BN l i a):x∈l\/x=a:=List.mem_or_eq_of_mem_set h
variable{st:Fp×ae}
theorem fw(e:Kr n h m s)(hi:VI n st):VI n (Np h m s st):=by
 have g:=e.has;have j:=e.term.add;unfold Np;split
 .refine⟨by rw[D5];exact hi.l1,by rw[D5];exact hi.l2,fun x d=>?_⟩;rcases ju d with d|rfl
  .exact hi.small x d
  grind [AW]
 .exact hi
def IW(q:ed)(h:gt)(m:eb):Fp×Int:=
 match Gz (GI (([],11):Fp×Int) h m) q.ff (List.replicate q.fq.toNat 0,List.replicate q.fq.toNat false)with
 |.inr r=>r|.inl st=>if n8 (fun i=>!Pd (AA q.ns i) st.1) 0 q.ns.length=true then([],16)else(st.1,0)
theorem Vu(d:0<=n):VI n (List.replicate n.toNat 0,List.replicate n.toNat false):=by
 refine ⟨by simp;omega,by simp;omega,fun x e=>?_⟩
 grind
variable{st':Fp×ae}
theorem Su{ρ:Type}{r:ρ}(d:Kr n h m s)(hi:VI n st)(e:GI r h m s st=.next st'):VI n st':=by grind[GI,fw]
theorem fx{ρ:Type}{r:ρ}:GI r h m s st≠.brk st':=by grind[GI]
theorem Rg{ρ:Type}{r:ρ}{l:List Bv}(d:∀s∈l,Kr n h m s)(hi:VI n st)(e:Gz (GI r h m) l st=.inl st'):VI n st':=
 Y0 (GI r h m) (VI n) l st st' hi (fun a g _ _ j o=>Su (d a g) j o) (fun _ _ _ _=>fx) e
theorem VN{ρ:Type}{r:ρ}(w:Kr n h m s)(hi:VI n st){T:Fp×ae->Option (Bu (Fp×ae) ρ)}
  (j:∀st':Fp×ae,(st'.1.length:Int)=n->T st'=some (if FP s.kg st'.1=P7 h m s then .next st' else .ret r)):
  ((if(decide (0<=s.kg.Var))=true then((idx st.2 s.kg.Var).bind fun o=>some (!o))else some false).bind fun u=>
   if u=true then(idx st.1 s.kg.Var).bind fun _=>(idx st.2 s.kg.Var).bind fun _=>T (BN st.1 s.kg.Var (AK (P7 h m s-s.kg.Add)),BN st.2 s.kg.Var true)else T (st.1,st.2))=some (GI r h m s st):=by
 have y:=w.term.high;have l1:=hi.l1;have l2:=hi.l2;unfold GI;by_cases d:0<=s.kg.Var
 .rw[az (by simpa using d),AD d (by omega),bs,bs];by_cases g:AA st.2 s.kg.Var=false
  .rw[az (by simp[g]),AD d (by omega),bs,bs,j _ (by dsimp only;rw[D5];exact l1)];have e:Np h m s st=(BN st.1 s.kg.Var (AK (P7 h m s-s.kg.Add)),BN st.2 s.kg.Var true):=by unfold Np;rw[az ⟨d,g⟩]
   rw [e]
  .rw[b6 (by simpa using g),j _ l1];have e:Np h m s st=st:=by unfold Np;rw[b6 (fun e=>g e.2)]
   rw [e]
 .rw[b6 (by simpa using d),bs,b6 (by decide),j _ l1];have e:Np h m s st=st:=by unfold Np;rw[b6 (fun e=>d e.1)]
  rw [e]
variable{v:Int}
theorem fz{t:kg}{f:kg->Fp->a6}(hf:∀l:Fp,(l.length:Int)=n->f t l=some (FP t l))(st':Fp×ae)(e:(st'.1.length:Int)=n):((f t st'.1).bind fun d=>if(!decide (d=v))=true then some (Bu.ret (([],11):Fp×Int))else some (.next st'))=some (if FP t st'.1=v then .next st' else .ret ([],11)):=by grind
theorem aS(u:TR t q)(w:∀s∈q.ff,Kr q.fq h m s):Eu q h m=some (IW q h m):=by
 have hv:=u.vars;unfold Eu IW JH;rw[az (by omega),bs,az (by omega),bs];rw[WL (GI (([],11):Fp×Int) h m) (VI q.fq) (Vu hv.1)]
 .cases z:Gz (GI (([],11):Fp×Int) h m) q.ff (List.replicate q.fq.toNat 0,List.replicate q.fq.toNat false)with
  |inr r=>rfl|inl st=>
   have hi:=Rg w (Vu hv.1) z;rw[B6,Br (fun i=>!Pd (AA q.ns i) st.1) ([],16)]
   .dsimp only;cases n8 (fun i=>!Pd (AA q.ns i) st.1) 0 q.ns.length<;>rfl
   .intro i g j _;have y:=u.test _ (AF g j);rw[AD g j,bs,p_holds y.2.1 y.2.2 hi.small (by have:=hi.l1;omega),bs]
    grind
 .intro i st g j hi;have d:=w _ (AF g j);refine⟨?_,fun s' e=>Su d hi e⟩;rw[AD g j,bs,AD d.node.1 d.node.2,bs,AD d.val.1 d.val.2,bs,AD d.Ab5.1 d.Ab5.2,bs];exact VN d hi (T:=fun st'=>(EB (AA q.ff i).kg st'.1).bind fun o=>if(!decide (o=P7 h m (AA q.ff i)))=true then some (Bu.ret (([],11):Fp×Int))else some (.next st')) (fz fun l A=>Wg (by have:=d.term.high;omega))
def NX(t:ej)(p:ed)(h:gt):Int:=if EH t p≠0 then EH t p else(Dg t h).2
theorem Wd(hf:A6 t)(p:ed)(h:gt):EA t p h=some (NX t p h):=by
 unfold EA NX;rw[VA hf,bs];refine Dq fun _=>?_;rw[Sh hf];rfl
def ID(t:ej)(p:ed)(h:gt)(m:eb):Fp×Int:=
 if NX t p h≠0 then([],NX t p h)else if IK t p.d6 h.d6 m false≠0 then([],IK t p.d6 h.d6 m false)else IW p h m
variable{p:ed}{inj:Bool}
theorem Ti(hf:A6 t)(d:NX t p h=0)(e:IK t p.d6 h.d6 m inj=0):(A1 t).2=0/\TR t p/\Kq t h/\Vx t p.d6 h.d6 m:=by
 unfold NX at d;split at d
 .grind
 rename_i g;obtain⟨hv,hh⟩:=Qo hf d;exact⟨hv,jJ hv (.inl (Classical.not_not.1 g)),hh,(Xr e).2⟩
theorem aL(hf:A6 t)(p:ed)(h:gt)(m:eb):D9 t p h m=some (ID t p h m):=by
 unfold D9 ID;rw[Wd hf,bs];refine FM fun e=>?_;rw[Vk hf,bs];refine FM fun g=>?_;obtain⟨hv,d,hh,o⟩:=Ti hf e g;rw[aS d (fun s j=>Qv (C8 hv) d hh o j)];rfl
theorem fy(g:TR t q)(j:∀s∈q.ff,Kr q.fq h m s)(e:(IW q h m).2=0):((IW q h m).1.length:Int)=q.fq/\Oy (IW q h m).1:=by
 unfold IW at e|-;cases d:Gz (GI (([],11):Fp×Int) h m) q.ff (List.replicate q.fq.toNat 0,List.replicate q.fq.toNat false)with
 |inr r=>
  rw [d]at e;have:∀(l:List Bv)(st:Fp×ae)(r:Fp×Int),Gz (GI (([],11):Fp×Int) h m) l st=.inr r->r=([],11):=by
   intro l
   induction l with
   |nil=>intro st r h;cases h
   |cons a l u=>
    grind [Gz,GI]
  grind
 |inl st=>
  rw [d]at e;have hi:=Rg j (Vu g.vars.1) d;dsimp only at e|-;split at e
  .cases e
  .rename_i o;rw[b6 o];exact⟨hi.l1,hi.small⟩
end Go.Sf.Sc
namespace Go.Sf.Sc
open Go Go.Sf
variable{i:Int}
theorem KH{n:Nat}{α:Type}[Inhabited α](F:Int->α)(d:0<=i)(v:α):BN ((A7 n).map F) i v=(A7 n).map fun j=>if j=i then v else F j:=by
 unfold BN;refine List.ext_getElem (by simp) (fun k e g=>?_)
 grind [BD,A7]
theorem Dw{n:Nat}{α:Type}{F G:Int->α}(h:∀j,0<=j->j<(n:Int)->F j=G j):(A7 n).map F=(A7 n).map G:=by grind[List.map_congr_left,ET]
def JF(n:Nat)(k:Int):ae:=(A7 n).map fun j=>decide (j<k)
theorem bv(n:Nat):JF n 0=List.replicate n false:=by
 unfold JF;refine List.ext_getElem (by simp[BD]) (fun k d e=>?_)
 grind [A7,BD]
theorem WX(n:Nat)(k:Int):(JF n k).length=n:=by unfold JF;rw[d3,BD]
def Oh(q:ed)(h:gt)(m:eb)(given:Fp):Fp×Bool:=
 match Gz (GI (([],false):Fp×Bool) h m) q.ff (given++List.replicate (q.fq-given.length).toNat 0,JF q.fq.toNat given.length)with
 |.inr r=>r|.inl st=>if n8 (fun i=>!Pd (AA q.ns i) st.1) 0 q.ns.length=true then([],false)else(st.1,true)
variable{n:Int}{given:Fp}
theorem ZE(e:0<=n)(g:given.length<=n)(hv:Oy given):VI n (given++List.replicate (n-given.length).toNat 0,JF n.toNat given.length):=by
 refine ⟨by simp;omega,by show((JF n.toNat given.length).length:Int)=n;rw[WX];omega,fun x d=>?_⟩;rcases List.mem_append.1 d with d|d
 .exact hv x d
 grind
variable{q:ed}{m:eb}{t:ej}
theorem qn{s:BE}(w:TR t q)(y:∀x∈q.ff,Kr q.fq s.h m x)(B:given.length<=q.fq)(hv:Oy given):Dh s q m given=some (Oh q s.h m given):=by
 have D:=w.vars;unfold Dh Oh slices_Clone_int;rw[Bq (by unfold At;omega),bs,AW (by omega) (by omega)];have E:Tm given (q.fq-given.length) 0=some (given++List.replicate (q.fq-given.length).toNat 0):=by
  grind [Tm,At]
 have F:JH q.fq false=some (List.replicate q.fq.toNat false):=by
  grind [JH]
 rw [E,bs,F,bs];have G:pq (fun(d:Int)(z:ae)=>(idx z d).bind fun C=>some (BN z d true)) 0 (given.length:Int) (List.replicate q.fq.toNat false)=some (JF q.fq.toNat given.length):=by
  refine Bz (fun i=>JF q.fq.toNat i) (by omega) (bv _) (fun i d j=>?_);rw[AD d (by rw[WX];omega),bs];congr 1;unfold JF;rw[KH _ d]
  grind
 rw [G,bs];have u:=ZE D.1 B hv;rw[WL (GI (([],false):Fp×Bool) s.h m) (VI q.fq) u]
 .cases H:Gz (GI (([],false):Fp×Bool) s.h m) q.ff (given++List.replicate (q.fq-given.length).toNat 0,JF q.fq.toNat given.length)with
  |inr r=>rfl|inl st=>
   have hi:=Rg y u H;rw[B6,Br (fun i=>!Pd (AA q.ns i) st.1) ([],false)]
   .dsimp only;cases n8 (fun i=>!Pd (AA q.ns i) st.1) 0 q.ns.length<;>rfl
   .intro i d j _;have A:=w.test _ (AF d j);rw[AD d j,bs,p_holds A.2.1 A.2.2 hi.small (by have:=hi.l1;omega),bs]
    grind
 .intro i st d j hi;have g:=y _ (AF d j);refine⟨?_,fun s' e=>Su g hi e⟩;rw[AD d j,bs,AD g.node.1 g.node.2,bs,AD g.val.1 g.val.2,bs,AD g.Ab5.1 g.Ab5.2,bs];refine VN g hi (T:=fun st'=>(EU (AA q.ff i).kg st'.1).bind fun o=>if((!decide (o.2=0))||(!decide (o.1=P7 s.h m (AA q.ff i))))=true then some (Bu.ret (([],false):Fp×Bool))else some (.next st')) (fun st' I=>?_);rw[YU g.term.low (by have:=g.term.high;omega) (by omega),bs]
  grind
variable{h:gt}
theorem kv(j:TR t q)(o:∀s∈q.ff,Kr q.fq h m s)(u:given.length<=q.fq)(hv:Oy given)(e:(Oh q h m given).2=true):((Oh q h m given).1.length:Int)=q.fq/\Oy (Oh q h m given).1:=by
 unfold Oh at e|-;have d:=ZE j.vars.1 u hv;cases g:Gz (GI (([],false):Fp×Bool) h m) q.ff (given++List.replicate (q.fq-given.length).toNat 0,JF q.fq.toNat given.length)with
 |inr r=>
  rw [g]at e;have:∀(l:List Bv)(st:Fp×ae)(r:Fp×Bool),Gz (GI (([],false):Fp×Bool) h m) l st=.inr r->r=([],false):=by
   intro l
   induction l with
   |nil=>intro st r h;cases h
   |cons a l y=>
    grind [Gz,GI]
  grind
 |inl st=>
  rw [g]at e;have hi:=Rg o d g;dsimp only at e|-;split at e
  .cases e
  .rename_i w;rw[b6 w];exact⟨hi.l1,hi.small⟩
def VD(n:Nat)(by' images:Fp):Fp:=(A7 by'.length).foldl (fun l i=>BN l (AA by' i) (AA images i)) (List.replicate n (-1))
theorem WI(d images:Fp):∀(e:Fp)(l:Fp),(e.foldl (fun l i=>BN l (AA d i) (AA images i)) l).length=l.length
 |[],l=>rfl|k::e,l=>by rw[List.foldl_cons,WI d images e,D5]
theorem cW{n:Nat}{d images:Fp}(y:∀x∈d,0<=x/\x<n)(z:d.length<=images.length):pq (fun(g:Int)(o:Fp)=>
  (idx d g).bind fun e=>
  (idx images g).bind fun j=>
  (idx o e).bind fun r=>
  some (BN o e j)) 0 (d.length:Int) (List.replicate n (-1))=some (VD n d images):=by
 have h:=Bz (f:=fun(g:Int)(o:Fp)=>
  (idx d g).bind fun e=>
  (idx images g).bind fun j=>
  (idx o e).bind fun r=>
  some (BN o e j)) (fun i=>(A7 i.toNat).foldl (fun l i=>BN l (AA d i) (AA images i)) (List.replicate n (-1))) (a:=0) (b:=d.length) (s:=List.replicate n (-1)) (by omega) rfl (fun i g u=>by
   have w:=y _ (AF g u);rw[AD g u,bs,AD g (by omega),bs,AD w.1 (by rw[WI];simpa using w.2),bs,I9 g,List.foldl_append];rfl)
 rw [h,Int.toNat_natCast];rfl
theorem Yc{n:Nat}{d images:Fp}(j:n<=1000)(e:∀x∈d,0<=x/\x<n)(g:d.length<=images.length):Fa n d images=some (VD n d images):=by
 unfold Fa D6;rw[az ⟨rfl,by omega,by omega⟩,bs];show(pq _ 0 _ (List.replicate (n:Int).toNat (-1))).bind _=_;rw[Int.toNat_natCast,cW e g];rfl
end Go.Sf.Sc
namespace Go.Sf.Sc
open Go Go.Sf
structure lC(f:AH):Prop where
 nl:f.ek.length<=f.p.d5.length
 node:∀i:Int,0<=i->i<f.ek.length->(0<=AA f.ek i/\AA f.ek i<f.g.d5.length)/\AA (AA f.is (AA f.p.d5 i)) (AA f.g.d5 (AA f.ek i))=true
 edge:∀i:Int,0<=i->i<f.em.length->(0<=AA f.em i/\AA f.em i<f.g.d7.length)/\AA f.g.d7 (AA f.em i)=⟨(AA f.p.d7 i).mt,AA f.ek (AA f.p.d7 i).nd,AA f.ek (AA f.p.d7 i).To⟩
 inj:f.jj=true->f.ek.Nodup/\f.em.Nodup
structure bI(f:AH)(m:eb):Prop where
 nl:m.d5.length=f.p.d5.length
 el:m.d7.length=f.p.d7.length
 node:∀i:Int,0<=i->i<m.d5.length->(0<=AA m.d5 i/\AA m.d5 i<f.g.d5.length)/\AA (AA f.is (AA f.p.d5 i)) (AA f.g.d5 (AA m.d5 i))=true
 edge:∀i:Int,0<=i->i<m.d7.length->(0<=AA m.d7 i/\AA m.d7 i<f.g.d7.length)/\AA f.g.d7 (AA m.d7 i)=⟨(AA f.p.d7 i).mt,AA m.d5 (AA f.p.d7 i).nd,AA m.d5 (AA f.p.d7 i).To⟩
 inj:f.jj=true->m.d5.Nodup/\m.d7.Nodup
variable{i:Int}
theorem KP{α:Type}[Inhabited α](l:List α)(x:α)(h:i=l.length):AA (l++[x]) i=x:=by grind[Ll]
variable{l:Fp}{k:Int}
theorem U1{b:Bool}(h:(!(b&&l.any fun x=>decide (k=x)))=true)(d:b=true)(e:l.Nodup):(l++[k]).Nodup:=by grind
theorem Vy:∀(n:Nat)(f:AH),lC f->f.ek.length=f.p.d5.length->f.em.length+n=f.p.d7.length->∀m∈FX n f,bI f m
 |0,f,j,z,he,m,d=>by
  rw [FX,List.mem_singleton]at d;subst d;exact⟨z,by simpa using he,j.node,j.edge,j.inj⟩
 |n+1,f,j,z,he,m,d=>by
  rw [FX,List.mem_flatMap]at d;obtain⟨k,w,d⟩:=d;have w:=ET.1 w;split at d
  .rename_i o;unfold Rs at o;rw[tg]at o;obtain⟨r,y⟩:=o;rw[Y2,tg,zzX]at r;have:=Vy n {f with em:=f.em++[k]} ⟨j.nl,j.node,fun i A u=>by
    have u:i<((f.em++[k]).length:Int):=u;simp at u;show(0<=AA (f.em++[k]) i/\AA (f.em++[k]) i<f.g.d7.length)/\AA f.g.d7 (AA (f.em++[k]) i)=⟨(AA f.p.d7 i).mt,AA f.ek (AA f.p.d7 i).nd,AA f.ek (AA f.p.d7 i).To⟩;by_cases e:i=f.em.length
    .rw[KP _ _ e];exact⟨w,by rw[e];exact r.2⟩
    .rw[Jv _ _ A (by omega)];exact j.edge i A (by omega),fun hi=>⟨(j.inj hi).1,U1 y hi (j.inj hi).2⟩⟩ z (by show(f.em++[k]).length+n=f.p.d7.length;rw[cE,List.length_singleton];omega) m d
   exact ⟨this.nl,this.el,this.node,this.edge,this.inj⟩
  .cases d
theorem Vz:∀(n:Nat)(f:AH),lC f->f.em=[]->f.ek.length+n=f.p.d5.length->∀m∈Kl n f,bI f m
 |0,f,r,he,A,m,o=>by
  grind [Kl,Vy]
 |n+1,f,r,he,A,m,o=>by
  rw [Kl,List.mem_flatMap]at o;obtain⟨k,w,o⟩:=o;have w:=ET.1 w;split at o
  .rename_i j;unfold Se at j;rw[tg,tg]at j;obtain⟨⟨_,y⟩,z⟩:=j;have:=Vz n {f with ek:=f.ek++[k]} ⟨by show(f.ek++[k]).length<=f.p.d5.length;rw[cE,List.length_singleton];omega,fun i u d=>by
    have d:i<((f.ek++[k]).length:Int):=d;simp at d;show(0<=AA (f.ek++[k]) i/\AA (f.ek++[k]) i<f.g.d5.length)/\AA (AA f.is (AA f.p.d5 i)) (AA f.g.d5 (AA (f.ek++[k]) i))=true;by_cases e:i=f.ek.length
    .rw[KP _ _ e];exact⟨w,by rw[e];exact y⟩
    .rw[Jv _ _ u (by omega)];exact r.node i u (by omega),fun i u d=>by
    have d:i<(f.em.length:Int):=d;rw[he]at d;have:i<(0:Nat):=d;omega,fun hi=>⟨U1 z hi (r.inj hi).1,(r.inj hi).2⟩⟩ he (by show(f.ek++[k]).length+n=f.p.d5.length;rw[cE,List.length_singleton];omega) m o
   exact ⟨this.nl,this.el,this.node,this.edge,this.inj⟩
  .cases o
variable{t:ej}{pa:eb}{inj:Bool}{m:eb}
theorem Uj{p g:d6}(e:m∈Jz t p g pa inj):bI (FF t p g pa inj) m:=
 Vz _ (FF t p g pa inj) ⟨Nat.zero_le _,fun i j d=>by have d:i<(0:Nat):=d;omega,fun i j d=>by have d:i<(0:Nat):=d;omega,fun _=>⟨List.nodup_nil,List.nodup_nil⟩⟩ rfl (by show 0+p.d5.length=p.d5.length;omega) m (List.mem_of_mem_take e)
theorem X9{p g:d6}(h:EE t p g=0)(u:m∈Jz t p g pa inj):Vx t p g m:=by
 obtain ⟨hv,A,B,tp,w⟩:=RK h;have:=Uj u;refine⟨this.nl,this.el,fun i d e=>?_,fun i d e=>(this.edge i d e).1⟩;obtain⟨j,r⟩:=this.node i d e;refine⟨j,?_⟩;have o:=this.nl;have y:=tp _ (AF (l:=p.d5) d (by show i<(p.d5.length:Int);have o:m.d5.length=p.d5.length:=o;omega));have z:=w _ (AF (l:=g.d5) j.1 j.2);have r:AA (AA (Li t) (AA p.d5 i)) (AA g.d5 (AA m.d5 i))=true:=r
 grind [AA,Li,QD,Ia,Gv]
theorem eD{p g:d6}(h:EE t p g=0)(r:m∈Jz t p g pa inj):IK t p g m inj=0:=by
 have ok:=X9 h r;have u:=Uj r;have w:Of t p g m=0:=by
  unfold Of;rw[b6 (by have:=ok.AaG;have:=ok.AaR;omega)];have y:fst (L7 t p g m) 0 m.d5.length=none:=by
   rw [A5];intro i d e;obtain⟨j,o⟩:=ok.node i d e
   grind [L7]
  have z:fst (Gw p g m) 0 m.d7.length=none:=by
   rw [A5];intro i d e;obtain⟨j,o⟩:=u.edge i d e;have j:0<=AA m.d7 i/\AA m.d7 i<g.d7.length:=j;have o:AA g.d7 (AA m.d7 i)=⟨(AA p.d7 i).mt,AA m.d5 (AA p.d7 i).nd,AA m.d5 (AA p.d7 i).To⟩:=o
   grind [Gw]
  rw [y,z];rfl
 unfold IK;rw[b6 (by simp[h]),b6 (by simp[w])];cases inj
 .rfl
 .have:=u.inj rfl
  grind [Hy,Iq]
theorem dx{p g:d6}(h:(Tv t p g pa inj).2=0):(Tv t p g pa inj).1.length<=5000/\∀m∈(Tv t p g pa inj).1,Vx t p g m:=by grind[Tv,X9]
structure Zq(t:ej)(p:ed)(h:gt)(x:AS):Prop where
 q:TR t p
 m:Vx t p.d6 h.d6 x.eb
 len:(x.fq.length:Int)=p.fq
 small:Oy x.fq
structure k9(t:ej)(p:ed)(c:ea):Prop where
 q:TR t c.ed
 vars:p.fq<=c.ed.fq
 map:Q2 p.d6 c.ed.d6 c.Map
 inj:Hy c.Map=true
def IB(t:ej)(c:ea)(h:gt)(m:AS)(inj:Bool):List AS×Int:=
 let x:=Tv t c.ed.d6 h.d6 ⟨VD c.ed.d6.d5.length c.Map.d5 m.eb.d5,VD c.ed.d6.d7.length c.Map.d7 m.eb.d7⟩ inj
 if x.2≠0 then([],x.2)else((x.1.filter fun y=>(Oh c.ed h y m.fq).2).map fun y=>⟨y,(Oh c.ed h y m.fq).1⟩,0)
instance:Inhabited eb:=⟨⟨[],[]⟩⟩
instance:Inhabited AS:=⟨⟨default,[]⟩⟩
instance:Inhabited B1:=⟨⟨0,default,[]⟩⟩
theorem TW{x:List eb}{F:eb->Fp×Bool}{f:Int->List AS->Option (List AS)}(o:x.length<=5000)
  (hf:∀(i:Int)(s:List AS),0<=i->i<x.length->s.length<=5000->f i s=some (if(F (AA x i)).2=true then s++[⟨AA x i,(F (AA x i)).1⟩]else s)):
  pq f 0 (x.length:Int) []=some ((x.filter fun y=>(F y).2).map fun y=>⟨y,(F y).1⟩):=by
 rw [Bz (a:=0) (b:=x.length) (s:=[]) (fun i=>((x.take i.toNat).filter fun y=>(F y).2).map fun y=>(⟨y,(F y).1⟩:AS)) (by omega) rfl,Int.toNat_natCast,List.take_length];intro i d e;have g:(((x.take i.toNat).filter fun y=>(F y).2).map fun y=>(⟨y,(F y).1⟩:AS)).length<=5000:=by
  grind
 rw [hf i _ d e g,B3 d e,List.filter_append,List.map_append];cases j:(F (AA x i)).2<;>simp[j]
variable{p:ed}{c:ea}
theorem qW{s:BE}{m:AS}(hf:A6 s.t)(hv:(A1 s.t).2=0)(hh:Kq s.t s.h)(o:Zq s.t p s.h m)(hi:k9 s.t p c):CC s c m=some (IB s.t c s.h m s.jj):=by
 have C:=hi.q.g.ek;have ge:=hi.q.g.em;have m1:=hi.map.AaG;have D:=hi.map.AaR;have E:=o.m.AaG;have G:=o.m.AaR;unfold CC IB;rw[Yc (by omega) (fun x j=>by obtain⟨i,d,e,rfl⟩:=Bh j;exact(hi.map.node i d e).1) (by omega),bs,
  Yc (by omega) (fun x j=>by obtain⟨i,d,e,rfl⟩:=Bh j;exact(hi.map.edge i d e).1) (by omega),bs,jB hf,bs]
 dsimp only;refine FM fun r=>?_;obtain⟨z,A⟩:=dx r;rw[TW (F:=fun y=>Oh c.ed s.h y m.fq) z]
 .rfl
 .intro i st d e B;have u:=A _ (AF d e);have w:(m.fq.length:Int)<=c.ed.fq:=by have:=o.len;have:=hi.vars;omega
  rw [AD d e,bs,qn hi.q (fun x j=>Qv (C8 hv) hi.q hh u j) w o.small,bs,<-Km]
  grind [AY,At]
variable{h:gt}
theorem ma{m:AS}(hv:(A1 t).2=0)(hh:Kq t h)(j:Zq t p h m)(hi:k9 t p c)(e:(IB t c h m inj).2=0):(IB t c h m inj).1.length<=5000/\∀x∈(IB t c h m inj).1,Zq t c.ed h x:=by
 unfold IB at e|-;dsimp only at e|-;split at e
 .grind
 rename_i o;rw[b6 o];obtain⟨w,z⟩:=dx (Classical.not_not.1 o);refine⟨by dsimp only;rw[d3];exact Nat.le_trans (List.length_filter_le _ _) w,fun x d=>?_⟩;dsimp only at d;rw[List.mem_map]at d;obtain⟨y,g,rfl⟩:=d;rw[List.mem_filter]at g;have r:=z y g.1;have u:(m.fq.length:Int)<=c.ed.fq:=by have:=j.len;have:=hi.vars;omega
 have:=kv hi.q (fun x d=>Qv (C8 hv) hi.q hh r d) u j.small g.2;exact⟨hi.q,r,this.1,this.2⟩
end Go.Sf.Sc
namespace Go.Sf.Sc
open Go Go.Sf
inductive CV(t:ej):ed->ea->Prop where
 |mk (p:ed) (c:ea) (few:c.hV.length<=40) (rng:1<=c.o3/\c.o3<=5) (one:c.o3=2\/c.o3=5->c.hV.length=1) (ins:c.o3=5->k9 t p c) (kids:∀k∈c.hV,CV t (if c.o3=5 then c.ed else p) k):CV t p c
variable{t:ej}{p:ed}{c:ea}
theorem CV.few(h:CV t p c):c.hV.length<=40:=by cases h;assumption
theorem CV.rng(h:CV t p c):1<=c.o3/\c.o3<=5:=by cases h;assumption
theorem CV.one(h:CV t p c):c.o3=2\/c.o3=5->c.hV.length=1:=by cases h;assumption
theorem CV.ins(h:CV t p c):c.o3=5->k9 t p c:=by cases h;assumption
theorem CV.kids(h:CV t p c):∀k∈c.hV,CV t (if c.o3=5 then c.ed else p) k:=by cases h;assumption
theorem CV.kid(h:CV t p c)(d:¬c.o3=5):∀k∈c.hV,CV t p k:=fun k e=>by have:=h.kids k e;rwa[b6 d]at this
theorem CV.kid5(h:CV t p c)(d:c.o3=5):∀k∈c.hV,CV t c.ed k:=fun k e=>by have:=h.kids k e;rwa[az d]at this
theorem SA:∀l:List ea,l.length<=Px l
 |[]=>by simp|c::l=>by
  have:=SA l
  grind [Px,EP,SB,ci]
variable{q:ed}{v:Int}
theorem tz(hv:(A1 t).2=0)(h:P8 t q v=0):TR t q:=by grind[P8,jJ]
theorem lL(hv:(A1 t).2=0):∀(N:Nat)(c:ea)(p:ed),SizeOf.sizeOf c<=N->EP c<=40->Qy N c=true->G9 N t p c=0->CV t p c
 |0,c,_,h,_,_,_=>by have:=Dn c;omega|N+1,c,p,h,M,z,ho=>by
  have E:=SB c;have F:=SA c.hV;rw[Qy,tg]at z;obtain⟨u,o⟩:=z;have d:c.o3=2\/c.o3=5->c.hV.length=1:=by
   intro j;unfold RN at u
   grind
  have g:1<=c.o3/\c.o3<=5:=by
   grind [RN]
  have w:∀q,(fst (fun i=>nz (G9 N t q (AA c.hV i))) 0 c.hV.length).getD 0=0->∀k∈c.hV,CV t q k:=by
   intro q A k j;have G:=SN A;have K:=Tq j;have L:=ER j;rw[List.all_eq_true]at o;obtain⟨i,H,I,e⟩:=Bh j;have y:=G i H I;rw[e]at y;exact lL hv N k q (by omega) (by omega) (o k j) y
  rw [G9]at ho;by_cases r:c.o3=5
  .rw[az r]at ho;split at ho
   .cases ho
   rename_i J;split at ho
   .grind
   rename_i B;split at ho
   .grind
   rename_i C;split at ho
   .cases ho
   rename_i D;refine CV.mk p c (by omega) g d (fun _=>⟨tz hv (Classical.not_not.1 B),by omega,Ux (Classical.not_not.1 C),by simpa using D⟩) ?_
   grind
  .rw[b6 r]at ho;refine CV.mk p c (by omega) g d (fun e=>absurd e r) ?_
   grind
section
variable{α σ ρ:Type}
variable{f:Int->σ->Option (Bu σ ρ)}
theorem Rr[Inhabited α]{l:List α}(step:α->σ->Bu σ ρ)(I:Int->σ->Prop)(h:∀(i:Int)s,0<=i->i<l.length->I i s->f i s=some (step (AA l i) s)/\∀s',step (AA l i) s=.next s'->I (i+1) s'):
  ∀(n:Nat)(a:Int)(s:σ),0<=a->a+n=l.length->I a s->Aaa f n a s=some (Gz step (l.drop a.toNat) s)
 |0,a,s,d,o,_=>by
  rw [List.drop_eq_nil_of_le (by omega)];rfl
 |n+1,a,s,d,o,u=>by
  obtain ⟨g,j⟩:=h a s d (by omega) u;have hd:l.drop a.toNat=AA l a::l.drop (a+1).toNat:=by
   grind [List.drop_eq_getElem_cons,AA,List.getElem?_eq_getElem]
  rw [EO,g,hd,Gz];cases e:step (AA l a) s with
  |next s'=>
   simp only;exact Rr step I h n (a+1) s' (by omega) (by omega) (j s' e)
  |brk s'=>rfl|ret r=>rfl
theorem bh[Inhabited α]{l:List α}(step:α->σ->Bu σ ρ)(I:Int->σ->Prop){s:σ}(d:I 0 s)(h:∀(i:Int)s,0<=i->i<l.length->I i s->f i s=some (step (AA l i) s)/\∀s',step (AA l i) s=.next s'->I (i+1) s'):
  kq f 0 l.length s=some (Gz step l s):=by
 have:=Rr step I h l.length 0 s (by omega) (by omega) d;unfold kq;rw[show((l.length:Int)-0).toNat=l.length by omega];exact this
end
abbrev zM:AS:=⟨⟨[],[]⟩,[]⟩
abbrev zP:B1:=⟨0,zM,[]⟩
def Xk(w:ea->B1×Int)(k:ea)(s:B1×B1):Bu (B1×B1) (B1×Int):=
 if (w k).2≠0 then .ret (zP,(w k).2)else .next (s.1,⟨s.2.Aa3,s.2.pr,s.2.hV++[(w k).1]⟩)
def pS(w:ea->B1×Int)(l:List ea):B1×Int:=
 match Gz (Xk w) l (zP,zP)with
 |.inl s=>(s.2,0)|.inr r=>r
def DC(t:ej)(h:gt)(inj:Bool):Nat->ea->AS->B1×Int
 |0,_,_=>(zP,0)|N+1,c,m=>
  if c.o3=2 then(if(DC t h inj N (AA c.hV 0) m).2=0 then(zP,10)else if(DC t h inj N (AA c.hV 0) m).2=10 then(zP,0)else(zP,(DC t h inj N (AA c.hV 0) m).2))else
  if c.o3=3 then pS (fun k=>DC t h inj N k m) c.hV else
  if c.o3=4 then(fst (fun i=>if(DC t h inj N (AA c.hV i) m).2=0 then some (⟨i,zM,[(DC t h inj N (AA c.hV i) m).1]⟩,0)else if(DC t h inj N (AA c.hV i) m).2≠10 then some (zP,(DC t h inj N (AA c.hV i) m).2)else none) 0 c.hV.length).getD (zP,10)else
  if c.o3=5 then
   (if(IB t c h m inj).2≠0 then(zP,(IB t c h m inj).2)else
   (fst (fun i=>if(DC t h inj N (AA c.hV 0) (AA (IB t c h m inj).1 i)).2=0 then some (⟨0,AA (IB t c h m inj).1 i,[(DC t h inj N (AA c.hV 0) (AA (IB t c h m inj).1 i)).1]⟩,0)else
    if (DC t h inj N (AA c.hV 0) (AA (IB t c h m inj).1 i)).2≠10 then some (zP,(DC t h inj N (AA c.hV 0) (AA (IB t c h m inj).1 i)).2)else none) 0 (IB t c h m inj).1.length).getD (zP,10))else
  (zP,0)
end Go.Sf.Sc
namespace Go.Sf.Sc
open Go Go.Sf
def XJ(i:Int)(s:B1×B1):Prop:=(s.2.hV.length:Int)=i
theorem VB{s:BE}(hf:A6 s.t)(hv:(A1 s.t).2=0)(hh:Kq s.t s.h):∀(N:Nat)(c:ea)(p:ed)(m:AS),SizeOf.sizeOf c<=N->CV s.t p c->Zq s.t p s.h m->∀n,2*N<=n->Aw n s c m=some (DC s.t s.h s.jj N c m)
 |0,c,_,_,h,_,_,_,_=>by have:=Dn c;omega|N+1,c,p,m,h,o,y,n,E=>by
  obtain ⟨n,rfl⟩:∃k,n=k+2:=⟨n-2,by omega⟩;have kid:∀(i:Int),0<=i->i<c.hV.length->SizeOf.sizeOf (AA c.hV i)<=N:=fun i d e=>by
   have:=ER (AF (l:=c.hV) d e);omega
  rw [Aw,DC];by_cases r:c.o3=2
  .have D:=o.one (.inl r);rw[az (by simpa using r),az r,AD (by omega) (by omega),bs,VB hf hv hh N _ p m (kid 0 (by omega) (by omega)) (o.kid (by omega) _ (AF (by omega) (by omega))) y (n+1) (by omega),bs]
   grind
  rw [b6 (by simpa using r),b6 r];by_cases z:c.o3=3
  .rw[az (by simpa using z),az z];have B:=o.few;rw[bh (Xk fun k=>DC s.t s.h s.jj N k m) XJ (show XJ 0 (zP,zP)from rfl)]
   .unfold pS;show fl (some (Gz (Xk fun k=>DC s.t s.h s.jj N k m) c.hV (zP,zP))) _ _=_;cases Gz (Xk fun k=>DC s.t s.h s.jj N k m) c.hV (zP,zP)<;>rfl
   .intro i st d e hi;unfold XJ at hi;rw[AD d e,bs,VB hf hv hh N _ p m (kid i d e) (o.kid (by omega) _ (AF d e)) y (n+1) (by omega),bs]
    grind [Xk,DC,AA,AY,At,XJ]
  rw [b6 (by simpa using z),b6 z];by_cases A:c.o3=4
  .rw[az (by simpa using A),az A];rw[M8 (fun _=>zP) (fun i=>if(DC s.t s.h s.jj N (AA c.hV i) m).2=0 then some (⟨i,zM,[(DC s.t s.h s.jj N (AA c.hV i) m).1]⟩,0)else if(DC s.t s.h s.jj N (AA c.hV i) m).2≠10 then some (zP,(DC s.t s.h s.jj N (AA c.hV i) m).2)else none) (by omega) rfl]
   .cases fst (fun i=>if(DC s.t s.h s.jj N (AA c.hV i) m).2=0 then some ((⟨i,zM,[(DC s.t s.h s.jj N (AA c.hV i) m).1]⟩:B1),(0:Int))else if(DC s.t s.h s.jj N (AA c.hV i) m).2≠10 then some (zP,(DC s.t s.h s.jj N (AA c.hV i) m).2)else none) 0 c.hV.length<;>rfl
   .intro i d e _;rw[AD d e,bs,VB hf hv hh N _ p m (kid i d e) (o.kid (by omega) _ (AF d e)) y (n+1) (by omega),bs];generalize DC s.t s.h s.jj N (AA c.hV i) m=x;by_cases j:x.2=0
    .rw[az (by simpa using j),az j];try rfl
    .rw[b6 (by simpa using j),b6 j];by_cases g:x.2=10
     .rw[b6 (by simp[g]),b6 (by simp[g])];try rfl
     .rw[az (by simp[g]),az g];try rfl
  rw [b6 (by simpa using A),b6 A];by_cases u:c.o3=5
  .rw[az (by simpa using u),az u];have hi:=o.ins u;have D:=o.one (.inr u);rw[BQ,qW hf hv hh y hi,bs];by_cases w:(IB s.t c s.h m s.jj).2=0
   .obtain⟨g,C⟩:=ma hv hh y hi w;rw[b6 (by simp[w]),b6 (by simp[w])];generalize (IB s.t c s.h m s.jj).1=l at g C;rw[M8 (fun _=>zP) (fun i=>if(DC s.t s.h s.jj N (AA c.hV 0) (AA l i)).2=0 then some (⟨0,AA l i,[(DC s.t s.h s.jj N (AA c.hV 0) (AA l i)).1]⟩,0)else if(DC s.t s.h s.jj N (AA c.hV 0) (AA l i)).2≠10 then some (zP,(DC s.t s.h s.jj N (AA c.hV 0) (AA l i)).2)else none) (by omega) rfl]
    .cases fst (fun i=>if(DC s.t s.h s.jj N (AA c.hV 0) (AA l i)).2=0 then some ((⟨0,AA l i,[(DC s.t s.h s.jj N (AA c.hV 0) (AA l i)).1]⟩:B1),(0:Int))else if(DC s.t s.h s.jj N (AA c.hV 0) (AA l i)).2≠10 then some (zP,(DC s.t s.h s.jj N (AA c.hV 0) (AA l i)).2)else none) 0 l.length<;>rfl
    .intro i d e _;rw[AD d e,bs,AD (by omega) (by omega),bs,VB hf hv hh N _ c.ed _ (kid 0 (by omega) (by omega)) (o.kid5 u _ (AF (by omega) (by omega))) (C _ (AF d e)) n (by omega),bs];generalize DC s.t s.h s.jj N (AA c.hV 0) (AA l i)=x;by_cases j:x.2=0
     .rw[az (by simpa using j),az j];try rfl
     .rw[b6 (by simpa using j),b6 j];by_cases g:x.2=10
      .rw[b6 (by simp[g]),b6 (by simp[g])];try rfl
      .rw[az (by simp[g]),az g];try rfl
   .rw[az (by simp[w]),az w];try rfl
  grind
end Go.Sf.Sc
namespace Go.Sf.Sc
open Go Go.Sf
noncomputable def V3(t:ej)(p:ed)(c:ea)(h:gt)(m:AS)(inj:Bool):Int:=
 if HT t p c≠0 then HT t p c else if(Dg t h).2≠0 then(Dg t h).2 else if IK t p.d6 h.d6 m.eb inj≠0 then IK t p.d6 h.d6 m.eb inj else
 if (ID t p h m.eb).2≠0 then(ID t p h m.eb).2 else if(ID t p h m.eb).1=m.fq then 0 else 11
variable{t:ej}{c:ea}
theorem i7(hf:A6 t)(p:ed)(d:Db c)(h:gt)(m:AS)(inj:Bool):Ey t p c h m inj=some (V3 t p c h m inj):=by
 unfold Ey V3;rw[nL hf p d,bs];refine Dq fun _=>?_;rw[Sh hf,bs];refine Dq fun _=>?_;rw[Vk hf,bs];refine Dq fun _=>?_;rw[aL hf,bs];refine Dq fun _=>?_;rw[lZ,bs]
 grind
variable{p:ed}{h:gt}{inj:Bool}
theorem bU(hf:A6 t)(z:EP c<=40){m:AS}(e:V3 t p c h m inj=0):(A1 t).2=0/\Kq t h/\CV t p c/\Zq t p h m:=by
 unfold V3 at e;split at e
 .grind
 rename_i d;split at e
 .grind
 rename_i j;split at e
 .grind
 rename_i o;split at e
 .grind
 rename_i r;split at e
 case isFalse=>cases e
 rename_i C;have d:=Classical.not_not.1 d;have j:=Classical.not_not.1 j;have o:=Classical.not_not.1 o;have r:=Classical.not_not.1 r;obtain⟨hv,hh⟩:=Qo hf j;have w:=(Xr o).2;unfold HT at d;split at d
 .grind
 rename_i A;split at d
 .grind
 rename_i u;have y:=jJ hv (.inl (Classical.not_not.1 A));have u:=Classical.not_not.1 u;have B:bB c=true:=by
  grind [KI]
 suffices g:(m.fq.length:Int)=p.fq/\Oy m.fq from⟨hv,hh,lL hv _ c p (bk _) z B d,y,w,g.1,g.2⟩
 have g:∀s∈p.ff,Kr p.fq h m.eb s:=fun s g=>Qv (C8 hv) y hh w g
 grind [ID,fy]
end Go.Sf.Sc
namespace Go.Sf.Sc
open Go Go.Sf
def On:Nat->ea->Bool
 |0,_=>true|N+1,c=>if n8 (fun i=>!On N (AA c.hV i)) 0 c.hV.length=true then false else decide (AK ((c.ed.d6.d5.length:Int)+c.ed.d6.d7.length)<=6)
theorem Wp:∀(N:Nat)(c:ea),SizeOf.sizeOf c<=N->∀n,N<=n->FI n c=some (On N c)
 |0,c,h,_,_=>by have:=Dn c;omega|N+1,c,h,n,g=>by
  obtain ⟨n,rfl⟩:∃k,n=k+1:=⟨n-1,by omega⟩;rw[FI,On,Br (fun i=>!On N (AA c.hV i)) false]
  .cases n8 (fun i=>!On N (AA c.hV i)) 0 c.hV.length<;>rfl
  .intro i d e _;have:=ER (AF (l:=c.hV) d e);rw[AD d e,bs,Wp N _ (by omega) n (by omega),bs,Km]
theorem jS(c:ea):PD c=some (On (SizeOf.sizeOf c) c):=E0 (SizeOf.sizeOf c) fun n d=>Wp _ c (bk _) n d
def SV(a:Int):Nat->Int->Int
 |0,s=>s|k+1,s=>AK (SV a k s*a)
theorem lg{a b k s:Int}(g:0<=k)(e:k<=1000)(j:b<=1000):C7 (ρ:=Bool) (fun(d:Int×Int)=>
  if (decide (d.2<b))=true then
  some (.next (AK (d.1*a),AK (d.2+1)))
  else
  some (.brk (d.1,d.2))) (s,k)=some (.inl (SV a (max k b-k).toNat s,max k b)):=by
 refine sJ (fun i=>SV a (i-k).toNat s) (by omega) (by rw[show(k-k).toNat=0 by omega];rfl) (fun i o r=>?_) ?_
 .rw[az (by simp;omega),show(i+1-k).toNat=(i-k).toNat+1 by omega,SV];dsimp only;rw[AW (n:=i+1) (by omega) (by omega)]
 .rw[b6 (by simp;omega)]
def O1(a b:Int):Nat->ed->ea->Bool
 |0,_,_=>true|N+1,p,c=>
  let q:=if c.o3=5 then c.ed else p
  if n8 (fun i=>!O1 a b N q (AA c.hV i)) 0 c.hV.length=true then false else
  decide (SV b (max (p.d6.d7.length:Int) q.d6.d7.length-p.d6.d7.length).toNat (SV a (max (p.d6.d5.length:Int) q.d6.d5.length-p.d6.d5.length).toNat 1)<=5000)
theorem Yk(a b:Int):∀(N:Nat)(c:ea)(p:ed),SizeOf.sizeOf c<=N->Db c->Mz p->∀n,N<=n->Dv n p c a b=some (O1 a b N p c)
 |0,c,_,h,_,_,_,_=>by have:=Dn c;omega|N+1,c,p,h,j,A,n,L=>by
  obtain ⟨n,rfl⟩:∃k,n=k+1:=⟨n-1,by omega⟩;have F:=j.q.ek;have G:=j.q.em;have H:=A.ek;have I:=A.em;have g:∀q:ed,Mz q->(fl (C7 (ρ:=Bool) (fun(d:Int×Int)=>
    if (decide (d.2<(q.d6.d5.length:Int)))=true then
    some (.next (AK (d.1*a),AK (d.2+1)))
    else
    some (.brk (d.1,d.2))) (1,(p.d6.d5.length:Int))) (fun d=>
    fl (C7 (ρ:=Bool) (fun(e:Int×Int)=>
    if (decide (e.2<(q.d6.d7.length:Int)))=true then
    some (.next (AK (e.1*b),AK (e.2+1)))
    else
    some (.brk (e.1,e.2))) (d.1,(p.d6.d7.length:Int))) (fun e=>
    fl (kq (ρ:=Bool) (fun(B:Int)(_:Unit)=>
    (idx c.hV B).bind fun o=>
    (Dv n q o a b).bind fun r=>
    if (!r)=true then
    some (.ret false)
    else
    some (.next ())) 0 (c.hV.length:Int) ()) (fun _=>
    some (decide (e.1<=5000))) (fun C=>some C)) (fun D=>some D)) (fun E=>some E))=
    some (if n8 (fun i=>!O1 a b N q (AA c.hV i)) 0 c.hV.length=true then false else
     decide (SV b (max (p.d6.d7.length:Int) q.d6.d7.length-p.d6.d7.length).toNat (SV a (max (p.d6.d5.length:Int) q.d6.d5.length-p.d6.d5.length).toNat 1)<=5000)):=by
   intro q u;have J:=u.ek;have K:=u.em;rw[lg (by omega) (by omega) (by omega),B6];dsimp only;rw[lg (by omega) (by omega) (by omega),B6,Br (fun i=>!O1 a b N q (AA c.hV i)) false]
   .cases n8 (fun i=>!O1 a b N q (AA c.hV i)) 0 c.hV.length<;>rfl
   .intro i w y _;have:=ER (AF (l:=c.hV) w y);rw[AD w y,bs,Yk a b N _ q (by omega) (j.k _ (AF w y)) u n (by omega),bs,Km]
  rw [Dv,O1];by_cases z:c.o3=5
  .rw[az (by simpa using z),az z,bs,g _ j.q]
  grind
variable{c:ea}{p:ed}
theorem fM(a b:Int)(d:Db c)(e:Mz p):OJ p c a b=some (O1 a b (SizeOf.sizeOf c) p c):=E0 (SizeOf.sizeOf c) fun n g=>Yk a b _ c p (bk _) d e n g
theorem X0(h:gt):∃b,J9 h=some b:=by
 unfold J9 If;rw[bs];split
 .exact⟨_,rfl⟩
 .rw[Br (fun i=>decide (12<((AA h.gp i).length:Int))) false]
  .cases n8 (fun i=>decide (12<((AA h.gp i).length:Int))) 0 h.gp.length
   .exact⟨true,rfl⟩
   .exact⟨false,rfl⟩
  .intro i d e _;rw[AD d e,bs,Km]
variable{t:ej}
theorem fP(hf:A6 t)(st:(AP t).Sm)(p g:d6):∃b,K5 t p g=some b:=by
 obtain ⟨b,e,_⟩:=SH st;unfold K5 If;rw[e,bs,jV hf]
 grind
theorem fQ(hf:A6 t)(st:(AP t).Sm)(p:ed)(w:(AI c).Sm)(h:gt):∃b,K7 t p c h=some b/\(b=true->Db c/\EP c<=40/\Mz p):=by
 obtain ⟨y,z,A⟩:=dy w;obtain⟨B,r,C⟩:=Ql p;obtain⟨D,u⟩:=X0 h;unfold K7;rw[z,bs];cases y
 .exact⟨false,rfl,fun h=>by cases h⟩
 rw [r];cases B
 .exact⟨false,rfl,fun h=>by cases h⟩
 rw [u];cases D
 .exact⟨false,rfl,fun h=>by cases h⟩
 have g:=A rfl;have j:=C rfl;simp only[bs,Bool.not_true,Bool.false_eq_true,if_false];rw[fN hf p g.1,bs];have d:∀o:K1,(∃b,o=some b)->∃b,o=some b/\(b=true->Db c/\EP c<=40/\Mz p):=fun o⟨b,e⟩=>⟨b,e,fun _=>⟨g.1,g.2,j⟩⟩;refine d _ ?_;split
 .exact⟨true,rfl⟩
 .obtain⟨E,F⟩:=fP hf st p.d6 h.d6;unfold Ng;rw[r,u,F,jS,fM 14 18 g.1 j];simp only[bs,if_true];cases E<;>simp only[Bool.false_eq_true,if_false,if_true,bs,Bool.false_and]
  .exact⟨_,rfl⟩
  .split
   .exact⟨_,rfl⟩
   .exact⟨_,rfl⟩
noncomputable def wS(t:ej)(p:ed)(c:ea)(h:gt)(m:AS)(inj:Bool):B1×Int:=
 if V3 t p c h m inj≠0 then(zP,V3 t p c h m inj)else DC t h inj (SizeOf.sizeOf c) c m
theorem fF(hf:A6 t)(p:ed)(e:Db c)(g:EP c<=40)(h:gt)(m:AS)(inj:Bool):D1 t p c h m inj=some (wS t p c h m inj):=by
 unfold D1 wS;rw[i7 hf p e,bs];refine FM fun j=>?_;obtain⟨hv,hh,d,r⟩:=bU hf g j;rw[show Ei (BE.mk t h inj) c m=some (DC t h inj (SizeOf.sizeOf c) c m)from E0 (2*SizeOf.sizeOf c) fun n o=>VB (s:=⟨t,h,inj⟩) hf hv hh _ c p m (bk _) d r n o];rfl
noncomputable def Vr(t:ej)(p:ed)(c:ea)(h:gt)(m:AS)(inj:Bool):Bool×Int:=
 if (wS t p c h m inj).2=10 then(false,0)else(decide ((wS t p c h m inj).2=0),(wS t p c h m inj).2)
theorem Zf(hf:A6 t)(p:ed)(d:Db c)(e:EP c<=40)(h:gt)(m:AS)(inj:Bool):DQ t p c h m inj=some (Vr t p c h m inj):=by grind[DQ,Vr,fF,wS]
end Go.Sf.Sc
namespace Go.Sf.Sc
open Go Go.Sf
end Go.Sf.Sc
namespace Go.Sf.Sc
open Go Go.Sf
end Go.Sf.Sc
