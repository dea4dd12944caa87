/- Plain lemmas: what the functions of the program and of the reference compute. -/
import Derived.Test.YthhobbgaejimgaaGreatDoorP25
set_option linter.all false
set_option maxRecDepth 100000
namespace Go.Sf.Sc
open Go Go.Sf
variable{k:Int}
theorem L6{d:List o3}(h:Jg d k=0)(e:(at' d k).qu.length<=1000):-1000000<=(at' d k).s7/\(at' d k).sb<=1000000:=by grind[Jg]
variable{t:AB}{i:Int}
theorem TB(h:F1 t i=0):∀k,((Aq t i).length:Int)-(at' t.ci i).qv.length<=k->k<(Aq t i).length->Jg (Aq t i) k=0:=by
 unfold F1 at h;dsimp only at h;split at h
 .cases h
 split at h
 .cases h
 split at h
 .cases h
 split at h
 .cases h
 exact Pr h
variable{a:Int}
theorem KN{n:Nat}(d:0<=a):BY t (n+1) a=BY t n (par t a)++(at' t.ci a).qv:=by grind[BY]
theorem Pc(hf:CX t)(h:F4 t){Q:o3->Prop}(L6:∀{d:List o3}{k:Int},Jg d k=0->(at' d k).qu.length<=1000->Q (at' d k)):∀(n:Nat)(a:Int),a<t.ci.length->a<n->∀x∈BY t n a,Q x
 |0,_,_,_=>by simp[BY]|n+1,a,g,A=>by
  by_cases l:a<0
  .rw[GP l];simp
  .have v:=h.par a (by omega) g;intro x f;rw[KN (by omega)]at f;rcases List.mem_append.1 f with f|f
   .exact Pc hf h L6 n (par t a) (by omega) (by omega) x f
   .obtain⟨j,y,z,rfl⟩:=Cf f;have e:Aq t a=BY t a.toNat (par t a)++(at' t.ci a).qv:=by
     unfold Aq;rw[show(a+1).toNat=a.toNat+1 by omega,KN (by omega)]
    have w:(Aq t a).length=(BY t a.toNat (par t a)).length+(at' t.ci a).qv.length:=by rw[e,az]
    have o:=TB (h.node a (by omega) g) ((BY t a.toNat (par t a)).length+j) (by omega) (by omega);have r:at' (Aq t a) ((BY t a.toNat (par t a)).length+j)=at' (at' t.ci a).qv j:=by
     grind [NR,at']
    have u:=If hf (Int.le_refl _) h.par g (at' (Aq t a) ((BY t a.toNat (par t a)).length+j)) (BC (by omega) (by omega));have:=L6 o (by have:=u.names;omega)
    rwa [r]at this
theorem UP(hf:CX t)(h:F4 t)(e:0<=a)(d:a<t.ci.length):∀x∈Aq t a,-1000000<=x.s7/\x.sb<=1000000:=Pc hf h L6 _ a d (by omega)
theorem RJ(e:Da t k):∀(n:Nat)(a b:Int),a<k->a<n->b∈K3 t n a->0<=b/\b<=a/\(Aq t b).length<=(BY t n a).length
 |0,_,_,_,_=>by simp[K3]|n+1,a,b,f,l=>by
  intro d;rw[K3]at d;split at d
  .cases d
  .rename_i g;have j:=e a (by omega) f;rw[KN (by omega)];rcases List.mem_cons.1 d with rfl|d
   .refine⟨by omega,by omega,?_⟩;unfold Aq;rw[IQ e (b+1).toNat (n+1) b f (by omega) (by omega),KN (by omega)];exact ae _
   .have:=RJ e n (par t a) b (by omega) (by omega) d
    grind
variable{b:Int}
theorem Q4(h:F4 t)(g:a<t.ci.length)(d:Nu t a b=true):(Aq t b).length<=(Aq t a).length:=by
 unfold Nu at d;rw[List.any_eq_true]at d;obtain⟨x,f,e⟩:=d;rw[sc]at e;subst e;by_cases j:a<0
 .have:(a+1).toNat=0:=by omega
  rw [this]at f;cases f
 .exact(RJ h.par (a+1).toNat a b g (by omega) f).2.2
theorem UU{α:Type}{Q:Prop}[Decidable Q]{v:α}{X:Option α}{Y:α}(he:a=b↔Q)(h:Q->X=some Y):(if(!decide (a=b))=true then some v else X)=some (if¬Q then v else Y):=by grind
def MY(t:AB)(k:Int)(v:D1)(j:Int):Bool:=decide (at' v j<(at' (Aq t k) j).s7)||decide ((at' (Aq t k) j).sb<at' v j)
def Gs(t:AB)(k:Int)(v:D1):Int:=
 if (t.ci.length:Int)<=k then 6 else if(at' t.ci k).se=true then 13 else if¬v.length=(Aq t k).length then 20 else
 if ra (MY t k v) 0 (Aq t k).length=true then 6 else 0
def J1(t:AB)(g:d3)(i:Int):Int:=
 if (t.d6.length:Int)<=(at' g.d6 i).qz then 6 else if MJ t g i=false then 13 else 0
def Gc(t:AB)(h:AL):Int×Int:=
 if (BL t).2≠0 then(-1,(BL t).2)else if CC h.d3≠0 then(-1,CC h.d3)else if¬h.hT.length=h.d3.ci.length then(-1,20)else
 match fst (fun i=>(nz (Gs t (at' h.d3.ci i) (at' h.hT i))).map fun e=>(i,e)) 0 h.d3.ci.length with
 |some r=>r|none=>(fst (fun i=>(nz (J1 t h.d3 i)).map fun e=>(i,e)) 0 h.d3.d6.length).getD (-1,0)
theorem K7(hv:(BL t).2=0)(d:0<=k)(e:k<t.ci.length):Ie t k=(Aq t k,0):=by grind[Ie,JS]
theorem Ts{x:Bool}{y:Bool}:(if x=true then some true else some y)=some (x||y):=by cases x<;>rfl
theorem aV(hf:CX t)(hv:(BL t).2=0)(d:0<=k)(v:D1):GJ t k v=some (Gs t k v):=by
 unfold GJ Gs;by_cases e:(t.ci.length:Int)<=k
 .grind
 rw [a6 (by simpa using e),a6 e,As d (by omega),bs];refine ja fun _=>?_;rw[aT hf,K7 hv d (by omega),bs];refine UU (by simp;omega) fun f=>?_;rw[Dh (MY t k v) 6]
 .cases ra (MY t k v) 0 (Aq t k).length<;>rfl
 grind [Aq,As,Ts,MY,at']
theorem af(hf:CX t)(hv:(BL t).2=0)(d:0<=k)(v:D1):I5 t k v=some (Gs t k v):=by
 unfold I5 Gs;by_cases e:(t.ci.length:Int)<=k
 .grind
 rw [a6 (by simpa using e),a6 e,As d (by omega),bs];refine ja fun _=>?_;rw[aZ hf,K7 hv d (by omega),bs];refine UU (by simp;omega) fun f=>?_;rw[Dh (MY t k v) 6]
 .cases ra (MY t k v) 0 (Aq t k).length<;>rfl
 grind [Aq,As,Ts,MY,at']
theorem SM(e i:Int):(if(!decide (e=0))=true then some (Bk.ret (σ:=Unit) (ρ:=Int×Int) (i,e))else some (.next ()))=some (LQ ((nz e).map fun e=>(i,e))):=by grind[nz,LQ]
theorem dY(hf:CX t)(h:AL):Cx t h=some (Gc t h):=by
 unfold Cx Gc;rw[Qg hf,bs];refine UT fun hv=>?_;rw[aU,bs];refine UT fun j=>?_;have go:=Gy j;refine UU (by omega) fun w=>?_;rw[DK (fun i=>(nz (Gs t (at' h.d3.ci i) (at' h.hT i))).map fun e=>(i,e)),Fd]
 .cases o:fst (fun i=>(nz (Gs t (at' h.d3.ci i) (at' h.hT i))).map fun e=>(i,e)) 0 h.d3.ci.length with
  |some r=>rfl|none=>
   have u:=B0.1 o;dsimp only;rw[DK (fun i=>(nz (J1 t h.d3 i)).map fun e=>(i,e)),Fd]
   .grind
   .intro i d f _;have v:=go.fit _ (BC (l:=h.d3.d6) d f);rw[As d f,bs];unfold J1 MJ;by_cases g:(t.d6.length:Int)<=(at' h.d3.d6 i).qz
    .rw[QQ (by simpa using g),QQ g];rfl
    .rw[a6 (by simpa using g),a6 g,As (by omega) (by omega),bs,As (by omega) (by omega),bs,dV hf,bs];cases MK t (at' h.d3.d6 i).qz (at' h.d3.ci (at' h.d3.d6 i).qx) (at' h.d3.ci (at' h.d3.d6 i).To)<;>rfl
 .intro i d f _;rw[As d f,bs,As d (by omega),bs,aV hf hv (go.kind _ (BC d f)).1,bs];exact SM _ i
theorem dl(hf:CX t)(h:AL):G3 t h=some (Gc t h):=by
 unfold G3 Gc;rw[Qh hf,bs];refine UT fun hv=>?_;rw[aa,bs];refine UT fun j=>?_;have go:=Gy j;refine UU (by omega) fun w=>?_;rw[DK (fun i=>(nz (Gs t (at' h.d3.ci i) (at' h.hT i))).map fun e=>(i,e)),Fd]
 .cases o:fst (fun i=>(nz (Gs t (at' h.d3.ci i) (at' h.hT i))).map fun e=>(i,e)) 0 h.d3.ci.length with
  |some r=>rfl|none=>
   have u:=B0.1 o;dsimp only;rw[DK (fun i=>(nz (J1 t h.d3 i)).map fun e=>(i,e)),Fd]
   .grind
   .intro i d f _;have v:=go.fit _ (BC (l:=h.d3.d6) d f);rw[As d f,bs];unfold J1 MJ;by_cases g:(t.d6.length:Int)<=(at' h.d3.d6 i).qz
    .rw[QQ (by simpa using g),QQ g];rfl
    .rw[a6 (by simpa using g),a6 g,As (by omega) (by omega),bs,As (by omega) (by omega),bs,dj hf,bs];cases MK t (at' h.d3.d6 i).qz (at' h.d3.ci (at' h.d3.d6 i).qx) (at' h.d3.ci (at' h.d3.d6 i).To)<;>rfl
 .intro i d f _;rw[As d f,bs,As d (by omega),bs,af hf hv (go.kind _ (BC d f)).1,bs];exact SM _ i
structure LZ(t:AB)(h:AL):Prop where
 g:F3 h.d3
 len:h.hT.length=h.d3.ci.length
 kind:∀i:Int,0<=i->i<h.d3.ci.length->0<=at' h.d3.ci i/\at' h.d3.ci i<t.ci.length
 row:∀i:Int,0<=i->i<h.d3.ci.length->(at' h.hT i).length=(Aq t (at' h.d3.ci i)).length
 low:∀i:Int,0<=i->i<h.d3.ci.length->∀x∈at' h.hT i,-1000000<=x/\x<=1000000
 ge:CC h.d3=0
 ty:Ea t h.d3=true
variable{h:AL}
theorem Qb(hf:CX t)(e:(Gc t h).2=0):(BL t).2=0/\LZ t h:=by
 unfold Gc at e;split at e
 .rename_i u;exact absurd e u
 split at e
 .rename_i u;exact absurd e u
 split at e
 .cases e
 rename_i u C F;have hv:=Classical.not_not.1 u;have go:=Gy (Classical.not_not.1 C);have w:∀i:Int,0<=i->i<h.d3.ci.length->Gs t (at' h.d3.ci i) (at' h.hT i)=0:=by
  split at e
  .rename_i r g;obtain⟨i,_,_,k,_⟩:=DL g;unfold nz at k;split at k
   .cases k
   .rename_i o;cases k;exact absurd e o
  .rename_i g;exact fun i d f=>Ke.1 (JT.1 (B0.1 g i d f))
 have y:∀i:Int,0<=i->i<h.d3.ci.length->(0<=at' h.d3.ci i/\at' h.d3.ci i<t.ci.length)/\(at' h.hT i).length=(Aq t (at' h.d3.ci i)).length/\∀j:Int,0<=j->j<(Aq t (at' h.d3.ci i)).length->MY t (at' h.d3.ci i) (at' h.hT i) j=false:=by
  intro i d f;have I:=(go.kind _ (BC d f)).1;have:=w i d f;unfold Gs at this;split at this
  .cases this
  split at this
  .cases this
  split at this
  .cases this
  split at this
  .cases this
  rename_i a1 K G H;exact⟨⟨I,by omega⟩,Classical.not_not.1 G,CW.1 (by simpa using H)⟩
 have he:∀i:Int,0<=i->i<h.d3.d6.length->J1 t h.d3 i=0:=by
  have A:fst (fun i=>(nz (Gs t (at' h.d3.ci i) (at' h.hT i))).map fun e=>(i,e)) 0 h.d3.ci.length=none:=B0.2 fun i d f=>by rw[w i d f];rfl
  rw [A]at e;dsimp only at e;cases g:fst (fun i=>(nz (J1 t h.d3 i)).map fun e=>(i,e)) 0 h.d3.d6.length with
  |some r=>
   rw [g]at e;obtain⟨i,_,_,k,_⟩:=DL g;unfold nz at k;split at k
   .cases k
   .rename_i o;cases k;exact absurd e o
  |none=>exact fun i d f=>Ke.1 (JT.1 (B0.1 g i d f))
 have B:Ea t h.d3=true:=by
  unfold Ea;rw[q8,Bool.not_eq_true',Bool.not_eq_true',List.any_eq_false,List.any_eq_false];refine⟨fun n w=>?_,fun x z=>?_⟩
  .obtain⟨i,d,f,rfl⟩:=Cf w;have:=(y i d f).1.2;simp;omega
  .obtain⟨i,d,f,rfl⟩:=Cf z;have:=he i d f;unfold J1 at this;split at this
   .cases this
   .simp;omega
 suffices v:∀i:Int,0<=i->i<h.d3.ci.length->∀x∈at' h.hT i,-1000000<=x/\x<=1000000 from⟨hv,go,Classical.not_not.1 F,fun i d f=>(y i d f).1,fun i d f=>(y i d f).2.1,v,Classical.not_not.1 C,B⟩
 intro i d f x z;obtain⟨D,L,J⟩:=y i d f;obtain⟨j,E,M,rfl⟩:=Cf z;have:=J j E (by omega);unfold MY at this;simp[decide_eq_false_iff_not]at this;have:=UP hf (IZ hv) D.1 D.2 _ (BC (l:=Aq t (at' h.d3.ci i)) E (by omega));omega
end Go.Sf.Sc
namespace Go.Sf.Sc
open Go Go.Sf
def Pf(t:AB)(p g:d3)(m:ec)(i:Int):K1:=
 if at' m.ci i<0\/g.ci.length<=at' m.ci i then some 6 else if Nu t (at' g.ci (at' m.ci i)) (at' p.ci i)=false then some 13 else none
def Rh(t:AB)(p g:d3)(m:ec):Int:=
 if m.ci.length≠p.ci.length\/m.d6.length≠p.d6.length then 20 else
 match fst (Pf t p g m) 0 m.ci.length with
 |some e=>e|none=>(fst (Lp p g m) 0 m.d6.length).getD 0
def L8(t:AB)(p g:d3)(m:ec)(inj:Bool):Int:=
 if Kn t p g≠0 then Kn t p g else if Rh t p g m≠0 then Rh t p g m else if(inj&&!Qc m)=true then 5 else 0
structure Y0(t:AB)(p g:d3)(m:ec):Prop where
 ue:m.ci.length=p.ci.length
 uS:m.d6.length=p.d6.length
 node:∀i:Int,0<=i->i<m.ci.length->(0<=at' m.ci i/\at' m.ci i<g.ci.length)/\Nu t (at' g.ci (at' m.ci i)) (at' p.ci i)=true
 edge:∀i:Int,0<=i->i<m.d6.length->0<=at' m.d6 i/\at' m.d6 i<g.d6.length
variable{t:AB}{m:ec}
theorem bI{p g:d3}(h:Rh t p g m=0):Y0 t p g m:=by
 unfold Rh at h;split at h
 .cases h
 rename_i j;have f:fst (Pf t p g m) 0 m.ci.length=none:=by
  grind [DL,Pf]
 rw [f]at h;have he:=LE (fun i=>by
  grind [Lp]) h
 refine ⟨by omega,by omega,fun i d e=>?_,fun i d e=>?_⟩
 .grind[B0,Pf]
 grind [Lp]
variable{inj:Bool}
theorem ce{p g:d3}(h:L8 t p g m inj=0):Kn t p g=0/\Y0 t p g m:=by grind[L8,bI]
end Go.Sf.Sc
namespace Go.Sf.Sc
open Go Go.Sf
section
variable{α σ ρ:Type}
def LX(step:α->σ->Bk σ ρ):List α->σ->σ ⊕ ρ
 |[],s=>.inl s|a::r,s=>match step a s with
  |.next s'=>LX step r s'|.brk s'=>.inl s'|.ret r=>.inr r
theorem Sg[Inhabited α](step:α->σ->Bk σ ρ)(I:σ->Prop):∀(l:List α)(s s':σ),I s->(∀a∈l,∀s s',I s->step a s=.next s'->I s')->(∀a∈l,∀s s',step a s≠.brk s')->LX step l s=.inl s'->I s'
 |[],s,s',h,_,_,e=>by cases e;exact h
 |a::r,s,s',h,g,o,e=>by
  rw [LX]at e;split at e
  .rename_i f j;exact Sg step I r f s' (g a (by simp) s f h j) (fun a d=>g a (by simp[d])) (fun a d=>o a (by simp[d])) e
  .grind
  .cases e
end
def Og(x:qp)(l:D1):Int:=if x.Var<0 then x.Add else AT (at' l x.Var+x.Add)
def ZB(x:Test)(l:D1):Bool:=(decide (x.qh=1)&&decide (Og x.ql l<=Og x.j4 l))||(decide (x.qh=2)&&decide (Og x.ql l=Og x.j4 l))
structure Kl(n:Int)(x:qp):Prop where
 low:-1<=x.Var
 high:x.Var<n
 add:-1000000<=x.Add/\x.Add<=1000000
def UJ(l:D1):Prop:=∀x∈l,-2000000<=x/\x<=2000000
end Go.Sf.Sc
namespace Go.Sf.Sc
open Go Go.Sf
structure TS(t:AB)(q:ff):Prop where
 g:F3 q.d3
 kind:∀n∈q.d3.ci,0<=n/\n<t.ci.length
 vars:0<=q.k8/\q.k8<=12
 few:q.pr.length<=10/\q.ri.length<=10
 slot:∀s∈q.pr,(0<=s.rD/\s.rD<q.d3.ci.length)/\(0<=s.o3/\s.o3<(Aq t (at' q.d3.ci s.rD)).length)/\Kl q.k8 s.qp
 test:∀x∈q.ri,(x.qh=1\/x.qh=2)/\Kl q.k8 x.ql/\Kl q.k8 x.j4
 ge:CC q.d3=0
 ty:Ea t q.d3=true
variable{n:Int}
theorem Yq{x:qp}(h:Rk n x=true):Kl n x:=by
 unfold Rk at h;simp[sc]at h;exact⟨h.1.1.1,h.1.1.2,h.1.2,h.2⟩
theorem Yr{l:List Test}(h:Lx n l=0):∀x∈l,(x.qh=1\/x.qh=2)/\Kl n x.ql/\Kl n x.j4:=by
 unfold Lx at h;split at h
 .cases h
 split at h
 .cases h
 have f:=Pr h;intro x d;obtain⟨i,g,j,rfl⟩:=Cf d;have:=f i g j;unfold Rl at this;split at this
 .cases this
 split at this
 .rename_i o e;rw[q8]at e
  grind [Yq]
 .cases this
theorem VZ(n:Int)(l:List Test):Lx n l≠9:=by
 unfold Lx;split
 .decide
 split
 .decide
 intro h;cases d:fst (fun i=>nz (Rl n (at' l i))) 0 l.length with
 |none=>rw[d]at h;cases h
 |some r=>
  grind [DL,nz,Rl]
variable{t:AB}{q:ff}
theorem di(hv:(BL t).2=0)(h:Iv t q=0\/Iv t q=9):TS t q:=by
 have v:=Uf q.d3;unfold Iv at h;rw[a6 (by simp[hv])]at h;split at h
 .omega
 rename_i j;have g:=Gy (Classical.not_not.1 j);split at h
 .omega
 rename_i e;split at h
 .omega
 rename_i x;split at h
 .omega
 rename_i y;split at h
 .omega
 rename_i z;split at h
 .grind[VZ]
 rename_i u;refine⟨g,(IL g (by simpa using e)).1,by omega,by omega,fun s w=>?_,Yr (Classical.not_not.1 u),Classical.not_not.1 j,by simpa using e⟩;have f:XO t q s=false:=by
  grind
 unfold XO at f;simp[Bool.not_eq_false',decide_eq_false_iff_not]at f;obtain⟨⟨⟨d,B⟩,C⟩,D,E⟩:=f;unfold Y4 at d;dsimp only at d;split at d
 .cases d
 rename_i A;have r:=(IL g (by simpa using e)).1 _ (BC (l:=q.d3.ci) (show 0<=s.rD by omega) (by omega));rw[K7 hv r.1 r.2]at d;split at d
 .cases d
 rename_i o;have o:¬(s.o3<0\/((Aq t (at' q.d3.ci s.rD)).length:Int)<=s.o3):=o;exact⟨by omega,by omega,by omega,by omega,by omega,by omega⟩
def SD(h:AL)(m:ec)(s:CT):Int:=at' (at' h.hT (at' m.ci s.rD)) s.o3
def Rj(h:AL)(m:ec)(s:CT)(st:D1×Ne):D1×Ne:=
 if 0<=s.qp.Var/\at' st.2 s.qp.Var=false then(CI st.1 s.qp.Var (AT (SD h m s-s.qp.Add)),CI st.2 s.qp.Var true)else st
def I9{ρ:Type}(r:ρ)(h:AL)(m:ec)(s:CT)(st:D1×Ne):Bk (D1×Ne) ρ:=
 if Og s.qp (Rj h m s st).1=SD h m s then .next (Rj h m s st)else .ret r
structure VI(n:Int)(st:D1×Ne):Prop where
 l1:(st.1.length:Int)=n
 l2:(st.2.length:Int)=n
 small:UJ st.1
structure La(n:Int)(h:AL)(m:ec)(s:CT):Prop where
 node:0<=s.rD/\s.rD<m.ci.length
 val:0<=at' m.ci s.rD/\at' m.ci s.rD<h.hT.length
 attr:0<=s.o3/\s.o3<(at' h.hT (at' m.ci s.rD)).length
 term:Kl n s.qp
 has:-1000000<=SD h m s/\SD h m s<=1000000
variable{h:AL}{m:ec}{s:CT}
theorem bJ(f:F4 t)(g:TS t q)(hh:LZ t h)(e:Y0 t q.d3 h.d3 m)(j:s∈q.pr):La q.k8 h m s:=by
 obtain ⟨o,r,u⟩:=g.slot s j;have v:=e.ue;have d:=e.node s.rD o.1 (by omega);have w:=hh.row _ d.1.1 d.1.2;have l:=hh.kind _ d.1.1 d.1.2;have x:=Q4 f l.2 d.2;have hv:=hh.len;refine⟨by omega,by omega,by omega,u,?_⟩;unfold SD;exact hh.low _ d.1.1 d.1.2 _ (BC r.1 (by omega))
theorem Sh{α:Type}(l:List α)(i:Int)(a:α):(CI l i a).length=l.length:=by unfold CI;rw[List.length_set]
variable{i:Int}
theorem YA{α:Type}{l:List α}{a x:α}(h:x∈CI l i a):x∈l\/x=a:=List.mem_or_eq_of_mem_set h
variable{st:D1×Ne}
theorem Wf(e:La n h m s)(hi:VI n st):VI n (Rj h m s st):=by
 have f:=e.has;have g:=e.term.add;unfold Rj;split
 .refine⟨by rw[Sh];exact hi.l1,by rw[Sh];exact hi.l2,fun x d=>?_⟩;rcases YA d with d|rfl
  .exact hi.small x d
  grind [Au]
 .exact hi
def OE(q:ff)(h:AL)(m:ec):D1×Int:=
 match LX (I9 (([],11):D1×Int) h m) q.pr (List.replicate q.k8.toNat 0,List.replicate q.k8.toNat false)with
 |.inr r=>r|.inl st=>if ra (fun i=>!ZB (at' q.ri i) st.1) 0 q.ri.length=true then([],16)else(st.1,0)
theorem bR(d:0<=n):VI n (List.replicate n.toNat 0,List.replicate n.toNat false):=by
 refine ⟨by simp;omega,by simp;omega,fun x e=>?_⟩
 grind
variable{st':D1×Ne}
theorem Wh{ρ:Type}{r:ρ}(d:La n h m s)(hi:VI n st)(e:I9 r h m s st=.next st'):VI n st':=by grind[I9,Wf]
theorem Wg{ρ:Type}{r:ρ}:I9 r h m s st≠.brk st':=by grind[I9]
theorem X0{ρ:Type}{r:ρ}{l:List CT}(d:∀s∈l,La n h m s)(hi:VI n st)(e:LX (I9 r h m) l st=.inl st'):VI n st':=
 Sg (I9 r h m) (VI n) l st st' hi (fun a f _ _ g j=>Wh (d a f) g j) (fun _ _ _ _=>Wg) e
def ZL(t:AB)(p:ff)(h:AL):Int:=if Iv t p≠0 then Iv t p else(Gc t h).2
def Jv(t:AB)(p:ff)(h:AL)(m:ec):D1×Int:=
 if ZL t p h≠0 then([],ZL t p h)else if L8 t p.d3 h.d3 m false≠0 then([],L8 t p.d3 h.d3 m false)else OE p h m
theorem Wi(f:TS t q)(g:∀s∈q.pr,La q.k8 h m s)(e:(OE q h m).2=0):((OE q h m).1.length:Int)=q.k8/\UJ (OE q h m).1:=by
 unfold OE at e|-;cases d:LX (I9 (([],11):D1×Int) h m) q.pr (List.replicate q.k8.toNat 0,List.replicate q.k8.toNat false)with
 |inr r=>
  rw [d]at e;have:∀(l:List CT)(st:D1×Ne)(r:D1×Int),LX (I9 (([],11):D1×Int) h m) l st=.inr r->r=([],11):=by
   intro l
   induction l with
   |nil=>intro st r h;cases h
   |cons a l o=>
    grind [LX,I9]
  grind
 |inl st=>
  rw [d]at e;have hi:=X0 g (bR f.vars.1) d;dsimp only at e|-;split at e
  .cases e
  .rename_i j;rw[a6 j];exact⟨hi.l1,hi.small⟩
end Go.Sf.Sc
namespace Go.Sf.Sc
open Go Go.Sf
def dH(n:Nat)(k:Int):Ne:=(KK n).map fun j=>decide (j<k)
def Zd(q:ff)(h:AL)(m:ec)(given:D1):D1×Bool:=
 match LX (I9 (([],false):D1×Bool) h m) q.pr (given++List.replicate (q.k8-given.length).toNat 0,dH q.k8.toNat given.length)with
 |.inr r=>r|.inl st=>if ra (fun i=>!ZB (at' q.ri i) st.1) 0 q.ri.length=true then([],false)else(st.1,true)
def WG(n:Nat)(by' images:D1):D1:=(KK by'.length).foldl (fun l i=>CI l (at' by' i) (at' images i)) (List.replicate n (-1))
end Go.Sf.Sc
namespace Go.Sf.Sc
open Go Go.Sf
structure lK(f:AU):Prop where
 nl:f.k7.length<=f.p.ci.length
 node:∀i:Int,0<=i->i<f.k7.length->(0<=at' f.k7 i/\at' f.k7 i<f.g.ci.length)/\at' (at' f.is (at' f.p.ci i)) (at' f.g.ci (at' f.k7 i))=true
 edge:∀i:Int,0<=i->i<f.qr.length->(0<=at' f.qr i/\at' f.qr i<f.g.d6.length)/\at' f.g.d6 (at' f.qr i)=⟨(at' f.p.d6 i).qz,at' f.k7 (at' f.p.d6 i).qx,at' f.k7 (at' f.p.d6 i).To⟩
 inj:f.j0=true->f.k7.Nodup/\f.qr.Nodup
structure lJ(f:AU)(m:ec):Prop where
 nl:m.ci.length=f.p.ci.length
 el:m.d6.length=f.p.d6.length
 node:∀i:Int,0<=i->i<m.ci.length->(0<=at' m.ci i/\at' m.ci i<f.g.ci.length)/\at' (at' f.is (at' f.p.ci i)) (at' f.g.ci (at' m.ci i))=true
 edge:∀i:Int,0<=i->i<m.d6.length->(0<=at' m.d6 i/\at' m.d6 i<f.g.d6.length)/\at' f.g.d6 (at' m.d6 i)=⟨(at' f.p.d6 i).qz,at' m.ci (at' f.p.d6 i).qx,at' m.ci (at' f.p.d6 i).To⟩
 inj:f.j0=true->m.ci.Nodup/\m.d6.Nodup
structure jX(t:AB)(p:ff)(h:AL)(x:AR):Prop where
 q:TS t p
 m:Y0 t p.d3 h.d3 x.ec
 len:(x.k8.length:Int)=p.k8
 small:UJ x.k8
structure jZ(t:AB)(p:ff)(c:fd):Prop where
 q:TS t c.ff
 vars:p.k8<=c.ff.k8
 map:RW p.d3 c.ff.d3 c.Map
 inj:Qc c.Map=true
def LB(t:AB)(c:fd)(h:AL)(m:AR)(inj:Bool):List AR×Int:=
 let x:=kK t c.ff.d3 h.d3 ⟨WG c.ff.d3.ci.length c.Map.ci m.ec.ci,WG c.ff.d3.d6.length c.Map.d6 m.ec.d6⟩ inj
 if x.2≠0 then([],x.2)else((x.1.filter fun y=>(Zd c.ff h y m.k8).2).map fun y=>⟨y,(Zd c.ff h y m.k8).1⟩,0)
instance:Inhabited ec:=⟨⟨[],[]⟩⟩
instance:Inhabited AR:=⟨⟨default,[]⟩⟩
instance:Inhabited Bh:=⟨⟨0,default,[]⟩⟩
end Go.Sf.Sc
namespace Go.Sf.Sc
open Go Go.Sf
inductive CV(t:AB):ff->fd->Prop where
 |mk (p:ff) (c:fd) (few:c.qt.length<=40) (rng:1<=c.qh/\c.qh<=5) (one:c.qh=2\/c.qh=5->c.qt.length=1) (ins:c.qh=5->jZ t p c) (kids:∀k∈c.qt,CV t (if c.qh=5 then c.ff else p) k):CV t p c
variable{t:AB}{p:ff}{c:fd}
theorem CV.few(h:CV t p c):c.qt.length<=40:=by cases h;assumption
theorem CV.rng(h:CV t p c):1<=c.qh/\c.qh<=5:=by cases h;assumption
theorem CV.one(h:CV t p c):c.qh=2\/c.qh=5->c.qt.length=1:=by cases h;assumption
theorem CV.ins(h:CV t p c):c.qh=5->jZ t p c:=by cases h;assumption
theorem CV.kids(h:CV t p c):∀k∈c.qt,CV t (if c.qh=5 then c.ff else p) k:=by cases h;assumption
theorem Qn:∀l:List fd,l.length<=O4 l
 |[]=>by simp|c::l=>by
  have:=Qn l
  grind [O4,Eu,Vs,bk]
variable{q:ff}
theorem gX{v:Int}(hv:(BL t).2=0)(h:Uj t q v=0):TS t q:=by grind[Uj,di]
theorem Y7(hv:(BL t).2=0):∀(N:Nat)(c:fd)(p:ff),SizeOf.sizeOf c<=N->Eu c<=40->Ze N c=true->OY N t p c=0->CV t p c
 |0,c,_,h,_,_,_=>by have:=We c;omega|N+1,c,p,h,I,v,ho=>by
  have A:=Vs c;have B:=Qn c.qt;rw[Ze,q8]at v;obtain⟨o,j⟩:=v;have d:c.qh=2\/c.qh=5->c.qt.length=1:=by
   intro g;unfold Ug at o
   grind
  have f:1<=c.qh/\c.qh<=5:=by
   grind [Ug]
  have r:∀q,(fst (fun i=>nz (OY N t q (at' c.qt i))) 0 c.qt.length).getD 0=0->∀k∈c.qt,CV t q k:=by
   intro q w k g;have C:=Pr w;have G:=Rz g;have H:=YC g;rw[List.all_eq_true]at j;obtain⟨i,D,E,e⟩:=Cf g;have u:=C i D E;rw[e]at u;exact Y7 hv N k q (by omega) (by omega) (j k g) u
  rw [OY]at ho;by_cases l:c.qh=5
  .rw[QQ l]at ho;split at ho
   .cases ho
   rename_i F;split at ho
   .grind
   rename_i x;split at ho
   .grind
   rename_i y;split at ho
   .cases ho
   rename_i z;refine CV.mk p c (by omega) f d (fun _=>⟨gX hv (Classical.not_not.1 x),by omega,Us (Classical.not_not.1 y),by simpa using z⟩) ?_
   grind
  .rw[a6 l]at ho;refine CV.mk p c (by omega) f d (fun e=>absurd e l) ?_
   grind
section
variable{α σ ρ:Type}
end
abbrev zM:AR:=⟨⟨[],[]⟩,[]⟩
abbrev zP:Bh:=⟨0,zM,[]⟩
def jw(w:fd->Bh×Int)(k:fd)(s:Bh×Bh):Bk (Bh×Bh) (Bh×Int):=
 if (w k).2≠0 then .ret (zP,(w k).2)else .next (s.1,⟨s.2.sL,s.2.qj,s.2.qt++[(w k).1]⟩)
def jx(w:fd->Bh×Int)(l:List fd):Bh×Int:=
 match LX (jw w) l (zP,zP)with
 |.inl s=>(s.2,0)|.inr r=>r
def Jc(t:AB)(h:AL)(inj:Bool):Nat->fd->AR->Bh×Int
 |0,_,_=>(zP,0)|N+1,c,m=>
  if c.qh=2 then(if(Jc t h inj N (at' c.qt 0) m).2=0 then(zP,10)else if(Jc t h inj N (at' c.qt 0) m).2=10 then(zP,0)else(zP,(Jc t h inj N (at' c.qt 0) m).2))else
  if c.qh=3 then jx (fun k=>Jc t h inj N k m) c.qt else
  if c.qh=4 then(fst (fun i=>if(Jc t h inj N (at' c.qt i) m).2=0 then some (⟨i,zM,[(Jc t h inj N (at' c.qt i) m).1]⟩,0)else if(Jc t h inj N (at' c.qt i) m).2≠10 then some (zP,(Jc t h inj N (at' c.qt i) m).2)else none) 0 c.qt.length).getD (zP,10)else
  if c.qh=5 then
   (if(LB t c h m inj).2≠0 then(zP,(LB t c h m inj).2)else
   (fst (fun i=>if(Jc t h inj N (at' c.qt 0) (at' (LB t c h m inj).1 i)).2=0 then some (⟨0,at' (LB t c h m inj).1 i,[(Jc t h inj N (at' c.qt 0) (at' (LB t c h m inj).1 i)).1]⟩,0)else
    if (Jc t h inj N (at' c.qt 0) (at' (LB t c h m inj).1 i)).2≠10 then some (zP,(Jc t h inj N (at' c.qt 0) (at' (LB t c h m inj).1 i)).2)else none) 0 (LB t c h m inj).1.length).getD (zP,10))else
  (zP,0)
end Go.Sf.Sc
namespace Go.Sf.Sc
open Go Go.Sf
end Go.Sf.Sc
namespace Go.Sf.Sc
open Go Go.Sf
noncomputable def TZ(t:AB)(p:ff)(c:fd)(h:AL)(m:AR)(inj:Bool):Int:=
 if Pk t p c≠0 then Pk t p c else if(Gc t h).2≠0 then(Gc t h).2 else if L8 t p.d3 h.d3 m.ec inj≠0 then L8 t p.d3 h.d3 m.ec inj else
 if (Jv t p h m.ec).2≠0 then(Jv t p h m.ec).2 else if(Jv t p h m.ec).1=m.k8 then 0 else 11
variable{t:AB}{p:ff}{c:fd}{h:AL}{inj:Bool}
theorem gM(hf:CX t)(v:Eu c<=40){m:AR}(e:TZ t p c h m inj=0):(BL t).2=0/\LZ t h/\CV t p c/\jX t p h m:=by
 unfold TZ at e;split at e
 .grind
 rename_i d;split at e
 .grind
 rename_i g;split at e
 .grind
 rename_i j;split at e
 .grind
 rename_i l;split at e
 case isFalse=>cases e
 rename_i y;have d:=Classical.not_not.1 d;have g:=Classical.not_not.1 g;have j:=Classical.not_not.1 j;have l:=Classical.not_not.1 l;obtain⟨hv,hh⟩:=Qb hf g;have r:=(ce j).2;unfold Pk at d;split at d
 .grind
 rename_i w;split at d
 .grind
 rename_i o;have u:=di hv (.inl (Classical.not_not.1 w));have o:=Classical.not_not.1 o;have x:jn c=true:=by
  grind [Si]
 suffices f:(m.k8.length:Int)=p.k8/\UJ m.k8 from⟨hv,hh,Y7 hv _ c p (ae _) v x d,u,r,f.1,f.2⟩
 have f:∀s∈p.pr,La p.k8 h m.ec s:=fun s f=>bJ (IZ hv) u hh r f
 grind [Jv,Wi]
end Go.Sf.Sc
namespace Go.Sf.Sc
open Go Go.Sf
noncomputable def wS(t:AB)(p:ff)(c:fd)(h:AL)(m:AR)(inj:Bool):Bh×Int:=
 if TZ t p c h m inj≠0 then(zP,TZ t p c h m inj)else Jc t h inj (SizeOf.sizeOf c) c m
noncomputable def VK(t:AB)(p:ff)(c:fd)(h:AL)(m:AR)(inj:Bool):Bool×Int:=
 if (wS t p c h m inj).2=10 then(false,0)else(decide ((wS t p c h m inj).2=0),(wS t p c h m inj).2)
end Go.Sf.Sc
namespace Go.Sf.Sc
open Go Go.Sf
end Go.Sf.Sc
namespace Go.Sf.Sc
open Go Go.Sf
end Go.Sf.Sc
