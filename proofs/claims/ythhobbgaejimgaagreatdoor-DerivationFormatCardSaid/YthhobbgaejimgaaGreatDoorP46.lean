/- Plain lemmas: what the functions of the program and of the reference compute. -/
import Derived.Test.YthhobbgaejimgaaGreatDoorP25
set_option linter.all false
set_option maxRecDepth 100000
namespace Go.Sf.Sc
open Go Go.Sf
variable{k:Int}
theorem L7{b:List rc}(h:PS b k=0)(d:(at' b k).se.length<=1000):-1000000<=(at' b k).tU/\(at' b k).sO<=1000000:=by grind[PS]
variable{t:AB}{i:Int}
theorem TT(h:K3 t i=0):∀k,((BH t i).length:Int)-(at' t.fq i).sc.length<=k->k<(BH t i).length->PS (BH t i) k=0:=by
 unfold K3 at h;dsimp only at h;split at h
 .cases h
 split at h
 .cases h
 split at h
 .cases h
 split at h
 .cases h
 exact Pk h
variable{a:Int}
theorem J1{n:Nat}(b:0<=a):CS t (n+1) a=CS t n (par t a)++(at' t.fq a).sc:=by grind[CS]
theorem PV(hf:Hm t)(h:HP t){Q:rc->Prop}(L7:∀{b:List rc}{k:Int},PS b k=0->(at' b k).se.length<=1000->Q (at' b k)):∀(n:Nat)(a:Int),a<t.fq.length->a<n->∀x∈CS t n a,Q x
 |0,_,_,_=>by simp[CS]|n+1,a,f,z=>by
  by_cases g:a<0
  .rw[PW g];simp
  .have u:=h.par a (by omega) f;intro x d;rw[J1 (by omega)]at d;rcases List.mem_append.1 d with d|d
   .exact PV hf h L7 n (par t a) (by omega) (by omega) x d
   .obtain⟨j,w,y,rfl⟩:=DY d;have e:BH t a=CS t a.toNat (par t a)++(at' t.fq a).sc:=by
     unfold BH;rw[show(a+1).toNat=a.toNat+1 by omega,J1 (by omega)]
    have v:(BH t a).length=(CS t a.toNat (par t a)).length+(at' t.fq a).sc.length:=by rw[e,ci]
    have l:=TT (h.node a (by omega) f) ((CS t a.toNat (par t a)).length+j) (by omega) (by omega);have o:at' (BH t a) ((CS t a.toNat (par t a)).length+j)=at' (at' t.fq a).sc j:=by
     grind [NS,at']
    have r:=Ug hf (Int.le_refl _) h.par f (at' (BH t a) ((CS t a.toNat (par t a)).length+j)) (B6 (by omega) (by omega));have:=L7 l (by have:=r.names;omega)
    rwa [o]at this
theorem Ui(hf:Hm t)(h:HP t)(d:0<=a)(b:a<t.fq.length):∀x∈BH t a,-1000000<=x.tU/\x.sO<=1000000:=PV hf h L7 _ a b (by omega)
theorem RE(e:IT t k):∀(n:Nat)(a b:Int),a<k->a<n->b∈XR t n a->0<=b/\b<=a/\(BH t b).length<=(CS t n a).length
 |0,_,_,_,_=>by simp[XR]|n+1,a,b,f,l=>by
  intro d;rw[XR]at d;split at d
  .cases d
  .rename_i g;have j:=e a (by omega) f;rw[J1 (by omega)];rcases List.mem_cons.1 d with rfl|d
   .refine⟨by omega,by omega,?_⟩;unfold BH;rw[Qe e (b+1).toNat (n+1) b f (by omega) (by omega),J1 (by omega)];exact ca _
   .have:=RE e n (par t a) b (by omega) (by omega) d
    grind
theorem Q0(h:HP t){a b:Int}(g:a<t.fq.length)(d:SL t a b=true):(BH t b).length<=(BH t a).length:=by
 unfold SL at d;rw[List.any_eq_true]at d;obtain⟨x,f,e⟩:=d;rw[sN]at e;subst e;by_cases j:a<0
 .have:(a+1).toNat=0:=by omega
  rw [this]at f;cases f
 .exact(RE h.par (a+1).toNat a b g (by omega) f).2.2
def YH(t:AB)(k:Int)(v:Fp)(j:Int):Bool:=decide (at' v j<(at' (BH t k) j).tU)||decide ((at' (BH t k) j).sO<at' v j)
def Pn(t:AB)(k:Int)(v:Fp):Int:=
 if (t.fq.length:Int)<=k then 6 else if(at' t.fq k).sL=true then 13 else if¬v.length=(BH t k).length then 20 else
 if DM (YH t k v) 0 (BH t k).length=true then 6 else 0
def Pm(t:AB)(g:hT)(i:Int):Int:=
 if (t.jj.length:Int)<=(at' g.jj i).rx then 6 else if R7 t g i=false then 13 else 0
def IZ(t:AB)(h:AM):Int×Int:=
 if (B9 t).2≠0 then(-1,(B9 t).2)else if CT h.hT≠0 then(-1,CT h.hT)else if¬h.og.length=h.hT.fq.length then(-1,20)else
 match fst (fun i=>(nz (Pn t (at' h.hT.fq i) (at' h.og i))).map fun e=>(i,e)) 0 h.hT.fq.length with
 |some r=>r|none=>(fst (fun i=>(nz (Pm t h.hT i)).map fun e=>(i,e)) 0 h.hT.jj.length).getD (-1,0)
theorem Qf(hv:(B9 t).2=0)(b:0<=k)(d:k<t.fq.length):NU t k=(BH t k,0):=by grind[NU,ak]
structure LY(t:AB)(h:AM):Prop where
 g:Ff h.hT
 len:h.og.length=h.hT.fq.length
 kind:∀i:Int,0<=i->i<h.hT.fq.length->0<=at' h.hT.fq i/\at' h.hT.fq i<t.fq.length
 row:∀i:Int,0<=i->i<h.hT.fq.length->(at' h.og i).length=(BH t (at' h.hT.fq i)).length
 low:∀i:Int,0<=i->i<h.hT.fq.length->∀x∈at' h.og i,-1000000<=x/\x<=1000000
 ge:CT h.hT=0
 ty:Eb t h.hT=true
variable{h:AM}
theorem QT(hf:Hm t)(e:(IZ t h).2=0):(B9 t).2=0/\LY t h:=by
 unfold IZ at e;split at e
 .rename_i o;exact absurd e o
 split at e
 .rename_i o;exact absurd e o
 split at e
 .cases e
 rename_i o B E;have hv:=Classical.not_not.1 o;have go:=IE (Classical.not_not.1 B);have v:∀i:Int,0<=i->i<h.hT.fq.length->Pn t (at' h.hT.fq i) (at' h.og i)=0:=by
  split at e
  .rename_i r f;obtain⟨i,_,_,k,_⟩:=Dw f;unfold nz at k;split at k
   .cases k
   .rename_i g;cases k;exact absurd e g
  .rename_i f;exact fun i b d=>OS.1 (Mq.1 (Cb.1 f i b d))
 have w:∀i:Int,0<=i->i<h.hT.fq.length->(0<=at' h.hT.fq i/\at' h.hT.fq i<t.fq.length)/\(at' h.og i).length=(BH t (at' h.hT.fq i)).length/\∀j:Int,0<=j->j<(BH t (at' h.hT.fq i)).length->YH t (at' h.hT.fq i) (at' h.og i) j=false:=by
  intro i b d;have H:=(go.kind _ (B6 b d)).1;have:=v i b d;unfold Pn at this;split at this
  .cases this
  split at this
  .cases this
  split at this
  .cases this
  split at this
  .cases this
  rename_i a1 I F G;exact⟨⟨H,by omega⟩,Classical.not_not.1 F,D4.1 (by simpa using G)⟩
 have he:∀i:Int,0<=i->i<h.hT.jj.length->Pm t h.hT i=0:=by
  have z:fst (fun i=>(nz (Pn t (at' h.hT.fq i) (at' h.og i))).map fun e=>(i,e)) 0 h.hT.fq.length=none:=Cb.2 fun i b d=>by rw[v i b d];rfl
  rw [z]at e;dsimp only at e;cases f:fst (fun i=>(nz (Pm t h.hT i)).map fun e=>(i,e)) 0 h.hT.jj.length with
  |some r=>
   rw [f]at e;obtain⟨i,_,_,k,_⟩:=Dw f;unfold nz at k;split at k
   .cases k
   .rename_i g;cases k;exact absurd e g
  |none=>exact fun i b d=>OS.1 (Mq.1 (Cb.1 f i b d))
 have A:Eb t h.hT=true:=by
  unfold Eb;rw[rt,Bool.not_eq_true',Bool.not_eq_true',List.any_eq_false,List.any_eq_false];refine⟨fun n v=>?_,fun x y=>?_⟩
  .obtain⟨i,b,d,rfl⟩:=DY v;have:=(w i b d).1.2;simp;omega
  .obtain⟨i,b,d,rfl⟩:=DY y;have:=he i b d;unfold Pm at this;split at this
   .cases this
   .simp;omega
 suffices u:∀i:Int,0<=i->i<h.hT.fq.length->∀x∈at' h.og i,-1000000<=x/\x<=1000000 from⟨hv,go,Classical.not_not.1 E,fun i b d=>(w i b d).1,fun i b d=>(w i b d).2.1,u,Classical.not_not.1 B,A⟩
 intro i b d x y;obtain⟨C,J,k3⟩:=w i b d;obtain⟨j,D,K,rfl⟩:=DY y;have:=k3 j D (by omega);unfold YH at this;simp[decide_eq_false_iff_not]at this;have:=Ui hf (Od hv) C.1 C.2 _ (B6 (l:=BH t (at' h.hT.fq i)) D (by omega));omega
end Go.Sf.Sc
namespace Go.Sf.Sc
open Go Go.Sf
def PY(t:AB)(p g:hT)(m:gt)(i:Int):QQ:=
 if at' m.fq i<0\/g.fq.length<=at' m.fq i then some 6 else if SL t (at' g.fq (at' m.fq i)) (at' p.fq i)=false then some 13 else none
def Rg(t:AB)(p g:hT)(m:gt):Int:=
 if m.fq.length≠p.fq.length\/m.jj.length≠p.jj.length then 20 else
 match fst (PY t p g m) 0 m.fq.length with
 |some e=>e|none=>(fst (Ls p g m) 0 m.jj.length).getD 0
def L9(t:AB)(p g:hT)(m:gt)(inj:Bool):Int:=
 if KT t p g≠0 then KT t p g else if Rg t p g m≠0 then Rg t p g m else if(inj&&!QU m)=true then 5 else 0
structure ZV(t:AB)(p g:hT)(m:gt):Prop where
 uw:m.fq.length=p.fq.length
 vh:m.jj.length=p.jj.length
 node:∀i:Int,0<=i->i<m.fq.length->(0<=at' m.fq i/\at' m.fq i<g.fq.length)/\SL t (at' g.fq (at' m.fq i)) (at' p.fq i)=true
 edge:∀i:Int,0<=i->i<m.jj.length->0<=at' m.jj i/\at' m.jj i<g.jj.length
variable{t:AB}{m:gt}
theorem bg{p g:hT}(h:Rg t p g m=0):ZV t p g m:=by
 unfold Rg at h;split at h
 .cases h
 rename_i f;have e:fst (PY t p g m) 0 m.fq.length=none:=by
  grind [Dw,PY]
 rw [e]at h;have he:=Kx (fun i=>by
  grind [Ls]) h
 refine ⟨by omega,by omega,fun i b d=>?_,fun i b d=>?_⟩
 .grind[Cb,PY]
 grind [Ls]
variable{inj:Bool}
theorem dF{p g:hT}(h:L9 t p g m inj=0):KT t p g=0/\ZV t p g m:=by grind[L9,bg]
end Go.Sf.Sc
namespace Go.Sf.Sc
open Go Go.Sf
section
variable{α σ ρ:Type}
def LV(step:α->σ->B2 σ ρ):List α->σ->σ ⊕ ρ
 |[],s=>.inl s|a::r,s=>match step a s with
  |.next s'=>LV step r s'|.brk s'=>.inl s'|.ret r=>.inr r
theorem Sz[Inhabited α](step:α->σ->B2 σ ρ)(I:σ->Prop):∀(l:List α)(s s':σ),I s->(∀a∈l,∀s s',I s->step a s=.next s'->I s')->(∀a∈l,∀s s',step a s≠.brk s')->LV step l s=.inl s'->I s'
 |[],s,s',h,_,_,e=>by cases e;exact h
 |a::r,s,s',h,f,j,e=>by
  rw [LV]at e;split at e
  .rename_i d g;exact Sz step I r d s' (f a (by simp) s d h g) (fun a b=>f a (by simp[b])) (fun a b=>j a (by simp[b])) e
  .grind
  .cases e
end
def Oc(x:rk)(l:Fp):Int:=if x.Var<0 then x.Add else AW (at' l x.Var+x.Add)
def Zf(x:Test)(l:Fp):Bool:=(decide (x.rh=1)&&decide (Oc x.rj l<=Oc x.pq l))||(decide (x.rh=2)&&decide (Oc x.rj l=Oc x.pq l))
structure KQ(n:Int)(x:rk):Prop where
 low:-1<=x.Var
 high:x.Var<n
 add:-1000000<=x.Add/\x.Add<=1000000
def Ub(l:Fp):Prop:=∀x∈l,-2000000<=x/\x<=2000000
end Go.Sf.Sc
namespace Go.Sf.Sc
open Go Go.Sf
structure Th(t:AB)(q:j4):Prop where
 g:Ff q.hT
 kind:∀n∈q.hT.fq,0<=n/\n<t.fq.length
 vars:0<=q.qy/\q.qy<=12
 few:q.rf.length<=10/\q.rG.length<=10
 slot:∀s∈q.rf,(0<=s.rU/\s.rU<q.hT.fq.length)/\(0<=s.rc/\s.rc<(BH t (at' q.hT.fq s.rU)).length)/\KQ q.qy s.rk
 test:∀x∈q.rG,(x.rh=1\/x.rh=2)/\KQ q.qy x.rj/\KQ q.qy x.pq
 ge:CT q.hT=0
 ty:Eb t q.hT=true
variable{n:Int}
theorem ZL{x:rk}(h:Rk n x=true):KQ n x:=by
 unfold Rk at h;simp[sN]at h;exact⟨h.1.1.1,h.1.1.2,h.1.2,h.2⟩
theorem ZM{l:List Test}(h:Ly n l=0):∀x∈l,(x.rh=1\/x.rh=2)/\KQ n x.rj/\KQ n x.pq:=by
 unfold Ly at h;split at h
 .cases h
 split at h
 .cases h
 have e:=Pk h;intro x b;obtain⟨i,f,g,rfl⟩:=DY b;have:=e i f g;unfold Rl at this;split at this
 .cases this
 split at this
 .rename_i j d;rw[rt]at d
  grind [ZL]
 .cases this
theorem Vn(n:Int)(l:List Test):Ly n l≠9:=by
 unfold Ly;split
 .decide
 split
 .decide
 intro h;cases b:fst (fun i=>nz (Rl n (at' l i))) 0 l.length with
 |none=>rw[b]at h;cases h
 |some r=>
  grind [Dw,nz,Rl]
variable{t:AB}{q:j4}
theorem d4(hv:(B9 t).2=0)(h:Ih t q=0\/Ih t q=9):Th t q:=by
 have u:=Uv q.hT;unfold Ih at h;rw[bk (by simp[hv])]at h;split at h
 .omega
 rename_i f;have g:=IE (Classical.not_not.1 f);split at h
 .omega
 rename_i d;split at h
 .omega
 rename_i w;split at h
 .omega
 rename_i x;split at h
 .omega
 rename_i y;split at h
 .grind[Vn]
 rename_i r;refine⟨g,(H9 g (by simpa using d)).1,by omega,by omega,fun s v=>?_,ZM (Classical.not_not.1 r),Classical.not_not.1 f,by simpa using d⟩;have e:Xm t q s=false:=by
  grind
 unfold Xm at e;simp[Bool.not_eq_false',decide_eq_false_iff_not]at e;obtain⟨⟨⟨b,A⟩,B⟩,C,D⟩:=e;unfold ZY at b;dsimp only at b;split at b
 .cases b
 rename_i z;have o:=(H9 g (by simpa using d)).1 _ (B6 (l:=q.hT.fq) (show 0<=s.rU by omega) (by omega));rw[Qf hv o.1 o.2]at b;split at b
 .cases b
 rename_i j;have j:¬(s.rc<0\/((BH t (at' q.hT.fq s.rU)).length:Int)<=s.rc):=j;exact⟨by omega,by omega,by omega,by omega,by omega,by omega⟩
def SI(h:AM)(m:gt)(s:CO):Int:=at' (at' h.og (at' m.fq s.rU)) s.rc
def Ri(h:AM)(m:gt)(s:CO)(st:Fp×ae):Fp×ae:=
 if 0<=s.rk.Var/\at' st.2 s.rk.Var=false then(CN st.1 s.rk.Var (AW (SI h m s-s.rk.Add)),CN st.2 s.rk.Var true)else st
def Im{ρ:Type}(r:ρ)(h:AM)(m:gt)(s:CO)(st:Fp×ae):B2 (Fp×ae) ρ:=
 if Oc s.rk (Ri h m s st).1=SI h m s then .next (Ri h m s st)else .ret r
structure VI(n:Int)(st:Fp×ae):Prop where
 l1:(st.1.length:Int)=n
 l2:(st.2.length:Int)=n
 small:Ub st.1
structure LZ(n:Int)(h:AM)(m:gt)(s:CO):Prop where
 node:0<=s.rU/\s.rU<m.fq.length
 val:0<=at' m.fq s.rU/\at' m.fq s.rU<h.og.length
 attr:0<=s.rc/\s.rc<(at' h.og (at' m.fq s.rU)).length
 term:KQ n s.rk
 has:-1000000<=SI h m s/\SI h m s<=1000000
variable{h:AM}{m:gt}{s:CO}
theorem bh(e:HP t)(f:Th t q)(hh:LY t h)(d:ZV t q.hT h.hT m)(g:s∈q.rf):LZ q.qy h m s:=by
 obtain ⟨l,o,r⟩:=f.slot s g;have u:=d.uw;have b:=d.node s.rU l.1 (by omega);have v:=hh.row _ b.1.1 b.1.2;have j:=hh.kind _ b.1.1 b.1.2;have w:=Q0 e j.2 b.2;have hv:=hh.len;refine⟨by omega,by omega,by omega,r,?_⟩;unfold SI;exact hh.low _ b.1.1 b.1.2 _ (B6 o.1 (by omega))
theorem S0{α:Type}(l:List α)(i:Int)(a:α):(CN l i a).length=l.length:=by unfold CN;rw[List.length_set]
variable{i:Int}
theorem Yb{α:Type}{l:List α}{a x:α}(h:x∈CN l i a):x∈l\/x=a:=List.mem_or_eq_of_mem_set h
variable{st:Fp×ae}
theorem Wx(d:LZ n h m s)(hi:VI n st):VI n (Ri h m s st):=by
 have e:=d.has;have f:=d.term.add;unfold Ri;split
 .refine⟨by rw[S0];exact hi.l1,by rw[S0];exact hi.l2,fun x b=>?_⟩;rcases Yb b with b|rfl
  .exact hi.small x b
  grind [BU]
 .exact hi
def OD(q:j4)(h:AM)(m:gt):Fp×Int:=
 match LV (Im (([],11):Fp×Int) h m) q.rf (List.replicate q.qy.toNat 0,List.replicate q.qy.toNat false)with
 |.inr r=>r|.inl st=>if DM (fun i=>!Zf (at' q.rG i) st.1) 0 q.rG.length=true then([],16)else(st.1,0)
theorem bw(b:0<=n):VI n (List.replicate n.toNat 0,List.replicate n.toNat false):=by
 refine ⟨by simp;omega,by simp;omega,fun x d=>?_⟩
 grind
variable{st':Fp×ae}
theorem Wz{ρ:Type}{r:ρ}(b:LZ n h m s)(hi:VI n st)(e:Im r h m s st=.next st'):VI n st':=by grind[Im,Wx]
theorem Wy{ρ:Type}{r:ρ}:Im r h m s st≠.brk st':=by grind[Im]
theorem YS{ρ:Type}{r:ρ}{l:List CO}(b:∀s∈l,LZ n h m s)(hi:VI n st)(e:LV (Im r h m) l st=.inl st'):VI n st':=
 Sz (Im r h m) (VI n) l st st' hi (fun a d _ _ f g=>Wz (b a d) f g) (fun _ _ _ _=>Wy) e
def Zq(t:AB)(p:j4)(h:AM):Int:=if Ih t p≠0 then Ih t p else(IZ t h).2
def JW(t:AB)(p:j4)(h:AM)(m:gt):Fp×Int:=
 if Zq t p h≠0 then([],Zq t p h)else if L9 t p.hT h.hT m false≠0 then([],L9 t p.hT h.hT m false)else OD p h m
theorem W5(d:Th t q)(f:∀s∈q.rf,LZ q.qy h m s)(e:(OD q h m).2=0):((OD q h m).1.length:Int)=q.qy/\Ub (OD q h m).1:=by
 unfold OD at e|-;cases b:LV (Im (([],11):Fp×Int) h m) q.rf (List.replicate q.qy.toNat 0,List.replicate q.qy.toNat false)with
 |inr r=>
  rw [b]at e;have:∀(l:List CO)(st:Fp×ae)(r:Fp×Int),LV (Im (([],11):Fp×Int) h m) l st=.inr r->r=([],11):=by
   intro l
   induction l with
   |nil=>intro st r h;cases h
   |cons a l j=>
    grind [LV,Im]
  grind
 |inl st=>
  rw [b]at e;have hi:=YS f (bw d.vars.1) b;dsimp only at e|-;split at e
  .cases e
  .rename_i g;rw[bk g];exact⟨hi.l1,hi.small⟩
end Go.Sf.Sc
namespace Go.Sf.Sc
open Go Go.Sf
def df(n:Nat)(k:Int):ae:=(Jx n).map fun j=>decide (j<k)
def Z4(q:j4)(h:AM)(m:gt)(given:Fp):Fp×Bool:=
 match LV (Im (([],false):Fp×Bool) h m) q.rf (given++List.replicate (q.qy-given.length).toNat 0,df q.qy.toNat given.length)with
 |.inr r=>r|.inl st=>if DM (fun i=>!Zf (at' q.rG i) st.1) 0 q.rG.length=true then([],false)else(st.1,true)
def Wa(n:Nat)(by' images:Fp):Fp:=(Jx by'.length).foldl (fun l i=>CN l (at' by' i) (at' images i)) (List.replicate n (-1))
end Go.Sf.Sc
namespace Go.Sf.Sc
open Go Go.Sf
structure lO(f:AT):Prop where
 nl:f.qz.length<=f.p.fq.length
 node:∀i:Int,0<=i->i<f.qz.length->(0<=at' f.qz i/\at' f.qz i<f.g.fq.length)/\at' (at' f.is (at' f.p.fq i)) (at' f.g.fq (at' f.qz i))=true
 edge:∀i:Int,0<=i->i<f.rg.length->(0<=at' f.rg i/\at' f.rg i<f.g.jj.length)/\at' f.g.jj (at' f.rg i)=⟨(at' f.p.jj i).rx,at' f.qz (at' f.p.jj i).rA,at' f.qz (at' f.p.jj i).To⟩
 inj:f.pc=true->f.qz.Nodup/\f.rg.Nodup
structure lM(f:AT)(m:gt):Prop where
 nl:m.fq.length=f.p.fq.length
 el:m.jj.length=f.p.jj.length
 node:∀i:Int,0<=i->i<m.fq.length->(0<=at' m.fq i/\at' m.fq i<f.g.fq.length)/\at' (at' f.is (at' f.p.fq i)) (at' f.g.fq (at' m.fq i))=true
 edge:∀i:Int,0<=i->i<m.jj.length->(0<=at' m.jj i/\at' m.jj i<f.g.jj.length)/\at' f.g.jj (at' m.jj i)=⟨(at' f.p.jj i).rx,at' m.fq (at' f.p.jj i).rA,at' m.fq (at' f.p.jj i).To⟩
 inj:f.pc=true->m.fq.Nodup/\m.jj.Nodup
structure jY(t:AB)(p:j4)(h:AM)(x:AP):Prop where
 q:Th t p
 m:ZV t p.hT h.hT x.gt
 len:(x.qy.length:Int)=p.qy
 small:Ub x.qy
structure ja(t:AB)(p:j4)(c:j0):Prop where
 q:Th t c.j4
 vars:p.qy<=c.j4.qy
 map:RQ p.hT c.j4.hT c.Map
 inj:QU c.Map=true
def Ku(t:AB)(c:j0)(h:AM)(m:AP)(inj:Bool):List AP×Int:=
 let x:=kO t c.j4.hT h.hT ⟨Wa c.j4.hT.fq.length c.Map.fq m.gt.fq,Wa c.j4.hT.jj.length c.Map.jj m.gt.jj⟩ inj
 if x.2≠0 then([],x.2)else((x.1.filter fun y=>(Z4 c.j4 h y m.qy).2).map fun y=>⟨y,(Z4 c.j4 h y m.qy).1⟩,0)
instance:Inhabited gt:=⟨⟨[],[]⟩⟩
instance:Inhabited AP:=⟨⟨default,[]⟩⟩
instance:Inhabited Be:=⟨⟨0,default,[]⟩⟩
end Go.Sf.Sc
namespace Go.Sf.Sc
open Go Go.Sf
inductive CV(t:AB):j4->j0->Prop where
 |mk (p:j4) (c:j0) (few:c.rm.length<=40) (rng:1<=c.rh/\c.rh<=5) (one:c.rh=2\/c.rh=5->c.rm.length=1) (ins:c.rh=5->ja t p c) (kids:∀k∈c.rm,CV t (if c.rh=5 then c.j4 else p) k):CV t p c
variable{t:AB}{p:j4}{c:j0}
theorem CV.few(h:CV t p c):c.rm.length<=40:=by cases h;assumption
theorem CV.rng(h:CV t p c):1<=c.rh/\c.rh<=5:=by cases h;assumption
theorem CV.one(h:CV t p c):c.rh=2\/c.rh=5->c.rm.length=1:=by cases h;assumption
theorem CV.ins(h:CV t p c):c.rh=5->ja t p c:=by cases h;assumption
theorem CV.kids(h:CV t p c):∀k∈c.rm,CV t (if c.rh=5 then c.j4 else p) k:=by cases h;assumption
theorem Qi:∀l:List j0,l.length<=O0 l
 |[]=>by simp|c::l=>by
  have:=Qi l
  grind [O0,FA,V5,ez]
variable{q:j4}
theorem gl{v:Int}(hv:(B9 t).2=0)(h:Uy t q v=0):Th t q:=by grind[Uy,d4]
theorem Zb(hv:(B9 t).2=0):∀(N:Nat)(c:j0)(p:j4),SizeOf.sizeOf c<=N->FA c<=40->Z5 N c=true->OW N t p c=0->CV t p c
 |0,c,_,h,_,_,_=>by have:=Ww c;omega|N+1,c,p,h,H,u,ho=>by
  have z:=V5 c;have A:=Qi c.rm;rw[Z5,rt]at u;obtain⟨l,g⟩:=u;have b:c.rh=2\/c.rh=5->c.rm.length=1:=by
   intro f;unfold Uw at l
   grind
  have d:1<=c.rh/\c.rh<=5:=by
   grind [Uw]
  have o:∀q,(fst (fun i=>nz (OW N t q (at' c.rm i))) 0 c.rm.length).getD 0=0->∀k∈c.rm,CV t q k:=by
   intro q v k f;have B:=Pk v;have F:=R1 f;have G:=Ye f;rw[List.all_eq_true]at g;obtain⟨i,C,D,e⟩:=DY f;have r:=B i C D;rw[e]at r;exact Zb hv N k q (by omega) (by omega) (g k f) r
  rw [OW]at ho;by_cases j:c.rh=5
  .rw[az j]at ho;split at ho
   .cases ho
   rename_i E;split at ho
   .grind
   rename_i w;split at ho
   .grind
   rename_i x;split at ho
   .cases ho
   rename_i y;refine CV.mk p c (by omega) d b (fun _=>⟨gl hv (Classical.not_not.1 w),by omega,U6 (Classical.not_not.1 x),by simpa using y⟩) ?_
   grind
  .rw[bk j]at ho;refine CV.mk p c (by omega) d b (fun e=>absurd e j) ?_
   grind
section
variable{α σ ρ:Type}
end
abbrev zM:AP:=⟨⟨[],[]⟩,[]⟩
abbrev zP:Be:=⟨0,zM,[]⟩
def jx(w:j0->Be×Int)(k:j0)(s:Be×Be):B2 (Be×Be) (Be×Int):=
 if (w k).2≠0 then .ret (zP,(w k).2)else .next (s.1,⟨s.2.tc,s.2.kx,s.2.rm++[(w k).1]⟩)
def jy(w:j0->Be×Int)(l:List j0):Be×Int:=
 match LV (jx w) l (zP,zP)with
 |.inl s=>(s.2,0)|.inr r=>r
def JB(t:AB)(h:AM)(inj:Bool):Nat->j0->AP->Be×Int
 |0,_,_=>(zP,0)|N+1,c,m=>
  if c.rh=2 then(if(JB t h inj N (at' c.rm 0) m).2=0 then(zP,10)else if(JB t h inj N (at' c.rm 0) m).2=10 then(zP,0)else(zP,(JB t h inj N (at' c.rm 0) m).2))else
  if c.rh=3 then jy (fun k=>JB t h inj N k m) c.rm else
  if c.rh=4 then(fst (fun i=>if(JB t h inj N (at' c.rm i) m).2=0 then some (⟨i,zM,[(JB t h inj N (at' c.rm i) m).1]⟩,0)else if(JB t h inj N (at' c.rm i) m).2≠10 then some (zP,(JB t h inj N (at' c.rm i) m).2)else none) 0 c.rm.length).getD (zP,10)else
  if c.rh=5 then
   (if(Ku t c h m inj).2≠0 then(zP,(Ku t c h m inj).2)else
   (fst (fun i=>if(JB t h inj N (at' c.rm 0) (at' (Ku t c h m inj).1 i)).2=0 then some (⟨0,at' (Ku t c h m inj).1 i,[(JB t h inj N (at' c.rm 0) (at' (Ku t c h m inj).1 i)).1]⟩,0)else
    if (JB t h inj N (at' c.rm 0) (at' (Ku t c h m inj).1 i)).2≠10 then some (zP,(JB t h inj N (at' c.rm 0) (at' (Ku t c h m inj).1 i)).2)else none) 0 (Ku t c h m inj).1.length).getD (zP,10))else
  (zP,0)
end Go.Sf.Sc
namespace Go.Sf.Sc
open Go Go.Sf
end Go.Sf.Sc
namespace Go.Sf.Sc
open Go Go.Sf
noncomputable def Tp(t:AB)(p:j4)(c:j0)(h:AM)(m:AP)(inj:Bool):Int:=
 if Pc t p c≠0 then Pc t p c else if(IZ t h).2≠0 then(IZ t h).2 else if L9 t p.hT h.hT m.gt inj≠0 then L9 t p.hT h.hT m.gt inj else
 if (JW t p h m.gt).2≠0 then(JW t p h m.gt).2 else if(JW t p h m.gt).1=m.qy then 0 else 11
variable{t:AB}{p:j4}{c:j0}{h:AM}{inj:Bool}
theorem gU(hf:Hm t)(u:FA c<=40){m:AP}(e:Tp t p c h m inj=0):(B9 t).2=0/\LY t h/\CV t p c/\jY t p h m:=by
 unfold Tp at e;split at e
 .grind
 rename_i b;split at e
 .grind
 rename_i f;split at e
 .grind
 rename_i g;split at e
 .grind
 rename_i j;split at e
 case isFalse=>cases e
 rename_i x;have b:=Classical.not_not.1 b;have f:=Classical.not_not.1 f;have g:=Classical.not_not.1 g;have j:=Classical.not_not.1 j;obtain⟨hv,hh⟩:=QT hf f;have o:=(dF g).2;unfold Pc at b;split at b
 .grind
 rename_i v;split at b
 .grind
 rename_i l;have r:=d4 hv (.inl (Classical.not_not.1 v));have l:=Classical.not_not.1 l;have w:jo c=true:=by
  grind [S1]
 suffices d:(m.qy.length:Int)=p.qy/\Ub m.qy from⟨hv,hh,Zb hv _ c p (ca _) u w b,r,o,d.1,d.2⟩
 have d:∀s∈p.rf,LZ p.qy h m.gt s:=fun s d=>bh (Od hv) r hh o d
 grind [JW,W5]
end Go.Sf.Sc
namespace Go.Sf.Sc
open Go Go.Sf
noncomputable def wS(t:AB)(p:j4)(c:j0)(h:AM)(m:AP)(inj:Bool):Be×Int:=
 if Tp t p c h m inj≠0 then(zP,Tp t p c h m inj)else JB t h inj (SizeOf.sizeOf c) c m
noncomputable def VY(t:AB)(p:j4)(c:j0)(h:AM)(m:AP)(inj:Bool):Bool×Int:=
 if (wS t p c h m inj).2=10 then(false,0)else(decide ((wS t p c h m inj).2=0),(wS t p c h m inj).2)
end Go.Sf.Sc
namespace Go.Sf.Sc
open Go Go.Sf
end Go.Sf.Sc
namespace Go.Sf.Sc
open Go Go.Sf
end Go.Sf.Sc
