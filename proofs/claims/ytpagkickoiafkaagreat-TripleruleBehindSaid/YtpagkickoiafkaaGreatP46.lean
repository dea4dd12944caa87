/- Plain lemmas: what the functions of the program and of the reference compute. -/
import Derived.Test.YtpagkickoiafkaaGreatP25
set_option linter.all false
set_option maxRecDepth 100000
open Bool renaming true->X,false->T
open Classical renaming not_not->l!
open List renaming any_eq_false->l?,replicate->m_
namespace Go.Sf.Sc
open Go Go.Sf
variable{all:List jy}{k:Int}
theorem MZ(h:MY all k=0)(b:(AD all k).ku.length<=1000):-1000000<=(AD all k).li/\(AD all k).kJ<=1000000:=by grind[MY]
variable{t:AE}
theorem TH{i:Int}(h:LB t i=0):∀k,((BG t i).length:Int)-(AD t.fd i).kw.length<=k->k<(BG t i).length->MY (BG t i) k=0:=by
 unfold LB at h;dsimp only at h;split at h
 .cases h
 split at h
 .cases h
 split at h
 .cases h
 split at h
 .cases h
 exact VW h
variable{a:Int}
theorem Jy{n:Nat}(b:0<=a):B3 t (n+1) a=B3 t n (par t a)++(AD t.fd a).kw:=by grind[B3]
theorem WY(h:MY all k=0)(b:(AD all k).ku.length<=1000):(AD all k).li<=(AD all k).kJ:=by grind[MY]
theorem Ma(hf:Jb t)(h:Dm t){Q:jy->Prop}(MZ:∀{all:List jy}{k:Int},MY all k=0->(AD all k).ku.length<=1000->Q (AD all k)):∀(n:Nat)(a:Int),a<t.fd.length->a<n->∀x∈B3 t n a,Q x
 |0,_,_,_=>by simp[B3]|n+1,a,d,s=>by
  by_cases f:a<0
  .rw[QI f];simp
  .have m:=h.par a U d;intro x b;rw[Jy U]at b;rcases List.mem_append.1 b with b|b
   .exact Ma hf h MZ n (par t a) U U x b
   .obtain⟨j,q,r,rfl⟩:=FU b;have e:BG t a=B3 t a.toNat (par t a)++(AD t.fd a).kw:=by
     unfold BG;rw[show(a+1).toNat=a.toNat+1 by omega,Jy U]
    have o:(BG t a).length=(B3 t a.toNat (par t a)).length+(AD t.fd a).kw.length:=by rw[e,bq]
    have g:=TH (h.node a U d) ((B3 t a.toNat (par t a)).length+j) U U;have i:AD (BG t a) ((B3 t a.toNat (par t a)).length+j)=AD (AD t.fd a).kw j:=by
     grind [OK,AD]
    have l:=UC hf (Int.le_refl _) h.par d (AD (BG t a) ((B3 t a.toNat (par t a)).length+j)) (CL U U);have:=MZ g (by have:=l.names;omega)
    rwa [i]at this
theorem UE(hf:Jb t)(h:Dm t)(d:0<=a)(b:a<t.fd.length):∀x∈BG t a,-1000000<=x.li/\x.kJ<=1000000:=Ma hf h MZ _ a b U
theorem VJ(hf:Jb t)(h:Dm t)(d:0<=a)(b:a<t.fd.length):∀x∈BG t a,x.li<=x.kJ:=Ma hf h WY _ a b U
theorem Rg(e:Ga t k):∀(n:Nat)(a b:Int),a<k->a<n->b∈Ja t n a->0<=b/\b<=a/\(BG t b).length<=(B3 t n a).length
 |0,_,_,_,_=>by simp[Ja]|n+1,a,b,f,j=>by
  intro d;rw[Ja]at d;split at d
  .cases d
  .rename_i g;have i:=e a U f;rw[Jy U];rcases List.mem_cons.1 d with rfl|d
   .refine⟨U,U,?_⟩;unfold BG;rw[RB e (b+1).toNat (n+1) b f U U,Jy U];exact bk _
   .have:=Rg e n (par t a) b U U d
    grind
theorem Va(h:Dm t){a b:Int}(g:a<t.fd.length)(d:lD t a b=X):(BG t b).length<=(BG t a).length:=by
 unfold lD at d;rw[List.any_eq_true]at d;obtain⟨x,f,e⟩:=d;rw[kY]at e;subst e;by_cases i:a<0
 .have:(a+1).toNat=0:=U
  rw [this]at f;cases f
 .exact(Rg h.par (a+1).toNat a b g U f).2.2
def Ui(t:AE)(k:Int)(v:Fp)(j:Int):Bool:=decide (AD v j<(AD (BG t k) j).li)||decide ((AD (BG t k) j).kJ<AD v j)
def MD(t:AE)(k:Int)(v:Fp):Int:=
 if (t.fd.length:Int)<=k then 6 else if(AD t.fd k).kp=X then 13 else if¬v.length=(BG t k).length then 20 else
 if E4 (Ui t k v) 0 (BG t k).length=X then 6 else 0
def MC(t:AE)(g:ff)(i:Int):Int:=
 if (t.fq.length:Int)<=(AD g.fq i).jo then 6 else if KS t g i=T then 13 else 0
def K6(t:AE)(h:AN):Int×Int:=
 if (CF t).2≠0 then(-1,(CF t).2)else if Bx h.ff≠0 then(-1,Bx h.ff)else if¬h.jf.length=h.ff.fd.length then(-1,20)else
 match fst (λi=>(nz (MD t (AD h.ff.fd i) (AD h.jf i))).map λe=>(i,e)) 0 h.ff.fd.length with
 |some r=>r|none=>(fst (λi=>(nz (MC t h.ff i)).map λe=>(i,e)) 0 h.ff.fq.length).getD (-1,0)
theorem VH(hv:(CF t).2=0)(b:0<=k)(d:k<t.fd.length):OL t k=(BG t k,0):=by grind[OL,Td]
structure SE(t:AE)(h:AN):Prop where
 g:CB h.ff
 len:h.jf.length=h.ff.fd.length
 kind:∀i:Int,0<=i->i<h.ff.fd.length->0<=AD h.ff.fd i/\AD h.ff.fd i<t.fd.length
 row:∀i:Int,0<=i->i<h.ff.fd.length->(AD h.jf i).length=(BG t (AD h.ff.fd i)).length
 low:∀i:Int,0<=i->i<h.ff.fd.length->∀x∈AD h.jf i,-1000000<=x/\x<=1000000
 ge:Bx h.ff=0
 ty:Cf t h.ff=X
variable{h:AN}
theorem Ms(e:(K6 t h).2=0):(∀i:Int,0<=i->i<h.ff.fd.length->MD t (AD h.ff.fd i) (AD h.jf i)=0)/\∀i:Int,0<=i->i<h.ff.fq.length->MC t h.ff i=0:=by
 unfold K6 at e;split at e
 next j=>exact absurd e j
 split at e
 next j=>exact absurd e j
 split at e
 .cases e
 rename_i j n o;have m:∀i:Int,0<=i->i<h.ff.fd.length->MD t (AD h.ff.fd i) (AD h.jf i)=0:=by
  split at e
  .rename_i r b;obtain⟨i,_,_,k,_⟩:=FB b;unfold nz at k;split at k
   .cases k
   next d=>cases k;exact absurd e d
  next b=>exact λi f g=>PJ.1 (Mw.1 (CE.1 b i f g))
 have he:∀i:Int,0<=i->i<h.ff.fq.length->MC t h.ff i=0:=by
  have l:fst (λi=>(nz (MD t (AD h.ff.fd i) (AD h.jf i))).map λe=>(i,e)) 0 h.ff.fd.length=none:=CE.2 λi f g=>by rw[m i f g];rfl
  rw [l]at e;dsimp only at e;cases b:fst (λi=>(nz (MC t h.ff i)).map λe=>(i,e)) 0 h.ff.fq.length with
  |some r=>
   rw [b]at e;obtain⟨i,_,_,k,_⟩:=FB b;unfold nz at k;split at k
   .cases k
   next d=>cases k;exact absurd e d
  |none=>exact λi f g=>PJ.1 (Mw.1 (CE.1 b i f g))
 exact ⟨m,he⟩
theorem Yv(hf:Jb t)(e:(K6 t h).2=0):(CF t).2=0/\SE t h:=by
 obtain ⟨o,he⟩:=Ms e;unfold K6 at e;split at e
 next f=>exact absurd e f
 split at e
 next f=>exact absurd e f
 split at e
 .cases e
 rename_i f s w;have hv:=l!.1 f;have go:=Hi (l!.1 s);have m:∀i:Int,0<=i->i<h.ff.fd.length->(0<=AD h.ff.fd i/\AD h.ff.fd i<t.fd.length)/\(AD h.jf i).length=(BG t (AD h.ff.fd i)).length/\∀j:Int,0<=j->j<(BG t (AD h.ff.fd i)).length->Ui t (AD h.ff.fd i) (AD h.jf i) j=T:=by
  intro i b d;have A:=(go.kind _ (CL b d)).1;have:=o i b d;unfold MD at this;split at this
  .cases this
  split at this
  .cases this
  split at this
  .cases this
  split at this
  .cases this
  rename_i a1 a2 y z;exact⟨⟨A,U⟩,l!.1 y,Gb.1 (by simpa using z)⟩
 have r:Cf t h.ff=X:=by
  unfold Cf;rw[jP,Bool.not_eq_true',Bool.not_eq_true',l?,l?];refine⟨λn o=>?_,λx q=>?_⟩
  .obtain⟨i,b,d,rfl⟩:=FU o;have:=(m i b d).1.2;simp;omega
  .obtain⟨i,b,d,rfl⟩:=FU q;have:=he i b d;unfold MC at this;split at this
   .cases this
   .simp;omega
 suffices g:∀i:Int,0<=i->i<h.ff.fd.length->∀x∈AD h.jf i,-1000000<=x/\x<=1000000 from⟨hv,go,l!.1 w,λi b d=>(m i b d).1,λi b d=>(m i b d).2.1,g,l!.1 s,r⟩
 intro i b d x q;obtain⟨u,C,B⟩:=m i b d;obtain⟨j,v,D,rfl⟩:=FU q;have:=B j v U;unfold Ui at this;simp[decide_eq_false_iff_not]at this;have:=UE hf (MV hv) u.1 u.2 _ (CL (l:=BG t (AD h.ff.fd i)) v U);omega
end Go.Sf.Sc
namespace Go.Sf.Sc
open Go Go.Sf
def VN(t:AE)(p g:ff)(m:f0)(i:Int):QQ:=
 if AD m.fd i<0\/g.fd.length<=AD m.fd i then some 6 else if lD t (AD g.fd (AD m.fd i)) (AD p.fd i)=T then some 13 else none
def R7(t:AE)(p g:ff)(m:f0):Int:=
 if m.fd.length≠p.fd.length\/m.fq.length≠p.fq.length then 20 else
 match fst (VN t p g m) 0 m.fd.length with
 |some e=>e|none=>(fst (MH p g m) 0 m.fq.length).getD 0
def Pq(t:AE)(p g:ff)(m:f0)(inj:Bool):Int:=
 if JS t p g≠0 then JS t p g else if R7 t p g m≠0 then R7 t p g m else if(inj&&!Pu m)=X then 5 else 0
structure gm(t:AE)(p g:ff)(m:f0):Prop where
 mo:m.fd.length=p.fd.length
 mI:m.fq.length=p.fq.length
 node:∀i:Int,0<=i->i<m.fd.length->(0<=AD m.fd i/\AD m.fd i<g.fd.length)/\lD t (AD g.fd (AD m.fd i)) (AD p.fd i)=X
 edge:∀i:Int,0<=i->i<m.fq.length->0<=AD m.fq i/\AD m.fq i<g.fq.length
end Go.Sf.Sc
namespace Go.Sf.Sc
open Go Go.Sf
section
variable{α σ ρ:Type}
def Up(step:α->σ->Dt σ ρ):List α->σ->σ ⊕ ρ
 |[],s=>.inl s|a::r,s=>match step a s with
  |.next s'=>Up step r s'|.brk s'=>.inl s'|.ret r=>.inr r
end
def PU(x:jm)(l:Fp):Int:=if x.Var<0 then x.Add else Ai (AD l x.Var+x.Add)
def YJ(x:Test)(l:Fp):Bool:=(decide (x.jI=1)&&decide (PU x.jn l<=PU x.jc l))||(decide (x.jI=2)&&decide (PU x.jn l=PU x.jc l))
structure QF(n:Int)(x:jm):Prop where
 low:-1<=x.Var
 high:x.Var<n
 add:-1000000<=x.Add/\x.Add<=1000000
def ZV(l:Fp):Prop:=∀x∈l,-2000000<=x/\x<=2000000
end Go.Sf.Sc
namespace Go.Sf.Sc
open Go Go.Sf
structure ee(t:AE)(q:hV):Prop where
 g:CB q.ff
 kind:∀n∈q.ff.fd,0<=n/\n<t.fd.length
 vars:0<=q.jk/\q.jk<=12
 few:q.jh.length<=10/\q.jJ.length<=10
 slot:∀s∈q.jh,(0<=s.j9/\s.j9<q.ff.fd.length)/\(0<=s.jy/\s.jy<(BG t (AD q.ff.fd s.j9)).length)/\QF q.jk s.jm
 test:∀x∈q.jJ,(x.jI=1\/x.jI=2)/\QF q.jk x.jn/\QF q.jk x.jc
 ge:Bx q.ff=0
 ty:Cf t q.ff=X
def UQ(h:AN)(m:f0)(s:Ci):Int:=AD (AD h.jf (AD m.fd s.j9)) s.jy
def YZ(h:AN)(m:f0)(s:Ci)(st:Fp×a5):Fp×a5:=
 if 0<=s.jm.Var/\AD st.2 s.jm.Var=T then(BX st.1 s.jm.Var (Ai (UQ h m s-s.jm.Add)),BX st.2 s.jm.Var X)else st
def Ya{ρ:Type}(r:ρ)(h:AN)(m:f0)(s:Ci)(st:Fp×a5):Dt (Fp×a5) ρ:=
 if PU s.jm (YZ h m s st).1=UQ h m s then .next (YZ h m s st)else .ret r
structure VI(n:Int)(st:Fp×a5):Prop where
 l1:(st.1.length:Int)=n
 l2:(st.2.length:Int)=n
 small:ZV st.1
structure gq(n:Int)(h:AN)(m:f0)(s:Ci):Prop where
 node:0<=s.j9/\s.j9<m.fd.length
 val:0<=AD m.fd s.j9/\AD m.fd s.j9<h.jf.length
 attr:0<=s.jy/\s.jy<(AD h.jf (AD m.fd s.j9)).length
 term:QF n s.jm
 has:-1000000<=UQ h m s/\UQ h m s<=1000000
def bF(q:hV)(h:AN)(m:f0):Fp×Int:=
 match Up (Ya (([],11):Fp×Int) h m) q.jh (m_ q.jk.toNat 0,m_ q.jk.toNat T)with
 |.inr r=>r|.inl st=>if E4 (λi=>!YJ (AD q.jJ i) st.1) 0 q.jJ.length=X then([],16)else(st.1,0)
def YO(t:AE)(p:hV)(h:AN):Int:=if KX t p≠0 then KX t p else(K6 t h).2
def SA(t:AE)(p:hV)(h:AN)(m:f0):Fp×Int:=
 if YO t p h≠0 then([],YO t p h)else if Pq t p.ff h.ff m T≠0 then([],Pq t p.ff h.ff m T)else bF p h m
end Go.Sf.Sc
namespace Go.Sf.Sc
open Go Go.Sf
def aU(n:Nat)(k:Int):a5:=(Hc n).map λj=>decide (j<k)
def Ye(q:hV)(h:AN)(m:f0)(given:Fp):Fp×Bool:=
 match Up (Ya (([],T):Fp×Bool) h m) q.jh (given++m_ (q.jk-given.length).toNat 0,aU q.jk.toNat given.length)with
 |.inr r=>r|.inl st=>if E4 (λi=>!YJ (AD q.jJ i) st.1) 0 q.jJ.length=X then([],T)else(st.1,X)
def Vl(n:Nat)(by' images:Fp):Fp:=(Hc by'.length).foldl (λl i=>BX l (AD by' i) (AD images i)) (m_ n (-1))
end Go.Sf.Sc
namespace Go.Sf.Sc
open Go Go.Sf
structure iD(f:AW):Prop where
 nl:f.ji.length<=f.p.fd.length
 node:∀i:Int,0<=i->i<f.ji.length->(0<=AD f.ji i/\AD f.ji i<f.g.fd.length)/\AD (AD f.is (AD f.p.fd i)) (AD f.g.fd (AD f.ji i))=X
 edge:∀i:Int,0<=i->i<f.jw.length->(0<=AD f.jw i/\AD f.jw i<f.g.fq.length)/\AD f.g.fq (AD f.jw i)=⟨(AD f.p.fq i).jo,AD f.ji (AD f.p.fq i).jK,AD f.ji (AD f.p.fq i).To⟩
 inj:f.ju=X->f.ji.Nodup/\f.jw.Nodup
structure iB(f:AW)(m:f0):Prop where
 nl:m.fd.length=f.p.fd.length
 el:m.fq.length=f.p.fq.length
 node:∀i:Int,0<=i->i<m.fd.length->(0<=AD m.fd i/\AD m.fd i<f.g.fd.length)/\AD (AD f.is (AD f.p.fd i)) (AD f.g.fd (AD m.fd i))=X
 edge:∀i:Int,0<=i->i<m.fq.length->(0<=AD m.fq i/\AD m.fq i<f.g.fq.length)/\AD f.g.fq (AD m.fq i)=⟨(AD f.p.fq i).jo,AD m.fd (AD f.p.fq i).jK,AD m.fd (AD f.p.fq i).To⟩
 inj:f.ju=X->m.fd.Nodup/\m.fq.Nodup
structure gh(t:AE)(p:hV)(h:AN)(x:AT):Prop where
 q:ee t p
 m:gm t p.ff h.ff x.f0
 len:(x.jk.length:Int)=p.jk
 small:ZV x.jk
structure ed(t:AE)(p:hV)(c:gt):Prop where
 q:ee t c.hV
 vars:p.jk<=c.hV.jk
 map:Ru p.ff c.hV.ff c.Map
 inj:Pu c.Map=X
def K3(t:AE)(c:gt)(h:AN)(m:AT)(inj:Bool):List AT×Int:=
 let x:=gB t c.hV.ff h.ff ⟨Vl c.hV.ff.fd.length c.Map.fd m.f0.fd,Vl c.hV.ff.fq.length c.Map.fq m.f0.fq⟩ inj
 if x.2≠0 then([],x.2)else((x.1.filter λy=>(Ye c.hV h y m.jk).2).map λy=>⟨y,(Ye c.hV h y m.jk).1⟩,0)
instance:Inhabited f0:=⟨⟨[],[]⟩⟩
instance:Inhabited AT:=⟨⟨default,[]⟩⟩
instance:Inhabited A7:=⟨⟨0,default,[]⟩⟩
end Go.Sf.Sc
namespace Go.Sf.Sc
open Go Go.Sf
inductive CV(t:AE):hV->gt->Prop where
 |mk (p:hV) (c:gt) (few:c.jv.length<=40) (rng:1<=c.jI/\c.jI<=5) (one:c.jI=2\/c.jI=5->c.jv.length=1) (ins:c.jI=5->ed t p c) (kids:∀k∈c.jv,CV t (if c.jI=5 then c.hV else p) k):CV t p c
variable{t:AE}{p:hV}{c:gt}
theorem CV.few(h:CV t p c):c.jv.length<=40:=d?
theorem CV.rng(h:CV t p c):1<=c.jI/\c.jI<=5:=d?
theorem CV.one(h:CV t p c):c.jI=2\/c.jI=5->c.jv.length=1:=d?
theorem CV.ins(h:CV t p c):c.jI=5->ed t p c:=d?
theorem CV.kids(h:CV t p c):∀k∈c.jv,CV t (if c.jI=5 then c.hV else p) k:=d?
section
variable{α σ ρ:Type}
end
abbrev zM:AT:=⟨⟨[],[]⟩,[]⟩
abbrev zP:A7:=⟨0,zM,[]⟩
def fG(w:gt->A7×Int)(k:gt)(s:A7×A7):Dt (A7×A7) (A7×Int):=
 if (w k).2≠0 then .ret (zP,(w k).2)else .next (s.1,⟨s.2.kI,s.2.jz,s.2.jv++[(w k).1]⟩)
def fH(w:gt->A7×Int)(l:List gt):A7×Int:=
 match Up (fG w) l (zP,zP)with
 |.inl s=>(s.2,0)|.inr r=>r
def Iz(t:AE)(h:AN)(inj:Bool):Nat->gt->AT->A7×Int
 |0,_,_=>(zP,0)|N+1,c,m=>
  if c.jI=2 then(if(Iz t h inj N (AD c.jv 0) m).2=0 then(zP,10)else if(Iz t h inj N (AD c.jv 0) m).2=10 then(zP,0)else(zP,(Iz t h inj N (AD c.jv 0) m).2))else
  if c.jI=3 then fH (λk=>Iz t h inj N k m) c.jv else
  if c.jI=4 then(fst (λi=>if(Iz t h inj N (AD c.jv i) m).2=0 then some (⟨i,zM,[(Iz t h inj N (AD c.jv i) m).1]⟩,0)else if(Iz t h inj N (AD c.jv i) m).2≠10 then some (zP,(Iz t h inj N (AD c.jv i) m).2)else none) 0 c.jv.length).getD (zP,10)else
  if c.jI=5 then
   (if(K3 t c h m inj).2≠0 then(zP,(K3 t c h m inj).2)else
   (fst (λi=>if(Iz t h inj N (AD c.jv 0) (AD (K3 t c h m inj).1 i)).2=0 then some (⟨0,AD (K3 t c h m inj).1 i,[(Iz t h inj N (AD c.jv 0) (AD (K3 t c h m inj).1 i)).1]⟩,0)else
    if (Iz t h inj N (AD c.jv 0) (AD (K3 t c h m inj).1 i)).2≠10 then some (zP,(Iz t h inj N (AD c.jv 0) (AD (K3 t c h m inj).1 i)).2)else none) 0 (K3 t c h m inj).1.length).getD (zP,10))else
  (zP,0)
end Go.Sf.Sc
namespace Go.Sf.Sc
open Go Go.Sf
end Go.Sf.Sc
namespace Go.Sf.Sc
open Go Go.Sf
noncomputable def ef(t:AE)(p:hV)(c:gt)(h:AN)(m:AT)(inj:Bool):Int:=
 if Rv t p c≠0 then Rv t p c else if(K6 t h).2≠0 then(K6 t h).2 else if Pq t p.ff h.ff m.f0 inj≠0 then Pq t p.ff h.ff m.f0 inj else
 if (SA t p h m.f0).2≠0 then(SA t p h m.f0).2 else if(SA t p h m.f0).1=m.jk then 0 else 11
end Go.Sf.Sc
namespace Go.Sf.Sc
open Go Go.Sf
noncomputable def wS(t:AE)(p:hV)(c:gt)(h:AN)(m:AT)(inj:Bool):A7×Int:=
 if ef t p c h m inj≠0 then(zP,ef t p c h m inj)else Iz t h inj (SizeOf.sizeOf c) c m
noncomputable def gX(t:AE)(p:hV)(c:gt)(h:AN)(m:AT)(inj:Bool):Bool×Int:=
 if (wS t p c h m inj).2=10 then(T,0)else(decide ((wS t p c h m inj).2=0),(wS t p c h m inj).2)
end Go.Sf.Sc
namespace Go.Sf.Sc
open Go Go.Sf
end Go.Sf.Sc
namespace Go.Sf.Sc
open Go Go.Sf
end Go.Sf.Sc
