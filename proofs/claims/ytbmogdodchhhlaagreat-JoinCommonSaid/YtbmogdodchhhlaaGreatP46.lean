/- Plain lemmas: what the functions of the program and of the reference compute. -/
import Derived.Test.YtbmogdodchhhlaaGreatP25
set_option linter.all false
set_option maxRecDepth 100000
namespace Go.Sf.Sc
open Go Go.Sf
variable{k:Int}
theorem M0{b:List ri}(h:Pd b k=0)(d:(AE b k).s7.length<=1000):-1000000<=(AE b k).uk/\(AE b k).tl<=1000000:=by grind[Pd]
variable{t:AB}{i:Int}
theorem TU(h:MD t i=0):∀k,((BS t i).length:Int)-(AE t.ff i).sY.length<=k->k<(BS t i).length->Pd (BS t i) k=0:=by
 unfold MD at h;dsimp only at h;split at h
 .cases h
 split at h
 .cases h
 split at h
 .cases h
 split at h
 .cases h
 exact Pt h
variable{a:Int}
theorem K7{n:Nat}(b:0<=a):CY t (n+1) a=CY t n (par t a)++(AE t.ff a).sY:=by grind[CY]
theorem Pg(hf:IY t)(h:H0 t){Q:ri->Prop}(M0:∀{b:List ri}{k:Int},Pd b k=0->(AE b k).s7.length<=1000->Q (AE b k)):∀(n:Nat)(a:Int),a<t.ff.length->a<n->∀x∈CY t n a,Q x
 |0,_,_,_=>by simp[CY]|n+1,a,f,z=>by
  by_cases g:a<0
  .rw[Ph g];simp
  .have u:=h.par a (by omega) f;intro x d;rw[K7 (by omega)]at d;rcases List.mem_append.1 d with d|d
   .exact Pg hf h M0 n (par t a) (by omega) (by omega) x d
   .obtain⟨j,w,y,rfl⟩:=Ec d;have e:BS t a=CY t a.toNat (par t a)++(AE t.ff a).sY:=by
     unfold BS;rw[show(a+1).toNat=a.toNat+1 by omega,K7 (by omega)]
    have v:(BS t a).length=(CY t a.toNat (par t a)).length+(AE t.ff a).sY.length:=by rw[e,ca]
    have l:=TU (h.node a (by omega) f) ((CY t a.toNat (par t a)).length+j) (by omega) (by omega);have o:AE (BS t a) ((CY t a.toNat (par t a)).length+j)=AE (AE t.ff a).sY j:=by
     grind [Nk,AE]
    have r:=US hf (Int.le_refl _) h.par f (AE (BS t a) ((CY t a.toNat (par t a)).length+j)) (Ci (by omega) (by omega));have:=M0 l (by have:=r.names;omega)
    rwa [o]at this
theorem UU(hf:IY t)(h:H0 t)(d:0<=a)(b:a<t.ff.length):∀x∈BS t a,-1000000<=x.uk/\x.tl<=1000000:=Pg hf h M0 _ a b (by omega)
theorem Ri(e:JP t k):∀(n:Nat)(a b:Int),a<k->a<n->b∈Ws t n a->0<=b/\b<=a/\(BS t b).length<=(CY t n a).length
 |0,_,_,_,_=>by simp[Ws]|n+1,a,b,f,l=>by
  intro d;rw[Ws]at d;split at d
  .cases d
  .rename_i g;have j:=e a (by omega) f;rw[K7 (by omega)];rcases List.mem_cons.1 d with rfl|d
   .refine⟨by omega,by omega,?_⟩;unfold BS;rw[RC e (b+1).toNat (n+1) b f (by omega) (by omega),K7 (by omega)];exact bk _
   .have:=Ri e n (par t a) b (by omega) (by omega) d
    grind
theorem RT(h:H0 t){a b:Int}(g:a<t.ff.length)(d:Sj t a b=true):(BS t b).length<=(BS t a).length:=by
 unfold Sj at d;rw[List.any_eq_true]at d;obtain⟨x,f,e⟩:=d;rw[tI]at e;subst e;by_cases j:a<0
 .have:(a+1).toNat=0:=by omega
  rw [this]at f;cases f
 .exact(Ri h.par (a+1).toNat a b g (by omega) f).2.2
def Xh(t:AB)(k:Int)(v:Fp)(j:Int):Bool:=decide (AE v j<(AE (BS t k) j).uk)||decide ((AE (BS t k) j).tl<AE v j)
def Pw(t:AB)(k:Int)(v:Fp):Int:=
 if (t.ff.length:Int)<=k then 6 else if(AE t.ff k).tf=true then 13 else if¬v.length=(BS t k).length then 20 else
 if Dv (Xh t k v) 0 (BS t k).length=true then 6 else 0
def Pv(t:AB)(g:fq)(i:Int):Int:=
 if (t.gt.length:Int)<=(AE g.gt i).rz then 6 else if SX t g i=false then 13 else 0
def JW(t:AB)(h:AF):Int×Int:=
 if (CE t).2≠0 then(-1,(CE t).2)else if CZ h.fq≠0 then(-1,CZ h.fq)else if¬h.ne.length=h.fq.ff.length then(-1,20)else
 match fst (fun i=>(nz (Pw t (AE h.fq.ff i) (AE h.ne i))).map fun e=>(i,e)) 0 h.fq.ff.length with
 |some r=>r|none=>(fst (fun i=>(nz (Pv t h.fq i)).map fun e=>(i,e)) 0 h.fq.gt.length).getD (-1,0)
theorem RD(hv:(CE t).2=0)(b:0<=k)(d:k<t.ff.length):Nl t k=(BS t k,0):=by grind[Nl,Zv]
structure Mc(t:AB)(h:AF):Prop where
 g:F3 h.fq
 len:h.ne.length=h.fq.ff.length
 kind:∀i:Int,0<=i->i<h.fq.ff.length->0<=AE h.fq.ff i/\AE h.fq.ff i<t.ff.length
 row:∀i:Int,0<=i->i<h.fq.ff.length->(AE h.ne i).length=(BS t (AE h.fq.ff i)).length
 low:∀i:Int,0<=i->i<h.fq.ff.length->∀x∈AE h.ne i,-1000000<=x/\x<=1000000
 ge:CZ h.fq=0
 ty:Ed t h.fq=true
variable{h:AF}
theorem Qd(hf:IY t)(e:(JW t h).2=0):(CE t).2=0/\Mc t h:=by
 unfold JW at e;split at e
 .rename_i o;exact absurd e o
 split at e
 .rename_i o;exact absurd e o
 split at e
 .cases e
 rename_i o B E;have hv:=Classical.not_not.1 o;have go:=I6 (Classical.not_not.1 B);have v:∀i:Int,0<=i->i<h.fq.ff.length->Pw t (AE h.fq.ff i) (AE h.ne i)=0:=by
  split at e
  .rename_i r f;obtain⟨i,_,_,k,_⟩:=EX f;unfold nz at k;split at k
   .cases k
   .rename_i g;cases k;exact absurd e g
  .rename_i f;exact fun i b d=>Oa.1 (NE.1 (Cu.1 f i b d))
 have w:∀i:Int,0<=i->i<h.fq.ff.length->(0<=AE h.fq.ff i/\AE h.fq.ff i<t.ff.length)/\(AE h.ne i).length=(BS t (AE h.fq.ff i)).length/\∀j:Int,0<=j->j<(BS t (AE h.fq.ff i)).length->Xh t (AE h.fq.ff i) (AE h.ne i) j=false:=by
  intro i b d;have H:=(go.kind _ (Ci b d)).1;have:=v i b d;unfold Pw at this;split at this
  .cases this
  split at this
  .cases this
  split at this
  .cases this
  split at this
  .cases this
  rename_i a1 J F G;exact⟨⟨H,by omega⟩,Classical.not_not.1 F,Ef.1 (by simpa using G)⟩
 have he:∀i:Int,0<=i->i<h.fq.gt.length->Pv t h.fq i=0:=by
  have z:fst (fun i=>(nz (Pw t (AE h.fq.ff i) (AE h.ne i))).map fun e=>(i,e)) 0 h.fq.ff.length=none:=Cu.2 fun i b d=>by rw[v i b d];rfl
  rw [z]at e;dsimp only at e;cases f:fst (fun i=>(nz (Pv t h.fq i)).map fun e=>(i,e)) 0 h.fq.gt.length with
  |some r=>
   rw [f]at e;obtain⟨i,_,_,k,_⟩:=EX f;unfold nz at k;split at k
   .cases k
   .rename_i g;cases k;exact absurd e g
  |none=>exact fun i b d=>Oa.1 (NE.1 (Cu.1 f i b d))
 have A:Ed t h.fq=true:=by
  unfold Ed;rw[sc,Bool.not_eq_true',Bool.not_eq_true',List.any_eq_false,List.any_eq_false];refine⟨fun n v=>?_,fun x y=>?_⟩
  .obtain⟨i,b,d,rfl⟩:=Ec v;have:=(w i b d).1.2;simp;omega
  .obtain⟨i,b,d,rfl⟩:=Ec y;have:=he i b d;unfold Pv at this;split at this
   .cases this
   .simp;omega
 suffices u:∀i:Int,0<=i->i<h.fq.ff.length->∀x∈AE h.ne i,-1000000<=x/\x<=1000000 from⟨hv,go,Classical.not_not.1 E,fun i b d=>(w i b d).1,fun i b d=>(w i b d).2.1,u,Classical.not_not.1 B,A⟩
 intro i b d x y;obtain⟨C,K,I⟩:=w i b d;obtain⟨j,D,L,rfl⟩:=Ec y;have:=I j D (by omega);unfold Xh at this;simp[decide_eq_false_iff_not]at this;have:=UU hf (Oj hv) C.1 C.2 _ (Ci (l:=BS t (AE h.fq.ff i)) D (by omega));omega
end Go.Sf.Sc
namespace Go.Sf.Sc
open Go Go.Sf
def Pj(t:AB)(p g:fq)(m:hT)(i:Int):QQ:=
 if AE m.ff i<0\/g.ff.length<=AE m.ff i then some 6 else if Sj t (AE g.ff (AE m.ff i)) (AE p.ff i)=false then some 13 else none
def SC(t:AB)(p g:fq)(m:hT):Int:=
 if m.ff.length≠p.ff.length\/m.gt.length≠p.gt.length then 20 else
 match fst (Pj t p g m) 0 m.ff.length with
 |some e=>e|none=>(fst (Mm p g m) 0 m.gt.length).getD 0
def M2(t:AB)(p g:fq)(m:hT)(inj:Bool):Int:=
 if La t p g≠0 then La t p g else if SC t p g m≠0 then SC t p g m else if(inj&&!Qe m)=true then 5 else 0
structure Yt(t:AB)(p g:fq)(m:hT):Prop where
 uX:m.ff.length=p.ff.length
 vP:m.gt.length=p.gt.length
 node:∀i:Int,0<=i->i<m.ff.length->(0<=AE m.ff i/\AE m.ff i<g.ff.length)/\Sj t (AE g.ff (AE m.ff i)) (AE p.ff i)=true
 edge:∀i:Int,0<=i->i<m.gt.length->0<=AE m.gt i/\AE m.gt i<g.gt.length
variable{t:AB}{m:hT}
theorem aR{p g:fq}(h:SC t p g m=0):Yt t p g m:=by
 unfold SC at h;split at h
 .cases h
 rename_i f;have e:fst (Pj t p g m) 0 m.ff.length=none:=by
  grind [EX,Pj]
 rw [e]at h;have he:=L9 (fun i=>by
  grind [Mm]) h
 refine ⟨by omega,by omega,fun i b d=>?_,fun i b d=>?_⟩
 .grind[Cu,Pj]
 grind [Mm]
variable{inj:Bool}
theorem bh{p g:fq}(h:M2 t p g m inj=0):La t p g=0/\Yt t p g m:=by grind[M2,aR]
end Go.Sf.Sc
namespace Go.Sf.Sc
open Go Go.Sf
section
variable{α σ ρ:Type}
def Ma(step:α->σ->C9 σ ρ):List α->σ->σ ⊕ ρ
 |[],s=>.inl s|a::r,s=>match step a s with
  |.next s'=>Ma step r s'|.brk s'=>.inl s'|.ret r=>.inr r
theorem S7[Inhabited α](step:α->σ->C9 σ ρ)(I:σ->Prop):∀(l:List α)(s b:σ),I s->(∀a∈l,∀s b,I s->step a s=.next b->I b)->(∀a∈l,∀s b,step a s≠.brk b)->Ma step l s=.inl b->I b
 |[],s,b,h,_,_,e=>by cases e;exact h
 |a::r,s,b,h,g,o,e=>by
  rw [Ma]at e;split at e
  .rename_i f j;exact S7 step I r f b (g a (by simp) s f h j) (fun a d=>g a (by simp[d])) (fun a d=>o a (by simp[d])) e
  .grind
  .cases e
end
def Oi(x:rg)(l:Fp):Int:=if x.Var<0 then x.Add else Az (AE l x.Var+x.Add)
def Y3(x:Test)(l:Fp):Bool:=(decide (x.rt=1)&&decide (Oi x.rh l<=Oi x.o3 l))||(decide (x.rt=2)&&decide (Oi x.rh l=Oi x.o3 l))
structure LY(n:Int)(x:rg):Prop where
 low:-1<=x.Var
 high:x.Var<n
 add:-1000000<=x.Add/\x.Add<=1000000
def UN(l:Fp):Prop:=∀x∈l,-2000000<=x/\x<=2000000
end Go.Sf.Sc
namespace Go.Sf.Sc
open Go Go.Sf
structure Tj(t:AB)(q:j0):Prop where
 g:F3 q.fq
 kind:∀n∈q.fq.ff,0<=n/\n<t.ff.length
 vars:0<=q.q0/\q.q0<=12
 few:q.pq.length<=10/\q.r8.length<=10
 slot:∀s∈q.pq,(0<=s.sr/\s.sr<q.fq.ff.length)/\(0<=s.ri/\s.ri<(BS t (AE q.fq.ff s.sr)).length)/\LY q.q0 s.rg
 test:∀x∈q.r8,(x.rt=1\/x.rt=2)/\LY q.q0 x.rh/\LY q.q0 x.o3
 ge:CZ q.fq=0
 ty:Ed t q.fq=true
variable{n:Int}
theorem Yk{x:rg}(h:SF n x=true):LY n x:=by
 unfold SF at h;simp[tI]at h;exact⟨h.1.1.1,h.1.1.2,h.1.2,h.2⟩
theorem Yl{l:List Test}(h:Mu n l=0):∀x∈l,(x.rt=1\/x.rt=2)/\LY n x.rh/\LY n x.o3:=by
 unfold Mu at h;split at h
 .cases h
 split at h
 .cases h
 have e:=Pt h;intro x b;obtain⟨i,f,g,rfl⟩:=Ec b;have:=e i f g;unfold SG at this;split at this
 .cases this
 split at this
 .rename_i j d;rw[sc]at d
  grind [Yk]
 .cases this
theorem VV(n:Int)(l:List Test):Mu n l≠9:=by
 unfold Mu;split
 .decide
 split
 .decide
 intro h;cases b:fst (fun i=>nz (SG n (AE l i))) 0 l.length with
 |none=>rw[b]at h;cases h
 |some r=>
  grind [EX,nz,SG]
variable{t:AB}{q:j0}
theorem cY(hv:(CE t).2=0)(h:Je t q=0\/Je t q=9):Tj t q:=by
 have u:=Uj q.fq;unfold Je at h;rw[az (by simp[hv])]at h;split at h
 .omega
 rename_i f;have g:=I6 (Classical.not_not.1 f);split at h
 .omega
 rename_i d;split at h
 .omega
 rename_i w;split at h
 .omega
 rename_i x;split at h
 .omega
 rename_i y;split at h
 .grind[VV]
 rename_i r;refine⟨g,(I4 g (by simpa using d)).1,by omega,by omega,fun s v=>?_,Yl (Classical.not_not.1 r),Classical.not_not.1 f,by simpa using d⟩;have e:XG t q s=false:=by
  grind
 unfold XG at e;simp[Bool.not_eq_false',decide_eq_false_iff_not]at e;obtain⟨⟨⟨b,A⟩,B⟩,C,D⟩:=e;unfold Yw at b;dsimp only at b;split at b
 .cases b
 rename_i z;have o:=(I4 g (by simpa using d)).1 _ (Ci (l:=q.fq.ff) (show 0<=s.sr by omega) (by omega));rw[RD hv o.1 o.2]at b;split at b
 .cases b
 rename_i j;have j:¬(s.ri<0\/((BS t (AE q.fq.ff s.sr)).length:Int)<=s.ri):=j;exact⟨by omega,by omega,by omega,by omega,by omega,by omega⟩
def Sh(h:AF)(m:hT)(s:Bw):Int:=AE (AE h.ne (AE m.ff s.sr)) s.ri
def SE(h:AF)(m:hT)(s:Bw)(st:Fp×a5):Fp×a5:=
 if 0<=s.rg.Var/\AE st.2 s.rg.Var=false then(Bg st.1 s.rg.Var (Az (Sh h m s-s.rg.Add)),Bg st.2 s.rg.Var true)else st
def Jt{ρ:Type}(r:ρ)(h:AF)(m:hT)(s:Bw)(st:Fp×a5):C9 (Fp×a5) ρ:=
 if Oi s.rg (SE h m s st).1=Sh h m s then .next (SE h m s st)else .ret r
structure VI(n:Int)(st:Fp×a5):Prop where
 l1:(st.1.length:Int)=n
 l2:(st.2.length:Int)=n
 small:UN st.1
structure Md(n:Int)(h:AF)(m:hT)(s:Bw):Prop where
 node:0<=s.sr/\s.sr<m.ff.length
 val:0<=AE m.ff s.sr/\AE m.ff s.sr<h.ne.length
 attr:0<=s.ri/\s.ri<(AE h.ne (AE m.ff s.sr)).length
 term:LY n s.rg
 has:-1000000<=Sh h m s/\Sh h m s<=1000000
variable{h:AF}{m:hT}{s:Bw}
theorem aS(e:H0 t)(f:Tj t q)(hh:Mc t h)(d:Yt t q.fq h.fq m)(g:s∈q.pq):Md q.q0 h m s:=by
 obtain ⟨l,o,r⟩:=f.slot s g;have u:=d.uX;have b:=d.node s.sr l.1 (by omega);have v:=hh.row _ b.1.1 b.1.2;have j:=hh.kind _ b.1.1 b.1.2;have w:=RT e j.2 b.2;have hv:=hh.len;refine⟨by omega,by omega,by omega,r,?_⟩;unfold Sh;exact hh.low _ b.1.1 b.1.2 _ (Ci o.1 (by omega))
theorem S8{α:Type}(l:List α)(i:Int)(a:α):(Bg l i a).length=l.length:=by unfold Bg;rw[List.length_set]
variable{i:Int}
theorem X4{α:Type}{l:List α}{a x:α}(h:x∈Bg l i a):x∈l\/x=a:=List.mem_or_eq_of_mem_set h
variable{st:Fp×a5}
theorem WU(d:Md n h m s)(hi:VI n st):VI n (SE h m s st):=by
 have e:=d.has;have f:=d.term.add;unfold SE;split
 .refine⟨by rw[S8];exact hi.l1,by rw[S8];exact hi.l2,fun x b=>?_⟩;rcases X4 b with b|rfl
  .exact hi.small x b
  grind [QT]
 .exact hi
def ON(q:j0)(h:AF)(m:hT):Fp×Int:=
 match Ma (Jt (([],11):Fp×Int) h m) q.pq (List.replicate q.q0.toNat 0,List.replicate q.q0.toNat false)with
 |.inr r=>r|.inl st=>if Dv (fun i=>!Y3 (AE q.r8 i) st.1) 0 q.r8.length=true then([],16)else(st.1,0)
theorem aZ(b:0<=n):VI n (List.replicate n.toNat 0,List.replicate n.toNat false):=by
 refine ⟨by simp;omega,by simp;omega,fun x d=>?_⟩
 grind
variable{st':Fp×a5}
theorem WW{ρ:Type}{r:ρ}(b:Md n h m s)(hi:VI n st)(e:Jt r h m s st=.next st'):VI n st':=by grind[Jt,WU]
theorem WV{ρ:Type}{r:ρ}:Jt r h m s st≠.brk st':=by grind[Jt]
theorem Xt{ρ:Type}{r:ρ}{l:List Bw}(b:∀s∈l,Md n h m s)(hi:VI n st)(e:Ma (Jt r h m) l st=.inl st'):VI n st':=
 S7 (Jt r h m) (VI n) l st st' hi (fun a d _ _ f g=>WW (b a d) f g) (fun _ _ _ _=>WV) e
def Y9(t:AB)(p:j0)(h:AF):Int:=if Je t p≠0 then Je t p else(JW t h).2
def KZ(t:AB)(p:j0)(h:AF)(m:hT):Fp×Int:=
 if Y9 t p h≠0 then([],Y9 t p h)else if M2 t p.fq h.fq m false≠0 then([],M2 t p.fq h.fq m false)else ON p h m
theorem WX(d:Tj t q)(f:∀s∈q.pq,Md q.q0 h m s)(e:(ON q h m).2=0):((ON q h m).1.length:Int)=q.q0/\UN (ON q h m).1:=by
 unfold ON at e|-;cases b:Ma (Jt (([],11):Fp×Int) h m) q.pq (List.replicate q.q0.toNat 0,List.replicate q.q0.toNat false)with
 |inr r=>
  rw [b]at e;have:∀(l:List Bw)(st:Fp×a5)(r:Fp×Int),Ma (Jt (([],11):Fp×Int) h m) l st=.inr r->r=([],11):=by
   intro l
   induction l with
   |nil=>intro st r h;cases h
   |cons a l j=>
    grind [Ma,Jt]
  grind
 |inl st=>
  rw [b]at e;have hi:=Xt f (aZ d.vars.1) b;dsimp only at e|-;split at e
  .cases e
  .rename_i g;rw[az g];exact⟨hi.l1,hi.small⟩
end Go.Sf.Sc
namespace Go.Sf.Sc
open Go Go.Sf
def cJ(n:Nat)(k:Int):a5:=(K0 n).map fun j=>decide (j<k)
def ZQ(q:j0)(h:AF)(m:hT)(given:Fp):Fp×Bool:=
 match Ma (Jt (([],false):Fp×Bool) h m) q.pq (given++List.replicate (q.q0-given.length).toNat 0,cJ q.q0.toNat given.length)with
 |.inr r=>r|.inl st=>if Dv (fun i=>!Y3 (AE q.r8 i) st.1) 0 q.r8.length=true then([],false)else(st.1,true)
def V8(n:Nat)(by' rk:Fp):Fp:=(K0 by'.length).foldl (fun l i=>Bg l (AE by' i) (AE rk i)) (List.replicate n (-1))
end Go.Sf.Sc
namespace Go.Sf.Sc
open Go Go.Sf
structure kA(f:AV):Prop where
 nl:f.rf.length<=f.p.ff.length
 node:∀i:Int,0<=i->i<f.rf.length->(0<=AE f.rf i/\AE f.rf i<f.g.ff.length)/\AE (AE f.is (AE f.p.ff i)) (AE f.g.ff (AE f.rf i))=true
 edge:∀i:Int,0<=i->i<f.rr.length->(0<=AE f.rr i/\AE f.rr i<f.g.gt.length)/\AE f.g.gt (AE f.rr i)=⟨(AE f.p.gt i).rz,AE f.rf (AE f.p.gt i).r9,AE f.rf (AE f.p.gt i).To⟩
 inj:f.kq=true->f.rf.Nodup/\f.rr.Nodup
structure j9(f:AV)(m:hT):Prop where
 nl:m.ff.length=f.p.ff.length
 el:m.gt.length=f.p.gt.length
 node:∀i:Int,0<=i->i<m.ff.length->(0<=AE m.ff i/\AE m.ff i<f.g.ff.length)/\AE (AE f.is (AE f.p.ff i)) (AE f.g.ff (AE m.ff i))=true
 edge:∀i:Int,0<=i->i<m.gt.length->(0<=AE m.gt i/\AE m.gt i<f.g.gt.length)/\AE f.g.gt (AE m.gt i)=⟨(AE f.p.gt i).rz,AE m.ff (AE f.p.gt i).r9,AE m.ff (AE f.p.gt i).To⟩
 inj:f.kq=true->m.ff.Nodup/\m.gt.Nodup
structure iS(t:AB)(p:j0)(h:AF)(x:AM):Prop where
 q:Tj t p
 m:Yt t p.fq h.fq x.hT
 len:(x.q0.length:Int)=p.q0
 small:UN x.q0
structure iV(t:AB)(p:j0)(c:hV):Prop where
 q:Tj t c.j0
 vars:p.q0<=c.j0.q0
 map:Ry p.fq c.j0.fq c.Map
 inj:Qe c.Map=true
def L6(t:AB)(c:hV)(h:AF)(m:AM)(inj:Bool):List AM×Int:=
 let x:=jO t c.j0.fq h.fq ⟨V8 c.j0.fq.ff.length c.Map.ff m.hT.ff,V8 c.j0.fq.gt.length c.Map.gt m.hT.gt⟩ inj
 if x.2≠0 then([],x.2)else((x.1.filter fun y=>(ZQ c.j0 h y m.q0).2).map fun y=>⟨y,(ZQ c.j0 h y m.q0).1⟩,0)
instance:Inhabited hT:=⟨⟨[],[]⟩⟩
instance:Inhabited AM:=⟨⟨default,[]⟩⟩
instance:Inhabited BE:=⟨⟨0,default,[]⟩⟩
end Go.Sf.Sc
namespace Go.Sf.Sc
open Go Go.Sf
inductive CV(t:AB):j0->hV->Prop where
 |mk (p:j0) (c:hV) (few:c.rq.length<=40) (rng:1<=c.rt/\c.rt<=5) (one:c.rt=2\/c.rt=5->c.rq.length=1) (ins:c.rt=5->iV t p c) (kids:∀k∈c.rq,CV t (if c.rt=5 then c.j0 else p) k):CV t p c
variable{t:AB}{p:j0}{c:hV}
theorem CV.few(h:CV t p c):c.rq.length<=40:=by cases h;assumption
theorem CV.rng(h:CV t p c):1<=c.rt/\c.rt<=5:=by cases h;assumption
theorem CV.one(h:CV t p c):c.rt=2\/c.rt=5->c.rq.length=1:=by cases h;assumption
theorem CV.ins(h:CV t p c):c.rt=5->iV t p c:=by cases h;assumption
theorem CV.kids(h:CV t p c):∀k∈c.rq,CV t (if c.rt=5 then c.j0 else p) k:=by cases h;assumption
theorem RG:∀l:List hV,l.length<=O7 l
 |[]=>by simp|c::l=>by
  have:=RG l
  grind [O7,Fo,Vn,ec]
variable{q:j0}
theorem fa{v:Int}(hv:(CE t).2=0)(h:Um t q v=0):Tj t q:=by grind[Um,cY]
theorem Yz(hv:(CE t).2=0):∀(N:Nat)(c:hV)(p:j0),SizeOf.sizeOf c<=N->Fo c<=40->ZR N c=true->Oe N t p c=0->CV t p c
 |0,c,_,h,_,_,_=>by have:=WT c;omega|N+1,c,p,h,H,u,ho=>by
  have z:=Vn c;have A:=RG c.rq;rw[ZR,sc]at u;obtain⟨l,g⟩:=u;have b:c.rt=2\/c.rt=5->c.rq.length=1:=by
   intro f;unfold Uk at l
   grind
  have d:1<=c.rt/\c.rt<=5:=by
   grind [Uk]
  have o:∀q,(fst (fun i=>nz (Oe N t q (AE c.rq i))) 0 c.rq.length).getD 0=0->∀k∈c.rq,CV t q k:=by
   intro q v k f;have B:=Pt v;have F:=SS f;have G:=X6 f;rw[List.all_eq_true]at g;obtain⟨i,C,D,e⟩:=Ec f;have r:=B i C D;rw[e]at r;exact Yz hv N k q (by omega) (by omega) (g k f) r
  rw [Oe]at ho;by_cases j:c.rt=5
  .rw[ae j]at ho;split at ho
   .cases ho
   rename_i E;split at ho
   .grind
   rename_i w;split at ho
   .grind
   rename_i x;split at ho
   .cases ho
   rename_i y;refine CV.mk p c (by omega) d b (fun _=>⟨fa hv (Classical.not_not.1 w),by omega,Ut (Classical.not_not.1 x),by simpa using y⟩) ?_
   grind
  .rw[az j]at ho;refine CV.mk p c (by omega) d b (fun e=>absurd e j) ?_
   grind
section
variable{α σ ρ:Type}
end
abbrev zM:AM:=⟨⟨[],[]⟩,[]⟩
abbrev zP:BE:=⟨0,zM,[]⟩
def iv(w:hV->BE×Int)(k:hV)(s:BE×BE):C9 (BE×BE) (BE×Int):=
 if (w k).2≠0 then .ret (zP,(w k).2)else .next (s.1,⟨s.2.ta,s.2.ru,s.2.rq++[(w k).1]⟩)
def iw(w:hV->BE×Int)(l:List hV):BE×Int:=
 match Ma (iv w) l (zP,zP)with
 |.inl s=>(s.2,0)|.inr r=>r
def KH(t:AB)(h:AF)(inj:Bool):Nat->hV->AM->BE×Int
 |0,_,_=>(zP,0)|N+1,c,m=>
  if c.rt=2 then(if(KH t h inj N (AE c.rq 0) m).2=0 then(zP,10)else if(KH t h inj N (AE c.rq 0) m).2=10 then(zP,0)else(zP,(KH t h inj N (AE c.rq 0) m).2))else
  if c.rt=3 then iw (fun k=>KH t h inj N k m) c.rq else
  if c.rt=4 then(fst (fun i=>if(KH t h inj N (AE c.rq i) m).2=0 then some (⟨i,zM,[(KH t h inj N (AE c.rq i) m).1]⟩,0)else if(KH t h inj N (AE c.rq i) m).2≠10 then some (zP,(KH t h inj N (AE c.rq i) m).2)else none) 0 c.rq.length).getD (zP,10)else
  if c.rt=5 then
   (if(L6 t c h m inj).2≠0 then(zP,(L6 t c h m inj).2)else
   (fst (fun i=>if(KH t h inj N (AE c.rq 0) (AE (L6 t c h m inj).1 i)).2=0 then some (⟨0,AE (L6 t c h m inj).1 i,[(KH t h inj N (AE c.rq 0) (AE (L6 t c h m inj).1 i)).1]⟩,0)else
    if (KH t h inj N (AE c.rq 0) (AE (L6 t c h m inj).1 i)).2≠10 then some (zP,(KH t h inj N (AE c.rq 0) (AE (L6 t c h m inj).1 i)).2)else none) 0 (L6 t c h m inj).1.length).getD (zP,10))else
  (zP,0)
end Go.Sf.Sc
namespace Go.Sf.Sc
open Go Go.Sf
end Go.Sf.Sc
namespace Go.Sf.Sc
open Go Go.Sf
noncomputable def Tp(t:AB)(p:j0)(c:hV)(h:AF)(m:AM)(inj:Bool):Int:=
 if Pn t p c≠0 then Pn t p c else if(JW t h).2≠0 then(JW t h).2 else if M2 t p.fq h.fq m.hT inj≠0 then M2 t p.fq h.fq m.hT inj else
 if (KZ t p h m.hT).2≠0 then(KZ t p h m.hT).2 else if(KZ t p h m.hT).1=m.q0 then 0 else 11
variable{t:AB}{p:j0}{c:hV}{h:AF}{inj:Bool}
theorem fL(hf:IY t)(u:Fo c<=40){m:AM}(e:Tp t p c h m inj=0):(CE t).2=0/\Mc t h/\CV t p c/\iS t p h m:=by
 unfold Tp at e;split at e
 .grind
 rename_i b;split at e
 .grind
 rename_i f;split at e
 .grind
 rename_i g;split at e
 .grind
 rename_i j;split at e
 case isFalse=>cases e
 rename_i x;have b:=Classical.not_not.1 b;have f:=Classical.not_not.1 f;have g:=Classical.not_not.1 g;have j:=Classical.not_not.1 j;obtain⟨hv,hh⟩:=Qd hf f;have o:=(bh g).2;unfold Pn at b;split at b
 .grind
 rename_i v;split at b
 .grind
 rename_i l;have r:=cY hv (.inl (Classical.not_not.1 v));have l:=Classical.not_not.1 l;have w:ij c=true:=by
  grind [S9]
 suffices d:(m.q0.length:Int)=p.q0/\UN m.q0 from⟨hv,hh,Yz hv _ c p (bk _) u w b,r,o,d.1,d.2⟩
 have d:∀s∈p.pq,Md p.q0 h m.hT s:=fun s d=>aS (Oj hv) r hh o d
 grind [KZ,WX]
end Go.Sf.Sc
namespace Go.Sf.Sc
open Go Go.Sf
noncomputable def wS(t:AB)(p:j0)(c:hV)(h:AF)(m:AM)(inj:Bool):BE×Int:=
 if Tp t p c h m inj≠0 then(zP,Tp t p c h m inj)else KH t h inj (SizeOf.sizeOf c) c m
noncomputable def VE(t:AB)(p:j0)(c:hV)(h:AF)(m:AM)(inj:Bool):Bool×Int:=
 if (wS t p c h m inj).2=10 then(false,0)else(decide ((wS t p c h m inj).2=0),(wS t p c h m inj).2)
end Go.Sf.Sc
namespace Go.Sf.Sc
open Go Go.Sf
end Go.Sf.Sc
namespace Go.Sf.Sc
open Go Go.Sf
end Go.Sf.Sc
