/- Two operations of a region that may change places. -/
import Derived.Test.YtlbmpkmkmkgniaaGreatDoorSfFrame
namespace Go.Sf
open Go.RowKit (Below)
theorem AC.noRef_cons (d k:Nat) (e:EV) (env:AC):AC.noRef d ((k,e)::env)=(e.noR d&&AC.noRef d env):=rfl
theorem UT {d:Nat} {e:EV} (h:∀ s,e.ref=some s->s≠d):e.noR d=true:=by
 unfold EV.noR
 split
 ·rename_i s hs; simpa using fun e=>h s hs e.symm
 ·rfl
theorem B3.noRef (f:B3) (env:AC) (d:Nat):AC.noRef d (f.app env)=AC.noRef d env:=by
 cases f with
 | none=>rfl
 | slot s t=>simp [B3.app,AC.noRef_cons,EV.noR,EV.ref]
 | cell s off t=>
  simp only [B3.app]
  split
  ·simp [AC.noRef_cons,EV.noR,EV.ref]
  ·rfl
def B3.on (f:B3) (n:Nat) (e:EV):EV:=
 match f with
 | .none=>e
 | .slot s t=>if s=n then .tv t else e
 | .cell s off t=>if s=n then (match e with | .bx cs=>.bx (cs.set off ⟨false,t⟩) | e=>e) else e
theorem B3.get (f:B3) (env:AC) (n:Nat):AC.get (f.app env) n=f.on n (env.get n):=by
 cases f with
 | none=>rfl
 | slot s t=>simp only [B3.app,AC.get_cons,B3.on]
 | cell s off t=>
  simp only [B3.app,B3.on]
  cases he:env.get s with
  | bx cs=>
   simp only [AC.get_cons]
   split
   ·rename_i e; subst e; rw [he]
   ·rfl
  | _=>
   simp only
   split
   ·rename_i e; subst e; rw [he]
   ·rfl
def MJ (env env2:AC):Prop:=(∀ n,env.get n=env2.get n)∧∀ d,env.noRef d=env2.noRef d
theorem MJ.refl (env:AC):MJ env env:=⟨fun _=>rfl,fun _=>rfl⟩
theorem MJ.trans {a b c:AC} (h:MJ a b) (h':MJ b c):MJ a c:=⟨fun n=>(h.1 n).trans (h'.1 n),fun d=>(h.2 d).trans (h'.2 d)⟩
theorem MJ.symm {a b:AC} (h:MJ a b):MJ b a:=⟨fun n=>(h.1 n).symm,fun d=>(h.2 d).symm⟩
theorem C2.congr {F0:Nat->Nat->Prop} {w0:W0} {env env2:AC} {a:Act} {w:World} (h:C2 F0 w0 env a w) (he:∀ n,env.get n=env2.get n):C2 F0 w0 env2 a w:=by
 obtain ⟨G,h⟩:=h
 refine ⟨G,h.uniq,h.lt,h.below,h.defers,fun q hq=>?_,fun q hq=>?_,fun q=>?_⟩
 ·rw [←he]; exact h.dom q hq
 ·rw [←he]
  refine AS.kept (ON _ _) (fun _=>rfl) (fun _ _ _ _=>rfl) (fun r off hr ⟨cs,hcs⟩=>⟨⟨cs,by rw [he]; exact hcs⟩,rfl⟩) (fun r i hr ⟨p,hp⟩=>⟨⟨p,(AC.xat_of (he r)).trans hp⟩,fun _ hv=>hv⟩) (h.slots q hq)
 ·rw [←he]; exact h.wf q
def JC (S:FuncId->List TV->CH->Prop) (K:AC->Prop):List PR->AC->Prop
 | [],env=>∃ e,MJ e env∧K e
 | r::rs,env=>∃ e,MJ e env∧r.wp S e (JC S K rs)
section
variable {S:FuncId->List TV->CH->Prop} {K:AC->Prop}
theorem MQ {rs:List PR} {env env2:AC} (h:JC S K rs env) (he:MJ env env2):JC S K rs env2:=by
 cases rs with
 | nil=>obtain ⟨e,h1,h2⟩:=h; exact ⟨e,h1.trans he,h2⟩
 | cons r rs=>obtain ⟨e,h1,h2⟩:=h; exact ⟨e,h1.trans he,h2⟩
theorem Yu:∀ {rs:List PR} {env:AC},wpOps S K rs env->JC S K rs env
 | [],env,h=>⟨env,.refl _,h⟩
 | r::rs,env,h=>⟨env,.refl _,PR.wp_mono S env (fun e he=>Yu he) r h⟩
def PR.gsl (r:PR):List Nat:=
 match r.guard with
 | some (g,_)=>[g]
 | none=>[]
structure Qq (S:FuncId->List TV->CH->Prop) (r:PR) (d:Nat) (env env1:AC) (e:EV) (f:B3):Prop where
 env1:env1=(d,e)::f.app env
 ok:f.ok env
 slot:∀ s t,f=.slot s t->s∈r.op.dem
 cell:∀ s off t,f=.cell s off t->(s∈r.op.slots∨∃ x∈r.op.slots,(env.get x).ref=some s)
 ref:∀ s,e.ref=some s->(s∈r.op.bads∨∃ x∈r.op.slots,(env.get x).ref=some s)
 new:r.op.isNew=true->e.ref=none∧env.noRef d=true
 xl:∀ s off t,f=.cell s off t->t.isXl=false
 again:∀ env2,FZ r.op f (some d) env env2->(∀ g∈r.gsl,env2.get g=env.get g)->∀ K2:AC->Prop,K2 ((d,e)::f.app env2)->r.wp S env2 K2
theorem N9 {r:PR} {d:Nat} {env:AC} (hd:r.dst=some d) (hm:r.op.mov=true) (hg:r.op.isNew=true->r.guard=none) (h:r.wp S env K):r.wp S env fun env1=>K env1∧∃ e f,Qq S r d env env1 e f:=by
 have run:∀ (hrun:∀ env2,(∀ g∈r.gsl,env2.get g=env.get g)->∀ K2:AC->Prop,(r.op.wp S env2 (some d) fun e env'=>K2 (env'.put (some d) e))->r.wp S env2 K2),(r.op.wp S env (some d) fun e env'=>K (env'.put (some d) e))->r.op.wp S env (some d) fun e env'=>K (env'.put (some d) e)∧∃ e' f,Qq S r d env (env'.put (some d) e) e' f:=by
  intro hrun hw
  refine AH.wp_mono S env (some d) (fun e env' he=>?_) r.op (frame hm hw)
  obtain ⟨h1,f,h2⟩:=he
  refine ⟨h1,e,f,?_,h2.ok,h2.slot,h2.cell,h2.ref,fun hn=>⟨(h2.new hn).1,(h2.new hn).2 d rfl⟩,h2.xl,fun env2 hl hgs K2 hK2=>?_⟩
  ·simp only [AC.put]; rw [h2.env']
  ·exact hrun env2 hgs K2 (h2.again env2 hl _ hK2)
 unfold PR.wp at h ⊢
 cases hrg:r.guard with
 | none=>
  rw [hrg] at h
  rw [hd] at h ⊢
  refine run (fun env2 _ K2 hK2=>?_) h
  unfold PR.wp
  rw [hrg,hd]
  exact hK2
 | some gb=>
  obtain ⟨g,b⟩:=gb
  rw [hrg] at h
  rw [hd] at h ⊢
  simp only at h ⊢
  have hgs:g∈r.gsl:=by simp [PR.gsl,hrg]
  split at h
  ·rename_i q hq
   refine ⟨fun hb=>run (fun env2 h2 K2 hK2=>?_) (h.1 hb),fun hb=>⟨h.2 hb,.sk,.none,rfl,trivial,by simp,by simp,(fun s he=>by cases he),fun hn=>?_,by simp,fun env2 _ h2 K2 hK2=>?_⟩⟩
   ·unfold PR.wp
    rw [hrg,hd]
    simp only
    rw [h2 g hgs,hq]
    exact ⟨fun _=>hK2,fun hb'=>by subst hb; cases q <;> simp at hb'⟩
   ·rw [hg hn] at hrg; cases hrg
   ·unfold PR.wp
    rw [hrg,hd]
    simp only
    rw [h2 g hgs,hq]
    exact ⟨fun hb'=>by subst hb'; cases q <;> simp at hb,fun _=>hK2⟩
  ·rename_i hq
   refine ⟨h,.sk,.none,rfl,trivial,by simp,by simp,(fun s he=>by cases he),fun hn=>?_,by simp,fun env2 _ h2 K2 hK2=>?_⟩
   ·rw [hg hn] at hrg; cases hrg
   ·unfold PR.wp
    rw [hrg,hd]
    simp only
    rw [h2 g hgs,hq]
    exact hK2
  ·exact h.elim
end
section
variable {P:Program} {F0:Nat->Nat->Prop} {w0:W0} {N:Nat} {ops:Array Oper} {K:AC->Prop}
def LC (F0:Nat->Nat->Prop) (w0:W0) (N:Nat) (env:AC):Prop:=∃ a w,a.tmps.size=N∧C2 F0 w0 env a w
theorem LC.congr {env env2:AC} (h:LC F0 w0 N env) (he:MJ env env2):LC F0 w0 N env2:=by
 obtain ⟨a,w,h1,h2⟩:=h
 exact ⟨a,w,h1,h2.congr he.1⟩
theorem LC.list {env:AC} (h:LC F0 w0 N env) {s:Nat} {t:TV} (hs:env.get s=.ow t):∃ n es,t=.list n es:=by
 obtain ⟨a,w,_,G,hI⟩:=h
 have:=A4 hI hs (by simp)
 simp only [AS] at this
 cases t <;> simp only [CQ] at this
 exact ⟨_,_,rfl⟩
theorem XU {o:Oper} {a:Act} {w:World} {X:Prop} (h:o.wp P a w (fun _ _=>X) (fun _ _ _=>False)):X:=by
 unfold Oper.wp at h
 generalize (execOp a.eval o).run P w=r at h
 cases r with
 | ok n w'=>
  cases n with
  | value v=>exact h
  | skip=>exact h
  | defer d=>exact h
  | enter f args=>
   rw [Oper.upon_enter] at h
   obtain ⟨e,w'',fr,hR,_⟩:=h []
   cases e with
   | returned v=>exact hR
   | panicked c=>exact hR.elim
   | outgrown=>obtain ⟨_,_,hq⟩:=hR; exact hq.elim
  | row r args=>
   rw [Oper.upon_row] at h
   obtain ⟨v,w'',hR,_⟩:=h default []
   exact hR
  | _=>exact h.elim
 | halt x w'=>
  cases x <;> exact h.elim
theorem J3 {env:AC} (hR:LC F0 w0 N env) {o:Oper} {r:PR} (hok:L3 P N ops o r=true) (h:r.wp (AR P) env K):∃ env',K env'∧LC F0 w0 N env':=by
 obtain ⟨a,w,hN,hI⟩:=hR
 have:=Qj (p:=none) (next:=fun _ _=>∃ env',K env'∧LC F0 w0 N env') (Q:=fun _ _ _=>False) hI ⟨hN,by simp⟩ (by simp) hok h fun env' a' w' k1 k2 k3=>⟨env',k1,a',w',k2.size,k3⟩
 split at this
 ·exact XU this
 ·exact this
end
def H3 (xs ys:List Nat):Bool:=xs.all fun x=>!ys.contains x
theorem C8 {xs ys:List Nat} (h:H3 xs ys=true) {x:Nat} (h1:x∈xs) (h2:x∈ys):False:=by
 simp only [H3,List.all_eq_true,Bool.not_eq_true',List.contains_eq_mem,decide_eq_false_iff_not] at h
 exact h x h1 h2
def PR.old (r:PR):List Nat:=
 if r.op.isNew then [] else r.dst.toList
def PR.movOk (D:List Nat) (r:PR):Bool:=
 r.op.mov&&r.dst.isSome&&(!r.op.isNew||r.guard.isNone)&&H3 r.op.bads D&&r.old.all D.contains
def Rs (D:List Nat) (p q:PR):Bool:=
 PR.movOk D p&&PR.movOk D q&&H3 p.dst.toList (q.dst.toList++(q.op.slots++q.gsl))&&H3 q.dst.toList (p.op.slots++p.gsl)&&H3 p.op.dem (q.op.dem++q.gsl)&&H3 q.op.dem p.gsl
theorem FH {op:AH} {s:Nat} (h:s∈op.dem):s∈op.slots:=by
 cases op <;> simp only [AH.dem,List.not_mem_nil] at h <;> simp only [AH.slots]
 ·exact h
 ·exact HY h
theorem WY {op:AH} {s:Nat} (h:s∈op.bads):s∈op.slots:=by
 cases op <;> simp only [AH.bads,List.not_mem_nil] at h <;> simp only [AH.slots]
 all_goals exact h
def JD (D:List Nat) (env:AC):Prop:=∀ d∈D,env.noRef d=true
theorem JD.congr {D:List Nat} {env env2:AC} (h:JD D env) (he:MJ env env2):JD D env2:=fun d hd=>by rw [←he.2]; exact h d hd
theorem JD.no {D:List Nat} {env:AC} (h:JD D env) {x s:Nat} (hs:(env.get x).ref=some s):s ∉ D:=fun hd=>AC.noRef_ref s env (h s hd) x hs
section
variable {S:FuncId->List TV->CH->Prop}
theorem Qq.jd {D:List Nat} {r:PR} {d:Nat} {env env1:AC} {e:EV} {f:B3} (h:Qq S r d env env1 e f) (hb:H3 r.op.bads D=true) (hj:JD D env):JD D env1:=by
 intro x hx
 rw [h.env1,AC.noRef_cons,B3.noRef,hj x hx,Bool.and_true]
 refine UT (fun s he hsx=>?_)
 subst hsx
 rcases h.ref s he with h1 | ⟨y,_,h2⟩
 ·exact C8 hb h1 hx
 ·exact hj.no h2 hx
theorem B3.like (f:B3) {env:AC} (hok:f.ok env) (hl:∀ s t,env.get s=.ow t->∃ n es,t=.list n es) (hx:∀ s off t,f=.cell s off t->t.isXl=false) (n:Nat):(env.get n).like (f.on n (env.get n)):=by
 cases f with
 | none=>exact .inl rfl
 | slot s t=>
  simp only [B3.on]
  split
  ·rename_i e; subst e
   simp only [B3.ok] at hok
   obtain ⟨m,es,rfl⟩:=hl s t hok
   exact .inr (.inl ⟨m,es,.inr ⟨hok,rfl⟩⟩)
  ·exact .inl rfl
 | cell s off t=>
  simp only [B3.on]
  split
  ·rename_i e; subst e
   obtain ⟨cs,h1,h2⟩:=hok
   rw [h1]
   refine .inr (.inr ⟨cs,_,rfl,rfl,?_⟩)
   rw [List.map_set]
   refine List.ext_getElem? fun i=>?_
   rw [List.getElem?_set]
   split
   ·rename_i e; subst e
    rw [List.length_map]
    have hlt:=(List.getElem?_eq_some_iff.1 h2).1
    rw [if_pos hlt,List.getElem?_map,h2]
    simp [AU.key,hx _ _ _ rfl]
   ·rfl
  ·exact .inl rfl
end
theorem Ob {S:FuncId->List TV->CH->Prop} {r:PR} {env:AC} {K:AC->Prop} (h:r.wp S env K):∀ g∈r.gsl,∃ b,env.get g=b∧(∀ cs,b≠.bx cs)∧(∀ t,b≠.ow t)∧∀ cs,b≠.oag cs:=by
 intro g hg
 unfold PR.gsl at hg
 unfold PR.wp at h
 split at hg
 ·rename_i g' b hr
  rw [hr] at h
  simp only [List.mem_singleton] at hg
  subst hg
  simp only at h
  split at h
  ·rename_i q hq; exact ⟨_,hq,by simp,by simp,by simp⟩
  ·rename_i hq; exact ⟨_,hq,by simp,by simp,by simp⟩
  ·exact h.elim
 ·cases hg
section
variable {P:Program} {F0:Nat->Nat->Prop} {w0:W0} {N:Nat} {ops:Array Oper} {K:AC->Prop} {D:List Nat}
theorem swap {env:AC} (hR:LC F0 w0 N env) (hj:JD D env) {op oq:Oper} {p q:PR} (hp:L3 P N ops op p=true) (hq:L3 P N ops oq q=true) (hpair:Rs D p q=true) {rs:List PR} (h:JC (AR P) K (p::q::rs) env):JC (AR P) K (q::p::rs) env:=by
 simp only [Rs,PR.movOk,zzZ,Bool.or_eq_true,Bool.not_eq_true'] at hpair
 obtain ⟨⟨⟨⟨⟨⟨⟨⟨⟨pm,pd⟩,pg⟩,pb⟩,pD⟩,⟨⟨⟨qm,qd⟩,qg⟩,qb⟩,qD⟩,c1⟩,c2⟩,c3⟩,c4⟩:=hpair
 obtain ⟨dp,hdp⟩:=Option.isSome_iff_exists.1 pd
 obtain ⟨dq,hdq⟩:=Option.isSome_iff_exists.1 qd
 rw [hdp] at c1
 rw [hdq] at c1 c2
 simp only [Option.toList_some] at c1 c2
 have hpq:dp≠dq:=fun e=>C8 c1 (x:=dp) (by simp) (by simp [e])
 have pnq:dp ∉ q.op.slots:=fun e=>C8 c1 (x:=dp) (by simp) (by simp [e])
 have pngq:dp ∉ q.gsl:=fun e=>C8 c1 (x:=dp) (by simp) (by simp [e])
 have qnp:dq ∉ p.op.slots:=fun e=>C8 c2 (x:=dq) (by simp) (by simp [e])
 have qngp:dq ∉ p.gsl:=fun e=>C8 c2 (x:=dq) (by simp) (by simp [e])
 have dd:∀ s,s∈p.op.dem->s∈q.op.dem->False:=fun s h1 h2=>C8 c3 h1 (HY h2)
 have dg1:∀ s,s∈p.op.dem->s∈q.gsl->False:=fun s h1 h2=>C8 c3 h1 (G8 h2)
 have dg2:∀ s,s∈q.op.dem->s∈p.gsl->False:=fun s h1 h2=>C8 c4 h1 h2
 have oldp:p.op.isNew=true∨dp∈D:=by
  cases hn:p.op.isNew with
  | true=>exact .inl rfl
  | false=>exact .inr (by simpa [PR.old,hn,hdp] using pD)
 have oldq:q.op.isNew=true∨dq∈D:=by
  cases hn:q.op.isNew with
  | true=>exact .inl rfl
  | false=>exact .inr (by simpa [PR.old,hn,hdq] using qD)
 have pg':p.op.isNew=true->p.guard=none:=fun hn=>by
  rcases pg with h | h
  ·rw [hn] at h; cases h
  ·simpa using h
 have qg':q.op.isNew=true->q.guard=none:=fun hn=>by
  rcases qg with h | h
  ·rw [hn] at h; cases h
  ·simpa using h
 obtain ⟨e',heq,h⟩:=h
 have hR':=hR.congr heq.symm
 have hj':=hj.congr heq.symm
 obtain ⟨env1,⟨⟨e1,heq1,hw⟩,ep,fp,Fp⟩,hR1⟩:=J3 hR' hp (N9 hdp pm pg' h)
 have hRe1:=hR1.congr heq1.symm
 have hj1:=Fp.jd pb hj'
 have hje1:=hj1.congr heq1.symm
 obtain ⟨X1,⟨hK,eq,fq,Fq⟩,_⟩:=J3 hRe1 hq (N9 hdq qm qg' hw)
 have g1:∀ n,e1.get n=if dp=n then ep else fp.on n (e'.get n):=fun n=>by
  rw [heq1.1,Fp.env1,AC.get_cons,B3.get]
 have np1:∀ x s,(e1.get x).ref=some s->s≠dp:=by
  intro x s hx hs
  subst hs
  rcases oldp with hn | hd
  ·refine AC.noRef_ref s e1 ?_ x hx
   rw [heq1.2,Fp.env1,AC.noRef_cons,B3.noRef,(Fp.new hn).2,Bool.and_true]
   exact UT (fun s he _=>by rw [(Fp.new hn).1] at he; cases he)
  ·exact hje1.no hx hd
 have nq':∀ x s,(e'.get x).ref=some s->s≠dq:=by
  intro x s hx hs
  subst hs
  rcases oldq with hn | hd
  ·have h1:=(Fq.new hn).2
   rw [heq1.2,Fp.env1,AC.noRef_cons,B3.noRef,zzZ] at h1
   exact AC.noRef_ref s e' h1.2 x hx
  ·exact hj'.no hx hd
 have lk:∀ n,n≠dp->(e1.get n).like (e'.get n):=by
  intro n hn
  rw [g1,if_neg (fun e=>hn e.symm)]
  exact (B3.like fp Fp.ok (fun s t hs=>hR'.list hs) Fp.xl n).symm
 have fpdq:∀ e,fp.on dq e=e:=by
  intro e
  have:=Fp.slot
  have h2:=Fp.cell
  cases fp with
  | none=>rfl
  | slot s t=>
   simp only [B3.on]
   rw [if_neg]
   intro he; subst he
   exact qnp (FH (this _ _ rfl))
  | cell s off t=>
   simp only [B3.on]
   rw [if_neg]
   intro he; subst he
   rcases h2 _ _ _ rfl with h3 | ⟨x,_,h4⟩
   ·exact qnp h3
   ·exact nq' x _ h4 rfl
 have fqdp:∀ e,fq.on dp e=e:=by
  intro e
  have:=Fq.slot
  have h2:=Fq.cell
  cases fq with
  | none=>rfl
  | slot s t=>
   simp only [B3.on]
   rw [if_neg]
   intro he; subst he
   exact pnq (FH (this _ _ rfl))
  | cell s off t=>
   simp only [B3.on]
   rw [if_neg]
   intro he; subst he
   rcases h2 _ _ _ rfl with h3 | ⟨x,_,h4⟩
   ·exact pnq h3
   ·exact np1 x _ h4 rfl
 have fqok:fq.ok e':=by
  have hok:=Fq.ok
  have hsl:=Fq.slot
  have hc:=fqdp
  cases fq with
  | none=>trivial
  | slot s t=>
   simp only [B3.ok] at hok ⊢
   have hs:=hsl s t rfl
   have hne:dp≠s:=fun e=>pnq (e ▸ FH hs)
   rw [g1,if_neg hne] at hok
   have h1:=Fp.slot
   have h2:=Fp.ok
   cases fp with
   | none=>exact hok
   | slot s' t'=>
    simp only [B3.on] at hok
    rw [if_neg (fun (e:s'=s)=>dd s' (h1 _ _ rfl) (by rw [e]; exact hs))] at hok
    exact hok
   | cell s' off t'=>
    simp only [B3.on] at hok
    split at hok
    ·rename_i e
     subst e
     obtain ⟨cs,h3,_⟩:=h2
     rw [h3] at hok
     cases hok
    ·exact hok
  | cell s off t=>
   obtain ⟨cs,h1,h2⟩:=hok
   have hne:dp≠s:=fun e=>by
    have:=hc (.bx [⟨true,.undef⟩,⟨true,.undef⟩])
    rcases Fq.cell s off t rfl with h3 | ⟨x,_,h4⟩
    ·exact pnq (e ▸ h3)
    ·exact np1 x s h4 e.symm
   rw [g1,if_neg hne] at h1
   have h3:=Fp.ok
   cases fp with
   | none=>exact ⟨cs,h1,h2⟩
   | slot s' t'=>
    simp only [B3.on] at h1
    split at h1
    ·cases h1
    ·exact ⟨cs,h1,h2⟩
   | cell s' off' t'=>
    simp only [B3.on] at h1
    split at h1
    ·rename_i e
     subst e
     obtain ⟨cs',h4,h5⟩:=h3
     rw [h4] at h1
     simp only [EV.bx.injEq] at h1
     subst h1
     rw [List.getElem?_set] at h2
     split at h2
     ·split at h2
      ·simp at h2
      ·cases h2
     ·exact ⟨cs',h4,h2⟩
    ·exact ⟨cs,h1,h2⟩
 have L1:FZ q.op fq (some dq) e1 e':=by
  refine ⟨fun s hs=>lk s (fun e=>pnq (e ▸ hs)),fun s hs r hb=>lk r (np1 s r hb),fun s hs hnb=>?_,fqok,fun hn d hd hno=>?_⟩
  ·have hne:dp≠s:=fun e=>pnq (e ▸ FH hs)
   rw [g1,if_neg hne]
   have h1:=Fp.slot
   have h2:=Fp.ok
   cases fp with
   | none=>rfl
   | slot s' t'=>
    simp only [B3.on]
    rw [if_neg (fun (e:s'=s)=>dd s' (h1 _ _ rfl) (by rw [e]; exact hs))]
   | cell s' off t'=>
    simp only [B3.on]
    split
    ·rename_i e
     subst e
     obtain ⟨cs,h3,_⟩:=h2
     exfalso
     refine hnb (cs.set off ⟨false,t'⟩) ?_
     rw [g1,if_neg hne]
     simp [B3.on,h3]
    ·rfl
  ·rw [heq1.2,Fp.env1,AC.noRef_cons,B3.noRef,zzZ] at hno
   exact hno.2
 have hgq:∀ g∈q.gsl,e'.get g=e1.get g:=by
  intro g hg
  have hne:dp≠g:=fun e=>pngq (e ▸ hg)
  obtain ⟨b,hb,hnx,_⟩:=Ob hw g hg
  have hb':=hb
  rw [g1,if_neg hne] at hb'
  rw [g1,if_neg hne]
  have h1:=Fp.slot
  have h2:=Fp.ok
  cases fp with
  | none=>rfl
  | slot s' t'=>
   simp only [B3.on]
   rw [if_neg (fun (e:s'=g)=>dg1 s' (h1 _ _ rfl) (by rw [e]; exact hg))]
  | cell s' off t'=>
   simp only [B3.on] at hb' ⊢
   split
   ·rename_i e
    subst e
    obtain ⟨cs,h3,_⟩:=h2
    rw [h3] at hb'
    simp at hb'
    exact absurd hb'.symm (hnx _)
   ·rfl
 have hgp:∀ g∈p.gsl,AC.get ((dq,eq)::fq.app e') g=e'.get g:=by
  intro g hg
  have hne:dq≠g:=fun e=>qngp (e ▸ hg)
  obtain ⟨b,hb,hnx,_⟩:=Ob h g hg
  rw [AC.get_cons,if_neg hne,B3.get]
  have h1:=Fq.slot
  cases fq with
  | none=>rfl
  | slot s' t'=>
   simp only [B3.on]
   rw [if_neg (fun (e:s'=g)=>dg2 s' (h1 _ _ rfl) (by rw [e]; exact hg))]
  | cell s' off t'=>
   simp only [B3.on]
   split
   ·rename_i e
    subst e
    obtain ⟨cs,h3,_⟩:=fqok
    rw [h3] at hb
    exact absurd hb.symm (hnx _)
   ·rfl
 have offs:∀ s off t off' t',fp=.cell s off t->fq=.cell s off' t'->off≠off':=by
  intro s off t off' t' h1 h2 ho
  subst ho
  have h3:=Fq.ok
  have h4:=Fp.ok
  have h5:=fqdp
  rw [h1] at h4
  rw [h2] at h3
  obtain ⟨cs,h6,h7⟩:=h4
  obtain ⟨ds,h8,h9⟩:=h3
  have hne:dp≠s:=fun e=>by
   rcases Fq.cell s off t' h2 with h3 | ⟨x,_,h4⟩
   ·exact pnq (e ▸ h3)
   ·exact np1 x s h4 e.symm
  rw [g1,if_neg hne,h1] at h8
  simp only [B3.on,if_true,h6,EV.bx.injEq] at h8
  subst h8
  rw [List.getElem?_set,if_pos rfl] at h9
  split at h9
  ·simp at h9
  ·cases h9
 have g2:∀ n,AC.get ((dq,eq)::fq.app e') n=if dq=n then eq else fq.on n (e'.get n):=fun n=>by
  rw [AC.get_cons,B3.get]
 have lk2:∀ n,n≠dq->(e'.get n).like (AC.get ((dq,eq)::fq.app e') n):=by
  intro n hn
  rw [g2,if_neg (fun e=>hn e.symm)]
  exact B3.like fq fqok (fun s t hs=>hR'.list hs) Fq.xl n
 have L2:FZ p.op fp (some dp) e' ((dq,eq)::fq.app e'):=by
  refine ⟨fun s hs=>lk2 s (fun e=>qnp (e ▸ hs)),fun s hs r hb=>lk2 r (nq' s r hb),fun s hs hnb=>?_,?_,fun hn d hd hno=>?_⟩
  ·have hne:dq≠s:=fun e=>qnp (e ▸ FH hs)
   rw [g2,if_neg hne]
   have h1:=Fq.slot
   cases fq with
   | none=>rfl
   | slot s' t'=>
    simp only [B3.on]
    rw [if_neg (fun (e:s'=s)=>dd s' (by rw [e]; exact hs) (h1 _ _ rfl))]
   | cell s' off t'=>
    simp only [B3.on]
    split
    ·rename_i e
     subst e
     obtain ⟨cs,h3,_⟩:=fqok
     exact absurd h3 (hnb cs)
    ·rfl
  ·have hok:=Fp.ok
   have hsl:=Fp.slot
   have hcl:=Fp.cell
   cases fp with
   | none=>trivial
   | slot s t=>
    simp only [B3.ok] at hok ⊢
    have hs:=hsl s t rfl
    have hne:dq≠s:=fun e=>qnp (e ▸ FH hs)
    rw [g2,if_neg hne]
    have h1:=Fq.slot
    cases fq with
    | none=>exact hok
    | slot s' t'=>
     simp only [B3.on]
     rw [if_neg (fun (e:s'=s)=>dd s' (by rw [e]; exact hs) (h1 _ _ rfl))]
     exact hok
    | cell s' off t'=>
     simp only [B3.on]
     split
     ·rename_i e
      subst e
      obtain ⟨cs,h3,_⟩:=fqok
      rw [h3] at hok
      cases hok
     ·exact hok
   | cell s off t=>
    obtain ⟨cs,h1,h2⟩:=hok
    have hne:dq≠s:=fun e=>by
     rcases hcl s off t rfl with h3 | ⟨x,_,h4⟩
     ·exact qnp (e ▸ h3)
     ·exact nq' x s h4 e.symm
    simp only [B3.ok]
    rw [g2,if_neg hne]
    have h3:=fqok
    cases fq with
    | none=>exact ⟨cs,h1,h2⟩
    | slot s' t'=>
     simp only [B3.on]
     split
     ·rename_i e
      subst e
      simp only [B3.ok] at h3
      rw [h3] at h1
      cases h1
     ·exact ⟨cs,h1,h2⟩
    | cell s' off' t'=>
     simp only [B3.on]
     split
     ·rename_i e
      subst e
      rw [h1]
      have:=offs s' off t off' t' rfl rfl
      refine ⟨_,rfl,?_⟩
      rw [List.getElem?_set,if_neg (fun e=>this e.symm)]
      exact h2
     ·exact ⟨cs,h1,h2⟩
  ·simp only [zzY] at hd
   subst hd
   rw [AC.noRef_cons,B3.noRef,hno,Bool.and_true]
   refine UT (fun s he=>?_)
   rcases Fq.ref s he with h1 | ⟨x,_,h2⟩
   ·exact fun e=>pnq (e ▸ WY h1)
   ·exact np1 x s h2
 refine ⟨e',heq,Fq.again e' L1 hgq _ ⟨_,.refl _,Fp.again _ L2 hgp _ (MQ hK ?_)⟩⟩
 rw [Fq.env1]
 refine ⟨fun n=>?_,fun d=>?_⟩
 ·rw [AC.get_cons,B3.get,g1,AC.get_cons,B3.get,g2]
  by_cases h1:dq=n
  ·subst h1
   rw [if_pos rfl,if_neg hpq,if_pos rfl,fpdq]
  ·rw [if_neg h1,if_neg h1]
   by_cases h2:dp=n
   ·subst h2
    rw [if_pos rfl,if_pos rfl,fqdp]
   ·rw [if_neg h2,if_neg h2]
    have h3:=Fp.ok
    have h4:=Fp.slot
    have h5:=Fq.slot
    cases fp with
    | none=>rfl
    | slot s t=>
     cases fq with
     | none=>rfl
     | slot s' t'=>
      have hne:s≠s':=fun e=>dd s (h4 _ _ rfl) (e ▸ h5 _ _ rfl)
      simp only [B3.on]
      by_cases e1:s=n <;> by_cases e2:s'=n <;> simp [e1,e2]
      exact absurd (e1.trans e2.symm) hne
     | cell s' off' t'=>
      have hne:s≠s':=fun e=>by
       obtain ⟨cs,h6,_⟩:=fqok
       simp only [B3.ok] at h3
       rw [←e,h3] at h6
       cases h6
      simp only [B3.on]
      by_cases e1:s=n <;> by_cases e2:s'=n <;> simp [e1,e2]
    | cell s off t=>
     cases fq with
     | none=>rfl
     | slot s' t'=>
      have hne:s≠s':=fun e=>by
       obtain ⟨cs,h6,_⟩:=h3
       simp only [B3.ok] at fqok
       rw [e,fqok] at h6
       cases h6
      simp only [B3.on]
      by_cases e1:s=n <;> by_cases e2:s'=n <;> simp [e1,e2]
     | cell s' off' t'=>
      obtain ⟨cs,h6,_⟩:=h3
      simp only [B3.on]
      by_cases e1:s=n
      ·by_cases e2:s'=n
       ·subst e1
        subst e2
        have:=offs s' off t off' t' rfl rfl
        simp only [if_true,h6]
        rw [List.set_comm _ _ this]
       ·simp [e1,e2]
      ·simp [e1]
 ·rw [AC.noRef_cons,B3.noRef,heq1.2,Fp.env1,AC.noRef_cons,B3.noRef,AC.noRef_cons,B3.noRef,AC.noRef_cons,B3.noRef]
  cases EV.noR d eq <;> cases EV.noR d ep <;> rfl
end
end Go.Sf
