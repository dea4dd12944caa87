/- A store into a box that nobody points at, and an operation in front of it that does not read that box. -/
import Derived.Test.YtmaobfbhdkafkaaGreatSfSwap
namespace Go.Sf
open Go.RowKit (Below)
def okPairSt (D:List Nat) (p q:PR):Bool:=
 match q.op,q.guard,q.dst with
 | .stb _ b v,none,none=>PR.movOk D p&&D.contains b&&disj p.dst.toList (b::v.sl)&&disj [b] (p.op.slots++p.gsl)&&disj p.op.dem v.sl
 | .stx _ b s,none,none=>PR.movOk D p&&D.contains b&&disj p.dst.toList (b::[s])&&disj [b] (p.op.slots++p.gsl)&&disj p.op.dem [s]&&disj [s] p.op.slots&&D.contains s
 | _,_,_=>false
def upd (b:Nat) (cs:List Cell) (q:Option (Nat × EV)) (env:Env):Env:=
 (b,.bx cs)::(match q with | some (s,t)=>(s,t)::env | none=>env)
theorem upd_get (b:Nat) (cs:List Cell) (q:Option (Nat × EV)) (env:Env) (n:Nat):Env.get (upd b cs q env) n=if b=n then .bx cs else (match q with | some (s,t)=>if s=n then t else env.get n | none=>env.get n):=by
 cases q with
 | none=>rfl
 | some st=>rfl
theorem upd_noRef (b:Nat) (cs:List Cell) (q:Option (Nat × EV)) (env:Env) (d:Nat) (h:∀ s e,q=some (s,e)->e.noR d=true):Env.noRef d (upd b cs q env)=Env.noRef d env:=by
 cases q with
 | none=>simp [upd,Env.noRef_cons,EV.noR,EV.ref]
 | some p=>
  obtain ⟨s,e⟩:=p
  have h':=h s e rfl
  simp only [upd,Env.noRef_cons,h',Bool.true_and]
  simp [EV.noR,EV.ref]
structure FrameS (S:FuncId->List TV->Res->Prop) (q:PR) (b:Nat) (v:Opd) (env env1:Env) (cs cs':List Cell) (o:Option (Nat × EV)):Prop where
 env1:env1=upd b cs' o env
 box:env.get b=.bx cs
 own:∀ s e,o=some (s,e)->v=.s s∧((∃ t,e=.tv t∧env.get s=.ow t)∨(e=.undef∧(∃ ds,env.get s=.oag ds)∧∃ n,q.op=.stx n b s))∧s≠b
 val:∀ cs,v.ev env≠.bx cs
 again:∀ env2,env2.get b=.bx cs->v.ev env2=v.ev env->∀ K2:Env->Prop,K2 (upd b cs' o env2)->q.wp S env2 K2
theorem frameS {S:FuncId->List TV->Res->Prop} {q:PR} {env:Env} {K:Env->Prop} {n b:Nat} {v:Opd} (hop:q.op=.stb n b v∨∃ s,v=.s s∧q.op=.stx n b s) (hg:q.guard=none) (hd:q.dst=none) (h:q.wp S env K):∃ env1,K env1∧∃ cs cs' o,FrameS S q b v env env1 cs cs' o:=by
 rcases hop with hop | ⟨s,rfl,hop⟩
 ·unfold PR.wp at h
  rw [hg,hop,hd] at h
  simp only [POp.wp] at h
  split at h
  ·rename_i cs hs
   split at h
   ·rename_i t hv
    cases v with
    | c t=>exact h.elim
    | s q'=>
     simp only at h
     simp only [Opd.ev] at hv
     refine ⟨_,h.2.2.2,cs,_,some (q',.tv t),rfl,hs,?_,?_,fun env2 h1 h2 K2 hK2=>?_⟩
     ·intro s' t' he
      simp only [Option.some.injEq,Prod.mk.injEq] at he
      obtain ⟨rfl,rfl⟩:=he
      exact ⟨rfl,.inl ⟨t,rfl,hv⟩,h.1⟩
     ·intro cs; simp [Opd.ev,hv]
     ·simp only [Opd.ev] at h2
      unfold PR.wp
      rw [hg,hop,hd]
      simp only [POp.wp,h1,Opd.ev,h2,hv]
      exact ⟨h.1,h.2.1,h.2.2.1,hK2⟩
   ·rename_i t hv
    refine ⟨_,h.2.2,cs,_,none,rfl,hs,by simp,by simp [hv],fun env2 h1 h2 K2 hK2=>?_⟩
    unfold PR.wp
    rw [hg,hop,hd]
    simp only [POp.wp,h1,h2,hv]
    exact ⟨h.1,h.2.1,hK2⟩
   ·exact h.elim
  ·exact h.elim
 ·unfold PR.wp at h
  rw [hg,hop,hd] at h
  simp only [POp.wp] at h
  split at h
  ·rename_i cs ds hs hv
   refine ⟨_,h.2.2.2,cs,_,some (s,.undef),rfl,hs,?_,by simp [Opd.ev,hv],fun env2 h1 h2 K2 hK2=>?_⟩
   ·intro s' t' he
    simp only [Option.some.injEq,Prod.mk.injEq] at he
    obtain ⟨rfl,rfl⟩:=he
    exact ⟨rfl,.inr ⟨rfl,⟨ds,hv⟩,n,hop⟩,h.1⟩
   ·simp only [Opd.ev] at h2
    unfold PR.wp
    rw [hg,hop,hd]
    simp only [POp.wp,h1,h2,hv]
    exact ⟨h.1,h.2.1,h.2.2.1,hK2⟩
  ·exact h.elim
section
variable {P:Program} {F0:Nat->Nat->Prop} {w0:W0} {N:Nat} {ops:Array Oper} {K:Env->Prop} {D:List Nat}
theorem swap_st {env:Env} (hR:Real F0 w0 N env) (hj:JD D env) {op:Oper} {p q:PR} (hp:okPR P N ops op p=true) (hpair:okPairSt D p q=true) {rs:List PR} (h:wpE (Sound P) K (p::q::rs) env):wpE (Sound P) K (q::p::rs) env:=by
 have key:∃ n b v,(q.op=.stb n b v∨∃ s,v=.s s∧q.op=.stx n b s)∧q.guard=none∧q.dst=none∧(((((PR.movOk D p=true∧D.contains b=true)∧disj p.dst.toList (b::v.sl)=true)∧disj [b] (p.op.slots++p.gsl)=true)∧disj p.op.dem v.sl=true)∧(∀ n s,q.op=.stx n b s->disj [s] p.op.slots=true∧D.contains s=true)):=by
  unfold okPairSt at hpair
  split at hpair
  ·rename_i n b v hop hg hd
   simp only [Bool.and_eq_true] at hpair
   exact ⟨n,b,v,.inl hop,hg,hd,hpair,fun n s h=>by rw [hop] at h; cases h⟩
  ·rename_i n b s hop hg hd
   simp only [Bool.and_eq_true] at hpair
   refine ⟨n,b,.s s,.inr ⟨s,rfl,hop⟩,hg,hd,hpair.1.1,fun n' s' h=>?_⟩
   rw [hop] at h
   simp only [POp.stx.injEq] at h
   obtain ⟨_,_,rfl⟩:=h
   exact ⟨hpair.1.2,hpair.2⟩
  ·cases hpair
 clear hpair
 obtain ⟨n,b,v,hop,hg,hd,hpair,hstx⟩:=key
 ·simp only [PR.movOk,Bool.and_eq_true,Bool.or_eq_true,Bool.not_eq_true'] at hpair
  obtain ⟨⟨⟨⟨⟨⟨⟨⟨pm,pd⟩,pg⟩,pb⟩,pD⟩,bD⟩,c1⟩,c2⟩,c3⟩:=hpair
  obtain ⟨dp,hdp⟩:=Option.isSome_iff_exists.1 pd
  rw [hdp] at c1
  simp only [Option.toList_some] at c1
  have bD:b∈D:=by simpa using bD
  have hpb:dp≠b:=fun e=>disj_spec c1 (x:=dp) (by simp) (by simp [e])
  have pnv:dp ∉ v.sl:=fun e=>disj_spec c1 (x:=dp) (by simp) (by simp [e])
  have bnp:b ∉ p.op.slots:=fun e=>disj_spec c2 (x:=b) (by simp) (mem_l e)
  have bng:b ∉ p.gsl:=fun e=>disj_spec c2 (x:=b) (by simp) (mem_r e)
  have dv:∀ s,s∈p.op.dem->s∈v.sl->False:=fun s h1 h2=>disj_spec c3 h1 h2
  have pg':p.op.isNew=true->p.guard=none:=fun hn=>by
   rcases pg with h | h
   ·rw [hn] at h; cases h
   ·simpa using h
  obtain ⟨e',heq,h⟩:=h
  have hR':=hR.congr heq.symm
  have hj':=hj.congr heq.symm
  obtain ⟨env1,⟨⟨e1,heq1,hw⟩,ep,fp,Fp⟩,hR1⟩:=real_step hR' hp (frameR hdp pm pg' h)
  have hj1:=Fp.jd pb hj'
  have g1:∀ n,e1.get n=if dp=n then ep else fp.on n (e'.get n):=fun n=>by
   rw [heq1.1,Fp.env1,Env.get_cons,Eff.get]
  have fpb:∀ e,fp.on b e=e:=by
   intro e
   have:=Fp.slot
   have h2:=Fp.cell
   cases fp with
   | none=>rfl
   | slot s t=>
    simp only [Eff.on]
    rw [if_neg]
    intro he; subst he
    exact bnp (dem_slots (this _ _ rfl))
   | cell s off t=>
    simp only [Eff.on]
    rw [if_neg]
    intro he; subst he
    rcases h2 _ _ _ rfl with h3 | ⟨x,_,h4⟩
    ·exact bnp h3
    ·exact hj'.no h4 bD
  have gb:e1.get b=e'.get b:=by rw [g1,if_neg hpb,fpb]
  obtain ⟨X1,hK,cs,cs',o,Fs⟩:=frameS hop hg hd hw
  have hbox:e'.get b=.bx cs:=by rw [←gb]; exact Fs.box
  have hv:v.ev e'=v.ev e1:=by
   cases v with
   | c t=>rfl
   | s m=>
    have hm:dp≠m:=fun e=>pnv (by simp [Opd.sl,e])
    simp only [Opd.ev]
    have hval:=Fs.val
    simp only [Opd.ev] at hval
    rw [g1,if_neg hm] at hval ⊢
    have h1:=Fp.slot
    have h2:=Fp.ok
    cases fp with
    | none=>rfl
    | slot s t=>
     simp only [Eff.on]
     rw [if_neg (fun (e:s=m)=>dv s (h1 _ _ rfl) (by simp [Opd.sl,e]))]
    | cell s off t=>
     simp only [Eff.on] at hval ⊢
     split
     ·rename_i e
      subst e
      obtain ⟨ds,h3,_⟩:=h2
      rw [if_pos rfl,h3] at hval
      exact absurd rfl (hval _)
     ·rfl
  have hown:∀ s e,o=some (s,e)->((∃ t,e=.tv t∧e'.get s=.ow t)∨(e=.undef∧∃ ds,e'.get s=.oag ds))∧s≠b∧s∈v.sl∧s≠dp:=by
   intro s t ho
   obtain ⟨h1,h2,h3⟩:=Fs.own s t ho
   subst h1
   simp only [Opd.ev] at hv
   refine ⟨?_,h3,by simp [Opd.sl],fun e=>pnv (by simp [Opd.sl,e])⟩
   rw [hv]
   rcases h2 with h2 | ⟨h2,h4,_⟩
   ·exact .inl h2
   ·exact .inr ⟨h2,h4⟩
  have hown2:∀ s,o=some (s,.undef)->s ∉ p.op.slots∧s∈D:=by
   intro s ho
   obtain ⟨_,h2,_⟩:=Fs.own s _ ho
   rcases h2 with ⟨t,h2,_⟩ | ⟨_,_,n',h4⟩
   ·cases h2
   ·obtain ⟨h5,h6⟩:=hstx n' s h4
    exact ⟨fun e=>disj_spec h5 (by simp) e,by simpa using h6⟩
  have hnoR:∀ d s e,o=some (s,e)->e.noR d=true:=by
   intro d s e ho
   rcases (hown s e ho).1 with ⟨t,rfl,_⟩ | ⟨rfl,_⟩ <;> rfl
  have hnbx:∀ s e,o=some (s,e)->∀ ds,e'.get s≠.bx ds:=by
   intro s e ho ds h
   rcases (hown s e ho).1 with ⟨t,_,h2⟩ | ⟨_,ds',h2⟩ <;> rw [h2] at h <;> cases h
  have g2:∀ n,b≠n->(∀ s t,o=some (s,t)->s≠n)->Env.get (upd b cs' o e') n=e'.get n:=by
   intro n h1 h2
   rw [upd_get,if_neg h1]
   cases o with
   | none=>rfl
   | some st=>
    obtain ⟨s,t⟩:=st
    simp only
    rw [if_neg (h2 s t rfl)]
  have lk:∀ n,b≠n->o≠some (n,.undef)->(e'.get n).like (Env.get (upd b cs' o e') n):=by
   intro n h1 h0
   rw [upd_get,if_neg h1]
   cases o with
   | none=>exact .inl rfl
   | some st=>
    obtain ⟨s,t⟩:=st
    simp only
    split
    ·rename_i e
     subst e
     rcases (hown s t rfl).1 with ⟨t,rfl,h3⟩ | ⟨rfl,_⟩
     ·obtain ⟨m,es,rfl⟩:=hR'.list h3
      exact .inr (.inl ⟨m,es,.inr ⟨h3,rfl⟩⟩)
     ·exact absurd rfl h0
    ·exact .inl rfl
  have L:Like p.op fp (some dp) e' (upd b cs' o e'):=by
   refine ⟨fun s hs=>lk s (fun e=>bnp (e ▸ hs)) (fun e=>(hown2 s e).1 hs),fun s hs r hb=>lk r (fun e=>hj'.no hb (e ▸ bD)) (fun e=>hj'.no hb (hown2 r e).2),fun s hs _=>g2 s (fun e=>bnp (e ▸ dem_slots hs)) (fun s' t ho e=>dv s hs (e ▸ (hown s' t ho).2.2.1)),?_,fun hn d hd hno=>by rw [upd_noRef _ _ _ _ _ (hnoR d)]; exact hno⟩
   have h1:=Fp.slot
   have h2:=Fp.ok
   have h3:=fpb
   have h4:=Fp.cell
   cases fp with
   | none=>trivial
   | slot s t=>
    simp only [Eff.ok] at h2 ⊢
    rw [g2 s (fun e=>bnp (e ▸ dem_slots (h1 _ _ rfl))) (fun s' t ho e=>dv s (h1 _ _ rfl) (e ▸ (hown s' t ho).2.2.1))]
    exact h2
   | cell s off t=>
    obtain ⟨ds,h5,h6⟩:=h2
    refine ⟨ds,?_,h6⟩
    rw [g2 s (fun e=>?_) (fun s' t' ho e=>?_)]
    ·exact h5
    ·rcases h4 _ _ _ rfl with h7 | ⟨x,_,h8⟩
     ·exact bnp (e ▸ h7)
     ·exact hj'.no h8 (e ▸ bD)
    ·exact hnbx s' t' ho _ (e ▸ h5)
  have hgp:∀ g∈p.gsl,Env.get (upd b cs' o e') g=e'.get g:=by
   intro g hg
   obtain ⟨bb,hb,_,hno,hno'⟩:=guard_bool h g hg
   refine g2 g (fun e=>bng (e ▸ hg)) (fun s t ho e=>?_)
   rcases (hown s t ho).1 with ⟨t,_,h2⟩ | ⟨_,ds',h2⟩
   ·rw [←e,h2] at hb; exact absurd hb.symm (hno _)
   ·rw [←e,h2] at hb; exact absurd hb.symm (hno' _)
  refine ⟨e',heq,Fs.again e' hbox hv _ ⟨_,.refl _,Fp.again _ L hgp _ (wpE_eq hK ?_)⟩⟩
  rw [Fs.env1]
  refine ⟨fun n=>?_,fun d=>?_⟩
  ·rw [Env.get_cons,Eff.get,upd_get,upd_get]
   by_cases h1:dp=n
   ·subst h1
    rw [if_neg (fun e=>hpb e.symm),if_pos rfl]
    cases o with
    | none=>simp only; rw [g1,if_pos rfl]
    | some st=>
     obtain ⟨s,t⟩:=st
     simp only
     rw [if_neg (hown s t rfl).2.2.2,g1,if_pos rfl]
   ·rw [if_neg h1]
    by_cases h2:b=n
    ·subst h2
     rw [if_pos rfl,if_pos rfl,fpb]
    ·rw [if_neg h2,if_neg h2]
     cases o with
     | none=>simp only; rw [g1,if_neg h1]
     | some st=>
      obtain ⟨s,t⟩:=st
      simp only
      by_cases h3:s=n
      ·subst h3
       rw [if_pos rfl,if_pos rfl]
       have h4:=Fp.slot
       have h5:=Fp.ok
       have h6:=(hown s t rfl)
       have h6':=hnbx s t rfl
       have h6'':∀ ds,t≠.bx ds:=by
        intro ds h
        rcases h6.1 with ⟨t,rfl,_⟩ | ⟨rfl,_⟩ <;> cases h
       cases fp with
       | none=>rfl
       | slot s' t'=>
        simp only [Eff.on]
        rw [if_neg (fun (e:s'=s)=>dv s' (h4 _ _ rfl) (by rw [e]; exact h6.2.2.1))]
       | cell s' off t'=>
        simp only [Eff.on]
        split
        ·rename_i e
         subst e
         obtain ⟨ds,h7,_⟩:=h5
         exact absurd h7 (h6' _)
        ·rfl
      ·rw [if_neg h3,if_neg h3,g1,if_neg h1]
  ·rw [upd_noRef _ _ _ _ _ (hnoR d),heq1.2,Fp.env1,Env.noRef_cons,Eff.noRef,Env.noRef_cons,Eff.noRef,upd_noRef _ _ _ _ _ (hnoR d)]
def okPairT (D:List Nat) (p q:PR):Bool:=
 match q.op,q.guard,q.dst with
 | .tkx s,none,some d=>PR.movOk D p&&D.contains s&&D.contains d&&disj p.dst.toList [s,d]&&disj [s,d] (p.op.slots++p.gsl)
 | _,_,_=>false
theorem tkx_det {S:FuncId->List TV->Res->Prop} {q:PR} {env:Env} {K:Env->Prop} {s d:Nat} (hop:q.op=.tkx s) (hg:q.guard=none) (hd:q.dst=some d) (h:q.wp S env K):∃ n es,env.get s=.xo n es∧env.noRef d=true∧d≠s∧K ((d,.xo n es)::(s,.undef)::env):=by
 simp only [PR.wp,hop,hg,hd,POp.wp,Env.put] at h
 split at h
 ·rename_i d' n es hdd hs
  simp only [Option.some.injEq] at hdd
  subst hdd
  exact ⟨n,es,hs,h.1,h.2.1,h.2.2⟩
 ·exact h.elim
theorem tkx_run {S:FuncId->List TV->Res->Prop} {q:PR} {env:Env} {K:Env->Prop} {s d n:Nat} {es:List TV} (hop:q.op=.tkx s) (hg:q.guard=none) (hd:q.dst=some d) (h1:env.get s=.xo n es) (h2:env.noRef d=true) (h3:d≠s) (h:K ((d,.xo n es)::(s,.undef)::env)):q.wp S env K:=by
 simp only [PR.wp,hop,hg,hd,POp.wp,Env.put,h1]
 exact ⟨h2,h3,h⟩
theorem swap_t {env:Env} (hR:Real F0 w0 N env) (hj:JD D env) {op:Oper} {p q:PR} (hp:okPR P N ops op p=true) (hpair:okPairT D p q=true) {rs:List PR} (h:wpE (Sound P) K (p::q::rs) env):wpE (Sound P) K (q::p::rs) env:=by
 unfold okPairT at hpair
 split at hpair
 ·rename_i s d hop hg hd
  simp only [PR.movOk,Bool.and_eq_true,Bool.or_eq_true,Bool.not_eq_true'] at hpair
  obtain ⟨⟨⟨⟨⟨⟨⟨⟨pm,pd⟩,pg⟩,pb⟩,pD⟩,sD⟩,dD⟩,c1⟩,c2⟩:=hpair
  obtain ⟨dp,hdp⟩:=Option.isSome_iff_exists.1 pd
  rw [hdp] at c1
  simp only [Option.toList_some] at c1
  have sD:s∈D:=by simpa using sD
  have dD:d∈D:=by simpa using dD
  have hps:dp≠s:=fun e=>disj_spec c1 (x:=dp) (by simp) (by simp [e])
  have hpd:dp≠d:=fun e=>disj_spec c1 (x:=dp) (by simp) (by simp [e])
  have snp:s ∉ p.op.slots:=fun e=>disj_spec c2 (x:=s) (by simp) (mem_l e)
  have dnp:d ∉ p.op.slots:=fun e=>disj_spec c2 (x:=d) (by simp) (mem_l e)
  have sng:s ∉ p.gsl:=fun e=>disj_spec c2 (x:=s) (by simp) (mem_r e)
  have dng:d ∉ p.gsl:=fun e=>disj_spec c2 (x:=d) (by simp) (mem_r e)
  have pg':p.op.isNew=true->p.guard=none:=fun hn=>by
   rcases pg with h | h
   ·rw [hn] at h; cases h
   ·simpa using h
  obtain ⟨e',heq,h⟩:=h
  have hR':=hR.congr heq.symm
  have hj':=hj.congr heq.symm
  obtain ⟨env1,⟨⟨e1,heq1,hw⟩,ep,fp,Fp⟩,hR1⟩:=real_step hR' hp (frameR hdp pm pg' h)
  have g1:∀ n,e1.get n=if dp=n then ep else fp.on n (e'.get n):=fun n=>by
   rw [heq1.1,Fp.env1,Env.get_cons,Eff.get]
  have fpn:∀ x,x∈D->x ∉ p.op.slots->∀ e,fp.on x e=e:=by
   intro x hxD hxn e
   have:=Fp.slot
   have h2:=Fp.cell
   cases fp with
   | none=>rfl
   | slot s t=>
    simp only [Eff.on]
    rw [if_neg]
    intro he; subst he
    exact hxn (dem_slots (this _ _ rfl))
   | cell s off t=>
    simp only [Eff.on]
    rw [if_neg]
    intro he; subst he
    rcases h2 _ _ _ rfl with h3 | ⟨y,_,h4⟩
    ·exact hxn h3
    ·exact hj'.no h4 hxD
  obtain ⟨n,es,k1,k2,k3,hK⟩:=tkx_det hop hg hd hw
  rw [g1,if_neg hps,fpn s sD snp] at k1
  rw [heq1.2,Fp.env1,Env.noRef_cons,Eff.noRef,Bool.and_eq_true] at k2
  have g2:∀ m,m≠d->m≠s->Env.get ((d,.xo n es)::(s,.undef)::e') m=e'.get m:=fun m h1 h2=>by
   rw [Env.get_cons,if_neg (fun e=>h1 e.symm),Env.get_cons,if_neg (fun e=>h2 e.symm)]
  have nr:∀ c,Env.noRef c ((d,EV.xo n es)::(s,EV.undef)::e')=Env.noRef c e':=fun c=>by
   simp [Env.noRef_cons,EV.noR,EV.ref]
  have L:Like p.op fp (some dp) e' ((d,.xo n es)::(s,.undef)::e'):=by
   refine ⟨fun x hx=>.inl (g2 x (fun e=>dnp (e ▸ hx)) (fun e=>snp (e ▸ hx))),fun x hx r hr=>.inl (g2 r (fun e=>hj'.no hr (e ▸ dD)) (fun e=>hj'.no hr (e ▸ sD))),fun x hx _=>g2 x (fun e=>dnp (e ▸ dem_slots hx)) (fun e=>snp (e ▸ dem_slots hx)),?_,fun hn d' hd' hno=>by rw [nr]; exact hno⟩
   have h1:=Fp.slot
   have h2:=Fp.ok
   have h4:=Fp.cell
   cases fp with
   | none=>trivial
   | slot x t=>
    simp only [Eff.ok] at h2 ⊢
    rw [g2 x (fun e=>dnp (e ▸ dem_slots (h1 _ _ rfl))) (fun e=>snp (e ▸ dem_slots (h1 _ _ rfl)))]
    exact h2
   | cell x off t=>
    obtain ⟨ds,h5,h6⟩:=h2
    refine ⟨ds,?_,h6⟩
    rw [g2 x (fun e=>?_) (fun e=>?_)]
    ·exact h5
    ·rcases h4 _ _ _ rfl with h7 | ⟨y,_,h8⟩
     ·exact dnp (e ▸ h7)
     ·exact hj'.no h8 (e ▸ dD)
    ·rcases h4 _ _ _ rfl with h7 | ⟨y,_,h8⟩
     ·exact snp (e ▸ h7)
     ·exact hj'.no h8 (e ▸ sD)
  have hgp:∀ g∈p.gsl,Env.get ((d,.xo n es)::(s,.undef)::e') g=e'.get g:=fun g hg'=>g2 g (fun e=>dng (e ▸ hg')) (fun e=>sng (e ▸ hg'))
  refine ⟨e',heq,tkx_run hop hg hd k1 k2.2 k3 ⟨_,.refl _,Fp.again _ L hgp _ (wpE_eq hK ?_)⟩⟩
  refine ⟨fun m=>?_,fun c=>?_⟩
  ·simp only [Env.get_cons,Eff.get,g1]
   by_cases h1:d=m
   ·subst h1
    rw [if_pos rfl,if_neg hpd,fpn d dD dnp,if_pos rfl]
   ·rw [if_neg h1]
    by_cases h2:s=m
    ·subst h2
     rw [if_pos rfl,if_neg hps,fpn s sD snp,if_neg h1,if_pos rfl]
    ·rw [if_neg h2]
     by_cases h3:dp=m
     ·rw [if_pos h3,if_pos h3]
     ·rw [if_neg h3,if_neg h3,if_neg h1,if_neg h2]
  ·simp only [Env.noRef_cons,Eff.noRef,heq1.2,Fp.env1]
   have e1:EV.noR c (EV.xo n es)=true:=rfl
   have e2:EV.noR c EV.undef=true:=rfl
   rw [e1,e2]
   cases EV.noR c ep <;> rfl
 ·cases hpair
end
end Go.Sf
