/- A store into a box that nobody points at, and an operation in front of it that does not read that box. -/
import Derived.Test.YtlbmpkmkmkgniaaGreatDoorSfSwap
namespace Go.Sf
open Go.RowKit (Below)
def okPairSt (D:List Nat) (p q:PR):Bool:=
 match q.op,q.guard,q.dst with
 | .stb _ b v,none,none=>PR.movOk D p&&D.contains b&&H3 p.dst.toList (b::v.sl)&&H3 [b] (p.op.slots++p.gsl)&&H3 p.op.dem v.sl
 | .stx _ b s,none,none=>PR.movOk D p&&D.contains b&&H3 p.dst.toList (b::[s])&&H3 [b] (p.op.slots++p.gsl)&&H3 p.op.dem [s]&&H3 [s] p.op.slots&&D.contains s
 | _,_,_=>false
def Lp (b:Nat) (cs:List AU) (q:Option (Nat × EV)) (env:AC):AC:=
 (b,.bx cs)::(match q with | some (s,t)=>(s,t)::env | none=>env)
theorem He (b:Nat) (cs:List AU) (q:Option (Nat × EV)) (env:AC) (n:Nat):AC.get (Lp b cs q env) n=if b=n then .bx cs else (match q with | some (s,t)=>if s=n then t else env.get n | none=>env.get n):=by
 cases q with
 | none=>rfl
 | some st=>rfl
theorem Hu (b:Nat) (cs:List AU) (q:Option (Nat × EV)) (env:AC) (d:Nat) (h:∀ s e,q=some (s,e)->e.noR d=true):AC.noRef d (Lp b cs q env)=AC.noRef d env:=by
 cases q with
 | none=>simp [Lp,AC.noRef_cons,EV.noR,EV.ref]
 | some p=>
  obtain ⟨s,e⟩:=p
  have h':=h s e rfl
  simp only [Lp,AC.noRef_cons,h',Bool.true_and]
  simp [EV.noR,EV.ref]
structure dM (S:FuncId->List TV->CH->Prop) (q:PR) (b:Nat) (v:AJ) (env env1:AC) (cs cs':List AU) (o:Option (Nat × EV)):Prop where
 env1:env1=Lp b cs' o env
 box:env.get b=.bx cs
 own:∀ s e,o=some (s,e)->v=.s s∧((∃ t,e=.tv t∧env.get s=.ow t)∨(e=.undef∧(∃ ds,env.get s=.oag ds)∧∃ n,q.op=.stx n b s))∧s≠b
 val:∀ cs,v.ev env≠.bx cs
 again:∀ env2,env2.noRef b=true->env2.get b=.bx cs->v.ev env2=v.ev env->∀ K2:AC->Prop,K2 (Lp b cs' o env2)->q.wp S env2 K2
theorem eF {S:FuncId->List TV->CH->Prop} {q:PR} {env:AC} {K:AC->Prop} {n b:Nat} {v:AJ} (hop:q.op=.stb n b v∨∃ s,v=.s s∧q.op=.stx n b s) (hg:q.guard=none) (hd:q.dst=none) (h:q.wp S env K):∃ env1,K env1∧∃ cs cs' o,dM S q b v env env1 cs cs' o:=by
 rcases hop with hop | ⟨s,rfl,hop⟩
 ·unfold PR.wp at h
  rw [hg,hop,hd] at h
  simp only [AH.wp] at h
  split at h
  ·rename_i cs hs
   split at h
   ·rename_i t hv
    cases v with
    | c t=>exact h.elim
    | s q'=>
     simp only at h
     simp only [AJ.ev] at hv
     refine ⟨_,h.2.2.2,cs,_,some (q',.tv t),rfl,hs,?_,?_,fun env2 h0 h1 h2 K2 hK2=>?_⟩
     ·intro s' t' he
      simp only [zzY,Prod.mk.injEq] at he
      obtain ⟨rfl,rfl⟩:=he
      exact ⟨rfl,.inl ⟨t,rfl,hv⟩,h.1⟩
     ·intro cs; simp [AJ.ev,hv]
     ·simp only [AJ.ev] at h2
      unfold PR.wp
      rw [hg,hop,hd]
      simp only [AH.wp,h1,AJ.ev,h2,hv]
      exact ⟨h.1,h.2.1,h.2.2.1,hK2⟩
   ·rename_i t hv
    refine ⟨_,h.2.2,cs,_,none,rfl,hs,by simp,by simp [hv],fun env2 h0 h1 h2 K2 hK2=>?_⟩
    unfold PR.wp
    rw [hg,hop,hd]
    simp only [AH.wp,h1,h2,hv]
    exact ⟨h.1,h.2.1,hK2⟩
   ·exact h.elim
  ·exact h.elim
 ·unfold PR.wp at h
  rw [hg,hop,hd] at h
  simp only [AH.wp] at h
  split at h
  ·rename_i cs ds hs hv
   refine ⟨_,h.2.2.2,cs,_,some (s,.undef),rfl,hs,?_,by simp [AJ.ev,hv],fun env2 h0 h1 h2 K2 hK2=>?_⟩
   ·intro s' t' he
    simp only [zzY,Prod.mk.injEq] at he
    obtain ⟨rfl,rfl⟩:=he
    exact ⟨rfl,.inr ⟨rfl,⟨ds,hv⟩,n,hop⟩,h.1⟩
   ·simp only [AJ.ev] at h2
    unfold PR.wp
    rw [hg,hop,hd]
    simp only [AH.wp,h1,h2,hv]
    exact ⟨h.1,⟨h.2.1.1,by rw [AC.noX_ref h0,Bool.or_true]⟩,h.2.2.1,hK2⟩
  ·exact h.elim
section
variable {P:Program} {F0:Nat->Nat->Prop} {w0:W0} {N:Nat} {ops:Array Oper} {K:AC->Prop} {D:List Nat}
theorem dG {env:AC} (hR:LC F0 w0 N env) (hj:JD D env) {op:Oper} {p q:PR} (hp:L3 P N ops op p=true) (hpair:okPairSt D p q=true) {rs:List PR} (h:JC (AR P) K (p::q::rs) env):JC (AR P) K (q::p::rs) env:=by
 have key:∃ n b v,(q.op=.stb n b v∨∃ s,v=.s s∧q.op=.stx n b s)∧q.guard=none∧q.dst=none∧(((((PR.movOk D p=true∧D.contains b=true)∧H3 p.dst.toList (b::v.sl)=true)∧H3 [b] (p.op.slots++p.gsl)=true)∧H3 p.op.dem v.sl=true)∧(∀ n s,q.op=.stx n b s->H3 [s] p.op.slots=true∧D.contains s=true)):=by
  unfold okPairSt at hpair
  split at hpair
  ·rename_i n b v hop hg hd
   simp only [zzZ] at hpair
   exact ⟨n,b,v,.inl hop,hg,hd,hpair,fun n s h=>by rw [hop] at h; cases h⟩
  ·rename_i n b s hop hg hd
   simp only [zzZ] at hpair
   refine ⟨n,b,.s s,.inr ⟨s,rfl,hop⟩,hg,hd,hpair.1.1,fun n' s' h=>?_⟩
   rw [hop] at h
   simp only [AH.stx.injEq] at h
   obtain ⟨_,_,rfl⟩:=h
   exact ⟨hpair.1.2,hpair.2⟩
  ·cases hpair
 clear hpair
 obtain ⟨n,b,v,hop,hg,hd,hpair,hstx⟩:=key
 ·simp only [PR.movOk,zzZ,Bool.or_eq_true,Bool.not_eq_true'] at hpair
  obtain ⟨⟨⟨⟨⟨⟨⟨⟨pm,pd⟩,pg⟩,pb⟩,pD⟩,bD⟩,c1⟩,c2⟩,c3⟩:=hpair
  obtain ⟨dp,hdp⟩:=Option.isSome_iff_exists.1 pd
  rw [hdp] at c1
  simp only [Option.toList_some] at c1
  have bD:b∈D:=by simpa using bD
  have hpb:dp≠b:=fun e=>C8 c1 (x:=dp) (by simp) (by simp [e])
  have pnv:dp ∉ v.sl:=fun e=>C8 c1 (x:=dp) (by simp) (by simp [e])
  have bnp:b ∉ p.op.slots:=fun e=>C8 c2 (x:=b) (by simp) (HY e)
  have bng:b ∉ p.gsl:=fun e=>C8 c2 (x:=b) (by simp) (G8 e)
  have dv:∀ s,s∈p.op.dem->s∈v.sl->False:=fun s h1 h2=>C8 c3 h1 h2
  have pg':p.op.isNew=true->p.guard=none:=fun hn=>by
   rcases pg with h | h
   ·rw [hn] at h; cases h
   ·simpa using h
  obtain ⟨e',heq,h⟩:=h
  have hR':=hR.congr heq.symm
  have hj':=hj.congr heq.symm
  obtain ⟨env1,⟨⟨e1,heq1,hw⟩,ep,fp,Fp⟩,hR1⟩:=J3 hR' hp (N9 hdp pm pg' h)
  have hj1:=Fp.jd pb hj'
  have g1:∀ n,e1.get n=if dp=n then ep else fp.on n (e'.get n):=fun n=>by
   rw [heq1.1,Fp.env1,AC.get_cons,B3.get]
  have fpb:∀ e,fp.on b e=e:=by
   intro e
   have:=Fp.slot
   have h2:=Fp.cell
   cases fp with
   | none=>rfl
   | slot s t=>
    simp only [B3.on]
    rw [if_neg]
    intro he; subst he
    exact bnp (FH (this _ _ rfl))
   | cell s off t=>
    simp only [B3.on]
    rw [if_neg]
    intro he; subst he
    rcases h2 _ _ _ rfl with h3 | ⟨x,_,h4⟩
    ·exact bnp h3
    ·exact hj'.no h4 bD
  have gb:e1.get b=e'.get b:=by rw [g1,if_neg hpb,fpb]
  obtain ⟨X1,hK,cs,cs',o,Fs⟩:=eF hop hg hd hw
  have hbox:e'.get b=.bx cs:=by rw [←gb]; exact Fs.box
  have hv:v.ev e'=v.ev e1:=by
   cases v with
   | c t=>rfl
   | s m=>
    have hm:dp≠m:=fun e=>pnv (by simp [AJ.sl,e])
    simp only [AJ.ev]
    have hval:=Fs.val
    simp only [AJ.ev] at hval
    rw [g1,if_neg hm] at hval ⊢
    have h1:=Fp.slot
    have h2:=Fp.ok
    cases fp with
    | none=>rfl
    | slot s t=>
     simp only [B3.on]
     rw [if_neg (fun (e:s=m)=>dv s (h1 _ _ rfl) (by simp [AJ.sl,e]))]
    | cell s off t=>
     simp only [B3.on] at hval ⊢
     split
     ·rename_i e
      subst e
      obtain ⟨ds,h3,_⟩:=h2
      rw [if_pos rfl,h3] at hval
      exact absurd rfl (hval _)
     ·rfl
  have hown:∀ s e,o=some (s,e)->((∃ t,e=.tv t∧e'.get s=.ow t)∨(e=.undef∧∃ ds,e'.get s=.oag ds))∧s≠b∧s∈v.sl∧s≠dp:=by
   intro s t ho
   obtain ⟨h1,h2,h3⟩:=Fs.own s t ho
   subst h1
   simp only [AJ.ev] at hv
   refine ⟨?_,h3,by simp [AJ.sl],fun e=>pnv (by simp [AJ.sl,e])⟩
   rw [hv]
   rcases h2 with h2 | ⟨h2,h4,_⟩
   ·exact .inl h2
   ·exact .inr ⟨h2,h4⟩
  have hown2:∀ s,o=some (s,.undef)->s ∉ p.op.slots∧s∈D:=by
   intro s ho
   obtain ⟨_,h2,_⟩:=Fs.own s _ ho
   rcases h2 with ⟨t,h2,_⟩ | ⟨_,_,n',h4⟩
   ·cases h2
   ·obtain ⟨h5,h6⟩:=hstx n' s h4
    exact ⟨fun e=>C8 h5 (by simp) e,by simpa using h6⟩
  have hnoR:∀ d s e,o=some (s,e)->e.noR d=true:=by
   intro d s e ho
   rcases (hown s e ho).1 with ⟨t,rfl,_⟩ | ⟨rfl,_⟩ <;> rfl
  have hnbx:∀ s e,o=some (s,e)->∀ ds,e'.get s≠.bx ds:=by
   intro s e ho ds h
   rcases (hown s e ho).1 with ⟨t,_,h2⟩ | ⟨_,ds',h2⟩ <;> rw [h2] at h <;> cases h
  have g2:∀ n,b≠n->(∀ s t,o=some (s,t)->s≠n)->AC.get (Lp b cs' o e') n=e'.get n:=by
   intro n h1 h2
   rw [He,if_neg h1]
   cases o with
   | none=>rfl
   | some st=>
    obtain ⟨s,t⟩:=st
    simp only
    rw [if_neg (h2 s t rfl)]
  have lk:∀ n,b≠n->o≠some (n,.undef)->(e'.get n).like (AC.get (Lp b cs' o e') n):=by
   intro n h1 h0
   rw [He,if_neg h1]
   cases o with
   | none=>exact .inl rfl
   | some st=>
    obtain ⟨s,t⟩:=st
    simp only
    split
    ·rename_i e
     subst e
     rcases (hown s t rfl).1 with ⟨t,rfl,h3⟩ | ⟨rfl,_⟩
     ·obtain ⟨m,es,rfl⟩:=hR'.list h3
      exact .inr (.inl ⟨m,es,.inr ⟨h3,rfl⟩⟩)
     ·exact absurd rfl h0
    ·exact .inl rfl
  have L:FZ p.op fp (some dp) e' (Lp b cs' o e'):=by
   refine ⟨fun s hs=>lk s (fun e=>bnp (e ▸ hs)) (fun e=>(hown2 s e).1 hs),fun s hs r hb=>lk r (fun e=>hj'.no hb (e ▸ bD)) (fun e=>hj'.no hb (hown2 r e).2),fun s hs _=>g2 s (fun e=>bnp (e ▸ FH hs)) (fun s' t ho e=>dv s hs (e ▸ (hown s' t ho).2.2.1)),?_,fun hn d hd hno=>by rw [Hu _ _ _ _ _ (hnoR d)]; exact hno⟩
   have h1:=Fp.slot
   have h2:=Fp.ok
   have h3:=fpb
   have h4:=Fp.cell
   cases fp with
   | none=>trivial
   | slot s t=>
    simp only [B3.ok] at h2 ⊢
    rw [g2 s (fun e=>bnp (e ▸ FH (h1 _ _ rfl))) (fun s' t ho e=>dv s (h1 _ _ rfl) (e ▸ (hown s' t ho).2.2.1))]
    exact h2
   | cell s off t=>
    obtain ⟨ds,h5,h6⟩:=h2
    refine ⟨ds,?_,h6⟩
    rw [g2 s (fun e=>?_) (fun s' t' ho e=>?_)]
    ·exact h5
    ·rcases h4 _ _ _ rfl with h7 | ⟨x,_,h8⟩
     ·exact bnp (e ▸ h7)
     ·exact hj'.no h8 (e ▸ bD)
    ·exact hnbx s' t' ho _ (e ▸ h5)
  have hgp:∀ g∈p.gsl,AC.get (Lp b cs' o e') g=e'.get g:=by
   intro g hg
   obtain ⟨bb,hb,_,hno,hno'⟩:=Ob h g hg
   refine g2 g (fun e=>bng (e ▸ hg)) (fun s t ho e=>?_)
   rcases (hown s t ho).1 with ⟨t,_,h2⟩ | ⟨_,ds',h2⟩
   ·rw [←e,h2] at hb; exact absurd hb.symm (hno _)
   ·rw [←e,h2] at hb; exact absurd hb.symm (hno' _)
  refine ⟨e',heq,Fs.again e' (hj' _ bD) hbox hv _ ⟨_,.refl _,Fp.again _ L hgp _ (MQ hK ?_)⟩⟩
  rw [Fs.env1]
  refine ⟨fun n=>?_,fun d=>?_⟩
  ·rw [AC.get_cons,B3.get,He,He]
   by_cases h1:dp=n
   ·subst h1
    rw [if_neg (fun e=>hpb e.symm),if_pos rfl]
    cases o with
    | none=>simp only; rw [g1,if_pos rfl]
    | some st=>
     obtain ⟨s,t⟩:=st
     simp only
     rw [if_neg (hown s t rfl).2.2.2,g1,if_pos rfl]
   ·rw [if_neg h1]
    by_cases h2:b=n
    ·subst h2
     rw [if_pos rfl,if_pos rfl,fpb]
    ·rw [if_neg h2,if_neg h2]
     cases o with
     | none=>simp only; rw [g1,if_neg h1]
     | some st=>
      obtain ⟨s,t⟩:=st
      simp only
      by_cases h3:s=n
      ·subst h3
       rw [if_pos rfl,if_pos rfl]
       have h4:=Fp.slot
       have h5:=Fp.ok
       have h6:=(hown s t rfl)
       have h6':=hnbx s t rfl
       have h6'':∀ ds,t≠.bx ds:=by
        intro ds h
        rcases h6.1 with ⟨t,rfl,_⟩ | ⟨rfl,_⟩ <;> cases h
       cases fp with
       | none=>rfl
       | slot s' t'=>
        simp only [B3.on]
        rw [if_neg (fun (e:s'=s)=>dv s' (h4 _ _ rfl) (by rw [e]; exact h6.2.2.1))]
       | cell s' off t'=>
        simp only [B3.on]
        split
        ·rename_i e
         subst e
         obtain ⟨ds,h7,_⟩:=h5
         exact absurd h7 (h6' _)
        ·rfl
      ·rw [if_neg h3,if_neg h3,g1,if_neg h1]
  ·rw [Hu _ _ _ _ _ (hnoR d),heq1.2,Fp.env1,AC.noRef_cons,B3.noRef,AC.noRef_cons,B3.noRef,Hu _ _ _ _ _ (hnoR d)]
def okPairT (D:List Nat) (p q:PR):Bool:=
 match q.op,q.guard,q.dst with
 | .tkx s,none,some d=>PR.movOk D p&&D.contains s&&D.contains d&&H3 p.dst.toList [s,d]&&H3 [s,d] (p.op.slots++p.gsl)
 | _,_,_=>false
theorem WG {S:FuncId->List TV->CH->Prop} {q:PR} {env:AC} {K:AC->Prop} {s d:Nat} (hop:q.op=.tkx s) (hg:q.guard=none) (hd:q.dst=some d) (h:q.wp S env K):∃ n es,env.get s=.xo n es∧env.noRef d=true∧d≠s∧K ((d,.xo n es)::(s,.undef)::env):=by
 simp only [PR.wp,hop,hg,hd,AH.wp,AC.put] at h
 split at h
 ·rename_i d' n es hdd hs
  simp only [zzY] at hdd
  subst hdd
  exact ⟨n,es,hs,h.1,h.2.1,h.2.2⟩
 ·exact h.elim
theorem WH {S:FuncId->List TV->CH->Prop} {q:PR} {env:AC} {K:AC->Prop} {s d n:Nat} {es:List TV} (hop:q.op=.tkx s) (hg:q.guard=none) (hd:q.dst=some d) (h1:env.get s=.xo n es) (h2:env.noRef d=true) (h3:d≠s) (h:K ((d,.xo n es)::(s,.undef)::env)):q.wp S env K:=by
 simp only [PR.wp,hop,hg,hd,AH.wp,AC.put,h1]
 exact ⟨h2,h3,h⟩
theorem fk {env:AC} (hR:LC F0 w0 N env) (hj:JD D env) {op:Oper} {p q:PR} (hp:L3 P N ops op p=true) (hpair:okPairT D p q=true) {rs:List PR} (h:JC (AR P) K (p::q::rs) env):JC (AR P) K (q::p::rs) env:=by
 unfold okPairT at hpair
 split at hpair
 ·rename_i s d hop hg hd
  simp only [PR.movOk,zzZ,Bool.or_eq_true,Bool.not_eq_true'] at hpair
  obtain ⟨⟨⟨⟨⟨⟨⟨⟨pm,pd⟩,pg⟩,pb⟩,pD⟩,sD⟩,dD⟩,c1⟩,c2⟩:=hpair
  obtain ⟨dp,hdp⟩:=Option.isSome_iff_exists.1 pd
  rw [hdp] at c1
  simp only [Option.toList_some] at c1
  have sD:s∈D:=by simpa using sD
  have dD:d∈D:=by simpa using dD
  have hps:dp≠s:=fun e=>C8 c1 (x:=dp) (by simp) (by simp [e])
  have hpd:dp≠d:=fun e=>C8 c1 (x:=dp) (by simp) (by simp [e])
  have snp:s ∉ p.op.slots:=fun e=>C8 c2 (x:=s) (by simp) (HY e)
  have dnp:d ∉ p.op.slots:=fun e=>C8 c2 (x:=d) (by simp) (HY e)
  have sng:s ∉ p.gsl:=fun e=>C8 c2 (x:=s) (by simp) (G8 e)
  have dng:d ∉ p.gsl:=fun e=>C8 c2 (x:=d) (by simp) (G8 e)
  have pg':p.op.isNew=true->p.guard=none:=fun hn=>by
   rcases pg with h | h
   ·rw [hn] at h; cases h
   ·simpa using h
  obtain ⟨e',heq,h⟩:=h
  have hR':=hR.congr heq.symm
  have hj':=hj.congr heq.symm
  obtain ⟨env1,⟨⟨e1,heq1,hw⟩,ep,fp,Fp⟩,hR1⟩:=J3 hR' hp (N9 hdp pm pg' h)
  have g1:∀ n,e1.get n=if dp=n then ep else fp.on n (e'.get n):=fun n=>by
   rw [heq1.1,Fp.env1,AC.get_cons,B3.get]
  have fpn:∀ x,x∈D->x ∉ p.op.slots->∀ e,fp.on x e=e:=by
   intro x hxD hxn e
   have:=Fp.slot
   have h2:=Fp.cell
   cases fp with
   | none=>rfl
   | slot s t=>
    simp only [B3.on]
    rw [if_neg]
    intro he; subst he
    exact hxn (FH (this _ _ rfl))
   | cell s off t=>
    simp only [B3.on]
    rw [if_neg]
    intro he; subst he
    rcases h2 _ _ _ rfl with h3 | ⟨y,_,h4⟩
    ·exact hxn h3
    ·exact hj'.no h4 hxD
  obtain ⟨n,es,k1,k2,k3,hK⟩:=WG hop hg hd hw
  rw [g1,if_neg hps,fpn s sD snp] at k1
  rw [heq1.2,Fp.env1,AC.noRef_cons,B3.noRef,zzZ] at k2
  have g2:∀ m,m≠d->m≠s->AC.get ((d,.xo n es)::(s,.undef)::e') m=e'.get m:=fun m h1 h2=>by
   rw [AC.get_cons,if_neg (fun e=>h1 e.symm),AC.get_cons,if_neg (fun e=>h2 e.symm)]
  have nr:∀ c,AC.noRef c ((d,EV.xo n es)::(s,EV.undef)::e')=AC.noRef c e':=fun c=>by
   simp [AC.noRef_cons,EV.noR,EV.ref]
  have L:FZ p.op fp (some dp) e' ((d,.xo n es)::(s,.undef)::e'):=by
   refine ⟨fun x hx=>.inl (g2 x (fun e=>dnp (e ▸ hx)) (fun e=>snp (e ▸ hx))),fun x hx r hr=>.inl (g2 r (fun e=>hj'.no hr (e ▸ dD)) (fun e=>hj'.no hr (e ▸ sD))),fun x hx _=>g2 x (fun e=>dnp (e ▸ FH hx)) (fun e=>snp (e ▸ FH hx)),?_,fun hn d' hd' hno=>by rw [nr]; exact hno⟩
   have h1:=Fp.slot
   have h2:=Fp.ok
   have h4:=Fp.cell
   cases fp with
   | none=>trivial
   | slot x t=>
    simp only [B3.ok] at h2 ⊢
    rw [g2 x (fun e=>dnp (e ▸ FH (h1 _ _ rfl))) (fun e=>snp (e ▸ FH (h1 _ _ rfl)))]
    exact h2
   | cell x off t=>
    obtain ⟨ds,h5,h6⟩:=h2
    refine ⟨ds,?_,h6⟩
    rw [g2 x (fun e=>?_) (fun e=>?_)]
    ·exact h5
    ·rcases h4 _ _ _ rfl with h7 | ⟨y,_,h8⟩
     ·exact dnp (e ▸ h7)
     ·exact hj'.no h8 (e ▸ dD)
    ·rcases h4 _ _ _ rfl with h7 | ⟨y,_,h8⟩
     ·exact snp (e ▸ h7)
     ·exact hj'.no h8 (e ▸ sD)
  have hgp:∀ g∈p.gsl,AC.get ((d,.xo n es)::(s,.undef)::e') g=e'.get g:=fun g hg'=>g2 g (fun e=>dng (e ▸ hg')) (fun e=>sng (e ▸ hg'))
  refine ⟨e',heq,WH hop hg hd k1 k2.2 k3 ⟨_,.refl _,Fp.again _ L hgp _ (MQ hK ?_)⟩⟩
  refine ⟨fun m=>?_,fun c=>?_⟩
  ·simp only [AC.get_cons,B3.get,g1]
   by_cases h1:d=m
   ·subst h1
    rw [if_pos rfl,if_neg hpd,fpn d dD dnp,if_pos rfl]
   ·rw [if_neg h1]
    by_cases h2:s=m
    ·subst h2
     rw [if_pos rfl,if_neg hps,fpn s sD snp,if_neg h1,if_pos rfl]
    ·rw [if_neg h2]
     by_cases h3:dp=m
     ·rw [if_pos h3,if_pos h3]
     ·rw [if_neg h3,if_neg h3,if_neg h1,if_neg h2]
  ·simp only [AC.noRef_cons,B3.noRef,heq1.2,Fp.env1]
   have e1:EV.noR c (EV.xo n es)=true:=rfl
   have e2:EV.noR c EV.undef=true:=rfl
   rw [e1,e2]
   cases EV.noR c ep <;> rfl
 ·cases hpair
def fE:AH->Bool
 | .xal _=>true
 | .bad _ _=>true
 | .fad _ _=>true
 | .ld _=>true
 | _=>false
def okPairX (D:List Nat) (p q:PR):Bool:=
 match q.op,q.guard,q.dst,p.guard,p.dst with
 | .xst x v,none,none,none,some d=>PR.movOk D p&&fE p.op&&!(x.sl.contains d)&&!(v.sl.contains d)
 | _,_,_,_,_=>false
theorem Qo {env:AC} {q:Nat} {i:Option Nat} {n:Nat} {es es':List TV} (h:env.xat q i=some (n,es)):(∃ u,AC.get (env.xput q i n es') q=u∧((∃ m fs,env.get q=.xo m fs∧∃ m' fs',u=.xo m' fs')∨(∃ cs k,i=some k∧cs[k]?=some ⟨true,.xl n es⟩∧env.get q=.bx cs∧u=.bx (cs.set k ⟨true,.xl n es'⟩))))∧(∀ m,q≠m->AC.get (env.xput q i n es') m=env.get m)∧∀ d,AC.noRef d (env.xput q i n es')=env.noRef d:=by
 cases i with
 | none=>
  simp only [AC.xat] at h
  split at h
  ·rename_i m fs hq
   refine ⟨⟨_,rfl,.inl ⟨m,fs,hq,n,es',by simp [AC.xput,AC.get_cons]⟩⟩,fun m hm=>by simp only [AC.xput,AC.get_cons]; rw [if_neg hm],fun d=>?_⟩
   simp [AC.xput,AC.noRef_cons,EV.noR,EV.ref]
  ·cases h
 | some k=>
  simp only [AC.xat] at h
  split at h
  ·rename_i cs hq
   split at h
   ·rename_i m fs hk
    simp only [zzY,Prod.mk.injEq] at h
    obtain ⟨rfl,rfl⟩:=h
    refine ⟨⟨_,rfl,.inr ⟨cs,k,rfl,hk,hq,by simp [AC.xput,hq,AC.get_cons]⟩⟩,fun m hm=>by simp only [AC.xput,hq,AC.get_cons]; rw [if_neg hm],fun d=>?_⟩
    simp [AC.xput,hq,AC.noRef_cons,EV.noR,EV.ref]
   ·cases h
  ·cases h
theorem cF (l:List AU) (off:Nat):HM ((l.drop off).map (·.t))=(l[off]?).map (·.t):=by
 rw [show l[off]?=(l.drop off)[0]? by rw [List.getElem?_drop,Nat.add_zero]]
 cases l.drop off <;> rfl
theorem Zt {ds:List AU} {k off n:Nat} {es es':List TV} {t:TV} (ht:t.isXl=false) (h1:ds[k]?=some ⟨true,.xl n es⟩) (h2:HM ((ds.drop off).map (·.t))=some t):HM (((ds.set k ⟨true,.xl n es'⟩).drop off).map (·.t))=some t:=by
 rw [cF] at h2 ⊢
 by_cases e:k=off
 ·subst e
  rw [h1] at h2
  simp only [Option.map_some,zzY] at h2
  subst h2
  cases ht
 ·rw [List.getElem?_set,if_neg e]; exact h2
theorem cg {S:FuncId->List TV->CH->Prop} {op:AH} (ho:fE op=true) {env:AC} {dst:Option Nat} {K:EV->AC->Prop} (h:op.wp S env dst K) :
  ∃ e,K e env∧(∀ m fs,e≠.xo m fs)∧(∀ cs,e≠.bx cs)∧∀ (q n:Nat) (i:Option Nat) (es es':List TV),env.xat q i=some (n,es)->∀ K2:EV->AC->Prop,K2 e (env.xput q i n es')->op.wp S (env.xput q i n es') dst K2:=by
 have hno:∀ {q n:Nat} {i:Option Nat} {es es':List TV},env.xat q i=some (n,es)->∀ m e,env.get m=e->(∀ k fs,e≠.xo k fs)->(∀ cs,e≠.bx cs)->AC.get (env.xput q i n es') m=e:=fun {q n i es es'} hx m e h1 h2 h3=>by
  obtain ⟨⟨u,hu,hc⟩,hne,_⟩:=Qo (es':=es') hx
  rw [hne m (fun e'=>by
   subst e'
   rcases hc with ⟨_,_,h4,_⟩ | ⟨_,_,_,_,h4,_⟩
   ·exact h2 _ _ (h1.symm.trans h4)
   ·exact h3 _ (h1.symm.trans h4))]; exact h1
 have hbx:∀ {q n:Nat} {i:Option Nat} {es es':List TV},env.xat q i=some (n,es)->∀ m cs,env.get m=.bx cs->∃ cs',AC.get (env.xput q i n es') m=.bx cs'∧∀ off t,t.isXl=false->HM ((cs.drop off).map (·.t))=some t->HM ((cs'.drop off).map (·.t))=some t:=fun {q n i es es'} hx m cs h1=>by
  obtain ⟨⟨u,hu,hc⟩,hne,_⟩:=Qo (es':=es') hx
  by_cases e:q=m
  ·subst e
   rcases hc with ⟨_,_,h4,_⟩ | ⟨ds,k,_,h3,h4,rfl⟩
   ·rw [h1] at h4; cases h4
   ·rw [h1] at h4
    cases h4
    exact ⟨_,hu,fun off t ht hl=>Zt ht h3 hl⟩
  ·exact ⟨cs,by rw [hne m e,h1],fun _ _ _ hl=>hl⟩
 have hev:∀ {q n:Nat} {i:Option Nat} {es es':List TV},env.xat q i=some (n,es)->∀ (x:AJ) e,x.ev env=e->(∀ m fs,e≠.xo m fs)->(∀ cs,e≠.bx cs)->x.ev (env.xput q i n es')=e:=by
  intro q n i es es' hx x e he h1 h2
  cases x with
  | c t=>exact he
  | s y=>exact hno hx y e he h1 h2
 cases op with
 | xal s=>
  simp only [AH.wp] at h ⊢
  split at h
  ·rename_i m fs hs
   refine ⟨_,h,by simp,by simp,fun q n i es es' hx K2 hK2=>?_⟩
   obtain ⟨⟨u,hu,hc⟩,hne,_⟩:=Qo (es':=es') hx
   by_cases e:q=s
   ·subst e
    rcases hc with ⟨_,_,_,m',fs',rfl⟩ | ⟨_,_,_,_,h4,_⟩
    ·rw [hu]; exact hK2
    ·rw [hs] at h4; cases h4
   ·rw [hne s e,hs]; exact hK2
  ·exact h.elim
 | bad s k=>
  simp only [AH.wp] at h ⊢
  split at h
  ·rename_i cs hs
   refine ⟨_,h,by simp,by simp,fun q n i es es' hx K2 hK2=>?_⟩
   obtain ⟨cs',h1,_⟩:=hbx (es':=es') hx s cs hs
   rw [h1]; exact hK2
  ·rename_i row hs
   exact ⟨_,h,by simp,by simp,fun q n i es es' hx K2 hK2=>by rw [hno hx s _ hs (by simp) (by simp)]; exact hK2⟩
  ·exact h.elim
 | fad x k=>
  simp only [AH.wp] at h ⊢
  split at h
  ·rename_i row hx'
   exact ⟨_,h,by simp,by simp,fun q n i es es' hx K2 hK2=>by rw [hev hx x _ hx' (by simp) (by simp)]; exact hK2⟩
  ·rename_i s off hx'
   split at h
   ·rename_i cs hs
    refine ⟨_,h,by simp,by simp,fun q n i es es' hx K2 hK2=>?_⟩
    obtain ⟨cs',h1,_⟩:=hbx (es':=es') hx s cs hs
    rw [hev hx x _ hx' (by simp) (by simp)]; simp only; rw [h1]; exact hK2
   ·exact h.elim
  ·exact h.elim
 | ld x=>
  simp only [AH.wp] at h ⊢
  cases hc:BO env (x.ev env) with
  | none=>rw [hc] at h; exact h.elim
  | some cs=>
   rw [hc] at h
   simp only [A6] at h
   cases hl:HM cs with
   | none=>rw [hl] at h; exact h.elim
   | some t=>
    rw [hl] at h
    obtain ⟨ht,h⟩:=h
    refine ⟨_,h,by simp,by simp,fun q n i es es' hx K2 hK2=>?_⟩
    have ha:∃ cs',BO (env.xput q i n es') (x.ev (env.xput q i n es'))=some cs'∧HM cs'=some t:=by
     cases x with
     | c t'=>exact ⟨cs,by rw [←hc]; cases t' <;> rfl,hl⟩
     | s y=>
      simp only [AJ.ev] at hc ⊢
      cases hy:env.get y with
      | bp s off=>
       rw [hno hx y _ hy (by simp) (by simp)]
       rw [hy] at hc
       simp only [BO] at hc ⊢
       split at hc
       ·rename_i ds hs
        cases hc
        obtain ⟨cs',h1,h2⟩:=hbx (es':=es') hx s ds hs
        rw [h1]
        exact ⟨_,rfl,h2 _ _ ht hl⟩
       ·cases hc
      | tv t'=>
       rw [hno hx y _ hy (by simp) (by simp)]
       rw [hy] at hc
       exact ⟨cs,by rw [←hc]; cases t' <;> rfl,hl⟩
      | bx ds=>
       rw [hy] at hc
       simp only [BO,zzY] at hc
       subst hc
       obtain ⟨cs',h1,h2⟩:=hbx (es':=es') hx y ds hy
       rw [h1]
       have:=h2 0 t ht (by simpa using hl)
       exact ⟨_,rfl,by simpa using this⟩
      | _=>rw [hy] at hc; cases hc
    obtain ⟨cs',h1,h2⟩:=ha
    rw [h1]
    simp only [A6,h2]
    exact ⟨ht,hK2⟩
 | _=>cases ho
theorem Yv {env e1:AC} {d t n:Nat} {i:Option Nat} {e:EV} {es:List TV} (h1:MJ e1 ((d,e)::env)) (htd:d≠t):MJ (e1.xput t i n es) ((d,e)::env.xput t i n es):=by
 have hg:e1.get t=env.get t:=by rw [h1.1,AC.get_cons,if_neg htd]
 have main:∀ u:EV,(∀ c,EV.noR c u=true)->MJ ((t,u)::e1) ((d,e)::(t,u)::env):=by
  intro u hu
  refine ⟨fun m=>?_,fun c=>?_⟩
  ·rw [AC.get_cons,h1.1,AC.get_cons,AC.get_cons,AC.get_cons]
   by_cases k1:t=m
   ·subst k1; rw [if_pos rfl,if_neg htd,if_pos rfl]
   ·rw [if_neg k1]
    by_cases k2:d=m
    ·rw [if_pos k2,if_pos k2]
    ·rw [if_neg k2,if_neg k2,if_neg k1]
  ·rw [AC.noRef_cons,h1.2,AC.noRef_cons,AC.noRef_cons,AC.noRef_cons,hu]
   cases EV.noR c e <;> rfl
 cases i with
 | none=>exact main _ fun c=>rfl
 | some k=>
  simp only [AC.xput,hg]
  split
  ·exact main _ fun c=>rfl
  ·exact h1
theorem fm {env:AC} {p q:PR} (hpair:okPairX D p q=true) {rs:List PR} (h:JC (AR P) K (p::q::rs) env):JC (AR P) K (q::p::rs) env:=by
 unfold okPairX at hpair
 split at hpair
 ·rename_i x v d hop hg hd pg pd
  simp only [zzZ,Bool.not_eq_true',List.contains_eq_mem,decide_eq_false_iff_not] at hpair
  obtain ⟨⟨⟨_,ho⟩,hxd⟩,hvd⟩:=hpair
  obtain ⟨e',heq,h⟩:=h
  simp only [PR.wp,pg,pd,AC.put] at h
  obtain ⟨e,⟨e1,he1,hq⟩,hne,hnb,hrun⟩:=cg ho h
  have evx:∀ (y:AJ),d ∉ y.sl->y.ev e1=y.ev e':=by
   intro y hy
   cases y with
   | c t=>rfl
   | s m=>
    simp only [AJ.ev,he1.1,AC.get_cons]
    rw [if_neg]
    intro e; exact hy (by simp [AJ.sl,e])
  refine ⟨e',heq,?_⟩
  simp only [PR.wp,hg,hd,hop,AH.wp,evx x hxd,evx v hvd] at hq ⊢
  split at hq
  ·rename_i t i c hx
   split at hq
   ·rename_i n es u hat hu
    obtain ⟨k1,k2,es',k3,k4,k5,hK⟩:=hq
    have htd:d≠t:=by
     intro htd
     have hg:e1.get t=e:=by rw [he1.1,AC.get_cons,if_pos htd]
     cases i with
     | none=>
      simp only [AC.xat] at hat
      rw [hg] at hat
      revert hat hne
      cases e <;> simp
     | some k=>
      simp only [AC.xat] at hat
      rw [hg] at hat
      revert hat hnb
      cases e <;> simp
    have ht:e'.xat t i=some (n,es):=by
     have hg:e1.get t=e'.get t:=by rw [he1.1,AC.get_cons,if_neg htd]
     rw [←hat]
     exact AC.xat_of hg.symm
    rw [ht,hu]
    refine ⟨k1,k2,es',k3,k4,k5,_,.refl _,?_⟩
    simp only [PR.wp,pg,pd,AC.put] at hK ⊢
    exact hrun t n i es es' ht _ (MQ hK (Yv he1 htd))
   ·exact hq.elim
  ·exact hq.elim
 ·cases hpair
end
end Go.Sf
