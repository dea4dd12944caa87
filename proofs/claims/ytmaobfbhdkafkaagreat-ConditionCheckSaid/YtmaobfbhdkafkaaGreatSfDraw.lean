/- Regions whose order is drawn. -/
import Derived.Test.YtmaobfbhdkafkaaGreatSfSwapSt
namespace Go.Sf
open Go.RowKit (Below)
def LM (rs:List PR) (i:Nat):PR:=(rs[i]?).getD ⟨none,.nilo 0,none⟩
def okBd (p:PR):Bool:=match p.op,p.guard,p.dst with
 | .bldo _,none,some _=>true
 | _,_,_=>false
def okPairB (p q:PR):Bool:=match p.op,p.guard,p.dst,q.op,q.guard,q.dst with
 | .bldo qs,none,some dp,.alc _,none,some dq=>dp != dq&&!qs.contains dq
 | _,_,_,_,_,_=>false
theorem VO {p q:PR} (h:okPairB p q=true):okBd p=true:=by
 unfold okPairB at h
 split at h
 ·rename_i e1 e2 e3 _ _ _; simp [okBd,e1,e2,e3]
 ·cases h
def okPair2 (D:List Nat) (p q:PR):Bool:=Q5 D p q||okPairSt D p q||okPairB p q||okPairT D p q||okPairX D p q
def okQ (p:PR):Bool:=match p.op,p.guard,p.dst with
 | .tkx _,none,some _=>true
 | .appz _ _ _ _,none,some _=>true
 | _,_,_=>false
theorem T8 {D:List Nat} {p q:PR} (h:okPair2 D p q=true):PR.movOk D p=true∨okBd p=true:=by
 simp only [okPair2,Bool.or_eq_true] at h
 rcases h with (((h | h) | h) | h) | h
 ·simp only [Q5,Bool.and_eq_true] at h
  exact .inl h.1.1.1.1.1
 ·unfold okPairSt at h
  split at h
  ·simp only [Bool.and_eq_true] at h
   exact .inl h.1.1.1.1
  ·simp only [Bool.and_eq_true] at h
   exact .inl h.1.1.1.1.1.1
  ·cases h
 ·exact .inr (VO h)
 ·unfold okPairT at h
  split at h
  ·simp only [Bool.and_eq_true] at h
   exact .inl h.1.1.1.1
  ·cases h
 ·unfold okPairX at h
  split at h
  ·simp only [Bool.and_eq_true] at h
   exact .inl h.1.1.1
  ·cases h
def Y1 (ops:Array Oper):List Nat:=
 ops.toList.foldl (fun acc o=>acc++[o.after.toList.foldl (fun m e=>if Region.binds .any e then m ||| (1 <<< e.on) ||| acc.getD e.on 0 else m) 0]) []
def TM (D:List Nat) (r:PR):Bool:=
 Ky r.op||okBd r||okQ r||(r.op.mov&&r.dst.isSome&&(!r.op.isNew||r.guard.isNone)&&H7 r.op.bads D)
def PZ (P:Program) (N:Nat) (D:List Nat) (ops:Array Oper) (rs:List PR):Bool:=
 let n:=ops.size
 let M:=Y1 ops
 KQ P N ops ops.toList rs&&(List.range n).all (fun i=>TM D (LM rs i)) &&
 (List.range n).all (fun i=>match ops[i]? with
  | some o=>o.after.toList.all fun e=>!Region.binds .any e||decide (e.on<i)
  | none=>false) &&
 (List.range n).all (fun i=>(List.range n).all fun j=>!(M.getD i 0).testBit j||(match ops[i]? with
  | some o=>o.after.toList.any fun e=>Region.binds .any e&&(e.on==j||(decide (e.on<i)&&(M.getD e.on 0).testBit j))
  | none=>false)) &&
 (List.range n).all (fun i=>(List.range i).all fun j=>(M.getD i 0).testBit j||okPair2 D (LM rs j) (LM rs i))
section
variable {P:Program} {F0:Nat->Nat->Prop} {w0:W0} {N:Nat} {p:Option (Nat × Value)} {ops:Array Oper} {K:AC->Prop} {D:List Nat}
theorem FQ.refl {op:AE} {f:BR} {d:Option Nat} {env:AC} (h:f.ok env):FQ op f d env env:=
 ⟨fun _ _=>.inl rfl,fun _ _ _ _=>.inl rfl,fun _ _ _=>rfl,h,fun _ _ _ h=>h⟩
theorem Hk (d:Nat):∀ (qs:List Nat) (ts:List TV) (env:AC),AC.noRef d (C3 env qs ts)=AC.noRef d env
 | [],_,_=>by simp [C3]
 | _::_,[],_=>by simp [C3]
 | q::qs,t::ts,env=>by simp only [C3,AC.noRef_cons,Hk d qs ts env]; simp [EV.noR,EV.ref]
theorem Of:∀ (qs:List Nat) (ts:List TV) (env env2:AC) (n:Nat),env.get n=env2.get n->AC.get (C3 env qs ts) n=AC.get (C3 env2 qs ts) n
 | [],_,_,_,_,h=>by simpa [C3] using h
 | _::_,[],_,_,_,h=>by simpa [C3] using h
 | q::qs,t::ts,env,env2,n,h=>by simp only [C3,AC.get_cons,Of qs ts env env2 n h]
theorem PW:∀ (qs:List Nat) (ts:List TV) (env:AC) (n:Nat),n ∉ qs->AC.get (C3 env qs ts) n=env.get n
 | [],_,_,_,_=>by simp [C3]
 | _::_,[],_,_,_=>by simp [C3]
 | q::qs,t::ts,env,n,h=>by
  simp only [List.mem_cons,not_or] at h
  simp only [C3,AC.get_cons,if_neg (fun (e:q=n)=>h.1 e.symm),PW qs ts env n h.2]
theorem QA:∀ (qs:List Nat) (env:AC) (d:Nat) (e:EV),d ∉ qs->Hs ((d,e)::env) qs=Hs env qs
 | [],_,_,_,_=>rfl
 | q::qs,env,d,e,h=>by
  simp only [List.mem_cons,not_or] at h
  simp only [Hs,AC.get_cons,if_neg h.1,QA qs env d e h.2]
theorem QJ {S:FuncId->List TV->B9->Prop} {p:PR} {env:AC} {K:AC->Prop} {qs:List Nat} {d:Nat} (e1:p.op=.bldo qs) (e2:p.guard=none) (e3:p.dst=some d) (h:p.wp S env K) :
  ∃ ts,qs.Nodup∧d ∉ qs∧Hs env qs=some ts∧K ((d,.oag (ts.map (⟨true,·⟩)))::C3 env qs ts):=by
 simp only [PR.wp,e1,e2,e3,AE.wp,AC.put] at h
 obtain ⟨h1,h2,h3⟩:=h
 cases hts:Hs env qs with
 | none=>rw [hts] at h3; exact h3.elim
 | some ts=>rw [hts] at h3; exact ⟨ts,h1,h2,rfl,h3⟩
theorem N1 {S:FuncId->List TV->B9->Prop} {p:PR} {env:AC} {K:AC->Prop} {qs:List Nat} {d:Nat} {ts:List TV} (e1:p.op=.bldo qs) (e2:p.guard=none) (e3:p.dst=some d) (h1:qs.Nodup) (h2:d ∉ qs) (hts:Hs env qs=some ts)
  (h:K ((d,.oag (ts.map (⟨true,·⟩)))::C3 env qs ts)):p.wp S env K:=by
 simp only [PR.wp,e1,e2,e3,AE.wp,AC.put,hts]
 exact ⟨h1,h2,h⟩
theorem mn {p:PR} {o:Oper} (ho:Ll P N ops o p=true) {K:AC->Prop} (hm:PR.movOk D p=true∨okBd p=true) {e':AC} (hR:K8 F0 w0 N e') (hj:JD D e') (h:p.wp (AV P) e' K) :
  ∃ env1,K env1∧K8 F0 w0 N env1∧JD D env1∧∀ K2:AC->Prop,K2 env1->p.wp (AV P) e' K2:=by
 rcases hm with hm | hm
 ·simp only [PR.movOk,Bool.and_eq_true,Bool.or_eq_true,Bool.not_eq_true'] at hm
  obtain ⟨⟨⟨⟨pm,pd⟩,pg⟩,pb⟩,pD⟩:=hm
  obtain ⟨dp,hdp⟩:=Option.isSome_iff_exists.1 pd
  have pg':p.op.isNew=true->p.guard=none:=fun hn=>by
   rcases pg with h | h
   ·rw [hn] at h; cases h
   ·simpa using h
  obtain ⟨env1,⟨hw,ep,fp,Fp⟩,hR1⟩:=K1 hR ho (Nl hdp pm pg' h)
  exact ⟨env1,hw,hR1,Fp.jd pb hj,fun K2 hK2=>Fp.again e' (.refl Fp.ok) (fun _ _=>rfl) _ (by rw [←Fp.env1]; exact hK2)⟩
 ·unfold okBd at hm
  split at hm
  ·rename_i qs d e1 e2 e3
   obtain ⟨env1,hw,hR1⟩:=K1 (K:=fun env1=>K env1∧∃ ts,qs.Nodup∧d ∉ qs∧Hs e' qs=some ts∧env1=(d,.oag (ts.map (⟨true,·⟩)))::C3 e' qs ts) hR ho (by
    obtain ⟨ts,h1,h2,h3,h4⟩:=QJ e1 e2 e3 h
    exact N1 e1 e2 e3 h1 h2 h3 ⟨h4,ts,h1,h2,h3,rfl⟩)
   obtain ⟨hw,ts,h1,h2,h3,rfl⟩:=hw
   refine ⟨_,hw,hR1,fun x hx=>?_,fun K2 hK2=>N1 e1 e2 e3 h1 h2 h3 hK2⟩
   rw [AC.noRef_cons,Hk,hj x hx]
   rfl
  ·cases hm
theorem dN {p q:PR} (hpair:okPairB p q=true) {rs:List PR} {env:AC} (h:K7 (AV P) K (p::q::rs) env):K7 (AV P) K (q::p::rs) env:=by
 unfold okPairB at hpair
 split at hpair
 ·rename_i qs dp cs dq e1 e2 e3 f1 f2 f3
  simp only [Bool.and_eq_true,bne_iff_ne,ne_eq,Bool.not_eq_true',List.contains_eq_mem,decide_eq_false_iff_not] at hpair
  obtain ⟨hne,hq⟩:=hpair
  obtain ⟨e',heq,h⟩:=h
  obtain ⟨ts,h1,h2,h3,x,hx,hw⟩:=QJ e1 e2 e3 h
  simp only [PR.wp,f1,f2,f3,AE.wp,AC.put] at hw
  obtain ⟨hno,hw⟩:=hw
  rw [hx.2,AC.noRef_cons,Hk] at hno
  simp only [EV.noR,EV.ref,Bool.true_and] at hno
  refine ⟨e',heq,?_⟩
  simp only [PR.wp,f1,f2,f3,AE.wp,AC.put]
  refine ⟨hno,_,.refl _,N1 e1 e2 e3 h1 h2 (by rw [QA _ _ _ _ hq]; exact h3) (Pn hw ?_)⟩
  refine ⟨fun n=>?_,fun d=>?_⟩
  ·rw [AC.get_cons,hx.1,AC.get_cons,AC.get_cons]
   by_cases k1:dq=n
   ·subst k1
    rw [if_pos rfl,if_neg hne,PW _ _ _ _ hq,AC.get_cons,if_pos rfl]
   ·rw [if_neg k1]
    by_cases k2:dp=n
    ·rw [if_pos k2,if_pos k2]
    ·rw [if_neg k2,if_neg k2]
     refine Of _ _ _ _ _ ?_
     rw [AC.get_cons,if_neg k1]
  ·rw [AC.noRef_cons,hx.2,AC.noRef_cons,AC.noRef_cons,Hk,Hk,AC.noRef_cons]
   cases EV.noR d (EV.bx cs) <;> cases EV.noR d (EV.oag (ts.map (⟨true,·⟩))) <;> rfl
 ·cases hpair
theorem Vy {q:PR} {oq:Oper} (hq:Ll P N ops oq q=true) {post:List PR}:∀ (pre:List PR),(∀ p∈pre,okPair2 D p q=true∧∃ o,Ll P N ops o p=true)->∀ {env:AC},K8 F0 w0 N env->JD D env->K7 (AV P) K (pre++q::post) env->K7 (AV P) K (q::(pre++post)) env
 | [],_,env,_,_,h=>h
 | p::pre,hpre,env,hR,hj,h=>by
  obtain ⟨hpair,o,ho⟩:=hpre p (by simp)
  obtain ⟨e',heq,h⟩:=h
  obtain ⟨env1,hw,hR1,hj1,hrun⟩:=mn ho (T8 hpair) (hR.congr heq.symm) (hj.congr heq.symm) h
  have ih:=Vy hq pre (fun p hp=>hpre p (by simp [hp])) hR1 hj1 hw
  have hall:K7 (AV P) K (p::q::(pre++post)) env:=⟨e',heq,hrun _ ih⟩
  simp only [okPair2,Bool.or_eq_true] at hpair
  rcases hpair with (((hpair | hpair) | hpair) | hpair) | hpair
  ·exact swap hR hj ho hq hpair hall
  ·exact aq hR hj ho hpair hall
  ·exact dN hpair hall
  ·exact dO hR hj ho hpair hall
  ·exact dP hpair hall
theorem il {S:FuncId->List TV->B9->Prop} {n:Nat} {x v:AG} {d:Option Nat} {env:AC} {K:EV->AC->Prop} (h:(AE.st n x v).wp S env d K):(AE.st n x v).wp S env d fun e env'=>K e env'∧e=.undef∧∀ c,env'.noRef c=env.noRef c:=by
 simp only [AE.wp] at h ⊢
 split at h
 ·rename_i s off hp
  split at h
  ·rename_i cs hs
   split at h
   ·rename_i t hv
    cases v with
    | c t=>exact h.elim
    | s q=>
     simp only at h ⊢
     exact ⟨h.1,h.2.1,h.2.2.1,h.2.2.2,trivial,fun c=>by simp [AC.noRef_cons,EV.noR,EV.ref]⟩
   ·rename_i t hv
    exact ⟨h.1,h.2.1,h.2.2,trivial,fun c=>by simp [AC.noRef_cons,EV.noR,EV.ref]⟩
   ·exact h.elim
  ·exact h.elim
 ·exact h.elim
theorem b6 {S:FuncId->List TV->B9->Prop} {n s:Nat} {v:AG} {d:Option Nat} {env:AC} {K:EV->AC->Prop} (h:(AE.stb n s v).wp S env d K):(AE.stb n s v).wp S env d fun e env'=>K e env'∧e=.undef∧∀ c,env'.noRef c=env.noRef c:=by
 simp only [AE.wp] at h ⊢
 split at h
 ·rename_i cs hs
  split at h
  ·rename_i t hv
   cases v with
   | c t=>exact h.elim
   | s q=>
    simp only at h ⊢
    exact ⟨h.1,h.2.1,h.2.2.1,h.2.2.2,trivial,fun c=>by simp [AC.noRef_cons,EV.noR,EV.ref]⟩
  ·rename_i t hv
   exact ⟨h.1,h.2.1,h.2.2,trivial,fun c=>by simp [AC.noRef_cons,EV.noR,EV.ref]⟩
  ·exact h.elim
 ·exact h.elim
theorem VJ (env:AC) (q:Nat) (i:Option Nat) (n:Nat) (es:List TV) (c:Nat):AC.noRef c (env.xput q i n es)=AC.noRef c env:=by
 cases i with
 | none=>simp [AC.xput,AC.noRef_cons,EV.noR,EV.ref]
 | some k=>
  simp only [AC.xput]
  split
  ·simp [AC.noRef_cons,EV.noR,EV.ref]
  ·rfl
theorem bz {S:FuncId->List TV->B9->Prop} {x:AG} {q:Nat} {d:Option Nat} {env:AC} {K:EV->AC->Prop} (h:(AE.cpt x q).wp S env d K):(AE.cpt x q).wp S env d fun e env'=>K e env'∧e=.undef∧∀ c,env'.noRef c=env.noRef c:=by
 simp only [AE.wp] at h ⊢
 split at h
 ·rename_i s off n es hp hq
  split at h
  ·rename_i cs hs
   exact ⟨h.1,h.2.1,h.2.2,trivial,fun c=>by simp [AC.noRef_cons,EV.noR,EV.ref]⟩
  ·exact h.elim
 ·exact h.elim
theorem b8 {S:FuncId->List TV->B9->Prop} {x v:AG} {d:Option Nat} {env:AC} {K:EV->AC->Prop} (h:(AE.xst x v).wp S env d K):(AE.xst x v).wp S env d fun e env'=>K e env'∧e=.undef∧∀ c,env'.noRef c=env.noRef c:=by
 simp only [AE.wp] at h ⊢
 split at h
 ·rename_i q i c hx
  split at h
  ·obtain ⟨h1,h2,es',h3,h4,h5,h7⟩:=h
   exact ⟨h1,h2,es',h3,h4,h5,h7,trivial,fun c=>VJ _ _ _ _ _ _⟩
  ·exact h.elim
 ·exact h.elim
theorem b7 {S:FuncId->List TV->B9->Prop} {n s q:Nat} {d:Option Nat} {env:AC} {K:EV->AC->Prop} (h:(AE.stx n s q).wp S env d K):(AE.stx n s q).wp S env d fun e env'=>K e env'∧e=.undef∧∀ c,env'.noRef c=env.noRef c:=by
 simp only [AE.wp] at h ⊢
 split at h
 ·rename_i cs ds h1 h2
  exact ⟨h.1,h.2.1,h.2.2.1,h.2.2.2,trivial,fun c=>by simp [AC.noRef_cons,EV.noR,EV.ref]⟩
 ·exact h.elim
theorem Zx {S:FuncId->List TV->B9->Prop} {r:PR} {env:AC} {K:AC->Prop} (hok:TM D r=true) (hd:Ky r.op=true->r.dst=none) (hj:JD D env) (h:r.wp S env K):r.wp S env fun env'=>K env'∧JD D env':=by
 simp only [TM,Bool.or_eq_true,Bool.and_eq_true,Bool.not_eq_true'] at hok
 rcases hok with ((hst | hbd) | hq) | ⟨⟨⟨hm,hdst⟩,hg⟩,hb⟩
 ·have hdst:=hd hst
  have run:(r.op.wp S env r.dst fun e env'=>K (env'.put r.dst e))->r.op.wp S env r.dst fun e env'=>K (env'.put r.dst e)∧JD D (env'.put r.dst e):=by
   intro hw
   rw [hdst] at hw ⊢
   generalize r.op=p at hst hw ⊢
   cases p <;> simp only [Ky] at hst <;> first | cases hst | skip
   ·refine AE.wp_mono S env none (fun e env' he=>⟨he.1,fun d hd=>?_⟩) _ (il hw)
    simp only [AC.put]
    rw [he.2.2]; exact hj d hd
   ·refine AE.wp_mono S env none (fun e env' he=>⟨he.1,fun d hd=>?_⟩) _ (b6 hw)
    simp only [AC.put]
    rw [he.2.2]; exact hj d hd
   ·refine AE.wp_mono S env none (fun e env' he=>⟨he.1,fun d hd=>?_⟩) _ (b8 hw)
    simp only [AC.put]
    rw [he.2.2]; exact hj d hd
   ·refine AE.wp_mono S env none (fun e env' he=>⟨he.1,fun d hd=>?_⟩) _ (b7 hw)
    simp only [AC.put]
    rw [he.2.2]; exact hj d hd
   ·refine AE.wp_mono S env none (fun e env' he=>⟨he.1,fun d hd=>?_⟩) _ (bz hw)
    simp only [AC.put]
    rw [he.2.2]; exact hj d hd
  unfold PR.wp at h ⊢
  split
  ·rename_i hr; rw [hr] at h; exact run h
  ·rename_i g b hr
   rw [hr] at h
   simp only at h
   split
   ·rename_i q hq
    rw [hq] at h
    exact ⟨fun hb=>run (h.1 hb),fun hb=>⟨h.2 hb,by rw [hdst]; exact hj⟩⟩
   ·rename_i hsk
    rw [hsk] at h
    exact ⟨h,by rw [hdst]; exact hj⟩
   ·rename_i hne hnk
    split at h
    ·rename_i q hq; exact absurd hq (hne q)
    ·rename_i hq; exact absurd hq hnk
    ·exact h.elim
 ·unfold okBd at hbd
  split at hbd
  ·rename_i qs d e1 e2 e3
   obtain ⟨ts,h1,h2,h3,h4⟩:=QJ e1 e2 e3 h
   refine N1 e1 e2 e3 h1 h2 h3 ⟨h4,fun x hx=>?_⟩
   rw [AC.noRef_cons,Hk,hj x hx]
   rfl
  ·cases hbd
 ·unfold okQ at hq
  split at hq
  ·rename_i s d e1 e2 e3
   obtain ⟨n,es,h1,h2,h3,h4⟩:=Ut e1 e2 e3 h
   refine Uu e1 e2 e3 h1 h2 h3 ⟨h4,fun x hx=>?_⟩
   have:=hj x hx
   simp [AC.noRef_cons,EV.noR,EV.ref,this]
  ·rename_i n s z x d e1 e2 e3
   simp only [PR.wp,e1,e2,e3,AE.wp,AC.put] at h ⊢
   split at h
   ·rename_i d' m es kk j hdd hs hx
    simp only [Option.some.injEq] at hdd
    subst hdd
    refine ⟨h.1,h.2.1,h.2.2.1,h.2.2.2,fun y hy=>?_⟩
    have:=hj y hy
    simp [AC.noRef_cons,EV.noR,EV.ref,this]
   ·exact h.elim
  ·cases hq
 ·obtain ⟨d,hd⟩:=Option.isSome_iff_exists.1 hdst
  have hg':r.op.isNew=true->r.guard=none:=fun hn=>by
   rcases hg with h | h
   ·rw [hn] at h; cases h
   ·simpa using h
  refine PR.wp_mono S env (fun env' he=>?_) r (Nl hd hm hg' h)
  obtain ⟨h1,e,f,hF⟩:=he
  exact ⟨h1,hF.jd hb hj⟩
theorem Xj {S:FuncId->List TV->B9->Prop} {a:Act} {w:World} {rs:List PR}:∀ {env:AC},OG rs=true->K7 S K rs env->CZ F0 w0 env a w->∃ env',K env'∧CZ F0 w0 env' a w:=by
 induction rs with
 | nil=>intro env _ h hI; obtain ⟨e,h1,h2⟩:=h; exact ⟨e,h2,hI.congr fun n=>(h1.1 n).symm⟩
 | cons r rs ih=>
  intro env hok h hI
  simp only [OG,Bool.and_eq_true] at hok
  obtain ⟨h1,h2⟩:=hok
  obtain ⟨e',heq,h⟩:=h
  have hI:=hI.congr (fun n=>(heq.1 n).symm)
  split at h1
  ·rename_i s e1 e2 e3
   simp only [PR.wp,e1,e2,e3,AE.wp] at h
   split at h
   ·rename_i cs hs
    obtain ⟨G,hI⟩:=hI
    exact ih h2 h (hI.frz hs)
   ·exact h.elim
  ·cases h1
theorem OH:∀ (os:List Oper) (rs:List PR),KQ P N ops os rs=true->(∀ i o,os[i]?=some o->Ll P N ops o (LM rs i)=true)∧OG (rs.drop os.length)=true∧rs=(List.range os.length).map (LM rs)++rs.drop os.length
 | [],rs,h=>⟨fun i o h=>by simp at h,h,by simp⟩
 | o::os,[],h=>by simp [KQ] at h
 | o::os,r::rs,h=>by
  simp only [KQ,Bool.and_eq_true] at h
  obtain ⟨h1,h2,h3⟩:=OH os rs h.2
  refine ⟨fun i o' hi=>?_,by simpa using h2,?_⟩
  ·cases i with
   | zero=>simp only [List.getElem?_cons_zero,Option.some.injEq] at hi; subst hi; exact h.1
   | succ i=>simp only [List.getElem?_cons_succ] at hi; exact h1 i o' hi
  ·rw [List.length_cons,List.range_succ_eq_map,List.map_cons,List.map_map,List.cons_append,List.drop_succ_cons]
   congr 1
theorem V2 {Q:Exit->Act->World->Prop} {rs:List PR} (hok:PZ P N D ops rs=true) (hpd:∀ i v,p=some (i,v)->∀ r∈rs,r.dst≠some i) (hQ:∀ env a w,K env->Ku N p a->CZ F0 w0 env a w->Q .normal a w) :
  ∀ (fuel:Nat) (rem:List Nat) (listed:Array Bool) (env:AC) (a:Act) (w:World),rem.length=fuel->rem.Pairwise (·<·)->(∀ j,j∈rem↔j<ops.size∧listed.getD j true=false)->listed.size=ops.size ->
   (∀ k o,ops[k]?=some o->listed.getD k false=true->∀ e∈o.after,Region.binds .any e=true->listed.getD e.on false=true) ->
   Ku N p a->CZ F0 w0 env a w->JD D env->K7 (AV P) K (rem.map (LM rs)++rs.drop ops.size) env->wpAny P .any ops Q fuel listed a w:=by
 simp only [PZ,Bool.and_eq_true,List.all_eq_true,List.mem_range] at hok
 obtain ⟨⟨⟨⟨hl,hs⟩,he⟩,hM⟩,hP⟩:=hok
 obtain ⟨hl1,hl2,hl3⟩:=OH ops.toList rs hl
 simp only [Array.length_toList,Array.getElem?_toList] at hl1 hl2 hl3
 intro fuel
 induction fuel with
 | zero=>
  intro rem listed env a w hlen hpw hmem hsz hcl hN hI hj h
  have:rem=[]:=List.eq_nil_of_length_eq_zero hlen
  subst this
  refine ⟨?_,?_⟩
  ·refine List.eq_nil_iff_forall_not_mem.2 fun j hj'=>?_
   rw [mem_ready] at hj'
   obtain ⟨h1,o,ho,_⟩:=hj'
   have:=(hmem j).2 ⟨(Array.getElem?_eq_some_iff.1 ho).1,h1⟩
   cases this
  ·obtain ⟨env',h1,h2⟩:=Xj hl2 h hI
   exact hQ env' a w h1 hN h2
 | succ fuel ih=>
  intro rem listed env a w hlen hpw hmem hsz hcl hN hI hj h
  refine ⟨fun hnil=>?_,fun i hi=>?_⟩
  ·
   exfalso
   cases rem with
   | nil=>simp at hlen
   | cons i rem=>
    have h1:=(hmem i).1 (by simp)
    have hin:i∈Region.ready .any ops listed:=by
     rw [mem_ready]
     have ho:ops[i]?=some ops[i]:=Array.getElem?_eq_getElem h1.1
     refine ⟨h1.2,_,ho,fun e hee hb=>?_⟩
     have:=he i h1.1
     rw [ho] at this
     simp only [List.all_eq_true,Bool.or_eq_true,Bool.not_eq_true',decide_eq_true_eq] at this
     have hlt:=(this e (by simpa using hee)).resolve_left (by simp [hb])
     cases hle:listed.getD e.on false with
     | true=>rfl
     | false=>
      have hm:e.on∈i::rem:=by
       refine (hmem _).2 ⟨by omega,?_⟩
       have:e.on<listed.size:=by omega
       simp only [Array.getD_eq_getD_getElem?,Array.getElem?_eq_getElem this,Option.getD_some] at hle ⊢
       exact hle
      rcases List.mem_cons.1 hm with h2 | h2
      ·omega
      ·have:=(List.pairwise_cons.1 hpw).1 _ h2; omega
    rw [hnil] at hin; cases hin
  ·have hi':=hi
   rw [mem_ready] at hi'
   obtain ⟨hi1,o,ho,hi2⟩:=hi'
   have hin:i<ops.size:=(Array.getElem?_eq_some_iff.1 ho).1
   have hir:i∈rem:=(hmem i).2 ⟨hin,hi1⟩
   obtain ⟨pre,post,rfl⟩:=List.append_of_mem hir
   have hpw':=List.pairwise_append.1 hpw
   have hpre:∀ j∈pre,j<i:=fun j hj=>hpw'.2.2 j hj i (by simp)
   have hpost:∀ j∈post,i<j:=fun j hj=>(List.pairwise_cons.1 hpw'.2.1).1 j hj
   have before:∀ (k:Nat),k<ops.size->(∀ o,ops[k]?=some o->∀ e∈o.after,Region.binds .any e=true->listed.getD e.on false=true)->∀ j,j<ops.size->((Y1 ops).getD k 0).testBit j=true->listed.getD j false=true:=by
    intro k
    induction k using Nat.strongRecOn with
    | _ k ihk=>
     intro hk hdir j hjn hb
     have:=hM k hk j hjn
     rw [hb] at this
     simp only [Bool.not_true,Bool.false_or] at this
     split at this
     ·rename_i ok hok'
      simp only [List.any_eq_true,Bool.and_eq_true,Bool.or_eq_true,beq_iff_eq,decide_eq_true_eq] at this
      obtain ⟨e,hee,hbe,h3⟩:=this
      have hle:=hdir ok hok' e (by simpa using hee) hbe
      rcases h3 with h3 | ⟨h3,h4⟩
      ·rw [←h3]; exact hle
      ·exact ihk e.on h3 (by omega) (fun o' ho' e' he' hb'=>hcl e.on o' ho' hle e' he' hb') j hjn h4
     ·cases this
   have hwp:K7 (AV P) K (LM rs i::(pre.map (LM rs)++(post.map (LM rs)++rs.drop ops.size))) env:=by
    refine Vy (ops:=ops) (F0:=F0) (w0:=w0) (N:=N) (oq:=o) (hl1 i o ho) (pre.map (LM rs)) (fun p hp=>?_) ⟨a,w,hN.size,hI⟩ hj (by simpa using h)
    obtain ⟨j,hj1,rfl⟩:=List.mem_map.1 hp
    have hlt:=hpre j hj1
    have hjn:j<ops.size:=by omega
    refine ⟨?_,ops[j],hl1 j _ (Array.getElem?_eq_getElem hjn)⟩
    have:=hP i hin j hlt
    rw [Bool.or_eq_true] at this
    refine this.resolve_left fun hb=>?_
    have h1:=before i hin (fun o' ho'=>by rw [ho] at ho'; simp only [Option.some.injEq] at ho'; subst ho'; exact hi2) j hjn hb
    have h2:=((hmem j).1 (by simp [hj1])).2
    have:j<listed.size:=by omega
    simp only [Array.getD_eq_getD_getElem?,Array.getElem?_eq_getElem this,Option.getD_some] at h1 h2
    rw [h1] at h2; cases h2
   obtain ⟨e',heq,hw⟩:=hwp
   have hI':=hI.congr (fun n=>(heq.1 n).symm)
   have hj':=hj.congr heq.symm
   have hstd:Ky (LM rs i).op=true->(LM rs i).dst=none:=by
    intro hst
    have:=hl1 i o ho
    simp only [Ll,Bool.and_eq_true] at this
    have h2:=this.2
    split at h2
    ·simp only [hst,Bool.not_true,Bool.and_false,Bool.false_and] at h2; cases h2
    ·assumption
    ·cases h2
   have hw':=Zx (hs i hin) hstd hj' hw
   have hmem':∀ j,j∈pre++post↔j<ops.size∧(listed.setIfInBounds i true).getD j true=false:=by
    intro j
    by_cases hij:j=i
    ·subst hij
     constructor
     ·intro hm
      rcases List.mem_append.1 hm with hm | hm
      ·have:=hpre _ hm; omega
      ·have:=hpost _ hm; omega
     ·rintro ⟨_,h2⟩
      have:j<listed.size:=by omega
      simp [this] at h2
    ·rw [getD_set_ne true (fun e=>hij e.symm),←hmem j]
     simp [hij]
   have hcl':∀ k o',ops[k]?=some o'->(listed.setIfInBounds i true).getD k false=true->∀ e∈o'.after,Region.binds .any e=true->(listed.setIfInBounds i true).getD e.on false=true:=by
    intro k o' hk hlk e hee hb
    refine getD_set_true ?_
    by_cases hki:k=i
    ·subst hki
     rw [ho] at hk
     simp only [Option.some.injEq] at hk
     subst hk
     exact hi2 e hee hb
    ·rw [getD_set_ne false (fun e=>hki e.symm)] at hlk
     exact hcl k o' hk hlk e hee hb
   have hpdi:∀ j v,p=some (j,v)->(LM rs i).dst≠some j:=by
    intro j v hp
    unfold LM
    cases hr:rs[i]? with
    | none=>simp
    | some r=>exact hpd j v hp r (List.mem_of_getElem? hr)
   have:=QS (Q:=Q) (next:=wpAny P .any ops Q fuel (listed.setIfInBounds i true)) hI' hN hpdi (hl1 i o ho) hw' fun env' a' w' k1 k2 k3=>
    ih (pre++post) _ env' a' w' (by simp only [List.length_append,List.length_cons] at hlen ⊢; omega) (List.pairwise_append.2 ⟨hpw'.1,(List.pairwise_cons.1 hpw'.2.1).2,fun x hx y hy=>hpw'.2.2 x hx y (by simp [hy])⟩) hmem' (by simpa using hsz) hcl' k2 k3 k1.2 (by simpa using k1.1)
   unfold Go.wpOp
   rw [ho]
   simp only []
   split
   ·rename_i hwd; rw [if_pos hwd] at this; exact .inl this
   ·rename_i hwd; rw [if_neg hwd] at this; exact this
theorem Rc:∀ (ds:List Nat) (env:AC),Ni env ds=true->JD ds env
 | [],env,_=>fun d hd=>by simp at hd
 | d::ds,env,h=>by
  simp only [Ni,Bool.and_eq_true] at h
  intro x hx
  rcases List.mem_cons.1 hx with rfl | hx
  ·exact h.1
  ·exact Rc ds env h.2 x hx
theorem Qo (hm:P.follows .mixedOrders=true):NC P N (PZ P N):=by
 intro F0 w0 p id ds ops rs live env a w K Q hok hpd hN hI hd h hQ
 refine wp_region_any hm ?_
 have hok':=hok
 simp only [PZ,Bool.and_eq_true] at hok'
 obtain ⟨_,_,hl3⟩:=OH ops.toList rs hok'.1.1.1.1
 simp only [Array.length_toList] at hl3
 have hI':CZ F0 w0 env a { w with drawn:=w.drawn+1 }:=by
  obtain ⟨G,hI⟩:=hI
  refine ⟨G,hI.uniq,hI.lt,⟨hI.below.os,hI.below.tape,hI.below.output,hI.below.size,hI.below.block,hI.below.cell,hI.below.free⟩,hI.defers,hI.dom,fun s hs=>?_,hI.wf⟩
  exact AU.kept (w:=w) (w':={ w with drawn:=w.drawn+1 }) (F:=AX w0.heap.size F0 G) (G:=G) (env:=env) (a:=a) (fun b o u hc hF=>⟨hc,hF⟩) (fun _=>rfl) (fun _ _ _ _=>rfl) (fun r off hr hcs=>⟨hcs,rfl⟩) (fun r i hr hcs=>⟨hcs,fun _ hv=>hv⟩) (hI.slots s hs)
 refine V2 (K:=fun e=>K (e.keep live)) (F0:=F0) (w0:=w0) hok hpd (fun env a w h1 h2 h3=>hQ _ a w h1 h2 (h3.keep live)) ops.size (List.range ops.size) _ env a _ (by simp) List.pairwise_lt_range (fun j=>?_) (by simp) (fun k o hk hl=>?_) hN hI' (Rc ds env hd) ?_
 ·rw [List.mem_range]
  constructor
  ·intro hj; exact ⟨hj,by simp [Array.getD_eq_getD_getElem?,Array.getElem?_replicate,hj]⟩
  ·exact fun h=>h.1
 ·simp only [Array.getD_eq_getD_getElem?,Array.getElem?_replicate] at hl
  split at hl <;> simp at hl
 ·rw [←hl3]; exact XH h
end
end Go.Sf
