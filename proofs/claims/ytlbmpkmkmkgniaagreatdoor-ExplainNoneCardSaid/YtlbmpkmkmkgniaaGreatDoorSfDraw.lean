/- Regions whose order is drawn. -/
import Derived.Test.YtlbmpkmkmkgniaaGreatDoorSfSwapSt
namespace Go.Sf
open Go.RowKit (Below)
def LS (rs:List PR) (i:Nat):PR:=(rs[i]?).getD ⟨none,.nilo 0,none⟩
def okBd (p:PR):Bool:=match p.op,p.guard,p.dst with
 | .bldg _,none,some _=>true
 | _,_,_=>false
def okPairB (p q:PR):Bool:=match p.op,p.guard,p.dst,q.op,q.guard,q.dst with
 | .bldg gs,none,some dp,.alc _,none,some dq=>dp != dq&&!(gs.flatMap GC.sl).contains dq
 | _,_,_,_,_,_=>false
theorem Wu {p q:PR} (h:okPairB p q=true):okBd p=true:=by
 unfold okPairB at h
 split at h
 ·rename_i e1 e2 e3 _ _ _; simp [okBd,e1,e2,e3]
 ·cases h
def SQ (p:PR):Bool:=match p.op,p.guard,p.dst with
 | .st _ (.s _) _,none,none=>true
 | _,_,_=>false
def okPairA (D:List Nat) (p q:PR):Bool:=match p.op,p.guard,p.dst,q.op,q.guard,q.dst with
 | .st _ (.s x) v,none,none,.bad m _,none,some d=>D.contains d&&d != x&&d != m&&!v.sl.contains d&&!v.sl.contains m
 | .st _ (.s x) v,none,none,.fad (.s m) _,none,some d=>D.contains d&&d != x&&d != m&&!v.sl.contains d&&!v.sl.contains m
 | _,_,_,_,_,_=>false
theorem Wt {D:List Nat} {p q:PR} (h:okPairA D p q=true):SQ p=true:=by
 unfold okPairA at h
 split at h
 ·rename_i e1 e2 e3 _ _ _; simp [SQ,e1,e2,e3]
 ·rename_i e1 e2 e3 _ _ _; simp [SQ,e1,e2,e3]
 ·cases h
def AH.vops:AH->Option (List AJ)
 | .len x=>some [x]
 | .mm _ x y=>some [x,y]
 | .slc _ x lo hi=>some (x::(lo.toList++hi.toList))
 | .bin _ _ x y=>some [x,y]
 | .cvt _ x=>some [x]
 | _=>none
def okPairV (D:List Nat) (p q:PR):Bool:=match p.op.vops,p.guard,p.dst,q.op,q.guard,q.dst with
 | some xs,none,some d,.st _ (.s x) v,none,none=>PR.movOk D p&&d != x&&!v.sl.contains d&&H3 (xs.flatMap AJ.sl) v.sl
 | _,_,_,_,_,_=>false
def okPairL (D:List Nat) (p q:PR):Bool:=match p.op,p.guard,p.dst,q.op,q.guard,q.dst with
 | .ldb b _,none,some d,.st _ (.s x) v,none,none=>PR.movOk D p&&D.contains b&&b != x&&d != x&&d != b&&!v.sl.contains d&&!v.sl.contains b
 | _,_,_,_,_,_=>false
def okPair2 (D:List Nat) (p q:PR):Bool:=Rs D p q||okPairSt D p q||okPairB p q||okPairT D p q||okPairX D p q||okPairA D p q||okPairV D p q||okPairL D p q
def okQ (p:PR):Bool:=match p.op,p.guard,p.dst with
 | .tkx _,none,some _=>true
 | .appz _ _ _ _,none,some _=>true
 | _,_,_=>false
theorem VU {D:List Nat} {p q:PR} (h:okPair2 D p q=true):(PR.movOk D p=true∨okBd p=true)∨SQ p=true:=by
 simp only [okPair2,Bool.or_eq_true] at h
 rcases h with (((((((h | h) | h) | h) | h) | h) | h) | h)
 ·simp only [Rs,zzZ] at h
  exact .inl (.inl h.1.1.1.1.1)
 ·unfold okPairSt at h
  split at h
  ·simp only [zzZ] at h
   exact .inl (.inl h.1.1.1.1)
  ·simp only [zzZ] at h
   exact .inl (.inl h.1.1.1.1.1.1)
  ·cases h
 ·exact .inl (.inr (Wu h))
 ·unfold okPairT at h
  split at h
  ·simp only [zzZ] at h
   exact .inl (.inl h.1.1.1.1)
  ·cases h
 ·unfold okPairX at h
  split at h
  ·simp only [zzZ] at h
   exact .inl (.inl h.1.1.1)
  ·cases h
 ·exact .inr (Wt h)
 ·unfold okPairV at h
  split at h
  ·simp only [zzZ] at h
   exact .inl (.inl h.1.1.1)
  ·cases h
 ·unfold okPairL at h
  split at h
  ·simp only [zzZ] at h
   exact .inl (.inl h.1.1.1.1.1.1)
  ·cases h
def ag (ops:Array Oper):List Nat:=
 ops.toList.foldl (fun acc o=>acc++[o.after.toList.foldl (fun m e=>if Region.binds .any e then m ||| (1 <<< e.on) ||| acc.getD e.on 0 else m) 0]) []
def UX (D:List Nat) (r:PR):Bool:=
 K4 r.op||okBd r||okQ r||(r.op.mov&&r.dst.isSome&&(!r.op.isNew||r.guard.isNone)&&H3 r.op.bads D)
def Pd (P:Program) (N:Nat) (D:List Nat) (ops:Array Oper) (rs:List PR):Bool:=
 let n:=ops.size
 let M:=ag ops
 KZ P N ops ops.toList rs&&(List.range n).all (fun i=>UX D (LS rs i)) &&
 (List.range n).all (fun i=>match ops[i]? with
  | some o=>o.after.toList.all fun e=>!Region.binds .any e||decide (e.on<i)
  | none=>false) &&
 (List.range n).all (fun i=>(List.range n).all fun j=>!(M.getD i 0).testBit j||(match ops[i]? with
  | some o=>o.after.toList.any fun e=>Region.binds .any e&&(e.on==j||(decide (e.on<i)&&(M.getD e.on 0).testBit j))
  | none=>false)) &&
 (List.range n).all (fun i=>(List.range i).all fun j=>(M.getD i 0).testBit j||okPair2 D (LS rs j) (LS rs i))
section
variable {P:Program} {F0:Nat->Nat->Prop} {w0:W0} {N:Nat} {p:Option (Nat × Value)} {ops:Array Oper} {K:AC->Prop} {D:List Nat}
theorem FZ.refl {op:AH} {f:B3} {d:Option Nat} {env:AC} (h:f.ok env):FZ op f d env env:=
 ⟨fun _ _=>.inl rfl,fun _ _ _ _=>.inl rfl,fun _ _ _=>rfl,h,fun _ _ _ h=>h⟩
theorem KC (d:Nat) (e0:AC):∀ (qs:List Nat) (env:AC),AC.noRef d (MZ e0 qs env)=AC.noRef d env
 | [],_=>rfl
 | q::qs,env=>by
  rw [MZ,AC.noRef_cons,KC d e0 qs env]
  rcases LQ (e0.get q) with ⟨t,_,e2⟩ | e2 <;> rw [e2] <;> simp [EV.noR,EV.ref]
theorem bz (d:Nat) (e:EV) (env:AC) (g:GC) (h:d ∉ g.sl):GC.cell ((d,e)::env) g=g.cell env:=by
 cases g with
 | z c=>rfl
 | v x k n=>
  cases x with
  | s q=>
   simp only [GC.sl,List.mem_singleton] at h
   simp only [GC.cell,AJ.val,AJ.ev,AC.get_cons,if_neg h]
  | c t=>rfl
 | w q=>
  simp only [GC.sl,List.mem_singleton] at h
  simp only [GC.cell,AC.get_cons,if_neg h]
 | g q k n=>
  simp only [GC.sl,List.mem_singleton] at h
  simp only [GC.cell,AC.get_cons,if_neg h]
theorem UH (d:Nat) (e:EV) (env:AC):∀ (gs:List GC),d ∉ gs.flatMap GC.sl->IQ ((d,e)::env) gs=IQ env gs
 | [],_=>rfl
 | g::gs,h=>by
  rw [List.flatMap_cons,List.mem_append,not_or] at h
  simp only [IQ,bz d e env g h.1,UH d e env gs h.2]
theorem dC {gs:List GC} {q:Nat} (h:q∈gs.filterMap GC.slot):q∈gs.flatMap GC.sl:=by
 rw [List.mem_filterMap] at h
 obtain ⟨g,hg,e⟩:=h
 rw [List.mem_flatMap]
 refine ⟨g,hg,?_⟩
 cases g <;> simp [GC.slot] at e <;> simp [GC.sl,e]
theorem QP {S:FuncId->List TV->CH->Prop} {p:PR} {env:AC} {K:AC->Prop} {gs:List GC} {d:Nat} (e1:p.op=.bldg gs) (e2:p.guard=none) (e3:p.dst=some d) (h:p.wp S env K) :
  ∃ cs,((gs.filterMap GC.src).Nodup∧d ∉ gs.filterMap GC.slot)∧IQ env gs=some cs∧K ((d,.oag cs)::MZ env (gs.filterMap GC.slot) env):=by
 simp only [PR.wp,e1,e2,e3,AH.wp,AC.put] at h
 obtain ⟨h1,h3⟩:=h
 cases hts:IQ env gs with
 | none=>rw [hts] at h3; exact h3.elim
 | some ts=>rw [hts] at h3; exact ⟨ts,h1,rfl,h3⟩
theorem OR {S:FuncId->List TV->CH->Prop} {p:PR} {env:AC} {K:AC->Prop} {gs:List GC} {d:Nat} {cs:List AU} (e1:p.op=.bldg gs) (e2:p.guard=none) (e3:p.dst=some d) (h1:(gs.filterMap GC.src).Nodup∧d ∉ gs.filterMap GC.slot) (hts:IQ env gs=some cs)
  (h:K ((d,.oag cs)::MZ env (gs.filterMap GC.slot) env)):p.wp S env K:=by
 simp only [PR.wp,e1,e2,e3,AH.wp,AC.put,hts]
 exact ⟨h1,h⟩
theorem RY {S:FuncId->List TV->CH->Prop} {q:PR} {env:AC} {K:AC->Prop} {n x:Nat} {v:AJ} (hop:q.op=.st n (.s x) v) (hg:q.guard=none) (hd:q.dst=none) (h:q.wp S env K) :
  ∃ s off cs cs' o,(AJ.s x).place env=some (s,off)∧env.get s=.bx cs∧(∀ q' e,o=some (q',e)->v=.s q'∧(∃ t,e=.tv t)∧q'≠s)∧K (Lp s cs' o env) ∧
   ∀ env2,(AJ.s x).place env2=some (s,off)->env2.get s=.bx cs->v.ev env2=v.ev env->∀ K2:AC->Prop,K2 (Lp s cs' o env2)->q.wp S env2 K2:=by
 unfold PR.wp at h
 rw [hg,hop,hd] at h
 simp only [AH.wp] at h
 split at h
 ·rename_i s off hp
  split at h
  ·rename_i cs hs
   split at h
   ·rename_i t hv
    cases v with
    | c t=>exact h.elim
    | s q'=>
     simp only at h
     simp only [AJ.ev] at hv
     refine ⟨s,off,cs,_,some (q',.tv t),hp,hs,?_,h.2.2.2,fun env2 h0 h1 h2 K2 hK2=>?_⟩
     ·intro s' t' he
      simp only [zzY,Prod.mk.injEq] at he
      obtain ⟨rfl,rfl⟩:=he
      exact ⟨rfl,⟨t,rfl⟩,h.1⟩
     ·simp only [AJ.ev] at h2
      unfold PR.wp
      rw [hg,hop,hd]
      simp only [AH.wp,h0,h1,AJ.ev,h2,hv]
      exact ⟨h.1,h.2.1,h.2.2.1,hK2⟩
   ·rename_i t hv
    refine ⟨s,off,cs,_,none,hp,hs,by simp,h.2.2,fun env2 h0 h1 h2 K2 hK2=>?_⟩
    unfold PR.wp
    rw [hg,hop,hd]
    simp only [AH.wp,h0,h1,h2,hv]
    exact ⟨h.1,h.2.1,hK2⟩
   ·exact h.elim
  ·exact h.elim
 ·exact h.elim
theorem o5 {p:PR} {o:Oper} (ho:L3 P N ops o p=true) {K:AC->Prop} (hm:(PR.movOk D p=true∨okBd p=true)∨SQ p=true) {e':AC} (hR:LC F0 w0 N e') (hj:JD D e') (h:p.wp (AR P) e' K) :
  ∃ env1,K env1∧LC F0 w0 N env1∧JD D env1∧∀ K2:AC->Prop,K2 env1->p.wp (AR P) e' K2:=by
 rcases hm with (hm | hm) | hm
 ·simp only [PR.movOk,zzZ,Bool.or_eq_true,Bool.not_eq_true'] at hm
  obtain ⟨⟨⟨⟨pm,pd⟩,pg⟩,pb⟩,pD⟩:=hm
  obtain ⟨dp,hdp⟩:=Option.isSome_iff_exists.1 pd
  have pg':p.op.isNew=true->p.guard=none:=fun hn=>by
   rcases pg with h | h
   ·rw [hn] at h; cases h
   ·simpa using h
  obtain ⟨env1,⟨hw,ep,fp,Fp⟩,hR1⟩:=J3 hR ho (N9 hdp pm pg' h)
  exact ⟨env1,hw,hR1,Fp.jd pb hj,fun K2 hK2=>Fp.again e' (.refl Fp.ok) (fun _ _=>rfl) _ (by rw [←Fp.env1]; exact hK2)⟩
 ·unfold okBd at hm
  split at hm
  ·rename_i gs d e1 e2 e3
   obtain ⟨env1,hw,hR1⟩:=J3 (K:=fun env1=>K env1∧∃ cs,((gs.filterMap GC.src).Nodup∧d ∉ gs.filterMap GC.slot)∧IQ e' gs=some cs∧env1=(d,.oag cs)::MZ e' (gs.filterMap GC.slot) e') hR ho (by
    obtain ⟨ts,h1,h3,h4⟩:=QP e1 e2 e3 h
    exact OR e1 e2 e3 h1 h3 ⟨h4,ts,h1,h3,rfl⟩)
   obtain ⟨hw,ts,h1,h3,rfl⟩:=hw
   refine ⟨_,hw,hR1,fun x hx=>?_,fun K2 hK2=>OR e1 e2 e3 h1 h3 hK2⟩
   rw [AC.noRef_cons,KC,hj x hx]
   rfl
  ·cases hm
 ·unfold SQ at hm
  split at hm
  ·rename_i n x v e1 e2 e3
   obtain ⟨env1,⟨hw,s,off,cs,cs',o',h1,h2,h3,h4,h5⟩,hR1⟩:=J3 (K:=fun env1=>K env1∧∃ s off cs cs' o,(AJ.s x).place e'=some (s,off)∧e'.get s=.bx cs∧(∀ q' e,o=some (q',e)->v=.s q'∧(∃ t,e=EV.tv t)∧q'≠s)∧env1=Lp s cs' o e' ∧
     ∀ K2:AC->Prop,K2 (Lp s cs' o e')->p.wp (AR P) e' K2) hR ho (by
    obtain ⟨s,off,cs,cs',o,h1,h2,h3,h4,h5⟩:=RY e1 e2 e3 h
    exact h5 e' h1 h2 rfl _ ⟨h4,s,off,cs,cs',o,h1,h2,h3,rfl,fun K2 hK2=>h5 e' h1 h2 rfl K2 hK2⟩)
   subst h4
   refine ⟨_,hw,hR1,fun d hd=>?_,h5⟩
   rw [Hu _ _ _ _ _ (fun q' e he=>by
    obtain ⟨_,⟨t,rfl⟩,_⟩:=h3 q' e he
    rfl)]
   exact hj d hd
  ·cases hm
theorem fi {p q:PR} (hpair:okPairB p q=true) {rs:List PR} {env:AC} (h:JC (AR P) K (p::q::rs) env):JC (AR P) K (q::p::rs) env:=by
 unfold okPairB at hpair
 split at hpair
 ·rename_i gs dp cs dq e1 e2 e3 f1 f2 f3
  simp only [zzZ,bne_iff_ne,ne_eq,Bool.not_eq_true',List.contains_eq_mem,decide_eq_false_iff_not] at hpair
  obtain ⟨hne,hq⟩:=hpair
  obtain ⟨e',heq,h⟩:=h
  obtain ⟨ts,h1,h3,x,hx,hw⟩:=QP e1 e2 e3 h
  simp only [PR.wp,f1,f2,f3,AH.wp,AC.put] at hw
  obtain ⟨hno,hw⟩:=hw
  rw [hx.2,AC.noRef_cons,KC] at hno
  simp only [EV.noR,EV.ref,Bool.true_and] at hno
  refine ⟨e',heq,?_⟩
  simp only [PR.wp,f1,f2,f3,AH.wp,AC.put]
  refine ⟨hno,_,.refl _,OR e1 e2 e3 h1 (by rw [UH _ _ _ _ hq]; exact h3) (MQ hw ?_)⟩
  have hq':dq ∉ gs.filterMap GC.slot:=fun hm=>hq (dC hm)
  refine ⟨fun n=>?_,fun d=>?_⟩
  ·rw [AC.get_cons,hx.1,AC.get_cons,AC.get_cons,Jx,Jx]
   by_cases k1:dq=n
   ·subst k1
    rw [if_pos rfl,if_neg hne,if_neg hq',AC.get_cons,if_pos rfl]
   ·rw [if_neg k1]
    by_cases k2:dp=n
    ·rw [if_pos k2,if_pos k2]
    ·rw [if_neg k2,if_neg k2,AC.get_cons,if_neg k1]
  ·rw [AC.noRef_cons,hx.2,AC.noRef_cons,AC.noRef_cons,KC,KC,AC.noRef_cons]
   cases EV.noR d (EV.bx cs) <;> cases EV.noR d (EV.oag ts) <;> rfl
 ·cases hpair
theorem Xf {S:FuncId->List TV->CH->Prop} {q:PR} {env env1:AC} {K:AC->Prop} {m d s:Nat} {cs cs':List AU} {o:Option (Nat × EV)} (hop:(∃ k,q.op=.bad m k)∨∃ k,q.op=.fad (.s m) k) (hg:q.guard=none) (hd:q.dst=some d) (hs:env.get s=.bx cs) (ho:∀ q' e,o=some (q',e)->(∃ t,e=.tv t)∧q'≠m)
  (he:∀ n,env1.get n=(Lp s cs' o env).get n) (h:q.wp S env1 K):∃ e,K ((d,e)::env1)∧∀ K2:AC->Prop,K2 ((d,e)::env)->q.wp S env K2:=by
 have hm:env1.get m=if s=m then .bx cs' else env.get m:=by
  rw [he,He]
  by_cases e:s=m
  ·rw [if_pos e,if_pos e]
  ·rw [if_neg e,if_neg e]
   cases o with
   | none=>rfl
   | some p=>simp only; rw [if_neg (ho p.1 p.2 rfl).2]
 have hb:∀ r cs2,env1.get r=.bx cs2->∃ cs3,env.get r=.bx cs3:=by
  intro r cs2 hr
  rw [he,He] at hr
  by_cases e:s=r
  ·subst e; exact ⟨cs,hs⟩
  ·rw [if_neg e] at hr
   cases o with
   | none=>exact ⟨cs2,hr⟩
   | some p=>
    simp only at hr
    split at hr
    ·obtain ⟨⟨t,e2⟩,_⟩:=ho p.1 p.2 rfl
     rw [e2] at hr; cases hr
    ·exact ⟨cs2,hr⟩
 unfold PR.wp at h
 rcases hop with ⟨k,hop⟩ | ⟨k,hop⟩
 ·rw [hg,hop,hd] at h
  simp only [AH.wp,AC.put] at h
  by_cases e:s=m
  ·rw [hm,if_pos e] at h
   refine ⟨_,h,fun K2 hK2=>?_⟩
   unfold PR.wp
   rw [hg,hop,hd]
   simp only [AH.wp,←e,hs,AC.put]
   rw [←e] at hK2
   exact hK2
  ·rw [hm,if_neg e] at h
   split at h
   ·rename_i cs2 hx
    refine ⟨_,h,fun K2 hK2=>?_⟩
    unfold PR.wp
    rw [hg,hop,hd]
    simp only [AH.wp,hx,AC.put]
    exact hK2
   ·rename_i row hx
    refine ⟨_,h,fun K2 hK2=>?_⟩
    unfold PR.wp
    rw [hg,hop,hd]
    simp only [AH.wp,hx,AC.put]
    exact hK2
   ·exact h.elim
 ·rw [hg,hop,hd] at h
  simp only [AH.wp,AC.put,AJ.ev] at h
  by_cases e:s=m
  ·rw [hm,if_pos e] at h
   exact h.elim
  ·rw [hm,if_neg e] at h
   split at h
   ·rename_i row hx
    refine ⟨_,h,fun K2 hK2=>?_⟩
    unfold PR.wp
    rw [hg,hop,hd]
    simp only [AH.wp,AJ.ev,hx,AC.put]
    exact hK2
   ·rename_i r off hx
    split at h
    ·rename_i cs2 hr
     obtain ⟨cs3,hr3⟩:=hb r cs2 hr
     refine ⟨_,h,fun K2 hK2=>?_⟩
     unfold PR.wp
     rw [hg,hop,hd]
     simp only [AH.wp,AJ.ev,hx,hr3,AC.put]
     exact hK2
    ·exact h.elim
   ·exact h.elim
theorem fh {p q:PR} {env:AC} (hj:JD D env) (hpair:okPairA D p q=true) {rs:List PR} (h:JC (AR P) K (p::q::rs) env):JC (AR P) K (q::p::rs) env:=by
 have key:∃ n x v m d,p.op=.st n (.s x) v∧p.guard=none∧p.dst=none∧((∃ k,q.op=.bad m k)∨∃ k,q.op=.fad (.s m) k)∧q.guard=none∧q.dst=some d∧d∈D∧d≠x∧d ∉ v.sl∧m ∉ v.sl:=by
  unfold okPairA at hpair
  split at hpair
  ·rename_i n x v m k d e1 e2 e3 f1 f2 f3
   simp only [zzZ,bne_iff_ne,ne_eq,Bool.not_eq_true',List.contains_eq_mem,decide_eq_false_iff_not,zzX] at hpair
   exact ⟨n,x,v,m,d,by assumption,by assumption,by assumption,.inl ⟨_,by assumption⟩,by assumption,by assumption,hpair.1.1.1.1,hpair.1.1.1.2,hpair.1.2,hpair.2⟩
  ·rename_i n x v m k d e1 e2 e3 f1 f2 f3
   simp only [zzZ,bne_iff_ne,ne_eq,Bool.not_eq_true',List.contains_eq_mem,decide_eq_false_iff_not,zzX] at hpair
   exact ⟨n,x,v,m,d,by assumption,by assumption,by assumption,.inr ⟨_,by assumption⟩,by assumption,by assumption,hpair.1.1.1.1,hpair.1.1.1.2,hpair.1.2,hpair.2⟩
  ·cases hpair
 obtain ⟨n,x,v,m,d,e1,e2,e3,f1,f2,f3,dD,hdx,hdv,hmv⟩:=key
 obtain ⟨e',heq,h⟩:=h
 have hj':=hj.congr heq.symm
 obtain ⟨s,off,cs,cs',o,h1,h2,h3,⟨y,hy,hw⟩,h5⟩:=RY e1 e2 e3 h
 have hds:d≠s:=by
  intro e
  subst e
  simp only [AJ.place] at h1
  split at h1
  ·rename_i r off' hx
   simp only [zzY,Prod.mk.injEq] at h1
   exact hj'.no (x:=x) (s:=d) (by rw [hx,←h1.1]; rfl) dD
  ·simp only [zzY,Prod.mk.injEq] at h1
   exact hdx h1.1.symm
  ·cases h1
 have ho:∀ q' e,o=some (q',e)->(∃ t,e=EV.tv t)∧q'≠m:=fun q' e he=>by
  obtain ⟨k1,k2,_⟩:=h3 q' e he
  exact ⟨k2,fun e=>hmv (by rw [k1,←e]; simp [AJ.sl])⟩
 obtain ⟨e,hK,hq⟩:=Xf (cs':=cs') (o:=o) (env:=e') f1 f2 f3 h2 ho hy.1 hw
 refine ⟨e',heq,hq _ ⟨_,.refl _,h5 ((d,e)::e') ?_ (by rw [AC.get_cons,if_neg hds]; exact h2) ?_ _ (MQ hK ?_)⟩⟩
 ·simp only [AJ.place,AC.get_cons,if_neg hdx] at h1 ⊢
  exact h1
 ·cases v with
  | c t=>rfl
  | s q'=>
   simp only [AJ.ev,AC.get_cons]
   rw [if_neg (fun e=>hdv (by rw [e]; simp [AJ.sl]))]
 ·refine ⟨fun z=>?_,fun z=>?_⟩
  ·rw [AC.get_cons,hy.1,He,He]
   by_cases k1:d=z
   ·subst k1
    rw [if_pos rfl,if_neg (fun e=>hds e.symm)]
    cases o with
    | none=>rw [AC.get_cons,if_pos rfl]
    | some p=>
     simp only
     rw [if_neg (fun e2=>hdv (by rw [(h3 p.1 p.2 rfl).1,←e2]; simp [AJ.sl])),AC.get_cons,if_pos rfl]
   ·rw [if_neg k1]
    cases o with
    | none=>simp only [AC.get_cons,if_neg k1]
    | some p=>simp only [AC.get_cons,if_neg k1]
  ·have hn:∀ q' e,o=some (q',e)->e.noR z=true:=fun q' e he=>by
    obtain ⟨_,⟨t,rfl⟩,_⟩:=h3 q' e he
    rfl
   rw [AC.noRef_cons,hy.2,Hu _ _ _ _ _ hn,Hu _ _ _ _ _ hn,AC.noRef_cons]
theorem Tw {env env2:AC} {b:Nat} {o:Option AJ} (h:∀ y∈o.toList,y.val env2=y.val env):GH env2 b o=GH env b o:=by
 cases o with
 | none=>rfl
 | some y=>simp only [GH]; exact h y (by simp)
theorem fo {S:FuncId->List TV->CH->Prop} {p:AH} {xs:List AJ} {env:AC} {d:Option Nat} {K:EV->AC->Prop} (hp:p.vops=some xs) (h:p.wp S env d K) :
  ∃ t,K (.tv t) env∧(∀ x∈xs,∃ u,x.val env=some u)∧∀ env2,(∀ x∈xs,x.val env2=x.val env)->∀ K2:EV->AC->Prop,K2 (.tv t) env2->p.wp S env2 d K2:=by
 cases p <;> simp only [AH.vops,zzY] at hp <;> first | cases hp | skip
 case bin k op x y=>
  simp only [AH.wp] at h
  split at h
  ·rename_i a b ha hb
   cases ht:FD k op a b with
   | none=>rw [ht] at h; exact h.elim
   | some t=>
    rw [ht] at h
    refine ⟨t,h,fun z hz=>?_,fun env2 he K2 hK=>?_⟩
    ·simp only [List.mem_cons,List.not_mem_nil,or_false] at hz
     rcases hz with rfl | rfl
     ·exact ⟨a,ha⟩
     ·exact ⟨b,hb⟩
    ·simp only [AH.wp,he x (by simp),he y (by simp),ha,hb,ht]
     exact hK
  ·exact h.elim
 case len x=>
  simp only [AH.wp] at h
  split at h
  ·rename_i n es ha
   refine ⟨_,h,fun z hz=>?_,fun env2 he K2 hK=>?_⟩
   ·rw [List.mem_singleton.1 hz]; exact ⟨_,ha⟩
   ·simp only [AH.wp,he x (by simp),ha]
    exact hK
  ·exact h.elim
 case cvt k x=>
  simp only [AH.wp] at h
  split at h
  ·rename_i k' n ha
   refine ⟨_,h,fun z hz=>?_,fun env2 he K2 hK=>?_⟩
   ·rw [List.mem_singleton.1 hz]; exact ⟨_,ha⟩
   ·simp only [AH.wp,he x (by simp),ha]
    exact hK
  ·exact h.elim
 case mm b x y=>
  simp only [AH.wp] at h
  split at h
  ·rename_i k a k' a' ha hb
   refine ⟨_,h.2,fun z hz=>?_,fun env2 he K2 hK=>?_⟩
   ·simp only [List.mem_cons,List.not_mem_nil,or_false] at hz
    rcases hz with rfl | rfl
    ·exact ⟨_,ha⟩
    ·exact ⟨_,hb⟩
   ·simp only [AH.wp,he x (by simp),he y (by simp),ha,hb]
    exact ⟨h.1,hK⟩
  ·exact h.elim
 case slc n x lo hi=>
  simp only [AH.wp] at h
  split at h
  ·rename_i m es ha
   split at h
   ·rename_i k1 l k2 r hl hr
    refine ⟨_,h.2.2,fun z hz=>?_,fun env2 he K2 hK=>?_⟩
    ·simp only [List.mem_cons,List.mem_append,Option.mem_toList] at hz
     rcases hz with rfl | hz | hz
     ·exact ⟨_,ha⟩
     ·cases hz; exact ⟨_,hl⟩
     ·cases hz; exact ⟨_,hr⟩
    ·have k1:GH env2 0 lo=GH env 0 lo:=Tw (fun y hy=>he y (by simp at hy ⊢; exact .inr (.inl hy)))
     have k2:GH env2 es.length hi=GH env es.length hi:=Tw (fun y hy=>he y (by simp at hy ⊢; exact .inr (.inr hy)))
     simp only [AH.wp,he x (by simp),ha,k1,k2,hl,hr]
     exact ⟨h.1,h.2.1,hK⟩
   ·exact h.elim
  ·exact h.elim
theorem fl {p q:PR} {env:AC} (hpair:okPairV D p q=true) {rs:List PR} (h:JC (AR P) K (p::q::rs) env):JC (AR P) K (q::p::rs) env:=by
 unfold okPairV at hpair
 split at hpair
 ·rename_i xs d n x v e1 e2 e3 f1 f2 f3
  simp only [zzZ,bne_iff_ne,ne_eq,Bool.not_eq_true',List.contains_eq_mem,decide_eq_false_iff_not] at hpair
  obtain ⟨⟨⟨_,hdx⟩,hdv⟩,hdj⟩:=hpair
  obtain ⟨e',heq,h⟩:=h
  unfold PR.wp at h
  rw [e2,e3] at h
  simp only [AC.put] at h
  obtain ⟨t,⟨y,hy,hw⟩,hs,hag⟩:=fo e1 h
  obtain ⟨s,off,cs,cs',o,h1,h2,h3,hK,h5⟩:=RY f1 f2 f3 hw
  have gy:∀ z,d≠z->y.get z=e'.get z:=fun z hz=>by rw [hy.1,AC.get_cons,if_neg hz]
  have hsd:d≠s:=fun e=>by
   rw [hy.1,AC.get_cons,if_pos e] at h2; cases h2
  have hp:(AJ.s x).place e'=some (s,off):=by
   simp only [AJ.place,gy x hdx] at h1 ⊢
   exact h1
  have hb:e'.get s=.bx cs:=by rw [←gy s hsd]; exact h2
  have hv:v.ev e'=v.ev y:=by
   cases v with
   | c t=>rfl
   | s q'=>
    simp only [AJ.ev]
    exact (gy q' (fun e=>hdv (by rw [e]; simp [AJ.sl]))).symm
  have hq:∀ K2:AC->Prop,K2 (Lp s cs' o e')->q.wp (AR P) e' K2:=fun K2 hK2=>h5 e' hp hb hv K2 hK2
  refine ⟨e',heq,hq _ ⟨_,.refl _,?_⟩⟩
  unfold PR.wp
  rw [e2,e3]
  simp only [AC.put]
  refine hag _ (fun z hz=>?_) _ (MQ hK ?_)
  ·cases z with
   | c t=>rfl
   | s m=>
    obtain ⟨u,hu⟩:=hs _ hz
    have hms:¬ s=m:=fun e=>by
     subst e
     simp only [AJ.val,AJ.ev,hb,EV.val] at hu
     cases hu
    simp only [AJ.val,AJ.ev,He,if_neg hms]
    cases o with
    | none=>rfl
    | some pr=>
     have hmq:¬ pr.1=m:=fun e=>C8 hdj (x:=m) (List.mem_flatMap.2 ⟨_,hz,by simp [AJ.sl]⟩) (by rw [(h3 pr.1 pr.2 rfl).1,e]; simp [AJ.sl])
     simp only [if_neg hmq]
  ·refine ⟨fun z=>?_,fun z=>?_⟩
   ·rw [AC.get_cons,He,He]
    by_cases k0:s=z
    ·subst k0; rw [if_pos rfl,if_neg hsd,if_pos rfl]
    ·rw [if_neg k0,if_neg k0]
     cases o with
     | none=>
      simp only
      rw [hy.1,AC.get_cons]
     | some pr=>
      have hdq:¬ d=pr.1:=fun e=>hdv (by rw [(h3 pr.1 pr.2 rfl).1,e]; simp [AJ.sl])
      simp only
      by_cases k1:pr.1=z
      ·rw [if_pos k1,if_pos k1,if_neg (fun e=>hdq (e.trans k1.symm))]
      ·rw [if_neg k1,if_neg k1,hy.1,AC.get_cons]
   ·have hn:∀ q' e,o=some (q',e)->e.noR z=true:=fun q' e he=>by
     obtain ⟨_,⟨t,rfl⟩,_⟩:=h3 q' e he
     rfl
    rw [AC.noRef_cons,Hu _ _ _ _ _ hn,Hu _ _ _ _ _ hn,hy.2,AC.noRef_cons]
 ·cases hpair
theorem fj {p q:PR} {env:AC} (hj:JD D env) (hpair:okPairL D p q=true) {rs:List PR} (h:JC (AR P) K (p::q::rs) env):JC (AR P) K (q::p::rs) env:=by
 unfold okPairL at hpair
 split at hpair
 ·rename_i b m d n x v e1 e2 e3 f1 f2 f3
  simp only [zzZ,bne_iff_ne,ne_eq,Bool.not_eq_true',List.contains_eq_mem,decide_eq_false_iff_not,zzX] at hpair
  obtain ⟨⟨⟨⟨⟨⟨_,bD⟩,hbx⟩,hdx⟩,hdb⟩,hdv⟩,hbv⟩:=hpair
  obtain ⟨e',heq,h⟩:=h
  have hj':=hj.congr heq.symm
  unfold PR.wp at h
  rw [e1,e2,e3] at h
  simp only [AC.put,AH.wp] at h
  split at h
  case h_2=>exact h.elim
  rename_i bs hbs
  obtain ⟨hn,y,hy,hw⟩:=h
  obtain ⟨s,off,cs,cs',o,h1,h2,h3,hK,h5⟩:=RY f1 f2 f3 hw
  have gy:∀ z,d≠z->y.get z=e'.get z:=fun z hz=>by rw [hy.1,AC.get_cons,if_neg hz]
  have hsd:d≠s:=fun e=>by
   rw [hy.1,AC.get_cons,if_pos e] at h2; cases h2
  have hp:(AJ.s x).place e'=some (s,off):=by
   simp only [AJ.place,gy x hdx] at h1 ⊢
   exact h1
  have hsb:¬ s=b:=by
   intro e
   subst e
   simp only [AJ.place] at hp
   split at hp
   ·rename_i r off' hx
    simp only [zzY,Prod.mk.injEq] at hp
    exact hj'.no (x:=x) (s:=s) (by rw [hx,←hp.1]; rfl) bD
   ·simp only [zzY,Prod.mk.injEq] at hp
    exact hbx hp.1.symm
   ·cases hp
  have hb:e'.get s=.bx cs:=by rw [←gy s hsd]; exact h2
  have hv:v.ev e'=v.ev y:=by
   cases v with
   | c t=>rfl
   | s q'=>
    simp only [AJ.ev]
    exact (gy q' (fun e=>hdv (by rw [e]; simp [AJ.sl]))).symm
  have hq:∀ K2:AC->Prop,K2 (Lp s cs' o e')->q.wp (AR P) e' K2:=fun K2 hK2=>h5 e' hp hb hv K2 hK2
  refine ⟨e',heq,hq _ ⟨_,.refl _,?_⟩⟩
  have hg:(Lp s cs' o e').get b=.bx bs:=by
   rw [He,if_neg hsb]
   cases o with
   | none=>exact hbs
   | some pr=>
    simp only
    rw [if_neg (fun e=>hbv (by rw [(h3 pr.1 pr.2 rfl).1,←e]; simp [AJ.sl]))]
    exact hbs
  unfold PR.wp
  rw [e1,e2,e3]
  simp only [AC.put,AH.wp,hg]
  refine ⟨hn,MQ hK ?_⟩
  refine ⟨fun z=>?_,fun z=>?_⟩
  ·rw [AC.get_cons,He,He]
   by_cases k0:s=z
   ·subst k0; rw [if_pos rfl,if_neg hsd,if_pos rfl]
   ·rw [if_neg k0,if_neg k0]
    cases o with
    | none=>
     simp only
     rw [hy.1,AC.get_cons]
    | some pr=>
     have hdq:¬ d=pr.1:=fun e=>hdv (by rw [(h3 pr.1 pr.2 rfl).1,e]; simp [AJ.sl])
     simp only
     by_cases k1:pr.1=z
     ·rw [if_pos k1,if_pos k1,if_neg (fun e=>hdq (e.trans k1.symm))]
     ·rw [if_neg k1,if_neg k1,hy.1,AC.get_cons]
  ·have hn:∀ q' e,o=some (q',e)->e.noR z=true:=fun q' e he=>by
    obtain ⟨_,⟨t,rfl⟩,_⟩:=h3 q' e he
    rfl
   rw [AC.noRef_cons,Hu _ _ _ _ _ hn,Hu _ _ _ _ _ hn,hy.2,AC.noRef_cons]
 ·cases hpair
theorem Xj {q:PR} {oq:Oper} (hq:L3 P N ops oq q=true) {post:List PR}:∀ (pre:List PR),(∀ p∈pre,okPair2 D p q=true∧∃ o,L3 P N ops o p=true)->∀ {env:AC},LC F0 w0 N env->JD D env->JC (AR P) K (pre++q::post) env->JC (AR P) K (q::(pre++post)) env
 | [],_,env,_,_,h=>h
 | p::pre,hpre,env,hR,hj,h=>by
  obtain ⟨hpair,o,ho⟩:=hpre p (by simp)
  obtain ⟨e',heq,h⟩:=h
  obtain ⟨env1,hw,hR1,hj1,hrun⟩:=o5 ho (VU hpair) (hR.congr heq.symm) (hj.congr heq.symm) h
  have ih:=Xj hq pre (fun p hp=>hpre p (by simp [hp])) hR1 hj1 hw
  have hall:JC (AR P) K (p::q::(pre++post)) env:=⟨e',heq,hrun _ ih⟩
  simp only [okPair2,Bool.or_eq_true] at hpair
  rcases hpair with ((((((hpair | hpair) | hpair) | hpair) | hpair) | hpair) | hpair) | hpair
  ·exact swap hR hj ho hq hpair hall
  ·exact dG hR hj ho hpair hall
  ·exact fi hpair hall
  ·exact fk hR hj ho hpair hall
  ·exact fm hpair hall
  ·exact fh hj hpair hall
  ·exact fl hpair hall
  ·exact fj hj hpair hall
theorem lg {S:FuncId->List TV->CH->Prop} {n:Nat} {x v:AJ} {d:Option Nat} {env:AC} {K:EV->AC->Prop} (h:(AH.st n x v).wp S env d K):(AH.st n x v).wp S env d fun e env'=>K e env'∧e=.undef∧∀ c,env'.noRef c=env.noRef c:=by
 simp only [AH.wp] at h ⊢
 split at h
 ·rename_i s off hp
  split at h
  ·rename_i cs hs
   split at h
   ·rename_i t hv
    cases v with
    | c t=>exact h.elim
    | s q=>
     simp only at h ⊢
     exact ⟨h.1,h.2.1,h.2.2.1,h.2.2.2,trivial,fun c=>by simp [AC.noRef_cons,EV.noR,EV.ref]⟩
   ·rename_i t hv
    exact ⟨h.1,h.2.1,h.2.2,trivial,fun c=>by simp [AC.noRef_cons,EV.noR,EV.ref]⟩
   ·exact h.elim
  ·exact h.elim
 ·exact h.elim
theorem eP {S:FuncId->List TV->CH->Prop} {n s:Nat} {v:AJ} {d:Option Nat} {env:AC} {K:EV->AC->Prop} (h:(AH.stb n s v).wp S env d K):(AH.stb n s v).wp S env d fun e env'=>K e env'∧e=.undef∧∀ c,env'.noRef c=env.noRef c:=by
 simp only [AH.wp] at h ⊢
 split at h
 ·rename_i cs hs
  split at h
  ·rename_i t hv
   cases v with
   | c t=>exact h.elim
   | s q=>
    simp only at h ⊢
    exact ⟨h.1,h.2.1,h.2.2.1,h.2.2.2,trivial,fun c=>by simp [AC.noRef_cons,EV.noR,EV.ref]⟩
  ·rename_i t hv
   exact ⟨h.1,h.2.1,h.2.2,trivial,fun c=>by simp [AC.noRef_cons,EV.noR,EV.ref]⟩
  ·exact h.elim
 ·exact h.elim
theorem Wm (env:AC) (q:Nat) (i:Option Nat) (n:Nat) (es:List TV) (c:Nat):AC.noRef c (env.xput q i n es)=AC.noRef c env:=by
 cases i with
 | none=>simp [AC.xput,AC.noRef_cons,EV.noR,EV.ref]
 | some k=>
  simp only [AC.xput]
  split
  ·simp [AC.noRef_cons,EV.noR,EV.ref]
  ·rfl
theorem eO {S:FuncId->List TV->CH->Prop} {x:AJ} {q:Nat} {d:Option Nat} {env:AC} {K:EV->AC->Prop} (h:(AH.cpt x q).wp S env d K):(AH.cpt x q).wp S env d fun e env'=>K e env'∧e=.undef∧∀ c,env'.noRef c=env.noRef c:=by
 simp only [AH.wp] at h ⊢
 split at h
 ·rename_i s off n es hp hq
  split at h
  ·rename_i cs hs
   exact ⟨h.1,h.2.1,h.2.2,trivial,fun c=>by simp [AC.noRef_cons,EV.noR,EV.ref]⟩
  ·exact h.elim
 ·exact h.elim
theorem eR {S:FuncId->List TV->CH->Prop} {x v:AJ} {d:Option Nat} {env:AC} {K:EV->AC->Prop} (h:(AH.xst x v).wp S env d K):(AH.xst x v).wp S env d fun e env'=>K e env'∧e=.undef∧∀ c,env'.noRef c=env.noRef c:=by
 simp only [AH.wp] at h ⊢
 split at h
 ·rename_i q i c hx
  split at h
  ·obtain ⟨h1,h2,es',h3,h4,h5,h7⟩:=h
   exact ⟨h1,h2,es',h3,h4,h5,h7,trivial,fun c=>Wm _ _ _ _ _ _⟩
  ·exact h.elim
 ·exact h.elim
theorem eQ {S:FuncId->List TV->CH->Prop} {n s q:Nat} {d:Option Nat} {env:AC} {K:EV->AC->Prop} (h:(AH.stx n s q).wp S env d K):(AH.stx n s q).wp S env d fun e env'=>K e env'∧e=.undef∧∀ c,env'.noRef c=env.noRef c:=by
 simp only [AH.wp] at h ⊢
 split at h
 ·rename_i cs ds h1 h2
  exact ⟨h.1,h.2.1,h.2.2.1,h.2.2.2,trivial,fun c=>by simp [AC.noRef_cons,EV.noR,EV.ref]⟩
 ·exact h.elim
theorem cD {S:FuncId->List TV->CH->Prop} {r:PR} {env:AC} {K:AC->Prop} (hok:UX D r=true) (hd:K4 r.op=true->r.dst=none) (hj:JD D env) (h:r.wp S env K):r.wp S env fun env'=>K env'∧JD D env':=by
 simp only [UX,Bool.or_eq_true,zzZ,Bool.not_eq_true'] at hok
 rcases hok with ((hst | hbd) | hq) | ⟨⟨⟨hm,hdst⟩,hg⟩,hb⟩
 ·have hdst:=hd hst
  have run:(r.op.wp S env r.dst fun e env'=>K (env'.put r.dst e))->r.op.wp S env r.dst fun e env'=>K (env'.put r.dst e)∧JD D (env'.put r.dst e):=by
   intro hw
   rw [hdst] at hw ⊢
   generalize r.op=p at hst hw ⊢
   cases p <;> simp only [K4] at hst <;> first | cases hst | skip
   ·refine AH.wp_mono S env none (fun e env' he=>⟨he.1,fun d hd=>?_⟩) _ (lg hw)
    simp only [AC.put]
    rw [he.2.2]; exact hj d hd
   ·refine AH.wp_mono S env none (fun e env' he=>⟨he.1,fun d hd=>?_⟩) _ (eP hw)
    simp only [AC.put]
    rw [he.2.2]; exact hj d hd
   ·refine AH.wp_mono S env none (fun e env' he=>⟨he.1,fun d hd=>?_⟩) _ (eR hw)
    simp only [AC.put]
    rw [he.2.2]; exact hj d hd
   ·refine AH.wp_mono S env none (fun e env' he=>⟨he.1,fun d hd=>?_⟩) _ (eQ hw)
    simp only [AC.put]
    rw [he.2.2]; exact hj d hd
   ·refine AH.wp_mono S env none (fun e env' he=>⟨he.1,fun d hd=>?_⟩) _ (eO hw)
    simp only [AC.put]
    rw [he.2.2]; exact hj d hd
  unfold PR.wp at h ⊢
  split
  ·rename_i hr; rw [hr] at h; exact run h
  ·rename_i g b hr
   rw [hr] at h
   simp only at h
   split
   ·rename_i q hq
    rw [hq] at h
    exact ⟨fun hb=>run (h.1 hb),fun hb=>⟨h.2 hb,by rw [hdst]; exact hj⟩⟩
   ·rename_i hsk
    rw [hsk] at h
    exact ⟨h,by rw [hdst]; exact hj⟩
   ·rename_i hne hnk
    split at h
    ·rename_i q hq; exact absurd hq (hne q)
    ·rename_i hq; exact absurd hq hnk
    ·exact h.elim
 ·unfold okBd at hbd
  split at hbd
  ·rename_i gs d e1 e2 e3
   obtain ⟨ts,h1,h3,h4⟩:=QP e1 e2 e3 h
   refine OR e1 e2 e3 h1 h3 ⟨h4,fun x hx=>?_⟩
   rw [AC.noRef_cons,KC,hj x hx]
   rfl
  ·cases hbd
 ·unfold okQ at hq
  split at hq
  ·rename_i s d e1 e2 e3
   obtain ⟨n,es,h1,h2,h3,h4⟩:=WG e1 e2 e3 h
   refine WH e1 e2 e3 h1 h2 h3 ⟨h4,fun x hx=>?_⟩
   have:=hj x hx
   simp [AC.noRef_cons,EV.noR,EV.ref,this]
  ·rename_i n s z x d e1 e2 e3
   simp only [PR.wp,e1,e2,e3,AH.wp,AC.put] at h ⊢
   split at h
   ·rename_i d' m es kk j hdd hs hx
    simp only [zzY] at hdd
    subst hdd
    refine ⟨h.1,h.2.1,h.2.2.1,h.2.2.2,fun y hy=>?_⟩
    have:=hj y hy
    simp [AC.noRef_cons,EV.noR,EV.ref,this]
   ·exact h.elim
  ·cases hq
 ·obtain ⟨d,hd⟩:=Option.isSome_iff_exists.1 hdst
  have hg':r.op.isNew=true->r.guard=none:=fun hn=>by
   rcases hg with h | h
   ·rw [hn] at h; cases h
   ·simpa using h
  refine PR.wp_mono S env (fun env' he=>?_) r (N9 hd hm hg' h)
  obtain ⟨h1,e,f,hF⟩:=he
  exact ⟨h1,hF.jd hb hj⟩
theorem ZE {S:FuncId->List TV->CH->Prop} {a:Act} {w:World} {rs:List PR}:∀ {env:AC},Og rs=true->JC S K rs env->C2 F0 w0 env a w->∃ env',K env'∧C2 F0 w0 env' a w:=by
 induction rs with
 | nil=>intro env _ h hI; obtain ⟨e,h1,h2⟩:=h; exact ⟨e,h2,hI.congr fun n=>(h1.1 n).symm⟩
 | cons r rs ih=>
  intro env hok h hI
  simp only [Og,zzZ] at hok
  obtain ⟨h1,h2⟩:=hok
  obtain ⟨e',heq,h⟩:=h
  have hI:=hI.congr (fun n=>(heq.1 n).symm)
  split at h1
  ·rename_i s e1 e2 e3
   simp only [PR.wp,e1,e2,e3,AH.wp] at h
   split at h
   ·rename_i cs hs
    obtain ⟨G,hI⟩:=hI
    exact ih h2 h (hI.frz hs)
   ·exact h.elim
  ·cases h1
theorem Oh:∀ (os:List Oper) (rs:List PR),KZ P N ops os rs=true->(∀ i o,os[i]?=some o->L3 P N ops o (LS rs i)=true)∧Og (rs.drop os.length)=true∧rs=(List.range os.length).map (LS rs)++rs.drop os.length
 | [],rs,h=>⟨fun i o h=>by simp at h,h,by simp⟩
 | o::os,[],h=>by simp [KZ] at h
 | o::os,r::rs,h=>by
  simp only [KZ,zzZ] at h
  obtain ⟨h1,h2,h3⟩:=Oh os rs h.2
  refine ⟨fun i o' hi=>?_,by simpa using h2,?_⟩
  ·cases i with
   | zero=>simp only [List.getElem?_cons_zero,zzY] at hi; subst hi; exact h.1
   | succ i=>simp only [List.getElem?_cons_succ] at hi; exact h1 i o' hi
  ·rw [List.length_cons,List.range_succ_eq_map,List.map_cons,List.map_map,List.cons_append,List.drop_succ_cons]
   congr 1
theorem Xp {Q:Exit->Act->World->Prop} {rs:List PR} (hok:Pd P N D ops rs=true) (hpd:∀ i v,p=some (i,v)->∀ r∈rs,r.dst≠some i) (hQ:∀ env a w,K env->K0 N p a->C2 F0 w0 env a w->Q .normal a w) :
  ∀ (fuel:Nat) (rem:List Nat) (listed:Array Bool) (env:AC) (a:Act) (w:World),rem.length=fuel->rem.Pairwise (·<·)->(∀ j,j∈rem↔j<ops.size∧listed.getD j true=false)->listed.size=ops.size ->
   (∀ k o,ops[k]?=some o->listed.getD k false=true->∀ e∈o.after,Region.binds .any e=true->listed.getD e.on false=true) ->
   K0 N p a->C2 F0 w0 env a w->JD D env->JC (AR P) K (rem.map (LS rs)++rs.drop ops.size) env->wpAny P .any ops Q fuel listed a w:=by
 simp only [Pd,zzZ,List.all_eq_true,List.mem_range] at hok
 obtain ⟨⟨⟨⟨hl,hs⟩,he⟩,hM⟩,hP⟩:=hok
 obtain ⟨hl1,hl2,hl3⟩:=Oh ops.toList rs hl
 simp only [Array.length_toList,Array.getElem?_toList] at hl1 hl2 hl3
 intro fuel
 induction fuel with
 | zero=>
  intro rem listed env a w hlen hpw hmem hsz hcl hN hI hj h
  have:rem=[]:=List.eq_nil_of_length_eq_zero hlen
  subst this
  refine ⟨?_,?_⟩
  ·refine List.eq_nil_iff_forall_not_mem.2 fun j hj'=>?_
   rw [mem_ready] at hj'
   obtain ⟨h1,o,ho,_⟩:=hj'
   have:=(hmem j).2 ⟨(Array.getElem?_eq_some_iff.1 ho).1,h1⟩
   cases this
  ·obtain ⟨env',h1,h2⟩:=ZE hl2 h hI
   exact hQ env' a w h1 hN h2
 | succ fuel ih=>
  intro rem listed env a w hlen hpw hmem hsz hcl hN hI hj h
  refine ⟨fun hnil=>?_,fun i hi=>?_⟩
  ·
   exfalso
   cases rem with
   | nil=>simp at hlen
   | cons i rem=>
    have h1:=(hmem i).1 (by simp)
    have hin:i∈Region.ready .any ops listed:=by
     rw [mem_ready]
     have ho:ops[i]?=some ops[i]:=Array.getElem?_eq_getElem h1.1
     refine ⟨h1.2,_,ho,fun e hee hb=>?_⟩
     have:=he i h1.1
     rw [ho] at this
     simp only [List.all_eq_true,Bool.or_eq_true,Bool.not_eq_true',zzX] at this
     have hlt:=(this e (by simpa using hee)).resolve_left (by simp [hb])
     cases hle:listed.getD e.on false with
     | true=>rfl
     | false=>
      have hm:e.on∈i::rem:=by
       refine (hmem _).2 ⟨by omega,?_⟩
       have:e.on<listed.size:=by omega
       simp only [Array.getD_eq_getD_getElem?,Array.getElem?_eq_getElem this,Option.getD_some] at hle ⊢
       exact hle
      rcases List.mem_cons.1 hm with h2 | h2
      ·omega
      ·have:=(List.pairwise_cons.1 hpw).1 _ h2; omega
    rw [hnil] at hin; cases hin
  ·have hi':=hi
   rw [mem_ready] at hi'
   obtain ⟨hi1,o,ho,hi2⟩:=hi'
   have hin:i<ops.size:=(Array.getElem?_eq_some_iff.1 ho).1
   have hir:i∈rem:=(hmem i).2 ⟨hin,hi1⟩
   obtain ⟨pre,post,rfl⟩:=List.append_of_mem hir
   have hpw':=List.pairwise_append.1 hpw
   have hpre:∀ j∈pre,j<i:=fun j hj=>hpw'.2.2 j hj i (by simp)
   have hpost:∀ j∈post,i<j:=fun j hj=>(List.pairwise_cons.1 hpw'.2.1).1 j hj
   have before:∀ (k:Nat),k<ops.size->(∀ o,ops[k]?=some o->∀ e∈o.after,Region.binds .any e=true->listed.getD e.on false=true)->∀ j,j<ops.size->((ag ops).getD k 0).testBit j=true->listed.getD j false=true:=by
    intro k
    induction k using Nat.strongRecOn with
    | _ k ihk=>
     intro hk hdir j hjn hb
     have:=hM k hk j hjn
     rw [hb] at this
     simp only [Bool.not_true,Bool.false_or] at this
     split at this
     ·rename_i ok hok'
      simp only [List.any_eq_true,zzZ,Bool.or_eq_true,beq_iff_eq,zzX] at this
      obtain ⟨e,hee,hbe,h3⟩:=this
      have hle:=hdir ok hok' e (by simpa using hee) hbe
      rcases h3 with h3 | ⟨h3,h4⟩
      ·rw [←h3]; exact hle
      ·exact ihk e.on h3 (by omega) (fun o' ho' e' he' hb'=>hcl e.on o' ho' hle e' he' hb') j hjn h4
     ·cases this
   have hwp:JC (AR P) K (LS rs i::(pre.map (LS rs)++(post.map (LS rs)++rs.drop ops.size))) env:=by
    refine Xj (ops:=ops) (F0:=F0) (w0:=w0) (N:=N) (oq:=o) (hl1 i o ho) (pre.map (LS rs)) (fun p hp=>?_) ⟨a,w,hN.size,hI⟩ hj (by simpa using h)
    obtain ⟨j,hj1,rfl⟩:=List.mem_map.1 hp
    have hlt:=hpre j hj1
    have hjn:j<ops.size:=by omega
    refine ⟨?_,ops[j],hl1 j _ (Array.getElem?_eq_getElem hjn)⟩
    have:=hP i hin j hlt
    rw [Bool.or_eq_true] at this
    refine this.resolve_left fun hb=>?_
    have h1:=before i hin (fun o' ho'=>by rw [ho] at ho'; simp only [zzY] at ho'; subst ho'; exact hi2) j hjn hb
    have h2:=((hmem j).1 (by simp [hj1])).2
    have:j<listed.size:=by omega
    simp only [Array.getD_eq_getD_getElem?,Array.getElem?_eq_getElem this,Option.getD_some] at h1 h2
    rw [h1] at h2; cases h2
   obtain ⟨e',heq,hw⟩:=hwp
   have hI':=hI.congr (fun n=>(heq.1 n).symm)
   have hj':=hj.congr heq.symm
   have hstd:K4 (LS rs i).op=true->(LS rs i).dst=none:=by
    intro hst
    have:=hl1 i o ho
    simp only [L3,zzZ] at this
    have h2:=this.2
    split at h2
    ·simp only [hst,Bool.not_true,Bool.and_false,Bool.false_and] at h2; cases h2
    ·assumption
    ·cases h2
   have hw':=cD (hs i hin) hstd hj' hw
   have hmem':∀ j,j∈pre++post↔j<ops.size∧(listed.setIfInBounds i true).getD j true=false:=by
    intro j
    by_cases hij:j=i
    ·subst hij
     constructor
     ·intro hm
      rcases List.mem_append.1 hm with hm | hm
      ·have:=hpre _ hm; omega
      ·have:=hpost _ hm; omega
     ·rintro ⟨_,h2⟩
      have:j<listed.size:=by omega
      simp [this] at h2
    ·rw [getD_set_ne true (fun e=>hij e.symm),←hmem j]
     simp [hij]
   have hcl':∀ k o',ops[k]?=some o'->(listed.setIfInBounds i true).getD k false=true->∀ e∈o'.after,Region.binds .any e=true->(listed.setIfInBounds i true).getD e.on false=true:=by
    intro k o' hk hlk e hee hb
    refine getD_set_true ?_
    by_cases hki:k=i
    ·subst hki
     rw [ho] at hk
     simp only [zzY] at hk
     subst hk
     exact hi2 e hee hb
    ·rw [getD_set_ne false (fun e=>hki e.symm)] at hlk
     exact hcl k o' hk hlk e hee hb
   have hpdi:∀ j v,p=some (j,v)->(LS rs i).dst≠some j:=by
    intro j v hp
    unfold LS
    cases hr:rs[i]? with
    | none=>simp
    | some r=>exact hpd j v hp r (List.mem_of_getElem? hr)
   have:=Qj (Q:=Q) (next:=wpAny P .any ops Q fuel (listed.setIfInBounds i true)) hI' hN hpdi (hl1 i o ho) hw' fun env' a' w' k1 k2 k3=>
    ih (pre++post) _ env' a' w' (by simp only [List.length_append,List.length_cons] at hlen ⊢; omega) (List.pairwise_append.2 ⟨hpw'.1,(List.pairwise_cons.1 hpw'.2.1).2,fun x hx y hy=>hpw'.2.2 x hx y (by simp [hy])⟩) hmem' (by simpa using hsz) hcl' k2 k3 k1.2 (by simpa using k1.1)
   unfold Go.wpOp
   rw [ho]
   simp only []
   split
   ·rename_i hwd; rw [if_pos hwd] at this; exact .inl this
   ·rename_i hwd; rw [if_neg hwd] at this; exact this
theorem Sn:∀ (ds:List Nat) (env:AC),N7 env ds=true->JD ds env
 | [],env,_=>fun d hd=>by simp at hd
 | d::ds,env,h=>by
  simp only [N7,zzZ] at h
  intro x hx
  rcases List.mem_cons.1 hx with rfl | hx
  ·exact h.1
  ·exact Sn ds env h.2 x hx
theorem Q0 (hm:P.follows .mixedOrders=true):NT P N (Pd P N):=by
 intro F0 w0 p id ds ops rs live env a w K Q hok hpd hN hI hd h hQ
 refine wp_region_any hm ?_
 have hok':=hok
 simp only [Pd,zzZ] at hok'
 obtain ⟨_,_,hl3⟩:=Oh ops.toList rs hok'.1.1.1.1
 simp only [Array.length_toList] at hl3
 have hI':C2 F0 w0 env a { w with drawn:=w.drawn+1 }:=by
  obtain ⟨G,hI⟩:=hI
  refine ⟨G,hI.uniq,hI.lt,⟨hI.below.os,hI.below.tape,hI.below.output,hI.below.size,hI.below.block,hI.below.cell,hI.below.free⟩,hI.defers,hI.dom,fun s hs=>?_,hI.wf⟩
  exact AS.kept (w:=w) (w':={ w with drawn:=w.drawn+1 }) (F:=AY w0.heap.size F0 G) (G:=G) (env:=env) (a:=a) (fun b o u hc hF=>⟨hc,hF⟩) (fun _=>rfl) (fun _ _ _ _=>rfl) (fun r off hr hcs=>⟨hcs,rfl⟩) (fun r i hr hcs=>⟨hcs,fun _ hv=>hv⟩) (hI.slots s hs)
 refine Xp (K:=fun e=>K (e.keep live)) (F0:=F0) (w0:=w0) hok hpd (fun env a w h1 h2 h3=>hQ _ a w h1 h2 (h3.keep live)) ops.size (List.range ops.size) _ env a _ (by simp) List.pairwise_lt_range (fun j=>?_) (by simp) (fun k o hk hl=>?_) hN hI' (Sn ds env hd) ?_
 ·rw [List.mem_range]
  constructor
  ·intro hj; exact ⟨hj,by simp [Array.getD_eq_getD_getElem?,Array.getElem?_replicate,hj]⟩
  ·exact fun h=>h.1
 ·simp only [Array.getD_eq_getD_getElem?,Array.getElem?_replicate] at hl
  split at hl <;> simp at hl
 ·rw [←hl3]; exact Yu h
end
end Go.Sf
