/- Code, and functions. -/
import Derived.Test.YtlbmpkmkmkgniaaGreatDoorSfReg
namespace Go.Sf
open Go.RowKit (Below)
def E6 (P:Program) (N:Nat) (D:List Nat->Array Oper->List PR->Bool):PC->Code->Bool
 | .skip _,.skip=>true
 | .ret,.ret=>true
 | .exit i _,.exit j=>i==j
 | .seq a b,.seq c d=>E6 P N D a c&&E6 P N D b d
 | .cond c a b,.cond x p q=>AP x c&&(E6 P N D a p&&E6 P N D b q)
 | .block i c,.block j d=>i==j&&E6 P N D c d
 | .loop _ c,.loop d=>E6 P N D c d
 | .region rs _,.region _ ops draw=>!draw&&KZ P N ops ops.toList rs
 | .draw ds rs _,.region _ ops draw=>draw&&D ds ops rs
 | .rls _ a,c=>E6 P N D a c
 | .bad,_=>true
 | _,_=>false
def PC.noClm:PC->Bool
 | .seq a b=>a.noClm&&b.noClm
 | .cond _ a b=>a.noClm&&b.noClm
 | .block _ c=>c.noClm
 | .loop _ c=>c.noClm
 | .rls _ c=>c.noClm
 | _=>true
def noDst (i:Nat) (rs:List PR):Bool:=rs.all fun r=>r.dst != some i
def PC.noDst (i:Nat):PC->Bool
 | .seq a b=>a.noDst i&&b.noDst i
 | .cond _ a b=>a.noDst i&&b.noDst i
 | .block _ c=>c.noDst i
 | .loop _ c=>c.noDst i
 | .rls _ c=>c.noDst i
 | .region rs _=>Go.Sf.noDst i rs
 | .draw _ rs _=>Go.Sf.noDst i rs
 | _=>true
theorem Ro {i:Nat} {rs:List PR} (h:noDst i rs=true):∀ r∈rs,r.dst≠some i:=by
 intro r hr
 have:=List.all_eq_true.1 h r hr
 simpa using this
section
variable {P:Program} {F0:Nat->Nat->Prop} {w0:W0} {N:Nat} {p:Option (Nat × Value)} {D:List Nat->Array Oper->List PR->Bool}
theorem C2.envWF {env:AC} {a:Act} {w:World} (h:C2 F0 w0 env a w):∀ s,(env.get s).WF:=by
 obtain ⟨G,h⟩:=h
 exact h.wf
def NT (P:Program) (N:Nat) (D:List Nat->Array Oper->List PR->Bool):Prop:=
 ∀ (F0:Nat->Nat->Prop) (w0:W0) (p:Option (Nat × Value)) (id:Nat) (ds:List Nat) (ops:Array Oper) (rs:List PR) (live:List Nat) (env:AC) (a:Act) (w:World) (K:AC->Prop) (Q:Exit->Act->World->Prop),D ds ops rs=true->(∀ i v,p=some (i,v)->∀ r∈rs,r.dst≠some i)->K0 N p a->C2 F0 w0 env a w->N7 env ds=true->wpOps (AR P) (fun e=>K (e.keep live)) rs env ->
  (∀ env a w,K env->K0 N p a->C2 F0 w0 env a w->Q .normal a w)->(Code.region id ops true).wp P Q a w
theorem Qz (hD:NT P N D):∀ (pc:PC) (c:Code),E6 P N D pc c=true->((∀ b o,¬ w0.E b o)∨pc.noClm=true)->(∀ i v,p=some (i,v)->pc.noDst i=true)->∀ (q:Q) (QQ:Exit->Act->World->Prop),
  (∀ env a w,q.normal env->K0 N p a->C2 F0 w0 env a w->QQ .normal a w)->(∀ i env a w,q.exit i env->K0 N p a->C2 F0 w0 env a w->QQ (.exit i) a w)->(∀ env a w,q.ret env->K0 N p a->C2 F0 w0 env a w->QQ .ret a w) ->
  ∀ env a w,K0 N p a->C2 F0 w0 env a w->pc.wp (AR P) q env->c.wp P QQ a w:=by
 intro pc
 induction pc with
 | skip l=>
  intro c hok hC hpd q QQ h1 h2 h3 env a w hN hI h
  cases c <;> simp only [E6] at hok <;> first | exact Go.wp_skip (h1 _ a w h hN (hI.keep l)) | cases hok
 | ret=>
  intro c hok hC hpd q QQ h1 h2 h3 env a w hN hI h
  cases c <;> simp only [E6] at hok <;> first | exact Go.wp_ret (h3 env a w h hN hI) | cases hok
 | exit i l=>
  intro c hok hC hpd q QQ h1 h2 h3 env a w hN hI h
  cases c <;> simp only [E6] at hok <;> first | cases hok | skip
  simp only [beq_iff_eq] at hok
  subst hok
  exact Go.wp_exit (h2 i _ a w h hN (hI.keep l))
 | seq x y ihx ihy=>
  intro c hok hC hpd q QQ h1 h2 h3 env a w hN hI h
  cases c <;> simp only [E6] at hok <;> first | cases hok | skip
  rename_i c d
  simp only [zzZ] at hok
  have hC1:=hC.imp id (fun e=>(zzZ _ _ ▸ e:x.noClm=true∧y.noClm=true))
  have hp1:=fun i v hp=>(zzZ _ _ ▸ hpd i v hp:x.noDst i=true∧y.noDst i=true)
  refine Go.wp_seq (ihx c hok.1 (hC1.imp id And.left) (fun i v hp=>(hp1 i v hp).1) _ _ ?_ ?_ ?_ env a w hN hI h)
  ·intro env a w hk hN hI
   exact ihy d hok.2 (hC1.imp id And.right) (fun i v hp=>(hp1 i v hp).2) q QQ h1 h2 h3 env a w hN hI (hk hI.envWF)
  ·exact h2
  ·exact h3
 | cond o x y ihx ihy=>
  intro c hok hC hpd q QQ h1 h2 h3 env a w hN hI h
  cases c <;> simp only [E6] at hok <;> first | cases hok | skip
  rename_i c d e
  simp only [zzZ] at hok
  simp only [PC.wp] at h
  split at h
  ·rename_i b hb
   have hc:a.eval c=.bool b:=by
    obtain ⟨G,hI⟩:=hI
    have:=(BL hI hok.1 hb).1
    simpa only [A1] using this
   have hC1:=hC.imp id (fun e=>(zzZ _ _ ▸ e:x.noClm=true∧y.noClm=true))
   have hp1:=fun i v hp=>(zzZ _ _ ▸ hpd i v hp:x.noDst i=true∧y.noDst i=true)
   refine Go.wp_cond_split hc (fun hb=>?_) (fun hb=>?_)
   ·exact ihx d hok.2.1 (hC1.imp id And.left) (fun i v hp=>(hp1 i v hp).1) q QQ h1 h2 h3 env a w hN hI (h.1 hb)
   ·exact ihy e hok.2.2 (hC1.imp id And.right) (fun i v hp=>(hp1 i v hp).2) q QQ h1 h2 h3 env a w hN hI (h.2 hb)
  ·exact h.elim
 | block i x ih=>
  intro c hok hC hpd q QQ h1 h2 h3 env a w hN hI h
  cases c <;> simp only [E6] at hok <;> first | cases hok | skip
  rename_i j d
  simp only [zzZ,beq_iff_eq] at hok
  obtain ⟨rfl,hok⟩:=hok
  refine Go.wp_block (ih d hok hC hpd _ _ ?_ ?_ ?_ env a w hN hI h)
  ·exact h1
  ·intro k env a w hk hN hI
   simp only [Exit.inBlock]
   simp only at hk
   split
   ·rename_i e; rw [if_pos e] at hk; exact h1 env a w hk hN hI
   ·rename_i e; rw [if_neg e] at hk; exact h2 k env a w hk hN hI
  ·exact h3
 | loop live x ih=>
  intro c hok hC hpd q QQ h1 h2 h3 env a w hN hI h
  cases c <;> simp only [E6] at hok <;> first | cases hok | skip
  rename_i c
  simp only [PC.wp] at h
  let Y:Act->World->Prop:=fun a w=>∀ (b:Frame) (k:List Item) (cs:List Frame),∃ e a' w',QQ e a' w'∧Arrives P (lone (b.at a (.code c::.inLoop c::k)) cs w) b k cs e a' w'
  have hX:=h (fun e=>∀ a w,K0 N p a->C2 F0 w0 e a w->Y a w) ?_ a w hN (hI.keep live)
  ·intro b k cs
   obtain ⟨e,a',w',hq,harr⟩:=hX b k cs
   exact ⟨e,a',w',hq,.of_steps (.one step_loop) harr⟩
  ·intro e he a w hN hI
   have hb:c.wp P (Exit.then Y QQ) a w:=by
    refine ih c hok hC hpd _ _ ?_ ?_ ?_ e a w hN hI (he hI.envWF)
    ·intro env a w hk hN hI
     exact hk a w hN (hI.keep live)
    ·exact h2
    ·exact h3
   intro b k cs
   obtain ⟨e,a₁,w₁,hq,harr⟩:=hb b (.inLoop c::k) cs
   cases e with
   | normal=>
    obtain ⟨e₂,a₂,w₂,hq₂,harr₂⟩:=hq b k cs
    exact ⟨e₂,a₂,w₂,hq₂,.of_steps (Steps.trans harr (.one step_inLoop)) harr₂⟩
   | exit id=>exact ⟨_,a₁,w₁,hq,.pass (x:=.inLoop c) rfl (fun _ _=>.inl (by simp)) harr⟩
   | goto l=>exact ⟨_,a₁,w₁,hq,.pass (x:=.inLoop c) rfl (fun _ _=>.inl (by simp)) harr⟩
   | ret=>exact ⟨_,a₁,w₁,hq,.pass (x:=.inLoop c) rfl (fun _ _=>.inl (by simp)) harr⟩
   | panic ch=>exact ⟨_,a₁,w₁,hq,.pass (x:=.inLoop c) rfl (fun _ _=>.inl (by simp)) harr⟩
   | outgrown=>exact ⟨_,a₁,w₁,hq,.pass (x:=.inLoop c) rfl (fun _ _=>.inl (by simp)) harr⟩
 | region rs live=>
  intro c hok hC hpd q QQ h1 h2 h3 env a w hN hI h
  cases c <;> simp only [E6] at hok <;> first | cases hok | skip
  rename_i id ops draw
  simp only [zzZ,Bool.not_eq_true'] at hok
  obtain ⟨rfl,hok⟩:=hok
  exact Un hok (fun i v hp=>Ro (hpd i v hp)) hN hI h fun env a w hk hN hI=>h1 _ a w hk hN (hI.keep live)
 | draw ds rs live=>
  intro c hok hC hpd q QQ h1 h2 h3 env a w hN hI h
  cases c <;> simp only [E6] at hok <;> first | cases hok | skip
  rename_i id ops draw
  simp only [zzZ] at hok
  obtain ⟨rfl,hok⟩:=hok
  exact hD F0 w0 p id ds ops rs live env a w q.normal QQ hok (fun i v hp=>Ro (hpd i v hp)) hN hI h.1 h.2 h1
 | bad=>
  intro c hok hC hpd q QQ h1 h2 h3 env a w hN hI h
  exact h.elim
 | rls s x ih=>
  intro c hok hC hpd q QQ h1 h2 h3 env a w hN hI h
  have hok':E6 P N D x c=true:=by
   cases c <;> simpa only [E6] using hok
  simp only [PC.wp] at h
  split at h
  ·rename_i cs hs
   obtain ⟨G,hI⟩:=hI
   exact ih c hok' (hC.imp id fun e=>e) hpd q QQ h1 h2 h3 _ a w hN (hI.rls hs) h
  ·exact h.elim
def JX:Nat->List TV->AC
 | _,[]=>[]
 | k,t::ts=>(k,.tv t)::JX (k+1) ts
theorem JH:∀ (ts:List TV) (k n:Nat),AC.get (JX k ts) n=if k<=n then (match ts[n - k]? with | some t=>.tv t | none=>.undef) else .undef
 | [],k,n=>by simp [JX,AC.get]
 | t::ts,k,n=>by
  rw [JX,AC.get_cons,JH ts (k+1) n]
  by_cases h:k=n
  ·subst h; simp
  ·rw [if_neg h]
   by_cases h':k<=n
   ·rw [if_pos h',if_pos (by omega),show n - k=(n - (k+1))+1 from by omega,List.getElem?_cons_succ]
   ·rw [if_neg h',if_neg (by omega)]
theorem C2.start {w:World} {F0:Nat->Nat->Prop} {ts:List TV} {vs:Array Value} (h:AQ w F0 ts vs.toList) (hw:TV.WFs ts) {n:Nat}:C2 F0 (W0.mk w fun _ _=>False) (JX 0 ts) { tmps:=vs++Array.replicate n undef,defers:=[] } w:=by
 have hl:=CC h
 simp only [Array.length_toList] at hl
 refine ⟨fun _ _=>none,by simp,by simp,⟨rfl,rfl,rfl,Nat.le_refl _,fun _ _ _=>rfl,fun _ _ _ _ h=>h,fun _ _ _ h=>h.elim⟩,rfl,fun s hs=>?_,fun s hs=>?_,fun s=>?_⟩
 ·rw [JH]
  simp only [Array.size_append,Array.size_replicate] at hs
  rw [if_pos (Nat.zero_le _),List.getElem?_eq_none (by omega)]
 ·rw [JH,if_pos (Nat.zero_le _),Nat.sub_zero]
  cases ht:ts[s]? with
  | none=>trivial
  | some t=>
   have hlt:s<vs.size:=by
    have:=(List.getElem?_eq_some_iff.1 ht).1; omega
   have hv:vs.toList[s]?=some (slot { tmps:=vs++Array.replicate n undef,defers:=[] } s):=by
    simp [slot,Array.getD_eq_getD_getElem?,Array.getElem?_append,hlt]
   refine C1 (fun b o u hc hF=>⟨hc,?_⟩) _ _ (((CD _ _).1 h).2 s t _ ht hv)
   rintro (h1 | ⟨_,_,_,h1,_⟩)
   ·exact hF h1.2
   ·cases h1
 ·rw [JH,if_pos (Nat.zero_le _),Nat.sub_zero]
  cases ht:ts[s]? with
  | none=>trivial
  | some t=>exact CJ.1 hw t (List.mem_of_getElem? ht)
def NI (P:Program):ResultVar->RV->Bool
 | .tmp t,.tmp s=>t==s
 | .cell x t,.cell s none=>x==s&&DH P t==some false
 | .cell x t,.cell s (some n)=>x==s&&DH P t==some true&&EU P t==some n
 | _,_=>false
def ID (P:Program):List ResultVar->List RV->Bool
 | [],[]=>true
 | x::xs,y::ys=>NI P x y&&ID P xs ys
 | _,_=>false
def Hz (tmps:Array Value):ResultVar->Sem Value
 | .tmp t=>pure (tmps.getD t undef)
 | .cell a t=>do loadVar t (←asAddr (tmps.getD a undef))
variable {env:AC} {a:Act} {w:World} {G:DE}
theorem TZ (hI:AT F0 w0 env a w G) {x:ResultVar} {y:RV} (hok:NI P x y=true) {t:TV} (h:y.get env=some t):∃ v,(Hz a.tmps x).run P w=.ok v w∧A1 w (AY w0.heap.size F0 G) t v∧t.WF:=by
 have hok':∀ s,AP (.tmp s) (.s s)=true:=fun s=>by simp [AP]
 cases x with
 | tmp s=>
  cases y with
  | tmp s'=>
   simp only [NI,beq_iff_eq] at hok
   subst hok
   have:=BL hI (hok' s) (t:=t) h
   exact ⟨slot a s,rfl,this⟩
  | cell s' n=>cases n <;> simp [NI] at hok
 | cell s ty=>
  cases y with
  | tmp _=>cases hok
  | cell s' n=>
   cases n with
   | none=>
    simp only [NI,zzZ,beq_iff_eq] at hok
    obtain ⟨rfl,ht⟩:=hok
    simp only [RV.get] at h
    split at h
    ·rename_i u r hc
     simp only [zzY] at h
     subst h
     obtain ⟨b,off,vs,h1,h2,h3,_,h4⟩:=NV hI (hok' s) (y:=.s s) hc
     simp only [AQ] at h2
     obtain ⟨v,r',rfl,h5,h6⟩:=h2
     have h7:=h4 0 v rfl
     rw [Addr.add_zero'] at h7
     have h1':a.tmps.getD s undef=.pointer (some ⟨b,off,none⟩):=h1
     refine ⟨v,?_,h5,h3.1⟩
     simp [Hz,h1',loadVar,E4 ht,h7,asAddr]
    ·cases h
   | some n=>
    simp only [NI,zzZ,beq_iff_eq] at hok
    obtain ⟨⟨rfl,ht⟩,hn⟩:=hok
    simp only [RV.get] at h
    split at h
    ·rename_i cs hc
     split at h
     ·rename_i hl'
      simp only [zzY] at h
      subst h
      obtain ⟨b,off,vs,h1,h2,h3,h1c,h4⟩:=NV hI (hok' s) (y:=.s s) hc
      have hl:=CC h2
      have hrun:=run_loadCells_list (P:=P) w ⟨b,off,none⟩ vs h4
      rw [hl,hl'] at hrun
      have h1':a.tmps.getD s undef=.pointer (some ⟨b,off,none⟩):=h1
      refine ⟨.agg vs.toArray,?_,?_,h3⟩
      ·simp [Hz,h1',loadVar,E4 ht,DT hn,hrun,asAddr]
      ·simp only [A1]
       exact ⟨_,rfl,h2,by rw [List.all_eq_true]; exact fun x hx=>h1c x hx⟩
     ·cases h
    ·cases h
theorem Kz (hI:AT F0 w0 env a w G):∀ {xs:List ResultVar} {ys:List RV},ID P xs ys=true->∀ {ts:List TV},I7 env ys=some ts->∃ vs,(xs.mapM (Hz a.tmps)).run P w=.ok vs w∧AQ w (AY w0.heap.size F0 G) ts vs∧TV.WFs ts
 | [],[],_,ts,h=>by simp [I7] at h; subst h; exact ⟨[],by simp,rfl,trivial⟩
 | [],_::_,hok,_,_=>by simp [ID] at hok
 | _::_,[],hok,_,_=>by simp [ID] at hok
 | x::xs,y::ys,hok,ts,h=>by
  simp only [ID,zzZ] at hok
  simp only [I7] at h
  split at h
  ·rename_i t us h1 h2
   simp only [zzY] at h
   subst h
   obtain ⟨v,e1,e2,e3⟩:=TZ hI hok.1 h1
   obtain ⟨vs,e4,e5,e6⟩:=Kz hI hok.2 h2
   exact ⟨v::vs,by simp [List.mapM_cons,e1,e4],⟨v,vs,rfl,e2,e5⟩,e3,e6⟩
  ·cases h
theorem I6 {f:ResultVar->Sem Value} {xs:Array ResultVar} {vs:List Value} {w':World} (h:(xs.toList.mapM f).run P w=.ok vs w'):(xs.mapM f).run P w=.ok vs.toArray w':=by
 rw [←Array.toArray_toList (xs:=xs),List.mapM_toArray]
 simp [h]
theorem AQ.toA {F:Nat->Nat->Prop} {ts:List TV} {vs:List Value} (h:AQ w F ts vs):AQ w F ts vs.toArray.toList:=by simpa using h
theorem VZ (hI:AT F0 w0 env a w G) (hE:∀ b o,¬ w0.E b o) {fn:Func} {ys:List RV} (hok:ID P fn.results.toList ys=true) {r:CH} (hpl:r.plain=true) (h:EK ys r env) :
  ∃ v,(results fn a.tmps).run P w=.ok v w∧Ix w (fun b o=>b<w0.heap.size∧F0 b o) w0.heap.size r v∧r.WF:=by
 have hlist:∀ ts,I7 env ys=some ts->∃ vs:List Value,(fn.results.mapM (Hz a.tmps)).run P w=.ok vs.toArray w∧AQ w (AY w0.heap.size F0 G) ts vs∧TV.WFs ts:=by
  intro ts hts
  obtain ⟨vs,e1,e2,e3⟩:=Kz (P:=P) hI hok hts
  exact ⟨vs,I6 e1,e2,e3⟩
 have hshape:(results fn a.tmps)=(fn.results.mapM (Hz a.tmps) >>= fun vs=>pure (if h:vs.size=1 then vs[0] else .tuple vs)):=by
  unfold results
  congr 1
 have hag:DK w w (AY w0.heap.size F0 G) (fun b o=>b<w0.heap.size∧F0 b o):=fun b o u hc hF=>⟨hc,fun hF'=>hF (.inl hF')⟩
 cases r with
 | sh t=>
  have h1:∃ x,ys=[x]∧x.get env=some t:=by
   rcases ys with _ | ⟨x,_ | ⟨y,ys⟩⟩ <;> simp [EK] at h
   exact ⟨x,rfl,h⟩
  obtain ⟨x,rfl,hx⟩:=h1
  obtain ⟨vs,e1,e2,e3⟩:=hlist [t] (by simp [I7,hx])
  simp only [AQ] at e2
  obtain ⟨v,r',rfl,e4,rfl⟩:=e2
  refine ⟨v,?_,C1 hag _ _ e4,e3.1⟩
  rw [hshape]
  simp [e1]
 | own t=>
  have h1:∃ s,ys=[.tmp s]∧env.get s=.ow t:=by
   rcases ys with _ | ⟨x,_ | ⟨y,ys⟩⟩
   ·simp [EK] at h
   ·cases x <;> simp [EK] at h
    exact ⟨_,rfl,h⟩
   ·simp [EK] at h
  obtain ⟨s,rfl,hs⟩:=h1
  obtain ⟨vs,e1,e2,e3⟩:=hlist [t] (by simp [I7,RV.get,hs,EV.val])
  have hr:NI P (.tmp s) (.tmp s)=true:=by simp [NI]
  have hown:=A4 hI hs (by simp)
  have hwf:=hI.wf s
  rw [hs] at hwf
  simp only [AS] at hown
  have hres:fn.results.toList=[.tmp s]:=by
   rcases hx:fn.results.toList with _ | ⟨x,_ | ⟨y,xs⟩⟩ <;> rw [hx] at hok
   ·simp [ID] at hok
   ·cases x <;> simp [ID,NI] at hok
    rw [hok]
   ·simp [ID] at hok
  have hv:(results fn a.tmps).run P w=.ok (slot a s) w:=by
   rw [hshape]
   have hm:(fn.results.mapM (Hz a.tmps)).run P w=.ok [slot a s].toArray w:=by
    refine I6 ?_
    rw [hres]
    simp [List.mapM_cons,Hz,slot]
   simp [hm]
  refine ⟨slot a s,hv,⟨G s none,hown.kept (fun b o u hc hF=>⟨hc,?_⟩) (fun _ _ _=>rfl),fun b lo hb=>?_⟩,hwf⟩
  ·rintro (h1 | ⟨lo,h1,h2⟩)
   ·exact hF (.inl h1)
   ·exact hF (.inr ⟨s,none,lo,h1,h2⟩)
  ·have:=hI.lt _ _ _ _ hb
   exact ⟨this.2.resolve_right (fun e=>hE _ _ (e _ (Nat.le_refl _))),this.1⟩
 | tp ts=>
  simp only [EK] at h
  have hne:ys.length≠1:=by
   rcases ys with _ | ⟨x,_ | ⟨y,ys⟩⟩ <;> simp_all
  have h2:I7 env ys=some ts:=by
   rcases ys with _ | ⟨x,_ | ⟨y,ys⟩⟩ <;> simp_all
  obtain ⟨vs,e1,e2,e3⟩:=hlist ts h2
  have hlen:vs.length≠1:=by
   rw [CC e2]
   have:∀ (ys:List RV) (ts:List TV),I7 env ys=some ts->ts.length=ys.length:=by
    intro ys
    induction ys with
    | nil=>intro ts h; simp [I7] at h; subst h; rfl
    | cons y ys ih=>
     intro ts h
     simp only [I7] at h
     split at h
     ·rename_i h1 h2
      simp only [zzY] at h
      subst h
      simp [ih _ h2]
     ·cases h
   rw [this _ _ h2]; exact hne
  refine ⟨.tuple vs.toArray,?_,⟨vs.toArray,rfl,(BI hag _ _ e2).toA⟩,e3⟩
  rw [hshape]
  simp [e1,hlen]
 | xown n es=>
  have h1:∃ s,ys=[.tmp s]∧env.get s=.xo n es:=by
   rcases ys with _ | ⟨x,_ | ⟨y,ys⟩⟩
   ·simp [EK] at h
   ·cases x <;> simp [EK] at h
    exact ⟨_,rfl,h⟩
   ·simp [EK] at h
  obtain ⟨s,rfl,hs⟩:=h1
  have hown:=A4 hI hs (by simp)
  have hwf:=hI.wf s
  rw [hs] at hwf
  simp only [AS] at hown
  obtain ⟨xs,⟨z0,k1,k2⟩,k3,k4,k5⟩:=hown
  have hres:fn.results.toList=[.tmp s]:=by
   rcases hx:fn.results.toList with _ | ⟨x,_ | ⟨y,xs⟩⟩ <;> rw [hx] at hok
   ·simp [ID] at hok
   ·cases x <;> simp [ID,NI] at hok
    rw [hok]
   ·simp [ID] at hok
  have hv:(results fn a.tmps).run P w=.ok (slot a s) w:=by
   rw [hshape]
   have hm:(fn.results.mapM (Hz a.tmps)).run P w=.ok [slot a s].toArray w:=by
    refine I6 ?_
    rw [hres]
    simp [List.mapM_cons,Hz,slot]
   simp [hm]
  refine ⟨slot a s,hv,⟨z0,xs,k1,BI (fun b o u hc hf=>⟨hc,fun hf'=>hf ?_⟩) _ _ k3,k4,k5,fun b lo hb=>?_⟩,hwf⟩
  ·rcases hf' with h6 | ⟨lo,h6⟩
   ·exact .inl h6
   ·exact .inr ⟨s,none,0,by rw [k2,h6]; rfl,Nat.zero_le _⟩
  ·have:=hI.lt s none b 0 (by rw [k2,hb]; rfl)
   exact ⟨this.2.resolve_right (fun e=>hE _ _ (e _ (Nat.le_refl _))),this.1⟩
 | turn zs=>exact h.elim
 | cut zs=>exact h.elim
 | bo _ _ _ _=>cases hpl
 | ext _=>cases hpl
 | oag cs=>
  have h1:∃ s n,ys=[.cell s (some n)]∧env.get s=.bx cs∧cs.length=n:=by
   rcases ys with _ | ⟨x,_ | ⟨y,ys⟩⟩
   ·simp [EK] at h
   ·rcases x with s | ⟨s,_ | n⟩
    ·simp [EK] at h
    ·simp [EK] at h
    ·exact ⟨s,n,rfl,h⟩
   ·rcases x with s | ⟨s,_ | n⟩ <;> simp [EK] at h
  obtain ⟨s,n,rfl,hs,hn⟩:=h1
  have hbx:=A4 hI hs (by simp)
  have hwf:=hI.wf s
  rw [hs] at hwf
  simp only [AS] at hbx
  obtain ⟨b,c,T,k1,k2,k3,k4,k5⟩:=hbx
  have hres:∃ ty,fn.results.toList=[.cell s ty]∧DH P ty=some true∧EU P ty=some n:=by
   rcases hx:fn.results.toList with _ | ⟨x,_ | ⟨y,xs⟩⟩ <;> rw [hx] at hok
   ·simp [ID] at hok
   ·cases x <;> simp [ID,NI] at hok
    obtain ⟨⟨rfl,h1⟩,h2⟩:=hok
    exact ⟨_,rfl,h1,h2⟩
   ·simp [ID] at hok
  obtain ⟨ty,hres,hag',hcn⟩:=hres
  have hv:(results fn a.tmps).run P w=.ok (.agg c) w:=by
   rw [hshape]
   have hrun:=run_loadCells_list (P:=P) w ⟨b,0,none⟩ c.toList (fun j v hv=>by
    have:=cell_of_row w b j c T (0,0) k2
    rw [show ((⟨b,0,none⟩:Addr).add j)=⟨b,j,none⟩ by simp [Addr.add]; omega,this]
    simpa using hv)
   rw [Array.length_toList,k3,hn] at hrun
   have h1':a.tmps.getD s undef=.pointer (some ⟨b,0,none⟩):=k1
   have hm:(fn.results.mapM (Hz a.tmps)).run P w=.ok [.agg c].toArray w:=by
    refine I6 ?_
    rw [hres]
    simp [List.mapM_cons,Hz,h1',loadVar,E4 hag',DT hcn,hrun,asAddr]
   simp [hm]
  refine ⟨.agg c,hv,⟨c,fun i=>G s (some i),rfl,k3,fun i d hd=>?_,fun i j b' lo lo' e1 e2=>?_,fun i b' lo hb=>?_⟩,hwf⟩
  ·obtain ⟨x,j1,j2⟩:=k5 i d hd
   refine ⟨x,j1,j2.kept (fun b o u hc hF=>⟨hc,?_⟩) (fun _ _ _=>rfl),Kv j2⟩
   rintro (h1 | ⟨j,lo,h1,h2⟩)
   ·exact hF (.inl h1)
   ·exact hF (.inr ⟨s,some j,lo,h1,h2⟩)
  ·have:=(hI.uniq _ _ _ _ _ _ _ e1 e2).2
   simpa using this
  ·have:=hI.lt _ _ _ _ hb
   exact ⟨this.2.resolve_right (fun e=>hE _ _ (e _ (Nat.le_refl _))),this.1⟩
theorem ZC {f : FuncId} {fn : Func} {c : Code} {pl : PC} {rv : List RV} (hD : NT P fn.ntmps D) (hf : P.funcs[f]? = some fn) (hb : fn.body = some c) (hname : fn.name ≠ "runtime.NumGoroutine") (hok : E6 P fn.ntmps D pl c = true) (hrv : ID P fn.results.toList rv = true)
  {args:List TV} (hn:args.length<=fn.ntmps) {r:CH} (hp:r.plain=true) (h:TV.WFs args->pl.wp (AR P) ⟨EK rv r,fun _ _=>False,EK rv r⟩ (JX 0 args)):AR P f args r:=by
 refine AR.of0 ?_ hp
 intro hw
 refine ⟨by simp [F1,hf,hb,hname],fun F0 w vs hrep=>?_⟩
 have hl:=CC hrep
 simp only [Array.length_toList] at hl
 have hcalls:Calls P f vs w fun e w'=>(∃ v,e=.returned v∧Below w.heap.size w w'∧Ix w' (fun b o=>b<w.heap.size∧F0 b o) w.heap.size r v)∧r.WF:=by
  refine calls_of_wp hf hb ?_
  have fin:∀ (env:AC) (a:Act) (w':World),EK rv r env->K0 fn.ntmps none a->C2 F0 (W0.mk w fun _ _=>False) env a w'->a.defers=[]∧∃ v,(results fn a.tmps).run P w'=.ok v w'∧((∃ v',Ending.returned v=.returned v'∧Below w.heap.size w w'∧Ix w' (fun b o=>b<w.heap.size∧F0 b o) w.heap.size r v')∧r.WF):=by
   intro env a w' hr hN ⟨G,hI⟩
   obtain ⟨v,e1,e2,e3⟩:=VZ (P:=P) hI (fun _ _ h=>h) hrv hp hr
   exact ⟨hI.defers,v,e1,⟨v,rfl,⟨hI.below.os,hI.below.tape,hI.below.output,hI.below.size,fun k hk=>hI.below.block k hk (fun _ h=>h)⟩,e2⟩,e3⟩
  refine Qz (p:=none) hD pl c hok (.inl fun _ _ h=>h) (by simp) _ _ ?_ ?_ ?_ _ _ w ?_ (C2.start hrep hw) (h hw)
  ·exact fun env a w' h1 h2 h3=>fin env a w' h1 h2 h3
  ·exact fun i env a w' h1 _ _=>h1.elim
  ·exact fun env a w' h1 h2 h3=>fin env a w' h1 h2 h3
  ·exact ⟨by simp only [Array.size_append,Array.size_replicate]; omega,by simp⟩
 refine ⟨?_,hcalls.mono fun e w' h=>h.1⟩
 obtain ⟨_,_,_,h1,_⟩:=hcalls []
 exact h1.2
theorem C2.startB {w:World} {F0:Nat->Nat->Prop} {zs:Option Nat->Option (Nat × Nat)} {ts:List TV} {vs:Array Value} {cs:List AU} {i:Nat} {v:Value} (h:AQ w (fun b o=>F0 b o∨ZF zs b o) ts vs.toList) (hw:TV.WFs ts) (hwc:∀ c∈cs,c.t.WF)
  (hi:vs[i]?=some v) (hb:M2 w (fun b o=>F0 b o∨ZF zs b o) zs cs v) (hzu:∀ i i' b lo lo',zs i=some (b,lo)->zs i'=some (b,lo')->i=i') (hzl:∀ i b lo,zs i=some (b,lo)->b<w.heap.size) (hfr:∀ b o o',ZF zs b o->¬ F0 b o') {n:Nat} :
  C2 F0 (W0.mk w (ZF zs)) ((i,.bx cs)::JX 0 ts) { tmps:=vs++Array.replicate n undef,defers:=[] } w:=by
 have hl:=CC h
 simp only [Array.length_toList] at hl
 have hil:i<vs.size:=(Array.getElem?_eq_some_iff.1 hi).1
 let G:DE:=fun s=>if s=i then zs else fun _=>none
 have hG:∀ p j b lo,G p j=some (b,lo)->p=i∧zs j=some (b,lo):=by
  intro p j b lo hp
  simp only [G] at hp
  split at hp
  ·rename_i e; exact ⟨e,hp⟩
  ·cases hp
 have hag:DK w w (fun b o=>F0 b o∨ZF zs b o) (AY w.heap.size F0 G):=by
  refine fun b o u hc hf=>⟨hc,?_⟩
  rintro (⟨_,h1⟩ | ⟨p,j,lo,h1,h2⟩)
  ·exact hf (.inl h1)
  ·exact hf (.inr ⟨j,lo,(hG _ _ _ _ h1).2,h2⟩)
 have hsl:∀ s (hs:s<vs.size),slot { tmps:=vs++Array.replicate n undef,defers:=[] } s=vs[s]:=by
  intro s hs
  simp [slot,Array.getD_eq_getD_getElem?,Array.getElem?_append,hs]
 refine ⟨G,fun p j p' j' b lo lo' e1 e2=>?_,fun p j b lo e1=>?_,⟨rfl,rfl,rfl,Nat.le_refl _,fun _ _ _=>rfl,fun _ _ _ _ h=>h,hfr⟩,rfl,fun s hs=>?_,fun s hs=>?_,fun s=>?_⟩
 ·obtain ⟨f1,f2⟩:=hG _ _ _ _ e1
  obtain ⟨f3,f4⟩:=hG _ _ _ _ e2
  exact ⟨by rw [f1,f3],hzu _ _ _ _ _ f2 f4⟩
 ·obtain ⟨f1,f2⟩:=hG _ _ _ _ e1
  exact ⟨hzl _ _ _ f2,.inr fun o ho=>⟨j,lo,f2,ho⟩⟩
 ·simp only [Array.size_append,Array.size_replicate] at hs
  rw [AC.get_cons,if_neg (by omega),JH,if_pos (Nat.zero_le _),List.getElem?_eq_none (by omega)]
 ·rw [AC.get_cons]
  by_cases his:i=s
  ·subst his
   rw [if_pos rfl,hsl i hil]
   have hv:vs[i]=v:=by
    have:=Array.getElem?_eq_getElem hil
    rw [this] at hi; simpa using hi
   rw [hv]
   obtain ⟨b,c,T,h1,h2,h3,h4,h5⟩:=hb
   simp only [AS]
   refine ⟨b,c,T,h1,h2,h3,by simp only [G,if_true]; exact h4,fun j d hj=>?_⟩
   obtain ⟨x,e1,e2⟩:=h5 j d hj
   refine ⟨x,e1,?_⟩
   simp only [G,if_true]
   exact e2.kept hag (fun _ _ _=>rfl)
  ·rw [if_neg his,JH,if_pos (Nat.zero_le _),Nat.sub_zero]
   cases ht:ts[s]? with
   | none=>trivial
   | some t=>
    have hlt:s<vs.size:=by
     have:=(List.getElem?_eq_some_iff.1 ht).1; omega
    have hv:vs.toList[s]?=some (slot { tmps:=vs++Array.replicate n undef,defers:=[] } s):=by
     rw [hsl s hlt]; simp [hlt]
    exact C1 hag _ _ (((CD _ _).1 h).2 s t _ ht hv)
 ·rw [AC.get_cons]
  split
  ·exact hwc
  ·rw [JH,if_pos (Nat.zero_le _),Nat.sub_zero]
   cases ht:ts[s]? with
   | none=>trivial
   | some t=>exact CJ.1 hw t (List.mem_of_getElem? ht)
theorem Xr {f : FuncId} {fn : Func} {c : Code} {pl : PC} {rv : List RV} (hD : NT P fn.ntmps D) (hf : P.funcs[f]? = some fn) (hb : fn.body = some c) (hname : fn.name ≠ "runtime.NumGoroutine") (hok : E6 P fn.ntmps D pl c = true) (hrv : ID P fn.results.toList rv = true)
  {args:List TV} (hn:args.length<=fn.ntmps) {cs cs':List AU} {i:Nat} {us:List TV} (hcl:pl.noClm=true) (hdst:pl.noDst i=true) (h:TV.WFs args->(∀ c∈cs,c.t.WF)->pl.wp (AR P) ⟨EK rv (.bo cs cs' i us),fun _ _=>False,EK rv (.bo cs cs' i us)⟩ ((i,.bx cs)::JX 0 args)):AR P f args (.bo cs cs' i us):=by
 intro hw hwc
 refine ⟨by simp [F1,hf,hb,hname],fun F0 w vs v zs hrep hvi hbox hzu hzl hfree=>?_⟩
 have hl:=CC hrep
 simp only [Array.length_toList] at hl
 have hcalls:Calls P f vs w fun e w'=>((∀ c∈cs',c.t.WF)∧TV.WFs us)∧∃ r zs',e=.returned r∧Pq zs w w'∧M2 w' (fun b o=>(b<w.heap.size∧F0 b o)∨ZF zs' b o) zs' cs' v ∧
   (∀ i i' b lo lo',zs' i=some (b,lo)->zs' i'=some (b,lo')->i=i')∧(∀ i b lo,zs' i=some (b,lo)->b<w'.heap.size∧(w.heap.size<=b∨∃ j lo',zs j=some (b,lo')∧lo'<=lo)) ∧
   Te w' (fun b o=>(b<w.heap.size∧F0 b o)∨ZF zs' b o) us r:=by
  refine calls_of_wp hf hb ?_
  have fin:∀ (env:AC) (a:Act) (w':World),EK rv (.bo cs cs' i us) env->K0 fn.ntmps (some (i,v)) a->C2 F0 (W0.mk w (ZF zs)) env a w'->a.defers=[]∧∃ r,(results fn a.tmps).run P w'=.ok r w'∧(((∀ c∈cs',c.t.WF)∧TV.WFs us)∧∃ r' zs',Ending.returned r=.returned r'∧Pq zs w w'∧M2 w' (fun b o=>(b<w.heap.size∧F0 b o)∨ZF zs' b o) zs' cs' v ∧
    (∀ i i' b lo lo',zs' i=some (b,lo)->zs' i'=some (b,lo')->i=i')∧(∀ i b lo,zs' i=some (b,lo)->b<w'.heap.size∧(w.heap.size<=b∨∃ j lo',zs j=some (b,lo')∧lo'<=lo)) ∧
    Te w' (fun b o=>(b<w.heap.size∧F0 b o)∨ZF zs' b o) us r'):=by
   rintro env a w' ⟨hs,hr⟩ hN ⟨G,hI⟩
   have hag:DK w' w' (AY w.heap.size F0 G) (fun b o=>(b<w.heap.size∧F0 b o)∨ZF (G i) b o):=by
    refine fun b o u hc hF=>⟨hc,?_⟩
    rintro (h1 | ⟨j,lo,h1,h2⟩)
    ·exact hF (.inl h1)
    ·exact hF (.inr ⟨i,j,lo,h1,h2⟩)
   have hbx:=A4 hI hs (by simp)
   have hwb:=hI.wf i
   rw [hs] at hwb
   rw [hN.pin i v rfl] at hbx
   simp only [AS] at hbx
   obtain ⟨b,c,T,k1,k2,k3,k4,k5⟩:=hbx
   obtain ⟨vs',e1,e2,e3⟩:=Kz (P:=P) hI hrv hr
   have hm:=I6 e1
   have hshape:(results fn a.tmps)=(fn.results.mapM (Hz a.tmps) >>= fun vs=>pure (if h:vs.size=1 then vs[0] else .tuple vs)):=by
    unfold results
    congr 1
   have hlen:=CC e2
   have hres:∃ r,(results fn a.tmps).run P w'=.ok r w'∧Te w' (AY w.heap.size F0 G) us r:=by
    rw [hshape]
    by_cases h1:vs'.length=1
    ·obtain ⟨x,rfl⟩:=List.length_eq_one_iff.1 h1
     rcases us with _ | ⟨t,_ | ⟨t',us⟩⟩
     ·simp at hlen
     ·simp only [AQ] at e2
      obtain ⟨v',r',hv',e4,rfl⟩:=e2
      simp only [List.cons.injEq,and_true] at hv'
      subst hv'
      exact ⟨x,by simp [hm],e4⟩
     ·simp at hlen
    ·refine ⟨.tuple vs'.toArray,by simp [hm,h1],?_⟩
     rcases us with _ | ⟨t,_ | ⟨t',us⟩⟩
     ·exact ⟨_,rfl,e2.toA⟩
     ·exact absurd (by simpa using hlen) h1
     ·exact ⟨_,rfl,e2.toA⟩
   obtain ⟨r,hr1,hr2⟩:=hres
   refine ⟨hI.defers,r,hr1,⟨hwb,e3⟩,r,G i,rfl,?_,⟨b,c,T,k1,k2,k3,k4,fun j d hj=>?_⟩,fun j j' b lo lo' f1 f2=>(hI.uniq _ _ _ _ _ _ _ f1 f2).2,fun j b lo f1=>?_,?_⟩
   ·exact ⟨hI.below.os,hI.below.tape,hI.below.output,hI.below.size,fun k hk hz=>hI.below.block k hk (fun o ⟨j,lo,f1,_⟩=>hz j lo f1),fun b o u hz hu=>hI.below.cell b o u hz hu⟩
   ·obtain ⟨x,f1,f2⟩:=k5 j d hj
    exact ⟨x,f1,f2.kept hag (fun _ _ _=>rfl)⟩
   ·obtain ⟨f2,f3⟩:=hI.lt _ _ _ _ f1
    refine ⟨f2,f3.imp id (fun e=>?_)⟩
    exact e lo (Nat.le_refl _)
   ·rcases us with _ | ⟨t,_ | ⟨t',us⟩⟩
    ·obtain ⟨vs2,f1,f2⟩:=hr2
     exact ⟨vs2,f1,BI hag _ _ f2⟩
    ·exact C1 hag _ _ hr2
    ·obtain ⟨vs2,f1,f2⟩:=hr2
     exact ⟨vs2,f1,BI hag _ _ f2⟩
  refine Qz (p:=some (i,v)) hD pl c hok (.inr hcl) (fun j u hp=>by cases hp; exact hdst) _ _ ?_ ?_ ?_ _ _ w ?_ (C2.startB hrep hw hwc hvi hbox hzu hzl hfree) (h hw hwc)
  ·exact fun env a w' h1 h2 h3=>fin env a w' h1 h2 h3
  ·exact fun i env a w' h1 _ _=>h1.elim
  ·exact fun env a w' h1 h2 h3=>fin env a w' h1 h2 h3
  ·have hil:i<vs.size:=(Array.getElem?_eq_some_iff.1 hvi).1
   refine ⟨by simp only [Array.size_append,Array.size_replicate]; omega,fun j u hp=>?_⟩
   cases hp
   have:=Array.getElem?_eq_getElem hil
   rw [this] at hvi
   simp only [zzY] at hvi
   simp [slot,Array.getD_eq_getD_getElem?,Array.getElem?_append,hil,hvi]
 refine ⟨?_,hcalls.mono fun e w' h=>h.2⟩
 obtain ⟨_,_,_,h1,_⟩:=hcalls []
 exact h1.1
end
end Go.Sf
