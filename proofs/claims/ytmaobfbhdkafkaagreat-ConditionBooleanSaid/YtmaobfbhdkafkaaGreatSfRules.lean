/- Rules by which a piece of the pure language is stepped through. -/
import Derived.Test.YtmaobfbhdkafkaaGreatSfSem
namespace Go.Sf
section
variable (S:FuncId->List TV->B5->Prop)
theorem wp_skip (l:List Nat) (q:Q) (env:AC):PC.wp S (.skip l) q env=q.normal (env.keep l):=rfl
theorem wp_ret (q:Q) (env:AC):PC.wp S .ret q env=q.ret env:=rfl
theorem wp_exit (id:Nat) (l:List Nat) (q:Q) (env:AC):PC.wp S (.exit id l) q env=q.exit id (env.keep l):=rfl
theorem wp_seq (a b:PC) (q:Q) (env:AC):PC.wp S (.seq a b) q env=a.wp S { q with normal:=fun e=>(∀ s,(e.get s).WF)->b.wp S q e } env:=rfl
theorem wp_block (id:Nat) (c:PC) (q:Q) (env:AC):PC.wp S (.block id c) q env=c.wp S { q with exit:=fun i e=>if i=id then q.normal e else q.exit i e } env:=rfl
theorem wp_region (ops:List PR) (live:List Nat) (q:Q) (env:AC):PC.wp S (.region ops live) q env=wpOps S (fun e=>q.normal (e.keep live)) ops env:=rfl
theorem C2 {α:Type} {o:Option α} {K K':α->Prop} (h:∀ a,K a->K' a):A0 o K->A0 o K':=by
 cases o <;> simp [A0]; exact h _
theorem AD.wp_mono (env:AC) (dst:Option Nat) {K K':EV->AC->Prop} (h:∀ e env',K e env'->K' e env') (op:AD) (hk:op.wp S env dst K):op.wp S env dst K':=by
 cases op <;> simp only [AD.wp] at hk ⊢
 case ld=>exact C2 (fun _=>C2 (fun _ hx=>⟨hx.1,h _ _ hx.2⟩)) hk
 case lda=>exact C2 (fun _ hx=>⟨hx.1,h _ _ hx.2⟩) hk
 case bld=>exact C2 (fun _=>C2 (fun _=>h _ _)) hk
 case lst=>exact C2 (fun _ hx=>⟨hx.1,h _ _ hx.2⟩) hk
 case call=>exact C2 (fun _ ⟨r,h1,h2⟩=>⟨r,h1,fun hw=>h _ _ (h2 hw)⟩) hk
 case clo=>exact C2 (fun _=>h _ _) hk
 case mm=>split at hk <;> first | exact hk.elim | exact ⟨hk.1,h _ _ hk.2⟩
 case fldv x k n agg=>
  split at hk
  ·refine ⟨hk.1,?_⟩
   have h2:=hk.2
   cases agg
   ·exact C2 (fun _=>h _ _) h2
   ·exact h _ _ h2
  ·exact hk.elim
 case xlen=>exact C2 (fun _=>h _ _) hk
 case xia=>exact C2 (fun p hp=>by
  split at hp
  ·exact ⟨hp.1,hp.2.1,hp.2.2.1,h _ _ hp.2.2.2⟩
  ·exact hp.elim) hk
 case xst=>
  split at hk
  ·split at hk
   ·obtain ⟨h1,h2,es',h3,h4,h5,h7⟩:=hk
    exact ⟨h1,h2,es',h3,h4,h5,h _ _ h7⟩
   ·exact hk.elim
  ·exact hk.elim
 case lstz=>split at hk <;> first | exact hk.elim | exact ⟨hk.1,h _ _ hk.2⟩
 case nilx=>split at hk <;> first | exact hk.elim | exact ⟨hk.1,h _ _ hk.2⟩
 case tkx=>split at hk <;> first | exact hk.elim | exact ⟨hk.1,hk.2.1,h _ _ hk.2.2⟩
 case appx=>split at hk <;> first | exact hk.elim | exact ⟨hk.1,hk.2.1,hk.2.2.1,hk.2.2.2.1,hk.2.2.2.2.1,h _ _ hk.2.2.2.2.2⟩
 case callx=>
  split at hk
  ·exact ⟨hk.1,C2 (fun ts ⟨n,es,h1,h2⟩=>⟨n,es,h1,fun hw=>h _ _ (h2 hw)⟩) hk.2⟩
  ·exact hk.elim
 case bldg=>
  split at hk
  ·exact ⟨hk.1,C2 (fun _=>h _ _) hk.2⟩
  ·exact hk.elim
 case stx=>split at hk <;> first | exact hk.elim | exact ⟨hk.1,hk.2.1,hk.2.2.1,h _ _ hk.2.2.2⟩
 case callg=>exact C2 (fun ts ⟨cs,h1,h2⟩=>⟨cs,h1,fun hw=>h _ _ (h2 hw)⟩) hk
 case calll=>exact C2 (fun _ ⟨r,h1,h2⟩=>⟨r,h1,fun hw=>h _ _ (h2 hw)⟩) hk
 case boxp=>
  split at hk
  ·exact C2 (fun _ hx=>⟨hx.1,h _ _ hx.2⟩) hk
  ·exact hk.elim
 case callf=>exact C2 (fun ts ⟨us,h1,h2⟩=>⟨us,h1,h _ _ h2⟩) hk
 case appz=>
  split at hk
  ·exact ⟨hk.1,hk.2.1,hk.2.2.1,h _ _ hk.2.2.2⟩
  ·exact hk.elim
 case callb=>
  split at hk
  ·split at hk
   ·exact ⟨hk.1,C2 (fun ts ⟨cs',us,h1,h2⟩=>⟨cs',us,h1,fun hw=>h _ _ (h2 hw)⟩) hk.2⟩
   ·exact hk.elim
  ·exact hk.elim
 case isn=>
  split at hk
  ·exact fun b hb=>h _ _ (hk b hb)
  ·exact hk.elim
 case callm=>exact C2 (fun p ⟨h1,zs,zs',h2,h3,h4⟩=>⟨h1,zs,zs',h2,h3,fun hw=>h _ _ (h4 hw)⟩) hk
 case callc=>
  split at hk
  ·exact C2 (fun p ⟨h0,h1,h5,zs,zs',h2,h3,h4⟩=>⟨h0,h1,h5,zs,zs',h2,h3,fun hw=>h _ _ (h4 hw)⟩) hk
  ·exact hk.elim
 all_goals (repeat' split at hk) <;> first | exact hk.elim | exact h _ _ hk | exact ⟨hk.1,h _ _ hk.2⟩ | exact ⟨hk.1,hk.2.1,h _ _ hk.2.2⟩ | exact ⟨hk.1,hk.2.1,hk.2.2.1,h _ _ hk.2.2.2⟩ | exact C2 (fun _=>h _ _) hk | (obtain ⟨r,h1,h2⟩:=hk; exact ⟨r,h1,fun hw=>h _ _ (h2 hw)⟩) | (obtain ⟨h1,r,h2,h3⟩:=hk; exact ⟨h1,r,h2,h _ _ h3⟩) | (obtain ⟨h0,h1,r,h2,h3⟩:=hk; exact ⟨h0,h1,r,h2,h _ _ h3⟩)
theorem PR.wp_mono (env:AC) {K K':AC->Prop} (h:∀ e,K e->K' e) (o:PR) (hk:o.wp S env K):o.wp S env K':=by
 unfold PR.wp at hk ⊢
 split at hk
 ·exact AD.wp_mono S env _ (fun _ _=>h _) _ hk
 ·split at hk
  ·exact ⟨fun hq=>AD.wp_mono S env _ (fun _ _=>h _) _ (hk.1 hq),fun hq=>h _ (hk.2 hq)⟩
  ·exact h _ hk
  ·exact hk.elim
theorem NU {K K':AC->Prop} (h:∀ e,K e->K' e):∀ (os:List PR) (env:AC),wpOps S K os env->wpOps S K' os env
 | [],_,hk=>h _ hk
 | o::os,env,hk=>PR.wp_mono S env (fun e=>NU h os e) o hk
theorem PC.wp_mono:∀ (c:PC) (q:Q) (env:AC),c.wp S q env->∀ (q':Q),(∀ e,q.normal e->q'.normal e)->(∀ i e,q.exit i e->q'.exit i e)->(∀ e,q.ret e->q'.ret e)->c.wp S q' env
 | .skip _,_,_,hk,_,h,_,_=>h _ hk
 | .ret,_,_,hk,_,_,_,h=>h _ hk
 | .exit _ _,_,_,hk,_,_,h,_=>h _ _ hk
 | .seq a b,q,env,hk,q',h1,h2,h3=>by
  simp only [PC.wp] at hk ⊢
  exact PC.wp_mono a _ env hk _ (fun e he hw=>PC.wp_mono b q e (he hw) q' h1 h2 h3) h2 h3
 | .cond c a b,q,env,hk,q',h1,h2,h3=>by
  simp only [PC.wp] at hk ⊢
  split at hk
  ·exact ⟨fun hx=>PC.wp_mono a q env (hk.1 hx) q' h1 h2 h3,fun hx=>PC.wp_mono b q env (hk.2 hx) q' h1 h2 h3⟩
  ·exact hk.elim
 | .block id c,q,env,hk,q',h1,h2,h3=>by
  simp only [PC.wp] at hk ⊢
  exact PC.wp_mono c _ env hk _ h1 (fun i e=>by dsimp only; split <;> first | exact h1 e | exact h2 i e) h3
 | .loop live c,q,env,hk,q',h1,h2,h3=>by
  simp only [PC.wp] at hk ⊢
  exact fun X hX=>hk X fun e he=>hX e fun hw=>PC.wp_mono c _ e (he hw) _ (fun _ h=>h) h2 h3
 | .region ops live,q,env,hk,q',h1,_,_=>by
  simp only [PC.wp] at hk ⊢
  exact NU S (fun _=>h1 _) ops env hk
 | .draw _ ops live,q,env,hk,q',h1,_,_=>by
  simp only [PC.wp] at hk ⊢
  exact ⟨hk.1,NU S (fun _=>h1 _) ops env hk.2⟩
 | .bad,_,_,hk,_,_,_,_=>by
  simp only [PC.wp] at hk
 | .rls s c,q,env,hk,q',h1,h2,h3=>by
  simp only [PC.wp] at hk ⊢
  split at hk
  ·exact PC.wp_mono c q _ hk q' h1 h2 h3
  ·exact hk.elim
end
end Go.Sf
