/- Contracts that are found by themselves: rules that take the typed text along, and the script that applies them. -/
import Derived.Test.YtlbmpkmkmkgniaaGreatDoorSfDraw
import Derived.Test.YtlbmpkmkmkgniaaGreatDoorSfStep
namespace Go.Sf
class Ct (P:Program) {α:Type} (x:Option α) (f:outParam FuncId) (ts:outParam (List TV)) (R:outParam (α->CH)):Prop where
 snd:∀ r,x=some r->AR P f ts (R r)
class Ml (es:List TV) {α:outParam Type} (e:outParam (α->TV)) (l:outParam (List α)):Prop where
 eq:es=l.map e
class XX {α:Type} (e:α->TV) where
 un:List TV->α
 dec:∀ a b,∃ i:Decidable (a=b),CN (e a).cells (e b).cells=some (@decide (a=b) i)
class Fz (cs:List AU) (row:outParam (List TV)):Prop where
 h:cs.map (·.t)=row
instance (priority:=high) {l:List TV}:Fz (l.map fun x=>(⟨false,x⟩:AU)) l:=⟨by rw [List.map_map]; exact List.map_id _⟩
instance (priority:=low) {cs:List AU}:Fz cs (cs.map (·.t)):=⟨rfl⟩
class En (α:Type) (e:outParam (α->TV)):Prop where
class Fl {α:Type} (e:α->TV) (n:outParam Nat) (f:outParam (List α->TV)):Prop where
 eq:∀ l,f l=.list n (l.map e)
structure Kp (env:AC) (l:List Nat) (r:AC):Prop where
 of::out:env.keep l=r
def Mb:List (Nat × EV)->Nat->Option EV
 | [],_=>none
 | (k,e)::r,n=>if k=n then some e else Mb r n
def CE (env:AC) (m:List (Nat × EV)):List Nat->AC
 | []=>[]
 | s::ss=>(s,(Mb m s).getD (env.get s))::CE env m ss
structure Nm (env:AC) (m:List (Nat × EV)) (l:List Nat) (r:AC):Prop where
 of::out:CE env m l=r
structure Rn (a b:AC):Prop where
 of::out:a=b
structure HJ {σ:Type} (n:Nat) (M:σ->List (Nat × EV)):Prop where
structure HA {σ:Type} (n cnt q i:Nat) (M:Int->σ->List (Nat × EV)):Prop where
structure HB {σ:Type} (n cnt q i:Nat) (M:Int->σ->List (Nat × EV)):Prop where
theorem HB.a {σ:Type} {n cnt q i:Nat} {M:Int->σ->List (Nat × EV)} (_:HB n cnt q i M):HA n cnt q i M:=⟨⟩
structure HW {σ:Type} (n:Nat) (M:σ->List (Nat × EV)):Prop where
structure HR {β:Type} (R:β->AC->Prop):Prop where
structure HS (n:Nat):Prop where
structure HX {α γ:Type} (n:Nat) (f:α->γ->α):Prop where
structure XZ (g:Nat) (b q:Bool):Prop where
 of::out:q=b
structure Tp (g:Nat) (b q:Bool):Prop where
 of::out:q=!b
def KR (n:AC->Prop) (l:List Nat):AC->Prop:=fun e=>n (e.keep l)
section
variable {env:AC} {s:Nat} {ss:List Nat} {r:AC} {m:List (Nat × EV)}
theorem eU:Kp env [] []:=⟨rfl⟩
theorem MA {e:EV} (h:env.get s=e) (k:Kp env ss r):Kp env (s::ss) ((s,e)::r):=⟨by rw [←k.out,←h]; rfl⟩
theorem lr {t:TV} (h:env.get s=.tv t) (k:Kp env ss r):Kp env (s::ss) ((s,.tv t)::r):=MA h k
theorem lm {t:TV} (h:env.get s=.ow t) (k:Kp env ss r):Kp env (s::ss) ((s,.ow t)::r):=MA h k
theorem lj {t:List AU} (h:env.get s=.bx t) (k:Kp env ss r):Kp env (s::ss) ((s,.bx t)::r):=MA h k
theorem li {q o:Nat} (h:env.get s=.bp q o) (k:Kp env ss r):Kp env (s::ss) ((s,.bp q o)::r):=MA h k
theorem lq {t:List TV} (h:env.get s=.tp t) (k:Kp env ss r):Kp env (s::ss) ((s,.tp t)::r):=MA h k
theorem ls (h:env.get s=.undef) (k:Kp env ss r):Kp env (s::ss) ((s,.undef)::r):=MA h k
theorem lu {n:Nat} {t:List TV} (h:env.get s=.xo n t) (k:Kp env ss r):Kp env (s::ss) ((s,.xo n t)::r):=MA h k
theorem ll {q:Nat} {i:Option Nat} (h:env.get s=.la q i) (k:Kp env ss r):Kp env (s::ss) ((s,.la q i)::r):=MA h k
theorem ln (h:env.get s=.sk) (k:Kp env ss r):Kp env (s::ss) ((s,.sk)::r):=MA h k
theorem eV {t:List AU} (h:env.get s=.oag t) (k:Kp env ss r):Kp env (s::ss) ((s,.oag t)::r):=MA h k
theorem eX:Nm env m [] []:=⟨rfl⟩
theorem eW {e:EV} (h:Mb m s=some e) (k:Nm env m ss r):Nm env m (s::ss) ((s,e)::r):=⟨by rw [←k.out]; simp only [CE,h,Option.getD_some]⟩
theorem Nl {e:EV} (h:Mb m s=none) (h2:env.get s=e) (k:Nm env m ss r):Nm env m (s::ss) ((s,e)::r):=⟨by rw [←k.out]; simp only [CE,h,h2,Option.getD_none]⟩
theorem l6 {t:TV} (h:Mb m s=none) (h2:env.get s=.tv t) (k:Nm env m ss r):Nm env m (s::ss) ((s,.tv t)::r):=Nl h h2 k
theorem l4 {t:TV} (h:Mb m s=none) (h2:env.get s=.ow t) (k:Nm env m ss r):Nm env m (s::ss) ((s,.ow t)::r):=Nl h h2 k
theorem lz {t:List AU} (h:Mb m s=none) (h2:env.get s=.bx t) (k:Nm env m ss r):Nm env m (s::ss) ((s,.bx t)::r):=Nl h h2 k
theorem ly {q o:Nat} (h:Mb m s=none) (h2:env.get s=.bp q o) (k:Nm env m ss r):Nm env m (s::ss) ((s,.bp q o)::r):=Nl h h2 k
theorem l5 {t:List TV} (h:Mb m s=none) (h2:env.get s=.tp t) (k:Nm env m ss r):Nm env m (s::ss) ((s,.tp t)::r):=Nl h h2 k
theorem l7 (h:Mb m s=none) (h2:env.get s=.undef) (k:Nm env m ss r):Nm env m (s::ss) ((s,.undef)::r):=Nl h h2 k
theorem l8 {n:Nat} {t:List TV} (h:Mb m s=none) (h2:env.get s=.xo n t) (k:Nm env m ss r):Nm env m (s::ss) ((s,.xo n t)::r):=Nl h h2 k
theorem l3 {q:Nat} {i:Option Nat} (h:Mb m s=none) (h2:env.get s=.la q i) (k:Nm env m ss r):Nm env m (s::ss) ((s,.la q i)::r):=Nl h h2 k
end
def PC.xl (i:Nat):PC->Option (List Nat)
 | .exit j l=>if j=i then some l else none
 | .seq a b=>match a.xl i with
  | some l=>some l
  | none=>b.xl i
 | .cond _ a b=>match a.xl i with
  | some l=>some l
  | none=>b.xl i
 | .block _ a=>a.xl i
 | .loop _ a=>a.xl i
 | .rls _ a=>a.xl i
 | _=>none
def PC.last:PC->Option (List Nat)
 | .region _ l=>some l
 | .draw _ _ l=>some l
 | .skip l=>some l
 | .exit _ l=>some l
 | .seq _ b=>b.last
 | .cond _ a _=>a.last
 | .block i (.loop _ b)=>b.xl i
 | .block _ c=>c.last
 | .rls _ c=>c.last
 | _=>none
section
variable {S:FuncId->List TV->CH->Prop} {K:AC->Prop} {os:List PR} {env:AC} {d:Nat}
section code
variable {n t:AC->Prop} {x:Nat->AC->Prop} {a b:PC} {l:List Nat} {env':AC}
theorem gB (hk:Kp env l env') (h:n env'):WO S (KR n l) [] env:=⟨by show n (env.keep l); rw [hk.out]; exact h⟩
theorem gP {ops:List PR} (h:WO S (KR n l) ops env):WP S (.region ops l) ⟨n,x,t⟩ env:=⟨h.out⟩
theorem dY {D:List Nat} {ops:List PR} (hd:N7 env D=true) (h:WO S (KR n l) ops env):WP S (.draw D ops l) ⟨n,x,t⟩ env:=⟨hd,h.out⟩
theorem gT (h:WP S a ⟨fun e=>(∀ s,(e.get s).WF)->WP S b ⟨n,x,t⟩ e,x,t⟩ env):WP S (.seq a b) ⟨n,x,t⟩ env:=iC h
theorem di (hk:Kp env l env') (h:n env'):WP S (.skip l) ⟨n,x,t⟩ env:=dz hk.out h
theorem gR (h:t env):WP S .ret ⟨n,x,t⟩ env:=⟨h⟩
theorem dZ {i:Nat} (hk:Kp env l env') (h:x i env'):WP S (.exit i l) ⟨n,x,t⟩ env:=dy hk.out h
theorem gS {s:Nat} {cs cs':List AU} {c:PC} {q:Q} (h:env.get s=.bx cs) (he:cs.map AU.rel=cs') (k:WP S c q ((s,.bx cs')::env)):WP S (.rls s c) q env:=by
 refine ⟨?_⟩
 subst he
 simp only [PC.wp,h]; exact k.out
theorem bJ {i:Nat} (h:WP S a ⟨n,fun j e=>if j=i then n e else x j e,t⟩ env):WP S (.block i a) ⟨n,x,t⟩ env:=SG h
theorem gC {m:List (Nat × EV)} {e:AC} {q:Q} (he:Nm e m l env') (h:WP S a q env'):WP S a q (CE e m l):=by rw [he.out]; exact h
theorem dX {c:AJ} {β:Type} {q:Bool} {u v:Option β} {r:β} {Q:Q} (hc:c.val env=some (.bool q)) (h:(if q=true then u else v)=some r) (h1:q=true->u=some r->WP S a Q env) (h2:q=false->v=some r->WP S b Q env):WP S (.cond c a b) Q env:=
 Qx hc (fun e=>h1 e (Ti e h)) (fun e=>h2 e (Th e h))
theorem db {σ β:Type} {i:Nat} {M:σ->List (Nat × EV)} {q:Bool} {u v:Option σ} {k:σ->Option β} {r:β} (hc:(AJ.s i).val env=some (.bool q)) (h:((if q=true then u else v).bind k)=some r) (_:HJ i M) (_:(PC.cond (.s i) a b).last=some l)
  (h1:∀ w,q=true->u=some w->WP S a ⟨fun e=>Rn e (CE env (M w) l),x,t⟩ env) (h2:∀ w,q=false->v=some w->WP S b ⟨fun e=>Rn e (CE env (M w) l),x,t⟩ env) (h3:∀ w,k w=some r->n (CE env (M w) l)):WP S (.cond (.s i) a b) ⟨n,x,t⟩ env:=by
 obtain ⟨w,hw,h⟩:=bind_some h
 refine iB (fun e=>Rn e (CE env (M w) l)) ?_ (fun e he=>by rw [he.out]; exact h3 w h)
 exact Qx hc (fun e=>h1 w e (Ti e hw)) (fun e=>h2 w e (Th e hw))
end code
structure Bd (env:AC) (q i:Nat) (b:Int):Prop where
 of::out:(∀ s,(env.get s).WF)->b<=9223372036854775807
section bounds
variable {q i:Nat} {α:Type} {e:α->TV} {l:List α} {es row:List TV} {n:Nat}
theorem PD {b:Int} (h:decide (b<=9223372036854775807)=true):Bd env q i b:=⟨fun _=>of_decide_eq_true h⟩
theorem PI {b:Int}:Bd env q i (A8 b):=⟨fun _=>ft _⟩
theorem PF (h:env.get q=.tv (.list n es)) (he:es=l.map e):Bd env q i l.length:=⟨fun hw=>by have:=hw q; rw [h] at this; exact P4 (Tm this) he⟩
theorem PG (h:env.get q=.ow (.list n es)) (he:es=l.map e):Bd env q i l.length:=⟨fun hw=>by have:=hw q; rw [h] at this; exact P4 (nI this) he⟩
theorem PJ (h:env.get q=.xo n es) (he:es=l.map e):Bd env q i l.length:=⟨fun hw=>by have:=hw q; rw [h] at this; exact P4 (nJ this) he⟩
theorem PH {b:ByteArray} (h:env.get q=.tv (.str b)):Bd env q i b.size:=⟨fun hw=>by have:=hw q; rw [h] at this; exact dJ (Tm this)⟩
theorem PE {b:Int} (h:env.get q=.tv (.int .i64 b)):Bd env q i b:=⟨fun hw=>by have:=hw q; rw [h] at this; exact Yt (Tm this)⟩
theorem NY (h:env.get q=.tv (.pt row)) (hr:row[i]?=some (.list n es)) (he:es=l.map e):Bd env q i l.length:=⟨fun hw=>by have:=hw q; rw [h] at this; exact P4 (WK (bH this) hr) he⟩
theorem NX {b:Int} (h:env.get q=.tv (.pt row)) (hr:row[i]?=some (.int .i64 b)):Bd env q i b:=⟨fun hw=>by have:=hw q; rw [h] at this; exact Yt (WK (bH this) hr)⟩
end bounds
section loops
variable {σ β ρ:Type} {n t:AC->Prop} {x:Nat->AC->Prop} {c:PC} {live jl:List Nat} {i0 cnt q i1:Nat} {lo b:Int} {s0:σ} {r:β} {k:σ->Option β}
theorem fu {M:Int->σ->List (Nat × EV)} (hc:∀ i s,(CE env (M i s) live).get cnt=.tv (.int .i64 i)) {i:Int} {s:σ} (hw:∀ k,((CE env (M i s) live).get k).WF) (hi:i<b) (hb:b<=9223372036854775807):A8 (i+1)=i+1:=by
 have:=hw cnt
 rw [hc] at this
 exact nK (Tm this) hi hb
theorem Xb {f:Int->σ->Option σ} {M:Int->σ->List (Nat × EV)} (_:HA i0 cnt q i1 M) (h:(forA f lo b s0).bind k=some r) (hw:∀ s,(env.get s).WF) (hb:Bd env q i1 b) (_:c.xl i0=some jl) (h0:env.keep live=CE env (M lo s0) live) (hc:∀ i s,(CE env (M i s) live).get cnt=.tv (.int .i64 i))
  (h1:∀ i s r,i<b->f i s=some r->(∀ k,((CE env (M i s) live).get k).WF)->WP S c ⟨fun e=>Rn (e.keep live) (CE env (M (A8 (i+1)) r) live),fun _ _=>False,fun _=>False⟩ (CE env (M i s) live))
  (h2:∀ i s,¬ i<b->WP S c ⟨fun _=>False,fun j e=>j=i0∧Rn e (CE env (M 0 s) jl),fun _=>False⟩ (CE env (M i s) live))
  (h3:∀ s,k s=some r->n (CE env (M 0 s) jl)):WP S (.block i0 (.loop live c)) ⟨n,x,t⟩ env:=by
 obtain ⟨o,ho,h⟩:=bind_some h
 have hb:=hb.out hw
 refine dK ho (fun i s=>CE env (M i s) live) (fun s=>CE env (M 0 s) jl) h0 (fun i s r hi hf hw=>⟨PC.wp_mono S c _ _ (h1 i s r hi hf hw).out _ (fun e he=>?_) (fun _ _ h=>h) (fun _ h=>h)⟩) (fun i s hi=>⟨PC.wp_mono S c _ _ (h2 i s hi).out _ (fun _ h=>h) (fun j e h=>⟨h.1,h.2.out⟩) (fun _ h=>h)⟩) (h3 o h)
 have:=he.out
 rw [fu hc hw hi hb] at this
 exact this
theorem SN {f:Int->σ->Option (CY σ ρ)} {kr:ρ->Option β} {R:ρ->AC->Prop} {M:Int->σ->List (Nat × EV)} (h:thenR (forR f lo b s0) k kr=some r) (hb:b<=9223372036854775807) (h0:env.keep live=CE env (M lo s0) live) (hc:∀ i s,(CE env (M i s) live).get cnt=.tv (.int .i64 i))
  (h1:∀ i s r,i<b->f i s=some r->(∀ k,((CE env (M i s) live).get k).WF)->WP S c ⟨fun e=>∃ s',r=.next s'∧Rn (e.keep live) (CE env (M (A8 (i+1)) s') live),fun j e=>j=i0∧∃ s',r=.brk s'∧Rn e (CE env (M 0 s') jl),fun e=>∃ v,r=.ret v∧R v e⟩ (CE env (M i s) live))
  (h2:∀ i s,¬ i<b->WP S c ⟨fun _=>False,fun j e=>j=i0∧Rn e (CE env (M 0 s) jl),fun _=>False⟩ (CE env (M i s) live))
  (h3:∀ s,k s=some r->n (CE env (M 0 s) jl)) (h4:∀ v e,kr v=some r->R v e->t e):WP S (.block i0 (.loop live c)) ⟨n,x,t⟩ env:=by
 obtain ⟨o,ho,h⟩:=R7 h
 refine WQ ho (fun i s=>CE env (M i s) live) (fun s=>CE env (M 0 s) jl) R h0 (fun i s r hi hf hw=>⟨PC.wp_mono S c _ _ (h1 i s r hi hf hw).out _ (fun e he=>?_) (fun j e he=>?_) (fun _ h=>h)⟩) (fun i s hi=>⟨PC.wp_mono S c _ _ (h2 i s hi).out _ (fun _ h=>h) (fun j e h=>⟨h.1,h.2.out⟩) (fun _ h=>h)⟩) (fun s hs=>h3 s (WD h hs)) (fun v e hv=>h4 v e (WE h hv))
 ·obtain ⟨s',e1,e2⟩:=he
  have e2:=e2.out
  rw [fu hc hw hi hb] at e2
  exact ⟨s',e1,e2⟩
 ·obtain ⟨e0,s',e1,e2⟩:=he
  exact ⟨e0,s',e1,e2.out⟩
theorem Xe {f:Int->σ->Option (CY σ β)} {R:β->AC->Prop} {M:Int->σ->List (Nat × EV)} (_:HA i0 cnt q i1 M) (_:HR R) (ht:R r=t) (h:thenR (forR f lo b s0) k (fun v=>some v)=some r) (hw:∀ s,(env.get s).WF) (hb:Bd env q i1 b) (_:c.xl i0=some jl) (h0:env.keep live=CE env (M lo s0) live) (hc:∀ i s,(CE env (M i s) live).get cnt=.tv (.int .i64 i))
  (h1:∀ i s r,i<b->f i s=some r->(∀ k,((CE env (M i s) live).get k).WF)->WP S c ⟨fun e=>∃ s',r=.next s'∧Rn (e.keep live) (CE env (M (A8 (i+1)) s') live),fun j e=>j=i0∧∃ s',r=.brk s'∧Rn e (CE env (M 0 s') jl),fun e=>∃ v,r=.ret v∧R v e⟩ (CE env (M i s) live))
  (h2:∀ i s,¬ i<b->WP S c ⟨fun _=>False,fun j e=>j=i0∧Rn e (CE env (M 0 s) jl),fun _=>False⟩ (CE env (M i s) live))
  (h3:∀ s,k s=some r->n (CE env (M 0 s) jl)):WP S (.block i0 (.loop live c)) ⟨n,x,t⟩ env:=
 SN h (hb.out hw) h0 hc h1 h2 h3 (fun v e hv hR=>by cases hv; rw [←ht]; exact hR)
theorem Xd {τ:Type} {f:Int->σ->Option (CY σ ρ)} {k:σ->Option (CY τ ρ)} {r:CY τ ρ} {R:ρ->AC->Prop} {M:Int->σ->List (Nat × EV)} (_:HA i0 cnt q i1 M) (h:thenR (forR f lo b s0) k (fun v=>some (.ret v))=some r) (hw:∀ s,(env.get s).WF) (hb:Bd env q i1 b) (_:c.xl i0=some jl) (h0:env.keep live=CE env (M lo s0) live) (hc:∀ i s,(CE env (M i s) live).get cnt=.tv (.int .i64 i))
  (h1:∀ i s r,i<b->f i s=some r->(∀ k,((CE env (M i s) live).get k).WF)->WP S c ⟨fun e=>∃ s',r=.next s'∧Rn (e.keep live) (CE env (M (A8 (i+1)) s') live),fun j e=>j=i0∧∃ s',r=.brk s'∧Rn e (CE env (M 0 s') jl),fun e=>∃ v,r=.ret v∧R v e⟩ (CE env (M i s) live))
  (h2:∀ i s,¬ i<b->WP S c ⟨fun _=>False,fun j e=>j=i0∧Rn e (CE env (M 0 s) jl),fun _=>False⟩ (CE env (M i s) live))
  (h3:∀ s,k s=some r->n (CE env (M 0 s) jl)):WP S (.block i0 (.loop live c)) ⟨n,x,fun e=>∃ v,r=.ret v∧R v e⟩ env:=
 SN h (hb.out hw) h0 hc h1 h2 h3 (fun v e hv hR=>by cases hv; exact ⟨v,rfl,hR⟩)
theorem Xc {f:Int->σ->Option (CY σ ρ)} {M:Int->σ->List (Nat × EV)} (_:HA i0 cnt q i1 M) (h:thenR (forR f lo b s0) k (fun _=>none)=some r) (hw:∀ s,(env.get s).WF) (hb:Bd env q i1 b) (_:c.xl i0=some jl) (h0:env.keep live=CE env (M lo s0) live) (hc:∀ i s,(CE env (M i s) live).get cnt=.tv (.int .i64 i))
  (h1:∀ i s r,i<b->f i s=some r->(∀ k,((CE env (M i s) live).get k).WF)->WP S c ⟨fun e=>∃ s',r=.next s'∧Rn (e.keep live) (CE env (M (A8 (i+1)) s') live),fun j e=>j=i0∧∃ s',r=.brk s'∧Rn e (CE env (M 0 s') jl),fun _=>∃ v,r=.ret v∧False⟩ (CE env (M i s) live))
  (h2:∀ i s,¬ i<b->WP S c ⟨fun _=>False,fun j e=>j=i0∧Rn e (CE env (M 0 s) jl),fun _=>False⟩ (CE env (M i s) live))
  (h3:∀ s,k s=some r->n (CE env (M 0 s) jl)):WP S (.block i0 (.loop live c)) ⟨n,x,t⟩ env:=
 SN (R:=fun _ _=>False) h (hb.out hw) h0 hc h1 h2 h3 (fun v e hv _=>by cases hv)
theorem VC {f:σ->Option (CY σ ρ)} {kr:ρ->Option β} {R:ρ->AC->Prop} {M:σ->List (Nat × EV)} (h:thenR (JB f s0) k kr=some r) (h0:env.keep live=CE env (M s0) live)
  (h1:∀ s r,f s=some r->(∀ k,((CE env (M s) live).get k).WF)->WP S c ⟨fun e=>∃ s',r=.next s'∧Rn (e.keep live) (CE env (M s') live),fun j e=>j=i0∧∃ s',r=.brk s'∧Rn e (CE env (M s') jl),fun e=>∃ v,r=.ret v∧R v e⟩ (CE env (M s) live))
  (h3:∀ s,k s=some r->n (CE env (M s) jl)) (h4:∀ v e,kr v=some r->R v e->t e):WP S (.block i0 (.loop live c)) ⟨n,x,t⟩ env:=by
 obtain ⟨o,ho,h⟩:=R7 h
 refine fx ho (fun s=>CE env (M s) live) (fun s=>CE env (M s) jl) R h0 (fun s r hf hw=>⟨PC.wp_mono S c _ _ (h1 s r hf hw).out _ (fun e he=>?_) (fun j e he=>?_) (fun _ h=>h)⟩) (fun s hs=>h3 s (WD h hs)) (fun v e hv=>h4 v e (WE h hv))
 ·obtain ⟨s',e1,e2⟩:=he
  exact ⟨s',e1,e2.out⟩
 ·obtain ⟨e0,s',e1,e2⟩:=he
  exact ⟨e0,s',e1,e2.out⟩
theorem gX {f:σ->Option (CY σ β)} {R:β->AC->Prop} {M:σ->List (Nat × EV)} (_:HW i0 M) (_:HR R) (ht:R r=t) (h:thenR (JB f s0) k (fun v=>some v)=some r) (_:c.xl i0=some jl) (h0:env.keep live=CE env (M s0) live)
  (h1:∀ s r,f s=some r->(∀ k,((CE env (M s) live).get k).WF)->WP S c ⟨fun e=>∃ s',r=.next s'∧Rn (e.keep live) (CE env (M s') live),fun j e=>j=i0∧∃ s',r=.brk s'∧Rn e (CE env (M s') jl),fun e=>∃ v,r=.ret v∧R v e⟩ (CE env (M s) live))
  (h3:∀ s,k s=some r->n (CE env (M s) jl)):WP S (.block i0 (.loop live c)) ⟨n,x,t⟩ env:=
 VC h h0 h1 h3 (fun v e hv hR=>by cases hv; rw [←ht]; exact hR)
theorem gW {τ:Type} {f:σ->Option (CY σ ρ)} {k:σ->Option (CY τ ρ)} {r:CY τ ρ} {R:ρ->AC->Prop} {M:σ->List (Nat × EV)} (_:HW i0 M) (h:thenR (JB f s0) k (fun v=>some (.ret v))=some r) (_:c.xl i0=some jl) (h0:env.keep live=CE env (M s0) live)
  (h1:∀ s r,f s=some r->(∀ k,((CE env (M s) live).get k).WF)->WP S c ⟨fun e=>∃ s',r=.next s'∧Rn (e.keep live) (CE env (M s') live),fun j e=>j=i0∧∃ s',r=.brk s'∧Rn e (CE env (M s') jl),fun e=>∃ v,r=.ret v∧R v e⟩ (CE env (M s) live))
  (h3:∀ s,k s=some r->n (CE env (M s) jl)):WP S (.block i0 (.loop live c)) ⟨n,x,fun e=>∃ v,r=.ret v∧R v e⟩ env:=
 VC h h0 h1 h3 (fun v e hv hR=>by cases hv; exact ⟨v,rfl,hR⟩)
theorem gV {f:σ->Option (CY σ ρ)} {M:σ->List (Nat × EV)} (_:HW i0 M) (h:thenR (JB f s0) k (fun _=>none)=some r) (_:c.xl i0=some jl) (h0:env.keep live=CE env (M s0) live)
  (h1:∀ s r,f s=some r->(∀ k,((CE env (M s) live).get k).WF)->WP S c ⟨fun e=>∃ s',r=.next s'∧Rn (e.keep live) (CE env (M s') live),fun j e=>j=i0∧∃ s',r=.brk s'∧Rn e (CE env (M s') jl),fun _=>∃ v,r=.ret v∧False⟩ (CE env (M s) live))
  (h3:∀ s,k s=some r->n (CE env (M s) jl)):WP S (.block i0 (.loop live c)) ⟨n,x,t⟩ env:=
 VC (R:=fun _ _=>False) h h0 h1 h3 (fun v e hv _=>by cases hv)
end loops
end
end Go.Sf
