/- Contracts that are found by themselves: rules that take the typed text along, and the script that applies them. -/
import Derived.Test.YtlbmpkmkmkgniaaGreatDoorSfDraw
import Derived.Test.YtlbmpkmkmkgniaaGreatDoorSfStep
set_option linter.all false
namespace Go.Sf
class Ct (P:Program) {α:Type} (x:Option α) (f:outParam FuncId) (ts:outParam QQ) (R:outParam (α->CS)):Prop where
 snd:∀ r,x=some r->AU P f ts (R r)
class Ml (es:QQ) {α:outParam Type} (e:outParam (α->TV)) (l:outParam (List α)):Prop where
 eq:es=l.map e
class Zx {α:Type} (e:α->TV) where
 un:QQ->α
 dec:∀ a b,∃ i:Decidable (a=b),CY (e a).cells (e b).cells=some (@decide (a=b) i)
class Fz (cs:List At) (row:outParam QQ):Prop where
 h:cs.map (·.t)=row
instance (priority:=high) {l:QQ}:Fz (l.map fun x=>(⟨false,x⟩:At)) l:=⟨by rw [List.map_map]; exact List.map_id _⟩
instance (priority:=low) {cs:List At}:Fz cs (cs.map (·.t)):=⟨rfl⟩
class En (α:Type) (e:outParam (α->TV)):Prop where
class Fl {α:Type} (e:α->TV) (n:outParam Nat) (f:outParam (List α->TV)):Prop where
 eq:∀ l,f l=.list n (l.map e)
structure Kp (O:AD) (l:ci) (r:AD):Prop where
 of::out:O.keep l=r
def OK:List (Nat × EV)->Nat->Option EV
 | [],_=>none
 | (k,e)::r,n=>if k=n then some e else OK r n
def CQ (O:AD) (m:List (Nat × EV)):ci->AD
 | []=>[]
 | s::ss=>(s,(OK m s).getD (O.get s))::CQ O m ss
structure Nm (O:AD) (m:List (Nat × EV)) (l:ci) (r:AD):Prop where
 of::out:CQ O m l=r
structure Rn (a b:AD):Prop where
 of::out:a=b
structure HJ {σ:Type} (n:Nat) (M:σ->List (Nat × EV)):Prop where
structure HA {σ:Type} (n cnt q i:Nat) (M:Int->σ->List (Nat × EV)):Prop where
structure HB {σ:Type} (n cnt q i:Nat) (M:Int->σ->List (Nat × EV)):Prop where
theorem HB.a {σ:Type} {n cnt q i:Nat} {M:Int->σ->List (Nat × EV)} (_:HB n cnt q i M):HA n cnt q i M:=⟨⟩
structure HW {σ:Type} (n:Nat) (M:σ->List (Nat × EV)):Prop where
structure HR {β:Type} (R:β->AD->Prop):Prop where
structure HS (n:Nat):Prop where
structure HX {α γ:Type} (n:Nat) (f:α->γ->α):Prop where
structure Zz (g:Nat) (b q:Bool):Prop where
 of::out:q=b
structure Vu (g:Nat) (b q:Bool):Prop where
 of::out:q=!b
def KR (n:AD->Prop) (l:ci):AD->Prop:=fun e=>n (e.keep l)
section
variable {O:AD} {s:Nat} {ss:ci} {r:AD} {m:List (Nat × EV)}
theorem iz:Kp O [] []:=⟨rfl⟩
theorem Nl {e:EV} (h:O.get s=e) (k:Kp O ss r):Kp O (s::ss) ((s,e)::r):=⟨by rw [←k.out,←h]; rfl⟩
theorem pz {t:TV} (h:O.get s=.tv t) (k:Kp O ss r):Kp O (s::ss) ((s,.tv t)::r):=Nl h k
theorem pw {t:TV} (h:O.get s=.ow t) (k:Kp O ss r):Kp O (s::ss) ((s,.ow t)::r):=Nl h k
theorem pu {t:List At} (h:O.get s=.bx t) (k:Kp O ss r):Kp O (s::ss) ((s,.bx t)::r):=Nl h k
theorem po {q o:Nat} (h:O.get s=.bp q o) (k:Kp O ss r):Kp O (s::ss) ((s,.bp q o)::r):=Nl h k
theorem py {t:QQ} (h:O.get s=.tp t) (k:Kp O ss r):Kp O (s::ss) ((s,.tp t)::r):=Nl h k
theorem p3 (h:O.get s=.undef) (k:Kp O ss r):Kp O (s::ss) ((s,.undef)::r):=Nl h k
theorem p4 {n:Nat} {t:QQ} (h:O.get s=.xo n t) (k:Kp O ss r):Kp O (s::ss) ((s,.xo n t)::r):=Nl h k
theorem pv {q:Nat} {i:Option Nat} (h:O.get s=.la q i) (k:Kp O ss r):Kp O (s::ss) ((s,.la q i)::r):=Nl h k
theorem px (h:O.get s=.sk) (k:Kp O ss r):Kp O (s::ss) ((s,.sk)::r):=Nl h k
theorem i7 {t:List At} (h:O.get s=.oag t) (k:Kp O ss r):Kp O (s::ss) ((s,.oag t)::r):=Nl h k
theorem jB:Nm O m [] []:=⟨rfl⟩
theorem jA {e:EV} (h:OK m s=some e) (k:Nm O m ss r):Nm O m (s::ss) ((s,e)::r):=⟨by rw [←k.out]; simp only [CQ,h,Option.getD_some]⟩
theorem PT {e:EV} (h:OK m s=none) (g:O.get s=e) (k:Nm O m ss r):Nm O m (s::ss) ((s,e)::r):=⟨by rw [←k.out]; simp only [CQ,h,g,Option.getD_none]⟩
theorem qE {t:TV} (h:OK m s=none) (g:O.get s=.tv t) (k:Nm O m ss r):Nm O m (s::ss) ((s,.tv t)::r):=PT h g k
theorem qB {t:TV} (h:OK m s=none) (g:O.get s=.ow t) (k:Nm O m ss r):Nm O m (s::ss) ((s,.ow t)::r):=PT h g k
theorem p9 {t:List At} (h:OK m s=none) (g:O.get s=.bx t) (k:Nm O m ss r):Nm O m (s::ss) ((s,.bx t)::r):=PT h g k
theorem p8 {q o:Nat} (h:OK m s=none) (g:O.get s=.bp q o) (k:Nm O m ss r):Nm O m (s::ss) ((s,.bp q o)::r):=PT h g k
theorem qC {t:QQ} (h:OK m s=none) (g:O.get s=.tp t) (k:Nm O m ss r):Nm O m (s::ss) ((s,.tp t)::r):=PT h g k
theorem qF (h:OK m s=none) (g:O.get s=.undef) (k:Nm O m ss r):Nm O m (s::ss) ((s,.undef)::r):=PT h g k
theorem qG {n:Nat} {t:QQ} (h:OK m s=none) (g:O.get s=.xo n t) (k:Nm O m ss r):Nm O m (s::ss) ((s,.xo n t)::r):=PT h g k
theorem qA {q:Nat} {i:Option Nat} (h:OK m s=none) (g:O.get s=.la q i) (k:Nm O m ss r):Nm O m (s::ss) ((s,.la q i)::r):=PT h g k
end
def PC.xl (i:Nat):PC->Option ci
 | .exit j l=>if j=i then some l else none
 | .seq a b=>match a.xl i with
  | some l=>some l
  | none=>b.xl i
 | .cond _ a b=>match a.xl i with
  | some l=>some l
  | none=>b.xl i
 | .block _ a=>a.xl i
 | .loop _ a=>a.xl i
 | .rls _ a=>a.xl i
 | _=>none
def PC.last:PC->Option ci
 | .region _ l=>some l
 | .draw _ _ l=>some l
 | .skip l=>some l
 | .exit _ l=>some l
 | .seq _ b=>b.last
 | .cond _ a _=>a.last
 | .block i (.loop _ b)=>b.xl i
 | .block _ c=>c.last
 | .rls _ c=>c.last
 | _=>none
section
variable {S:FuncId->QQ->CS->Prop} {K:AD->Prop} {os:List PR} {O:AD} {d:Nat}
section code
variable {n t:AD->Prop} {x:Nat->AD->Prop} {a b:PC} {l:ci} {env':AD}
theorem kV (g:Kp O l env') (h:n env'):WO S (KR n l) [] O:=⟨by show n (O.keep l); rw [g.out]; exact h⟩
theorem ku {ops:List PR} (h:WO S (KR n l) ops O):WP S (.region ops l) ⟨n,x,t⟩ O:=⟨h.out⟩
theorem iE {D:ci} {ops:List PR} (g:Pt O D=true) (h:WO S (KR n l) ops O):WP S (.draw D ops l) ⟨n,x,t⟩ O:=⟨g,h.out⟩
theorem ky (h:WP S a ⟨fun e=>(∀ s,(e.get s).WF)->WP S b ⟨n,x,t⟩ e,x,t⟩ O):WP S (.seq a b) ⟨n,x,t⟩ O:=ly h
theorem iN (g:Kp O l env') (h:n env'):WP S (.skip l) ⟨n,x,t⟩ O:=iY g.out h
theorem kw (h:t O):WP S .ret ⟨n,x,t⟩ O:=⟨h⟩
theorem iF {i:Nat} (g:Kp O l env') (h:x i env'):WP S (.exit i l) ⟨n,x,t⟩ O:=iX g.out h
theorem kx {s:Nat} {cs cs':List At} {c:PC} {q:Q} (h:O.get s=.bx cs) (g:cs.map At.rel=cs') (k:WP S c q ((s,.bx cs')::O)):WP S (.rls s c) q O:=by
 refine ⟨?_⟩;subst g;simp only [PC.wp,h]; exact k.out
theorem eg {i:Nat} (h:WP S a ⟨n,fun j e=>if j=i then n e else x j e,t⟩ O):WP S (.block i a) ⟨n,x,t⟩ O:=US h
theorem kW {m:List (Nat × EV)} {e:AD} {q:Q} (g:Nm e m l env') (h:WP S a q env'):WP S a q (CQ e m l):=by rw [g.out]; exact h
theorem iD {c:AL} {β:Type} {q:Bool} {u v:Option β} {r:β} {Q:Q} (g:c.val O=some (.bool q)) (h:(if q=true then u else v)=some r) (j:q=true->u=some r->WP S a Q O) (o:q=false->v=some r->WP S b Q O):WP S (.cond c a b) Q O:=
 TW g (fun e=>j e (Vm e h)) (fun e=>o e (Vl e h))
theorem iH {σ β:Type} {i:Nat} {M:σ->List (Nat × EV)} {q:Bool} {u v:Option σ} {k:σ->Option β} {r:β} (j:(AL.s i).val O=some (.bool q)) (h:((if q=true then u else v).bind k)=some r) (_:HJ i M) (_:(PC.cond (.s i) a b).last=some l)
  (o:∀ w,q=true->u=some w->WP S a ⟨fun e=>Rn e (CQ O (M w) l),x,t⟩ O) (p:∀ w,q=false->v=some w->WP S b ⟨fun e=>Rn e (CQ O (M w) l),x,t⟩ O) (y:∀ w,k w=some r->n (CQ O (M w) l)):WP S (.cond (.s i) a b) ⟨n,x,t⟩ O:=by
 obtain ⟨w,g,h⟩:=bind_some h;refine lw (fun e=>Rn e (CQ O (M w) l)) ?_ (fun e z=>by rw [z.out]; exact y w h);exact TW j (fun e=>o w e (Vm e g)) (fun e=>p w e (Vl e g))
end code
structure Bd (O:AD) (q i:Nat) (b:Int):Prop where
 of::out:(∀ s,(O.get s).WF)->b<=9223372036854775807
section bounds
variable {q i:Nat} {α:Type} {e:α->TV} {l:List α} {es row:QQ} {n:Nat}
theorem RL {b:Int} (h:decide (b<=9223372036854775807)=true):Bd O q i b:=⟨fun _=>of_decide_eq_true h⟩
theorem RQ {b:Int}:Bd O q i (A4 b):=⟨fun _=>kN _⟩
theorem RN (h:O.get q=.tv (.list n es)) (g:es=l.map e):Bd O q i l.length:=⟨fun j=>by have:=j q; rw [h] at this; exact Sb (Vr this) g⟩
theorem RO (h:O.get q=.ow (.list n es)) (g:es=l.map e):Bd O q i l.length:=⟨fun j=>by have:=j q; rw [h] at this; exact Sb (rO this) g⟩
theorem RR (h:O.get q=.xo n es) (g:es=l.map e):Bd O q i l.length:=⟨fun j=>by have:=j q; rw [h] at this; exact Sb (rP this) g⟩
theorem RP {b:ByteArray} (h:O.get q=.tv (.str b)):Bd O q i b.size:=⟨fun g=>by have:=g q; rw [h] at this; exact gu (Vr this)⟩
theorem RM {b:Int} (h:O.get q=.tv (.int .i64 b)):Bd O q i b:=⟨fun g=>by have:=g q; rw [h] at this; exact bi (Vr this)⟩
theorem PF (h:O.get q=.tv (.pt row)) (g:row[i]?=some (.list n es)) (j:es=l.map e):Bd O q i l.length:=⟨fun o=>by have:=o q; rw [h] at this; exact Sb (Yo (ee this) g) j⟩
theorem PE {b:Int} (h:O.get q=.tv (.pt row)) (g:row[i]?=some (.int .i64 b)):Bd O q i b:=⟨fun j=>by have:=j q; rw [h] at this; exact bi (Yo (ee this) g)⟩
end bounds
section loops
variable {σ β ρ:Type} {n t:AD->Prop} {x:Nat->AD->Prop} {c:PC} {live jl:ci} {i0 cnt q i1:Nat} {lo b:Int} {s0:σ} {r:β} {k:σ->Option β}
variable {M:Int->σ->List (Nat × EV)}
theorem kO (g:∀ i s,(CQ O (M i s) live).get cnt=.tv (.int .i64 i)) {i:Int} {s:σ} (h:∀ k,((CQ O (M i s) live).get k).WF) (hi:i<b) (j:b<=9223372036854775807):A4 (i+1)=i+1:=by
 have:=h cnt;rw [g] at this;exact rQ (Vr this) hi j
theorem Z1 {f:Int->σ->Option σ} (_:HA i0 cnt q i1 M) (h:(forA f lo b s0).bind k=some r) (g:∀ s,(O.get s).WF) (p:Bd O q i1 b) (_:c.xl i0=some jl) (u:O.keep live=CQ O (M lo s0) live) (v:∀ i s,(CQ O (M i s) live).get cnt=.tv (.int .i64 i))
  (w:∀ i s r,i<b->f i s=some r->(∀ k,((CQ O (M i s) live).get k).WF)->WP S c ⟨fun e=>Rn (e.keep live) (CQ O (M (A4 (i+1)) r) live),fun _ _=>False,fun _=>False⟩ (CQ O (M i s) live))
  (y:∀ i s,¬ i<b->WP S c ⟨fun _=>False,fun j e=>j=i0∧Rn e (CQ O (M 0 s) jl),fun _=>False⟩ (CQ O (M i s) live))
  (z:∀ s,k s=some r->n (CQ O (M 0 s) jl)):WP S (.block i0 (.loop live c)) ⟨n,x,t⟩ O:=by
 obtain ⟨o,ho,h⟩:=bind_some h;have p:=p.out g;refine gw ho (fun i s=>CQ O (M i s) live) (fun s=>CQ O (M 0 s) jl) u (fun i s r hi A g=>⟨PC.wp_mono S c _ _ (w i s r hi A g).out _ (fun e B=>?_) (fun _ _ h=>h) (fun _ h=>h)⟩) (fun i s hi=>⟨PC.wp_mono S c _ _ (y i s hi).out _ (fun _ h=>h) (fun j e h=>⟨h.1,h.2.out⟩) (fun _ h=>h)⟩) (z o h);have:=B.out;rw [kO v g hi p] at this;exact this
variable {f:Int->σ->Option (CZ σ ρ)} {kr:ρ->Option β} {R:ρ->AD->Prop}
theorem UW (h:thenR (forR f lo b s0) k kr=some r) (y:b<=9223372036854775807) (z:O.keep live=CQ O (M lo s0) live) (A:∀ i s,(CQ O (M i s) live).get cnt=.tv (.int .i64 i))
  (B:∀ i s r,i<b->f i s=some r->(∀ k,((CQ O (M i s) live).get k).WF)->WP S c ⟨fun e=>∃ s',r=.next s'∧Rn (e.keep live) (CQ O (M (A4 (i+1)) s') live),fun j e=>j=i0∧∃ s',r=.brk s'∧Rn e (CQ O (M 0 s') jl),fun e=>∃ v,r=.ret v∧R v e⟩ (CQ O (M i s) live))
  (C:∀ i s,¬ i<b->WP S c ⟨fun _=>False,fun j e=>j=i0∧Rn e (CQ O (M 0 s) jl),fun _=>False⟩ (CQ O (M i s) live))
  (D:∀ s,k s=some r->n (CQ O (M 0 s) jl)) (E:∀ v e,kr v=some r->R v e->t e):WP S (.block i0 (.loop live c)) ⟨n,x,t⟩ O:=by
 obtain ⟨o,ho,h⟩:=UK h;refine Yq ho (fun i s=>CQ O (M i s) live) (fun s=>CQ O (M 0 s) jl) R z (fun i s r hi F w=>⟨PC.wp_mono S c _ _ (B i s r hi F w).out _ (fun e p=>?_) (fun j e p=>?_) (fun _ h=>h)⟩) (fun i s hi=>⟨PC.wp_mono S c _ _ (C i s hi).out _ (fun _ h=>h) (fun j e h=>⟨h.1,h.2.out⟩) (fun _ h=>h)⟩) (fun s G=>D s (Yi h G)) (fun v e hv=>E v e (Yj h hv))
 ·obtain ⟨s',u,g⟩:=p;have g:=g.out;rw [kO A w hi y] at g;exact ⟨s',u,g⟩
 ·obtain ⟨H,s',u,g⟩:=p;exact ⟨H,s',u,g.out⟩
theorem Z4 {f:Int->σ->Option (CZ σ β)} {R:β->AD->Prop} (_:HA i0 cnt q i1 M) (_:HR R) (g:R r=t) (h:thenR (forR f lo b s0) k (fun v=>some v)=some r) (o:∀ s,(O.get s).WF) (p:Bd O q i1 b) (_:c.xl i0=some jl) (u:O.keep live=CQ O (M lo s0) live) (w:∀ i s,(CQ O (M i s) live).get cnt=.tv (.int .i64 i))
  (y:∀ i s r,i<b->f i s=some r->(∀ k,((CQ O (M i s) live).get k).WF)->WP S c ⟨fun e=>∃ s',r=.next s'∧Rn (e.keep live) (CQ O (M (A4 (i+1)) s') live),fun j e=>j=i0∧∃ s',r=.brk s'∧Rn e (CQ O (M 0 s') jl),fun e=>∃ v,r=.ret v∧R v e⟩ (CQ O (M i s) live))
  (z:∀ i s,¬ i<b->WP S c ⟨fun _=>False,fun j e=>j=i0∧Rn e (CQ O (M 0 s) jl),fun _=>False⟩ (CQ O (M i s) live))
  (A:∀ s,k s=some r->n (CQ O (M 0 s) jl)):WP S (.block i0 (.loop live c)) ⟨n,x,t⟩ O:=
 UW h (p.out o) u w y z A (fun v e hv B=>by cases hv; rw [←g]; exact B)
variable {τ:Type}
theorem Z3 {k:σ->Option (CZ τ ρ)} {r:CZ τ ρ} (_:HA i0 cnt q i1 M) (h:thenR (forR f lo b s0) k (fun v=>some (.ret v))=some r) (g:∀ s,(O.get s).WF) (o:Bd O q i1 b) (_:c.xl i0=some jl) (p:O.keep live=CQ O (M lo s0) live) (u:∀ i s,(CQ O (M i s) live).get cnt=.tv (.int .i64 i))
  (w:∀ i s r,i<b->f i s=some r->(∀ k,((CQ O (M i s) live).get k).WF)->WP S c ⟨fun e=>∃ s',r=.next s'∧Rn (e.keep live) (CQ O (M (A4 (i+1)) s') live),fun j e=>j=i0∧∃ s',r=.brk s'∧Rn e (CQ O (M 0 s') jl),fun e=>∃ v,r=.ret v∧R v e⟩ (CQ O (M i s) live))
  (y:∀ i s,¬ i<b->WP S c ⟨fun _=>False,fun j e=>j=i0∧Rn e (CQ O (M 0 s) jl),fun _=>False⟩ (CQ O (M i s) live))
  (z:∀ s,k s=some r->n (CQ O (M 0 s) jl)):WP S (.block i0 (.loop live c)) ⟨n,x,fun e=>∃ v,r=.ret v∧R v e⟩ O:=
 UW h (o.out g) p u w y z (fun v e hv A=>by cases hv; exact ⟨v,rfl,A⟩)
theorem Z2 (_:HA i0 cnt q i1 M) (h:thenR (forR f lo b s0) k (fun _=>none)=some r) (g:∀ s,(O.get s).WF) (o:Bd O q i1 b) (_:c.xl i0=some jl) (p:O.keep live=CQ O (M lo s0) live) (u:∀ i s,(CQ O (M i s) live).get cnt=.tv (.int .i64 i))
  (w:∀ i s r,i<b->f i s=some r->(∀ k,((CQ O (M i s) live).get k).WF)->WP S c ⟨fun e=>∃ s',r=.next s'∧Rn (e.keep live) (CQ O (M (A4 (i+1)) s') live),fun j e=>j=i0∧∃ s',r=.brk s'∧Rn e (CQ O (M 0 s') jl),fun _=>∃ v,r=.ret v∧False⟩ (CQ O (M i s) live))
  (y:∀ i s,¬ i<b->WP S c ⟨fun _=>False,fun j e=>j=i0∧Rn e (CQ O (M 0 s) jl),fun _=>False⟩ (CQ O (M i s) live))
  (z:∀ s,k s=some r->n (CQ O (M 0 s) jl)):WP S (.block i0 (.loop live c)) ⟨n,x,t⟩ O:=
 UW (R:=fun _ _=>False) h (o.out g) p u w y z (fun v e hv _=>by cases hv)
theorem XY {f:σ->Option (CZ σ ρ)} {M:σ->List (Nat × EV)} (h:thenR (I7 f s0) k kr=some r) (w:O.keep live=CQ O (M s0) live)
  (y:∀ s r,f s=some r->(∀ k,((CQ O (M s) live).get k).WF)->WP S c ⟨fun e=>∃ s',r=.next s'∧Rn (e.keep live) (CQ O (M s') live),fun j e=>j=i0∧∃ s',r=.brk s'∧Rn e (CQ O (M s') jl),fun e=>∃ v,r=.ret v∧R v e⟩ (CQ O (M s) live))
  (z:∀ s,k s=some r->n (CQ O (M s) jl)) (A:∀ v e,kr v=some r->R v e->t e):WP S (.block i0 (.loop live c)) ⟨n,x,t⟩ O:=by
 obtain ⟨o,ho,h⟩:=UK h;refine kQ ho (fun s=>CQ O (M s) live) (fun s=>CQ O (M s) jl) R w (fun s r B C=>⟨PC.wp_mono S c _ _ (y s r B C).out _ (fun e g=>?_) (fun j e g=>?_) (fun _ h=>h)⟩) (fun s D=>z s (Yi h D)) (fun v e hv=>A v e (Yj h hv))
 ·obtain ⟨s',p,u⟩:=g;exact ⟨s',p,u.out⟩
 ·obtain ⟨E,s',p,u⟩:=g;exact ⟨E,s',p,u.out⟩
theorem k8 {f:σ->Option (CZ σ β)} {R:β->AD->Prop} {M:σ->List (Nat × EV)} (_:HW i0 M) (_:HR R) (g:R r=t) (h:thenR (I7 f s0) k (fun v=>some v)=some r) (_:c.xl i0=some jl) (o:O.keep live=CQ O (M s0) live)
  (p:∀ s r,f s=some r->(∀ k,((CQ O (M s) live).get k).WF)->WP S c ⟨fun e=>∃ s',r=.next s'∧Rn (e.keep live) (CQ O (M s') live),fun j e=>j=i0∧∃ s',r=.brk s'∧Rn e (CQ O (M s') jl),fun e=>∃ v,r=.ret v∧R v e⟩ (CQ O (M s) live))
  (u:∀ s,k s=some r->n (CQ O (M s) jl)):WP S (.block i0 (.loop live c)) ⟨n,x,t⟩ O:=
 XY h o p u (fun v e hv w=>by cases hv; rw [←g]; exact w)
theorem k7 {f:σ->Option (CZ σ ρ)} {k:σ->Option (CZ τ ρ)} {r:CZ τ ρ} {M:σ->List (Nat × EV)} (_:HW i0 M) (h:thenR (I7 f s0) k (fun v=>some (.ret v))=some r) (_:c.xl i0=some jl) (g:O.keep live=CQ O (M s0) live)
  (o:∀ s r,f s=some r->(∀ k,((CQ O (M s) live).get k).WF)->WP S c ⟨fun e=>∃ s',r=.next s'∧Rn (e.keep live) (CQ O (M s') live),fun j e=>j=i0∧∃ s',r=.brk s'∧Rn e (CQ O (M s') jl),fun e=>∃ v,r=.ret v∧R v e⟩ (CQ O (M s) live))
  (p:∀ s,k s=some r->n (CQ O (M s) jl)):WP S (.block i0 (.loop live c)) ⟨n,x,fun e=>∃ v,r=.ret v∧R v e⟩ O:=
 XY h g o p (fun v e hv u=>by cases hv; exact ⟨v,rfl,u⟩)
theorem k6 {f:σ->Option (CZ σ ρ)} {M:σ->List (Nat × EV)} (_:HW i0 M) (h:thenR (I7 f s0) k (fun _=>none)=some r) (_:c.xl i0=some jl) (g:O.keep live=CQ O (M s0) live)
  (o:∀ s r,f s=some r->(∀ k,((CQ O (M s) live).get k).WF)->WP S c ⟨fun e=>∃ s',r=.next s'∧Rn (e.keep live) (CQ O (M s') live),fun j e=>j=i0∧∃ s',r=.brk s'∧Rn e (CQ O (M s') jl),fun _=>∃ v,r=.ret v∧False⟩ (CQ O (M s) live))
  (p:∀ s,k s=some r->n (CQ O (M s) jl)):WP S (.block i0 (.loop live c)) ⟨n,x,t⟩ O:=
 XY (R:=fun _ _=>False) h g o p (fun v e hv _=>by cases hv)
end loops
end
end Go.Sf
