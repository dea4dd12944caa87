/- Contracts that are found by themselves: rules that take the typed text along, and the script that applies them. -/
import Derived.Test.YtlbmpkmkmkgniaaGreatDoorSfDraw
import Derived.Test.YtlbmpkmkmkgniaaGreatDoorSfStep
set_option linter.all false
namespace Go.Sf
class Ct (P:Program) {α:Type} (x:Option α) (f:outParam FuncId) (ts:outParam Id) (R:outParam (α->CS)):Prop where
 snd:∀ r,x=some r->AU P f ts (R r)
class Ml (es:Id) {α:outParam Type} (e:outParam (α->TV)) (l:outParam (List α)):Prop where
 eq:es=l.map e
class Zw {α:Type} (e:α->TV) where
 un:Id->α
 dec:∀ a b,∃ i:Decidable (a=b),CY (e a).cells (e b).cells=some (@decide (a=b) i)
class Fz (cs:List At) (row:outParam Id):Prop where
 h:cs.map (·.t)=row
instance (priority:=high) {l:Id}:Fz (l.map fun x=>(⟨false,x⟩:At)) l:=⟨by rw [List.map_map]; exact List.map_id _⟩
instance (priority:=low) {cs:List At}:Fz cs (cs.map (·.t)):=⟨rfl⟩
class En (α:Type) (e:outParam (α->TV)):Prop where
class Fl {α:Type} (e:α->TV) (n:outParam Nat) (f:outParam (List α->TV)):Prop where
 eq:∀ l,f l=.list n (l.map e)
structure Kp (O:AD) (l:Or) (r:AD):Prop where
 of::out:O.keep l=r
def OJ:List (Nat × EV)->Nat->Option EV
 | [],_=>none
 | (k,e)::r,n=>if k=n then some e else OJ r n
def CQ (O:AD) (m:List (Nat × EV)):Or->AD
 | []=>[]
 | s::ss=>(s,(OJ m s).getD (O.get s))::CQ O m ss
structure Nm (O:AD) (m:List (Nat × EV)) (l:Or) (r:AD):Prop where
 of::out:CQ O m l=r
structure Rn (a b:AD):Prop where
 of::out:a=b
structure HJ {σ:Type} (n:Nat) (M:σ->List (Nat × EV)):Prop where
structure HA {σ:Type} (n cnt q i:Nat) (M:Int->σ->List (Nat × EV)):Prop where
structure HB {σ:Type} (n cnt q i:Nat) (M:Int->σ->List (Nat × EV)):Prop where
theorem HB.a {σ:Type} {n cnt q i:Nat} {M:Int->σ->List (Nat × EV)} (_:HB n cnt q i M):HA n cnt q i M:=⟨⟩
structure HW {σ:Type} (n:Nat) (M:σ->List (Nat × EV)):Prop where
structure HR {β:Type} (R:β->AD->Prop):Prop where
structure HS (n:Nat):Prop where
structure HX {α γ:Type} (n:Nat) (f:α->γ->α):Prop where
structure Zy (g:Nat) (b q:Bool):Prop where
 of::out:q=b
structure Vt (g:Nat) (b q:Bool):Prop where
 of::out:q=!b
def KR (n:AD->Prop) (l:Or):AD->Prop:=fun e=>n (e.keep l)
section
variable {O:AD} {s:Nat} {ss:Or} {r:AD} {m:List (Nat × EV)}
theorem iy:Kp O [] []:=⟨rfl⟩
theorem Nk {e:EV} (h:O.get s=e) (k:Kp O ss r):Kp O (s::ss) ((s,e)::r):=⟨by rw [←k.out,←h]; rfl⟩
theorem py {t:TV} (h:O.get s=.tv t) (k:Kp O ss r):Kp O (s::ss) ((s,.tv t)::r):=Nk h k
theorem pv {t:TV} (h:O.get s=.ow t) (k:Kp O ss r):Kp O (s::ss) ((s,.ow t)::r):=Nk h k
theorem po {t:List At} (h:O.get s=.bx t) (k:Kp O ss r):Kp O (s::ss) ((s,.bx t)::r):=Nk h k
theorem pk {q o:Nat} (h:O.get s=.bp q o) (k:Kp O ss r):Kp O (s::ss) ((s,.bp q o)::r):=Nk h k
theorem px {t:Id} (h:O.get s=.tp t) (k:Kp O ss r):Kp O (s::ss) ((s,.tp t)::r):=Nk h k
theorem pz (h:O.get s=.undef) (k:Kp O ss r):Kp O (s::ss) ((s,.undef)::r):=Nk h k
theorem p3 {n:Nat} {t:Id} (h:O.get s=.xo n t) (k:Kp O ss r):Kp O (s::ss) ((s,.xo n t)::r):=Nk h k
theorem pu {q:Nat} {i:Option Nat} (h:O.get s=.la q i) (k:Kp O ss r):Kp O (s::ss) ((s,.la q i)::r):=Nk h k
theorem pw (h:O.get s=.sk) (k:Kp O ss r):Kp O (s::ss) ((s,.sk)::r):=Nk h k
theorem iz {t:List At} (h:O.get s=.oag t) (k:Kp O ss r):Kp O (s::ss) ((s,.oag t)::r):=Nk h k
theorem jA:Nm O m [] []:=⟨rfl⟩
theorem i7 {e:EV} (h:OJ m s=some e) (k:Nm O m ss r):Nm O m (s::ss) ((s,e)::r):=⟨by rw [←k.out]; simp only [CQ,h,Option.getD_some]⟩
theorem PS {e:EV} (h:OJ m s=none) (g:O.get s=e) (k:Nm O m ss r):Nm O m (s::ss) ((s,e)::r):=⟨by rw [←k.out]; simp only [CQ,h,g,Option.getD_none]⟩
theorem qC {t:TV} (h:OJ m s=none) (g:O.get s=.tv t) (k:Nm O m ss r):Nm O m (s::ss) ((s,.tv t)::r):=PS h g k
theorem qA {t:TV} (h:OJ m s=none) (g:O.get s=.ow t) (k:Nm O m ss r):Nm O m (s::ss) ((s,.ow t)::r):=PS h g k
theorem p8 {t:List At} (h:OJ m s=none) (g:O.get s=.bx t) (k:Nm O m ss r):Nm O m (s::ss) ((s,.bx t)::r):=PS h g k
theorem p7 {q o:Nat} (h:OJ m s=none) (g:O.get s=.bp q o) (k:Nm O m ss r):Nm O m (s::ss) ((s,.bp q o)::r):=PS h g k
theorem qB {t:Id} (h:OJ m s=none) (g:O.get s=.tp t) (k:Nm O m ss r):Nm O m (s::ss) ((s,.tp t)::r):=PS h g k
theorem qE (h:OJ m s=none) (g:O.get s=.undef) (k:Nm O m ss r):Nm O m (s::ss) ((s,.undef)::r):=PS h g k
theorem qF {n:Nat} {t:Id} (h:OJ m s=none) (g:O.get s=.xo n t) (k:Nm O m ss r):Nm O m (s::ss) ((s,.xo n t)::r):=PS h g k
theorem p9 {q:Nat} {i:Option Nat} (h:OJ m s=none) (g:O.get s=.la q i) (k:Nm O m ss r):Nm O m (s::ss) ((s,.la q i)::r):=PS h g k
end
def PC.xl (i:Nat):PC->Option Or
 | .exit j l=>if j=i then some l else none
 | .seq a b=>match a.xl i with
  | some l=>some l
  | none=>b.xl i
 | .cond _ a b=>match a.xl i with
  | some l=>some l
  | none=>b.xl i
 | .block _ a=>a.xl i
 | .loop _ a=>a.xl i
 | .rls _ a=>a.xl i
 | _=>none
def PC.last:PC->Option Or
 | .region _ l=>some l
 | .draw _ _ l=>some l
 | .skip l=>some l
 | .exit _ l=>some l
 | .seq _ b=>b.last
 | .cond _ a _=>a.last
 | .block i (.loop _ b)=>b.xl i
 | .block _ c=>c.last
 | .rls _ c=>c.last
 | _=>none
section
variable {S:FuncId->Id->CS->Prop} {K:AD->Prop} {os:List PR} {O:AD} {d:Nat}
section code
variable {n t:AD->Prop} {x:Nat->AD->Prop} {a b:PC} {l:Or} {env':AD}
theorem kU (g:Kp O l env') (h:n env'):WO S (KR n l) [] O:=⟨by show n (O.keep l); rw [g.out]; exact h⟩
variable {ops:List PR}
theorem kt (h:WO S (KR n l) ops O):WP S (.region ops l) ⟨n,x,t⟩ O:=⟨h.out⟩
theorem iD {D:Or} (g:Ps O D=true) (h:WO S (KR n l) ops O):WP S (.draw D ops l) ⟨n,x,t⟩ O:=⟨g,h.out⟩
theorem kx (h:WP S a ⟨fun e=>(∀ s,(e.get s).WF)->WP S b ⟨n,x,t⟩ e,x,t⟩ O):WP S (.seq a b) ⟨n,x,t⟩ O:=lw h
theorem iM (g:Kp O l env') (h:n env'):WP S (.skip l) ⟨n,x,t⟩ O:=iX g.out h
theorem kv (h:t O):WP S .ret ⟨n,x,t⟩ O:=⟨h⟩
theorem iE {i:Nat} (g:Kp O l env') (h:x i env'):WP S (.exit i l) ⟨n,x,t⟩ O:=iW g.out h
theorem kw {s:Nat} {cs cs':List At} {c:PC} {q:Q} (h:O.get s=.bx cs) (g:cs.map At.rel=cs') (k:WP S c q ((s,.bx cs')::O)):WP S (.rls s c) q O:=by
 refine ⟨?_⟩;subst g;simp only [PC.wp,h]; exact k.out
theorem ef {i:Nat} (h:WP S a ⟨n,fun j e=>if j=i then n e else x j e,t⟩ O):WP S (.block i a) ⟨n,x,t⟩ O:=UR h
theorem kV {m:List (Nat × EV)} {e:AD} {q:Q} (g:Nm e m l env') (h:WP S a q env'):WP S a q (CQ e m l):=by rw [g.out]; exact h
theorem iC {c:AL} {β:Type} {q:Bool} {u v:Option β} {r:β} {Q:Q} (g:c.val O=some (.bool q)) (h:(if q=true then u else v)=some r) (j:q=true->u=some r->WP S a Q O) (o:q=false->v=some r->WP S b Q O):WP S (.cond c a b) Q O:=
 TU g (fun e=>j e (Vl e h)) (fun e=>o e (Vk e h))
theorem iG {σ β:Type} {i:Nat} {M:σ->List (Nat × EV)} {q:Bool} {u v:Option σ} {k:σ->Option β} {r:β} (j:(AL.s i).val O=some (.bool q)) (h:((if q=true then u else v).bind k)=some r) (_:HJ i M) (_:(PC.cond (.s i) a b).last=some l)
  (o:∀ w,q=true->u=some w->WP S a ⟨fun e=>Rn e (CQ O (M w) l),x,t⟩ O) (p:∀ w,q=false->v=some w->WP S b ⟨fun e=>Rn e (CQ O (M w) l),x,t⟩ O) (y:∀ w,k w=some r->n (CQ O (M w) l)):WP S (.cond (.s i) a b) ⟨n,x,t⟩ O:=by
 obtain ⟨w,g,h⟩:=bind_some h;refine lv (fun e=>Rn e (CQ O (M w) l)) ?_ (fun e z=>by rw [z.out]; exact y w h);exact TU j (fun e=>o w e (Vl e g)) (fun e=>p w e (Vk e g))
end code
structure Bd (O:AD) (q i:Nat) (b:Int):Prop where
 of::out:(∀ s,(O.get s).WF)->b<=9223372036854775807
section bounds
variable {q i:Nat} {α:Type} {e:α->TV} {l:List α} {es row:Id} {n:Nat}
theorem RK {b:Int} (h:decide (b<=9223372036854775807)=true):Bd O q i b:=⟨fun _=>of_decide_eq_true h⟩
theorem RP {b:Int}:Bd O q i (A4 b):=⟨fun _=>kM _⟩
theorem RM (h:O.get q=.tv (.list n es)) (g:es=l.map e):Bd O q i l.length:=⟨fun j=>by have:=j q; rw [h] at this; exact Sa (Vq this) g⟩
theorem RN (h:O.get q=.ow (.list n es)) (g:es=l.map e):Bd O q i l.length:=⟨fun j=>by have:=j q; rw [h] at this; exact Sa (rN this) g⟩
theorem RQ (h:O.get q=.xo n es) (g:es=l.map e):Bd O q i l.length:=⟨fun j=>by have:=j q; rw [h] at this; exact Sa (rO this) g⟩
theorem RO {b:ByteArray} (h:O.get q=.tv (.str b)):Bd O q i b.size:=⟨fun g=>by have:=g q; rw [h] at this; exact gr (Vq this)⟩
theorem RL {b:Int} (h:O.get q=.tv (.int .i64 b)):Bd O q i b:=⟨fun g=>by have:=g q; rw [h] at this; exact bh (Vq this)⟩
theorem PE (h:O.get q=.tv (.pt row)) (g:row[i]?=some (.list n es)) (j:es=l.map e):Bd O q i l.length:=⟨fun o=>by have:=o q; rw [h] at this; exact Sa (Yn (ed this) g) j⟩
theorem PD {b:Int} (h:O.get q=.tv (.pt row)) (g:row[i]?=some (.int .i64 b)):Bd O q i b:=⟨fun j=>by have:=j q; rw [h] at this; exact bh (Yn (ed this) g)⟩
end bounds
section loops
variable {σ β ρ:Type} {n t:AD->Prop} {x:Nat->AD->Prop} {c:PC} {live jl:Or} {i0 cnt q i1:Nat} {lo b:Int} {s0:σ} {r:β} {k:σ->Option β}
variable {M:Int->σ->List (Nat × EV)}
theorem kN (g:∀ i s,(CQ O (M i s) live).get cnt=.tv (.int .i64 i)) {i:Int} {s:σ} (h:∀ k,((CQ O (M i s) live).get k).WF) (hi:i<b) (j:b<=9223372036854775807):A4 (i+1)=i+1:=by
 have:=h cnt;rw [g] at this;exact rP (Vq this) hi j
theorem Z0 {f:Int->σ->Option σ} (_:HA i0 cnt q i1 M) (h:(forA f lo b s0).bind k=some r) (g:∀ s,(O.get s).WF) (p:Bd O q i1 b) (_:c.xl i0=some jl) (u:O.keep live=CQ O (M lo s0) live) (v:∀ i s,(CQ O (M i s) live).get cnt=.tv (.int .i64 i))
  (w:∀ i s r,i<b->f i s=some r->(∀ k,((CQ O (M i s) live).get k).WF)->WP S c ⟨fun e=>Rn (e.keep live) (CQ O (M (A4 (i+1)) r) live),fun _ _=>False,fun _=>False⟩ (CQ O (M i s) live))
  (y:∀ i s,¬ i<b->WP S c ⟨fun _=>False,fun j e=>j=i0∧Rn e (CQ O (M 0 s) jl),fun _=>False⟩ (CQ O (M i s) live))
  (z:∀ s,k s=some r->n (CQ O (M 0 s) jl)):WP S (.block i0 (.loop live c)) ⟨n,x,t⟩ O:=by
 obtain ⟨o,ho,h⟩:=bind_some h;have p:=p.out g;refine gv ho (fun i s=>CQ O (M i s) live) (fun s=>CQ O (M 0 s) jl) u (fun i s r hi A g=>⟨PC.wp_mono S c _ _ (w i s r hi A g).out _ (fun e B=>?_) (fun _ _ h=>h) (fun _ h=>h)⟩) (fun i s hi=>⟨PC.wp_mono S c _ _ (y i s hi).out _ (fun _ h=>h) (fun j e h=>⟨h.1,h.2.out⟩) (fun _ h=>h)⟩) (z o h);have:=B.out;rw [kN v g hi p] at this;exact this
variable {f:Int->σ->Option (CZ σ ρ)} {kr:ρ->Option β} {R:ρ->AD->Prop}
theorem UV (h:thenR (forR f lo b s0) k kr=some r) (y:b<=9223372036854775807) (z:O.keep live=CQ O (M lo s0) live) (A:∀ i s,(CQ O (M i s) live).get cnt=.tv (.int .i64 i))
  (B:∀ i s r,i<b->f i s=some r->(∀ k,((CQ O (M i s) live).get k).WF)->WP S c ⟨fun e=>∃ s',r=.next s'∧Rn (e.keep live) (CQ O (M (A4 (i+1)) s') live),fun j e=>j=i0∧∃ s',r=.brk s'∧Rn e (CQ O (M 0 s') jl),fun e=>∃ v,r=.ret v∧R v e⟩ (CQ O (M i s) live))
  (C:∀ i s,¬ i<b->WP S c ⟨fun _=>False,fun j e=>j=i0∧Rn e (CQ O (M 0 s) jl),fun _=>False⟩ (CQ O (M i s) live))
  (D:∀ s,k s=some r->n (CQ O (M 0 s) jl)) (E:∀ v e,kr v=some r->R v e->t e):WP S (.block i0 (.loop live c)) ⟨n,x,t⟩ O:=by
 obtain ⟨o,ho,h⟩:=UJ h;refine Yp ho (fun i s=>CQ O (M i s) live) (fun s=>CQ O (M 0 s) jl) R z (fun i s r hi F w=>⟨PC.wp_mono S c _ _ (B i s r hi F w).out _ (fun e p=>?_) (fun j e p=>?_) (fun _ h=>h)⟩) (fun i s hi=>⟨PC.wp_mono S c _ _ (C i s hi).out _ (fun _ h=>h) (fun j e h=>⟨h.1,h.2.out⟩) (fun _ h=>h)⟩) (fun s G=>D s (Yh h G)) (fun v e hv=>E v e (Yi h hv))
 ·obtain ⟨s',u,g⟩:=p;have g:=g.out;rw [kN A w hi y] at g;exact ⟨s',u,g⟩
 ·obtain ⟨H,s',u,g⟩:=p;exact ⟨H,s',u,g.out⟩
theorem Z3 {f:Int->σ->Option (CZ σ β)} {R:β->AD->Prop} (_:HA i0 cnt q i1 M) (_:HR R) (g:R r=t) (h:thenR (forR f lo b s0) k (fun v=>some v)=some r) (o:∀ s,(O.get s).WF) (p:Bd O q i1 b) (_:c.xl i0=some jl) (u:O.keep live=CQ O (M lo s0) live) (w:∀ i s,(CQ O (M i s) live).get cnt=.tv (.int .i64 i))
  (y:∀ i s r,i<b->f i s=some r->(∀ k,((CQ O (M i s) live).get k).WF)->WP S c ⟨fun e=>∃ s',r=.next s'∧Rn (e.keep live) (CQ O (M (A4 (i+1)) s') live),fun j e=>j=i0∧∃ s',r=.brk s'∧Rn e (CQ O (M 0 s') jl),fun e=>∃ v,r=.ret v∧R v e⟩ (CQ O (M i s) live))
  (z:∀ i s,¬ i<b->WP S c ⟨fun _=>False,fun j e=>j=i0∧Rn e (CQ O (M 0 s) jl),fun _=>False⟩ (CQ O (M i s) live))
  (A:∀ s,k s=some r->n (CQ O (M 0 s) jl)):WP S (.block i0 (.loop live c)) ⟨n,x,t⟩ O:=
 UV h (p.out o) u w y z A (fun v e hv B=>by cases hv; rw [←g]; exact B)
variable {τ:Type}
theorem Z2 {k:σ->Option (CZ τ ρ)} {r:CZ τ ρ} (_:HA i0 cnt q i1 M) (h:thenR (forR f lo b s0) k (fun v=>some (.ret v))=some r) (g:∀ s,(O.get s).WF) (o:Bd O q i1 b) (_:c.xl i0=some jl) (p:O.keep live=CQ O (M lo s0) live) (u:∀ i s,(CQ O (M i s) live).get cnt=.tv (.int .i64 i))
  (w:∀ i s r,i<b->f i s=some r->(∀ k,((CQ O (M i s) live).get k).WF)->WP S c ⟨fun e=>∃ s',r=.next s'∧Rn (e.keep live) (CQ O (M (A4 (i+1)) s') live),fun j e=>j=i0∧∃ s',r=.brk s'∧Rn e (CQ O (M 0 s') jl),fun e=>∃ v,r=.ret v∧R v e⟩ (CQ O (M i s) live))
  (y:∀ i s,¬ i<b->WP S c ⟨fun _=>False,fun j e=>j=i0∧Rn e (CQ O (M 0 s) jl),fun _=>False⟩ (CQ O (M i s) live))
  (z:∀ s,k s=some r->n (CQ O (M 0 s) jl)):WP S (.block i0 (.loop live c)) ⟨n,x,fun e=>∃ v,r=.ret v∧R v e⟩ O:=
 UV h (o.out g) p u w y z (fun v e hv A=>by cases hv; exact ⟨v,rfl,A⟩)
theorem Z1 (_:HA i0 cnt q i1 M) (h:thenR (forR f lo b s0) k (fun _=>none)=some r) (g:∀ s,(O.get s).WF) (o:Bd O q i1 b) (_:c.xl i0=some jl) (p:O.keep live=CQ O (M lo s0) live) (u:∀ i s,(CQ O (M i s) live).get cnt=.tv (.int .i64 i))
  (w:∀ i s r,i<b->f i s=some r->(∀ k,((CQ O (M i s) live).get k).WF)->WP S c ⟨fun e=>∃ s',r=.next s'∧Rn (e.keep live) (CQ O (M (A4 (i+1)) s') live),fun j e=>j=i0∧∃ s',r=.brk s'∧Rn e (CQ O (M 0 s') jl),fun _=>∃ v,r=.ret v∧False⟩ (CQ O (M i s) live))
  (y:∀ i s,¬ i<b->WP S c ⟨fun _=>False,fun j e=>j=i0∧Rn e (CQ O (M 0 s) jl),fun _=>False⟩ (CQ O (M i s) live))
  (z:∀ s,k s=some r->n (CQ O (M 0 s) jl)):WP S (.block i0 (.loop live c)) ⟨n,x,t⟩ O:=
 UV (R:=fun _ _=>False) h (o.out g) p u w y z (fun v e hv _=>by cases hv)
theorem XX {f:σ->Option (CZ σ ρ)} {M:σ->List (Nat × EV)} (h:thenR (I7 f s0) k kr=some r) (w:O.keep live=CQ O (M s0) live)
  (y:∀ s r,f s=some r->(∀ k,((CQ O (M s) live).get k).WF)->WP S c ⟨fun e=>∃ s',r=.next s'∧Rn (e.keep live) (CQ O (M s') live),fun j e=>j=i0∧∃ s',r=.brk s'∧Rn e (CQ O (M s') jl),fun e=>∃ v,r=.ret v∧R v e⟩ (CQ O (M s) live))
  (z:∀ s,k s=some r->n (CQ O (M s) jl)) (A:∀ v e,kr v=some r->R v e->t e):WP S (.block i0 (.loop live c)) ⟨n,x,t⟩ O:=by
 obtain ⟨o,ho,h⟩:=UJ h;refine kP ho (fun s=>CQ O (M s) live) (fun s=>CQ O (M s) jl) R w (fun s r B C=>⟨PC.wp_mono S c _ _ (y s r B C).out _ (fun e g=>?_) (fun j e g=>?_) (fun _ h=>h)⟩) (fun s D=>z s (Yh h D)) (fun v e hv=>A v e (Yi h hv))
 ·obtain ⟨s',p,u⟩:=g;exact ⟨s',p,u.out⟩
 ·obtain ⟨E,s',p,u⟩:=g;exact ⟨E,s',p,u.out⟩
theorem k7 {f:σ->Option (CZ σ β)} {R:β->AD->Prop} {M:σ->List (Nat × EV)} (_:HW i0 M) (_:HR R) (g:R r=t) (h:thenR (I7 f s0) k (fun v=>some v)=some r) (_:c.xl i0=some jl) (o:O.keep live=CQ O (M s0) live)
  (p:∀ s r,f s=some r->(∀ k,((CQ O (M s) live).get k).WF)->WP S c ⟨fun e=>∃ s',r=.next s'∧Rn (e.keep live) (CQ O (M s') live),fun j e=>j=i0∧∃ s',r=.brk s'∧Rn e (CQ O (M s') jl),fun e=>∃ v,r=.ret v∧R v e⟩ (CQ O (M s) live))
  (u:∀ s,k s=some r->n (CQ O (M s) jl)):WP S (.block i0 (.loop live c)) ⟨n,x,t⟩ O:=
 XX h o p u (fun v e hv w=>by cases hv; rw [←g]; exact w)
theorem k6 {f:σ->Option (CZ σ ρ)} {k:σ->Option (CZ τ ρ)} {r:CZ τ ρ} {M:σ->List (Nat × EV)} (_:HW i0 M) (h:thenR (I7 f s0) k (fun v=>some (.ret v))=some r) (_:c.xl i0=some jl) (g:O.keep live=CQ O (M s0) live)
  (o:∀ s r,f s=some r->(∀ k,((CQ O (M s) live).get k).WF)->WP S c ⟨fun e=>∃ s',r=.next s'∧Rn (e.keep live) (CQ O (M s') live),fun j e=>j=i0∧∃ s',r=.brk s'∧Rn e (CQ O (M s') jl),fun e=>∃ v,r=.ret v∧R v e⟩ (CQ O (M s) live))
  (p:∀ s,k s=some r->n (CQ O (M s) jl)):WP S (.block i0 (.loop live c)) ⟨n,x,fun e=>∃ v,r=.ret v∧R v e⟩ O:=
 XX h g o p (fun v e hv u=>by cases hv; exact ⟨v,rfl,u⟩)
theorem kz {f:σ->Option (CZ σ ρ)} {M:σ->List (Nat × EV)} (_:HW i0 M) (h:thenR (I7 f s0) k (fun _=>none)=some r) (_:c.xl i0=some jl) (g:O.keep live=CQ O (M s0) live)
  (o:∀ s r,f s=some r->(∀ k,((CQ O (M s) live).get k).WF)->WP S c ⟨fun e=>∃ s',r=.next s'∧Rn (e.keep live) (CQ O (M s') live),fun j e=>j=i0∧∃ s',r=.brk s'∧Rn e (CQ O (M s') jl),fun _=>∃ v,r=.ret v∧False⟩ (CQ O (M s) live))
  (p:∀ s,k s=some r->n (CQ O (M s) jl)):WP S (.block i0 (.loop live c)) ⟨n,x,t⟩ O:=
 XX (R:=fun _ _=>False) h g o p (fun v e hv _=>by cases hv)
end loops
end
end Go.Sf
