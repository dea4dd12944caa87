/- Contracts that are found by themselves: rules that take the typed text along, and the script that applies them. -/
import Derived.Test.YtlbmpkmkmkgniaaGreatDoorSfDraw
import Derived.Test.YtlbmpkmkmkgniaaGreatDoorSfStep
set_option linter.all false
namespace Go.Sf
class Ct (P:Program) {α:Type} (x:Option α) (f:outParam FuncId) (ts:outParam Ne) (R:outParam (α->CS)):Prop where
 snd:∀ r,x=some r->AT P f ts (R r)
class Ml (es:Ne) {α:outParam Type} (e:outParam (α->TV)) (l:outParam (List α)):Prop where
 eq:es=l.map e
class Z1 {α:Type} (e:α->TV) where
 un:Ne->α
 dec:∀ a b,∃ i:Decidable (a=b),CX (e a).cells (e b).cells=some (@decide (a=b) i)
class Fz (cs:List A1) (row:outParam Ne):Prop where
 h:cs.map (·.t)=row
instance (priority:=high) {l:Ne}:Fz (l.map fun x=>(⟨false,x⟩:A1)) l:=⟨by rw [List.map_map]; exact List.map_id _⟩
instance (priority:=low) {cs:List A1}:Fz cs (cs.map (·.t)):=⟨rfl⟩
class En (α:Type) (e:outParam (α->TV)):Prop where
class Fl {α:Type} (e:α->TV) (n:outParam Nat) (f:outParam (List α->TV)):Prop where
 eq:∀ l,f l=.list n (l.map e)
structure Kp (O:AD) (l:ca) (r:AD):Prop where
 of::out:O.keep l=r
def OK:List (Nat × EV)->Nat->Option EV
 | [],_=>none
 | (k,e)::r,n=>if k=n then some e else OK r n
def CQ (O:AD) (m:List (Nat × EV)):ca->AD
 | []=>[]
 | s::ss=>(s,(OK m s).getD (O.get s))::CQ O m ss
structure Nm (O:AD) (m:List (Nat × EV)) (l:ca) (r:AD):Prop where
 of::out:CQ O m l=r
structure Rn (a b:AD):Prop where
 of::out:a=b
structure HJ {σ:Type} (n:Nat) (M:σ->List (Nat × EV)):Prop where
structure HA {σ:Type} (n cnt q i:Nat) (M:Int->σ->List (Nat × EV)):Prop where
structure HB {σ:Type} (n cnt q i:Nat) (M:Int->σ->List (Nat × EV)):Prop where
theorem HB.a {σ:Type} {n cnt q i:Nat} {M:Int->σ->List (Nat × EV)} (_:HB n cnt q i M):HA n cnt q i M:=⟨⟩
structure HW {σ:Type} (n:Nat) (M:σ->List (Nat × EV)):Prop where
structure HR {β:Type} (R:β->AD->Prop):Prop where
structure HS (n:Nat):Prop where
structure HX {α γ:Type} (n:Nat) (f:α->γ->α):Prop where
structure Z3 (g:Nat) (b q:Bool):Prop where
 of::out:q=b
structure V5 (g:Nat) (b q:Bool):Prop where
 of::out:q=!b
def KR (n:AD->Prop) (l:ca):AD->Prop:=fun e=>n (e.keep l)
section
variable {O:AD} {s:Nat} {ss:ca} {r:AD} {m:List (Nat × EV)}
theorem jE:Kp O [] []:=⟨rfl⟩
theorem Nn {e:EV} (h:O.get s=e) (k:Kp O ss r):Kp O (s::ss) ((s,e)::r):=⟨by rw [←k.out,←h]; rfl⟩
theorem p7 {t:TV} (h:O.get s=.tv t) (k:Kp O ss r):Kp O (s::ss) ((s,.tv t)::r):=Nn h k
theorem p4 {t:TV} (h:O.get s=.ow t) (k:Kp O ss r):Kp O (s::ss) ((s,.ow t)::r):=Nn h k
theorem p0 {t:List A1} (h:O.get s=.bx t) (k:Kp O ss r):Kp O (s::ss) ((s,.bx t)::r):=Nn h k
theorem pz {q o:Nat} (h:O.get s=.bp q o) (k:Kp O ss r):Kp O (s::ss) ((s,.bp q o)::r):=Nn h k
theorem p6 {t:Ne} (h:O.get s=.tp t) (k:Kp O ss r):Kp O (s::ss) ((s,.tp t)::r):=Nn h k
theorem p8 (h:O.get s=.undef) (k:Kp O ss r):Kp O (s::ss) ((s,.undef)::r):=Nn h k
theorem p9 {n:Nat} {t:Ne} (h:O.get s=.xo n t) (k:Kp O ss r):Kp O (s::ss) ((s,.xo n t)::r):=Nn h k
theorem p3 {q:Nat} {i:Option Nat} (h:O.get s=.la q i) (k:Kp O ss r):Kp O (s::ss) ((s,.la q i)::r):=Nn h k
theorem p5 (h:O.get s=.sk) (k:Kp O ss r):Kp O (s::ss) ((s,.sk)::r):=Nn h k
theorem jF {t:List A1} (h:O.get s=.oag t) (k:Kp O ss r):Kp O (s::ss) ((s,.oag t)::r):=Nn h k
theorem jH:Nm O m [] []:=⟨rfl⟩
theorem jG {e:EV} (h:OK m s=some e) (k:Nm O m ss r):Nm O m (s::ss) ((s,e)::r):=⟨by rw [←k.out]; simp only [CQ,h,Option.getD_some]⟩
theorem Pd {e:EV} (h:OK m s=none) (f:O.get s=e) (k:Nm O m ss r):Nm O m (s::ss) ((s,e)::r):=⟨by rw [←k.out]; simp only [CQ,h,f,Option.getD_none]⟩
theorem qJ {t:TV} (h:OK m s=none) (f:O.get s=.tv t) (k:Nm O m ss r):Nm O m (s::ss) ((s,.tv t)::r):=Pd h f k
theorem qH {t:TV} (h:OK m s=none) (f:O.get s=.ow t) (k:Nm O m ss r):Nm O m (s::ss) ((s,.ow t)::r):=Pd h f k
theorem qF {t:List A1} (h:OK m s=none) (f:O.get s=.bx t) (k:Nm O m ss r):Nm O m (s::ss) ((s,.bx t)::r):=Pd h f k
theorem qE {q o:Nat} (h:OK m s=none) (f:O.get s=.bp q o) (k:Nm O m ss r):Nm O m (s::ss) ((s,.bp q o)::r):=Pd h f k
theorem qI {t:Ne} (h:OK m s=none) (f:O.get s=.tp t) (k:Nm O m ss r):Nm O m (s::ss) ((s,.tp t)::r):=Pd h f k
theorem qK (h:OK m s=none) (f:O.get s=.undef) (k:Nm O m ss r):Nm O m (s::ss) ((s,.undef)::r):=Pd h f k
theorem qL {n:Nat} {t:Ne} (h:OK m s=none) (f:O.get s=.xo n t) (k:Nm O m ss r):Nm O m (s::ss) ((s,.xo n t)::r):=Pd h f k
theorem qG {q:Nat} {i:Option Nat} (h:OK m s=none) (f:O.get s=.la q i) (k:Nm O m ss r):Nm O m (s::ss) ((s,.la q i)::r):=Pd h f k
end
def PC.xl (i:Nat):PC->Option ca
 | .exit j l=>if j=i then some l else none
 | .seq a b=>match a.xl i with
  | some l=>some l
  | none=>b.xl i
 | .cond _ a b=>match a.xl i with
  | some l=>some l
  | none=>b.xl i
 | .block _ a=>a.xl i
 | .loop _ a=>a.xl i
 | .rls _ a=>a.xl i
 | _=>none
def PC.last:PC->Option ca
 | .region _ l=>some l
 | .draw _ _ l=>some l
 | .skip l=>some l
 | .exit _ l=>some l
 | .seq _ b=>b.last
 | .cond _ a _=>a.last
 | .block i (.loop _ b)=>b.xl i
 | .block _ c=>c.last
 | .rls _ c=>c.last
 | _=>none
section
variable {S:FuncId->Ne->CS->Prop} {K:AD->Prop} {os:List PR} {O:AD} {d:Nat}
section code
variable {n t:AD->Prop} {x:Nat->AD->Prop} {a b:PC} {l:ca} {env':AD}
theorem ke (f:Kp O l env') (h:n env'):WO S (KR n l) [] O:=⟨by show n (O.keep l); rw [f.out]; exact h⟩
theorem k6 {ops:List PR} (h:WO S (KR n l) ops O):WP S (.region ops l) ⟨n,x,t⟩ O:=⟨h.out⟩
theorem iJ {D:ca} {ops:List PR} (f:P2 O D=true) (h:WO S (KR n l) ops O):WP S (.draw D ops l) ⟨n,x,t⟩ O:=⟨f,h.out⟩
theorem lC (h:WP S a ⟨fun e=>(∀ s,(e.get s).WF)->WP S b ⟨n,x,t⟩ e,x,t⟩ O):WP S (.seq a b) ⟨n,x,t⟩ O:=l7 h
theorem iS (f:Kp O l env') (h:n env'):WP S (.skip l) ⟨n,x,t⟩ O:=ii f.out h
theorem k8 (h:t O):WP S .ret ⟨n,x,t⟩ O:=⟨h⟩
theorem iK {i:Nat} (f:Kp O l env') (h:x i env'):WP S (.exit i l) ⟨n,x,t⟩ O:=ig f.out h
theorem k9 {s:Nat} {cs cs':List A1} {c:PC} {q:Q} (h:O.get s=.bx cs) (f:cs.map A1.rel=cs') (k:WP S c q ((s,.bx cs')::O)):WP S (.rls s c) q O:=by
 refine ⟨?_⟩;subst f;simp only [PC.wp,h]; exact k.out
theorem en {i:Nat} (h:WP S a ⟨n,fun j e=>if j=i then n e else x j e,t⟩ O):WP S (.block i a) ⟨n,x,t⟩ O:=Ub h
theorem kf {m:List (Nat × EV)} {e:AD} {q:Q} (f:Nm e m l env') (h:WP S a q env'):WP S a q (CQ e m l):=by rw [f.out]; exact h
theorem iI {c:AL} {β:Type} {q:Bool} {u v:Option β} {r:β} {Q:Q} (f:c.val O=some (.bool q)) (h:(if q=true then u else v)=some r) (g:q=true->u=some r->WP S a Q O) (j:q=false->v=some r->WP S b Q O):WP S (.cond c a b) Q O:=
 Td f (fun e=>g e (Vx e h)) (fun e=>j e (Vw e h))
theorem iM {σ β:Type} {i:Nat} {M:σ->List (Nat × EV)} {q:Bool} {u v:Option σ} {k:σ->Option β} {r:β} (g:(AL.s i).val O=some (.bool q)) (h:((if q=true then u else v).bind k)=some r) (_:HJ i M) (_:(PC.cond (.s i) a b).last=some l)
  (j:∀ w,q=true->u=some w->WP S a ⟨fun e=>Rn e (CQ O (M w) l),x,t⟩ O) (o:∀ w,q=false->v=some w->WP S b ⟨fun e=>Rn e (CQ O (M w) l),x,t⟩ O) (p:∀ w,k w=some r->n (CQ O (M w) l)):WP S (.cond (.s i) a b) ⟨n,x,t⟩ O:=by
 obtain ⟨w,f,h⟩:=bind_some h;refine l6 (fun e=>Rn e (CQ O (M w) l)) ?_ (fun e y=>by rw [y.out]; exact p w h);exact Td g (fun e=>j w e (Vx e f)) (fun e=>o w e (Vw e f))
end code
structure Bd (O:AD) (q i:Nat) (b:Int):Prop where
 of::out:(∀ s,(O.get s).WF)->b<=9223372036854775807
section bounds
variable {q i:Nat} {α:Type} {e:α->TV} {l:List α} {es row:Ne} {n:Nat}
theorem RG {b:Int} (h:decide (b<=9223372036854775807)=true):Bd O q i b:=⟨fun _=>of_decide_eq_true h⟩
theorem RL {b:Int}:Bd O q i (A4 b):=⟨fun _=>kT _⟩
theorem RI (h:O.get q=.tv (.list n es)) (f:es=l.map e):Bd O q i l.length:=⟨fun g=>by have:=g q; rw [h] at this; exact SC (V2 this) f⟩
theorem RJ (h:O.get q=.ow (.list n es)) (f:es=l.map e):Bd O q i l.length:=⟨fun g=>by have:=g q; rw [h] at this; exact SC (rT this) f⟩
theorem RM (h:O.get q=.xo n es) (f:es=l.map e):Bd O q i l.length:=⟨fun g=>by have:=g q; rw [h] at this; exact SC (rU this) f⟩
theorem RK {b:ByteArray} (h:O.get q=.tv (.str b)):Bd O q i b.size:=⟨fun f=>by have:=f q; rw [h] at this; exact g5 (V2 this)⟩
theorem RH {b:Int} (h:O.get q=.tv (.int .i64 b)):Bd O q i b:=⟨fun f=>by have:=f q; rw [h] at this; exact bm (V2 this)⟩
theorem PL (h:O.get q=.tv (.pt row)) (f:row[i]?=some (.list n es)) (g:es=l.map e):Bd O q i l.length:=⟨fun j=>by have:=j q; rw [h] at this; exact SC (Yq (ei this) f) g⟩
theorem PK {b:Int} (h:O.get q=.tv (.pt row)) (f:row[i]?=some (.int .i64 b)):Bd O q i b:=⟨fun g=>by have:=g q; rw [h] at this; exact bm (Yq (ei this) f)⟩
end bounds
section loops
variable {σ β ρ:Type} {n t:AD->Prop} {x:Nat->AD->Prop} {c:PC} {live jl:ca} {i0 cnt q i1:Nat} {lo b:Int} {s0:σ} {r:β} {k:σ->Option β}
theorem kU {M:Int->σ->List (Nat × EV)} (f:∀ i s,(CQ O (M i s) live).get cnt=.tv (.int .i64 i)) {i:Int} {s:σ} (g:∀ k,((CQ O (M i s) live).get k).WF) (hi:i<b) (h:b<=9223372036854775807):A4 (i+1)=i+1:=by
 have:=g cnt;rw [f] at this;exact rV (V2 this) hi h
theorem Z4 {f:Int->σ->Option σ} {M:Int->σ->List (Nat × EV)} (_:HA i0 cnt q i1 M) (h:(forA f lo b s0).bind k=some r) (g:∀ s,(O.get s).WF) (p:Bd O q i1 b) (_:c.xl i0=some jl) (u:O.keep live=CQ O (M lo s0) live) (v:∀ i s,(CQ O (M i s) live).get cnt=.tv (.int .i64 i))
  (w:∀ i s r,i<b->f i s=some r->(∀ k,((CQ O (M i s) live).get k).WF)->WP S c ⟨fun e=>Rn (e.keep live) (CQ O (M (A4 (i+1)) r) live),fun _ _=>False,fun _=>False⟩ (CQ O (M i s) live))
  (y:∀ i s,¬ i<b->WP S c ⟨fun _=>False,fun j e=>j=i0∧Rn e (CQ O (M 0 s) jl),fun _=>False⟩ (CQ O (M i s) live))
  (z:∀ s,k s=some r->n (CQ O (M 0 s) jl)):WP S (.block i0 (.loop live c)) ⟨n,x,t⟩ O:=by
 obtain ⟨o,ho,h⟩:=bind_some h;have p:=p.out g;refine g6 ho (fun i s=>CQ O (M i s) live) (fun s=>CQ O (M 0 s) jl) u (fun i s r hi A g=>⟨PC.wp_mono S c _ _ (w i s r hi A g).out _ (fun e B=>?_) (fun _ _ h=>h) (fun _ h=>h)⟩) (fun i s hi=>⟨PC.wp_mono S c _ _ (y i s hi).out _ (fun _ h=>h) (fun j e h=>⟨h.1,h.2.out⟩) (fun _ h=>h)⟩) (z o h);have:=B.out;rw [kU v g hi p] at this;exact this
theorem Uf {f:Int->σ->Option (CY σ ρ)} {w:ρ->Option β} {R:ρ->AD->Prop} {M:Int->σ->List (Nat × EV)} (h:thenR (forR f lo b s0) k w=some r) (z:b<=9223372036854775807) (A:O.keep live=CQ O (M lo s0) live) (B:∀ i s,(CQ O (M i s) live).get cnt=.tv (.int .i64 i))
  (C:∀ i s r,i<b->f i s=some r->(∀ k,((CQ O (M i s) live).get k).WF)->WP S c ⟨fun e=>∃ s',r=.next s'∧Rn (e.keep live) (CQ O (M (A4 (i+1)) s') live),fun j e=>j=i0∧∃ s',r=.brk s'∧Rn e (CQ O (M 0 s') jl),fun e=>∃ v,r=.ret v∧R v e⟩ (CQ O (M i s) live))
  (D:∀ i s,¬ i<b->WP S c ⟨fun _=>False,fun j e=>j=i0∧Rn e (CQ O (M 0 s) jl),fun _=>False⟩ (CQ O (M i s) live))
  (E:∀ s,k s=some r->n (CQ O (M 0 s) jl)) (F:∀ v e,w v=some r->R v e->t e):WP S (.block i0 (.loop live c)) ⟨n,x,t⟩ O:=by
 obtain ⟨o,ho,h⟩:=UT h;refine Ys ho (fun i s=>CQ O (M i s) live) (fun s=>CQ O (M 0 s) jl) R A (fun i s r hi G y=>⟨PC.wp_mono S c _ _ (C i s r hi G y).out _ (fun e p=>?_) (fun j e p=>?_) (fun _ h=>h)⟩) (fun i s hi=>⟨PC.wp_mono S c _ _ (D i s hi).out _ (fun _ h=>h) (fun j e h=>⟨h.1,h.2.out⟩) (fun _ h=>h)⟩) (fun s H=>E s (Yk h H)) (fun v e hv=>F v e (Yl h hv))
 ·obtain ⟨s',u,g⟩:=p;have g:=g.out;rw [kU B y hi z] at g;exact ⟨s',u,g⟩
 ·obtain ⟨I,s',u,g⟩:=p;exact ⟨I,s',u,g.out⟩
theorem Z7 {f:Int->σ->Option (CY σ β)} {R:β->AD->Prop} {M:Int->σ->List (Nat × EV)} (_:HA i0 cnt q i1 M) (_:HR R) (g:R r=t) (h:thenR (forR f lo b s0) k (fun v=>some v)=some r) (o:∀ s,(O.get s).WF) (p:Bd O q i1 b) (_:c.xl i0=some jl) (u:O.keep live=CQ O (M lo s0) live) (w:∀ i s,(CQ O (M i s) live).get cnt=.tv (.int .i64 i))
  (y:∀ i s r,i<b->f i s=some r->(∀ k,((CQ O (M i s) live).get k).WF)->WP S c ⟨fun e=>∃ s',r=.next s'∧Rn (e.keep live) (CQ O (M (A4 (i+1)) s') live),fun j e=>j=i0∧∃ s',r=.brk s'∧Rn e (CQ O (M 0 s') jl),fun e=>∃ v,r=.ret v∧R v e⟩ (CQ O (M i s) live))
  (z:∀ i s,¬ i<b->WP S c ⟨fun _=>False,fun j e=>j=i0∧Rn e (CQ O (M 0 s) jl),fun _=>False⟩ (CQ O (M i s) live))
  (A:∀ s,k s=some r->n (CQ O (M 0 s) jl)):WP S (.block i0 (.loop live c)) ⟨n,x,t⟩ O:=
 Uf h (p.out o) u w y z A (fun v e hv B=>by cases hv; rw [←g]; exact B)
theorem Z6 {τ:Type} {f:Int->σ->Option (CY σ ρ)} {k:σ->Option (CY τ ρ)} {r:CY τ ρ} {R:ρ->AD->Prop} {M:Int->σ->List (Nat × EV)} (_:HA i0 cnt q i1 M) (h:thenR (forR f lo b s0) k (fun v=>some (.ret v))=some r) (g:∀ s,(O.get s).WF) (o:Bd O q i1 b) (_:c.xl i0=some jl) (p:O.keep live=CQ O (M lo s0) live) (u:∀ i s,(CQ O (M i s) live).get cnt=.tv (.int .i64 i))
  (w:∀ i s r,i<b->f i s=some r->(∀ k,((CQ O (M i s) live).get k).WF)->WP S c ⟨fun e=>∃ s',r=.next s'∧Rn (e.keep live) (CQ O (M (A4 (i+1)) s') live),fun j e=>j=i0∧∃ s',r=.brk s'∧Rn e (CQ O (M 0 s') jl),fun e=>∃ v,r=.ret v∧R v e⟩ (CQ O (M i s) live))
  (y:∀ i s,¬ i<b->WP S c ⟨fun _=>False,fun j e=>j=i0∧Rn e (CQ O (M 0 s) jl),fun _=>False⟩ (CQ O (M i s) live))
  (z:∀ s,k s=some r->n (CQ O (M 0 s) jl)):WP S (.block i0 (.loop live c)) ⟨n,x,fun e=>∃ v,r=.ret v∧R v e⟩ O:=
 Uf h (o.out g) p u w y z (fun v e hv A=>by cases hv; exact ⟨v,rfl,A⟩)
theorem Z5 {f:Int->σ->Option (CY σ ρ)} {M:Int->σ->List (Nat × EV)} (_:HA i0 cnt q i1 M) (h:thenR (forR f lo b s0) k (fun _=>none)=some r) (g:∀ s,(O.get s).WF) (o:Bd O q i1 b) (_:c.xl i0=some jl) (p:O.keep live=CQ O (M lo s0) live) (u:∀ i s,(CQ O (M i s) live).get cnt=.tv (.int .i64 i))
  (w:∀ i s r,i<b->f i s=some r->(∀ k,((CQ O (M i s) live).get k).WF)->WP S c ⟨fun e=>∃ s',r=.next s'∧Rn (e.keep live) (CQ O (M (A4 (i+1)) s') live),fun j e=>j=i0∧∃ s',r=.brk s'∧Rn e (CQ O (M 0 s') jl),fun _=>∃ v,r=.ret v∧False⟩ (CQ O (M i s) live))
  (y:∀ i s,¬ i<b->WP S c ⟨fun _=>False,fun j e=>j=i0∧Rn e (CQ O (M 0 s) jl),fun _=>False⟩ (CQ O (M i s) live))
  (z:∀ s,k s=some r->n (CQ O (M 0 s) jl)):WP S (.block i0 (.loop live c)) ⟨n,x,t⟩ O:=
 Uf (R:=fun _ _=>False) h (o.out g) p u w y z (fun v e hv _=>by cases hv)
theorem Xa {f:σ->Option (CY σ ρ)} {w:ρ->Option β} {R:ρ->AD->Prop} {M:σ->List (Nat × EV)} (h:thenR (It f s0) k w=some r) (y:O.keep live=CQ O (M s0) live)
  (z:∀ s r,f s=some r->(∀ k,((CQ O (M s) live).get k).WF)->WP S c ⟨fun e=>∃ s',r=.next s'∧Rn (e.keep live) (CQ O (M s') live),fun j e=>j=i0∧∃ s',r=.brk s'∧Rn e (CQ O (M s') jl),fun e=>∃ v,r=.ret v∧R v e⟩ (CQ O (M s) live))
  (A:∀ s,k s=some r->n (CQ O (M s) jl)) (B:∀ v e,w v=some r->R v e->t e):WP S (.block i0 (.loop live c)) ⟨n,x,t⟩ O:=by
 obtain ⟨o,ho,h⟩:=UT h;refine kW ho (fun s=>CQ O (M s) live) (fun s=>CQ O (M s) jl) R y (fun s r C D=>⟨PC.wp_mono S c _ _ (z s r C D).out _ (fun e g=>?_) (fun j e g=>?_) (fun _ h=>h)⟩) (fun s E=>A s (Yk h E)) (fun v e hv=>B v e (Yl h hv))
 ·obtain ⟨s',p,u⟩:=g;exact ⟨s',p,u.out⟩
 ·obtain ⟨F,s',p,u⟩:=g;exact ⟨F,s',p,u.out⟩
theorem lH {f:σ->Option (CY σ β)} {R:β->AD->Prop} {M:σ->List (Nat × EV)} (_:HW i0 M) (_:HR R) (g:R r=t) (h:thenR (It f s0) k (fun v=>some v)=some r) (_:c.xl i0=some jl) (o:O.keep live=CQ O (M s0) live)
  (p:∀ s r,f s=some r->(∀ k,((CQ O (M s) live).get k).WF)->WP S c ⟨fun e=>∃ s',r=.next s'∧Rn (e.keep live) (CQ O (M s') live),fun j e=>j=i0∧∃ s',r=.brk s'∧Rn e (CQ O (M s') jl),fun e=>∃ v,r=.ret v∧R v e⟩ (CQ O (M s) live))
  (u:∀ s,k s=some r->n (CQ O (M s) jl)):WP S (.block i0 (.loop live c)) ⟨n,x,t⟩ O:=
 Xa h o p u (fun v e hv w=>by cases hv; rw [←g]; exact w)
theorem lG {τ:Type} {f:σ->Option (CY σ ρ)} {k:σ->Option (CY τ ρ)} {r:CY τ ρ} {R:ρ->AD->Prop} {M:σ->List (Nat × EV)} (_:HW i0 M) (h:thenR (It f s0) k (fun v=>some (.ret v))=some r) (_:c.xl i0=some jl) (g:O.keep live=CQ O (M s0) live)
  (o:∀ s r,f s=some r->(∀ k,((CQ O (M s) live).get k).WF)->WP S c ⟨fun e=>∃ s',r=.next s'∧Rn (e.keep live) (CQ O (M s') live),fun j e=>j=i0∧∃ s',r=.brk s'∧Rn e (CQ O (M s') jl),fun e=>∃ v,r=.ret v∧R v e⟩ (CQ O (M s) live))
  (p:∀ s,k s=some r->n (CQ O (M s) jl)):WP S (.block i0 (.loop live c)) ⟨n,x,fun e=>∃ v,r=.ret v∧R v e⟩ O:=
 Xa h g o p (fun v e hv u=>by cases hv; exact ⟨v,rfl,u⟩)
theorem lF {f:σ->Option (CY σ ρ)} {M:σ->List (Nat × EV)} (_:HW i0 M) (h:thenR (It f s0) k (fun _=>none)=some r) (_:c.xl i0=some jl) (g:O.keep live=CQ O (M s0) live)
  (o:∀ s r,f s=some r->(∀ k,((CQ O (M s) live).get k).WF)->WP S c ⟨fun e=>∃ s',r=.next s'∧Rn (e.keep live) (CQ O (M s') live),fun j e=>j=i0∧∃ s',r=.brk s'∧Rn e (CQ O (M s') jl),fun _=>∃ v,r=.ret v∧False⟩ (CQ O (M s) live))
  (p:∀ s,k s=some r->n (CQ O (M s) jl)):WP S (.block i0 (.loop live c)) ⟨n,x,t⟩ O:=
 Xa (R:=fun _ _=>False) h g o p (fun v e hv _=>by cases hv)
end loops
end
end Go.Sf
