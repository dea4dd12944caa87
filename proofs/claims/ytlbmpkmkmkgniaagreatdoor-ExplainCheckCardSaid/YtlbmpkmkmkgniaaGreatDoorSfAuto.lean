/- Contracts that are found by themselves: rules that take the typed text along, and the script that applies them. -/
import Derived.Test.YtlbmpkmkmkgniaaGreatDoorSfDraw
import Derived.Test.YtlbmpkmkmkgniaaGreatDoorSfStep
set_option linter.all false
namespace Go.Sf
class Ct (P:Program) {α:Type} (x:Option α) (f:outParam FuncId) (ts:outParam QQ) (R:outParam (α->CS)):Prop where
 snd:∀ r,x=some r->AT P f ts (R r)
class Ml (es:QQ) {α:outParam Type} (e:outParam (α->TV)) (l:outParam (List α)):Prop where
 eq:es=l.map e
class Z2 {α:Type} (e:α->TV) where
 un:QQ->α
 dec:∀ a b,∃ i:Decidable (a=b),CX (e a).cells (e b).cells=some (@decide (a=b) i)
class Fz (cs:List A1) (row:outParam QQ):Prop where
 h:cs.map (·.t)=row
instance (priority:=high) {l:QQ}:Fz (l.map fun x=>(⟨false,x⟩:A1)) l:=⟨by rw [List.map_map]; exact List.map_id _⟩
instance (priority:=low) {cs:List A1}:Fz cs (cs.map (·.t)):=⟨rfl⟩
class En (α:Type) (e:outParam (α->TV)):Prop where
class Fl {α:Type} (e:α->TV) (n:outParam Nat) (f:outParam (List α->TV)):Prop where
 eq:∀ l,f l=.list n (l.map e)
structure Kp (O:AD) (l:ci) (r:AD):Prop where
 of::out:O.keep l=r
def OL:List (Nat × EV)->Nat->Option EV
 | [],_=>none
 | (k,e)::r,n=>if k=n then some e else OL r n
def CQ (O:AD) (m:List (Nat × EV)):ci->AD
 | []=>[]
 | s::ss=>(s,(OL m s).getD (O.get s))::CQ O m ss
structure Nm (O:AD) (m:List (Nat × EV)) (l:ci) (r:AD):Prop where
 of::out:CQ O m l=r
structure Rn (a b:AD):Prop where
 of::out:a=b
structure HJ {σ:Type} (n:Nat) (M:σ->List (Nat × EV)):Prop where
structure HA {σ:Type} (n cnt q i:Nat) (M:Int->σ->List (Nat × EV)):Prop where
structure HB {σ:Type} (n cnt q i:Nat) (M:Int->σ->List (Nat × EV)):Prop where
theorem HB.a {σ:Type} {n cnt q i:Nat} {M:Int->σ->List (Nat × EV)} (_:HB n cnt q i M):HA n cnt q i M:=⟨⟩
structure HW {σ:Type} (n:Nat) (M:σ->List (Nat × EV)):Prop where
structure HR {β:Type} (R:β->AD->Prop):Prop where
structure HS (n:Nat):Prop where
structure HX {α γ:Type} (n:Nat) (f:α->γ->α):Prop where
structure Z4 (g:Nat) (b q:Bool):Prop where
 of::out:q=b
structure V6 (g:Nat) (b q:Bool):Prop where
 of::out:q=!b
def KR (n:AD->Prop) (l:ci):AD->Prop:=fun e=>n (e.keep l)
section
variable {O:AD} {s:Nat} {ss:ci} {r:AD} {m:List (Nat × EV)}
theorem jF:Kp O [] []:=⟨rfl⟩
theorem Np {e:EV} (h:O.get s=e) (k:Kp O ss r):Kp O (s::ss) ((s,e)::r):=⟨by rw [←k.out,←h]; rfl⟩
theorem p8 {t:TV} (h:O.get s=.tv t) (k:Kp O ss r):Kp O (s::ss) ((s,.tv t)::r):=Np h k
theorem p5 {t:TV} (h:O.get s=.ow t) (k:Kp O ss r):Kp O (s::ss) ((s,.ow t)::r):=Np h k
theorem p3 {t:List A1} (h:O.get s=.bx t) (k:Kp O ss r):Kp O (s::ss) ((s,.bx t)::r):=Np h k
theorem p0 {q o:Nat} (h:O.get s=.bp q o) (k:Kp O ss r):Kp O (s::ss) ((s,.bp q o)::r):=Np h k
theorem p7 {t:QQ} (h:O.get s=.tp t) (k:Kp O ss r):Kp O (s::ss) ((s,.tp t)::r):=Np h k
theorem p9 (h:O.get s=.undef) (k:Kp O ss r):Kp O (s::ss) ((s,.undef)::r):=Np h k
theorem qA {n:Nat} {t:QQ} (h:O.get s=.xo n t) (k:Kp O ss r):Kp O (s::ss) ((s,.xo n t)::r):=Np h k
theorem p4 {q:Nat} {i:Option Nat} (h:O.get s=.la q i) (k:Kp O ss r):Kp O (s::ss) ((s,.la q i)::r):=Np h k
theorem p6 (h:O.get s=.sk) (k:Kp O ss r):Kp O (s::ss) ((s,.sk)::r):=Np h k
theorem jG {t:List A1} (h:O.get s=.oag t) (k:Kp O ss r):Kp O (s::ss) ((s,.oag t)::r):=Np h k
theorem jI:Nm O m [] []:=⟨rfl⟩
theorem jH {e:EV} (h:OL m s=some e) (k:Nm O m ss r):Nm O m (s::ss) ((s,e)::r):=⟨by rw [←k.out]; simp only [CQ,h,Option.getD_some]⟩
theorem Pe {e:EV} (h:OL m s=none) (f:O.get s=e) (k:Nm O m ss r):Nm O m (s::ss) ((s,e)::r):=⟨by rw [←k.out]; simp only [CQ,h,f,Option.getD_none]⟩
theorem qK {t:TV} (h:OL m s=none) (f:O.get s=.tv t) (k:Nm O m ss r):Nm O m (s::ss) ((s,.tv t)::r):=Pe h f k
theorem qI {t:TV} (h:OL m s=none) (f:O.get s=.ow t) (k:Nm O m ss r):Nm O m (s::ss) ((s,.ow t)::r):=Pe h f k
theorem qG {t:List A1} (h:OL m s=none) (f:O.get s=.bx t) (k:Nm O m ss r):Nm O m (s::ss) ((s,.bx t)::r):=Pe h f k
theorem qF {q o:Nat} (h:OL m s=none) (f:O.get s=.bp q o) (k:Nm O m ss r):Nm O m (s::ss) ((s,.bp q o)::r):=Pe h f k
theorem qJ {t:QQ} (h:OL m s=none) (f:O.get s=.tp t) (k:Nm O m ss r):Nm O m (s::ss) ((s,.tp t)::r):=Pe h f k
theorem qL (h:OL m s=none) (f:O.get s=.undef) (k:Nm O m ss r):Nm O m (s::ss) ((s,.undef)::r):=Pe h f k
theorem qM {n:Nat} {t:QQ} (h:OL m s=none) (f:O.get s=.xo n t) (k:Nm O m ss r):Nm O m (s::ss) ((s,.xo n t)::r):=Pe h f k
theorem qH {q:Nat} {i:Option Nat} (h:OL m s=none) (f:O.get s=.la q i) (k:Nm O m ss r):Nm O m (s::ss) ((s,.la q i)::r):=Pe h f k
end
def PC.xl (i:Nat):PC->Option ci
 | .exit j l=>if j=i then some l else none
 | .seq a b=>match a.xl i with
  | some l=>some l
  | none=>b.xl i
 | .cond _ a b=>match a.xl i with
  | some l=>some l
  | none=>b.xl i
 | .block _ a=>a.xl i
 | .loop _ a=>a.xl i
 | .rls _ a=>a.xl i
 | _=>none
def PC.last:PC->Option ci
 | .region _ l=>some l
 | .draw _ _ l=>some l
 | .skip l=>some l
 | .exit _ l=>some l
 | .seq _ b=>b.last
 | .cond _ a _=>a.last
 | .block i (.loop _ b)=>b.xl i
 | .block _ c=>c.last
 | .rls _ c=>c.last
 | _=>none
section
variable {S:FuncId->QQ->CS->Prop} {K:AD->Prop} {os:List PR} {O:AD} {d:Nat}
section code
variable {n t:AD->Prop} {x:Nat->AD->Prop} {a b:PC} {l:ci} {env':AD}
theorem kf (f:Kp O l env') (h:n env'):WO S (KR n l) [] O:=⟨by show n (O.keep l); rw [f.out]; exact h⟩
theorem k7 {ops:List PR} (h:WO S (KR n l) ops O):WP S (.region ops l) ⟨n,x,t⟩ O:=⟨h.out⟩
theorem iK {D:ci} {ops:List PR} (f:P3 O D=true) (h:WO S (KR n l) ops O):WP S (.draw D ops l) ⟨n,x,t⟩ O:=⟨f,h.out⟩
theorem lD (h:WP S a ⟨fun e=>(∀ s,(e.get s).WF)->WP S b ⟨n,x,t⟩ e,x,t⟩ O):WP S (.seq a b) ⟨n,x,t⟩ O:=l8 h
theorem iT (f:Kp O l env') (h:n env'):WP S (.skip l) ⟨n,x,t⟩ O:=ij f.out h
theorem k9 (h:t O):WP S .ret ⟨n,x,t⟩ O:=⟨h⟩
theorem iL {i:Nat} (f:Kp O l env') (h:x i env'):WP S (.exit i l) ⟨n,x,t⟩ O:=ii f.out h
theorem lC {s:Nat} {cs cs':List A1} {c:PC} {q:Q} (h:O.get s=.bx cs) (f:cs.map A1.rel=cs') (k:WP S c q ((s,.bx cs')::O)):WP S (.rls s c) q O:=by
 refine ⟨?_⟩;subst f;simp only [PC.wp,h]; exact k.out
theorem eo {i:Nat} (h:WP S a ⟨n,fun j e=>if j=i then n e else x j e,t⟩ O):WP S (.block i a) ⟨n,x,t⟩ O:=Uc h
theorem kh {m:List (Nat × EV)} {e:AD} {q:Q} (f:Nm e m l env') (h:WP S a q env'):WP S a q (CQ e m l):=by rw [f.out]; exact h
theorem iJ {c:AL} {β:Type} {q:Bool} {u v:Option β} {r:β} {Q:Q} (f:c.val O=some (.bool q)) (h:(if q=true then u else v)=some r) (g:q=true->u=some r->WP S a Q O) (j:q=false->v=some r->WP S b Q O):WP S (.cond c a b) Q O:=
 Te f (fun e=>g e (Vy e h)) (fun e=>j e (Vx e h))
theorem iN {σ β:Type} {i:Nat} {M:σ->List (Nat × EV)} {q:Bool} {u v:Option σ} {k:σ->Option β} {r:β} (g:(AL.s i).val O=some (.bool q)) (h:((if q=true then u else v).bind k)=some r) (_:HJ i M) (_:(PC.cond (.s i) a b).last=some l)
  (j:∀ w,q=true->u=some w->WP S a ⟨fun e=>Rn e (CQ O (M w) l),x,t⟩ O) (o:∀ w,q=false->v=some w->WP S b ⟨fun e=>Rn e (CQ O (M w) l),x,t⟩ O) (p:∀ w,k w=some r->n (CQ O (M w) l)):WP S (.cond (.s i) a b) ⟨n,x,t⟩ O:=by
 obtain ⟨w,f,h⟩:=bind_some h;refine l7 (fun e=>Rn e (CQ O (M w) l)) ?_ (fun e y=>by rw [y.out]; exact p w h);exact Te g (fun e=>j w e (Vy e f)) (fun e=>o w e (Vx e f))
end code
structure Bd (O:AD) (q i:Nat) (b:Int):Prop where
 of::out:(∀ s,(O.get s).WF)->b<=9223372036854775807
section bounds
variable {q i:Nat} {α:Type} {e:α->TV} {l:List α} {es row:QQ} {n:Nat}
theorem RH {b:Int} (h:decide (b<=9223372036854775807)=true):Bd O q i b:=⟨fun _=>of_decide_eq_true h⟩
theorem RM {b:Int}:Bd O q i (A4 b):=⟨fun _=>kU _⟩
theorem RJ (h:O.get q=.tv (.list n es)) (f:es=l.map e):Bd O q i l.length:=⟨fun g=>by have:=g q; rw [h] at this; exact SD (V3 this) f⟩
theorem RK (h:O.get q=.ow (.list n es)) (f:es=l.map e):Bd O q i l.length:=⟨fun g=>by have:=g q; rw [h] at this; exact SD (rU this) f⟩
theorem RN (h:O.get q=.xo n es) (f:es=l.map e):Bd O q i l.length:=⟨fun g=>by have:=g q; rw [h] at this; exact SD (rV this) f⟩
theorem RL {b:ByteArray} (h:O.get q=.tv (.str b)):Bd O q i b.size:=⟨fun f=>by have:=f q; rw [h] at this; exact g6 (V3 this)⟩
theorem RI {b:Int} (h:O.get q=.tv (.int .i64 b)):Bd O q i b:=⟨fun f=>by have:=f q; rw [h] at this; exact bn (V3 this)⟩
theorem PM (h:O.get q=.tv (.pt row)) (f:row[i]?=some (.list n es)) (g:es=l.map e):Bd O q i l.length:=⟨fun j=>by have:=j q; rw [h] at this; exact SD (Yr (ej this) f) g⟩
theorem PL {b:Int} (h:O.get q=.tv (.pt row)) (f:row[i]?=some (.int .i64 b)):Bd O q i b:=⟨fun g=>by have:=g q; rw [h] at this; exact bn (Yr (ej this) f)⟩
end bounds
section loops
variable {σ β ρ:Type} {n t:AD->Prop} {x:Nat->AD->Prop} {c:PC} {live jl:ci} {i0 cnt q i1:Nat} {lo b:Int} {s0:σ} {r:β} {k:σ->Option β}
theorem kV {M:Int->σ->List (Nat × EV)} (f:∀ i s,(CQ O (M i s) live).get cnt=.tv (.int .i64 i)) {i:Int} {s:σ} (g:∀ k,((CQ O (M i s) live).get k).WF) (hi:i<b) (h:b<=9223372036854775807):A4 (i+1)=i+1:=by
 have:=g cnt;rw [f] at this;exact rW (V3 this) hi h
theorem Z5 {f:Int->σ->Option σ} {M:Int->σ->List (Nat × EV)} (_:HA i0 cnt q i1 M) (h:(forA f lo b s0).bind k=some r) (g:∀ s,(O.get s).WF) (p:Bd O q i1 b) (_:c.xl i0=some jl) (u:O.keep live=CQ O (M lo s0) live) (v:∀ i s,(CQ O (M i s) live).get cnt=.tv (.int .i64 i))
  (w:∀ i s r,i<b->f i s=some r->(∀ k,((CQ O (M i s) live).get k).WF)->WP S c ⟨fun e=>Rn (e.keep live) (CQ O (M (A4 (i+1)) r) live),fun _ _=>False,fun _=>False⟩ (CQ O (M i s) live))
  (y:∀ i s,¬ i<b->WP S c ⟨fun _=>False,fun j e=>j=i0∧Rn e (CQ O (M 0 s) jl),fun _=>False⟩ (CQ O (M i s) live))
  (z:∀ s,k s=some r->n (CQ O (M 0 s) jl)):WP S (.block i0 (.loop live c)) ⟨n,x,t⟩ O:=by
 obtain ⟨o,ho,h⟩:=bind_some h;have p:=p.out g;refine g7 ho (fun i s=>CQ O (M i s) live) (fun s=>CQ O (M 0 s) jl) u (fun i s r hi A g=>⟨PC.wp_mono S c _ _ (w i s r hi A g).out _ (fun e B=>?_) (fun _ _ h=>h) (fun _ h=>h)⟩) (fun i s hi=>⟨PC.wp_mono S c _ _ (y i s hi).out _ (fun _ h=>h) (fun j e h=>⟨h.1,h.2.out⟩) (fun _ h=>h)⟩) (z o h);have:=B.out;rw [kV v g hi p] at this;exact this
theorem Ug {f:Int->σ->Option (CY σ ρ)} {w:ρ->Option β} {R:ρ->AD->Prop} {M:Int->σ->List (Nat × EV)} (h:thenR (forR f lo b s0) k w=some r) (z:b<=9223372036854775807) (A:O.keep live=CQ O (M lo s0) live) (B:∀ i s,(CQ O (M i s) live).get cnt=.tv (.int .i64 i))
  (C:∀ i s r,i<b->f i s=some r->(∀ k,((CQ O (M i s) live).get k).WF)->WP S c ⟨fun e=>∃ s',r=.next s'∧Rn (e.keep live) (CQ O (M (A4 (i+1)) s') live),fun j e=>j=i0∧∃ s',r=.brk s'∧Rn e (CQ O (M 0 s') jl),fun e=>∃ v,r=.ret v∧R v e⟩ (CQ O (M i s) live))
  (D:∀ i s,¬ i<b->WP S c ⟨fun _=>False,fun j e=>j=i0∧Rn e (CQ O (M 0 s) jl),fun _=>False⟩ (CQ O (M i s) live))
  (E:∀ s,k s=some r->n (CQ O (M 0 s) jl)) (F:∀ v e,w v=some r->R v e->t e):WP S (.block i0 (.loop live c)) ⟨n,x,t⟩ O:=by
 obtain ⟨o,ho,h⟩:=UU h;refine Yt ho (fun i s=>CQ O (M i s) live) (fun s=>CQ O (M 0 s) jl) R A (fun i s r hi G y=>⟨PC.wp_mono S c _ _ (C i s r hi G y).out _ (fun e p=>?_) (fun j e p=>?_) (fun _ h=>h)⟩) (fun i s hi=>⟨PC.wp_mono S c _ _ (D i s hi).out _ (fun _ h=>h) (fun j e h=>⟨h.1,h.2.out⟩) (fun _ h=>h)⟩) (fun s H=>E s (Yl h H)) (fun v e hv=>F v e (Ym h hv))
 ·obtain ⟨s',u,g⟩:=p;have g:=g.out;rw [kV B y hi z] at g;exact ⟨s',u,g⟩
 ·obtain ⟨I,s',u,g⟩:=p;exact ⟨I,s',u,g.out⟩
theorem Z8 {f:Int->σ->Option (CY σ β)} {R:β->AD->Prop} {M:Int->σ->List (Nat × EV)} (_:HA i0 cnt q i1 M) (_:HR R) (g:R r=t) (h:thenR (forR f lo b s0) k (fun v=>some v)=some r) (o:∀ s,(O.get s).WF) (p:Bd O q i1 b) (_:c.xl i0=some jl) (u:O.keep live=CQ O (M lo s0) live) (w:∀ i s,(CQ O (M i s) live).get cnt=.tv (.int .i64 i))
  (y:∀ i s r,i<b->f i s=some r->(∀ k,((CQ O (M i s) live).get k).WF)->WP S c ⟨fun e=>∃ s',r=.next s'∧Rn (e.keep live) (CQ O (M (A4 (i+1)) s') live),fun j e=>j=i0∧∃ s',r=.brk s'∧Rn e (CQ O (M 0 s') jl),fun e=>∃ v,r=.ret v∧R v e⟩ (CQ O (M i s) live))
  (z:∀ i s,¬ i<b->WP S c ⟨fun _=>False,fun j e=>j=i0∧Rn e (CQ O (M 0 s) jl),fun _=>False⟩ (CQ O (M i s) live))
  (A:∀ s,k s=some r->n (CQ O (M 0 s) jl)):WP S (.block i0 (.loop live c)) ⟨n,x,t⟩ O:=
 Ug h (p.out o) u w y z A (fun v e hv B=>by cases hv; rw [←g]; exact B)
theorem Z7 {τ:Type} {f:Int->σ->Option (CY σ ρ)} {k:σ->Option (CY τ ρ)} {r:CY τ ρ} {R:ρ->AD->Prop} {M:Int->σ->List (Nat × EV)} (_:HA i0 cnt q i1 M) (h:thenR (forR f lo b s0) k (fun v=>some (.ret v))=some r) (g:∀ s,(O.get s).WF) (o:Bd O q i1 b) (_:c.xl i0=some jl) (p:O.keep live=CQ O (M lo s0) live) (u:∀ i s,(CQ O (M i s) live).get cnt=.tv (.int .i64 i))
  (w:∀ i s r,i<b->f i s=some r->(∀ k,((CQ O (M i s) live).get k).WF)->WP S c ⟨fun e=>∃ s',r=.next s'∧Rn (e.keep live) (CQ O (M (A4 (i+1)) s') live),fun j e=>j=i0∧∃ s',r=.brk s'∧Rn e (CQ O (M 0 s') jl),fun e=>∃ v,r=.ret v∧R v e⟩ (CQ O (M i s) live))
  (y:∀ i s,¬ i<b->WP S c ⟨fun _=>False,fun j e=>j=i0∧Rn e (CQ O (M 0 s) jl),fun _=>False⟩ (CQ O (M i s) live))
  (z:∀ s,k s=some r->n (CQ O (M 0 s) jl)):WP S (.block i0 (.loop live c)) ⟨n,x,fun e=>∃ v,r=.ret v∧R v e⟩ O:=
 Ug h (o.out g) p u w y z (fun v e hv A=>by cases hv; exact ⟨v,rfl,A⟩)
theorem Z6 {f:Int->σ->Option (CY σ ρ)} {M:Int->σ->List (Nat × EV)} (_:HA i0 cnt q i1 M) (h:thenR (forR f lo b s0) k (fun _=>none)=some r) (g:∀ s,(O.get s).WF) (o:Bd O q i1 b) (_:c.xl i0=some jl) (p:O.keep live=CQ O (M lo s0) live) (u:∀ i s,(CQ O (M i s) live).get cnt=.tv (.int .i64 i))
  (w:∀ i s r,i<b->f i s=some r->(∀ k,((CQ O (M i s) live).get k).WF)->WP S c ⟨fun e=>∃ s',r=.next s'∧Rn (e.keep live) (CQ O (M (A4 (i+1)) s') live),fun j e=>j=i0∧∃ s',r=.brk s'∧Rn e (CQ O (M 0 s') jl),fun _=>∃ v,r=.ret v∧False⟩ (CQ O (M i s) live))
  (y:∀ i s,¬ i<b->WP S c ⟨fun _=>False,fun j e=>j=i0∧Rn e (CQ O (M 0 s) jl),fun _=>False⟩ (CQ O (M i s) live))
  (z:∀ s,k s=some r->n (CQ O (M 0 s) jl)):WP S (.block i0 (.loop live c)) ⟨n,x,t⟩ O:=
 Ug (R:=fun _ _=>False) h (o.out g) p u w y z (fun v e hv _=>by cases hv)
theorem Xb {f:σ->Option (CY σ ρ)} {w:ρ->Option β} {R:ρ->AD->Prop} {M:σ->List (Nat × EV)} (h:thenR (It f s0) k w=some r) (y:O.keep live=CQ O (M s0) live)
  (z:∀ s r,f s=some r->(∀ k,((CQ O (M s) live).get k).WF)->WP S c ⟨fun e=>∃ s',r=.next s'∧Rn (e.keep live) (CQ O (M s') live),fun j e=>j=i0∧∃ s',r=.brk s'∧Rn e (CQ O (M s') jl),fun e=>∃ v,r=.ret v∧R v e⟩ (CQ O (M s) live))
  (A:∀ s,k s=some r->n (CQ O (M s) jl)) (B:∀ v e,w v=some r->R v e->t e):WP S (.block i0 (.loop live c)) ⟨n,x,t⟩ O:=by
 obtain ⟨o,ho,h⟩:=UU h;refine kX ho (fun s=>CQ O (M s) live) (fun s=>CQ O (M s) jl) R y (fun s r C D=>⟨PC.wp_mono S c _ _ (z s r C D).out _ (fun e g=>?_) (fun j e g=>?_) (fun _ h=>h)⟩) (fun s E=>A s (Yl h E)) (fun v e hv=>B v e (Ym h hv))
 ·obtain ⟨s',p,u⟩:=g;exact ⟨s',p,u.out⟩
 ·obtain ⟨F,s',p,u⟩:=g;exact ⟨F,s',p,u.out⟩
theorem lJ {f:σ->Option (CY σ β)} {R:β->AD->Prop} {M:σ->List (Nat × EV)} (_:HW i0 M) (_:HR R) (g:R r=t) (h:thenR (It f s0) k (fun v=>some v)=some r) (_:c.xl i0=some jl) (o:O.keep live=CQ O (M s0) live)
  (p:∀ s r,f s=some r->(∀ k,((CQ O (M s) live).get k).WF)->WP S c ⟨fun e=>∃ s',r=.next s'∧Rn (e.keep live) (CQ O (M s') live),fun j e=>j=i0∧∃ s',r=.brk s'∧Rn e (CQ O (M s') jl),fun e=>∃ v,r=.ret v∧R v e⟩ (CQ O (M s) live))
  (u:∀ s,k s=some r->n (CQ O (M s) jl)):WP S (.block i0 (.loop live c)) ⟨n,x,t⟩ O:=
 Xb h o p u (fun v e hv w=>by cases hv; rw [←g]; exact w)
theorem lH {τ:Type} {f:σ->Option (CY σ ρ)} {k:σ->Option (CY τ ρ)} {r:CY τ ρ} {R:ρ->AD->Prop} {M:σ->List (Nat × EV)} (_:HW i0 M) (h:thenR (It f s0) k (fun v=>some (.ret v))=some r) (_:c.xl i0=some jl) (g:O.keep live=CQ O (M s0) live)
  (o:∀ s r,f s=some r->(∀ k,((CQ O (M s) live).get k).WF)->WP S c ⟨fun e=>∃ s',r=.next s'∧Rn (e.keep live) (CQ O (M s') live),fun j e=>j=i0∧∃ s',r=.brk s'∧Rn e (CQ O (M s') jl),fun e=>∃ v,r=.ret v∧R v e⟩ (CQ O (M s) live))
  (p:∀ s,k s=some r->n (CQ O (M s) jl)):WP S (.block i0 (.loop live c)) ⟨n,x,fun e=>∃ v,r=.ret v∧R v e⟩ O:=
 Xb h g o p (fun v e hv u=>by cases hv; exact ⟨v,rfl,u⟩)
theorem lG {f:σ->Option (CY σ ρ)} {M:σ->List (Nat × EV)} (_:HW i0 M) (h:thenR (It f s0) k (fun _=>none)=some r) (_:c.xl i0=some jl) (g:O.keep live=CQ O (M s0) live)
  (o:∀ s r,f s=some r->(∀ k,((CQ O (M s) live).get k).WF)->WP S c ⟨fun e=>∃ s',r=.next s'∧Rn (e.keep live) (CQ O (M s') live),fun j e=>j=i0∧∃ s',r=.brk s'∧Rn e (CQ O (M s') jl),fun _=>∃ v,r=.ret v∧False⟩ (CQ O (M s) live))
  (p:∀ s,k s=some r->n (CQ O (M s) jl)):WP S (.block i0 (.loop live c)) ⟨n,x,t⟩ O:=
 Xb (R:=fun _ _=>False) h g o p (fun v e hv _=>by cases hv)
end loops
end
end Go.Sf
