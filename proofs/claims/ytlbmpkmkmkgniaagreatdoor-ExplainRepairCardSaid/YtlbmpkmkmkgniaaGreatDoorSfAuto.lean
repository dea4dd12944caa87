/- Contracts that are found by themselves: rules that take the typed text along, and the script that applies them. -/
import Derived.Test.YtlbmpkmkmkgniaaGreatDoorSfDraw
import Derived.Test.YtlbmpkmkmkgniaaGreatDoorSfStep
set_option linter.all false
namespace Go.Sf
class Ct (P:Program) {α:Type} (x:Option α) (f:outParam FuncId) (ts:outParam QQ) (R:outParam (α->CQ)):Prop where
 snd:∀ r,x=some r->AT P f ts (R r)
class Ml (es:QQ) {α:outParam Type} (e:outParam (α->TV)) (l:outParam (List α)):Prop where
 eq:es=l.map e
class Zb {α:Type} (e:α->TV) where
 un:QQ->α
 dec:∀ a b,∃ i:Decidable (a=b),CY (e a).cells (e b).cells=some (@decide (a=b) i)
class Fz (cs:List AY) (row:outParam QQ):Prop where
 h:cs.map (·.t)=row
instance (priority:=high) {l:QQ}:Fz (l.map fun x=>(⟨false,x⟩:AY)) l:=⟨by rw [List.map_map]; exact List.map_id _⟩
instance (priority:=low) {cs:List AY}:Fz cs (cs.map (·.t)):=⟨rfl⟩
class En (α:Type) (e:outParam (α->TV)):Prop where
class Fl {α:Type} (e:α->TV) (n:outParam Nat) (f:outParam (List α->TV)):Prop where
 eq:∀ l,f l=.list n (l.map e)
structure Kp (O:AD) (l:ci) (r:AD):Prop where
 of::out:O.keep l=r
def N4:List (Nat × EV)->Nat->Option EV
 | [],_=>none
 | (k,e)::r,n=>if k=n then some e else N4 r n
def CO (O:AD) (m:List (Nat × EV)):ci->AD
 | []=>[]
 | s::ss=>(s,(N4 m s).getD (O.get s))::CO O m ss
structure Nm (O:AD) (m:List (Nat × EV)) (l:ci) (r:AD):Prop where
 of::out:CO O m l=r
structure Rn (a b:AD):Prop where
 of::out:a=b
structure HJ {σ:Type} (n:Nat) (M:σ->List (Nat × EV)):Prop where
structure HA {σ:Type} (n cnt q i:Nat) (M:Int->σ->List (Nat × EV)):Prop where
structure HB {σ:Type} (n cnt q i:Nat) (M:Int->σ->List (Nat × EV)):Prop where
theorem HB.a {σ:Type} {n cnt q i:Nat} {M:Int->σ->List (Nat × EV)} (_:HB n cnt q i M):HA n cnt q i M:=⟨⟩
structure HW {σ:Type} (n:Nat) (M:σ->List (Nat × EV)):Prop where
structure HR {β:Type} (R:β->AD->Prop):Prop where
structure HS (n:Nat):Prop where
structure HX {α γ:Type} (n:Nat) (f:α->γ->α):Prop where
structure Zd (g:Nat) (b q:Bool):Prop where
 of::out:q=b
structure Vd (g:Nat) (b q:Bool):Prop where
 of::out:q=!b
def KR (n:AD->Prop) (l:ci):AD->Prop:=fun e=>n (e.keep l)
section
variable {O:AD} {s:Nat} {ss:ci} {r:AD} {m:List (Nat × EV)}
theorem io:Kp O [] []:=⟨rfl⟩
theorem NV {e:EV} (h:O.get s=e) (k:Kp O ss r):Kp O (s::ss) ((s,e)::r):=⟨by rw [←k.out,←h]; rfl⟩
theorem po {t:TV} (h:O.get s=.tv t) (k:Kp O ss r):Kp O (s::ss) ((s,.tv t)::r):=NV h k
theorem pi {t:TV} (h:O.get s=.ow t) (k:Kp O ss r):Kp O (s::ss) ((s,.ow t)::r):=NV h k
theorem pZ {t:List AY} (h:O.get s=.bx t) (k:Kp O ss r):Kp O (s::ss) ((s,.bx t)::r):=NV h k
theorem pY {q o:Nat} (h:O.get s=.bp q o) (k:Kp O ss r):Kp O (s::ss) ((s,.bp q o)::r):=NV h k
theorem pk {t:QQ} (h:O.get s=.tp t) (k:Kp O ss r):Kp O (s::ss) ((s,.tp t)::r):=NV h k
theorem pu (h:O.get s=.undef) (k:Kp O ss r):Kp O (s::ss) ((s,.undef)::r):=NV h k
theorem pv {n:Nat} {t:QQ} (h:O.get s=.xo n t) (k:Kp O ss r):Kp O (s::ss) ((s,.xo n t)::r):=NV h k
theorem pf {q:Nat} {i:Option Nat} (h:O.get s=.la q i) (k:Kp O ss r):Kp O (s::ss) ((s,.la q i)::r):=NV h k
theorem pj (h:O.get s=.sk) (k:Kp O ss r):Kp O (s::ss) ((s,.sk)::r):=NV h k
theorem ip {t:List AY} (h:O.get s=.oag t) (k:Kp O ss r):Kp O (s::ss) ((s,.oag t)::r):=NV h k
theorem ir:Nm O m [] []:=⟨rfl⟩
theorem iq {e:EV} (h:N4 m s=some e) (k:Nm O m ss r):Nm O m (s::ss) ((s,e)::r):=⟨by rw [←k.out]; simp only [CO,h,Option.getD_some]⟩
theorem PG {e:EV} (h:N4 m s=none) (f:O.get s=e) (k:Nm O m ss r):Nm O m (s::ss) ((s,e)::r):=⟨by rw [←k.out]; simp only [CO,h,f,Option.getD_none]⟩
theorem p6 {t:TV} (h:N4 m s=none) (f:O.get s=.tv t) (k:Nm O m ss r):Nm O m (s::ss) ((s,.tv t)::r):=PG h f k
theorem p4 {t:TV} (h:N4 m s=none) (f:O.get s=.ow t) (k:Nm O m ss r):Nm O m (s::ss) ((s,.ow t)::r):=PG h f k
theorem p0 {t:List AY} (h:N4 m s=none) (f:O.get s=.bx t) (k:Nm O m ss r):Nm O m (s::ss) ((s,.bx t)::r):=PG h f k
theorem pz {q o:Nat} (h:N4 m s=none) (f:O.get s=.bp q o) (k:Nm O m ss r):Nm O m (s::ss) ((s,.bp q o)::r):=PG h f k
theorem p5 {t:QQ} (h:N4 m s=none) (f:O.get s=.tp t) (k:Nm O m ss r):Nm O m (s::ss) ((s,.tp t)::r):=PG h f k
theorem p7 (h:N4 m s=none) (f:O.get s=.undef) (k:Nm O m ss r):Nm O m (s::ss) ((s,.undef)::r):=PG h f k
theorem p8 {n:Nat} {t:QQ} (h:N4 m s=none) (f:O.get s=.xo n t) (k:Nm O m ss r):Nm O m (s::ss) ((s,.xo n t)::r):=PG h f k
theorem p3 {q:Nat} {i:Option Nat} (h:N4 m s=none) (f:O.get s=.la q i) (k:Nm O m ss r):Nm O m (s::ss) ((s,.la q i)::r):=PG h f k
end
def PC.xl (i:Nat):PC->Option ci
 | .exit j l=>if j=i then some l else none
 | .seq a b=>match a.xl i with
  | some l=>some l
  | none=>b.xl i
 | .cond _ a b=>match a.xl i with
  | some l=>some l
  | none=>b.xl i
 | .block _ a=>a.xl i
 | .loop _ a=>a.xl i
 | .rls _ a=>a.xl i
 | _=>none
def PC.last:PC->Option ci
 | .region _ l=>some l
 | .draw _ _ l=>some l
 | .skip l=>some l
 | .exit _ l=>some l
 | .seq _ b=>b.last
 | .cond _ a _=>a.last
 | .block i (.loop _ b)=>b.xl i
 | .block _ c=>c.last
 | .rls _ c=>c.last
 | _=>none
section
variable {S:FuncId->QQ->CQ->Prop} {K:AD->Prop} {os:List PR} {O:AD} {d:Nat}
section code
variable {n t:AD->Prop} {x:Nat->AD->Prop} {a b:PC} {l:ci} {env':AD}
theorem kQ (f:Kp O l env') (h:n env'):WO S (KR n l) [] O:=⟨by show n (O.keep l); rw [f.out]; exact h⟩
theorem ki {ops:List PR} (h:WO S (KR n l) ops O):WP S (.region ops l) ⟨n,x,t⟩ O:=⟨h.out⟩
theorem g9 {D:ci} {ops:List PR} (f:Pc O D=true) (h:WO S (KR n l) ops O):WP S (.draw D ops l) ⟨n,x,t⟩ O:=⟨f,h.out⟩
theorem kt (h:WP S a ⟨fun e=>(∀ s,(e.get s).WF)->WP S b ⟨n,x,t⟩ e,x,t⟩ O):WP S (.seq a b) ⟨n,x,t⟩ O:=lr h
theorem iG (f:Kp O l env') (h:n env'):WP S (.skip l) ⟨n,x,t⟩ O:=iR f.out h
theorem km (h:t O):WP S .ret ⟨n,x,t⟩ O:=⟨h⟩
theorem hO {i:Nat} (f:Kp O l env') (h:x i env'):WP S (.exit i l) ⟨n,x,t⟩ O:=iQ f.out h
theorem ko {s:Nat} {cs cs':List AY} {c:PC} {q:Q} (h:O.get s=.bx cs) (f:cs.map AY.rel=cs') (k:WP S c q ((s,.bx cs')::O)):WP S (.rls s c) q O:=by
 refine ⟨?_⟩;subst f;simp only [PC.wp,h]; exact k.out
theorem eT {i:Nat} (h:WP S a ⟨n,fun j e=>if j=i then n e else x j e,t⟩ O):WP S (.block i a) ⟨n,x,t⟩ O:=T7 h
theorem kR {m:List (Nat × EV)} {e:AD} {q:Q} (f:Nm e m l env') (h:WP S a q env'):WP S a q (CO e m l):=by rw [f.out]; exact h
theorem g8 {c:AJ} {β:Type} {q:Bool} {u v:Option β} {r:β} {Q:Q} (f:c.val O=some (.bool q)) (h:(if q=true then u else v)=some r) (g:q=true->u=some r->WP S a Q O) (j:q=false->v=some r->WP S b Q O):WP S (.cond c a b) Q O:=
 S8 f (fun e=>g e (VW e h)) (fun e=>j e (VV e h))
theorem iA {σ β:Type} {i:Nat} {M:σ->List (Nat × EV)} {q:Bool} {u v:Option σ} {k:σ->Option β} {r:β} (g:(AJ.s i).val O=some (.bool q)) (h:((if q=true then u else v).bind k)=some r) (_:HJ i M) (_:(PC.cond (.s i) a b).last=some l)
  (j:∀ w,q=true->u=some w->WP S a ⟨fun e=>Rn e (CO O (M w) l),x,t⟩ O) (o:∀ w,q=false->v=some w->WP S b ⟨fun e=>Rn e (CO O (M w) l),x,t⟩ O) (p:∀ w,k w=some r->n (CO O (M w) l)):WP S (.cond (.s i) a b) ⟨n,x,t⟩ O:=by
 obtain ⟨w,f,h⟩:=bind_some h;refine lq (fun e=>Rn e (CO O (M w) l)) ?_ (fun e y=>by rw [y.out]; exact p w h);exact S8 g (fun e=>j w e (VW e f)) (fun e=>o w e (VV e f))
end code
structure Bd (O:AD) (q i:Nat) (b:Int):Prop where
 of::out:(∀ s,(O.get s).WF)->b<=9223372036854775807
section bounds
variable {q i:Nat} {α:Type} {e:α->TV} {l:List α} {es row:QQ} {n:Nat}
theorem Qr {b:Int} (h:decide (b<=9223372036854775807)=true):Bd O q i b:=⟨fun _=>of_decide_eq_true h⟩
theorem Qw {b:Int}:Bd O q i (A3 b):=⟨fun _=>kI _⟩
theorem Qt (h:O.get q=.tv (.list n es)) (f:es=l.map e):Bd O q i l.length:=⟨fun g=>by have:=g q; rw [h] at this; exact Rl (Vb this) f⟩
theorem Qu (h:O.get q=.ow (.list n es)) (f:es=l.map e):Bd O q i l.length:=⟨fun g=>by have:=g q; rw [h] at this; exact Rl (rI this) f⟩
theorem Qx (h:O.get q=.xo n es) (f:es=l.map e):Bd O q i l.length:=⟨fun g=>by have:=g q; rw [h] at this; exact Rl (rJ this) f⟩
theorem Qv {b:ByteArray} (h:O.get q=.tv (.str b)):Bd O q i b.size:=⟨fun f=>by have:=f q; rw [h] at this; exact gi (Vb this)⟩
theorem Qs {b:Int} (h:O.get q=.tv (.int .i64 b)):Bd O q i b:=⟨fun f=>by have:=f q; rw [h] at this; exact bR (Vb this)⟩
theorem O0 (h:O.get q=.tv (.pt row)) (f:row[i]?=some (.list n es)) (g:es=l.map e):Bd O q i l.length:=⟨fun j=>by have:=j q; rw [h] at this; exact Rl (YS (eQ this) f) g⟩
theorem Oz {b:Int} (h:O.get q=.tv (.pt row)) (f:row[i]?=some (.int .i64 b)):Bd O q i b:=⟨fun g=>by have:=g q; rw [h] at this; exact bR (YS (eQ this) f)⟩
end bounds
section loops
variable {σ β ρ:Type} {n t:AD->Prop} {x:Nat->AD->Prop} {c:PC} {live jl:ci} {i0 cnt q i1:Nat} {lo b:Int} {s0:σ} {r:β} {k:σ->Option β}
theorem kJ {M:Int->σ->List (Nat × EV)} (f:∀ i s,(CO O (M i s) live).get cnt=.tv (.int .i64 i)) {i:Int} {s:σ} (g:∀ k,((CO O (M i s) live).get k).WF) (hi:i<b) (h:b<=9223372036854775807):A3 (i+1)=i+1:=by
 have:=g cnt;rw [f] at this;exact rK (Vb this) hi h
theorem Zg {f:Int->σ->Option σ} {M:Int->σ->List (Nat × EV)} (_:HA i0 cnt q i1 M) (h:(forA f lo b s0).bind k=some r) (g:∀ s,(O.get s).WF) (p:Bd O q i1 b) (_:c.xl i0=some jl) (u:O.keep live=CO O (M lo s0) live) (v:∀ i s,(CO O (M i s) live).get cnt=.tv (.int .i64 i))
  (w:∀ i s r,i<b->f i s=some r->(∀ k,((CO O (M i s) live).get k).WF)->WP S c ⟨fun e=>Rn (e.keep live) (CO O (M (A3 (i+1)) r) live),fun _ _=>False,fun _=>False⟩ (CO O (M i s) live))
  (y:∀ i s,¬ i<b->WP S c ⟨fun _=>False,fun j e=>j=i0∧Rn e (CO O (M 0 s) jl),fun _=>False⟩ (CO O (M i s) live))
  (z:∀ s,k s=some r->n (CO O (M 0 s) jl)):WP S (.block i0 (.loop live c)) ⟨n,x,t⟩ O:=by
 obtain ⟨o,ho,h⟩:=bind_some h;have p:=p.out g;refine gj ho (fun i s=>CO O (M i s) live) (fun s=>CO O (M 0 s) jl) u (fun i s r hi A g=>⟨PC.wp_mono S c _ _ (w i s r hi A g).out _ (fun e B=>?_) (fun _ _ h=>h) (fun _ h=>h)⟩) (fun i s hi=>⟨PC.wp_mono S c _ _ (y i s hi).out _ (fun _ h=>h) (fun j e h=>⟨h.1,h.2.out⟩) (fun _ h=>h)⟩) (z o h);have:=B.out;rw [kJ v g hi p] at this;exact this
theorem UB {f:Int->σ->Option (C2 σ ρ)} {w:ρ->Option β} {R:ρ->AD->Prop} {M:Int->σ->List (Nat × EV)} (h:thenR (forR f lo b s0) k w=some r) (z:b<=9223372036854775807) (A:O.keep live=CO O (M lo s0) live) (B:∀ i s,(CO O (M i s) live).get cnt=.tv (.int .i64 i))
  (C:∀ i s r,i<b->f i s=some r->(∀ k,((CO O (M i s) live).get k).WF)->WP S c ⟨fun e=>∃ s',r=.next s'∧Rn (e.keep live) (CO O (M (A3 (i+1)) s') live),fun j e=>j=i0∧∃ s',r=.brk s'∧Rn e (CO O (M 0 s') jl),fun e=>∃ v,r=.ret v∧R v e⟩ (CO O (M i s) live))
  (D:∀ i s,¬ i<b->WP S c ⟨fun _=>False,fun j e=>j=i0∧Rn e (CO O (M 0 s) jl),fun _=>False⟩ (CO O (M i s) live))
  (E:∀ s,k s=some r->n (CO O (M 0 s) jl)) (F:∀ v e,w v=some r->R v e->t e):WP S (.block i0 (.loop live c)) ⟨n,x,t⟩ O:=by
 obtain ⟨o,ho,h⟩:=Ty h;refine YU ho (fun i s=>CO O (M i s) live) (fun s=>CO O (M 0 s) jl) R A (fun i s r hi G y=>⟨PC.wp_mono S c _ _ (C i s r hi G y).out _ (fun e p=>?_) (fun j e p=>?_) (fun _ h=>h)⟩) (fun i s hi=>⟨PC.wp_mono S c _ _ (D i s hi).out _ (fun _ h=>h) (fun j e h=>⟨h.1,h.2.out⟩) (fun _ h=>h)⟩) (fun s H=>E s (YM h H)) (fun v e hv=>F v e (YN h hv))
 ·obtain ⟨s',u,g⟩:=p;have g:=g.out;rw [kJ B y hi z] at g;exact ⟨s',u,g⟩
 ·obtain ⟨I,s',u,g⟩:=p;exact ⟨I,s',u,g.out⟩
theorem Zj {f:Int->σ->Option (C2 σ β)} {R:β->AD->Prop} {M:Int->σ->List (Nat × EV)} (_:HA i0 cnt q i1 M) (_:HR R) (g:R r=t) (h:thenR (forR f lo b s0) k (fun v=>some v)=some r) (o:∀ s,(O.get s).WF) (p:Bd O q i1 b) (_:c.xl i0=some jl) (u:O.keep live=CO O (M lo s0) live) (w:∀ i s,(CO O (M i s) live).get cnt=.tv (.int .i64 i))
  (y:∀ i s r,i<b->f i s=some r->(∀ k,((CO O (M i s) live).get k).WF)->WP S c ⟨fun e=>∃ s',r=.next s'∧Rn (e.keep live) (CO O (M (A3 (i+1)) s') live),fun j e=>j=i0∧∃ s',r=.brk s'∧Rn e (CO O (M 0 s') jl),fun e=>∃ v,r=.ret v∧R v e⟩ (CO O (M i s) live))
  (z:∀ i s,¬ i<b->WP S c ⟨fun _=>False,fun j e=>j=i0∧Rn e (CO O (M 0 s) jl),fun _=>False⟩ (CO O (M i s) live))
  (A:∀ s,k s=some r->n (CO O (M 0 s) jl)):WP S (.block i0 (.loop live c)) ⟨n,x,t⟩ O:=
 UB h (p.out o) u w y z A (fun v e hv B=>by cases hv; rw [←g]; exact B)
theorem Zi {τ:Type} {f:Int->σ->Option (C2 σ ρ)} {k:σ->Option (C2 τ ρ)} {r:C2 τ ρ} {R:ρ->AD->Prop} {M:Int->σ->List (Nat × EV)} (_:HA i0 cnt q i1 M) (h:thenR (forR f lo b s0) k (fun v=>some (.ret v))=some r) (g:∀ s,(O.get s).WF) (o:Bd O q i1 b) (_:c.xl i0=some jl) (p:O.keep live=CO O (M lo s0) live) (u:∀ i s,(CO O (M i s) live).get cnt=.tv (.int .i64 i))
  (w:∀ i s r,i<b->f i s=some r->(∀ k,((CO O (M i s) live).get k).WF)->WP S c ⟨fun e=>∃ s',r=.next s'∧Rn (e.keep live) (CO O (M (A3 (i+1)) s') live),fun j e=>j=i0∧∃ s',r=.brk s'∧Rn e (CO O (M 0 s') jl),fun e=>∃ v,r=.ret v∧R v e⟩ (CO O (M i s) live))
  (y:∀ i s,¬ i<b->WP S c ⟨fun _=>False,fun j e=>j=i0∧Rn e (CO O (M 0 s) jl),fun _=>False⟩ (CO O (M i s) live))
  (z:∀ s,k s=some r->n (CO O (M 0 s) jl)):WP S (.block i0 (.loop live c)) ⟨n,x,fun e=>∃ v,r=.ret v∧R v e⟩ O:=
 UB h (o.out g) p u w y z (fun v e hv A=>by cases hv; exact ⟨v,rfl,A⟩)
theorem Zh {f:Int->σ->Option (C2 σ ρ)} {M:Int->σ->List (Nat × EV)} (_:HA i0 cnt q i1 M) (h:thenR (forR f lo b s0) k (fun _=>none)=some r) (g:∀ s,(O.get s).WF) (o:Bd O q i1 b) (_:c.xl i0=some jl) (p:O.keep live=CO O (M lo s0) live) (u:∀ i s,(CO O (M i s) live).get cnt=.tv (.int .i64 i))
  (w:∀ i s r,i<b->f i s=some r->(∀ k,((CO O (M i s) live).get k).WF)->WP S c ⟨fun e=>∃ s',r=.next s'∧Rn (e.keep live) (CO O (M (A3 (i+1)) s') live),fun j e=>j=i0∧∃ s',r=.brk s'∧Rn e (CO O (M 0 s') jl),fun _=>∃ v,r=.ret v∧False⟩ (CO O (M i s) live))
  (y:∀ i s,¬ i<b->WP S c ⟨fun _=>False,fun j e=>j=i0∧Rn e (CO O (M 0 s) jl),fun _=>False⟩ (CO O (M i s) live))
  (z:∀ s,k s=some r->n (CO O (M 0 s) jl)):WP S (.block i0 (.loop live c)) ⟨n,x,t⟩ O:=
 UB (R:=fun _ _=>False) h (o.out g) p u w y z (fun v e hv _=>by cases hv)
theorem XB {f:σ->Option (C2 σ ρ)} {w:ρ->Option β} {R:ρ->AD->Prop} {M:σ->List (Nat × EV)} (h:thenR (Iw f s0) k w=some r) (y:O.keep live=CO O (M s0) live)
  (z:∀ s r,f s=some r->(∀ k,((CO O (M s) live).get k).WF)->WP S c ⟨fun e=>∃ s',r=.next s'∧Rn (e.keep live) (CO O (M s') live),fun j e=>j=i0∧∃ s',r=.brk s'∧Rn e (CO O (M s') jl),fun e=>∃ v,r=.ret v∧R v e⟩ (CO O (M s) live))
  (A:∀ s,k s=some r->n (CO O (M s) jl)) (B:∀ v e,w v=some r->R v e->t e):WP S (.block i0 (.loop live c)) ⟨n,x,t⟩ O:=by
 obtain ⟨o,ho,h⟩:=Ty h;refine kL ho (fun s=>CO O (M s) live) (fun s=>CO O (M s) jl) R y (fun s r C D=>⟨PC.wp_mono S c _ _ (z s r C D).out _ (fun e g=>?_) (fun j e g=>?_) (fun _ h=>h)⟩) (fun s E=>A s (YM h E)) (fun v e hv=>B v e (YN h hv))
 ·obtain ⟨s',p,u⟩:=g;exact ⟨s',p,u.out⟩
 ·obtain ⟨F,s',p,u⟩:=g;exact ⟨F,s',p,u.out⟩
theorem kx {f:σ->Option (C2 σ β)} {R:β->AD->Prop} {M:σ->List (Nat × EV)} (_:HW i0 M) (_:HR R) (g:R r=t) (h:thenR (Iw f s0) k (fun v=>some v)=some r) (_:c.xl i0=some jl) (o:O.keep live=CO O (M s0) live)
  (p:∀ s r,f s=some r->(∀ k,((CO O (M s) live).get k).WF)->WP S c ⟨fun e=>∃ s',r=.next s'∧Rn (e.keep live) (CO O (M s') live),fun j e=>j=i0∧∃ s',r=.brk s'∧Rn e (CO O (M s') jl),fun e=>∃ v,r=.ret v∧R v e⟩ (CO O (M s) live))
  (u:∀ s,k s=some r->n (CO O (M s) jl)):WP S (.block i0 (.loop live c)) ⟨n,x,t⟩ O:=
 XB h o p u (fun v e hv w=>by cases hv; rw [←g]; exact w)
theorem kw {τ:Type} {f:σ->Option (C2 σ ρ)} {k:σ->Option (C2 τ ρ)} {r:C2 τ ρ} {R:ρ->AD->Prop} {M:σ->List (Nat × EV)} (_:HW i0 M) (h:thenR (Iw f s0) k (fun v=>some (.ret v))=some r) (_:c.xl i0=some jl) (g:O.keep live=CO O (M s0) live)
  (o:∀ s r,f s=some r->(∀ k,((CO O (M s) live).get k).WF)->WP S c ⟨fun e=>∃ s',r=.next s'∧Rn (e.keep live) (CO O (M s') live),fun j e=>j=i0∧∃ s',r=.brk s'∧Rn e (CO O (M s') jl),fun e=>∃ v,r=.ret v∧R v e⟩ (CO O (M s) live))
  (p:∀ s,k s=some r->n (CO O (M s) jl)):WP S (.block i0 (.loop live c)) ⟨n,x,fun e=>∃ v,r=.ret v∧R v e⟩ O:=
 XB h g o p (fun v e hv u=>by cases hv; exact ⟨v,rfl,u⟩)
theorem kv {f:σ->Option (C2 σ ρ)} {M:σ->List (Nat × EV)} (_:HW i0 M) (h:thenR (Iw f s0) k (fun _=>none)=some r) (_:c.xl i0=some jl) (g:O.keep live=CO O (M s0) live)
  (o:∀ s r,f s=some r->(∀ k,((CO O (M s) live).get k).WF)->WP S c ⟨fun e=>∃ s',r=.next s'∧Rn (e.keep live) (CO O (M s') live),fun j e=>j=i0∧∃ s',r=.brk s'∧Rn e (CO O (M s') jl),fun _=>∃ v,r=.ret v∧False⟩ (CO O (M s) live))
  (p:∀ s,k s=some r->n (CO O (M s) jl)):WP S (.block i0 (.loop live c)) ⟨n,x,t⟩ O:=
 XB (R:=fun _ _=>False) h g o p (fun v e hv _=>by cases hv)
end loops
end
end Go.Sf
