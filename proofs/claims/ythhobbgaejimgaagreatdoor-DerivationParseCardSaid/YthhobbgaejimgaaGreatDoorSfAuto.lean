/- Contracts that are found by themselves: rules that take the typed text along, and the script that applies them. -/
import Derived.Test.YthhobbgaejimgaaGreatDoorSfK
import Derived.Test.YthhobbgaejimgaaGreatDoorSfStep
import Derived.Test.YthhobbgaejimgaaGreatDoorSfLib
set_option linter.all false
namespace Go.Sf
class Ct(P:Program){α:Type}(x:Option α)(f:outParam FuncId)(ts:outParam D2)(R:outParam (α->Ah)):Prop where
 snd:∀r,x=some r->AI P f ts (R r)
class Ml(es:D2){α:outParam Type}(e:outParam (α->TV))(l:outParam (List α)):Prop where
 eq:es=l.map e
class Vc{α:Type}(e:α->TV)where
 un:D2->α
 dec:∀a b,∃i:Decidable (a=b),BZ (e a).cells (e b).cells=some (@decide (a=b) i)
class Fz(cs:List AJ)(row:outParam D2):Prop where
 h:cs.map (·.t)=row
instance(priority:=high){l:D2}:Fz (l.map fun x=>(⟨false,x⟩:AJ)) l:=⟨by rw[List.map_map];exact List.map_id _⟩
instance(priority:=low){cs:List AJ}:Fz cs (cs.map (·.t)):=⟨rfl⟩
class En(α:Type)(e:outParam (α->TV)):Prop where
class Fl{α:Type}(e:α->TV)(n:outParam Nat)(f:outParam (List α->TV)):Prop where
 eq:∀l,f l=.list n (l.map e)
structure Kp(O:AA)(l:Fq)(r:AA):Prop where
 of::out:O.kq l=r
def look:List (Nat×EV)->Nat->Option EV
 |[],_=>none|(k,e)::r,n=>if k=n then some e else look r n
def rm(O:AA)(m:List (Nat×EV)):Fq->AA
 |[]=>[]|s::ss=>(s,(look m s).getD (O.get s))::rm O m ss
structure Nm(O:AA)(m:List (Nat×EV))(l:Fq)(r:AA):Prop where
 of::out:rm O m l=r
structure Rn(a b:AA):Prop where
 of::out:a=b
structure HJ{σ:Type}(n:Nat)(M:σ->List (Nat×EV)):Prop where
structure HA{σ:Type}(n Eu q i:Nat)(M:Int->σ->List (Nat×EV)):Prop where
structure HB{σ:Type}(n Eu q i:Nat)(M:Int->σ->List (Nat×EV)):Prop where
theorem HB.a{σ:Type}{n Eu q i:Nat}{M:Int->σ->List (Nat×EV)}(_:HB n Eu q i M):HA n Eu q i M:=⟨⟩
structure HW{σ:Type}(n:Nat)(M:σ->List (Nat×EV)):Prop where
structure HR{β:Type}(R:β->AA->Prop):Prop where
structure HS(n:Nat):Prop where
structure HX{α γ:Type}(n:Nat)(f:α->γ->α):Prop where
structure Vf(g:Nat)(b q:Bool):Prop where
 of::out:q=b
structure Rs(g:Nat)(b q:Bool):Prop where
 of::out:q=!b
def KR(n:AA->Prop)(l:Fq):AA->Prop:=fun e=>n (e.kq l)
section
variable{O:AA}{s:Nat}{ss:Fq}{r:AA}{m:List (Nat×EV)}
theorem FX:Kp O [] []:=⟨rfl⟩
theorem Io{e:EV}(h:O.get s=e)(k:Kp O ss r):Kp O (s::ss) ((s,e)::r):=⟨by rw[<-k.out,<-h];rfl⟩
theorem HM{t:TV}(h:O.get s=.tv t)(k:Kp O ss r):Kp O (s::ss) ((s,.tv t)::r):=Io h k
theorem gi{t:TV}(h:O.get s=.ow t)(k:Kp O ss r):Kp O (s::ss) ((s,.ow t)::r):=Io h k
theorem HI{t:List AJ}(h:O.get s=.bx t)(k:Kp O ss r):Kp O (s::ss) ((s,.bx t)::r):=Io h k
theorem gf{q o:Nat}(h:O.get s=.bp q o)(k:Kp O ss r):Kp O (s::ss) ((s,.bp q o)::r):=Io h k
theorem HL{t:D2}(h:O.get s=.tp t)(k:Kp O ss r):Kp O (s::ss) ((s,.tp t)::r):=Io h k
theorem HN(h:O.get s=.undef)(k:Kp O ss r):Kp O (s::ss) ((s,.undef)::r):=Io h k
theorem gk{n:Nat}{t:D2}(h:O.get s=.xo n t)(k:Kp O ss r):Kp O (s::ss) ((s,.xo n t)::r):=Io h k
theorem gh{q:Nat}{i:Option Nat}(h:O.get s=.la q i)(k:Kp O ss r):Kp O (s::ss) ((s,.la q i)::r):=Io h k
theorem gj(h:O.get s=.sk)(k:Kp O ss r):Kp O (s::ss) ((s,.sk)::r):=Io h k
theorem dI{t:List AJ}(h:O.get s=.rT t)(k:Kp O ss r):Kp O (s::ss) ((s,.rT t)::r):=Io h k
theorem dN:Nm O m [] []:=⟨rfl⟩
theorem dM{e:EV}(h:look m s=some e)(k:Nm O m ss r):Nm O m (s::ss) ((s,e)::r):=⟨by rw[<-k.out];simp only[rm,h,Option.getD_some]⟩
theorem KS{e:EV}(h:look m s=none)(o:O.get s=e)(k:Nm O m ss r):Nm O m (s::ss) ((s,e)::r):=⟨by rw[<-k.out];simp only[rm,h,o,Option.getD_none]⟩
theorem hO{t:TV}(h:look m s=none)(o:O.get s=.tv t)(k:Nm O m ss r):Nm O m (s::ss) ((s,.tv t)::r):=KS h o k
theorem g8{t:TV}(h:look m s=none)(o:O.get s=.ow t)(k:Nm O m ss r):Nm O m (s::ss) ((s,.ow t)::r):=KS h o k
theorem gw{t:List AJ}(h:look m s=none)(o:O.get s=.bx t)(k:Nm O m ss r):Nm O m (s::ss) ((s,.bx t)::r):=KS h o k
theorem gv{q o:Nat}(h:look m s=none)(p:O.get s=.bp q o)(k:Nm O m ss r):Nm O m (s::ss) ((s,.bp q o)::r):=KS h p k
theorem g9{t:D2}(h:look m s=none)(o:O.get s=.tp t)(k:Nm O m ss r):Nm O m (s::ss) ((s,.tp t)::r):=KS h o k
theorem hU(h:look m s=none)(o:O.get s=.undef)(k:Nm O m ss r):Nm O m (s::ss) ((s,.undef)::r):=KS h o k
theorem iA{n:Nat}{t:D2}(h:look m s=none)(o:O.get s=.xo n t)(k:Nm O m ss r):Nm O m (s::ss) ((s,.xo n t)::r):=KS h o k
theorem gx{q:Nat}{i:Option Nat}(h:look m s=none)(o:O.get s=.la q i)(k:Nm O m ss r):Nm O m (s::ss) ((s,.la q i)::r):=KS h o k
end
def PC.xl(i:Nat):PC->Option Fq
 |.exit j l=>if j=i then some l else none|.seq a b=>match a.xl i with
  |some l=>some l|none=>b.xl i
 |.cond _ a b=>match a.xl i with
  |some l=>some l|none=>b.xl i
 |.block _ a=>a.xl i|.loop _ a=>a.xl i|.uy _ a=>a.xl i|_=>none
def PC.last:PC->Option Fq
 |.region _ l=>some l|.draw _ _ l=>some l|.skip l=>some l|.exit _ l=>some l|.seq _ b=>b.last|.cond _ a _=>a.last|.block i (.loop _ b)=>b.xl i|.block _ c=>c.last|.uy _ c=>c.last|_=>none
section
variable{S:FuncId->D2->Ah->Prop}{K:AA->Prop}{os:List PR}{O:AA}{d:Nat}
section code
variable{n t:AA->Prop}{x:Nat->AA->Prop}{a b:PC}{l:Fq}{env':AA}
theorem Ib(o:Kp O l env')(h:n env'):WO S (KR n l) [] O:=⟨by show n (O.kq l);rw[o.out];exact h⟩
theorem KL{ops:List PR}(h:WO S (KR n l) ops O):WP S (.region ops l) ⟨n,x,t⟩ O:=⟨h.out⟩
theorem b7{D:Fq}{ops:List PR}(hd:Lk O D=true)(h:WO S (KR n l) ops O):WP S (.draw D ops l) ⟨n,x,t⟩ O:=⟨hd,h.out⟩
theorem HC(h:WP S a ⟨fun e=>(∀s,(e.get s).WF)->WP S b ⟨n,x,t⟩ e,x,t⟩ O):WP S (.seq a b) ⟨n,x,t⟩ O:=gL h
theorem Ru(o:Kp O l env')(h:n env'):WP S (.skip l) ⟨n,x,t⟩ O:=cb o.out h
theorem UK(h:t O):WP S .ret ⟨n,x,t⟩ O:=⟨h⟩
theorem Vi{i:Nat}(o:Kp O l env')(h:x i env'):WP S (.exit i l) ⟨n,x,t⟩ O:=cZ o.out h
theorem fe{s:Nat}{cs cs':List AJ}{c:PC}{q:Q}(h:O.get s=.bx cs)(he:cs.map AJ.rel=cs')(k:WP S c q ((s,.bx cs')::O)):WP S (.uy s c) q O:=by
 refine ⟨?_⟩;subst he;simp only[PC.wp,h];exact k.out
theorem TU{i:Nat}(h:WP S a ⟨n,fun j e=>if j=i then n e else x j e,t⟩ O):WP S (.block i a) ⟨n,x,t⟩ O:=QT h
theorem fN{m:List (Nat×EV)}{e:AA}{q:Q}(he:Nm e m l env')(h:WP S a q env'):WP S a q (rm e m l):=by rw[he.out];exact h
variable{Q:Q}
theorem bz{c:AD}{β:Type}{q:Bool}{u v:Option β}{r:β}(o:c.val O=some (.bool q))(h:(if q=true then u else v)=some r)(p:q=true->u=some r->WP S a Q O)(w:q=false->v=some r->WP S b Q O):WP S (.cond c a b) Q O:=
 Pg o (fun e=>p e (Pz e h)) (fun e=>w e (Py e h))
theorem b9{σ β:Type}{i:Nat}{M:σ->List (Nat×EV)}{q:Bool}{u v:Option σ}{k:σ->Option β}{r:β}(p:(AD.s i).val O=some (.bool q))(h:((if q=true then u else v).bind k)=some r)(_:HJ i M)(_:(PC.cond (.s i) a b).last=some l)
  (A:∀w,q=true->u=some w->WP S a ⟨fun e=>Rn e (rm O (M w) l),x,t⟩ O)(B:∀w,q=false->v=some w->WP S b ⟨fun e=>Rn e (rm O (M w) l),x,t⟩ O)(C:∀w,k w=some r->n (rm O (M w) l)):WP S (.cond (.s i) a b) ⟨n,x,t⟩ O:=by
 obtain ⟨w,o,h⟩:=bind_some h;refine gK (fun e=>Rn e (rm O (M w) l)) ?_ (fun e he=>by rw[he.out];exact C w h);exact Pg p (fun e=>A w e (Pz e o)) (fun e=>B w e (Py e o))
end code
structure Bd(O:AA)(q i:Nat)(b:Int):Prop where
 of::out:(∀s,(O.get s).WF)->b<=9223372036854775807
section bounds
variable{q i:Nat}{α:Type}{e:α->TV}{l:List α}{es row:D2}{n:Nat}
theorem NS{b:Int}(h:decide (b<=9223372036854775807)=true):Bd O q i b:=⟨fun _=>of_decide_eq_true h⟩
theorem NY{b:Int}:Bd O q i (AT b):=⟨fun _=>fC _⟩
theorem NV(h:O.get q=.tv (.list n es))(he:es=l.map e):Bd O q i l.length:=⟨fun o=>by have:=o q;rw[h]at this;exact Oh (Rm this) he⟩
theorem NW(h:O.get q=.ow (.list n es))(he:es=l.map e):Bd O q i l.length:=⟨fun o=>by have:=o q;rw[h]at this;exact Oh (jU this) he⟩
theorem NZ(h:O.get q=.xo n es)(he:es=l.map e):Bd O q i l.length:=⟨fun o=>by have:=o q;rw[h]at this;exact Oh (jV this) he⟩
theorem NX{b:ByteArray}(h:O.get q=.tv (.str b)):Bd O q i b.size:=⟨fun o=>by have:=o q;rw[h]at this;exact bU (Rm this)⟩
theorem NU{b:Int}(h:O.get q=.tv (.int .i64 b)):Bd O q i b:=⟨fun o=>by have:=o q;rw[h]at this;exact W7 (Rm this)⟩
theorem K9(h:O.get q=.tv (.pt row))(o:row[i]?=some (.list n es))(he:es=l.map e):Bd O q i l.length:=⟨fun p=>by have:=p q;rw[h]at this;exact Oh (UD (Zf this) o) he⟩
theorem K8{b:Int}(h:O.get q=.tv (.pt row))(o:row[i]?=some (.int .i64 b)):Bd O q i b:=⟨fun p=>by have:=p q;rw[h]at this;exact W7 (UD (Zf this) o)⟩
end bounds
section loops
variable{σ β ρ:Type}{n t:AA->Prop}{x:Nat->AA->Prop}{c:PC}{live jl:Fq}{i0 Eu q i1:Nat}{lo b:Int}{s0:σ}{r:β}{k:σ->Option β}
variable{M:Int->σ->List (Nat×EV)}
theorem fD(h:∀i s,(rm O (M i s) live).get Eu=.tv (.int .i64 i)){i:Int}{s:σ}(o:∀k,((rm O (M i s) live).get k).WF)(hi:i<b)(p:b<=9223372036854775807):AT (i+1)=i+1:=by
 have:=o Eu;rw[h]at this;exact jW (Rm this) hi p
theorem Vj{f:Int->σ->Option σ}(_:HA i0 Eu q i1 M)(h:(rl f lo b s0).bind k=some r)(p:∀s,(O.get s).WF)(u:Bd O q i1 b)(_:c.xl i0=some jl)(w:O.kq live=rm O (M lo s0) live)(A:∀i s,(rm O (M i s) live).get Eu=.tv (.int .i64 i))
  (B:∀i s r,i<b->f i s=some r->(∀k,((rm O (M i s) live).get k).WF)->WP S c ⟨fun e=>Rn (e.kq live) (rm O (M (AT (i+1)) r) live),fun _ _=>False,fun _=>False⟩ (rm O (M i s) live))
  (C:∀i s,¬i<b->WP S c ⟨fun _=>False,fun j e=>j=i0/\Rn e (rm O (M 0 s) jl),fun _=>False⟩ (rm O (M i s) live))
  (D:∀s,k s=some r->n (rm O (M 0 s) jl)):WP S (.block i0 (.loop live c)) ⟨n,x,t⟩ O:=by
 obtain ⟨o,ho,h⟩:=bind_some h;have u:=u.out p;refine bV ho (fun i s=>rm O (M i s) live) (fun s=>rm O (M 0 s) jl) w (fun i s r hi hf p=>⟨PC.pc S c _ _ (B i s r hi hf p).out _ (fun e he=>?_) (fun _ _ h=>h) (fun _ h=>h)⟩) (fun i s hi=>⟨PC.pc S c _ _ (C i s hi).out _ (fun _ h=>h) (fun j e h=>⟨h.1,h.2.out⟩) (fun _ h=>h)⟩) (D o h);have:=he.out;rw[fD A p hi u]at this;exact this
variable{kr:ρ->Option β}
theorem Qa{f:Int->σ->Option (Bk σ ρ)}{R:ρ->AA->Prop}(h:hV (pq f lo b s0) k kr=some r)(w:b<=9223372036854775807)(A:O.kq live=rm O (M lo s0) live)(B:∀i s,(rm O (M i s) live).get Eu=.tv (.int .i64 i))
  (C:∀i s r,i<b->f i s=some r->(∀k,((rm O (M i s) live).get k).WF)->WP S c ⟨fun e=>∃s',r=.next s'/\Rn (e.kq live) (rm O (M (AT (i+1)) s') live),fun j e=>j=i0/\∃s',r=.brk s'/\Rn e (rm O (M 0 s') jl),fun e=>∃v,r=.ret v/\R v e⟩ (rm O (M i s) live))
  (D:∀i s,¬i<b->WP S c ⟨fun _=>False,fun j e=>j=i0/\Rn e (rm O (M 0 s) jl),fun _=>False⟩ (rm O (M i s) live))
  (E:∀s,k s=some r->n (rm O (M 0 s) jl))(F:∀v e,kr v=some r->R v e->t e):WP S (.block i0 (.loop live c)) ⟨n,x,t⟩ O:=by
 obtain ⟨o,ho,h⟩:=QP h;refine UG ho (fun i s=>rm O (M i s) live) (fun s=>rm O (M 0 s) jl) R A (fun i s r hi hf u=>⟨PC.pc S c _ _ (C i s r hi hf u).out _ (fun e he=>?_) (fun j e he=>?_) (fun _ h=>h)⟩) (fun i s hi=>⟨PC.pc S c _ _ (D i s hi).out _ (fun _ h=>h) (fun j e h=>⟨h.1,h.2.out⟩) (fun _ h=>h)⟩) (fun s G=>E s (T7 h G)) (fun v e hv=>F v e (T8 h hv))
 .obtain⟨s',p,e2⟩:=he;have e2:=e2.out;rw[fD B u hi w]at e2;exact⟨s',p,e2⟩
 .obtain⟨H,s',p,e2⟩:=he;exact⟨H,s',p,e2.out⟩
theorem Vm{f:Int->σ->Option (Bk σ β)}{R:β->AA->Prop}(_:HA i0 Eu q i1 M)(_:HR R)(o:R r=t)(h:hV (pq f lo b s0) k (fun v=>some v)=some r)(p:∀s,(O.get s).WF)(u:Bd O q i1 b)(_:c.xl i0=some jl)(w:O.kq live=rm O (M lo s0) live)(A:∀i s,(rm O (M i s) live).get Eu=.tv (.int .i64 i))
  (B:∀i s r,i<b->f i s=some r->(∀k,((rm O (M i s) live).get k).WF)->WP S c ⟨fun e=>∃s',r=.next s'/\Rn (e.kq live) (rm O (M (AT (i+1)) s') live),fun j e=>j=i0/\∃s',r=.brk s'/\Rn e (rm O (M 0 s') jl),fun e=>∃v,r=.ret v/\R v e⟩ (rm O (M i s) live))
  (C:∀i s,¬i<b->WP S c ⟨fun _=>False,fun j e=>j=i0/\Rn e (rm O (M 0 s) jl),fun _=>False⟩ (rm O (M i s) live))
  (D:∀s,k s=some r->n (rm O (M 0 s) jl)):WP S (.block i0 (.loop live c)) ⟨n,x,t⟩ O:=
 Qa h (u.out p) w A B C D (fun v e hv E=>by cases hv;rw[<-o];exact E)
variable{τ:Type}
theorem Vl{f:Int->σ->Option (Bk σ ρ)}{k:σ->Option (Bk τ ρ)}{r:Bk τ ρ}{R:ρ->AA->Prop}(_:HA i0 Eu q i1 M)(h:hV (pq f lo b s0) k (fun v=>some (.ret v))=some r)(o:∀s,(O.get s).WF)(p:Bd O q i1 b)(_:c.xl i0=some jl)(u:O.kq live=rm O (M lo s0) live)(w:∀i s,(rm O (M i s) live).get Eu=.tv (.int .i64 i))
  (A:∀i s r,i<b->f i s=some r->(∀k,((rm O (M i s) live).get k).WF)->WP S c ⟨fun e=>∃s',r=.next s'/\Rn (e.kq live) (rm O (M (AT (i+1)) s') live),fun j e=>j=i0/\∃s',r=.brk s'/\Rn e (rm O (M 0 s') jl),fun e=>∃v,r=.ret v/\R v e⟩ (rm O (M i s) live))
  (B:∀i s,¬i<b->WP S c ⟨fun _=>False,fun j e=>j=i0/\Rn e (rm O (M 0 s) jl),fun _=>False⟩ (rm O (M i s) live))
  (C:∀s,k s=some r->n (rm O (M 0 s) jl)):WP S (.block i0 (.loop live c)) ⟨n,x,fun e=>∃v,r=.ret v/\R v e⟩ O:=
 Qa h (p.out o) u w A B C (fun v e hv D=>by cases hv;exact⟨v,rfl,D⟩)
theorem Vk{f:Int->σ->Option (Bk σ ρ)}(_:HA i0 Eu q i1 M)(h:hV (pq f lo b s0) k (fun _=>none)=some r)(o:∀s,(O.get s).WF)(p:Bd O q i1 b)(_:c.xl i0=some jl)(u:O.kq live=rm O (M lo s0) live)(w:∀i s,(rm O (M i s) live).get Eu=.tv (.int .i64 i))
  (A:∀i s r,i<b->f i s=some r->(∀k,((rm O (M i s) live).get k).WF)->WP S c ⟨fun e=>∃s',r=.next s'/\Rn (e.kq live) (rm O (M (AT (i+1)) s') live),fun j e=>j=i0/\∃s',r=.brk s'/\Rn e (rm O (M 0 s') jl),fun _=>∃v,r=.ret v/\False⟩ (rm O (M i s) live))
  (B:∀i s,¬i<b->WP S c ⟨fun _=>False,fun j e=>j=i0/\Rn e (rm O (M 0 s) jl),fun _=>False⟩ (rm O (M i s) live))
  (C:∀s,k s=some r->n (rm O (M 0 s) jl)):WP S (.block i0 (.loop live c)) ⟨n,x,t⟩ O:=
 Qa (R:=fun _ _=>False) h (p.out o) u w A B C (fun v e hv _=>by cases hv)
theorem Sw{f:σ->Option (Bk σ ρ)}{R:ρ->AA->Prop}{M:σ->List (Nat×EV)}(h:hV (Dy f s0) k kr=some r)(u:O.kq live=rm O (M s0) live)
  (w:∀s r,f s=some r->(∀k,((rm O (M s) live).get k).WF)->WP S c ⟨fun e=>∃s',r=.next s'/\Rn (e.kq live) (rm O (M s') live),fun j e=>j=i0/\∃s',r=.brk s'/\Rn e (rm O (M s') jl),fun e=>∃v,r=.ret v/\R v e⟩ (rm O (M s) live))
  (A:∀s,k s=some r->n (rm O (M s) jl))(B:∀v e,kr v=some r->R v e->t e):WP S (.block i0 (.loop live c)) ⟨n,x,t⟩ O:=by
 obtain ⟨o,ho,h⟩:=QP h;refine fH ho (fun s=>rm O (M s) live) (fun s=>rm O (M s) jl) R u (fun s r hf C=>⟨PC.pc S c _ _ (w s r hf C).out _ (fun e he=>?_) (fun j e he=>?_) (fun _ h=>h)⟩) (fun s D=>A s (T7 h D)) (fun v e hv=>B v e (T8 h hv))
 .obtain⟨s',p,e2⟩:=he;exact⟨s',p,e2.out⟩
 .obtain⟨E,s',p,e2⟩:=he;exact⟨E,s',p,e2.out⟩
theorem fk{f:σ->Option (Bk σ β)}{R:β->AA->Prop}{M:σ->List (Nat×EV)}(_:HW i0 M)(_:HR R)(o:R r=t)(h:hV (Dy f s0) k (fun v=>some v)=some r)(_:c.xl i0=some jl)(p:O.kq live=rm O (M s0) live)
  (u:∀s r,f s=some r->(∀k,((rm O (M s) live).get k).WF)->WP S c ⟨fun e=>∃s',r=.next s'/\Rn (e.kq live) (rm O (M s') live),fun j e=>j=i0/\∃s',r=.brk s'/\Rn e (rm O (M s') jl),fun e=>∃v,r=.ret v/\R v e⟩ (rm O (M s) live))
  (w:∀s,k s=some r->n (rm O (M s) jl)):WP S (.block i0 (.loop live c)) ⟨n,x,t⟩ O:=
 Sw h p u w (fun v e hv A=>by cases hv;rw[<-o];exact A)
theorem fj{f:σ->Option (Bk σ ρ)}{k:σ->Option (Bk τ ρ)}{r:Bk τ ρ}{R:ρ->AA->Prop}{M:σ->List (Nat×EV)}(_:HW i0 M)(h:hV (Dy f s0) k (fun v=>some (.ret v))=some r)(_:c.xl i0=some jl)(o:O.kq live=rm O (M s0) live)
  (p:∀s r,f s=some r->(∀k,((rm O (M s) live).get k).WF)->WP S c ⟨fun e=>∃s',r=.next s'/\Rn (e.kq live) (rm O (M s') live),fun j e=>j=i0/\∃s',r=.brk s'/\Rn e (rm O (M s') jl),fun e=>∃v,r=.ret v/\R v e⟩ (rm O (M s) live))
  (u:∀s,k s=some r->n (rm O (M s) jl)):WP S (.block i0 (.loop live c)) ⟨n,x,fun e=>∃v,r=.ret v/\R v e⟩ O:=
 Sw h o p u (fun v e hv w=>by cases hv;exact⟨v,rfl,w⟩)
theorem fi{f:σ->Option (Bk σ ρ)}{M:σ->List (Nat×EV)}(_:HW i0 M)(h:hV (Dy f s0) k (fun _=>none)=some r)(_:c.xl i0=some jl)(o:O.kq live=rm O (M s0) live)
  (p:∀s r,f s=some r->(∀k,((rm O (M s) live).get k).WF)->WP S c ⟨fun e=>∃s',r=.next s'/\Rn (e.kq live) (rm O (M s') live),fun j e=>j=i0/\∃s',r=.brk s'/\Rn e (rm O (M s') jl),fun _=>∃v,r=.ret v/\False⟩ (rm O (M s) live))
  (u:∀s,k s=some r->n (rm O (M s) jl)):WP S (.block i0 (.loop live c)) ⟨n,x,t⟩ O:=
 Sw (R:=fun _ _=>False) h o p u (fun v e hv _=>by cases hv)
end loops
end
end Go.Sf
namespace Go.Sf
section
variable{P:Program}{S:FuncId->D2->Ah->Prop}{K:AA->Prop}{os:List PR}{O:AA}{d:Nat}{α β:Type}{k:α->Option β}{r:β}
variable{j:Int}
theorem fT{n:Nat}{x i:AD}{es:D2}{e:α->TV}{l:List α}{ik:IntKind}(h:(idx l j).bind k=some r)(p:x.val O=some (.list n es))(hi:i.val O=some (.int ik j))(he:es=l.map e)
  (u:∀a,idx l j=some a->k a=some r->WO S K os ((d,.tv (.pt (e a).cells))::O)):WO S K (⟨some d,.tH x i n,none⟩::os) O:=by
 obtain ⟨a,o,h⟩:=bind_some h;exact iY p hi he o rfl (u a o h)
variable{ka kb:IntKind}
theorem fg{β:Type}{γ:Type}{k:List γ->Option β}{r:β}{n:Nat}{x:AD}{lo hi:Option AD}{es:D2}{e:γ->TV}{l:List γ}{a b:Int}(h:(sM l a b).bind k=some r)(w:x.val O=some (.list n es))(he:es=l.map e)(o:Df O 0 lo=some (.int ka a))(p:Df O l.length hi=some (.int kb b))
  (A:∀m,sM l a b=some m->k m=some r->WO S K os ((d,.tv (.list n (m.map e)))::O)):WO S K (⟨some d,.sM n x lo hi,none⟩::os) O:=by
 obtain ⟨m,u,h⟩:=bind_some h;exact jJ w he o p u (A m u h)
theorem cH{k:ByteArray->Option β}{x:AD}{lo hi:Option AD}{s:ByteArray}{a b:Int}(h:(rB s a b).bind k=some r)(w:x.val O=some (.str s))(o:Df O 0 lo=some (.int ka a))(p:Df O s.size hi=some (.int kb b))
  (A:∀m,rB s a b=some m->k m=some r->WO S K os ((d,.tv (.str m))::O)):WO S K (⟨some d,.rB x lo hi,none⟩::os) O:=by
 obtain ⟨m,u,h⟩:=bind_some h;exact ea w o p u (A m u h)
theorem cG{k:Int->Option β}{x i:AD}{s:ByteArray}{ik:IntKind}(h:(rx s j).bind k=some r)(p:x.val O=some (.str s))(hi:i.val O=some (.int ik j))
  (u:∀b,rx s j=some b->k b=some r->WO S K os ((d,.tv (.int .u8 b))::O)):WO S K (⟨some d,.rx x i,none⟩::os) O:=by
 obtain ⟨b,o,h⟩:=bind_some h;exact eX p hi o (u b o h)
theorem fK{γ:Type}{k:List γ->Option β}{n s:Nat}{y:AD}{es fs:D2}{e:γ->TV}{l m:List γ}(h:(Aj l m).bind k=some r)(p:O.get s=.ow (.list n es))(u:y.val O=some (.list n fs))(he:es=l.map e)(hf:fs=m.map e)
  (w:∀x,Aj l m=some x->k x=some r->WO S K os ((d,.ow (.list n (x.map e)))::(s,.tv (.list n es))::O)):WO S K (⟨some d,.app n (.s s) y,none⟩::os) O:=by
 obtain ⟨x,o,h⟩:=bind_some h;exact ZO p u he hf o rfl (w x o h)
theorem bj{γ:Type}{k:List γ->Option β}{n s:Nat}{y:AD}{es fs:D2}{e:γ->TV}{l m:List γ}{f:List γ->TV}(h:(Aj l m).bind k=some r)(p:O.get s=.ow (.list n es))(u:y.val O=some (.list n fs))(he:es=l.map e)(hf:fs=m.map e)(c:Fl e n f)
  (w:∀x,Aj l m=some x->k x=some r->WO S K os ((d,.ow (f x))::(s,.tv (.list n es))::O)):WO S K (⟨some d,.app n (.s s) y,none⟩::os) O:=by
 obtain ⟨x,o,h⟩:=bind_some h;have:=w x o h;rw[c.eq]at this;exact ZO p u he hf o rfl this
theorem bl{γ:Type}{k:List γ->Option β}{n s:Nat}{y:AD}{es fs:D2}{e:γ->TV}{l m:List γ}(h:(Aj l m).bind k=some r)(p:O.get s=.xo n es)(u:y.val O=some (.list n fs))(he:es=l.map e)(hf:fs=m.map e)(w:O.gt d=true)(hd:d≠s)
  (A:∀x,Aj l m=some x->k x=some r->WO S K os ((d,.xo n (x.map e))::(s,.undef)::O)):WO S K (⟨some d,.sW n s y,none⟩::os) O:=by
 obtain ⟨x,o,h⟩:=bind_some h;exact d7 p u he hf o rfl w hd (A x o h)
theorem bn{γ:Type}{k:List γ->Option β}{n s:Nat}{o:TV}{x:AD}{es:D2}{e:γ->TV}{z:γ}{l:List γ}{ik:IntKind}(h:(Rw l j z).bind k=some r)(w:O.get s=.xo n es)(A:x.val O=some (.int ik j))(he:es=l.map e)(B:o=e z)(C:O.gt d=true)(hd:d≠s)(p:n=1)(D:o.cells=[o])
  (E:∀m,Rw l j z=some m->k m=some r->WO S K os ((d,.xo n (m.map e))::(s,.undef)::O)):WO S K (⟨some d,.s9 n s o x,none⟩::os) O:=by
 obtain ⟨m,u,h⟩:=bind_some h;exact d8 w A he B u rfl C hd p D (E m u h)
theorem fM{γ:Type}{k:List γ->Option β}{n s:Nat}{hi:AD}{es:D2}{e:γ->TV}{l:List γ}{ik:IntKind}(h:(sM l 0 j).bind k=some r)(p:O.get s=.xo n es)(u:hi.val O=some (.int ik j))(he:es=l.map e)(w:O.gt d=true)(hd:d≠s)
  (A:∀m,sM l 0 j=some m->k m=some r->WO S K os ((d,.xo n (m.map e))::(s,.undef)::O)):WO S K (⟨some d,.cut n s hi,none⟩::os) O:=by
 obtain ⟨m,o,h⟩:=bind_some h;exact iR p u he o rfl w hd (A m o h)
variable{zero:D2}
theorem fY{γ:Type}{k:List γ->Option β}{n:Nat}{x:AD}{ik:IntKind}{e:γ->TV}{z:γ}(h:(Mr j z).bind k=some r)(p:O.gt d=true)(u:x.val O=some (.int ik j))(w:(match zero with|[t]=>t|ts=>.agg ts)=e z)
  (A:∀m,Mr j z=some m->k m=some r->WO S K os ((d,.xo n (m.map e))::O)):WO S K (⟨some d,.tR n zero x,none⟩::os) O:=by
 obtain ⟨m,o,h⟩:=bind_some h;exact iu p u w o rfl (A m o h)
variable{qi:Option Nat}
theorem fl{x i:AD}{q n:Nat}{es:D2}{e:α->TV}{l:List α}{ik:IntKind}(h:(idx l j).bind k=some r)(p:x.rq O=some ((q,qi),n,es))(hi:i.val O=some (.int ik j))(he:es=l.map e)(u:(x.ev O).rz=some q)
  (w:∀a,idx l j=some a->k a=some r->WO S K os ((d,.lp q qi (j.toNat*n))::O)):WO S K (⟨some d,.uE x i n,none⟩::os) O:=by
 obtain ⟨a,o,h⟩:=bind_some h;exact jR p hi he o u (w a o h)
section ints
variable{k:Int->Option β}{x y:AD}{ik:IntKind}{a b:Int}
theorem fb(h:(quo a b).bind k=some r)(p:x.val O=some (.int ik a))(u:y.val O=some (.int ik b))(w:∀q,quo a b=some q->k q=some r->WO S K os ((d,.tv (.int ik (ik.wrap q)))::O)):WO S K (⟨some d,.bin .i .quo x y,none⟩::os) O:=by
 obtain ⟨m,o,h⟩:=bind_some h;exact jG p u o (w m o h)
theorem fc(h:(Tz a b).bind k=some r)(p:x.val O=some (.int ik a))(u:y.val O=some (.int ik b))(w:∀q,Tz a b=some q->k q=some r->WO S K os ((d,.tv (.int ik q))::O)):WO S K (⟨some d,.bin .i .rem x y,none⟩::os) O:=by
 obtain ⟨m,o,h⟩:=bind_some h;exact jI p u o (w m o h)
theorem fL{op:BinOp}{o:IntKind}(h:(J2 ik op a b).bind k=some r)(u:x.val O=some (.int ik a))(A:y.val O=some (.int o b))(B:ik=o\/op=.shl\/op=.shr)(C:∀q,J2 ik op a b=some q->k q=some r->WO S K os ((d,.tv (.int ik q))::O)):WO S K (⟨some d,.bin .w op x y,none⟩::os) O:=by
 obtain ⟨m,p,h⟩:=bind_some h;exact iN u A B p (C m p h)
end ints
theorem cF{k:ByteArray->Option β}{x y:AD}{u v:ByteArray}(h:(JZ u v).bind k=some r)(p:x.val O=some (.str u))(w:y.val O=some (.str v))(A:∀q,JZ u v=some q->k q=some r->WO S K os ((d,.tv (.str q))::O)):WO S K (⟨some d,.bin .s .add x y,none⟩::os) O:=by
 obtain ⟨m,o,h⟩:=bind_some h;exact eV p w o (A m o h)
theorem fU{k:Unit->Option β}{x:AD}{n:Nat}{es:D2}{e:α->TV}{l:List α}(h:(Uv l).bind k=some r)(o:x.val O=some (.list n es))(he:es=l.map e)(p:∀u,k u=some r->WO S K os ((d,.tv (.bool false))::O)):WO S K (⟨some d,.um x,none⟩::os) O:=by
 obtain ⟨u,A,h⟩:=bind_some h;refine ZR o he fun b w=>?_;obtain rfl:=V6 A w;exact p u h
theorem Y2{x:AD}{n:Nat}{e:α->TV}{a:α}(h:At O (x.ev O)=some (e a).cells)(o:Nat.beq (e a).cells.length n=true)(p:TV.agg (e a).cells=e a)(u:WO S K os ((d,.tv (e a))::O)):WO S K (⟨some d,.tD x n,none⟩::os) O:=by
 have o:=Nat.eq_of_beq_eq_true o;exact Rg h (by rw[o];exact Nat.ble_self_eq_true n) (by rw[List.take_of_length_le (by omega),p]) u
theorem fV{s n:Nat}{cs:List AJ}{e:α->TV}{a:α}(h:O.get s=.bx cs)(p:cs.map (·.t)=(e a).cells)(o:Nat.beq (e a).cells.length n=true)(u:TV.agg (e a).cells=e a)(w:WO S K os ((d,.tv (e a))::O)):WO S K (⟨some d,.uQ s n,none⟩::os) O:=by
 have o:=Nat.eq_of_beq_eq_true o;exact ZS h (by rw[p,o];exact Nat.ble_self_eq_true n) (by rw[p,List.take_of_length_le (by omega),u]) w
theorem cI{n s:Nat}{v:AD}{cs:List AJ}{t:TV}(o:O.get s=.bx cs)(hv:v.ev O=.tv t)(p:t.cells.length=n)(h:Nat.beq n cs.length=true)(u:WO S K os ((s,.bx (t.cells.map (⟨false,·⟩)))::O)):WO S K (⟨none,.tC n s v,none⟩::os) O:=by
 have h:=Nat.eq_of_beq_eq_true h;refine ZV o hv p (by rw[Nat.zero_add,h];exact Nat.ble_self_eq_true _) ?_ u;rw[List.take_zero,Nat.zero_add,h,List.drop_length,List.append_nil,List.nil_append]
theorem cA{x:AD}{n:Nat}{e:α->TV}{a:α}(h:At O (x.ev O)=some (((e a).cells.map fun t=>(⟨false,t⟩:AJ)).map (·.t)))(o:Nat.beq (e a).cells.length n=true)(p:TV.agg (e a).cells=e a)(u:WO S K os ((d,.tv (e a))::O)):WO S K (⟨some d,.tD x n,none⟩::os) O:=
 Y2 (by rw[h,List.map_map];congr 1;exact List.map_id _) o p u
def UM(n:Nat):D2->Bool
 |[]=>true|t::ts=>Nat.beq t.cells.length n&&UM n ts
theorem Rv{n:Nat}:∀{ts:D2},UM n ts=true->∀t∈ts,t.cells.length=n
 |[],_,_,h=>by cases h
 |t::ts,h,u,o=>by
  simp only[UM,q8]at h;rcases List.mem_cons.1 o with rfl|o
  .exact Nat.eq_of_beq_eq_true h.1
  .exact Rv h.2 u o
variable{parts:List AD}
theorem fX{n:Nat}{ts:D2}(h:vals O parts=some ts)(o:UM n ts=true)(p:WO S K os ((d,.ow (.list n ts))::O)):WO S K (⟨some d,.uc n parts,none⟩::os) O:=by
 have:=p.out;refine⟨?_⟩;simp only[wpOps,PR.wp,AC.wp,h,AP];exact⟨Rv o,this⟩
variable{zero:D2}
theorem bq{parts:List (Nat×Nat×AD)}{ts:List (Nat×Nat×TV)}{cs:D2}{e:α->TV}{a:α}(h:(some a).bind k=some r)(_:En α e)(o:ES O parts=some ts)(p:DN zero ts=some cs)(he:TV.agg cs=e a)(u:∀x,x=a->k x=some r->WO S K os ((d,.tv (e x))::O)):WO S K (⟨some d,.tn zero parts,none⟩::os) O:=by
 rw [Option.bind_some]at h;exact Rf o p he (u a rfl h)
theorem fW{x:AD}{n:Nat}{cs:D2}{e:α->TV}{a:α}(h:(some a).bind k=some r)(_:En α e)(o:At O (x.ev O)=some cs)(p:Nat.ble n cs.length=true)(he:TV.agg (cs.take n)=e a)(u:∀x,x=a->k x=some r->WO S K os ((d,.tv (e x))::O)):WO S K (⟨some d,.tD x n,none⟩::os) O:=by
 rw [Option.bind_some]at h;exact Rg o p he (u a rfl h)
inductive Lm{α:Type}(e:α->TV):D2->List α->Prop
 |nil:Lm e [] []
 |cons {t:TV} {ts:D2} {a:α} {l:List α}:t=e a->Lm e ts l->Lm e (t::ts) (a::l)
theorem Lm.eq{e:α->TV}{ts:D2}{l:List α}(h:Lm e ts l):ts=l.map e:=by
 induction h with
 |nil=>rfl|cons h _ o=>rw[h,o];rfl
theorem cD{n:Nat}{ts:D2}{e:α->TV}{l:List α}(h:vals O parts=some ts)(o:Lm e ts l)(p:∀a,(e a).cells.length=n)(u:WO S K os ((d,.ow (.list n (l.map e)))::O)):WO S K (⟨some d,.uc n parts,none⟩::os) O:=ZT h o.eq p u
theorem cE{n:Nat}{ts:D2}{e:α->TV}{l:List α}{f:List α->TV}(h:vals O parts=some ts)(p:Lm e ts l)(u:∀a,(e a).cells.length=n)(c:Fl e n f)(o:WO S K os ((d,.ow (f l))::O)):WO S K (⟨some d,.uc n parts,none⟩::os) O:=by
 rw [c.eq]at o;exact ZT h p.eq u o
theorem bf{e:α->TV}{n:Fq}{x y:AD}{a:α}{cs:D2}(o:x.val O=some (e a))(p:y.val O=some (.agg cs))[c:Vc e][i:Decidable (a=c.un cs)](u:TV.agg (e a).cells=e a)(w:(e (c.un cs)).cells=cs)(A:(e a).cells.map TV.kd=n)(B:WO S K os ((d,.tv (.bool (decide (a=c.un cs))))::O)):WO S K (⟨some d,.bin (.a n) .eql x y,none⟩::os) O:=by
 obtain ⟨C,h⟩:=c.dec a (c.un cs);have:i=C:=Subsingleton.elim _ _;subst this;rw[<-u]at o;rw[w]at h;exact WS o p A h B
theorem bh{e:α->TV}{n:Fq}{x y:AD}{a:α}{cs:D2}(o:x.val O=some (e a))(p:y.val O=some (.agg cs))[c:Vc e][i:Decidable (a=c.un cs)](u:TV.agg (e a).cells=e a)(w:(e (c.un cs)).cells=cs)(A:(e a).cells.map TV.kd=n)(B:WO S K os ((d,.tv (.bool (!decide (a=c.un cs))))::O)):WO S K (⟨some d,.bin (.a n) .neq x y,none⟩::os) O:=by
 obtain ⟨C,h⟩:=c.dec a (c.un cs);have:i=C:=Subsingleton.elim _ _;subst this;rw[<-u]at o;rw[w]at h;exact WT o p A h B
theorem be{e:α->TV}{n:Fq}{x y:AD}{a b:α}{i:Decidable (a=b)}(o:x.val O=some (e a))(p:y.val O=some (e b))(c:Vc e)(u:TV.agg (e a).cells=e a)(w:TV.agg (e b).cells=e b)(A:(e a).cells.map TV.kd=n)(B:WO S K os ((d,.tv (.bool (decide (a=b))))::O)):WO S K (⟨some d,.bin (.a n) .eql x y,none⟩::os) O:=by
 obtain ⟨C,h⟩:=c.dec a b;have:i=C:=Subsingleton.elim _ _;subst this;rw[<-u]at o;rw[<-w]at p;exact WS o p A h B
theorem bg{e:α->TV}{n:Fq}{x y:AD}{a b:α}{i:Decidable (a=b)}(o:x.val O=some (e a))(p:y.val O=some (e b))(c:Vc e)(u:TV.agg (e a).cells=e a)(w:TV.agg (e b).cells=e b)(A:(e a).cells.map TV.kd=n)(B:WO S K os ((d,.tv (.bool (!decide (a=b))))::O)):WO S K (⟨some d,.bin (.a n) .neq x y,none⟩::os) O:=by
 obtain ⟨C,h⟩:=c.dec a b;have:i=C:=Subsingleton.elim _ _;subst this;rw[<-u]at o;rw[<-w]at p;exact WT o p A h B
section calls
variable{x:Option α}{f:FuncId}{ts:D2}{R:α->Ah}{args:List AD}
theorem fO{s:Nat}{cs:List AJ}{row:D2}(o:O.get s=.bx cs)(f:Fz cs row)(k:WO S K os ((s,.tv (.pt row))::O)):WO S K (⟨none,.uu s,none⟩::os) O:=iV o f.h k
theorem bu{t:α->TV}(h:x.bind k=some r)(c:Ct P x f ts R)(p:vals O args=some ts)(u:∀a,R a=.sh (t a))(w:∀a,x=some a->k a=some r->WO (AI P) K os ((d,.tv (t a))::O)):WO (AI P) K (⟨some d,.call f args,none⟩::os) O:=by
 obtain ⟨a,o,h⟩:=bind_some h;have:=c.snd a o;rw[u]at this;exact WW p this (w a o h)
theorem Zo{t:α->TV}(h:x.bind k=some r)(c:Ct P x f ts R)(p:vals O args=some ts)(u:∀a,R a=.own (t a))(w:∀a,x=some a->k a=some r->WO (AI P) K os ((d,.ow (t a))::O)):WO (AI P) K (⟨some d,.call f args,none⟩::os) O:=by
 obtain ⟨a,o,h⟩:=bind_some h;have:=c.snd a o;rw[u]at this;exact a7 p this (w a o h)
theorem Zq{t:α->TV}(_:HS d)(h:x.bind k=some r)(c:Ct P x f ts R)(p:vals O args=some ts)(u:∀a,R a=.own (t a))(w:∀a,x=some a->k a=some r->WO (AI P) K os ((d,.tv (t a))::O)):WO (AI P) K (⟨some d,.call f args,none⟩::os) O:=by
 obtain ⟨a,o,h⟩:=bind_some h;have:=c.snd a o;rw[u]at this;exact WW p (dU this) (w a o h)
theorem Zs{n:Nat}{t:α->D2}(h:x.bind k=some r)(c:Ct P x f ts R)(p:vals O args=some ts)(u:∀a,R a=.sF n (t a))(w:∀a,x=some a->k a=some r->WO (AI P) K os ((d,.ow (.list n (t a)))::O)):WO (AI P) K (⟨some d,.call f args,none⟩::os) O:=by
 obtain ⟨a,o,h⟩:=bind_some h;have:=c.snd a o;rw[u]at this;exact bB p this (w a o h)
theorem Zp{t:α->D2}(h:x.bind k=some r)(c:Ct P x f ts R)(p:vals O args=some ts)(u:∀a,R a=.tp (t a))(w:∀a,x=some a->k a=some r->WO (AI P) K os ((d,.tp (t a))::O)):WO (AI P) K (⟨some d,.call f args,none⟩::os) O:=by
 obtain ⟨a,o,h⟩:=bind_some h;have:=c.snd a o;rw[u]at this;exact a8 p this (w a o h)
theorem Zl{t:α->List AJ}(h:x.bind k=some r)(c:Ct P x f ts R)(p:vals O args=some ts)(u:∀a,R a=.rT (t a))(w:∀a,x=some a->k a=some r->WO (AI P) K os ((d,.tv (.agg ((t a).map fun c=>c.rel.t)))::O)):WO (AI P) K (⟨some d,.call f args,none⟩::os) O:=by
 obtain ⟨a,o,h⟩:=bind_some h;have:=c.snd a o;rw[u]at this;exact aw p this rfl (w a o h)
theorem Zk{t:α->List AJ}(h:x.bind k=some r)(c:Ct P x f ts R)(p:vals O args=some ts)(u:∀a,R a=.rT (t a))(w:∀a,x=some a->k a=some r->WO (AI P) K os ((d,.rT (t a))::O)):WO (AI P) K (⟨some d,.sI f args,none⟩::os) O:=by
 obtain ⟨a,o,h⟩:=bind_some h;have:=c.snd a o;rw[u]at this;exact av p this (w a o h)
theorem Zt{n:Nat}{t:α->D2}(h:x.bind k=some r)(c:Ct P x f ts R)(p:O.gt d=true)(u:vals O args=some ts)(w:∀a,R a=.sF n (t a))(A:∀a,x=some a->k a=some r->WO (AI P) K os ((d,.xo n (t a))::O)):WO (AI P) K (⟨some d,.sf f args,none⟩::os) O:=by
 obtain ⟨a,o,h⟩:=bind_some h;have:=c.snd a o;rw[w]at this;exact bC p u this (A a o h)
theorem XJ{γ:Type}{k:List γ->Option β}{x:Option (List γ)}{R:List γ->Ah}{n:Nat}{e:γ->TV}(h:x.bind k=some r)(c:Ct P x f ts R)(p:O.gt d=true)(u:vals O args=some ts)(w:∀a,R a=.own (.list n (a.map e)))(hf:∀a,(e a).flat=true)(A:∀a,x=some a->k a=some r->WO (AI P) K os ((d,.xo n (a.map e))::O)):WO (AI P) K (⟨some d,.sf f args,none⟩::os) O:=by
 obtain ⟨a,o,h⟩:=bind_some h;have:=c.snd a o;rw[w]at this;exact X9 p u this rfl hf (A a o h)
theorem Zm{t:α->TV}(h:x.bind k=some r)(c:Ct P x f ts R)(p:rR O args=some ts)(u:∀a,R a=.sh (t a))(w:∀a,(t a).flat=true)(A:∀a,x=some a->k a=some r->WO (AI P) K os ((d,.tv (t a))::O)):WO (AI P) K (⟨some d,.rK f args,none⟩::os) O:=by
 obtain ⟨a,o,h⟩:=bind_some h;have:=c.snd a o;rw[u]at this;exact ax p this (w a) (A a o h)
theorem XG{t:α->D2}(h:x.bind k=some r)(c:Ct P x f ts R)(p:rR O args=some ts)(u:∀a,R a=.tp (t a))(w:∀a,TV.rE (t a)=true)(A:∀a,x=some a->k a=some r->WO (AI P) K os ((d,.tp (t a))::O)):WO (AI P) K (⟨some d,.rK f args,none⟩::os) O:=by
 obtain ⟨a,o,h⟩:=bind_some h;have:=c.snd a o;rw[u]at this;exact X4 p this (w a) (A a o h)
theorem XF{γ:Type}{k:List γ->Option β}{x:Option (List γ)}{R:List γ->Ah}{n:Nat}{e:γ->TV}(h:x.bind k=some r)(c:Ct P x f ts R)(p:rR O args=some ts)(u:∀a,R a=.own (.list n (a.map e)))(hf:∀a,(e a).flat=true)(w:∀a,x=some a->k a=some r->WO (AI P) K os ((d,.ow (.list n (a.map e)))::O)):WO (AI P) K (⟨some d,.rK f args,none⟩::os) O:=by
 obtain ⟨a,o,h⟩:=bind_some h;have:=c.snd a o;rw[u]at this;exact X3 p this rfl rfl hf (w a o h)
theorem Zj{t:α->D2}(h:x.bind k=some r)(c:Ct P x f ts R)(p:vals O args=some ts)(u:∀a,R a=.ext (t a))(w:∀a,x=some a->k a=some r->WO (AI P) K os ((d,.tp (t a))::O)):WO (AI P) K (⟨some d,.sG f args,none⟩::os) O:=by
 obtain ⟨a,o,h⟩:=bind_some h;have:=c.snd a o;rw[u]at this;exact ar p this (w a o h)
theorem TW{i s:Nat}{cs:List AJ}{cs':α->List AJ}{us:α->D2}{e:α->EV}(h:x.bind k=some r)(c:Ct P x f ts R)(p:(args[i]?).bind (·.place O)=some (s,0))(u:O.get s=.bx cs)(w:O.s8 s none=true)(hd:d≠s)(A:FC O i args=some ts)(B:∀a,R a=.bo cs (cs' a) i (us a))(he:∀a,EV.ofs (us a)=e a)(C:∀a,x=some a->k a=some r->WO (AI P) K os ((d,e a)::(s,.bx (cs' a))::O)):WO (AI P) K (⟨some d,.rJ f args i,none⟩::os) O:=by
 obtain ⟨a,o,h⟩:=bind_some h;have:=c.snd a o;rw[B]at this;exact ap p u w hd A this (he a) (C a o h)
variable{qi:Option Nat}
theorem Zn{k:D1->Option β}{f:FuncId}{x:AD}{q:Nat}{es:D2}{l:D1}{y:Option D1}{env':D1->AA}(h:y.bind k=some r)(c:Ct P y f [.list 1 (l.map (TV.int .i64))] Ah.turn)(p:x.rq O=some ((q,qi),1,es))(he:es=l.map (TV.int .i64))(hv:∀a,O.rG q qi 1 (a.map (TV.int .i64))=env' a)(u:∀a,y=some a->k a=some r->WO (AI P) K os ((d,.tp [])::env' a)):WO (AI P) K (⟨some d,.sw f x,none⟩::os) O:=by
 obtain ⟨a,o,h⟩:=bind_some h;exact ay p he rfl (c.snd a o) rfl (hv a) (u a o h)
theorem Zi{k:D1->Option β}{f:FuncId}{x:AD}{q:Nat}{es:D2}{l:D1}{y:Option D1}(h:y.bind k=some r)(c:Ct P y f [.list 1 (l.map (TV.int .i64))] Ah.cut)(u:x.rq O=some ((q,none),1,es))(he:es=l.map (TV.int .i64))(o:q≠d)(w:O.gt d=true)(A:∀a,y=some a->k a=some r->WO (AI P) K os ((d,.xo 1 (a.map (TV.int .i64)))::(q,.undef)::O)):WO (AI P) K (⟨some d,.sr f x,none⟩::os) O:=by
 obtain ⟨a,p,h⟩:=bind_some h;exact aq u he rfl o w (c.snd a p) rfl (A a p h)
section values
variable{v:AD}{caps us:D2}
theorem Zr{t:α->TV}(h:x.bind k=some r)(c:Ct P x f ts R)(hv:v.val O=some (.r6 f caps))(p:vals O args=some us)(u:us++caps=ts)(w:∀a,R a=.sh (t a))(A:∀a,x=some a->k a=some r->WO (AI P) K os ((d,.tv (t a))::O)):WO (AI P) K (⟨some d,.sj v args,none⟩::os) O:=by
 obtain ⟨a,o,h⟩:=bind_some h;have:=c.snd a o;rw[w,<-u]at this;exact bA hv p this (A a o h)
theorem XH{t:α->TV}(h:x.bind k=some r)(c:Ct P x f ts R)(hv:v.val O=some (.r6 f caps))(p:vals O args=some us)(u:us++caps=ts)(w:∀a,R a=.own (t a))(A:∀a,x=some a->k a=some r->WO (AI P) K os ((d,.ow (t a))::O)):WO (AI P) K (⟨some d,.sj v args,none⟩::os) O:=by
 obtain ⟨a,o,h⟩:=bind_some h;have:=c.snd a o;rw[w,<-u]at this;exact X7 hv p this (A a o h)
theorem XI{t:α->D2}(h:x.bind k=some r)(c:Ct P x f ts R)(hv:v.val O=some (.r6 f caps))(p:vals O args=some us)(u:us++caps=ts)(w:∀a,R a=.tp (t a))(A:∀a,x=some a->k a=some r->WO (AI P) K os ((d,.tp (t a))::O)):WO (AI P) K (⟨some d,.sj v args,none⟩::os) O:=by
 obtain ⟨a,o,h⟩:=bind_some h;have:=c.snd a o;rw[w,<-u]at this;exact X8 hv p this (A a o h)
end values
end calls
inductive GS(g:Nat)(b:Bool):Fq->List PR->Fq->Nat->Prop
 |done {acc:Fq} {os:List PR}:GS g b acc os [] 0
 |step {acc js:Fq} {d n:Nat} {op:AC} {os:List PR}:GS g b (d::acc) os js n->GS g b acc (⟨some d,op,some (g,b)⟩::os) (d::js) (n+1)
 |uP {acc js:Fq} {d n g':Nat} {b':Bool} {op:AC} {os:List PR}:acc.contains g'=true->GS g b (d::acc) os js n->GS g b acc (⟨some d,op,some (g',b')⟩::os) (d::js) (n+1)
def ba:Fq->AA->(AA->Prop)->Prop
 |[],z,K=>K z|k::ks,z,K=>∃j,ba ks ((k,j)::z) K
structure Gj(js:Fq)(d:Nat)(v:TV)(z e:AA):Prop where
 of::out:ba js z fun y=>e=(d,.tv v)::y
theorem V3{d:Nat}{v:TV}{z e:AA}(h:e=(d,.tv v)::z):Gj [] d v z e:=⟨h⟩
variable{ks:Fq}
theorem aB{k d:Nat}{v:TV}{j:EV}{z e:AA}(h:Gj ks d v ((k,j)::z) e):Gj (k::ks) d v z e:=⟨j,h.out⟩
theorem b8{js:Fq}{v:TV}{z:AA}(h:Gj js d v z O):WO S (Gj js d v z) [] O:=⟨h⟩
structure Qk(js:Fq)(z:AA)(Q:AA->Prop):Prop where
 of::out:∀(d:Nat)(v:TV)(e:AA),Gj js d v z e->∃y,e=(d,.tv v)::y/\Q y
theorem aC{z:AA}{Q:AA->Prop}(h:Q z):Qk [] z Q:=⟨fun _ _ _ he=>⟨z,he.out,h⟩⟩
theorem Xa{k:Nat}{z:AA}{Q:AA->Prop}(h:∀j,Qk ks ((k,j)::z) Q):Qk (k::ks) z Q:=⟨fun d v e he=>by
 obtain ⟨j,o⟩:=he.out;exact(h j).out d v e ⟨o⟩⟩
theorem gW{dd:Option Nat}{op:AC}{g:Nat}{b q:Bool}(h:O.get g=.tv (.bool q))(o:Vf g b q)(p:WO S K (⟨dd,op,none⟩::os) O):WO S K (⟨dd,op,some (g,b)⟩::os) O:=kL h o.out p
theorem cu{op:AC}{g:Nat}{b q:Bool}(h:O.get g=.tv (.bool q))(o:Rs g b q)(p:WO S K os ((d,.sk)::O)):WO S K (⟨some d,op,some (g,b)⟩::os) O:=gV h o.out p
theorem Ud{d n:Nat}{js:Fq}{v:TV}(h:WO S (Gj js d v O) (os.take n) O)(o:Qk js O fun e=>WO S K (os.drop n) ((d,.tv v)::e)):WO S K os O:=
 gU n (Gj js d v) h fun e he=>by
  obtain ⟨y,rfl,p⟩:=o.out d v e he;exact p
section groups
variable{g n:Nat}{js:Fq}{c:Bool}{dd gd:Option Nat}{op:AC}{x y z:AD}{gg:Option (Nat×Bool)}
variable{T:Fp}{os':List PR}
theorem fS{k:Bool->Option β}(h:(if c=true then T else some false).bind k=some r)(_:GS g true [] os js n)(A:O.get g=.tv (.bool c))(_:os[n]?=some ⟨some d,.pick x y z,gg⟩)
  (p:∀v,Vf g true c->c=true->T=some v->WO S (Gj js d (.bool v) O) (os.take (n+1)) O)(u:∀v,Rs g true c->c=false->some false=some v->WO S (Gj js d (.bool v) O) (os.take (n+1)) O)
  (w:∀v,k v=some r->Qk js O fun e=>WO S K (os.drop (n+1)) ((d,.tv (.bool v))::e))(ho:os=⟨dd,op,some (g,true)⟩::os'):WO S K (⟨dd,op,some (g,true)⟩::os') O:=by
 obtain ⟨v,hv,h⟩:=bind_some h;rw[<-ho];refine Ud (n:=n+1) (v:=.bool v) ?_ (w v h);rcases Bool.eq_false_or_eq_true c with o|o
 .exact p v ⟨o⟩ o (Pz o hv)
 .exact u v ⟨by rw[o];rfl⟩ o (Py o hv)
theorem fR{k:Bool->Option β}(h:(if c=true then some true else T).bind k=some r)(_:GS g false [] os js n)(A:O.get g=.tv (.bool c))(_:os[n]?=some ⟨some d,.pick x y z,gg⟩)
  (p:∀v,Vf g false c->c=false->T=some v->WO S (Gj js d (.bool v) O) (os.take (n+1)) O)(u:∀v,Rs g false c->c=true->some true=some v->WO S (Gj js d (.bool v) O) (os.take (n+1)) O)
  (w:∀v,k v=some r->Qk js O fun e=>WO S K (os.drop (n+1)) ((d,.tv (.bool v))::e))(ho:os=⟨dd,op,some (g,false)⟩::os'):WO S K (⟨dd,op,some (g,false)⟩::os') O:=by
 obtain ⟨v,hv,h⟩:=bind_some h;rw[<-ho];refine Ud (n:=n+1) (v:=.bool v) ?_ (w v h);rcases Bool.eq_false_or_eq_true c with o|o
 .exact u v ⟨by rw[o];rfl⟩ o (Pz o hv)
 .exact p v ⟨o⟩ o (Py o hv)
theorem fQ{e:Bool}(ho:os=⟨dd,op,some (g,true)⟩::os')(_:GS g true [] os js n)(u:O.get g=.tv (.bool c))(_:os[n]?=some ⟨some d,.pick x y z,gg⟩)
  (h:Vf g true c->c=true->WO S (Gj js d (.bool e) O) (os.take (n+1)) O)(o:Rs g true c->c=false->WO S (Gj js d (.bool false) O) (os.take (n+1)) O)
  (p:Qk js O fun z=>WO S K (os.drop (n+1)) ((d,.tv (.bool (c&&e)))::z)):WO S K (⟨dd,op,some (g,true)⟩::os') O:=by
 rw [<-ho];refine Ud (n:=n+1) (v:=.bool (c&&e)) ?_ p;cases c
 .exact o ⟨rfl⟩ rfl
 .exact h ⟨rfl⟩ rfl
theorem fP{e:Bool}(ho:os=⟨dd,op,some (g,false)⟩::os')(_:GS g false [] os js n)(u:O.get g=.tv (.bool c))(_:os[n]?=some ⟨some d,.pick x y z,gg⟩)
  (h:Vf g false c->c=false->WO S (Gj js d (.bool e) O) (os.take (n+1)) O)(o:Rs g false c->c=true->WO S (Gj js d (.bool true) O) (os.take (n+1)) O)
  (p:Qk js O fun z=>WO S K (os.drop (n+1)) ((d,.tv (.bool (c||e)))::z)):WO S K (⟨dd,op,some (g,false)⟩::os') O:=by
 rw [<-ho];refine Ud (n:=n+1) (v:=.bool (c||e)) ?_ p;cases c
 .exact h ⟨rfl⟩ rfl
 .exact o ⟨rfl⟩ rfl
end groups
variable{qi:Option Nat}{j:Int}
theorem fm{x:AD}{q n i:Nat}{es row:D2}{e:α->TV}{l:List α}{a:α}{t:TV}(h:x.ev O=.lp q qi (j.toNat*n+i))(o:O.rf q qi=some (n,es))(he:es=l.map e)(p:∀a,(e a).cells.length=n)(u:idx l j=some a)(hi:Nat.blt i n=true)(w:(e a).cells=row)(A:row[i]?=some t)
  (B:WO S K os ((d,.tv t)::O)):WO S K (⟨some d,.uM x,none⟩::os) O:=ZX h o he p u rfl hi w A B
theorem cK{x:AD}{q n:Nat}{es row:D2}{e:α->TV}{l:List α}{a:α}{t:TV}(h:x.ev O=.lp q qi (j.toNat*n))(o:O.rf q qi=some (n,es))(he:es=l.map e)(p:∀a,(e a).cells.length=n)(u:idx l j=some a)(hi:Nat.blt 0 n=true)(w:(e a).cells=row)(A:row[0]?=some t)
  (B:WO S K os ((d,.tv t)::O)):WO S K (⟨some d,.uM x,none⟩::os) O:=ZX (i:=0) h o he p u rfl hi w A B
theorem cM{γ:Type}{s:Nat}{v:AD}{q n i:Nat}{env':AA}{es:D2}{e:α->TV}{g:γ->TV}{l:List α}{a:α}{b:γ}{f:α->γ->α}(_:HX s f)(h:(AD.s s).ev O=.lp q qi (j.toNat*n+i))(p:O.rf q qi=some (n,es))(hv:v.ev O=.tv (g b))(he:es=l.map e)(u:∀a,(e a).cells.length=n)(w:idx l j=some a)(hi:Nat.blt i n=true)(A:(g b).cells=[g b])
  (B:(e (f a b)).cells=(e a).cells.set i (g b))(o:O.rG q qi n ((CI l j (f a b)).map e)=env')(C:WO S K os env'):WO S K (⟨none,.tF (.s s) v 1,none⟩::os) O:=ZY h p hv he u w rfl hi A B rfl o C
theorem cL{x v:AD}{q n:Nat}{env':AA}{es:D2}{e:α->TV}{l:List α}{a b:α}(h:x.ev O=.lp q qi (j.toNat*n))(p:O.rf q qi=some (n,es))(hv:v.ev O=.tv (e b))(he:es=l.map e)(u:∀a,(e a).cells.length=n)(w:idx l j=some a)(hi:Nat.blt 0 n=true)(A:(e b).cells=[e b])
  (B:(e b).cells=(e a).cells.set 0 (e b))(o:O.rG q qi n ((CI l j b).map e)=env')(C:WO S K os env'):WO S K (⟨none,.tF x v 1,none⟩::os) O:=ZY (i:=0) h p hv he u w rfl hi A B rfl o C
end
end Go.Sf
namespace Go.Sf
section
variable{S:FuncId->D2->Ah->Prop}{K:AA->Prop}{os:List PR}{O:AA}{d:Nat}
theorem ia{x:AD}{s o:Nat}{es:D2}(h:x.ev O=.bp s o)(p:O.nat s o=some es)(k:WO S K os ((d,.nh s o .hd)::O)):WO S K (⟨some d,.ux x,none⟩::os) O:=by
 replace k:=k.out;refine⟨?_⟩;simp only[wpOps,PR.wp,AC.wp,h,p,AP];exact k
variable{j:Int}
theorem jD{α:Type}{x:AD}{s o:Nat}{es:D2}{e:α->TV}{l:List α}{a:α}(h:x.ev O=.nh s o (.el j.toNat))(u:O.nat s o=some es)(he:es=l.map e)(w:idx l j=some a)(k:WO S K os ((d,.nh s o (.rw j.toNat))::O)):WO S K (⟨some d,.uw x,none⟩::os) O:=by
 replace k:=k.out;refine⟨?_⟩;subst he;obtain⟨B,C,A⟩:=FW w;have p:j.toNat<l.length:=(List.getElem?_eq_some_iff.1 A).1;simp only[wpOps,PR.wp,AC.wp,h,u,AP];exact⟨by simpa using p,k⟩
variable{fs:D2}
theorem eP{q n:Nat}(h:O.get q=.xo n fs)(o:O.gt d=true)(hd:d≠q)(k:WO S K os ((d,.x1 n fs)::(q,.undef)::O)):WO S K (⟨some d,.tA q,none⟩::os) O:=by
 replace k:=k.out;refine⟨?_⟩;simp only[wpOps,PR.wp,AC.wp,h];exact⟨⟨o,hd⟩,k⟩
theorem eH{x:AD}{q s h:Nat}{cs cs':List AJ}{es:D2}(p:x.place O=some (s,h))(u:O.get q=.xn es)(w:O.get s=.bx cs)(A:O.s8 s (some h)=true)(B:Nat.blt h cs.length=true)(o:cs.set h ⟨true,.xn es⟩=cs')(k:WO S K os ((s,.bx cs')::(q,.undef)::O)):WO S K (⟨none,.ur x q,none⟩::os) O:=by
 replace k:=k.out;refine⟨?_⟩;subst o;simp only[wpOps,PR.wp,AC.wp,p,u,w];exact⟨A,Nat.le_of_ble_eq_true B,k⟩
theorem eE{q:Nat}{cs:List AJ}(h:O.get q=.rT cs)(o:O.gt d=true)(hd:d≠q)(k:WO S K os ((d,.bx cs)::(q,.undef)::O)):WO S K (⟨some d,.tO q,none⟩::os) O:=by
 replace k:=k.out;refine⟨?_⟩;simp only[wpOps,PR.wp,AC.wp,h];exact⟨⟨o,hd⟩,k⟩
theorem ic{s n:Nat}{cs cs':List AJ}(h:O.get s=.bx cs)(o:Nat.beq cs.length n=true)(hd:d≠s)(p:(cs.map fun _=>(⟨false,.undef⟩:AJ))=cs')(k:WO S K os ((d,.rT cs)::(s,.bx cs')::O)):WO S K (⟨some d,.uO s n,none⟩::os) O:=by
 replace k:=k.out;refine⟨?_⟩;subst p;simp only[wpOps,PR.wp,AC.wp,h];exact⟨Nat.eq_of_beq_eq_true o,hd,k⟩
theorem jK{x v:AD}{s h n:Nat}{p:List (Option AJ)}{t:TV}{cs ds cs':List AJ}(u:x.place O=some (s,h))(hv:v.val O=some t)(w:O.get s=.bx cs)(A:Cc p t.cells=some ds)(B:Nat.beq t.cells.length n=true)(o:Nat.ble (h+n) cs.length=true)(C:O.s8 s none=true)(D:cs.take h++ds++cs.drop (h+n)=cs')
  (k:WO S K os ((s,.bx cs')::O)):WO S K (⟨none,.uq n p x v,none⟩::os) O:=by
 replace k:=k.out;refine⟨?_⟩;subst D;simp only[wpOps,PR.wp,AC.wp,u,hv,w,A,AP];exact⟨Nat.eq_of_beq_eq_true B,Nat.le_of_ble_eq_true o,C,k⟩
variable{j2:Int}
theorem jF{α:Type}{x v:AD}{s o:Nat}{es:D2}{env':AA}{e:List α->TV}{e2:α->TV}{l:List (List α)}{m:List α}{b0 b:α}{t:TV}(h:x.ev O=.nh s o (.rp j.toNat j2.toNat))(A:O.nat s o=some es)(hv:v.ev O=.tv t)(he:es=l.map e)(w:∀m,e m=.list 1 (m.map e2))(B:idx l j=some m)(C:idx m j2=some b0)(D:t=e2 b)(E:t.cells=[t])(F:t.flat=true)
  (p:O.up s o ((CI l j (CI m j2 b)).map e)=env')(k:WO S K os env'):WO S K (⟨none,.tX x v,none⟩::os) O:=by
 replace k:=k.out;refine⟨?_⟩;subst he p D;obtain⟨I,J,G⟩:=FW B;obtain⟨m0,m1,H⟩:=FW C;have u:j2.toNat<m.length:=(List.getElem?_eq_some_iff.1 H).1;simp only[wpOps,PR.wp,AC.wp,h,A,hv,AP];refine⟨m.map e2,by rw[List.getElem?_map,G];simp[w],by simpa using u,E,F,?_⟩;have:(l.map e).set j.toNat (.list 1 ((m.map e2).set j2.toNat (e2 b)))=(CI l j (CI m j2 b)).map e:=by
  simp only[CI,List.map_set,w]
 rw [this];exact k
end
section
variable{P:Program}{K:AA->Prop}{os:List PR}{O:AA}{d:Nat}{α β γ ρ:Type}{f:FuncId}{args:List AD}{ts:D2}{R:α->Ah}{x:Option α}{k:α->Option ρ}{r:ρ}
variable{j:Int}
theorem fZ{x i:AD}{s o:Nat}{es:D2}{e:α->TV}{l:List α}{ik:IntKind}{S:FuncId->D2->Ah->Prop}(h:(idx l j).bind k=some r)(u:x.ev O=.nh s o .hd)(w:O.nat s o=some es)(hi:i.val O=some (.int ik j))(he:es=l.map e)
  (A:∀a,idx l j=some a->k a=some r->WO S K os ((d,.nh s o (.el j.toNat))::O)):WO S K (⟨some d,.tY x i,none⟩::os) O:=by
 obtain ⟨a,p,h⟩:=bind_some h;have B:=(A a p h).out;refine⟨?_⟩;subst he;obtain⟨D,F,E⟩:=FW p;have C:j.toNat<l.length:=(List.getElem?_eq_some_iff.1 E).1;simp only[wpOps,PR.wp,AC.wp,u,w,hi,AP];exact⟨D,by simp only[c6];omega,B⟩
variable{e2:α->TV}{j2:Int}
theorem fa{x i:AD}{s o:Nat}{es:D2}{e:List α->TV}{l:List (List α)}{m:List α}{ik:IntKind}{S:FuncId->D2->Ah->Prop}(h:(idx m j2).bind k=some r)(u:x.ev O=.nh s o (.rw j.toNat))(w:O.nat s o=some es)(hi:i.val O=some (.int ik j2))(he:es=l.map e)(A:∀m,e m=.list 1 (m.map e2))(B:idx l j=some m)
  (C:∀a,idx m j2=some a->k a=some r->WO S K os ((d,.nh s o (.rp j.toNat j2.toNat))::O)):WO S K (⟨some d,.tY x i,none⟩::os) O:=by
 obtain ⟨b,p,h⟩:=bind_some h;have D:=(C b p h).out;refine⟨?_⟩;subst he;obtain⟨H,I,F⟩:=FW B;obtain⟨m0,m1,G⟩:=FW p;have E:j2.toNat<m.length:=(List.getElem?_eq_some_iff.1 G).1;simp only[wpOps,PR.wp,AC.wp,u,w,hi,AP];exact⟨m0,m.map e2,by rw[List.getElem?_map,F];simp[A],by simp only[c6];omega,D⟩
theorem bi{mm q s o:Nat}{es fs:D2}{cs cs':List AJ}{n:Nat}{e:β->TV}{l:List β}{m:β}{k:List β->Option ρ}{S:FuncId->D2->Ah->Prop}(h:(Aj l [m]).bind k=some r)(w:O.get mm=.nh s o .hd)(A:O.get q=.x1 n fs)(B:O.get s=.bx cs)(C:O.nat s o=some es)(he:es=l.map e)(hf:TV.list n fs=e m)(u:O.gt d=true)(hd:d≠mm/\d≠q/\mm≠q)(D:cs.set o ⟨false,.undef⟩=cs')
  (E:∀a,Aj l [m]=some a->k a=some r->WO S K os ((d,.xn (a.map e))::(s,.bx cs')::(mm,.undef)::(q,.undef)::O)):WO S K (⟨some d,.sE mm q,none⟩::os) O:=by
 obtain ⟨a,p,h⟩:=bind_some h;have G:=(E a p h).out;refine⟨?_⟩;subst he D;unfold Aj at p;split at p
 .rename_i F;cases p;simp only[wpOps,PR.wp,AC.wp,w,A,B,C,AP];refine⟨by simpa using F,⟨u,hd⟩,?_⟩;rw[hf];simpa[AA.put]using G
 .cases p
theorem XE{u:α->List β}{v:α->List γ}{w A:Nat}{p:β->TV}{e2:γ->TV}(h:x.bind k=some r)(c:Ct P x f ts R)(E:vals O args=some ts)(F:∀a,R a=.rT [⟨true,.list w ((u a).map p)⟩,⟨true,.list A ((v a).map e2)⟩])(G:∀a,(p a).flat=true)(H:∀a,(e2 a).flat=true)
  (I:∀a,x=some a->k a=some r->WO (AI P) K os ((d,.rT [⟨true,.xl w ((u a).map p)⟩,⟨true,.xl A ((v a).map e2)⟩])::O)):WO (AI P) K (⟨some d,.sn f args,none⟩::os) O:=by
 obtain ⟨a,D,h⟩:=bind_some h;have C:=c.snd a D;rw[F]at C;have J:=(I a D h).out;have o:∀{τ:Type}(e:τ->TV)(l:List τ),(∀a,(e a).flat=true)->TV.rE (l.map e)=true:=by
  intro τ e l he
  induction l with
  |nil=>rfl|cons a l L=>simp[TV.rE,he,L]
 refine ⟨?_⟩;simp only[wpOps,PR.wp,AC.wp,E,AP];refine⟨_,C,fun c B=>?_,fun _=>J⟩;simp only[List.mem_cons,List.not_mem_nil,or_false]at B;rcases B with rfl|rfl
 .exact⟨_,_,rfl,o _ _ G⟩
 .exact⟨_,_,rfl,o _ _ H⟩
inductive NL:List AJ->List AJ->Prop
 |nil {xs:List AJ}:xs=[]->NL xs []
 |cons {xs ys zs:List AJ} {o:Bool} {t:TV}:xs=⟨o,t⟩::ys->NL ys zs->NL xs (⟨o,t⟩::zs)
theorem NL.eq{xs o:List AJ}(h:NL xs o):xs=o:=by
 induction h with
 |nil h=>exact h|cons h _ p=>rw[h,p]
theorem fh{S:FuncId->D2->Ah->Prop}{K:AA->Prop}{os:List PR}{O:AA}{n s h:Nat}{x v:AD}{cs cs':List AJ}{t:TV}(o:x.place O=some (s,h))(p:O.get s=.bx cs)(hv:v.ev O=.tv t)(u:t.cells.length=n)(w:Nat.ble (h+n) cs.length=true)(A:NL (cs.take h++t.cells.map (⟨false,·⟩)++cs.drop (h+n)) cs')
  (k:WO S K os ((s,.bx cs')::O)):WO S K (⟨none,.st n x v,none⟩::os) O:=eb o p hv u w A.eq k
theorem cJ{S:FuncId->D2->Ah->Prop}{K:AA->Prop}{os:List PR}{O:AA}{s h q:Nat}{x:AD}{cs cs':List AJ}{t:TV}(o:x.place O=some (s,h))(p:O.get s=.bx cs)(hv:O.get q=.ow t)(u:q≠s)(w:Nat.blt h cs.length=true)(A:NL (cs.set h ⟨true,t⟩) cs')
  (k:WO S K os ((s,.bx cs')::(q,.tv t)::O)):WO S K (⟨none,.st 1 x (.s q),none⟩::os) O:=ZW o p hv u w A.eq k
theorem Qs:∀(ts:List (Nat×Nat×TV))(done rest:D2),PK done.length ts=true->(FT ts).length<=rest.length->DN (done++rest) ts=some (done++(FT ts++rest.drop (FT ts).length))
 |[],done,rest,_,h=>by simp[DN,FT]|(i,n,t)::r,done,rest,p,h=>by
  simp only[PK,q8,Nat.beq_eq]at p;obtain⟨⟨rfl,o⟩,A⟩:=p;simp only[FT,az]at h;have u:n<=rest.length:=by omega
  simp only[DN];rw[QQ ⟨o,by rw[az];omega⟩];have w:done++rest=done++(rest.take n++rest.drop n):=by rw[List.take_append_drop]
  rw [w,N9 t.cells done (rest.take n) (rest.drop n) (by rw[b6];omega),<-ca];rw[Qs r (done++t.cells) (rest.drop n) (by rw[az,o];exact A) (by rw[List.length_drop];omega)];simp[FT,List.drop_drop,o]
inductive NT:D2->D2->Prop
 |nil {xs:D2}:xs=[]->NT xs []
 |cons {xs ys zs:D2} {t:TV}:xs=t::ys->NT ys zs->NT xs (t::zs)
theorem NT.eq{xs o:D2}(h:NT xs o):xs=o:=by
 induction h with
 |nil h=>exact h|cons h _ p=>rw[h,p]
variable{zero:D2}
theorem br{S:FuncId->D2->Ah->Prop}{K:AA->Prop}{os:List PR}{O:AA}{d:Nat}{parts:List (Nat×Nat×AD)}{ts:List (Nat×Nat×TV)}{cs:D2}(h:ES O parts=some ts)(o:PK 0 ts=true)(p:Nat.ble (FT ts).length zero.length=true)(u:NT (FT ts++zero.drop (FT ts).length) cs)(k:WO S K os ((d,.tv (.agg cs))::O)):WO S K (⟨some d,.tn zero parts,none⟩::os) O:=
 Rf h (by have:=Qs ts [] zero o (Nat.le_of_ble_eq_true p);simpa using this) (by rw[u.eq]) k
structure HY{α A B C:Type}(n:Nat)(f:A->B->C->α)(g1:A->TV)(g2:B->TV)(g3:C->TV):Prop where
variable{qi:Option Nat}
theorem cN{S:FuncId->D2->Ah->Prop}{K:AA->Prop}{os:List PR}{O:AA}{α A B C:Type}{f:A->B->C->α}{o:Nat}{v:AD}{q n:Nat}{env':AA}{es cs cs':D2}{e:α->TV}{l:List α}{a:α}{E:A}{F:B}{G:C}{p:A->TV}{u:B->TV}{w:C->TV}(_:HY o f p u w)(h:(AD.s o).ev O=.lp q qi (j.toNat*n))(H:O.rf q qi=some (n,es))(he:es=l.map e)(I:∀a,(e a).cells.length=n)(hv:v.ev O=.tv (.agg cs))(J:NT cs cs')(L:cs'=[p E,u F,w G])(hf:∀a b c,TV.agg [p a,u b,w c]=e (f a b c))(N:idx l j=some a)(U:Nat.blt 0 n=true)
  (D:O.rG q qi n ((CI l j (f E F G)).map e)=env')(k:WO S K os env'):WO S K (⟨none,.tF (.s o) v n,none⟩::os) O:=ZZ h H (by rw[hv,J.eq,L,hf]) he I N U D k
theorem fo{S:FuncId->D2->Ah->Prop}{α:Type}{x v:AD}{q n:Nat}{env':AA}{es:D2}{e:α->TV}{l:List α}{a b:α}(h:x.ev O=.lp q qi (j.toNat*n))(p:O.rf q qi=some (n,es))(he:es=l.map e)(u:∀a,(e a).cells.length=n)(hv:v.ev O=.tv (e b))(w:idx l j=some a)(A:Nat.blt 0 n=true)
  (o:O.rG q qi n ((CI l j b).map e)=env')(k:WO S K os env'):WO S K (⟨none,.tF x v n,none⟩::os) O:=ZZ h p hv he u w A o k
theorem Zh{i q:Nat}{cs:List AJ}{o:D2}{p:α->Ah}{e:α->EV}(h:x.bind k=some r)(c:Ct P x f o R)(hi:args[i]?=some (.s q))(B:O.get q=.rT cs)(hd:d≠q)(C:FC O i args=some ts)(u:ts.set i (.agg (cs.map fun _=>.undef))=o)(D:∀a,R a=.ag cs i (p a))(he:∀a,(p a).tM=e a)
  (E:∀a,x=some a->k a=some r->WO (AI P) K os ((d,e a)::(q,.undef)::O)):WO (AI P) K (⟨some d,.sx f args i,none⟩::os) O:=by
 obtain ⟨a,A,h⟩:=bind_some h;have w:=c.snd a A;rw[D]at w;have F:=(E a A h).out;refine⟨?_⟩;subst u;simp only[wpOps,PR.wp,AC.wp,hi,B,C,AP];refine⟨hd,p a,w,fun _=>?_⟩;rw[he];exact F
end
section
variable{S:FuncId->D2->Ah->Prop}{K:AA->Prop}{os:List PR}{O:AA}{d:Nat}
theorem ir(k:∀b,WO S K os ((d,.mx (.mp b []))::O)):WO S K (⟨some d,.tZ,none⟩::os) O:=
 ⟨fun b=>(k b).out⟩
variable{kvs:Bf}
theorem jA{s b:Nat}(h:O.get s=.mx (.mp b kvs))(k:WO S K os ((d,.tv (.sd b))::O)):WO S K (⟨some d,.uo s,none⟩::os) O:=by
 replace k:=k.out;refine⟨?_⟩;simp only[wpOps,PR.wp,AC.wp,h];exact k
variable{ky:Int×Int}
theorem iv{s b:Nat}{m x:AD}{t:TV}(h:O.get s=.mx (.mp b kvs))(o:m.val O=some (.sd b))(p:x.val O=some t)(u:t.tT?=some ky)(k:WO S K os ((d,.tp [.int .i64 ((kvs.look ky).getD 0),.bool (kvs.look ky).isSome])::O)):WO S K (⟨some d,.uK s m x,none⟩::os) O:=by
 replace k:=k.out;refine⟨?_⟩;simp only[wpOps,PR.wp,AC.wp,h,o,p,u,AP];exact⟨trivial,k⟩
theorem iz{s b:Nat}{m x v:AD}{t:TV}{n:Int}(h:O.get s=.mx (.mp b kvs))(o:m.val O=some (.sd b))(p:x.val O=some t)(u:t.tT?=some ky)(hv:v.val O=some (.int .i64 n))(k:WO S K os ((s,.mx (.mp b (kvs.set ky n)))::O)):WO S K (⟨none,.ul s m x v,none⟩::os) O:=by
 replace k:=k.out;refine⟨?_⟩;simp only[wpOps,PR.wp,AC.wp,h,o,p,u,hv,AP];exact⟨trivial,k⟩
variable{todo:Bf}
theorem ip{s:Nat}{p:(Int×Int)×Int}(h:O.get s=.mx (.mi (some p) todo))(k:WO S K os ((d,.tp [Kq p.1,.int .i64 p.2])::O)):WO S K (⟨some d,.ut s,none⟩::os) O:=by
 replace k:=k.out;refine⟨?_⟩;simp only[wpOps,PR.wp,AC.wp,h];exact k
theorem WZ{s b:Nat}{ts:D2}(h:O.get s=.mx (.tm b kvs ts))(k:WO S K os ((d,.tp (.sd b::ts))::O)):WO S K (⟨some d,.uo s,none⟩::os) O:=by
 replace k:=k.out;refine⟨?_⟩;simp only[wpOps,PR.wp,AC.wp,h];exact k
theorem WY{s:Nat}{ts:D2}(h:O.get s=.tp ts)(k:WO S K os ((d,.tp ts)::O)):WO S K (⟨some d,.uo s,none⟩::os) O:=by
 replace k:=k.out;refine⟨?_⟩;simp only[wpOps,PR.wp,AC.wp,h];exact k
theorem ZU{s b:Nat}{ts:D2}{m:AD}(h:O.get s=.mx (.tm b kvs ts))(o:m.val O=some (.sd b))(hd:d≠s)(k:WO S K os ((d,.mx (.mi none kvs))::(s,.undef)::O)):WO S K (⟨some d,.rm s m,none⟩::os) O:=by
 replace k:=k.out;refine⟨?_⟩;simp only[wpOps,PR.wp,AC.wp,h,o];exact⟨⟨hd,trivial⟩,k⟩
theorem iw{s:Nat}{last:Option ((Int×Int)×Int)}(h:O.get s=.mx (.mi last todo))(hd:d≠s)(u:todo=[]->WO S K os ((d,.tp [.bool false])::O))(w:∀p o,todo.Perm (p::o)->WO S K os ((d,.tp [.bool true,Kq p.1,.int .i64 p.2])::(s,.mx (.mi (some p) o))::O)):WO S K (⟨some d,.uA s,none⟩::os) O:=by
 refine ⟨?_⟩;simp only[wpOps,PR.wp,AC.wp,h];exact⟨hd,fun e=>(u e).out,fun p t A=>(w p t A).out⟩
theorem X6{f:FuncId}{args:List AD}{ts us:D2}(hv:vals O args=some ts)(h:S f ts (.mpr kvs us))(k:∀b,WO S K os ((d,.mx (.tm b kvs us))::O)):WO S K (⟨some d,.sA f args,none⟩::os) O:=by
 refine ⟨?_⟩;simp only[wpOps,PR.wp,AC.wp,hv,AP];exact .inr ⟨kvs,us,h,fun _ b=>(k b).out⟩
theorem X5{f:FuncId}{args:List AD}{ts us:D2}(hv:vals O args=some ts)(h:S f ts (.tp us))(k:WO S K os ((d,.tp us)::O)):WO S K (⟨some d,.sA f args,none⟩::os) O:=by
 refine ⟨?_⟩;simp only[wpOps,PR.wp,AC.wp,hv,AP];exact .inl ⟨us,h,fun _=>k.out⟩
theorem HK{ss:Fq}{s:Nat}{r:AA}{m:MX}(h:O.get s=.mx m)(k:Kp O ss r):Kp O (s::ss) ((s,.mx m)::r):=Io h k
theorem g7{ss:Fq}{s:Nat}{r:AA}{q:List (Nat×EV)}{m:MX}(h:look q s=none)(o:O.get s=.mx m)(k:Nm O q ss r):Nm O q (s::ss) ((s,.mx m)::r):=KS h o k
end
def Ip(r:Bf×Int):Ah:=if r.2=0 then .mpr r.1 [.int .i64 r.2]else .tp [.undef,.int .i64 r.2]
structure jY(o:Nat):Prop where
variable{kvs:Bf}
theorem aM{h:List RV}{O:AA}{e:Int}(he:(!decide (e=0))=true)(o:h.length≠1)(p:DC O h=some [.undef,.int .i64 e]):Bj h (Ip (kvs,e)) O:=by
 simp only[Bool.not_eq_true',decide_eq_false_iff_not]at he;simp only[Ip,a6 he];exact⟨o,p⟩
theorem aN{s o b:Nat}{h:List RV}{O:AA}(_:jY o)(p:O.get s=.tv (.sd b))(u:O.get o=.mx (.mp b kvs))(w:h≠[])(A:DC O h=some [.int .i64 0]):Bj (.tmp s::h) (Ip (kvs,0)) O:=by
 simp only[Ip,if_true,Bj];exact⟨w,⟨b,o,p,u⟩,A⟩
section
variable{P:Program}{α β:Type}{K:AA->Prop}{os:List PR}{O:AA}{d:Nat}{x:Option α}{k:α->Option β}{r:β}{f:FuncId}{args:List AD}{ts:D2}{R:α->Ah}
theorem XD{i s:Nat}{cs:List AJ}{q:α->Bool}{u v:α->List AJ}{us:α->D2}{e:α->EV}(h:x.bind k=some r)(c:Ct P x f ts R)(A:(args[i]?).bind (·.place O)=some (s,0))(B:O.get s=.bx cs)(C:O.s8 s none=true)(hd:d≠s)(D:FC O i args=some ts)(E:∀a,R a=.bo cs (if q a=true then u a else v a) i (us a))(he:∀a,EV.ofs (us a)=e a)
  (F:∀a,x=some a->q a=true->k a=some r->WO (AI P) K os ((d,e a)::(s,.bx (u a))::O))(G:∀a,x=some a->q a=false->k a=some r->WO (AI P) K os ((d,e a)::(s,.bx (v a))::O)):WO (AI P) K (⟨some d,.rJ f args i,none⟩::os) O:=by
 refine TW h c A B C hd D E he (fun a o p=>?_);cases w:q a with
 |true=>rw[QQ rfl];exact F a o w p|false=>rw[a6 (by simp)];exact G a o w p
end
section
variable{S:FuncId->D2->Ah->Prop}{a b:PC}{O:AA}
variable{Q:Q}
theorem bw{c:AD}{β:Type}{q:Bool}{u v:Option β}{r:β}(p:c.val O=some (.bool q))(h:(if q=true then u else v)=some r)(o:q=true)(k:u=some r->WP S a Q O):WP S (.cond c a b) Q O:=
 Ld p o (k (Pz o h))
theorem bv{c:AD}{β:Type}{q:Bool}{u v:Option β}{r:β}(p:c.val O=some (.bool q))(h:(if q=true then u else v)=some r)(o:q=false)(k:v=some r->WP S b Q O):WP S (.cond c a b) Q O:=
 Lc p o (k (Py o h))
end
end Go.Sf
set_option maxRecDepth 100000
namespace Go.Sf
theorem au{P:Prop}(p:P:=by
 repeat' (first
  |(show WO _ _ _ _;first
    |(apply KG;exact rfl)
    |(apply eM;exact rfl;exact rfl)
    |(apply ib;exact rfl)
    |(apply Mi;exact rfl;exact rfl)
    |(apply jN;exact rfl)
    |(apply ko;exact rfl)
    |apply Ib
    |(apply ZQ;exact rfl)
    |(apply ZP;exact rfl)
    |(apply WX;exact rfl;exact rfl)
    |(apply WU;exact rfl)
    |(apply gW;exact rfl;assumption)
    |(apply cu;exact rfl;assumption)
    |(apply kM;exact rfl)
    |(apply bG;exact rfl;assumption;exact rfl)
    |(apply bF;exact rfl;assumption;exact rfl)
    |(apply iT;exact rfl;exact rfl)
    |(apply im;exact rfl;exact rfl)
    |(apply iL;exact rfl;exact rfl)
    |(apply VJ;exact rfl;exact rfl)
    |(apply il;exact rfl;exact rfl)
    |(apply jM;exact rfl;exact rfl)
    |(apply iX;exact rfl;exact rfl)
    |(apply iW;exact rfl;exact rfl)
    |(apply WV;exact rfl;exact rfl)
    |(apply ij;exact rfl;(first|exact rfl|exact Ml.eq))
    |(apply fT;exact h;exact rfl;exact rfl;(first|exact rfl|exact Ml.eq);intro x o h)
    |(apply bu;exact h;infer_instance;exact rfl;exact fun _=>rfl;intro x o h)|(apply Zp;exact h;infer_instance;exact rfl;exact fun _=>rfl;intro x o h)|(apply Zq;assumption;exact h;infer_instance;exact rfl;exact fun _=>rfl;intro x o h)|(apply Zo;exact h;infer_instance;exact rfl;exact fun _=>rfl;intro x o h)|(apply Zs;exact h;infer_instance;exact rfl;exact fun _=>rfl;intro x o h)|(apply Zl;exact h;infer_instance;exact rfl;exact fun _=>rfl;intro x o h)
    |(apply fS h (ho:=rfl);(focus ((repeat(first|apply GS.step|(apply GS.uP;exact rfl)));exact GS.done));exact rfl;exact rfl;intro v B C h;rotate_left;intro v B C h;rotate_left;intro v h;rotate_left)
    |(apply fR h (ho:=rfl);(focus ((repeat(first|apply GS.step|(apply GS.uP;exact rfl)));exact GS.done));exact rfl;exact rfl;intro v B C h;rotate_left;intro v B C h;rotate_left;intro v h;rotate_left)
    |(apply fQ rfl;(focus ((repeat(first|apply GS.step|(apply GS.uP;exact rfl)));exact GS.done));exact rfl;exact rfl;intro B C;rotate_left;intro B C;rotate_left 3)
    |(apply fP rfl;(focus ((repeat(first|apply GS.step|(apply GS.uP;exact rfl)));exact GS.done));exact rfl;exact rfl;intro B C;rotate_left;intro B C;rotate_left 3)
    |apply b8
    |apply eT
    |(apply bj;exact h;exact rfl;exact rfl;(first|exact rfl|exact Ml.eq);(first|exact rfl|exact Ml.eq);infer_instance;intro x o h)
    |(apply fK;exact h;exact rfl;exact rfl;(first|exact rfl|exact Ml.eq);(first|exact rfl|exact Ml.eq);intro x o h)
    |(apply cE;exact rfl;(focus ((repeat(apply Lm.cons;exact rfl));exact Lm.nil));exact fun _=>rfl;infer_instance)|(apply cD;exact rfl;(focus ((repeat(apply Lm.cons;exact rfl));exact Lm.nil));exact fun _=>rfl)
    |(apply fX;exact rfl;exact rfl)
    |(apply fW;(with_reducible exact h);infer_instance;exact rfl;exact rfl;exact rfl;intro x o h)
    |(apply Y2;exact rfl;exact rfl;exact rfl)
    |(apply fV;exact rfl;exact rfl;exact rfl;exact rfl)
    |(apply ZS;exact rfl;exact rfl;exact rfl)
    |(apply cA;exact rfl;exact rfl;exact rfl)
    |(apply Rg;exact rfl;exact rfl;exact rfl)
    |(apply cI;exact rfl;exact rfl;exact rfl;exact rfl)
    |(apply ZV;exact rfl;exact rfl;exact rfl;exact rfl;exact rfl)
    |(apply ed;exact rfl;exact rfl;decide;exact rfl;exact rfl)
    |(apply fh;exact rfl;exact rfl;exact rfl;exact rfl;exact rfl;(focus ((repeat(apply NL.cons;exact rfl));exact NL.nil rfl)))
    |(apply cJ;exact rfl;exact rfl;exact rfl;decide;exact rfl;(focus ((repeat(apply NL.cons;exact rfl));exact NL.nil rfl)))
    |(apply eb;exact rfl;exact rfl;exact rfl;exact rfl;exact rfl;exact rfl)
    |(apply ZW;exact rfl;exact rfl;exact rfl;decide;exact rfl;exact rfl)
    |(apply ig;exact rfl;exact rfl;exact rfl;exact rfl;exact rfl)
    |(apply bq;(with_reducible exact h);infer_instance;exact rfl;exact rfl;exact rfl;intro x o h)
    |(apply eA;exact rfl;exact rfl;exact rfl;exact rfl)
    |(apply br;exact rfl;exact rfl;exact rfl;(focus ((repeat(apply NT.cons;exact rfl));exact NT.nil rfl)))
    |(apply Rf;exact rfl;exact rfl;exact rfl)
    |(apply iO;exact rfl)
    |(apply Zr;exact h;infer_instance;exact rfl;exact rfl;exact rfl;exact fun _=>rfl;intro x o h)|(apply XI;exact h;infer_instance;exact rfl;exact rfl;exact rfl;exact fun _=>rfl;intro x o h)|(apply XH;exact h;infer_instance;exact rfl;exact rfl;exact rfl;exact fun _=>rfl;intro x o h)
    |(apply fg;exact h;exact rfl;(first|exact rfl|exact Ml.eq);exact rfl;exact rfl;intro x o h)
    |(apply eY;exact rfl)
    |(apply cG;exact h;exact rfl;exact rfl;intro x o h)
    |(apply cH;exact h;exact rfl;exact rfl;exact rfl;intro x o h)
    |(apply jE;exact rfl)
    |(apply iy;exact rfl;exact rfl)
    |(apply io;exact rfl;exact rfl)
    |(apply iq;exact rfl;exact rfl)
    |(apply jC;exact rfl)
    |(apply iS;exact rfl)
    |(apply jB;exact rfl)
    |(apply iM;exact rfl)
    |(apply eF;exact rfl;exact rfl;exact rfl;exact rfl)
    |(apply eG;exact rfl;exact rfl;exact rfl)
    |(apply fO;exact rfl;infer_instance)
    |(apply eJ;exact rfl;exact rfl;exact rfl)
    |(apply bE;exact rfl;exact rfl;exact rfl)
    |(apply eW;exact rfl;exact rfl)
    |(apply eZ;exact rfl;exact rfl)
    |(apply d9;exact rfl;exact rfl)
    |(apply eD;exact rfl;exact rfl)
    |(apply be;exact rfl;exact rfl;infer_instance;exact rfl;exact rfl;exact rfl)
    |(apply bg;exact rfl;exact rfl;infer_instance;exact rfl;exact rfl;exact rfl)
    |refine bf rfl rfl rfl rfl rfl ?_
    |refine bh rfl rfl rfl rfl rfl ?_
    |(apply jP;exact rfl)
    |(apply eU;exact rfl)
    |(apply jO;exact rfl;exact rfl;decide)
    |(apply jH;exact rfl;decide)
    |(apply ee;exact rfl;(first|exact rfl|exact Ml.eq))
    |(apply fl;exact h;exact rfl;exact rfl;(first|exact rfl|exact Ml.eq);exact rfl;intro x o h)
    |(apply jQ;exact rfl;exact rfl)
    |(apply cK;exact rfl;exact rfl;exact rfl;exact fun _=>rfl;assumption;exact rfl;exact rfl;exact rfl)|(apply fm;exact rfl;exact rfl;exact rfl;exact fun _=>rfl;assumption;exact rfl;exact rfl;exact rfl)|(apply cM;assumption;exact rfl;exact rfl;exact rfl;exact rfl;exact fun _=>rfl;assumption;exact rfl;exact rfl;exact rfl;exact rfl)|(apply cL;exact rfl;exact rfl;exact rfl;exact rfl;exact fun _=>rfl;assumption;exact rfl;exact rfl;exact rfl;exact rfl)|(apply cN;assumption;exact rfl;exact rfl;exact rfl;exact fun _=>rfl;exact rfl;(focus ((repeat(apply NT.cons;exact rfl));exact NT.nil rfl));exact rfl;exact fun _ _ _=>rfl;assumption;exact rfl;exact rfl)|(apply fo;exact rfl;exact rfl;exact rfl;exact fun _=>rfl;exact rfl;assumption;exact rfl;exact rfl)
    |(apply bl;exact h;exact rfl;exact rfl;(first|exact rfl|exact Ml.eq);(first|exact rfl|exact Ml.eq);exact rfl;decide;intro x o h)
    |(apply bn;exact h;exact rfl;exact rfl;exact rfl;exact rfl;exact rfl;decide;exact rfl;exact rfl;intro x o h)
    |(apply fM;exact h;exact rfl;exact rfl;exact rfl;exact rfl;decide;intro x o h)
    |(apply fY;exact h;exact rfl;exact rfl;exact rfl;intro x o h)
    |(apply Zt;exact h;infer_instance;exact rfl;exact rfl;exact fun _=>rfl;intro x o h)|(apply XJ;exact h;infer_instance;exact rfl;exact rfl;exact fun _=>rfl;exact fun _=>rfl;intro x o h)|(apply Zm;exact h;infer_instance;exact rfl;exact fun _=>rfl;exact fun _=>rfl;intro x o h)|(apply XG;exact h;infer_instance;exact rfl;exact fun _=>rfl;exact fun _=>rfl;intro x o h)|(apply XF;exact h;infer_instance;exact rfl;exact fun _=>rfl;exact fun _=>rfl;intro x o h)|(apply Zk;exact h;infer_instance;exact rfl;exact fun _=>rfl;intro x o h)|(apply XD;exact h;infer_instance;exact rfl;exact rfl;exact rfl;decide;exact rfl;exact fun _=>rfl;exact fun _=>rfl;intro x o C h;rotate_left;intro x o C h;rotate_left)|(apply TW;exact h;infer_instance;exact rfl;exact rfl;exact rfl;decide;exact rfl;exact fun _=>rfl;exact fun _=>rfl;intro x o h)|(apply Zn;exact h;infer_instance;exact rfl;exact rfl;exact fun _=>rfl;intro x o h)
    |(apply Zi;exact h;infer_instance;exact rfl;exact rfl;decide;exact rfl;intro x o h)
    |(apply Zj;exact h;infer_instance;exact rfl;exact fun _=>rfl;intro x o h)
    |(apply fb;exact h;exact rfl;exact rfl;intro x o h)
    |(apply fc;exact h;exact rfl;exact rfl;intro x o h)
    |(apply fL;exact h;exact rfl;exact rfl;decide;intro x o h)
    |(apply cF;exact h;exact rfl;exact rfl;intro x o h)
    |(apply eK;exact rfl)
    |(apply iU;exact rfl;exact rfl)
    |(apply ii;exact rfl;exact rfl;exact rfl)
    |(apply fU;exact h;exact rfl;(first|exact rfl|exact Ml.eq);intro u h)
    |(apply ZR;exact rfl;exact rfl;intro z D;replace h:=Z2 h z D)
    |(apply iZ;exact rfl;exact rfl)
    |(apply iQ;exact rfl;exact rfl;exact rfl;exact rfl;exact rfl)
    |(apply iP;exact rfl;exact rfl;exact rfl;exact rfl;exact rfl;exact rfl)
    |(apply eC;decide;decide;exact rfl;exact rfl)
    |(apply eQ;exact rfl)
    |(apply jL;exact rfl;exact rfl;decide;exact rfl;exact rfl;exact rfl;exact rfl)
    |(apply dz;exact rfl;exact rfl;exact rfl)
    |(apply ia;exact rfl;exact rfl)
    |(apply fZ;exact h;exact rfl;exact rfl;exact rfl;(first|exact rfl|exact Ml.eq);intro x o h)
    |(apply jD;exact rfl;exact rfl;(first|exact rfl|exact Ml.eq);assumption)
    |(apply fa;exact h;exact rfl;exact rfl;exact rfl;(first|exact rfl|exact Ml.eq);exact fun _=>rfl;assumption;intro x o h)
    |(apply jF;exact rfl;exact rfl;exact rfl;(first|exact rfl|exact Ml.eq);exact fun _=>rfl;assumption;assumption;exact rfl;exact rfl;exact rfl;exact rfl)
    |(apply eP;exact rfl;exact rfl;decide)
    |(apply bi;exact h;exact rfl;exact rfl;exact rfl;exact rfl;(first|exact rfl|exact Ml.eq);exact rfl;exact rfl;decide;exact rfl;intro x o h)
    |(apply eH;exact rfl;exact rfl;exact rfl;exact rfl;exact rfl;exact rfl)
    |(apply eE;exact rfl;exact rfl;decide)
    |(apply ic;exact rfl;exact rfl;decide;exact rfl)
    |(apply jK;exact rfl;exact rfl;exact rfl;exact rfl;exact rfl;exact rfl;exact rfl;exact rfl)
    |(apply XE;exact h;infer_instance;exact rfl;exact fun _=>rfl;exact fun _=>rfl;exact fun _=>rfl;intro x o h)|(apply Zh;exact h;infer_instance;exact rfl;exact rfl;decide;exact rfl;exact rfl;exact fun _=>rfl;exact fun _=>rfl;intro x o h)
    |(apply ir;intro b;have K:=K b)
    |(apply jA;exact rfl)
    |(apply WZ;exact rfl)
    |(apply WY;exact rfl)
    |(apply ip;exact rfl)
    |(apply ZU;exact rfl;exact rfl;decide)
    |(apply iv;exact rfl;exact rfl;exact rfl;exact rfl)
    |(apply iz;exact rfl;exact rfl;exact rfl;exact rfl;exact rfl))
  |(show WP _ _ _ _;first
    |with_reducible apply fN
    |apply HC
    |apply KL
    |(apply b7;exact rfl)
    |(apply fe;exact rfl;exact rfl)
    |apply Ru
    |apply UK
    |apply Vi
    |(apply Ld;exact rfl;with_reducible rfl)
    |(apply Lc;exact rfl;with_reducible rfl)
    |(apply b9;exact rfl;exact h;assumption;exact rfl;intro w C h;rotate_left;intro w C h;rotate_left;intro w h;rotate_left)
    |(apply bw;exact rfl;exact h;assumption;intro h)
    |(apply bv;exact rfl;exact h;assumption;intro h)
    |(apply bz;exact rfl;exact h;intro C h;rotate_left;intro C h;rotate_left)
    |(apply Ld;exact rfl;apply lC;assumption)
    |(apply Lc;exact rfl;apply kJ;assumption)
    |(apply Vj;assumption;exact h;exact A;(first|exact NV rfl (by first|exact rfl|exact Ml.eq)|exact NU rfl|exact K9 rfl rfl (by first|exact rfl|exact Ml.eq)|exact K8 rfl rfl|exact NX rfl|exact NW rfl (by first|exact rfl|exact Ml.eq)|exact NZ rfl rfl|exact NY|exact NS (by decide));exact rfl;exact rfl;exact fun _ _=>rfl;intro i s r hi h A;rotate_left;intro i s hi;clear h;rotate_left;intro s h;rotate_left)
    |(apply Vj;apply HB.a;assumption;exact h;exact A;(first|exact NV rfl (by first|exact rfl|exact Ml.eq)|exact NU rfl|exact K9 rfl rfl (by first|exact rfl|exact Ml.eq)|exact K8 rfl rfl|exact NX rfl|exact NW rfl (by first|exact rfl|exact Ml.eq)|exact NZ rfl rfl|exact NY|exact NS (by decide));exact rfl;exact rfl;exact fun _ _=>rfl;intro i s r hi h A;rotate_left;intro i s hi;clear h;rotate_left;intro s h;rotate_left)
    |(apply Vm;assumption;assumption;exact rfl;exact h;exact A;(first|exact NV rfl (by first|exact rfl|exact Ml.eq)|exact NU rfl|exact K9 rfl rfl (by first|exact rfl|exact Ml.eq)|exact K8 rfl rfl|exact NX rfl|exact NW rfl (by first|exact rfl|exact Ml.eq)|exact NZ rfl rfl|exact NY|exact NS (by decide));exact rfl;exact rfl;exact fun _ _=>rfl;intro i s r hi h A;rotate_left;intro i s hi;clear h;rotate_left;intro s h;rotate_left)
    |(apply Vm;apply HB.a;assumption;assumption;exact rfl;exact h;exact A;(first|exact NV rfl (by first|exact rfl|exact Ml.eq)|exact NU rfl|exact K9 rfl rfl (by first|exact rfl|exact Ml.eq)|exact K8 rfl rfl|exact NX rfl|exact NW rfl (by first|exact rfl|exact Ml.eq)|exact NZ rfl rfl|exact NY|exact NS (by decide));exact rfl;exact rfl;exact fun _ _=>rfl;intro i s r hi h A;rotate_left;intro i s hi;clear h;rotate_left;intro s h;rotate_left)
    |(apply Vl;assumption;exact h;exact A;(first|exact NV rfl (by first|exact rfl|exact Ml.eq)|exact NU rfl|exact K9 rfl rfl (by first|exact rfl|exact Ml.eq)|exact K8 rfl rfl|exact NX rfl|exact NW rfl (by first|exact rfl|exact Ml.eq)|exact NZ rfl rfl|exact NY|exact NS (by decide));exact rfl;exact rfl;exact fun _ _=>rfl;intro i s r hi h A;rotate_left;intro i s hi;clear h;rotate_left;intro s h;rotate_left)
    |(apply Vl;apply HB.a;assumption;exact h;exact A;(first|exact NV rfl (by first|exact rfl|exact Ml.eq)|exact NU rfl|exact K9 rfl rfl (by first|exact rfl|exact Ml.eq)|exact K8 rfl rfl|exact NX rfl|exact NW rfl (by first|exact rfl|exact Ml.eq)|exact NZ rfl rfl|exact NY|exact NS (by decide));exact rfl;exact rfl;exact fun _ _=>rfl;intro i s r hi h A;rotate_left;intro i s hi;clear h;rotate_left;intro s h;rotate_left)
    |(apply Vk;assumption;exact h;exact A;(first|exact NV rfl (by first|exact rfl|exact Ml.eq)|exact NU rfl|exact K9 rfl rfl (by first|exact rfl|exact Ml.eq)|exact K8 rfl rfl|exact NX rfl|exact NW rfl (by first|exact rfl|exact Ml.eq)|exact NZ rfl rfl|exact NY|exact NS (by decide));exact rfl;exact rfl;exact fun _ _=>rfl;intro i s r hi h A;rotate_left;intro i s hi;clear h;rotate_left;intro s h;rotate_left)
    |(apply Vk;apply HB.a;assumption;exact h;exact A;(first|exact NV rfl (by first|exact rfl|exact Ml.eq)|exact NU rfl|exact K9 rfl rfl (by first|exact rfl|exact Ml.eq)|exact K8 rfl rfl|exact NX rfl|exact NW rfl (by first|exact rfl|exact Ml.eq)|exact NZ rfl rfl|exact NY|exact NS (by decide));exact rfl;exact rfl;exact fun _ _=>rfl;intro i s r hi h A;rotate_left;intro i s hi;clear h;rotate_left;intro s h;rotate_left)
    |(apply fk;assumption;assumption;exact rfl;exact h;exact rfl;exact rfl;intro s r h A;rotate_left;intro s h;rotate_left)
    |(apply fj;assumption;exact h;exact rfl;exact rfl;intro s r h A;rotate_left;intro s h;rotate_left)
    |(apply fi;assumption;exact h;exact rfl;exact rfl;intro s r h A;rotate_left;intro s h;rotate_left)
    |apply TU
    |cases h)
  |(show Kp _ _ _;first
    |exact FX
    |(apply HM;exact rfl)
    |(apply gi;exact rfl)
    |(apply HI;exact rfl)
    |(apply gk;exact rfl)
    |(apply gf;exact rfl)
    |(apply HL;exact rfl)
    |(apply HN;exact rfl)
    |(apply gh;exact rfl)
    |(apply gj;exact rfl)
    |(apply dI;exact rfl)
    |(apply HK;exact rfl))
  |(show Nm _ _ _ _;first
    |exact dN
    |(apply dM;exact rfl)
    |(apply hO;exact rfl;exact rfl)
    |(apply g8;exact rfl;exact rfl)
    |(apply gw;exact rfl;exact rfl)
    |(apply iA;exact rfl;exact rfl)
    |(apply gv;exact rfl;exact rfl)
    |(apply g9;exact rfl;exact rfl)
    |(apply hU;exact rfl;exact rfl)
    |(apply gx;exact rfl;exact rfl)
    |(apply g7;exact rfl;exact rfl))
  |apply aC
  |(apply Xa;intro j)
  |apply aB
  |exact V3 rfl
  |(cases h;exact V3 rfl)
  |apply R5
  |(apply Z7;decide)
  |intro A
  |(cases h;first|exact rfl|exact⟨rfl⟩|exact⟨rfl,rfl⟩|exact⟨_,rfl,rfl⟩|exact⟨_,rfl,⟨rfl⟩⟩|exact⟨rfl,_,rfl,⟨rfl⟩⟩|exact⟨by decide,rfl⟩|exact⟨_,rfl,by decide,rfl⟩|exact⟨_,rfl,rfl,rfl⟩|exact aN (by assumption) rfl rfl (by decide) rfl|exact⟨_,rfl,aM (by first|assumption|decide) (by decide) rfl⟩)
  |exact⟨rfl,⟨rfl⟩⟩)):P:=p
end Go.Sf
