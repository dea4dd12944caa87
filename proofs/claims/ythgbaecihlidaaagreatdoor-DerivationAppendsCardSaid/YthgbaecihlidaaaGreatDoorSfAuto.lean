/- Contracts that are found by themselves: rules that take the typed text along, and the script that applies them. -/
import Derived.Test.YthgbaecihlidaaaGreatDoorSfK
import Derived.Test.YthgbaecihlidaaaGreatDoorSfStep
import Derived.Test.YthgbaecihlidaaaGreatDoorSfLib
set_option linter.all false
namespace Go.Sf
class Ct(P:Program){α:Type}(x:Option α)(f:outParam FuncId)(ts:outParam Fq)(R:outParam (α->Az)):Prop where
 snd:∀r,x=some r->AO P f ts (R r)
class Ml(es:Fq){α:outParam Type}(e:outParam (α->TV))(l:outParam (List α)):Prop where
 eq:es=l.map e
class dI{α:Type}(e:α->TV)where
 un:Fq->α
 dec:∀a b,∃i:Decidable (a=b),B5 (e a).cells (e b).cells=some (@decide (a=b) i)
class Fz(cs:List AQ)(row:outParam Fq):Prop where
 h:cs.map (·.t)=row
instance(priority:=high){l:Fq}:Fz (l.map fun x=>(⟨false,x⟩:AQ)) l:=⟨by rw[List.map_map];exact List.map_id _⟩
instance(priority:=low){cs:List AQ}:Fz cs (cs.map (·.t)):=⟨rfl⟩
class En(α:Type)(e:outParam (α->TV)):Prop where
class Fl{α:Type}(e:α->TV)(n:outParam Nat)(f:outParam (List α->TV)):Prop where
 eq:∀l,f l=.list n (l.map e)
structure Kp(O:AB)(l:QQ)(r:AB):Prop where
 of::out:O.fu l=r
def look:List (Nat×EV)->Nat->Option EV
 |[],_=>none|(k,e)::r,n=>if k=n then some e else look r n
def mrg(O:AB)(m:List (Nat×EV)):QQ->AB
 |[]=>[]|s::ss=>(s,(look m s).getD (O.get s))::mrg O m ss
structure Nm(O:AB)(m:List (Nat×EV))(l:QQ)(r:AB):Prop where
 of::out:mrg O m l=r
structure Rn(a b:AB):Prop where
 of::out:a=b
structure HJ{σ:Type}(n:Nat)(M:σ->List (Nat×EV)):Prop where
structure HA{σ:Type}(n EO q i:Nat)(M:Int->σ->List (Nat×EV)):Prop where
structure HB{σ:Type}(n EO q i:Nat)(M:Int->σ->List (Nat×EV)):Prop where
theorem HB.a{σ:Type}{n EO q i:Nat}{M:Int->σ->List (Nat×EV)}(_:HB n EO q i M):HA n EO q i M:=⟨⟩
structure HW{σ:Type}(n:Nat)(M:σ->List (Nat×EV)):Prop where
structure HR{β:Type}(R:β->AB->Prop):Prop where
structure HS(n:Nat):Prop where
structure HX{α γ:Type}(n:Nat)(f:α->γ->α):Prop where
structure XU(g:Nat)(b q:Bool):Prop where
 of::out:q=b
structure Tg(g:Nat)(b q:Bool):Prop where
 of::out:q=!b
def KR(n:AB->Prop)(l:QQ):AB->Prop:=fun e=>n (e.fu l)
section
variable{O:AB}{s:Nat}{ss:QQ}{r:AB}{m:List (Nat×EV)}
theorem Hc:Kp O [] []:=⟨rfl⟩
theorem MG{e:EV}(h:O.get s=e)(k:Kp O ss r):Kp O (s::ss) ((s,e)::r):=⟨by rw[<-k.out,<-h];rfl⟩
theorem Ji{t:TV}(h:O.get s=.tv t)(k:Kp O ss r):Kp O (s::ss) ((s,.tv t)::r):=MG h k
theorem sL{t:TV}(h:O.get s=.ow t)(k:Kp O ss r):Kp O (s::ss) ((s,.ow t)::r):=MG h k
theorem Jf{t:List AQ}(h:O.get s=.bx t)(k:Kp O ss r):Kp O (s::ss) ((s,.bx t)::r):=MG h k
theorem sJ{q o:Nat}(h:O.get s=.bp q o)(k:Kp O ss r):Kp O (s::ss) ((s,.bp q o)::r):=MG h k
theorem Jh{t:Fq}(h:O.get s=.tp t)(k:Kp O ss r):Kp O (s::ss) ((s,.tp t)::r):=MG h k
theorem Jj(h:O.get s=.undef)(k:Kp O ss r):Kp O (s::ss) ((s,.undef)::r):=MG h k
theorem sN{n:Nat}{t:Fq}(h:O.get s=.xo n t)(k:Kp O ss r):Kp O (s::ss) ((s,.xo n t)::r):=MG h k
theorem sK{q:Nat}{i:Option Nat}(h:O.get s=.la q i)(k:Kp O ss r):Kp O (s::ss) ((s,.la q i)::r):=MG h k
theorem sM(h:O.get s=.sk)(k:Kp O ss r):Kp O (s::ss) ((s,.sk)::r):=MG h k
theorem pA{t:List AQ}(h:O.get s=.oag t)(k:Kp O ss r):Kp O (s::ss) ((s,.oag t)::r):=MG h k
theorem pF:Nm O m [] []:=⟨rfl⟩
theorem pE{e:EV}(h:look m s=some e)(k:Nm O m ss r):Nm O m (s::ss) ((s,e)::r):=⟨by rw[<-k.out];simp only[mrg,h,Option.getD_some]⟩
theorem OW{e:EV}(h:look m s=none)(o:O.get s=e)(k:Nm O m ss r):Nm O m (s::ss) ((s,e)::r):=⟨by rw[<-k.out];simp only[mrg,h,o,Option.getD_none]⟩
theorem sZ{t:TV}(h:look m s=none)(o:O.get s=.tv t)(k:Nm O m ss r):Nm O m (s::ss) ((s,.tv t)::r):=OW h o k
theorem sX{t:TV}(h:look m s=none)(o:O.get s=.ow t)(k:Nm O m ss r):Nm O m (s::ss) ((s,.ow t)::r):=OW h o k
theorem sU{t:List AQ}(h:look m s=none)(o:O.get s=.bx t)(k:Nm O m ss r):Nm O m (s::ss) ((s,.bx t)::r):=OW h o k
theorem sT{q o:Nat}(h:look m s=none)(p:O.get s=.bp q o)(k:Nm O m ss r):Nm O m (s::ss) ((s,.bp q o)::r):=OW h p k
theorem sY{t:Fq}(h:look m s=none)(o:O.get s=.tp t)(k:Nm O m ss r):Nm O m (s::ss) ((s,.tp t)::r):=OW h o k
theorem sa(h:look m s=none)(o:O.get s=.undef)(k:Nm O m ss r):Nm O m (s::ss) ((s,.undef)::r):=OW h o k
theorem sb{n:Nat}{t:Fq}(h:look m s=none)(o:O.get s=.xo n t)(k:Nm O m ss r):Nm O m (s::ss) ((s,.xo n t)::r):=OW h o k
theorem sV{q:Nat}{i:Option Nat}(h:look m s=none)(o:O.get s=.la q i)(k:Nm O m ss r):Nm O m (s::ss) ((s,.la q i)::r):=OW h o k
end
def PC.xl(i:Nat):PC->Option QQ
 |.exit j l=>if j=i then some l else none|.seq a b=>match a.xl i with
  |some l=>some l|none=>b.xl i
 |.cond _ a b=>match a.xl i with
  |some l=>some l|none=>b.xl i
 |.block _ a=>a.xl i|.loop _ a=>a.xl i|.rls _ a=>a.xl i|_=>none
def PC.last:PC->Option QQ
 |.region _ l=>some l|.draw _ _ l=>some l|.skip l=>some l|.exit _ l=>some l|.seq _ b=>b.last|.cond _ a _=>a.last|.block i (.loop _ b)=>b.xl i|.block _ c=>c.last|.rls _ c=>c.last|_=>none
section
variable{S:FuncId->Fq->Az->Prop}{K:AB->Prop}{os:List PR}{O:AB}{d:Nat}
section code
variable{n t:AB->Prop}{x:Nat->AB->Prop}{a b:PC}{l:QQ}{env':AB}
theorem L0(o:Kp O l env')(h:n env'):WO S (KR n l) [] O:=⟨by show n (O.fu l);rw[o.out];exact h⟩
theorem OO{ops:List PR}(h:WO S (KR n l) ops O):WP S (.region ops l) ⟨n,x,t⟩ O:=⟨h.out⟩
theorem oB{D:QQ}{ops:List PR}(hd:Qh O D=true)(h:WO S (KR n l) ops O):WP S (.draw D ops l) ⟨n,x,t⟩ O:=⟨hd,h.out⟩
theorem Jd(h:WP S a ⟨fun e=>(∀s,(e.get s).WF)->WP S b ⟨n,x,t⟩ e,x,t⟩ O):WP S (.seq a b) ⟨n,x,t⟩ O:=rt h
theorem Xa(o:Kp O l env')(h:n env'):WP S (.skip l) ⟨n,x,t⟩ O:=oW o.out h
theorem bK(h:t O):WP S .ret ⟨n,x,t⟩ O:=⟨h⟩
theorem dR{i:Nat}(o:Kp O l env')(h:x i env'):WP S (.exit i l) ⟨n,x,t⟩ O:=oV o.out h
theorem rM{s:Nat}{cs cs':List AQ}{c:PC}{q:Q}(h:O.get s=.bx cs)(he:cs.map AQ.rel=cs')(k:WP S c q ((s,.bx cs')::O)):WP S (.rls s c) q O:=by
 refine ⟨?_⟩;subst he;simp only[PC.wp,h];exact k.out
theorem Zs{i:Nat}(h:WP S a ⟨n,fun j e=>if j=i then n e else x j e,t⟩ O):WP S (.block i a) ⟨n,x,t⟩ O:=VU h
theorem qw{m:List (Nat×EV)}{e:AB}{q:Q}(he:Nm e m l env')(h:WP S a q env'):WP S a q (mrg e m l):=by rw[he.out];exact h
variable{Q:Q}
theorem oA{c:AE}{β:Type}{q:Bool}{u v:Option β}{r:β}(o:c.val O=some (.bool q))(h:(if q=true then u else v)=some r)(p:q=true->u=some r->WP S a Q O)(w:q=false->v=some r->WP S b Q O):WP S (.cond c a b) Q O:=
 UT o (fun e=>p e (Uo e h)) (fun e=>w e (Un e h))
theorem oD{σ β:Type}{i:Nat}{M:σ->List (Nat×EV)}{q:Bool}{u v:Option σ}{k:σ->Option β}{r:β}(p:(AE.s i).val O=some (.bool q))(h:((if q=true then u else v).bind k)=some r)(_:HJ i M)(_:(PC.cond (.s i) a b).last=some l)
  (A:∀w,q=true->u=some w->WP S a ⟨fun e=>Rn e (mrg O (M w) l),x,t⟩ O)(B:∀w,q=false->v=some w->WP S b ⟨fun e=>Rn e (mrg O (M w) l),x,t⟩ O)(C:∀w,k w=some r->n (mrg O (M w) l)):WP S (.cond (.s i) a b) ⟨n,x,t⟩ O:=by
 obtain ⟨w,o,h⟩:=bind_some h;refine rr (fun e=>Rn e (mrg O (M w) l)) ?_ (fun e he=>by rw[he.out];exact C w h);exact UT p (fun e=>A w e (Uo e o)) (fun e=>B w e (Un e o))
end code
structure Bd(O:AB)(q i:Nat)(b:Int):Prop where
 of::out:(∀s,(O.get s).WF)->b<=9223372036854775807
section bounds
variable{q i:Nat}{α:Type}{e:α->TV}{l:List α}{es row:Fq}{n:Nat}
theorem Ry{b:Int}(h:decide (b<=9223372036854775807)=true):Bd O q i b:=⟨fun _=>of_decide_eq_true h⟩
theorem R3{b:Int}:Bd O q i (AK b):=⟨fun _=>qf _⟩
theorem R0(h:O.get q=.tv (.list n es))(he:es=l.map e):Bd O q i l.length:=⟨fun o=>by have:=o q;rw[h]at this;exact TM (XQ this) he⟩
theorem R1(h:O.get q=.ow (.list n es))(he:es=l.map e):Bd O q i l.length:=⟨fun o=>by have:=o q;rw[h]at this;exact TM (tT this) he⟩
theorem R4(h:O.get q=.xo n es)(he:es=l.map e):Bd O q i l.length:=⟨fun o=>by have:=o q;rw[h]at this;exact TM (tU this) he⟩
theorem R2{b:ByteArray}(h:O.get q=.tv (.str b)):Bd O q i b.size:=⟨fun o=>by have:=o q;rw[h]at this;exact nZ (XQ this)⟩
theorem Rz{b:Int}(h:O.get q=.tv (.int .i64 b)):Bd O q i b:=⟨fun o=>by have:=o q;rw[h]at this;exact gO (XQ this)⟩
theorem PT(h:O.get q=.tv (.pt row))(o:row[i]?=some (.list n es))(he:es=l.map e):Bd O q i l.length:=⟨fun p=>by have:=p q;rw[h]at this;exact TM (a8 (lW this) o) he⟩
theorem PS{b:Int}(h:O.get q=.tv (.pt row))(o:row[i]?=some (.int .i64 b)):Bd O q i b:=⟨fun p=>by have:=p q;rw[h]at this;exact gO (a8 (lW this) o)⟩
end bounds
section loops
variable{σ β ρ:Type}{n t:AB->Prop}{x:Nat->AB->Prop}{c:PC}{live jl:QQ}{i0 EO q i1:Nat}{lo b:Int}{s0:σ}{r:β}{k:σ->Option β}
variable{M:Int->σ->List (Nat×EV)}
theorem qh(h:∀i s,(mrg O (M i s) live).get EO=.tv (.int .i64 i)){i:Int}{s:σ}(o:∀k,((mrg O (M i s) live).get k).WF)(hi:i<b)(p:b<=9223372036854775807):AK (i+1)=i+1:=by
 have:=o EO;rw[h]at this;exact tV (XQ this) hi p
theorem dT{f:Int->σ->Option σ}(_:HA i0 EO q i1 M)(h:(pq f lo b s0).bind k=some r)(p:∀s,(O.get s).WF)(u:Bd O q i1 b)(_:c.xl i0=some jl)(w:O.fu live=mrg O (M lo s0) live)(A:∀i s,(mrg O (M i s) live).get EO=.tv (.int .i64 i))
  (B:∀i s r,i<b->f i s=some r->(∀k,((mrg O (M i s) live).get k).WF)->WP S c ⟨fun e=>Rn (e.fu live) (mrg O (M (AK (i+1)) r) live),fun _ _=>False,fun _=>False⟩ (mrg O (M i s) live))
  (C:∀i s,¬i<b->WP S c ⟨fun _=>False,fun j e=>j=i0/\Rn e (mrg O (M 0 s) jl),fun _=>False⟩ (mrg O (M i s) live))
  (D:∀s,k s=some r->n (mrg O (M 0 s) jl)):WP S (.block i0 (.loop live c)) ⟨n,x,t⟩ O:=by
 obtain ⟨o,ho,h⟩:=bind_some h;have u:=u.out p;refine na ho (fun i s=>mrg O (M i s) live) (fun s=>mrg O (M 0 s) jl) w (fun i s r hi hf p=>⟨PC.o4 S c _ _ (B i s r hi hf p).out _ (fun e he=>?_) (fun _ _ h=>h) (fun _ h=>h)⟩) (fun i s hi=>⟨PC.o4 S c _ _ (C i s hi).out _ (fun _ h=>h) (fun j e h=>⟨h.1,h.2.out⟩) (fun _ h=>h)⟩) (D o h);have:=he.out;rw[qh A p hi u]at this;exact this
variable{kr:ρ->Option β}
theorem Vb{f:Int->σ->Option (Bu σ ρ)}{R:ρ->AB->Prop}(h:fl (kq f lo b s0) k kr=some r)(w:b<=9223372036854775807)(A:O.fu live=mrg O (M lo s0) live)(B:∀i s,(mrg O (M i s) live).get EO=.tv (.int .i64 i))
  (C:∀i s r,i<b->f i s=some r->(∀k,((mrg O (M i s) live).get k).WF)->WP S c ⟨fun e=>∃s',r=.next s'/\Rn (e.fu live) (mrg O (M (AK (i+1)) s') live),fun j e=>j=i0/\∃s',r=.brk s'/\Rn e (mrg O (M 0 s') jl),fun e=>∃v,r=.ret v/\R v e⟩ (mrg O (M i s) live))
  (D:∀i s,¬i<b->WP S c ⟨fun _=>False,fun j e=>j=i0/\Rn e (mrg O (M 0 s) jl),fun _=>False⟩ (mrg O (M i s) live))
  (E:∀s,k s=some r->n (mrg O (M 0 s) jl))(F:∀v e,kr v=some r->R v e->t e):WP S (.block i0 (.loop live c)) ⟨n,x,t⟩ O:=by
 obtain ⟨o,ho,h⟩:=VO h;refine bC ho (fun i s=>mrg O (M i s) live) (fun s=>mrg O (M 0 s) jl) R A (fun i s r hi hf u=>⟨PC.o4 S c _ _ (C i s r hi hf u).out _ (fun e he=>?_) (fun j e he=>?_) (fun _ h=>h)⟩) (fun i s hi=>⟨PC.o4 S c _ _ (D i s hi).out _ (fun _ h=>h) (fun j e h=>⟨h.1,h.2.out⟩) (fun _ h=>h)⟩) (fun s G=>E s (ar h G)) (fun v e hv=>F v e (av h hv))
 .obtain⟨s',p,e2⟩:=he;have e2:=e2.out;rw[qh B u hi w]at e2;exact⟨s',p,e2⟩
 .obtain⟨H,s',p,e2⟩:=he;exact⟨H,s',p,e2.out⟩
theorem dW{f:Int->σ->Option (Bu σ β)}{R:β->AB->Prop}(_:HA i0 EO q i1 M)(_:HR R)(o:R r=t)(h:fl (kq f lo b s0) k (fun v=>some v)=some r)(p:∀s,(O.get s).WF)(u:Bd O q i1 b)(_:c.xl i0=some jl)(w:O.fu live=mrg O (M lo s0) live)(A:∀i s,(mrg O (M i s) live).get EO=.tv (.int .i64 i))
  (B:∀i s r,i<b->f i s=some r->(∀k,((mrg O (M i s) live).get k).WF)->WP S c ⟨fun e=>∃s',r=.next s'/\Rn (e.fu live) (mrg O (M (AK (i+1)) s') live),fun j e=>j=i0/\∃s',r=.brk s'/\Rn e (mrg O (M 0 s') jl),fun e=>∃v,r=.ret v/\R v e⟩ (mrg O (M i s) live))
  (C:∀i s,¬i<b->WP S c ⟨fun _=>False,fun j e=>j=i0/\Rn e (mrg O (M 0 s) jl),fun _=>False⟩ (mrg O (M i s) live))
  (D:∀s,k s=some r->n (mrg O (M 0 s) jl)):WP S (.block i0 (.loop live c)) ⟨n,x,t⟩ O:=
 Vb h (u.out p) w A B C D (fun v e hv E=>by cases hv;rw[<-o];exact E)
variable{τ:Type}
theorem dV{f:Int->σ->Option (Bu σ ρ)}{k:σ->Option (Bu τ ρ)}{r:Bu τ ρ}{R:ρ->AB->Prop}(_:HA i0 EO q i1 M)(h:fl (kq f lo b s0) k (fun v=>some (.ret v))=some r)(o:∀s,(O.get s).WF)(p:Bd O q i1 b)(_:c.xl i0=some jl)(u:O.fu live=mrg O (M lo s0) live)(w:∀i s,(mrg O (M i s) live).get EO=.tv (.int .i64 i))
  (A:∀i s r,i<b->f i s=some r->(∀k,((mrg O (M i s) live).get k).WF)->WP S c ⟨fun e=>∃s',r=.next s'/\Rn (e.fu live) (mrg O (M (AK (i+1)) s') live),fun j e=>j=i0/\∃s',r=.brk s'/\Rn e (mrg O (M 0 s') jl),fun e=>∃v,r=.ret v/\R v e⟩ (mrg O (M i s) live))
  (B:∀i s,¬i<b->WP S c ⟨fun _=>False,fun j e=>j=i0/\Rn e (mrg O (M 0 s) jl),fun _=>False⟩ (mrg O (M i s) live))
  (C:∀s,k s=some r->n (mrg O (M 0 s) jl)):WP S (.block i0 (.loop live c)) ⟨n,x,fun e=>∃v,r=.ret v/\R v e⟩ O:=
 Vb h (p.out o) u w A B C (fun v e hv D=>by cases hv;exact⟨v,rfl,D⟩)
theorem dU{f:Int->σ->Option (Bu σ ρ)}(_:HA i0 EO q i1 M)(h:fl (kq f lo b s0) k (fun _=>none)=some r)(o:∀s,(O.get s).WF)(p:Bd O q i1 b)(_:c.xl i0=some jl)(u:O.fu live=mrg O (M lo s0) live)(w:∀i s,(mrg O (M i s) live).get EO=.tv (.int .i64 i))
  (A:∀i s r,i<b->f i s=some r->(∀k,((mrg O (M i s) live).get k).WF)->WP S c ⟨fun e=>∃s',r=.next s'/\Rn (e.fu live) (mrg O (M (AK (i+1)) s') live),fun j e=>j=i0/\∃s',r=.brk s'/\Rn e (mrg O (M 0 s') jl),fun _=>∃v,r=.ret v/\False⟩ (mrg O (M i s) live))
  (B:∀i s,¬i<b->WP S c ⟨fun _=>False,fun j e=>j=i0/\Rn e (mrg O (M 0 s) jl),fun _=>False⟩ (mrg O (M i s) live))
  (C:∀s,k s=some r->n (mrg O (M 0 s) jl)):WP S (.block i0 (.loop live c)) ⟨n,x,t⟩ O:=
 Vb (R:=fun _ _=>False) h (p.out o) u w A B C (fun v e hv _=>by cases hv)
theorem ZJ{f:σ->Option (Bu σ ρ)}{R:ρ->AB->Prop}{M:σ->List (Nat×EV)}(h:fl (C7 f s0) k kr=some r)(u:O.fu live=mrg O (M s0) live)
  (w:∀s r,f s=some r->(∀k,((mrg O (M s) live).get k).WF)->WP S c ⟨fun e=>∃s',r=.next s'/\Rn (e.fu live) (mrg O (M s') live),fun j e=>j=i0/\∃s',r=.brk s'/\Rn e (mrg O (M s') jl),fun e=>∃v,r=.ret v/\R v e⟩ (mrg O (M s) live))
  (A:∀s,k s=some r->n (mrg O (M s) jl))(B:∀v e,kr v=some r->R v e->t e):WP S (.block i0 (.loop live c)) ⟨n,x,t⟩ O:=by
 obtain ⟨o,ho,h⟩:=VO h;refine qr ho (fun s=>mrg O (M s) live) (fun s=>mrg O (M s) jl) R u (fun s r hf C=>⟨PC.o4 S c _ _ (w s r hf C).out _ (fun e he=>?_) (fun j e he=>?_) (fun _ h=>h)⟩) (fun s D=>A s (ar h D)) (fun v e hv=>B v e (av h hv))
 .obtain⟨s',p,e2⟩:=he;exact⟨s',p,e2.out⟩
 .obtain⟨E,s',p,e2⟩:=he;exact⟨E,s',p,e2.out⟩
theorem rQ{f:σ->Option (Bu σ β)}{R:β->AB->Prop}{M:σ->List (Nat×EV)}(_:HW i0 M)(_:HR R)(o:R r=t)(h:fl (C7 f s0) k (fun v=>some v)=some r)(_:c.xl i0=some jl)(p:O.fu live=mrg O (M s0) live)
  (u:∀s r,f s=some r->(∀k,((mrg O (M s) live).get k).WF)->WP S c ⟨fun e=>∃s',r=.next s'/\Rn (e.fu live) (mrg O (M s') live),fun j e=>j=i0/\∃s',r=.brk s'/\Rn e (mrg O (M s') jl),fun e=>∃v,r=.ret v/\R v e⟩ (mrg O (M s) live))
  (w:∀s,k s=some r->n (mrg O (M s) jl)):WP S (.block i0 (.loop live c)) ⟨n,x,t⟩ O:=
 ZJ h p u w (fun v e hv A=>by cases hv;rw[<-o];exact A)
theorem rP{f:σ->Option (Bu σ ρ)}{k:σ->Option (Bu τ ρ)}{r:Bu τ ρ}{R:ρ->AB->Prop}{M:σ->List (Nat×EV)}(_:HW i0 M)(h:fl (C7 f s0) k (fun v=>some (.ret v))=some r)(_:c.xl i0=some jl)(o:O.fu live=mrg O (M s0) live)
  (p:∀s r,f s=some r->(∀k,((mrg O (M s) live).get k).WF)->WP S c ⟨fun e=>∃s',r=.next s'/\Rn (e.fu live) (mrg O (M s') live),fun j e=>j=i0/\∃s',r=.brk s'/\Rn e (mrg O (M s') jl),fun e=>∃v,r=.ret v/\R v e⟩ (mrg O (M s) live))
  (u:∀s,k s=some r->n (mrg O (M s) jl)):WP S (.block i0 (.loop live c)) ⟨n,x,fun e=>∃v,r=.ret v/\R v e⟩ O:=
 ZJ h o p u (fun v e hv w=>by cases hv;exact⟨v,rfl,w⟩)
theorem rO{f:σ->Option (Bu σ ρ)}{M:σ->List (Nat×EV)}(_:HW i0 M)(h:fl (C7 f s0) k (fun _=>none)=some r)(_:c.xl i0=some jl)(o:O.fu live=mrg O (M s0) live)
  (p:∀s r,f s=some r->(∀k,((mrg O (M s) live).get k).WF)->WP S c ⟨fun e=>∃s',r=.next s'/\Rn (e.fu live) (mrg O (M s') live),fun j e=>j=i0/\∃s',r=.brk s'/\Rn e (mrg O (M s') jl),fun _=>∃v,r=.ret v/\False⟩ (mrg O (M s) live))
  (u:∀s,k s=some r->n (mrg O (M s) jl)):WP S (.block i0 (.loop live c)) ⟨n,x,t⟩ O:=
 ZJ (R:=fun _ _=>False) h o p u (fun v e hv _=>by cases hv)
end loops
end
end Go.Sf
namespace Go.Sf
section
variable{P:Program}{S:FuncId->Fq->Az->Prop}{K:AB->Prop}{os:List PR}{O:AB}{d:Nat}{α β:Type}{k:α->Option β}{r:β}
theorem bnd{G:Prop}{x:Option α}(h:x.bind k=some r)(g:∀a,x=some a->k a=some r->G):G:=by
 obtain ⟨a,o,h⟩:=bind_some h;exact g a o h
theorem uD{x:Option α}{f:FuncId}{ts:Fq}{R:α->Az}[c:Ct P x f ts R](h:x.bind k=some r)(g:∀a,AO P f ts (R a)->k a=some r->WO (AO P) K os O):WO (AO P) K os O:=bnd h fun a o=>g a (c.snd a o)
theorem nw{γ:Type}{k:List γ->Option β}{n s:Nat}{y:AE}{es o:Fq}{e:γ->TV}{l m:List γ}{f:List γ->TV}(h:(Au l m).bind k=some r)(u:O.get s=.ow (.list n es))(w:y.val O=some (.list n o))(he:es=l.map e)(hf:o=m.map e)(c:Fl e n f)
  (A:∀x,Au l m=some x->k x=some r->WO S K os ((d,.ow (f x))::(s,.tv (.list n es))::O)):WO S K (⟨some d,.app n (.s s) y,none⟩::os) O:=by
 obtain ⟨x,p,h⟩:=bind_some h;have:=A x p h;rw[c.eq]at this;exact lK p u w he hf rfl this
section ints
variable{k:Int->Option β}{x y:AE}{ik:IntKind}{a b:Int}
theorem rK(h:(quo a b).bind k=some r)(p:x.val O=some (.int ik a))(u:y.val O=some (.int ik b))(w:∀q,quo a b=some q->k q=some r->WO S K os ((d,.tv (.int ik (ik.wrap q)))::O)):WO S K (⟨some d,.bin .i .quo x y,none⟩::os) O:=bnd h fun q o h=>tM o p u (w q o h)
theorem rL(h:(Cj a b).bind k=some r)(p:x.val O=some (.int ik a))(u:y.val O=some (.int ik b))(w:∀q,Cj a b=some q->k q=some r->WO S K os ((d,.tv (.int ik q))::O)):WO S K (⟨some d,.bin .i .rem x y,none⟩::os) O:=bnd h fun q o h=>tN o p u (w q o h)
theorem qv{op:BinOp}{o:IntKind}(h:(FR ik op a b).bind k=some r)(u:x.val O=some (.int ik a))(A:y.val O=some (.int o b))(B:ik=o\/op=.shl\/op=.shr)(C:∀q,FR ik op a b=some q->k q=some r->WO S K os ((d,.tv (.int ik q))::O)):WO S K (⟨some d,.bin .w op x y,none⟩::os) O:=bnd h fun q p h=>s8 p u A B (C q p h)
end ints
theorem oH{k:ByteArray->Option β}{x y:AE}{u v:ByteArray}(h:(ND u v).bind k=some r)(p:x.val O=some (.str u))(w:y.val O=some (.str v))(A:∀q,ND u v=some q->k q=some r->WO S K os ((d,.tv (.str q))::O)):WO S K (⟨some d,.bin .s .add x y,none⟩::os) O:=bnd h fun q o h=>qF o p w (A q o h)
theorem rD{k:Unit->Option β}{x:AE}{n:Nat}{es:Fq}{e:α->TV}{l:List α}(h:(Tx l).bind k=some r)(o:x.val O=some (.list n es))(he:es=l.map e)(p:∀u,k u=some r->WO S K os ((d,.tv (.bool false))::O)):WO S K (⟨some d,.isn x,none⟩::os) O:=by
 obtain ⟨u,A,h⟩:=bind_some h;refine lL o he fun b w=>?_;obtain rfl:=eH A w;exact p u h
theorem ke{x:AE}{n:Nat}{e:α->TV}{a:α}(h:BA O (x.ev O)=some (e a).cells)(o:Nat.beq (e a).cells.length n=true)(p:TV.agg (e a).cells=e a)(u:WO S K os ((d,.tv (e a))::O)):WO S K (⟨some d,.lda x n,none⟩::os) O:=by
 have o:=Nat.eq_of_beq_eq_true o;exact lM h (by rw[o];exact Nat.ble_self_eq_true n) (by rw[List.take_of_length_le (by omega),p]) u
theorem rE{s n:Nat}{cs:List AQ}{e:α->TV}{a:α}(h:O.get s=.bx cs)(p:cs.map (·.t)=(e a).cells)(o:Nat.beq (e a).cells.length n=true)(u:TV.agg (e a).cells=e a)(w:WO S K os ((d,.tv (e a))::O)):WO S K (⟨some d,.ldb s n,none⟩::os) O:=by
 have o:=Nat.eq_of_beq_eq_true o;exact tD h (by rw[p,o];exact Nat.ble_self_eq_true n) (by rw[p,List.take_of_length_le (by omega),u]) w
variable{v:AE}
theorem oI{n s:Nat}{cs:List AQ}{t:TV}(o:O.get s=.bx cs)(hv:v.ev O=.tv t)(p:t.cells.length=n)(h:Nat.beq n cs.length=true)(u:WO S K os ((s,.bx (t.cells.map (⟨false,·⟩)))::O)):WO S K (⟨none,.stb n s v,none⟩::os) O:=by
 have h:=Nat.eq_of_beq_eq_true h;refine tQ o hv p (by rw[Nat.zero_add,h];exact Nat.ble_self_eq_true _) ?_ u;rw[List.take_zero,Nat.zero_add,h,List.drop_length,List.append_nil,List.nil_append]
theorem oE{x:AE}{n:Nat}{e:α->TV}{a:α}(h:BA O (x.ev O)=some (((e a).cells.map fun t=>(⟨false,t⟩:AQ)).map (·.t)))(o:Nat.beq (e a).cells.length n=true)(p:TV.agg (e a).cells=e a)(u:WO S K os ((d,.tv (e a))::O)):WO S K (⟨some d,.lda x n,none⟩::os) O:=
 ke (by rw[h,List.map_map];congr 1;exact List.map_id _) o p u
def bM(n:Nat):Fq->Bool
 |[]=>true|t::ts=>Nat.beq t.cells.length n&&bM n ts
theorem Xf{n:Nat}:∀{ts:Fq},bM n ts=true->∀t∈ts,t.cells.length=n
 |[],_,_,h=>by cases h
 |t::ts,h,u,o=>by
  simp only[bM,tg]at h;rcases List.mem_cons.1 o with rfl|o
  .exact Nat.eq_of_beq_eq_true h.1
  .exact Xf h.2 u o
variable{parts:List AE}
theorem rG{n:Nat}{ts:Fq}(h:vals O parts=some ts)(o:bM n ts=true)(p:WO S K os ((d,.ow (.list n ts))::O)):WO S K (⟨some d,.lst n parts,none⟩::os) O:=by
 have:=p.out;refine⟨?_⟩;simp only[wpOps,PR.wp,AD.wp,h,AW];exact⟨Xf o,this⟩
variable{zero:Fq}
theorem nx{parts:List (Nat×Nat×AE)}{ts:List (Nat×Nat×TV)}{cs:Fq}{e:α->TV}{a:α}(h:(some a).bind k=some r)(_:En α e)(o:GD O parts=some ts)(p:EY zero ts=some cs)(he:TV.agg cs=e a)(u:∀x,x=a->k x=some r->WO S K os ((d,.tv (e x))::O)):WO S K (⟨some d,.bld zero parts,none⟩::os) O:=by
 rw [Option.bind_some]at h;exact XO o p he (u a rfl h)
theorem rF{x:AE}{n:Nat}{cs:Fq}{e:α->TV}{a:α}(h:(some a).bind k=some r)(_:En α e)(o:BA O (x.ev O)=some cs)(p:Nat.ble n cs.length=true)(he:TV.agg (cs.take n)=e a)(u:∀x,x=a->k x=some r->WO S K os ((d,.tv (e x))::O)):WO S K (⟨some d,.lda x n,none⟩::os) O:=by
 rw [Option.bind_some]at h;exact lM o p he (u a rfl h)
inductive Lm{α:Type}(e:α->TV):Fq->List α->Prop
 |nil:Lm e [] []
 |cons {t:TV} {ts:Fq} {a:α} {l:List α}:t=e a->Lm e ts l->Lm e (t::ts) (a::l)
theorem Lm.eq{e:α->TV}{ts:Fq}{l:List α}(h:Lm e ts l):ts=l.map e:=by
 induction h with
 |nil=>rfl|cons h _ o=>rw[h,o];rfl
theorem oF{n:Nat}{ts:Fq}{e:α->TV}{l:List α}(h:vals O parts=some ts)(o:Lm e ts l)(p:∀a,(e a).cells.length=n)(u:WO S K os ((d,.ow (.list n (l.map e)))::O)):WO S K (⟨some d,.lst n parts,none⟩::os) O:=lO h o.eq p u
theorem oG{n:Nat}{ts:Fq}{e:α->TV}{l:List α}{f:List α->TV}(h:vals O parts=some ts)(p:Lm e ts l)(u:∀a,(e a).cells.length=n)(c:Fl e n f)(o:WO S K os ((d,.ow (f l))::O)):WO S K (⟨some d,.lst n parts,none⟩::os) O:=by
 rw [c.eq]at o;exact lO h p.eq u o
theorem np{e:α->TV}{n:QQ}{x y:AE}{a:α}{cs:Fq}(o:x.val O=some (e a))(p:y.val O=some (.agg cs))[c:dI e][i:Decidable (a=c.un cs)](u:TV.agg (e a).cells=e a)(w:(e (c.un cs)).cells=cs)(A:(e a).cells.map TV.kd=n)(B:WO S K os ((d,.tv (.bool (decide (a=c.un cs))))::O)):WO S K (⟨some d,.bin (.a n) .eql x y,none⟩::os) O:=by
 obtain ⟨C,h⟩:=c.dec a (c.un cs);have:i=C:=Subsingleton.elim _ _;subst this;rw[<-u]at o;rw[w]at h;exact fY o p A h B
theorem nu{e:α->TV}{n:QQ}{x y:AE}{a:α}{cs:Fq}(o:x.val O=some (e a))(p:y.val O=some (.agg cs))[c:dI e][i:Decidable (a=c.un cs)](u:TV.agg (e a).cells=e a)(w:(e (c.un cs)).cells=cs)(A:(e a).cells.map TV.kd=n)(B:WO S K os ((d,.tv (.bool (!decide (a=c.un cs))))::O)):WO S K (⟨some d,.bin (.a n) .neq x y,none⟩::os) O:=by
 obtain ⟨C,h⟩:=c.dec a (c.un cs);have:i=C:=Subsingleton.elim _ _;subst this;rw[<-u]at o;rw[w]at h;exact fZ o p A h B
theorem nk{e:α->TV}{n:QQ}{x y:AE}{a b:α}{i:Decidable (a=b)}(o:x.val O=some (e a))(p:y.val O=some (e b))(c:dI e)(u:TV.agg (e a).cells=e a)(w:TV.agg (e b).cells=e b)(A:(e a).cells.map TV.kd=n)(B:WO S K os ((d,.tv (.bool (decide (a=b))))::O)):WO S K (⟨some d,.bin (.a n) .eql x y,none⟩::os) O:=by
 obtain ⟨C,h⟩:=c.dec a b;have:i=C:=Subsingleton.elim _ _;subst this;rw[<-u]at o;rw[<-w]at p;exact fY o p A h B
theorem nt{e:α->TV}{n:QQ}{x y:AE}{a b:α}{i:Decidable (a=b)}(o:x.val O=some (e a))(p:y.val O=some (e b))(c:dI e)(u:TV.agg (e a).cells=e a)(w:TV.agg (e b).cells=e b)(A:(e a).cells.map TV.kd=n)(B:WO S K os ((d,.tv (.bool (!decide (a=b))))::O)):WO S K (⟨some d,.bin (.a n) .neq x y,none⟩::os) O:=by
 obtain ⟨C,h⟩:=c.dec a b;have:i=C:=Subsingleton.elim _ _;subst this;rw[<-u]at o;rw[<-w]at p;exact fZ o p A h B
section calls
variable{x:Option α}{f:FuncId}{ts:Fq}{R:α->Az}{args:List AE}
theorem qx{s:Nat}{cs:List AQ}{row:Fq}(o:O.get s=.bx cs)(f:Fz cs row)(k:WO S K os ((s,.tv (.pt row))::O)):WO S K (⟨none,.frz s,none⟩::os) O:=tA o f.h k
theorem lf{t:α->TV}(_:HS d)(h:x.bind k=some r)(c:Ct P x f ts R)(p:vals O args=some ts)(u:∀a,R a=.own (t a))(w:∀a,x=some a->k a=some r->WO (AO P) K os ((d,.tv (t a))::O)):WO (AO P) K (⟨some d,.call f args,none⟩::os) O:=by
 obtain ⟨a,o,h⟩:=bind_some h;have:=c.snd a o;rw[u]at this;exact qC p (pJ this) (w a o h)
theorem lc{t:α->List AQ}(h:x.bind k=some r)(c:Ct P x f ts R)(p:vals O args=some ts)(u:∀a,R a=.oag (t a))(w:∀a,x=some a->k a=some r->WO (AO P) K os ((d,.tv (.agg ((t a).map fun c=>c.rel.t)))::O)):WO (AO P) K (⟨some d,.call f args,none⟩::os) O:=by
 obtain ⟨a,o,h⟩:=bind_some h;have:=c.snd a o;rw[u]at this;exact nL p this rfl (w a o h)
theorem gY{γ:Type}{k:List γ->Option β}{x:Option (List γ)}{R:List γ->Az}{n:Nat}{e:γ->TV}(h:x.bind k=some r)(c:Ct P x f ts R)(p:O.jj d=true)(u:vals O args=some ts)(w:∀a,R a=.own (.list n (a.map e)))(hf:∀a,(e a).flat=true)(A:∀a,x=some a->k a=some r->WO (AO P) K os ((d,.xo n (a.map e))::O)):WO (AO P) K (⟨some d,.AaQ f args,none⟩::os) O:=by
 obtain ⟨a,o,h⟩:=bind_some h;have:=c.snd a o;rw[w]at this;exact jY p u this rfl hf (A a o h)
theorem gX{γ:Type}{k:List γ->Option β}{x:Option (List γ)}{R:List γ->Az}{n:Nat}{e:γ->TV}(h:x.bind k=some r)(c:Ct P x f ts R)(p:AaB O args=some ts)(u:∀a,R a=.own (.list n (a.map e)))(hf:∀a,(e a).flat=true)(w:∀a,x=some a->k a=some r->WO (AO P) K os ((d,.ow (.list n (a.map e)))::O)):WO (AO P) K (⟨some d,.AaV f args,none⟩::os) O:=by
 obtain ⟨a,o,h⟩:=bind_some h;have:=c.snd a o;rw[u]at this;exact jV p this rfl rfl hf (w a o h)
variable{us:α->Fq}
theorem lb{i s:Nat}{cs:List AQ}{cs':α->List AQ}{e:α->EV}(h:x.bind k=some r)(c:Ct P x f ts R)(p:(args[i]?).bind (·.place O)=some (s,0))(u:O.get s=.bx cs)(w:O.noX s none=true)(hd:d≠s)(A:HN O i args=some ts)(B:∀a,R a=.bo cs (cs' a) i (us a))(he:∀a,EV.ofs (us a)=e a)(C:∀a,x=some a->k a=some r->WO (AO P) K os ((d,e a)::(s,.bx (cs' a))::O)):WO (AO P) K (⟨some d,.AaJ f args i,none⟩::os) O:=by
 obtain ⟨a,o,h⟩:=bind_some h;have:=c.snd a o;rw[B]at this;exact nK p u w hd A this (he a) (C a o h)
end calls
inductive GS(g:Nat)(b:Bool):QQ->List PR->QQ->Nat->Prop
 |done {acc:QQ} {os:List PR}:GS g b acc os [] 0
 |step {acc js:QQ} {d n:Nat} {op:AD} {os:List PR}:GS g b (d::acc) os js n->GS g b acc (⟨some d,op,some (g,b)⟩::os) (d::js) (n+1)
 |Ab3 {acc js:QQ} {d n g':Nat} {b':Bool} {op:AD} {os:List PR}:acc.contains g'=true->GS g b (d::acc) os js n->GS g b acc (⟨some d,op,some (g',b')⟩::os) (d::js) (n+1)
def ni:QQ->AB->(AB->Prop)->Prop
 |[],z,K=>K z|k::ks,z,K=>∃j,ni ks ((k,j)::z) K
structure Gj(js:QQ)(d:Nat)(v:TV)(z e:AB):Prop where
 of::out:ni js z fun y=>e=(d,.tv v)::y
theorem eC{d:Nat}{v:TV}{z e:AB}(h:e=(d,.tv v)::z):Gj [] d v z e:=⟨h⟩
variable{ks:QQ}
theorem l9{k d:Nat}{v:TV}{j:EV}{z e:AB}(h:Gj ks d v ((k,j)::z) e):Gj (k::ks) d v z e:=⟨j,h.out⟩
theorem oC{js:QQ}{v:TV}{z:AB}(h:Gj js d v z O):WO S (Gj js d v z) [] O:=⟨h⟩
structure Vt(js:QQ)(z:AB)(Q:AB->Prop):Prop where
 of::out:∀(d:Nat)(v:TV)(e:AB),Gj js d v z e->∃y,e=(d,.tv v)::y/\Q y
theorem mA{z:AB}{Q:AB->Prop}(h:Q z):Vt [] z Q:=⟨fun _ _ _ he=>⟨z,he.out,h⟩⟩
theorem iH{k:Nat}{z:AB}{Q:AB->Prop}(h:∀j,Vt ks ((k,j)::z) Q):Vt (k::ks) z Q:=⟨fun d v e he=>by
 obtain ⟨j,o⟩:=he.out;exact(h j).out d v e ⟨o⟩⟩
theorem sC{dd:Option Nat}{op:AD}{g:Nat}{b q:Bool}(h:O.get g=.tv (.bool q))(o:XU g b q)(p:WO S K (⟨dd,op,none⟩::os) O):WO S K (⟨dd,op,some (g,b)⟩::os) O:=uZ h o.out p
theorem q9{ρ:Type}{dd:Option Nat}{op:AD}{g:Nat}{q:Bool}{u v:Option ρ}{r:ρ}(w:O.get g=.tv (.bool q))(h:(if q=true then u else v)=some r)
  (o:XU g true q->q=true->u=some r->WO S K (⟨dd,op,some (g,true)⟩::os) O)(p:Tg g true q->q=false->v=some r->WO S K (⟨dd,op,some (g,true)⟩::os) O):WO S K (⟨dd,op,some (g,true)⟩::os) O:=by
 cases q with
 |true=>exact o ⟨rfl⟩ rfl h|false=>exact p ⟨by rfl⟩ rfl h
theorem q8{ρ:Type}{dd:Option Nat}{op:AD}{g:Nat}{q:Bool}{u v:Option ρ}{r:ρ}(w:O.get g=.tv (.bool q))(h:(if q=true then u else v)=some r)
  (o:Tg g false q->q=true->u=some r->WO S K (⟨dd,op,some (g,false)⟩::os) O)(p:XU g false q->q=false->v=some r->WO S K (⟨dd,op,some (g,false)⟩::os) O):WO S K (⟨dd,op,some (g,false)⟩::os) O:=by
 cases q with
 |true=>exact o ⟨by rfl⟩ rfl h|false=>exact p ⟨rfl⟩ rfl h
theorem oj{op:AD}{g:Nat}{b q:Bool}(h:O.get g=.tv (.bool q))(o:Tg g b q)(p:WO S K os ((d,.sk)::O)):WO S K (⟨some d,op,some (g,b)⟩::os) O:=sB h o.out p
theorem bg{d n:Nat}{js:QQ}{v:TV}(h:WO S (Gj js d v O) (os.take n) O)(o:Vt js O fun e=>WO S K (os.drop n) ((d,.tv v)::e)):WO S K os O:=
 sA n (Gj js d v) h fun e he=>by
  obtain ⟨y,rfl,p⟩:=o.out d v e he;exact p
section groups
variable{g n:Nat}{js:QQ}{c:Bool}{dd gd:Option Nat}{op:AD}{x y z:AE}{gg:Option (Nat×Bool)}
variable{T:K1}{os':List PR}
theorem rC{k:Bool->Option β}(h:(if c=true then T else some false).bind k=some r)(_:GS g true [] os js n)(A:O.get g=.tv (.bool c))(_:os[n]?=some ⟨some d,.pick x y z,gg⟩)
  (p:∀v,XU g true c->c=true->T=some v->WO S (Gj js d (.bool v) O) (os.take (n+1)) O)(u:∀v,Tg g true c->c=false->some false=some v->WO S (Gj js d (.bool v) O) (os.take (n+1)) O)
  (w:∀v,k v=some r->Vt js O fun e=>WO S K (os.drop (n+1)) ((d,.tv (.bool v))::e))(ho:os=⟨dd,op,some (g,true)⟩::os'):WO S K (⟨dd,op,some (g,true)⟩::os') O:=by
 obtain ⟨v,hv,h⟩:=bind_some h;rw[<-ho];refine bg (n:=n+1) (v:=.bool v) ?_ (w v h);rcases Bool.eq_false_or_eq_true c with o|o
 .exact p v ⟨o⟩ o (Uo o hv)
 .exact u v ⟨by rw[o];rfl⟩ o (Un o hv)
theorem rA{k:Bool->Option β}(h:(if c=true then some true else T).bind k=some r)(_:GS g false [] os js n)(A:O.get g=.tv (.bool c))(_:os[n]?=some ⟨some d,.pick x y z,gg⟩)
  (p:∀v,XU g false c->c=false->T=some v->WO S (Gj js d (.bool v) O) (os.take (n+1)) O)(u:∀v,Tg g false c->c=true->some true=some v->WO S (Gj js d (.bool v) O) (os.take (n+1)) O)
  (w:∀v,k v=some r->Vt js O fun e=>WO S K (os.drop (n+1)) ((d,.tv (.bool v))::e))(ho:os=⟨dd,op,some (g,false)⟩::os'):WO S K (⟨dd,op,some (g,false)⟩::os') O:=by
 obtain ⟨v,hv,h⟩:=bind_some h;rw[<-ho];refine bg (n:=n+1) (v:=.bool v) ?_ (w v h);rcases Bool.eq_false_or_eq_true c with o|o
 .exact u v ⟨by rw[o];rfl⟩ o (Uo o hv)
 .exact p v ⟨o⟩ o (Un o hv)
theorem qz{e:Bool}(ho:os=⟨dd,op,some (g,true)⟩::os')(_:GS g true [] os js n)(u:O.get g=.tv (.bool c))(_:os[n]?=some ⟨some d,.pick x y z,gg⟩)
  (h:XU g true c->c=true->WO S (Gj js d (.bool e) O) (os.take (n+1)) O)(o:Tg g true c->c=false->WO S (Gj js d (.bool false) O) (os.take (n+1)) O)
  (p:Vt js O fun z=>WO S K (os.drop (n+1)) ((d,.tv (.bool (c&&e)))::z)):WO S K (⟨dd,op,some (g,true)⟩::os') O:=by
 rw [<-ho];refine bg (n:=n+1) (v:=.bool (c&&e)) ?_ p;cases c
 .exact o ⟨rfl⟩ rfl
 .exact h ⟨rfl⟩ rfl
theorem qy{e:Bool}(ho:os=⟨dd,op,some (g,false)⟩::os')(_:GS g false [] os js n)(u:O.get g=.tv (.bool c))(_:os[n]?=some ⟨some d,.pick x y z,gg⟩)
  (h:XU g false c->c=false->WO S (Gj js d (.bool e) O) (os.take (n+1)) O)(o:Tg g false c->c=true->WO S (Gj js d (.bool true) O) (os.take (n+1)) O)
  (p:Vt js O fun z=>WO S K (os.drop (n+1)) ((d,.tv (.bool (c||e)))::z)):WO S K (⟨dd,op,some (g,false)⟩::os') O:=by
 rw [<-ho];refine bg (n:=n+1) (v:=.bool (c||e)) ?_ p;cases c
 .exact h ⟨rfl⟩ rfl
 .exact o ⟨rfl⟩ rfl
end groups
variable{qi:Option Nat}{j:Int}
theorem rR{x:AE}{q n i:Nat}{es row:Fq}{e:α->TV}{l:List α}{a:α}{t:TV}(h:x.ev O=.lp q qi (j.toNat*n+i))(o:O.x8 q qi=some (n,es))(he:es=l.map e)(p:∀a,(e a).cells.length=n)(u:idx l j=some a)(hi:Nat.blt i n=true)(w:(e a).cells=row)(A:row[i]?=some t)
  (B:WO S K os ((d,.tv t)::O)):WO S K (⟨some d,.xld x,none⟩::os) O:=lP h o he p u rfl hi w A B
theorem oK{x:AE}{q n:Nat}{es row:Fq}{e:α->TV}{l:List α}{a:α}{t:TV}(h:x.ev O=.lp q qi (j.toNat*n))(o:O.x8 q qi=some (n,es))(he:es=l.map e)(p:∀a,(e a).cells.length=n)(u:idx l j=some a)(hi:Nat.blt 0 n=true)(w:(e a).cells=row)(A:row[0]?=some t)
  (B:WO S K os ((d,.tv t)::O)):WO S K (⟨some d,.xld x,none⟩::os) O:=lP (i:=0) h o he p u rfl hi w A B
variable{v:AE}
theorem oM{γ:Type}{s:Nat}{q n i:Nat}{env':AB}{es:Fq}{e:α->TV}{g:γ->TV}{l:List α}{a:α}{b:γ}{f:α->γ->α}(_:HX s f)(h:(AE.s s).ev O=.lp q qi (j.toNat*n+i))(p:O.x8 q qi=some (n,es))(hv:v.ev O=.tv (g b))(he:es=l.map e)(u:∀a,(e a).cells.length=n)(w:idx l j=some a)(hi:Nat.blt i n=true)(A:(g b).cells=[g b])
  (B:(e (f a b)).cells=(e a).cells.set i (g b))(o:O.Aak q qi n ((BN l j (f a b)).map e)=env')(C:WO S K os env'):WO S K (⟨none,.xst (.s s) v 1,none⟩::os) O:=lQ h p hv he u w rfl hi A B rfl o C
theorem oL{x v:AE}{q n:Nat}{env':AB}{es:Fq}{e:α->TV}{l:List α}{a b:α}(h:x.ev O=.lp q qi (j.toNat*n))(p:O.x8 q qi=some (n,es))(hv:v.ev O=.tv (e b))(he:es=l.map e)(u:∀a,(e a).cells.length=n)(w:idx l j=some a)(hi:Nat.blt 0 n=true)(A:(e b).cells=[e b])
  (B:(e b).cells=(e a).cells.set 0 (e b))(o:O.Aak q qi n ((BN l j b).map e)=env')(C:WO S K os env'):WO S K (⟨none,.xst x v 1,none⟩::os) O:=lQ (i:=0) h p hv he u w rfl hi A B rfl o C
end
end Go.Sf
namespace Go.Sf
section
variable{S:FuncId->Fq->Az->Prop}{K:AB->Prop}{os:List PR}{O:AB}{d:Nat}
variable{j:Int}
theorem tK{α:Type}{x:AE}{s o:Nat}{es:Fq}{e:α->TV}{l:List α}{a:α}(h:x.ev O=.nh s o (.el j.toNat))(u:O.nat s o=some es)(he:es=l.map e)(w:idx l j=some a)(k:WO S K os ((d,.nh s o (.rw j.toNat))::O)):WO S K (⟨some d,.nld x,none⟩::os) O:=by
 replace k:=k.out;refine⟨?_⟩;subst he;obtain⟨B,C,A⟩:=GQ w;have p:j.toNat<l.length:=(List.getElem?_eq_some_iff.1 A).1;simp only[wpOps,PR.wp,AD.wp,h,u,AW];exact⟨by simpa using p,k⟩
variable{j2:Int}
theorem tL{α:Type}{x v:AE}{s o:Nat}{es:Fq}{env':AB}{e:List α->TV}{e2:α->TV}{l:List (List α)}{m:List α}{A b:α}{t:TV}(h:x.ev O=.nh s o (.rp j.toNat j2.toNat))(B:O.nat s o=some es)(hv:v.ev O=.tv t)(he:es=l.map e)(w:∀m,e m=.list 1 (m.map e2))(C:idx l j=some m)(D:idx m j2=some A)(E:t=e2 b)(F:t.cells=[t])(G:t.flat=true)
  (p:O.AbW s o ((BN l j (BN m j2 b)).map e)=env')(k:WO S K os env'):WO S K (⟨none,.nst x v,none⟩::os) O:=by
 replace k:=k.out;refine⟨?_⟩;subst he p E;obtain⟨J,L,H⟩:=GQ C;obtain⟨m0,m1,I⟩:=GQ D;have u:j2.toNat<m.length:=(List.getElem?_eq_some_iff.1 I).1;simp only[wpOps,PR.wp,AD.wp,h,B,hv,AW];refine⟨m.map e2,by rw[List.getElem?_map,H];simp[w],by simpa using u,F,G,?_⟩;have:(l.map e).set j.toNat (.list 1 ((m.map e2).set j2.toNat (e2 b)))=(BN l j (BN m j2 b)).map e:=by
  simp only[BN,List.map_set,w]
 rw [this];exact k
end
section
variable{P:Program}{K:AB->Prop}{os:List PR}{O:AB}{d:Nat}{α β γ ρ:Type}{f:FuncId}{args:List AE}{ts:Fq}{R:α->Az}{x:Option α}{k:α->Option ρ}{r:ρ}
variable{j:Int}
theorem rH{x i:AE}{s o:Nat}{es:Fq}{e:α->TV}{l:List α}{ik:IntKind}{S:FuncId->Fq->Az->Prop}(h:(idx l j).bind k=some r)(u:x.ev O=.nh s o .hd)(w:O.nat s o=some es)(hi:i.val O=some (.int ik j))(he:es=l.map e)
  (A:∀a,idx l j=some a->k a=some r->WO S K os ((d,.nh s o (.el j.toNat))::O)):WO S K (⟨some d,.nia x i,none⟩::os) O:=by
 obtain ⟨a,p,h⟩:=bind_some h;have B:=(A a p h).out;refine⟨?_⟩;subst he;obtain⟨D,F,E⟩:=GQ p;have C:j.toNat<l.length:=(List.getElem?_eq_some_iff.1 E).1;simp only[wpOps,PR.wp,AD.wp,u,w,hi,AW];exact⟨D,by simp only[d3];omega,B⟩
variable{e2:α->TV}{j2:Int}
theorem rJ{x i:AE}{s o:Nat}{es:Fq}{e:List α->TV}{l:List (List α)}{m:List α}{ik:IntKind}{S:FuncId->Fq->Az->Prop}(h:(idx m j2).bind k=some r)(u:x.ev O=.nh s o (.rw j.toNat))(w:O.nat s o=some es)(hi:i.val O=some (.int ik j2))(he:es=l.map e)(A:∀m,e m=.list 1 (m.map e2))(B:idx l j=some m)
  (C:∀a,idx m j2=some a->k a=some r->WO S K os ((d,.nh s o (.rp j.toNat j2.toNat))::O)):WO S K (⟨some d,.nia x i,none⟩::os) O:=by
 obtain ⟨b,p,h⟩:=bind_some h;have D:=(C b p h).out;refine⟨?_⟩;subst he;obtain⟨H,I,F⟩:=GQ B;obtain⟨m0,m1,G⟩:=GQ p;have E:j2.toNat<m.length:=(List.getElem?_eq_some_iff.1 G).1;simp only[wpOps,PR.wp,AD.wp,u,w,hi,AW];exact⟨m0,m.map e2,by rw[List.getElem?_map,F];simp[A],by simp only[d3];omega,D⟩
theorem nv{mm q s o:Nat}{es w:Fq}{cs cs':List AQ}{n:Nat}{e:β->TV}{l:List β}{m:β}{k:List β->Option ρ}{S:FuncId->Fq->Az->Prop}(h:(Au l [m]).bind k=some r)(A:O.get mm=.nh s o .hd)(B:O.get q=.x1 n w)(C:O.get s=.bx cs)(D:O.nat s o=some es)(he:es=l.map e)(hf:TV.list n w=e m)(u:O.jj d=true)(hd:d≠mm/\d≠q/\mm≠q)(E:cs.set o ⟨false,.undef⟩=cs')
  (F:∀a,Au l [m]=some a->k a=some r->WO S K os ((d,.xn (a.map e))::(s,.bx cs')::(mm,.undef)::(q,.undef)::O)):WO S K (⟨some d,.AaT mm q,none⟩::os) O:=by
 obtain ⟨a,p,h⟩:=bind_some h;have H:=(F a p h).out;refine⟨?_⟩;subst he E;unfold Au at p;split at p
 .rename_i G;cases p;simp only[wpOps,PR.wp,AD.wp,A,B,C,D,AW];refine⟨by simpa using G,⟨u,hd⟩,?_⟩;rw[hf];simpa[AB.put]using H
 .cases p
theorem gW{u:α->List β}{v:α->List γ}{w A:Nat}{p:β->TV}{e2:γ->TV}(h:x.bind k=some r)(c:Ct P x f ts R)(E:vals O args=some ts)(F:∀a,R a=.oag [⟨true,.list w ((u a).map p)⟩,⟨true,.list A ((v a).map e2)⟩])(G:∀a,(p a).flat=true)(H:∀a,(e2 a).flat=true)
  (I:∀a,x=some a->k a=some r->WO (AO P) K os ((d,.oag [⟨true,.xl w ((u a).map p)⟩,⟨true,.xl A ((v a).map e2)⟩])::O)):WO (AO P) K (⟨some d,.AaF f args,none⟩::os) O:=by
 obtain ⟨a,D,h⟩:=bind_some h;have C:=c.snd a D;rw[F]at C;have J:=(I a D h).out;have o:∀{τ:Type}(e:τ->TV)(l:List τ),(∀a,(e a).flat=true)->TV.Aac (l.map e)=true:=by
  intro τ e l he
  induction l with
  |nil=>rfl|cons a l L=>simp[TV.Aac,he,L]
 refine ⟨?_⟩;simp only[wpOps,PR.wp,AD.wp,E,AW];refine⟨_,C,fun c B=>?_,fun _=>J⟩;simp only[List.mem_cons,List.not_mem_nil,or_false]at B;rcases B with rfl|rfl
 .exact⟨_,_,rfl,o _ _ G⟩
 .exact⟨_,_,rfl,o _ _ H⟩
inductive NL:List AQ->List AQ->Prop
 |nil {xs:List AQ}:xs=[]->NL xs []
 |cons {xs ys zs:List AQ} {o:Bool} {t:TV}:xs=⟨o,t⟩::ys->NL ys zs->NL xs (⟨o,t⟩::zs)
theorem NL.eq{xs ys:List AQ}(h:NL xs ys):xs=ys:=by
 induction h with
 |nil h=>exact h|cons h _ o=>rw[h,o]
theorem rN{S:FuncId->Fq->Az->Prop}{K:AB->Prop}{os:List PR}{O:AB}{n s h:Nat}{x v:AE}{cs cs':List AQ}{t:TV}(o:x.place O=some (s,h))(p:O.get s=.bx cs)(hv:v.ev O=.tv t)(u:t.cells.length=n)(w:Nat.ble (h+n) cs.length=true)(A:NL (cs.take h++t.cells.map (⟨false,·⟩)++cs.drop (h+n)) cs')
  (k:WO S K os ((s,.bx cs')::O)):WO S K (⟨none,.st n x v,none⟩::os) O:=ur o p hv u w A.eq k
theorem oJ{S:FuncId->Fq->Az->Prop}{K:AB->Prop}{os:List PR}{O:AB}{s h q:Nat}{x:AE}{cs cs':List AQ}{t:TV}(o:x.place O=some (s,h))(p:O.get s=.bx cs)(hv:O.get q=.ow t)(u:q≠s)(w:Nat.blt h cs.length=true)(A:NL (cs.set h ⟨true,t⟩) cs')
  (k:WO S K os ((s,.bx cs')::(q,.tv t)::O)):WO S K (⟨none,.st 1 x (.s q),none⟩::os) O:=tR o p hv u w A.eq k
theorem WC:∀(ts:List (Nat×Nat×TV))(done rest:Fq),UC done.length ts=true->(Ha ts).length<=rest.length->EY (done++rest) ts=some (done++(Ha ts++rest.drop (Ha ts).length))
 |[],done,rest,_,h=>by simp[EY,Ha]|(i,n,t)::r,done,rest,p,h=>by
  simp only[UC,tg,Nat.beq_eq]at p;obtain⟨⟨rfl,o⟩,A⟩:=p;simp only[Ha,cE]at h;have u:n<=rest.length:=by omega
  simp only[EY];rw[az ⟨o,by rw[cE];omega⟩];have w:done++rest=done++(rest.take n++rest.drop n):=by rw[List.take_append_drop]
  rw [w,Sg t.cells done (rest.take n) (rest.drop n) (by rw[ca];omega),<-d4];rw[WC r (done++t.cells) (rest.drop n) (by rw[cE,o];exact A) (by rw[List.length_drop];omega)];simp[Ha,List.drop_drop,o]
inductive NT:Fq->Fq->Prop
 |nil {xs:Fq}:xs=[]->NT xs []
 |cons {xs ys zs:Fq} {t:TV}:xs=t::ys->NT ys zs->NT xs (t::zs)
theorem NT.eq{xs ys:Fq}(h:NT xs ys):xs=ys:=by
 induction h with
 |nil h=>exact h|cons h _ o=>rw[h,o]
variable{zero:Fq}
theorem ny{S:FuncId->Fq->Az->Prop}{K:AB->Prop}{os:List PR}{O:AB}{d:Nat}{parts:List (Nat×Nat×AE)}{ts:List (Nat×Nat×TV)}{cs:Fq}(h:GD O parts=some ts)(o:UC 0 ts=true)(p:Nat.ble (Ha ts).length zero.length=true)(u:NT (Ha ts++zero.drop (Ha ts).length) cs)(k:WO S K os ((d,.tv (.agg cs))::O)):WO S K (⟨some d,.bld zero parts,none⟩::os) O:=
 XO h (by have:=WC ts [] zero o (Nat.le_of_ble_eq_true p);simpa using this) (by rw[u.eq]) k
structure HY{α A B C:Type}(n:Nat)(f:A->B->C->α)(g1:A->TV)(g2:B->TV)(g3:C->TV):Prop where
variable{v:AE}{qi:Option Nat}
theorem oN{S:FuncId->Fq->Az->Prop}{K:AB->Prop}{os:List PR}{O:AB}{α A B C:Type}{f:A->B->C->α}{o:Nat}{q n:Nat}{env':AB}{es cs cs':Fq}{e:α->TV}{l:List α}{a:α}{E:A}{F:B}{G:C}{p:A->TV}{u:B->TV}{w:C->TV}(_:HY o f p u w)(h:(AE.s o).ev O=.lp q qi (j.toNat*n))(H:O.x8 q qi=some (n,es))(he:es=l.map e)(I:∀a,(e a).cells.length=n)(hv:v.ev O=.tv (.agg cs))(J:NT cs cs')(L:cs'=[p E,u F,w G])(hf:∀a b c,TV.agg [p a,u b,w c]=e (f a b c))(N:idx l j=some a)(U:Nat.blt 0 n=true)
  (D:O.Aak q qi n ((BN l j (f E F G)).map e)=env')(k:WO S K os env'):WO S K (⟨none,.xst (.s o) v n,none⟩::os) O:=lR h H (by rw[hv,J.eq,L,hf]) he I N U D k
theorem rS{S:FuncId->Fq->Az->Prop}{α:Type}{x v:AE}{q n:Nat}{env':AB}{es:Fq}{e:α->TV}{l:List α}{a b:α}(h:x.ev O=.lp q qi (j.toNat*n))(p:O.x8 q qi=some (n,es))(he:es=l.map e)(u:∀a,(e a).cells.length=n)(hv:v.ev O=.tv (e b))(w:idx l j=some a)(A:Nat.blt 0 n=true)
  (o:O.Aak q qi n ((BN l j b).map e)=env')(k:WO S K os env'):WO S K (⟨none,.xst x v n,none⟩::os) O:=lR h p hv he u w A o k
end
section
variable{S:FuncId->Fq->Az->Prop}{K:AB->Prop}{os:List PR}{O:AB}{d:Nat}
theorem tH(k:∀b,WO S K os ((d,.mx (.mp b []))::O)):WO S K (⟨some d,.mkm,none⟩::os) O:=
 ⟨fun b=>(k b).out⟩
theorem tJ{s:Nat}{last:Option ((Int×Int)×Int)}{o:BR}(h:O.get s=.mx (.mi last o))(hd:d≠s)(w:o=[]->WO S K os ((d,.tp [.bool false])::O))(A:∀p u,o.Perm (p::u)->WO S K os ((d,.tp [.bool true,P7 p.1,.int .i64 p.2])::(s,.mx (.mi (some p) u))::O)):WO S K (⟨some d,.mnx s,none⟩::os) O:=by
 refine ⟨?_⟩;simp only[wpOps,PR.wp,AD.wp,h];exact⟨hd,fun e=>(w e).out,fun p t B=>(A p t B).out⟩
variable{kvs:BR}
theorem jX{f:FuncId}{args:List AE}{ts us:Fq}(hv:vals O args=some ts)(h:S f ts (.mpr kvs us))(k:∀b,WO S K os ((d,.mx (.tm b kvs us))::O)):WO S K (⟨some d,.AaO f args,none⟩::os) O:=by
 refine ⟨?_⟩;simp only[wpOps,PR.wp,AD.wp,hv,AW];exact .inr ⟨kvs,us,h,fun _ b=>(k b).out⟩
theorem jW{f:FuncId}{args:List AE}{ts us:Fq}(hv:vals O args=some ts)(h:S f ts (.tp us))(k:WO S K os ((d,.tp us)::O)):WO S K (⟨some d,.AaO f args,none⟩::os) O:=by
 refine ⟨?_⟩;simp only[wpOps,PR.wp,AD.wp,hv,AW];exact .inl ⟨us,h,fun _=>k.out⟩
theorem Jg{ss:QQ}{s:Nat}{r:AB}{m:MX}(h:O.get s=.mx m)(k:Kp O ss r):Kp O (s::ss) ((s,.mx m)::r):=MG h k
theorem sW{ss:QQ}{s:Nat}{r:AB}{q:List (Nat×EV)}{m:MX}(h:look q s=none)(o:O.get s=.mx m)(k:Nm O q ss r):Nm O q (s::ss) ((s,.mx m)::r):=OW h o k
end
def MJ(r:BR×Int):Az:=if r.2=0 then .mpr r.1 [.int .i64 r.2]else .tp [.undef,.int .i64 r.2]
structure tY(o:Nat):Prop where
variable{kvs:BR}
theorem mO{h:List RV}{O:AB}{e:Int}(he:(!decide (e=0))=true)(o:h.length≠1)(p:Dw O h=some [.undef,.int .i64 e]):Bp h (MJ (kvs,e)) O:=by
 simp only[Bool.not_eq_true',decide_eq_false_iff_not]at he;simp only[MJ,b6 he];exact⟨o,p⟩
theorem mP{s o b:Nat}{h:List RV}{O:AB}(_:tY o)(p:O.get s=.tv (.Aa1 b))(u:O.get o=.mx (.mp b kvs))(w:h≠[])(A:Dw O h=some [.int .i64 0]):Bp (.tmp s::h) (MJ (kvs,0)) O:=by
 simp only[MJ,if_true,Bp];exact⟨w,⟨b,o,p,u⟩,A⟩
section
variable{P:Program}{α β:Type}{K:AB->Prop}{os:List PR}{O:AB}{d:Nat}{x:Option α}{k:α->Option β}{r:β}{f:FuncId}{args:List AE}{ts:Fq}{R:α->Az}
variable{us:α->Fq}
theorem gV{i s:Nat}{cs:List AQ}{q:α->Bool}{u v:α->List AQ}{e:α->EV}(h:x.bind k=some r)(c:Ct P x f ts R)(A:(args[i]?).bind (·.place O)=some (s,0))(B:O.get s=.bx cs)(C:O.noX s none=true)(hd:d≠s)(D:HN O i args=some ts)(E:∀a,R a=.bo cs (if q a=true then u a else v a) i (us a))(he:∀a,EV.ofs (us a)=e a)
  (F:∀a,x=some a->q a=true->k a=some r->WO (AO P) K os ((d,e a)::(s,.bx (u a))::O))(G:∀a,x=some a->q a=false->k a=some r->WO (AO P) K os ((d,e a)::(s,.bx (v a))::O)):WO (AO P) K (⟨some d,.AaJ f args i,none⟩::os) O:=by
 refine lb h c A B C hd D E he (fun a o p=>?_);cases w:q a with
 |true=>rw[az rfl];exact F a o w p|false=>rw[b6 (by simp)];exact G a o w p
end
section
variable{S:FuncId->Fq->Az->Prop}{a b:PC}{O:AB}
variable{Q:Q}
theorem n9{c:AE}{β:Type}{q:Bool}{u v:Option β}{r:β}(p:c.val O=some (.bool q))(h:(if q=true then u else v)=some r)(o:q=true)(k:u=some r->WP S a Q O):WP S (.cond c a b) Q O:=
 QF p o (k (Uo o h))
theorem n7{c:AE}{β:Type}{q:Bool}{u v:Option β}{r:β}(p:c.val O=some (.bool q))(h:(if q=true then u else v)=some r)(o:q=false)(k:v=some r->WP S b Q O):WP S (.cond c a b) Q O:=
 QE p o (k (Un o h))
end
end Go.Sf
set_option maxRecDepth 100000
namespace Go.Sf
theorem au{P:Prop}(p:P:=by
 repeat' (first
  |(show WO _ _ _ _;first
    |apply L0
    |(apply tE;exact rfl;(first|exact rfl|exact Ml.eq))
    |(apply qI;exact rfl;(first|exact rfl|exact Ml.eq))
    |(apply nx;(with_reducible exact h);infer_instance;exact rfl;exact rfl;exact rfl;intro x o h)
    |(apply qB;exact rfl;exact rfl;exact rfl;exact rfl)
    |(apply ny;exact rfl;exact rfl;exact rfl;(focus ((repeat(apply NT.cons;exact rfl));exact NT.nil rfl)))
    |(apply XO;exact rfl;exact rfl;exact rfl)
    |(apply nk;exact rfl;exact rfl;infer_instance;exact rfl;exact rfl;exact rfl)
    |(apply nt;exact rfl;exact rfl;infer_instance;exact rfl;exact rfl;exact rfl)
    |refine np rfl rfl rfl rfl rfl ?_
    |refine nu rfl rfl rfl rfl rfl ?_
    |(apply rK;exact h;exact rfl;exact rfl;intro x o h)
    |(apply rL;exact h;exact rfl;exact rfl;intro x o h)
    |(apply qv;exact h;exact rfl;exact rfl;decide;intro x o h)
    |(apply oH;exact h;exact rfl;exact rfl;intro x o h)
    |(apply st;exact fun _ k=>k)
    |(apply tC;exact rfl)
    |(apply sC;exact rfl;assumption)
    |(apply oj;exact rfl;assumption)
    |(apply ua;exact rfl)
    |(apply nN;exact rfl;assumption;exact rfl)
    |(apply nM;exact rfl;assumption;exact rfl)
    |(apply lf;assumption;exact h;infer_instance;exact rfl;exact fun _=>rfl;intro x o h)|(apply gV;exact h;infer_instance;exact rfl;exact rfl;exact rfl;decide;exact rfl;exact fun _=>rfl;exact fun _=>rfl;intro x o C h;rotate_left;intro x o C h;rotate_left)|(apply uD h;intro x c h;apply st;first|exact fun _ k=>⟨_,⟨c,rfl⟩,fun _=>k⟩|exact fun _ k=>⟨_,c,fun _=>k⟩|exact fun _ k=>⟨_,c,k⟩|exact fun _ k=>⟨rfl,_,_,.inl c,fun _=>k⟩|exact fun _ k=>⟨⟨rfl,Nat.ne_of_beq_eq_false rfl⟩,_,_,c,fun _=>k⟩|exact fun _ k=>⟨Nat.ne_of_beq_eq_false rfl,_,c,fun _=>k⟩|exact fun _ k=>⟨rfl,_,_,_,rfl,c,fun _=>k⟩|exact fun _ k=>⟨⟨Nat.ne_of_beq_eq_false rfl,rfl⟩,rfl,rfl,_,_,rfl,c,fun _=>k⟩)
    |(apply nw;exact h;exact rfl;exact rfl;(first|exact rfl|exact Ml.eq);(first|exact rfl|exact Ml.eq);infer_instance;intro x o h)
    |(apply bnd h;intro x o h;first|(apply tB o;exact rfl;exact rfl;(first|exact rfl|exact Ml.eq);exact rfl)|(apply lK o;exact rfl;exact rfl;(first|exact rfl|exact Ml.eq);(first|exact rfl|exact Ml.eq);exact rfl)|(apply tO o;exact rfl;(first|exact rfl|exact Ml.eq);exact rfl;exact rfl)|(apply qG o;exact rfl;exact rfl)|(apply qH o;exact rfl;exact rfl;exact rfl)|(apply tS o;exact rfl;exact rfl;(first|exact rfl|exact Ml.eq);exact rfl)|(apply p9 o;exact rfl;exact rfl;(first|exact rfl|exact Ml.eq);(first|exact rfl|exact Ml.eq);exact rfl;exact rfl;decide)|(apply qA o;exact rfl;exact rfl;exact rfl;exact rfl;exact rfl;exact rfl;decide;exact rfl;exact rfl)|(apply s9 o;exact rfl;exact rfl;exact rfl;exact rfl;exact rfl;decide)|(apply tI o;exact rfl;exact rfl;exact rfl;exact rfl))
    |(apply lc;exact h;infer_instance;exact rfl;exact fun _=>rfl;intro x o h)
    |(apply q9;exact rfl;(with_reducible exact h);intro A C h;rotate_left;intro A C h;rotate_left)
    |(apply q8;exact rfl;(with_reducible exact h);intro A C h;rotate_left;intro A C h;rotate_left)
    |(apply rC h (ho:=rfl);(focus ((repeat(first|apply GS.step|(apply GS.Ab3;exact rfl)));exact GS.done));exact rfl;exact rfl;intro v A C h;rotate_left;intro v A C h;rotate_left;intro v h;rotate_left)
    |(apply rA h (ho:=rfl);(focus ((repeat(first|apply GS.step|(apply GS.Ab3;exact rfl)));exact GS.done));exact rfl;exact rfl;intro v A C h;rotate_left;intro v A C h;rotate_left;intro v h;rotate_left)
    |(apply qz rfl;(focus ((repeat(first|apply GS.step|(apply GS.Ab3;exact rfl)));exact GS.done));exact rfl;exact rfl;intro A C;rotate_left;intro A C;rotate_left 3)
    |(apply qy rfl;(focus ((repeat(first|apply GS.step|(apply GS.Ab3;exact rfl)));exact GS.done));exact rfl;exact rfl;intro A C;rotate_left;intro A C;rotate_left 3)
    |apply oC
    |(apply oG;exact rfl;(focus ((repeat(apply Lm.cons;exact rfl));exact Lm.nil));exact fun _=>rfl;infer_instance)|(apply oF;exact rfl;(focus ((repeat(apply Lm.cons;exact rfl));exact Lm.nil));exact fun _=>rfl)
    |(apply rG;exact rfl;exact rfl)
    |(apply rF;(with_reducible exact h);infer_instance;exact rfl;exact rfl;exact rfl;intro x o h)
    |(apply ke;exact rfl;exact rfl;exact rfl)
    |(apply rE;exact rfl;exact rfl;exact rfl;exact rfl)
    |(apply oE;exact rfl;exact rfl;exact rfl)
    |(apply oI;exact rfl;exact rfl;exact rfl;exact rfl)
    |(apply rN;exact rfl;exact rfl;exact rfl;exact rfl;exact rfl;(focus ((repeat(apply NL.cons;exact rfl));exact NL.nil rfl)))
    |(apply oJ;exact rfl;exact rfl;exact rfl;decide;exact rfl;(focus ((repeat(apply NL.cons;exact rfl));exact NL.nil rfl)))
    |(apply tF;exact rfl;exact rfl)
    |(apply tG;exact rfl;exact rfl)
    |(apply qx;exact rfl;infer_instance)
    |(apply oK;exact rfl;exact rfl;exact rfl;exact fun _=>rfl;assumption;exact rfl;exact rfl;exact rfl)|(apply rR;exact rfl;exact rfl;exact rfl;exact fun _=>rfl;assumption;exact rfl;exact rfl;exact rfl)|(apply oM;assumption;exact rfl;exact rfl;exact rfl;exact rfl;exact fun _=>rfl;assumption;exact rfl;exact rfl;exact rfl;exact rfl)|(apply oL;exact rfl;exact rfl;exact rfl;exact rfl;exact fun _=>rfl;assumption;exact rfl;exact rfl;exact rfl;exact rfl)|(apply oN;assumption;exact rfl;exact rfl;exact rfl;exact fun _=>rfl;exact rfl;(focus ((repeat(apply NT.cons;exact rfl));exact NT.nil rfl));exact rfl;exact fun _ _ _=>rfl;assumption;exact rfl;exact rfl)|(apply rS;exact rfl;exact rfl;exact rfl;exact fun _=>rfl;exact rfl;assumption;exact rfl;exact rfl)|(apply gY;exact h;infer_instance;exact rfl;exact rfl;exact fun _=>rfl;exact fun _=>rfl;intro x o h)|(apply gX;exact h;infer_instance;exact rfl;exact fun _=>rfl;exact fun _=>rfl;intro x o h)
    |(apply rD;exact h;exact rfl;(first|exact rfl|exact Ml.eq);intro u h)
    |(apply lL;exact rfl;exact rfl;intro z D;replace h:=lr h z D)
    |(apply rH;exact h;exact rfl;exact rfl;exact rfl;(first|exact rfl|exact Ml.eq);intro x o h)
    |(apply tK;exact rfl;exact rfl;(first|exact rfl|exact Ml.eq);assumption)
    |(apply rJ;exact h;exact rfl;exact rfl;exact rfl;(first|exact rfl|exact Ml.eq);exact fun _=>rfl;assumption;intro x o h)
    |(apply tL;exact rfl;exact rfl;exact rfl;(first|exact rfl|exact Ml.eq);exact fun _=>rfl;assumption;assumption;exact rfl;exact rfl;exact rfl;exact rfl)
    |(apply nv;exact h;exact rfl;exact rfl;exact rfl;exact rfl;(first|exact rfl|exact Ml.eq);exact rfl;exact rfl;decide;exact rfl;intro x o h)
    |(apply gW;exact h;infer_instance;exact rfl;exact fun _=>rfl;exact fun _=>rfl;exact fun _=>rfl;intro x o h)
    |(apply tH;intro b;have K:=K b)
    |(apply st;(focus (intro _ k;(repeat' (first|exact k|exact rfl|exact Nat.le_of_ble_eq_true rfl|exact Nat.ne_of_beq_eq_false rfl|decide|apply And.intro));done)))
    |(apply sn;(focus (intro _ k;(repeat' (first|exact k|exact rfl|exact Nat.le_of_ble_eq_true rfl|exact Nat.ne_of_beq_eq_false rfl|decide|apply And.intro));done))))
  |(show WP _ _ _ _;first
    |with_reducible apply qw
    |apply Jd
    |apply OO
    |(apply oB;exact rfl)
    |(apply rM;exact rfl;exact rfl)
    |apply Xa
    |apply bK
    |apply dR
    |(apply QF;exact rfl;with_reducible rfl)
    |(apply QE;exact rfl;with_reducible rfl)
    |(apply oD;exact rfl;exact h;assumption;exact rfl;intro w C h;rotate_left;intro w C h;rotate_left;intro w h;rotate_left)
    |(apply n9;exact rfl;exact h;assumption;intro h)
    |(apply n7;exact rfl;exact h;assumption;intro h)
    |(apply oA;exact rfl;exact h;intro C h;rotate_left;intro C h;rotate_left)
    |(apply QF;exact rfl;apply u7;assumption)
    |(apply QE;exact rfl;apply uY;assumption)
    |(apply dT;assumption;exact h;exact B;(first|exact R0 rfl (by first|exact rfl|exact Ml.eq)|exact Rz rfl|exact PT rfl rfl (by first|exact rfl|exact Ml.eq)|exact PS rfl rfl|exact R2 rfl|exact R1 rfl (by first|exact rfl|exact Ml.eq)|exact R4 rfl rfl|exact R3|exact Ry (by decide));exact rfl;exact rfl;exact fun _ _=>rfl;intro i s r hi h B;rotate_left;intro i s hi;clear h;rotate_left;intro s h;rotate_left)
    |(apply dT;apply HB.a;assumption;exact h;exact B;(first|exact R0 rfl (by first|exact rfl|exact Ml.eq)|exact Rz rfl|exact PT rfl rfl (by first|exact rfl|exact Ml.eq)|exact PS rfl rfl|exact R2 rfl|exact R1 rfl (by first|exact rfl|exact Ml.eq)|exact R4 rfl rfl|exact R3|exact Ry (by decide));exact rfl;exact rfl;exact fun _ _=>rfl;intro i s r hi h B;rotate_left;intro i s hi;clear h;rotate_left;intro s h;rotate_left)
    |(apply dW;assumption;assumption;exact rfl;exact h;exact B;(first|exact R0 rfl (by first|exact rfl|exact Ml.eq)|exact Rz rfl|exact PT rfl rfl (by first|exact rfl|exact Ml.eq)|exact PS rfl rfl|exact R2 rfl|exact R1 rfl (by first|exact rfl|exact Ml.eq)|exact R4 rfl rfl|exact R3|exact Ry (by decide));exact rfl;exact rfl;exact fun _ _=>rfl;intro i s r hi h B;rotate_left;intro i s hi;clear h;rotate_left;intro s h;rotate_left)
    |(apply dW;apply HB.a;assumption;assumption;exact rfl;exact h;exact B;(first|exact R0 rfl (by first|exact rfl|exact Ml.eq)|exact Rz rfl|exact PT rfl rfl (by first|exact rfl|exact Ml.eq)|exact PS rfl rfl|exact R2 rfl|exact R1 rfl (by first|exact rfl|exact Ml.eq)|exact R4 rfl rfl|exact R3|exact Ry (by decide));exact rfl;exact rfl;exact fun _ _=>rfl;intro i s r hi h B;rotate_left;intro i s hi;clear h;rotate_left;intro s h;rotate_left)
    |(apply dV;assumption;exact h;exact B;(first|exact R0 rfl (by first|exact rfl|exact Ml.eq)|exact Rz rfl|exact PT rfl rfl (by first|exact rfl|exact Ml.eq)|exact PS rfl rfl|exact R2 rfl|exact R1 rfl (by first|exact rfl|exact Ml.eq)|exact R4 rfl rfl|exact R3|exact Ry (by decide));exact rfl;exact rfl;exact fun _ _=>rfl;intro i s r hi h B;rotate_left;intro i s hi;clear h;rotate_left;intro s h;rotate_left)
    |(apply dV;apply HB.a;assumption;exact h;exact B;(first|exact R0 rfl (by first|exact rfl|exact Ml.eq)|exact Rz rfl|exact PT rfl rfl (by first|exact rfl|exact Ml.eq)|exact PS rfl rfl|exact R2 rfl|exact R1 rfl (by first|exact rfl|exact Ml.eq)|exact R4 rfl rfl|exact R3|exact Ry (by decide));exact rfl;exact rfl;exact fun _ _=>rfl;intro i s r hi h B;rotate_left;intro i s hi;clear h;rotate_left;intro s h;rotate_left)
    |(apply dU;assumption;exact h;exact B;(first|exact R0 rfl (by first|exact rfl|exact Ml.eq)|exact Rz rfl|exact PT rfl rfl (by first|exact rfl|exact Ml.eq)|exact PS rfl rfl|exact R2 rfl|exact R1 rfl (by first|exact rfl|exact Ml.eq)|exact R4 rfl rfl|exact R3|exact Ry (by decide));exact rfl;exact rfl;exact fun _ _=>rfl;intro i s r hi h B;rotate_left;intro i s hi;clear h;rotate_left;intro s h;rotate_left)
    |(apply dU;apply HB.a;assumption;exact h;exact B;(first|exact R0 rfl (by first|exact rfl|exact Ml.eq)|exact Rz rfl|exact PT rfl rfl (by first|exact rfl|exact Ml.eq)|exact PS rfl rfl|exact R2 rfl|exact R1 rfl (by first|exact rfl|exact Ml.eq)|exact R4 rfl rfl|exact R3|exact Ry (by decide));exact rfl;exact rfl;exact fun _ _=>rfl;intro i s r hi h B;rotate_left;intro i s hi;clear h;rotate_left;intro s h;rotate_left)
    |(apply rQ;assumption;assumption;exact rfl;exact h;exact rfl;exact rfl;intro s r h B;rotate_left;intro s h;rotate_left)
    |(apply rP;assumption;exact h;exact rfl;exact rfl;intro s r h B;rotate_left;intro s h;rotate_left)
    |(apply rO;assumption;exact h;exact rfl;exact rfl;intro s r h B;rotate_left;intro s h;rotate_left)
    |apply Zs
    |cases h)
  |(show Kp _ _ _;first
    |exact Hc
    |(apply Ji;exact rfl)
    |(apply sL;exact rfl)
    |(apply Jf;exact rfl)
    |(apply sN;exact rfl)
    |(apply sJ;exact rfl)
    |(apply Jh;exact rfl)
    |(apply Jj;exact rfl)
    |(apply sK;exact rfl)
    |(apply sM;exact rfl)
    |(apply pA;exact rfl)
    |(apply Jg;exact rfl))
  |(show Nm _ _ _ _;first
    |exact pF
    |(apply pE;exact rfl)
    |(apply sZ;exact rfl;exact rfl)
    |(apply sX;exact rfl;exact rfl)
    |(apply sU;exact rfl;exact rfl)
    |(apply sb;exact rfl;exact rfl)
    |(apply sT;exact rfl;exact rfl)
    |(apply sY;exact rfl;exact rfl)
    |(apply sa;exact rfl;exact rfl)
    |(apply sV;exact rfl;exact rfl)
    |(apply sW;exact rfl;exact rfl))
  |apply mA
  |(apply iH;intro j)
  |apply l9
  |exact eC rfl
  |(cases h;exact eC rfl)
  |apply Xw
  |(apply lz;decide)
  |intro B
  |(cases h;first|exact rfl|exact⟨rfl⟩|exact⟨rfl,rfl⟩|exact⟨_,rfl,rfl⟩|exact⟨_,rfl,⟨rfl⟩⟩|exact⟨rfl,_,rfl,⟨rfl⟩⟩|exact⟨by decide,rfl⟩|exact⟨_,rfl,by decide,rfl⟩|exact⟨_,rfl,rfl,rfl⟩|exact mP (by assumption) rfl rfl (by decide) rfl|exact⟨_,rfl,mO (by first|assumption|decide) (by decide) rfl⟩)
  |exact⟨rfl,⟨rfl⟩⟩)):P:=p
end Go.Sf
