/- Contracts that are found by themselves: rules that take the typed text along, and the script that applies them. -/
import Derived.Test.YtfcfkigfmofniaaGreatSfK
import Derived.Test.YtfcfkigfmofniaaGreatSfStep
import Derived.Test.YtfcfkigfmofniaaGreatSfLib
set_option linter.all false
namespace Go.Sf
class Ct(P:Program){α:Type}(x:Option α)(f:outParam FuncId)(ts:outParam Fq)(R:outParam (α->Al)):Prop where
 snd:∀r,x=some r->AX P f ts (R r)
class Ml(es:Fq){α:outParam Type}(e:outParam (α->TV))(l:outParam (List α)):Prop where
 eq:es=l.map e
class gA{α:Type}(e:α->TV)where
 un:Fq->α
 dec:∀a b,∃i:Decidable (a=b),B1 (e a).cells (e b).cells=some (@decide (a=b) i)
class Fz(cs:List AR)(row:outParam Fq):Prop where
 h:cs.map (·.t)=row
instance(priority:=high){l:Fq}:Fz (l.map fun x=>(⟨false,x⟩:AR)) l:=⟨by rw[List.map_map];exact List.map_id _⟩
instance(priority:=low){cs:List AR}:Fz cs (cs.map (·.t)):=⟨rfl⟩
class En(α:Type)(e:outParam (α->TV)):Prop where
class Fl{α:Type}(e:α->TV)(n:outParam Nat)(f:outParam (List α->TV)):Prop where
 eq:∀l,f l=.list n (l.map e)
structure Kp(O:AB)(l:QQ)(r:AB):Prop where
 of::out:O.fm l=r
def look:List (Nat×EV)->Nat->Option EV
 |[],_=>none|(k,e)::r,n=>if k=n then some e else look r n
def x7(O:AB)(m:List (Nat×EV)):QQ->AB
 |[]=>[]|s::ss=>(s,(look m s).getD (O.get s))::x7 O m ss
structure Nm(O:AB)(m:List (Nat×EV))(l:QQ)(r:AB):Prop where
 of::out:x7 O m l=r
structure Rn(a b:AB):Prop where
 of::out:a=b
structure HJ{σ:Type}(n:Nat)(M:σ->List (Nat×EV)):Prop where
structure HA{σ:Type}(n EH q i:Nat)(M:Int->σ->List (Nat×EV)):Prop where
structure HB{σ:Type}(n EH q i:Nat)(M:Int->σ->List (Nat×EV)):Prop where
theorem HB.a{σ:Type}{n EH q i:Nat}{M:Int->σ->List (Nat×EV)}(_:HB n EH q i M):HA n EH q i M:=⟨⟩
structure HW{σ:Type}(n:Nat)(M:σ->List (Nat×EV)):Prop where
structure HR{β:Type}(R:β->AB->Prop):Prop where
structure HS(n:Nat):Prop where
structure HX{α γ:Type}(n:Nat)(f:α->γ->α):Prop where
structure ZS(g:Nat)(b q:Bool):Prop where
 of::out:q=b
structure VQ(g:Nat)(b q:Bool):Prop where
 of::out:q=!b
def KR(n:AB->Prop)(l:QQ):AB->Prop:=fun e=>n (e.fm l)
section
variable{O:AB}{s:Nat}{ss:QQ}{r:AB}{m:List (Nat×EV)}
theorem IF:Kp O [] []:=⟨rfl⟩
theorem Ng{e:EV}(h:O.get s=e)(k:Kp O ss r):Kp O (s::ss) ((s,e)::r):=⟨by rw[<-k.out,<-h];rfl⟩
theorem Kf{t:TV}(h:O.get s=.tv t)(k:Kp O ss r):Kp O (s::ss) ((s,.tv t)::r):=Ng h k
theorem vK{t:TV}(h:O.get s=.ow t)(k:Kp O ss r):Kp O (s::ss) ((s,.ow t)::r):=Ng h k
theorem Kc{t:List AR}(h:O.get s=.bx t)(k:Kp O ss r):Kp O (s::ss) ((s,.bx t)::r):=Ng h k
theorem vI{q o:Nat}(h:O.get s=.bp q o)(k:Kp O ss r):Kp O (s::ss) ((s,.bp q o)::r):=Ng h k
theorem Ke{t:Fq}(h:O.get s=.tp t)(k:Kp O ss r):Kp O (s::ss) ((s,.tp t)::r):=Ng h k
theorem Kg(h:O.get s=.undef)(k:Kp O ss r):Kp O (s::ss) ((s,.undef)::r):=Ng h k
theorem vM{n:Nat}{t:Fq}(h:O.get s=.xo n t)(k:Kp O ss r):Kp O (s::ss) ((s,.xo n t)::r):=Ng h k
theorem vJ{q:Nat}{i:Option Nat}(h:O.get s=.la q i)(k:Kp O ss r):Kp O (s::ss) ((s,.la q i)::r):=Ng h k
theorem vL(h:O.get s=.sk)(k:Kp O ss r):Kp O (s::ss) ((s,.sk)::r):=Ng h k
theorem rW{t:List AR}(h:O.get s=.yr t)(k:Kp O ss r):Kp O (s::ss) ((s,.yr t)::r):=Ng h k
theorem rZ:Nm O m [] []:=⟨rfl⟩
theorem rY{e:EV}(h:look m s=some e)(k:Nm O m ss r):Nm O m (s::ss) ((s,e)::r):=⟨by rw[<-k.out];simp only[x7,h,Option.getD_some]⟩
theorem P9{e:EV}(h:look m s=none)(o:O.get s=e)(k:Nm O m ss r):Nm O m (s::ss) ((s,e)::r):=⟨by rw[<-k.out];simp only[x7,h,o,Option.getD_none]⟩
theorem vb{t:TV}(h:look m s=none)(o:O.get s=.tv t)(k:Nm O m ss r):Nm O m (s::ss) ((s,.tv t)::r):=P9 h o k
theorem vZ{t:TV}(h:look m s=none)(o:O.get s=.ow t)(k:Nm O m ss r):Nm O m (s::ss) ((s,.ow t)::r):=P9 h o k
theorem vW{t:List AR}(h:look m s=none)(o:O.get s=.bx t)(k:Nm O m ss r):Nm O m (s::ss) ((s,.bx t)::r):=P9 h o k
theorem vV{q o:Nat}(h:look m s=none)(p:O.get s=.bp q o)(k:Nm O m ss r):Nm O m (s::ss) ((s,.bp q o)::r):=P9 h p k
theorem va{t:Fq}(h:look m s=none)(o:O.get s=.tp t)(k:Nm O m ss r):Nm O m (s::ss) ((s,.tp t)::r):=P9 h o k
theorem vc(h:look m s=none)(o:O.get s=.undef)(k:Nm O m ss r):Nm O m (s::ss) ((s,.undef)::r):=P9 h o k
theorem vd{n:Nat}{t:Fq}(h:look m s=none)(o:O.get s=.xo n t)(k:Nm O m ss r):Nm O m (s::ss) ((s,.xo n t)::r):=P9 h o k
theorem vX{q:Nat}{i:Option Nat}(h:look m s=none)(o:O.get s=.la q i)(k:Nm O m ss r):Nm O m (s::ss) ((s,.la q i)::r):=P9 h o k
end
def PC.xl(i:Nat):PC->Option QQ
 |.exit j l=>if j=i then some l else none|.seq a b=>match a.xl i with
  |some l=>some l|none=>b.xl i
 |.cond _ a b=>match a.xl i with
  |some l=>some l|none=>b.xl i
 |.block _ a=>a.xl i|.loop _ a=>a.xl i|.rls _ a=>a.xl i|_=>none
def PC.last:PC->Option QQ
 |.region _ l=>some l|.draw _ _ l=>some l|.skip l=>some l|.exit _ l=>some l|.seq _ b=>b.last|.cond _ a _=>a.last|.block i (.loop _ b)=>b.xl i|.block _ c=>c.last|.rls _ c=>c.last|_=>none
section
variable{S:FuncId->Fq->Al->Prop}{K:AB->Prop}{os:List PR}{O:AB}{d:Nat}
section code
variable{n t:AB->Prop}{x:Nat->AB->Prop}{a b:PC}{l:QQ}{env':AB}
theorem NO(o:Kp O l env')(h:n env'):WO S (KR n l) [] O:=⟨by show n (O.fm l);rw[o.out];exact h⟩
theorem P0{ops:List PR}(h:WO S (KR n l) ops O):WP S (.region ops l) ⟨n,x,t⟩ O:=⟨h.out⟩
theorem qO{D:QQ}{ops:List PR}(hd:Rl O D=true)(h:WO S (KR n l) ops O):WP S (.draw D ops l) ⟨n,x,t⟩ O:=⟨hd,h.out⟩
theorem KZ(h:WP S a ⟨fun e=>(∀s,(e.get s).WF)->WP S b ⟨n,x,t⟩ e,x,t⟩ O):WP S (.seq a b) ⟨n,x,t⟩ O:=ur h
theorem ZV(o:Kp O l env')(h:n env'):WP S (.skip l) ⟨n,x,t⟩ O:=qt o.out h
theorem dw(h:t O):WP S .ret ⟨n,x,t⟩ O:=⟨h⟩
theorem gJ{i:Nat}(o:Kp O l env')(h:x i env'):WP S (.exit i l) ⟨n,x,t⟩ O:=qr o.out h
theorem t1{s:Nat}{cs cs':List AR}{c:PC}{q:Q}(h:O.get s=.bx cs)(he:cs.map AR.rel=cs')(k:WP S c q ((s,.bx cs')::O)):WP S (.rls s c) q O:=by
 refine ⟨?_⟩;subst he;simp only[PC.wp,h];exact k.out
theorem cO{i:Nat}(h:WP S a ⟨n,fun j e=>if j=i then n e else x j e,t⟩ O):WP S (.block i a) ⟨n,x,t⟩ O:=XL h
theorem tV{m:List (Nat×EV)}{e:AB}{q:Q}(he:Nm e m l env')(h:WP S a q env'):WP S a q (x7 e m l):=by rw[he.out];exact h
variable{Q:Q}
theorem qN{c:AE}{β:Type}{q:Bool}{u v:Option β}{r:β}(o:c.val O=some (.bool q))(h:(if q=true then u else v)=some r)(p:q=true->u=some r->WP S a Q O)(w:q=false->v=some r->WP S b Q O):WP S (.cond c a b) Q O:=
 WB o (fun e=>p e (WY e h)) (fun e=>w e (WX e h))
theorem qU{σ β:Type}{i:Nat}{M:σ->List (Nat×EV)}{q:Bool}{u v:Option σ}{k:σ->Option β}{r:β}(p:(AE.s i).val O=some (.bool q))(h:((if q=true then u else v).bind k)=some r)(_:HJ i M)(_:(PC.cond (.s i) a b).last=some l)
  (A:∀w,q=true->u=some w->WP S a ⟨fun e=>Rn e (x7 O (M w) l),x,t⟩ O)(B:∀w,q=false->v=some w->WP S b ⟨fun e=>Rn e (x7 O (M w) l),x,t⟩ O)(C:∀w,k w=some r->n (x7 O (M w) l)):WP S (.cond (.s i) a b) ⟨n,x,t⟩ O:=by
 obtain ⟨w,o,h⟩:=bind_some h;refine uq (fun e=>Rn e (x7 O (M w) l)) ?_ (fun e he=>by rw[he.out];exact C w h);exact WB p (fun e=>A w e (WY e o)) (fun e=>B w e (WX e o))
end code
structure Bd(O:AB)(q i:Nat)(b:Int):Prop where
 of::out:(∀s,(O.get s).WF)->b<=9223372036854775807
section bounds
variable{q i:Nat}{α:Type}{e:α->TV}{l:List α}{es row:Fq}{n:Nat}
theorem w4{b:Int}(h:decide (b<=9223372036854775807)=true):Bd O q i b:=⟨fun _=>of_decide_eq_true h⟩
theorem w9{b:Int}:Bd O q i (AG b):=⟨fun _=>tM _⟩
theorem w6(h:O.get q=.tv (.list n es))(he:es=l.map e):Bd O q i l.length:=⟨fun o=>by have:=o q;rw[h]at this;exact U4 (ZP this) he⟩
theorem w7(h:O.get q=.ow (.list n es))(he:es=l.map e):Bd O q i l.length:=⟨fun o=>by have:=o q;rw[h]at this;exact U4 (wW this) he⟩
theorem xA(h:O.get q=.xo n es)(he:es=l.map e):Bd O q i l.length:=⟨fun o=>by have:=o q;rw[h]at this;exact U4 (wX this) he⟩
theorem w8{b:ByteArray}(h:O.get q=.tv (.str b)):Bd O q i b.size:=⟨fun o=>by have:=o q;rw[h]at this;exact p5 (ZP this)⟩
theorem w5{b:Int}(h:O.get q=.tv (.int .i64 b)):Bd O q i b:=⟨fun o=>by have:=o q;rw[h]at this;exact jy (ZP this)⟩
theorem uD(h:O.get q=.tv (.pt row))(o:row[i]?=some (.list n es))(he:es=l.map e):Bd O q i l.length:=⟨fun p=>by have:=p q;rw[h]at this;exact U4 (dh (nv this) o) he⟩
theorem uC{b:Int}(h:O.get q=.tv (.pt row))(o:row[i]?=some (.int .i64 b)):Bd O q i b:=⟨fun p=>by have:=p q;rw[h]at this;exact jy (dh (nv this) o)⟩
end bounds
section loops
variable{σ β ρ:Type}{n t:AB->Prop}{x:Nat->AB->Prop}{c:PC}{live jl:QQ}{i0 EH q i1:Nat}{lo b:Int}{s0:σ}{r:β}{k:σ->Option β}
variable{M:Int->σ->List (Nat×EV)}
theorem tN(h:∀i s,(x7 O (M i s) live).get EH=.tv (.int .i64 i)){i:Int}{s:σ}(o:∀k,((x7 O (M i s) live).get k).WF)(hi:i<b)(p:b<=9223372036854775807):AG (i+1)=i+1:=by
 have:=o EH;rw[h]at this;exact wY (ZP this) hi p
theorem qP{f:Int->σ->Option σ}(_:HA i0 EH q i1 M)(h:(nd f lo b s0).bind k=some r)(p:∀s,(O.get s).WF)(u:Bd O q i1 b)(_:c.xl i0=some jl)(w:O.fm live=x7 O (M lo s0) live)(A:∀i s,(x7 O (M i s) live).get EH=.tv (.int .i64 i))
  (B:∀i s r,i<b->f i s=some r->(∀k,((x7 O (M i s) live).get k).WF)->WP S c ⟨fun e=>Rn (e.fm live) (x7 O (M (AG (i+1)) r) live),fun _ _=>False,fun _=>False⟩ (x7 O (M i s) live))
  (C:∀i s,¬i<b->WP S c ⟨fun _=>False,fun j e=>j=i0/\Rn e (x7 O (M 0 s) jl),fun _=>False⟩ (x7 O (M i s) live))
  (D:∀s,k s=some r->n (x7 O (M 0 s) jl)):WP S (.block i0 (.loop live c)) ⟨n,x,t⟩ O:=by
 obtain ⟨o,ho,h⟩:=bind_some h;have u:=u.out p;refine p6 ho (fun i s=>x7 O (M i s) live) (fun s=>x7 O (M 0 s) jl) w (fun i s r hi hf p=>⟨PC.og S c _ _ (B i s r hi hf p).out _ (fun e he=>?_) (fun _ _ h=>h) (fun _ h=>h)⟩) (fun i s hi=>⟨PC.og S c _ _ (C i s hi).out _ (fun _ h=>h) (fun j e h=>⟨h.1,h.2.out⟩) (fun _ h=>h)⟩) (D o h);have:=he.out;rw[tN A p hi u]at this;exact this
variable{kr:ρ->Option β}
theorem XX{f:Int->σ->Option (Bf σ ρ)}{R:ρ->AB->Prop}(h:ek (kg f lo b s0) k kr=some r)(w:b<=9223372036854775807)(A:O.fm live=x7 O (M lo s0) live)(B:∀i s,(x7 O (M i s) live).get EH=.tv (.int .i64 i))
  (C:∀i s r,i<b->f i s=some r->(∀k,((x7 O (M i s) live).get k).WF)->WP S c ⟨fun e=>∃s',r=.next s'/\Rn (e.fm live) (x7 O (M (AG (i+1)) s') live),fun j e=>j=i0/\∃s',r=.brk s'/\Rn e (x7 O (M 0 s') jl),fun e=>∃v,r=.ret v/\R v e⟩ (x7 O (M i s) live))
  (D:∀i s,¬i<b->WP S c ⟨fun _=>False,fun j e=>j=i0/\Rn e (x7 O (M 0 s) jl),fun _=>False⟩ (x7 O (M i s) live))
  (E:∀s,k s=some r->n (x7 O (M 0 s) jl))(F:∀v e,kr v=some r->R v e->t e):WP S (.block i0 (.loop live c)) ⟨n,x,t⟩ O:=by
 obtain ⟨o,ho,h⟩:=XD h;refine dk ho (fun i s=>x7 O (M i s) live) (fun s=>x7 O (M 0 s) jl) R A (fun i s r hi hf u=>⟨PC.og S c _ _ (C i s r hi hf u).out _ (fun e he=>?_) (fun j e he=>?_) (fun _ h=>h)⟩) (fun i s hi=>⟨PC.og S c _ _ (D i s hi).out _ (fun _ h=>h) (fun j e h=>⟨h.1,h.2.out⟩) (fun _ h=>h)⟩) (fun s G=>E s (da h G)) (fun v e hv=>F v e (db h hv))
 .obtain⟨s',p,e2⟩:=he;have e2:=e2.out;rw[tN B u hi w]at e2;exact⟨s',p,e2⟩
 .obtain⟨H,s',p,e2⟩:=he;exact⟨H,s',p,e2.out⟩
theorem qS{f:Int->σ->Option (Bf σ β)}{R:β->AB->Prop}(_:HA i0 EH q i1 M)(_:HR R)(o:R r=t)(h:ek (kg f lo b s0) k (fun v=>some v)=some r)(p:∀s,(O.get s).WF)(u:Bd O q i1 b)(_:c.xl i0=some jl)(w:O.fm live=x7 O (M lo s0) live)(A:∀i s,(x7 O (M i s) live).get EH=.tv (.int .i64 i))
  (B:∀i s r,i<b->f i s=some r->(∀k,((x7 O (M i s) live).get k).WF)->WP S c ⟨fun e=>∃s',r=.next s'/\Rn (e.fm live) (x7 O (M (AG (i+1)) s') live),fun j e=>j=i0/\∃s',r=.brk s'/\Rn e (x7 O (M 0 s') jl),fun e=>∃v,r=.ret v/\R v e⟩ (x7 O (M i s) live))
  (C:∀i s,¬i<b->WP S c ⟨fun _=>False,fun j e=>j=i0/\Rn e (x7 O (M 0 s) jl),fun _=>False⟩ (x7 O (M i s) live))
  (D:∀s,k s=some r->n (x7 O (M 0 s) jl)):WP S (.block i0 (.loop live c)) ⟨n,x,t⟩ O:=
 XX h (u.out p) w A B C D (fun v e hv E=>by cases hv;rw[<-o];exact E)
variable{τ:Type}
theorem qR{f:Int->σ->Option (Bf σ ρ)}{k:σ->Option (Bf τ ρ)}{r:Bf τ ρ}{R:ρ->AB->Prop}(_:HA i0 EH q i1 M)(h:ek (kg f lo b s0) k (fun v=>some (.ret v))=some r)(o:∀s,(O.get s).WF)(p:Bd O q i1 b)(_:c.xl i0=some jl)(u:O.fm live=x7 O (M lo s0) live)(w:∀i s,(x7 O (M i s) live).get EH=.tv (.int .i64 i))
  (A:∀i s r,i<b->f i s=some r->(∀k,((x7 O (M i s) live).get k).WF)->WP S c ⟨fun e=>∃s',r=.next s'/\Rn (e.fm live) (x7 O (M (AG (i+1)) s') live),fun j e=>j=i0/\∃s',r=.brk s'/\Rn e (x7 O (M 0 s') jl),fun e=>∃v,r=.ret v/\R v e⟩ (x7 O (M i s) live))
  (B:∀i s,¬i<b->WP S c ⟨fun _=>False,fun j e=>j=i0/\Rn e (x7 O (M 0 s) jl),fun _=>False⟩ (x7 O (M i s) live))
  (C:∀s,k s=some r->n (x7 O (M 0 s) jl)):WP S (.block i0 (.loop live c)) ⟨n,x,fun e=>∃v,r=.ret v/\R v e⟩ O:=
 XX h (p.out o) u w A B C (fun v e hv D=>by cases hv;exact⟨v,rfl,D⟩)
theorem qQ{f:Int->σ->Option (Bf σ ρ)}(_:HA i0 EH q i1 M)(h:ek (kg f lo b s0) k (fun _=>none)=some r)(o:∀s,(O.get s).WF)(p:Bd O q i1 b)(_:c.xl i0=some jl)(u:O.fm live=x7 O (M lo s0) live)(w:∀i s,(x7 O (M i s) live).get EH=.tv (.int .i64 i))
  (A:∀i s r,i<b->f i s=some r->(∀k,((x7 O (M i s) live).get k).WF)->WP S c ⟨fun e=>∃s',r=.next s'/\Rn (e.fm live) (x7 O (M (AG (i+1)) s') live),fun j e=>j=i0/\∃s',r=.brk s'/\Rn e (x7 O (M 0 s') jl),fun _=>∃v,r=.ret v/\False⟩ (x7 O (M i s) live))
  (B:∀i s,¬i<b->WP S c ⟨fun _=>False,fun j e=>j=i0/\Rn e (x7 O (M 0 s) jl),fun _=>False⟩ (x7 O (M i s) live))
  (C:∀s,k s=some r->n (x7 O (M 0 s) jl)):WP S (.block i0 (.loop live c)) ⟨n,x,t⟩ O:=
 XX (R:=fun _ _=>False) h (p.out o) u w A B C (fun v e hv _=>by cases hv)
theorem ba{f:σ->Option (Bf σ ρ)}{R:ρ->AB->Prop}{M:σ->List (Nat×EV)}(h:ek (Ca f s0) k kr=some r)(u:O.fm live=x7 O (M s0) live)
  (w:∀s r,f s=some r->(∀k,((x7 O (M s) live).get k).WF)->WP S c ⟨fun e=>∃s',r=.next s'/\Rn (e.fm live) (x7 O (M s') live),fun j e=>j=i0/\∃s',r=.brk s'/\Rn e (x7 O (M s') jl),fun e=>∃v,r=.ret v/\R v e⟩ (x7 O (M s) live))
  (A:∀s,k s=some r->n (x7 O (M s) jl))(B:∀v e,kr v=some r->R v e->t e):WP S (.block i0 (.loop live c)) ⟨n,x,t⟩ O:=by
 obtain ⟨o,ho,h⟩:=XD h;refine tS ho (fun s=>x7 O (M s) live) (fun s=>x7 O (M s) jl) R u (fun s r hf C=>⟨PC.og S c _ _ (w s r hf C).out _ (fun e he=>?_) (fun j e he=>?_) (fun _ h=>h)⟩) (fun s D=>A s (da h D)) (fun v e hv=>B v e (db h hv))
 .obtain⟨s',p,e2⟩:=he;exact⟨s',p,e2.out⟩
 .obtain⟨E,s',p,e2⟩:=he;exact⟨E,s',p,e2.out⟩
theorem t8{f:σ->Option (Bf σ β)}{R:β->AB->Prop}{M:σ->List (Nat×EV)}(_:HW i0 M)(_:HR R)(o:R r=t)(h:ek (Ca f s0) k (fun v=>some v)=some r)(_:c.xl i0=some jl)(p:O.fm live=x7 O (M s0) live)
  (u:∀s r,f s=some r->(∀k,((x7 O (M s) live).get k).WF)->WP S c ⟨fun e=>∃s',r=.next s'/\Rn (e.fm live) (x7 O (M s') live),fun j e=>j=i0/\∃s',r=.brk s'/\Rn e (x7 O (M s') jl),fun e=>∃v,r=.ret v/\R v e⟩ (x7 O (M s) live))
  (w:∀s,k s=some r->n (x7 O (M s) jl)):WP S (.block i0 (.loop live c)) ⟨n,x,t⟩ O:=
 ba h p u w (fun v e hv A=>by cases hv;rw[<-o];exact A)
theorem t7{f:σ->Option (Bf σ ρ)}{k:σ->Option (Bf τ ρ)}{r:Bf τ ρ}{R:ρ->AB->Prop}{M:σ->List (Nat×EV)}(_:HW i0 M)(h:ek (Ca f s0) k (fun v=>some (.ret v))=some r)(_:c.xl i0=some jl)(o:O.fm live=x7 O (M s0) live)
  (p:∀s r,f s=some r->(∀k,((x7 O (M s) live).get k).WF)->WP S c ⟨fun e=>∃s',r=.next s'/\Rn (e.fm live) (x7 O (M s') live),fun j e=>j=i0/\∃s',r=.brk s'/\Rn e (x7 O (M s') jl),fun e=>∃v,r=.ret v/\R v e⟩ (x7 O (M s) live))
  (u:∀s,k s=some r->n (x7 O (M s) jl)):WP S (.block i0 (.loop live c)) ⟨n,x,fun e=>∃v,r=.ret v/\R v e⟩ O:=
 ba h o p u (fun v e hv w=>by cases hv;exact⟨v,rfl,w⟩)
theorem t6{f:σ->Option (Bf σ ρ)}{M:σ->List (Nat×EV)}(_:HW i0 M)(h:ek (Ca f s0) k (fun _=>none)=some r)(_:c.xl i0=some jl)(o:O.fm live=x7 O (M s0) live)
  (p:∀s r,f s=some r->(∀k,((x7 O (M s) live).get k).WF)->WP S c ⟨fun e=>∃s',r=.next s'/\Rn (e.fm live) (x7 O (M s') live),fun j e=>j=i0/\∃s',r=.brk s'/\Rn e (x7 O (M s') jl),fun _=>∃v,r=.ret v/\False⟩ (x7 O (M s) live))
  (u:∀s,k s=some r->n (x7 O (M s) jl)):WP S (.block i0 (.loop live c)) ⟨n,x,t⟩ O:=
 ba (R:=fun _ _=>False) h o p u (fun v e hv _=>by cases hv)
end loops
end
end Go.Sf
namespace Go.Sf
section
variable{P:Program}{S:FuncId->Fq->Al->Prop}{K:AB->Prop}{os:List PR}{O:AB}{d:Nat}{α β:Type}{k:α->Option β}{r:β}
theorem bnd{G:Prop}{x:Option α}(h:x.bind k=some r)(g:∀a,x=some a->k a=some r->G):G:=by
 obtain ⟨a,o,h⟩:=bind_some h;exact g a o h
theorem xC{α:Type}{x:Option α}{k:α->Option β}{op:AD}{dd:Option Nat}(_:op.AaT=4)(h:x.bind k=some r)(g:∀a,x=some a->k a=some r->WO S K (⟨dd,op,none⟩::os) O):WO S K (⟨dd,op,none⟩::os) O:=bnd h g
theorem xB{x:Option α}{f:FuncId}{ts:Fq}{R:α->Al}{op:AD}{dd:Option Nat}(_:op.AaT=3)(h:x.bind k=some r)(c:Ct P x f ts R)(g:∀a,AX P f ts (R a)->k a=some r->WO (AX P) K (⟨dd,op,none⟩::os) O):WO (AX P) K (⟨dd,op,none⟩::os) O:=bnd h fun a o=>g a (c.snd a o)
theorem qI{γ:Type}{k:List γ->Option β}{n s:Nat}{y:AE}{es o:Fq}{e:γ->TV}{l m:List γ}{f:List γ->TV}(h:(AT l m).bind k=some r)(u:O.get s=.ow (.list n es))(w:y.val O=some (.list n o))(he:es=l.map e)(hf:o=m.map e)(c:Fl e n f)
  (A:∀x,AT l m=some x->k x=some r->WO S K os ((d,.ow (f x))::(s,.tv (.list n es))::O)):WO S K (⟨some d,.app n (.s s) y,none⟩::os) O:=by
 obtain ⟨x,p,h⟩:=bind_some h;have:=A x p h;rw[c.eq]at this;exact ng p u w he hf rfl this
section ints
variable{k:Int->Option β}{x y:AE}{ik:IntKind}{a b:Int}
theorem tw(h:(quo a b).bind k=some r)(p:x.val O=some (.int ik a))(u:y.val O=some (.int ik b))(w:∀q,quo a b=some q->k q=some r->WO S K os ((d,.tv (.int ik (ik.wrap q)))::O)):WO S K (⟨some d,.bin .i .quo x y,none⟩::os) O:=bnd h fun q o h=>wP o p u (w q o h)
theorem tz(h:(Cf a b).bind k=some r)(p:x.val O=some (.int ik a))(u:y.val O=some (.int ik b))(w:∀q,Cf a b=some q->k q=some r->WO S K os ((d,.tv (.int ik q))::O)):WO S K (⟨some d,.bin .i .rem x y,none⟩::os) O:=bnd h fun q o h=>wQ o p u (w q o h)
theorem tU{op:BinOp}{o:IntKind}(h:(FX ik op a b).bind k=some r)(u:x.val O=some (.int ik a))(A:y.val O=some (.int o b))(B:ik=o\/op=.shl\/op=.shr)(C:∀q,FX ik op a b=some q->k q=some r->WO S K os ((d,.tv (.int ik q))::O)):WO S K (⟨some d,.bin .w op x y,none⟩::os) O:=bnd h fun q p h=>wB p u A B (C q p h)
end ints
theorem qY{k:ByteArray->Option β}{x y:AE}{u v:ByteArray}(h:(UZ u v).bind k=some r)(p:x.val O=some (.str u))(w:y.val O=some (.str v))(A:∀q,UZ u v=some q->k q=some r->WO S K os ((d,.tv (.str q))::O)):WO S K (⟨some d,.bin .s .add x y,none⟩::os) O:=bnd h fun q o h=>sf o p w (A q o h)
theorem tf{k:Unit->Option β}{x:AE}{n:Nat}{es:Fq}{e:α->TV}{l:List α}(h:(Xa l).bind k=some r)(o:x.val O=some (.list n es))(he:es=l.map e)(p:∀u,k u=some r->WO S K os ((d,.tv (.bool false))::O)):WO S K (⟨some d,.isn x,none⟩::os) O:=by
 obtain ⟨u,A,h⟩:=bind_some h;refine ni o he fun b w=>?_;obtain rfl:=gx A w;exact p u h
theorem nG{x:AE}{n:Nat}{e:α->TV}{a:α}(h:A3 O (x.ev O)=some (e a).cells)(o:Nat.beq (e a).cells.length n=true)(p:TV.agg (e a).cells=e a)(u:WO S K os ((d,.tv (e a))::O)):WO S K (⟨some d,.lda x n,none⟩::os) O:=by
 have o:=Nat.eq_of_beq_eq_true o;exact nj h (by rw[o];exact Nat.ble_self_eq_true n) (by rw[List.take_of_length_le (by omega),p]) u
theorem th{s n:Nat}{cs:List AR}{e:α->TV}{a:α}(h:O.get s=.bx cs)(p:cs.map (·.t)=(e a).cells)(o:Nat.beq (e a).cells.length n=true)(u:TV.agg (e a).cells=e a)(w:WO S K os ((d,.tv (e a))::O)):WO S K (⟨some d,.ldb s n,none⟩::os) O:=by
 have o:=Nat.eq_of_beq_eq_true o;exact wG h (by rw[p,o];exact Nat.ble_self_eq_true n) (by rw[p,List.take_of_length_le (by omega),u]) w
variable{v:AE}
theorem qZ{n s:Nat}{cs:List AR}{t:TV}(o:O.get s=.bx cs)(hv:v.ev O=.tv t)(p:t.cells.length=n)(h:Nat.beq n cs.length=true)(u:WO S K os ((s,.bx (t.cells.map (⟨false,·⟩)))::O)):WO S K (⟨none,.stb n s v,none⟩::os) O:=by
 have h:=Nat.eq_of_beq_eq_true h;refine wT o hv p (by rw[Nat.zero_add,h];exact Nat.ble_self_eq_true _) ?_ u;rw[List.take_zero,Nat.zero_add,h,List.drop_length,List.append_nil,List.nil_append]
theorem qV{x:AE}{n:Nat}{e:α->TV}{a:α}(h:A3 O (x.ev O)=some (((e a).cells.map fun t=>(⟨false,t⟩:AR)).map (·.t)))(o:Nat.beq (e a).cells.length n=true)(p:TV.agg (e a).cells=e a)(u:WO S K os ((d,.tv (e a))::O)):WO S K (⟨some d,.lda x n,none⟩::os) O:=
 nG (by rw[h,List.map_map];congr 1;exact List.map_id _) o p u
def dy(n:Nat):Fq->Bool
 |[]=>true|t::ts=>Nat.beq t.cells.length n&&dy n ts
theorem ZZ{n:Nat}:∀{ts:Fq},dy n ts=true->∀t∈ts,t.cells.length=n
 |[],_,_,h=>by cases h
 |t::ts,h,u,o=>by
  simp only[dy,sr]at h;rcases List.mem_cons.1 o with rfl|o
  .exact Nat.eq_of_beq_eq_true h.1
  .exact ZZ h.2 u o
variable{parts:List AE}
theorem tj{n:Nat}{ts:Fq}(h:vals O parts=some ts)(o:dy n ts=true)(p:WO S K os ((d,.ow (.list n ts))::O)):WO S K (⟨some d,.lst n parts,none⟩::os) O:=by
 have:=p.out;refine⟨?_⟩;simp only[wpOps,PR.wp,AD.wp,h,Ad];exact⟨ZZ o,this⟩
variable{zero:Fq}
theorem qJ{parts:List (Nat×Nat×AE)}{ts:List (Nat×Nat×TV)}{cs:Fq}{e:α->TV}{a:α}(h:(some a).bind k=some r)(_:En α e)(o:GP O parts=some ts)(p:Ed zero ts=some cs)(he:TV.agg cs=e a)(u:∀x,x=a->k x=some r->WO S K os ((d,.tv (e x))::O)):WO S K (⟨some d,.z7 zero parts,none⟩::os) O:=by
 rw [Option.bind_some]at h;exact ZO o p he (u a rfl h)
theorem ti{x:AE}{n:Nat}{cs:Fq}{e:α->TV}{a:α}(h:(some a).bind k=some r)(_:En α e)(o:A3 O (x.ev O)=some cs)(p:Nat.ble n cs.length=true)(he:TV.agg (cs.take n)=e a)(u:∀x,x=a->k x=some r->WO S K os ((d,.tv (e x))::O)):WO S K (⟨some d,.lda x n,none⟩::os) O:=by
 rw [Option.bind_some]at h;exact nj o p he (u a rfl h)
inductive Lm{α:Type}(e:α->TV):Fq->List α->Prop
 |nil:Lm e [] []
 |cons {t:TV} {ts:Fq} {a:α} {l:List α}:t=e a->Lm e ts l->Lm e (t::ts) (a::l)
theorem Lm.eq{e:α->TV}{ts:Fq}{l:List α}(h:Lm e ts l):ts=l.map e:=by
 induction h with
 |nil=>rfl|cons h _ o=>rw[h,o];rfl
theorem qW{n:Nat}{ts:Fq}{e:α->TV}{l:List α}(h:vals O parts=some ts)(o:Lm e ts l)(p:∀a,(e a).cells.length=n)(u:WO S K os ((d,.ow (.list n (l.map e)))::O)):WO S K (⟨some d,.lst n parts,none⟩::os) O:=nk h o.eq p u
theorem qX{n:Nat}{ts:Fq}{e:α->TV}{l:List α}{f:List α->TV}(h:vals O parts=some ts)(p:Lm e ts l)(u:∀a,(e a).cells.length=n)(c:Fl e n f)(o:WO S K os ((d,.ow (f l))::O)):WO S K (⟨some d,.lst n parts,none⟩::os) O:=by
 rw [c.eq]at o;exact nk h p.eq u o
theorem qE{e:α->TV}{n:QQ}{x y:AE}{a:α}{cs:Fq}(o:x.val O=some (e a))(p:y.val O=some (.agg cs))[c:gA e][i:Decidable (a=c.un cs)](u:TV.agg (e a).cells=e a)(w:(e (c.un cs)).cells=cs)(A:(e a).cells.map TV.kd=n)(B:WO S K os ((d,.tv (.bool (decide (a=c.un cs))))::O)):WO S K (⟨some d,.bin (.a n) .eql x y,none⟩::os) O:=by
 obtain ⟨C,h⟩:=c.dec a (c.un cs);have:i=C:=Subsingleton.elim _ _;subst this;rw[<-u]at o;rw[w]at h;exact jO o p A h B
theorem qG{e:α->TV}{n:QQ}{x y:AE}{a:α}{cs:Fq}(o:x.val O=some (e a))(p:y.val O=some (.agg cs))[c:gA e][i:Decidable (a=c.un cs)](u:TV.agg (e a).cells=e a)(w:(e (c.un cs)).cells=cs)(A:(e a).cells.map TV.kd=n)(B:WO S K os ((d,.tv (.bool (!decide (a=c.un cs))))::O)):WO S K (⟨some d,.bin (.a n) .neq x y,none⟩::os) O:=by
 obtain ⟨C,h⟩:=c.dec a (c.un cs);have:i=C:=Subsingleton.elim _ _;subst this;rw[<-u]at o;rw[w]at h;exact jP o p A h B
theorem qC{e:α->TV}{n:QQ}{x y:AE}{a b:α}{i:Decidable (a=b)}(o:x.val O=some (e a))(p:y.val O=some (e b))(c:gA e)(u:TV.agg (e a).cells=e a)(w:TV.agg (e b).cells=e b)(A:(e a).cells.map TV.kd=n)(B:WO S K os ((d,.tv (.bool (decide (a=b))))::O)):WO S K (⟨some d,.bin (.a n) .eql x y,none⟩::os) O:=by
 obtain ⟨C,h⟩:=c.dec a b;have:i=C:=Subsingleton.elim _ _;subst this;rw[<-u]at o;rw[<-w]at p;exact jO o p A h B
theorem qF{e:α->TV}{n:QQ}{x y:AE}{a b:α}{i:Decidable (a=b)}(o:x.val O=some (e a))(p:y.val O=some (e b))(c:gA e)(u:TV.agg (e a).cells=e a)(w:TV.agg (e b).cells=e b)(A:(e a).cells.map TV.kd=n)(B:WO S K os ((d,.tv (.bool (!decide (a=b))))::O)):WO S K (⟨some d,.bin (.a n) .neq x y,none⟩::os) O:=by
 obtain ⟨C,h⟩:=c.dec a b;have:i=C:=Subsingleton.elim _ _;subst this;rw[<-u]at o;rw[<-w]at p;exact jP o p A h B
section calls
variable{x:Option α}{f:FuncId}{ts:Fq}{R:α->Al}{args:List AE}
theorem tW{s:Nat}{cs:List AR}{row:Fq}(o:O.get s=.bx cs)(f:Fz cs row)(k:WO S K os ((s,.tv (.pt row))::O)):WO S K (⟨none,.frz s,none⟩::os) O:=wD o f.h k
theorem n9{t:α->TV}(_:HS d)(h:x.bind k=some r)(c:Ct P x f ts R)(p:vals O args=some ts)(u:∀a,R a=.own (t a))(w:∀a,x=some a->k a=some r->WO (AX P) K os ((d,.tv (t a))::O)):WO (AX P) K (⟨some d,.call f args,none⟩::os) O:=by
 obtain ⟨a,o,h⟩:=bind_some h;have:=c.snd a o;rw[u]at this;exact sb p (rd this) (w a o h)
theorem n7{t:α->List AR}(h:x.bind k=some r)(c:Ct P x f ts R)(p:vals O args=some ts)(u:∀a,R a=.yr (t a))(w:∀a,x=some a->k a=some r->WO (AX P) K os ((d,.tv (.agg ((t a).map fun c=>c.rel.t)))::O)):WO (AX P) K (⟨some d,.call f args,none⟩::os) O:=by
 obtain ⟨a,o,h⟩:=bind_some h;have:=c.snd a o;rw[u]at this;exact pZ p this rfl (w a o h)
theorem kB{γ:Type}{k:List γ->Option β}{x:Option (List γ)}{R:List γ->Al}{n:Nat}{e:γ->TV}(h:x.bind k=some r)(c:Ct P x f ts R)(p:O.gt d=true)(u:vals O args=some ts)(w:∀a,R a=.own (.list n (a.map e)))(hf:∀a,(e a).flat=true)(A:∀a,x=some a->k a=some r->WO (AX P) K os ((d,.xo n (a.map e))::O)):WO (AX P) K (⟨some d,.zl f args,none⟩::os) O:=by
 obtain ⟨a,o,h⟩:=bind_some h;have:=c.snd a o;rw[w]at this;exact l5 p u this rfl hf (A a o h)
theorem kA{γ:Type}{k:List γ->Option β}{x:Option (List γ)}{R:List γ->Al}{n:Nat}{e:γ->TV}(h:x.bind k=some r)(c:Ct P x f ts R)(p:yZ O args=some ts)(u:∀a,R a=.own (.list n (a.map e)))(hf:∀a,(e a).flat=true)(w:∀a,x=some a->k a=some r->WO (AX P) K os ((d,.ow (.list n (a.map e)))::O)):WO (AX P) K (⟨some d,.zx f args,none⟩::os) O:=by
 obtain ⟨a,o,h⟩:=bind_some h;have:=c.snd a o;rw[u]at this;exact lz p this rfl rfl hf (w a o h)
variable{us:α->Fq}
theorem ny{i s:Nat}{cs:List AR}{cs':α->List AR}{e:α->EV}(h:x.bind k=some r)(c:Ct P x f ts R)(p:(args[i]?).bind (·.place O)=some (s,0))(u:O.get s=.bx cs)(w:O.noX s none=true)(hd:d≠s)(A:H6 O i args=some ts)(B:∀a,R a=.bo cs (cs' a) i (us a))(he:∀a,EV.ofs (us a)=e a)(C:∀a,x=some a->k a=some r->WO (AX P) K os ((d,e a)::(s,.bx (cs' a))::O)):WO (AX P) K (⟨some d,.y6 f args i,none⟩::os) O:=by
 obtain ⟨a,o,h⟩:=bind_some h;have:=c.snd a o;rw[B]at this;exact pY p u w hd A this (he a) (C a o h)
end calls
inductive GS(g:Nat)(b:Bool):QQ->List PR->QQ->Nat->Prop
 |done {acc:QQ} {os:List PR}:GS g b acc os [] 0
 |step {acc js:QQ} {d n:Nat} {op:AD} {os:List PR}:GS g b (d::acc) os js n->GS g b acc (⟨some d,op,some (g,b)⟩::os) (d::js) (n+1)
 |nest {acc js:QQ} {d n g':Nat} {b':Bool} {op:AD} {os:List PR}:acc.contains g'=true->GS g b (d::acc) os js n->GS g b acc (⟨some d,op,some (g',b')⟩::os) (d::js) (n+1)
def qA:QQ->AB->(AB->Prop)->Prop
 |[],z,K=>K z|k::ks,z,K=>∃j,qA ks ((k,j)::z) K
structure Gj(js:QQ)(d:Nat)(v:TV)(z e:AB):Prop where
 of::out:qA js z fun y=>e=(d,.tv v)::y
theorem gq{d:Nat}{v:TV}{z e:AB}(h:e=(d,.tv v)::z):Gj [] d v z e:=⟨h⟩
variable{ks:QQ}
theorem oR{k d:Nat}{v:TV}{j:EV}{z e:AB}(h:Gj ks d v ((k,j)::z) e):Gj (k::ks) d v z e:=⟨j,h.out⟩
theorem qT{js:QQ}{v:TV}{z:AB}(h:Gj js d v z O):WO S (Gj js d v z) [] O:=⟨h⟩
structure Xq(js:QQ)(z:AB)(Q:AB->Prop):Prop where
 of::out:∀(d:Nat)(v:TV)(e:AB),Gj js d v z e->∃y,e=(d,.tv v)::y/\Q y
theorem oS{z:AB}{Q:AB->Prop}(h:Q z):Xq [] z Q:=⟨fun _ _ _ he=>⟨z,he.out,h⟩⟩
theorem kV{k:Nat}{z:AB}{Q:AB->Prop}(h:∀j,Xq ks ((k,j)::z) Q):Xq (k::ks) z Q:=⟨fun d v e he=>by
 obtain ⟨j,o⟩:=he.out;exact(h j).out d v e ⟨o⟩⟩
theorem vC{dd:Option Nat}{op:AD}{g:Nat}{b q:Bool}(h:O.get g=.tv (.bool q))(o:ZS g b q)(p:WO S K (⟨dd,op,none⟩::os) O):WO S K (⟨dd,op,some (g,b)⟩::os) O:=xO h o.out p
theorem ta{ρ:Type}{dd:Option Nat}{op:AD}{g:Nat}{q:Bool}{u v:Option ρ}{r:ρ}(w:O.get g=.tv (.bool q))(h:(if q=true then u else v)=some r)
  (o:ZS g true q->q=true->u=some r->WO S K (⟨dd,op,some (g,true)⟩::os) O)(p:VQ g true q->q=false->v=some r->WO S K (⟨dd,op,some (g,true)⟩::os) O):WO S K (⟨dd,op,some (g,true)⟩::os) O:=by
 cases q with
 |true=>exact o ⟨rfl⟩ rfl h|false=>exact p ⟨by rfl⟩ rfl h
theorem tZ{ρ:Type}{dd:Option Nat}{op:AD}{g:Nat}{q:Bool}{u v:Option ρ}{r:ρ}(w:O.get g=.tv (.bool q))(h:(if q=true then u else v)=some r)
  (o:VQ g false q->q=true->u=some r->WO S K (⟨dd,op,some (g,false)⟩::os) O)(p:ZS g false q->q=false->v=some r->WO S K (⟨dd,op,some (g,false)⟩::os) O):WO S K (⟨dd,op,some (g,false)⟩::os) O:=by
 cases q with
 |true=>exact o ⟨by rfl⟩ rfl h|false=>exact p ⟨rfl⟩ rfl h
theorem rD{op:AD}{g:Nat}{b q:Bool}(h:O.get g=.tv (.bool q))(o:VQ g b q)(p:WO S K os ((d,.sk)::O)):WO S K (⟨some d,op,some (g,b)⟩::os) O:=vB h o.out p
theorem eP{d n:Nat}{js:QQ}{v:TV}(h:WO S (Gj js d v O) (os.take n) O)(o:Xq js O fun e=>WO S K (os.drop n) ((d,.tv v)::e)):WO S K os O:=
 vA n (Gj js d v) h fun e he=>by
  obtain ⟨y,rfl,p⟩:=o.out d v e he;exact p
section groups
variable{g n:Nat}{js:QQ}{c:Bool}{dd gd:Option Nat}{op:AD}{x y z:AE}{gg:Option (Nat×Bool)}
variable{T:K1}{os':List PR}
theorem te{k:Bool->Option β}(h:(if c=true then T else some false).bind k=some r)(_:GS g true [] os js n)(A:O.get g=.tv (.bool c))(_:os[n]?=some ⟨some d,.pick x y z,gg⟩)
  (p:∀v,ZS g true c->c=true->T=some v->WO S (Gj js d (.bool v) O) (os.take (n+1)) O)(u:∀v,VQ g true c->c=false->some false=some v->WO S (Gj js d (.bool v) O) (os.take (n+1)) O)
  (w:∀v,k v=some r->Xq js O fun e=>WO S K (os.drop (n+1)) ((d,.tv (.bool v))::e))(ho:os=⟨dd,op,some (g,true)⟩::os'):WO S K (⟨dd,op,some (g,true)⟩::os') O:=by
 obtain ⟨v,hv,h⟩:=bind_some h;rw[<-ho];refine eP (n:=n+1) (v:=.bool v) ?_ (w v h);rcases Bool.eq_false_or_eq_true c with o|o
 .exact p v ⟨o⟩ o (WY o hv)
 .exact u v ⟨by rw[o];rfl⟩ o (WX o hv)
theorem td{k:Bool->Option β}(h:(if c=true then some true else T).bind k=some r)(_:GS g false [] os js n)(A:O.get g=.tv (.bool c))(_:os[n]?=some ⟨some d,.pick x y z,gg⟩)
  (p:∀v,ZS g false c->c=false->T=some v->WO S (Gj js d (.bool v) O) (os.take (n+1)) O)(u:∀v,VQ g false c->c=true->some true=some v->WO S (Gj js d (.bool v) O) (os.take (n+1)) O)
  (w:∀v,k v=some r->Xq js O fun e=>WO S K (os.drop (n+1)) ((d,.tv (.bool v))::e))(ho:os=⟨dd,op,some (g,false)⟩::os'):WO S K (⟨dd,op,some (g,false)⟩::os') O:=by
 obtain ⟨v,hv,h⟩:=bind_some h;rw[<-ho];refine eP (n:=n+1) (v:=.bool v) ?_ (w v h);rcases Bool.eq_false_or_eq_true c with o|o
 .exact u v ⟨by rw[o];rfl⟩ o (WY o hv)
 .exact p v ⟨o⟩ o (WX o hv)
theorem tY{e:Bool}(ho:os=⟨dd,op,some (g,true)⟩::os')(_:GS g true [] os js n)(u:O.get g=.tv (.bool c))(_:os[n]?=some ⟨some d,.pick x y z,gg⟩)
  (h:ZS g true c->c=true->WO S (Gj js d (.bool e) O) (os.take (n+1)) O)(o:VQ g true c->c=false->WO S (Gj js d (.bool false) O) (os.take (n+1)) O)
  (p:Xq js O fun z=>WO S K (os.drop (n+1)) ((d,.tv (.bool (c&&e)))::z)):WO S K (⟨dd,op,some (g,true)⟩::os') O:=by
 rw [<-ho];refine eP (n:=n+1) (v:=.bool (c&&e)) ?_ p;cases c
 .exact o ⟨rfl⟩ rfl
 .exact h ⟨rfl⟩ rfl
theorem tX{e:Bool}(ho:os=⟨dd,op,some (g,false)⟩::os')(_:GS g false [] os js n)(u:O.get g=.tv (.bool c))(_:os[n]?=some ⟨some d,.pick x y z,gg⟩)
  (h:ZS g false c->c=false->WO S (Gj js d (.bool e) O) (os.take (n+1)) O)(o:VQ g false c->c=true->WO S (Gj js d (.bool true) O) (os.take (n+1)) O)
  (p:Xq js O fun z=>WO S K (os.drop (n+1)) ((d,.tv (.bool (c||e)))::z)):WO S K (⟨dd,op,some (g,false)⟩::os') O:=by
 rw [<-ho];refine eP (n:=n+1) (v:=.bool (c||e)) ?_ p;cases c
 .exact h ⟨rfl⟩ rfl
 .exact o ⟨rfl⟩ rfl
end groups
variable{qi:Option Nat}{j:Int}
theorem uA{x:AE}{q n i:Nat}{es row:Fq}{e:α->TV}{l:List α}{a:α}{t:TV}(h:x.ev O=.lp q qi (j.toNat*n+i))(o:O.x4 q qi=some (n,es))(he:es=l.map e)(p:∀a,(e a).cells.length=n)(u:idx l j=some a)(hi:Nat.blt i n=true)(w:(e a).cells=row)(A:row[i]?=some t)
  (B:WO S K os ((d,.tv t)::O)):WO S K (⟨some d,.xld x,none⟩::os) O:=np h o he p u rfl hi w A B
theorem qc{x:AE}{q n:Nat}{es row:Fq}{e:α->TV}{l:List α}{a:α}{t:TV}(h:x.ev O=.lp q qi (j.toNat*n))(o:O.x4 q qi=some (n,es))(he:es=l.map e)(p:∀a,(e a).cells.length=n)(u:idx l j=some a)(hi:Nat.blt 0 n=true)(w:(e a).cells=row)(A:row[0]?=some t)
  (B:WO S K os ((d,.tv t)::O)):WO S K (⟨some d,.xld x,none⟩::os) O:=np (i:=0) h o he p u rfl hi w A B
variable{v:AE}
theorem qf{γ:Type}{s:Nat}{q n i:Nat}{env':AB}{es:Fq}{e:α->TV}{g:γ->TV}{l:List α}{a:α}{b:γ}{f:α->γ->α}(_:HX s f)(h:(AE.s s).ev O=.lp q qi (j.toNat*n+i))(p:O.x4 q qi=some (n,es))(hv:v.ev O=.tv (g b))(he:es=l.map e)(u:∀a,(e a).cells.length=n)(w:idx l j=some a)(hi:Nat.blt i n=true)(A:(g b).cells=[g b])
  (B:(e (f a b)).cells=(e a).cells.set i (g b))(o:O.ym q qi n ((Av l j (f a b)).map e)=env')(C:WO S K os env'):WO S K (⟨none,.xst (.s s) v 1,none⟩::os) O:=nq h p hv he u w rfl hi A B rfl o C
theorem qe{x v:AE}{q n:Nat}{env':AB}{es:Fq}{e:α->TV}{l:List α}{a b:α}(h:x.ev O=.lp q qi (j.toNat*n))(p:O.x4 q qi=some (n,es))(hv:v.ev O=.tv (e b))(he:es=l.map e)(u:∀a,(e a).cells.length=n)(w:idx l j=some a)(hi:Nat.blt 0 n=true)(A:(e b).cells=[e b])
  (B:(e b).cells=(e a).cells.set 0 (e b))(o:O.ym q qi n ((Av l j b).map e)=env')(C:WO S K os env'):WO S K (⟨none,.xst x v 1,none⟩::os) O:=nq (i:=0) h p hv he u w rfl hi A B rfl o C
end
end Go.Sf
namespace Go.Sf
section
variable{S:FuncId->Fq->Al->Prop}{K:AB->Prop}{os:List PR}{O:AB}{d:Nat}
variable{j:Int}
theorem wN{α:Type}{x:AE}{s o:Nat}{es:Fq}{e:α->TV}{l:List α}{a:α}(h:x.ev O=.nh s o (.el j.toNat))(u:O.nat s o=some es)(he:es=l.map e)(w:idx l j=some a)(k:WO S K os ((d,.nh s o (.rw j.toNat))::O)):WO S K (⟨some d,.nld x,none⟩::os) O:=by
 replace k:=k.out;refine⟨?_⟩;subst he;obtain⟨B,C,A⟩:=Ga w;have p:j.toNat<l.length:=(List.getElem?_eq_some_iff.1 A).1;simp only[wpOps,PR.wp,AD.wp,h,u,Ad];exact⟨by simpa using p,k⟩
variable{j2:Int}
theorem wO{α:Type}{x v:AE}{s o:Nat}{es:Fq}{env':AB}{e:List α->TV}{e2:α->TV}{l:List (List α)}{m:List α}{A b:α}{t:TV}(h:x.ev O=.nh s o (.rp j.toNat j2.toNat))(B:O.nat s o=some es)(hv:v.ev O=.tv t)(he:es=l.map e)(w:∀m,e m=.list 1 (m.map e2))(C:idx l j=some m)(D:idx m j2=some A)(E:t=e2 b)(F:t.cells=[t])(G:t.flat=true)
  (p:O.AaL s o ((Av l j (Av m j2 b)).map e)=env')(k:WO S K os env'):WO S K (⟨none,.nst x v,none⟩::os) O:=by
 replace k:=k.out;refine⟨?_⟩;subst he p E;obtain⟨J,L,H⟩:=Ga C;obtain⟨m0,m1,I⟩:=Ga D;have u:j2.toNat<m.length:=(List.getElem?_eq_some_iff.1 I).1;simp only[wpOps,PR.wp,AD.wp,h,B,hv,Ad];refine⟨m.map e2,by rw[List.getElem?_map,H];simp[w],by simpa using u,F,G,?_⟩;have:(l.map e).set j.toNat (.list 1 ((m.map e2).set j2.toNat (e2 b)))=(Av l j (Av m j2 b)).map e:=by
  simp only[Av,List.map_set,w]
 rw [this];exact k
end
section
variable{P:Program}{K:AB->Prop}{os:List PR}{O:AB}{d:Nat}{α β γ ρ:Type}{f:FuncId}{args:List AE}{ts:Fq}{R:α->Al}{x:Option α}{k:α->Option ρ}{r:ρ}
variable{j:Int}
theorem tq{x i:AE}{s o:Nat}{es:Fq}{e:α->TV}{l:List α}{ik:IntKind}{S:FuncId->Fq->Al->Prop}(h:(idx l j).bind k=some r)(u:x.ev O=.nh s o .hd)(w:O.nat s o=some es)(hi:i.val O=some (.int ik j))(he:es=l.map e)
  (A:∀a,idx l j=some a->k a=some r->WO S K os ((d,.nh s o (.el j.toNat))::O)):WO S K (⟨some d,.nia x i,none⟩::os) O:=by
 obtain ⟨a,p,h⟩:=bind_some h;have B:=(A a p h).out;refine⟨?_⟩;subst he;obtain⟨D,F,E⟩:=Ga p;have C:j.toNat<l.length:=(List.getElem?_eq_some_iff.1 E).1;simp only[wpOps,PR.wp,AD.wp,u,w,hi,Ad];exact⟨D,by simp only[c8];omega,B⟩
variable{e2:α->TV}{j2:Int}
theorem tu{x i:AE}{s o:Nat}{es:Fq}{e:List α->TV}{l:List (List α)}{m:List α}{ik:IntKind}{S:FuncId->Fq->Al->Prop}(h:(idx m j2).bind k=some r)(u:x.ev O=.nh s o (.rw j.toNat))(w:O.nat s o=some es)(hi:i.val O=some (.int ik j2))(he:es=l.map e)(A:∀m,e m=.list 1 (m.map e2))(B:idx l j=some m)
  (C:∀a,idx m j2=some a->k a=some r->WO S K os ((d,.nh s o (.rp j.toNat j2.toNat))::O)):WO S K (⟨some d,.nia x i,none⟩::os) O:=by
 obtain ⟨b,p,h⟩:=bind_some h;have D:=(C b p h).out;refine⟨?_⟩;subst he;obtain⟨H,I,F⟩:=Ga B;obtain⟨m0,m1,G⟩:=Ga p;have E:j2.toNat<m.length:=(List.getElem?_eq_some_iff.1 G).1;simp only[wpOps,PR.wp,AD.wp,u,w,hi,Ad];exact⟨m0,m.map e2,by rw[List.getElem?_map,F];simp[A],by simp only[c8];omega,D⟩
theorem qH{mm q s o:Nat}{es w:Fq}{cs cs':List AR}{n:Nat}{e:β->TV}{l:List β}{m:β}{k:List β->Option ρ}{S:FuncId->Fq->Al->Prop}(h:(AT l [m]).bind k=some r)(A:O.get mm=.nh s o .hd)(B:O.get q=.x1 n w)(C:O.get s=.bx cs)(D:O.nat s o=some es)(he:es=l.map e)(hf:TV.list n w=e m)(u:O.gt d=true)(hd:d≠mm/\d≠q/\mm≠q)(E:cs.set o ⟨false,.undef⟩=cs')
  (F:∀a,AT l [m]=some a->k a=some r->WO S K os ((d,.xn (a.map e))::(s,.bx cs')::(mm,.undef)::(q,.undef)::O)):WO S K (⟨some d,.zu mm q,none⟩::os) O:=by
 obtain ⟨a,p,h⟩:=bind_some h;have H:=(F a p h).out;refine⟨?_⟩;subst he E;unfold AT at p;split at p
 .rename_i G;cases p;simp only[wpOps,PR.wp,AD.wp,A,B,C,D,Ad];refine⟨by simpa using G,⟨u,hd⟩,?_⟩;rw[hf];simpa[AB.put]using H
 .cases p
theorem j9{u:α->List β}{v:α->List γ}{w A:Nat}{p:β->TV}{e2:γ->TV}(h:x.bind k=some r)(c:Ct P x f ts R)(E:vals O args=some ts)(F:∀a,R a=.yr [⟨true,.list w ((u a).map p)⟩,⟨true,.list A ((v a).map e2)⟩])(G:∀a,(p a).flat=true)(H:∀a,(e2 a).flat=true)
  (I:∀a,x=some a->k a=some r->WO (AX P) K os ((d,.yr [⟨true,.xl w ((u a).map p)⟩,⟨true,.xl A ((v a).map e2)⟩])::O)):WO (AX P) K (⟨some d,.zi f args,none⟩::os) O:=by
 obtain ⟨a,D,h⟩:=bind_some h;have C:=c.snd a D;rw[F]at C;have J:=(I a D h).out;have o:∀{τ:Type}(e:τ->TV)(l:List τ),(∀a,(e a).flat=true)->TV.ye (l.map e)=true:=by
  intro τ e l he
  induction l with
  |nil=>rfl|cons a l L=>simp[TV.ye,he,L]
 refine ⟨?_⟩;simp only[wpOps,PR.wp,AD.wp,E,Ad];refine⟨_,C,fun c B=>?_,fun _=>J⟩;simp only[List.mem_cons,List.not_mem_nil,or_false]at B;rcases B with rfl|rfl
 .exact⟨_,_,rfl,o _ _ G⟩
 .exact⟨_,_,rfl,o _ _ H⟩
inductive NL:List AR->List AR->Prop
 |nil {xs:List AR}:xs=[]->NL xs []
 |cons {xs ys zs:List AR} {o:Bool} {t:TV}:xs=⟨o,t⟩::ys->NL ys zs->NL xs (⟨o,t⟩::zs)
theorem NL.eq{xs ys:List AR}(h:NL xs ys):xs=ys:=by
 induction h with
 |nil h=>exact h|cons h _ o=>rw[h,o]
theorem t2{S:FuncId->Fq->Al->Prop}{K:AB->Prop}{os:List PR}{O:AB}{n s h:Nat}{x v:AE}{cs cs':List AR}{t:TV}(o:x.place O=some (s,h))(p:O.get s=.bx cs)(hv:v.ev O=.tv t)(u:t.cells.length=n)(w:Nat.ble (h+n) cs.length=true)(A:NL (cs.take h++t.cells.map (⟨false,·⟩)++cs.drop (h+n)) cs')
  (k:WO S K os ((s,.bx cs')::O)):WO S K (⟨none,.st n x v,none⟩::os) O:=xX o p hv u w A.eq k
theorem qa{S:FuncId->Fq->Al->Prop}{K:AB->Prop}{os:List PR}{O:AB}{s h q:Nat}{x:AE}{cs cs':List AR}{t:TV}(o:x.place O=some (s,h))(p:O.get s=.bx cs)(hv:O.get q=.ow t)(u:q≠s)(w:Nat.blt h cs.length=true)(A:NL (cs.set h ⟨true,t⟩) cs')
  (k:WO S K os ((s,.bx cs')::(q,.tv t)::O)):WO S K (⟨none,.st 1 x (.s q),none⟩::os) O:=wU o p hv u w A.eq k
theorem X8:∀(ts:List (Nat×Nat×TV))(done rest:Fq),Vo done.length ts=true->(IE ts).length<=rest.length->Ed (done++rest) ts=some (done++(IE ts++rest.drop (IE ts).length))
 |[],done,rest,_,h=>by simp[Ed,IE]|(i,n,t)::r,done,rest,p,h=>by
  simp only[Vo,sr,Nat.beq_eq]at p;obtain⟨⟨rfl,o⟩,A⟩:=p;simp only[IE,bk]at h;have u:n<=rest.length:=by omega
  simp only[Ed];rw[ae ⟨o,by rw[bk];omega⟩];have w:done++rest=done++(rest.take n++rest.drop n):=by rw[List.take_append_drop]
  rw [w,UO t.cells done (rest.take n) (rest.drop n) (by rw[cE];omega),<-c9];rw[X8 r (done++t.cells) (rest.drop n) (by rw[bk,o];exact A) (by rw[List.length_drop];omega)];simp[IE,List.drop_drop,o]
inductive NT:Fq->Fq->Prop
 |nil {xs:Fq}:xs=[]->NT xs []
 |cons {xs ys zs:Fq} {t:TV}:xs=t::ys->NT ys zs->NT xs (t::zs)
theorem NT.eq{xs ys:Fq}(h:NT xs ys):xs=ys:=by
 induction h with
 |nil h=>exact h|cons h _ o=>rw[h,o]
variable{zero:Fq}
theorem qK{S:FuncId->Fq->Al->Prop}{K:AB->Prop}{os:List PR}{O:AB}{d:Nat}{parts:List (Nat×Nat×AE)}{ts:List (Nat×Nat×TV)}{cs:Fq}(h:GP O parts=some ts)(o:Vo 0 ts=true)(p:Nat.ble (IE ts).length zero.length=true)(u:NT (IE ts++zero.drop (IE ts).length) cs)(k:WO S K os ((d,.tv (.agg cs))::O)):WO S K (⟨some d,.z7 zero parts,none⟩::os) O:=
 ZO h (by have:=X8 ts [] zero o (Nat.le_of_ble_eq_true p);simpa using this) (by rw[u.eq]) k
structure HY{α A B C:Type}(n:Nat)(f:A->B->C->α)(g1:A->TV)(g2:B->TV)(g3:C->TV):Prop where
variable{v:AE}{qi:Option Nat}
theorem qh{S:FuncId->Fq->Al->Prop}{K:AB->Prop}{os:List PR}{O:AB}{α A B C:Type}{f:A->B->C->α}{o:Nat}{q n:Nat}{env':AB}{es cs cs':Fq}{e:α->TV}{l:List α}{a:α}{E:A}{F:B}{G:C}{p:A->TV}{u:B->TV}{w:C->TV}(_:HY o f p u w)(h:(AE.s o).ev O=.lp q qi (j.toNat*n))(H:O.x4 q qi=some (n,es))(he:es=l.map e)(I:∀a,(e a).cells.length=n)(hv:v.ev O=.tv (.agg cs))(J:NT cs cs')(L:cs'=[p E,u F,w G])(hf:∀a b c,TV.agg [p a,u b,w c]=e (f a b c))(N:idx l j=some a)(U:Nat.blt 0 n=true)
  (D:O.ym q qi n ((Av l j (f E F G)).map e)=env')(k:WO S K os env'):WO S K (⟨none,.xst (.s o) v n,none⟩::os) O:=nt h H (by rw[hv,J.eq,L,hf]) he I N U D k
theorem uB{S:FuncId->Fq->Al->Prop}{α:Type}{x v:AE}{q n:Nat}{env':AB}{es:Fq}{e:α->TV}{l:List α}{a b:α}(h:x.ev O=.lp q qi (j.toNat*n))(p:O.x4 q qi=some (n,es))(he:es=l.map e)(u:∀a,(e a).cells.length=n)(hv:v.ev O=.tv (e b))(w:idx l j=some a)(A:Nat.blt 0 n=true)
  (o:O.ym q qi n ((Av l j b).map e)=env')(k:WO S K os env'):WO S K (⟨none,.xst x v n,none⟩::os) O:=nt h p hv he u w A o k
end
section
variable{S:FuncId->Fq->Al->Prop}{K:AB->Prop}{os:List PR}{O:AB}{d:Nat}
theorem wK(k:∀b,WO S K os ((d,.mx (.mp b []))::O)):WO S K (⟨some d,.mkm,none⟩::os) O:=
 ⟨fun b=>(k b).out⟩
theorem wM{s:Nat}{last:Option ((Int×Int)×Int)}{o:BM}(h:O.get s=.mx (.mi last o))(hd:d≠s)(w:o=[]->WO S K os ((d,.tp [.bool false])::O))(A:∀p u,o.Perm (p::u)->WO S K os ((d,.tp [.bool true,RT p.1,.int .i64 p.2])::(s,.mx (.mi (some p) u))::O)):WO S K (⟨some d,.mnx s,none⟩::os) O:=by
 refine ⟨?_⟩;simp only[wpOps,PR.wp,AD.wp,h];exact⟨hd,fun e=>(w e).out,fun p t B=>(A p t B).out⟩
variable{kvs:BM}
theorem l4{f:FuncId}{args:List AE}{ts us:Fq}(hv:vals O args=some ts)(h:S f ts (.mpr kvs us))(k:∀b,WO S K os ((d,.mx (.tm b kvs us))::O)):WO S K (⟨some d,.zm f args,none⟩::os) O:=by
 refine ⟨?_⟩;simp only[wpOps,PR.wp,AD.wp,hv,Ad];exact .inr ⟨kvs,us,h,fun _ b=>(k b).out⟩
theorem l3{f:FuncId}{args:List AE}{ts us:Fq}(hv:vals O args=some ts)(h:S f ts (.tp us))(k:WO S K os ((d,.tp us)::O)):WO S K (⟨some d,.zm f args,none⟩::os) O:=by
 refine ⟨?_⟩;simp only[wpOps,PR.wp,AD.wp,hv,Ad];exact .inl ⟨us,h,fun _=>k.out⟩
theorem Kd{ss:QQ}{s:Nat}{r:AB}{m:MX}(h:O.get s=.mx m)(k:Kp O ss r):Kp O (s::ss) ((s,.mx m)::r):=Ng h k
theorem vY{ss:QQ}{s:Nat}{r:AB}{q:List (Nat×EV)}{m:MX}(h:look q s=none)(o:O.get s=.mx m)(k:Nm O q ss r):Nm O q (s::ss) ((s,.mx m)::r):=P9 h o k
end
def Nj(r:BM×Int):Al:=if r.2=0 then .mpr r.1 [.int .i64 r.2]else .tp [.undef,.int .i64 r.2]
structure wb(o:Nat):Prop where
variable{kvs:BM}
theorem oc{h:List RV}{O:AB}{e:Int}(he:(!decide (e=0))=true)(o:h.length≠1)(p:Dz O h=some [.undef,.int .i64 e]):BE h (Nj (kvs,e)) O:=by
 simp only[Bool.not_eq_true',decide_eq_false_iff_not]at he;simp only[Nj,az he];exact⟨o,p⟩
theorem od{s o b:Nat}{h:List RV}{O:AB}(_:wb o)(p:O.get s=.tv (.zE b))(u:O.get o=.mx (.mp b kvs))(w:h≠[])(A:Dz O h=some [.int .i64 0]):BE (.tmp s::h) (Nj (kvs,0)) O:=by
 simp only[Nj,if_true,BE];exact⟨w,⟨b,o,p,u⟩,A⟩
section
variable{P:Program}{α β:Type}{K:AB->Prop}{os:List PR}{O:AB}{d:Nat}{x:Option α}{k:α->Option β}{r:β}{f:FuncId}{args:List AE}{ts:Fq}{R:α->Al}
variable{us:α->Fq}
theorem j8{i s:Nat}{cs:List AR}{q:α->Bool}{u v:α->List AR}{e:α->EV}(h:x.bind k=some r)(c:Ct P x f ts R)(A:(args[i]?).bind (·.place O)=some (s,0))(B:O.get s=.bx cs)(C:O.noX s none=true)(hd:d≠s)(D:H6 O i args=some ts)(E:∀a,R a=.bo cs (if q a=true then u a else v a) i (us a))(he:∀a,EV.ofs (us a)=e a)
  (F:∀a,x=some a->q a=true->k a=some r->WO (AX P) K os ((d,e a)::(s,.bx (u a))::O))(G:∀a,x=some a->q a=false->k a=some r->WO (AX P) K os ((d,e a)::(s,.bx (v a))::O)):WO (AX P) K (⟨some d,.y6 f args i,none⟩::os) O:=by
 refine ny h c A B C hd D E he (fun a o p=>?_);cases w:q a with
 |true=>rw[ae rfl];exact F a o w p|false=>rw[az (by simp)];exact G a o w p
end
section
variable{S:FuncId->Fq->Al->Prop}{a b:PC}{O:AB}
variable{Q:Q}
theorem qM{c:AE}{β:Type}{q:Bool}{u v:Option β}{r:β}(p:c.val O=some (.bool q))(h:(if q=true then u else v)=some r)(o:q=true)(k:u=some r->WP S a Q O):WP S (.cond c a b) Q O:=
 Rj p o (k (WY o h))
theorem qL{c:AE}{β:Type}{q:Bool}{u v:Option β}{r:β}(p:c.val O=some (.bool q))(h:(if q=true then u else v)=some r)(o:q=false)(k:v=some r->WP S b Q O):WP S (.cond c a b) Q O:=
 Ri p o (k (WX o h))
end
end Go.Sf
set_option maxRecDepth 100000
namespace Go.Sf
theorem NC{P:Prop}(p:P:=by first|exact rfl|exact Ml.eq):P:=p
theorem nI{P:Prop}(p:P:=by
 first|exact w6 rfl NC|exact w5 rfl|exact uD rfl rfl NC|exact uC rfl rfl|exact w8 rfl|exact w7 rfl NC|exact xA rfl rfl|exact w9|exact w4 (by decide)):P:=p
theorem nQ{P:Prop}(p:P:=by
 repeat (first|apply GS.step|(apply GS.nest;exact rfl))
 exact GS.done):P:=p
theorem wo{P:Prop}(p:P:=by
 repeat (apply NL.cons;exact rfl)
 exact NL.nil rfl):P:=p
theorem wq{P:Prop}(p:P:=by
 repeat (apply NT.cons;exact rfl)
 exact NT.nil rfl):P:=p
theorem wn{P:Prop}(p:P:=by
 repeat (apply Lm.cons;exact rfl)
 exact Lm.nil):P:=p
theorem wm{P:Prop}(p:P:=by
 intro _ k
 repeat' (first|exact k|exact rfl|exact Nat.le_of_ble_eq_true rfl|exact Nat.ne_of_beq_eq_false rfl|decide|apply And.intro)):P:=p
theorem au{P:Prop}(p:P:=by
 repeat' (first
  |(show WO _ _ _ _;first
    |apply NO
    |(apply st 1;exact rfl;first|exact fun _ k=>k|exact fun _ k=>⟨rfl,k⟩)
    |(apply vC;exact rfl;assumption)
    |(apply rD;exact rfl;assumption)
    |(apply wH;exact rfl;exact NC)
    |(apply ph;exact rfl;assumption;exact rfl)
    |(apply pf;exact rfl;assumption;exact rfl)
    |(apply n9;assumption;exact h;infer_instance;exact rfl;exact fun _=>rfl;intro x o h)|(apply j8;exact h;infer_instance;exact rfl;exact rfl;exact rfl;decide;exact rfl;exact fun _=>rfl;exact fun _=>rfl;intro x o B h;rotate_left;intro x o B h;rotate_left)|(apply xB;exact rfl;exact h;infer_instance;intro x c h;apply st 3;exact rfl;first|exact fun _ k=>⟨_,⟨c,rfl⟩,fun _=>k⟩|exact fun _ k=>⟨_,c,fun _=>k⟩|exact fun _ k=>⟨_,c,k⟩|exact fun _ k=>⟨rfl,_,_,.inl c,fun _=>k⟩|exact fun _ k=>⟨⟨rfl,Nat.ne_of_beq_eq_false rfl⟩,_,_,c,fun _=>k⟩|exact fun _ k=>⟨Nat.ne_of_beq_eq_false rfl,_,c,fun _=>k⟩|exact fun _ k=>⟨rfl,_,_,_,rfl,c,fun _=>k⟩|exact fun _ k=>⟨⟨Nat.ne_of_beq_eq_false rfl,rfl⟩,rfl,rfl,_,_,rfl,c,fun _=>k⟩)
    |(apply qI;exact h;exact rfl;exact rfl;exact NC;exact NC;infer_instance;intro x o h)
    |(apply xC;exact rfl;exact h;intro x o h;first|(apply wE o;exact rfl;exact rfl;exact NC;exact rfl)|(apply ng o;exact rfl;exact rfl;exact NC;exact NC;exact rfl)|(apply wR o;exact rfl;exact NC;exact rfl;exact rfl)|(apply sg o;exact rfl;exact rfl)|(apply si o;exact rfl;exact rfl;exact rfl)|(apply wV o;exact rfl;exact rfl;exact NC;exact rfl)|(apply sY o;exact rfl;exact rfl;exact NC;exact NC;exact rfl;exact rfl;decide)|(apply sZ o;exact rfl;exact rfl;exact rfl;exact rfl;exact rfl;exact rfl;decide;exact rfl;exact rfl)|(apply wC o;exact rfl;exact rfl;exact rfl;exact rfl;exact rfl;decide)|(apply wL o;exact rfl;exact rfl;exact rfl;exact rfl))
    |(apply sj;exact rfl;exact NC)
    |(apply qJ;(with_reducible exact h);infer_instance;exact rfl;exact rfl;exact rfl;intro x o h)
    |(apply sa;exact rfl;exact rfl;exact rfl;exact rfl)
    |(apply qK;exact rfl;exact rfl;exact rfl;exact wq)
    |(apply ZO;exact rfl;exact rfl;exact rfl)
    |(apply ti;(with_reducible exact h);infer_instance;exact rfl;exact rfl;exact rfl;intro x o h)
    |(apply nG;exact rfl;exact rfl;exact rfl)
    |(apply th;exact rfl;exact rfl;exact rfl;exact rfl)
    |(apply qV;exact rfl;exact rfl;exact rfl)
    |(apply qZ;exact rfl;exact rfl;exact rfl;exact rfl)
    |(apply t2;exact rfl;exact rfl;exact rfl;exact rfl;exact rfl;exact wo)
    |(apply qa;exact rfl;exact rfl;exact rfl;decide;exact rfl;exact wo)
    |(apply wI;exact rfl;exact rfl)
    |(apply wJ;exact rfl;exact rfl)
    |(apply st 2;exact rfl;exact wm)
    |(apply sn;exact rfl;exact wm)
    |(apply xP;exact rfl)
    |(apply wF;exact rfl)
    |(apply n7;exact h;infer_instance;exact rfl;exact fun _=>rfl;intro x o h)
    |(apply tw;exact h;exact rfl;exact rfl;intro x o h)
    |(apply tz;exact h;exact rfl;exact rfl;intro x o h)
    |(apply tU;exact h;exact rfl;exact rfl;decide;intro x o h)
    |(apply qY;exact h;exact rfl;exact rfl;intro x o h)
    |(apply qC;exact rfl;exact rfl;infer_instance;exact rfl;exact rfl;exact rfl)
    |(apply qF;exact rfl;exact rfl;infer_instance;exact rfl;exact rfl;exact rfl)
    |refine qE rfl rfl rfl rfl rfl ?_
    |refine qG rfl rfl rfl rfl rfl ?_
    |(apply ta;exact rfl;(with_reducible exact h);intro A B h;rotate_left;intro A B h;rotate_left)
    |(apply tZ;exact rfl;(with_reducible exact h);intro A B h;rotate_left;intro A B h;rotate_left)
    |(apply te h (ho:=rfl);exact nQ;exact rfl;exact rfl;intro v A B h;rotate_left;intro v A B h;rotate_left;intro v h;rotate_left)
    |(apply td h (ho:=rfl);exact nQ;exact rfl;exact rfl;intro v A B h;rotate_left;intro v A B h;rotate_left;intro v h;rotate_left)
    |(apply tY rfl;exact nQ;exact rfl;exact rfl;intro A B;rotate_left;intro A B;rotate_left 3)
    |(apply tX rfl;exact nQ;exact rfl;exact rfl;intro A B;rotate_left;intro A B;rotate_left 3)
    |apply qT
    |(apply qX;exact rfl;exact wn;exact fun _=>rfl;infer_instance)|(apply qW;exact rfl;exact wn;exact fun _=>rfl)
    |(apply tj;exact rfl;exact rfl)
    |(apply tW;exact rfl;infer_instance)
    |(apply qc;exact rfl;exact rfl;exact rfl;exact fun _=>rfl;assumption;exact rfl;exact rfl;exact rfl)|(apply uA;exact rfl;exact rfl;exact rfl;exact fun _=>rfl;assumption;exact rfl;exact rfl;exact rfl)|(apply qf;assumption;exact rfl;exact rfl;exact rfl;exact rfl;exact fun _=>rfl;assumption;exact rfl;exact rfl;exact rfl;exact rfl)|(apply qe;exact rfl;exact rfl;exact rfl;exact rfl;exact fun _=>rfl;assumption;exact rfl;exact rfl;exact rfl;exact rfl)|(apply qh;assumption;exact rfl;exact rfl;exact rfl;exact fun _=>rfl;exact rfl;exact wq;exact rfl;exact fun _ _ _=>rfl;assumption;exact rfl;exact rfl)|(apply uB;exact rfl;exact rfl;exact rfl;exact fun _=>rfl;exact rfl;assumption;exact rfl;exact rfl)|(apply kB;exact h;infer_instance;exact rfl;exact rfl;exact fun _=>rfl;exact fun _=>rfl;intro x o h)|(apply kA;exact h;infer_instance;exact rfl;exact fun _=>rfl;exact fun _=>rfl;intro x o h)
    |(apply tf;exact h;exact rfl;exact NC;intro u h)
    |(apply ni;exact rfl;exact rfl;intro z D;replace h:=oH h z D)
    |(apply sd;exact rfl)
    |(apply tq;exact h;exact rfl;exact rfl;exact rfl;exact NC;intro x o h)
    |(apply wN;exact rfl;exact rfl;exact NC;assumption)
    |(apply tu;exact h;exact rfl;exact rfl;exact rfl;exact NC;exact fun _=>rfl;assumption;intro x o h)|(apply wO;exact rfl;exact rfl;exact rfl;exact NC;exact fun _=>rfl;assumption;assumption;exact rfl;exact rfl;exact rfl;exact rfl)
    |(apply qH;exact h;exact rfl;exact rfl;exact rfl;exact rfl;exact NC;exact rfl;exact rfl;decide;exact rfl;intro x o h)
    |(apply j9;exact h;infer_instance;exact rfl;exact fun _=>rfl;exact fun _=>rfl;exact fun _=>rfl;intro x o h)
    |(apply wK;intro b;have K:=K b))
  |(show WP _ _ _ _;first
    |with_reducible apply tV
    |apply KZ
    |apply P0
    |(apply qO;exact rfl)
    |(apply t1;exact rfl;exact rfl)
    |apply ZV
    |apply dw
    |apply gJ
    |(apply Rj;exact rfl;with_reducible rfl)
    |(apply Ri;exact rfl;with_reducible rfl)
    |(apply qU;exact rfl;exact h;assumption;exact rfl;intro w B h;rotate_left;intro w B h;rotate_left;intro w h;rotate_left)
    |(apply qM;exact rfl;exact h;assumption;intro h)
    |(apply qL;exact rfl;exact h;assumption;intro h)
    |(apply qN;exact rfl;exact h;intro B h;rotate_left;intro B h;rotate_left)
    |(apply Rj;exact rfl;apply xe;assumption)
    |(apply Ri;exact rfl;apply xN;assumption)
    |(apply qP;(first|assumption|(apply HB.a;assumption));exact h;exact C;exact nI;exact rfl;exact rfl;exact fun _ _=>rfl;intro i s r hi h C;rotate_left;intro i s hi;clear h;rotate_left;intro s h;rotate_left)
    |(apply qS;(first|assumption|(apply HB.a;assumption));assumption;exact rfl;exact h;exact C;exact nI;exact rfl;exact rfl;exact fun _ _=>rfl;intro i s r hi h C;rotate_left;intro i s hi;clear h;rotate_left;intro s h;rotate_left)
    |(apply qR;(first|assumption|(apply HB.a;assumption));exact h;exact C;exact nI;exact rfl;exact rfl;exact fun _ _=>rfl;intro i s r hi h C;rotate_left;intro i s hi;clear h;rotate_left;intro s h;rotate_left)
    |(apply qQ;(first|assumption|(apply HB.a;assumption));exact h;exact C;exact nI;exact rfl;exact rfl;exact fun _ _=>rfl;intro i s r hi h C;rotate_left;intro i s hi;clear h;rotate_left;intro s h;rotate_left)
    |(apply t8;assumption;assumption;exact rfl;exact h;exact rfl;exact rfl;intro s r h C;rotate_left;intro s h;rotate_left)
    |(apply t7;assumption;exact h;exact rfl;exact rfl;intro s r h C;rotate_left;intro s h;rotate_left)
    |(apply t6;assumption;exact h;exact rfl;exact rfl;intro s r h C;rotate_left;intro s h;rotate_left)
    |apply cO
    |cases h)
  |(show Kp _ _ _;first
    |exact IF
    |(apply Kf;exact rfl)
    |(apply vK;exact rfl)
    |(apply Kc;exact rfl)
    |(apply vM;exact rfl)
    |(apply vI;exact rfl)
    |(apply Ke;exact rfl)
    |(apply Kg;exact rfl)
    |(apply vJ;exact rfl)
    |(apply vL;exact rfl)
    |(apply rW;exact rfl)
    |(apply Kd;exact rfl))
  |(show Nm _ _ _ _;first
    |exact rZ
    |(apply rY;exact rfl)
    |(apply vb;exact rfl;exact rfl)
    |(apply vZ;exact rfl;exact rfl)
    |(apply vW;exact rfl;exact rfl)
    |(apply vd;exact rfl;exact rfl)
    |(apply vV;exact rfl;exact rfl)
    |(apply va;exact rfl;exact rfl)
    |(apply vc;exact rfl;exact rfl)
    |(apply vX;exact rfl;exact rfl)
    |(apply vY;exact rfl;exact rfl))
  |apply oS
  |(apply kV;intro j)
  |apply oR
  |exact gq rfl
  |(cases h;exact gq rfl)
  |apply Zr
  |(apply oL;decide)
  |intro C
  |(cases h;first|exact rfl|exact⟨rfl⟩|exact⟨rfl,rfl⟩|exact⟨_,rfl,rfl⟩|exact⟨_,rfl,⟨rfl⟩⟩|exact⟨rfl,_,rfl,⟨rfl⟩⟩|exact⟨by decide,rfl⟩|exact⟨_,rfl,by decide,rfl⟩|exact⟨_,rfl,rfl,rfl⟩|exact od (by assumption) rfl rfl (by decide) rfl|exact⟨_,rfl,oc (by first|assumption|decide) (by decide) rfl⟩)
  |exact⟨rfl,⟨rfl⟩⟩)):P:=p
end Go.Sf
