/- Contracts that are found by themselves: rules that take the typed text along, and the script that applies them. -/
import Derived.Test.YtbgedoajacpdbaaGreatDoorSfK
import Derived.Test.YtbgedoajacpdbaaGreatDoorSfStep
import Derived.Test.YtbgedoajacpdbaaGreatDoorSfLib
set_option linter.all false
namespace Go.Sf
class Ct(P:Program){α:Type}(x:Option α)(f:outParam FuncId)(ts:outParam Fq)(R:outParam (α->An)):Prop where
 snd:∀r,x=some r->AN P f ts (R r)
class Ml(es:Fq){α:outParam Type}(e:outParam (α->TV))(l:outParam (List α)):Prop where
 eq:es=l.map e
class bu{α:Type}(e:α->TV)where
 un:Fq->α
 dec:∀a b,∃i:Decidable (a=b),B0 (e a).cells (e b).cells=some (@decide (a=b) i)
class Fz(cs:List AR)(row:outParam Fq):Prop where
 h:cs.map (·.t)=row
instance(priority:=high){l:Fq}:Fz (l.map fun x=>(⟨false,x⟩:AR)) l:=⟨by rw[List.map_map];exact List.map_id _⟩
instance(priority:=low){cs:List AR}:Fz cs (cs.map (·.t)):=⟨rfl⟩
class En(α:Type)(e:outParam (α->TV)):Prop where
class Fl{α:Type}(e:α->TV)(n:outParam Nat)(f:outParam (List α->TV)):Prop where
 eq:∀l,f l=.list n (l.map e)
structure Kp(O:AB)(l:Ne)(r:AB):Prop where
 of::out:O.jj l=r
def look:List (Nat×EV)->Nat->Option EV
 |[],_=>none|(k,e)::r,n=>if k=n then some e else look r n
def mrg(O:AB)(m:List (Nat×EV)):Ne->AB
 |[]=>[]|s::ss=>(s,(look m s).getD (O.get s))::mrg O m ss
structure Nm(O:AB)(m:List (Nat×EV))(l:Ne)(r:AB):Prop where
 of::out:mrg O m l=r
structure Rn(a b:AB):Prop where
 of::out:a=b
structure HJ{σ:Type}(n:Nat)(M:σ->List (Nat×EV)):Prop where
structure HA{σ:Type}(n ER q i:Nat)(M:Int->σ->List (Nat×EV)):Prop where
structure HB{σ:Type}(n ER q i:Nat)(M:Int->σ->List (Nat×EV)):Prop where
theorem HB.a{σ:Type}{n ER q i:Nat}{M:Int->σ->List (Nat×EV)}(_:HB n ER q i M):HA n ER q i M:=⟨⟩
structure HW{σ:Type}(n:Nat)(M:σ->List (Nat×EV)):Prop where
structure HR{β:Type}(R:β->AB->Prop):Prop where
structure HS(n:Nat):Prop where
structure HX{α γ:Type}(n:Nat)(f:α->γ->α):Prop where
structure b7(g:Nat)(b q:Bool):Prop where
 of::out:q=b
structure W5(g:Nat)(b q:Bool):Prop where
 of::out:q=!b
def KR(n:AB->Prop)(l:Ne):AB->Prop:=fun e=>n (e.jj l)
section
variable{O:AB}{s:Nat}{ss:Ne}{r:AB}{m:List (Nat×EV)}
theorem HV:Kp O [] []:=⟨rfl⟩
theorem L5{e:EV}(h:O.get s=e)(k:Kp O ss r):Kp O (s::ss) ((s,e)::r):=⟨by rw[<-k.out,<-h];rfl⟩
theorem Jf{t:TV}(h:O.get s=.tv t)(k:Kp O ss r):Kp O (s::ss) ((s,.tv t)::r):=L5 h k
theorem rV{t:TV}(h:O.get s=.ow t)(k:Kp O ss r):Kp O (s::ss) ((s,.ow t)::r):=L5 h k
theorem Jc{t:List AR}(h:O.get s=.bx t)(k:Kp O ss r):Kp O (s::ss) ((s,.bx t)::r):=L5 h k
theorem rT{q o:Nat}(h:O.get s=.bp q o)(k:Kp O ss r):Kp O (s::ss) ((s,.bp q o)::r):=L5 h k
theorem Je{t:Fq}(h:O.get s=.tp t)(k:Kp O ss r):Kp O (s::ss) ((s,.tp t)::r):=L5 h k
theorem Jg(h:O.get s=.undef)(k:Kp O ss r):Kp O (s::ss) ((s,.undef)::r):=L5 h k
theorem rX{n:Nat}{t:Fq}(h:O.get s=.xo n t)(k:Kp O ss r):Kp O (s::ss) ((s,.xo n t)::r):=L5 h k
theorem rU{q:Nat}{i:Option Nat}(h:O.get s=.la q i)(k:Kp O ss r):Kp O (s::ss) ((s,.la q i)::r):=L5 h k
theorem rW(h:O.get s=.sk)(k:Kp O ss r):Kp O (s::ss) ((s,.sk)::r):=L5 h k
theorem nP{t:List AR}(h:O.get s=.oag t)(k:Kp O ss r):Kp O (s::ss) ((s,.oag t)::r):=L5 h k
theorem nR:Nm O m [] []:=⟨rfl⟩
theorem nQ{e:EV}(h:look m s=some e)(k:Nm O m ss r):Nm O m (s::ss) ((s,e)::r):=⟨by rw[<-k.out];simp only[mrg,h,Option.getD_some]⟩
theorem OE{e:EV}(h:look m s=none)(o:O.get s=e)(k:Nm O m ss r):Nm O m (s::ss) ((s,e)::r):=⟨by rw[<-k.out];simp only[mrg,h,o,Option.getD_none]⟩
theorem rq{t:TV}(h:look m s=none)(o:O.get s=.tv t)(k:Nm O m ss r):Nm O m (s::ss) ((s,.tv t)::r):=OE h o k
theorem rm{t:TV}(h:look m s=none)(o:O.get s=.ow t)(k:Nm O m ss r):Nm O m (s::ss) ((s,.ow t)::r):=OE h o k
theorem rj{t:List AR}(h:look m s=none)(o:O.get s=.bx t)(k:Nm O m ss r):Nm O m (s::ss) ((s,.bx t)::r):=OE h o k
theorem ri{q o:Nat}(h:look m s=none)(p:O.get s=.bp q o)(k:Nm O m ss r):Nm O m (s::ss) ((s,.bp q o)::r):=OE h p k
theorem rn{t:Fq}(h:look m s=none)(o:O.get s=.tp t)(k:Nm O m ss r):Nm O m (s::ss) ((s,.tp t)::r):=OE h o k
theorem rr(h:look m s=none)(o:O.get s=.undef)(k:Nm O m ss r):Nm O m (s::ss) ((s,.undef)::r):=OE h o k
theorem rt{n:Nat}{t:Fq}(h:look m s=none)(o:O.get s=.xo n t)(k:Nm O m ss r):Nm O m (s::ss) ((s,.xo n t)::r):=OE h o k
theorem rk{q:Nat}{i:Option Nat}(h:look m s=none)(o:O.get s=.la q i)(k:Nm O m ss r):Nm O m (s::ss) ((s,.la q i)::r):=OE h o k
end
def PC.xl(i:Nat):PC->Option Ne
 |.exit j l=>if j=i then some l else none|.seq a b=>match a.xl i with
  |some l=>some l|none=>b.xl i
 |.cond _ a b=>match a.xl i with
  |some l=>some l|none=>b.xl i
 |.block _ a=>a.xl i|.loop _ a=>a.xl i|.rls _ a=>a.xl i|_=>none
def PC.last:PC->Option Ne
 |.region _ l=>some l|.draw _ _ l=>some l|.skip l=>some l|.exit _ l=>some l|.seq _ b=>b.last|.cond _ a _=>a.last|.block i (.loop _ b)=>b.xl i|.block _ c=>c.last|.rls _ c=>c.last|_=>none
section
variable{S:FuncId->Fq->An->Prop}{K:AB->Prop}{os:List PR}{O:AB}{d:Nat}
section code
variable{n t:AB->Prop}{x:Nat->AB->Prop}{a b:PC}{l:Ne}{env':AB}
theorem Lk(o:Kp O l env')(h:n env'):WO S (KR n l) [] O:=⟨by show n (O.jj l);rw[o.out];exact h⟩
theorem N5{ops:List PR}(h:WO S (KR n l) ops O):WP S (.region ops l) ⟨n,x,t⟩ O:=⟨h.out⟩
theorem mS{D:Ne}{ops:List PR}(hd:P1 O D=true)(h:WO S (KR n l) ops O):WP S (.draw D ops l) ⟨n,x,t⟩ O:=⟨hd,h.out⟩
theorem JZ(h:WP S a ⟨fun e=>(∀s,(e.get s).WF)->WP S b ⟨n,x,t⟩ e,x,t⟩ O):WP S (.seq a b) ⟨n,x,t⟩ O:=q8 h
theorem W7(o:Kp O l env')(h:n env'):WP S (.skip l) ⟨n,x,t⟩ O:=mu o.out h
theorem aI(h:t O):WP S .ret ⟨n,x,t⟩ O:=⟨h⟩
theorem b9{i:Nat}(o:Kp O l env')(h:x i env'):WP S (.exit i l) ⟨n,x,t⟩ O:=mt o.out h
theorem p8{s:Nat}{cs cs':List AR}{c:PC}{q:Q}(h:O.get s=.bx cs)(he:cs.map AR.rel=cs')(k:WP S c q ((s,.bx cs')::O)):WP S (.rls s c) q O:=by
 refine ⟨?_⟩;subst he;simp only[PC.wp,h];exact k.out
theorem ZC{i:Nat}(h:WP S a ⟨n,fun j e=>if j=i then n e else x j e,t⟩ O):WP S (.block i a) ⟨n,x,t⟩ O:=U6 h
theorem pZ{m:List (Nat×EV)}{e:AB}{q:Q}(he:Nm e m l env')(h:WP S a q env'):WP S a q (mrg e m l):=by rw[he.out];exact h
variable{Q:Q}
theorem mR{c:AF}{β:Type}{q:Bool}{u v:Option β}{r:β}(o:c.val O=some (.bool q))(h:(if q=true then u else v)=some r)(p:q=true->u=some r->WP S a Q O)(w:q=false->v=some r->WP S b Q O):WP S (.cond c a b) Q O:=
 T8 o (fun e=>p e (UT e h)) (fun e=>w e (US e h))
theorem mU{σ β:Type}{i:Nat}{M:σ->List (Nat×EV)}{q:Bool}{u v:Option σ}{k:σ->Option β}{r:β}(p:(AF.s i).val O=some (.bool q))(h:((if q=true then u else v).bind k)=some r)(_:HJ i M)(_:(PC.cond (.s i) a b).last=some l)
  (A:∀w,q=true->u=some w->WP S a ⟨fun e=>Rn e (mrg O (M w) l),x,t⟩ O)(B:∀w,q=false->v=some w->WP S b ⟨fun e=>Rn e (mrg O (M w) l),x,t⟩ O)(C:∀w,k w=some r->n (mrg O (M w) l)):WP S (.cond (.s i) a b) ⟨n,x,t⟩ O:=by
 obtain ⟨w,o,h⟩:=bind_some h;refine qz (fun e=>Rn e (mrg O (M w) l)) ?_ (fun e he=>by rw[he.out];exact C w h);exact T8 p (fun e=>A w e (UT e o)) (fun e=>B w e (US e o))
end code
structure Bd(O:AB)(q i:Nat)(b:Int):Prop where
 of::out:(∀s,(O.get s).WF)->b<=9223372036854775807
section bounds
variable{q i:Nat}{α:Type}{e:α->TV}{l:List α}{es row:Fq}{n:Nat}
theorem Rj{b:Int}(h:decide (b<=9223372036854775807)=true):Bd O q i b:=⟨fun _=>of_decide_eq_true h⟩
theorem Rp{b:Int}:Bd O q i (Af b):=⟨fun _=>pQ _⟩
theorem Rl(h:O.get q=.tv (.list n es))(he:es=l.map e):Bd O q i l.length:=⟨fun o=>by have:=o q;rw[h]at this;exact S1 (Wx this) he⟩
theorem Rm(h:O.get q=.ow (.list n es))(he:es=l.map e):Bd O q i l.length:=⟨fun o=>by have:=o q;rw[h]at this;exact S1 (tV this) he⟩
theorem Rr(h:O.get q=.xo n es)(he:es=l.map e):Bd O q i l.length:=⟨fun o=>by have:=o q;rw[h]at this;exact S1 (tW this) he⟩
theorem Ro{b:ByteArray}(h:O.get q=.tv (.str b)):Bd O q i b.size:=⟨fun o=>by have:=o q;rw[h]at this;exact l7 (Wx this)⟩
theorem Rk{b:Int}(h:O.get q=.tv (.int .i64 b)):Bd O q i b:=⟨fun o=>by have:=o q;rw[h]at this;exact ew (Wx this)⟩
theorem O6(h:O.get q=.tv (.pt row))(o:row[i]?=some (.list n es))(he:es=l.map e):Bd O q i l.length:=⟨fun p=>by have:=p q;rw[h]at this;exact S1 (Z9 (jZ this) o) he⟩
theorem O5{b:Int}(h:O.get q=.tv (.pt row))(o:row[i]?=some (.int .i64 b)):Bd O q i b:=⟨fun p=>by have:=p q;rw[h]at this;exact ew (Z9 (jZ this) o)⟩
end bounds
section loops
variable{σ β ρ:Type}{n t:AB->Prop}{x:Nat->AB->Prop}{c:PC}{live jl:Ne}{i0 ER q i1:Nat}{lo b:Int}{s0:σ}{r:β}{k:σ->Option β}
variable{M:Int->σ->List (Nat×EV)}
theorem pR(h:∀i s,(mrg O (M i s) live).get ER=.tv (.int .i64 i)){i:Int}{s:σ}(o:∀k,((mrg O (M i s) live).get k).WF)(hi:i<b)(p:b<=9223372036854775807):Af (i+1)=i+1:=by
 have:=o ER;rw[h]at this;exact tX (Wx this) hi p
theorem cA{f:Int->σ->Option σ}(_:HA i0 ER q i1 M)(h:(sr f lo b s0).bind k=some r)(p:∀s,(O.get s).WF)(u:Bd O q i1 b)(_:c.xl i0=some jl)(w:O.jj live=mrg O (M lo s0) live)(A:∀i s,(mrg O (M i s) live).get ER=.tv (.int .i64 i))
  (B:∀i s r,i<b->f i s=some r->(∀k,((mrg O (M i s) live).get k).WF)->WP S c ⟨fun e=>Rn (e.jj live) (mrg O (M (Af (i+1)) r) live),fun _ _=>False,fun _=>False⟩ (mrg O (M i s) live))
  (C:∀i s,¬i<b->WP S c ⟨fun _=>False,fun j e=>j=i0/\Rn e (mrg O (M 0 s) jl),fun _=>False⟩ (mrg O (M i s) live))
  (D:∀s,k s=some r->n (mrg O (M 0 s) jl)):WP S (.block i0 (.loop live c)) ⟨n,x,t⟩ O:=by
 obtain ⟨o,ho,h⟩:=bind_some h;have u:=u.out p;refine l8 ho (fun i s=>mrg O (M i s) live) (fun s=>mrg O (M 0 s) jl) w (fun i s r hi hf p=>⟨PC.pr S c _ _ (B i s r hi hf p).out _ (fun e he=>?_) (fun _ _ h=>h) (fun _ h=>h)⟩) (fun i s hi=>⟨PC.pr S c _ _ (C i s hi).out _ (fun _ h=>h) (fun j e h=>⟨h.1,h.2.out⟩) (fun _ h=>h)⟩) (D o h);have:=he.out;rw[pR A p hi u]at this;exact this
variable{kr:ρ->Option β}
theorem VH{f:Int->σ->Option (Bp σ ρ)}{R:ρ->AB->Prop}(h:gn (kl f lo b s0) k kr=some r)(w:b<=9223372036854775807)(A:O.jj live=mrg O (M lo s0) live)(B:∀i s,(mrg O (M i s) live).get ER=.tv (.int .i64 i))
  (C:∀i s r,i<b->f i s=some r->(∀k,((mrg O (M i s) live).get k).WF)->WP S c ⟨fun e=>∃s',r=.next s'/\Rn (e.jj live) (mrg O (M (Af (i+1)) s') live),fun j e=>j=i0/\∃s',r=.brk s'/\Rn e (mrg O (M 0 s') jl),fun e=>∃v,r=.ret v/\R v e⟩ (mrg O (M i s) live))
  (D:∀i s,¬i<b->WP S c ⟨fun _=>False,fun j e=>j=i0/\Rn e (mrg O (M 0 s) jl),fun _=>False⟩ (mrg O (M i s) live))
  (E:∀s,k s=some r->n (mrg O (M 0 s) jl))(F:∀v e,kr v=some r->R v e->t e):WP S (.block i0 (.loop live c)) ⟨n,x,t⟩ O:=by
 obtain ⟨o,ho,h⟩:=U1 h;refine aC ho (fun i s=>mrg O (M i s) live) (fun s=>mrg O (M 0 s) jl) R A (fun i s r hi hf u=>⟨PC.pr S c _ _ (C i s r hi hf u).out _ (fun e he=>?_) (fun j e he=>?_) (fun _ h=>h)⟩) (fun i s hi=>⟨PC.pr S c _ _ (D i s hi).out _ (fun _ h=>h) (fun j e h=>⟨h.1,h.2.out⟩) (fun _ h=>h)⟩) (fun s G=>E s (Z3 h G)) (fun v e hv=>F v e (Z4 h hv))
 .obtain⟨s',p,e2⟩:=he;have e2:=e2.out;rw[pR B u hi w]at e2;exact⟨s',p,e2⟩
 .obtain⟨H,s',p,e2⟩:=he;exact⟨H,s',p,e2.out⟩
theorem cG{f:Int->σ->Option (Bp σ β)}{R:β->AB->Prop}(_:HA i0 ER q i1 M)(_:HR R)(o:R r=t)(h:gn (kl f lo b s0) k (fun v=>some v)=some r)(p:∀s,(O.get s).WF)(u:Bd O q i1 b)(_:c.xl i0=some jl)(w:O.jj live=mrg O (M lo s0) live)(A:∀i s,(mrg O (M i s) live).get ER=.tv (.int .i64 i))
  (B:∀i s r,i<b->f i s=some r->(∀k,((mrg O (M i s) live).get k).WF)->WP S c ⟨fun e=>∃s',r=.next s'/\Rn (e.jj live) (mrg O (M (Af (i+1)) s') live),fun j e=>j=i0/\∃s',r=.brk s'/\Rn e (mrg O (M 0 s') jl),fun e=>∃v,r=.ret v/\R v e⟩ (mrg O (M i s) live))
  (C:∀i s,¬i<b->WP S c ⟨fun _=>False,fun j e=>j=i0/\Rn e (mrg O (M 0 s) jl),fun _=>False⟩ (mrg O (M i s) live))
  (D:∀s,k s=some r->n (mrg O (M 0 s) jl)):WP S (.block i0 (.loop live c)) ⟨n,x,t⟩ O:=
 VH h (u.out p) w A B C D (fun v e hv E=>by cases hv;rw[<-o];exact E)
variable{τ:Type}
theorem cF{f:Int->σ->Option (Bp σ ρ)}{k:σ->Option (Bp τ ρ)}{r:Bp τ ρ}{R:ρ->AB->Prop}(_:HA i0 ER q i1 M)(h:gn (kl f lo b s0) k (fun v=>some (.ret v))=some r)(o:∀s,(O.get s).WF)(p:Bd O q i1 b)(_:c.xl i0=some jl)(u:O.jj live=mrg O (M lo s0) live)(w:∀i s,(mrg O (M i s) live).get ER=.tv (.int .i64 i))
  (A:∀i s r,i<b->f i s=some r->(∀k,((mrg O (M i s) live).get k).WF)->WP S c ⟨fun e=>∃s',r=.next s'/\Rn (e.jj live) (mrg O (M (Af (i+1)) s') live),fun j e=>j=i0/\∃s',r=.brk s'/\Rn e (mrg O (M 0 s') jl),fun e=>∃v,r=.ret v/\R v e⟩ (mrg O (M i s) live))
  (B:∀i s,¬i<b->WP S c ⟨fun _=>False,fun j e=>j=i0/\Rn e (mrg O (M 0 s) jl),fun _=>False⟩ (mrg O (M i s) live))
  (C:∀s,k s=some r->n (mrg O (M 0 s) jl)):WP S (.block i0 (.loop live c)) ⟨n,x,fun e=>∃v,r=.ret v/\R v e⟩ O:=
 VH h (p.out o) u w A B C (fun v e hv D=>by cases hv;exact⟨v,rfl,D⟩)
theorem cD{f:Int->σ->Option (Bp σ ρ)}(_:HA i0 ER q i1 M)(h:gn (kl f lo b s0) k (fun _=>none)=some r)(o:∀s,(O.get s).WF)(p:Bd O q i1 b)(_:c.xl i0=some jl)(u:O.jj live=mrg O (M lo s0) live)(w:∀i s,(mrg O (M i s) live).get ER=.tv (.int .i64 i))
  (A:∀i s r,i<b->f i s=some r->(∀k,((mrg O (M i s) live).get k).WF)->WP S c ⟨fun e=>∃s',r=.next s'/\Rn (e.jj live) (mrg O (M (Af (i+1)) s') live),fun j e=>j=i0/\∃s',r=.brk s'/\Rn e (mrg O (M 0 s') jl),fun _=>∃v,r=.ret v/\False⟩ (mrg O (M i s) live))
  (B:∀i s,¬i<b->WP S c ⟨fun _=>False,fun j e=>j=i0/\Rn e (mrg O (M 0 s) jl),fun _=>False⟩ (mrg O (M i s) live))
  (C:∀s,k s=some r->n (mrg O (M 0 s) jl)):WP S (.block i0 (.loop live c)) ⟨n,x,t⟩ O:=
 VH (R:=fun _ _=>False) h (p.out o) u w A B C (fun v e hv _=>by cases hv)
theorem Yf{f:σ->Option (Bp σ ρ)}{R:ρ->AB->Prop}{M:σ->List (Nat×EV)}(h:gn (ES f s0) k kr=some r)(u:O.jj live=mrg O (M s0) live)
  (w:∀s r,f s=some r->(∀k,((mrg O (M s) live).get k).WF)->WP S c ⟨fun e=>∃s',r=.next s'/\Rn (e.jj live) (mrg O (M s') live),fun j e=>j=i0/\∃s',r=.brk s'/\Rn e (mrg O (M s') jl),fun e=>∃v,r=.ret v/\R v e⟩ (mrg O (M s) live))
  (A:∀s,k s=some r->n (mrg O (M s) jl))(B:∀v e,kr v=some r->R v e->t e):WP S (.block i0 (.loop live c)) ⟨n,x,t⟩ O:=by
 obtain ⟨o,ho,h⟩:=U1 h;refine pV ho (fun s=>mrg O (M s) live) (fun s=>mrg O (M s) jl) R u (fun s r hf C=>⟨PC.pr S c _ _ (w s r hf C).out _ (fun e he=>?_) (fun j e he=>?_) (fun _ h=>h)⟩) (fun s D=>A s (Z3 h D)) (fun v e hv=>B v e (Z4 h hv))
 .obtain⟨s',p,e2⟩:=he;exact⟨s',p,e2.out⟩
 .obtain⟨E,s',p,e2⟩:=he;exact⟨E,s',p,e2.out⟩
theorem qE{f:σ->Option (Bp σ β)}{R:β->AB->Prop}{M:σ->List (Nat×EV)}(_:HW i0 M)(_:HR R)(o:R r=t)(h:gn (ES f s0) k (fun v=>some v)=some r)(_:c.xl i0=some jl)(p:O.jj live=mrg O (M s0) live)
  (u:∀s r,f s=some r->(∀k,((mrg O (M s) live).get k).WF)->WP S c ⟨fun e=>∃s',r=.next s'/\Rn (e.jj live) (mrg O (M s') live),fun j e=>j=i0/\∃s',r=.brk s'/\Rn e (mrg O (M s') jl),fun e=>∃v,r=.ret v/\R v e⟩ (mrg O (M s) live))
  (w:∀s,k s=some r->n (mrg O (M s) jl)):WP S (.block i0 (.loop live c)) ⟨n,x,t⟩ O:=
 Yf h p u w (fun v e hv A=>by cases hv;rw[<-o];exact A)
theorem qC{f:σ->Option (Bp σ ρ)}{k:σ->Option (Bp τ ρ)}{r:Bp τ ρ}{R:ρ->AB->Prop}{M:σ->List (Nat×EV)}(_:HW i0 M)(h:gn (ES f s0) k (fun v=>some (.ret v))=some r)(_:c.xl i0=some jl)(o:O.jj live=mrg O (M s0) live)
  (p:∀s r,f s=some r->(∀k,((mrg O (M s) live).get k).WF)->WP S c ⟨fun e=>∃s',r=.next s'/\Rn (e.jj live) (mrg O (M s') live),fun j e=>j=i0/\∃s',r=.brk s'/\Rn e (mrg O (M s') jl),fun e=>∃v,r=.ret v/\R v e⟩ (mrg O (M s) live))
  (u:∀s,k s=some r->n (mrg O (M s) jl)):WP S (.block i0 (.loop live c)) ⟨n,x,fun e=>∃v,r=.ret v/\R v e⟩ O:=
 Yf h o p u (fun v e hv w=>by cases hv;exact⟨v,rfl,w⟩)
theorem qB{f:σ->Option (Bp σ ρ)}{M:σ->List (Nat×EV)}(_:HW i0 M)(h:gn (ES f s0) k (fun _=>none)=some r)(_:c.xl i0=some jl)(o:O.jj live=mrg O (M s0) live)
  (p:∀s r,f s=some r->(∀k,((mrg O (M s) live).get k).WF)->WP S c ⟨fun e=>∃s',r=.next s'/\Rn (e.jj live) (mrg O (M s') live),fun j e=>j=i0/\∃s',r=.brk s'/\Rn e (mrg O (M s') jl),fun _=>∃v,r=.ret v/\False⟩ (mrg O (M s) live))
  (u:∀s,k s=some r->n (mrg O (M s) jl)):WP S (.block i0 (.loop live c)) ⟨n,x,t⟩ O:=
 Yf (R:=fun _ _=>False) h o p u (fun v e hv _=>by cases hv)
end loops
end
end Go.Sf
namespace Go.Sf
section
variable{P:Program}{S:FuncId->Fq->An->Prop}{K:AB->Prop}{os:List PR}{O:AB}{d:Nat}{α β:Type}{k:α->Option β}{r:β}
variable{j:Int}
theorem pu{n:Nat}{x i:AF}{es:Fq}{e:α->TV}{l:List α}{ik:IntKind}(h:(idx l j).bind k=some r)(p:x.val O=some (.list n es))(hi:i.val O=some (.int ik j))(he:es=l.map e)
  (u:∀a,idx l j=some a->k a=some r->WO S K os ((d,.tv (.pt (e a).cells))::O)):WO S K (⟨some d,.iad x i n,none⟩::os) O:=by
 obtain ⟨a,o,h⟩:=bind_some h;exact sa p hi he o rfl (u a o h)
variable{ka kb:IntKind}
theorem p9{β:Type}{γ:Type}{k:List γ->Option β}{r:β}{n:Nat}{x:AF}{lo hi:Option AF}{es:Fq}{e:γ->TV}{l:List γ}{a b:Int}(h:(slc l a b).bind k=some r)(w:x.val O=some (.list n es))(he:es=l.map e)(o:Eu O 0 lo=some (.int ka a))(p:Eu O l.length hi=some (.int kb b))
  (A:∀m,slc l a b=some m->k m=some r->WO S K os ((d,.tv (.list n (m.map e)))::O)):WO S K (⟨some d,.slc n x lo hi,none⟩::os) O:=by
 obtain ⟨m,u,h⟩:=bind_some h;exact tL w he o p u (A m u h)
theorem ma{k:ByteArray->Option β}{x:AF}{lo hi:Option AF}{s:ByteArray}{a b:Int}(h:(AaJ s a b).bind k=some r)(w:x.val O=some (.str s))(o:Eu O 0 lo=some (.int ka a))(p:Eu O s.size hi=some (.int kb b))
  (A:∀m,AaJ s a b=some m->k m=some r->WO S K os ((d,.tv (.str m))::O)):WO S K (⟨some d,.AaJ x lo hi,none⟩::os) O:=by
 obtain ⟨m,u,h⟩:=bind_some h;exact o0 w o p u (A m u h)
theorem mZ{k:Int->Option β}{x i:AF}{s:ByteArray}{ik:IntKind}(h:(AaE s j).bind k=some r)(p:x.val O=some (.str s))(hi:i.val O=some (.int ik j))
  (u:∀b,AaE s j=some b->k b=some r->WO S K os ((d,.tv (.int .u8 b))::O)):WO S K (⟨some d,.AaE x i,none⟩::os) O:=by
 obtain ⟨b,o,h⟩:=bind_some h;exact ox p hi o (u b o h)
theorem pW{γ:Type}{k:List γ->Option β}{n s:Nat}{y:AF}{es fs:Fq}{e:γ->TV}{l m:List γ}(h:(Ag l m).bind k=some r)(p:O.get s=.ow (.list n es))(u:y.val O=some (.list n fs))(he:es=l.map e)(hf:fs=m.map e)
  (w:∀x,Ag l m=some x->k x=some r->WO S K os ((d,.ow (.list n (x.map e)))::(s,.tv (.list n es))::O)):WO S K (⟨some d,.app n (.s s) y,none⟩::os) O:=by
 obtain ⟨x,o,h⟩:=bind_some h;exact jJ p u he hf o rfl (w x o h)
theorem mJ{γ:Type}{k:List γ->Option β}{n s:Nat}{y:AF}{es fs:Fq}{e:γ->TV}{l m:List γ}{f:List γ->TV}(h:(Ag l m).bind k=some r)(p:O.get s=.ow (.list n es))(u:y.val O=some (.list n fs))(he:es=l.map e)(hf:fs=m.map e)(c:Fl e n f)
  (w:∀x,Ag l m=some x->k x=some r->WO S K os ((d,.ow (f x))::(s,.tv (.list n es))::O)):WO S K (⟨some d,.app n (.s s) y,none⟩::os) O:=by
 obtain ⟨x,o,h⟩:=bind_some h;have:=w x o h;rw[c.eq]at this;exact jJ p u he hf o rfl this
theorem mK{γ:Type}{k:List γ->Option β}{n s:Nat}{y:AF}{es fs:Fq}{e:γ->TV}{l m:List γ}(h:(Ag l m).bind k=some r)(p:O.get s=.xo n es)(u:y.val O=some (.list n fs))(he:es=l.map e)(hf:fs=m.map e)(w:O.j0 d=true)(hd:d≠s)
  (A:∀x,Ag l m=some x->k x=some r->WO S K os ((d,.xo n (x.map e))::(s,.undef)::O)):WO S K (⟨some d,.Abh n s y,none⟩::os) O:=by
 obtain ⟨x,o,h⟩:=bind_some h;exact oT p u he hf o rfl w hd (A x o h)
theorem mL{γ:Type}{k:List γ->Option β}{n s:Nat}{o:TV}{x:AF}{es:Fq}{e:γ->TV}{z:γ}{l:List γ}{ik:IntKind}(h:(TL l j z).bind k=some r)(w:O.get s=.xo n es)(A:x.val O=some (.int ik j))(he:es=l.map e)(B:o=e z)(C:O.j0 d=true)(hd:d≠s)(p:n=1)(D:o.cells=[o])
  (E:∀m,TL l j z=some m->k m=some r->WO S K os ((d,.xo n (m.map e))::(s,.undef)::O)):WO S K (⟨some d,.Abk n s o x,none⟩::os) O:=by
 obtain ⟨m,u,h⟩:=bind_some h;exact oU w A he B u rfl C hd p D (E m u h)
theorem pY{γ:Type}{k:List γ->Option β}{n s:Nat}{hi:AF}{es:Fq}{e:γ->TV}{l:List γ}{ik:IntKind}(h:(slc l 0 j).bind k=some r)(p:O.get s=.xo n es)(u:hi.val O=some (.int ik j))(he:es=l.map e)(w:O.j0 d=true)(hd:d≠s)
  (A:∀m,slc l 0 j=some m->k m=some r->WO S K os ((d,.xo n (m.map e))::(s,.undef)::O)):WO S K (⟨some d,.cut n s hi,none⟩::os) O:=by
 obtain ⟨m,o,h⟩:=bind_some h;exact sT p u he o rfl w hd (A m o h)
variable{zero:Fq}
theorem pz{γ:Type}{k:List γ->Option β}{n:Nat}{x:AF}{ik:IntKind}{e:γ->TV}{z:γ}(h:(IQ j z).bind k=some r)(p:O.j0 d=true)(u:x.val O=some (.int ik j))(w:(match zero with|[t]=>t|ts=>.agg ts)=e z)
  (A:∀m,IQ j z=some m->k m=some r->WO S K os ((d,.xo n (m.map e))::O)):WO S K (⟨some d,.mkx n zero x,none⟩::os) O:=by
 obtain ⟨m,o,h⟩:=bind_some h;exact s7 p u w o rfl (A m o h)
variable{qi:Option Nat}
theorem qF{x i:AF}{q n:Nat}{es:Fq}{e:α->TV}{l:List α}{ik:IntKind}(h:(idx l j).bind k=some r)(p:x.Aac O=some ((q,qi),n,es))(hi:i.val O=some (.int ik j))(he:es=l.map e)(u:(x.ev O).ref=some q)
  (w:∀a,idx l j=some a->k a=some r->WO S K os ((d,.lp q qi (j.toNat*n))::O)):WO S K (⟨some d,.xia x i n,none⟩::os) O:=by
 obtain ⟨a,o,h⟩:=bind_some h;exact tU p hi he o u (w a o h)
section ints
variable{k:Int->Option β}{x y:AF}{ik:IntKind}{a b:Int}
theorem p6(h:(quo a b).bind k=some r)(p:x.val O=some (.int ik a))(u:y.val O=some (.int ik b))(w:∀q,quo a b=some q->k q=some r->WO S K os ((d,.tv (.int ik (ik.wrap q)))::O)):WO S K (⟨some d,.bin .i .quo x y,none⟩::os) O:=by
 obtain ⟨m,o,h⟩:=bind_some h;exact tI p u o (w m o h)
theorem p7(h:(Zt a b).bind k=some r)(p:x.val O=some (.int ik a))(u:y.val O=some (.int ik b))(w:∀q,Zt a b=some q->k q=some r->WO S K os ((d,.tv (.int ik q))::O)):WO S K (⟨some d,.bin .i .rem x y,none⟩::os) O:=by
 obtain ⟨m,o,h⟩:=bind_some h;exact tK p u o (w m o h)
theorem pX{op:BinOp}{o:IntKind}(h:(Ke ik op a b).bind k=some r)(u:x.val O=some (.int ik a))(A:y.val O=some (.int o b))(B:ik=o\/op=.shl\/op=.shr)(C:∀q,Ke ik op a b=some q->k q=some r->WO S K os ((d,.tv (.int ik q))::O)):WO S K (⟨some d,.bin .w op x y,none⟩::os) O:=by
 obtain ⟨m,p,h⟩:=bind_some h;exact sP u A B p (C m p h)
end ints
theorem mY{k:ByteArray->Option β}{x y:AF}{u v:ByteArray}(h:(My u v).bind k=some r)(p:x.val O=some (.str u))(w:y.val O=some (.str v))(A:∀q,My u v=some q->k q=some r->WO S K os ((d,.tv (.str q))::O)):WO S K (⟨some d,.bin .s .add x y,none⟩::os) O:=by
 obtain ⟨m,o,h⟩:=bind_some h;exact ou p w o (A m o h)
theorem pv{k:Unit->Option β}{x:AF}{n:Nat}{es:Fq}{e:α->TV}{l:List α}(h:(TX l).bind k=some r)(o:x.val O=some (.list n es))(he:es=l.map e)(p:∀u,k u=some r->WO S K os ((d,.tv (.bool false))::O)):WO S K (⟨some d,.isn x,none⟩::os) O:=by
 obtain ⟨u,A,h⟩:=bind_some h;refine jM o he fun b w=>?_;obtain rfl:=cg A w;exact p u h
theorem im{x:AF}{n:Nat}{e:α->TV}{a:α}(h:A1 O (x.ev O)=some (e a).cells)(o:Nat.beq (e a).cells.length n=true)(p:TV.agg (e a).cells=e a)(u:WO S K os ((d,.tv (e a))::O)):WO S K (⟨some d,.lda x n,none⟩::os) O:=by
 have o:=Nat.eq_of_beq_eq_true o;exact Ww h (by rw[o];exact Nat.ble_self_eq_true n) (by rw[List.take_of_length_le (by omega),p]) u
theorem pw{s n:Nat}{cs:List AR}{e:α->TV}{a:α}(h:O.get s=.bx cs)(p:cs.map (·.t)=(e a).cells)(o:Nat.beq (e a).cells.length n=true)(u:TV.agg (e a).cells=e a)(w:WO S K os ((d,.tv (e a))::O)):WO S K (⟨some d,.ldb s n,none⟩::os) O:=by
 have o:=Nat.eq_of_beq_eq_true o;exact jN h (by rw[p,o];exact Nat.ble_self_eq_true n) (by rw[p,List.take_of_length_le (by omega),u]) w
theorem mb{n s:Nat}{v:AF}{cs:List AR}{t:TV}(o:O.get s=.bx cs)(hv:v.ev O=.tv t)(p:t.cells.length=n)(h:Nat.beq n cs.length=true)(u:WO S K os ((s,.bx (t.cells.map (⟨false,·⟩)))::O)):WO S K (⟨none,.stb n s v,none⟩::os) O:=by
 have h:=Nat.eq_of_beq_eq_true h;refine jQ o hv p (by rw[Nat.zero_add,h];exact Nat.ble_self_eq_true _) ?_ u;rw[List.take_zero,Nat.zero_add,h,List.drop_length,List.append_nil,List.nil_append]
theorem mV{x:AF}{n:Nat}{e:α->TV}{a:α}(h:A1 O (x.ev O)=some (((e a).cells.map fun t=>(⟨false,t⟩:AR)).map (·.t)))(o:Nat.beq (e a).cells.length n=true)(p:TV.agg (e a).cells=e a)(u:WO S K os ((d,.tv (e a))::O)):WO S K (⟨some d,.lda x n,none⟩::os) O:=
 im (by rw[h,List.map_map];congr 1;exact List.map_id _) o p u
def aK(n:Nat):Fq->Bool
 |[]=>true|t::ts=>Nat.beq t.cells.length n&&aK n ts
theorem XA{n:Nat}:∀{ts:Fq},aK n ts=true->∀t∈ts,t.cells.length=n
 |[],_,_,h=>by cases h
 |t::ts,h,u,o=>by
  simp only[aK,up]at h;rcases List.mem_cons.1 o with rfl|o
  .exact Nat.eq_of_beq_eq_true h.1
  .exact XA h.2 u o
variable{parts:List AF}
theorem py{n:Nat}{ts:Fq}(h:vals O parts=some ts)(o:aK n ts=true)(p:WO S K os ((d,.ow (.list n ts))::O)):WO S K (⟨some d,.lst n parts,none⟩::os) O:=by
 have:=p.out;refine⟨?_⟩;simp only[wpOps,PR.wp,AE.wp,h,AW];exact⟨XA o,this⟩
variable{zero:Fq}
theorem mM{parts:List (Nat×Nat×AF)}{ts:List (Nat×Nat×TV)}{cs:Fq}{e:α->TV}{a:α}(h:(some a).bind k=some r)(_:En α e)(o:F1 O parts=some ts)(p:Ec zero ts=some cs)(he:TV.agg cs=e a)(u:∀x,x=a->k x=some r->WO S K os ((d,.tv (e x))::O)):WO S K (⟨some d,.bld zero parts,none⟩::os) O:=by
 rw [Option.bind_some]at h;exact Wv o p he (u a rfl h)
theorem px{x:AF}{n:Nat}{cs:Fq}{e:α->TV}{a:α}(h:(some a).bind k=some r)(_:En α e)(o:A1 O (x.ev O)=some cs)(p:Nat.ble n cs.length=true)(he:TV.agg (cs.take n)=e a)(u:∀x,x=a->k x=some r->WO S K os ((d,.tv (e x))::O)):WO S K (⟨some d,.lda x n,none⟩::os) O:=by
 rw [Option.bind_some]at h;exact Ww o p he (u a rfl h)
inductive Lm{α:Type}(e:α->TV):Fq->List α->Prop
 |nil:Lm e [] []
 |cons {t:TV} {ts:Fq} {a:α} {l:List α}:t=e a->Lm e ts l->Lm e (t::ts) (a::l)
theorem Lm.eq{e:α->TV}{ts:Fq}{l:List α}(h:Lm e ts l):ts=l.map e:=by
 induction h with
 |nil=>rfl|cons h _ o=>rw[h,o];rfl
theorem mW{n:Nat}{ts:Fq}{e:α->TV}{l:List α}(h:vals O parts=some ts)(o:Lm e ts l)(p:∀a,(e a).cells.length=n)(u:WO S K os ((d,.ow (.list n (l.map e)))::O)):WO S K (⟨some d,.lst n parts,none⟩::os) O:=jO h o.eq p u
theorem mX{n:Nat}{ts:Fq}{e:α->TV}{l:List α}{f:List α->TV}(h:vals O parts=some ts)(p:Lm e ts l)(u:∀a,(e a).cells.length=n)(c:Fl e n f)(o:WO S K os ((d,.ow (f l))::O)):WO S K (⟨some d,.lst n parts,none⟩::os) O:=by
 rw [c.eq]at o;exact jO h p.eq u o
theorem mF{e:α->TV}{n:Ne}{x y:AF}{a:α}{cs:Fq}(o:x.val O=some (e a))(p:y.val O=some (.agg cs))[c:bu e][i:Decidable (a=c.un cs)](u:TV.agg (e a).cells=e a)(w:(e (c.un cs)).cells=cs)(A:(e a).cells.map TV.kd=n)(B:WO S K os ((d,.tv (.bool (decide (a=c.un cs))))::O)):WO S K (⟨some d,.bin (.a n) .eql x y,none⟩::os) O:=by
 obtain ⟨C,h⟩:=c.dec a (c.un cs);have:i=C:=Subsingleton.elim _ _;subst this;rw[<-u]at o;rw[w]at h;exact du o p A h B
theorem mH{e:α->TV}{n:Ne}{x y:AF}{a:α}{cs:Fq}(o:x.val O=some (e a))(p:y.val O=some (.agg cs))[c:bu e][i:Decidable (a=c.un cs)](u:TV.agg (e a).cells=e a)(w:(e (c.un cs)).cells=cs)(A:(e a).cells.map TV.kd=n)(B:WO S K os ((d,.tv (.bool (!decide (a=c.un cs))))::O)):WO S K (⟨some d,.bin (.a n) .neq x y,none⟩::os) O:=by
 obtain ⟨C,h⟩:=c.dec a (c.un cs);have:i=C:=Subsingleton.elim _ _;subst this;rw[<-u]at o;rw[w]at h;exact dw o p A h B
theorem mE{e:α->TV}{n:Ne}{x y:AF}{a b:α}{i:Decidable (a=b)}(o:x.val O=some (e a))(p:y.val O=some (e b))(c:bu e)(u:TV.agg (e a).cells=e a)(w:TV.agg (e b).cells=e b)(A:(e a).cells.map TV.kd=n)(B:WO S K os ((d,.tv (.bool (decide (a=b))))::O)):WO S K (⟨some d,.bin (.a n) .eql x y,none⟩::os) O:=by
 obtain ⟨C,h⟩:=c.dec a b;have:i=C:=Subsingleton.elim _ _;subst this;rw[<-u]at o;rw[<-w]at p;exact du o p A h B
theorem mG{e:α->TV}{n:Ne}{x y:AF}{a b:α}{i:Decidable (a=b)}(o:x.val O=some (e a))(p:y.val O=some (e b))(c:bu e)(u:TV.agg (e a).cells=e a)(w:TV.agg (e b).cells=e b)(A:(e a).cells.map TV.kd=n)(B:WO S K os ((d,.tv (.bool (!decide (a=b))))::O)):WO S K (⟨some d,.bin (.a n) .neq x y,none⟩::os) O:=by
 obtain ⟨C,h⟩:=c.dec a b;have:i=C:=Subsingleton.elim _ _;subst this;rw[<-u]at o;rw[<-w]at p;exact dw o p A h B
section calls
variable{x:Option α}{f:FuncId}{ts:Fq}{R:α->An}{args:List AF}
theorem pf{s:Nat}{cs:List AR}{row:Fq}(o:O.get s=.bx cs)(f:Fz cs row)(k:WO S K os ((s,.tv (.pt row))::O)):WO S K (⟨none,.frz s,none⟩::os) O:=sX o f.h k
theorem mO{t:α->TV}(h:x.bind k=some r)(c:Ct P x f ts R)(p:vals O args=some ts)(u:∀a,R a=.sh (t a))(w:∀a,x=some a->k a=some r->WO (AN P) K os ((d,.tv (t a))::O)):WO (AN P) K (⟨some d,.call f args,none⟩::os) O:=by
 obtain ⟨a,o,h⟩:=bind_some h;have:=c.snd a o;rw[u]at this;exact dz p this (w a o h)
theorem jm{t:α->TV}(h:x.bind k=some r)(c:Ct P x f ts R)(p:vals O args=some ts)(u:∀a,R a=.own (t a))(w:∀a,x=some a->k a=some r->WO (AN P) K os ((d,.ow (t a))::O)):WO (AN P) K (⟨some d,.call f args,none⟩::os) O:=by
 obtain ⟨a,o,h⟩:=bind_some h;have:=c.snd a o;rw[u]at this;exact lg p this (w a o h)
theorem jo{t:α->TV}(_:HS d)(h:x.bind k=some r)(c:Ct P x f ts R)(p:vals O args=some ts)(u:∀a,R a=.own (t a))(w:∀a,x=some a->k a=some r->WO (AN P) K os ((d,.tv (t a))::O)):WO (AN P) K (⟨some d,.call f args,none⟩::os) O:=by
 obtain ⟨a,o,h⟩:=bind_some h;have:=c.snd a o;rw[u]at this;exact dz p (nU this) (w a o h)
theorem jq{n:Nat}{t:α->Fq}(h:x.bind k=some r)(c:Ct P x f ts R)(p:vals O args=some ts)(u:∀a,R a=.Aa2 n (t a))(w:∀a,x=some a->k a=some r->WO (AN P) K os ((d,.ow (.list n (t a)))::O)):WO (AN P) K (⟨some d,.call f args,none⟩::os) O:=by
 obtain ⟨a,o,h⟩:=bind_some h;have:=c.snd a o;rw[u]at this;exact lj p this (w a o h)
theorem jn{t:α->Fq}(h:x.bind k=some r)(c:Ct P x f ts R)(p:vals O args=some ts)(u:∀a,R a=.tp (t a))(w:∀a,x=some a->k a=some r->WO (AN P) K os ((d,.tp (t a))::O)):WO (AN P) K (⟨some d,.call f args,none⟩::os) O:=by
 obtain ⟨a,o,h⟩:=bind_some h;have:=c.snd a o;rw[u]at this;exact lh p this (w a o h)
theorem jh{t:α->List AR}(h:x.bind k=some r)(c:Ct P x f ts R)(p:vals O args=some ts)(u:∀a,R a=.oag (t a))(w:∀a,x=some a->k a=some r->WO (AN P) K os ((d,.tv (.agg ((t a).map fun c=>c.rel.t)))::O)):WO (AN P) K (⟨some d,.call f args,none⟩::os) O:=by
 obtain ⟨a,o,h⟩:=bind_some h;have:=c.snd a o;rw[u]at this;exact lb p this rfl (w a o h)
theorem jg{t:α->List AR}(h:x.bind k=some r)(c:Ct P x f ts R)(p:vals O args=some ts)(u:∀a,R a=.oag (t a))(w:∀a,x=some a->k a=some r->WO (AN P) K os ((d,.oag (t a))::O)):WO (AN P) K (⟨some d,.Aa4 f args,none⟩::os) O:=by
 obtain ⟨a,o,h⟩:=bind_some h;have:=c.snd a o;rw[u]at this;exact lZ p this (w a o h)
theorem jr{n:Nat}{t:α->Fq}(h:x.bind k=some r)(c:Ct P x f ts R)(p:O.j0 d=true)(u:vals O args=some ts)(w:∀a,R a=.Aa2 n (t a))(A:∀a,x=some a->k a=some r->WO (AN P) K os ((d,.xo n (t a))::O)):WO (AN P) K (⟨some d,.AaM f args,none⟩::os) O:=by
 obtain ⟨a,o,h⟩:=bind_some h;have:=c.snd a o;rw[w]at this;exact ll p u this (A a o h)
theorem fE{γ:Type}{k:List γ->Option β}{x:Option (List γ)}{R:List γ->An}{n:Nat}{e:γ->TV}(h:x.bind k=some r)(c:Ct P x f ts R)(p:O.j0 d=true)(u:vals O args=some ts)(w:∀a,R a=.own (.list n (a.map e)))(hf:∀a,(e a).flat=true)(A:∀a,x=some a->k a=some r->WO (AN P) K os ((d,.xo n (a.map e))::O)):WO (AN P) K (⟨some d,.AaM f args,none⟩::os) O:=by
 obtain ⟨a,o,h⟩:=bind_some h;have:=c.snd a o;rw[w]at this;exact gc p u this rfl hf (A a o h)
theorem ji{t:α->TV}(h:x.bind k=some r)(c:Ct P x f ts R)(p:Aau O args=some ts)(u:∀a,R a=.sh (t a))(w:∀a,(t a).flat=true)(A:∀a,x=some a->k a=some r->WO (AN P) K os ((d,.tv (t a))::O)):WO (AN P) K (⟨some d,.AaK f args,none⟩::os) O:=by
 obtain ⟨a,o,h⟩:=bind_some h;have:=c.snd a o;rw[u]at this;exact lc p this (w a) (A a o h)
theorem fB{t:α->Fq}(h:x.bind k=some r)(c:Ct P x f ts R)(p:Aau O args=some ts)(u:∀a,R a=.tp (t a))(w:∀a,TV.Aah (t a)=true)(A:∀a,x=some a->k a=some r->WO (AN P) K os ((d,.tp (t a))::O)):WO (AN P) K (⟨some d,.AaK f args,none⟩::os) O:=by
 obtain ⟨a,o,h⟩:=bind_some h;have:=c.snd a o;rw[u]at this;exact gV p this (w a) (A a o h)
theorem fA{γ:Type}{k:List γ->Option β}{x:Option (List γ)}{R:List γ->An}{n:Nat}{e:γ->TV}(h:x.bind k=some r)(c:Ct P x f ts R)(p:Aau O args=some ts)(u:∀a,R a=.own (.list n (a.map e)))(hf:∀a,(e a).flat=true)(w:∀a,x=some a->k a=some r->WO (AN P) K os ((d,.ow (.list n (a.map e)))::O)):WO (AN P) K (⟨some d,.AaK f args,none⟩::os) O:=by
 obtain ⟨a,o,h⟩:=bind_some h;have:=c.snd a o;rw[u]at this;exact gU p this rfl rfl hf (w a o h)
theorem jf{t:α->Fq}(h:x.bind k=some r)(c:Ct P x f ts R)(p:vals O args=some ts)(u:∀a,R a=.ext (t a))(w:∀a,x=some a->k a=some r->WO (AN P) K os ((d,.tp (t a))::O)):WO (AN P) K (⟨some d,.Aa5 f args,none⟩::os) O:=by
 obtain ⟨a,o,h⟩:=bind_some h;have:=c.snd a o;rw[u]at this;exact lY p this (w a o h)
theorem ZD{i s:Nat}{cs:List AR}{cs':α->List AR}{us:α->Fq}{e:α->EV}(h:x.bind k=some r)(c:Ct P x f ts R)(p:(args[i]?).bind (·.place O)=some (s,0))(u:O.get s=.bx cs)(w:O.noX s none=true)(hd:d≠s)(A:G2 O i args=some ts)(B:∀a,R a=.bo cs (cs' a) i (us a))(he:∀a,EV.ofs (us a)=e a)(C:∀a,x=some a->k a=some r->WO (AN P) K os ((d,e a)::(s,.bx (cs' a))::O)):WO (AN P) K (⟨some d,.AaF f args i,none⟩::os) O:=by
 obtain ⟨a,o,h⟩:=bind_some h;have:=c.snd a o;rw[B]at this;exact lV p u w hd A this (he a) (C a o h)
variable{qi:Option Nat}
theorem jk{k:Fp->Option β}{f:FuncId}{x:AF}{q:Nat}{es:Fq}{l:Fp}{y:Option Fp}{env':Fp->AB}(h:y.bind k=some r)(c:Ct P y f [.list 1 (l.map (TV.int .i64))] An.turn)(p:x.Aac O=some ((q,qi),1,es))(he:es=l.map (TV.int .i64))(hv:∀a,O.Aak q qi 1 (a.map (TV.int .i64))=env' a)(u:∀a,y=some a->k a=some r->WO (AN P) K os ((d,.tp [])::env' a)):WO (AN P) K (⟨some d,.AaW f x,none⟩::os) O:=by
 obtain ⟨a,o,h⟩:=bind_some h;exact lf p he rfl (c.snd a o) rfl (hv a) (u a o h)
theorem je{k:Fp->Option β}{f:FuncId}{x:AF}{q:Nat}{es:Fq}{l:Fp}{y:Option Fp}(h:y.bind k=some r)(c:Ct P y f [.list 1 (l.map (TV.int .i64))] An.cut)(u:x.Aac O=some ((q,none),1,es))(he:es=l.map (TV.int .i64))(o:q≠d)(w:O.j0 d=true)(A:∀a,y=some a->k a=some r->WO (AN P) K os ((d,.xo 1 (a.map (TV.int .i64)))::(q,.undef)::O)):WO (AN P) K (⟨some d,.AaU f x,none⟩::os) O:=by
 obtain ⟨a,p,h⟩:=bind_some h;exact lW u he rfl o w (c.snd a p) rfl (A a p h)
section values
variable{v:AF}{caps us:Fq}
theorem jp{t:α->TV}(h:x.bind k=some r)(c:Ct P x f ts R)(hv:v.val O=some (.clo f caps))(p:vals O args=some us)(u:us++caps=ts)(w:∀a,R a=.sh (t a))(A:∀a,x=some a->k a=some r->WO (AN P) K os ((d,.tv (t a))::O)):WO (AN P) K (⟨some d,.AaL v args,none⟩::os) O:=by
 obtain ⟨a,o,h⟩:=bind_some h;have:=c.snd a o;rw[w,<-u]at this;exact li hv p this (A a o h)
theorem fC{t:α->TV}(h:x.bind k=some r)(c:Ct P x f ts R)(hv:v.val O=some (.clo f caps))(p:vals O args=some us)(u:us++caps=ts)(w:∀a,R a=.own (t a))(A:∀a,x=some a->k a=some r->WO (AN P) K os ((d,.ow (t a))::O)):WO (AN P) K (⟨some d,.AaL v args,none⟩::os) O:=by
 obtain ⟨a,o,h⟩:=bind_some h;have:=c.snd a o;rw[w,<-u]at this;exact gY hv p this (A a o h)
theorem fD{t:α->Fq}(h:x.bind k=some r)(c:Ct P x f ts R)(hv:v.val O=some (.clo f caps))(p:vals O args=some us)(u:us++caps=ts)(w:∀a,R a=.tp (t a))(A:∀a,x=some a->k a=some r->WO (AN P) K os ((d,.tp (t a))::O)):WO (AN P) K (⟨some d,.AaL v args,none⟩::os) O:=by
 obtain ⟨a,o,h⟩:=bind_some h;have:=c.snd a o;rw[w,<-u]at this;exact gZ hv p this (A a o h)
end values
end calls
inductive GS(g:Nat)(b:Bool):Ne->List PR->Ne->Nat->Prop
 |done {acc:Ne} {os:List PR}:GS g b acc os [] 0
 |step {acc js:Ne} {d n:Nat} {op:AE} {os:List PR}:GS g b (d::acc) os js n->GS g b acc (⟨some d,op,some (g,b)⟩::os) (d::js) (n+1)
 |Ab5 {acc js:Ne} {d n g':Nat} {b':Bool} {op:AE} {os:List PR}:acc.contains g'=true->GS g b (d::acc) os js n->GS g b acc (⟨some d,op,some (g',b')⟩::os) (d::js) (n+1)
def mC:Ne->AB->(AB->Prop)->Prop
 |[],z,K=>K z|k::ks,z,K=>∃j,mC ks ((k,j)::z) K
structure Gj(js:Ne)(d:Nat)(v:TV)(z e:AB):Prop where
 of::out:mC js z fun y=>e=(d,.tv v)::y
theorem cd{d:Nat}{v:TV}{z e:AB}(h:e=(d,.tv v)::z):Gj [] d v z e:=⟨h⟩
variable{ks:Ne}
theorem kE{k d:Nat}{v:TV}{j:EV}{z e:AB}(h:Gj ks d v ((k,j)::z) e):Gj (k::ks) d v z e:=⟨j,h.out⟩
theorem mT{js:Ne}{v:TV}{z:AB}(h:Gj js d v z O):WO S (Gj js d v z) [] O:=⟨h⟩
structure VU(js:Ne)(z:AB)(Q:AB->Prop):Prop where
 of::out:∀(d:Nat)(v:TV)(e:AB),Gj js d v z e->∃y,e=(d,.tv v)::y/\Q y
theorem kF{z:AB}{Q:AB->Prop}(h:Q z):VU [] z Q:=⟨fun _ _ _ he=>⟨z,he.out,h⟩⟩
theorem fX{k:Nat}{z:AB}{Q:AB->Prop}(h:∀j,VU ks ((k,j)::z) Q):VU (k::ks) z Q:=⟨fun d v e he=>by
 obtain ⟨j,o⟩:=he.out;exact(h j).out d v e ⟨o⟩⟩
theorem rN{dd:Option Nat}{op:AE}{g:Nat}{b q:Bool}(h:O.get g=.tv (.bool q))(o:b7 g b q)(p:WO S K (⟨dd,op,none⟩::os) O):WO S K (⟨dd,op,some (g,b)⟩::os) O:=uM h o.out p
theorem nB{op:AE}{g:Nat}{b q:Bool}(h:O.get g=.tv (.bool q))(o:W5 g b q)(p:WO S K os ((d,.sk)::O)):WO S K (⟨some d,op,some (g,b)⟩::os) O:=rM h o.out p
theorem aZ{d n:Nat}{js:Ne}{v:TV}(h:WO S (Gj js d v O) (os.take n) O)(o:VU js O fun e=>WO S K (os.drop n) ((d,.tv v)::e)):WO S K os O:=
 rL n (Gj js d v) h fun e he=>by
  obtain ⟨y,rfl,p⟩:=o.out d v e he;exact p
section groups
variable{g n:Nat}{js:Ne}{c:Bool}{dd gd:Option Nat}{op:AE}{x y z:AF}{gg:Option (Nat×Bool)}
variable{T:K1}{os':List PR}
theorem pk{k:Bool->Option β}(h:(if c=true then T else some false).bind k=some r)(_:GS g true [] os js n)(A:O.get g=.tv (.bool c))(_:os[n]?=some ⟨some d,.pick x y z,gg⟩)
  (p:∀v,b7 g true c->c=true->T=some v->WO S (Gj js d (.bool v) O) (os.take (n+1)) O)(u:∀v,W5 g true c->c=false->some false=some v->WO S (Gj js d (.bool v) O) (os.take (n+1)) O)
  (w:∀v,k v=some r->VU js O fun e=>WO S K (os.drop (n+1)) ((d,.tv (.bool v))::e))(ho:os=⟨dd,op,some (g,true)⟩::os'):WO S K (⟨dd,op,some (g,true)⟩::os') O:=by
 obtain ⟨v,hv,h⟩:=bind_some h;rw[<-ho];refine aZ (n:=n+1) (v:=.bool v) ?_ (w v h);rcases Bool.eq_false_or_eq_true c with o|o
 .exact p v ⟨o⟩ o (UT o hv)
 .exact u v ⟨by rw[o];rfl⟩ o (US o hv)
theorem pj{k:Bool->Option β}(h:(if c=true then some true else T).bind k=some r)(_:GS g false [] os js n)(A:O.get g=.tv (.bool c))(_:os[n]?=some ⟨some d,.pick x y z,gg⟩)
  (p:∀v,b7 g false c->c=false->T=some v->WO S (Gj js d (.bool v) O) (os.take (n+1)) O)(u:∀v,W5 g false c->c=true->some true=some v->WO S (Gj js d (.bool v) O) (os.take (n+1)) O)
  (w:∀v,k v=some r->VU js O fun e=>WO S K (os.drop (n+1)) ((d,.tv (.bool v))::e))(ho:os=⟨dd,op,some (g,false)⟩::os'):WO S K (⟨dd,op,some (g,false)⟩::os') O:=by
 obtain ⟨v,hv,h⟩:=bind_some h;rw[<-ho];refine aZ (n:=n+1) (v:=.bool v) ?_ (w v h);rcases Bool.eq_false_or_eq_true c with o|o
 .exact u v ⟨by rw[o];rfl⟩ o (UT o hv)
 .exact p v ⟨o⟩ o (US o hv)
theorem pi{e:Bool}(ho:os=⟨dd,op,some (g,true)⟩::os')(_:GS g true [] os js n)(u:O.get g=.tv (.bool c))(_:os[n]?=some ⟨some d,.pick x y z,gg⟩)
  (h:b7 g true c->c=true->WO S (Gj js d (.bool e) O) (os.take (n+1)) O)(o:W5 g true c->c=false->WO S (Gj js d (.bool false) O) (os.take (n+1)) O)
  (p:VU js O fun z=>WO S K (os.drop (n+1)) ((d,.tv (.bool (c&&e)))::z)):WO S K (⟨dd,op,some (g,true)⟩::os') O:=by
 rw [<-ho];refine aZ (n:=n+1) (v:=.bool (c&&e)) ?_ p;cases c
 .exact o ⟨rfl⟩ rfl
 .exact h ⟨rfl⟩ rfl
theorem ph{e:Bool}(ho:os=⟨dd,op,some (g,false)⟩::os')(_:GS g false [] os js n)(u:O.get g=.tv (.bool c))(_:os[n]?=some ⟨some d,.pick x y z,gg⟩)
  (h:b7 g false c->c=false->WO S (Gj js d (.bool e) O) (os.take (n+1)) O)(o:W5 g false c->c=true->WO S (Gj js d (.bool true) O) (os.take (n+1)) O)
  (p:VU js O fun z=>WO S K (os.drop (n+1)) ((d,.tv (.bool (c||e)))::z)):WO S K (⟨dd,op,some (g,false)⟩::os') O:=by
 rw [<-ho];refine aZ (n:=n+1) (v:=.bool (c||e)) ?_ p;cases c
 .exact h ⟨rfl⟩ rfl
 .exact o ⟨rfl⟩ rfl
end groups
variable{qi:Option Nat}{j:Int}
theorem qG{x:AF}{q n i:Nat}{es row:Fq}{e:α->TV}{l:List α}{a:α}{t:TV}(h:x.ev O=.lp q qi (j.toNat*n+i))(o:O.x8 q qi=some (n,es))(he:es=l.map e)(p:∀a,(e a).cells.length=n)(u:idx l j=some a)(hi:Nat.blt i n=true)(w:(e a).cells=row)(A:row[i]?=some t)
  (B:WO S K os ((d,.tv t)::O)):WO S K (⟨some d,.xld x,none⟩::os) O:=jS h o he p u rfl hi w A B
theorem md{x:AF}{q n:Nat}{es row:Fq}{e:α->TV}{l:List α}{a:α}{t:TV}(h:x.ev O=.lp q qi (j.toNat*n))(o:O.x8 q qi=some (n,es))(he:es=l.map e)(p:∀a,(e a).cells.length=n)(u:idx l j=some a)(hi:Nat.blt 0 n=true)(w:(e a).cells=row)(A:row[0]?=some t)
  (B:WO S K os ((d,.tv t)::O)):WO S K (⟨some d,.xld x,none⟩::os) O:=jS (i:=0) h o he p u rfl hi w A B
theorem mf{γ:Type}{s:Nat}{v:AF}{q n i:Nat}{env':AB}{es:Fq}{e:α->TV}{g:γ->TV}{l:List α}{a:α}{b:γ}{f:α->γ->α}(_:HX s f)(h:(AF.s s).ev O=.lp q qi (j.toNat*n+i))(p:O.x8 q qi=some (n,es))(hv:v.ev O=.tv (g b))(he:es=l.map e)(u:∀a,(e a).cells.length=n)(w:idx l j=some a)(hi:Nat.blt i n=true)(A:(g b).cells=[g b])
  (B:(e (f a b)).cells=(e a).cells.set i (g b))(o:O.Aak q qi n ((BH l j (f a b)).map e)=env')(C:WO S K os env'):WO S K (⟨none,.xst (.s s) v 1,none⟩::os) O:=jT h p hv he u w rfl hi A B rfl o C
theorem me{x v:AF}{q n:Nat}{env':AB}{es:Fq}{e:α->TV}{l:List α}{a b:α}(h:x.ev O=.lp q qi (j.toNat*n))(p:O.x8 q qi=some (n,es))(hv:v.ev O=.tv (e b))(he:es=l.map e)(u:∀a,(e a).cells.length=n)(w:idx l j=some a)(hi:Nat.blt 0 n=true)(A:(e b).cells=[e b])
  (B:(e b).cells=(e a).cells.set 0 (e b))(o:O.Aak q qi n ((BH l j b).map e)=env')(C:WO S K os env'):WO S K (⟨none,.xst x v 1,none⟩::os) O:=jT (i:=0) h p hv he u w rfl hi A B rfl o C
end
end Go.Sf
namespace Go.Sf
section
variable{S:FuncId->Fq->An->Prop}{K:AB->Prop}{os:List PR}{O:AB}{d:Nat}
theorem sd{x:AF}{s o:Nat}{es:Fq}(h:x.ev O=.bp s o)(p:O.nat s o=some es)(k:WO S K os ((d,.nh s o .hd)::O)):WO S K (⟨some d,.lan x,none⟩::os) O:=by
 replace k:=k.out;refine⟨?_⟩;simp only[wpOps,PR.wp,AE.wp,h,p,AW];exact k
variable{j:Int}
theorem tF{α:Type}{x:AF}{s o:Nat}{es:Fq}{e:α->TV}{l:List α}{a:α}(h:x.ev O=.nh s o (.el j.toNat))(u:O.nat s o=some es)(he:es=l.map e)(w:idx l j=some a)(k:WO S K os ((d,.nh s o (.rw j.toNat))::O)):WO S K (⟨some d,.nld x,none⟩::os) O:=by
 replace k:=k.out;refine⟨?_⟩;subst he;obtain⟨B,C,A⟩:=GH w;have p:j.toNat<l.length:=(List.getElem?_eq_some_iff.1 A).1;simp only[wpOps,PR.wp,AE.wp,h,u,AW];exact⟨by simpa using p,k⟩
variable{fs:Fq}
theorem oi{q n:Nat}(h:O.get q=.xo n fs)(o:O.j0 d=true)(hd:d≠q)(k:WO S K os ((d,.x1 n fs)::(q,.undef)::O)):WO S K (⟨some d,.Abt q,none⟩::os) O:=by
 replace k:=k.out;refine⟨?_⟩;simp only[wpOps,PR.wp,AE.wp,h];exact⟨⟨o,hd⟩,k⟩
theorem oc{x:AF}{q s h:Nat}{cs cs':List AR}{es:Fq}(p:x.place O=some (s,h))(u:O.get q=.xn es)(w:O.get s=.bx cs)(A:O.noX s (some h)=true)(B:Nat.blt h cs.length=true)(o:cs.set h ⟨true,.xn es⟩=cs')(k:WO S K os ((s,.bx cs')::(q,.undef)::O)):WO S K (⟨none,.cpt x q,none⟩::os) O:=by
 replace k:=k.out;refine⟨?_⟩;subst o;simp only[wpOps,PR.wp,AE.wp,p,u,w];exact⟨A,Nat.le_of_ble_eq_true B,k⟩
theorem oZ{q:Nat}{cs:List AR}(h:O.get q=.oag cs)(o:O.j0 d=true)(hd:d≠q)(k:WO S K os ((d,.bx cs)::(q,.undef)::O)):WO S K (⟨some d,.AbE q,none⟩::os) O:=by
 replace k:=k.out;refine⟨?_⟩;simp only[wpOps,PR.wp,AE.wp,h];exact⟨⟨o,hd⟩,k⟩
theorem sf{s n:Nat}{cs cs':List AR}(h:O.get s=.bx cs)(o:Nat.beq cs.length n=true)(hd:d≠s)(p:(cs.map fun _=>(⟨false,.undef⟩:AR))=cs')(k:WO S K os ((d,.oag cs)::(s,.bx cs')::O)):WO S K (⟨some d,.ldg s n,none⟩::os) O:=by
 replace k:=k.out;refine⟨?_⟩;subst p;simp only[wpOps,PR.wp,AE.wp,h];exact⟨Nat.eq_of_beq_eq_true o,hd,k⟩
theorem tM{x v:AF}{s h n:Nat}{p:List (Option AR)}{t:TV}{cs ds cs':List AR}(u:x.place O=some (s,h))(hv:v.val O=some t)(w:O.get s=.bx cs)(A:DL p t.cells=some ds)(B:Nat.beq t.cells.length n=true)(o:Nat.ble (h+n) cs.length=true)(C:O.noX s none=true)(D:cs.take h++ds++cs.drop (h+n)=cs')
  (k:WO S K os ((s,.bx cs')::O)):WO S K (⟨none,.stq n p x v,none⟩::os) O:=by
 replace k:=k.out;refine⟨?_⟩;subst D;simp only[wpOps,PR.wp,AE.wp,u,hv,w,A,AW];exact⟨Nat.eq_of_beq_eq_true B,Nat.le_of_ble_eq_true o,C,k⟩
variable{j2:Int}
theorem tH{α:Type}{x v:AF}{s o:Nat}{es:Fq}{env':AB}{e:List α->TV}{e2:α->TV}{l:List (List α)}{m:List α}{A b:α}{t:TV}(h:x.ev O=.nh s o (.rp j.toNat j2.toNat))(B:O.nat s o=some es)(hv:v.ev O=.tv t)(he:es=l.map e)(w:∀m,e m=.list 1 (m.map e2))(C:idx l j=some m)(D:idx m j2=some A)(E:t=e2 b)(F:t.cells=[t])(G:t.flat=true)
  (p:O.AbW s o ((BH l j (BH m j2 b)).map e)=env')(k:WO S K os env'):WO S K (⟨none,.nst x v,none⟩::os) O:=by
 replace k:=k.out;refine⟨?_⟩;subst he p E;obtain⟨J,L,H⟩:=GH C;obtain⟨m0,m1,I⟩:=GH D;have u:j2.toNat<m.length:=(List.getElem?_eq_some_iff.1 I).1;simp only[wpOps,PR.wp,AE.wp,h,B,hv,AW];refine⟨m.map e2,by rw[List.getElem?_map,H];simp[w],by simpa using u,F,G,?_⟩;have:(l.map e).set j.toNat (.list 1 ((m.map e2).set j2.toNat (e2 b)))=(BH l j (BH m j2 b)).map e:=by
  simp only[BH,List.map_set,w]
 rw [this];exact k
end
section
variable{P:Program}{K:AB->Prop}{os:List PR}{O:AB}{d:Nat}{α β γ ρ:Type}{f:FuncId}{args:List AF}{ts:Fq}{R:α->An}{x:Option α}{k:α->Option ρ}{r:ρ}
variable{j:Int}
theorem p0{x i:AF}{s o:Nat}{es:Fq}{e:α->TV}{l:List α}{ik:IntKind}{S:FuncId->Fq->An->Prop}(h:(idx l j).bind k=some r)(u:x.ev O=.nh s o .hd)(w:O.nat s o=some es)(hi:i.val O=some (.int ik j))(he:es=l.map e)
  (A:∀a,idx l j=some a->k a=some r->WO S K os ((d,.nh s o (.el j.toNat))::O)):WO S K (⟨some d,.nia x i,none⟩::os) O:=by
 obtain ⟨a,p,h⟩:=bind_some h;have B:=(A a p h).out;refine⟨?_⟩;subst he;obtain⟨D,F,E⟩:=GH p;have C:j.toNat<l.length:=(List.getElem?_eq_some_iff.1 E).1;simp only[wpOps,PR.wp,AE.wp,u,w,hi,AW];exact⟨D,by simp only[ca];omega,B⟩
variable{e2:α->TV}{j2:Int}
theorem p5{x i:AF}{s o:Nat}{es:Fq}{e:List α->TV}{l:List (List α)}{m:List α}{ik:IntKind}{S:FuncId->Fq->An->Prop}(h:(idx m j2).bind k=some r)(u:x.ev O=.nh s o (.rw j.toNat))(w:O.nat s o=some es)(hi:i.val O=some (.int ik j2))(he:es=l.map e)(A:∀m,e m=.list 1 (m.map e2))(B:idx l j=some m)
  (C:∀a,idx m j2=some a->k a=some r->WO S K os ((d,.nh s o (.rp j.toNat j2.toNat))::O)):WO S K (⟨some d,.nia x i,none⟩::os) O:=by
 obtain ⟨b,p,h⟩:=bind_some h;have D:=(C b p h).out;refine⟨?_⟩;subst he;obtain⟨H,I,F⟩:=GH B;obtain⟨m0,m1,G⟩:=GH p;have E:j2.toNat<m.length:=(List.getElem?_eq_some_iff.1 G).1;simp only[wpOps,PR.wp,AE.wp,u,w,hi,AW];exact⟨m0,m.map e2,by rw[List.getElem?_map,F];simp[A],by simp only[ca];omega,D⟩
theorem mI{mm q s o:Nat}{es fs:Fq}{cs cs':List AR}{n:Nat}{e:β->TV}{l:List β}{m:β}{k:List β->Option ρ}{S:FuncId->Fq->An->Prop}(h:(Ag l [m]).bind k=some r)(w:O.get mm=.nh s o .hd)(A:O.get q=.x1 n fs)(B:O.get s=.bx cs)(C:O.nat s o=some es)(he:es=l.map e)(hf:TV.list n fs=e m)(u:O.j0 d=true)(hd:d≠mm/\d≠q/\mm≠q)(D:cs.set o ⟨false,.undef⟩=cs')
  (E:∀a,Ag l [m]=some a->k a=some r->WO S K os ((d,.xn (a.map e))::(s,.bx cs')::(mm,.undef)::(q,.undef)::O)):WO S K (⟨some d,.Aa1 mm q,none⟩::os) O:=by
 obtain ⟨a,p,h⟩:=bind_some h;have G:=(E a p h).out;refine⟨?_⟩;subst he D;unfold Ag at p;split at p
 .rename_i F;cases p;simp only[wpOps,PR.wp,AE.wp,w,A,B,C,AW];refine⟨by simpa using F,⟨u,hd⟩,?_⟩;rw[hf];simpa[AB.put]using G
 .cases p
theorem e8{u:α->List β}{v:α->List γ}{w A:Nat}{p:β->TV}{e2:γ->TV}(h:x.bind k=some r)(c:Ct P x f ts R)(E:vals O args=some ts)(F:∀a,R a=.oag [⟨true,.list w ((u a).map p)⟩,⟨true,.list A ((v a).map e2)⟩])(G:∀a,(p a).flat=true)(H:∀a,(e2 a).flat=true)
  (I:∀a,x=some a->k a=some r->WO (AN P) K os ((d,.oag [⟨true,.xl w ((u a).map p)⟩,⟨true,.xl A ((v a).map e2)⟩])::O)):WO (AN P) K (⟨some d,.AaR f args,none⟩::os) O:=by
 obtain ⟨a,D,h⟩:=bind_some h;have C:=c.snd a D;rw[F]at C;have J:=(I a D h).out;have o:∀{τ:Type}(e:τ->TV)(l:List τ),(∀a,(e a).flat=true)->TV.Aah (l.map e)=true:=by
  intro τ e l he
  induction l with
  |nil=>rfl|cons a l L=>simp[TV.Aah,he,L]
 refine ⟨?_⟩;simp only[wpOps,PR.wp,AE.wp,E,AW];refine⟨_,C,fun c B=>?_,fun _=>J⟩;simp only[List.mem_cons,List.not_mem_nil,or_false]at B;rcases B with rfl|rfl
 .exact⟨_,_,rfl,o _ _ G⟩
 .exact⟨_,_,rfl,o _ _ H⟩
inductive NL:List AR->List AR->Prop
 |nil {xs:List AR}:xs=[]->NL xs []
 |cons {xs ys zs:List AR} {o:Bool} {t:TV}:xs=⟨o,t⟩::ys->NL ys zs->NL xs (⟨o,t⟩::zs)
theorem NL.eq{xs o:List AR}(h:NL xs o):xs=o:=by
 induction h with
 |nil h=>exact h|cons h _ p=>rw[h,p]
theorem qA{S:FuncId->Fq->An->Prop}{K:AB->Prop}{os:List PR}{O:AB}{n s h:Nat}{x v:AF}{cs cs':List AR}{t:TV}(o:x.place O=some (s,h))(p:O.get s=.bx cs)(hv:v.ev O=.tv t)(u:t.cells.length=n)(w:Nat.ble (h+n) cs.length=true)(A:NL (cs.take h++t.cells.map (⟨false,·⟩)++cs.drop (h+n)) cs')
  (k:WO S K os ((s,.bx cs')::O)):WO S K (⟨none,.st n x v,none⟩::os) O:=o5 o p hv u w A.eq k
theorem mc{S:FuncId->Fq->An->Prop}{K:AB->Prop}{os:List PR}{O:AB}{s h q:Nat}{x:AF}{cs cs':List AR}{t:TV}(o:x.place O=some (s,h))(p:O.get s=.bx cs)(hv:O.get q=.ow t)(u:q≠s)(w:Nat.blt h cs.length=true)(A:NL (cs.set h ⟨true,t⟩) cs')
  (k:WO S K os ((s,.bx cs')::(q,.tv t)::O)):WO S K (⟨none,.st 1 x (.s q),none⟩::os) O:=jR o p hv u w A.eq k
theorem Vi:∀(ts:List (Nat×Nat×TV))(done rest:Fq),Tl done.length ts=true->(HT ts).length<=rest.length->Ec (done++rest) ts=some (done++(HT ts++rest.drop (HT ts).length))
 |[],done,rest,_,h=>by simp[Ec,HT]|(i,n,t)::r,done,rest,p,h=>by
  simp only[Tl,up,Nat.beq_eq]at p;obtain⟨⟨rfl,o⟩,A⟩:=p;simp only[HT,cE]at h;have u:n<=rest.length:=by omega
  simp only[Ec];rw[ae ⟨o,by rw[cE];omega⟩];have w:done++rest=done++(rest.take n++rest.drop n):=by rw[List.take_append_drop]
  rw [w,SO t.cells done (rest.take n) (rest.drop n) (by rw[c7];omega),<-ci];rw[Vi r (done++t.cells) (rest.drop n) (by rw[cE,o];exact A) (by rw[List.length_drop];omega)];simp[HT,List.drop_drop,o]
inductive NT:Fq->Fq->Prop
 |nil {xs:Fq}:xs=[]->NT xs []
 |cons {xs ys zs:Fq} {t:TV}:xs=t::ys->NT ys zs->NT xs (t::zs)
theorem NT.eq{xs o:Fq}(h:NT xs o):xs=o:=by
 induction h with
 |nil h=>exact h|cons h _ p=>rw[h,p]
variable{zero:Fq}
theorem mN{S:FuncId->Fq->An->Prop}{K:AB->Prop}{os:List PR}{O:AB}{d:Nat}{parts:List (Nat×Nat×AF)}{ts:List (Nat×Nat×TV)}{cs:Fq}(h:F1 O parts=some ts)(o:Tl 0 ts=true)(p:Nat.ble (HT ts).length zero.length=true)(u:NT (HT ts++zero.drop (HT ts).length) cs)(k:WO S K os ((d,.tv (.agg cs))::O)):WO S K (⟨some d,.bld zero parts,none⟩::os) O:=
 Wv h (by have:=Vi ts [] zero o (Nat.le_of_ble_eq_true p);simpa using this) (by rw[u.eq]) k
structure HY{α A B C:Type}(n:Nat)(f:A->B->C->α)(g1:A->TV)(g2:B->TV)(g3:C->TV):Prop where
variable{qi:Option Nat}
theorem mg{S:FuncId->Fq->An->Prop}{K:AB->Prop}{os:List PR}{O:AB}{α A B C:Type}{f:A->B->C->α}{o:Nat}{v:AF}{q n:Nat}{env':AB}{es cs cs':Fq}{e:α->TV}{l:List α}{a:α}{E:A}{F:B}{G:C}{p:A->TV}{u:B->TV}{w:C->TV}(_:HY o f p u w)(h:(AF.s o).ev O=.lp q qi (j.toNat*n))(H:O.x8 q qi=some (n,es))(he:es=l.map e)(I:∀a,(e a).cells.length=n)(hv:v.ev O=.tv (.agg cs))(J:NT cs cs')(L:cs'=[p E,u F,w G])(hf:∀a b c,TV.agg [p a,u b,w c]=e (f a b c))(N:idx l j=some a)(U:Nat.blt 0 n=true)
  (D:O.Aak q qi n ((BH l j (f E F G)).map e)=env')(k:WO S K os env'):WO S K (⟨none,.xst (.s o) v n,none⟩::os) O:=jU h H (by rw[hv,J.eq,L,hf]) he I N U D k
theorem qH{S:FuncId->Fq->An->Prop}{α:Type}{x v:AF}{q n:Nat}{env':AB}{es:Fq}{e:α->TV}{l:List α}{a b:α}(h:x.ev O=.lp q qi (j.toNat*n))(p:O.x8 q qi=some (n,es))(he:es=l.map e)(u:∀a,(e a).cells.length=n)(hv:v.ev O=.tv (e b))(w:idx l j=some a)(A:Nat.blt 0 n=true)
  (o:O.Aak q qi n ((BH l j b).map e)=env')(k:WO S K os env'):WO S K (⟨none,.xst x v n,none⟩::os) O:=jU h p hv he u w A o k
theorem jc{i q:Nat}{cs:List AR}{o:Fq}{p:α->An}{e:α->EV}(h:x.bind k=some r)(c:Ct P x f o R)(hi:args[i]?=some (.s q))(B:O.get q=.oag cs)(hd:d≠q)(C:G2 O i args=some ts)(u:ts.set i (.agg (cs.map fun _=>.undef))=o)(D:∀a,R a=.ag cs i (p a))(he:∀a,(p a).aev=e a)
  (E:∀a,x=some a->k a=some r->WO (AN P) K os ((d,e a)::(q,.undef)::O)):WO (AN P) K (⟨some d,.AaX f args i,none⟩::os) O:=by
 obtain ⟨a,A,h⟩:=bind_some h;have w:=c.snd a A;rw[D]at w;have F:=(E a A h).out;refine⟨?_⟩;subst u;simp only[wpOps,PR.wp,AE.wp,hi,B,C,AW];refine⟨hd,p a,w,fun _=>?_⟩;rw[he];exact F
end
section
variable{S:FuncId->Fq->An->Prop}{K:AB->Prop}{os:List PR}{O:AB}{d:Nat}
theorem sz(k:∀b,WO S K os ((d,.mx (.mp b []))::O)):WO S K (⟨some d,.mkm,none⟩::os) O:=
 ⟨fun b=>(k b).out⟩
variable{kvs:BD}
theorem tC{s b:Nat}(h:O.get s=.mx (.mp b kvs))(k:WO S K os ((d,.tv (.AaO b))::O)):WO S K (⟨some d,.mvm s,none⟩::os) O:=by
 replace k:=k.out;refine⟨?_⟩;simp only[wpOps,PR.wp,AE.wp,h];exact k
variable{ky:Int×Int}
theorem s8{s b:Nat}{m x:AF}{t:TV}(h:O.get s=.mx (.mp b kvs))(o:m.val O=some (.AaO b))(p:x.val O=some t)(u:t.AbJ?=some ky)(k:WO S K os ((d,.tp [.int .i64 ((kvs.look ky).getD 0),.bool (kvs.look ky).isSome])::O)):WO S K (⟨some d,.mlk s m x,none⟩::os) O:=by
 replace k:=k.out;refine⟨?_⟩;simp only[wpOps,PR.wp,AE.wp,h,o,p,u,AW];exact⟨trivial,k⟩
theorem tB{s b:Nat}{m x v:AF}{t:TV}{n:Int}(h:O.get s=.mx (.mp b kvs))(o:m.val O=some (.AaO b))(p:x.val O=some t)(u:t.AbJ?=some ky)(hv:v.val O=some (.int .i64 n))(k:WO S K os ((s,.mx (.mp b (kvs.set ky n)))::O)):WO S K (⟨none,.mup s m x v,none⟩::os) O:=by
 replace k:=k.out;refine⟨?_⟩;simp only[wpOps,PR.wp,AE.wp,h,o,p,u,hv,AW];exact⟨trivial,k⟩
variable{todo:BD}
theorem sv{s:Nat}{p:(Int×Int)×Int}(h:O.get s=.mx (.mi (some p) todo))(k:WO S K os ((d,.tp [Oi p.1,.int .i64 p.2])::O)):WO S K (⟨some d,.men s,none⟩::os) O:=by
 replace k:=k.out;refine⟨?_⟩;simp only[wpOps,PR.wp,AE.wp,h];exact k
theorem eA{s b:Nat}{ts:Fq}(h:O.get s=.mx (.tm b kvs ts))(k:WO S K os ((d,.tp (.AaO b::ts))::O)):WO S K (⟨some d,.mvm s,none⟩::os) O:=by
 replace k:=k.out;refine⟨?_⟩;simp only[wpOps,PR.wp,AE.wp,h];exact k
theorem d9{s:Nat}{ts:Fq}(h:O.get s=.tp ts)(k:WO S K os ((d,.tp ts)::O)):WO S K (⟨some d,.mvm s,none⟩::os) O:=by
 replace k:=k.out;refine⟨?_⟩;simp only[wpOps,PR.wp,AE.wp,h];exact k
theorem jP{s b:Nat}{ts:Fq}{m:AF}(h:O.get s=.mx (.tm b kvs ts))(o:m.val O=some (.AaO b))(hd:d≠s)(k:WO S K os ((d,.mx (.mi none kvs))::(s,.undef)::O)):WO S K (⟨some d,.mrg s m,none⟩::os) O:=by
 replace k:=k.out;refine⟨?_⟩;simp only[wpOps,PR.wp,AE.wp,h,o];exact⟨⟨hd,trivial⟩,k⟩
theorem s9{s:Nat}{last:Option ((Int×Int)×Int)}(h:O.get s=.mx (.mi last todo))(hd:d≠s)(u:todo=[]->WO S K os ((d,.tp [.bool false])::O))(w:∀p o,todo.Perm (p::o)->WO S K os ((d,.tp [.bool true,Oi p.1,.int .i64 p.2])::(s,.mx (.mi (some p) o))::O)):WO S K (⟨some d,.mnx s,none⟩::os) O:=by
 refine ⟨?_⟩;simp only[wpOps,PR.wp,AE.wp,h];exact⟨hd,fun e=>(u e).out,fun p t A=>(w p t A).out⟩
theorem gX{f:FuncId}{args:List AF}{ts us:Fq}(hv:vals O args=some ts)(h:S f ts (.mpr kvs us))(k:∀b,WO S K os ((d,.mx (.tm b kvs us))::O)):WO S K (⟨some d,.AaV f args,none⟩::os) O:=by
 refine ⟨?_⟩;simp only[wpOps,PR.wp,AE.wp,hv,AW];exact .inr ⟨kvs,us,h,fun _ b=>(k b).out⟩
theorem gW{f:FuncId}{args:List AF}{ts us:Fq}(hv:vals O args=some ts)(h:S f ts (.tp us))(k:WO S K os ((d,.tp us)::O)):WO S K (⟨some d,.AaV f args,none⟩::os) O:=by
 refine ⟨?_⟩;simp only[wpOps,PR.wp,AE.wp,hv,AW];exact .inl ⟨us,h,fun _=>k.out⟩
theorem Jd{ss:Ne}{s:Nat}{r:AB}{m:MX}(h:O.get s=.mx m)(k:Kp O ss r):Kp O (s::ss) ((s,.mx m)::r):=L5 h k
theorem rl{ss:Ne}{s:Nat}{r:AB}{q:List (Nat×EV)}{m:MX}(h:look q s=none)(o:O.get s=.mx m)(k:Nm O q ss r):Nm O q (s::ss) ((s,.mx m)::r):=OE h o k
end
def L7(r:BD×Int):An:=if r.2=0 then .mpr r.1 [.int .i64 r.2]else .tp [.undef,.int .i64 r.2]
structure tZ(o:Nat):Prop where
variable{kvs:BD}
theorem kR{h:List RV}{O:AB}{e:Int}(he:(!decide (e=0))=true)(o:h.length≠1)(p:EI O h=some [.undef,.int .i64 e]):Bi h (L7 (kvs,e)) O:=by
 simp only[Bool.not_eq_true',decide_eq_false_iff_not]at he;simp only[L7,az he];exact⟨o,p⟩
theorem kS{s o b:Nat}{h:List RV}{O:AB}(_:tZ o)(p:O.get s=.tv (.AaO b))(u:O.get o=.mx (.mp b kvs))(w:h≠[])(A:EI O h=some [.int .i64 0]):Bi (.tmp s::h) (L7 (kvs,0)) O:=by
 simp only[L7,if_true,Bi];exact⟨w,⟨b,o,p,u⟩,A⟩
section
variable{P:Program}{α β:Type}{K:AB->Prop}{os:List PR}{O:AB}{d:Nat}{x:Option α}{k:α->Option β}{r:β}{f:FuncId}{args:List AF}{ts:Fq}{R:α->An}
theorem ez{i s:Nat}{cs:List AR}{q:α->Bool}{u v:α->List AR}{us:α->Fq}{e:α->EV}(h:x.bind k=some r)(c:Ct P x f ts R)(A:(args[i]?).bind (·.place O)=some (s,0))(B:O.get s=.bx cs)(C:O.noX s none=true)(hd:d≠s)(D:G2 O i args=some ts)(E:∀a,R a=.bo cs (if q a=true then u a else v a) i (us a))(he:∀a,EV.ofs (us a)=e a)
  (F:∀a,x=some a->q a=true->k a=some r->WO (AN P) K os ((d,e a)::(s,.bx (u a))::O))(G:∀a,x=some a->q a=false->k a=some r->WO (AN P) K os ((d,e a)::(s,.bx (v a))::O)):WO (AN P) K (⟨some d,.AaF f args i,none⟩::os) O:=by
 refine ZD h c A B C hd D E he (fun a o p=>?_);cases w:q a with
 |true=>rw[ae rfl];exact F a o w p|false=>rw[az (by simp)];exact G a o w p
end
section
variable{S:FuncId->Fq->An->Prop}{a b:PC}{O:AB}
variable{Q:Q}
theorem mQ{c:AF}{β:Type}{q:Bool}{u v:Option β}{r:β}(p:c.val O=some (.bool q))(h:(if q=true then u else v)=some r)(o:q=true)(k:u=some r->WP S a Q O):WP S (.cond c a b) Q O:=
 Ps p o (k (UT o h))
theorem mP{c:AF}{β:Type}{q:Bool}{u v:Option β}{r:β}(p:c.val O=some (.bool q))(h:(if q=true then u else v)=some r)(o:q=false)(k:v=some r->WP S b Q O):WP S (.cond c a b) Q O:=
 Pr p o (k (US o h))
end
end Go.Sf
set_option maxRecDepth 100000
namespace Go.Sf
theorem au{P:Prop}(p:P:=by
 repeat' (first
  |(show WO _ _ _ _;first
    |(apply N2;exact rfl)
    |(apply oh;exact rfl;exact rfl)
    |(apply se;exact rfl)
    |(apply RO;exact rfl;exact rfl)
    |(apply tQ;exact rfl)
    |(apply uh;exact rfl)
    |apply Lk
    |(apply jL;exact rfl)
    |(apply jK;exact rfl)
    |(apply d8;exact rfl;exact rfl)
    |(apply dx;exact rfl)
    |(apply rN;exact rfl;assumption)
    |(apply nB;exact rfl;assumption)
    |(apply uN;exact rfl)
    |(apply lq;exact rfl;assumption;exact rfl)
    |(apply ln;exact rfl;assumption;exact rfl)
    |(apply sV;exact rfl;exact rfl)
    |(apply sq;exact rfl;exact rfl)
    |(apply sN;exact rfl;exact rfl)
    |(apply bR;exact rfl;exact rfl)
    |(apply sn;exact rfl;exact rfl)
    |(apply tO;exact rfl;exact rfl)
    |(apply sZ;exact rfl;exact rfl)
    |(apply sY;exact rfl;exact rfl)
    |(apply dy;exact rfl;exact rfl)
    |(apply sj;exact rfl;(first|exact rfl|exact Ml.eq))
    |(apply pu;exact h;exact rfl;exact rfl;(first|exact rfl|exact Ml.eq);intro x o h)
    |(apply mO;exact h;infer_instance;exact rfl;exact fun _=>rfl;intro x o h)|(apply jn;exact h;infer_instance;exact rfl;exact fun _=>rfl;intro x o h)|(apply jo;assumption;exact h;infer_instance;exact rfl;exact fun _=>rfl;intro x o h)|(apply jm;exact h;infer_instance;exact rfl;exact fun _=>rfl;intro x o h)|(apply jq;exact h;infer_instance;exact rfl;exact fun _=>rfl;intro x o h)|(apply jh;exact h;infer_instance;exact rfl;exact fun _=>rfl;intro x o h)
    |(apply pk h (ho:=rfl);(focus ((repeat(first|apply GS.step|(apply GS.Ab5;exact rfl)));exact GS.done));exact rfl;exact rfl;intro v B C h;rotate_left;intro v B C h;rotate_left;intro v h;rotate_left)
    |(apply pj h (ho:=rfl);(focus ((repeat(first|apply GS.step|(apply GS.Ab5;exact rfl)));exact GS.done));exact rfl;exact rfl;intro v B C h;rotate_left;intro v B C h;rotate_left;intro v h;rotate_left)
    |(apply pi rfl;(focus ((repeat(first|apply GS.step|(apply GS.Ab5;exact rfl)));exact GS.done));exact rfl;exact rfl;intro B C;rotate_left;intro B C;rotate_left 3)
    |(apply ph rfl;(focus ((repeat(first|apply GS.step|(apply GS.Ab5;exact rfl)));exact GS.done));exact rfl;exact rfl;intro B C;rotate_left;intro B C;rotate_left 3)
    |apply mT
    |apply oo
    |(apply mJ;exact h;exact rfl;exact rfl;(first|exact rfl|exact Ml.eq);(first|exact rfl|exact Ml.eq);infer_instance;intro x o h)
    |(apply pW;exact h;exact rfl;exact rfl;(first|exact rfl|exact Ml.eq);(first|exact rfl|exact Ml.eq);intro x o h)
    |(apply mX;exact rfl;(focus ((repeat(apply Lm.cons;exact rfl));exact Lm.nil));exact fun _=>rfl;infer_instance)|(apply mW;exact rfl;(focus ((repeat(apply Lm.cons;exact rfl));exact Lm.nil));exact fun _=>rfl)
    |(apply py;exact rfl;exact rfl)
    |(apply px;(with_reducible exact h);infer_instance;exact rfl;exact rfl;exact rfl;intro x o h)
    |(apply im;exact rfl;exact rfl;exact rfl)
    |(apply pw;exact rfl;exact rfl;exact rfl;exact rfl)
    |(apply jN;exact rfl;exact rfl;exact rfl)
    |(apply mV;exact rfl;exact rfl;exact rfl)
    |(apply Ww;exact rfl;exact rfl;exact rfl)
    |(apply mb;exact rfl;exact rfl;exact rfl;exact rfl)
    |(apply jQ;exact rfl;exact rfl;exact rfl;exact rfl;exact rfl)
    |(apply o6;exact rfl;exact rfl;decide;exact rfl;exact rfl)
    |(apply qA;exact rfl;exact rfl;exact rfl;exact rfl;exact rfl;(focus ((repeat(apply NL.cons;exact rfl));exact NL.nil rfl)))
    |(apply mc;exact rfl;exact rfl;exact rfl;decide;exact rfl;(focus ((repeat(apply NL.cons;exact rfl));exact NL.nil rfl)))
    |(apply o5;exact rfl;exact rfl;exact rfl;exact rfl;exact rfl;exact rfl)
    |(apply jR;exact rfl;exact rfl;exact rfl;decide;exact rfl;exact rfl)
    |(apply sg;exact rfl;exact rfl;exact rfl;exact rfl;exact rfl)
    |(apply mM;(with_reducible exact h);infer_instance;exact rfl;exact rfl;exact rfl;intro x o h)
    |(apply oW;exact rfl;exact rfl;exact rfl;exact rfl)
    |(apply mN;exact rfl;exact rfl;exact rfl;(focus ((repeat(apply NT.cons;exact rfl));exact NT.nil rfl)))
    |(apply Wv;exact rfl;exact rfl;exact rfl)
    |(apply sQ;exact rfl)
    |(apply jp;exact h;infer_instance;exact rfl;exact rfl;exact rfl;exact fun _=>rfl;intro x o h)|(apply fD;exact h;infer_instance;exact rfl;exact rfl;exact rfl;exact fun _=>rfl;intro x o h)|(apply fC;exact h;infer_instance;exact rfl;exact rfl;exact rfl;exact fun _=>rfl;intro x o h)
    |(apply p9;exact h;exact rfl;(first|exact rfl|exact Ml.eq);exact rfl;exact rfl;intro x o h)
    |(apply oy;exact rfl)
    |(apply mZ;exact h;exact rfl;exact rfl;intro x o h)
    |(apply ma;exact h;exact rfl;exact rfl;exact rfl;intro x o h)
    |(apply tG;exact rfl)
    |(apply tA;exact rfl;exact rfl)
    |(apply su;exact rfl;exact rfl)
    |(apply sw;exact rfl;exact rfl)
    |(apply tE;exact rfl)
    |(apply sU;exact rfl)
    |(apply tD;exact rfl)
    |(apply sO;exact rfl)
    |(apply oa;exact rfl;exact rfl;exact rfl;exact rfl)
    |(apply ob;exact rfl;exact rfl;exact rfl)
    |(apply pf;exact rfl;infer_instance)
    |(apply od;exact rfl;exact rfl;exact rfl)
    |(apply lm;exact rfl;exact rfl;exact rfl)
    |(apply ov;exact rfl;exact rfl)
    |(apply oz;exact rfl;exact rfl)
    |(apply oV;exact rfl;exact rfl)
    |(apply oY;exact rfl;exact rfl)
    |(apply mE;exact rfl;exact rfl;infer_instance;exact rfl;exact rfl;exact rfl)
    |(apply mG;exact rfl;exact rfl;infer_instance;exact rfl;exact rfl;exact rfl)
    |refine mF rfl rfl rfl rfl rfl ?_
    |refine mH rfl rfl rfl rfl rfl ?_
    |(apply tS;exact rfl)
    |(apply ot;exact rfl)
    |(apply tR;exact rfl;exact rfl;decide)
    |(apply tJ;exact rfl;decide)
    |(apply o7;exact rfl;(first|exact rfl|exact Ml.eq))
    |(apply qF;exact h;exact rfl;exact rfl;(first|exact rfl|exact Ml.eq);exact rfl;intro x o h)
    |(apply tT;exact rfl;exact rfl)
    |(apply md;exact rfl;exact rfl;exact rfl;exact fun _=>rfl;assumption;exact rfl;exact rfl;exact rfl)|(apply qG;exact rfl;exact rfl;exact rfl;exact fun _=>rfl;assumption;exact rfl;exact rfl;exact rfl)|(apply mf;assumption;exact rfl;exact rfl;exact rfl;exact rfl;exact fun _=>rfl;assumption;exact rfl;exact rfl;exact rfl;exact rfl)|(apply me;exact rfl;exact rfl;exact rfl;exact rfl;exact fun _=>rfl;assumption;exact rfl;exact rfl;exact rfl;exact rfl)|(apply mg;assumption;exact rfl;exact rfl;exact rfl;exact fun _=>rfl;exact rfl;(focus ((repeat(apply NT.cons;exact rfl));exact NT.nil rfl));exact rfl;exact fun _ _ _=>rfl;assumption;exact rfl;exact rfl)|(apply qH;exact rfl;exact rfl;exact rfl;exact fun _=>rfl;exact rfl;assumption;exact rfl;exact rfl)
    |(apply mK;exact h;exact rfl;exact rfl;(first|exact rfl|exact Ml.eq);(first|exact rfl|exact Ml.eq);exact rfl;decide;intro x o h)
    |(apply mL;exact h;exact rfl;exact rfl;exact rfl;exact rfl;exact rfl;decide;exact rfl;exact rfl;intro x o h)
    |(apply pY;exact h;exact rfl;exact rfl;exact rfl;exact rfl;decide;intro x o h)
    |(apply pz;exact h;exact rfl;exact rfl;exact rfl;intro x o h)
    |(apply jr;exact h;infer_instance;exact rfl;exact rfl;exact fun _=>rfl;intro x o h)|(apply fE;exact h;infer_instance;exact rfl;exact rfl;exact fun _=>rfl;exact fun _=>rfl;intro x o h)|(apply ji;exact h;infer_instance;exact rfl;exact fun _=>rfl;exact fun _=>rfl;intro x o h)|(apply fB;exact h;infer_instance;exact rfl;exact fun _=>rfl;exact fun _=>rfl;intro x o h)|(apply fA;exact h;infer_instance;exact rfl;exact fun _=>rfl;exact fun _=>rfl;intro x o h)|(apply jg;exact h;infer_instance;exact rfl;exact fun _=>rfl;intro x o h)|(apply ez;exact h;infer_instance;exact rfl;exact rfl;exact rfl;decide;exact rfl;exact fun _=>rfl;exact fun _=>rfl;intro x o C h;rotate_left;intro x o C h;rotate_left)|(apply ZD;exact h;infer_instance;exact rfl;exact rfl;exact rfl;decide;exact rfl;exact fun _=>rfl;exact fun _=>rfl;intro x o h)|(apply jk;exact h;infer_instance;exact rfl;exact rfl;exact fun _=>rfl;intro x o h)
    |(apply je;exact h;infer_instance;exact rfl;exact rfl;decide;exact rfl;intro x o h)
    |(apply jf;exact h;infer_instance;exact rfl;exact fun _=>rfl;intro x o h)
    |(apply p6;exact h;exact rfl;exact rfl;intro x o h)
    |(apply p7;exact h;exact rfl;exact rfl;intro x o h)
    |(apply pX;exact h;exact rfl;exact rfl;decide;intro x o h)
    |(apply mY;exact h;exact rfl;exact rfl;intro x o h)
    |(apply oe;exact rfl)
    |(apply sW;exact rfl;exact rfl)
    |(apply si;exact rfl;exact rfl;exact rfl)
    |(apply pv;exact h;exact rfl;(first|exact rfl|exact Ml.eq);intro u h)
    |(apply jM;exact rfl;exact rfl;intro z D;replace h:=jz h z D)
    |(apply sb;exact rfl;exact rfl)
    |(apply sS;exact rfl;exact rfl;exact rfl;exact rfl;exact rfl)
    |(apply sR;exact rfl;exact rfl;exact rfl;exact rfl;exact rfl;exact rfl)
    |(apply oX;decide;decide;exact rfl;exact rfl)
    |(apply oj;exact rfl)
    |(apply tN;exact rfl;exact rfl;decide;exact rfl;exact rfl;exact rfl;exact rfl)
    |(apply oS;exact rfl;exact rfl;exact rfl)
    |(apply sd;exact rfl;exact rfl)
    |(apply p0;exact h;exact rfl;exact rfl;exact rfl;(first|exact rfl|exact Ml.eq);intro x o h)
    |(apply tF;exact rfl;exact rfl;(first|exact rfl|exact Ml.eq);assumption)
    |(apply p5;exact h;exact rfl;exact rfl;exact rfl;(first|exact rfl|exact Ml.eq);exact fun _=>rfl;assumption;intro x o h)
    |(apply tH;exact rfl;exact rfl;exact rfl;(first|exact rfl|exact Ml.eq);exact fun _=>rfl;assumption;assumption;exact rfl;exact rfl;exact rfl;exact rfl)
    |(apply oi;exact rfl;exact rfl;decide)
    |(apply mI;exact h;exact rfl;exact rfl;exact rfl;exact rfl;(first|exact rfl|exact Ml.eq);exact rfl;exact rfl;decide;exact rfl;intro x o h)
    |(apply oc;exact rfl;exact rfl;exact rfl;exact rfl;exact rfl;exact rfl)
    |(apply oZ;exact rfl;exact rfl;decide)
    |(apply sf;exact rfl;exact rfl;decide;exact rfl)
    |(apply tM;exact rfl;exact rfl;exact rfl;exact rfl;exact rfl;exact rfl;exact rfl;exact rfl)
    |(apply e8;exact h;infer_instance;exact rfl;exact fun _=>rfl;exact fun _=>rfl;exact fun _=>rfl;intro x o h)|(apply jc;exact h;infer_instance;exact rfl;exact rfl;decide;exact rfl;exact rfl;exact fun _=>rfl;exact fun _=>rfl;intro x o h)
    |(apply sz;intro b;have K:=K b)
    |(apply tC;exact rfl)
    |(apply eA;exact rfl)
    |(apply d9;exact rfl)
    |(apply sv;exact rfl)
    |(apply jP;exact rfl;exact rfl;decide)
    |(apply s8;exact rfl;exact rfl;exact rfl;exact rfl)
    |(apply tB;exact rfl;exact rfl;exact rfl;exact rfl;exact rfl))
  |(show WP _ _ _ _;first
    |with_reducible apply pZ
    |apply JZ
    |apply N5
    |(apply mS;exact rfl)
    |(apply p8;exact rfl;exact rfl)
    |apply W7
    |apply aI
    |apply b9
    |(apply Ps;exact rfl;with_reducible rfl)
    |(apply Pr;exact rfl;with_reducible rfl)
    |(apply mU;exact rfl;exact h;assumption;exact rfl;intro w C h;rotate_left;intro w C h;rotate_left;intro w h;rotate_left)
    |(apply mQ;exact rfl;exact h;assumption;intro h)
    |(apply mP;exact rfl;exact h;assumption;intro h)
    |(apply mR;exact rfl;exact h;intro C h;rotate_left;intro C h;rotate_left)
    |(apply Ps;exact rfl;apply ur;assumption)
    |(apply Pr;exact rfl;apply uL;assumption)
    |(apply cA;assumption;exact h;exact A;(first|exact Rl rfl (by first|exact rfl|exact Ml.eq)|exact Rk rfl|exact O6 rfl rfl (by first|exact rfl|exact Ml.eq)|exact O5 rfl rfl|exact Ro rfl|exact Rm rfl (by first|exact rfl|exact Ml.eq)|exact Rr rfl rfl|exact Rp|exact Rj (by decide));exact rfl;exact rfl;exact fun _ _=>rfl;intro i s r hi h A;rotate_left;intro i s hi;clear h;rotate_left;intro s h;rotate_left)
    |(apply cA;apply HB.a;assumption;exact h;exact A;(first|exact Rl rfl (by first|exact rfl|exact Ml.eq)|exact Rk rfl|exact O6 rfl rfl (by first|exact rfl|exact Ml.eq)|exact O5 rfl rfl|exact Ro rfl|exact Rm rfl (by first|exact rfl|exact Ml.eq)|exact Rr rfl rfl|exact Rp|exact Rj (by decide));exact rfl;exact rfl;exact fun _ _=>rfl;intro i s r hi h A;rotate_left;intro i s hi;clear h;rotate_left;intro s h;rotate_left)
    |(apply cG;assumption;assumption;exact rfl;exact h;exact A;(first|exact Rl rfl (by first|exact rfl|exact Ml.eq)|exact Rk rfl|exact O6 rfl rfl (by first|exact rfl|exact Ml.eq)|exact O5 rfl rfl|exact Ro rfl|exact Rm rfl (by first|exact rfl|exact Ml.eq)|exact Rr rfl rfl|exact Rp|exact Rj (by decide));exact rfl;exact rfl;exact fun _ _=>rfl;intro i s r hi h A;rotate_left;intro i s hi;clear h;rotate_left;intro s h;rotate_left)
    |(apply cG;apply HB.a;assumption;assumption;exact rfl;exact h;exact A;(first|exact Rl rfl (by first|exact rfl|exact Ml.eq)|exact Rk rfl|exact O6 rfl rfl (by first|exact rfl|exact Ml.eq)|exact O5 rfl rfl|exact Ro rfl|exact Rm rfl (by first|exact rfl|exact Ml.eq)|exact Rr rfl rfl|exact Rp|exact Rj (by decide));exact rfl;exact rfl;exact fun _ _=>rfl;intro i s r hi h A;rotate_left;intro i s hi;clear h;rotate_left;intro s h;rotate_left)
    |(apply cF;assumption;exact h;exact A;(first|exact Rl rfl (by first|exact rfl|exact Ml.eq)|exact Rk rfl|exact O6 rfl rfl (by first|exact rfl|exact Ml.eq)|exact O5 rfl rfl|exact Ro rfl|exact Rm rfl (by first|exact rfl|exact Ml.eq)|exact Rr rfl rfl|exact Rp|exact Rj (by decide));exact rfl;exact rfl;exact fun _ _=>rfl;intro i s r hi h A;rotate_left;intro i s hi;clear h;rotate_left;intro s h;rotate_left)
    |(apply cF;apply HB.a;assumption;exact h;exact A;(first|exact Rl rfl (by first|exact rfl|exact Ml.eq)|exact Rk rfl|exact O6 rfl rfl (by first|exact rfl|exact Ml.eq)|exact O5 rfl rfl|exact Ro rfl|exact Rm rfl (by first|exact rfl|exact Ml.eq)|exact Rr rfl rfl|exact Rp|exact Rj (by decide));exact rfl;exact rfl;exact fun _ _=>rfl;intro i s r hi h A;rotate_left;intro i s hi;clear h;rotate_left;intro s h;rotate_left)
    |(apply cD;assumption;exact h;exact A;(first|exact Rl rfl (by first|exact rfl|exact Ml.eq)|exact Rk rfl|exact O6 rfl rfl (by first|exact rfl|exact Ml.eq)|exact O5 rfl rfl|exact Ro rfl|exact Rm rfl (by first|exact rfl|exact Ml.eq)|exact Rr rfl rfl|exact Rp|exact Rj (by decide));exact rfl;exact rfl;exact fun _ _=>rfl;intro i s r hi h A;rotate_left;intro i s hi;clear h;rotate_left;intro s h;rotate_left)
    |(apply cD;apply HB.a;assumption;exact h;exact A;(first|exact Rl rfl (by first|exact rfl|exact Ml.eq)|exact Rk rfl|exact O6 rfl rfl (by first|exact rfl|exact Ml.eq)|exact O5 rfl rfl|exact Ro rfl|exact Rm rfl (by first|exact rfl|exact Ml.eq)|exact Rr rfl rfl|exact Rp|exact Rj (by decide));exact rfl;exact rfl;exact fun _ _=>rfl;intro i s r hi h A;rotate_left;intro i s hi;clear h;rotate_left;intro s h;rotate_left)
    |(apply qE;assumption;assumption;exact rfl;exact h;exact rfl;exact rfl;intro s r h A;rotate_left;intro s h;rotate_left)
    |(apply qC;assumption;exact h;exact rfl;exact rfl;intro s r h A;rotate_left;intro s h;rotate_left)
    |(apply qB;assumption;exact h;exact rfl;exact rfl;intro s r h A;rotate_left;intro s h;rotate_left)
    |apply ZC
    |cases h)
  |(show Kp _ _ _;first
    |exact HV
    |(apply Jf;exact rfl)
    |(apply rV;exact rfl)
    |(apply Jc;exact rfl)
    |(apply rX;exact rfl)
    |(apply rT;exact rfl)
    |(apply Je;exact rfl)
    |(apply Jg;exact rfl)
    |(apply rU;exact rfl)
    |(apply rW;exact rfl)
    |(apply nP;exact rfl)
    |(apply Jd;exact rfl))
  |(show Nm _ _ _ _;first
    |exact nR
    |(apply nQ;exact rfl)
    |(apply rq;exact rfl;exact rfl)
    |(apply rm;exact rfl;exact rfl)
    |(apply rj;exact rfl;exact rfl)
    |(apply rt;exact rfl;exact rfl)
    |(apply ri;exact rfl;exact rfl)
    |(apply rn;exact rfl;exact rfl)
    |(apply rr;exact rfl;exact rfl)
    |(apply rk;exact rfl;exact rfl)
    |(apply rl;exact rfl;exact rfl))
  |apply kF
  |(apply fX;intro j)
  |apply kE
  |exact cd rfl
  |(cases h;exact cd rfl)
  |apply XN
  |(apply j9;decide)
  |intro A
  |(cases h;first|exact rfl|exact⟨rfl⟩|exact⟨rfl,rfl⟩|exact⟨_,rfl,rfl⟩|exact⟨_,rfl,⟨rfl⟩⟩|exact⟨rfl,_,rfl,⟨rfl⟩⟩|exact⟨by decide,rfl⟩|exact⟨_,rfl,by decide,rfl⟩|exact⟨_,rfl,rfl,rfl⟩|exact kS (by assumption) rfl rfl (by decide) rfl|exact⟨_,rfl,kR (by first|assumption|decide) (by decide) rfl⟩)
  |exact⟨rfl,⟨rfl⟩⟩)):P:=p
end Go.Sf
