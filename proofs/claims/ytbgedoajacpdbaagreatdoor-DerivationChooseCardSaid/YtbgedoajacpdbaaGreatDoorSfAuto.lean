/- Contracts that are found by themselves: rules that take the typed text along, and the script that applies them. -/
import Derived.Test.YtbgedoajacpdbaaGreatDoorSfK
import Derived.Test.YtbgedoajacpdbaaGreatDoorSfStep
import Derived.Test.YtbgedoajacpdbaaGreatDoorSfLib
set_option linter.all false
namespace Go.Sf
class Ct(P:Program){α:Type}(x:Option α)(f:outParam FuncId)(ts:outParam Fq)(R:outParam (α->Aq)):Prop where
 snd:∀r,x=some r->AN P f ts (R r)
class Ml(es:Fq){α:outParam Type}(e:outParam (α->TV))(l:outParam (List α)):Prop where
 eq:es=l.map e
class bj{α:Type}(e:α->TV)where
 un:Fq->α
 dec:∀a b,∃i:Decidable (a=b),Bz (e a).cells (e b).cells=some (@decide (a=b) i)
class Fz(cs:List AQ)(row:outParam Fq):Prop where
 h:cs.map (·.t)=row
instance(priority:=high){l:Fq}:Fz (l.map fun x=>(⟨false,x⟩:AQ)) l:=⟨by rw[List.map_map];exact List.map_id _⟩
instance(priority:=low){cs:List AQ}:Fz cs (cs.map (·.t)):=⟨rfl⟩
class En(α:Type)(e:outParam (α->TV)):Prop where
class Fl{α:Type}(e:α->TV)(n:outParam Nat)(f:outParam (List α->TV)):Prop where
 eq:∀l,f l=.list n (l.map e)
structure Kp(O:AB)(l:Ne)(r:AB):Prop where
 of::out:O.hV l=r
def look:List (Nat×EV)->Nat->Option EV
 |[],_=>none|(k,e)::r,n=>if k=n then some e else look r n
def mrg(O:AB)(m:List (Nat×EV)):Ne->AB
 |[]=>[]|s::ss=>(s,(look m s).getD (O.get s))::mrg O m ss
structure Nm(O:AB)(m:List (Nat×EV))(l:Ne)(r:AB):Prop where
 of::out:mrg O m l=r
structure Rn(a b:AB):Prop where
 of::out:a=b
structure HJ{σ:Type}(n:Nat)(M:σ->List (Nat×EV)):Prop where
structure HA{σ:Type}(n Dv q i:Nat)(M:Int->σ->List (Nat×EV)):Prop where
structure HB{σ:Type}(n Dv q i:Nat)(M:Int->σ->List (Nat×EV)):Prop where
theorem HB.a{σ:Type}{n Dv q i:Nat}{M:Int->σ->List (Nat×EV)}(_:HB n Dv q i M):HA n Dv q i M:=⟨⟩
structure HW{σ:Type}(n:Nat)(M:σ->List (Nat×EV)):Prop where
structure HR{β:Type}(R:β->AB->Prop):Prop where
structure HS(n:Nat):Prop where
structure HX{α γ:Type}(n:Nat)(f:α->γ->α):Prop where
structure br(g:Nat)(b q:Bool):Prop where
 of::out:q=b
structure Ww(g:Nat)(b q:Bool):Prop where
 of::out:q=!b
def KR(n:AB->Prop)(l:Ne):AB->Prop:=fun e=>n (e.hV l)
section
variable{O:AB}{s:Nat}{ss:Ne}{r:AB}{m:List (Nat×EV)}
theorem Hd:Kp O [] []:=⟨rfl⟩
theorem MA{e:EV}(h:O.get s=e)(k:Kp O ss r):Kp O (s::ss) ((s,e)::r):=⟨by rw[<-k.out,<-h];rfl⟩
theorem Jg{t:TV}(h:O.get s=.tv t)(k:Kp O ss r):Kp O (s::ss) ((s,.tv t)::r):=MA h k
theorem rV{t:TV}(h:O.get s=.ow t)(k:Kp O ss r):Kp O (s::ss) ((s,.ow t)::r):=MA h k
theorem Jd{t:List AQ}(h:O.get s=.bx t)(k:Kp O ss r):Kp O (s::ss) ((s,.bx t)::r):=MA h k
theorem rT{q o:Nat}(h:O.get s=.bp q o)(k:Kp O ss r):Kp O (s::ss) ((s,.bp q o)::r):=MA h k
theorem Jf{t:Fq}(h:O.get s=.tp t)(k:Kp O ss r):Kp O (s::ss) ((s,.tp t)::r):=MA h k
theorem Jh(h:O.get s=.undef)(k:Kp O ss r):Kp O (s::ss) ((s,.undef)::r):=MA h k
theorem rX{n:Nat}{t:Fq}(h:O.get s=.xo n t)(k:Kp O ss r):Kp O (s::ss) ((s,.xo n t)::r):=MA h k
theorem rU{q:Nat}{i:Option Nat}(h:O.get s=.la q i)(k:Kp O ss r):Kp O (s::ss) ((s,.la q i)::r):=MA h k
theorem rW(h:O.get s=.sk)(k:Kp O ss r):Kp O (s::ss) ((s,.sk)::r):=MA h k
theorem nM{t:List AQ}(h:O.get s=.oag t)(k:Kp O ss r):Kp O (s::ss) ((s,.oag t)::r):=MA h k
theorem nP:Nm O m [] []:=⟨rfl⟩
theorem nO{e:EV}(h:look m s=some e)(k:Nm O m ss r):Nm O m (s::ss) ((s,e)::r):=⟨by rw[<-k.out];simp only[mrg,h,Option.getD_some]⟩
theorem OK{e:EV}(h:look m s=none)(o:O.get s=e)(k:Nm O m ss r):Nm O m (s::ss) ((s,e)::r):=⟨by rw[<-k.out];simp only[mrg,h,o,Option.getD_none]⟩
theorem rq{t:TV}(h:look m s=none)(o:O.get s=.tv t)(k:Nm O m ss r):Nm O m (s::ss) ((s,.tv t)::r):=OK h o k
theorem rm{t:TV}(h:look m s=none)(o:O.get s=.ow t)(k:Nm O m ss r):Nm O m (s::ss) ((s,.ow t)::r):=OK h o k
theorem rj{t:List AQ}(h:look m s=none)(o:O.get s=.bx t)(k:Nm O m ss r):Nm O m (s::ss) ((s,.bx t)::r):=OK h o k
theorem ri{q o:Nat}(h:look m s=none)(p:O.get s=.bp q o)(k:Nm O m ss r):Nm O m (s::ss) ((s,.bp q o)::r):=OK h p k
theorem rn{t:Fq}(h:look m s=none)(o:O.get s=.tp t)(k:Nm O m ss r):Nm O m (s::ss) ((s,.tp t)::r):=OK h o k
theorem rr(h:look m s=none)(o:O.get s=.undef)(k:Nm O m ss r):Nm O m (s::ss) ((s,.undef)::r):=OK h o k
theorem rt{n:Nat}{t:Fq}(h:look m s=none)(o:O.get s=.xo n t)(k:Nm O m ss r):Nm O m (s::ss) ((s,.xo n t)::r):=OK h o k
theorem rk{q:Nat}{i:Option Nat}(h:look m s=none)(o:O.get s=.la q i)(k:Nm O m ss r):Nm O m (s::ss) ((s,.la q i)::r):=OK h o k
end
def PC.xl(i:Nat):PC->Option Ne
 |.exit j l=>if j=i then some l else none|.seq a b=>match a.xl i with
  |some l=>some l|none=>b.xl i
 |.cond _ a b=>match a.xl i with
  |some l=>some l|none=>b.xl i
 |.block _ a=>a.xl i|.loop _ a=>a.xl i|.rls _ a=>a.xl i|_=>none
def PC.last:PC->Option Ne
 |.region _ l=>some l|.draw _ _ l=>some l|.skip l=>some l|.exit _ l=>some l|.seq _ b=>b.last|.cond _ a _=>a.last|.block i (.loop _ b)=>b.xl i|.block _ c=>c.last|.rls _ c=>c.last|_=>none
section
variable{S:FuncId->Fq->Aq->Prop}{K:AB->Prop}{os:List PR}{O:AB}{d:Nat}
section code
variable{n t:AB->Prop}{x:Nat->AB->Prop}{a b:PC}{l:Ne}{env':AB}
theorem Lr(o:Kp O l env')(h:n env'):WO S (KR n l) [] O:=⟨by show n (O.hV l);rw[o.out];exact h⟩
theorem OA{ops:List PR}(h:WO S (KR n l) ops O):WP S (.region ops l) ⟨n,x,t⟩ O:=⟨h.out⟩
theorem mO{D:Ne}{ops:List PR}(hd:Pz O D=true)(h:WO S (KR n l) ops O):WP S (.draw D ops l) ⟨n,x,t⟩ O:=⟨hd,h.out⟩
theorem Ja(h:WP S a ⟨fun e=>(∀s,(e.get s).WF)->WP S b ⟨n,x,t⟩ e,x,t⟩ O):WP S (.seq a b) ⟨n,x,t⟩ O:=q9 h
theorem Wz(o:Kp O l env')(h:n env'):WP S (.skip l) ⟨n,x,t⟩ O:=mn o.out h
theorem aF(h:t O):WP S .ret ⟨n,x,t⟩ O:=⟨h⟩
theorem bv{i:Nat}(o:Kp O l env')(h:x i env'):WP S (.exit i l) ⟨n,x,t⟩ O:=ml o.out h
theorem p9{s:Nat}{cs cs':List AQ}{c:PC}{q:Q}(h:O.get s=.bx cs)(he:cs.map AQ.rel=cs')(k:WP S c q ((s,.bx cs')::O)):WP S (.rls s c) q O:=by
 refine ⟨?_⟩;subst he;simp only[PC.wp,h];exact k.out
theorem ZB{i:Nat}(h:WP S a ⟨n,fun j e=>if j=i then n e else x j e,t⟩ O):WP S (.block i a) ⟨n,x,t⟩ O:=U2 h
theorem pf{m:List (Nat×EV)}{e:AB}{q:Q}(he:Nm e m l env')(h:WP S a q env'):WP S a q (mrg e m l):=by rw[he.out];exact h
variable{Q:Q}
theorem mN{c:AF}{β:Type}{q:Bool}{u v:Option β}{r:β}(o:c.val O=some (.bool q))(h:(if q=true then u else v)=some r)(p:q=true->u=some r->WP S a Q O)(w:q=false->v=some r->WP S b Q O):WP S (.cond c a b) Q O:=
 T8 o (fun e=>p e (UT e h)) (fun e=>w e (US e h))
theorem mQ{σ β:Type}{i:Nat}{M:σ->List (Nat×EV)}{q:Bool}{u v:Option σ}{k:σ->Option β}{r:β}(p:(AF.s i).val O=some (.bool q))(h:((if q=true then u else v).bind k)=some r)(_:HJ i M)(_:(PC.cond (.s i) a b).last=some l)
  (A:∀w,q=true->u=some w->WP S a ⟨fun e=>Rn e (mrg O (M w) l),x,t⟩ O)(B:∀w,q=false->v=some w->WP S b ⟨fun e=>Rn e (mrg O (M w) l),x,t⟩ O)(C:∀w,k w=some r->n (mrg O (M w) l)):WP S (.cond (.s i) a b) ⟨n,x,t⟩ O:=by
 obtain ⟨w,o,h⟩:=bind_some h;refine q8 (fun e=>Rn e (mrg O (M w) l)) ?_ (fun e he=>by rw[he.out];exact C w h);exact T8 p (fun e=>A w e (UT e o)) (fun e=>B w e (US e o))
end code
structure Bd(O:AB)(q i:Nat)(b:Int):Prop where
 of::out:(∀s,(O.get s).WF)->b<=9223372036854775807
section bounds
variable{q i:Nat}{α:Type}{e:α->TV}{l:List α}{es row:Fq}{n:Nat}
theorem Rc{b:Int}(h:decide (b<=9223372036854775807)=true):Bd O q i b:=⟨fun _=>of_decide_eq_true h⟩
theorem Rh{b:Int}:Bd O q i (Ad b):=⟨fun _=>pR _⟩
theorem Re(h:O.get q=.tv (.list n es))(he:es=l.map e):Bd O q i l.length:=⟨fun o=>by have:=o q;rw[h]at this;exact Sz (Wt this) he⟩
theorem Rf(h:O.get q=.ow (.list n es))(he:es=l.map e):Bd O q i l.length:=⟨fun o=>by have:=o q;rw[h]at this;exact Sz (tU this) he⟩
theorem Ri(h:O.get q=.xo n es)(he:es=l.map e):Bd O q i l.length:=⟨fun o=>by have:=o q;rw[h]at this;exact Sz (tV this) he⟩
theorem Rg{b:ByteArray}(h:O.get q=.tv (.str b)):Bd O q i b.size:=⟨fun o=>by have:=o q;rw[h]at this;exact l3 (Wt this)⟩
theorem Rd{b:Int}(h:O.get q=.tv (.int .i64 b)):Bd O q i b:=⟨fun o=>by have:=o q;rw[h]at this;exact eX (Wt this)⟩
theorem PB(h:O.get q=.tv (.pt row))(o:row[i]?=some (.list n es))(he:es=l.map e):Bd O q i l.length:=⟨fun p=>by have:=p q;rw[h]at this;exact Sz (Z7 (jX this) o) he⟩
theorem PA{b:Int}(h:O.get q=.tv (.pt row))(o:row[i]?=some (.int .i64 b)):Bd O q i b:=⟨fun p=>by have:=p q;rw[h]at this;exact eX (Z7 (jX this) o)⟩
end bounds
section loops
variable{σ β ρ:Type}{n t:AB->Prop}{x:Nat->AB->Prop}{c:PC}{live jl:Ne}{i0 Dv q i1:Nat}{lo b:Int}{s0:σ}{r:β}{k:σ->Option β}
variable{M:Int->σ->List (Nat×EV)}
theorem pS(h:∀i s,(mrg O (M i s) live).get Dv=.tv (.int .i64 i)){i:Int}{s:σ}(o:∀k,((mrg O (M i s) live).get k).WF)(hi:i<b)(p:b<=9223372036854775807):Ad (i+1)=i+1:=by
 have:=o Dv;rw[h]at this;exact tW (Wt this) hi p
theorem bw{f:Int->σ->Option σ}(_:HA i0 Dv q i1 M)(h:(pr f lo b s0).bind k=some r)(p:∀s,(O.get s).WF)(u:Bd O q i1 b)(_:c.xl i0=some jl)(w:O.hV live=mrg O (M lo s0) live)(A:∀i s,(mrg O (M i s) live).get Dv=.tv (.int .i64 i))
  (B:∀i s r,i<b->f i s=some r->(∀k,((mrg O (M i s) live).get k).WF)->WP S c ⟨fun e=>Rn (e.hV live) (mrg O (M (Ad (i+1)) r) live),fun _ _=>False,fun _=>False⟩ (mrg O (M i s) live))
  (C:∀i s,¬i<b->WP S c ⟨fun _=>False,fun j e=>j=i0/\Rn e (mrg O (M 0 s) jl),fun _=>False⟩ (mrg O (M i s) live))
  (D:∀s,k s=some r->n (mrg O (M 0 s) jl)):WP S (.block i0 (.loop live c)) ⟨n,x,t⟩ O:=by
 obtain ⟨o,ho,h⟩:=bind_some h;have u:=u.out p;refine l4 ho (fun i s=>mrg O (M i s) live) (fun s=>mrg O (M 0 s) jl) w (fun i s r hi hf p=>⟨PC.pc S c _ _ (B i s r hi hf p).out _ (fun e he=>?_) (fun _ _ h=>h) (fun _ h=>h)⟩) (fun i s hi=>⟨PC.pc S c _ _ (C i s hi).out _ (fun _ h=>h) (fun j e h=>⟨h.1,h.2.out⟩) (fun _ h=>h)⟩) (D o h);have:=he.out;rw[pS A p hi u]at this;exact this
variable{kr:ρ->Option β}
theorem VC{f:Int->σ->Option (Bk σ ρ)}{R:ρ->AB->Prop}(h:ff (j4 f lo b s0) k kr=some r)(w:b<=9223372036854775807)(A:O.hV live=mrg O (M lo s0) live)(B:∀i s,(mrg O (M i s) live).get Dv=.tv (.int .i64 i))
  (C:∀i s r,i<b->f i s=some r->(∀k,((mrg O (M i s) live).get k).WF)->WP S c ⟨fun e=>∃s',r=.next s'/\Rn (e.hV live) (mrg O (M (Ad (i+1)) s') live),fun j e=>j=i0/\∃s',r=.brk s'/\Rn e (mrg O (M 0 s') jl),fun e=>∃v,r=.ret v/\R v e⟩ (mrg O (M i s) live))
  (D:∀i s,¬i<b->WP S c ⟨fun _=>False,fun j e=>j=i0/\Rn e (mrg O (M 0 s) jl),fun _=>False⟩ (mrg O (M i s) live))
  (E:∀s,k s=some r->n (mrg O (M 0 s) jl))(F:∀v e,kr v=some r->R v e->t e):WP S (.block i0 (.loop live c)) ⟨n,x,t⟩ O:=by
 obtain ⟨o,ho,h⟩:=Uy h;refine aA ho (fun i s=>mrg O (M i s) live) (fun s=>mrg O (M 0 s) jl) R A (fun i s r hi hf u=>⟨PC.pc S c _ _ (C i s r hi hf u).out _ (fun e he=>?_) (fun j e he=>?_) (fun _ h=>h)⟩) (fun i s hi=>⟨PC.pc S c _ _ (D i s hi).out _ (fun _ h=>h) (fun j e h=>⟨h.1,h.2.out⟩) (fun _ h=>h)⟩) (fun s G=>E s (Z1 h G)) (fun v e hv=>F v e (Z2 h hv))
 .obtain⟨s',p,e2⟩:=he;have e2:=e2.out;rw[pS B u hi w]at e2;exact⟨s',p,e2⟩
 .obtain⟨H,s',p,e2⟩:=he;exact⟨H,s',p,e2.out⟩
theorem b7{f:Int->σ->Option (Bk σ β)}{R:β->AB->Prop}(_:HA i0 Dv q i1 M)(_:HR R)(o:R r=t)(h:ff (j4 f lo b s0) k (fun v=>some v)=some r)(p:∀s,(O.get s).WF)(u:Bd O q i1 b)(_:c.xl i0=some jl)(w:O.hV live=mrg O (M lo s0) live)(A:∀i s,(mrg O (M i s) live).get Dv=.tv (.int .i64 i))
  (B:∀i s r,i<b->f i s=some r->(∀k,((mrg O (M i s) live).get k).WF)->WP S c ⟨fun e=>∃s',r=.next s'/\Rn (e.hV live) (mrg O (M (Ad (i+1)) s') live),fun j e=>j=i0/\∃s',r=.brk s'/\Rn e (mrg O (M 0 s') jl),fun e=>∃v,r=.ret v/\R v e⟩ (mrg O (M i s) live))
  (C:∀i s,¬i<b->WP S c ⟨fun _=>False,fun j e=>j=i0/\Rn e (mrg O (M 0 s) jl),fun _=>False⟩ (mrg O (M i s) live))
  (D:∀s,k s=some r->n (mrg O (M 0 s) jl)):WP S (.block i0 (.loop live c)) ⟨n,x,t⟩ O:=
 VC h (u.out p) w A B C D (fun v e hv E=>by cases hv;rw[<-o];exact E)
variable{τ:Type}
theorem b6{f:Int->σ->Option (Bk σ ρ)}{k:σ->Option (Bk τ ρ)}{r:Bk τ ρ}{R:ρ->AB->Prop}(_:HA i0 Dv q i1 M)(h:ff (j4 f lo b s0) k (fun v=>some (.ret v))=some r)(o:∀s,(O.get s).WF)(p:Bd O q i1 b)(_:c.xl i0=some jl)(u:O.hV live=mrg O (M lo s0) live)(w:∀i s,(mrg O (M i s) live).get Dv=.tv (.int .i64 i))
  (A:∀i s r,i<b->f i s=some r->(∀k,((mrg O (M i s) live).get k).WF)->WP S c ⟨fun e=>∃s',r=.next s'/\Rn (e.hV live) (mrg O (M (Ad (i+1)) s') live),fun j e=>j=i0/\∃s',r=.brk s'/\Rn e (mrg O (M 0 s') jl),fun e=>∃v,r=.ret v/\R v e⟩ (mrg O (M i s) live))
  (B:∀i s,¬i<b->WP S c ⟨fun _=>False,fun j e=>j=i0/\Rn e (mrg O (M 0 s) jl),fun _=>False⟩ (mrg O (M i s) live))
  (C:∀s,k s=some r->n (mrg O (M 0 s) jl)):WP S (.block i0 (.loop live c)) ⟨n,x,fun e=>∃v,r=.ret v/\R v e⟩ O:=
 VC h (p.out o) u w A B C (fun v e hv D=>by cases hv;exact⟨v,rfl,D⟩)
theorem bz{f:Int->σ->Option (Bk σ ρ)}(_:HA i0 Dv q i1 M)(h:ff (j4 f lo b s0) k (fun _=>none)=some r)(o:∀s,(O.get s).WF)(p:Bd O q i1 b)(_:c.xl i0=some jl)(u:O.hV live=mrg O (M lo s0) live)(w:∀i s,(mrg O (M i s) live).get Dv=.tv (.int .i64 i))
  (A:∀i s r,i<b->f i s=some r->(∀k,((mrg O (M i s) live).get k).WF)->WP S c ⟨fun e=>∃s',r=.next s'/\Rn (e.hV live) (mrg O (M (Ad (i+1)) s') live),fun j e=>j=i0/\∃s',r=.brk s'/\Rn e (mrg O (M 0 s') jl),fun _=>∃v,r=.ret v/\False⟩ (mrg O (M i s) live))
  (B:∀i s,¬i<b->WP S c ⟨fun _=>False,fun j e=>j=i0/\Rn e (mrg O (M 0 s) jl),fun _=>False⟩ (mrg O (M i s) live))
  (C:∀s,k s=some r->n (mrg O (M 0 s) jl)):WP S (.block i0 (.loop live c)) ⟨n,x,t⟩ O:=
 VC (R:=fun _ _=>False) h (p.out o) u w A B C (fun v e hv _=>by cases hv)
theorem Ye{f:σ->Option (Bk σ ρ)}{R:ρ->AB->Prop}{M:σ->List (Nat×EV)}(h:ff (EA f s0) k kr=some r)(u:O.hV live=mrg O (M s0) live)
  (w:∀s r,f s=some r->(∀k,((mrg O (M s) live).get k).WF)->WP S c ⟨fun e=>∃s',r=.next s'/\Rn (e.hV live) (mrg O (M s') live),fun j e=>j=i0/\∃s',r=.brk s'/\Rn e (mrg O (M s') jl),fun e=>∃v,r=.ret v/\R v e⟩ (mrg O (M s) live))
  (A:∀s,k s=some r->n (mrg O (M s) jl))(B:∀v e,kr v=some r->R v e->t e):WP S (.block i0 (.loop live c)) ⟨n,x,t⟩ O:=by
 obtain ⟨o,ho,h⟩:=Uy h;refine pW ho (fun s=>mrg O (M s) live) (fun s=>mrg O (M s) jl) R u (fun s r hf C=>⟨PC.pc S c _ _ (w s r hf C).out _ (fun e he=>?_) (fun j e he=>?_) (fun _ h=>h)⟩) (fun s D=>A s (Z1 h D)) (fun v e hv=>B v e (Z2 h hv))
 .obtain⟨s',p,e2⟩:=he;exact⟨s',p,e2.out⟩
 .obtain⟨E,s',p,e2⟩:=he;exact⟨E,s',p,e2.out⟩
theorem qF{f:σ->Option (Bk σ β)}{R:β->AB->Prop}{M:σ->List (Nat×EV)}(_:HW i0 M)(_:HR R)(o:R r=t)(h:ff (EA f s0) k (fun v=>some v)=some r)(_:c.xl i0=some jl)(p:O.hV live=mrg O (M s0) live)
  (u:∀s r,f s=some r->(∀k,((mrg O (M s) live).get k).WF)->WP S c ⟨fun e=>∃s',r=.next s'/\Rn (e.hV live) (mrg O (M s') live),fun j e=>j=i0/\∃s',r=.brk s'/\Rn e (mrg O (M s') jl),fun e=>∃v,r=.ret v/\R v e⟩ (mrg O (M s) live))
  (w:∀s,k s=some r->n (mrg O (M s) jl)):WP S (.block i0 (.loop live c)) ⟨n,x,t⟩ O:=
 Ye h p u w (fun v e hv A=>by cases hv;rw[<-o];exact A)
theorem qE{f:σ->Option (Bk σ ρ)}{k:σ->Option (Bk τ ρ)}{r:Bk τ ρ}{R:ρ->AB->Prop}{M:σ->List (Nat×EV)}(_:HW i0 M)(h:ff (EA f s0) k (fun v=>some (.ret v))=some r)(_:c.xl i0=some jl)(o:O.hV live=mrg O (M s0) live)
  (p:∀s r,f s=some r->(∀k,((mrg O (M s) live).get k).WF)->WP S c ⟨fun e=>∃s',r=.next s'/\Rn (e.hV live) (mrg O (M s') live),fun j e=>j=i0/\∃s',r=.brk s'/\Rn e (mrg O (M s') jl),fun e=>∃v,r=.ret v/\R v e⟩ (mrg O (M s) live))
  (u:∀s,k s=some r->n (mrg O (M s) jl)):WP S (.block i0 (.loop live c)) ⟨n,x,fun e=>∃v,r=.ret v/\R v e⟩ O:=
 Ye h o p u (fun v e hv w=>by cases hv;exact⟨v,rfl,w⟩)
theorem qC{f:σ->Option (Bk σ ρ)}{M:σ->List (Nat×EV)}(_:HW i0 M)(h:ff (EA f s0) k (fun _=>none)=some r)(_:c.xl i0=some jl)(o:O.hV live=mrg O (M s0) live)
  (p:∀s r,f s=some r->(∀k,((mrg O (M s) live).get k).WF)->WP S c ⟨fun e=>∃s',r=.next s'/\Rn (e.hV live) (mrg O (M s') live),fun j e=>j=i0/\∃s',r=.brk s'/\Rn e (mrg O (M s') jl),fun _=>∃v,r=.ret v/\False⟩ (mrg O (M s) live))
  (u:∀s,k s=some r->n (mrg O (M s) jl)):WP S (.block i0 (.loop live c)) ⟨n,x,t⟩ O:=
 Ye (R:=fun _ _=>False) h o p u (fun v e hv _=>by cases hv)
end loops
end
end Go.Sf
namespace Go.Sf
section
variable{P:Program}{S:FuncId->Fq->Aq->Prop}{K:AB->Prop}{os:List PR}{O:AB}{d:Nat}{α β:Type}{k:α->Option β}{r:β}
variable{j:Int}
theorem pv{n:Nat}{x i:AF}{es:Fq}{e:α->TV}{l:List α}{ik:IntKind}(h:(idx l j).bind k=some r)(p:x.val O=some (.list n es))(hi:i.val O=some (.int ik j))(he:es=l.map e)
  (u:∀a,idx l j=some a->k a=some r->WO S K os ((d,.tv (.pt (e a).cells))::O)):WO S K (⟨some d,.iad x i n,none⟩::os) O:=by
 obtain ⟨a,o,h⟩:=bind_some h;exact sZ p hi he o rfl (u a o h)
variable{ka kb:IntKind}
theorem qA{β:Type}{γ:Type}{k:List γ->Option β}{r:β}{n:Nat}{x:AF}{lo hi:Option AF}{es:Fq}{e:γ->TV}{l:List γ}{a b:Int}(h:(slc l a b).bind k=some r)(w:x.val O=some (.list n es))(he:es=l.map e)(o:Ez O 0 lo=some (.int ka a))(p:Ez O l.length hi=some (.int kb b))
  (A:∀m,slc l a b=some m->k m=some r->WO S K os ((d,.tv (.list n (m.map e)))::O)):WO S K (⟨some d,.slc n x lo hi,none⟩::os) O:=by
 obtain ⟨m,u,h⟩:=bind_some h;exact tK w he o p u (A m u h)
theorem mW{k:ByteArray->Option β}{x:AF}{lo hi:Option AF}{s:ByteArray}{a b:Int}(h:(AaH s a b).bind k=some r)(w:x.val O=some (.str s))(o:Ez O 0 lo=some (.int ka a))(p:Ez O s.size hi=some (.int kb b))
  (A:∀m,AaH s a b=some m->k m=some r->WO S K os ((d,.tv (.str m))::O)):WO S K (⟨some d,.AaH x lo hi,none⟩::os) O:=by
 obtain ⟨m,u,h⟩:=bind_some h;exact o6 w o p u (A m u h)
theorem mV{k:Int->Option β}{x i:AF}{s:ByteArray}{ik:IntKind}(h:(AaC s j).bind k=some r)(p:x.val O=some (.str s))(hi:i.val O=some (.int ik j))
  (u:∀b,AaC s j=some b->k b=some r->WO S K os ((d,.tv (.int .u8 b))::O)):WO S K (⟨some d,.AaC x i,none⟩::os) O:=by
 obtain ⟨b,o,h⟩:=bind_some h;exact oz p hi o (u b o h)
theorem pX{γ:Type}{k:List γ->Option β}{n s:Nat}{y:AF}{es fs:Fq}{e:γ->TV}{l m:List γ}(h:(Ah l m).bind k=some r)(p:O.get s=.ow (.list n es))(u:y.val O=some (.list n fs))(he:es=l.map e)(hf:fs=m.map e)
  (w:∀x,Ah l m=some x->k x=some r->WO S K os ((d,.ow (.list n (x.map e)))::(s,.tv (.list n es))::O)):WO S K (⟨some d,.app n (.s s) y,none⟩::os) O:=by
 obtain ⟨x,o,h⟩:=bind_some h;exact jG p u he hf o rfl (w x o h)
theorem mF{γ:Type}{k:List γ->Option β}{n s:Nat}{y:AF}{es fs:Fq}{e:γ->TV}{l m:List γ}{f:List γ->TV}(h:(Ah l m).bind k=some r)(p:O.get s=.ow (.list n es))(u:y.val O=some (.list n fs))(he:es=l.map e)(hf:fs=m.map e)(c:Fl e n f)
  (w:∀x,Ah l m=some x->k x=some r->WO S K os ((d,.ow (f x))::(s,.tv (.list n es))::O)):WO S K (⟨some d,.app n (.s s) y,none⟩::os) O:=by
 obtain ⟨x,o,h⟩:=bind_some h;have:=w x o h;rw[c.eq]at this;exact jG p u he hf o rfl this
theorem mG{γ:Type}{k:List γ->Option β}{n s:Nat}{y:AF}{es fs:Fq}{e:γ->TV}{l m:List γ}(h:(Ah l m).bind k=some r)(p:O.get s=.xo n es)(u:y.val O=some (.list n fs))(he:es=l.map e)(hf:fs=m.map e)(w:O.jj d=true)(hd:d≠s)
  (A:∀x,Ah l m=some x->k x=some r->WO S K os ((d,.xo n (x.map e))::(s,.undef)::O)):WO S K (⟨some d,.Abh n s y,none⟩::os) O:=by
 obtain ⟨x,o,h⟩:=bind_some h;exact oV p u he hf o rfl w hd (A x o h)
theorem mH{γ:Type}{k:List γ->Option β}{n s:Nat}{o:TV}{x:AF}{es:Fq}{e:γ->TV}{z:γ}{l:List γ}{ik:IntKind}(h:(TJ l j z).bind k=some r)(w:O.get s=.xo n es)(A:x.val O=some (.int ik j))(he:es=l.map e)(B:o=e z)(C:O.jj d=true)(hd:d≠s)(p:n=1)(D:o.cells=[o])
  (E:∀m,TJ l j z=some m->k m=some r->WO S K os ((d,.xo n (m.map e))::(s,.undef)::O)):WO S K (⟨some d,.Abj n s o x,none⟩::os) O:=by
 obtain ⟨m,u,h⟩:=bind_some h;exact oW w A he B u rfl C hd p D (E m u h)
theorem pZ{γ:Type}{k:List γ->Option β}{n s:Nat}{hi:AF}{es:Fq}{e:γ->TV}{l:List γ}{ik:IntKind}(h:(slc l 0 j).bind k=some r)(p:O.get s=.xo n es)(u:hi.val O=some (.int ik j))(he:es=l.map e)(w:O.jj d=true)(hd:d≠s)
  (A:∀m,slc l 0 j=some m->k m=some r->WO S K os ((d,.xo n (m.map e))::(s,.undef)::O)):WO S K (⟨some d,.cut n s hi,none⟩::os) O:=by
 obtain ⟨m,o,h⟩:=bind_some h;exact sS p u he o rfl w hd (A m o h)
variable{zero:Fq}
theorem p0{γ:Type}{k:List γ->Option β}{n:Nat}{x:AF}{ik:IntKind}{e:γ->TV}{z:γ}(h:(GW j z).bind k=some r)(p:O.jj d=true)(u:x.val O=some (.int ik j))(w:(match zero with|[t]=>t|ts=>.agg ts)=e z)
  (A:∀m,GW j z=some m->k m=some r->WO S K os ((d,.xo n (m.map e))::O)):WO S K (⟨some d,.mkx n zero x,none⟩::os) O:=by
 obtain ⟨m,o,h⟩:=bind_some h;exact sz p u w o rfl (A m o h)
variable{qi:Option Nat}
theorem qG{x i:AF}{q n:Nat}{es:Fq}{e:α->TV}{l:List α}{ik:IntKind}(h:(idx l j).bind k=some r)(p:x.Aaa O=some ((q,qi),n,es))(hi:i.val O=some (.int ik j))(he:es=l.map e)(u:(x.ev O).ref=some q)
  (w:∀a,idx l j=some a->k a=some r->WO S K os ((d,.lp q qi (j.toNat*n))::O)):WO S K (⟨some d,.xia x i n,none⟩::os) O:=by
 obtain ⟨a,o,h⟩:=bind_some h;exact tT p hi he o u (w a o h)
section ints
variable{k:Int->Option β}{x y:AF}{ik:IntKind}{a b:Int}
theorem p7(h:(quo a b).bind k=some r)(p:x.val O=some (.int ik a))(u:y.val O=some (.int ik b))(w:∀q,quo a b=some q->k q=some r->WO S K os ((d,.tv (.int ik (ik.wrap q)))::O)):WO S K (⟨some d,.bin .i .quo x y,none⟩::os) O:=by
 obtain ⟨m,o,h⟩:=bind_some h;exact tH p u o (w m o h)
theorem p8(h:(Ut a b).bind k=some r)(p:x.val O=some (.int ik a))(u:y.val O=some (.int ik b))(w:∀q,Ut a b=some q->k q=some r->WO S K os ((d,.tv (.int ik q))::O)):WO S K (⟨some d,.bin .i .rem x y,none⟩::os) O:=by
 obtain ⟨m,o,h⟩:=bind_some h;exact tJ p u o (w m o h)
theorem pY{op:BinOp}{o:IntKind}(h:(Kg ik op a b).bind k=some r)(u:x.val O=some (.int ik a))(A:y.val O=some (.int o b))(B:ik=o\/op=.shl\/op=.shr)(C:∀q,Kg ik op a b=some q->k q=some r->WO S K os ((d,.tv (.int ik q))::O)):WO S K (⟨some d,.bin .w op x y,none⟩::os) O:=by
 obtain ⟨m,p,h⟩:=bind_some h;exact sO u A B p (C m p h)
end ints
theorem mU{k:ByteArray->Option β}{x y:AF}{u v:ByteArray}(h:(M2 u v).bind k=some r)(p:x.val O=some (.str u))(w:y.val O=some (.str v))(A:∀q,M2 u v=some q->k q=some r->WO S K os ((d,.tv (.str q))::O)):WO S K (⟨some d,.bin .s .add x y,none⟩::os) O:=by
 obtain ⟨m,o,h⟩:=bind_some h;exact ox p w o (A m o h)
theorem pw{k:Unit->Option β}{x:AF}{n:Nat}{es:Fq}{e:α->TV}{l:List α}(h:(TX l).bind k=some r)(o:x.val O=some (.list n es))(he:es=l.map e)(p:∀u,k u=some r->WO S K os ((d,.tv (.bool false))::O)):WO S K (⟨some d,.isn x,none⟩::os) O:=by
 obtain ⟨u,A,h⟩:=bind_some h;refine jJ o he fun b w=>?_;obtain rfl:=cc A w;exact p u h
theorem ii{x:AF}{n:Nat}{e:α->TV}{a:α}(h:A0 O (x.ev O)=some (e a).cells)(o:Nat.beq (e a).cells.length n=true)(p:TV.agg (e a).cells=e a)(u:WO S K os ((d,.tv (e a))::O)):WO S K (⟨some d,.lda x n,none⟩::os) O:=by
 have o:=Nat.eq_of_beq_eq_true o;exact Ws h (by rw[o];exact Nat.ble_self_eq_true n) (by rw[List.take_of_length_le (by omega),p]) u
theorem px{s n:Nat}{cs:List AQ}{e:α->TV}{a:α}(h:O.get s=.bx cs)(p:cs.map (·.t)=(e a).cells)(o:Nat.beq (e a).cells.length n=true)(u:TV.agg (e a).cells=e a)(w:WO S K os ((d,.tv (e a))::O)):WO S K (⟨some d,.ldb s n,none⟩::os) O:=by
 have o:=Nat.eq_of_beq_eq_true o;exact jK h (by rw[p,o];exact Nat.ble_self_eq_true n) (by rw[p,List.take_of_length_le (by omega),u]) w
theorem mX{n s:Nat}{v:AF}{cs:List AQ}{t:TV}(o:O.get s=.bx cs)(hv:v.ev O=.tv t)(p:t.cells.length=n)(h:Nat.beq n cs.length=true)(u:WO S K os ((s,.bx (t.cells.map (⟨false,·⟩)))::O)):WO S K (⟨none,.stb n s v,none⟩::os) O:=by
 have h:=Nat.eq_of_beq_eq_true h;refine jN o hv p (by rw[Nat.zero_add,h];exact Nat.ble_self_eq_true _) ?_ u;rw[List.take_zero,Nat.zero_add,h,List.drop_length,List.append_nil,List.nil_append]
theorem mR{x:AF}{n:Nat}{e:α->TV}{a:α}(h:A0 O (x.ev O)=some (((e a).cells.map fun t=>(⟨false,t⟩:AQ)).map (·.t)))(o:Nat.beq (e a).cells.length n=true)(p:TV.agg (e a).cells=e a)(u:WO S K os ((d,.tv (e a))::O)):WO S K (⟨some d,.lda x n,none⟩::os) O:=
 ii (by rw[h,List.map_map];congr 1;exact List.map_id _) o p u
def aH(n:Nat):Fq->Bool
 |[]=>true|t::ts=>Nat.beq t.cells.length n&&aH n ts
theorem XB{n:Nat}:∀{ts:Fq},aH n ts=true->∀t∈ts,t.cells.length=n
 |[],_,_,h=>by cases h
 |t::ts,h,u,o=>by
  simp only[aH,tg]at h;rcases List.mem_cons.1 o with rfl|o
  .exact Nat.eq_of_beq_eq_true h.1
  .exact XB h.2 u o
variable{parts:List AF}
theorem pz{n:Nat}{ts:Fq}(h:vals O parts=some ts)(o:aH n ts=true)(p:WO S K os ((d,.ow (.list n ts))::O)):WO S K (⟨some d,.lst n parts,none⟩::os) O:=by
 have:=p.out;refine⟨?_⟩;simp only[wpOps,PR.wp,AE.wp,h,AV];exact⟨XB o,this⟩
variable{zero:Fq}
theorem mI{parts:List (Nat×Nat×AF)}{ts:List (Nat×Nat×TV)}{cs:Fq}{e:α->TV}{a:α}(h:(some a).bind k=some r)(_:En α e)(o:F5 O parts=some ts)(p:Ec zero ts=some cs)(he:TV.agg cs=e a)(u:∀x,x=a->k x=some r->WO S K os ((d,.tv (e x))::O)):WO S K (⟨some d,.bld zero parts,none⟩::os) O:=by
 rw [Option.bind_some]at h;exact Wr o p he (u a rfl h)
theorem py{x:AF}{n:Nat}{cs:Fq}{e:α->TV}{a:α}(h:(some a).bind k=some r)(_:En α e)(o:A0 O (x.ev O)=some cs)(p:Nat.ble n cs.length=true)(he:TV.agg (cs.take n)=e a)(u:∀x,x=a->k x=some r->WO S K os ((d,.tv (e x))::O)):WO S K (⟨some d,.lda x n,none⟩::os) O:=by
 rw [Option.bind_some]at h;exact Ws o p he (u a rfl h)
inductive Lm{α:Type}(e:α->TV):Fq->List α->Prop
 |nil:Lm e [] []
 |cons {t:TV} {ts:Fq} {a:α} {l:List α}:t=e a->Lm e ts l->Lm e (t::ts) (a::l)
theorem Lm.eq{e:α->TV}{ts:Fq}{l:List α}(h:Lm e ts l):ts=l.map e:=by
 induction h with
 |nil=>rfl|cons h _ o=>rw[h,o];rfl
theorem mS{n:Nat}{ts:Fq}{e:α->TV}{l:List α}(h:vals O parts=some ts)(o:Lm e ts l)(p:∀a,(e a).cells.length=n)(u:WO S K os ((d,.ow (.list n (l.map e)))::O)):WO S K (⟨some d,.lst n parts,none⟩::os) O:=jL h o.eq p u
theorem mT{n:Nat}{ts:Fq}{e:α->TV}{l:List α}{f:List α->TV}(h:vals O parts=some ts)(p:Lm e ts l)(u:∀a,(e a).cells.length=n)(c:Fl e n f)(o:WO S K os ((d,.ow (f l))::O)):WO S K (⟨some d,.lst n parts,none⟩::os) O:=by
 rw [c.eq]at o;exact jL h p.eq u o
theorem mA{e:α->TV}{n:Ne}{x y:AF}{a:α}{cs:Fq}(o:x.val O=some (e a))(p:y.val O=some (.agg cs))[c:bj e][i:Decidable (a=c.un cs)](u:TV.agg (e a).cells=e a)(w:(e (c.un cs)).cells=cs)(A:(e a).cells.map TV.kd=n)(B:WO S K os ((d,.tv (.bool (decide (a=c.un cs))))::O)):WO S K (⟨some d,.bin (.a n) .eql x y,none⟩::os) O:=by
 obtain ⟨C,h⟩:=c.dec a (c.un cs);have:i=C:=Subsingleton.elim _ _;subst this;rw[<-u]at o;rw[w]at h;exact de o p A h B
theorem mC{e:α->TV}{n:Ne}{x y:AF}{a:α}{cs:Fq}(o:x.val O=some (e a))(p:y.val O=some (.agg cs))[c:bj e][i:Decidable (a=c.un cs)](u:TV.agg (e a).cells=e a)(w:(e (c.un cs)).cells=cs)(A:(e a).cells.map TV.kd=n)(B:WO S K os ((d,.tv (.bool (!decide (a=c.un cs))))::O)):WO S K (⟨some d,.bin (.a n) .neq x y,none⟩::os) O:=by
 obtain ⟨C,h⟩:=c.dec a (c.un cs);have:i=C:=Subsingleton.elim _ _;subst this;rw[<-u]at o;rw[w]at h;exact df o p A h B
theorem l9{e:α->TV}{n:Ne}{x y:AF}{a b:α}{i:Decidable (a=b)}(o:x.val O=some (e a))(p:y.val O=some (e b))(c:bj e)(u:TV.agg (e a).cells=e a)(w:TV.agg (e b).cells=e b)(A:(e a).cells.map TV.kd=n)(B:WO S K os ((d,.tv (.bool (decide (a=b))))::O)):WO S K (⟨some d,.bin (.a n) .eql x y,none⟩::os) O:=by
 obtain ⟨C,h⟩:=c.dec a b;have:i=C:=Subsingleton.elim _ _;subst this;rw[<-u]at o;rw[<-w]at p;exact de o p A h B
theorem mB{e:α->TV}{n:Ne}{x y:AF}{a b:α}{i:Decidable (a=b)}(o:x.val O=some (e a))(p:y.val O=some (e b))(c:bj e)(u:TV.agg (e a).cells=e a)(w:TV.agg (e b).cells=e b)(A:(e a).cells.map TV.kd=n)(B:WO S K os ((d,.tv (.bool (!decide (a=b))))::O)):WO S K (⟨some d,.bin (.a n) .neq x y,none⟩::os) O:=by
 obtain ⟨C,h⟩:=c.dec a b;have:i=C:=Subsingleton.elim _ _;subst this;rw[<-u]at o;rw[<-w]at p;exact df o p A h B
section calls
variable{x:Option α}{f:FuncId}{ts:Fq}{R:α->Aq}{args:List AF}
theorem ph{s:Nat}{cs:List AQ}{row:Fq}(o:O.get s=.bx cs)(f:Fz cs row)(k:WO S K os ((s,.tv (.pt row))::O)):WO S K (⟨none,.frz s,none⟩::os) O:=sW o f.h k
theorem mK{t:α->TV}(h:x.bind k=some r)(c:Ct P x f ts R)(p:vals O args=some ts)(u:∀a,R a=.sh (t a))(w:∀a,x=some a->k a=some r->WO (AN P) K os ((d,.tv (t a))::O)):WO (AN P) K (⟨some d,.call f args,none⟩::os) O:=by
 obtain ⟨a,o,h⟩:=bind_some h;have:=c.snd a o;rw[u]at this;exact di p this (w a o h)
theorem ji{t:α->TV}(h:x.bind k=some r)(c:Ct P x f ts R)(p:vals O args=some ts)(u:∀a,R a=.own (t a))(w:∀a,x=some a->k a=some r->WO (AN P) K os ((d,.ow (t a))::O)):WO (AN P) K (⟨some d,.call f args,none⟩::os) O:=by
 obtain ⟨a,o,h⟩:=bind_some h;have:=c.snd a o;rw[u]at this;exact lb p this (w a o h)
theorem jm{t:α->TV}(_:HS d)(h:x.bind k=some r)(c:Ct P x f ts R)(p:vals O args=some ts)(u:∀a,R a=.own (t a))(w:∀a,x=some a->k a=some r->WO (AN P) K os ((d,.tv (t a))::O)):WO (AN P) K (⟨some d,.call f args,none⟩::os) O:=by
 obtain ⟨a,o,h⟩:=bind_some h;have:=c.snd a o;rw[u]at this;exact di p (nT this) (w a o h)
theorem jo{n:Nat}{t:α->Fq}(h:x.bind k=some r)(c:Ct P x f ts R)(p:vals O args=some ts)(u:∀a,R a=.AaZ n (t a))(w:∀a,x=some a->k a=some r->WO (AN P) K os ((d,.ow (.list n (t a)))::O)):WO (AN P) K (⟨some d,.call f args,none⟩::os) O:=by
 obtain ⟨a,o,h⟩:=bind_some h;have:=c.snd a o;rw[u]at this;exact lg p this (w a o h)
theorem jk{t:α->Fq}(h:x.bind k=some r)(c:Ct P x f ts R)(p:vals O args=some ts)(u:∀a,R a=.tp (t a))(w:∀a,x=some a->k a=some r->WO (AN P) K os ((d,.tp (t a))::O)):WO (AN P) K (⟨some d,.call f args,none⟩::os) O:=by
 obtain ⟨a,o,h⟩:=bind_some h;have:=c.snd a o;rw[u]at this;exact lc p this (w a o h)
theorem jf{t:α->List AQ}(h:x.bind k=some r)(c:Ct P x f ts R)(p:vals O args=some ts)(u:∀a,R a=.oag (t a))(w:∀a,x=some a->k a=some r->WO (AN P) K os ((d,.tv (.agg ((t a).map fun c=>c.rel.t)))::O)):WO (AN P) K (⟨some d,.call f args,none⟩::os) O:=by
 obtain ⟨a,o,h⟩:=bind_some h;have:=c.snd a o;rw[u]at this;exact lW p this rfl (w a o h)
theorem je{t:α->List AQ}(h:x.bind k=some r)(c:Ct P x f ts R)(p:vals O args=some ts)(u:∀a,R a=.oag (t a))(w:∀a,x=some a->k a=some r->WO (AN P) K os ((d,.oag (t a))::O)):WO (AN P) K (⟨some d,.Aa1 f args,none⟩::os) O:=by
 obtain ⟨a,o,h⟩:=bind_some h;have:=c.snd a o;rw[u]at this;exact lV p this (w a o h)
theorem jp{n:Nat}{t:α->Fq}(h:x.bind k=some r)(c:Ct P x f ts R)(p:O.jj d=true)(u:vals O args=some ts)(w:∀a,R a=.AaZ n (t a))(A:∀a,x=some a->k a=some r->WO (AN P) K os ((d,.xo n (t a))::O)):WO (AN P) K (⟨some d,.AaL f args,none⟩::os) O:=by
 obtain ⟨a,o,h⟩:=bind_some h;have:=c.snd a o;rw[w]at this;exact lh p u this (A a o h)
theorem en{γ:Type}{k:List γ->Option β}{x:Option (List γ)}{R:List γ->Aq}{n:Nat}{e:γ->TV}(h:x.bind k=some r)(c:Ct P x f ts R)(p:O.jj d=true)(u:vals O args=some ts)(w:∀a,R a=.own (.list n (a.map e)))(hf:∀a,(e a).flat=true)(A:∀a,x=some a->k a=some r->WO (AN P) K os ((d,.xo n (a.map e))::O)):WO (AN P) K (⟨some d,.AaL f args,none⟩::os) O:=by
 obtain ⟨a,o,h⟩:=bind_some h;have:=c.snd a o;rw[w]at this;exact gV p u this rfl hf (A a o h)
theorem jg{t:α->TV}(h:x.bind k=some r)(c:Ct P x f ts R)(p:Aas O args=some ts)(u:∀a,R a=.sh (t a))(w:∀a,(t a).flat=true)(A:∀a,x=some a->k a=some r->WO (AN P) K os ((d,.tv (t a))::O)):WO (AN P) K (⟨some d,.AaI f args,none⟩::os) O:=by
 obtain ⟨a,o,h⟩:=bind_some h;have:=c.snd a o;rw[u]at this;exact lY p this (w a) (A a o h)
theorem ef{t:α->Fq}(h:x.bind k=some r)(c:Ct P x f ts R)(p:Aas O args=some ts)(u:∀a,R a=.tp (t a))(w:∀a,TV.Aag (t a)=true)(A:∀a,x=some a->k a=some r->WO (AN P) K os ((d,.tp (t a))::O)):WO (AN P) K (⟨some d,.AaI f args,none⟩::os) O:=by
 obtain ⟨a,o,h⟩:=bind_some h;have:=c.snd a o;rw[u]at this;exact gQ p this (w a) (A a o h)
theorem ee{γ:Type}{k:List γ->Option β}{x:Option (List γ)}{R:List γ->Aq}{n:Nat}{e:γ->TV}(h:x.bind k=some r)(c:Ct P x f ts R)(p:Aas O args=some ts)(u:∀a,R a=.own (.list n (a.map e)))(hf:∀a,(e a).flat=true)(w:∀a,x=some a->k a=some r->WO (AN P) K os ((d,.ow (.list n (a.map e)))::O)):WO (AN P) K (⟨some d,.AaI f args,none⟩::os) O:=by
 obtain ⟨a,o,h⟩:=bind_some h;have:=c.snd a o;rw[u]at this;exact gP p this rfl rfl hf (w a o h)
theorem jc{t:α->Fq}(h:x.bind k=some r)(c:Ct P x f ts R)(p:vals O args=some ts)(u:∀a,R a=.ext (t a))(w:∀a,x=some a->k a=some r->WO (AN P) K os ((d,.tp (t a))::O)):WO (AN P) K (⟨some d,.Aa3 f args,none⟩::os) O:=by
 obtain ⟨a,o,h⟩:=bind_some h;have:=c.snd a o;rw[u]at this;exact lU p this (w a o h)
theorem ZC{i s:Nat}{cs:List AQ}{cs':α->List AQ}{us:α->Fq}{e:α->EV}(h:x.bind k=some r)(c:Ct P x f ts R)(p:(args[i]?).bind (·.place O)=some (s,0))(u:O.get s=.bx cs)(w:O.noX s none=true)(hd:d≠s)(A:G5 O i args=some ts)(B:∀a,R a=.bo cs (cs' a) i (us a))(he:∀a,EV.ofs (us a)=e a)(C:∀a,x=some a->k a=some r->WO (AN P) K os ((d,e a)::(s,.bx (cs' a))::O)):WO (AN P) K (⟨some d,.AaE f args i,none⟩::os) O:=by
 obtain ⟨a,o,h⟩:=bind_some h;have:=c.snd a o;rw[B]at this;exact lQ p u w hd A this (he a) (C a o h)
variable{qi:Option Nat}
theorem jh{k:Fp->Option β}{f:FuncId}{x:AF}{q:Nat}{es:Fq}{l:Fp}{y:Option Fp}{env':Fp->AB}(h:y.bind k=some r)(c:Ct P y f [.list 1 (l.map (TV.int .i64))] Aq.turn)(p:x.Aaa O=some ((q,qi),1,es))(he:es=l.map (TV.int .i64))(hv:∀a,O.Aaj q qi 1 (a.map (TV.int .i64))=env' a)(u:∀a,y=some a->k a=some r->WO (AN P) K os ((d,.tp [])::env' a)):WO (AN P) K (⟨some d,.AaS f x,none⟩::os) O:=by
 obtain ⟨a,o,h⟩:=bind_some h;exact lZ p he rfl (c.snd a o) rfl (hv a) (u a o h)
theorem ja{k:Fp->Option β}{f:FuncId}{x:AF}{q:Nat}{es:Fq}{l:Fp}{y:Option Fp}(h:y.bind k=some r)(c:Ct P y f [.list 1 (l.map (TV.int .i64))] Aq.cut)(u:x.Aaa O=some ((q,none),1,es))(he:es=l.map (TV.int .i64))(o:q≠d)(w:O.jj d=true)(A:∀a,y=some a->k a=some r->WO (AN P) K os ((d,.xo 1 (a.map (TV.int .i64)))::(q,.undef)::O)):WO (AN P) K (⟨some d,.AaW f x,none⟩::os) O:=by
 obtain ⟨a,p,h⟩:=bind_some h;exact lR u he rfl o w (c.snd a p) rfl (A a p h)
section values
variable{v:AF}{caps us:Fq}
theorem jn{t:α->TV}(h:x.bind k=some r)(c:Ct P x f ts R)(hv:v.val O=some (.clo f caps))(p:vals O args=some us)(u:us++caps=ts)(w:∀a,R a=.sh (t a))(A:∀a,x=some a->k a=some r->WO (AN P) K os ((d,.tv (t a))::O)):WO (AN P) K (⟨some d,.AaK v args,none⟩::os) O:=by
 obtain ⟨a,o,h⟩:=bind_some h;have:=c.snd a o;rw[w,<-u]at this;exact lf hv p this (A a o h)
theorem eg{t:α->TV}(h:x.bind k=some r)(c:Ct P x f ts R)(hv:v.val O=some (.clo f caps))(p:vals O args=some us)(u:us++caps=ts)(w:∀a,R a=.own (t a))(A:∀a,x=some a->k a=some r->WO (AN P) K os ((d,.ow (t a))::O)):WO (AN P) K (⟨some d,.AaK v args,none⟩::os) O:=by
 obtain ⟨a,o,h⟩:=bind_some h;have:=c.snd a o;rw[w,<-u]at this;exact gT hv p this (A a o h)
theorem eh{t:α->Fq}(h:x.bind k=some r)(c:Ct P x f ts R)(hv:v.val O=some (.clo f caps))(p:vals O args=some us)(u:us++caps=ts)(w:∀a,R a=.tp (t a))(A:∀a,x=some a->k a=some r->WO (AN P) K os ((d,.tp (t a))::O)):WO (AN P) K (⟨some d,.AaK v args,none⟩::os) O:=by
 obtain ⟨a,o,h⟩:=bind_some h;have:=c.snd a o;rw[w,<-u]at this;exact gU hv p this (A a o h)
end values
end calls
inductive GS(g:Nat)(b:Bool):Ne->List PR->Ne->Nat->Prop
 |done {acc:Ne} {os:List PR}:GS g b acc os [] 0
 |step {acc js:Ne} {d n:Nat} {op:AE} {os:List PR}:GS g b (d::acc) os js n->GS g b acc (⟨some d,op,some (g,b)⟩::os) (d::js) (n+1)
 |Ab3 {acc js:Ne} {d n g':Nat} {b':Bool} {op:AE} {os:List PR}:acc.contains g'=true->GS g b (d::acc) os js n->GS g b acc (⟨some d,op,some (g',b')⟩::os) (d::js) (n+1)
def l8:Ne->AB->(AB->Prop)->Prop
 |[],z,K=>K z|k::ks,z,K=>∃j,l8 ks ((k,j)::z) K
structure Gj(js:Ne)(d:Nat)(v:TV)(z e:AB):Prop where
 of::out:l8 js z fun y=>e=(d,.tv v)::y
theorem cY{d:Nat}{v:TV}{z e:AB}(h:e=(d,.tv v)::z):Gj [] d v z e:=⟨h⟩
variable{ks:Ne}
theorem kC{k d:Nat}{v:TV}{j:EV}{z e:AB}(h:Gj ks d v ((k,j)::z) e):Gj (k::ks) d v z e:=⟨j,h.out⟩
theorem mP{js:Ne}{v:TV}{z:AB}(h:Gj js d v z O):WO S (Gj js d v z) [] O:=⟨h⟩
structure VQ(js:Ne)(z:AB)(Q:AB->Prop):Prop where
 of::out:∀(d:Nat)(v:TV)(e:AB),Gj js d v z e->∃y,e=(d,.tv v)::y/\Q y
theorem kD{z:AB}{Q:AB->Prop}(h:Q z):VQ [] z Q:=⟨fun _ _ _ he=>⟨z,he.out,h⟩⟩
theorem fN{k:Nat}{z:AB}{Q:AB->Prop}(h:∀j,VQ ks ((k,j)::z) Q):VQ (k::ks) z Q:=⟨fun d v e he=>by
 obtain ⟨j,o⟩:=he.out;exact(h j).out d v e ⟨o⟩⟩
theorem rO{dd:Option Nat}{op:AE}{g:Nat}{b q:Bool}(h:O.get g=.tv (.bool q))(o:br g b q)(p:WO S K (⟨dd,op,none⟩::os) O):WO S K (⟨dd,op,some (g,b)⟩::os) O:=uM h o.out p
theorem m8{op:AE}{g:Nat}{b q:Bool}(h:O.get g=.tv (.bool q))(o:Ww g b q)(p:WO S K os ((d,.sk)::O)):WO S K (⟨some d,op,some (g,b)⟩::os) O:=rN h o.out p
theorem aV{d n:Nat}{js:Ne}{v:TV}(h:WO S (Gj js d v O) (os.take n) O)(o:VQ js O fun e=>WO S K (os.drop n) ((d,.tv v)::e)):WO S K os O:=
 rM n (Gj js d v) h fun e he=>by
  obtain ⟨y,rfl,p⟩:=o.out d v e he;exact p
section groups
variable{g n:Nat}{js:Ne}{c:Bool}{dd gd:Option Nat}{op:AE}{x y z:AF}{gg:Option (Nat×Bool)}
variable{T:K1}{os':List PR}
theorem pu{k:Bool->Option β}(h:(if c=true then T else some false).bind k=some r)(_:GS g true [] os js n)(A:O.get g=.tv (.bool c))(_:os[n]?=some ⟨some d,.pick x y z,gg⟩)
  (p:∀v,br g true c->c=true->T=some v->WO S (Gj js d (.bool v) O) (os.take (n+1)) O)(u:∀v,Ww g true c->c=false->some false=some v->WO S (Gj js d (.bool v) O) (os.take (n+1)) O)
  (w:∀v,k v=some r->VQ js O fun e=>WO S K (os.drop (n+1)) ((d,.tv (.bool v))::e))(ho:os=⟨dd,op,some (g,true)⟩::os'):WO S K (⟨dd,op,some (g,true)⟩::os') O:=by
 obtain ⟨v,hv,h⟩:=bind_some h;rw[<-ho];refine aV (n:=n+1) (v:=.bool v) ?_ (w v h);rcases Bool.eq_false_or_eq_true c with o|o
 .exact p v ⟨o⟩ o (UT o hv)
 .exact u v ⟨by rw[o];rfl⟩ o (US o hv)
theorem pk{k:Bool->Option β}(h:(if c=true then some true else T).bind k=some r)(_:GS g false [] os js n)(A:O.get g=.tv (.bool c))(_:os[n]?=some ⟨some d,.pick x y z,gg⟩)
  (p:∀v,br g false c->c=false->T=some v->WO S (Gj js d (.bool v) O) (os.take (n+1)) O)(u:∀v,Ww g false c->c=true->some true=some v->WO S (Gj js d (.bool v) O) (os.take (n+1)) O)
  (w:∀v,k v=some r->VQ js O fun e=>WO S K (os.drop (n+1)) ((d,.tv (.bool v))::e))(ho:os=⟨dd,op,some (g,false)⟩::os'):WO S K (⟨dd,op,some (g,false)⟩::os') O:=by
 obtain ⟨v,hv,h⟩:=bind_some h;rw[<-ho];refine aV (n:=n+1) (v:=.bool v) ?_ (w v h);rcases Bool.eq_false_or_eq_true c with o|o
 .exact u v ⟨by rw[o];rfl⟩ o (UT o hv)
 .exact p v ⟨o⟩ o (US o hv)
theorem pj{e:Bool}(ho:os=⟨dd,op,some (g,true)⟩::os')(_:GS g true [] os js n)(u:O.get g=.tv (.bool c))(_:os[n]?=some ⟨some d,.pick x y z,gg⟩)
  (h:br g true c->c=true->WO S (Gj js d (.bool e) O) (os.take (n+1)) O)(o:Ww g true c->c=false->WO S (Gj js d (.bool false) O) (os.take (n+1)) O)
  (p:VQ js O fun z=>WO S K (os.drop (n+1)) ((d,.tv (.bool (c&&e)))::z)):WO S K (⟨dd,op,some (g,true)⟩::os') O:=by
 rw [<-ho];refine aV (n:=n+1) (v:=.bool (c&&e)) ?_ p;cases c
 .exact o ⟨rfl⟩ rfl
 .exact h ⟨rfl⟩ rfl
theorem pi{e:Bool}(ho:os=⟨dd,op,some (g,false)⟩::os')(_:GS g false [] os js n)(u:O.get g=.tv (.bool c))(_:os[n]?=some ⟨some d,.pick x y z,gg⟩)
  (h:br g false c->c=false->WO S (Gj js d (.bool e) O) (os.take (n+1)) O)(o:Ww g false c->c=true->WO S (Gj js d (.bool true) O) (os.take (n+1)) O)
  (p:VQ js O fun z=>WO S K (os.drop (n+1)) ((d,.tv (.bool (c||e)))::z)):WO S K (⟨dd,op,some (g,false)⟩::os') O:=by
 rw [<-ho];refine aV (n:=n+1) (v:=.bool (c||e)) ?_ p;cases c
 .exact h ⟨rfl⟩ rfl
 .exact o ⟨rfl⟩ rfl
end groups
variable{qi:Option Nat}{j:Int}
theorem qH{x:AF}{q n i:Nat}{es row:Fq}{e:α->TV}{l:List α}{a:α}{t:TV}(h:x.ev O=.lp q qi (j.toNat*n+i))(o:O.x7 q qi=some (n,es))(he:es=l.map e)(p:∀a,(e a).cells.length=n)(u:idx l j=some a)(hi:Nat.blt i n=true)(w:(e a).cells=row)(A:row[i]?=some t)
  (B:WO S K os ((d,.tv t)::O)):WO S K (⟨some d,.xld x,none⟩::os) O:=jP h o he p u rfl hi w A B
theorem mZ{x:AF}{q n:Nat}{es row:Fq}{e:α->TV}{l:List α}{a:α}{t:TV}(h:x.ev O=.lp q qi (j.toNat*n))(o:O.x7 q qi=some (n,es))(he:es=l.map e)(p:∀a,(e a).cells.length=n)(u:idx l j=some a)(hi:Nat.blt 0 n=true)(w:(e a).cells=row)(A:row[0]?=some t)
  (B:WO S K os ((d,.tv t)::O)):WO S K (⟨some d,.xld x,none⟩::os) O:=jP (i:=0) h o he p u rfl hi w A B
theorem mb{γ:Type}{s:Nat}{v:AF}{q n i:Nat}{env':AB}{es:Fq}{e:α->TV}{g:γ->TV}{l:List α}{a:α}{b:γ}{f:α->γ->α}(_:HX s f)(h:(AF.s s).ev O=.lp q qi (j.toNat*n+i))(p:O.x7 q qi=some (n,es))(hv:v.ev O=.tv (g b))(he:es=l.map e)(u:∀a,(e a).cells.length=n)(w:idx l j=some a)(hi:Nat.blt i n=true)(A:(g b).cells=[g b])
  (B:(e (f a b)).cells=(e a).cells.set i (g b))(o:O.Aaj q qi n ((BC l j (f a b)).map e)=env')(C:WO S K os env'):WO S K (⟨none,.xst (.s s) v 1,none⟩::os) O:=jQ h p hv he u w rfl hi A B rfl o C
theorem ma{x v:AF}{q n:Nat}{env':AB}{es:Fq}{e:α->TV}{l:List α}{a b:α}(h:x.ev O=.lp q qi (j.toNat*n))(p:O.x7 q qi=some (n,es))(hv:v.ev O=.tv (e b))(he:es=l.map e)(u:∀a,(e a).cells.length=n)(w:idx l j=some a)(hi:Nat.blt 0 n=true)(A:(e b).cells=[e b])
  (B:(e b).cells=(e a).cells.set 0 (e b))(o:O.Aaj q qi n ((BC l j b).map e)=env')(C:WO S K os env'):WO S K (⟨none,.xst x v 1,none⟩::os) O:=jQ (i:=0) h p hv he u w rfl hi A B rfl o C
end
end Go.Sf
namespace Go.Sf
section
variable{S:FuncId->Fq->Aq->Prop}{K:AB->Prop}{os:List PR}{O:AB}{d:Nat}
theorem sb{x:AF}{s o:Nat}{es:Fq}(h:x.ev O=.bp s o)(p:O.nat s o=some es)(k:WO S K os ((d,.nh s o .hd)::O)):WO S K (⟨some d,.lan x,none⟩::os) O:=by
 replace k:=k.out;refine⟨?_⟩;simp only[wpOps,PR.wp,AE.wp,h,p,AV];exact k
variable{j:Int}
theorem tE{α:Type}{x:AF}{s o:Nat}{es:Fq}{e:α->TV}{l:List α}{a:α}(h:x.ev O=.nh s o (.el j.toNat))(u:O.nat s o=some es)(he:es=l.map e)(w:idx l j=some a)(k:WO S K os ((d,.nh s o (.rw j.toNat))::O)):WO S K (⟨some d,.nld x,none⟩::os) O:=by
 replace k:=k.out;refine⟨?_⟩;subst he;obtain⟨B,C,A⟩:=GF w;have p:j.toNat<l.length:=(List.getElem?_eq_some_iff.1 A).1;simp only[wpOps,PR.wp,AE.wp,h,u,AV];exact⟨by simpa using p,k⟩
variable{fs:Fq}
theorem ol{q n:Nat}(h:O.get q=.xo n fs)(o:O.jj d=true)(hd:d≠q)(k:WO S K os ((d,.x1 n fs)::(q,.undef)::O)):WO S K (⟨some d,.Abv q,none⟩::os) O:=by
 replace k:=k.out;refine⟨?_⟩;simp only[wpOps,PR.wp,AE.wp,h];exact⟨⟨o,hd⟩,k⟩
theorem oe{x:AF}{q s h:Nat}{cs cs':List AQ}{es:Fq}(p:x.place O=some (s,h))(u:O.get q=.xn es)(w:O.get s=.bx cs)(A:O.noX s (some h)=true)(B:Nat.blt h cs.length=true)(o:cs.set h ⟨true,.xn es⟩=cs')(k:WO S K os ((s,.bx cs')::(q,.undef)::O)):WO S K (⟨none,.cpt x q,none⟩::os) O:=by
 replace k:=k.out;refine⟨?_⟩;subst o;simp only[wpOps,PR.wp,AE.wp,p,u,w];exact⟨A,Nat.le_of_ble_eq_true B,k⟩
theorem ob{q:Nat}{cs:List AQ}(h:O.get q=.oag cs)(o:O.jj d=true)(hd:d≠q)(k:WO S K os ((d,.bx cs)::(q,.undef)::O)):WO S K (⟨some d,.AbF q,none⟩::os) O:=by
 replace k:=k.out;refine⟨?_⟩;simp only[wpOps,PR.wp,AE.wp,h];exact⟨⟨o,hd⟩,k⟩
theorem se{s n:Nat}{cs cs':List AQ}(h:O.get s=.bx cs)(o:Nat.beq cs.length n=true)(hd:d≠s)(p:(cs.map fun _=>(⟨false,.undef⟩:AQ))=cs')(k:WO S K os ((d,.oag cs)::(s,.bx cs')::O)):WO S K (⟨some d,.ldg s n,none⟩::os) O:=by
 replace k:=k.out;refine⟨?_⟩;subst p;simp only[wpOps,PR.wp,AE.wp,h];exact⟨Nat.eq_of_beq_eq_true o,hd,k⟩
theorem tL{x v:AF}{s h n:Nat}{p:List (Option AQ)}{t:TV}{cs ds cs':List AQ}(u:x.place O=some (s,h))(hv:v.val O=some t)(w:O.get s=.bx cs)(A:DK p t.cells=some ds)(B:Nat.beq t.cells.length n=true)(o:Nat.ble (h+n) cs.length=true)(C:O.noX s none=true)(D:cs.take h++ds++cs.drop (h+n)=cs')
  (k:WO S K os ((s,.bx cs')::O)):WO S K (⟨none,.stq n p x v,none⟩::os) O:=by
 replace k:=k.out;refine⟨?_⟩;subst D;simp only[wpOps,PR.wp,AE.wp,u,hv,w,A,AV];exact⟨Nat.eq_of_beq_eq_true B,Nat.le_of_ble_eq_true o,C,k⟩
variable{j2:Int}
theorem tG{α:Type}{x v:AF}{s o:Nat}{es:Fq}{env':AB}{e:List α->TV}{e2:α->TV}{l:List (List α)}{m:List α}{A b:α}{t:TV}(h:x.ev O=.nh s o (.rp j.toNat j2.toNat))(B:O.nat s o=some es)(hv:v.ev O=.tv t)(he:es=l.map e)(w:∀m,e m=.list 1 (m.map e2))(C:idx l j=some m)(D:idx m j2=some A)(E:t=e2 b)(F:t.cells=[t])(G:t.flat=true)
  (p:O.AbV s o ((BC l j (BC m j2 b)).map e)=env')(k:WO S K os env'):WO S K (⟨none,.nst x v,none⟩::os) O:=by
 replace k:=k.out;refine⟨?_⟩;subst he p E;obtain⟨J,L,H⟩:=GF C;obtain⟨m0,m1,I⟩:=GF D;have u:j2.toNat<m.length:=(List.getElem?_eq_some_iff.1 I).1;simp only[wpOps,PR.wp,AE.wp,h,B,hv,AV];refine⟨m.map e2,by rw[List.getElem?_map,H];simp[w],by simpa using u,F,G,?_⟩;have:(l.map e).set j.toNat (.list 1 ((m.map e2).set j2.toNat (e2 b)))=(BC l j (BC m j2 b)).map e:=by
  simp only[BC,List.map_set,w]
 rw [this];exact k
end
section
variable{P:Program}{K:AB->Prop}{os:List PR}{O:AB}{d:Nat}{α β γ ρ:Type}{f:FuncId}{args:List AF}{ts:Fq}{R:α->Aq}{x:Option α}{k:α->Option ρ}{r:ρ}
variable{j:Int}
theorem p5{x i:AF}{s o:Nat}{es:Fq}{e:α->TV}{l:List α}{ik:IntKind}{S:FuncId->Fq->Aq->Prop}(h:(idx l j).bind k=some r)(u:x.ev O=.nh s o .hd)(w:O.nat s o=some es)(hi:i.val O=some (.int ik j))(he:es=l.map e)
  (A:∀a,idx l j=some a->k a=some r->WO S K os ((d,.nh s o (.el j.toNat))::O)):WO S K (⟨some d,.nia x i,none⟩::os) O:=by
 obtain ⟨a,p,h⟩:=bind_some h;have B:=(A a p h).out;refine⟨?_⟩;subst he;obtain⟨D,F,E⟩:=GF p;have C:j.toNat<l.length:=(List.getElem?_eq_some_iff.1 E).1;simp only[wpOps,PR.wp,AE.wp,u,w,hi,AV];exact⟨D,by simp only[ca];omega,B⟩
variable{e2:α->TV}{j2:Int}
theorem p6{x i:AF}{s o:Nat}{es:Fq}{e:List α->TV}{l:List (List α)}{m:List α}{ik:IntKind}{S:FuncId->Fq->Aq->Prop}(h:(idx m j2).bind k=some r)(u:x.ev O=.nh s o (.rw j.toNat))(w:O.nat s o=some es)(hi:i.val O=some (.int ik j2))(he:es=l.map e)(A:∀m,e m=.list 1 (m.map e2))(B:idx l j=some m)
  (C:∀a,idx m j2=some a->k a=some r->WO S K os ((d,.nh s o (.rp j.toNat j2.toNat))::O)):WO S K (⟨some d,.nia x i,none⟩::os) O:=by
 obtain ⟨b,p,h⟩:=bind_some h;have D:=(C b p h).out;refine⟨?_⟩;subst he;obtain⟨H,I,F⟩:=GF B;obtain⟨m0,m1,G⟩:=GF p;have E:j2.toNat<m.length:=(List.getElem?_eq_some_iff.1 G).1;simp only[wpOps,PR.wp,AE.wp,u,w,hi,AV];exact⟨m0,m.map e2,by rw[List.getElem?_map,F];simp[A],by simp only[ca];omega,D⟩
theorem mE{mm q s o:Nat}{es fs:Fq}{cs cs':List AQ}{n:Nat}{e:β->TV}{l:List β}{m:β}{k:List β->Option ρ}{S:FuncId->Fq->Aq->Prop}(h:(Ah l [m]).bind k=some r)(w:O.get mm=.nh s o .hd)(A:O.get q=.x1 n fs)(B:O.get s=.bx cs)(C:O.nat s o=some es)(he:es=l.map e)(hf:TV.list n fs=e m)(u:O.jj d=true)(hd:d≠mm/\d≠q/\mm≠q)(D:cs.set o ⟨false,.undef⟩=cs')
  (E:∀a,Ah l [m]=some a->k a=some r->WO S K os ((d,.xn (a.map e))::(s,.bx cs')::(mm,.undef)::(q,.undef)::O)):WO S K (⟨some d,.Aa0 mm q,none⟩::os) O:=by
 obtain ⟨a,p,h⟩:=bind_some h;have G:=(E a p h).out;refine⟨?_⟩;subst he D;unfold Ah at p;split at p
 .rename_i F;cases p;simp only[wpOps,PR.wp,AE.wp,w,A,B,C,AV];refine⟨by simpa using F,⟨u,hd⟩,?_⟩;rw[hf];simpa[AB.put]using G
 .cases p
theorem ed{u:α->List β}{v:α->List γ}{w A:Nat}{p:β->TV}{e2:γ->TV}(h:x.bind k=some r)(c:Ct P x f ts R)(E:vals O args=some ts)(F:∀a,R a=.oag [⟨true,.list w ((u a).map p)⟩,⟨true,.list A ((v a).map e2)⟩])(G:∀a,(p a).flat=true)(H:∀a,(e2 a).flat=true)
  (I:∀a,x=some a->k a=some r->WO (AN P) K os ((d,.oag [⟨true,.xl w ((u a).map p)⟩,⟨true,.xl A ((v a).map e2)⟩])::O)):WO (AN P) K (⟨some d,.AaN f args,none⟩::os) O:=by
 obtain ⟨a,D,h⟩:=bind_some h;have C:=c.snd a D;rw[F]at C;have J:=(I a D h).out;have o:∀{τ:Type}(e:τ->TV)(l:List τ),(∀a,(e a).flat=true)->TV.Aag (l.map e)=true:=by
  intro τ e l he
  induction l with
  |nil=>rfl|cons a l L=>simp[TV.Aag,he,L]
 refine ⟨?_⟩;simp only[wpOps,PR.wp,AE.wp,E,AV];refine⟨_,C,fun c B=>?_,fun _=>J⟩;simp only[List.mem_cons,List.not_mem_nil,or_false]at B;rcases B with rfl|rfl
 .exact⟨_,_,rfl,o _ _ G⟩
 .exact⟨_,_,rfl,o _ _ H⟩
inductive NL:List AQ->List AQ->Prop
 |nil {xs:List AQ}:xs=[]->NL xs []
 |cons {xs ys zs:List AQ} {o:Bool} {t:TV}:xs=⟨o,t⟩::ys->NL ys zs->NL xs (⟨o,t⟩::zs)
theorem NL.eq{xs o:List AQ}(h:NL xs o):xs=o:=by
 induction h with
 |nil h=>exact h|cons h _ p=>rw[h,p]
theorem qB{S:FuncId->Fq->Aq->Prop}{K:AB->Prop}{os:List PR}{O:AB}{n s h:Nat}{x v:AF}{cs cs':List AQ}{t:TV}(o:x.place O=some (s,h))(p:O.get s=.bx cs)(hv:v.ev O=.tv t)(u:t.cells.length=n)(w:Nat.ble (h+n) cs.length=true)(A:NL (cs.take h++t.cells.map (⟨false,·⟩)++cs.drop (h+n)) cs')
  (k:WO S K os ((s,.bx cs')::O)):WO S K (⟨none,.st n x v,none⟩::os) O:=o7 o p hv u w A.eq k
theorem mY{S:FuncId->Fq->Aq->Prop}{K:AB->Prop}{os:List PR}{O:AB}{s h q:Nat}{x:AF}{cs cs':List AQ}{t:TV}(o:x.place O=some (s,h))(p:O.get s=.bx cs)(hv:O.get q=.ow t)(u:q≠s)(w:Nat.blt h cs.length=true)(A:NL (cs.set h ⟨true,t⟩) cs')
  (k:WO S K os ((s,.bx cs')::(q,.tv t)::O)):WO S K (⟨none,.st 1 x (.s q),none⟩::os) O:=jO o p hv u w A.eq k
theorem Vd:∀(ts:List (Nat×Nat×TV))(done rest:Fq),Tj done.length ts=true->(HZ ts).length<=rest.length->Ec (done++rest) ts=some (done++(HZ ts++rest.drop (HZ ts).length))
 |[],done,rest,_,h=>by simp[Ec,HZ]|(i,n,t)::r,done,rest,p,h=>by
  simp only[Tj,tg,Nat.beq_eq]at p;obtain⟨⟨rfl,o⟩,A⟩:=p;simp only[HZ,cE]at h;have u:n<=rest.length:=by omega
  simp only[Ec];rw[ae ⟨o,by rw[cE];omega⟩];have w:done++rest=done++(rest.take n++rest.drop n):=by rw[List.take_append_drop]
  rw [w,SJ t.cells done (rest.take n) (rest.drop n) (by rw[c7];omega),<-ci];rw[Vd r (done++t.cells) (rest.drop n) (by rw[cE,o];exact A) (by rw[List.length_drop];omega)];simp[HZ,List.drop_drop,o]
inductive NT:Fq->Fq->Prop
 |nil {xs:Fq}:xs=[]->NT xs []
 |cons {xs ys zs:Fq} {t:TV}:xs=t::ys->NT ys zs->NT xs (t::zs)
theorem NT.eq{xs o:Fq}(h:NT xs o):xs=o:=by
 induction h with
 |nil h=>exact h|cons h _ p=>rw[h,p]
variable{zero:Fq}
theorem mJ{S:FuncId->Fq->Aq->Prop}{K:AB->Prop}{os:List PR}{O:AB}{d:Nat}{parts:List (Nat×Nat×AF)}{ts:List (Nat×Nat×TV)}{cs:Fq}(h:F5 O parts=some ts)(o:Tj 0 ts=true)(p:Nat.ble (HZ ts).length zero.length=true)(u:NT (HZ ts++zero.drop (HZ ts).length) cs)(k:WO S K os ((d,.tv (.agg cs))::O)):WO S K (⟨some d,.bld zero parts,none⟩::os) O:=
 Wr h (by have:=Vd ts [] zero o (Nat.le_of_ble_eq_true p);simpa using this) (by rw[u.eq]) k
structure HY{α A B C:Type}(n:Nat)(f:A->B->C->α)(g1:A->TV)(g2:B->TV)(g3:C->TV):Prop where
variable{qi:Option Nat}
theorem mc{S:FuncId->Fq->Aq->Prop}{K:AB->Prop}{os:List PR}{O:AB}{α A B C:Type}{f:A->B->C->α}{o:Nat}{v:AF}{q n:Nat}{env':AB}{es cs cs':Fq}{e:α->TV}{l:List α}{a:α}{E:A}{F:B}{G:C}{p:A->TV}{u:B->TV}{w:C->TV}(_:HY o f p u w)(h:(AF.s o).ev O=.lp q qi (j.toNat*n))(H:O.x7 q qi=some (n,es))(he:es=l.map e)(I:∀a,(e a).cells.length=n)(hv:v.ev O=.tv (.agg cs))(J:NT cs cs')(L:cs'=[p E,u F,w G])(hf:∀a b c,TV.agg [p a,u b,w c]=e (f a b c))(N:idx l j=some a)(U:Nat.blt 0 n=true)
  (D:O.Aaj q qi n ((BC l j (f E F G)).map e)=env')(k:WO S K os env'):WO S K (⟨none,.xst (.s o) v n,none⟩::os) O:=jR h H (by rw[hv,J.eq,L,hf]) he I N U D k
theorem qI{S:FuncId->Fq->Aq->Prop}{α:Type}{x v:AF}{q n:Nat}{env':AB}{es:Fq}{e:α->TV}{l:List α}{a b:α}(h:x.ev O=.lp q qi (j.toNat*n))(p:O.x7 q qi=some (n,es))(he:es=l.map e)(u:∀a,(e a).cells.length=n)(hv:v.ev O=.tv (e b))(w:idx l j=some a)(A:Nat.blt 0 n=true)
  (o:O.Aaj q qi n ((BC l j b).map e)=env')(k:WO S K os env'):WO S K (⟨none,.xst x v n,none⟩::os) O:=jR h p hv he u w A o k
theorem jZ{i q:Nat}{cs:List AQ}{o:Fq}{p:α->Aq}{e:α->EV}(h:x.bind k=some r)(c:Ct P x f o R)(hi:args[i]?=some (.s q))(B:O.get q=.oag cs)(hd:d≠q)(C:G5 O i args=some ts)(u:ts.set i (.agg (cs.map fun _=>.undef))=o)(D:∀a,R a=.ag cs i (p a))(he:∀a,(p a).aev=e a)
  (E:∀a,x=some a->k a=some r->WO (AN P) K os ((d,e a)::(q,.undef)::O)):WO (AN P) K (⟨some d,.AaT f args i,none⟩::os) O:=by
 obtain ⟨a,A,h⟩:=bind_some h;have w:=c.snd a A;rw[D]at w;have F:=(E a A h).out;refine⟨?_⟩;subst u;simp only[wpOps,PR.wp,AE.wp,hi,B,C,AV];refine⟨hd,p a,w,fun _=>?_⟩;rw[he];exact F
end
section
variable{S:FuncId->Fq->Aq->Prop}{K:AB->Prop}{os:List PR}{O:AB}{d:Nat}
theorem sw(k:∀b,WO S K os ((d,.mx (.mp b []))::O)):WO S K (⟨some d,.mkm,none⟩::os) O:=
 ⟨fun b=>(k b).out⟩
variable{kvs:BD}
theorem tB{s b:Nat}(h:O.get s=.mx (.mp b kvs))(k:WO S K os ((d,.tv (.AaJ b))::O)):WO S K (⟨some d,.mvm s,none⟩::os) O:=by
 replace k:=k.out;refine⟨?_⟩;simp only[wpOps,PR.wp,AE.wp,h];exact k
variable{ky:Int×Int}
theorem s7{s b:Nat}{m x:AF}{t:TV}(h:O.get s=.mx (.mp b kvs))(o:m.val O=some (.AaJ b))(p:x.val O=some t)(u:t.AbJ?=some ky)(k:WO S K os ((d,.tp [.int .i64 ((kvs.look ky).getD 0),.bool (kvs.look ky).isSome])::O)):WO S K (⟨some d,.mlk s m x,none⟩::os) O:=by
 replace k:=k.out;refine⟨?_⟩;simp only[wpOps,PR.wp,AE.wp,h,o,p,u,AV];exact⟨trivial,k⟩
theorem tA{s b:Nat}{m x v:AF}{t:TV}{n:Int}(h:O.get s=.mx (.mp b kvs))(o:m.val O=some (.AaJ b))(p:x.val O=some t)(u:t.AbJ?=some ky)(hv:v.val O=some (.int .i64 n))(k:WO S K os ((s,.mx (.mp b (kvs.set ky n)))::O)):WO S K (⟨none,.mup s m x v,none⟩::os) O:=by
 replace k:=k.out;refine⟨?_⟩;simp only[wpOps,PR.wp,AE.wp,h,o,p,u,hv,AV];exact⟨trivial,k⟩
variable{todo:BD}
theorem su{s:Nat}{p:(Int×Int)×Int}(h:O.get s=.mx (.mi (some p) todo))(k:WO S K os ((d,.tp [Oq p.1,.int .i64 p.2])::O)):WO S K (⟨some d,.men s,none⟩::os) O:=by
 replace k:=k.out;refine⟨?_⟩;simp only[wpOps,PR.wp,AE.wp,h];exact k
theorem dl{s b:Nat}{ts:Fq}(h:O.get s=.mx (.tm b kvs ts))(k:WO S K os ((d,.tp (.AaJ b::ts))::O)):WO S K (⟨some d,.mvm s,none⟩::os) O:=by
 replace k:=k.out;refine⟨?_⟩;simp only[wpOps,PR.wp,AE.wp,h];exact k
theorem dk{s:Nat}{ts:Fq}(h:O.get s=.tp ts)(k:WO S K os ((d,.tp ts)::O)):WO S K (⟨some d,.mvm s,none⟩::os) O:=by
 replace k:=k.out;refine⟨?_⟩;simp only[wpOps,PR.wp,AE.wp,h];exact k
theorem jM{s b:Nat}{ts:Fq}{m:AF}(h:O.get s=.mx (.tm b kvs ts))(o:m.val O=some (.AaJ b))(hd:d≠s)(k:WO S K os ((d,.mx (.mi none kvs))::(s,.undef)::O)):WO S K (⟨some d,.mrg s m,none⟩::os) O:=by
 replace k:=k.out;refine⟨?_⟩;simp only[wpOps,PR.wp,AE.wp,h,o];exact⟨⟨hd,trivial⟩,k⟩
theorem s8{s:Nat}{last:Option ((Int×Int)×Int)}(h:O.get s=.mx (.mi last todo))(hd:d≠s)(u:todo=[]->WO S K os ((d,.tp [.bool false])::O))(w:∀p o,todo.Perm (p::o)->WO S K os ((d,.tp [.bool true,Oq p.1,.int .i64 p.2])::(s,.mx (.mi (some p) o))::O)):WO S K (⟨some d,.mnx s,none⟩::os) O:=by
 refine ⟨?_⟩;simp only[wpOps,PR.wp,AE.wp,h];exact⟨hd,fun e=>(u e).out,fun p t A=>(w p t A).out⟩
theorem gS{f:FuncId}{args:List AF}{ts us:Fq}(hv:vals O args=some ts)(h:S f ts (.mpr kvs us))(k:∀b,WO S K os ((d,.mx (.tm b kvs us))::O)):WO S K (⟨some d,.AaU f args,none⟩::os) O:=by
 refine ⟨?_⟩;simp only[wpOps,PR.wp,AE.wp,hv,AV];exact .inr ⟨kvs,us,h,fun _ b=>(k b).out⟩
theorem gR{f:FuncId}{args:List AF}{ts us:Fq}(hv:vals O args=some ts)(h:S f ts (.tp us))(k:WO S K os ((d,.tp us)::O)):WO S K (⟨some d,.AaU f args,none⟩::os) O:=by
 refine ⟨?_⟩;simp only[wpOps,PR.wp,AE.wp,hv,AV];exact .inl ⟨us,h,fun _=>k.out⟩
theorem Je{ss:Ne}{s:Nat}{r:AB}{m:MX}(h:O.get s=.mx m)(k:Kp O ss r):Kp O (s::ss) ((s,.mx m)::r):=MA h k
theorem rl{ss:Ne}{s:Nat}{r:AB}{q:List (Nat×EV)}{m:MX}(h:look q s=none)(o:O.get s=.mx m)(k:Nm O q ss r):Nm O q (s::ss) ((s,.mx m)::r):=OK h o k
end
def MC(r:BD×Int):Aq:=if r.2=0 then .mpr r.1 [.int .i64 r.2]else .tp [.undef,.int .i64 r.2]
structure tY(o:Nat):Prop where
variable{kvs:BD}
theorem kR{h:List RV}{O:AB}{e:Int}(he:(!decide (e=0))=true)(o:h.length≠1)(p:EI O h=some [.undef,.int .i64 e]):Bi h (MC (kvs,e)) O:=by
 simp only[Bool.not_eq_true',decide_eq_false_iff_not]at he;simp only[MC,az he];exact⟨o,p⟩
theorem kS{s o b:Nat}{h:List RV}{O:AB}(_:tY o)(p:O.get s=.tv (.AaJ b))(u:O.get o=.mx (.mp b kvs))(w:h≠[])(A:EI O h=some [.int .i64 0]):Bi (.tmp s::h) (MC (kvs,0)) O:=by
 simp only[MC,if_true,Bi];exact⟨w,⟨b,o,p,u⟩,A⟩
section
variable{P:Program}{α β:Type}{K:AB->Prop}{os:List PR}{O:AB}{d:Nat}{x:Option α}{k:α->Option β}{r:β}{f:FuncId}{args:List AF}{ts:Fq}{R:α->Aq}
theorem eb{i s:Nat}{cs:List AQ}{q:α->Bool}{u v:α->List AQ}{us:α->Fq}{e:α->EV}(h:x.bind k=some r)(c:Ct P x f ts R)(A:(args[i]?).bind (·.place O)=some (s,0))(B:O.get s=.bx cs)(C:O.noX s none=true)(hd:d≠s)(D:G5 O i args=some ts)(E:∀a,R a=.bo cs (if q a=true then u a else v a) i (us a))(he:∀a,EV.ofs (us a)=e a)
  (F:∀a,x=some a->q a=true->k a=some r->WO (AN P) K os ((d,e a)::(s,.bx (u a))::O))(G:∀a,x=some a->q a=false->k a=some r->WO (AN P) K os ((d,e a)::(s,.bx (v a))::O)):WO (AN P) K (⟨some d,.AaE f args i,none⟩::os) O:=by
 refine ZC h c A B C hd D E he (fun a o p=>?_);cases w:q a with
 |true=>rw[ae rfl];exact F a o w p|false=>rw[az (by simp)];exact G a o w p
end
section
variable{S:FuncId->Fq->Aq->Prop}{a b:PC}{O:AB}
variable{Q:Q}
theorem mM{c:AF}{β:Type}{q:Bool}{u v:Option β}{r:β}(p:c.val O=some (.bool q))(h:(if q=true then u else v)=some r)(o:q=true)(k:u=some r->WP S a Q O):WP S (.cond c a b) Q O:=
 Pp p o (k (UT o h))
theorem mL{c:AF}{β:Type}{q:Bool}{u v:Option β}{r:β}(p:c.val O=some (.bool q))(h:(if q=true then u else v)=some r)(o:q=false)(k:v=some r->WP S b Q O):WP S (.cond c a b) Q O:=
 Po p o (k (US o h))
end
end Go.Sf
set_option maxRecDepth 100000
namespace Go.Sf
theorem au{P:Prop}(p:P:=by
 repeat' (first
  |(show WO _ _ _ _;first
    |(apply N7;exact rfl)
    |(apply oj;exact rfl;exact rfl)
    |(apply sd;exact rfl)
    |(apply RK;exact rfl;exact rfl)
    |(apply tO;exact rfl)
    |(apply uh;exact rfl)
    |apply Lr
    |(apply jI;exact rfl)
    |(apply jH;exact rfl)
    |(apply dj;exact rfl;exact rfl)
    |(apply dg;exact rfl)
    |(apply rO;exact rfl;assumption)
    |(apply m8;exact rfl;assumption)
    |(apply uN;exact rfl)
    |(apply ll;exact rfl;assumption;exact rfl)
    |(apply lj;exact rfl;assumption;exact rfl)
    |(apply sU;exact rfl;exact rfl)
    |(apply sn;exact rfl;exact rfl)
    |(apply sM;exact rfl;exact rfl)
    |(apply bN;exact rfl;exact rfl)
    |(apply sj;exact rfl;exact rfl)
    |(apply tN;exact rfl;exact rfl)
    |(apply sY;exact rfl;exact rfl)
    |(apply sX;exact rfl;exact rfl)
    |(apply dh;exact rfl;exact rfl)
    |(apply si;exact rfl;(first|exact rfl|exact Ml.eq))
    |(apply pv;exact h;exact rfl;exact rfl;(first|exact rfl|exact Ml.eq);intro x o h)
    |(apply mK;exact h;infer_instance;exact rfl;exact fun _=>rfl;intro x o h)|(apply jk;exact h;infer_instance;exact rfl;exact fun _=>rfl;intro x o h)|(apply jm;assumption;exact h;infer_instance;exact rfl;exact fun _=>rfl;intro x o h)|(apply ji;exact h;infer_instance;exact rfl;exact fun _=>rfl;intro x o h)|(apply jo;exact h;infer_instance;exact rfl;exact fun _=>rfl;intro x o h)|(apply jf;exact h;infer_instance;exact rfl;exact fun _=>rfl;intro x o h)
    |(apply pu h (ho:=rfl);(focus ((repeat(first|apply GS.step|(apply GS.Ab3;exact rfl)));exact GS.done));exact rfl;exact rfl;intro v B C h;rotate_left;intro v B C h;rotate_left;intro v h;rotate_left)
    |(apply pk h (ho:=rfl);(focus ((repeat(first|apply GS.step|(apply GS.Ab3;exact rfl)));exact GS.done));exact rfl;exact rfl;intro v B C h;rotate_left;intro v B C h;rotate_left;intro v h;rotate_left)
    |(apply pj rfl;(focus ((repeat(first|apply GS.step|(apply GS.Ab3;exact rfl)));exact GS.done));exact rfl;exact rfl;intro B C;rotate_left;intro B C;rotate_left 3)
    |(apply pi rfl;(focus ((repeat(first|apply GS.step|(apply GS.Ab3;exact rfl)));exact GS.done));exact rfl;exact rfl;intro B C;rotate_left;intro B C;rotate_left 3)
    |apply mP
    |apply ou
    |(apply mF;exact h;exact rfl;exact rfl;(first|exact rfl|exact Ml.eq);(first|exact rfl|exact Ml.eq);infer_instance;intro x o h)
    |(apply pX;exact h;exact rfl;exact rfl;(first|exact rfl|exact Ml.eq);(first|exact rfl|exact Ml.eq);intro x o h)
    |(apply mT;exact rfl;(focus ((repeat(apply Lm.cons;exact rfl));exact Lm.nil));exact fun _=>rfl;infer_instance)|(apply mS;exact rfl;(focus ((repeat(apply Lm.cons;exact rfl));exact Lm.nil));exact fun _=>rfl)
    |(apply pz;exact rfl;exact rfl)
    |(apply py;(with_reducible exact h);infer_instance;exact rfl;exact rfl;exact rfl;intro x o h)
    |(apply ii;exact rfl;exact rfl;exact rfl)
    |(apply px;exact rfl;exact rfl;exact rfl;exact rfl)
    |(apply jK;exact rfl;exact rfl;exact rfl)
    |(apply mR;exact rfl;exact rfl;exact rfl)
    |(apply Ws;exact rfl;exact rfl;exact rfl)
    |(apply mX;exact rfl;exact rfl;exact rfl;exact rfl)
    |(apply jN;exact rfl;exact rfl;exact rfl;exact rfl;exact rfl)
    |(apply o8;exact rfl;exact rfl;decide;exact rfl;exact rfl)
    |(apply qB;exact rfl;exact rfl;exact rfl;exact rfl;exact rfl;(focus ((repeat(apply NL.cons;exact rfl));exact NL.nil rfl)))
    |(apply mY;exact rfl;exact rfl;exact rfl;decide;exact rfl;(focus ((repeat(apply NL.cons;exact rfl));exact NL.nil rfl)))
    |(apply o7;exact rfl;exact rfl;exact rfl;exact rfl;exact rfl;exact rfl)
    |(apply jO;exact rfl;exact rfl;exact rfl;decide;exact rfl;exact rfl)
    |(apply sf;exact rfl;exact rfl;exact rfl;exact rfl;exact rfl)
    |(apply mI;(with_reducible exact h);infer_instance;exact rfl;exact rfl;exact rfl;intro x o h)
    |(apply oY;exact rfl;exact rfl;exact rfl;exact rfl)
    |(apply mJ;exact rfl;exact rfl;exact rfl;(focus ((repeat(apply NT.cons;exact rfl));exact NT.nil rfl)))
    |(apply Wr;exact rfl;exact rfl;exact rfl)
    |(apply sP;exact rfl)
    |(apply jn;exact h;infer_instance;exact rfl;exact rfl;exact rfl;exact fun _=>rfl;intro x o h)|(apply eh;exact h;infer_instance;exact rfl;exact rfl;exact rfl;exact fun _=>rfl;intro x o h)|(apply eg;exact h;infer_instance;exact rfl;exact rfl;exact rfl;exact fun _=>rfl;intro x o h)
    |(apply qA;exact h;exact rfl;(first|exact rfl|exact Ml.eq);exact rfl;exact rfl;intro x o h)
    |(apply o0;exact rfl)
    |(apply mV;exact h;exact rfl;exact rfl;intro x o h)
    |(apply mW;exact h;exact rfl;exact rfl;exact rfl;intro x o h)
    |(apply tF;exact rfl)
    |(apply s9;exact rfl;exact rfl)
    |(apply sq;exact rfl;exact rfl)
    |(apply sv;exact rfl;exact rfl)
    |(apply tD;exact rfl)
    |(apply sT;exact rfl)
    |(apply tC;exact rfl)
    |(apply sN;exact rfl)
    |(apply oc;exact rfl;exact rfl;exact rfl;exact rfl)
    |(apply od;exact rfl;exact rfl;exact rfl)
    |(apply ph;exact rfl;infer_instance)
    |(apply oh;exact rfl;exact rfl;exact rfl)
    |(apply li;exact rfl;exact rfl;exact rfl)
    |(apply oy;exact rfl;exact rfl)
    |(apply o5;exact rfl;exact rfl)
    |(apply oX;exact rfl;exact rfl)
    |(apply oa;exact rfl;exact rfl)
    |(apply l9;exact rfl;exact rfl;infer_instance;exact rfl;exact rfl;exact rfl)
    |(apply mB;exact rfl;exact rfl;infer_instance;exact rfl;exact rfl;exact rfl)
    |refine mA rfl rfl rfl rfl rfl ?_
    |refine mC rfl rfl rfl rfl rfl ?_
    |(apply tR;exact rfl)
    |(apply ov;exact rfl)
    |(apply tQ;exact rfl;exact rfl;decide)
    |(apply tI;exact rfl;decide)
    |(apply o9;exact rfl;(first|exact rfl|exact Ml.eq))
    |(apply qG;exact h;exact rfl;exact rfl;(first|exact rfl|exact Ml.eq);exact rfl;intro x o h)
    |(apply tS;exact rfl;exact rfl)
    |(apply mZ;exact rfl;exact rfl;exact rfl;exact fun _=>rfl;assumption;exact rfl;exact rfl;exact rfl)|(apply qH;exact rfl;exact rfl;exact rfl;exact fun _=>rfl;assumption;exact rfl;exact rfl;exact rfl)|(apply mb;assumption;exact rfl;exact rfl;exact rfl;exact rfl;exact fun _=>rfl;assumption;exact rfl;exact rfl;exact rfl;exact rfl)|(apply ma;exact rfl;exact rfl;exact rfl;exact rfl;exact fun _=>rfl;assumption;exact rfl;exact rfl;exact rfl;exact rfl)|(apply mc;assumption;exact rfl;exact rfl;exact rfl;exact fun _=>rfl;exact rfl;(focus ((repeat(apply NT.cons;exact rfl));exact NT.nil rfl));exact rfl;exact fun _ _ _=>rfl;assumption;exact rfl;exact rfl)|(apply qI;exact rfl;exact rfl;exact rfl;exact fun _=>rfl;exact rfl;assumption;exact rfl;exact rfl)
    |(apply mG;exact h;exact rfl;exact rfl;(first|exact rfl|exact Ml.eq);(first|exact rfl|exact Ml.eq);exact rfl;decide;intro x o h)
    |(apply mH;exact h;exact rfl;exact rfl;exact rfl;exact rfl;exact rfl;decide;exact rfl;exact rfl;intro x o h)
    |(apply pZ;exact h;exact rfl;exact rfl;exact rfl;exact rfl;decide;intro x o h)
    |(apply p0;exact h;exact rfl;exact rfl;exact rfl;intro x o h)
    |(apply jp;exact h;infer_instance;exact rfl;exact rfl;exact fun _=>rfl;intro x o h)|(apply en;exact h;infer_instance;exact rfl;exact rfl;exact fun _=>rfl;exact fun _=>rfl;intro x o h)|(apply jg;exact h;infer_instance;exact rfl;exact fun _=>rfl;exact fun _=>rfl;intro x o h)|(apply ef;exact h;infer_instance;exact rfl;exact fun _=>rfl;exact fun _=>rfl;intro x o h)|(apply ee;exact h;infer_instance;exact rfl;exact fun _=>rfl;exact fun _=>rfl;intro x o h)|(apply je;exact h;infer_instance;exact rfl;exact fun _=>rfl;intro x o h)|(apply eb;exact h;infer_instance;exact rfl;exact rfl;exact rfl;decide;exact rfl;exact fun _=>rfl;exact fun _=>rfl;intro x o C h;rotate_left;intro x o C h;rotate_left)|(apply ZC;exact h;infer_instance;exact rfl;exact rfl;exact rfl;decide;exact rfl;exact fun _=>rfl;exact fun _=>rfl;intro x o h)|(apply jh;exact h;infer_instance;exact rfl;exact rfl;exact fun _=>rfl;intro x o h)
    |(apply ja;exact h;infer_instance;exact rfl;exact rfl;decide;exact rfl;intro x o h)
    |(apply jc;exact h;infer_instance;exact rfl;exact fun _=>rfl;intro x o h)
    |(apply p7;exact h;exact rfl;exact rfl;intro x o h)
    |(apply p8;exact h;exact rfl;exact rfl;intro x o h)
    |(apply pY;exact h;exact rfl;exact rfl;decide;intro x o h)
    |(apply mU;exact h;exact rfl;exact rfl;intro x o h)
    |(apply oi;exact rfl)
    |(apply sV;exact rfl;exact rfl)
    |(apply sg;exact rfl;exact rfl;exact rfl)
    |(apply pw;exact h;exact rfl;(first|exact rfl|exact Ml.eq);intro u h)
    |(apply jJ;exact rfl;exact rfl;intro z D;replace h:=jx h z D)
    |(apply sa;exact rfl;exact rfl)
    |(apply sR;exact rfl;exact rfl;exact rfl;exact rfl;exact rfl)
    |(apply sQ;exact rfl;exact rfl;exact rfl;exact rfl;exact rfl;exact rfl)
    |(apply oZ;decide;decide;exact rfl;exact rfl)
    |(apply oo;exact rfl)
    |(apply tM;exact rfl;exact rfl;decide;exact rfl;exact rfl;exact rfl;exact rfl)
    |(apply oU;exact rfl;exact rfl;exact rfl)
    |(apply sb;exact rfl;exact rfl)
    |(apply p5;exact h;exact rfl;exact rfl;exact rfl;(first|exact rfl|exact Ml.eq);intro x o h)
    |(apply tE;exact rfl;exact rfl;(first|exact rfl|exact Ml.eq);assumption)
    |(apply p6;exact h;exact rfl;exact rfl;exact rfl;(first|exact rfl|exact Ml.eq);exact fun _=>rfl;assumption;intro x o h)
    |(apply tG;exact rfl;exact rfl;exact rfl;(first|exact rfl|exact Ml.eq);exact fun _=>rfl;assumption;assumption;exact rfl;exact rfl;exact rfl;exact rfl)
    |(apply ol;exact rfl;exact rfl;decide)
    |(apply mE;exact h;exact rfl;exact rfl;exact rfl;exact rfl;(first|exact rfl|exact Ml.eq);exact rfl;exact rfl;decide;exact rfl;intro x o h)
    |(apply oe;exact rfl;exact rfl;exact rfl;exact rfl;exact rfl;exact rfl)
    |(apply ob;exact rfl;exact rfl;decide)
    |(apply se;exact rfl;exact rfl;decide;exact rfl)
    |(apply tL;exact rfl;exact rfl;exact rfl;exact rfl;exact rfl;exact rfl;exact rfl;exact rfl)
    |(apply ed;exact h;infer_instance;exact rfl;exact fun _=>rfl;exact fun _=>rfl;exact fun _=>rfl;intro x o h)|(apply jZ;exact h;infer_instance;exact rfl;exact rfl;decide;exact rfl;exact rfl;exact fun _=>rfl;exact fun _=>rfl;intro x o h)
    |(apply sw;intro b;have K:=K b)
    |(apply tB;exact rfl)
    |(apply dl;exact rfl)
    |(apply dk;exact rfl)
    |(apply su;exact rfl)
    |(apply jM;exact rfl;exact rfl;decide)
    |(apply s7;exact rfl;exact rfl;exact rfl;exact rfl)
    |(apply tA;exact rfl;exact rfl;exact rfl;exact rfl;exact rfl))
  |(show WP _ _ _ _;first
    |with_reducible apply pf
    |apply Ja
    |apply OA
    |(apply mO;exact rfl)
    |(apply p9;exact rfl;exact rfl)
    |apply Wz
    |apply aF
    |apply bv
    |(apply Pp;exact rfl;with_reducible rfl)
    |(apply Po;exact rfl;with_reducible rfl)
    |(apply mQ;exact rfl;exact h;assumption;exact rfl;intro w C h;rotate_left;intro w C h;rotate_left;intro w h;rotate_left)
    |(apply mM;exact rfl;exact h;assumption;intro h)
    |(apply mL;exact rfl;exact h;assumption;intro h)
    |(apply mN;exact rfl;exact h;intro C h;rotate_left;intro C h;rotate_left)
    |(apply Pp;exact rfl;apply ur;assumption)
    |(apply Po;exact rfl;apply uL;assumption)
    |(apply bw;assumption;exact h;exact A;(first|exact Re rfl (by first|exact rfl|exact Ml.eq)|exact Rd rfl|exact PB rfl rfl (by first|exact rfl|exact Ml.eq)|exact PA rfl rfl|exact Rg rfl|exact Rf rfl (by first|exact rfl|exact Ml.eq)|exact Ri rfl rfl|exact Rh|exact Rc (by decide));exact rfl;exact rfl;exact fun _ _=>rfl;intro i s r hi h A;rotate_left;intro i s hi;clear h;rotate_left;intro s h;rotate_left)
    |(apply bw;apply HB.a;assumption;exact h;exact A;(first|exact Re rfl (by first|exact rfl|exact Ml.eq)|exact Rd rfl|exact PB rfl rfl (by first|exact rfl|exact Ml.eq)|exact PA rfl rfl|exact Rg rfl|exact Rf rfl (by first|exact rfl|exact Ml.eq)|exact Ri rfl rfl|exact Rh|exact Rc (by decide));exact rfl;exact rfl;exact fun _ _=>rfl;intro i s r hi h A;rotate_left;intro i s hi;clear h;rotate_left;intro s h;rotate_left)
    |(apply b7;assumption;assumption;exact rfl;exact h;exact A;(first|exact Re rfl (by first|exact rfl|exact Ml.eq)|exact Rd rfl|exact PB rfl rfl (by first|exact rfl|exact Ml.eq)|exact PA rfl rfl|exact Rg rfl|exact Rf rfl (by first|exact rfl|exact Ml.eq)|exact Ri rfl rfl|exact Rh|exact Rc (by decide));exact rfl;exact rfl;exact fun _ _=>rfl;intro i s r hi h A;rotate_left;intro i s hi;clear h;rotate_left;intro s h;rotate_left)
    |(apply b7;apply HB.a;assumption;assumption;exact rfl;exact h;exact A;(first|exact Re rfl (by first|exact rfl|exact Ml.eq)|exact Rd rfl|exact PB rfl rfl (by first|exact rfl|exact Ml.eq)|exact PA rfl rfl|exact Rg rfl|exact Rf rfl (by first|exact rfl|exact Ml.eq)|exact Ri rfl rfl|exact Rh|exact Rc (by decide));exact rfl;exact rfl;exact fun _ _=>rfl;intro i s r hi h A;rotate_left;intro i s hi;clear h;rotate_left;intro s h;rotate_left)
    |(apply b6;assumption;exact h;exact A;(first|exact Re rfl (by first|exact rfl|exact Ml.eq)|exact Rd rfl|exact PB rfl rfl (by first|exact rfl|exact Ml.eq)|exact PA rfl rfl|exact Rg rfl|exact Rf rfl (by first|exact rfl|exact Ml.eq)|exact Ri rfl rfl|exact Rh|exact Rc (by decide));exact rfl;exact rfl;exact fun _ _=>rfl;intro i s r hi h A;rotate_left;intro i s hi;clear h;rotate_left;intro s h;rotate_left)
    |(apply b6;apply HB.a;assumption;exact h;exact A;(first|exact Re rfl (by first|exact rfl|exact Ml.eq)|exact Rd rfl|exact PB rfl rfl (by first|exact rfl|exact Ml.eq)|exact PA rfl rfl|exact Rg rfl|exact Rf rfl (by first|exact rfl|exact Ml.eq)|exact Ri rfl rfl|exact Rh|exact Rc (by decide));exact rfl;exact rfl;exact fun _ _=>rfl;intro i s r hi h A;rotate_left;intro i s hi;clear h;rotate_left;intro s h;rotate_left)
    |(apply bz;assumption;exact h;exact A;(first|exact Re rfl (by first|exact rfl|exact Ml.eq)|exact Rd rfl|exact PB rfl rfl (by first|exact rfl|exact Ml.eq)|exact PA rfl rfl|exact Rg rfl|exact Rf rfl (by first|exact rfl|exact Ml.eq)|exact Ri rfl rfl|exact Rh|exact Rc (by decide));exact rfl;exact rfl;exact fun _ _=>rfl;intro i s r hi h A;rotate_left;intro i s hi;clear h;rotate_left;intro s h;rotate_left)
    |(apply bz;apply HB.a;assumption;exact h;exact A;(first|exact Re rfl (by first|exact rfl|exact Ml.eq)|exact Rd rfl|exact PB rfl rfl (by first|exact rfl|exact Ml.eq)|exact PA rfl rfl|exact Rg rfl|exact Rf rfl (by first|exact rfl|exact Ml.eq)|exact Ri rfl rfl|exact Rh|exact Rc (by decide));exact rfl;exact rfl;exact fun _ _=>rfl;intro i s r hi h A;rotate_left;intro i s hi;clear h;rotate_left;intro s h;rotate_left)
    |(apply qF;assumption;assumption;exact rfl;exact h;exact rfl;exact rfl;intro s r h A;rotate_left;intro s h;rotate_left)
    |(apply qE;assumption;exact h;exact rfl;exact rfl;intro s r h A;rotate_left;intro s h;rotate_left)
    |(apply qC;assumption;exact h;exact rfl;exact rfl;intro s r h A;rotate_left;intro s h;rotate_left)
    |apply ZB
    |cases h)
  |(show Kp _ _ _;first
    |exact Hd
    |(apply Jg;exact rfl)
    |(apply rV;exact rfl)
    |(apply Jd;exact rfl)
    |(apply rX;exact rfl)
    |(apply rT;exact rfl)
    |(apply Jf;exact rfl)
    |(apply Jh;exact rfl)
    |(apply rU;exact rfl)
    |(apply rW;exact rfl)
    |(apply nM;exact rfl)
    |(apply Je;exact rfl))
  |(show Nm _ _ _ _;first
    |exact nP
    |(apply nO;exact rfl)
    |(apply rq;exact rfl;exact rfl)
    |(apply rm;exact rfl;exact rfl)
    |(apply rj;exact rfl;exact rfl)
    |(apply rt;exact rfl;exact rfl)
    |(apply ri;exact rfl;exact rfl)
    |(apply rn;exact rfl;exact rfl)
    |(apply rr;exact rfl;exact rfl)
    |(apply rk;exact rfl;exact rfl)
    |(apply rl;exact rfl;exact rfl))
  |apply kD
  |(apply fN;intro j)
  |apply kC
  |exact cY rfl
  |(cases h;exact cY rfl)
  |apply XN
  |(apply j7;decide)
  |intro A
  |(cases h;first|exact rfl|exact⟨rfl⟩|exact⟨rfl,rfl⟩|exact⟨_,rfl,rfl⟩|exact⟨_,rfl,⟨rfl⟩⟩|exact⟨rfl,_,rfl,⟨rfl⟩⟩|exact⟨by decide,rfl⟩|exact⟨_,rfl,by decide,rfl⟩|exact⟨_,rfl,rfl,rfl⟩|exact kS (by assumption) rfl rfl (by decide) rfl|exact⟨_,rfl,kR (by first|assumption|decide) (by decide) rfl⟩)
  |exact⟨rfl,⟨rfl⟩⟩)):P:=p
end Go.Sf
