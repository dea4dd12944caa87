/- Contracts that are found by themselves: rules that take the typed text along, and the script that applies them. -/
import Derived.Test.YtbgedoajacpdbaaGreatDoorSfK
import Derived.Test.YtbgedoajacpdbaaGreatDoorSfStep
import Derived.Test.YtbgedoajacpdbaaGreatDoorSfLib
set_option linter.all false
namespace Go.Sf
class Ct(P:Program){α:Type}(x:Option α)(f:outParam FuncId)(ts:outParam Fq)(R:outParam (α->An)):Prop where
 snd:∀r,x=some r->AN P f ts (R r)
class Ml(es:Fq){α:outParam Type}(e:outParam (α->TV))(l:outParam (List α)):Prop where
 eq:es=l.map e
class bc{α:Type}(e:α->TV)where
 un:Fq->α
 dec:∀a b,∃i:Decidable (a=b),By (e a).cells (e b).cells=some (@decide (a=b) i)
class Fz(cs:List AP)(row:outParam Fq):Prop where
 h:cs.map (·.t)=row
instance(priority:=high){l:Fq}:Fz (l.map fun x=>(⟨false,x⟩:AP)) l:=⟨by rw[List.map_map];exact List.map_id _⟩
instance(priority:=low){cs:List AP}:Fz cs (cs.map (·.t)):=⟨rfl⟩
class En(α:Type)(e:outParam (α->TV)):Prop where
class Fl{α:Type}(e:α->TV)(n:outParam Nat)(f:outParam (List α->TV)):Prop where
 eq:∀l,f l=.list n (l.map e)
structure Kp(O:AB)(l:Ne)(r:AB):Prop where
 of::out:O.jj l=r
def look:List (Nat×EV)->Nat->Option EV
 |[],_=>none|(k,e)::r,n=>if k=n then some e else look r n
def mrg(O:AB)(m:List (Nat×EV)):Ne->AB
 |[]=>[]|s::ss=>(s,(look m s).getD (O.get s))::mrg O m ss
structure Nm(O:AB)(m:List (Nat×EV))(l:Ne)(r:AB):Prop where
 of::out:mrg O m l=r
structure Rn(a b:AB):Prop where
 of::out:a=b
structure HJ{σ:Type}(n:Nat)(M:σ->List (Nat×EV)):Prop where
structure HA{σ:Type}(n EN q i:Nat)(M:Int->σ->List (Nat×EV)):Prop where
structure HB{σ:Type}(n EN q i:Nat)(M:Int->σ->List (Nat×EV)):Prop where
theorem HB.a{σ:Type}{n EN q i:Nat}{M:Int->σ->List (Nat×EV)}(_:HB n EN q i M):HA n EN q i M:=⟨⟩
structure HW{σ:Type}(n:Nat)(M:σ->List (Nat×EV)):Prop where
structure HR{β:Type}(R:β->AB->Prop):Prop where
structure HS(n:Nat):Prop where
structure HX{α γ:Type}(n:Nat)(f:α->γ->α):Prop where
structure bh(g:Nat)(b q:Bool):Prop where
 of::out:q=b
structure Wo(g:Nat)(b q:Bool):Prop where
 of::out:q=!b
def KR(n:AB->Prop)(l:Ne):AB->Prop:=fun e=>n (e.jj l)
section
variable{O:AB}{s:Nat}{ss:Ne}{r:AB}{m:List (Nat×EV)}
theorem HQ:Kp O [] []:=⟨rfl⟩
theorem Lx{e:EV}(h:O.get s=e)(k:Kp O ss r):Kp O (s::ss) ((s,e)::r):=⟨by rw[<-k.out,<-h];rfl⟩
theorem JZ{t:TV}(h:O.get s=.tv t)(k:Kp O ss r):Kp O (s::ss) ((s,.tv t)::r):=Lx h k
theorem rH{t:TV}(h:O.get s=.ow t)(k:Kp O ss r):Kp O (s::ss) ((s,.ow t)::r):=Lx h k
theorem JW{t:List AP}(h:O.get s=.bx t)(k:Kp O ss r):Kp O (s::ss) ((s,.bx t)::r):=Lx h k
theorem rF{q o:Nat}(h:O.get s=.bp q o)(k:Kp O ss r):Kp O (s::ss) ((s,.bp q o)::r):=Lx h k
theorem JY{t:Fq}(h:O.get s=.tp t)(k:Kp O ss r):Kp O (s::ss) ((s,.tp t)::r):=Lx h k
theorem Ja(h:O.get s=.undef)(k:Kp O ss r):Kp O (s::ss) ((s,.undef)::r):=Lx h k
theorem rJ{n:Nat}{t:Fq}(h:O.get s=.xo n t)(k:Kp O ss r):Kp O (s::ss) ((s,.xo n t)::r):=Lx h k
theorem rG{q:Nat}{i:Option Nat}(h:O.get s=.la q i)(k:Kp O ss r):Kp O (s::ss) ((s,.la q i)::r):=Lx h k
theorem rI(h:O.get s=.sk)(k:Kp O ss r):Kp O (s::ss) ((s,.sk)::r):=Lx h k
theorem m9{t:List AP}(h:O.get s=.oag t)(k:Kp O ss r):Kp O (s::ss) ((s,.oag t)::r):=Lx h k
theorem nB:Nm O m [] []:=⟨rfl⟩
theorem nA{e:EV}(h:look m s=some e)(k:Nm O m ss r):Nm O m (s::ss) ((s,e)::r):=⟨by rw[<-k.out];simp only[mrg,h,Option.getD_some]⟩
theorem OA{e:EV}(h:look m s=none)(o:O.get s=e)(k:Nm O m ss r):Nm O m (s::ss) ((s,e)::r):=⟨by rw[<-k.out];simp only[mrg,h,o,Option.getD_none]⟩
theorem rZ{t:TV}(h:look m s=none)(o:O.get s=.tv t)(k:Nm O m ss r):Nm O m (s::ss) ((s,.tv t)::r):=OA h o k
theorem rX{t:TV}(h:look m s=none)(o:O.get s=.ow t)(k:Nm O m ss r):Nm O m (s::ss) ((s,.ow t)::r):=OA h o k
theorem rU{t:List AP}(h:look m s=none)(o:O.get s=.bx t)(k:Nm O m ss r):Nm O m (s::ss) ((s,.bx t)::r):=OA h o k
theorem rT{q o:Nat}(h:look m s=none)(p:O.get s=.bp q o)(k:Nm O m ss r):Nm O m (s::ss) ((s,.bp q o)::r):=OA h p k
theorem rY{t:Fq}(h:look m s=none)(o:O.get s=.tp t)(k:Nm O m ss r):Nm O m (s::ss) ((s,.tp t)::r):=OA h o k
theorem ra(h:look m s=none)(o:O.get s=.undef)(k:Nm O m ss r):Nm O m (s::ss) ((s,.undef)::r):=OA h o k
theorem rb{n:Nat}{t:Fq}(h:look m s=none)(o:O.get s=.xo n t)(k:Nm O m ss r):Nm O m (s::ss) ((s,.xo n t)::r):=OA h o k
theorem rV{q:Nat}{i:Option Nat}(h:look m s=none)(o:O.get s=.la q i)(k:Nm O m ss r):Nm O m (s::ss) ((s,.la q i)::r):=OA h o k
end
def PC.xl(i:Nat):PC->Option Ne
 |.exit j l=>if j=i then some l else none|.seq a b=>match a.xl i with
  |some l=>some l|none=>b.xl i
 |.cond _ a b=>match a.xl i with
  |some l=>some l|none=>b.xl i
 |.block _ a=>a.xl i|.loop _ a=>a.xl i|.rls _ a=>a.xl i|_=>none
def PC.last:PC->Option Ne
 |.region _ l=>some l|.draw _ _ l=>some l|.skip l=>some l|.exit _ l=>some l|.seq _ b=>b.last|.cond _ a _=>a.last|.block i (.loop _ b)=>b.xl i|.block _ c=>c.last|.rls _ c=>c.last|_=>none
section
variable{S:FuncId->Fq->An->Prop}{K:AB->Prop}{os:List PR}{O:AB}{d:Nat}
section code
variable{n t:AB->Prop}{x:Nat->AB->Prop}{a b:PC}{l:Ne}{env':AB}
theorem Lb(o:Kp O l env')(h:n env'):WO S (KR n l) [] O:=⟨by show n (O.jj l);rw[o.out];exact h⟩
theorem N1{ops:List PR}(h:WO S (KR n l) ops O):WP S (.region ops l) ⟨n,x,t⟩ O:=⟨h.out⟩
theorem mB{D:Ne}{ops:List PR}(hd:Pl O D=true)(h:WO S (KR n l) ops O):WP S (.draw D ops l) ⟨n,x,t⟩ O:=⟨hd,h.out⟩
theorem JT(h:WP S a ⟨fun e=>(∀s,(e.get s).WF)->WP S b ⟨n,x,t⟩ e,x,t⟩ O):WP S (.seq a b) ⟨n,x,t⟩ O:=qh h
theorem Wq(o:Kp O l env')(h:n env'):WP S (.skip l) ⟨n,x,t⟩ O:=mY o.out h
theorem Z6(h:t O):WP S .ret ⟨n,x,t⟩ O:=⟨h⟩
theorem bj{i:Nat}(o:Kp O l env')(h:x i env'):WP S (.exit i l) ⟨n,x,t⟩ O:=mX o.out h
theorem ph{s:Nat}{cs cs':List AP}{c:PC}{q:Q}(h:O.get s=.bx cs)(he:cs.map AP.rel=cs')(k:WP S c q ((s,.bx cs')::O)):WP S (.rls s c) q O:=by
 refine ⟨?_⟩;subst he;simp only[PC.wp,h];exact k.out
theorem Y2{i:Nat}(h:WP S a ⟨n,fun j e=>if j=i then n e else x j e,t⟩ O):WP S (.block i a) ⟨n,x,t⟩ O:=Uu h
theorem pL{m:List (Nat×EV)}{e:AB}{q:Q}(he:Nm e m l env')(h:WP S a q env'):WP S a q (mrg e m l):=by rw[he.out];exact h
variable{Q:Q}
theorem mA{c:AF}{β:Type}{q:Bool}{u v:Option β}{r:β}(o:c.val O=some (.bool q))(h:(if q=true then u else v)=some r)(p:q=true->u=some r->WP S a Q O)(w:q=false->v=some r->WP S b Q O):WP S (.cond c a b) Q O:=
 Tw o (fun e=>p e (UJ e h)) (fun e=>w e (UI e h))
theorem mE{σ β:Type}{i:Nat}{M:σ->List (Nat×EV)}{q:Bool}{u v:Option σ}{k:σ->Option β}{r:β}(p:(AF.s i).val O=some (.bool q))(h:((if q=true then u else v).bind k)=some r)(_:HJ i M)(_:(PC.cond (.s i) a b).last=some l)
  (A:∀w,q=true->u=some w->WP S a ⟨fun e=>Rn e (mrg O (M w) l),x,t⟩ O)(B:∀w,q=false->v=some w->WP S b ⟨fun e=>Rn e (mrg O (M w) l),x,t⟩ O)(C:∀w,k w=some r->n (mrg O (M w) l)):WP S (.cond (.s i) a b) ⟨n,x,t⟩ O:=by
 obtain ⟨w,o,h⟩:=bind_some h;refine qf (fun e=>Rn e (mrg O (M w) l)) ?_ (fun e he=>by rw[he.out];exact C w h);exact Tw p (fun e=>A w e (UJ e o)) (fun e=>B w e (UI e o))
end code
structure Bd(O:AB)(q i:Nat)(b:Int):Prop where
 of::out:(∀s,(O.get s).WF)->b<=9223372036854775807
section bounds
variable{q i:Nat}{α:Type}{e:α->TV}{l:List α}{es row:Fq}{n:Nat}
theorem RW{b:Int}(h:decide (b<=9223372036854775807)=true):Bd O q i b:=⟨fun _=>of_decide_eq_true h⟩
theorem Rb{b:Int}:Bd O q i (Ae b):=⟨fun _=>pB _⟩
theorem RY(h:O.get q=.tv (.list n es))(he:es=l.map e):Bd O q i l.length:=⟨fun o=>by have:=o q;rw[h]at this;exact So (Wl this) he⟩
theorem RZ(h:O.get q=.ow (.list n es))(he:es=l.map e):Bd O q i l.length:=⟨fun o=>by have:=o q;rw[h]at this;exact So (tF this) he⟩
theorem Rc(h:O.get q=.xo n es)(he:es=l.map e):Bd O q i l.length:=⟨fun o=>by have:=o q;rw[h]at this;exact So (tG this) he⟩
theorem Ra{b:ByteArray}(h:O.get q=.tv (.str b)):Bd O q i b.size:=⟨fun o=>by have:=o q;rw[h]at this;exact lj (Wl this)⟩
theorem RX{b:Int}(h:O.get q=.tv (.int .i64 b)):Bd O q i b:=⟨fun o=>by have:=o q;rw[h]at this;exact eU (Wl this)⟩
theorem Oz(h:O.get q=.tv (.pt row))(o:row[i]?=some (.list n es))(he:es=l.map e):Bd O q i l.length:=⟨fun p=>by have:=p q;rw[h]at this;exact So (Zx (jJ this) o) he⟩
theorem Oy{b:Int}(h:O.get q=.tv (.pt row))(o:row[i]?=some (.int .i64 b)):Bd O q i b:=⟨fun p=>by have:=p q;rw[h]at this;exact eU (Zx (jJ this) o)⟩
end bounds
section loops
variable{σ β ρ:Type}{n t:AB->Prop}{x:Nat->AB->Prop}{c:PC}{live jl:Ne}{i0 EN q i1:Nat}{lo b:Int}{s0:σ}{r:β}{k:σ->Option β}
variable{M:Int->σ->List (Nat×EV)}
theorem pC(h:∀i s,(mrg O (M i s) live).get EN=.tv (.int .i64 i)){i:Int}{s:σ}(o:∀k,((mrg O (M i s) live).get k).WF)(hi:i<b)(p:b<=9223372036854775807):Ae (i+1)=i+1:=by
 have:=o EN;rw[h]at this;exact tH (Wl this) hi p
theorem bl{f:Int->σ->Option σ}(_:HA i0 EN q i1 M)(h:(sr f lo b s0).bind k=some r)(p:∀s,(O.get s).WF)(u:Bd O q i1 b)(_:c.xl i0=some jl)(w:O.jj live=mrg O (M lo s0) live)(A:∀i s,(mrg O (M i s) live).get EN=.tv (.int .i64 i))
  (B:∀i s r,i<b->f i s=some r->(∀k,((mrg O (M i s) live).get k).WF)->WP S c ⟨fun e=>Rn (e.jj live) (mrg O (M (Ae (i+1)) r) live),fun _ _=>False,fun _=>False⟩ (mrg O (M i s) live))
  (C:∀i s,¬i<b->WP S c ⟨fun _=>False,fun j e=>j=i0/\Rn e (mrg O (M 0 s) jl),fun _=>False⟩ (mrg O (M i s) live))
  (D:∀s,k s=some r->n (mrg O (M 0 s) jl)):WP S (.block i0 (.loop live c)) ⟨n,x,t⟩ O:=by
 obtain ⟨o,ho,h⟩:=bind_some h;have u:=u.out p;refine ll ho (fun i s=>mrg O (M i s) live) (fun s=>mrg O (M 0 s) jl) w (fun i s r hi hf p=>⟨PC.pr S c _ _ (B i s r hi hf p).out _ (fun e he=>?_) (fun _ _ h=>h) (fun _ h=>h)⟩) (fun i s hi=>⟨PC.pr S c _ _ (C i s hi).out _ (fun _ h=>h) (fun j e h=>⟨h.1,h.2.out⟩) (fun _ h=>h)⟩) (D o h);have:=he.out;rw[pC A p hi u]at this;exact this
variable{kr:ρ->Option β}
theorem U6{f:Int->σ->Option (Bp σ ρ)}{R:ρ->AB->Prop}(h:fq (kl f lo b s0) k kr=some r)(w:b<=9223372036854775807)(A:O.jj live=mrg O (M lo s0) live)(B:∀i s,(mrg O (M i s) live).get EN=.tv (.int .i64 i))
  (C:∀i s r,i<b->f i s=some r->(∀k,((mrg O (M i s) live).get k).WF)->WP S c ⟨fun e=>∃s',r=.next s'/\Rn (e.jj live) (mrg O (M (Ae (i+1)) s') live),fun j e=>j=i0/\∃s',r=.brk s'/\Rn e (mrg O (M 0 s') jl),fun e=>∃v,r=.ret v/\R v e⟩ (mrg O (M i s) live))
  (D:∀i s,¬i<b->WP S c ⟨fun _=>False,fun j e=>j=i0/\Rn e (mrg O (M 0 s) jl),fun _=>False⟩ (mrg O (M i s) live))
  (E:∀s,k s=some r->n (mrg O (M 0 s) jl))(F:∀v e,kr v=some r->R v e->t e):WP S (.block i0 (.loop live c)) ⟨n,x,t⟩ O:=by
 obtain ⟨o,ho,h⟩:=Uq h;refine Z0 ho (fun i s=>mrg O (M i s) live) (fun s=>mrg O (M 0 s) jl) R A (fun i s r hi hf u=>⟨PC.pr S c _ _ (C i s r hi hf u).out _ (fun e he=>?_) (fun j e he=>?_) (fun _ h=>h)⟩) (fun i s hi=>⟨PC.pr S c _ _ (D i s hi).out _ (fun _ h=>h) (fun j e h=>⟨h.1,h.2.out⟩) (fun _ h=>h)⟩) (fun s G=>E s (Zr h G)) (fun v e hv=>F v e (Zs h hv))
 .obtain⟨s',p,e2⟩:=he;have e2:=e2.out;rw[pC B u hi w]at e2;exact⟨s',p,e2⟩
 .obtain⟨H,s',p,e2⟩:=he;exact⟨H,s',p,e2.out⟩
theorem br{f:Int->σ->Option (Bp σ β)}{R:β->AB->Prop}(_:HA i0 EN q i1 M)(_:HR R)(o:R r=t)(h:fq (kl f lo b s0) k (fun v=>some v)=some r)(p:∀s,(O.get s).WF)(u:Bd O q i1 b)(_:c.xl i0=some jl)(w:O.jj live=mrg O (M lo s0) live)(A:∀i s,(mrg O (M i s) live).get EN=.tv (.int .i64 i))
  (B:∀i s r,i<b->f i s=some r->(∀k,((mrg O (M i s) live).get k).WF)->WP S c ⟨fun e=>∃s',r=.next s'/\Rn (e.jj live) (mrg O (M (Ae (i+1)) s') live),fun j e=>j=i0/\∃s',r=.brk s'/\Rn e (mrg O (M 0 s') jl),fun e=>∃v,r=.ret v/\R v e⟩ (mrg O (M i s) live))
  (C:∀i s,¬i<b->WP S c ⟨fun _=>False,fun j e=>j=i0/\Rn e (mrg O (M 0 s) jl),fun _=>False⟩ (mrg O (M i s) live))
  (D:∀s,k s=some r->n (mrg O (M 0 s) jl)):WP S (.block i0 (.loop live c)) ⟨n,x,t⟩ O:=
 U6 h (u.out p) w A B C D (fun v e hv E=>by cases hv;rw[<-o];exact E)
variable{τ:Type}
theorem bq{f:Int->σ->Option (Bp σ ρ)}{k:σ->Option (Bp τ ρ)}{r:Bp τ ρ}{R:ρ->AB->Prop}(_:HA i0 EN q i1 M)(h:fq (kl f lo b s0) k (fun v=>some (.ret v))=some r)(o:∀s,(O.get s).WF)(p:Bd O q i1 b)(_:c.xl i0=some jl)(u:O.jj live=mrg O (M lo s0) live)(w:∀i s,(mrg O (M i s) live).get EN=.tv (.int .i64 i))
  (A:∀i s r,i<b->f i s=some r->(∀k,((mrg O (M i s) live).get k).WF)->WP S c ⟨fun e=>∃s',r=.next s'/\Rn (e.jj live) (mrg O (M (Ae (i+1)) s') live),fun j e=>j=i0/\∃s',r=.brk s'/\Rn e (mrg O (M 0 s') jl),fun e=>∃v,r=.ret v/\R v e⟩ (mrg O (M i s) live))
  (B:∀i s,¬i<b->WP S c ⟨fun _=>False,fun j e=>j=i0/\Rn e (mrg O (M 0 s) jl),fun _=>False⟩ (mrg O (M i s) live))
  (C:∀s,k s=some r->n (mrg O (M 0 s) jl)):WP S (.block i0 (.loop live c)) ⟨n,x,fun e=>∃v,r=.ret v/\R v e⟩ O:=
 U6 h (p.out o) u w A B C (fun v e hv D=>by cases hv;exact⟨v,rfl,D⟩)
theorem bn{f:Int->σ->Option (Bp σ ρ)}(_:HA i0 EN q i1 M)(h:fq (kl f lo b s0) k (fun _=>none)=some r)(o:∀s,(O.get s).WF)(p:Bd O q i1 b)(_:c.xl i0=some jl)(u:O.jj live=mrg O (M lo s0) live)(w:∀i s,(mrg O (M i s) live).get EN=.tv (.int .i64 i))
  (A:∀i s r,i<b->f i s=some r->(∀k,((mrg O (M i s) live).get k).WF)->WP S c ⟨fun e=>∃s',r=.next s'/\Rn (e.jj live) (mrg O (M (Ae (i+1)) s') live),fun j e=>j=i0/\∃s',r=.brk s'/\Rn e (mrg O (M 0 s') jl),fun _=>∃v,r=.ret v/\False⟩ (mrg O (M i s) live))
  (B:∀i s,¬i<b->WP S c ⟨fun _=>False,fun j e=>j=i0/\Rn e (mrg O (M 0 s) jl),fun _=>False⟩ (mrg O (M i s) live))
  (C:∀s,k s=some r->n (mrg O (M 0 s) jl)):WP S (.block i0 (.loop live c)) ⟨n,x,t⟩ O:=
 U6 (R:=fun _ _=>False) h (p.out o) u w A B C (fun v e hv _=>by cases hv)
theorem YU{f:σ->Option (Bp σ ρ)}{R:ρ->AB->Prop}{M:σ->List (Nat×EV)}(h:fq (EO f s0) k kr=some r)(u:O.jj live=mrg O (M s0) live)
  (w:∀s r,f s=some r->(∀k,((mrg O (M s) live).get k).WF)->WP S c ⟨fun e=>∃s',r=.next s'/\Rn (e.jj live) (mrg O (M s') live),fun j e=>j=i0/\∃s',r=.brk s'/\Rn e (mrg O (M s') jl),fun e=>∃v,r=.ret v/\R v e⟩ (mrg O (M s) live))
  (A:∀s,k s=some r->n (mrg O (M s) jl))(B:∀v e,kr v=some r->R v e->t e):WP S (.block i0 (.loop live c)) ⟨n,x,t⟩ O:=by
 obtain ⟨o,ho,h⟩:=Uq h;refine pH ho (fun s=>mrg O (M s) live) (fun s=>mrg O (M s) jl) R u (fun s r hf C=>⟨PC.pr S c _ _ (w s r hf C).out _ (fun e he=>?_) (fun j e he=>?_) (fun _ h=>h)⟩) (fun s D=>A s (Zr h D)) (fun v e hv=>B v e (Zs h hv))
 .obtain⟨s',p,e2⟩:=he;exact⟨s',p,e2.out⟩
 .obtain⟨E,s',p,e2⟩:=he;exact⟨E,s',p,e2.out⟩
theorem pv{f:σ->Option (Bp σ β)}{R:β->AB->Prop}{M:σ->List (Nat×EV)}(_:HW i0 M)(_:HR R)(o:R r=t)(h:fq (EO f s0) k (fun v=>some v)=some r)(_:c.xl i0=some jl)(p:O.jj live=mrg O (M s0) live)
  (u:∀s r,f s=some r->(∀k,((mrg O (M s) live).get k).WF)->WP S c ⟨fun e=>∃s',r=.next s'/\Rn (e.jj live) (mrg O (M s') live),fun j e=>j=i0/\∃s',r=.brk s'/\Rn e (mrg O (M s') jl),fun e=>∃v,r=.ret v/\R v e⟩ (mrg O (M s) live))
  (w:∀s,k s=some r->n (mrg O (M s) jl)):WP S (.block i0 (.loop live c)) ⟨n,x,t⟩ O:=
 YU h p u w (fun v e hv A=>by cases hv;rw[<-o];exact A)
theorem pu{f:σ->Option (Bp σ ρ)}{k:σ->Option (Bp τ ρ)}{r:Bp τ ρ}{R:ρ->AB->Prop}{M:σ->List (Nat×EV)}(_:HW i0 M)(h:fq (EO f s0) k (fun v=>some (.ret v))=some r)(_:c.xl i0=some jl)(o:O.jj live=mrg O (M s0) live)
  (p:∀s r,f s=some r->(∀k,((mrg O (M s) live).get k).WF)->WP S c ⟨fun e=>∃s',r=.next s'/\Rn (e.jj live) (mrg O (M s') live),fun j e=>j=i0/\∃s',r=.brk s'/\Rn e (mrg O (M s') jl),fun e=>∃v,r=.ret v/\R v e⟩ (mrg O (M s) live))
  (u:∀s,k s=some r->n (mrg O (M s) jl)):WP S (.block i0 (.loop live c)) ⟨n,x,fun e=>∃v,r=.ret v/\R v e⟩ O:=
 YU h o p u (fun v e hv w=>by cases hv;exact⟨v,rfl,w⟩)
theorem pk{f:σ->Option (Bp σ ρ)}{M:σ->List (Nat×EV)}(_:HW i0 M)(h:fq (EO f s0) k (fun _=>none)=some r)(_:c.xl i0=some jl)(o:O.jj live=mrg O (M s0) live)
  (p:∀s r,f s=some r->(∀k,((mrg O (M s) live).get k).WF)->WP S c ⟨fun e=>∃s',r=.next s'/\Rn (e.jj live) (mrg O (M s') live),fun j e=>j=i0/\∃s',r=.brk s'/\Rn e (mrg O (M s') jl),fun _=>∃v,r=.ret v/\False⟩ (mrg O (M s) live))
  (u:∀s,k s=some r->n (mrg O (M s) jl)):WP S (.block i0 (.loop live c)) ⟨n,x,t⟩ O:=
 YU (R:=fun _ _=>False) h o p u (fun v e hv _=>by cases hv)
end loops
end
end Go.Sf
namespace Go.Sf
section
variable{P:Program}{S:FuncId->Fq->An->Prop}{K:AB->Prop}{os:List PR}{O:AB}{d:Nat}{α β:Type}{k:α->Option β}{r:β}
variable{j:Int}
theorem pR{n:Nat}{x i:AF}{es:Fq}{e:α->TV}{l:List α}{ik:IntKind}(h:(idx l j).bind k=some r)(p:x.val O=some (.list n es))(hi:i.val O=some (.int ik j))(he:es=l.map e)
  (u:∀a,idx l j=some a->k a=some r->WO S K os ((d,.tv (.pt (e a).cells))::O)):WO S K (⟨some d,.iad x i n,none⟩::os) O:=by
 obtain ⟨a,o,h⟩:=bind_some h;exact sL p hi he o rfl (u a o h)
variable{ka kb:IntKind}
theorem pi{β:Type}{γ:Type}{k:List γ->Option β}{r:β}{n:Nat}{x:AF}{lo hi:Option AF}{es:Fq}{e:γ->TV}{l:List γ}{a b:Int}(h:(slc l a b).bind k=some r)(w:x.val O=some (.list n es))(he:es=l.map e)(o:Er O 0 lo=some (.int ka a))(p:Er O l.length hi=some (.int kb b))
  (A:∀m,slc l a b=some m->k m=some r->WO S K os ((d,.tv (.list n (m.map e)))::O)):WO S K (⟨some d,.slc n x lo hi,none⟩::os) O:=by
 obtain ⟨m,u,h⟩:=bind_some h;exact sz w he o p u (A m u h)
theorem mK{k:ByteArray->Option β}{x:AF}{lo hi:Option AF}{s:ByteArray}{a b:Int}(h:(AaJ s a b).bind k=some r)(w:x.val O=some (.str s))(o:Er O 0 lo=some (.int ka a))(p:Er O s.size hi=some (.int kb b))
  (A:∀m,AaJ s a b=some m->k m=some r->WO S K os ((d,.tv (.str m))::O)):WO S K (⟨some d,.AaJ x lo hi,none⟩::os) O:=by
 obtain ⟨m,u,h⟩:=bind_some h;exact oc w o p u (A m u h)
theorem mJ{k:Int->Option β}{x i:AF}{s:ByteArray}{ik:IntKind}(h:(AaD s j).bind k=some r)(p:x.val O=some (.str s))(hi:i.val O=some (.int ik j))
  (u:∀b,AaD s j=some b->k b=some r->WO S K os ((d,.tv (.int .u8 b))::O)):WO S K (⟨some d,.AaD x i,none⟩::os) O:=by
 obtain ⟨b,o,h⟩:=bind_some h;exact oZ p hi o (u b o h)
theorem pI{γ:Type}{k:List γ->Option β}{n s:Nat}{y:AF}{es fs:Fq}{e:γ->TV}{l m:List γ}(h:(Ah l m).bind k=some r)(p:O.get s=.ow (.list n es))(u:y.val O=some (.list n fs))(he:es=l.map e)(hf:fs=m.map e)
  (w:∀x,Ah l m=some x->k x=some r->WO S K os ((d,.ow (.list n (x.map e)))::(s,.tv (.list n es))::O)):WO S K (⟨some d,.app n (.s s) y,none⟩::os) O:=by
 obtain ⟨x,o,h⟩:=bind_some h;exact ir p u he hf o rfl (w x o h)
theorem lz{γ:Type}{k:List γ->Option β}{n s:Nat}{y:AF}{es fs:Fq}{e:γ->TV}{l m:List γ}{f:List γ->TV}(h:(Ah l m).bind k=some r)(p:O.get s=.ow (.list n es))(u:y.val O=some (.list n fs))(he:es=l.map e)(hf:fs=m.map e)(c:Fl e n f)
  (w:∀x,Ah l m=some x->k x=some r->WO S K os ((d,.ow (f x))::(s,.tv (.list n es))::O)):WO S K (⟨some d,.app n (.s s) y,none⟩::os) O:=by
 obtain ⟨x,o,h⟩:=bind_some h;have:=w x o h;rw[c.eq]at this;exact ir p u he hf o rfl this
theorem l3{γ:Type}{k:List γ->Option β}{n s:Nat}{y:AF}{es fs:Fq}{e:γ->TV}{l m:List γ}(h:(Ah l m).bind k=some r)(p:O.get s=.xo n es)(u:y.val O=some (.list n fs))(he:es=l.map e)(hf:fs=m.map e)(w:O.j0 d=true)(hd:d≠s)
  (A:∀x,Ah l m=some x->k x=some r->WO S K os ((d,.xo n (x.map e))::(s,.undef)::O)):WO S K (⟨some d,.Abg n s y,none⟩::os) O:=by
 obtain ⟨x,o,h⟩:=bind_some h;exact oD p u he hf o rfl w hd (A x o h)
theorem l4{γ:Type}{k:List γ->Option β}{n s:Nat}{o:TV}{x:AF}{es:Fq}{e:γ->TV}{z:γ}{l:List γ}{ik:IntKind}(h:(TA l j z).bind k=some r)(w:O.get s=.xo n es)(A:x.val O=some (.int ik j))(he:es=l.map e)(B:o=e z)(C:O.j0 d=true)(hd:d≠s)(p:n=1)(D:o.cells=[o])
  (E:∀m,TA l j z=some m->k m=some r->WO S K os ((d,.xo n (m.map e))::(s,.undef)::O)):WO S K (⟨some d,.Abl n s o x,none⟩::os) O:=by
 obtain ⟨m,u,h⟩:=bind_some h;exact oE w A he B u rfl C hd p D (E m u h)
theorem pK{γ:Type}{k:List γ->Option β}{n s:Nat}{hi:AF}{es:Fq}{e:γ->TV}{l:List γ}{ik:IntKind}(h:(slc l 0 j).bind k=some r)(p:O.get s=.xo n es)(u:hi.val O=some (.int ik j))(he:es=l.map e)(w:O.j0 d=true)(hd:d≠s)
  (A:∀m,slc l 0 j=some m->k m=some r->WO S K os ((d,.xo n (m.map e))::(s,.undef)::O)):WO S K (⟨some d,.cut n s hi,none⟩::os) O:=by
 obtain ⟨m,o,h⟩:=bind_some h;exact sE p u he o rfl w hd (A m o h)
variable{zero:Fq}
theorem pW{γ:Type}{k:List γ->Option β}{n:Nat}{x:AF}{ik:IntKind}{e:γ->TV}{z:γ}(h:(IJ j z).bind k=some r)(p:O.j0 d=true)(u:x.val O=some (.int ik j))(w:(match zero with|[t]=>t|ts=>.agg ts)=e z)
  (A:∀m,IJ j z=some m->k m=some r->WO S K os ((d,.xo n (m.map e))::O)):WO S K (⟨some d,.mkx n zero x,none⟩::os) O:=by
 obtain ⟨m,o,h⟩:=bind_some h;exact sZ p u w o rfl (A m o h)
variable{qi:Option Nat}
theorem pw{x i:AF}{q n:Nat}{es:Fq}{e:α->TV}{l:List α}{ik:IntKind}(h:(idx l j).bind k=some r)(p:x.Aab O=some ((q,qi),n,es))(hi:i.val O=some (.int ik j))(he:es=l.map e)(u:(x.ev O).ref=some q)
  (w:∀a,idx l j=some a->k a=some r->WO S K os ((d,.lp q qi (j.toNat*n))::O)):WO S K (⟨some d,.xia x i n,none⟩::os) O:=by
 obtain ⟨a,o,h⟩:=bind_some h;exact tE p hi he o u (w a o h)
section ints
variable{k:Int->Option β}{x y:AF}{ik:IntKind}{a b:Int}
theorem pZ(h:(quo a b).bind k=some r)(p:x.val O=some (.int ik a))(u:y.val O=some (.int ik b))(w:∀q,quo a b=some q->k q=some r->WO S K os ((d,.tv (.int ik (ik.wrap q)))::O)):WO S K (⟨some d,.bin .i .quo x y,none⟩::os) O:=by
 obtain ⟨m,o,h⟩:=bind_some h;exact su p u o (w m o h)
theorem pf(h:(Zh a b).bind k=some r)(p:x.val O=some (.int ik a))(u:y.val O=some (.int ik b))(w:∀q,Zh a b=some q->k q=some r->WO S K os ((d,.tv (.int ik q))::O)):WO S K (⟨some d,.bin .i .rem x y,none⟩::os) O:=by
 obtain ⟨m,o,h⟩:=bind_some h;exact sw p u o (w m o h)
theorem pJ{op:BinOp}{o:IntKind}(h:(KX ik op a b).bind k=some r)(u:x.val O=some (.int ik a))(A:y.val O=some (.int o b))(B:ik=o\/op=.shl\/op=.shr)(C:∀q,KX ik op a b=some q->k q=some r->WO S K os ((d,.tv (.int ik q))::O)):WO S K (⟨some d,.bin .w op x y,none⟩::os) O:=by
 obtain ⟨m,p,h⟩:=bind_some h;exact r9 u A B p (C m p h)
end ints
theorem mI{k:ByteArray->Option β}{x y:AF}{u v:ByteArray}(h:(Mt u v).bind k=some r)(p:x.val O=some (.str u))(w:y.val O=some (.str v))(A:∀q,Mt u v=some q->k q=some r->WO S K os ((d,.tv (.str q))::O)):WO S K (⟨some d,.bin .s .add x y,none⟩::os) O:=by
 obtain ⟨m,o,h⟩:=bind_some h;exact oX p w o (A m o h)
theorem pS{k:Unit->Option β}{x:AF}{n:Nat}{es:Fq}{e:α->TV}{l:List α}(h:(TL l).bind k=some r)(o:x.val O=some (.list n es))(he:es=l.map e)(p:∀u,k u=some r->WO S K os ((d,.tv (.bool false))::O)):WO S K (⟨some d,.isn x,none⟩::os) O:=by
 obtain ⟨u,A,h⟩:=bind_some h;refine iw o he fun b w=>?_;obtain rfl:=cT A w;exact p u h
theorem iR{x:AF}{n:Nat}{e:α->TV}{a:α}(h:A1 O (x.ev O)=some (e a).cells)(o:Nat.beq (e a).cells.length n=true)(p:TV.agg (e a).cells=e a)(u:WO S K os ((d,.tv (e a))::O)):WO S K (⟨some d,.lda x n,none⟩::os) O:=by
 have o:=Nat.eq_of_beq_eq_true o;exact Wj h (by rw[o];exact Nat.ble_self_eq_true n) (by rw[List.take_of_length_le (by omega),p]) u
theorem pT{s n:Nat}{cs:List AP}{e:α->TV}{a:α}(h:O.get s=.bx cs)(p:cs.map (·.t)=(e a).cells)(o:Nat.beq (e a).cells.length n=true)(u:TV.agg (e a).cells=e a)(w:WO S K os ((d,.tv (e a))::O)):WO S K (⟨some d,.ldb s n,none⟩::os) O:=by
 have o:=Nat.eq_of_beq_eq_true o;exact iy h (by rw[p,o];exact Nat.ble_self_eq_true n) (by rw[p,List.take_of_length_le (by omega),u]) w
theorem mL{n s:Nat}{v:AF}{cs:List AP}{t:TV}(o:O.get s=.bx cs)(hv:v.ev O=.tv t)(p:t.cells.length=n)(h:Nat.beq n cs.length=true)(u:WO S K os ((s,.bx (t.cells.map (⟨false,·⟩)))::O)):WO S K (⟨none,.stb n s v,none⟩::os) O:=by
 have h:=Nat.eq_of_beq_eq_true h;refine jA o hv p (by rw[Nat.zero_add,h];exact Nat.ble_self_eq_true _) ?_ u;rw[List.take_zero,Nat.zero_add,h,List.drop_length,List.append_nil,List.nil_append]
theorem mF{x:AF}{n:Nat}{e:α->TV}{a:α}(h:A1 O (x.ev O)=some (((e a).cells.map fun t=>(⟨false,t⟩:AP)).map (·.t)))(o:Nat.beq (e a).cells.length n=true)(p:TV.agg (e a).cells=e a)(u:WO S K os ((d,.tv (e a))::O)):WO S K (⟨some d,.lda x n,none⟩::os) O:=
 iR (by rw[h,List.map_map];congr 1;exact List.map_id _) o p u
def Z8(n:Nat):Fq->Bool
 |[]=>true|t::ts=>Nat.beq t.cells.length n&&Z8 n ts
theorem Wt{n:Nat}:∀{ts:Fq},Z8 n ts=true->∀t∈ts,t.cells.length=n
 |[],_,_,h=>by cases h
 |t::ts,h,u,o=>by
  simp only[Z8,tg]at h;rcases List.mem_cons.1 o with rfl|o
  .exact Nat.eq_of_beq_eq_true h.1
  .exact Wt h.2 u o
variable{parts:List AF}
theorem pV{n:Nat}{ts:Fq}(h:vals O parts=some ts)(o:Z8 n ts=true)(p:WO S K os ((d,.ow (.list n ts))::O)):WO S K (⟨some d,.lst n parts,none⟩::os) O:=by
 have:=p.out;refine⟨?_⟩;simp only[wpOps,PR.wp,AE.wp,h,AV];exact⟨Wt o,this⟩
variable{zero:Fq}
theorem l5{parts:List (Nat×Nat×AF)}{ts:List (Nat×Nat×TV)}{cs:Fq}{e:α->TV}{a:α}(h:(some a).bind k=some r)(_:En α e)(o:Fw O parts=some ts)(p:EY zero ts=some cs)(he:TV.agg cs=e a)(u:∀x,x=a->k x=some r->WO S K os ((d,.tv (e x))::O)):WO S K (⟨some d,.bld zero parts,none⟩::os) O:=by
 rw [Option.bind_some]at h;exact Wi o p he (u a rfl h)
theorem pU{x:AF}{n:Nat}{cs:Fq}{e:α->TV}{a:α}(h:(some a).bind k=some r)(_:En α e)(o:A1 O (x.ev O)=some cs)(p:Nat.ble n cs.length=true)(he:TV.agg (cs.take n)=e a)(u:∀x,x=a->k x=some r->WO S K os ((d,.tv (e x))::O)):WO S K (⟨some d,.lda x n,none⟩::os) O:=by
 rw [Option.bind_some]at h;exact Wj o p he (u a rfl h)
inductive Lm{α:Type}(e:α->TV):Fq->List α->Prop
 |nil:Lm e [] []
 |cons {t:TV} {ts:Fq} {a:α} {l:List α}:t=e a->Lm e ts l->Lm e (t::ts) (a::l)
theorem Lm.eq{e:α->TV}{ts:Fq}{l:List α}(h:Lm e ts l):ts=l.map e:=by
 induction h with
 |nil=>rfl|cons h _ o=>rw[h,o];rfl
theorem mG{n:Nat}{ts:Fq}{e:α->TV}{l:List α}(h:vals O parts=some ts)(o:Lm e ts l)(p:∀a,(e a).cells.length=n)(u:WO S K os ((d,.ow (.list n (l.map e)))::O)):WO S K (⟨some d,.lst n parts,none⟩::os) O:=iz h o.eq p u
theorem mH{n:Nat}{ts:Fq}{e:α->TV}{l:List α}{f:List α->TV}(h:vals O parts=some ts)(p:Lm e ts l)(u:∀a,(e a).cells.length=n)(c:Fl e n f)(o:WO S K os ((d,.ow (f l))::O)):WO S K (⟨some d,.lst n parts,none⟩::os) O:=by
 rw [c.eq]at o;exact iz h p.eq u o
theorem lu{e:α->TV}{n:Ne}{x y:AF}{a:α}{cs:Fq}(o:x.val O=some (e a))(p:y.val O=some (.agg cs))[c:bc e][i:Decidable (a=c.un cs)](u:TV.agg (e a).cells=e a)(w:(e (c.un cs)).cells=cs)(A:(e a).cells.map TV.kd=n)(B:WO S K os ((d,.tv (.bool (decide (a=c.un cs))))::O)):WO S K (⟨some d,.bin (.a n) .eql x y,none⟩::os) O:=by
 obtain ⟨C,h⟩:=c.dec a (c.un cs);have:i=C:=Subsingleton.elim _ _;subst this;rw[<-u]at o;rw[w]at h;exact da o p A h B
theorem lw{e:α->TV}{n:Ne}{x y:AF}{a:α}{cs:Fq}(o:x.val O=some (e a))(p:y.val O=some (.agg cs))[c:bc e][i:Decidable (a=c.un cs)](u:TV.agg (e a).cells=e a)(w:(e (c.un cs)).cells=cs)(A:(e a).cells.map TV.kd=n)(B:WO S K os ((d,.tv (.bool (!decide (a=c.un cs))))::O)):WO S K (⟨some d,.bin (.a n) .neq x y,none⟩::os) O:=by
 obtain ⟨C,h⟩:=c.dec a (c.un cs);have:i=C:=Subsingleton.elim _ _;subst this;rw[<-u]at o;rw[w]at h;exact db o p A h B
theorem ls{e:α->TV}{n:Ne}{x y:AF}{a b:α}{i:Decidable (a=b)}(o:x.val O=some (e a))(p:y.val O=some (e b))(c:bc e)(u:TV.agg (e a).cells=e a)(w:TV.agg (e b).cells=e b)(A:(e a).cells.map TV.kd=n)(B:WO S K os ((d,.tv (.bool (decide (a=b))))::O)):WO S K (⟨some d,.bin (.a n) .eql x y,none⟩::os) O:=by
 obtain ⟨C,h⟩:=c.dec a b;have:i=C:=Subsingleton.elim _ _;subst this;rw[<-u]at o;rw[<-w]at p;exact da o p A h B
theorem lv{e:α->TV}{n:Ne}{x y:AF}{a b:α}{i:Decidable (a=b)}(o:x.val O=some (e a))(p:y.val O=some (e b))(c:bc e)(u:TV.agg (e a).cells=e a)(w:TV.agg (e b).cells=e b)(A:(e a).cells.map TV.kd=n)(B:WO S K os ((d,.tv (.bool (!decide (a=b))))::O)):WO S K (⟨some d,.bin (.a n) .neq x y,none⟩::os) O:=by
 obtain ⟨C,h⟩:=c.dec a b;have:i=C:=Subsingleton.elim _ _;subst this;rw[<-u]at o;rw[<-w]at p;exact db o p A h B
section calls
variable{x:Option α}{f:FuncId}{ts:Fq}{R:α->An}{args:List AF}
theorem pM{s:Nat}{cs:List AP}{row:Fq}(o:O.get s=.bx cs)(f:Fz cs row)(k:WO S K os ((s,.tv (.pt row))::O)):WO S K (⟨none,.frz s,none⟩::os) O:=sI o f.h k
theorem l7{t:α->TV}(h:x.bind k=some r)(c:Ct P x f ts R)(p:vals O args=some ts)(u:∀a,R a=.sh (t a))(w:∀a,x=some a->k a=some r->WO (AN P) K os ((d,.tv (t a))::O)):WO (AN P) K (⟨some d,.call f args,none⟩::os) O:=by
 obtain ⟨a,o,h⟩:=bind_some h;have:=c.snd a o;rw[u]at this;exact df p this (w a o h)
theorem jS{t:α->TV}(h:x.bind k=some r)(c:Ct P x f ts R)(p:vals O args=some ts)(u:∀a,R a=.own (t a))(w:∀a,x=some a->k a=some r->WO (AN P) K os ((d,.ow (t a))::O)):WO (AN P) K (⟨some d,.call f args,none⟩::os) O:=by
 obtain ⟨a,o,h⟩:=bind_some h;have:=c.snd a o;rw[u]at this;exact lJ p this (w a o h)
theorem jU{t:α->TV}(_:HS d)(h:x.bind k=some r)(c:Ct P x f ts R)(p:vals O args=some ts)(u:∀a,R a=.own (t a))(w:∀a,x=some a->k a=some r->WO (AN P) K os ((d,.tv (t a))::O)):WO (AN P) K (⟨some d,.call f args,none⟩::os) O:=by
 obtain ⟨a,o,h⟩:=bind_some h;have:=c.snd a o;rw[u]at this;exact df p (nE this) (w a o h)
theorem jW{n:Nat}{t:α->Fq}(h:x.bind k=some r)(c:Ct P x f ts R)(p:vals O args=some ts)(u:∀a,R a=.Aa1 n (t a))(w:∀a,x=some a->k a=some r->WO (AN P) K os ((d,.ow (.list n (t a)))::O)):WO (AN P) K (⟨some d,.call f args,none⟩::os) O:=by
 obtain ⟨a,o,h⟩:=bind_some h;have:=c.snd a o;rw[u]at this;exact lM p this (w a o h)
theorem jT{t:α->Fq}(h:x.bind k=some r)(c:Ct P x f ts R)(p:vals O args=some ts)(u:∀a,R a=.tp (t a))(w:∀a,x=some a->k a=some r->WO (AN P) K os ((d,.tp (t a))::O)):WO (AN P) K (⟨some d,.call f args,none⟩::os) O:=by
 obtain ⟨a,o,h⟩:=bind_some h;have:=c.snd a o;rw[u]at this;exact lK p this (w a o h)
theorem jP{t:α->List AP}(h:x.bind k=some r)(c:Ct P x f ts R)(p:vals O args=some ts)(u:∀a,R a=.oag (t a))(w:∀a,x=some a->k a=some r->WO (AN P) K os ((d,.tv (.agg ((t a).map fun c=>c.rel.t)))::O)):WO (AN P) K (⟨some d,.call f args,none⟩::os) O:=by
 obtain ⟨a,o,h⟩:=bind_some h;have:=c.snd a o;rw[u]at this;exact lF p this rfl (w a o h)
theorem jO{t:α->List AP}(h:x.bind k=some r)(c:Ct P x f ts R)(p:vals O args=some ts)(u:∀a,R a=.oag (t a))(w:∀a,x=some a->k a=some r->WO (AN P) K os ((d,.oag (t a))::O)):WO (AN P) K (⟨some d,.Aa4 f args,none⟩::os) O:=by
 obtain ⟨a,o,h⟩:=bind_some h;have:=c.snd a o;rw[u]at this;exact lD p this (w a o h)
theorem jX{n:Nat}{t:α->Fq}(h:x.bind k=some r)(c:Ct P x f ts R)(p:O.j0 d=true)(u:vals O args=some ts)(w:∀a,R a=.Aa1 n (t a))(A:∀a,x=some a->k a=some r->WO (AN P) K os ((d,.xo n (t a))::O)):WO (AN P) K (⟨some d,.AaO f args,none⟩::os) O:=by
 obtain ⟨a,o,h⟩:=bind_some h;have:=c.snd a o;rw[w]at this;exact lO p u this (A a o h)
theorem ef{γ:Type}{k:List γ->Option β}{x:Option (List γ)}{R:List γ->An}{n:Nat}{e:γ->TV}(h:x.bind k=some r)(c:Ct P x f ts R)(p:O.j0 d=true)(u:vals O args=some ts)(w:∀a,R a=.own (.list n (a.map e)))(hf:∀a,(e a).flat=true)(A:∀a,x=some a->k a=some r->WO (AN P) K os ((d,.xo n (a.map e))::O)):WO (AN P) K (⟨some d,.AaO f args,none⟩::os) O:=by
 obtain ⟨a,o,h⟩:=bind_some h;have:=c.snd a o;rw[w]at this;exact gK p u this rfl hf (A a o h)
theorem jQ{t:α->TV}(h:x.bind k=some r)(c:Ct P x f ts R)(p:Aau O args=some ts)(u:∀a,R a=.sh (t a))(w:∀a,(t a).flat=true)(A:∀a,x=some a->k a=some r->WO (AN P) K os ((d,.tv (t a))::O)):WO (AN P) K (⟨some d,.AaK f args,none⟩::os) O:=by
 obtain ⟨a,o,h⟩:=bind_some h;have:=c.snd a o;rw[u]at this;exact lG p this (w a) (A a o h)
theorem eb{t:α->Fq}(h:x.bind k=some r)(c:Ct P x f ts R)(p:Aau O args=some ts)(u:∀a,R a=.tp (t a))(w:∀a,TV.Aai (t a)=true)(A:∀a,x=some a->k a=some r->WO (AN P) K os ((d,.tp (t a))::O)):WO (AN P) K (⟨some d,.AaK f args,none⟩::os) O:=by
 obtain ⟨a,o,h⟩:=bind_some h;have:=c.snd a o;rw[u]at this;exact gF p this (w a) (A a o h)
theorem eZ{γ:Type}{k:List γ->Option β}{x:Option (List γ)}{R:List γ->An}{n:Nat}{e:γ->TV}(h:x.bind k=some r)(c:Ct P x f ts R)(p:Aau O args=some ts)(u:∀a,R a=.own (.list n (a.map e)))(hf:∀a,(e a).flat=true)(w:∀a,x=some a->k a=some r->WO (AN P) K os ((d,.ow (.list n (a.map e)))::O)):WO (AN P) K (⟨some d,.AaK f args,none⟩::os) O:=by
 obtain ⟨a,o,h⟩:=bind_some h;have:=c.snd a o;rw[u]at this;exact gE p this rfl rfl hf (w a o h)
theorem jN{t:α->Fq}(h:x.bind k=some r)(c:Ct P x f ts R)(p:vals O args=some ts)(u:∀a,R a=.ext (t a))(w:∀a,x=some a->k a=some r->WO (AN P) K os ((d,.tp (t a))::O)):WO (AN P) K (⟨some d,.Aa3 f args,none⟩::os) O:=by
 obtain ⟨a,o,h⟩:=bind_some h;have:=c.snd a o;rw[u]at this;exact lC p this (w a o h)
theorem Y3{i s:Nat}{cs:List AP}{cs':α->List AP}{us:α->Fq}{e:α->EV}(h:x.bind k=some r)(c:Ct P x f ts R)(p:(args[i]?).bind (·.place O)=some (s,0))(u:O.get s=.bx cs)(w:O.noX s none=true)(hd:d≠s)(A:Gx O i args=some ts)(B:∀a,R a=.bo cs (cs' a) i (us a))(he:∀a,EV.ofs (us a)=e a)(C:∀a,x=some a->k a=some r->WO (AN P) K os ((d,e a)::(s,.bx (cs' a))::O)):WO (AN P) K (⟨some d,.AaF f args i,none⟩::os) O:=by
 obtain ⟨a,o,h⟩:=bind_some h;have:=c.snd a o;rw[B]at this;exact k8 p u w hd A this (he a) (C a o h)
variable{qi:Option Nat}
theorem jR{k:Fp->Option β}{f:FuncId}{x:AF}{q:Nat}{es:Fq}{l:Fp}{y:Option Fp}{env':Fp->AB}(h:y.bind k=some r)(c:Ct P y f [.list 1 (l.map (TV.int .i64))] An.turn)(p:x.Aab O=some ((q,qi),1,es))(he:es=l.map (TV.int .i64))(hv:∀a,O.Aak q qi 1 (a.map (TV.int .i64))=env' a)(u:∀a,y=some a->k a=some r->WO (AN P) K os ((d,.tp [])::env' a)):WO (AN P) K (⟨some d,.AaX f x,none⟩::os) O:=by
 obtain ⟨a,o,h⟩:=bind_some h;exact lH p he rfl (c.snd a o) rfl (hv a) (u a o h)
theorem jM{k:Fp->Option β}{f:FuncId}{x:AF}{q:Nat}{es:Fq}{l:Fp}{y:Option Fp}(h:y.bind k=some r)(c:Ct P y f [.list 1 (l.map (TV.int .i64))] An.cut)(u:x.Aab O=some ((q,none),1,es))(he:es=l.map (TV.int .i64))(o:q≠d)(w:O.j0 d=true)(A:∀a,y=some a->k a=some r->WO (AN P) K os ((d,.xo 1 (a.map (TV.int .i64)))::(q,.undef)::O)):WO (AN P) K (⟨some d,.AaW f x,none⟩::os) O:=by
 obtain ⟨a,p,h⟩:=bind_some h;exact k9 u he rfl o w (c.snd a p) rfl (A a p h)
section values
variable{v:AF}{caps us:Fq}
theorem jV{t:α->TV}(h:x.bind k=some r)(c:Ct P x f ts R)(hv:v.val O=some (.clo f caps))(p:vals O args=some us)(u:us++caps=ts)(w:∀a,R a=.sh (t a))(A:∀a,x=some a->k a=some r->WO (AN P) K os ((d,.tv (t a))::O)):WO (AN P) K (⟨some d,.AaN v args,none⟩::os) O:=by
 obtain ⟨a,o,h⟩:=bind_some h;have:=c.snd a o;rw[w,<-u]at this;exact lL hv p this (A a o h)
theorem ed{t:α->TV}(h:x.bind k=some r)(c:Ct P x f ts R)(hv:v.val O=some (.clo f caps))(p:vals O args=some us)(u:us++caps=ts)(w:∀a,R a=.own (t a))(A:∀a,x=some a->k a=some r->WO (AN P) K os ((d,.ow (t a))::O)):WO (AN P) K (⟨some d,.AaN v args,none⟩::os) O:=by
 obtain ⟨a,o,h⟩:=bind_some h;have:=c.snd a o;rw[w,<-u]at this;exact gI hv p this (A a o h)
theorem ee{t:α->Fq}(h:x.bind k=some r)(c:Ct P x f ts R)(hv:v.val O=some (.clo f caps))(p:vals O args=some us)(u:us++caps=ts)(w:∀a,R a=.tp (t a))(A:∀a,x=some a->k a=some r->WO (AN P) K os ((d,.tp (t a))::O)):WO (AN P) K (⟨some d,.AaN v args,none⟩::os) O:=by
 obtain ⟨a,o,h⟩:=bind_some h;have:=c.snd a o;rw[w,<-u]at this;exact gJ hv p this (A a o h)
end values
end calls
inductive GS(g:Nat)(b:Bool):Ne->List PR->Ne->Nat->Prop
 |done {acc:Ne} {os:List PR}:GS g b acc os [] 0
 |step {acc js:Ne} {d n:Nat} {op:AE} {os:List PR}:GS g b (d::acc) os js n->GS g b acc (⟨some d,op,some (g,b)⟩::os) (d::js) (n+1)
 |Ab6 {acc js:Ne} {d n g':Nat} {b':Bool} {op:AE} {os:List PR}:acc.contains g'=true->GS g b (d::acc) os js n->GS g b acc (⟨some d,op,some (g',b')⟩::os) (d::js) (n+1)
def lr:Ne->AB->(AB->Prop)->Prop
 |[],z,K=>K z|k::ks,z,K=>∃j,lr ks ((k,j)::z) K
structure Gj(js:Ne)(d:Nat)(v:TV)(z e:AB):Prop where
 of::out:lr js z fun y=>e=(d,.tv v)::y
theorem cP{d:Nat}{v:TV}{z e:AB}(h:e=(d,.tv v)::z):Gj [] d v z e:=⟨h⟩
variable{ks:Ne}
theorem jt{k d:Nat}{v:TV}{j:EV}{z e:AB}(h:Gj ks d v ((k,j)::z) e):Gj (k::ks) d v z e:=⟨j,h.out⟩
theorem mC{js:Ne}{v:TV}{z:AB}(h:Gj js d v z O):WO S (Gj js d v z) [] O:=⟨h⟩
structure VK(js:Ne)(z:AB)(Q:AB->Prop):Prop where
 of::out:∀(d:Nat)(v:TV)(e:AB),Gj js d v z e->∃y,e=(d,.tv v)::y/\Q y
theorem ju{z:AB}{Q:AB->Prop}(h:Q z):VK [] z Q:=⟨fun _ _ _ he=>⟨z,he.out,h⟩⟩
theorem fI{k:Nat}{z:AB}{Q:AB->Prop}(h:∀j,VK ks ((k,j)::z) Q):VK (k::ks) z Q:=⟨fun d v e he=>by
 obtain ⟨j,o⟩:=he.out;exact(h j).out d v e ⟨o⟩⟩
theorem q9{dd:Option Nat}{op:AE}{g:Nat}{b q:Bool}(h:O.get g=.tv (.bool q))(o:bh g b q)(p:WO S K (⟨dd,op,none⟩::os) O):WO S K (⟨dd,op,some (g,b)⟩::os) O:=t6 h o.out p
theorem mg{op:AE}{g:Nat}{b q:Bool}(h:O.get g=.tv (.bool q))(o:Wo g b q)(p:WO S K os ((d,.sk)::O)):WO S K (⟨some d,op,some (g,b)⟩::os) O:=q8 h o.out p
theorem aN{d n:Nat}{js:Ne}{v:TV}(h:WO S (Gj js d v O) (os.take n) O)(o:VK js O fun e=>WO S K (os.drop n) ((d,.tv v)::e)):WO S K os O:=
 qz n (Gj js d v) h fun e he=>by
  obtain ⟨y,rfl,p⟩:=o.out d v e he;exact p
section groups
variable{g n:Nat}{js:Ne}{c:Bool}{dd gd:Option Nat}{op:AE}{x y z:AF}{gg:Option (Nat×Bool)}
variable{T:K1}{os':List PR}
theorem pQ{k:Bool->Option β}(h:(if c=true then T else some false).bind k=some r)(_:GS g true [] os js n)(A:O.get g=.tv (.bool c))(_:os[n]?=some ⟨some d,.pick x y z,gg⟩)
  (p:∀v,bh g true c->c=true->T=some v->WO S (Gj js d (.bool v) O) (os.take (n+1)) O)(u:∀v,Wo g true c->c=false->some false=some v->WO S (Gj js d (.bool v) O) (os.take (n+1)) O)
  (w:∀v,k v=some r->VK js O fun e=>WO S K (os.drop (n+1)) ((d,.tv (.bool v))::e))(ho:os=⟨dd,op,some (g,true)⟩::os'):WO S K (⟨dd,op,some (g,true)⟩::os') O:=by
 obtain ⟨v,hv,h⟩:=bind_some h;rw[<-ho];refine aN (n:=n+1) (v:=.bool v) ?_ (w v h);rcases Bool.eq_false_or_eq_true c with o|o
 .exact p v ⟨o⟩ o (UJ o hv)
 .exact u v ⟨by rw[o];rfl⟩ o (UI o hv)
theorem pP{k:Bool->Option β}(h:(if c=true then some true else T).bind k=some r)(_:GS g false [] os js n)(A:O.get g=.tv (.bool c))(_:os[n]?=some ⟨some d,.pick x y z,gg⟩)
  (p:∀v,bh g false c->c=false->T=some v->WO S (Gj js d (.bool v) O) (os.take (n+1)) O)(u:∀v,Wo g false c->c=true->some true=some v->WO S (Gj js d (.bool v) O) (os.take (n+1)) O)
  (w:∀v,k v=some r->VK js O fun e=>WO S K (os.drop (n+1)) ((d,.tv (.bool v))::e))(ho:os=⟨dd,op,some (g,false)⟩::os'):WO S K (⟨dd,op,some (g,false)⟩::os') O:=by
 obtain ⟨v,hv,h⟩:=bind_some h;rw[<-ho];refine aN (n:=n+1) (v:=.bool v) ?_ (w v h);rcases Bool.eq_false_or_eq_true c with o|o
 .exact u v ⟨by rw[o];rfl⟩ o (UJ o hv)
 .exact p v ⟨o⟩ o (UI o hv)
theorem pO{e:Bool}(ho:os=⟨dd,op,some (g,true)⟩::os')(_:GS g true [] os js n)(u:O.get g=.tv (.bool c))(_:os[n]?=some ⟨some d,.pick x y z,gg⟩)
  (h:bh g true c->c=true->WO S (Gj js d (.bool e) O) (os.take (n+1)) O)(o:Wo g true c->c=false->WO S (Gj js d (.bool false) O) (os.take (n+1)) O)
  (p:VK js O fun z=>WO S K (os.drop (n+1)) ((d,.tv (.bool (c&&e)))::z)):WO S K (⟨dd,op,some (g,true)⟩::os') O:=by
 rw [<-ho];refine aN (n:=n+1) (v:=.bool (c&&e)) ?_ p;cases c
 .exact o ⟨rfl⟩ rfl
 .exact h ⟨rfl⟩ rfl
theorem pN{e:Bool}(ho:os=⟨dd,op,some (g,false)⟩::os')(_:GS g false [] os js n)(u:O.get g=.tv (.bool c))(_:os[n]?=some ⟨some d,.pick x y z,gg⟩)
  (h:bh g false c->c=false->WO S (Gj js d (.bool e) O) (os.take (n+1)) O)(o:Wo g false c->c=true->WO S (Gj js d (.bool true) O) (os.take (n+1)) O)
  (p:VK js O fun z=>WO S K (os.drop (n+1)) ((d,.tv (.bool (c||e)))::z)):WO S K (⟨dd,op,some (g,false)⟩::os') O:=by
 rw [<-ho];refine aN (n:=n+1) (v:=.bool (c||e)) ?_ p;cases c
 .exact h ⟨rfl⟩ rfl
 .exact o ⟨rfl⟩ rfl
end groups
variable{qi:Option Nat}{j:Int}
theorem px{x:AF}{q n i:Nat}{es row:Fq}{e:α->TV}{l:List α}{a:α}{t:TV}(h:x.ev O=.lp q qi (j.toNat*n+i))(o:O.x8 q qi=some (n,es))(he:es=l.map e)(p:∀a,(e a).cells.length=n)(u:idx l j=some a)(hi:Nat.blt i n=true)(w:(e a).cells=row)(A:row[i]?=some t)
  (B:WO S K os ((d,.tv t)::O)):WO S K (⟨some d,.xld x,none⟩::os) O:=jC h o he p u rfl hi w A B
theorem mN{x:AF}{q n:Nat}{es row:Fq}{e:α->TV}{l:List α}{a:α}{t:TV}(h:x.ev O=.lp q qi (j.toNat*n))(o:O.x8 q qi=some (n,es))(he:es=l.map e)(p:∀a,(e a).cells.length=n)(u:idx l j=some a)(hi:Nat.blt 0 n=true)(w:(e a).cells=row)(A:row[0]?=some t)
  (B:WO S K os ((d,.tv t)::O)):WO S K (⟨some d,.xld x,none⟩::os) O:=jC (i:=0) h o he p u rfl hi w A B
theorem mP{γ:Type}{s:Nat}{v:AF}{q n i:Nat}{env':AB}{es:Fq}{e:α->TV}{g:γ->TV}{l:List α}{a:α}{b:γ}{f:α->γ->α}(_:HX s f)(h:(AF.s s).ev O=.lp q qi (j.toNat*n+i))(p:O.x8 q qi=some (n,es))(hv:v.ev O=.tv (g b))(he:es=l.map e)(u:∀a,(e a).cells.length=n)(w:idx l j=some a)(hi:Nat.blt i n=true)(A:(g b).cells=[g b])
  (B:(e (f a b)).cells=(e a).cells.set i (g b))(o:O.Aak q qi n ((BG l j (f a b)).map e)=env')(C:WO S K os env'):WO S K (⟨none,.xst (.s s) v 1,none⟩::os) O:=jD h p hv he u w rfl hi A B rfl o C
theorem mO{x v:AF}{q n:Nat}{env':AB}{es:Fq}{e:α->TV}{l:List α}{a b:α}(h:x.ev O=.lp q qi (j.toNat*n))(p:O.x8 q qi=some (n,es))(hv:v.ev O=.tv (e b))(he:es=l.map e)(u:∀a,(e a).cells.length=n)(w:idx l j=some a)(hi:Nat.blt 0 n=true)(A:(e b).cells=[e b])
  (B:(e b).cells=(e a).cells.set 0 (e b))(o:O.Aak q qi n ((BG l j b).map e)=env')(C:WO S K os env'):WO S K (⟨none,.xst x v 1,none⟩::os) O:=jD (i:=0) h p hv he u w rfl hi A B rfl o C
end
end Go.Sf
namespace Go.Sf
section
variable{S:FuncId->Fq->An->Prop}{K:AB->Prop}{os:List PR}{O:AB}{d:Nat}
theorem sN{x:AF}{s o:Nat}{es:Fq}(h:x.ev O=.bp s o)(p:O.nat s o=some es)(k:WO S K os ((d,.nh s o .hd)::O)):WO S K (⟨some d,.lan x,none⟩::os) O:=by
 replace k:=k.out;refine⟨?_⟩;simp only[wpOps,PR.wp,AE.wp,h,p,AV];exact k
variable{j:Int}
theorem sj{α:Type}{x:AF}{s o:Nat}{es:Fq}{e:α->TV}{l:List α}{a:α}(h:x.ev O=.nh s o (.el j.toNat))(u:O.nat s o=some es)(he:es=l.map e)(w:idx l j=some a)(k:WO S K os ((d,.nh s o (.rw j.toNat))::O)):WO S K (⟨some d,.nld x,none⟩::os) O:=by
 replace k:=k.out;refine⟨?_⟩;subst he;obtain⟨B,C,A⟩:=GB w;have p:j.toNat<l.length:=(List.getElem?_eq_some_iff.1 A).1;simp only[wpOps,PR.wp,AE.wp,h,u,AV];exact⟨by simpa using p,k⟩
variable{fs:Fq}
theorem oS{q n:Nat}(h:O.get q=.xo n fs)(o:O.j0 d=true)(hd:d≠q)(k:WO S K os ((d,.x1 n fs)::(q,.undef)::O)):WO S K (⟨some d,.Abw q,none⟩::os) O:=by
 replace k:=k.out;refine⟨?_⟩;simp only[wpOps,PR.wp,AE.wp,h];exact⟨⟨o,hd⟩,k⟩
theorem oM{x:AF}{q s h:Nat}{cs cs':List AP}{es:Fq}(p:x.place O=some (s,h))(u:O.get q=.xn es)(w:O.get s=.bx cs)(A:O.noX s (some h)=true)(B:Nat.blt h cs.length=true)(o:cs.set h ⟨true,.xn es⟩=cs')(k:WO S K os ((s,.bx cs')::(q,.undef)::O)):WO S K (⟨none,.cpt x q,none⟩::os) O:=by
 replace k:=k.out;refine⟨?_⟩;subst o;simp only[wpOps,PR.wp,AE.wp,p,u,w];exact⟨A,Nat.le_of_ble_eq_true B,k⟩
theorem oJ{q:Nat}{cs:List AP}(h:O.get q=.oag cs)(o:O.j0 d=true)(hd:d≠q)(k:WO S K os ((d,.bx cs)::(q,.undef)::O)):WO S K (⟨some d,.AbE q,none⟩::os) O:=by
 replace k:=k.out;refine⟨?_⟩;simp only[wpOps,PR.wp,AE.wp,h];exact⟨⟨o,hd⟩,k⟩
theorem sP{s n:Nat}{cs cs':List AP}(h:O.get s=.bx cs)(o:Nat.beq cs.length n=true)(hd:d≠s)(p:(cs.map fun _=>(⟨false,.undef⟩:AP))=cs')(k:WO S K os ((d,.oag cs)::(s,.bx cs')::O)):WO S K (⟨some d,.ldg s n,none⟩::os) O:=by
 replace k:=k.out;refine⟨?_⟩;subst p;simp only[wpOps,PR.wp,AE.wp,h];exact⟨Nat.eq_of_beq_eq_true o,hd,k⟩
theorem s7{x v:AF}{s h n:Nat}{p:List (Option AP)}{t:TV}{cs ds cs':List AP}(u:x.place O=some (s,h))(hv:v.val O=some t)(w:O.get s=.bx cs)(A:DK p t.cells=some ds)(B:Nat.beq t.cells.length n=true)(o:Nat.ble (h+n) cs.length=true)(C:O.noX s none=true)(D:cs.take h++ds++cs.drop (h+n)=cs')
  (k:WO S K os ((s,.bx cs')::O)):WO S K (⟨none,.stq n p x v,none⟩::os) O:=by
 replace k:=k.out;refine⟨?_⟩;subst D;simp only[wpOps,PR.wp,AE.wp,u,hv,w,A,AV];exact⟨Nat.eq_of_beq_eq_true B,Nat.le_of_ble_eq_true o,C,k⟩
variable{j2:Int}
theorem sq{α:Type}{x v:AF}{s o:Nat}{es:Fq}{env':AB}{e:List α->TV}{e2:α->TV}{l:List (List α)}{m:List α}{A b:α}{t:TV}(h:x.ev O=.nh s o (.rp j.toNat j2.toNat))(B:O.nat s o=some es)(hv:v.ev O=.tv t)(he:es=l.map e)(w:∀m,e m=.list 1 (m.map e2))(C:idx l j=some m)(D:idx m j2=some A)(E:t=e2 b)(F:t.cells=[t])(G:t.flat=true)
  (p:O.AbW s o ((BG l j (BG m j2 b)).map e)=env')(k:WO S K os env'):WO S K (⟨none,.nst x v,none⟩::os) O:=by
 replace k:=k.out;refine⟨?_⟩;subst he p E;obtain⟨J,L,H⟩:=GB C;obtain⟨m0,m1,I⟩:=GB D;have u:j2.toNat<m.length:=(List.getElem?_eq_some_iff.1 I).1;simp only[wpOps,PR.wp,AE.wp,h,B,hv,AV];refine⟨m.map e2,by rw[List.getElem?_map,H];simp[w],by simpa using u,F,G,?_⟩;have:(l.map e).set j.toNat (.list 1 ((m.map e2).set j2.toNat (e2 b)))=(BG l j (BG m j2 b)).map e:=by
  simp only[BG,List.map_set,w]
 rw [this];exact k
end
section
variable{P:Program}{K:AB->Prop}{os:List PR}{O:AB}{d:Nat}{α β γ ρ:Type}{f:FuncId}{args:List AF}{ts:Fq}{R:α->An}{x:Option α}{k:α->Option ρ}{r:ρ}
variable{j:Int}
theorem pX{x i:AF}{s o:Nat}{es:Fq}{e:α->TV}{l:List α}{ik:IntKind}{S:FuncId->Fq->An->Prop}(h:(idx l j).bind k=some r)(u:x.ev O=.nh s o .hd)(w:O.nat s o=some es)(hi:i.val O=some (.int ik j))(he:es=l.map e)
  (A:∀a,idx l j=some a->k a=some r->WO S K os ((d,.nh s o (.el j.toNat))::O)):WO S K (⟨some d,.nia x i,none⟩::os) O:=by
 obtain ⟨a,p,h⟩:=bind_some h;have B:=(A a p h).out;refine⟨?_⟩;subst he;obtain⟨D,F,E⟩:=GB p;have C:j.toNat<l.length:=(List.getElem?_eq_some_iff.1 E).1;simp only[wpOps,PR.wp,AE.wp,u,w,hi,AV];exact⟨D,by simp only[ca];omega,B⟩
variable{e2:α->TV}{j2:Int}
theorem pY{x i:AF}{s o:Nat}{es:Fq}{e:List α->TV}{l:List (List α)}{m:List α}{ik:IntKind}{S:FuncId->Fq->An->Prop}(h:(idx m j2).bind k=some r)(u:x.ev O=.nh s o (.rw j.toNat))(w:O.nat s o=some es)(hi:i.val O=some (.int ik j2))(he:es=l.map e)(A:∀m,e m=.list 1 (m.map e2))(B:idx l j=some m)
  (C:∀a,idx m j2=some a->k a=some r->WO S K os ((d,.nh s o (.rp j.toNat j2.toNat))::O)):WO S K (⟨some d,.nia x i,none⟩::os) O:=by
 obtain ⟨b,p,h⟩:=bind_some h;have D:=(C b p h).out;refine⟨?_⟩;subst he;obtain⟨H,I,F⟩:=GB B;obtain⟨m0,m1,G⟩:=GB p;have E:j2.toNat<m.length:=(List.getElem?_eq_some_iff.1 G).1;simp only[wpOps,PR.wp,AE.wp,u,w,hi,AV];exact⟨m0,m.map e2,by rw[List.getElem?_map,F];simp[A],by simp only[ca];omega,D⟩
theorem ly{mm q s o:Nat}{es fs:Fq}{cs cs':List AP}{n:Nat}{e:β->TV}{l:List β}{m:β}{k:List β->Option ρ}{S:FuncId->Fq->An->Prop}(h:(Ah l [m]).bind k=some r)(w:O.get mm=.nh s o .hd)(A:O.get q=.x1 n fs)(B:O.get s=.bx cs)(C:O.nat s o=some es)(he:es=l.map e)(hf:TV.list n fs=e m)(u:O.j0 d=true)(hd:d≠mm/\d≠q/\mm≠q)(D:cs.set o ⟨false,.undef⟩=cs')
  (E:∀a,Ah l [m]=some a->k a=some r->WO S K os ((d,.xn (a.map e))::(s,.bx cs')::(mm,.undef)::(q,.undef)::O)):WO S K (⟨some d,.Aa2 mm q,none⟩::os) O:=by
 obtain ⟨a,p,h⟩:=bind_some h;have G:=(E a p h).out;refine⟨?_⟩;subst he D;unfold Ah at p;split at p
 .rename_i F;cases p;simp only[wpOps,PR.wp,AE.wp,w,A,B,C,AV];refine⟨by simpa using F,⟨u,hd⟩,?_⟩;rw[hf];simpa[AB.put]using G
 .cases p
theorem eY{u:α->List β}{v:α->List γ}{w A:Nat}{p:β->TV}{e2:γ->TV}(h:x.bind k=some r)(c:Ct P x f ts R)(E:vals O args=some ts)(F:∀a,R a=.oag [⟨true,.list w ((u a).map p)⟩,⟨true,.list A ((v a).map e2)⟩])(G:∀a,(p a).flat=true)(H:∀a,(e2 a).flat=true)
  (I:∀a,x=some a->k a=some r->WO (AN P) K os ((d,.oag [⟨true,.xl w ((u a).map p)⟩,⟨true,.xl A ((v a).map e2)⟩])::O)):WO (AN P) K (⟨some d,.AaQ f args,none⟩::os) O:=by
 obtain ⟨a,D,h⟩:=bind_some h;have C:=c.snd a D;rw[F]at C;have J:=(I a D h).out;have o:∀{τ:Type}(e:τ->TV)(l:List τ),(∀a,(e a).flat=true)->TV.Aai (l.map e)=true:=by
  intro τ e l he
  induction l with
  |nil=>rfl|cons a l L=>simp[TV.Aai,he,L]
 refine ⟨?_⟩;simp only[wpOps,PR.wp,AE.wp,E,AV];refine⟨_,C,fun c B=>?_,fun _=>J⟩;simp only[List.mem_cons,List.not_mem_nil,or_false]at B;rcases B with rfl|rfl
 .exact⟨_,_,rfl,o _ _ G⟩
 .exact⟨_,_,rfl,o _ _ H⟩
inductive NL:List AP->List AP->Prop
 |nil {xs:List AP}:xs=[]->NL xs []
 |cons {xs ys zs:List AP} {o:Bool} {t:TV}:xs=⟨o,t⟩::ys->NL ys zs->NL xs (⟨o,t⟩::zs)
theorem NL.eq{xs o:List AP}(h:NL xs o):xs=o:=by
 induction h with
 |nil h=>exact h|cons h _ p=>rw[h,p]
theorem pj{S:FuncId->Fq->An->Prop}{K:AB->Prop}{os:List PR}{O:AB}{n s h:Nat}{x v:AF}{cs cs':List AP}{t:TV}(o:x.place O=some (s,h))(p:O.get s=.bx cs)(hv:v.ev O=.tv t)(u:t.cells.length=n)(w:Nat.ble (h+n) cs.length=true)(A:NL (cs.take h++t.cells.map (⟨false,·⟩)++cs.drop (h+n)) cs')
  (k:WO S K os ((s,.bx cs')::O)):WO S K (⟨none,.st n x v,none⟩::os) O:=od o p hv u w A.eq k
theorem mM{S:FuncId->Fq->An->Prop}{K:AB->Prop}{os:List PR}{O:AB}{s h q:Nat}{x:AF}{cs cs':List AP}{t:TV}(o:x.place O=some (s,h))(p:O.get s=.bx cs)(hv:O.get q=.ow t)(u:q≠s)(w:Nat.blt h cs.length=true)(A:NL (cs.set h ⟨true,t⟩) cs')
  (k:WO S K os ((s,.bx cs')::(q,.tv t)::O)):WO S K (⟨none,.st 1 x (.s q),none⟩::os) O:=jB o p hv u w A.eq k
theorem VX:∀(ts:List (Nat×Nat×TV))(done rest:Fq),Ta done.length ts=true->(HO ts).length<=rest.length->EY (done++rest) ts=some (done++(HO ts++rest.drop (HO ts).length))
 |[],done,rest,_,h=>by simp[EY,HO]|(i,n,t)::r,done,rest,p,h=>by
  simp only[Ta,tg,Nat.beq_eq]at p;obtain⟨⟨rfl,o⟩,A⟩:=p;simp only[HO,cE]at h;have u:n<=rest.length:=by omega
  simp only[EY];rw[ae ⟨o,by rw[cE];omega⟩];have w:done++rest=done++(rest.take n++rest.drop n):=by rw[List.take_append_drop]
  rw [w,SE t.cells done (rest.take n) (rest.drop n) (by rw[c7];omega),<-ci];rw[VX r (done++t.cells) (rest.drop n) (by rw[cE,o];exact A) (by rw[List.length_drop];omega)];simp[HO,List.drop_drop,o]
inductive NT:Fq->Fq->Prop
 |nil {xs:Fq}:xs=[]->NT xs []
 |cons {xs ys zs:Fq} {t:TV}:xs=t::ys->NT ys zs->NT xs (t::zs)
theorem NT.eq{xs o:Fq}(h:NT xs o):xs=o:=by
 induction h with
 |nil h=>exact h|cons h _ p=>rw[h,p]
variable{zero:Fq}
theorem l6{S:FuncId->Fq->An->Prop}{K:AB->Prop}{os:List PR}{O:AB}{d:Nat}{parts:List (Nat×Nat×AF)}{ts:List (Nat×Nat×TV)}{cs:Fq}(h:Fw O parts=some ts)(o:Ta 0 ts=true)(p:Nat.ble (HO ts).length zero.length=true)(u:NT (HO ts++zero.drop (HO ts).length) cs)(k:WO S K os ((d,.tv (.agg cs))::O)):WO S K (⟨some d,.bld zero parts,none⟩::os) O:=
 Wi h (by have:=VX ts [] zero o (Nat.le_of_ble_eq_true p);simpa using this) (by rw[u.eq]) k
structure HY{α A B C:Type}(n:Nat)(f:A->B->C->α)(g1:A->TV)(g2:B->TV)(g3:C->TV):Prop where
variable{qi:Option Nat}
theorem mQ{S:FuncId->Fq->An->Prop}{K:AB->Prop}{os:List PR}{O:AB}{α A B C:Type}{f:A->B->C->α}{o:Nat}{v:AF}{q n:Nat}{env':AB}{es cs cs':Fq}{e:α->TV}{l:List α}{a:α}{E:A}{F:B}{G:C}{p:A->TV}{u:B->TV}{w:C->TV}(_:HY o f p u w)(h:(AF.s o).ev O=.lp q qi (j.toNat*n))(H:O.x8 q qi=some (n,es))(he:es=l.map e)(I:∀a,(e a).cells.length=n)(hv:v.ev O=.tv (.agg cs))(J:NT cs cs')(L:cs'=[p E,u F,w G])(hf:∀a b c,TV.agg [p a,u b,w c]=e (f a b c))(N:idx l j=some a)(U:Nat.blt 0 n=true)
  (D:O.Aak q qi n ((BG l j (f E F G)).map e)=env')(k:WO S K os env'):WO S K (⟨none,.xst (.s o) v n,none⟩::os) O:=jE h H (by rw[hv,J.eq,L,hf]) he I N U D k
theorem py{S:FuncId->Fq->An->Prop}{α:Type}{x v:AF}{q n:Nat}{env':AB}{es:Fq}{e:α->TV}{l:List α}{a b:α}(h:x.ev O=.lp q qi (j.toNat*n))(p:O.x8 q qi=some (n,es))(he:es=l.map e)(u:∀a,(e a).cells.length=n)(hv:v.ev O=.tv (e b))(w:idx l j=some a)(A:Nat.blt 0 n=true)
  (o:O.Aak q qi n ((BG l j b).map e)=env')(k:WO S K os env'):WO S K (⟨none,.xst x v n,none⟩::os) O:=jE h p hv he u w A o k
theorem jL{i q:Nat}{cs:List AP}{o:Fq}{p:α->An}{e:α->EV}(h:x.bind k=some r)(c:Ct P x f o R)(hi:args[i]?=some (.s q))(B:O.get q=.oag cs)(hd:d≠q)(C:Gx O i args=some ts)(u:ts.set i (.agg (cs.map fun _=>.undef))=o)(D:∀a,R a=.ag cs i (p a))(he:∀a,(p a).aev=e a)
  (E:∀a,x=some a->k a=some r->WO (AN P) K os ((d,e a)::(q,.undef)::O)):WO (AN P) K (⟨some d,.AaY f args i,none⟩::os) O:=by
 obtain ⟨a,A,h⟩:=bind_some h;have w:=c.snd a A;rw[D]at w;have F:=(E a A h).out;refine⟨?_⟩;subst u;simp only[wpOps,PR.wp,AE.wp,hi,B,C,AV];refine⟨hd,p a,w,fun _=>?_⟩;rw[he];exact F
end
section
variable{S:FuncId->Fq->An->Prop}{K:AB->Prop}{os:List PR}{O:AB}{d:Nat}
theorem sY(k:∀b,WO S K os ((d,.mx (.mp b []))::O)):WO S K (⟨some d,.mkm,none⟩::os) O:=
 ⟨fun b=>(k b).out⟩
variable{kvs:BD}
theorem sf{s b:Nat}(h:O.get s=.mx (.mp b kvs))(k:WO S K os ((d,.tv (.AaM b))::O)):WO S K (⟨some d,.mvm s,none⟩::os) O:=by
 replace k:=k.out;refine⟨?_⟩;simp only[wpOps,PR.wp,AE.wp,h];exact k
variable{ky:Int×Int}
theorem sa{s b:Nat}{m x:AF}{t:TV}(h:O.get s=.mx (.mp b kvs))(o:m.val O=some (.AaM b))(p:x.val O=some t)(u:t.AbI?=some ky)(k:WO S K os ((d,.tp [.int .i64 ((kvs.look ky).getD 0),.bool (kvs.look ky).isSome])::O)):WO S K (⟨some d,.mlk s m x,none⟩::os) O:=by
 replace k:=k.out;refine⟨?_⟩;simp only[wpOps,PR.wp,AE.wp,h,o,p,u,AV];exact⟨trivial,k⟩
theorem se{s b:Nat}{m x v:AF}{t:TV}{n:Int}(h:O.get s=.mx (.mp b kvs))(o:m.val O=some (.AaM b))(p:x.val O=some t)(u:t.AbI?=some ky)(hv:v.val O=some (.int .i64 n))(k:WO S K os ((s,.mx (.mp b (kvs.set ky n)))::O)):WO S K (⟨none,.mup s m x v,none⟩::os) O:=by
 replace k:=k.out;refine⟨?_⟩;simp only[wpOps,PR.wp,AE.wp,h,o,p,u,hv,AV];exact⟨trivial,k⟩
variable{todo:BD}
theorem sW{s:Nat}{p:(Int×Int)×Int}(h:O.get s=.mx (.mi (some p) todo))(k:WO S K os ((d,.tp [Od p.1,.int .i64 p.2])::O)):WO S K (⟨some d,.men s,none⟩::os) O:=by
 replace k:=k.out;refine⟨?_⟩;simp only[wpOps,PR.wp,AE.wp,h];exact k
theorem di{s b:Nat}{ts:Fq}(h:O.get s=.mx (.tm b kvs ts))(k:WO S K os ((d,.tp (.AaM b::ts))::O)):WO S K (⟨some d,.mvm s,none⟩::os) O:=by
 replace k:=k.out;refine⟨?_⟩;simp only[wpOps,PR.wp,AE.wp,h];exact k
theorem dh{s:Nat}{ts:Fq}(h:O.get s=.tp ts)(k:WO S K os ((d,.tp ts)::O)):WO S K (⟨some d,.mvm s,none⟩::os) O:=by
 replace k:=k.out;refine⟨?_⟩;simp only[wpOps,PR.wp,AE.wp,h];exact k
theorem i7{s b:Nat}{ts:Fq}{m:AF}(h:O.get s=.mx (.tm b kvs ts))(o:m.val O=some (.AaM b))(hd:d≠s)(k:WO S K os ((d,.mx (.mi none kvs))::(s,.undef)::O)):WO S K (⟨some d,.mrg s m,none⟩::os) O:=by
 replace k:=k.out;refine⟨?_⟩;simp only[wpOps,PR.wp,AE.wp,h,o];exact⟨⟨hd,trivial⟩,k⟩
theorem sb{s:Nat}{last:Option ((Int×Int)×Int)}(h:O.get s=.mx (.mi last todo))(hd:d≠s)(u:todo=[]->WO S K os ((d,.tp [.bool false])::O))(w:∀p o,todo.Perm (p::o)->WO S K os ((d,.tp [.bool true,Od p.1,.int .i64 p.2])::(s,.mx (.mi (some p) o))::O)):WO S K (⟨some d,.mnx s,none⟩::os) O:=by
 refine ⟨?_⟩;simp only[wpOps,PR.wp,AE.wp,h];exact⟨hd,fun e=>(u e).out,fun p t A=>(w p t A).out⟩
theorem gH{f:FuncId}{args:List AF}{ts us:Fq}(hv:vals O args=some ts)(h:S f ts (.mpr kvs us))(k:∀b,WO S K os ((d,.mx (.tm b kvs us))::O)):WO S K (⟨some d,.AaV f args,none⟩::os) O:=by
 refine ⟨?_⟩;simp only[wpOps,PR.wp,AE.wp,hv,AV];exact .inr ⟨kvs,us,h,fun _ b=>(k b).out⟩
theorem gG{f:FuncId}{args:List AF}{ts us:Fq}(hv:vals O args=some ts)(h:S f ts (.tp us))(k:WO S K os ((d,.tp us)::O)):WO S K (⟨some d,.AaV f args,none⟩::os) O:=by
 refine ⟨?_⟩;simp only[wpOps,PR.wp,AE.wp,hv,AV];exact .inl ⟨us,h,fun _=>k.out⟩
theorem JX{ss:Ne}{s:Nat}{r:AB}{m:MX}(h:O.get s=.mx m)(k:Kp O ss r):Kp O (s::ss) ((s,.mx m)::r):=Lx h k
theorem rW{ss:Ne}{s:Nat}{r:AB}{q:List (Nat×EV)}{m:MX}(h:look q s=none)(o:O.get s=.mx m)(k:Nm O q ss r):Nm O q (s::ss) ((s,.mx m)::r):=OA h o k
end
def Lz(r:BD×Int):An:=if r.2=0 then .mpr r.1 [.int .i64 r.2]else .tp [.undef,.int .i64 r.2]
structure tJ(o:Nat):Prop where
variable{kvs:BD}
theorem kB{h:List RV}{O:AB}{e:Int}(he:(!decide (e=0))=true)(o:h.length≠1)(p:EE O h=some [.undef,.int .i64 e]):Bj h (Lz (kvs,e)) O:=by
 simp only[Bool.not_eq_true',decide_eq_false_iff_not]at he;simp only[Lz,az he];exact⟨o,p⟩
theorem kC{s o b:Nat}{h:List RV}{O:AB}(_:tJ o)(p:O.get s=.tv (.AaM b))(u:O.get o=.mx (.mp b kvs))(w:h≠[])(A:EE O h=some [.int .i64 0]):Bj (.tmp s::h) (Lz (kvs,0)) O:=by
 simp only[Lz,if_true,Bj];exact⟨w,⟨b,o,p,u⟩,A⟩
section
variable{P:Program}{α β:Type}{K:AB->Prop}{os:List PR}{O:AB}{d:Nat}{x:Option α}{k:α->Option β}{r:β}{f:FuncId}{args:List AF}{ts:Fq}{R:α->An}
theorem eX{i s:Nat}{cs:List AP}{q:α->Bool}{u v:α->List AP}{us:α->Fq}{e:α->EV}(h:x.bind k=some r)(c:Ct P x f ts R)(A:(args[i]?).bind (·.place O)=some (s,0))(B:O.get s=.bx cs)(C:O.noX s none=true)(hd:d≠s)(D:Gx O i args=some ts)(E:∀a,R a=.bo cs (if q a=true then u a else v a) i (us a))(he:∀a,EV.ofs (us a)=e a)
  (F:∀a,x=some a->q a=true->k a=some r->WO (AN P) K os ((d,e a)::(s,.bx (u a))::O))(G:∀a,x=some a->q a=false->k a=some r->WO (AN P) K os ((d,e a)::(s,.bx (v a))::O)):WO (AN P) K (⟨some d,.AaF f args i,none⟩::os) O:=by
 refine Y3 h c A B C hd D E he (fun a o p=>?_);cases w:q a with
 |true=>rw[ae rfl];exact F a o w p|false=>rw[az (by simp)];exact G a o w p
end
section
variable{S:FuncId->Fq->An->Prop}{a b:PC}{O:AB}
variable{Q:Q}
theorem l9{c:AF}{β:Type}{q:Bool}{u v:Option β}{r:β}(p:c.val O=some (.bool q))(h:(if q=true then u else v)=some r)(o:q=true)(k:u=some r->WP S a Q O):WP S (.cond c a b) Q O:=
 Pd p o (k (UJ o h))
theorem l8{c:AF}{β:Type}{q:Bool}{u v:Option β}{r:β}(p:c.val O=some (.bool q))(h:(if q=true then u else v)=some r)(o:q=false)(k:v=some r->WP S b Q O):WP S (.cond c a b) Q O:=
 Pc p o (k (UI o h))
end
end Go.Sf
set_option maxRecDepth 100000
namespace Go.Sf
theorem au{P:Prop}(p:P:=by
 repeat' (first
  |(show WO _ _ _ _;first
    |(apply Ny;exact rfl)
    |(apply oR;exact rfl;exact rfl)
    |(apply sO;exact rfl)
    |(apply Qo;exact rfl;exact rfl)
    |(apply tA;exact rfl)
    |(apply uT;exact rfl)
    |apply Lb
    |(apply iv;exact rfl)
    |(apply iu;exact rfl)
    |(apply dg;exact rfl;exact rfl)
    |(apply dc;exact rfl)
    |(apply q9;exact rfl;assumption)
    |(apply mg;exact rfl;assumption)
    |(apply t7;exact rfl)
    |(apply lR;exact rfl;assumption;exact rfl)
    |(apply lQ;exact rfl;assumption;exact rfl)
    |(apply sG;exact rfl;exact rfl)
    |(apply sU;exact rfl;exact rfl)
    |(apply r7;exact rfl;exact rfl)
    |(apply bF;exact rfl;exact rfl)
    |(apply sT;exact rfl;exact rfl)
    |(apply s9;exact rfl;exact rfl)
    |(apply sK;exact rfl;exact rfl)
    |(apply sJ;exact rfl;exact rfl)
    |(apply de;exact rfl;exact rfl)
    |(apply sS;exact rfl;(first|exact rfl|exact Ml.eq))
    |(apply pR;exact h;exact rfl;exact rfl;(first|exact rfl|exact Ml.eq);intro x o h)
    |(apply l7;exact h;infer_instance;exact rfl;exact fun _=>rfl;intro x o h)|(apply jT;exact h;infer_instance;exact rfl;exact fun _=>rfl;intro x o h)|(apply jU;assumption;exact h;infer_instance;exact rfl;exact fun _=>rfl;intro x o h)|(apply jS;exact h;infer_instance;exact rfl;exact fun _=>rfl;intro x o h)|(apply jW;exact h;infer_instance;exact rfl;exact fun _=>rfl;intro x o h)|(apply jP;exact h;infer_instance;exact rfl;exact fun _=>rfl;intro x o h)
    |(apply pQ h (ho:=rfl);(focus ((repeat(first|apply GS.step|(apply GS.Ab6;exact rfl)));exact GS.done));exact rfl;exact rfl;intro v B C h;rotate_left;intro v B C h;rotate_left;intro v h;rotate_left)
    |(apply pP h (ho:=rfl);(focus ((repeat(first|apply GS.step|(apply GS.Ab6;exact rfl)));exact GS.done));exact rfl;exact rfl;intro v B C h;rotate_left;intro v B C h;rotate_left;intro v h;rotate_left)
    |(apply pO rfl;(focus ((repeat(first|apply GS.step|(apply GS.Ab6;exact rfl)));exact GS.done));exact rfl;exact rfl;intro B C;rotate_left;intro B C;rotate_left 3)
    |(apply pN rfl;(focus ((repeat(first|apply GS.step|(apply GS.Ab6;exact rfl)));exact GS.done));exact rfl;exact rfl;intro B C;rotate_left;intro B C;rotate_left 3)
    |apply mC
    |apply oV
    |(apply lz;exact h;exact rfl;exact rfl;(first|exact rfl|exact Ml.eq);(first|exact rfl|exact Ml.eq);infer_instance;intro x o h)
    |(apply pI;exact h;exact rfl;exact rfl;(first|exact rfl|exact Ml.eq);(first|exact rfl|exact Ml.eq);intro x o h)
    |(apply mH;exact rfl;(focus ((repeat(apply Lm.cons;exact rfl));exact Lm.nil));exact fun _=>rfl;infer_instance)|(apply mG;exact rfl;(focus ((repeat(apply Lm.cons;exact rfl));exact Lm.nil));exact fun _=>rfl)
    |(apply pV;exact rfl;exact rfl)
    |(apply pU;(with_reducible exact h);infer_instance;exact rfl;exact rfl;exact rfl;intro x o h)
    |(apply iR;exact rfl;exact rfl;exact rfl)
    |(apply pT;exact rfl;exact rfl;exact rfl;exact rfl)
    |(apply iy;exact rfl;exact rfl;exact rfl)
    |(apply mF;exact rfl;exact rfl;exact rfl)
    |(apply Wj;exact rfl;exact rfl;exact rfl)
    |(apply mL;exact rfl;exact rfl;exact rfl;exact rfl)
    |(apply jA;exact rfl;exact rfl;exact rfl;exact rfl;exact rfl)
    |(apply oe;exact rfl;exact rfl;decide;exact rfl;exact rfl)
    |(apply pj;exact rfl;exact rfl;exact rfl;exact rfl;exact rfl;(focus ((repeat(apply NL.cons;exact rfl));exact NL.nil rfl)))
    |(apply mM;exact rfl;exact rfl;exact rfl;decide;exact rfl;(focus ((repeat(apply NL.cons;exact rfl));exact NL.nil rfl)))
    |(apply od;exact rfl;exact rfl;exact rfl;exact rfl;exact rfl;exact rfl)
    |(apply jB;exact rfl;exact rfl;exact rfl;decide;exact rfl;exact rfl)
    |(apply sQ;exact rfl;exact rfl;exact rfl;exact rfl;exact rfl)
    |(apply l5;(with_reducible exact h);infer_instance;exact rfl;exact rfl;exact rfl;intro x o h)
    |(apply oG;exact rfl;exact rfl;exact rfl;exact rfl)
    |(apply l6;exact rfl;exact rfl;exact rfl;(focus ((repeat(apply NT.cons;exact rfl));exact NT.nil rfl)))
    |(apply Wi;exact rfl;exact rfl;exact rfl)
    |(apply sA;exact rfl)
    |(apply jV;exact h;infer_instance;exact rfl;exact rfl;exact rfl;exact fun _=>rfl;intro x o h)|(apply ee;exact h;infer_instance;exact rfl;exact rfl;exact rfl;exact fun _=>rfl;intro x o h)|(apply ed;exact h;infer_instance;exact rfl;exact rfl;exact rfl;exact fun _=>rfl;intro x o h)
    |(apply pi;exact h;exact rfl;(first|exact rfl|exact Ml.eq);exact rfl;exact rfl;intro x o h)
    |(apply oa;exact rfl)
    |(apply mJ;exact h;exact rfl;exact rfl;intro x o h)
    |(apply mK;exact h;exact rfl;exact rfl;exact rfl;intro x o h)
    |(apply sn;exact rfl)
    |(apply sd;exact rfl;exact rfl)
    |(apply sV;exact rfl;exact rfl)
    |(apply sX;exact rfl;exact rfl)
    |(apply si;exact rfl)
    |(apply sF;exact rfl)
    |(apply sg;exact rfl)
    |(apply r8;exact rfl)
    |(apply oK;exact rfl;exact rfl;exact rfl;exact rfl)
    |(apply oL;exact rfl;exact rfl;exact rfl)
    |(apply pM;exact rfl;infer_instance)
    |(apply oN;exact rfl;exact rfl;exact rfl)
    |(apply lP;exact rfl;exact rfl;exact rfl)
    |(apply oY;exact rfl;exact rfl)
    |(apply ob;exact rfl;exact rfl)
    |(apply oF;exact rfl;exact rfl)
    |(apply oI;exact rfl;exact rfl)
    |(apply ls;exact rfl;exact rfl;infer_instance;exact rfl;exact rfl;exact rfl)
    |(apply lv;exact rfl;exact rfl;infer_instance;exact rfl;exact rfl;exact rfl)
    |refine lu rfl rfl rfl rfl rfl ?_
    |refine lw rfl rfl rfl rfl rfl ?_
    |(apply tC;exact rfl)
    |(apply oW;exact rfl)
    |(apply tB;exact rfl;exact rfl;decide)
    |(apply sv;exact rfl;decide)
    |(apply oh;exact rfl;(first|exact rfl|exact Ml.eq))
    |(apply pw;exact h;exact rfl;exact rfl;(first|exact rfl|exact Ml.eq);exact rfl;intro x o h)
    |(apply tD;exact rfl;exact rfl)
    |(apply mN;exact rfl;exact rfl;exact rfl;exact fun _=>rfl;assumption;exact rfl;exact rfl;exact rfl)|(apply px;exact rfl;exact rfl;exact rfl;exact fun _=>rfl;assumption;exact rfl;exact rfl;exact rfl)|(apply mP;assumption;exact rfl;exact rfl;exact rfl;exact rfl;exact fun _=>rfl;assumption;exact rfl;exact rfl;exact rfl;exact rfl)|(apply mO;exact rfl;exact rfl;exact rfl;exact rfl;exact fun _=>rfl;assumption;exact rfl;exact rfl;exact rfl;exact rfl)|(apply mQ;assumption;exact rfl;exact rfl;exact rfl;exact fun _=>rfl;exact rfl;(focus ((repeat(apply NT.cons;exact rfl));exact NT.nil rfl));exact rfl;exact fun _ _ _=>rfl;assumption;exact rfl;exact rfl)|(apply py;exact rfl;exact rfl;exact rfl;exact fun _=>rfl;exact rfl;assumption;exact rfl;exact rfl)
    |(apply l3;exact h;exact rfl;exact rfl;(first|exact rfl|exact Ml.eq);(first|exact rfl|exact Ml.eq);exact rfl;decide;intro x o h)
    |(apply l4;exact h;exact rfl;exact rfl;exact rfl;exact rfl;exact rfl;decide;exact rfl;exact rfl;intro x o h)
    |(apply pK;exact h;exact rfl;exact rfl;exact rfl;exact rfl;decide;intro x o h)
    |(apply pW;exact h;exact rfl;exact rfl;exact rfl;intro x o h)
    |(apply jX;exact h;infer_instance;exact rfl;exact rfl;exact fun _=>rfl;intro x o h)|(apply ef;exact h;infer_instance;exact rfl;exact rfl;exact fun _=>rfl;exact fun _=>rfl;intro x o h)|(apply jQ;exact h;infer_instance;exact rfl;exact fun _=>rfl;exact fun _=>rfl;intro x o h)|(apply eb;exact h;infer_instance;exact rfl;exact fun _=>rfl;exact fun _=>rfl;intro x o h)|(apply eZ;exact h;infer_instance;exact rfl;exact fun _=>rfl;exact fun _=>rfl;intro x o h)|(apply jO;exact h;infer_instance;exact rfl;exact fun _=>rfl;intro x o h)|(apply eX;exact h;infer_instance;exact rfl;exact rfl;exact rfl;decide;exact rfl;exact fun _=>rfl;exact fun _=>rfl;intro x o C h;rotate_left;intro x o C h;rotate_left)|(apply Y3;exact h;infer_instance;exact rfl;exact rfl;exact rfl;decide;exact rfl;exact fun _=>rfl;exact fun _=>rfl;intro x o h)|(apply jR;exact h;infer_instance;exact rfl;exact rfl;exact fun _=>rfl;intro x o h)
    |(apply jM;exact h;infer_instance;exact rfl;exact rfl;decide;exact rfl;intro x o h)
    |(apply jN;exact h;infer_instance;exact rfl;exact fun _=>rfl;intro x o h)
    |(apply pZ;exact h;exact rfl;exact rfl;intro x o h)
    |(apply pf;exact h;exact rfl;exact rfl;intro x o h)
    |(apply pJ;exact h;exact rfl;exact rfl;decide;intro x o h)
    |(apply mI;exact h;exact rfl;exact rfl;intro x o h)
    |(apply oQ;exact rfl)
    |(apply sH;exact rfl;exact rfl)
    |(apply sR;exact rfl;exact rfl;exact rfl)
    |(apply pS;exact h;exact rfl;(first|exact rfl|exact Ml.eq);intro u h)
    |(apply iw;exact rfl;exact rfl;intro z D;replace h:=jg h z D)
    |(apply sM;exact rfl;exact rfl)
    |(apply sC;exact rfl;exact rfl;exact rfl;exact rfl;exact rfl)
    |(apply sB;exact rfl;exact rfl;exact rfl;exact rfl;exact rfl;exact rfl)
    |(apply oH;decide;decide;exact rfl;exact rfl)
    |(apply oT;exact rfl)
    |(apply s8;exact rfl;exact rfl;decide;exact rfl;exact rfl;exact rfl;exact rfl)
    |(apply oC;exact rfl;exact rfl;exact rfl)
    |(apply sN;exact rfl;exact rfl)
    |(apply pX;exact h;exact rfl;exact rfl;exact rfl;(first|exact rfl|exact Ml.eq);intro x o h)
    |(apply sj;exact rfl;exact rfl;(first|exact rfl|exact Ml.eq);assumption)
    |(apply pY;exact h;exact rfl;exact rfl;exact rfl;(first|exact rfl|exact Ml.eq);exact fun _=>rfl;assumption;intro x o h)
    |(apply sq;exact rfl;exact rfl;exact rfl;(first|exact rfl|exact Ml.eq);exact fun _=>rfl;assumption;assumption;exact rfl;exact rfl;exact rfl;exact rfl)
    |(apply oS;exact rfl;exact rfl;decide)
    |(apply ly;exact h;exact rfl;exact rfl;exact rfl;exact rfl;(first|exact rfl|exact Ml.eq);exact rfl;exact rfl;decide;exact rfl;intro x o h)
    |(apply oM;exact rfl;exact rfl;exact rfl;exact rfl;exact rfl;exact rfl)
    |(apply oJ;exact rfl;exact rfl;decide)
    |(apply sP;exact rfl;exact rfl;decide;exact rfl)
    |(apply s7;exact rfl;exact rfl;exact rfl;exact rfl;exact rfl;exact rfl;exact rfl;exact rfl)
    |(apply eY;exact h;infer_instance;exact rfl;exact fun _=>rfl;exact fun _=>rfl;exact fun _=>rfl;intro x o h)|(apply jL;exact h;infer_instance;exact rfl;exact rfl;decide;exact rfl;exact rfl;exact fun _=>rfl;exact fun _=>rfl;intro x o h)
    |(apply sY;intro b;have K:=K b)
    |(apply sf;exact rfl)
    |(apply di;exact rfl)
    |(apply dh;exact rfl)
    |(apply sW;exact rfl)
    |(apply i7;exact rfl;exact rfl;decide)
    |(apply sa;exact rfl;exact rfl;exact rfl;exact rfl)
    |(apply se;exact rfl;exact rfl;exact rfl;exact rfl;exact rfl))
  |(show WP _ _ _ _;first
    |with_reducible apply pL
    |apply JT
    |apply N1
    |(apply mB;exact rfl)
    |(apply ph;exact rfl;exact rfl)
    |apply Wq
    |apply Z6
    |apply bj
    |(apply Pd;exact rfl;with_reducible rfl)
    |(apply Pc;exact rfl;with_reducible rfl)
    |(apply mE;exact rfl;exact h;assumption;exact rfl;intro w C h;rotate_left;intro w C h;rotate_left;intro w h;rotate_left)
    |(apply l9;exact rfl;exact h;assumption;intro h)
    |(apply l8;exact rfl;exact h;assumption;intro h)
    |(apply mA;exact rfl;exact h;intro C h;rotate_left;intro C h;rotate_left)
    |(apply Pd;exact rfl;apply ub;assumption)
    |(apply Pc;exact rfl;apply t1;assumption)
    |(apply bl;assumption;exact h;exact A;(first|exact RY rfl (by first|exact rfl|exact Ml.eq)|exact RX rfl|exact Oz rfl rfl (by first|exact rfl|exact Ml.eq)|exact Oy rfl rfl|exact Ra rfl|exact RZ rfl (by first|exact rfl|exact Ml.eq)|exact Rc rfl rfl|exact Rb|exact RW (by decide));exact rfl;exact rfl;exact fun _ _=>rfl;intro i s r hi h A;rotate_left;intro i s hi;clear h;rotate_left;intro s h;rotate_left)
    |(apply bl;apply HB.a;assumption;exact h;exact A;(first|exact RY rfl (by first|exact rfl|exact Ml.eq)|exact RX rfl|exact Oz rfl rfl (by first|exact rfl|exact Ml.eq)|exact Oy rfl rfl|exact Ra rfl|exact RZ rfl (by first|exact rfl|exact Ml.eq)|exact Rc rfl rfl|exact Rb|exact RW (by decide));exact rfl;exact rfl;exact fun _ _=>rfl;intro i s r hi h A;rotate_left;intro i s hi;clear h;rotate_left;intro s h;rotate_left)
    |(apply br;assumption;assumption;exact rfl;exact h;exact A;(first|exact RY rfl (by first|exact rfl|exact Ml.eq)|exact RX rfl|exact Oz rfl rfl (by first|exact rfl|exact Ml.eq)|exact Oy rfl rfl|exact Ra rfl|exact RZ rfl (by first|exact rfl|exact Ml.eq)|exact Rc rfl rfl|exact Rb|exact RW (by decide));exact rfl;exact rfl;exact fun _ _=>rfl;intro i s r hi h A;rotate_left;intro i s hi;clear h;rotate_left;intro s h;rotate_left)
    |(apply br;apply HB.a;assumption;assumption;exact rfl;exact h;exact A;(first|exact RY rfl (by first|exact rfl|exact Ml.eq)|exact RX rfl|exact Oz rfl rfl (by first|exact rfl|exact Ml.eq)|exact Oy rfl rfl|exact Ra rfl|exact RZ rfl (by first|exact rfl|exact Ml.eq)|exact Rc rfl rfl|exact Rb|exact RW (by decide));exact rfl;exact rfl;exact fun _ _=>rfl;intro i s r hi h A;rotate_left;intro i s hi;clear h;rotate_left;intro s h;rotate_left)
    |(apply bq;assumption;exact h;exact A;(first|exact RY rfl (by first|exact rfl|exact Ml.eq)|exact RX rfl|exact Oz rfl rfl (by first|exact rfl|exact Ml.eq)|exact Oy rfl rfl|exact Ra rfl|exact RZ rfl (by first|exact rfl|exact Ml.eq)|exact Rc rfl rfl|exact Rb|exact RW (by decide));exact rfl;exact rfl;exact fun _ _=>rfl;intro i s r hi h A;rotate_left;intro i s hi;clear h;rotate_left;intro s h;rotate_left)
    |(apply bq;apply HB.a;assumption;exact h;exact A;(first|exact RY rfl (by first|exact rfl|exact Ml.eq)|exact RX rfl|exact Oz rfl rfl (by first|exact rfl|exact Ml.eq)|exact Oy rfl rfl|exact Ra rfl|exact RZ rfl (by first|exact rfl|exact Ml.eq)|exact Rc rfl rfl|exact Rb|exact RW (by decide));exact rfl;exact rfl;exact fun _ _=>rfl;intro i s r hi h A;rotate_left;intro i s hi;clear h;rotate_left;intro s h;rotate_left)
    |(apply bn;assumption;exact h;exact A;(first|exact RY rfl (by first|exact rfl|exact Ml.eq)|exact RX rfl|exact Oz rfl rfl (by first|exact rfl|exact Ml.eq)|exact Oy rfl rfl|exact Ra rfl|exact RZ rfl (by first|exact rfl|exact Ml.eq)|exact Rc rfl rfl|exact Rb|exact RW (by decide));exact rfl;exact rfl;exact fun _ _=>rfl;intro i s r hi h A;rotate_left;intro i s hi;clear h;rotate_left;intro s h;rotate_left)
    |(apply bn;apply HB.a;assumption;exact h;exact A;(first|exact RY rfl (by first|exact rfl|exact Ml.eq)|exact RX rfl|exact Oz rfl rfl (by first|exact rfl|exact Ml.eq)|exact Oy rfl rfl|exact Ra rfl|exact RZ rfl (by first|exact rfl|exact Ml.eq)|exact Rc rfl rfl|exact Rb|exact RW (by decide));exact rfl;exact rfl;exact fun _ _=>rfl;intro i s r hi h A;rotate_left;intro i s hi;clear h;rotate_left;intro s h;rotate_left)
    |(apply pv;assumption;assumption;exact rfl;exact h;exact rfl;exact rfl;intro s r h A;rotate_left;intro s h;rotate_left)
    |(apply pu;assumption;exact h;exact rfl;exact rfl;intro s r h A;rotate_left;intro s h;rotate_left)
    |(apply pk;assumption;exact h;exact rfl;exact rfl;intro s r h A;rotate_left;intro s h;rotate_left)
    |apply Y2
    |cases h)
  |(show Kp _ _ _;first
    |exact HQ
    |(apply JZ;exact rfl)
    |(apply rH;exact rfl)
    |(apply JW;exact rfl)
    |(apply rJ;exact rfl)
    |(apply rF;exact rfl)
    |(apply JY;exact rfl)
    |(apply Ja;exact rfl)
    |(apply rG;exact rfl)
    |(apply rI;exact rfl)
    |(apply m9;exact rfl)
    |(apply JX;exact rfl))
  |(show Nm _ _ _ _;first
    |exact nB
    |(apply nA;exact rfl)
    |(apply rZ;exact rfl;exact rfl)
    |(apply rX;exact rfl;exact rfl)
    |(apply rU;exact rfl;exact rfl)
    |(apply rb;exact rfl;exact rfl)
    |(apply rT;exact rfl;exact rfl)
    |(apply rY;exact rfl;exact rfl)
    |(apply ra;exact rfl;exact rfl)
    |(apply rV;exact rfl;exact rfl)
    |(apply rW;exact rfl;exact rfl))
  |apply ju
  |(apply fI;intro j)
  |apply jt
  |exact cP rfl
  |(cases h;exact cP rfl)
  |apply XB
  |(apply jn;decide)
  |intro A
  |(cases h;first|exact rfl|exact⟨rfl⟩|exact⟨rfl,rfl⟩|exact⟨_,rfl,rfl⟩|exact⟨_,rfl,⟨rfl⟩⟩|exact⟨rfl,_,rfl,⟨rfl⟩⟩|exact⟨by decide,rfl⟩|exact⟨_,rfl,by decide,rfl⟩|exact⟨_,rfl,rfl,rfl⟩|exact kC (by assumption) rfl rfl (by decide) rfl|exact⟨_,rfl,kB (by first|assumption|decide) (by decide) rfl⟩)
  |exact⟨rfl,⟨rfl⟩⟩)):P:=p
end Go.Sf
