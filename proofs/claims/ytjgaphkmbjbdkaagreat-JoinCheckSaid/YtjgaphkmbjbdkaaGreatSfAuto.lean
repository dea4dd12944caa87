/- Contracts that are found by themselves: rules that take the typed text along, and the script that applies them. -/
import Derived.Test.YtjgaphkmbjbdkaaGreatSfK
import Derived.Test.YtjgaphkmbjbdkaaGreatSfStep
import Derived.Test.YtjgaphkmbjbdkaaGreatSfLib
set_option linter.all false
namespace Go.Sf
class Ct(P:Program){α:Type}(x:Option α)(f:outParam FuncId)(ts:outParam Fq)(R:outParam (α->Ax)):Prop where
 snd:∀r,x=some r->AU P f ts (R r)
class Ml(es:Fq){α:outParam Type}(e:outParam (α->TV))(l:outParam (List α)):Prop where
 eq:es=l.map e
class ZQ{α:Type}(e:α->TV)where
 un:Fq->α
 dec:∀a b,∃i:Decidable (a=b),B3 (e a).cells (e b).cells=some (@decide (a=b) i)
class Fz(cs:List AS)(row:outParam Fq):Prop where
 h:cs.map (·.t)=row
instance(priority:=high){l:Fq}:Fz (l.map fun x=>(⟨false,x⟩:AS)) l:=⟨by rw[List.map_map];exact List.map_id _⟩
instance(priority:=low){cs:List AS}:Fz cs (cs.map (·.t)):=⟨rfl⟩
class En(α:Type)(e:outParam (α->TV)):Prop where
class Fl{α:Type}(e:α->TV)(n:outParam Nat)(f:outParam (List α->TV)):Prop where
 eq:∀l,f l=.list n (l.map e)
structure Kp(O:AB)(l:Ne)(r:AB):Prop where
 of::out:O.ff l=r
def look:List (Nat×EV)->Nat->Option EV
 |[],_=>none|(k,e)::r,n=>if k=n then some e else look r n
def ta(O:AB)(m:List (Nat×EV)):Ne->AB
 |[]=>[]|s::ss=>(s,(look m s).getD (O.get s))::ta O m ss
structure Nm(O:AB)(m:List (Nat×EV))(l:Ne)(r:AB):Prop where
 of::out:ta O m l=r
structure Rn(a b:AB):Prop where
 of::out:a=b
structure HJ{σ:Type}(n:Nat)(M:σ->List (Nat×EV)):Prop where
structure HA{σ:Type}(n Dc q i:Nat)(M:Int->σ->List (Nat×EV)):Prop where
structure HB{σ:Type}(n Dc q i:Nat)(M:Int->σ->List (Nat×EV)):Prop where
theorem HB.a{σ:Type}{n Dc q i:Nat}{M:Int->σ->List (Nat×EV)}(_:HB n Dc q i M):HA n Dc q i M:=⟨⟩
structure HW{σ:Type}(n:Nat)(M:σ->List (Nat×EV)):Prop where
structure HR{β:Type}(R:β->AB->Prop):Prop where
structure HS(n:Nat):Prop where
structure HX{α γ:Type}(n:Nat)(f:α->γ->α):Prop where
structure ZS(g:Nat)(b q:Bool):Prop where
 of::out:q=b
structure Up(g:Nat)(b q:Bool):Prop where
 of::out:q=!b
def KR(n:AB->Prop)(l:Ne):AB->Prop:=fun e=>n (e.ff l)
section
variable{O:AB}{s:Nat}{ss:Ne}{r:AB}{m:List (Nat×EV)}
theorem If:Kp O [] []:=⟨rfl⟩
theorem N0{e:EV}(h:O.get s=e)(k:Kp O ss r):Kp O (s::ss) ((s,e)::r):=⟨by rw[<-k.out,<-h];rfl⟩
theorem LB{t:TV}(h:O.get s=.tv t)(k:Kp O ss r):Kp O (s::ss) ((s,.tv t)::r):=N0 h k
theorem ul{t:TV}(h:O.get s=.ow t)(k:Kp O ss r):Kp O (s::ss) ((s,.ow t)::r):=N0 h k
theorem K8{t:List AS}(h:O.get s=.bx t)(k:Kp O ss r):Kp O (s::ss) ((s,.bx t)::r):=N0 h k
theorem uj{q o:Nat}(h:O.get s=.bp q o)(k:Kp O ss r):Kp O (s::ss) ((s,.bp q o)::r):=N0 h k
theorem LA{t:Fq}(h:O.get s=.tp t)(k:Kp O ss r):Kp O (s::ss) ((s,.tp t)::r):=N0 h k
theorem LC(h:O.get s=.undef)(k:Kp O ss r):Kp O (s::ss) ((s,.undef)::r):=N0 h k
theorem uo{n:Nat}{t:Fq}(h:O.get s=.xo n t)(k:Kp O ss r):Kp O (s::ss) ((s,.xo n t)::r):=N0 h k
theorem uk{q:Nat}{i:Option Nat}(h:O.get s=.la q i)(k:Kp O ss r):Kp O (s::ss) ((s,.la q i)::r):=N0 h k
theorem um(h:O.get s=.sk)(k:Kp O ss r):Kp O (s::ss) ((s,.sk)::r):=N0 h k
theorem qt{t:List AS}(h:O.get s=.x8 t)(k:Kp O ss r):Kp O (s::ss) ((s,.x8 t)::r):=N0 h k
theorem qw:Nm O m [] []:=⟨rfl⟩
theorem qv{e:EV}(h:look m s=some e)(k:Nm O m ss r):Nm O m (s::ss) ((s,e)::r):=⟨by rw[<-k.out];simp only[ta,h,Option.getD_some]⟩
theorem P4{e:EV}(h:look m s=none)(o:O.get s=e)(k:Nm O m ss r):Nm O m (s::ss) ((s,e)::r):=⟨by rw[<-k.out];simp only[ta,h,o,Option.getD_none]⟩
theorem vC{t:TV}(h:look m s=none)(o:O.get s=.tv t)(k:Nm O m ss r):Nm O m (s::ss) ((s,.tv t)::r):=P4 h o k
theorem vA{t:TV}(h:look m s=none)(o:O.get s=.ow t)(k:Nm O m ss r):Nm O m (s::ss) ((s,.ow t)::r):=P4 h o k
theorem u0{t:List AS}(h:look m s=none)(o:O.get s=.bx t)(k:Nm O m ss r):Nm O m (s::ss) ((s,.bx t)::r):=P4 h o k
theorem uz{q o:Nat}(h:look m s=none)(p:O.get s=.bp q o)(k:Nm O m ss r):Nm O m (s::ss) ((s,.bp q o)::r):=P4 h p k
theorem vB{t:Fq}(h:look m s=none)(o:O.get s=.tp t)(k:Nm O m ss r):Nm O m (s::ss) ((s,.tp t)::r):=P4 h o k
theorem vD(h:look m s=none)(o:O.get s=.undef)(k:Nm O m ss r):Nm O m (s::ss) ((s,.undef)::r):=P4 h o k
theorem vE{n:Nat}{t:Fq}(h:look m s=none)(o:O.get s=.xo n t)(k:Nm O m ss r):Nm O m (s::ss) ((s,.xo n t)::r):=P4 h o k
theorem u7{q:Nat}{i:Option Nat}(h:look m s=none)(o:O.get s=.la q i)(k:Nm O m ss r):Nm O m (s::ss) ((s,.la q i)::r):=P4 h o k
end
def PC.xl(i:Nat):PC->Option Ne
 |.exit j l=>if j=i then some l else none|.seq a b=>match a.xl i with
  |some l=>some l|none=>b.xl i
 |.cond _ a b=>match a.xl i with
  |some l=>some l|none=>b.xl i
 |.block _ a=>a.xl i|.loop _ a=>a.xl i|.rls _ a=>a.xl i|_=>none
def PC.last:PC->Option Ne
 |.region _ l=>some l|.draw _ _ l=>some l|.skip l=>some l|.exit _ l=>some l|.seq _ b=>b.last|.cond _ a _=>a.last|.block i (.loop _ b)=>b.xl i|.block _ c=>c.last|.rls _ c=>c.last|_=>none
section
variable{S:FuncId->Fq->Ax->Prop}{K:AB->Prop}{os:List PR}{O:AB}{d:Nat}
section code
variable{n t:AB->Prop}{x:Nat->AB->Prop}{a b:PC}{l:Ne}{env':AB}
theorem Nf(o:Kp O l env')(h:n env'):WO S (KR n l) [] O:=⟨by show n (O.ff l);rw[o.out];exact h⟩
theorem Pt{ops:List PR}(h:WO S (KR n l) ops O):WP S (.region ops l) ⟨n,x,t⟩ O:=⟨h.out⟩
theorem p6{D:Ne}{ops:List PR}(hd:Ri O D=true)(h:WO S (KR n l) ops O):WP S (.draw D ops l) ⟨n,x,t⟩ O:=⟨hd,h.out⟩
theorem K5(h:WP S a ⟨fun e=>(∀s,(e.get s).WF)->WP S b ⟨n,x,t⟩ e,x,t⟩ O):WP S (.seq a b) ⟨n,x,t⟩ O:=uP h
theorem ZU(o:Kp O l env')(h:n env'):WP S (.skip l) ⟨n,x,t⟩ O:=qQ o.out h
theorem eQ(h:t O):WP S .ret ⟨n,x,t⟩ O:=⟨h⟩
theorem gM{i:Nat}(o:Kp O l env')(h:x i env'):WP S (.exit i l) ⟨n,x,t⟩ O:=qP o.out h
theorem tG{s:Nat}{cs cs':List AS}{c:PC}{q:Q}(h:O.get s=.bx cs)(he:cs.map AS.rel=cs')(k:WP S c q ((s,.bx cs')::O)):WP S (.rls s c) q O:=by
 refine ⟨?_⟩;subst he;simp only[PC.wp,h];exact k.out
theorem cU{i:Nat}(h:WP S a ⟨n,fun j e=>if j=i then n e else x j e,t⟩ O):WP S (.block i a) ⟨n,x,t⟩ O:=Wf h
theorem sg{m:List (Nat×EV)}{e:AB}{q:Q}(he:Nm e m l env')(h:WP S a q env'):WP S a q (ta e m l):=by rw[he.out];exact h
variable{Q:Q}
theorem p5{c:AG}{β:Type}{q:Bool}{u v:Option β}{r:β}(o:c.val O=some (.bool q))(h:(if q=true then u else v)=some r)(p:q=true->u=some r->WP S a Q O)(w:q=false->v=some r->WP S b Q O):WP S (.cond c a b) Q O:=
 Ve o (fun e=>p e (Vy e h)) (fun e=>w e (Vx e h))
theorem p8{σ β:Type}{i:Nat}{M:σ->List (Nat×EV)}{q:Bool}{u v:Option σ}{k:σ->Option β}{r:β}(p:(AG.s i).val O=some (.bool q))(h:((if q=true then u else v).bind k)=some r)(_:HJ i M)(_:(PC.cond (.s i) a b).last=some l)
  (A:∀w,q=true->u=some w->WP S a ⟨fun e=>Rn e (ta O (M w) l),x,t⟩ O)(B:∀w,q=false->v=some w->WP S b ⟨fun e=>Rn e (ta O (M w) l),x,t⟩ O)(C:∀w,k w=some r->n (ta O (M w) l)):WP S (.cond (.s i) a b) ⟨n,x,t⟩ O:=by
 obtain ⟨w,o,h⟩:=bind_some h;refine uO (fun e=>Rn e (ta O (M w) l)) ?_ (fun e he=>by rw[he.out];exact C w h);exact Ve p (fun e=>A w e (Vy e o)) (fun e=>B w e (Vx e o))
end code
structure Bd(O:AB)(q i:Nat)(b:Int):Prop where
 of::out:(∀s,(O.get s).WF)->b<=9223372036854775807
section bounds
variable{q i:Nat}{α:Type}{e:α->TV}{l:List α}{es row:Fq}{n:Nat}
theorem TD{b:Int}(h:decide (b<=9223372036854775807)=true):Bd O q i b:=⟨fun _=>of_decide_eq_true h⟩
theorem TI{b:Int}:Bd O q i (Am b):=⟨fun _=>sV _⟩
theorem TF(h:O.get q=.tv (.list n es))(he:es=l.map e):Bd O q i l.length:=⟨fun o=>by have:=o q;rw[h]at this;exact UT (ZO this) he⟩
theorem TG(h:O.get q=.ow (.list n es))(he:es=l.map e):Bd O q i l.length:=⟨fun o=>by have:=o q;rw[h]at this;exact UT (vu this) he⟩
theorem TJ(h:O.get q=.xo n es)(he:es=l.map e):Bd O q i l.length:=⟨fun o=>by have:=o q;rw[h]at this;exact UT (vw this) he⟩
theorem TH{b:ByteArray}(h:O.get q=.tv (.str b)):Bd O q i b.size:=⟨fun o=>by have:=o q;rw[h]at this;exact pW (ZO this)⟩
theorem TE{b:Int}(h:O.get q=.tv (.int .i64 b)):Bd O q i b:=⟨fun o=>by have:=o q;rw[h]at this;exact j6 (ZO this)⟩
theorem Q5(h:O.get q=.tv (.pt row))(o:row[i]?=some (.list n es))(he:es=l.map e):Bd O q i l.length:=⟨fun p=>by have:=p q;rw[h]at this;exact UT (eC (nY this) o) he⟩
theorem Q4{b:Int}(h:O.get q=.tv (.pt row))(o:row[i]?=some (.int .i64 b)):Bd O q i b:=⟨fun p=>by have:=p q;rw[h]at this;exact j6 (eC (nY this) o)⟩
end bounds
section loops
variable{σ β ρ:Type}{n t:AB->Prop}{x:Nat->AB->Prop}{c:PC}{live jl:Ne}{i0 Dc q i1:Nat}{lo b:Int}{s0:σ}{r:β}{k:σ->Option β}
variable{M:Int->σ->List (Nat×EV)}
theorem sW(h:∀i s,(ta O (M i s) live).get Dc=.tv (.int .i64 i)){i:Int}{s:σ}(o:∀k,((ta O (M i s) live).get k).WF)(hi:i<b)(p:b<=9223372036854775807):Am (i+1)=i+1:=by
 have:=o Dc;rw[h]at this;exact vz (ZO this) hi p
theorem gN{f:Int->σ->Option σ}(_:HA i0 Dc q i1 M)(h:(ne f lo b s0).bind k=some r)(p:∀s,(O.get s).WF)(u:Bd O q i1 b)(_:c.xl i0=some jl)(w:O.ff live=ta O (M lo s0) live)(A:∀i s,(ta O (M i s) live).get Dc=.tv (.int .i64 i))
  (B:∀i s r,i<b->f i s=some r->(∀k,((ta O (M i s) live).get k).WF)->WP S c ⟨fun e=>Rn (e.ff live) (ta O (M (Am (i+1)) r) live),fun _ _=>False,fun _=>False⟩ (ta O (M i s) live))
  (C:∀i s,¬i<b->WP S c ⟨fun _=>False,fun j e=>j=i0/\Rn e (ta O (M 0 s) jl),fun _=>False⟩ (ta O (M i s) live))
  (D:∀s,k s=some r->n (ta O (M 0 s) jl)):WP S (.block i0 (.loop live c)) ⟨n,x,t⟩ O:=by
 obtain ⟨o,ho,h⟩:=bind_some h;have u:=u.out p;refine pX ho (fun i s=>ta O (M i s) live) (fun s=>ta O (M 0 s) jl) w (fun i s r hi hf p=>⟨PC.ns S c _ _ (B i s r hi hf p).out _ (fun e he=>?_) (fun _ _ h=>h) (fun _ h=>h)⟩) (fun i s hi=>⟨PC.ns S c _ _ (C i s hi).out _ (fun _ h=>h) (fun j e h=>⟨h.1,h.2.out⟩) (fun _ h=>h)⟩) (D o h);have:=he.out;rw[sW A p hi u]at this;exact this
variable{kr:ρ->Option β}
theorem Wr{f:Int->σ->Option (CC σ ρ)}{R:ρ->AB->Prop}(h:ek (hT f lo b s0) k kr=some r)(w:b<=9223372036854775807)(A:O.ff live=ta O (M lo s0) live)(B:∀i s,(ta O (M i s) live).get Dc=.tv (.int .i64 i))
  (C:∀i s r,i<b->f i s=some r->(∀k,((ta O (M i s) live).get k).WF)->WP S c ⟨fun e=>∃s',r=.next s'/\Rn (e.ff live) (ta O (M (Am (i+1)) s') live),fun j e=>j=i0/\∃s',r=.brk s'/\Rn e (ta O (M 0 s') jl),fun e=>∃v,r=.ret v/\R v e⟩ (ta O (M i s) live))
  (D:∀i s,¬i<b->WP S c ⟨fun _=>False,fun j e=>j=i0/\Rn e (ta O (M 0 s) jl),fun _=>False⟩ (ta O (M i s) live))
  (E:∀s,k s=some r->n (ta O (M 0 s) jl))(F:∀v e,kr v=some r->R v e->t e):WP S (.block i0 (.loop live c)) ⟨n,x,t⟩ O:=by
 obtain ⟨o,ho,h⟩:=Wa h;refine eF ho (fun i s=>ta O (M i s) live) (fun s=>ta O (M 0 s) jl) R A (fun i s r hi hf u=>⟨PC.ns S c _ _ (C i s r hi hf u).out _ (fun e he=>?_) (fun j e he=>?_) (fun _ h=>h)⟩) (fun i s hi=>⟨PC.ns S c _ _ (D i s hi).out _ (fun _ h=>h) (fun j e h=>⟨h.1,h.2.out⟩) (fun _ h=>h)⟩) (fun s G=>E s (dx h G)) (fun v e hv=>F v e (dy h hv))
 .obtain⟨s',p,e2⟩:=he;have e2:=e2.out;rw[sW B u hi w]at e2;exact⟨s',p,e2⟩
 .obtain⟨H,s',p,e2⟩:=he;exact⟨H,s',p,e2.out⟩
theorem gQ{f:Int->σ->Option (CC σ β)}{R:β->AB->Prop}(_:HA i0 Dc q i1 M)(_:HR R)(o:R r=t)(h:ek (hT f lo b s0) k (fun v=>some v)=some r)(p:∀s,(O.get s).WF)(u:Bd O q i1 b)(_:c.xl i0=some jl)(w:O.ff live=ta O (M lo s0) live)(A:∀i s,(ta O (M i s) live).get Dc=.tv (.int .i64 i))
  (B:∀i s r,i<b->f i s=some r->(∀k,((ta O (M i s) live).get k).WF)->WP S c ⟨fun e=>∃s',r=.next s'/\Rn (e.ff live) (ta O (M (Am (i+1)) s') live),fun j e=>j=i0/\∃s',r=.brk s'/\Rn e (ta O (M 0 s') jl),fun e=>∃v,r=.ret v/\R v e⟩ (ta O (M i s) live))
  (C:∀i s,¬i<b->WP S c ⟨fun _=>False,fun j e=>j=i0/\Rn e (ta O (M 0 s) jl),fun _=>False⟩ (ta O (M i s) live))
  (D:∀s,k s=some r->n (ta O (M 0 s) jl)):WP S (.block i0 (.loop live c)) ⟨n,x,t⟩ O:=
 Wr h (u.out p) w A B C D (fun v e hv E=>by cases hv;rw[<-o];exact E)
variable{τ:Type}
theorem gP{f:Int->σ->Option (CC σ ρ)}{k:σ->Option (CC τ ρ)}{r:CC τ ρ}{R:ρ->AB->Prop}(_:HA i0 Dc q i1 M)(h:ek (hT f lo b s0) k (fun v=>some (.ret v))=some r)(o:∀s,(O.get s).WF)(p:Bd O q i1 b)(_:c.xl i0=some jl)(u:O.ff live=ta O (M lo s0) live)(w:∀i s,(ta O (M i s) live).get Dc=.tv (.int .i64 i))
  (A:∀i s r,i<b->f i s=some r->(∀k,((ta O (M i s) live).get k).WF)->WP S c ⟨fun e=>∃s',r=.next s'/\Rn (e.ff live) (ta O (M (Am (i+1)) s') live),fun j e=>j=i0/\∃s',r=.brk s'/\Rn e (ta O (M 0 s') jl),fun e=>∃v,r=.ret v/\R v e⟩ (ta O (M i s) live))
  (B:∀i s,¬i<b->WP S c ⟨fun _=>False,fun j e=>j=i0/\Rn e (ta O (M 0 s) jl),fun _=>False⟩ (ta O (M i s) live))
  (C:∀s,k s=some r->n (ta O (M 0 s) jl)):WP S (.block i0 (.loop live c)) ⟨n,x,fun e=>∃v,r=.ret v/\R v e⟩ O:=
 Wr h (p.out o) u w A B C (fun v e hv D=>by cases hv;exact⟨v,rfl,D⟩)
theorem gO{f:Int->σ->Option (CC σ ρ)}(_:HA i0 Dc q i1 M)(h:ek (hT f lo b s0) k (fun _=>none)=some r)(o:∀s,(O.get s).WF)(p:Bd O q i1 b)(_:c.xl i0=some jl)(u:O.ff live=ta O (M lo s0) live)(w:∀i s,(ta O (M i s) live).get Dc=.tv (.int .i64 i))
  (A:∀i s r,i<b->f i s=some r->(∀k,((ta O (M i s) live).get k).WF)->WP S c ⟨fun e=>∃s',r=.next s'/\Rn (e.ff live) (ta O (M (Am (i+1)) s') live),fun j e=>j=i0/\∃s',r=.brk s'/\Rn e (ta O (M 0 s') jl),fun _=>∃v,r=.ret v/\False⟩ (ta O (M i s) live))
  (B:∀i s,¬i<b->WP S c ⟨fun _=>False,fun j e=>j=i0/\Rn e (ta O (M 0 s) jl),fun _=>False⟩ (ta O (M i s) live))
  (C:∀s,k s=some r->n (ta O (M 0 s) jl)):WP S (.block i0 (.loop live c)) ⟨n,x,t⟩ O:=
 Wr (R:=fun _ _=>False) h (p.out o) u w A B C (fun v e hv _=>by cases hv)
theorem bf{f:σ->Option (CC σ ρ)}{R:ρ->AB->Prop}{M:σ->List (Nat×EV)}(h:ek (EG f s0) k kr=some r)(u:O.ff live=ta O (M s0) live)
  (w:∀s r,f s=some r->(∀k,((ta O (M s) live).get k).WF)->WP S c ⟨fun e=>∃s',r=.next s'/\Rn (e.ff live) (ta O (M s') live),fun j e=>j=i0/\∃s',r=.brk s'/\Rn e (ta O (M s') jl),fun e=>∃v,r=.ret v/\R v e⟩ (ta O (M s) live))
  (A:∀s,k s=some r->n (ta O (M s) jl))(B:∀v e,kr v=some r->R v e->t e):WP S (.block i0 (.loop live c)) ⟨n,x,t⟩ O:=by
 obtain ⟨o,ho,h⟩:=Wa h;refine sZ ho (fun s=>ta O (M s) live) (fun s=>ta O (M s) jl) R u (fun s r hf C=>⟨PC.ns S c _ _ (w s r hf C).out _ (fun e he=>?_) (fun j e he=>?_) (fun _ h=>h)⟩) (fun s D=>A s (dx h D)) (fun v e hv=>B v e (dy h hv))
 .obtain⟨s',p,e2⟩:=he;exact⟨s',p,e2.out⟩
 .obtain⟨E,s',p,e2⟩:=he;exact⟨E,s',p,e2.out⟩
theorem tK{f:σ->Option (CC σ β)}{R:β->AB->Prop}{M:σ->List (Nat×EV)}(_:HW i0 M)(_:HR R)(o:R r=t)(h:ek (EG f s0) k (fun v=>some v)=some r)(_:c.xl i0=some jl)(p:O.ff live=ta O (M s0) live)
  (u:∀s r,f s=some r->(∀k,((ta O (M s) live).get k).WF)->WP S c ⟨fun e=>∃s',r=.next s'/\Rn (e.ff live) (ta O (M s') live),fun j e=>j=i0/\∃s',r=.brk s'/\Rn e (ta O (M s') jl),fun e=>∃v,r=.ret v/\R v e⟩ (ta O (M s) live))
  (w:∀s,k s=some r->n (ta O (M s) jl)):WP S (.block i0 (.loop live c)) ⟨n,x,t⟩ O:=
 bf h p u w (fun v e hv A=>by cases hv;rw[<-o];exact A)
theorem tJ{f:σ->Option (CC σ ρ)}{k:σ->Option (CC τ ρ)}{r:CC τ ρ}{R:ρ->AB->Prop}{M:σ->List (Nat×EV)}(_:HW i0 M)(h:ek (EG f s0) k (fun v=>some (.ret v))=some r)(_:c.xl i0=some jl)(o:O.ff live=ta O (M s0) live)
  (p:∀s r,f s=some r->(∀k,((ta O (M s) live).get k).WF)->WP S c ⟨fun e=>∃s',r=.next s'/\Rn (e.ff live) (ta O (M s') live),fun j e=>j=i0/\∃s',r=.brk s'/\Rn e (ta O (M s') jl),fun e=>∃v,r=.ret v/\R v e⟩ (ta O (M s) live))
  (u:∀s,k s=some r->n (ta O (M s) jl)):WP S (.block i0 (.loop live c)) ⟨n,x,fun e=>∃v,r=.ret v/\R v e⟩ O:=
 bf h o p u (fun v e hv w=>by cases hv;exact⟨v,rfl,w⟩)
theorem tI{f:σ->Option (CC σ ρ)}{M:σ->List (Nat×EV)}(_:HW i0 M)(h:ek (EG f s0) k (fun _=>none)=some r)(_:c.xl i0=some jl)(o:O.ff live=ta O (M s0) live)
  (p:∀s r,f s=some r->(∀k,((ta O (M s) live).get k).WF)->WP S c ⟨fun e=>∃s',r=.next s'/\Rn (e.ff live) (ta O (M s') live),fun j e=>j=i0/\∃s',r=.brk s'/\Rn e (ta O (M s') jl),fun _=>∃v,r=.ret v/\False⟩ (ta O (M s) live))
  (u:∀s,k s=some r->n (ta O (M s) jl)):WP S (.block i0 (.loop live c)) ⟨n,x,t⟩ O:=
 bf (R:=fun _ _=>False) h o p u (fun v e hv _=>by cases hv)
end loops
end
end Go.Sf
namespace Go.Sf
section
variable{P:Program}{S:FuncId->Fq->Ax->Prop}{K:AB->Prop}{os:List PR}{O:AB}{d:Nat}{α β:Type}{k:α->Option β}{r:β}
theorem bnd{G:Prop}{x:Option α}(h:x.bind k=some r)(g:∀a,x=some a->k a=some r->G):G:=by
 obtain ⟨a,o,h⟩:=bind_some h;exact g a o h
theorem wT{α:Type}{x:Option α}{k:α->Option β}{op:AE}{dd:Option Nat}(_:op.AbM=4)(h:x.bind k=some r)(g:∀a,x=some a->k a=some r->WO S K (⟨dd,op,none⟩::os) O):WO S K (⟨dd,op,none⟩::os) O:=bnd h g
theorem wR{x:Option α}{f:FuncId}{ts:Fq}{R:α->Ax}{op:AE}{dd:Option Nat}(_:op.AbM=3)(h:x.bind k=some r)(c:Ct P x f ts R)(g:∀a,AU P f ts (R a)->k a=some r->WO (AU P) K (⟨dd,op,none⟩::os) O):WO (AU P) K (⟨dd,op,none⟩::os) O:=bnd h fun a o=>g a (c.snd a o)
theorem pw{γ:Type}{k:List γ->Option β}{n s:Nat}{y:AG}{es o:Fq}{e:γ->TV}{l m:List γ}{f:List γ->TV}(h:(Ap l m).bind k=some r)(u:O.get s=.ow (.list n es))(w:y.val O=some (.list n o))(he:es=l.map e)(hf:o=m.map e)(c:Fl e n f)
  (A:∀x,Ap l m=some x->k x=some r->WO S K os ((d,.ow (f x))::(s,.tv (.list n es))::O)):WO S K (⟨some d,.app n (.s s) y,none⟩::os) O:=by
 obtain ⟨x,p,h⟩:=bind_some h;have:=A x p h;rw[c.eq]at this;exact nP p u w he hf rfl this
section ints
variable{k:Int->Option β}{x y:AG}{ik:IntKind}{a b:Int}
theorem tE(h:(quo a b).bind k=some r)(p:x.val O=some (.int ik a))(u:y.val O=some (.int ik b))(w:∀q,quo a b=some q->k q=some r->WO S K os ((d,.tv (.int ik (ik.wrap q)))::O)):WO S K (⟨some d,.bin .i .quo x y,none⟩::os) O:=bnd h fun q o h=>vn o p u (w q o h)
theorem tF(h:(nO a b).bind k=some r)(p:x.val O=some (.int ik a))(u:y.val O=some (.int ik b))(w:∀q,nO a b=some q->k q=some r->WO S K os ((d,.tv (.int ik q))::O)):WO S K (⟨some d,.bin .i .rem x y,none⟩::os) O:=bnd h fun q o h=>vo o p u (w q o h)
theorem sf{op:BinOp}{o:IntKind}(h:(MZ ik op a b).bind k=some r)(u:x.val O=some (.int ik a))(A:y.val O=some (.int o b))(B:ik=o\/op=.shl\/op=.shr)(C:∀q,MZ ik op a b=some q->k q=some r->WO S K os ((d,.tv (.int ik q))::O)):WO S K (⟨some d,.bin .w op x y,none⟩::os) O:=bnd h fun q p h=>vX p u A B (C q p h)
end ints
theorem qC{k:ByteArray->Option β}{x y:AG}{u v:ByteArray}(h:(Tx u v).bind k=some r)(p:x.val O=some (.str u))(w:y.val O=some (.str v))(A:∀q,Tx u v=some q->k q=some r->WO S K os ((d,.tv (.str q))::O)):WO S K (⟨some d,.bin .s .add x y,none⟩::os) O:=bnd h fun q o h=>r6 o p w (A q o h)
theorem s8{k:Unit->Option β}{x:AG}{n:Nat}{es:Fq}{e:α->TV}{l:List α}(h:(U3 l).bind k=some r)(o:x.val O=some (.list n es))(he:es=l.map e)(p:∀u,k u=some r->WO S K os ((d,.tv (.bool false))::O)):WO S K (⟨some d,.isn x,none⟩::os) O:=by
 obtain ⟨u,A,h⟩:=bind_some h;refine nQ o he fun b w=>?_;obtain rfl:=iA A w;exact p u h
theorem my{x:AG}{n:Nat}{e:α->TV}{a:α}(h:BB O (x.ev O)=some (e a).cells)(o:Nat.beq (e a).cells.length n=true)(p:TV.agg (e a).cells=e a)(u:WO S K os ((d,.tv (e a))::O)):WO S K (⟨some d,.lda x n,none⟩::os) O:=by
 have o:=Nat.eq_of_beq_eq_true o;exact nR h (by rw[o];exact Nat.ble_self_eq_true n) (by rw[List.take_of_length_le (by omega),p]) u
theorem s9{s n:Nat}{cs:List AS}{e:α->TV}{a:α}(h:O.get s=.bx cs)(p:cs.map (·.t)=(e a).cells)(o:Nat.beq (e a).cells.length n=true)(u:TV.agg (e a).cells=e a)(w:WO S K os ((d,.tv (e a))::O)):WO S K (⟨some d,.ldb s n,none⟩::os) O:=by
 have o:=Nat.eq_of_beq_eq_true o;exact vc h (by rw[p,o];exact Nat.ble_self_eq_true n) (by rw[p,List.take_of_length_le (by omega),u]) w
variable{v:AG}
theorem qE{n s:Nat}{cs:List AS}{t:TV}(o:O.get s=.bx cs)(hv:v.ev O=.tv t)(p:t.cells.length=n)(h:Nat.beq n cs.length=true)(u:WO S K os ((s,.bx (t.cells.map (⟨false,·⟩)))::O)):WO S K (⟨none,.stb n s v,none⟩::os) O:=by
 have h:=Nat.eq_of_beq_eq_true h;refine vq o hv p (by rw[Nat.zero_add,h];exact Nat.ble_self_eq_true _) ?_ u;rw[List.take_zero,Nat.zero_add,h,List.drop_length,List.append_nil,List.nil_append]
theorem p9{x:AG}{n:Nat}{e:α->TV}{a:α}(h:BB O (x.ev O)=some (((e a).cells.map fun t=>(⟨false,t⟩:AS)).map (·.t)))(o:Nat.beq (e a).cells.length n=true)(p:TV.agg (e a).cells=e a)(u:WO S K os ((d,.tv (e a))::O)):WO S K (⟨some d,.lda x n,none⟩::os) O:=
 my (by rw[h,List.map_map];congr 1;exact List.map_id _) o p u
def eT(n:Nat):Fq->Bool
 |[]=>true|t::ts=>Nat.beq t.cells.length n&&eT n ts
theorem ZY{n:Nat}:∀{ts:Fq},eT n ts=true->∀t∈ts,t.cells.length=n
 |[],_,_,h=>by cases h
 |t::ts,h,u,o=>by
  simp only[eT,o4]at h;rcases List.mem_cons.1 o with rfl|o
  .exact Nat.eq_of_beq_eq_true h.1
  .exact ZY h.2 u o
variable{parts:List AG}
theorem tB{n:Nat}{ts:Fq}(h:vals O parts=some ts)(o:eT n ts=true)(p:WO S K os ((d,.ow (.list n ts))::O)):WO S K (⟨some d,.lst n parts,none⟩::os) O:=by
 have:=p.out;refine⟨?_⟩;simp only[wpOps,PR.wp,AE.wp,h,Al];exact⟨ZY o,this⟩
variable{zero:Fq}
theorem px{parts:List (Nat×Nat×AG)}{ts:List (Nat×Nat×TV)}{cs:Fq}{e:α->TV}{a:α}(h:(some a).bind k=some r)(_:En α e)(o:Gl O parts=some ts)(p:E4 zero ts=some cs)(he:TV.agg cs=e a)(u:∀x,x=a->k x=some r->WO S K os ((d,.tv (e x))::O)):WO S K (⟨some d,.bld zero parts,none⟩::os) O:=by
 rw [Option.bind_some]at h;exact ZN o p he (u a rfl h)
theorem tA{x:AG}{n:Nat}{cs:Fq}{e:α->TV}{a:α}(h:(some a).bind k=some r)(_:En α e)(o:BB O (x.ev O)=some cs)(p:Nat.ble n cs.length=true)(he:TV.agg (cs.take n)=e a)(u:∀x,x=a->k x=some r->WO S K os ((d,.tv (e x))::O)):WO S K (⟨some d,.lda x n,none⟩::os) O:=by
 rw [Option.bind_some]at h;exact nR o p he (u a rfl h)
inductive Lm{α:Type}(e:α->TV):Fq->List α->Prop
 |nil:Lm e [] []
 |cons {t:TV} {ts:Fq} {a:α} {l:List α}:t=e a->Lm e ts l->Lm e (t::ts) (a::l)
theorem Lm.eq{e:α->TV}{ts:Fq}{l:List α}(h:Lm e ts l):ts=l.map e:=by
 induction h with
 |nil=>rfl|cons h _ o=>rw[h,o];rfl
theorem qA{n:Nat}{ts:Fq}{e:α->TV}{l:List α}(h:vals O parts=some ts)(o:Lm e ts l)(p:∀a,(e a).cells.length=n)(u:WO S K os ((d,.ow (.list n (l.map e)))::O)):WO S K (⟨some d,.lst n parts,none⟩::os) O:=nS h o.eq p u
theorem qB{n:Nat}{ts:Fq}{e:α->TV}{l:List α}{f:List α->TV}(h:vals O parts=some ts)(p:Lm e ts l)(u:∀a,(e a).cells.length=n)(c:Fl e n f)(o:WO S K os ((d,.ow (f l))::O)):WO S K (⟨some d,.lst n parts,none⟩::os) O:=by
 rw [c.eq]at o;exact nS h p.eq u o
theorem pj{e:α->TV}{n:Ne}{x y:AG}{a:α}{cs:Fq}(o:x.val O=some (e a))(p:y.val O=some (.agg cs))[c:ZQ e][i:Decidable (a=c.un cs)](u:TV.agg (e a).cells=e a)(w:(e (c.un cs)).cells=cs)(A:(e a).cells.map TV.kd=n)(B:WO S K os ((d,.tv (.bool (decide (a=c.un cs))))::O)):WO S K (⟨some d,.bin (.a n) .eql x y,none⟩::os) O:=by
 obtain ⟨C,h⟩:=c.dec a (c.un cs);have:i=C:=Subsingleton.elim _ _;subst this;rw[<-u]at o;rw[w]at h;exact jS o p A h B
theorem pu{e:α->TV}{n:Ne}{x y:AG}{a:α}{cs:Fq}(o:x.val O=some (e a))(p:y.val O=some (.agg cs))[c:ZQ e][i:Decidable (a=c.un cs)](u:TV.agg (e a).cells=e a)(w:(e (c.un cs)).cells=cs)(A:(e a).cells.map TV.kd=n)(B:WO S K os ((d,.tv (.bool (!decide (a=c.un cs))))::O)):WO S K (⟨some d,.bin (.a n) .neq x y,none⟩::os) O:=by
 obtain ⟨C,h⟩:=c.dec a (c.un cs);have:i=C:=Subsingleton.elim _ _;subst this;rw[<-u]at o;rw[w]at h;exact jT o p A h B
theorem pi{e:α->TV}{n:Ne}{x y:AG}{a b:α}{i:Decidable (a=b)}(o:x.val O=some (e a))(p:y.val O=some (e b))(c:ZQ e)(u:TV.agg (e a).cells=e a)(w:TV.agg (e b).cells=e b)(A:(e a).cells.map TV.kd=n)(B:WO S K os ((d,.tv (.bool (decide (a=b))))::O)):WO S K (⟨some d,.bin (.a n) .eql x y,none⟩::os) O:=by
 obtain ⟨C,h⟩:=c.dec a b;have:i=C:=Subsingleton.elim _ _;subst this;rw[<-u]at o;rw[<-w]at p;exact jS o p A h B
theorem pk{e:α->TV}{n:Ne}{x y:AG}{a b:α}{i:Decidable (a=b)}(o:x.val O=some (e a))(p:y.val O=some (e b))(c:ZQ e)(u:TV.agg (e a).cells=e a)(w:TV.agg (e b).cells=e b)(A:(e a).cells.map TV.kd=n)(B:WO S K os ((d,.tv (.bool (!decide (a=b))))::O)):WO S K (⟨some d,.bin (.a n) .neq x y,none⟩::os) O:=by
 obtain ⟨C,h⟩:=c.dec a b;have:i=C:=Subsingleton.elim _ _;subst this;rw[<-u]at o;rw[<-w]at p;exact jT o p A h B
section calls
variable{x:Option α}{f:FuncId}{ts:Fq}{R:α->Ax}{args:List AG}
theorem si{s:Nat}{cs:List AS}{row:Fq}(o:O.get s=.bx cs)(f:Fz cs row)(k:WO S K os ((s,.tv (.pt row))::O)):WO S K (⟨none,.frz s,none⟩::os) O:=vZ o f.h k
theorem nf{t:α->TV}(_:HS d)(h:x.bind k=some r)(c:Ct P x f ts R)(p:vals O args=some ts)(u:∀a,R a=.own (t a))(w:∀a,x=some a->k a=some r->WO (AU P) K os ((d,.tv (t a))::O)):WO (AU P) K (⟨some d,.call f args,none⟩::os) O:=by
 obtain ⟨a,o,h⟩:=bind_some h;have:=c.snd a o;rw[u]at this;exact rz p (qy this) (w a o h)
theorem nc{t:α->List AS}(h:x.bind k=some r)(c:Ct P x f ts R)(p:vals O args=some ts)(u:∀a,R a=.x8 (t a))(w:∀a,x=some a->k a=some r->WO (AU P) K os ((d,.tv (.agg ((t a).map fun c=>c.rel.t)))::O)):WO (AU P) K (⟨some d,.call f args,none⟩::os) O:=by
 obtain ⟨a,o,h⟩:=bind_some h;have:=c.snd a o;rw[u]at this;exact pJ p this rfl (w a o h)
theorem kD{γ:Type}{k:List γ->Option β}{x:Option (List γ)}{R:List γ->Ax}{n:Nat}{e:γ->TV}(h:x.bind k=some r)(c:Ct P x f ts R)(p:O.f0 d=true)(u:vals O args=some ts)(w:∀a,R a=.own (.list n (a.map e)))(hf:∀a,(e a).flat=true)(A:∀a,x=some a->k a=some r->WO (AU P) K os ((d,.xo n (a.map e))::O)):WO (AU P) K (⟨some d,.Aas f args,none⟩::os) O:=by
 obtain ⟨a,o,h⟩:=bind_some h;have:=c.snd a o;rw[w]at this;exact ln p u this rfl hf (A a o h)
theorem kC{γ:Type}{k:List γ->Option β}{x:Option (List γ)}{R:List γ->Ax}{n:Nat}{e:γ->TV}(h:x.bind k=some r)(c:Ct P x f ts R)(p:Aai O args=some ts)(u:∀a,R a=.own (.list n (a.map e)))(hf:∀a,(e a).flat=true)(w:∀a,x=some a->k a=some r->WO (AU P) K os ((d,.ow (.list n (a.map e)))::O)):WO (AU P) K (⟨some d,.AaC f args,none⟩::os) O:=by
 obtain ⟨a,o,h⟩:=bind_some h;have:=c.snd a o;rw[u]at this;exact li p this rfl rfl hf (w a o h)
variable{us:α->Fq}
theorem na{i s:Nat}{cs:List AS}{cs':α->List AS}{e:α->EV}(h:x.bind k=some r)(c:Ct P x f ts R)(p:(args[i]?).bind (·.place O)=some (s,0))(u:O.get s=.bx cs)(w:O.noX s none=true)(hd:d≠s)(A:IU O i args=some ts)(B:∀a,R a=.bo cs (cs' a) i (us a))(he:∀a,EV.ofs (us a)=e a)(C:∀a,x=some a->k a=some r->WO (AU P) K os ((d,e a)::(s,.bx (cs' a))::O)):WO (AU P) K (⟨some d,.Aaj f args i,none⟩::os) O:=by
 obtain ⟨a,o,h⟩:=bind_some h;have:=c.snd a o;rw[B]at this;exact pI p u w hd A this (he a) (C a o h)
end calls
inductive GS(g:Nat)(b:Bool):Ne->List PR->Ne->Nat->Prop
 |done {acc:Ne} {os:List PR}:GS g b acc os [] 0
 |step {acc js:Ne} {d n:Nat} {op:AE} {os:List PR}:GS g b (d::acc) os js n->GS g b acc (⟨some d,op,some (g,b)⟩::os) (d::js) (n+1)
 |AbL {acc js:Ne} {d n g':Nat} {b':Bool} {op:AE} {os:List PR}:acc.contains g'=true->GS g b (d::acc) os js n->GS g b acc (⟨some d,op,some (g',b')⟩::os) (d::js) (n+1)
def ph:Ne->AB->(AB->Prop)->Prop
 |[],z,K=>K z|k::ks,z,K=>∃j,ph ks ((k,j)::z) K
structure Gj(js:Ne)(d:Nat)(v:TV)(z e:AB):Prop where
 of::out:ph js z fun y=>e=(d,.tv v)::y
theorem g7{d:Nat}{v:TV}{z e:AB}(h:e=(d,.tv v)::z):Gj [] d v z e:=⟨h⟩
variable{ks:Ne}
theorem oB{k d:Nat}{v:TV}{j:EV}{z e:AB}(h:Gj ks d v ((k,j)::z) e):Gj (k::ks) d v z e:=⟨j,h.out⟩
theorem p7{js:Ne}{v:TV}{z:AB}(h:Gj js d v z O):WO S (Gj js d v z) [] O:=⟨h⟩
structure XK(js:Ne)(z:AB)(Q:AB->Prop):Prop where
 of::out:∀(d:Nat)(v:TV)(e:AB),Gj js d v z e->∃y,e=(d,.tv v)::y/\Q y
theorem oC{z:AB}{Q:AB->Prop}(h:Q z):XK [] z Q:=⟨fun _ _ _ he=>⟨z,he.out,h⟩⟩
theorem kZ{k:Nat}{z:AB}{Q:AB->Prop}(h:∀j,XK ks ((k,j)::z) Q):XK (k::ks) z Q:=⟨fun d v e he=>by
 obtain ⟨j,o⟩:=he.out;exact(h j).out d v e ⟨o⟩⟩
theorem ud{dd:Option Nat}{op:AE}{g:Nat}{b q:Bool}(h:O.get g=.tv (.bool q))(o:ZS g b q)(p:WO S K (⟨dd,op,none⟩::os) O):WO S K (⟨dd,op,some (g,b)⟩::os) O:=wy h o.out p
theorem sw{ρ:Type}{dd:Option Nat}{op:AE}{g:Nat}{q:Bool}{u v:Option ρ}{r:ρ}(w:O.get g=.tv (.bool q))(h:(if q=true then u else v)=some r)
  (o:ZS g true q->q=true->u=some r->WO S K (⟨dd,op,some (g,true)⟩::os) O)(p:Up g true q->q=false->v=some r->WO S K (⟨dd,op,some (g,true)⟩::os) O):WO S K (⟨dd,op,some (g,true)⟩::os) O:=by
 cases q with
 |true=>exact o ⟨rfl⟩ rfl h|false=>exact p ⟨by rfl⟩ rfl h
theorem sv{ρ:Type}{dd:Option Nat}{op:AE}{g:Nat}{q:Bool}{u v:Option ρ}{r:ρ}(w:O.get g=.tv (.bool q))(h:(if q=true then u else v)=some r)
  (o:Up g false q->q=true->u=some r->WO S K (⟨dd,op,some (g,false)⟩::os) O)(p:ZS g false q->q=false->v=some r->WO S K (⟨dd,op,some (g,false)⟩::os) O):WO S K (⟨dd,op,some (g,false)⟩::os) O:=by
 cases q with
 |true=>exact o ⟨by rfl⟩ rfl h|false=>exact p ⟨rfl⟩ rfl h
theorem qX{op:AE}{g:Nat}{b q:Bool}(h:O.get g=.tv (.bool q))(o:Up g b q)(p:WO S K os ((d,.sk)::O)):WO S K (⟨some d,op,some (g,b)⟩::os) O:=uc h o.out p
theorem e8{d n:Nat}{js:Ne}{v:TV}(h:WO S (Gj js d v O) (os.take n) O)(o:XK js O fun e=>WO S K (os.drop n) ((d,.tv v)::e)):WO S K os O:=
 ub n (Gj js d v) h fun e he=>by
  obtain ⟨y,rfl,p⟩:=o.out d v e he;exact p
section groups
variable{g n:Nat}{js:Ne}{c:Bool}{dd gd:Option Nat}{op:AE}{x y z:AG}{gg:Option (Nat×Bool)}
variable{T:K1}{os':List PR}
theorem s7{k:Bool->Option β}(h:(if c=true then T else some false).bind k=some r)(_:GS g true [] os js n)(A:O.get g=.tv (.bool c))(_:os[n]?=some ⟨some d,.pick x y z,gg⟩)
  (p:∀v,ZS g true c->c=true->T=some v->WO S (Gj js d (.bool v) O) (os.take (n+1)) O)(u:∀v,Up g true c->c=false->some false=some v->WO S (Gj js d (.bool v) O) (os.take (n+1)) O)
  (w:∀v,k v=some r->XK js O fun e=>WO S K (os.drop (n+1)) ((d,.tv (.bool v))::e))(ho:os=⟨dd,op,some (g,true)⟩::os'):WO S K (⟨dd,op,some (g,true)⟩::os') O:=by
 obtain ⟨v,hv,h⟩:=bind_some h;rw[<-ho];refine e8 (n:=n+1) (v:=.bool v) ?_ (w v h);rcases Bool.eq_false_or_eq_true c with o|o
 .exact p v ⟨o⟩ o (Vy o hv)
 .exact u v ⟨by rw[o];rfl⟩ o (Vx o hv)
theorem sz{k:Bool->Option β}(h:(if c=true then some true else T).bind k=some r)(_:GS g false [] os js n)(A:O.get g=.tv (.bool c))(_:os[n]?=some ⟨some d,.pick x y z,gg⟩)
  (p:∀v,ZS g false c->c=false->T=some v->WO S (Gj js d (.bool v) O) (os.take (n+1)) O)(u:∀v,Up g false c->c=true->some true=some v->WO S (Gj js d (.bool v) O) (os.take (n+1)) O)
  (w:∀v,k v=some r->XK js O fun e=>WO S K (os.drop (n+1)) ((d,.tv (.bool v))::e))(ho:os=⟨dd,op,some (g,false)⟩::os'):WO S K (⟨dd,op,some (g,false)⟩::os') O:=by
 obtain ⟨v,hv,h⟩:=bind_some h;rw[<-ho];refine e8 (n:=n+1) (v:=.bool v) ?_ (w v h);rcases Bool.eq_false_or_eq_true c with o|o
 .exact u v ⟨by rw[o];rfl⟩ o (Vy o hv)
 .exact p v ⟨o⟩ o (Vx o hv)
theorem su{e:Bool}(ho:os=⟨dd,op,some (g,true)⟩::os')(_:GS g true [] os js n)(u:O.get g=.tv (.bool c))(_:os[n]?=some ⟨some d,.pick x y z,gg⟩)
  (h:ZS g true c->c=true->WO S (Gj js d (.bool e) O) (os.take (n+1)) O)(o:Up g true c->c=false->WO S (Gj js d (.bool false) O) (os.take (n+1)) O)
  (p:XK js O fun z=>WO S K (os.drop (n+1)) ((d,.tv (.bool (c&&e)))::z)):WO S K (⟨dd,op,some (g,true)⟩::os') O:=by
 rw [<-ho];refine e8 (n:=n+1) (v:=.bool (c&&e)) ?_ p;cases c
 .exact o ⟨rfl⟩ rfl
 .exact h ⟨rfl⟩ rfl
theorem sq{e:Bool}(ho:os=⟨dd,op,some (g,false)⟩::os')(_:GS g false [] os js n)(u:O.get g=.tv (.bool c))(_:os[n]?=some ⟨some d,.pick x y z,gg⟩)
  (h:ZS g false c->c=false->WO S (Gj js d (.bool e) O) (os.take (n+1)) O)(o:Up g false c->c=true->WO S (Gj js d (.bool true) O) (os.take (n+1)) O)
  (p:XK js O fun z=>WO S K (os.drop (n+1)) ((d,.tv (.bool (c||e)))::z)):WO S K (⟨dd,op,some (g,false)⟩::os') O:=by
 rw [<-ho];refine e8 (n:=n+1) (v:=.bool (c||e)) ?_ p;cases c
 .exact h ⟨rfl⟩ rfl
 .exact o ⟨rfl⟩ rfl
end groups
variable{qi:Option Nat}{j:Int}
theorem tL{x:AG}{q n i:Nat}{es row:Fq}{e:α->TV}{l:List α}{a:α}{t:TV}(h:x.ev O=.lp q qi (j.toNat*n+i))(o:O.sR q qi=some (n,es))(he:es=l.map e)(p:∀a,(e a).cells.length=n)(u:idx l j=some a)(hi:Nat.blt i n=true)(w:(e a).cells=row)(A:row[i]?=some t)
  (B:WO S K os ((d,.tv t)::O)):WO S K (⟨some d,.xld x,none⟩::os) O:=nT h o he p u rfl hi w A B
theorem qG{x:AG}{q n:Nat}{es row:Fq}{e:α->TV}{l:List α}{a:α}{t:TV}(h:x.ev O=.lp q qi (j.toNat*n))(o:O.sR q qi=some (n,es))(he:es=l.map e)(p:∀a,(e a).cells.length=n)(u:idx l j=some a)(hi:Nat.blt 0 n=true)(w:(e a).cells=row)(A:row[0]?=some t)
  (B:WO S K os ((d,.tv t)::O)):WO S K (⟨some d,.xld x,none⟩::os) O:=nT (i:=0) h o he p u rfl hi w A B
variable{v:AG}
theorem qI{γ:Type}{s:Nat}{q n i:Nat}{env':AB}{es:Fq}{e:α->TV}{g:γ->TV}{l:List α}{a:α}{b:γ}{f:α->γ->α}(_:HX s f)(h:(AG.s s).ev O=.lp q qi (j.toNat*n+i))(p:O.sR q qi=some (n,es))(hv:v.ev O=.tv (g b))(he:es=l.map e)(u:∀a,(e a).cells.length=n)(w:idx l j=some a)(hi:Nat.blt i n=true)(A:(g b).cells=[g b])
  (B:(e (f a b)).cells=(e a).cells.set i (g b))(o:O.wB q qi n ((BN l j (f a b)).map e)=env')(C:WO S K os env'):WO S K (⟨none,.xst (.s s) v 1,none⟩::os) O:=nU h p hv he u w rfl hi A B rfl o C
theorem qH{x v:AG}{q n:Nat}{env':AB}{es:Fq}{e:α->TV}{l:List α}{a b:α}(h:x.ev O=.lp q qi (j.toNat*n))(p:O.sR q qi=some (n,es))(hv:v.ev O=.tv (e b))(he:es=l.map e)(u:∀a,(e a).cells.length=n)(w:idx l j=some a)(hi:Nat.blt 0 n=true)(A:(e b).cells=[e b])
  (B:(e b).cells=(e a).cells.set 0 (e b))(o:O.wB q qi n ((BN l j b).map e)=env')(C:WO S K os env'):WO S K (⟨none,.xst x v 1,none⟩::os) O:=nU (i:=0) h p hv he u w rfl hi A B rfl o C
end
end Go.Sf
namespace Go.Sf
section
variable{S:FuncId->Fq->Ax->Prop}{K:AB->Prop}{os:List PR}{O:AB}{d:Nat}
variable{j:Int}
theorem vk{α:Type}{x:AG}{s o:Nat}{es:Fq}{e:α->TV}{l:List α}{a:α}(h:x.ev O=.nh s o (.el j.toNat))(u:O.nat s o=some es)(he:es=l.map e)(w:idx l j=some a)(k:WO S K os ((d,.nh s o (.rw j.toNat))::O)):WO S K (⟨some d,.nld x,none⟩::os) O:=by
 replace k:=k.out;refine⟨?_⟩;subst he;obtain⟨B,C,A⟩:=G6 w;have p:j.toNat<l.length:=(List.getElem?_eq_some_iff.1 A).1;simp only[wpOps,PR.wp,AE.wp,h,u,Al];exact⟨by simpa using p,k⟩
variable{j2:Int}
theorem vl{α:Type}{x v:AG}{s o:Nat}{es:Fq}{env':AB}{e:List α->TV}{e2:α->TV}{l:List (List α)}{m:List α}{A b:α}{t:TV}(h:x.ev O=.nh s o (.rp j.toNat j2.toNat))(B:O.nat s o=some es)(hv:v.ev O=.tv t)(he:es=l.map e)(w:∀m,e m=.list 1 (m.map e2))(C:idx l j=some m)(D:idx m j2=some A)(E:t=e2 b)(F:t.cells=[t])(G:t.flat=true)
  (p:O.AbC s o ((BN l j (BN m j2 b)).map e)=env')(k:WO S K os env'):WO S K (⟨none,.nst x v,none⟩::os) O:=by
 replace k:=k.out;refine⟨?_⟩;subst he p E;obtain⟨J,L,H⟩:=G6 C;obtain⟨m0,m1,I⟩:=G6 D;have u:j2.toNat<m.length:=(List.getElem?_eq_some_iff.1 I).1;simp only[wpOps,PR.wp,AE.wp,h,B,hv,Al];refine⟨m.map e2,by rw[List.getElem?_map,H];simp[w],by simpa using u,F,G,?_⟩;have:(l.map e).set j.toNat (.list 1 ((m.map e2).set j2.toNat (e2 b)))=(BN l j (BN m j2 b)).map e:=by
  simp only[BN,List.map_set,w]
 rw [this];exact k
end
section
variable{P:Program}{K:AB->Prop}{os:List PR}{O:AB}{d:Nat}{α β γ ρ:Type}{f:FuncId}{args:List AG}{ts:Fq}{R:α->Ax}{x:Option α}{k:α->Option ρ}{r:ρ}
variable{j:Int}
theorem tC{x i:AG}{s o:Nat}{es:Fq}{e:α->TV}{l:List α}{ik:IntKind}{S:FuncId->Fq->Ax->Prop}(h:(idx l j).bind k=some r)(u:x.ev O=.nh s o .hd)(w:O.nat s o=some es)(hi:i.val O=some (.int ik j))(he:es=l.map e)
  (A:∀a,idx l j=some a->k a=some r->WO S K os ((d,.nh s o (.el j.toNat))::O)):WO S K (⟨some d,.nia x i,none⟩::os) O:=by
 obtain ⟨a,p,h⟩:=bind_some h;have B:=(A a p h).out;refine⟨?_⟩;subst he;obtain⟨D,F,E⟩:=G6 p;have C:j.toNat<l.length:=(List.getElem?_eq_some_iff.1 E).1;simp only[wpOps,PR.wp,AE.wp,u,w,hi,Al];exact⟨D,by simp only[ca];omega,B⟩
variable{e2:α->TV}{j2:Int}
theorem tD{x i:AG}{s o:Nat}{es:Fq}{e:List α->TV}{l:List (List α)}{m:List α}{ik:IntKind}{S:FuncId->Fq->Ax->Prop}(h:(idx m j2).bind k=some r)(u:x.ev O=.nh s o (.rw j.toNat))(w:O.nat s o=some es)(hi:i.val O=some (.int ik j2))(he:es=l.map e)(A:∀m,e m=.list 1 (m.map e2))(B:idx l j=some m)
  (C:∀a,idx m j2=some a->k a=some r->WO S K os ((d,.nh s o (.rp j.toNat j2.toNat))::O)):WO S K (⟨some d,.nia x i,none⟩::os) O:=by
 obtain ⟨b,p,h⟩:=bind_some h;have D:=(C b p h).out;refine⟨?_⟩;subst he;obtain⟨H,I,F⟩:=G6 B;obtain⟨m0,m1,G⟩:=G6 p;have E:j2.toNat<m.length:=(List.getElem?_eq_some_iff.1 G).1;simp only[wpOps,PR.wp,AE.wp,u,w,hi,Al];exact⟨m0,m.map e2,by rw[List.getElem?_map,F];simp[A],by simp only[ca];omega,D⟩
theorem pv{mm q s o:Nat}{es w:Fq}{cs cs':List AS}{n:Nat}{e:β->TV}{l:List β}{m:β}{k:List β->Option ρ}{S:FuncId->Fq->Ax->Prop}(h:(Ap l [m]).bind k=some r)(A:O.get mm=.nh s o .hd)(B:O.get q=.x1 n w)(C:O.get s=.bx cs)(D:O.nat s o=some es)(he:es=l.map e)(hf:TV.list n w=e m)(u:O.f0 d=true)(hd:d≠mm/\d≠q/\mm≠q)(E:cs.set o ⟨false,.undef⟩=cs')
  (F:∀a,Ap l [m]=some a->k a=some r->WO S K os ((d,.xn (a.map e))::(s,.bx cs')::(mm,.undef)::(q,.undef)::O)):WO S K (⟨some d,.Aax mm q,none⟩::os) O:=by
 obtain ⟨a,p,h⟩:=bind_some h;have H:=(F a p h).out;refine⟨?_⟩;subst he E;unfold Ap at p;split at p
 .rename_i G;cases p;simp only[wpOps,PR.wp,AE.wp,A,B,C,D,Al];refine⟨by simpa using G,⟨u,hd⟩,?_⟩;rw[hf];simpa[AB.put]using H
 .cases p
theorem kB{u:α->List β}{v:α->List γ}{w A:Nat}{p:β->TV}{e2:γ->TV}(h:x.bind k=some r)(c:Ct P x f ts R)(E:vals O args=some ts)(F:∀a,R a=.x8 [⟨true,.list w ((u a).map p)⟩,⟨true,.list A ((v a).map e2)⟩])(G:∀a,(p a).flat=true)(H:∀a,(e2 a).flat=true)
  (I:∀a,x=some a->k a=some r->WO (AU P) K os ((d,.x8 [⟨true,.xl w ((u a).map p)⟩,⟨true,.xl A ((v a).map e2)⟩])::O)):WO (AU P) K (⟨some d,.Aao f args,none⟩::os) O:=by
 obtain ⟨a,D,h⟩:=bind_some h;have C:=c.snd a D;rw[F]at C;have J:=(I a D h).out;have o:∀{τ:Type}(e:τ->TV)(l:List τ),(∀a,(e a).flat=true)->TV.wm (l.map e)=true:=by
  intro τ e l he
  induction l with
  |nil=>rfl|cons a l L=>simp[TV.wm,he,L]
 refine ⟨?_⟩;simp only[wpOps,PR.wp,AE.wp,E,Al];refine⟨_,C,fun c B=>?_,fun _=>J⟩;simp only[List.mem_cons,List.not_mem_nil,or_false]at B;rcases B with rfl|rfl
 .exact⟨_,_,rfl,o _ _ G⟩
 .exact⟨_,_,rfl,o _ _ H⟩
inductive NL:List AS->List AS->Prop
 |nil {xs:List AS}:xs=[]->NL xs []
 |cons {xs ys zs:List AS} {o:Bool} {t:TV}:xs=⟨o,t⟩::ys->NL ys zs->NL xs (⟨o,t⟩::zs)
theorem NL.eq{xs o:List AS}(h:NL xs o):xs=o:=by
 induction h with
 |nil h=>exact h|cons h _ p=>rw[h,p]
theorem tH{S:FuncId->Fq->Ax->Prop}{K:AB->Prop}{os:List PR}{O:AB}{n s h:Nat}{x v:AG}{cs cs':List AS}{t:TV}(o:x.place O=some (s,h))(p:O.get s=.bx cs)(hv:v.ev O=.tv t)(u:t.cells.length=n)(w:Nat.ble (h+n) cs.length=true)(A:NL (cs.take h++t.cells.map (⟨false,·⟩)++cs.drop (h+n)) cs')
  (k:WO S K os ((s,.bx cs')::O)):WO S K (⟨none,.st n x v,none⟩::os) O:=xP o p hv u w A.eq k
theorem qF{S:FuncId->Fq->Ax->Prop}{K:AB->Prop}{os:List PR}{O:AB}{s h q:Nat}{x:AG}{cs cs':List AS}{t:TV}(o:x.place O=some (s,h))(p:O.get s=.bx cs)(hv:O.get q=.ow t)(u:q≠s)(w:Nat.blt h cs.length=true)(A:NL (cs.set h ⟨true,t⟩) cs')
  (k:WO S K os ((s,.bx cs')::(q,.tv t)::O)):WO S K (⟨none,.st 1 x (.s q),none⟩::os) O:=vr o p hv u w A.eq k
theorem Xf:∀(ts:List (Nat×Nat×TV))(done rest:Fq),VG done.length ts=true->(IY ts).length<=rest.length->E4 (done++rest) ts=some (done++(IY ts++rest.drop (IY ts).length))
 |[],done,rest,_,h=>by simp[E4,IY]|(i,n,t)::r,done,rest,p,h=>by
  simp only[VG,o4,Nat.beq_eq]at p;obtain⟨⟨rfl,o⟩,A⟩:=p;simp only[IY,ba]at h;have u:n<=rest.length:=by omega
  simp only[E4];rw[a6 ⟨o,by rw[ba];omega⟩];have w:done++rest=done++(rest.take n++rest.drop n):=by rw[List.take_append_drop]
  rw [w,Tr t.cells done (rest.take n) (rest.drop n) (by rw[bk];omega),<-ci];rw[Xf r (done++t.cells) (rest.drop n) (by rw[ba,o];exact A) (by rw[List.length_drop];omega)];simp[IY,List.drop_drop,o]
inductive NT:Fq->Fq->Prop
 |nil {xs:Fq}:xs=[]->NT xs []
 |cons {xs ys zs:Fq} {t:TV}:xs=t::ys->NT ys zs->NT xs (t::zs)
theorem NT.eq{xs o:Fq}(h:NT xs o):xs=o:=by
 induction h with
 |nil h=>exact h|cons h _ p=>rw[h,p]
variable{zero:Fq}
theorem py{S:FuncId->Fq->Ax->Prop}{K:AB->Prop}{os:List PR}{O:AB}{d:Nat}{parts:List (Nat×Nat×AG)}{ts:List (Nat×Nat×TV)}{cs:Fq}(h:Gl O parts=some ts)(o:VG 0 ts=true)(p:Nat.ble (IY ts).length zero.length=true)(u:NT (IY ts++zero.drop (IY ts).length) cs)(k:WO S K os ((d,.tv (.agg cs))::O)):WO S K (⟨some d,.bld zero parts,none⟩::os) O:=
 ZN h (by have:=Xf ts [] zero o (Nat.le_of_ble_eq_true p);simpa using this) (by rw[u.eq]) k
structure HY{α A B C:Type}(n:Nat)(f:A->B->C->α)(g1:A->TV)(g2:B->TV)(g3:C->TV):Prop where
variable{v:AG}{qi:Option Nat}
theorem qJ{S:FuncId->Fq->Ax->Prop}{K:AB->Prop}{os:List PR}{O:AB}{α A B C:Type}{f:A->B->C->α}{o:Nat}{q n:Nat}{env':AB}{es cs cs':Fq}{e:α->TV}{l:List α}{a:α}{E:A}{F:B}{G:C}{p:A->TV}{u:B->TV}{w:C->TV}(_:HY o f p u w)(h:(AG.s o).ev O=.lp q qi (j.toNat*n))(H:O.sR q qi=some (n,es))(he:es=l.map e)(I:∀a,(e a).cells.length=n)(hv:v.ev O=.tv (.agg cs))(J:NT cs cs')(L:cs'=[p E,u F,w G])(hf:∀a b c,TV.agg [p a,u b,w c]=e (f a b c))(N:idx l j=some a)(U:Nat.blt 0 n=true)
  (D:O.wB q qi n ((BN l j (f E F G)).map e)=env')(k:WO S K os env'):WO S K (⟨none,.xst (.s o) v n,none⟩::os) O:=nV h H (by rw[hv,J.eq,L,hf]) he I N U D k
theorem tM{S:FuncId->Fq->Ax->Prop}{α:Type}{x v:AG}{q n:Nat}{env':AB}{es:Fq}{e:α->TV}{l:List α}{a b:α}(h:x.ev O=.lp q qi (j.toNat*n))(p:O.sR q qi=some (n,es))(he:es=l.map e)(u:∀a,(e a).cells.length=n)(hv:v.ev O=.tv (e b))(w:idx l j=some a)(A:Nat.blt 0 n=true)
  (o:O.wB q qi n ((BN l j b).map e)=env')(k:WO S K os env'):WO S K (⟨none,.xst x v n,none⟩::os) O:=nV h p hv he u w A o k
end
section
variable{S:FuncId->Fq->Ax->Prop}{K:AB->Prop}{os:List PR}{O:AB}{d:Nat}
theorem vg(k:∀b,WO S K os ((d,.mx (.mp b []))::O)):WO S K (⟨some d,.mkm,none⟩::os) O:=
 ⟨fun b=>(k b).out⟩
theorem vj{s:Nat}{last:Option ((Int×Int)×Int)}{o:BX}(h:O.get s=.mx (.mi last o))(hd:d≠s)(w:o=[]->WO S K os ((d,.tp [.bool false])::O))(A:∀p u,o.Perm (p::u)->WO S K os ((d,.tp [.bool true,Ra p.1,.int .i64 p.2])::(s,.mx (.mi (some p) u))::O)):WO S K (⟨some d,.mnx s,none⟩::os) O:=by
 refine ⟨?_⟩;simp only[wpOps,PR.wp,AE.wp,h];exact⟨hd,fun e=>(w e).out,fun p t B=>(A p t B).out⟩
variable{kvs:BX}
theorem lm{f:FuncId}{args:List AG}{ts us:Fq}(hv:vals O args=some ts)(h:S f ts (.mpr kvs us))(k:∀b,WO S K os ((d,.mx (.tm b kvs us))::O)):WO S K (⟨some d,.Aau f args,none⟩::os) O:=by
 refine ⟨?_⟩;simp only[wpOps,PR.wp,AE.wp,hv,Al];exact .inr ⟨kvs,us,h,fun _ b=>(k b).out⟩
theorem lj{f:FuncId}{args:List AG}{ts us:Fq}(hv:vals O args=some ts)(h:S f ts (.tp us))(k:WO S K os ((d,.tp us)::O)):WO S K (⟨some d,.Aau f args,none⟩::os) O:=by
 refine ⟨?_⟩;simp only[wpOps,PR.wp,AE.wp,hv,Al];exact .inl ⟨us,h,fun _=>k.out⟩
theorem K9{ss:Ne}{s:Nat}{r:AB}{m:MX}(h:O.get s=.mx m)(k:Kp O ss r):Kp O (s::ss) ((s,.mx m)::r):=N0 h k
theorem u9{ss:Ne}{s:Nat}{r:AB}{q:List (Nat×EV)}{m:MX}(h:look q s=none)(o:O.get s=.mx m)(k:Nm O q ss r):Nm O q (s::ss) ((s,.mx m)::r):=P4 h o k
end
def N2(r:BX×Int):Ax:=if r.2=0 then .mpr r.1 [.int .i64 r.2]else .tp [.undef,.int .i64 r.2]
structure v8(o:Nat):Prop where
variable{kvs:BX}
theorem oR{h:List RV}{O:AB}{e:Int}(he:(!decide (e=0))=true)(o:h.length≠1)(p:EM O h=some [.undef,.int .i64 e]):Bx h (N2 (kvs,e)) O:=by
 simp only[Bool.not_eq_true',decide_eq_false_iff_not]at he;simp only[N2,ae he];exact⟨o,p⟩
theorem oS{s o b:Nat}{h:List RV}{O:AB}(_:v8 o)(p:O.get s=.tv (.AaE b))(u:O.get o=.mx (.mp b kvs))(w:h≠[])(A:EM O h=some [.int .i64 0]):Bx (.tmp s::h) (N2 (kvs,0)) O:=by
 simp only[N2,if_true,Bx];exact⟨w,⟨b,o,p,u⟩,A⟩
section
variable{P:Program}{α β:Type}{K:AB->Prop}{os:List PR}{O:AB}{d:Nat}{x:Option α}{k:α->Option β}{r:β}{f:FuncId}{args:List AG}{ts:Fq}{R:α->Ax}
variable{us:α->Fq}
theorem kA{i s:Nat}{cs:List AS}{q:α->Bool}{u v:α->List AS}{e:α->EV}(h:x.bind k=some r)(c:Ct P x f ts R)(A:(args[i]?).bind (·.place O)=some (s,0))(B:O.get s=.bx cs)(C:O.noX s none=true)(hd:d≠s)(D:IU O i args=some ts)(E:∀a,R a=.bo cs (if q a=true then u a else v a) i (us a))(he:∀a,EV.ofs (us a)=e a)
  (F:∀a,x=some a->q a=true->k a=some r->WO (AU P) K os ((d,e a)::(s,.bx (u a))::O))(G:∀a,x=some a->q a=false->k a=some r->WO (AU P) K os ((d,e a)::(s,.bx (v a))::O)):WO (AU P) K (⟨some d,.Aaj f args i,none⟩::os) O:=by
 refine na h c A B C hd D E he (fun a o p=>?_);cases w:q a with
 |true=>rw[a6 rfl];exact F a o w p|false=>rw[ae (by simp)];exact G a o w p
end
section
variable{S:FuncId->Fq->Ax->Prop}{a b:PC}{O:AB}
variable{Q:Q}
theorem p0{c:AG}{β:Type}{q:Bool}{u v:Option β}{r:β}(p:c.val O=some (.bool q))(h:(if q=true then u else v)=some r)(o:q=true)(k:u=some r->WP S a Q O):WP S (.cond c a b) Q O:=
 Rg p o (k (Vy o h))
theorem pz{c:AG}{β:Type}{q:Bool}{u v:Option β}{r:β}(p:c.val O=some (.bool q))(h:(if q=true then u else v)=some r)(o:q=false)(k:v=some r->WP S b Q O):WP S (.cond c a b) Q O:=
 Rf p o (k (Vx o h))
end
end Go.Sf
set_option maxRecDepth 100000
namespace Go.Sf
theorem au{P:Prop}(p:P:=by
 repeat' (first
  |(show WO _ _ _ _;first
    |apply Nf
    |(apply st 1;exact rfl;first|exact fun _ k=>k|exact fun _ k=>⟨rfl,k⟩)
    |(apply ud;exact rfl;assumption)
    |(apply qX;exact rfl;assumption)
    |(apply vd;exact rfl;(first|exact rfl|exact Ml.eq))
    |(apply pL;exact rfl;assumption;exact rfl)
    |(apply pK;exact rfl;assumption;exact rfl)
    |(apply nf;assumption;exact h;infer_instance;exact rfl;exact fun _=>rfl;intro x o h)|(apply kA;exact h;infer_instance;exact rfl;exact rfl;exact rfl;decide;exact rfl;exact fun _=>rfl;exact fun _=>rfl;intro x o C h;rotate_left;intro x o C h;rotate_left)|(apply wR;exact rfl;exact h;infer_instance;intro x c h;apply st 3;exact rfl;first|exact fun _ k=>⟨_,⟨c,rfl⟩,fun _=>k⟩|exact fun _ k=>⟨_,c,fun _=>k⟩|exact fun _ k=>⟨_,c,k⟩|exact fun _ k=>⟨rfl,_,_,.inl c,fun _=>k⟩|exact fun _ k=>⟨⟨rfl,Nat.ne_of_beq_eq_false rfl⟩,_,_,c,fun _=>k⟩|exact fun _ k=>⟨Nat.ne_of_beq_eq_false rfl,_,c,fun _=>k⟩|exact fun _ k=>⟨rfl,_,_,_,rfl,c,fun _=>k⟩|exact fun _ k=>⟨⟨Nat.ne_of_beq_eq_false rfl,rfl⟩,rfl,rfl,_,_,rfl,c,fun _=>k⟩)
    |(apply pw;exact h;exact rfl;exact rfl;(first|exact rfl|exact Ml.eq);(first|exact rfl|exact Ml.eq);infer_instance;intro x o h)
    |(apply wT;exact rfl;exact h;intro x o h;first|(apply va o;exact rfl;exact rfl;(first|exact rfl|exact Ml.eq);exact rfl)|(apply nP o;exact rfl;exact rfl;(first|exact rfl|exact Ml.eq);(first|exact rfl|exact Ml.eq);exact rfl)|(apply vp o;exact rfl;(first|exact rfl|exact Ml.eq);exact rfl;exact rfl)|(apply r7 o;exact rfl;exact rfl)|(apply r8 o;exact rfl;exact rfl;exact rfl)|(apply vt o;exact rfl;exact rfl;(first|exact rfl|exact Ml.eq);exact rfl)|(apply ru o;exact rfl;exact rfl;(first|exact rfl|exact Ml.eq);(first|exact rfl|exact Ml.eq);exact rfl;exact rfl;decide)|(apply rx o;exact rfl;exact rfl;exact rfl;exact rfl;exact rfl;exact rfl;decide;exact rfl;exact rfl)|(apply vY o;exact rfl;exact rfl;exact rfl;exact rfl;exact rfl;decide)|(apply vh o;exact rfl;exact rfl;exact rfl;exact rfl))
    |(apply r9;exact rfl;(first|exact rfl|exact Ml.eq))
    |(apply px;(with_reducible exact h);infer_instance;exact rfl;exact rfl;exact rfl;intro x o h)
    |(apply ry;exact rfl;exact rfl;exact rfl;exact rfl)
    |(apply py;exact rfl;exact rfl;exact rfl;(focus ((repeat(apply NT.cons;exact rfl));exact NT.nil rfl)))
    |(apply ZN;exact rfl;exact rfl;exact rfl)
    |(apply tA;(with_reducible exact h);infer_instance;exact rfl;exact rfl;exact rfl;intro x o h)
    |(apply my;exact rfl;exact rfl;exact rfl)
    |(apply s9;exact rfl;exact rfl;exact rfl;exact rfl)
    |(apply p9;exact rfl;exact rfl;exact rfl)
    |(apply qE;exact rfl;exact rfl;exact rfl;exact rfl)
    |(apply tH;exact rfl;exact rfl;exact rfl;exact rfl;exact rfl;(focus ((repeat(apply NL.cons;exact rfl));exact NL.nil rfl)))
    |(apply qF;exact rfl;exact rfl;exact rfl;decide;exact rfl;(focus ((repeat(apply NL.cons;exact rfl));exact NL.nil rfl)))
    |(apply ve;exact rfl;exact rfl)
    |(apply vf;exact rfl;exact rfl)
    |(apply st 2;exact rfl;(focus (intro _ k;(repeat' (first|exact k|exact rfl|exact Nat.le_of_ble_eq_true rfl|exact Nat.ne_of_beq_eq_false rfl|decide|apply And.intro));done)))
    |(apply sn;exact rfl;(focus (intro _ k;(repeat' (first|exact k|exact rfl|exact Nat.le_of_ble_eq_true rfl|exact Nat.ne_of_beq_eq_false rfl|decide|apply And.intro));done)))
    |(apply wz;exact rfl)
    |(apply vb;exact rfl)
    |(apply nc;exact h;infer_instance;exact rfl;exact fun _=>rfl;intro x o h)
    |(apply tE;exact h;exact rfl;exact rfl;intro x o h)
    |(apply tF;exact h;exact rfl;exact rfl;intro x o h)
    |(apply sf;exact h;exact rfl;exact rfl;decide;intro x o h)
    |(apply qC;exact h;exact rfl;exact rfl;intro x o h)
    |(apply pi;exact rfl;exact rfl;infer_instance;exact rfl;exact rfl;exact rfl)
    |(apply pk;exact rfl;exact rfl;infer_instance;exact rfl;exact rfl;exact rfl)
    |refine pj rfl rfl rfl rfl rfl ?_
    |refine pu rfl rfl rfl rfl rfl ?_
    |(apply sw;exact rfl;(with_reducible exact h);intro A C h;rotate_left;intro A C h;rotate_left)
    |(apply sv;exact rfl;(with_reducible exact h);intro A C h;rotate_left;intro A C h;rotate_left)
    |(apply s7 h (ho:=rfl);(focus ((repeat(first|apply GS.step|(apply GS.AbL;exact rfl)));exact GS.done));exact rfl;exact rfl;intro v A C h;rotate_left;intro v A C h;rotate_left;intro v h;rotate_left)
    |(apply sz h (ho:=rfl);(focus ((repeat(first|apply GS.step|(apply GS.AbL;exact rfl)));exact GS.done));exact rfl;exact rfl;intro v A C h;rotate_left;intro v A C h;rotate_left;intro v h;rotate_left)
    |(apply su rfl;(focus ((repeat(first|apply GS.step|(apply GS.AbL;exact rfl)));exact GS.done));exact rfl;exact rfl;intro A C;rotate_left;intro A C;rotate_left 3)
    |(apply sq rfl;(focus ((repeat(first|apply GS.step|(apply GS.AbL;exact rfl)));exact GS.done));exact rfl;exact rfl;intro A C;rotate_left;intro A C;rotate_left 3)
    |apply p7
    |(apply qB;exact rfl;(focus ((repeat(apply Lm.cons;exact rfl));exact Lm.nil));exact fun _=>rfl;infer_instance)|(apply qA;exact rfl;(focus ((repeat(apply Lm.cons;exact rfl));exact Lm.nil));exact fun _=>rfl)
    |(apply tB;exact rfl;exact rfl)
    |(apply si;exact rfl;infer_instance)
    |(apply qG;exact rfl;exact rfl;exact rfl;exact fun _=>rfl;assumption;exact rfl;exact rfl;exact rfl)|(apply tL;exact rfl;exact rfl;exact rfl;exact fun _=>rfl;assumption;exact rfl;exact rfl;exact rfl)|(apply qI;assumption;exact rfl;exact rfl;exact rfl;exact rfl;exact fun _=>rfl;assumption;exact rfl;exact rfl;exact rfl;exact rfl)|(apply qH;exact rfl;exact rfl;exact rfl;exact rfl;exact fun _=>rfl;assumption;exact rfl;exact rfl;exact rfl;exact rfl)|(apply qJ;assumption;exact rfl;exact rfl;exact rfl;exact fun _=>rfl;exact rfl;(focus ((repeat(apply NT.cons;exact rfl));exact NT.nil rfl));exact rfl;exact fun _ _ _=>rfl;assumption;exact rfl;exact rfl)|(apply tM;exact rfl;exact rfl;exact rfl;exact fun _=>rfl;exact rfl;assumption;exact rfl;exact rfl)|(apply kD;exact h;infer_instance;exact rfl;exact rfl;exact fun _=>rfl;exact fun _=>rfl;intro x o h)|(apply kC;exact h;infer_instance;exact rfl;exact fun _=>rfl;exact fun _=>rfl;intro x o h)
    |(apply s8;exact h;exact rfl;(first|exact rfl|exact Ml.eq);intro u h)
    |(apply nQ;exact rfl;exact rfl;intro z D;replace h:=nv h z D)
    |(apply tC;exact h;exact rfl;exact rfl;exact rfl;(first|exact rfl|exact Ml.eq);intro x o h)
    |(apply vk;exact rfl;exact rfl;(first|exact rfl|exact Ml.eq);assumption)
    |(apply tD;exact h;exact rfl;exact rfl;exact rfl;(first|exact rfl|exact Ml.eq);exact fun _=>rfl;assumption;intro x o h)
    |(apply vl;exact rfl;exact rfl;exact rfl;(first|exact rfl|exact Ml.eq);exact fun _=>rfl;assumption;assumption;exact rfl;exact rfl;exact rfl;exact rfl)
    |(apply pv;exact h;exact rfl;exact rfl;exact rfl;exact rfl;(first|exact rfl|exact Ml.eq);exact rfl;exact rfl;decide;exact rfl;intro x o h)
    |(apply kB;exact h;infer_instance;exact rfl;exact fun _=>rfl;exact fun _=>rfl;exact fun _=>rfl;intro x o h)
    |(apply vg;intro b;have K:=K b))
  |(show WP _ _ _ _;first
    |with_reducible apply sg
    |apply K5
    |apply Pt
    |(apply p6;exact rfl)
    |(apply tG;exact rfl;exact rfl)
    |apply ZU
    |apply eQ
    |apply gM
    |(apply Rg;exact rfl;with_reducible rfl)
    |(apply Rf;exact rfl;with_reducible rfl)
    |(apply p8;exact rfl;exact h;assumption;exact rfl;intro w C h;rotate_left;intro w C h;rotate_left;intro w h;rotate_left)
    |(apply p0;exact rfl;exact h;assumption;intro h)
    |(apply pz;exact rfl;exact h;assumption;intro h)
    |(apply p5;exact rfl;exact h;intro C h;rotate_left;intro C h;rotate_left)
    |(apply Rg;exact rfl;apply xX;assumption)
    |(apply Rf;exact rfl;apply ww;assumption)
    |(apply gN;assumption;exact h;exact B;(first|exact TF rfl (by first|exact rfl|exact Ml.eq)|exact TE rfl|exact Q5 rfl rfl (by first|exact rfl|exact Ml.eq)|exact Q4 rfl rfl|exact TH rfl|exact TG rfl (by first|exact rfl|exact Ml.eq)|exact TJ rfl rfl|exact TI|exact TD (by decide));exact rfl;exact rfl;exact fun _ _=>rfl;intro i s r hi h B;rotate_left;intro i s hi;clear h;rotate_left;intro s h;rotate_left)
    |(apply gN;apply HB.a;assumption;exact h;exact B;(first|exact TF rfl (by first|exact rfl|exact Ml.eq)|exact TE rfl|exact Q5 rfl rfl (by first|exact rfl|exact Ml.eq)|exact Q4 rfl rfl|exact TH rfl|exact TG rfl (by first|exact rfl|exact Ml.eq)|exact TJ rfl rfl|exact TI|exact TD (by decide));exact rfl;exact rfl;exact fun _ _=>rfl;intro i s r hi h B;rotate_left;intro i s hi;clear h;rotate_left;intro s h;rotate_left)
    |(apply gQ;assumption;assumption;exact rfl;exact h;exact B;(first|exact TF rfl (by first|exact rfl|exact Ml.eq)|exact TE rfl|exact Q5 rfl rfl (by first|exact rfl|exact Ml.eq)|exact Q4 rfl rfl|exact TH rfl|exact TG rfl (by first|exact rfl|exact Ml.eq)|exact TJ rfl rfl|exact TI|exact TD (by decide));exact rfl;exact rfl;exact fun _ _=>rfl;intro i s r hi h B;rotate_left;intro i s hi;clear h;rotate_left;intro s h;rotate_left)
    |(apply gQ;apply HB.a;assumption;assumption;exact rfl;exact h;exact B;(first|exact TF rfl (by first|exact rfl|exact Ml.eq)|exact TE rfl|exact Q5 rfl rfl (by first|exact rfl|exact Ml.eq)|exact Q4 rfl rfl|exact TH rfl|exact TG rfl (by first|exact rfl|exact Ml.eq)|exact TJ rfl rfl|exact TI|exact TD (by decide));exact rfl;exact rfl;exact fun _ _=>rfl;intro i s r hi h B;rotate_left;intro i s hi;clear h;rotate_left;intro s h;rotate_left)
    |(apply gP;assumption;exact h;exact B;(first|exact TF rfl (by first|exact rfl|exact Ml.eq)|exact TE rfl|exact Q5 rfl rfl (by first|exact rfl|exact Ml.eq)|exact Q4 rfl rfl|exact TH rfl|exact TG rfl (by first|exact rfl|exact Ml.eq)|exact TJ rfl rfl|exact TI|exact TD (by decide));exact rfl;exact rfl;exact fun _ _=>rfl;intro i s r hi h B;rotate_left;intro i s hi;clear h;rotate_left;intro s h;rotate_left)
    |(apply gP;apply HB.a;assumption;exact h;exact B;(first|exact TF rfl (by first|exact rfl|exact Ml.eq)|exact TE rfl|exact Q5 rfl rfl (by first|exact rfl|exact Ml.eq)|exact Q4 rfl rfl|exact TH rfl|exact TG rfl (by first|exact rfl|exact Ml.eq)|exact TJ rfl rfl|exact TI|exact TD (by decide));exact rfl;exact rfl;exact fun _ _=>rfl;intro i s r hi h B;rotate_left;intro i s hi;clear h;rotate_left;intro s h;rotate_left)
    |(apply gO;assumption;exact h;exact B;(first|exact TF rfl (by first|exact rfl|exact Ml.eq)|exact TE rfl|exact Q5 rfl rfl (by first|exact rfl|exact Ml.eq)|exact Q4 rfl rfl|exact TH rfl|exact TG rfl (by first|exact rfl|exact Ml.eq)|exact TJ rfl rfl|exact TI|exact TD (by decide));exact rfl;exact rfl;exact fun _ _=>rfl;intro i s r hi h B;rotate_left;intro i s hi;clear h;rotate_left;intro s h;rotate_left)
    |(apply gO;apply HB.a;assumption;exact h;exact B;(first|exact TF rfl (by first|exact rfl|exact Ml.eq)|exact TE rfl|exact Q5 rfl rfl (by first|exact rfl|exact Ml.eq)|exact Q4 rfl rfl|exact TH rfl|exact TG rfl (by first|exact rfl|exact Ml.eq)|exact TJ rfl rfl|exact TI|exact TD (by decide));exact rfl;exact rfl;exact fun _ _=>rfl;intro i s r hi h B;rotate_left;intro i s hi;clear h;rotate_left;intro s h;rotate_left)
    |(apply tK;assumption;assumption;exact rfl;exact h;exact rfl;exact rfl;intro s r h B;rotate_left;intro s h;rotate_left)
    |(apply tJ;assumption;exact h;exact rfl;exact rfl;intro s r h B;rotate_left;intro s h;rotate_left)
    |(apply tI;assumption;exact h;exact rfl;exact rfl;intro s r h B;rotate_left;intro s h;rotate_left)
    |apply cU
    |cases h)
  |(show Kp _ _ _;first
    |exact If
    |(apply LB;exact rfl)
    |(apply ul;exact rfl)
    |(apply K8;exact rfl)
    |(apply uo;exact rfl)
    |(apply uj;exact rfl)
    |(apply LA;exact rfl)
    |(apply LC;exact rfl)
    |(apply uk;exact rfl)
    |(apply um;exact rfl)
    |(apply qt;exact rfl)
    |(apply K9;exact rfl))
  |(show Nm _ _ _ _;first
    |exact qw
    |(apply qv;exact rfl)
    |(apply vC;exact rfl;exact rfl)
    |(apply vA;exact rfl;exact rfl)
    |(apply u0;exact rfl;exact rfl)
    |(apply vE;exact rfl;exact rfl)
    |(apply uz;exact rfl;exact rfl)
    |(apply vB;exact rfl;exact rfl)
    |(apply vD;exact rfl;exact rfl)
    |(apply u7;exact rfl;exact rfl)
    |(apply u9;exact rfl;exact rfl))
  |apply oC
  |(apply kZ;intro j)
  |apply oB
  |exact g7 rfl
  |(cases h;exact g7 rfl)
  |apply Zo
  |(apply ny;decide)
  |intro B
  |(cases h;first|exact rfl|exact⟨rfl⟩|exact⟨rfl,rfl⟩|exact⟨_,rfl,rfl⟩|exact⟨_,rfl,⟨rfl⟩⟩|exact⟨rfl,_,rfl,⟨rfl⟩⟩|exact⟨by decide,rfl⟩|exact⟨_,rfl,by decide,rfl⟩|exact⟨_,rfl,rfl,rfl⟩|exact oS (by assumption) rfl rfl (by decide) rfl|exact⟨_,rfl,oR (by first|assumption|decide) (by decide) rfl⟩)
  |exact⟨rfl,⟨rfl⟩⟩)):P:=p
end Go.Sf
