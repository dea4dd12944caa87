/- Contracts that are found by themselves: rules that take the typed text along, and the script that applies them. -/
import Derived.Test.YthgbaecihlidaaaGreatDoorSfK
import Derived.Test.YthgbaecihlidaaaGreatDoorSfStep
import Derived.Test.YthgbaecihlidaaaGreatDoorSfLib
set_option linter.all false
namespace Go.Sf
class Ct(P:Program){α:Type}(x:Option α)(f:outParam FuncId)(ts:outParam Fq)(R:outParam (α->Az)):Prop where
 snd:∀r,x=some r->AM P f ts (R r)
class Ml(es:Fq){α:outParam Type}(e:outParam (α->TV))(l:outParam (List α)):Prop where
 eq:es=l.map e
class dN{α:Type}(e:α->TV)where
 un:Fq->α
 dec:∀a b,∃i:Decidable (a=b),B5 (e a).cells (e b).cells=some (@decide (a=b) i)
class Fz(cs:List AN)(row:outParam Fq):Prop where
 h:cs.map (·.t)=row
instance(priority:=high){l:Fq}:Fz (l.map fun x=>(⟨false,x⟩:AN)) l:=⟨by rw[List.map_map];exact List.map_id _⟩
instance(priority:=low){cs:List AN}:Fz cs (cs.map (·.t)):=⟨rfl⟩
class En(α:Type)(e:outParam (α->TV)):Prop where
class Fl{α:Type}(e:α->TV)(n:outParam Nat)(f:outParam (List α->TV)):Prop where
 eq:∀l,f l=.list n (l.map e)
structure Kp(O:AB)(l:QQ)(r:AB):Prop where
 of::out:O.gn l=r
def look:List (Nat×EV)->Nat->Option EV
 |[],_=>none|(k,e)::r,n=>if k=n then some e else look r n
def x9(O:AB)(m:List (Nat×EV)):QQ->AB
 |[]=>[]|s::ss=>(s,(look m s).getD (O.get s))::x9 O m ss
structure Nm(O:AB)(m:List (Nat×EV))(l:QQ)(r:AB):Prop where
 of::out:x9 O m l=r
structure Rn(a b:AB):Prop where
 of::out:a=b
structure HJ{σ:Type}(n:Nat)(M:σ->List (Nat×EV)):Prop where
structure HA{σ:Type}(n EP q i:Nat)(M:Int->σ->List (Nat×EV)):Prop where
structure HB{σ:Type}(n EP q i:Nat)(M:Int->σ->List (Nat×EV)):Prop where
theorem HB.a{σ:Type}{n EP q i:Nat}{M:Int->σ->List (Nat×EV)}(_:HB n EP q i M):HA n EP q i M:=⟨⟩
structure HW{σ:Type}(n:Nat)(M:σ->List (Nat×EV)):Prop where
structure HR{β:Type}(R:β->AB->Prop):Prop where
structure HS(n:Nat):Prop where
structure HX{α γ:Type}(n:Nat)(f:α->γ->α):Prop where
structure XY(g:Nat)(b q:Bool):Prop where
 of::out:q=b
structure Tj(g:Nat)(b q:Bool):Prop where
 of::out:q=!b
def KR(n:AB->Prop)(l:QQ):AB->Prop:=fun e=>n (e.gn l)
section
variable{O:AB}{s:Nat}{ss:QQ}{r:AB}{m:List (Nat×EV)}
theorem Hf:Kp O [] []:=⟨rfl⟩
theorem MH{e:EV}(h:O.get s=e)(k:Kp O ss r):Kp O (s::ss) ((s,e)::r):=⟨by rw[<-k.out,<-h];rfl⟩
theorem Jl{t:TV}(h:O.get s=.tv t)(k:Kp O ss r):Kp O (s::ss) ((s,.tv t)::r):=MH h k
theorem uC{t:TV}(h:O.get s=.ow t)(k:Kp O ss r):Kp O (s::ss) ((s,.ow t)::r):=MH h k
theorem Ji{t:List AN}(h:O.get s=.bx t)(k:Kp O ss r):Kp O (s::ss) ((s,.bx t)::r):=MH h k
theorem uA{q o:Nat}(h:O.get s=.bp q o)(k:Kp O ss r):Kp O (s::ss) ((s,.bp q o)::r):=MH h k
theorem Jk{t:Fq}(h:O.get s=.tp t)(k:Kp O ss r):Kp O (s::ss) ((s,.tp t)::r):=MH h k
theorem Jm(h:O.get s=.undef)(k:Kp O ss r):Kp O (s::ss) ((s,.undef)::r):=MH h k
theorem uE{n:Nat}{t:Fq}(h:O.get s=.xo n t)(k:Kp O ss r):Kp O (s::ss) ((s,.xo n t)::r):=MH h k
theorem uB{q:Nat}{i:Option Nat}(h:O.get s=.la q i)(k:Kp O ss r):Kp O (s::ss) ((s,.la q i)::r):=MH h k
theorem uD(h:O.get s=.sk)(k:Kp O ss r):Kp O (s::ss) ((s,.sk)::r):=MH h k
theorem qI{t:List AN}(h:O.get s=.oag t)(k:Kp O ss r):Kp O (s::ss) ((s,.oag t)::r):=MH h k
theorem qM:Nm O m [] []:=⟨rfl⟩
theorem qL{e:EV}(h:look m s=some e)(k:Nm O m ss r):Nm O m (s::ss) ((s,e)::r):=⟨by rw[<-k.out];simp only[x9,h,Option.getD_some]⟩
theorem OZ{e:EV}(h:look m s=none)(o:O.get s=e)(k:Nm O m ss r):Nm O m (s::ss) ((s,e)::r):=⟨by rw[<-k.out];simp only[x9,h,o,Option.getD_none]⟩
theorem uQ{t:TV}(h:look m s=none)(o:O.get s=.tv t)(k:Nm O m ss r):Nm O m (s::ss) ((s,.tv t)::r):=OZ h o k
theorem uO{t:TV}(h:look m s=none)(o:O.get s=.ow t)(k:Nm O m ss r):Nm O m (s::ss) ((s,.ow t)::r):=OZ h o k
theorem uL{t:List AN}(h:look m s=none)(o:O.get s=.bx t)(k:Nm O m ss r):Nm O m (s::ss) ((s,.bx t)::r):=OZ h o k
theorem uK{q o:Nat}(h:look m s=none)(p:O.get s=.bp q o)(k:Nm O m ss r):Nm O m (s::ss) ((s,.bp q o)::r):=OZ h p k
theorem uP{t:Fq}(h:look m s=none)(o:O.get s=.tp t)(k:Nm O m ss r):Nm O m (s::ss) ((s,.tp t)::r):=OZ h o k
theorem uR(h:look m s=none)(o:O.get s=.undef)(k:Nm O m ss r):Nm O m (s::ss) ((s,.undef)::r):=OZ h o k
theorem uT{n:Nat}{t:Fq}(h:look m s=none)(o:O.get s=.xo n t)(k:Nm O m ss r):Nm O m (s::ss) ((s,.xo n t)::r):=OZ h o k
theorem uM{q:Nat}{i:Option Nat}(h:look m s=none)(o:O.get s=.la q i)(k:Nm O m ss r):Nm O m (s::ss) ((s,.la q i)::r):=OZ h o k
end
def PC.xl(i:Nat):PC->Option QQ
 |.exit j l=>if j=i then some l else none|.seq a b=>match a.xl i with
  |some l=>some l|none=>b.xl i
 |.cond _ a b=>match a.xl i with
  |some l=>some l|none=>b.xl i
 |.block _ a=>a.xl i|.loop _ a=>a.xl i|.rls _ a=>a.xl i|_=>none
def PC.last:PC->Option QQ
 |.region _ l=>some l|.draw _ _ l=>some l|.skip l=>some l|.exit _ l=>some l|.seq _ b=>b.last|.cond _ a _=>a.last|.block i (.loop _ b)=>b.xl i|.block _ c=>c.last|.rls _ c=>c.last|_=>none
section
variable{S:FuncId->Fq->Az->Prop}{K:AB->Prop}{os:List PR}{O:AB}{d:Nat}
section code
variable{n t:AB->Prop}{x:Nat->AB->Prop}{a b:PC}{l:QQ}{env':AB}
theorem L3(o:Kp O l env')(h:n env'):WO S (KR n l) [] O:=⟨by show n (O.gn l);rw[o.out];exact h⟩
theorem OR{ops:List PR}(h:WO S (KR n l) ops O):WP S (.region ops l) ⟨n,x,t⟩ O:=⟨h.out⟩
theorem pB{D:QQ}{ops:List PR}(hd:Qj O D=true)(h:WO S (KR n l) ops O):WP S (.draw D ops l) ⟨n,x,t⟩ O:=⟨hd,h.out⟩
theorem Jg(h:WP S a ⟨fun e=>(∀s,(e.get s).WF)->WP S b ⟨n,x,t⟩ e,x,t⟩ O):WP S (.seq a b) ⟨n,x,t⟩ O:=tW h
theorem Xd(o:Kp O l env')(h:n env'):WP S (.skip l) ⟨n,x,t⟩ O:=pX o.out h
theorem bN(h:t O):WP S .ret ⟨n,x,t⟩ O:=⟨h⟩
theorem dX{i:Nat}(o:Kp O l env')(h:x i env'):WP S (.exit i l) ⟨n,x,t⟩ O:=pW o.out h
theorem sn{s:Nat}{cs cs':List AN}{c:PC}{q:Q}(h:O.get s=.bx cs)(he:cs.map AN.rel=cs')(k:WP S c q ((s,.bx cs')::O)):WP S (.rls s c) q O:=by
 refine ⟨?_⟩;subst he;simp only[PC.wp,h];exact k.out
theorem Zu{i:Nat}(h:WP S a ⟨n,fun j e=>if j=i then n e else x j e,t⟩ O):WP S (.block i a) ⟨n,x,t⟩ O:=VX h
theorem sQ{m:List (Nat×EV)}{e:AB}{q:Q}(he:Nm e m l env')(h:WP S a q env'):WP S a q (x9 e m l):=by rw[he.out];exact h
variable{Q:Q}
theorem pA{c:AE}{β:Type}{q:Bool}{u v:Option β}{r:β}(o:c.val O=some (.bool q))(h:(if q=true then u else v)=some r)(p:q=true->u=some r->WP S a Q O)(w:q=false->v=some r->WP S b Q O):WP S (.cond c a b) Q O:=
 UX o (fun e=>p e (Us e h)) (fun e=>w e (Ur e h))
theorem pE{σ β:Type}{i:Nat}{M:σ->List (Nat×EV)}{q:Bool}{u v:Option σ}{k:σ->Option β}{r:β}(p:(AE.s i).val O=some (.bool q))(h:((if q=true then u else v).bind k)=some r)(_:HJ i M)(_:(PC.cond (.s i) a b).last=some l)
  (A:∀w,q=true->u=some w->WP S a ⟨fun e=>Rn e (x9 O (M w) l),x,t⟩ O)(B:∀w,q=false->v=some w->WP S b ⟨fun e=>Rn e (x9 O (M w) l),x,t⟩ O)(C:∀w,k w=some r->n (x9 O (M w) l)):WP S (.cond (.s i) a b) ⟨n,x,t⟩ O:=by
 obtain ⟨w,o,h⟩:=bind_some h;refine tV (fun e=>Rn e (x9 O (M w) l)) ?_ (fun e he=>by rw[he.out];exact C w h);exact UX p (fun e=>A w e (Us e o)) (fun e=>B w e (Ur e o))
end code
structure Bd(O:AB)(q i:Nat)(b:Int):Prop where
 of::out:(∀s,(O.get s).WF)->b<=9223372036854775807
section bounds
variable{q i:Nat}{α:Type}{e:α->TV}{l:List α}{es row:Fq}{n:Nat}
theorem R1{b:Int}(h:decide (b<=9223372036854775807)=true):Bd O q i b:=⟨fun _=>of_decide_eq_true h⟩
theorem R6{b:Int}:Bd O q i (AK b):=⟨fun _=>sC _⟩
theorem R3(h:O.get q=.tv (.list n es))(he:es=l.map e):Bd O q i l.length:=⟨fun o=>by have:=o q;rw[h]at this;exact TP (XT this) he⟩
theorem R4(h:O.get q=.ow (.list n es))(he:es=l.map e):Bd O q i l.length:=⟨fun o=>by have:=o q;rw[h]at this;exact TP (vg this) he⟩
theorem R7(h:O.get q=.xo n es)(he:es=l.map e):Bd O q i l.length:=⟨fun o=>by have:=o q;rw[h]at this;exact TP (vh this) he⟩
theorem R5{b:ByteArray}(h:O.get q=.tv (.str b)):Bd O q i b.size:=⟨fun o=>by have:=o q;rw[h]at this;exact oc (XT this)⟩
theorem R2{b:Int}(h:O.get q=.tv (.int .i64 b)):Bd O q i b:=⟨fun o=>by have:=o q;rw[h]at this;exact gc (XT this)⟩
theorem PW(h:O.get q=.tv (.pt row))(o:row[i]?=some (.list n es))(he:es=l.map e):Bd O q i l.length:=⟨fun p=>by have:=p q;rw[h]at this;exact TP (bC (l5 this) o) he⟩
theorem PV{b:Int}(h:O.get q=.tv (.pt row))(o:row[i]?=some (.int .i64 b)):Bd O q i b:=⟨fun p=>by have:=p q;rw[h]at this;exact gc (bC (l5 this) o)⟩
end bounds
section loops
variable{σ β ρ:Type}{n t:AB->Prop}{x:Nat->AB->Prop}{c:PC}{live jl:QQ}{i0 EP q i1:Nat}{lo b:Int}{s0:σ}{r:β}{k:σ->Option β}
variable{M:Int->σ->List (Nat×EV)}
theorem sE(h:∀i s,(x9 O (M i s) live).get EP=.tv (.int .i64 i)){i:Int}{s:σ}(o:∀k,((x9 O (M i s) live).get k).WF)(hi:i<b)(p:b<=9223372036854775807):AK (i+1)=i+1:=by
 have:=o EP;rw[h]at this;exact vj (XT this) hi p
theorem dY{f:Int->σ->Option σ}(_:HA i0 EP q i1 M)(h:(pq f lo b s0).bind k=some r)(p:∀s,(O.get s).WF)(u:Bd O q i1 b)(_:c.xl i0=some jl)(w:O.gn live=x9 O (M lo s0) live)(A:∀i s,(x9 O (M i s) live).get EP=.tv (.int .i64 i))
  (B:∀i s r,i<b->f i s=some r->(∀k,((x9 O (M i s) live).get k).WF)->WP S c ⟨fun e=>Rn (e.gn live) (x9 O (M (AK (i+1)) r) live),fun _ _=>False,fun _=>False⟩ (x9 O (M i s) live))
  (C:∀i s,¬i<b->WP S c ⟨fun _=>False,fun j e=>j=i0/\Rn e (x9 O (M 0 s) jl),fun _=>False⟩ (x9 O (M i s) live))
  (D:∀s,k s=some r->n (x9 O (M 0 s) jl)):WP S (.block i0 (.loop live c)) ⟨n,x,t⟩ O:=by
 obtain ⟨o,ho,h⟩:=bind_some h;have u:=u.out p;refine od ho (fun i s=>x9 O (M i s) live) (fun s=>x9 O (M 0 s) jl) w (fun i s r hi hf p=>⟨PC.o4 S c _ _ (B i s r hi hf p).out _ (fun e he=>?_) (fun _ _ h=>h) (fun _ h=>h)⟩) (fun i s hi=>⟨PC.o4 S c _ _ (C i s hi).out _ (fun _ h=>h) (fun j e h=>⟨h.1,h.2.out⟩) (fun _ h=>h)⟩) (D o h);have:=he.out;rw[sE A p hi u]at this;exact this
variable{kr:ρ->Option β}
theorem Ve{f:Int->σ->Option (Bu σ ρ)}{R:ρ->AB->Prop}(h:fl (kq f lo b s0) k kr=some r)(w:b<=9223372036854775807)(A:O.gn live=x9 O (M lo s0) live)(B:∀i s,(x9 O (M i s) live).get EP=.tv (.int .i64 i))
  (C:∀i s r,i<b->f i s=some r->(∀k,((x9 O (M i s) live).get k).WF)->WP S c ⟨fun e=>∃s',r=.next s'/\Rn (e.gn live) (x9 O (M (AK (i+1)) s') live),fun j e=>j=i0/\∃s',r=.brk s'/\Rn e (x9 O (M 0 s') jl),fun e=>∃v,r=.ret v/\R v e⟩ (x9 O (M i s) live))
  (D:∀i s,¬i<b->WP S c ⟨fun _=>False,fun j e=>j=i0/\Rn e (x9 O (M 0 s) jl),fun _=>False⟩ (x9 O (M i s) live))
  (E:∀s,k s=some r->n (x9 O (M 0 s) jl))(F:∀v e,kr v=some r->R v e->t e):WP S (.block i0 (.loop live c)) ⟨n,x,t⟩ O:=by
 obtain ⟨o,ho,h⟩:=VR h;refine bG ho (fun i s=>x9 O (M i s) live) (fun s=>x9 O (M 0 s) jl) R A (fun i s r hi hf u=>⟨PC.o4 S c _ _ (C i s r hi hf u).out _ (fun e he=>?_) (fun j e he=>?_) (fun _ h=>h)⟩) (fun i s hi=>⟨PC.o4 S c _ _ (D i s hi).out _ (fun _ h=>h) (fun j e h=>⟨h.1,h.2.out⟩) (fun _ h=>h)⟩) (fun s G=>E s (ax h G)) (fun v e hv=>F v e (ay h hv))
 .obtain⟨s',p,e2⟩:=he;have e2:=e2.out;rw[sE B u hi w]at e2;exact⟨s',p,e2⟩
 .obtain⟨H,s',p,e2⟩:=he;exact⟨H,s',p,e2.out⟩
theorem db{f:Int->σ->Option (Bu σ β)}{R:β->AB->Prop}(_:HA i0 EP q i1 M)(_:HR R)(o:R r=t)(h:fl (kq f lo b s0) k (fun v=>some v)=some r)(p:∀s,(O.get s).WF)(u:Bd O q i1 b)(_:c.xl i0=some jl)(w:O.gn live=x9 O (M lo s0) live)(A:∀i s,(x9 O (M i s) live).get EP=.tv (.int .i64 i))
  (B:∀i s r,i<b->f i s=some r->(∀k,((x9 O (M i s) live).get k).WF)->WP S c ⟨fun e=>∃s',r=.next s'/\Rn (e.gn live) (x9 O (M (AK (i+1)) s') live),fun j e=>j=i0/\∃s',r=.brk s'/\Rn e (x9 O (M 0 s') jl),fun e=>∃v,r=.ret v/\R v e⟩ (x9 O (M i s) live))
  (C:∀i s,¬i<b->WP S c ⟨fun _=>False,fun j e=>j=i0/\Rn e (x9 O (M 0 s) jl),fun _=>False⟩ (x9 O (M i s) live))
  (D:∀s,k s=some r->n (x9 O (M 0 s) jl)):WP S (.block i0 (.loop live c)) ⟨n,x,t⟩ O:=
 Ve h (u.out p) w A B C D (fun v e hv E=>by cases hv;rw[<-o];exact E)
variable{τ:Type}
theorem da{f:Int->σ->Option (Bu σ ρ)}{k:σ->Option (Bu τ ρ)}{r:Bu τ ρ}{R:ρ->AB->Prop}(_:HA i0 EP q i1 M)(h:fl (kq f lo b s0) k (fun v=>some (.ret v))=some r)(o:∀s,(O.get s).WF)(p:Bd O q i1 b)(_:c.xl i0=some jl)(u:O.gn live=x9 O (M lo s0) live)(w:∀i s,(x9 O (M i s) live).get EP=.tv (.int .i64 i))
  (A:∀i s r,i<b->f i s=some r->(∀k,((x9 O (M i s) live).get k).WF)->WP S c ⟨fun e=>∃s',r=.next s'/\Rn (e.gn live) (x9 O (M (AK (i+1)) s') live),fun j e=>j=i0/\∃s',r=.brk s'/\Rn e (x9 O (M 0 s') jl),fun e=>∃v,r=.ret v/\R v e⟩ (x9 O (M i s) live))
  (B:∀i s,¬i<b->WP S c ⟨fun _=>False,fun j e=>j=i0/\Rn e (x9 O (M 0 s) jl),fun _=>False⟩ (x9 O (M i s) live))
  (C:∀s,k s=some r->n (x9 O (M 0 s) jl)):WP S (.block i0 (.loop live c)) ⟨n,x,fun e=>∃v,r=.ret v/\R v e⟩ O:=
 Ve h (p.out o) u w A B C (fun v e hv D=>by cases hv;exact⟨v,rfl,D⟩)
theorem dZ{f:Int->σ->Option (Bu σ ρ)}(_:HA i0 EP q i1 M)(h:fl (kq f lo b s0) k (fun _=>none)=some r)(o:∀s,(O.get s).WF)(p:Bd O q i1 b)(_:c.xl i0=some jl)(u:O.gn live=x9 O (M lo s0) live)(w:∀i s,(x9 O (M i s) live).get EP=.tv (.int .i64 i))
  (A:∀i s r,i<b->f i s=some r->(∀k,((x9 O (M i s) live).get k).WF)->WP S c ⟨fun e=>∃s',r=.next s'/\Rn (e.gn live) (x9 O (M (AK (i+1)) s') live),fun j e=>j=i0/\∃s',r=.brk s'/\Rn e (x9 O (M 0 s') jl),fun _=>∃v,r=.ret v/\False⟩ (x9 O (M i s) live))
  (B:∀i s,¬i<b->WP S c ⟨fun _=>False,fun j e=>j=i0/\Rn e (x9 O (M 0 s) jl),fun _=>False⟩ (x9 O (M i s) live))
  (C:∀s,k s=some r->n (x9 O (M 0 s) jl)):WP S (.block i0 (.loop live c)) ⟨n,x,t⟩ O:=
 Ve (R:=fun _ _=>False) h (p.out o) u w A B C (fun v e hv _=>by cases hv)
theorem ZL{f:σ->Option (Bu σ ρ)}{R:ρ->AB->Prop}{M:σ->List (Nat×EV)}(h:fl (C7 f s0) k kr=some r)(u:O.gn live=x9 O (M s0) live)
  (w:∀s r,f s=some r->(∀k,((x9 O (M s) live).get k).WF)->WP S c ⟨fun e=>∃s',r=.next s'/\Rn (e.gn live) (x9 O (M s') live),fun j e=>j=i0/\∃s',r=.brk s'/\Rn e (x9 O (M s') jl),fun e=>∃v,r=.ret v/\R v e⟩ (x9 O (M s) live))
  (A:∀s,k s=some r->n (x9 O (M s) jl))(B:∀v e,kr v=some r->R v e->t e):WP S (.block i0 (.loop live c)) ⟨n,x,t⟩ O:=by
 obtain ⟨o,ho,h⟩:=VR h;refine sK ho (fun s=>x9 O (M s) live) (fun s=>x9 O (M s) jl) R u (fun s r hf C=>⟨PC.o4 S c _ _ (w s r hf C).out _ (fun e he=>?_) (fun j e he=>?_) (fun _ h=>h)⟩) (fun s D=>A s (ax h D)) (fun v e hv=>B v e (ay h hv))
 .obtain⟨s',p,e2⟩:=he;exact⟨s',p,e2.out⟩
 .obtain⟨E,s',p,e2⟩:=he;exact⟨E,s',p,e2.out⟩
theorem sz{f:σ->Option (Bu σ β)}{R:β->AB->Prop}{M:σ->List (Nat×EV)}(_:HW i0 M)(_:HR R)(o:R r=t)(h:fl (C7 f s0) k (fun v=>some v)=some r)(_:c.xl i0=some jl)(p:O.gn live=x9 O (M s0) live)
  (u:∀s r,f s=some r->(∀k,((x9 O (M s) live).get k).WF)->WP S c ⟨fun e=>∃s',r=.next s'/\Rn (e.gn live) (x9 O (M s') live),fun j e=>j=i0/\∃s',r=.brk s'/\Rn e (x9 O (M s') jl),fun e=>∃v,r=.ret v/\R v e⟩ (x9 O (M s) live))
  (w:∀s,k s=some r->n (x9 O (M s) jl)):WP S (.block i0 (.loop live c)) ⟨n,x,t⟩ O:=
 ZL h p u w (fun v e hv A=>by cases hv;rw[<-o];exact A)
theorem sw{f:σ->Option (Bu σ ρ)}{k:σ->Option (Bu τ ρ)}{r:Bu τ ρ}{R:ρ->AB->Prop}{M:σ->List (Nat×EV)}(_:HW i0 M)(h:fl (C7 f s0) k (fun v=>some (.ret v))=some r)(_:c.xl i0=some jl)(o:O.gn live=x9 O (M s0) live)
  (p:∀s r,f s=some r->(∀k,((x9 O (M s) live).get k).WF)->WP S c ⟨fun e=>∃s',r=.next s'/\Rn (e.gn live) (x9 O (M s') live),fun j e=>j=i0/\∃s',r=.brk s'/\Rn e (x9 O (M s') jl),fun e=>∃v,r=.ret v/\R v e⟩ (x9 O (M s) live))
  (u:∀s,k s=some r->n (x9 O (M s) jl)):WP S (.block i0 (.loop live c)) ⟨n,x,fun e=>∃v,r=.ret v/\R v e⟩ O:=
 ZL h o p u (fun v e hv w=>by cases hv;exact⟨v,rfl,w⟩)
theorem sv{f:σ->Option (Bu σ ρ)}{M:σ->List (Nat×EV)}(_:HW i0 M)(h:fl (C7 f s0) k (fun _=>none)=some r)(_:c.xl i0=some jl)(o:O.gn live=x9 O (M s0) live)
  (p:∀s r,f s=some r->(∀k,((x9 O (M s) live).get k).WF)->WP S c ⟨fun e=>∃s',r=.next s'/\Rn (e.gn live) (x9 O (M s') live),fun j e=>j=i0/\∃s',r=.brk s'/\Rn e (x9 O (M s') jl),fun _=>∃v,r=.ret v/\False⟩ (x9 O (M s) live))
  (u:∀s,k s=some r->n (x9 O (M s) jl)):WP S (.block i0 (.loop live c)) ⟨n,x,t⟩ O:=
 ZL (R:=fun _ _=>False) h o p u (fun v e hv _=>by cases hv)
end loops
end
end Go.Sf
namespace Go.Sf
section
variable{P:Program}{S:FuncId->Fq->Az->Prop}{K:AB->Prop}{os:List PR}{O:AB}{d:Nat}{α β:Type}{k:α->Option β}{r:β}
theorem bnd{G:Prop}{x:Option α}(h:x.bind k=some r)(g:∀a,x=some a->k a=some r->G):G:=by
 obtain ⟨a,o,h⟩:=bind_some h;exact g a o h
variable{j:Int}
theorem sY{n:Nat}{x i:AE}{es:Fq}{e:α->TV}{l:List α}{ik:IntKind}(h:(idx l j).bind k=some r)(p:x.val O=some (.list n es))(hi:i.val O=some (.int ik j))(he:es=l.map e)
  (u:∀a,idx l j=some a->k a=some r->WO S K os ((d,.tv (.pt (e a).cells))::O)):WO S K (⟨some d,.iad x i n,none⟩::os) O:=by
 obtain ⟨a,o,h⟩:=bind_some h;exact uy p hi he o rfl (u a o h)
variable{ka kb:IntKind}
theorem sq{β:Type}{γ:Type}{k:List γ->Option β}{r:β}{n:Nat}{x:AE}{lo hi:Option AE}{es:Fq}{e:γ->TV}{l:List γ}{a b:Int}(h:(slc l a b).bind k=some r)(w:x.val O=some (.list n es))(he:es=l.map e)(o:Ew O 0 lo=some (.int ka a))(p:Ew O l.length hi=some (.int kb b))
  (A:∀m,slc l a b=some m->k m=some r->WO S K os ((d,.tv (.list n (m.map e)))::O)):WO S K (⟨some d,.slc n x lo hi,none⟩::os) O:=by
 obtain ⟨m,u,h⟩:=bind_some h;exact vX w he o p u (A m u h)
theorem pK{k:ByteArray->Option β}{x:AE}{lo hi:Option AE}{s:ByteArray}{a b:Int}(h:(Aaq s a b).bind k=some r)(w:x.val O=some (.str s))(o:Ew O 0 lo=some (.int ka a))(p:Ew O s.size hi=some (.int kb b))
  (A:∀m,Aaq s a b=some m->k m=some r->WO S K os ((d,.tv (.str m))::O)):WO S K (⟨some d,.Aaq x lo hi,none⟩::os) O:=by
 obtain ⟨m,u,h⟩:=bind_some h;exact rc w o p u (A m u h)
theorem pJ{k:Int->Option β}{x i:AE}{s:ByteArray}{ik:IntKind}(h:(AaB s j).bind k=some r)(p:x.val O=some (.str s))(hi:i.val O=some (.int ik j))
  (u:∀b,AaB s j=some b->k b=some r->WO S K os ((d,.tv (.int .u8 b))::O)):WO S K (⟨some d,.AaB x i,none⟩::os) O:=by
 obtain ⟨b,o,h⟩:=bind_some h;exact rZ p hi o (u b o h)
theorem sN{γ:Type}{k:List γ->Option β}{n s:Nat}{y:AE}{es fs:Fq}{e:γ->TV}{l m:List γ}(h:(AZ l m).bind k=some r)(p:O.get s=.ow (.list n es))(u:y.val O=some (.list n fs))(he:es=l.map e)(hf:fs=m.map e)
  (w:∀x,AZ l m=some x->k x=some r->WO S K os ((d,.ow (.list n (x.map e)))::(s,.tv (.list n es))::O)):WO S K (⟨some d,.app n (.s s) y,none⟩::os) O:=by
 obtain ⟨x,o,h⟩:=bind_some h;exact li p u he hf o rfl (w x o h)
theorem oy{γ:Type}{k:List γ->Option β}{n s:Nat}{y:AE}{es fs:Fq}{e:γ->TV}{l m:List γ}{f:List γ->TV}(h:(AZ l m).bind k=some r)(p:O.get s=.ow (.list n es))(u:y.val O=some (.list n fs))(he:es=l.map e)(hf:fs=m.map e)(c:Fl e n f)
  (w:∀x,AZ l m=some x->k x=some r->WO S K os ((d,.ow (f x))::(s,.tv (.list n es))::O)):WO S K (⟨some d,.app n (.s s) y,none⟩::os) O:=by
 obtain ⟨x,o,h⟩:=bind_some h;have:=w x o h;rw[c.eq]at this;exact li p u he hf o rfl this
theorem oz{γ:Type}{k:List γ->Option β}{n s:Nat}{y:AE}{es fs:Fq}{e:γ->TV}{l m:List γ}(h:(AZ l m).bind k=some r)(p:O.get s=.xo n es)(u:y.val O=some (.list n fs))(he:es=l.map e)(hf:fs=m.map e)(w:O.hT d=true)(hd:d≠s)
  (A:∀x,AZ l m=some x->k x=some r->WO S K os ((d,.xo n (x.map e))::(s,.undef)::O)):WO S K (⟨some d,.Abg n s y,none⟩::os) O:=by
 obtain ⟨x,o,h⟩:=bind_some h;exact rE p u he hf o rfl w hd (A x o h)
theorem o0{γ:Type}{k:List γ->Option β}{n s:Nat}{o:TV}{x:AE}{es:Fq}{e:γ->TV}{z:γ}{l:List γ}{ik:IntKind}(h:(Tm l j z).bind k=some r)(w:O.get s=.xo n es)(A:x.val O=some (.int ik j))(he:es=l.map e)(B:o=e z)(C:O.hT d=true)(hd:d≠s)(p:n=1)(D:o.cells=[o])
  (E:∀m,Tm l j z=some m->k m=some r->WO S K os ((d,.xo n (m.map e))::(s,.undef)::O)):WO S K (⟨some d,.Abk n s o x,none⟩::os) O:=by
 obtain ⟨m,u,h⟩:=bind_some h;exact rF w A he B u rfl C hd p D (E m u h)
theorem sP{γ:Type}{k:List γ->Option β}{n s:Nat}{hi:AE}{es:Fq}{e:γ->TV}{l:List γ}{ik:IntKind}(h:(slc l 0 j).bind k=some r)(p:O.get s=.xo n es)(u:hi.val O=some (.int ik j))(he:es=l.map e)(w:O.hT d=true)(hd:d≠s)
  (A:∀m,slc l 0 j=some m->k m=some r->WO S K os ((d,.xo n (m.map e))::(s,.undef)::O)):WO S K (⟨some d,.cut n s hi,none⟩::os) O:=by
 obtain ⟨m,o,h⟩:=bind_some h;exact uq p u he o rfl w hd (A m o h)
variable{zero:Fq}
theorem se{γ:Type}{k:List γ->Option β}{n:Nat}{x:AE}{ik:IntKind}{e:γ->TV}{z:γ}(h:(JH j z).bind k=some r)(p:O.hT d=true)(u:x.val O=some (.int ik j))(w:(match zero with|[t]=>t|ts=>.agg ts)=e z)
  (A:∀m,JH j z=some m->k m=some r->WO S K os ((d,.xo n (m.map e))::O)):WO S K (⟨some d,.mkx n zero x,none⟩::os) O:=by
 obtain ⟨m,o,h⟩:=bind_some h;exact vJ p u w o rfl (A m o h)
variable{qi:Option Nat}
theorem s5{x i:AE}{q n:Nat}{es:Fq}{e:α->TV}{l:List α}{ik:IntKind}(h:(idx l j).bind k=some r)(p:x.Aab O=some ((q,qi),n,es))(hi:i.val O=some (.int ik j))(he:es=l.map e)(u:(x.ev O).ref=some q)
  (w:∀a,idx l j=some a->k a=some r->WO S K os ((d,.lp q qi (j.toNat*n))::O)):WO S K (⟨some d,.xia x i n,none⟩::os) O:=by
 obtain ⟨a,o,h⟩:=bind_some h;exact vf p hi he o u (w a o h)
section ints
variable{k:Int->Option β}{x y:AE}{ik:IntKind}{a b:Int}
theorem si(h:(quo a b).bind k=some r)(p:x.val O=some (.int ik a))(u:y.val O=some (.int ik b))(w:∀q,quo a b=some q->k q=some r->WO S K os ((d,.tv (.int ik (ik.wrap q)))::O)):WO S K (⟨some d,.bin .i .quo x y,none⟩::os) O:=by
 obtain ⟨m,o,h⟩:=bind_some h;exact vU p u o (w m o h)
theorem sj(h:(Cj a b).bind k=some r)(p:x.val O=some (.int ik a))(u:y.val O=some (.int ik b))(w:∀q,Cj a b=some q->k q=some r->WO S K os ((d,.tv (.int ik q))::O)):WO S K (⟨some d,.bin .i .rem x y,none⟩::os) O:=by
 obtain ⟨m,o,h⟩:=bind_some h;exact vW p u o (w m o h)
theorem sO{op:BinOp}{o:IntKind}(h:(FU ik op a b).bind k=some r)(u:x.val O=some (.int ik a))(A:y.val O=some (.int o b))(B:ik=o\/op=.shl\/op=.shr)(C:∀q,FU ik op a b=some q->k q=some r->WO S K os ((d,.tv (.int ik q))::O)):WO S K (⟨some d,.bin .w op x y,none⟩::os) O:=by
 obtain ⟨m,p,h⟩:=bind_some h;exact uk u A B p (C m p h)
end ints
theorem pI{k:ByteArray->Option β}{x y:AE}{u v:ByteArray}(h:(NE u v).bind k=some r)(p:x.val O=some (.str u))(w:y.val O=some (.str v))(A:∀q,NE u v=some q->k q=some r->WO S K os ((d,.tv (.str q))::O)):WO S K (⟨some d,.bin .s .add x y,none⟩::os) O:=by
 obtain ⟨m,o,h⟩:=bind_some h;exact rX p w o (A m o h)
theorem sZ{k:Unit->Option β}{x:AE}{n:Nat}{es:Fq}{e:α->TV}{l:List α}(h:(T3 l).bind k=some r)(o:x.val O=some (.list n es))(he:es=l.map e)(p:∀u,k u=some r->WO S K os ((d,.tv (.bool false))::O)):WO S K (⟨some d,.isn x,none⟩::os) O:=by
 obtain ⟨u,A,h⟩:=bind_some h;refine lm o he fun b w=>?_;obtain rfl:=eQ A w;exact p u h
theorem lF{x:AE}{n:Nat}{e:α->TV}{a:α}(h:BA O (x.ev O)=some (e a).cells)(o:Nat.beq (e a).cells.length n=true)(p:TV.agg (e a).cells=e a)(u:WO S K os ((d,.tv (e a))::O)):WO S K (⟨some d,.lda x n,none⟩::os) O:=by
 have o:=Nat.eq_of_beq_eq_true o;exact XR h (by rw[o];exact Nat.ble_self_eq_true n) (by rw[List.take_of_length_le (by omega),p]) u
theorem sa{s n:Nat}{cs:List AN}{e:α->TV}{a:α}(h:O.get s=.bx cs)(p:cs.map (·.t)=(e a).cells)(o:Nat.beq (e a).cells.length n=true)(u:TV.agg (e a).cells=e a)(w:WO S K os ((d,.tv (e a))::O)):WO S K (⟨some d,.ldb s n,none⟩::os) O:=by
 have o:=Nat.eq_of_beq_eq_true o;exact ln h (by rw[p,o];exact Nat.ble_self_eq_true n) (by rw[p,List.take_of_length_le (by omega),u]) w
theorem pL{n s:Nat}{v:AE}{cs:List AN}{t:TV}(o:O.get s=.bx cs)(hv:v.ev O=.tv t)(p:t.cells.length=n)(h:Nat.beq n cs.length=true)(u:WO S K os ((s,.bx (t.cells.map (⟨false,·⟩)))::O)):WO S K (⟨none,.stb n s v,none⟩::os) O:=by
 have h:=Nat.eq_of_beq_eq_true h;refine ls o hv p (by rw[Nat.zero_add,h];exact Nat.ble_self_eq_true _) ?_ u;rw[List.take_zero,Nat.zero_add,h,List.drop_length,List.append_nil,List.nil_append]
theorem pF{x:AE}{n:Nat}{e:α->TV}{a:α}(h:BA O (x.ev O)=some (((e a).cells.map fun t=>(⟨false,t⟩:AN)).map (·.t)))(o:Nat.beq (e a).cells.length n=true)(p:TV.agg (e a).cells=e a)(u:WO S K os ((d,.tv (e a))::O)):WO S K (⟨some d,.lda x n,none⟩::os) O:=
 lF (by rw[h,List.map_map];congr 1;exact List.map_id _) o p u
def bP(n:Nat):Fq->Bool
 |[]=>true|t::ts=>Nat.beq t.cells.length n&&bP n ts
theorem Xi{n:Nat}:∀{ts:Fq},bP n ts=true->∀t∈ts,t.cells.length=n
 |[],_,_,h=>by cases h
 |t::ts,h,u,o=>by
  simp only[bP,tg]at h;rcases List.mem_cons.1 o with rfl|o
  .exact Nat.eq_of_beq_eq_true h.1
  .exact Xi h.2 u o
variable{parts:List AE}
theorem sd{n:Nat}{ts:Fq}(h:vals O parts=some ts)(o:bP n ts=true)(p:WO S K os ((d,.ow (.list n ts))::O)):WO S K (⟨some d,.lst n parts,none⟩::os) O:=by
 have:=p.out;refine⟨?_⟩;simp only[wpOps,PR.wp,AC.wp,h,AU];exact⟨Xi o,this⟩
variable{zero:Fq}
theorem o5{parts:List (Nat×Nat×AE)}{ts:List (Nat×Nat×TV)}{cs:Fq}{e:α->TV}{a:α}(h:(some a).bind k=some r)(_:En α e)(o:GG O parts=some ts)(p:EZ zero ts=some cs)(he:TV.agg cs=e a)(u:∀x,x=a->k x=some r->WO S K os ((d,.tv (e x))::O)):WO S K (⟨some d,.bld zero parts,none⟩::os) O:=by
 rw [Option.bind_some]at h;exact XQ o p he (u a rfl h)
theorem sb{x:AE}{n:Nat}{cs:Fq}{e:α->TV}{a:α}(h:(some a).bind k=some r)(_:En α e)(o:BA O (x.ev O)=some cs)(p:Nat.ble n cs.length=true)(he:TV.agg (cs.take n)=e a)(u:∀x,x=a->k x=some r->WO S K os ((d,.tv (e x))::O)):WO S K (⟨some d,.lda x n,none⟩::os) O:=by
 rw [Option.bind_some]at h;exact XR o p he (u a rfl h)
inductive Lm{α:Type}(e:α->TV):Fq->List α->Prop
 |nil:Lm e [] []
 |cons {t:TV} {ts:Fq} {a:α} {l:List α}:t=e a->Lm e ts l->Lm e (t::ts) (a::l)
theorem Lm.eq{e:α->TV}{ts:Fq}{l:List α}(h:Lm e ts l):ts=l.map e:=by
 induction h with
 |nil=>rfl|cons h _ o=>rw[h,o];rfl
theorem pG{n:Nat}{ts:Fq}{e:α->TV}{l:List α}(h:vals O parts=some ts)(o:Lm e ts l)(p:∀a,(e a).cells.length=n)(u:WO S K os ((d,.ow (.list n (l.map e)))::O)):WO S K (⟨some d,.lst n parts,none⟩::os) O:=lq h o.eq p u
theorem pH{n:Nat}{ts:Fq}{e:α->TV}{l:List α}{f:List α->TV}(h:vals O parts=some ts)(p:Lm e ts l)(u:∀a,(e a).cells.length=n)(c:Fl e n f)(o:WO S K os ((d,.ow (f l))::O)):WO S K (⟨some d,.lst n parts,none⟩::os) O:=by
 rw [c.eq]at o;exact lq h p.eq u o
theorem ot{e:α->TV}{n:QQ}{x y:AE}{a:α}{cs:Fq}(o:x.val O=some (e a))(p:y.val O=some (.agg cs))[c:dN e][i:Decidable (a=c.un cs)](u:TV.agg (e a).cells=e a)(w:(e (c.un cs)).cells=cs)(A:(e a).cells.map TV.kd=n)(B:WO S K os ((d,.tv (.bool (decide (a=c.un cs))))::O)):WO S K (⟨some d,.bin (.a n) .eql x y,none⟩::os) O:=by
 obtain ⟨C,h⟩:=c.dec a (c.un cs);have:i=C:=Subsingleton.elim _ _;subst this;rw[<-u]at o;rw[w]at h;exact fe o p A h B
theorem ov{e:α->TV}{n:QQ}{x y:AE}{a:α}{cs:Fq}(o:x.val O=some (e a))(p:y.val O=some (.agg cs))[c:dN e][i:Decidable (a=c.un cs)](u:TV.agg (e a).cells=e a)(w:(e (c.un cs)).cells=cs)(A:(e a).cells.map TV.kd=n)(B:WO S K os ((d,.tv (.bool (!decide (a=c.un cs))))::O)):WO S K (⟨some d,.bin (.a n) .neq x y,none⟩::os) O:=by
 obtain ⟨C,h⟩:=c.dec a (c.un cs);have:i=C:=Subsingleton.elim _ _;subst this;rw[<-u]at o;rw[w]at h;exact fg o p A h B
theorem oo{e:α->TV}{n:QQ}{x y:AE}{a b:α}{i:Decidable (a=b)}(o:x.val O=some (e a))(p:y.val O=some (e b))(c:dN e)(u:TV.agg (e a).cells=e a)(w:TV.agg (e b).cells=e b)(A:(e a).cells.map TV.kd=n)(B:WO S K os ((d,.tv (.bool (decide (a=b))))::O)):WO S K (⟨some d,.bin (.a n) .eql x y,none⟩::os) O:=by
 obtain ⟨C,h⟩:=c.dec a b;have:i=C:=Subsingleton.elim _ _;subst this;rw[<-u]at o;rw[<-w]at p;exact fe o p A h B
theorem ou{e:α->TV}{n:QQ}{x y:AE}{a b:α}{i:Decidable (a=b)}(o:x.val O=some (e a))(p:y.val O=some (e b))(c:dN e)(u:TV.agg (e a).cells=e a)(w:TV.agg (e b).cells=e b)(A:(e a).cells.map TV.kd=n)(B:WO S K os ((d,.tv (.bool (!decide (a=b))))::O)):WO S K (⟨some d,.bin (.a n) .neq x y,none⟩::os) O:=by
 obtain ⟨C,h⟩:=c.dec a b;have:i=C:=Subsingleton.elim _ _;subst this;rw[<-u]at o;rw[<-w]at p;exact fg o p A h B
section calls
variable{x:Option α}{f:FuncId}{ts:Fq}{R:α->Az}{args:List AE}
theorem sR{s:Nat}{cs:List AN}{row:Fq}(o:O.get s=.bx cs)(f:Fz cs row)(k:WO S K os ((s,.tv (.pt row))::O)):WO S K (⟨none,.frz s,none⟩::os) O:=uv o f.h k
theorem o7{t:α->TV}(h:x.bind k=some r)(c:Ct P x f ts R)(p:vals O args=some ts)(u:∀a,R a=.sh (t a))(w:∀a,x=some a->k a=some r->WO (AM P) K os ((d,.tv (t a))::O)):WO (AM P) K (⟨some d,.call f args,none⟩::os) O:=by
 obtain ⟨a,o,h⟩:=bind_some h;have:=c.snd a o;rw[u]at this;exact fj p this (w a o h)
theorem mG{t:α->TV}(h:x.bind k=some r)(c:Ct P x f ts R)(p:vals O args=some ts)(u:∀a,R a=.own (t a))(w:∀a,x=some a->k a=some r->WO (AM P) K os ((d,.ow (t a))::O)):WO (AM P) K (⟨some d,.call f args,none⟩::os) O:=by
 obtain ⟨a,o,h⟩:=bind_some h;have:=c.snd a o;rw[u]at this;exact oH p this (w a o h)
theorem mI{t:α->TV}(_:HS d)(h:x.bind k=some r)(c:Ct P x f ts R)(p:vals O args=some ts)(u:∀a,R a=.own (t a))(w:∀a,x=some a->k a=some r->WO (AM P) K os ((d,.tv (t a))::O)):WO (AM P) K (⟨some d,.call f args,none⟩::os) O:=by
 obtain ⟨a,o,h⟩:=bind_some h;have:=c.snd a o;rw[u]at this;exact fj p (qQ this) (w a o h)
theorem mK{n:Nat}{t:α->Fq}(h:x.bind k=some r)(c:Ct P x f ts R)(p:vals O args=some ts)(u:∀a,R a=.AaY n (t a))(w:∀a,x=some a->k a=some r->WO (AM P) K os ((d,.ow (.list n (t a)))::O)):WO (AM P) K (⟨some d,.call f args,none⟩::os) O:=by
 obtain ⟨a,o,h⟩:=bind_some h;have:=c.snd a o;rw[u]at this;exact oK p this (w a o h)
theorem mH{t:α->Fq}(h:x.bind k=some r)(c:Ct P x f ts R)(p:vals O args=some ts)(u:∀a,R a=.tp (t a))(w:∀a,x=some a->k a=some r->WO (AM P) K os ((d,.tp (t a))::O)):WO (AM P) K (⟨some d,.call f args,none⟩::os) O:=by
 obtain ⟨a,o,h⟩:=bind_some h;have:=c.snd a o;rw[u]at this;exact oI p this (w a o h)
theorem mC{t:α->List AN}(h:x.bind k=some r)(c:Ct P x f ts R)(p:vals O args=some ts)(u:∀a,R a=.oag (t a))(w:∀a,x=some a->k a=some r->WO (AM P) K os ((d,.tv (.agg ((t a).map fun c=>c.rel.t)))::O)):WO (AM P) K (⟨some d,.call f args,none⟩::os) O:=by
 obtain ⟨a,o,h⟩:=bind_some h;have:=c.snd a o;rw[u]at this;exact oE p this rfl (w a o h)
theorem mB{t:α->List AN}(h:x.bind k=some r)(c:Ct P x f ts R)(p:vals O args=some ts)(u:∀a,R a=.oag (t a))(w:∀a,x=some a->k a=some r->WO (AM P) K os ((d,.oag (t a))::O)):WO (AM P) K (⟨some d,.Aa1 f args,none⟩::os) O:=by
 obtain ⟨a,o,h⟩:=bind_some h;have:=c.snd a o;rw[u]at this;exact oD p this (w a o h)
theorem mL{n:Nat}{t:α->Fq}(h:x.bind k=some r)(c:Ct P x f ts R)(p:O.hT d=true)(u:vals O args=some ts)(w:∀a,R a=.AaY n (t a))(A:∀a,x=some a->k a=some r->WO (AM P) K os ((d,.xo n (t a))::O)):WO (AM P) K (⟨some d,.AaJ f args,none⟩::os) O:=by
 obtain ⟨a,o,h⟩:=bind_some h;have:=c.snd a o;rw[w]at this;exact oL p u this (A a o h)
theorem gx{γ:Type}{k:List γ->Option β}{x:Option (List γ)}{R:List γ->Az}{n:Nat}{e:γ->TV}(h:x.bind k=some r)(c:Ct P x f ts R)(p:O.hT d=true)(u:vals O args=some ts)(w:∀a,R a=.own (.list n (a.map e)))(hf:∀a,(e a).flat=true)(A:∀a,x=some a->k a=some r->WO (AM P) K os ((d,.xo n (a.map e))::O)):WO (AM P) K (⟨some d,.AaJ f args,none⟩::os) O:=by
 obtain ⟨a,o,h⟩:=bind_some h;have:=c.snd a o;rw[w]at this;exact jt p u this rfl hf (A a o h)
theorem mE{t:α->TV}(h:x.bind k=some r)(c:Ct P x f ts R)(p:Aau O args=some ts)(u:∀a,R a=.sh (t a))(w:∀a,(t a).flat=true)(A:∀a,x=some a->k a=some r->WO (AM P) K os ((d,.tv (t a))::O)):WO (AM P) K (⟨some d,.AaE f args,none⟩::os) O:=by
 obtain ⟨a,o,h⟩:=bind_some h;have:=c.snd a o;rw[u]at this;exact oF p this (w a) (A a o h)
theorem gu{t:α->Fq}(h:x.bind k=some r)(c:Ct P x f ts R)(p:Aau O args=some ts)(u:∀a,R a=.tp (t a))(w:∀a,TV.Aac (t a)=true)(A:∀a,x=some a->k a=some r->WO (AM P) K os ((d,.tp (t a))::O)):WO (AM P) K (⟨some d,.AaE f args,none⟩::os) O:=by
 obtain ⟨a,o,h⟩:=bind_some h;have:=c.snd a o;rw[u]at this;exact jn p this (w a) (A a o h)
theorem gq{γ:Type}{k:List γ->Option β}{x:Option (List γ)}{R:List γ->Az}{n:Nat}{e:γ->TV}(h:x.bind k=some r)(c:Ct P x f ts R)(p:Aau O args=some ts)(u:∀a,R a=.own (.list n (a.map e)))(hf:∀a,(e a).flat=true)(w:∀a,x=some a->k a=some r->WO (AM P) K os ((d,.ow (.list n (a.map e)))::O)):WO (AM P) K (⟨some d,.AaE f args,none⟩::os) O:=by
 obtain ⟨a,o,h⟩:=bind_some h;have:=c.snd a o;rw[u]at this;exact jm p this rfl rfl hf (w a o h)
theorem mA{t:α->Fq}(h:x.bind k=some r)(c:Ct P x f ts R)(p:vals O args=some ts)(u:∀a,R a=.ext (t a))(w:∀a,x=some a->k a=some r->WO (AM P) K os ((d,.tp (t a))::O)):WO (AM P) K (⟨some d,.Aa0 f args,none⟩::os) O:=by
 obtain ⟨a,o,h⟩:=bind_some h;have:=c.snd a o;rw[u]at this;exact oC p this (w a o h)
theorem Zv{i s:Nat}{cs:List AN}{cs':α->List AN}{us:α->Fq}{e:α->EV}(h:x.bind k=some r)(c:Ct P x f ts R)(p:(args[i]?).bind (·.place O)=some (s,0))(u:O.get s=.bx cs)(w:O.noX s none=true)(hd:d≠s)(A:G6 O i args=some ts)(B:∀a,R a=.bo cs (cs' a) i (us a))(he:∀a,EV.ofs (us a)=e a)(C:∀a,x=some a->k a=some r->WO (AM P) K os ((d,e a)::(s,.bx (cs' a))::O)):WO (AM P) K (⟨some d,.AaN f args i,none⟩::os) O:=by
 obtain ⟨a,o,h⟩:=bind_some h;have:=c.snd a o;rw[B]at this;exact oA p u w hd A this (he a) (C a o h)
variable{qi:Option Nat}
theorem mF{f:FuncId}{x:AE}{ys:List AE}{q:Nat}{es us ts:Fq}{l:Fp}{y:Option α}{k:α->Option β}{R:α->Az}{zs:α->Fp}{p:α->Fq}{e:α->EV}{env':α->AB}(h:y.bind k=some r)(c:Ct P y f ts R)(w:x.Aab O=some ((q,qi),1,es))(A:vals O ys=some us)(o:ts=.list 1 (l.map (TV.int .i64))::us)(he:es=l.map (TV.int .i64))(B:∀a,R a=.turn (zs a) (p a))(C:∀a,EV.ofs (p a)=e a)(hv:∀a,O.Aah q qi 1 ((zs a).map (TV.int .i64))=env' a)(D:∀a,y=some a->k a=some r->WO (AM P) K os ((d,e a)::env' a)):WO (AM P) K (⟨some d,.AaI f x ys,none⟩::os) O:=by
 obtain ⟨a,u,h⟩:=bind_some h;have:=c.snd a u;rw[B,o]at this;exact oG w he rfl A this rfl (C a) (hv a) (D a u h)
theorem l9{k:Fp->Option β}{f:FuncId}{x:AE}{q:Nat}{es:Fq}{l:Fp}{y:Option Fp}(h:y.bind k=some r)(c:Ct P y f [.list 1 (l.map (TV.int .i64))] Az.cut)(u:x.Aab O=some ((q,none),1,es))(he:es=l.map (TV.int .i64))(o:q≠d)(w:O.hT d=true)(A:∀a,y=some a->k a=some r->WO (AM P) K os ((d,.xo 1 (a.map (TV.int .i64)))::(q,.undef)::O)):WO (AM P) K (⟨some d,.AaU f x,none⟩::os) O:=by
 obtain ⟨a,p,h⟩:=bind_some h;exact oB u he rfl o w (c.snd a p) rfl (A a p h)
section values
variable{v:AE}{caps us:Fq}
theorem mJ{t:α->TV}(h:x.bind k=some r)(c:Ct P x f ts R)(hv:v.val O=some (.clo f caps))(p:vals O args=some us)(u:us++caps=ts)(w:∀a,R a=.sh (t a))(A:∀a,x=some a->k a=some r->WO (AM P) K os ((d,.tv (t a))::O)):WO (AM P) K (⟨some d,.AaL v args,none⟩::os) O:=by
 obtain ⟨a,o,h⟩:=bind_some h;have:=c.snd a o;rw[w,<-u]at this;exact oJ hv p this (A a o h)
theorem gv{t:α->TV}(h:x.bind k=some r)(c:Ct P x f ts R)(hv:v.val O=some (.clo f caps))(p:vals O args=some us)(u:us++caps=ts)(w:∀a,R a=.own (t a))(A:∀a,x=some a->k a=some r->WO (AM P) K os ((d,.ow (t a))::O)):WO (AM P) K (⟨some d,.AaL v args,none⟩::os) O:=by
 obtain ⟨a,o,h⟩:=bind_some h;have:=c.snd a o;rw[w,<-u]at this;exact jq hv p this (A a o h)
theorem gw{t:α->Fq}(h:x.bind k=some r)(c:Ct P x f ts R)(hv:v.val O=some (.clo f caps))(p:vals O args=some us)(u:us++caps=ts)(w:∀a,R a=.tp (t a))(A:∀a,x=some a->k a=some r->WO (AM P) K os ((d,.tp (t a))::O)):WO (AM P) K (⟨some d,.AaL v args,none⟩::os) O:=by
 obtain ⟨a,o,h⟩:=bind_some h;have:=c.snd a o;rw[w,<-u]at this;exact jr hv p this (A a o h)
end values
end calls
inductive GS(g:Nat)(b:Bool):QQ->List PR->QQ->Nat->Prop
 |done {acc:QQ} {os:List PR}:GS g b acc os [] 0
 |step {acc js:QQ} {d n:Nat} {op:AC} {os:List PR}:GS g b (d::acc) os js n->GS g b acc (⟨some d,op,some (g,b)⟩::os) (d::js) (n+1)
 |Ab6 {acc js:QQ} {d n g':Nat} {b':Bool} {op:AC} {os:List PR}:acc.contains g'=true->GS g b (d::acc) os js n->GS g b acc (⟨some d,op,some (g',b')⟩::os) (d::js) (n+1)
def oj:QQ->AB->(AB->Prop)->Prop
 |[],z,K=>K z|k::ks,z,K=>∃j,oj ks ((k,j)::z) K
structure Gj(js:QQ)(d:Nat)(v:TV)(z e:AB):Prop where
 of::out:oj js z fun y=>e=(d,.tv v)::y
theorem eH{d:Nat}{v:TV}{z e:AB}(h:e=(d,.tv v)::z):Gj [] d v z e:=⟨h⟩
variable{ks:QQ}
theorem mg{k d:Nat}{v:TV}{j:EV}{z e:AB}(h:Gj ks d v ((k,j)::z) e):Gj (k::ks) d v z e:=⟨j,h.out⟩
theorem pC{js:QQ}{v:TV}{z:AB}(h:Gj js d v z O):WO S (Gj js d v z) [] O:=⟨h⟩
structure Vw(js:QQ)(z:AB)(Q:AB->Prop):Prop where
 of::out:∀(d:Nat)(v:TV)(e:AB),Gj js d v z e->∃y,e=(d,.tv v)::y/\Q y
theorem mj{z:AB}{Q:AB->Prop}(h:Q z):Vw [] z Q:=⟨fun _ _ _ he=>⟨z,he.out,h⟩⟩
theorem iV{k:Nat}{z:AB}{Q:AB->Prop}(h:∀j,Vw ks ((k,j)::z) Q):Vw (k::ks) z Q:=⟨fun d v e he=>by
 obtain ⟨j,o⟩:=he.out;exact(h j).out d v e ⟨o⟩⟩
theorem tu{dd:Option Nat}{op:AC}{g:Nat}{b q:Bool}(h:O.get g=.tv (.bool q))(o:XY g b q)(p:WO S K (⟨dd,op,none⟩::os) O):WO S K (⟨dd,op,some (g,b)⟩::os) O:=wd h o.out p
theorem sV{ρ:Type}{dd:Option Nat}{op:AC}{g:Nat}{q:Bool}{u v:Option ρ}{r:ρ}(w:O.get g=.tv (.bool q))(h:(if q=true then u else v)=some r)
  (o:XY g true q->q=true->u=some r->WO S K (⟨dd,op,some (g,true)⟩::os) O)(p:Tj g true q->q=false->v=some r->WO S K (⟨dd,op,some (g,true)⟩::os) O):WO S K (⟨dd,op,some (g,true)⟩::os) O:=by
 cases q with
 |true=>exact o ⟨rfl⟩ rfl h|false=>exact p ⟨by rfl⟩ rfl h
theorem sU{ρ:Type}{dd:Option Nat}{op:AC}{g:Nat}{q:Bool}{u v:Option ρ}{r:ρ}(w:O.get g=.tv (.bool q))(h:(if q=true then u else v)=some r)
  (o:Tj g false q->q=true->u=some r->WO S K (⟨dd,op,some (g,false)⟩::os) O)(p:XY g false q->q=false->v=some r->WO S K (⟨dd,op,some (g,false)⟩::os) O):WO S K (⟨dd,op,some (g,false)⟩::os) O:=by
 cases q with
 |true=>exact o ⟨by rfl⟩ rfl h|false=>exact p ⟨rfl⟩ rfl h
theorem px{op:AC}{g:Nat}{b q:Bool}(h:O.get g=.tv (.bool q))(o:Tj g b q)(p:WO S K os ((d,.sk)::O)):WO S K (⟨some d,op,some (g,b)⟩::os) O:=tq h o.out p
theorem bj{d n:Nat}{js:QQ}{v:TV}(h:WO S (Gj js d v O) (os.take n) O)(o:Vw js O fun e=>WO S K (os.drop n) ((d,.tv v)::e)):WO S K os O:=
 tj n (Gj js d v) h fun e he=>by
  obtain ⟨y,rfl,p⟩:=o.out d v e he;exact p
section groups
variable{g n:Nat}{js:QQ}{c:Bool}{dd gd:Option Nat}{op:AC}{x y z:AE}{gg:Option (Nat×Bool)}
variable{T:K1}{os':List PR}
theorem sX{k:Bool->Option β}(h:(if c=true then T else some false).bind k=some r)(_:GS g true [] os js n)(A:O.get g=.tv (.bool c))(_:os[n]?=some ⟨some d,.pick x y z,gg⟩)
  (p:∀v,XY g true c->c=true->T=some v->WO S (Gj js d (.bool v) O) (os.take (n+1)) O)(u:∀v,Tj g true c->c=false->some false=some v->WO S (Gj js d (.bool v) O) (os.take (n+1)) O)
  (w:∀v,k v=some r->Vw js O fun e=>WO S K (os.drop (n+1)) ((d,.tv (.bool v))::e))(ho:os=⟨dd,op,some (g,true)⟩::os'):WO S K (⟨dd,op,some (g,true)⟩::os') O:=by
 obtain ⟨v,hv,h⟩:=bind_some h;rw[<-ho];refine bj (n:=n+1) (v:=.bool v) ?_ (w v h);rcases Bool.eq_false_or_eq_true c with o|o
 .exact p v ⟨o⟩ o (Us o hv)
 .exact u v ⟨by rw[o];rfl⟩ o (Ur o hv)
theorem sW{k:Bool->Option β}(h:(if c=true then some true else T).bind k=some r)(_:GS g false [] os js n)(A:O.get g=.tv (.bool c))(_:os[n]?=some ⟨some d,.pick x y z,gg⟩)
  (p:∀v,XY g false c->c=false->T=some v->WO S (Gj js d (.bool v) O) (os.take (n+1)) O)(u:∀v,Tj g false c->c=true->some true=some v->WO S (Gj js d (.bool v) O) (os.take (n+1)) O)
  (w:∀v,k v=some r->Vw js O fun e=>WO S K (os.drop (n+1)) ((d,.tv (.bool v))::e))(ho:os=⟨dd,op,some (g,false)⟩::os'):WO S K (⟨dd,op,some (g,false)⟩::os') O:=by
 obtain ⟨v,hv,h⟩:=bind_some h;rw[<-ho];refine bj (n:=n+1) (v:=.bool v) ?_ (w v h);rcases Bool.eq_false_or_eq_true c with o|o
 .exact u v ⟨by rw[o];rfl⟩ o (Us o hv)
 .exact p v ⟨o⟩ o (Ur o hv)
theorem sT{e:Bool}(ho:os=⟨dd,op,some (g,true)⟩::os')(_:GS g true [] os js n)(u:O.get g=.tv (.bool c))(_:os[n]?=some ⟨some d,.pick x y z,gg⟩)
  (h:XY g true c->c=true->WO S (Gj js d (.bool e) O) (os.take (n+1)) O)(o:Tj g true c->c=false->WO S (Gj js d (.bool false) O) (os.take (n+1)) O)
  (p:Vw js O fun z=>WO S K (os.drop (n+1)) ((d,.tv (.bool (c&&e)))::z)):WO S K (⟨dd,op,some (g,true)⟩::os') O:=by
 rw [<-ho];refine bj (n:=n+1) (v:=.bool (c&&e)) ?_ p;cases c
 .exact o ⟨rfl⟩ rfl
 .exact h ⟨rfl⟩ rfl
theorem sS{e:Bool}(ho:os=⟨dd,op,some (g,false)⟩::os')(_:GS g false [] os js n)(u:O.get g=.tv (.bool c))(_:os[n]?=some ⟨some d,.pick x y z,gg⟩)
  (h:XY g false c->c=false->WO S (Gj js d (.bool e) O) (os.take (n+1)) O)(o:Tj g false c->c=true->WO S (Gj js d (.bool true) O) (os.take (n+1)) O)
  (p:Vw js O fun z=>WO S K (os.drop (n+1)) ((d,.tv (.bool (c||e)))::z)):WO S K (⟨dd,op,some (g,false)⟩::os') O:=by
 rw [<-ho];refine bj (n:=n+1) (v:=.bool (c||e)) ?_ p;cases c
 .exact h ⟨rfl⟩ rfl
 .exact o ⟨rfl⟩ rfl
end groups
variable{qi:Option Nat}{j:Int}
theorem s7{x:AE}{q n i:Nat}{es row:Fq}{e:α->TV}{l:List α}{a:α}{t:TV}(h:x.ev O=.lp q qi (j.toNat*n+i))(o:O.ws q qi=some (n,es))(he:es=l.map e)(p:∀a,(e a).cells.length=n)(u:idx l j=some a)(hi:Nat.blt i n=true)(w:(e a).cells=row)(A:row[i]?=some t)
  (B:WO S K os ((d,.tv t)::O)):WO S K (⟨some d,.xld x,none⟩::os) O:=lv h o he p u rfl hi w A B
theorem pN{x:AE}{q n:Nat}{es row:Fq}{e:α->TV}{l:List α}{a:α}{t:TV}(h:x.ev O=.lp q qi (j.toNat*n))(o:O.ws q qi=some (n,es))(he:es=l.map e)(p:∀a,(e a).cells.length=n)(u:idx l j=some a)(hi:Nat.blt 0 n=true)(w:(e a).cells=row)(A:row[0]?=some t)
  (B:WO S K os ((d,.tv t)::O)):WO S K (⟨some d,.xld x,none⟩::os) O:=lv (i:=0) h o he p u rfl hi w A B
theorem pP{γ:Type}{s:Nat}{v:AE}{q n i:Nat}{env':AB}{es:Fq}{e:α->TV}{g:γ->TV}{l:List α}{a:α}{b:γ}{f:α->γ->α}(_:HX s f)(h:(AE.s s).ev O=.lp q qi (j.toNat*n+i))(p:O.ws q qi=some (n,es))(hv:v.ev O=.tv (g b))(he:es=l.map e)(u:∀a,(e a).cells.length=n)(w:idx l j=some a)(hi:Nat.blt i n=true)(A:(g b).cells=[g b])
  (B:(e (f a b)).cells=(e a).cells.set i (g b))(o:O.Aah q qi n ((BN l j (f a b)).map e)=env')(C:WO S K os env'):WO S K (⟨none,.xst (.s s) v 1,none⟩::os) O:=lw h p hv he u w rfl hi A B rfl o C
theorem pO{x v:AE}{q n:Nat}{env':AB}{es:Fq}{e:α->TV}{l:List α}{a b:α}(h:x.ev O=.lp q qi (j.toNat*n))(p:O.ws q qi=some (n,es))(hv:v.ev O=.tv (e b))(he:es=l.map e)(u:∀a,(e a).cells.length=n)(w:idx l j=some a)(hi:Nat.blt 0 n=true)(A:(e b).cells=[e b])
  (B:(e b).cells=(e a).cells.set 0 (e b))(o:O.Aah q qi n ((BN l j b).map e)=env')(C:WO S K os env'):WO S K (⟨none,.xst x v 1,none⟩::os) O:=lw (i:=0) h p hv he u w rfl hi A B rfl o C
end
end Go.Sf
namespace Go.Sf
section
variable{S:FuncId->Fq->Az->Prop}{K:AB->Prop}{os:List PR}{O:AB}{d:Nat}
theorem u0{x:AE}{s o:Nat}{es:Fq}(h:x.ev O=.bp s o)(p:O.nat s o=some es)(k:WO S K os ((d,.nh s o .hd)::O)):WO S K (⟨some d,.lan x,none⟩::os) O:=by
 replace k:=k.out;refine⟨?_⟩;simp only[wpOps,PR.wp,AC.wp,h,p,AU];exact k
variable{j:Int}
theorem vR{α:Type}{x:AE}{s o:Nat}{es:Fq}{e:α->TV}{l:List α}{a:α}(h:x.ev O=.nh s o (.el j.toNat))(u:O.nat s o=some es)(he:es=l.map e)(w:idx l j=some a)(k:WO S K os ((d,.nh s o (.rw j.toNat))::O)):WO S K (⟨some d,.nld x,none⟩::os) O:=by
 replace k:=k.out;refine⟨?_⟩;subst he;obtain⟨B,C,A⟩:=GU w;have p:j.toNat<l.length:=(List.getElem?_eq_some_iff.1 A).1;simp only[wpOps,PR.wp,AC.wp,h,u,AU];exact⟨by simpa using p,k⟩
variable{fs:Fq}
theorem rS{q n:Nat}(h:O.get q=.xo n fs)(o:O.hT d=true)(hd:d≠q)(k:WO S K os ((d,.x1 n fs)::(q,.undef)::O)):WO S K (⟨some d,.Aby q,none⟩::os) O:=by
 replace k:=k.out;refine⟨?_⟩;simp only[wpOps,PR.wp,AC.wp,h];exact⟨⟨o,hd⟩,k⟩
theorem rO{x:AE}{q s h:Nat}{cs cs':List AN}{es:Fq}(p:x.place O=some (s,h))(u:O.get q=.xn es)(w:O.get s=.bx cs)(A:O.noX s (some h)=true)(B:Nat.blt h cs.length=true)(o:cs.set h ⟨true,.xn es⟩=cs')(k:WO S K os ((s,.bx cs')::(q,.undef)::O)):WO S K (⟨none,.cpt x q,none⟩::os) O:=by
 replace k:=k.out;refine⟨?_⟩;subst o;simp only[wpOps,PR.wp,AC.wp,p,u,w];exact⟨A,Nat.le_of_ble_eq_true B,k⟩
theorem rL{q:Nat}{cs:List AN}(h:O.get q=.oag cs)(o:O.hT d=true)(hd:d≠q)(k:WO S K os ((d,.bx cs)::(q,.undef)::O)):WO S K (⟨some d,.AbH q,none⟩::os) O:=by
 replace k:=k.out;refine⟨?_⟩;simp only[wpOps,PR.wp,AC.wp,h];exact⟨⟨o,hd⟩,k⟩
theorem u9{s n:Nat}{cs cs':List AN}(h:O.get s=.bx cs)(o:Nat.beq cs.length n=true)(hd:d≠s)(p:(cs.map fun _=>(⟨false,.undef⟩:AN))=cs')(k:WO S K os ((d,.oag cs)::(s,.bx cs')::O)):WO S K (⟨some d,.ldg s n,none⟩::os) O:=by
 replace k:=k.out;refine⟨?_⟩;subst p;simp only[wpOps,PR.wp,AC.wp,h];exact⟨Nat.eq_of_beq_eq_true o,hd,k⟩
theorem vY{x v:AE}{s h n:Nat}{p:List (Option AN)}{t:TV}{cs ds cs':List AN}(u:x.place O=some (s,h))(hv:v.val O=some t)(w:O.get s=.bx cs)(A:DO p t.cells=some ds)(B:Nat.beq t.cells.length n=true)(o:Nat.ble (h+n) cs.length=true)(C:O.noX s none=true)(D:cs.take h++ds++cs.drop (h+n)=cs')
  (k:WO S K os ((s,.bx cs')::O)):WO S K (⟨none,.stq n p x v,none⟩::os) O:=by
 replace k:=k.out;refine⟨?_⟩;subst D;simp only[wpOps,PR.wp,AC.wp,u,hv,w,A,AU];exact⟨Nat.eq_of_beq_eq_true B,Nat.le_of_ble_eq_true o,C,k⟩
variable{j2:Int}
theorem vT{α:Type}{x v:AE}{s o:Nat}{es:Fq}{env':AB}{e:List α->TV}{e2:α->TV}{l:List (List α)}{m:List α}{A b:α}{t:TV}(h:x.ev O=.nh s o (.rp j.toNat j2.toNat))(B:O.nat s o=some es)(hv:v.ev O=.tv t)(he:es=l.map e)(w:∀m,e m=.list 1 (m.map e2))(C:idx l j=some m)(D:idx m j2=some A)(E:t=e2 b)(F:t.cells=[t])(G:t.flat=true)
  (p:O.AbW s o ((BN l j (BN m j2 b)).map e)=env')(k:WO S K os env'):WO S K (⟨none,.nst x v,none⟩::os) O:=by
 replace k:=k.out;refine⟨?_⟩;subst he p E;obtain⟨J,L,H⟩:=GU C;obtain⟨m0,m1,I⟩:=GU D;have u:j2.toNat<m.length:=(List.getElem?_eq_some_iff.1 I).1;simp only[wpOps,PR.wp,AC.wp,h,B,hv,AU];refine⟨m.map e2,by rw[List.getElem?_map,H];simp[w],by simpa using u,F,G,?_⟩;have:(l.map e).set j.toNat (.list 1 ((m.map e2).set j2.toNat (e2 b)))=(BN l j (BN m j2 b)).map e:=by
  simp only[BN,List.map_set,w]
 rw [this];exact k
end
section
variable{P:Program}{K:AB->Prop}{os:List PR}{O:AB}{d:Nat}{α β γ ρ:Type}{f:FuncId}{args:List AE}{ts:Fq}{R:α->Az}{x:Option α}{k:α->Option ρ}{r:ρ}
variable{j:Int}
theorem sf{x i:AE}{s o:Nat}{es:Fq}{e:α->TV}{l:List α}{ik:IntKind}{S:FuncId->Fq->Az->Prop}(h:(idx l j).bind k=some r)(u:x.ev O=.nh s o .hd)(w:O.nat s o=some es)(hi:i.val O=some (.int ik j))(he:es=l.map e)
  (A:∀a,idx l j=some a->k a=some r->WO S K os ((d,.nh s o (.el j.toNat))::O)):WO S K (⟨some d,.nia x i,none⟩::os) O:=by
 obtain ⟨a,p,h⟩:=bind_some h;have B:=(A a p h).out;refine⟨?_⟩;subst he;obtain⟨D,F,E⟩:=GU p;have C:j.toNat<l.length:=(List.getElem?_eq_some_iff.1 E).1;simp only[wpOps,PR.wp,AC.wp,u,w,hi,AU];exact⟨D,by simp only[d3];omega,B⟩
variable{e2:α->TV}{j2:Int}
theorem sg{x i:AE}{s o:Nat}{es:Fq}{e:List α->TV}{l:List (List α)}{m:List α}{ik:IntKind}{S:FuncId->Fq->Az->Prop}(h:(idx m j2).bind k=some r)(u:x.ev O=.nh s o (.rw j.toNat))(w:O.nat s o=some es)(hi:i.val O=some (.int ik j2))(he:es=l.map e)(A:∀m,e m=.list 1 (m.map e2))(B:idx l j=some m)
  (C:∀a,idx m j2=some a->k a=some r->WO S K os ((d,.nh s o (.rp j.toNat j2.toNat))::O)):WO S K (⟨some d,.nia x i,none⟩::os) O:=by
 obtain ⟨b,p,h⟩:=bind_some h;have D:=(C b p h).out;refine⟨?_⟩;subst he;obtain⟨H,I,F⟩:=GU B;obtain⟨m0,m1,G⟩:=GU p;have E:j2.toNat<m.length:=(List.getElem?_eq_some_iff.1 G).1;simp only[wpOps,PR.wp,AC.wp,u,w,hi,AU];exact⟨m0,m.map e2,by rw[List.getElem?_map,F];simp[A],by simp only[d3];omega,D⟩
theorem ox{mm q s o:Nat}{es fs:Fq}{cs cs':List AN}{n:Nat}{e:β->TV}{l:List β}{m:β}{k:List β->Option ρ}{S:FuncId->Fq->Az->Prop}(h:(AZ l [m]).bind k=some r)(w:O.get mm=.nh s o .hd)(A:O.get q=.x1 n fs)(B:O.get s=.bx cs)(C:O.nat s o=some es)(he:es=l.map e)(hf:TV.list n fs=e m)(u:O.hT d=true)(hd:d≠mm/\d≠q/\mm≠q)(D:cs.set o ⟨false,.undef⟩=cs')
  (E:∀a,AZ l [m]=some a->k a=some r->WO S K os ((d,.xn (a.map e))::(s,.bx cs')::(mm,.undef)::(q,.undef)::O)):WO S K (⟨some d,.AaZ mm q,none⟩::os) O:=by
 obtain ⟨a,p,h⟩:=bind_some h;have G:=(E a p h).out;refine⟨?_⟩;subst he D;unfold AZ at p;split at p
 .rename_i F;cases p;simp only[wpOps,PR.wp,AC.wp,w,A,B,C,AU];refine⟨by simpa using F,⟨u,hd⟩,?_⟩;rw[hf];simpa[AB.put]using G
 .cases p
theorem gm{u:α->List β}{v:α->List γ}{w A:Nat}{p:β->TV}{e2:γ->TV}(h:x.bind k=some r)(c:Ct P x f ts R)(E:vals O args=some ts)(F:∀a,R a=.oag [⟨true,.list w ((u a).map p)⟩,⟨true,.list A ((v a).map e2)⟩])(G:∀a,(p a).flat=true)(H:∀a,(e2 a).flat=true)
  (I:∀a,x=some a->k a=some r->WO (AM P) K os ((d,.oag [⟨true,.xl w ((u a).map p)⟩,⟨true,.xl A ((v a).map e2)⟩])::O)):WO (AM P) K (⟨some d,.AaF f args,none⟩::os) O:=by
 obtain ⟨a,D,h⟩:=bind_some h;have C:=c.snd a D;rw[F]at C;have J:=(I a D h).out;have o:∀{τ:Type}(e:τ->TV)(l:List τ),(∀a,(e a).flat=true)->TV.Aac (l.map e)=true:=by
  intro τ e l he
  induction l with
  |nil=>rfl|cons a l L=>simp[TV.Aac,he,L]
 refine ⟨?_⟩;simp only[wpOps,PR.wp,AC.wp,E,AU];refine⟨_,C,fun c B=>?_,fun _=>J⟩;simp only[List.mem_cons,List.not_mem_nil,or_false]at B;rcases B with rfl|rfl
 .exact⟨_,_,rfl,o _ _ G⟩
 .exact⟨_,_,rfl,o _ _ H⟩
inductive NL:List AN->List AN->Prop
 |nil {xs:List AN}:xs=[]->NL xs []
 |cons {xs ys zs:List AN} {o:Bool} {t:TV}:xs=⟨o,t⟩::ys->NL ys zs->NL xs (⟨o,t⟩::zs)
theorem NL.eq{xs ys:List AN}(h:NL xs ys):xs=ys:=by
 induction h with
 |nil h=>exact h|cons h _ o=>rw[h,o]
theorem su{S:FuncId->Fq->Az->Prop}{K:AB->Prop}{os:List PR}{O:AB}{n s h:Nat}{x v:AE}{cs cs':List AN}{t:TV}(o:x.place O=some (s,h))(p:O.get s=.bx cs)(hv:v.ev O=.tv t)(u:t.cells.length=n)(w:Nat.ble (h+n) cs.length=true)(A:NL (cs.take h++t.cells.map (⟨false,·⟩)++cs.drop (h+n)) cs')
  (k:WO S K os ((s,.bx cs')::O)):WO S K (⟨none,.st n x v,none⟩::os) O:=rd o p hv u w A.eq k
theorem pM{S:FuncId->Fq->Az->Prop}{K:AB->Prop}{os:List PR}{O:AB}{s h q:Nat}{x:AE}{cs cs':List AN}{t:TV}(o:x.place O=some (s,h))(p:O.get s=.bx cs)(hv:O.get q=.ow t)(u:q≠s)(w:Nat.blt h cs.length=true)(A:NL (cs.set h ⟨true,t⟩) cs')
  (k:WO S K os ((s,.bx cs')::(q,.tv t)::O)):WO S K (⟨none,.st 1 x (.s q),none⟩::os) O:=lu o p hv u w A.eq k
theorem WE:∀(ts:List (Nat×Nat×TV))(done rest:Fq),UG done.length ts=true->(Hc ts).length<=rest.length->EZ (done++rest) ts=some (done++(Hc ts++rest.drop (Hc ts).length))
 |[],done,rest,_,h=>by simp[EZ,Hc]|(i,n,t)::r,done,rest,p,h=>by
  simp only[UG,tg,Nat.beq_eq]at p;obtain⟨⟨rfl,o⟩,A⟩:=p;simp only[Hc,cE]at h;have u:n<=rest.length:=by omega
  simp only[EZ];rw[az ⟨o,by rw[cE];omega⟩];have w:done++rest=done++(rest.take n++rest.drop n):=by rw[List.take_append_drop]
  rw [w,Sl t.cells done (rest.take n) (rest.drop n) (by rw[ca];omega),<-d4];rw[WE r (done++t.cells) (rest.drop n) (by rw[cE,o];exact A) (by rw[List.length_drop];omega)];simp[Hc,List.drop_drop,o]
inductive NT:Fq->Fq->Prop
 |nil {xs:Fq}:xs=[]->NT xs []
 |cons {xs ys zs:Fq} {t:TV}:xs=t::ys->NT ys zs->NT xs (t::zs)
theorem NT.eq{xs ys:Fq}(h:NT xs ys):xs=ys:=by
 induction h with
 |nil h=>exact h|cons h _ o=>rw[h,o]
variable{zero:Fq}
theorem o6{S:FuncId->Fq->Az->Prop}{K:AB->Prop}{os:List PR}{O:AB}{d:Nat}{parts:List (Nat×Nat×AE)}{ts:List (Nat×Nat×TV)}{cs:Fq}(h:GG O parts=some ts)(o:UG 0 ts=true)(p:Nat.ble (Hc ts).length zero.length=true)(u:NT (Hc ts++zero.drop (Hc ts).length) cs)(k:WO S K os ((d,.tv (.agg cs))::O)):WO S K (⟨some d,.bld zero parts,none⟩::os) O:=
 XQ h (by have:=WE ts [] zero o (Nat.le_of_ble_eq_true p);simpa using this) (by rw[u.eq]) k
structure HY{α A B C:Type}(n:Nat)(f:A->B->C->α)(g1:A->TV)(g2:B->TV)(g3:C->TV):Prop where
variable{qi:Option Nat}
theorem pQ{S:FuncId->Fq->Az->Prop}{K:AB->Prop}{os:List PR}{O:AB}{α A B C:Type}{f:A->B->C->α}{o:Nat}{v:AE}{q n:Nat}{env':AB}{es cs cs':Fq}{e:α->TV}{l:List α}{a:α}{E:A}{F:B}{G:C}{p:A->TV}{u:B->TV}{w:C->TV}(_:HY o f p u w)(h:(AE.s o).ev O=.lp q qi (j.toNat*n))(H:O.ws q qi=some (n,es))(he:es=l.map e)(I:∀a,(e a).cells.length=n)(hv:v.ev O=.tv (.agg cs))(J:NT cs cs')(L:cs'=[p E,u F,w G])(hf:∀a b c,TV.agg [p a,u b,w c]=e (f a b c))(N:idx l j=some a)(U:Nat.blt 0 n=true)
  (D:O.Aah q qi n ((BN l j (f E F G)).map e)=env')(k:WO S K os env'):WO S K (⟨none,.xst (.s o) v n,none⟩::os) O:=lz h H (by rw[hv,J.eq,L,hf]) he I N U D k
theorem s8{S:FuncId->Fq->Az->Prop}{α:Type}{x v:AE}{q n:Nat}{env':AB}{es:Fq}{e:α->TV}{l:List α}{a b:α}(h:x.ev O=.lp q qi (j.toNat*n))(p:O.ws q qi=some (n,es))(he:es=l.map e)(u:∀a,(e a).cells.length=n)(hv:v.ev O=.tv (e b))(w:idx l j=some a)(A:Nat.blt 0 n=true)
  (o:O.Aah q qi n ((BN l j b).map e)=env')(k:WO S K os env'):WO S K (⟨none,.xst x v n,none⟩::os) O:=lz h p hv he u w A o k
theorem l8{i q:Nat}{cs:List AN}{o:Fq}{p:α->Az}{e:α->EV}(h:x.bind k=some r)(c:Ct P x f o R)(hi:args[i]?=some (.s q))(B:O.get q=.oag cs)(hd:d≠q)(C:G6 O i args=some ts)(u:ts.set i (.agg (cs.map fun _=>.undef))=o)(D:∀a,R a=.ag cs i (p a))(he:∀a,(p a).aev=e a)
  (E:∀a,x=some a->k a=some r->WO (AM P) K os ((d,e a)::(q,.undef)::O)):WO (AM P) K (⟨some d,.AaW f args i,none⟩::os) O:=by
 obtain ⟨a,A,h⟩:=bind_some h;have w:=c.snd a A;rw[D]at w;have F:=(E a A h).out;refine⟨?_⟩;subst u;simp only[wpOps,PR.wp,AC.wp,hi,B,C,AU];refine⟨hd,p a,w,fun _=>?_⟩;rw[he];exact F
end
section
variable{S:FuncId->Fq->Az->Prop}{K:AB->Prop}{os:List PR}{O:AB}{d:Nat}
theorem vI(k:∀b,WO S K os ((d,.mx (.mp b []))::O)):WO S K (⟨some d,.mkm,none⟩::os) O:=
 ⟨fun b=>(k b).out⟩
variable{kvs:BO}
theorem vO{s b:Nat}(h:O.get s=.mx (.mp b kvs))(k:WO S K os ((d,.tv (.AaK b))::O)):WO S K (⟨some d,.mvm s,none⟩::os) O:=by
 replace k:=k.out;refine⟨?_⟩;simp only[wpOps,PR.wp,AC.wp,h];exact k
variable{ky:Int×Int}
theorem vK{s b:Nat}{m x:AE}{t:TV}(h:O.get s=.mx (.mp b kvs))(o:m.val O=some (.AaK b))(p:x.val O=some t)(u:t.AbK?=some ky)(k:WO S K os ((d,.tp [.int .i64 ((kvs.look ky).getD 0),.bool (kvs.look ky).isSome])::O)):WO S K (⟨some d,.mlk s m x,none⟩::os) O:=by
 replace k:=k.out;refine⟨?_⟩;simp only[wpOps,PR.wp,AC.wp,h,o,p,u,AU];exact⟨trivial,k⟩
theorem vN{s b:Nat}{m x v:AE}{t:TV}{n:Int}(h:O.get s=.mx (.mp b kvs))(o:m.val O=some (.AaK b))(p:x.val O=some t)(u:t.AbK?=some ky)(hv:v.val O=some (.int .i64 n))(k:WO S K os ((s,.mx (.mp b (kvs.set ky n)))::O)):WO S K (⟨none,.mup s m x v,none⟩::os) O:=by
 replace k:=k.out;refine⟨?_⟩;simp only[wpOps,PR.wp,AC.wp,h,o,p,u,hv,AU];exact⟨trivial,k⟩
variable{todo:BO}
theorem vG{s:Nat}{p:(Int×Int)×Int}(h:O.get s=.mx (.mi (some p) todo))(k:WO S K os ((d,.tp [O6 p.1,.int .i64 p.2])::O)):WO S K (⟨some d,.men s,none⟩::os) O:=by
 replace k:=k.out;refine⟨?_⟩;simp only[wpOps,PR.wp,AC.wp,h];exact k
theorem fo{s b:Nat}{ts:Fq}(h:O.get s=.mx (.tm b kvs ts))(k:WO S K os ((d,.tp (.AaK b::ts))::O)):WO S K (⟨some d,.mvm s,none⟩::os) O:=by
 replace k:=k.out;refine⟨?_⟩;simp only[wpOps,PR.wp,AC.wp,h];exact k
theorem fm{s:Nat}{ts:Fq}(h:O.get s=.tp ts)(k:WO S K os ((d,.tp ts)::O)):WO S K (⟨some d,.mvm s,none⟩::os) O:=by
 replace k:=k.out;refine⟨?_⟩;simp only[wpOps,PR.wp,AC.wp,h];exact k
theorem lr{s b:Nat}{ts:Fq}{m:AE}(h:O.get s=.mx (.tm b kvs ts))(o:m.val O=some (.AaK b))(hd:d≠s)(k:WO S K os ((d,.mx (.mi none kvs))::(s,.undef)::O)):WO S K (⟨some d,.x9 s m,none⟩::os) O:=by
 replace k:=k.out;refine⟨?_⟩;simp only[wpOps,PR.wp,AC.wp,h,o];exact⟨⟨hd,trivial⟩,k⟩
theorem vL{s:Nat}{last:Option ((Int×Int)×Int)}(h:O.get s=.mx (.mi last todo))(hd:d≠s)(u:todo=[]->WO S K os ((d,.tp [.bool false])::O))(w:∀p o,todo.Perm (p::o)->WO S K os ((d,.tp [.bool true,O6 p.1,.int .i64 p.2])::(s,.mx (.mi (some p) o))::O)):WO S K (⟨some d,.mnx s,none⟩::os) O:=by
 refine ⟨?_⟩;simp only[wpOps,PR.wp,AC.wp,h];exact⟨hd,fun e=>(u e).out,fun p t A=>(w p t A).out⟩
theorem jp{f:FuncId}{args:List AE}{ts us:Fq}(hv:vals O args=some ts)(h:S f ts (.mpr kvs us))(k:∀b,WO S K os ((d,.mx (.tm b kvs us))::O)):WO S K (⟨some d,.AaT f args,none⟩::os) O:=by
 refine ⟨?_⟩;simp only[wpOps,PR.wp,AC.wp,hv,AU];exact .inr ⟨kvs,us,h,fun _ b=>(k b).out⟩
theorem jo{f:FuncId}{args:List AE}{ts us:Fq}(hv:vals O args=some ts)(h:S f ts (.tp us))(k:WO S K os ((d,.tp us)::O)):WO S K (⟨some d,.AaT f args,none⟩::os) O:=by
 refine ⟨?_⟩;simp only[wpOps,PR.wp,AC.wp,hv,AU];exact .inl ⟨us,h,fun _=>k.out⟩
theorem Jj{ss:QQ}{s:Nat}{r:AB}{m:MX}(h:O.get s=.mx m)(k:Kp O ss r):Kp O (s::ss) ((s,.mx m)::r):=MH h k
theorem uN{ss:QQ}{s:Nat}{r:AB}{q:List (Nat×EV)}{m:MX}(h:look q s=none)(o:O.get s=.mx m)(k:Nm O q ss r):Nm O q (s::ss) ((s,.mx m)::r):=OZ h o k
end
def MK(r:BO×Int):Az:=if r.2=0 then .mpr r.1 [.int .i64 r.2]else .tp [.undef,.int .i64 r.2]
structure vo(o:Nat):Prop where
variable{kvs:BO}
theorem nC{h:List RV}{O:AB}{e:Int}(he:(!decide (e=0))=true)(o:h.length≠1)(p:Dx O h=some [.undef,.int .i64 e]):Bp h (MK (kvs,e)) O:=by
 simp only[Bool.not_eq_true',decide_eq_false_iff_not]at he;simp only[MK,b6 he];exact⟨o,p⟩
theorem nD{s o b:Nat}{h:List RV}{O:AB}(_:vo o)(p:O.get s=.tv (.AaK b))(u:O.get o=.mx (.mp b kvs))(w:h≠[])(A:Dx O h=some [.int .i64 0]):Bp (.tmp s::h) (MK (kvs,0)) O:=by
 simp only[MK,if_true,Bp];exact⟨w,⟨b,o,p,u⟩,A⟩
section
variable{P:Program}{α β:Type}{K:AB->Prop}{os:List PR}{O:AB}{d:Nat}{x:Option α}{k:α->Option β}{r:β}{f:FuncId}{args:List AE}{ts:Fq}{R:α->Az}
theorem gl{i s:Nat}{cs:List AN}{q:α->Bool}{u v:α->List AN}{us:α->Fq}{e:α->EV}(h:x.bind k=some r)(c:Ct P x f ts R)(A:(args[i]?).bind (·.place O)=some (s,0))(B:O.get s=.bx cs)(C:O.noX s none=true)(hd:d≠s)(D:G6 O i args=some ts)(E:∀a,R a=.bo cs (if q a=true then u a else v a) i (us a))(he:∀a,EV.ofs (us a)=e a)
  (F:∀a,x=some a->q a=true->k a=some r->WO (AM P) K os ((d,e a)::(s,.bx (u a))::O))(G:∀a,x=some a->q a=false->k a=some r->WO (AM P) K os ((d,e a)::(s,.bx (v a))::O)):WO (AM P) K (⟨some d,.AaN f args i,none⟩::os) O:=by
 refine Zv h c A B C hd D E he (fun a o p=>?_);cases w:q a with
 |true=>rw[az rfl];exact F a o w p|false=>rw[b6 (by simp)];exact G a o w p
end
section
variable{S:FuncId->Fq->Az->Prop}{a b:PC}{O:AB}
variable{Q:Q}
theorem o9{c:AE}{β:Type}{q:Bool}{u v:Option β}{r:β}(p:c.val O=some (.bool q))(h:(if q=true then u else v)=some r)(o:q=true)(k:u=some r->WP S a Q O):WP S (.cond c a b) Q O:=
 QH p o (k (Us o h))
theorem o8{c:AE}{β:Type}{q:Bool}{u v:Option β}{r:β}(p:c.val O=some (.bool q))(h:(if q=true then u else v)=some r)(o:q=false)(k:v=some r->WP S b Q O):WP S (.cond c a b) Q O:=
 QG p o (k (Ur o h))
end
end Go.Sf
set_option maxRecDepth 100000
namespace Go.Sf
theorem au{P:Prop}(p:P:=by
 repeat' (first
  |(show WO _ _ _ _;first
    |(apply OM;exact rfl)
    |(apply rR;exact rfl;exact rfl)
    |(apply u7;exact rfl)
    |(apply Ri;exact rfl;exact rfl)
    |(apply vb;exact rfl)
    |(apply wy;exact rfl)
    |apply L3
    |(apply ll;exact rfl)
    |(apply lj;exact rfl)
    |(apply fk;exact rfl;exact rfl)
    |(apply fh;exact rfl)
    |(apply tu;exact rfl;assumption)
    |(apply px;exact rfl;assumption)
    |(apply we;exact rfl)
    |(apply oQ;exact rfl;assumption;exact rfl)
    |(apply oN;exact rfl;assumption;exact rfl)
    |(apply ut;exact rfl;exact rfl)
    |(apply vE;exact rfl;exact rfl)
    |(apply ui;exact rfl;exact rfl)
    |(apply cl;exact rfl;exact rfl)
    |(apply vD;exact rfl;exact rfl)
    |(apply va;exact rfl;exact rfl)
    |(apply ux;exact rfl;exact rfl)
    |(apply uw;exact rfl;exact rfl)
    |(apply fi;exact rfl;exact rfl)
    |(apply vC;exact rfl;(first|exact rfl|exact Ml.eq))
    |(apply sY;exact h;exact rfl;exact rfl;(first|exact rfl|exact Ml.eq);intro x o h)
    |(apply o7;exact h;infer_instance;exact rfl;exact fun _=>rfl;intro x o h)|(apply mH;exact h;infer_instance;exact rfl;exact fun _=>rfl;intro x o h)|(apply mI;assumption;exact h;infer_instance;exact rfl;exact fun _=>rfl;intro x o h)|(apply mG;exact h;infer_instance;exact rfl;exact fun _=>rfl;intro x o h)|(apply mK;exact h;infer_instance;exact rfl;exact fun _=>rfl;intro x o h)|(apply mC;exact h;infer_instance;exact rfl;exact fun _=>rfl;intro x o h)
    |(apply sV;exact rfl;(with_reducible exact h);intro A C h;rotate_left;intro A C h;rotate_left)
    |(apply sU;exact rfl;(with_reducible exact h);intro A C h;rotate_left;intro A C h;rotate_left)
    |(apply sX h (ho:=rfl);(focus ((repeat(first|apply GS.step|(apply GS.Ab6;exact rfl)));exact GS.done));exact rfl;exact rfl;intro v A C h;rotate_left;intro v A C h;rotate_left;intro v h;rotate_left)
    |(apply sW h (ho:=rfl);(focus ((repeat(first|apply GS.step|(apply GS.Ab6;exact rfl)));exact GS.done));exact rfl;exact rfl;intro v A C h;rotate_left;intro v A C h;rotate_left;intro v h;rotate_left)
    |(apply sT rfl;(focus ((repeat(first|apply GS.step|(apply GS.Ab6;exact rfl)));exact GS.done));exact rfl;exact rfl;intro A C;rotate_left;intro A C;rotate_left 3)
    |(apply sS rfl;(focus ((repeat(first|apply GS.step|(apply GS.Ab6;exact rfl)));exact GS.done));exact rfl;exact rfl;intro A C;rotate_left;intro A C;rotate_left 3)
    |apply pC
    |apply rV
    |(apply oy;exact h;exact rfl;exact rfl;(first|exact rfl|exact Ml.eq);(first|exact rfl|exact Ml.eq);infer_instance;intro x o h)
    |(apply sN;exact h;exact rfl;exact rfl;(first|exact rfl|exact Ml.eq);(first|exact rfl|exact Ml.eq);intro x o h)
    |(apply pH;exact rfl;(focus ((repeat(apply Lm.cons;exact rfl));exact Lm.nil));exact fun _=>rfl;infer_instance)|(apply pG;exact rfl;(focus ((repeat(apply Lm.cons;exact rfl));exact Lm.nil));exact fun _=>rfl)
    |(apply sd;exact rfl;exact rfl)
    |(apply sb;(with_reducible exact h);infer_instance;exact rfl;exact rfl;exact rfl;intro x o h)
    |(apply lF;exact rfl;exact rfl;exact rfl)
    |(apply sa;exact rfl;exact rfl;exact rfl;exact rfl)
    |(apply ln;exact rfl;exact rfl;exact rfl)
    |(apply pF;exact rfl;exact rfl;exact rfl)
    |(apply XR;exact rfl;exact rfl;exact rfl)
    |(apply pL;exact rfl;exact rfl;exact rfl;exact rfl)
    |(apply ls;exact rfl;exact rfl;exact rfl;exact rfl;exact rfl)
    |(apply rf;exact rfl;exact rfl;decide;exact rfl;exact rfl)
    |(apply su;exact rfl;exact rfl;exact rfl;exact rfl;exact rfl;(focus ((repeat(apply NL.cons;exact rfl));exact NL.nil rfl)))
    |(apply pM;exact rfl;exact rfl;exact rfl;decide;exact rfl;(focus ((repeat(apply NL.cons;exact rfl));exact NL.nil rfl)))
    |(apply rd;exact rfl;exact rfl;exact rfl;exact rfl;exact rfl;exact rfl)
    |(apply lu;exact rfl;exact rfl;exact rfl;decide;exact rfl;exact rfl)
    |(apply vA;exact rfl;exact rfl;exact rfl;exact rfl;exact rfl)
    |(apply o5;(with_reducible exact h);infer_instance;exact rfl;exact rfl;exact rfl;intro x o h)
    |(apply rH;exact rfl;exact rfl;exact rfl;exact rfl)
    |(apply o6;exact rfl;exact rfl;exact rfl;(focus ((repeat(apply NT.cons;exact rfl));exact NT.nil rfl)))
    |(apply XQ;exact rfl;exact rfl;exact rfl)
    |(apply ul;exact rfl)
    |(apply mJ;exact h;infer_instance;exact rfl;exact rfl;exact rfl;exact fun _=>rfl;intro x o h)|(apply gw;exact h;infer_instance;exact rfl;exact rfl;exact rfl;exact fun _=>rfl;intro x o h)|(apply gv;exact h;infer_instance;exact rfl;exact rfl;exact rfl;exact fun _=>rfl;intro x o h)
    |(apply sq;exact h;exact rfl;(first|exact rfl|exact Ml.eq);exact rfl;exact rfl;intro x o h)
    |(apply ra;exact rfl)
    |(apply pJ;exact h;exact rfl;exact rfl;intro x o h)
    |(apply pK;exact h;exact rfl;exact rfl;exact rfl;intro x o h)
    |(apply vS;exact rfl)
    |(apply vM;exact rfl;exact rfl)
    |(apply vF;exact rfl;exact rfl)
    |(apply vH;exact rfl;exact rfl)
    |(apply vQ;exact rfl)
    |(apply ur;exact rfl)
    |(apply vP;exact rfl)
    |(apply uj;exact rfl)
    |(apply rM;exact rfl;exact rfl;exact rfl;exact rfl)
    |(apply rN;exact rfl;exact rfl;exact rfl)
    |(apply sR;exact rfl;infer_instance)
    |(apply rP;exact rfl;exact rfl;exact rfl)
    |(apply oM;exact rfl;exact rfl;exact rfl)
    |(apply rY;exact rfl;exact rfl)
    |(apply rb;exact rfl;exact rfl)
    |(apply rG;exact rfl;exact rfl)
    |(apply rK;exact rfl;exact rfl)
    |(apply oo;exact rfl;exact rfl;infer_instance;exact rfl;exact rfl;exact rfl)
    |(apply ou;exact rfl;exact rfl;infer_instance;exact rfl;exact rfl;exact rfl)
    |refine ot rfl rfl rfl rfl rfl ?_
    |refine ov rfl rfl rfl rfl rfl ?_
    |(apply vd;exact rfl)
    |(apply rW;exact rfl)
    |(apply vc;exact rfl;exact rfl;decide)
    |(apply vV;exact rfl;decide)
    |(apply rg;exact rfl;(first|exact rfl|exact Ml.eq))
    |(apply s5;exact h;exact rfl;exact rfl;(first|exact rfl|exact Ml.eq);exact rfl;intro x o h)
    |(apply ve;exact rfl;exact rfl)
    |(apply pN;exact rfl;exact rfl;exact rfl;exact fun _=>rfl;assumption;exact rfl;exact rfl;exact rfl)|(apply s7;exact rfl;exact rfl;exact rfl;exact fun _=>rfl;assumption;exact rfl;exact rfl;exact rfl)|(apply pP;assumption;exact rfl;exact rfl;exact rfl;exact rfl;exact fun _=>rfl;assumption;exact rfl;exact rfl;exact rfl;exact rfl)|(apply pO;exact rfl;exact rfl;exact rfl;exact rfl;exact fun _=>rfl;assumption;exact rfl;exact rfl;exact rfl;exact rfl)|(apply pQ;assumption;exact rfl;exact rfl;exact rfl;exact fun _=>rfl;exact rfl;(focus ((repeat(apply NT.cons;exact rfl));exact NT.nil rfl));exact rfl;exact fun _ _ _=>rfl;assumption;exact rfl;exact rfl)|(apply s8;exact rfl;exact rfl;exact rfl;exact fun _=>rfl;exact rfl;assumption;exact rfl;exact rfl)
    |(apply oz;exact h;exact rfl;exact rfl;(first|exact rfl|exact Ml.eq);(first|exact rfl|exact Ml.eq);exact rfl;decide;intro x o h)
    |(apply o0;exact h;exact rfl;exact rfl;exact rfl;exact rfl;exact rfl;decide;exact rfl;exact rfl;intro x o h)
    |(apply sP;exact h;exact rfl;exact rfl;exact rfl;exact rfl;decide;intro x o h)
    |(apply se;exact h;exact rfl;exact rfl;exact rfl;intro x o h)
    |(apply mL;exact h;infer_instance;exact rfl;exact rfl;exact fun _=>rfl;intro x o h)|(apply gx;exact h;infer_instance;exact rfl;exact rfl;exact fun _=>rfl;exact fun _=>rfl;intro x o h)|(apply mE;exact h;infer_instance;exact rfl;exact fun _=>rfl;exact fun _=>rfl;intro x o h)|(apply gu;exact h;infer_instance;exact rfl;exact fun _=>rfl;exact fun _=>rfl;intro x o h)|(apply gq;exact h;infer_instance;exact rfl;exact fun _=>rfl;exact fun _=>rfl;intro x o h)|(apply mB;exact h;infer_instance;exact rfl;exact fun _=>rfl;intro x o h)|(apply gl;exact h;infer_instance;exact rfl;exact rfl;exact rfl;decide;exact rfl;exact fun _=>rfl;exact fun _=>rfl;intro x o C h;rotate_left;intro x o C h;rotate_left)|(apply Zv;exact h;infer_instance;exact rfl;exact rfl;exact rfl;decide;exact rfl;exact fun _=>rfl;exact fun _=>rfl;intro x o h)|(apply mF;exact h;infer_instance;exact rfl;exact rfl;exact rfl;exact rfl;exact fun _=>rfl;exact fun _=>rfl;exact fun _=>rfl;intro x o h)
    |(apply l9;exact h;infer_instance;exact rfl;exact rfl;decide;exact rfl;intro x o h)
    |(apply mA;exact h;infer_instance;exact rfl;exact fun _=>rfl;intro x o h)
    |(apply si;exact h;exact rfl;exact rfl;intro x o h)
    |(apply sj;exact h;exact rfl;exact rfl;intro x o h)
    |(apply sO;exact h;exact rfl;exact rfl;decide;intro x o h)
    |(apply pI;exact h;exact rfl;exact rfl;intro x o h)
    |(apply rQ;exact rfl)
    |(apply uu;exact rfl;exact rfl)
    |(apply vB;exact rfl;exact rfl;exact rfl)
    |(apply sZ;exact h;exact rfl;(first|exact rfl|exact Ml.eq);intro u h)
    |(apply lm;exact rfl;exact rfl;intro z D;replace h:=mU h z D)
    |(apply uz;exact rfl;exact rfl)
    |(apply uo;exact rfl;exact rfl;exact rfl;exact rfl;exact rfl)
    |(apply um;exact rfl;exact rfl;exact rfl;exact rfl;exact rfl;exact rfl)
    |(apply rJ;decide;decide;exact rfl;exact rfl)
    |(apply rT;exact rfl)
    |(apply vZ;exact rfl;exact rfl;decide;exact rfl;exact rfl;exact rfl;exact rfl)
    |(apply rD;exact rfl;exact rfl;exact rfl)
    |(apply u0;exact rfl;exact rfl)
    |(apply sf;exact h;exact rfl;exact rfl;exact rfl;(first|exact rfl|exact Ml.eq);intro x o h)
    |(apply vR;exact rfl;exact rfl;(first|exact rfl|exact Ml.eq);assumption)
    |(apply sg;exact h;exact rfl;exact rfl;exact rfl;(first|exact rfl|exact Ml.eq);exact fun _=>rfl;assumption;intro x o h)
    |(apply vT;exact rfl;exact rfl;exact rfl;(first|exact rfl|exact Ml.eq);exact fun _=>rfl;assumption;assumption;exact rfl;exact rfl;exact rfl;exact rfl)
    |(apply rS;exact rfl;exact rfl;decide)
    |(apply ox;exact h;exact rfl;exact rfl;exact rfl;exact rfl;(first|exact rfl|exact Ml.eq);exact rfl;exact rfl;decide;exact rfl;intro x o h)
    |(apply rO;exact rfl;exact rfl;exact rfl;exact rfl;exact rfl;exact rfl)
    |(apply rL;exact rfl;exact rfl;decide)
    |(apply u9;exact rfl;exact rfl;decide;exact rfl)
    |(apply vY;exact rfl;exact rfl;exact rfl;exact rfl;exact rfl;exact rfl;exact rfl;exact rfl)
    |(apply gm;exact h;infer_instance;exact rfl;exact fun _=>rfl;exact fun _=>rfl;exact fun _=>rfl;intro x o h)|(apply l8;exact h;infer_instance;exact rfl;exact rfl;decide;exact rfl;exact rfl;exact fun _=>rfl;exact fun _=>rfl;intro x o h)
    |(apply vI;intro b;have K:=K b)
    |(apply vO;exact rfl)
    |(apply fo;exact rfl)
    |(apply fm;exact rfl)
    |(apply vG;exact rfl)
    |(apply lr;exact rfl;exact rfl;decide)
    |(apply vK;exact rfl;exact rfl;exact rfl;exact rfl)
    |(apply vN;exact rfl;exact rfl;exact rfl;exact rfl;exact rfl))
  |(show WP _ _ _ _;first
    |with_reducible apply sQ
    |apply Jg
    |apply OR
    |(apply pB;exact rfl)
    |(apply sn;exact rfl;exact rfl)
    |apply Xd
    |apply bN
    |apply dX
    |(apply QH;exact rfl;with_reducible rfl)
    |(apply QG;exact rfl;with_reducible rfl)
    |(apply pE;exact rfl;exact h;assumption;exact rfl;intro w C h;rotate_left;intro w C h;rotate_left;intro w h;rotate_left)
    |(apply o9;exact rfl;exact h;assumption;intro h)
    |(apply o8;exact rfl;exact h;assumption;intro h)
    |(apply pA;exact rfl;exact h;intro C h;rotate_left;intro C h;rotate_left)
    |(apply QH;exact rfl;apply xA;assumption)
    |(apply QG;exact rfl;apply wc;assumption)
    |(apply dY;assumption;exact h;exact B;(first|exact R3 rfl (by first|exact rfl|exact Ml.eq)|exact R2 rfl|exact PW rfl rfl (by first|exact rfl|exact Ml.eq)|exact PV rfl rfl|exact R5 rfl|exact R4 rfl (by first|exact rfl|exact Ml.eq)|exact R7 rfl rfl|exact R6|exact R1 (by decide));exact rfl;exact rfl;exact fun _ _=>rfl;intro i s r hi h B;rotate_left;intro i s hi;clear h;rotate_left;intro s h;rotate_left)
    |(apply dY;apply HB.a;assumption;exact h;exact B;(first|exact R3 rfl (by first|exact rfl|exact Ml.eq)|exact R2 rfl|exact PW rfl rfl (by first|exact rfl|exact Ml.eq)|exact PV rfl rfl|exact R5 rfl|exact R4 rfl (by first|exact rfl|exact Ml.eq)|exact R7 rfl rfl|exact R6|exact R1 (by decide));exact rfl;exact rfl;exact fun _ _=>rfl;intro i s r hi h B;rotate_left;intro i s hi;clear h;rotate_left;intro s h;rotate_left)
    |(apply db;assumption;assumption;exact rfl;exact h;exact B;(first|exact R3 rfl (by first|exact rfl|exact Ml.eq)|exact R2 rfl|exact PW rfl rfl (by first|exact rfl|exact Ml.eq)|exact PV rfl rfl|exact R5 rfl|exact R4 rfl (by first|exact rfl|exact Ml.eq)|exact R7 rfl rfl|exact R6|exact R1 (by decide));exact rfl;exact rfl;exact fun _ _=>rfl;intro i s r hi h B;rotate_left;intro i s hi;clear h;rotate_left;intro s h;rotate_left)
    |(apply db;apply HB.a;assumption;assumption;exact rfl;exact h;exact B;(first|exact R3 rfl (by first|exact rfl|exact Ml.eq)|exact R2 rfl|exact PW rfl rfl (by first|exact rfl|exact Ml.eq)|exact PV rfl rfl|exact R5 rfl|exact R4 rfl (by first|exact rfl|exact Ml.eq)|exact R7 rfl rfl|exact R6|exact R1 (by decide));exact rfl;exact rfl;exact fun _ _=>rfl;intro i s r hi h B;rotate_left;intro i s hi;clear h;rotate_left;intro s h;rotate_left)
    |(apply da;assumption;exact h;exact B;(first|exact R3 rfl (by first|exact rfl|exact Ml.eq)|exact R2 rfl|exact PW rfl rfl (by first|exact rfl|exact Ml.eq)|exact PV rfl rfl|exact R5 rfl|exact R4 rfl (by first|exact rfl|exact Ml.eq)|exact R7 rfl rfl|exact R6|exact R1 (by decide));exact rfl;exact rfl;exact fun _ _=>rfl;intro i s r hi h B;rotate_left;intro i s hi;clear h;rotate_left;intro s h;rotate_left)
    |(apply da;apply HB.a;assumption;exact h;exact B;(first|exact R3 rfl (by first|exact rfl|exact Ml.eq)|exact R2 rfl|exact PW rfl rfl (by first|exact rfl|exact Ml.eq)|exact PV rfl rfl|exact R5 rfl|exact R4 rfl (by first|exact rfl|exact Ml.eq)|exact R7 rfl rfl|exact R6|exact R1 (by decide));exact rfl;exact rfl;exact fun _ _=>rfl;intro i s r hi h B;rotate_left;intro i s hi;clear h;rotate_left;intro s h;rotate_left)
    |(apply dZ;assumption;exact h;exact B;(first|exact R3 rfl (by first|exact rfl|exact Ml.eq)|exact R2 rfl|exact PW rfl rfl (by first|exact rfl|exact Ml.eq)|exact PV rfl rfl|exact R5 rfl|exact R4 rfl (by first|exact rfl|exact Ml.eq)|exact R7 rfl rfl|exact R6|exact R1 (by decide));exact rfl;exact rfl;exact fun _ _=>rfl;intro i s r hi h B;rotate_left;intro i s hi;clear h;rotate_left;intro s h;rotate_left)
    |(apply dZ;apply HB.a;assumption;exact h;exact B;(first|exact R3 rfl (by first|exact rfl|exact Ml.eq)|exact R2 rfl|exact PW rfl rfl (by first|exact rfl|exact Ml.eq)|exact PV rfl rfl|exact R5 rfl|exact R4 rfl (by first|exact rfl|exact Ml.eq)|exact R7 rfl rfl|exact R6|exact R1 (by decide));exact rfl;exact rfl;exact fun _ _=>rfl;intro i s r hi h B;rotate_left;intro i s hi;clear h;rotate_left;intro s h;rotate_left)
    |(apply sz;assumption;assumption;exact rfl;exact h;exact rfl;exact rfl;intro s r h B;rotate_left;intro s h;rotate_left)
    |(apply sw;assumption;exact h;exact rfl;exact rfl;intro s r h B;rotate_left;intro s h;rotate_left)
    |(apply sv;assumption;exact h;exact rfl;exact rfl;intro s r h B;rotate_left;intro s h;rotate_left)
    |apply Zu
    |cases h)
  |(show Kp _ _ _;first
    |exact Hf
    |(apply Jl;exact rfl)
    |(apply uC;exact rfl)
    |(apply Ji;exact rfl)
    |(apply uE;exact rfl)
    |(apply uA;exact rfl)
    |(apply Jk;exact rfl)
    |(apply Jm;exact rfl)
    |(apply uB;exact rfl)
    |(apply uD;exact rfl)
    |(apply qI;exact rfl)
    |(apply Jj;exact rfl))
  |(show Nm _ _ _ _;first
    |exact qM
    |(apply qL;exact rfl)
    |(apply uQ;exact rfl;exact rfl)
    |(apply uO;exact rfl;exact rfl)
    |(apply uL;exact rfl;exact rfl)
    |(apply uT;exact rfl;exact rfl)
    |(apply uK;exact rfl;exact rfl)
    |(apply uP;exact rfl;exact rfl)
    |(apply uR;exact rfl;exact rfl)
    |(apply uM;exact rfl;exact rfl)
    |(apply uN;exact rfl;exact rfl))
  |apply mj
  |(apply iV;intro j)
  |apply mg
  |exact eH rfl
  |(cases h;exact eH rfl)
  |apply Xy
  |(apply mZ;decide)
  |intro B
  |(cases h;first|exact rfl|exact⟨rfl⟩|exact⟨rfl,rfl⟩|exact⟨_,rfl,rfl⟩|exact⟨_,rfl,⟨rfl⟩⟩|exact⟨rfl,_,rfl,⟨rfl⟩⟩|exact⟨by decide,rfl⟩|exact⟨_,rfl,by decide,rfl⟩|exact⟨_,rfl,rfl,rfl⟩|exact nD (by assumption) rfl rfl (by decide) rfl|exact⟨_,rfl,nC (by first|assumption|decide) (by decide) rfl⟩)
  |exact⟨rfl,⟨rfl⟩⟩)):P:=p
end Go.Sf
