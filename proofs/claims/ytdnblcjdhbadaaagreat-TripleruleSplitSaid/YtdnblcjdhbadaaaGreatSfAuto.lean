/- Contracts that are found by themselves: rules that take the typed text along, and the script that applies them. -/
import Derived.Test.YtdnblcjdhbadaaaGreatSfK
import Derived.Test.YtdnblcjdhbadaaaGreatSfStep
import Derived.Test.YtdnblcjdhbadaaaGreatSfLib
set_option linter.all false
namespace Go.Sf
class Ct(P:Program){α:Type}(x:Option α)(f:outParam FuncId)(ts:outParam Fq)(R:outParam (α->At)):Prop where
 snd:∀r,x=some r->AQ P f ts (R r)
class Ml(es:Fq){α:outParam Type}(e:outParam (α->TV))(l:outParam (List α)):Prop where
 eq:es=l.map e
class X7{α:Type}(e:α->TV)where
 un:Fq->α
 dec:∀a b,∃i:Decidable (a=b),Bj (e a).cells (e b).cells=some (@decide (a=b) i)
class Fz(cs:List AP)(row:outParam Fq):Prop where
 h:cs.map (·.t)=row
instance(priority:=high){l:Fq}:Fz (l.map fun x=>(⟨false,x⟩:AP)) l:=⟨by rw[List.map_map];exact List.map_id _⟩
instance(priority:=low){cs:List AP}:Fz cs (cs.map (·.t)):=⟨rfl⟩
class En(α:Type)(e:outParam (α->TV)):Prop where
class Fl{α:Type}(e:α->TV)(n:outParam Nat)(f:outParam (List α->TV)):Prop where
 eq:∀l,f l=.list n (l.map e)
structure Kp(O:AB)(l:Ne)(r:AB):Prop where
 of::out:O.hV l=r
def look:List (Nat×EV)->Nat->Option EV
 |[],_=>none|(k,e)::r,n=>if k=n then some e else look r n
def ws(O:AB)(m:List (Nat×EV)):Ne->AB
 |[]=>[]|s::ss=>(s,(look m s).getD (O.get s))::ws O m ss
structure Nm(O:AB)(m:List (Nat×EV))(l:Ne)(r:AB):Prop where
 of::out:ws O m l=r
structure Rn(a b:AB):Prop where
 of::out:a=b
structure HJ{σ:Type}(n:Nat)(M:σ->List (Nat×EV)):Prop where
structure HA{σ:Type}(n C7 q i:Nat)(M:Int->σ->List (Nat×EV)):Prop where
structure HB{σ:Type}(n C7 q i:Nat)(M:Int->σ->List (Nat×EV)):Prop where
theorem HB.a{σ:Type}{n C7 q i:Nat}{M:Int->σ->List (Nat×EV)}(_:HB n C7 q i M):HA n C7 q i M:=⟨⟩
structure HW{σ:Type}(n:Nat)(M:σ->List (Nat×EV)):Prop where
structure HR{β:Type}(R:β->AB->Prop):Prop where
structure HS(n:Nat):Prop where
structure HX{α γ:Type}(n:Nat)(f:α->γ->α):Prop where
structure du(g:Nat)(b q:Bool):Prop where
 of::out:q=b
structure X9(g:Nat)(b q:Bool):Prop where
 of::out:q=!b
def KR(n:AB->Prop)(l:Ne):AB->Prop:=fun e=>n (e.hV l)
section
variable{O:AB}{s:Nat}{ss:Ne}{r:AB}{m:List (Nat×EV)}
theorem HU:Kp O [] []:=⟨rfl⟩
theorem MV{e:EV}(h:O.get s=e)(k:Kp O ss r):Kp O (s::ss) ((s,e)::r):=⟨by rw[<-k.out,<-h];rfl⟩
theorem Jp{t:TV}(h:O.get s=.tv t)(k:Kp O ss r):Kp O (s::ss) ((s,.tv t)::r):=MV h k
theorem si{t:TV}(h:O.get s=.ow t)(k:Kp O ss r):Kp O (s::ss) ((s,.ow t)::r):=MV h k
theorem Jm{t:List AP}(h:O.get s=.bx t)(k:Kp O ss r):Kp O (s::ss) ((s,.bx t)::r):=MV h k
theorem sf{q o:Nat}(h:O.get s=.bp q o)(k:Kp O ss r):Kp O (s::ss) ((s,.bp q o)::r):=MV h k
theorem Jo{t:Fq}(h:O.get s=.tp t)(k:Kp O ss r):Kp O (s::ss) ((s,.tp t)::r):=MV h k
theorem Jq(h:O.get s=.undef)(k:Kp O ss r):Kp O (s::ss) ((s,.undef)::r):=MV h k
theorem sn{n:Nat}{t:Fq}(h:O.get s=.xo n t)(k:Kp O ss r):Kp O (s::ss) ((s,.xo n t)::r):=MV h k
theorem sg{q:Nat}{i:Option Nat}(h:O.get s=.la q i)(k:Kp O ss r):Kp O (s::ss) ((s,.la q i)::r):=MV h k
theorem sj(h:O.get s=.sk)(k:Kp O ss r):Kp O (s::ss) ((s,.sk)::r):=MV h k
theorem pB{t:List AP}(h:O.get s=.oag t)(k:Kp O ss r):Kp O (s::ss) ((s,.oag t)::r):=MV h k
theorem pF:Nm O m [] []:=⟨rfl⟩
theorem pE{e:EV}(h:look m s=some e)(k:Nm O m ss r):Nm O m (s::ss) ((s,e)::r):=⟨by rw[<-k.out];simp only[ws,h,Option.getD_some]⟩
theorem Ow{e:EV}(h:look m s=none)(o:O.get s=e)(k:Nm O m ss r):Nm O m (s::ss) ((s,e)::r):=⟨by rw[<-k.out];simp only[ws,h,o,Option.getD_none]⟩
theorem tE{t:TV}(h:look m s=none)(o:O.get s=.tv t)(k:Nm O m ss r):Nm O m (s::ss) ((s,.tv t)::r):=Ow h o k
theorem tC{t:TV}(h:look m s=none)(o:O.get s=.ow t)(k:Nm O m ss r):Nm O m (s::ss) ((s,.ow t)::r):=Ow h o k
theorem s9{t:List AP}(h:look m s=none)(o:O.get s=.bx t)(k:Nm O m ss r):Nm O m (s::ss) ((s,.bx t)::r):=Ow h o k
theorem s8{q o:Nat}(h:look m s=none)(p:O.get s=.bp q o)(k:Nm O m ss r):Nm O m (s::ss) ((s,.bp q o)::r):=Ow h p k
theorem tD{t:Fq}(h:look m s=none)(o:O.get s=.tp t)(k:Nm O m ss r):Nm O m (s::ss) ((s,.tp t)::r):=Ow h o k
theorem tF(h:look m s=none)(o:O.get s=.undef)(k:Nm O m ss r):Nm O m (s::ss) ((s,.undef)::r):=Ow h o k
theorem tG{n:Nat}{t:Fq}(h:look m s=none)(o:O.get s=.xo n t)(k:Nm O m ss r):Nm O m (s::ss) ((s,.xo n t)::r):=Ow h o k
theorem tA{q:Nat}{i:Option Nat}(h:look m s=none)(o:O.get s=.la q i)(k:Nm O m ss r):Nm O m (s::ss) ((s,.la q i)::r):=Ow h o k
end
def PC.xl(i:Nat):PC->Option Ne
 |.exit j l=>if j=i then some l else none|.seq a b=>match a.xl i with
  |some l=>some l|none=>b.xl i
 |.cond _ a b=>match a.xl i with
  |some l=>some l|none=>b.xl i
 |.block _ a=>a.xl i|.loop _ a=>a.xl i|.rls _ a=>a.xl i|_=>none
def PC.last:PC->Option Ne
 |.region _ l=>some l|.draw _ _ l=>some l|.skip l=>some l|.exit _ l=>some l|.seq _ b=>b.last|.cond _ a _=>a.last|.block i (.loop _ b)=>b.xl i|.block _ c=>c.last|.rls _ c=>c.last|_=>none
section
variable{S:FuncId->Fq->At->Prop}{K:AB->Prop}{os:List PR}{O:AB}{d:Nat}
section code
variable{n t:AB->Prop}{x:Nat->AB->Prop}{a b:PC}{l:Ne}{env':AB}
theorem MI(o:Kp O l env')(h:n env'):WO S (KR n l) [] O:=⟨by show n (O.hV l);rw[o.out];exact h⟩
theorem Oh{ops:List PR}(h:WO S (KR n l) ops O):WP S (.region ops l) ⟨n,x,t⟩ O:=⟨h.out⟩
theorem oF{D:Ne}{ops:List PR}(hd:Qh O D=true)(h:WO S (KR n l) ops O):WP S (.draw D ops l) ⟨n,x,t⟩ O:=⟨hd,h.out⟩
theorem Ji(h:WP S a ⟨fun e=>(∀s,(e.get s).WF)->WP S b ⟨n,x,t⟩ e,x,t⟩ O):WP S (.seq a b) ⟨n,x,t⟩ O:=sN h
theorem YB(o:Kp O l env')(h:n env'):WP S (.skip l) ⟨n,x,t⟩ O:=oc o.out h
theorem cG(h:t O):WP S .ret ⟨n,x,t⟩ O:=⟨h⟩
theorem dw{i:Nat}(o:Kp O l env')(h:x i env'):WP S (.exit i l) ⟨n,x,t⟩ O:=ob o.out h
theorem rW{s:Nat}{cs cs':List AP}{c:PC}{q:Q}(h:O.get s=.bx cs)(he:cs.map AP.rel=cs')(k:WP S c q ((s,.bx cs')::O)):WP S (.rls s c) q O:=by
 refine ⟨?_⟩;subst he;simp only[PC.wp,h];exact k.out
theorem aM{i:Nat}(h:WP S a ⟨n,fun j e=>if j=i then n e else x j e,t⟩ O):WP S (.block i a) ⟨n,x,t⟩ O:=V0 h
theorem rG{m:List (Nat×EV)}{e:AB}{q:Q}(he:Nm e m l env')(h:WP S a q env'):WP S a q (ws e m l):=by rw[he.out];exact h
variable{Q:Q}
theorem oE{c:AF}{β:Type}{q:Bool}{u v:Option β}{r:β}(o:c.val O=some (.bool q))(h:(if q=true then u else v)=some r)(p:q=true->u=some r->WP S a Q O)(w:q=false->v=some r->WP S b Q O):WP S (.cond c a b) Q O:=
 U5 o (fun e=>p e (VR e h)) (fun e=>w e (VQ e h))
theorem oH{σ β:Type}{i:Nat}{M:σ->List (Nat×EV)}{q:Bool}{u v:Option σ}{k:σ->Option β}{r:β}(p:(AF.s i).val O=some (.bool q))(h:((if q=true then u else v).bind k)=some r)(_:HJ i M)(_:(PC.cond (.s i) a b).last=some l)
  (A:∀w,q=true->u=some w->WP S a ⟨fun e=>Rn e (ws O (M w) l),x,t⟩ O)(B:∀w,q=false->v=some w->WP S b ⟨fun e=>Rn e (ws O (M w) l),x,t⟩ O)(C:∀w,k w=some r->n (ws O (M w) l)):WP S (.cond (.s i) a b) ⟨n,x,t⟩ O:=by
 obtain ⟨w,o,h⟩:=bind_some h;refine sM (fun e=>Rn e (ws O (M w) l)) ?_ (fun e he=>by rw[he.out];exact C w h);exact U5 p (fun e=>A w e (VR e o)) (fun e=>B w e (VQ e o))
end code
structure Bd(O:AB)(q i:Nat)(b:Int):Prop where
 of::out:(∀s,(O.get s).WF)->b<=9223372036854775807
section bounds
variable{q i:Nat}{α:Type}{e:α->TV}{l:List α}{es row:Fq}{n:Nat}
theorem Sh{b:Int}(h:decide (b<=9223372036854775807)=true):Bd O q i b:=⟨fun _=>of_decide_eq_true h⟩
theorem So{b:Int}:Bd O q i (Al b):=⟨fun _=>q8 _⟩
theorem Sj(h:O.get q=.tv (.list n es))(he:es=l.map e):Bd O q i l.length:=⟨fun o=>by have:=o q;rw[h]at this;exact T9 (X4 this) he⟩
theorem Sl(h:O.get q=.ow (.list n es))(he:es=l.map e):Bd O q i l.length:=⟨fun o=>by have:=o q;rw[h]at this;exact T9 (uj this) he⟩
theorem Sp(h:O.get q=.xo n es)(he:es=l.map e):Bd O q i l.length:=⟨fun o=>by have:=o q;rw[h]at this;exact T9 (uk this) he⟩
theorem Sn{b:ByteArray}(h:O.get q=.tv (.str b)):Bd O q i b.size:=⟨fun o=>by have:=o q;rw[h]at this;exact ng (X4 this)⟩
theorem Si{b:Int}(h:O.get q=.tv (.int .i64 b)):Bd O q i b:=⟨fun o=>by have:=o q;rw[h]at this;exact gj (X4 this)⟩
theorem P1(h:O.get q=.tv (.pt row))(o:row[i]?=some (.list n es))(he:es=l.map e):Bd O q i l.length:=⟨fun p=>by have:=p q;rw[h]at this;exact T9 (bz (lR this) o) he⟩
theorem P0{b:Int}(h:O.get q=.tv (.pt row))(o:row[i]?=some (.int .i64 b)):Bd O q i b:=⟨fun p=>by have:=p q;rw[h]at this;exact gj (bz (lR this) o)⟩
end bounds
section loops
variable{σ β ρ:Type}{n t:AB->Prop}{x:Nat->AB->Prop}{c:PC}{live jl:Ne}{i0 C7 q i1:Nat}{lo b:Int}{s0:σ}{r:β}{k:σ->Option β}
variable{M:Int->σ->List (Nat×EV)}
theorem q9(h:∀i s,(ws O (M i s) live).get C7=.tv (.int .i64 i)){i:Int}{s:σ}(o:∀k,((ws O (M i s) live).get k).WF)(hi:i<b)(p:b<=9223372036854775807):Al (i+1)=i+1:=by
 have:=o C7;rw[h]at this;exact ul (X4 this) hi p
theorem dx{f:Int->σ->Option σ}(_:HA i0 C7 q i1 M)(h:(A9 f lo b s0).bind k=some r)(p:∀s,(O.get s).WF)(u:Bd O q i1 b)(_:c.xl i0=some jl)(w:O.hV live=ws O (M lo s0) live)(A:∀i s,(ws O (M i s) live).get C7=.tv (.int .i64 i))
  (B:∀i s r,i<b->f i s=some r->(∀k,((ws O (M i s) live).get k).WF)->WP S c ⟨fun e=>Rn (e.hV live) (ws O (M (Al (i+1)) r) live),fun _ _=>False,fun _=>False⟩ (ws O (M i s) live))
  (C:∀i s,¬i<b->WP S c ⟨fun _=>False,fun j e=>j=i0/\Rn e (ws O (M 0 s) jl),fun _=>False⟩ (ws O (M i s) live))
  (D:∀s,k s=some r->n (ws O (M 0 s) jl)):WP S (.block i0 (.loop live c)) ⟨n,x,t⟩ O:=by
 obtain ⟨o,ho,h⟩:=bind_some h;have u:=u.out p;refine ni ho (fun i s=>ws O (M i s) live) (fun s=>ws O (M 0 s) jl) w (fun i s r hi hf p=>⟨PC.pr S c _ _ (B i s r hi hf p).out _ (fun e he=>?_) (fun _ _ h=>h) (fun _ h=>h)⟩) (fun i s hi=>⟨PC.pr S c _ _ (C i s hi).out _ (fun _ h=>h) (fun j e h=>⟨h.1,h.2.out⟩) (fun _ h=>h)⟩) (D o h);have:=he.out;rw[q9 A p hi u]at this;exact this
variable{kr:ρ->Option β}
theorem V8{f:Int->σ->Option (B0 σ ρ)}{R:ρ->AB->Prop}(h:AM (Ag f lo b s0) k kr=some r)(w:b<=9223372036854775807)(A:O.hV live=ws O (M lo s0) live)(B:∀i s,(ws O (M i s) live).get C7=.tv (.int .i64 i))
  (C:∀i s r,i<b->f i s=some r->(∀k,((ws O (M i s) live).get k).WF)->WP S c ⟨fun e=>∃s',r=.next s'/\Rn (e.hV live) (ws O (M (Al (i+1)) s') live),fun j e=>j=i0/\∃s',r=.brk s'/\Rn e (ws O (M 0 s') jl),fun e=>∃v,r=.ret v/\R v e⟩ (ws O (M i s) live))
  (D:∀i s,¬i<b->WP S c ⟨fun _=>False,fun j e=>j=i0/\Rn e (ws O (M 0 s) jl),fun _=>False⟩ (ws O (M i s) live))
  (E:∀s,k s=some r->n (ws O (M 0 s) jl))(F:∀v e,kr v=some r->R v e->t e):WP S (.block i0 (.loop live c)) ⟨n,x,t⟩ O:=by
 obtain ⟨o,ho,h⟩:=Vv h;refine b8 ho (fun i s=>ws O (M i s) live) (fun s=>ws O (M 0 s) jl) R A (fun i s r hi hf u=>⟨PC.pr S c _ _ (C i s r hi hf u).out _ (fun e he=>?_) (fun j e he=>?_) (fun _ h=>h)⟩) (fun i s hi=>⟨PC.pr S c _ _ (D i s hi).out _ (fun _ h=>h) (fun j e h=>⟨h.1,h.2.out⟩) (fun _ h=>h)⟩) (fun s G=>E s (bn h G)) (fun v e hv=>F v e (bq h hv))
 .obtain⟨s',p,e2⟩:=he;have e2:=e2.out;rw[q9 B u hi w]at e2;exact⟨s',p,e2⟩
 .obtain⟨e0,s',p,e2⟩:=he;exact⟨e0,s',p,e2.out⟩
theorem d8{f:Int->σ->Option (B0 σ β)}{R:β->AB->Prop}(_:HA i0 C7 q i1 M)(_:HR R)(o:R r=t)(h:AM (Ag f lo b s0) k (fun v=>some v)=some r)(p:∀s,(O.get s).WF)(u:Bd O q i1 b)(_:c.xl i0=some jl)(w:O.hV live=ws O (M lo s0) live)(A:∀i s,(ws O (M i s) live).get C7=.tv (.int .i64 i))
  (B:∀i s r,i<b->f i s=some r->(∀k,((ws O (M i s) live).get k).WF)->WP S c ⟨fun e=>∃s',r=.next s'/\Rn (e.hV live) (ws O (M (Al (i+1)) s') live),fun j e=>j=i0/\∃s',r=.brk s'/\Rn e (ws O (M 0 s') jl),fun e=>∃v,r=.ret v/\R v e⟩ (ws O (M i s) live))
  (C:∀i s,¬i<b->WP S c ⟨fun _=>False,fun j e=>j=i0/\Rn e (ws O (M 0 s) jl),fun _=>False⟩ (ws O (M i s) live))
  (D:∀s,k s=some r->n (ws O (M 0 s) jl)):WP S (.block i0 (.loop live c)) ⟨n,x,t⟩ O:=
 V8 h (u.out p) w A B C D (fun v e hv E=>by cases hv;rw[<-o];exact E)
variable{τ:Type}
theorem dz{f:Int->σ->Option (B0 σ ρ)}{k:σ->Option (B0 τ ρ)}{r:B0 τ ρ}{R:ρ->AB->Prop}(_:HA i0 C7 q i1 M)(h:AM (Ag f lo b s0) k (fun v=>some (.ret v))=some r)(o:∀s,(O.get s).WF)(p:Bd O q i1 b)(_:c.xl i0=some jl)(u:O.hV live=ws O (M lo s0) live)(w:∀i s,(ws O (M i s) live).get C7=.tv (.int .i64 i))
  (A:∀i s r,i<b->f i s=some r->(∀k,((ws O (M i s) live).get k).WF)->WP S c ⟨fun e=>∃s',r=.next s'/\Rn (e.hV live) (ws O (M (Al (i+1)) s') live),fun j e=>j=i0/\∃s',r=.brk s'/\Rn e (ws O (M 0 s') jl),fun e=>∃v,r=.ret v/\R v e⟩ (ws O (M i s) live))
  (B:∀i s,¬i<b->WP S c ⟨fun _=>False,fun j e=>j=i0/\Rn e (ws O (M 0 s) jl),fun _=>False⟩ (ws O (M i s) live))
  (C:∀s,k s=some r->n (ws O (M 0 s) jl)):WP S (.block i0 (.loop live c)) ⟨n,x,fun e=>∃v,r=.ret v/\R v e⟩ O:=
 V8 h (p.out o) u w A B C (fun v e hv D=>by cases hv;exact⟨v,rfl,D⟩)
theorem dy{f:Int->σ->Option (B0 σ ρ)}(_:HA i0 C7 q i1 M)(h:AM (Ag f lo b s0) k (fun _=>none)=some r)(o:∀s,(O.get s).WF)(p:Bd O q i1 b)(_:c.xl i0=some jl)(u:O.hV live=ws O (M lo s0) live)(w:∀i s,(ws O (M i s) live).get C7=.tv (.int .i64 i))
  (A:∀i s r,i<b->f i s=some r->(∀k,((ws O (M i s) live).get k).WF)->WP S c ⟨fun e=>∃s',r=.next s'/\Rn (e.hV live) (ws O (M (Al (i+1)) s') live),fun j e=>j=i0/\∃s',r=.brk s'/\Rn e (ws O (M 0 s') jl),fun _=>∃v,r=.ret v/\False⟩ (ws O (M i s) live))
  (B:∀i s,¬i<b->WP S c ⟨fun _=>False,fun j e=>j=i0/\Rn e (ws O (M 0 s) jl),fun _=>False⟩ (ws O (M i s) live))
  (C:∀s,k s=some r->n (ws O (M 0 s) jl)):WP S (.block i0 (.loop live c)) ⟨n,x,t⟩ O:=
 V8 (R:=fun _ _=>False) h (p.out o) u w A B C (fun v e hv _=>by cases hv)
theorem Zu{f:σ->Option (B0 σ ρ)}{R:ρ->AB->Prop}{M:σ->List (Nat×EV)}(h:AM (ER f s0) k kr=some r)(u:O.hV live=ws O (M s0) live)
  (w:∀s r,f s=some r->(∀k,((ws O (M s) live).get k).WF)->WP S c ⟨fun e=>∃s',r=.next s'/\Rn (e.hV live) (ws O (M s') live),fun j e=>j=i0/\∃s',r=.brk s'/\Rn e (ws O (M s') jl),fun e=>∃v,r=.ret v/\R v e⟩ (ws O (M s) live))
  (A:∀s,k s=some r->n (ws O (M s) jl))(B:∀v e,kr v=some r->R v e->t e):WP S (.block i0 (.loop live c)) ⟨n,x,t⟩ O:=by
 obtain ⟨o,ho,h⟩:=Vv h;refine rB ho (fun s=>ws O (M s) live) (fun s=>ws O (M s) jl) R u (fun s r hf C=>⟨PC.pr S c _ _ (w s r hf C).out _ (fun e he=>?_) (fun j e he=>?_) (fun _ h=>h)⟩) (fun s D=>A s (bn h D)) (fun v e hv=>B v e (bq h hv))
 .obtain⟨s',p,e2⟩:=he;exact⟨s',p,e2.out⟩
 .obtain⟨e0,s',p,e2⟩:=he;exact⟨e0,s',p,e2.out⟩
theorem rb{f:σ->Option (B0 σ β)}{R:β->AB->Prop}{M:σ->List (Nat×EV)}(_:HW i0 M)(_:HR R)(o:R r=t)(h:AM (ER f s0) k (fun v=>some v)=some r)(_:c.xl i0=some jl)(p:O.hV live=ws O (M s0) live)
  (u:∀s r,f s=some r->(∀k,((ws O (M s) live).get k).WF)->WP S c ⟨fun e=>∃s',r=.next s'/\Rn (e.hV live) (ws O (M s') live),fun j e=>j=i0/\∃s',r=.brk s'/\Rn e (ws O (M s') jl),fun e=>∃v,r=.ret v/\R v e⟩ (ws O (M s) live))
  (w:∀s,k s=some r->n (ws O (M s) jl)):WP S (.block i0 (.loop live c)) ⟨n,x,t⟩ O:=
 Zu h p u w (fun v e hv A=>by cases hv;rw[<-o];exact A)
theorem ra{f:σ->Option (B0 σ ρ)}{k:σ->Option (B0 τ ρ)}{r:B0 τ ρ}{R:ρ->AB->Prop}{M:σ->List (Nat×EV)}(_:HW i0 M)(h:AM (ER f s0) k (fun v=>some (.ret v))=some r)(_:c.xl i0=some jl)(o:O.hV live=ws O (M s0) live)
  (p:∀s r,f s=some r->(∀k,((ws O (M s) live).get k).WF)->WP S c ⟨fun e=>∃s',r=.next s'/\Rn (e.hV live) (ws O (M s') live),fun j e=>j=i0/\∃s',r=.brk s'/\Rn e (ws O (M s') jl),fun e=>∃v,r=.ret v/\R v e⟩ (ws O (M s) live))
  (u:∀s,k s=some r->n (ws O (M s) jl)):WP S (.block i0 (.loop live c)) ⟨n,x,fun e=>∃v,r=.ret v/\R v e⟩ O:=
 Zu h o p u (fun v e hv w=>by cases hv;exact⟨v,rfl,w⟩)
theorem rZ{f:σ->Option (B0 σ ρ)}{M:σ->List (Nat×EV)}(_:HW i0 M)(h:AM (ER f s0) k (fun _=>none)=some r)(_:c.xl i0=some jl)(o:O.hV live=ws O (M s0) live)
  (p:∀s r,f s=some r->(∀k,((ws O (M s) live).get k).WF)->WP S c ⟨fun e=>∃s',r=.next s'/\Rn (e.hV live) (ws O (M s') live),fun j e=>j=i0/\∃s',r=.brk s'/\Rn e (ws O (M s') jl),fun _=>∃v,r=.ret v/\False⟩ (ws O (M s) live))
  (u:∀s,k s=some r->n (ws O (M s) jl)):WP S (.block i0 (.loop live c)) ⟨n,x,t⟩ O:=
 Zu (R:=fun _ _=>False) h o p u (fun v e hv _=>by cases hv)
end loops
end
end Go.Sf
namespace Go.Sf
section
variable{P:Program}{S:FuncId->Fq->At->Prop}{K:AB->Prop}{os:List PR}{O:AB}{d:Nat}{α β:Type}{k:α->Option β}{r:β}
variable{j:Int}
theorem rM{n:Nat}{x i:AF}{es:Fq}{e:α->TV}{l:List α}{ik:IntKind}(h:(idx l j).bind k=some r)(p:x.val O=some (.list n es))(hi:i.val O=some (.int ik j))(he:es=l.map e)
  (u:∀a,idx l j=some a->k a=some r->WO S K os ((d,.tv (.pt (e a).cells))::O)):WO S K (⟨some d,.iad x i n,none⟩::os) O:=by
 obtain ⟨a,o,h⟩:=bind_some h;exact uA p hi he o rfl (u a o h)
variable{ka kb:IntKind}
theorem rX{β:Type}{γ:Type}{k:List γ->Option β}{r:β}{n:Nat}{x:AF}{lo hi:Option AF}{es:Fq}{e:γ->TV}{l:List γ}{a b:Int}(h:(slc l a b).bind k=some r)(w:x.val O=some (.list n es))(he:es=l.map e)(o:Ed O 0 lo=some (.int ka a))(p:Ed O l.length hi=some (.int kb b))
  (A:∀m,slc l a b=some m->k m=some r->WO S K os ((d,.tv (.list n (m.map e)))::O)):WO S K (⟨some d,.slc n x lo hi,none⟩::os) O:=by
 obtain ⟨m,u,h⟩:=bind_some h;exact ua w he o p u (A m u h)
theorem oN{k:ByteArray->Option β}{x:AF}{lo hi:Option AF}{s:ByteArray}{a b:Int}(h:(Aax s a b).bind k=some r)(w:x.val O=some (.str s))(o:Ed O 0 lo=some (.int ka a))(p:Ed O s.size hi=some (.int kb b))
  (A:∀m,Aax s a b=some m->k m=some r->WO S K os ((d,.tv (.str m))::O)):WO S K (⟨some d,.Aax x lo hi,none⟩::os) O:=by
 obtain ⟨m,u,h⟩:=bind_some h;exact qY w o p u (A m u h)
theorem oM{k:Int->Option β}{x i:AF}{s:ByteArray}{ik:IntKind}(h:(Aat s j).bind k=some r)(p:x.val O=some (.str s))(hi:i.val O=some (.int ik j))
  (u:∀b,Aat s j=some b->k b=some r->WO S K os ((d,.tv (.int .u8 b))::O)):WO S K (⟨some d,.Aat x i,none⟩::os) O:=by
 obtain ⟨b,o,h⟩:=bind_some h;exact qV p hi o (u b o h)
theorem rD{γ:Type}{k:List γ->Option β}{n s:Nat}{y:AF}{es fs:Fq}{e:γ->TV}{l m:List γ}(h:(Aj l m).bind k=some r)(p:O.get s=.ow (.list n es))(u:y.val O=some (.list n fs))(he:es=l.map e)(hf:fs=m.map e)
  (w:∀x,Aj l m=some x->k x=some r->WO S K os ((d,.ow (.list n (x.map e)))::(s,.tv (.list n es))::O)):WO S K (⟨some d,.app n (.s s) y,none⟩::os) O:=by
 obtain ⟨x,o,h⟩:=bind_some h;exact k7 p u he hf o rfl (w x o h)
theorem ny{γ:Type}{k:List γ->Option β}{n s:Nat}{y:AF}{es fs:Fq}{e:γ->TV}{l m:List γ}{f:List γ->TV}(h:(Aj l m).bind k=some r)(p:O.get s=.ow (.list n es))(u:y.val O=some (.list n fs))(he:es=l.map e)(hf:fs=m.map e)(c:Fl e n f)
  (w:∀x,Aj l m=some x->k x=some r->WO S K os ((d,.ow (f x))::(s,.tv (.list n es))::O)):WO S K (⟨some d,.app n (.s s) y,none⟩::os) O:=by
 obtain ⟨x,o,h⟩:=bind_some h;have:=w x o h;rw[c.eq]at this;exact k7 p u he hf o rfl this
theorem n7{γ:Type}{k:List γ->Option β}{n s:Nat}{y:AF}{es fs:Fq}{e:γ->TV}{l m:List γ}(h:(Aj l m).bind k=some r)(p:O.get s=.xo n es)(u:y.val O=some (.list n fs))(he:es=l.map e)(hf:fs=m.map e)(w:O.j0 d=true)(hd:d≠s)
  (A:∀x,Aj l m=some x->k x=some r->WO S K os ((d,.xo n (x.map e))::(s,.undef)::O)):WO S K (⟨some d,.Aa6 n s y,none⟩::os) O:=by
 obtain ⟨x,o,h⟩:=bind_some h;exact qC p u he hf o rfl w hd (A x o h)
theorem n8{γ:Type}{k:List γ->Option β}{n s:Nat}{o:TV}{x:AF}{es:Fq}{e:γ->TV}{z:γ}{l:List γ}{ik:IntKind}(h:(UT l j z).bind k=some r)(w:O.get s=.xo n es)(A:x.val O=some (.int ik j))(he:es=l.map e)(B:o=e z)(C:O.j0 d=true)(hd:d≠s)(p:n=1)(D:o.cells=[o])
  (E:∀m,UT l j z=some m->k m=some r->WO S K os ((d,.xo n (m.map e))::(s,.undef)::O)):WO S K (⟨some d,.Aba n s o x,none⟩::os) O:=by
 obtain ⟨m,u,h⟩:=bind_some h;exact qE w A he B u rfl C hd p D (E m u h)
theorem rF{γ:Type}{k:List γ->Option β}{n s:Nat}{hi:AF}{es:Fq}{e:γ->TV}{l:List γ}{ik:IntKind}(h:(slc l 0 j).bind k=some r)(p:O.get s=.xo n es)(u:hi.val O=some (.int ik j))(he:es=l.map e)(w:O.j0 d=true)(hd:d≠s)
  (A:∀m,slc l 0 j=some m->k m=some r->WO S K os ((d,.xo n (m.map e))::(s,.undef)::O)):WO S K (⟨some d,.cut n s hi,none⟩::os) O:=by
 obtain ⟨m,o,h⟩:=bind_some h;exact tu p u he o rfl w hd (A m o h)
variable{zero:Fq}
theorem rR{γ:Type}{k:List γ->Option β}{n:Nat}{x:AF}{ik:IntKind}{e:γ->TV}{z:γ}(h:(JL j z).bind k=some r)(p:O.j0 d=true)(u:x.val O=some (.int ik j))(w:(match zero with|[t]=>t|ts=>.agg ts)=e z)
  (A:∀m,JL j z=some m->k m=some r->WO S K os ((d,.xo n (m.map e))::O)):WO S K (⟨some d,.mkx n zero x,none⟩::os) O:=by
 obtain ⟨m,o,h⟩:=bind_some h;exact uM p u w o rfl (A m o h)
variable{qi:Option Nat}
theorem rc{x i:AF}{q n:Nat}{es:Fq}{e:α->TV}{l:List α}{ik:IntKind}(h:(idx l j).bind k=some r)(p:x.w3 O=some ((q,qi),n,es))(hi:i.val O=some (.int ik j))(he:es=l.map e)(u:(x.ev O).x8=some q)
  (w:∀a,idx l j=some a->k a=some r->WO S K os ((d,.lp q qi (j.toNat*n))::O)):WO S K (⟨some d,.xia x i n,none⟩::os) O:=by
 obtain ⟨a,o,h⟩:=bind_some h;exact ui p hi he o u (w a o h)
section ints
variable{k:Int->Option β}{x y:AF}{ik:IntKind}{a b:Int}
theorem rU(h:(quo a b).bind k=some r)(p:x.val O=some (.int ik a))(u:y.val O=some (.int ik b))(w:∀q,quo a b=some q->k q=some r->WO S K os ((d,.tv (.int ik (ik.wrap q)))::O)):WO S K (⟨some d,.bin .i .quo x y,none⟩::os) O:=by
 obtain ⟨m,o,h⟩:=bind_some h;exact uX p u o (w m o h)
theorem rV(h:(kz a b).bind k=some r)(p:x.val O=some (.int ik a))(u:y.val O=some (.int ik b))(w:∀q,kz a b=some q->k q=some r->WO S K os ((d,.tv (.int ik q))::O)):WO S K (⟨some d,.bin .i .rem x y,none⟩::os) O:=by
 obtain ⟨m,o,h⟩:=bind_some h;exact uZ p u o (w m o h)
theorem rE{op:BinOp}{o:IntKind}(h:(K0 ik op a b).bind k=some r)(u:x.val O=some (.int ik a))(A:y.val O=some (.int o b))(B:ik=o\/op=.shl\/op=.shr)(C:∀q,K0 ik op a b=some q->k q=some r->WO S K os ((d,.tv (.int ik q))::O)):WO S K (⟨some d,.bin .w op x y,none⟩::os) O:=by
 obtain ⟨m,p,h⟩:=bind_some h;exact th u A B p (C m p h)
end ints
theorem oL{k:ByteArray->Option β}{x y:AF}{u v:ByteArray}(h:(TT u v).bind k=some r)(p:x.val O=some (.str u))(w:y.val O=some (.str v))(A:∀q,TT u v=some q->k q=some r->WO S K os ((d,.tv (.str q))::O)):WO S K (⟨some d,.bin .s .add x y,none⟩::os) O:=by
 obtain ⟨m,o,h⟩:=bind_some h;exact qT p w o (A m o h)
theorem rN{k:Unit->Option β}{x:AF}{n:Nat}{es:Fq}{e:α->TV}{l:List α}(h:(Yu l).bind k=some r)(o:x.val O=some (.list n es))(he:es=l.map e)(p:∀u,k u=some r->WO S K os ((d,.tv (.bool false))::O)):WO S K (⟨some d,.isn x,none⟩::os) O:=by
 obtain ⟨u,A,h⟩:=bind_some h;refine lC o he fun b w=>?_;obtain rfl:=eb A w;exact p u h
theorem kT{x:AF}{n:Nat}{e:α->TV}{a:α}(h:A4 O (x.ev O)=some (e a).cells)(o:Nat.beq (e a).cells.length n=true)(p:TV.agg (e a).cells=e a)(u:WO S K os ((d,.tv (e a))::O)):WO S K (⟨some d,.lda x n,none⟩::os) O:=by
 have o:=Nat.eq_of_beq_eq_true o;exact X3 h (by rw[o];exact Nat.ble_self_eq_true n) (by rw[List.take_of_length_le (by omega),p]) u
theorem rO{s n:Nat}{cs:List AP}{e:α->TV}{a:α}(h:O.get s=.bx cs)(p:cs.map (·.t)=(e a).cells)(o:Nat.beq (e a).cells.length n=true)(u:TV.agg (e a).cells=e a)(w:WO S K os ((d,.tv (e a))::O)):WO S K (⟨some d,.ldb s n,none⟩::os) O:=by
 have o:=Nat.eq_of_beq_eq_true o;exact lD h (by rw[p,o];exact Nat.ble_self_eq_true n) (by rw[p,List.take_of_length_le (by omega),u]) w
theorem oQ{n s:Nat}{v:AF}{cs:List AP}{t:TV}(o:O.get s=.bx cs)(hv:v.ev O=.tv t)(p:t.cells.length=n)(h:Nat.beq n cs.length=true)(u:WO S K os ((s,.bx (t.cells.map (⟨false,·⟩)))::O)):WO S K (⟨none,.stb n s v,none⟩::os) O:=by
 have h:=Nat.eq_of_beq_eq_true h;refine lH o hv p (by rw[Nat.zero_add,h];exact Nat.ble_self_eq_true _) ?_ u;rw[List.take_zero,Nat.zero_add,h,List.drop_length,List.append_nil,List.nil_append]
theorem oI{x:AF}{n:Nat}{e:α->TV}{a:α}(h:A4 O (x.ev O)=some (((e a).cells.map fun t=>(⟨false,t⟩:AP)).map (·.t)))(o:Nat.beq (e a).cells.length n=true)(p:TV.agg (e a).cells=e a)(u:WO S K os ((d,.tv (e a))::O)):WO S K (⟨some d,.lda x n,none⟩::os) O:=
 kT (by rw[h,List.map_map];congr 1;exact List.map_id _) o p u
def cI(n:Nat):Fq->Bool
 |[]=>true|t::ts=>Nat.beq t.cells.length n&&cI n ts
theorem YE{n:Nat}:∀{ts:Fq},cI n ts=true->∀t∈ts,t.cells.length=n
 |[],_,_,h=>by cases h
 |t::ts,h,u,o=>by
  simp only[cI,pc]at h;rcases List.mem_cons.1 o with rfl|o
  .exact Nat.eq_of_beq_eq_true h.1
  .exact YE h.2 u o
variable{parts:List AF}
theorem rQ{n:Nat}{ts:Fq}(h:vals O parts=some ts)(o:cI n ts=true)(p:WO S K os ((d,.ow (.list n ts))::O)):WO S K (⟨some d,.lst n parts,none⟩::os) O:=by
 have:=p.out;refine⟨?_⟩;simp only[wpOps,PR.wp,AE.wp,h,AY];exact⟨YE o,this⟩
variable{zero:Fq}
theorem n9{parts:List (Nat×Nat×AF)}{ts:List (Nat×Nat×TV)}{cs:Fq}{e:α->TV}{a:α}(h:(some a).bind k=some r)(_:En α e)(o:Fe O parts=some ts)(p:EH zero ts=some cs)(he:TV.agg cs=e a)(u:∀x,x=a->k x=some r->WO S K os ((d,.tv (e x))::O)):WO S K (⟨some d,.bld zero parts,none⟩::os) O:=by
 rw [Option.bind_some]at h;exact X2 o p he (u a rfl h)
theorem rP{x:AF}{n:Nat}{cs:Fq}{e:α->TV}{a:α}(h:(some a).bind k=some r)(_:En α e)(o:A4 O (x.ev O)=some cs)(p:Nat.ble n cs.length=true)(he:TV.agg (cs.take n)=e a)(u:∀x,x=a->k x=some r->WO S K os ((d,.tv (e x))::O)):WO S K (⟨some d,.lda x n,none⟩::os) O:=by
 rw [Option.bind_some]at h;exact X3 o p he (u a rfl h)
inductive Lm{α:Type}(e:α->TV):Fq->List α->Prop
 |nil:Lm e [] []
 |cons {t:TV} {ts:Fq} {a:α} {l:List α}:t=e a->Lm e ts l->Lm e (t::ts) (a::l)
theorem Lm.eq{e:α->TV}{ts:Fq}{l:List α}(h:Lm e ts l):ts=l.map e:=by
 induction h with
 |nil=>rfl|cons h _ o=>rw[h,o];rfl
theorem oJ{n:Nat}{ts:Fq}{e:α->TV}{l:List α}(h:vals O parts=some ts)(o:Lm e ts l)(p:∀a,(e a).cells.length=n)(u:WO S K os ((d,.ow (.list n (l.map e)))::O)):WO S K (⟨some d,.lst n parts,none⟩::os) O:=lF h o.eq p u
theorem oK{n:Nat}{ts:Fq}{e:α->TV}{l:List α}{f:List α->TV}(h:vals O parts=some ts)(p:Lm e ts l)(u:∀a,(e a).cells.length=n)(c:Fl e n f)(o:WO S K os ((d,.ow (f l))::O)):WO S K (⟨some d,.lst n parts,none⟩::os) O:=by
 rw [c.eq]at o;exact lF h p.eq u o
theorem nu{e:α->TV}{n:Ne}{x y:AF}{a:α}{cs:Fq}(o:x.val O=some (e a))(p:y.val O=some (.agg cs))[c:X7 e][i:Decidable (a=c.un cs)](u:TV.agg (e a).cells=e a)(w:(e (c.un cs)).cells=cs)(A:(e a).cells.map TV.kd=n)(B:WO S K os ((d,.tv (.bool (decide (a=c.un cs))))::O)):WO S K (⟨some d,.bin (.a n) .eql x y,none⟩::os) O:=by
 obtain ⟨C,h⟩:=c.dec a (c.un cs);have:i=C:=Subsingleton.elim _ _;subst this;rw[<-u]at o;rw[w]at h;exact fu o p A h B
theorem nw{e:α->TV}{n:Ne}{x y:AF}{a:α}{cs:Fq}(o:x.val O=some (e a))(p:y.val O=some (.agg cs))[c:X7 e][i:Decidable (a=c.un cs)](u:TV.agg (e a).cells=e a)(w:(e (c.un cs)).cells=cs)(A:(e a).cells.map TV.kd=n)(B:WO S K os ((d,.tv (.bool (!decide (a=c.un cs))))::O)):WO S K (⟨some d,.bin (.a n) .neq x y,none⟩::os) O:=by
 obtain ⟨C,h⟩:=c.dec a (c.un cs);have:i=C:=Subsingleton.elim _ _;subst this;rw[<-u]at o;rw[w]at h;exact fv o p A h B
theorem nt{e:α->TV}{n:Ne}{x y:AF}{a b:α}{i:Decidable (a=b)}(o:x.val O=some (e a))(p:y.val O=some (e b))(c:X7 e)(u:TV.agg (e a).cells=e a)(w:TV.agg (e b).cells=e b)(A:(e a).cells.map TV.kd=n)(B:WO S K os ((d,.tv (.bool (decide (a=b))))::O)):WO S K (⟨some d,.bin (.a n) .eql x y,none⟩::os) O:=by
 obtain ⟨C,h⟩:=c.dec a b;have:i=C:=Subsingleton.elim _ _;subst this;rw[<-u]at o;rw[<-w]at p;exact fu o p A h B
theorem nv{e:α->TV}{n:Ne}{x y:AF}{a b:α}{i:Decidable (a=b)}(o:x.val O=some (e a))(p:y.val O=some (e b))(c:X7 e)(u:TV.agg (e a).cells=e a)(w:TV.agg (e b).cells=e b)(A:(e a).cells.map TV.kd=n)(B:WO S K os ((d,.tv (.bool (!decide (a=b))))::O)):WO S K (⟨some d,.bin (.a n) .neq x y,none⟩::os) O:=by
 obtain ⟨C,h⟩:=c.dec a b;have:i=C:=Subsingleton.elim _ _;subst this;rw[<-u]at o;rw[<-w]at p;exact fv o p A h B
section calls
variable{x:Option α}{f:FuncId}{ts:Fq}{R:α->At}{args:List AF}
theorem rH{s:Nat}{cs:List AP}{row:Fq}(o:O.get s=.bx cs)(f:Fz cs row)(k:WO S K os ((s,.tv (.pt row))::O)):WO S K (⟨none,.frz s,none⟩::os) O:=t6 o f.h k
theorem oB{t:α->TV}(h:x.bind k=some r)(c:Ct P x f ts R)(p:vals O args=some ts)(u:∀a,R a=.sh (t a))(w:∀a,x=some a->k a=some r->WO (AQ P) K os ((d,.tv (t a))::O)):WO (AQ P) K (⟨some d,.call f args,none⟩::os) O:=by
 obtain ⟨a,o,h⟩:=bind_some h;have:=c.snd a o;rw[u]at this;exact fy p this (w a o h)
theorem lg{t:α->TV}(h:x.bind k=some r)(c:Ct P x f ts R)(p:vals O args=some ts)(u:∀a,R a=.own (t a))(w:∀a,x=some a->k a=some r->WO (AQ P) K os ((d,.ow (t a))::O)):WO (AQ P) K (⟨some d,.call f args,none⟩::os) O:=by
 obtain ⟨a,o,h⟩:=bind_some h;have:=c.snd a o;rw[u]at this;exact nM p this (w a o h)
theorem li{t:α->TV}(_:HS d)(h:x.bind k=some r)(c:Ct P x f ts R)(p:vals O args=some ts)(u:∀a,R a=.own (t a))(w:∀a,x=some a->k a=some r->WO (AQ P) K os ((d,.tv (t a))::O)):WO (AQ P) K (⟨some d,.call f args,none⟩::os) O:=by
 obtain ⟨a,o,h⟩:=bind_some h;have:=c.snd a o;rw[u]at this;exact fy p (pH this) (w a o h)
theorem ll{n:Nat}{t:α->Fq}(h:x.bind k=some r)(c:Ct P x f ts R)(p:vals O args=some ts)(u:∀a,R a=.AaR n (t a))(w:∀a,x=some a->k a=some r->WO (AQ P) K os ((d,.ow (.list n (t a)))::O)):WO (AQ P) K (⟨some d,.call f args,none⟩::os) O:=by
 obtain ⟨a,o,h⟩:=bind_some h;have:=c.snd a o;rw[u]at this;exact nP p this (w a o h)
theorem lh{t:α->Fq}(h:x.bind k=some r)(c:Ct P x f ts R)(p:vals O args=some ts)(u:∀a,R a=.tp (t a))(w:∀a,x=some a->k a=some r->WO (AQ P) K os ((d,.tp (t a))::O)):WO (AQ P) K (⟨some d,.call f args,none⟩::os) O:=by
 obtain ⟨a,o,h⟩:=bind_some h;have:=c.snd a o;rw[u]at this;exact nN p this (w a o h)
theorem lb{t:α->List AP}(h:x.bind k=some r)(c:Ct P x f ts R)(p:vals O args=some ts)(u:∀a,R a=.oag (t a))(w:∀a,x=some a->k a=some r->WO (AQ P) K os ((d,.tv (.agg ((t a).map fun c=>c.rel.t)))::O)):WO (AQ P) K (⟨some d,.call f args,none⟩::os) O:=by
 obtain ⟨a,o,h⟩:=bind_some h;have:=c.snd a o;rw[u]at this;exact nJ p this rfl (w a o h)
theorem lZ{t:α->List AP}(h:x.bind k=some r)(c:Ct P x f ts R)(p:vals O args=some ts)(u:∀a,R a=.oag (t a))(w:∀a,x=some a->k a=some r->WO (AQ P) K os ((d,.oag (t a))::O)):WO (AQ P) K (⟨some d,.AaS f args,none⟩::os) O:=by
 obtain ⟨a,o,h⟩:=bind_some h;have:=c.snd a o;rw[u]at this;exact nI p this (w a o h)
theorem lm{n:Nat}{t:α->Fq}(h:x.bind k=some r)(c:Ct P x f ts R)(p:O.j0 d=true)(u:vals O args=some ts)(w:∀a,R a=.AaR n (t a))(A:∀a,x=some a->k a=some r->WO (AQ P) K os ((d,.xo n (t a))::O)):WO (AQ P) K (⟨some d,.AaB f args,none⟩::os) O:=by
 obtain ⟨a,o,h⟩:=bind_some h;have:=c.snd a o;rw[w]at this;exact nQ p u this (A a o h)
theorem g8{γ:Type}{k:List γ->Option β}{x:Option (List γ)}{R:List γ->At}{n:Nat}{e:γ->TV}(h:x.bind k=some r)(c:Ct P x f ts R)(p:O.j0 d=true)(u:vals O args=some ts)(w:∀a,R a=.own (.list n (a.map e)))(hf:∀a,(e a).flat=true)(A:∀a,x=some a->k a=some r->WO (AQ P) K os ((d,.xo n (a.map e))::O)):WO (AQ P) K (⟨some d,.AaB f args,none⟩::os) O:=by
 obtain ⟨a,o,h⟩:=bind_some h;have:=c.snd a o;rw[w]at this;exact jT p u this rfl hf (A a o h)
theorem lc{t:α->TV}(h:x.bind k=some r)(c:Ct P x f ts R)(p:Aai O args=some ts)(u:∀a,R a=.sh (t a))(w:∀a,(t a).flat=true)(A:∀a,x=some a->k a=some r->WO (AQ P) K os ((d,.tv (t a))::O)):WO (AQ P) K (⟨some d,.Aay f args,none⟩::os) O:=by
 obtain ⟨a,o,h⟩:=bind_some h;have:=c.snd a o;rw[u]at this;exact nK p this (w a) (A a o h)
theorem gx{t:α->Fq}(h:x.bind k=some r)(c:Ct P x f ts R)(p:Aai O args=some ts)(u:∀a,R a=.tp (t a))(w:∀a,TV.zt (t a)=true)(A:∀a,x=some a->k a=some r->WO (AQ P) K os ((d,.tp (t a))::O)):WO (AQ P) K (⟨some d,.Aay f args,none⟩::os) O:=by
 obtain ⟨a,o,h⟩:=bind_some h;have:=c.snd a o;rw[u]at this;exact jO p this (w a) (A a o h)
theorem gw{γ:Type}{k:List γ->Option β}{x:Option (List γ)}{R:List γ->At}{n:Nat}{e:γ->TV}(h:x.bind k=some r)(c:Ct P x f ts R)(p:Aai O args=some ts)(u:∀a,R a=.own (.list n (a.map e)))(hf:∀a,(e a).flat=true)(w:∀a,x=some a->k a=some r->WO (AQ P) K os ((d,.ow (.list n (a.map e)))::O)):WO (AQ P) K (⟨some d,.Aay f args,none⟩::os) O:=by
 obtain ⟨a,o,h⟩:=bind_some h;have:=c.snd a o;rw[u]at this;exact jN p this rfl rfl hf (w a o h)
theorem lY{t:α->Fq}(h:x.bind k=some r)(c:Ct P x f ts R)(p:vals O args=some ts)(u:∀a,R a=.ext (t a))(w:∀a,x=some a->k a=some r->WO (AQ P) K os ((d,.tp (t a))::O)):WO (AQ P) K (⟨some d,.AaT f args,none⟩::os) O:=by
 obtain ⟨a,o,h⟩:=bind_some h;have:=c.snd a o;rw[u]at this;exact nH p this (w a o h)
theorem aN{i s:Nat}{cs:List AP}{cs':α->List AP}{us:α->Fq}{e:α->EV}(h:x.bind k=some r)(c:Ct P x f ts R)(p:(args[i]?).bind (·.place O)=some (s,0))(u:O.get s=.bx cs)(w:O.noX s none=true)(hd:d≠s)(A:Gt O i args=some ts)(B:∀a,R a=.bo cs (cs' a) i (us a))(he:∀a,EV.ofs (us a)=e a)(C:∀a,x=some a->k a=some r->WO (AQ P) K os ((d,e a)::(s,.bx (cs' a))::O)):WO (AQ P) K (⟨some d,.Aaw f args i,none⟩::os) O:=by
 obtain ⟨a,o,h⟩:=bind_some h;have:=c.snd a o;rw[B]at this;exact nF p u w hd A this (he a) (C a o h)
variable{qi:Option Nat}
theorem lf{k:Fp->Option β}{f:FuncId}{x:AF}{q:Nat}{es:Fq}{l:Fp}{y:Option Fp}{env':Fp->AB}(h:y.bind k=some r)(c:Ct P y f [.list 1 (l.map (TV.int .i64))] At.turn)(p:x.w3 O=some ((q,qi),1,es))(he:es=l.map (TV.int .i64))(hv:∀a,O.Aab q qi 1 (a.map (TV.int .i64))=env' a)(u:∀a,y=some a->k a=some r->WO (AQ P) K os ((d,.tp [])::env' a)):WO (AQ P) K (⟨some d,.AaL f x,none⟩::os) O:=by
 obtain ⟨a,o,h⟩:=bind_some h;exact nL p he rfl (c.snd a o) rfl (hv a) (u a o h)
theorem lW{k:Fp->Option β}{f:FuncId}{x:AF}{q:Nat}{es:Fq}{l:Fp}{y:Option Fp}(h:y.bind k=some r)(c:Ct P y f [.list 1 (l.map (TV.int .i64))] At.cut)(u:x.w3 O=some ((q,none),1,es))(he:es=l.map (TV.int .i64))(o:q≠d)(w:O.j0 d=true)(A:∀a,y=some a->k a=some r->WO (AQ P) K os ((d,.xo 1 (a.map (TV.int .i64)))::(q,.undef)::O)):WO (AQ P) K (⟨some d,.AaK f x,none⟩::os) O:=by
 obtain ⟨a,p,h⟩:=bind_some h;exact nG u he rfl o w (c.snd a p) rfl (A a p h)
section values
variable{v:AF}{caps us:Fq}
theorem lj{t:α->TV}(h:x.bind k=some r)(c:Ct P x f ts R)(hv:v.val O=some (.clo f caps))(p:vals O args=some us)(u:us++caps=ts)(w:∀a,R a=.sh (t a))(A:∀a,x=some a->k a=some r->WO (AQ P) K os ((d,.tv (t a))::O)):WO (AQ P) K (⟨some d,.AaC v args,none⟩::os) O:=by
 obtain ⟨a,o,h⟩:=bind_some h;have:=c.snd a o;rw[w,<-u]at this;exact nO hv p this (A a o h)
theorem g6{t:α->TV}(h:x.bind k=some r)(c:Ct P x f ts R)(hv:v.val O=some (.clo f caps))(p:vals O args=some us)(u:us++caps=ts)(w:∀a,R a=.own (t a))(A:∀a,x=some a->k a=some r->WO (AQ P) K os ((d,.ow (t a))::O)):WO (AQ P) K (⟨some d,.AaC v args,none⟩::os) O:=by
 obtain ⟨a,o,h⟩:=bind_some h;have:=c.snd a o;rw[w,<-u]at this;exact jR hv p this (A a o h)
theorem g7{t:α->Fq}(h:x.bind k=some r)(c:Ct P x f ts R)(hv:v.val O=some (.clo f caps))(p:vals O args=some us)(u:us++caps=ts)(w:∀a,R a=.tp (t a))(A:∀a,x=some a->k a=some r->WO (AQ P) K os ((d,.tp (t a))::O)):WO (AQ P) K (⟨some d,.AaC v args,none⟩::os) O:=by
 obtain ⟨a,o,h⟩:=bind_some h;have:=c.snd a o;rw[w,<-u]at this;exact jS hv p this (A a o h)
end values
end calls
inductive GS(g:Nat)(b:Bool):Ne->List PR->Ne->Nat->Prop
 |done {acc:Ne} {os:List PR}:GS g b acc os [] 0
 |step {acc js:Ne} {d n:Nat} {op:AE} {os:List PR}:GS g b (d::acc) os js n->GS g b acc (⟨some d,op,some (g,b)⟩::os) (d::js) (n+1)
 |AbS {acc js:Ne} {d n g':Nat} {b':Bool} {op:AE} {os:List PR}:acc.contains g'=true->GS g b (d::acc) os js n->GS g b acc (⟨some d,op,some (g',b')⟩::os) (d::js) (n+1)
def np:Ne->AB->(AB->Prop)->Prop
 |[],z,K=>K z|k::ks,z,K=>∃j,np ks ((k,j)::z) K
structure Gj(js:Ne)(d:Nat)(v:TV)(z e:AB):Prop where
 of::out:np js z fun y=>e=(d,.tv v)::y
theorem eW{d:Nat}{v:TV}{z e:AB}(h:e=(d,.tv v)::z):Gj [] d v z e:=⟨h⟩
variable{ks:Ne}
theorem l5{k d:Nat}{v:TV}{j:EV}{z e:AB}(h:Gj ks d v ((k,j)::z) e):Gj (k::ks) d v z e:=⟨j,h.out⟩
theorem oG{js:Ne}{v:TV}{z:AB}(h:Gj js d v z O):WO S (Gj js d v z) [] O:=⟨h⟩
structure WT(js:Ne)(z:AB)(Q:AB->Prop):Prop where
 of::out:∀(d:Nat)(v:TV)(e:AB),Gj js d v z e->∃y,e=(d,.tv v)::y/\Q y
theorem l6{z:AB}{Q:AB->Prop}(h:Q z):WT [] z Q:=⟨fun _ _ _ he=>⟨z,he.out,h⟩⟩
theorem iR{k:Nat}{z:AB}{Q:AB->Prop}(h:∀j,WT ks ((k,j)::z) Q):WT (k::ks) z Q:=⟨fun d v e he=>by
 obtain ⟨j,o⟩:=he.out;exact(h j).out d v e ⟨o⟩⟩
theorem sZ{dd:Option Nat}{op:AE}{g:Nat}{b q:Bool}(h:O.get g=.tv (.bool q))(o:du g b q)(p:WO S K (⟨dd,op,none⟩::os) O):WO S K (⟨dd,op,some (g,b)⟩::os) O:=va h o.out p
theorem ot{op:AE}{g:Nat}{b q:Bool}(h:O.get g=.tv (.bool q))(o:X9 g b q)(p:WO S K os ((d,.sk)::O)):WO S K (⟨some d,op,some (g,b)⟩::os) O:=sY h o.out p
theorem cY{d n:Nat}{js:Ne}{v:TV}(h:WO S (Gj js d v O) (os.take n) O)(o:WT js O fun e=>WO S K (os.drop n) ((d,.tv v)::e)):WO S K os O:=
 sX n (Gj js d v) h fun e he=>by
  obtain ⟨y,rfl,p⟩:=o.out d v e he;exact p
section groups
variable{g n:Nat}{js:Ne}{c:Bool}{dd gd:Option Nat}{op:AE}{x y z:AF}{gg:Option (Nat×Bool)}
variable{T:K1}{os':List PR}
theorem rL{k:Bool->Option β}(h:(if c=true then T else some false).bind k=some r)(_:GS g true [] os js n)(A:O.get g=.tv (.bool c))(_:os[n]?=some ⟨some d,.pick x y z,gg⟩)
  (p:∀v,du g true c->c=true->T=some v->WO S (Gj js d (.bool v) O) (os.take (n+1)) O)(u:∀v,X9 g true c->c=false->some false=some v->WO S (Gj js d (.bool v) O) (os.take (n+1)) O)
  (w:∀v,k v=some r->WT js O fun e=>WO S K (os.drop (n+1)) ((d,.tv (.bool v))::e))(ho:os=⟨dd,op,some (g,true)⟩::os'):WO S K (⟨dd,op,some (g,true)⟩::os') O:=by
 obtain ⟨v,hv,h⟩:=bind_some h;rw[<-ho];refine cY (n:=n+1) (v:=.bool v) ?_ (w v h);rcases Bool.eq_false_or_eq_true c with o|o
 .exact p v ⟨o⟩ o (VR o hv)
 .exact u v ⟨by rw[o];rfl⟩ o (VQ o hv)
theorem rK{k:Bool->Option β}(h:(if c=true then some true else T).bind k=some r)(_:GS g false [] os js n)(A:O.get g=.tv (.bool c))(_:os[n]?=some ⟨some d,.pick x y z,gg⟩)
  (p:∀v,du g false c->c=false->T=some v->WO S (Gj js d (.bool v) O) (os.take (n+1)) O)(u:∀v,X9 g false c->c=true->some true=some v->WO S (Gj js d (.bool v) O) (os.take (n+1)) O)
  (w:∀v,k v=some r->WT js O fun e=>WO S K (os.drop (n+1)) ((d,.tv (.bool v))::e))(ho:os=⟨dd,op,some (g,false)⟩::os'):WO S K (⟨dd,op,some (g,false)⟩::os') O:=by
 obtain ⟨v,hv,h⟩:=bind_some h;rw[<-ho];refine cY (n:=n+1) (v:=.bool v) ?_ (w v h);rcases Bool.eq_false_or_eq_true c with o|o
 .exact u v ⟨by rw[o];rfl⟩ o (VR o hv)
 .exact p v ⟨o⟩ o (VQ o hv)
theorem rJ{e:Bool}(ho:os=⟨dd,op,some (g,true)⟩::os')(_:GS g true [] os js n)(u:O.get g=.tv (.bool c))(_:os[n]?=some ⟨some d,.pick x y z,gg⟩)
  (h:du g true c->c=true->WO S (Gj js d (.bool e) O) (os.take (n+1)) O)(o:X9 g true c->c=false->WO S (Gj js d (.bool false) O) (os.take (n+1)) O)
  (p:WT js O fun z=>WO S K (os.drop (n+1)) ((d,.tv (.bool (c&&e)))::z)):WO S K (⟨dd,op,some (g,true)⟩::os') O:=by
 rw [<-ho];refine cY (n:=n+1) (v:=.bool (c&&e)) ?_ p;cases c
 .exact o ⟨rfl⟩ rfl
 .exact h ⟨rfl⟩ rfl
theorem rI{e:Bool}(ho:os=⟨dd,op,some (g,false)⟩::os')(_:GS g false [] os js n)(u:O.get g=.tv (.bool c))(_:os[n]?=some ⟨some d,.pick x y z,gg⟩)
  (h:du g false c->c=false->WO S (Gj js d (.bool e) O) (os.take (n+1)) O)(o:X9 g false c->c=true->WO S (Gj js d (.bool true) O) (os.take (n+1)) O)
  (p:WT js O fun z=>WO S K (os.drop (n+1)) ((d,.tv (.bool (c||e)))::z)):WO S K (⟨dd,op,some (g,false)⟩::os') O:=by
 rw [<-ho];refine cY (n:=n+1) (v:=.bool (c||e)) ?_ p;cases c
 .exact h ⟨rfl⟩ rfl
 .exact o ⟨rfl⟩ rfl
end groups
variable{qi:Option Nat}{j:Int}
theorem rd{x:AF}{q n i:Nat}{es row:Fq}{e:α->TV}{l:List α}{a:α}{t:TV}(h:x.ev O=.lp q qi (j.toNat*n+i))(o:O.t5 q qi=some (n,es))(he:es=l.map e)(p:∀a,(e a).cells.length=n)(u:idx l j=some a)(hi:Nat.blt i n=true)(w:(e a).cells=row)(A:row[i]?=some t)
  (B:WO S K os ((d,.tv t)::O)):WO S K (⟨some d,.xld x,none⟩::os) O:=lK h o he p u rfl hi w A B
theorem oS{x:AF}{q n:Nat}{es row:Fq}{e:α->TV}{l:List α}{a:α}{t:TV}(h:x.ev O=.lp q qi (j.toNat*n))(o:O.t5 q qi=some (n,es))(he:es=l.map e)(p:∀a,(e a).cells.length=n)(u:idx l j=some a)(hi:Nat.blt 0 n=true)(w:(e a).cells=row)(A:row[0]?=some t)
  (B:WO S K os ((d,.tv t)::O)):WO S K (⟨some d,.xld x,none⟩::os) O:=lK (i:=0) h o he p u rfl hi w A B
theorem oU{γ:Type}{s:Nat}{v:AF}{q n i:Nat}{env':AB}{es:Fq}{e:α->TV}{g:γ->TV}{l:List α}{a:α}{b:γ}{f:α->γ->α}(_:HX s f)(h:(AF.s s).ev O=.lp q qi (j.toNat*n+i))(p:O.t5 q qi=some (n,es))(hv:v.ev O=.tv (g b))(he:es=l.map e)(u:∀a,(e a).cells.length=n)(w:idx l j=some a)(hi:Nat.blt i n=true)(A:(g b).cells=[g b])
  (B:(e (f a b)).cells=(e a).cells.set i (g b))(o:O.Aab q qi n ((BP l j (f a b)).map e)=env')(C:WO S K os env'):WO S K (⟨none,.xst (.s s) v 1,none⟩::os) O:=lL h p hv he u w rfl hi A B rfl o C
theorem oT{x v:AF}{q n:Nat}{env':AB}{es:Fq}{e:α->TV}{l:List α}{a b:α}(h:x.ev O=.lp q qi (j.toNat*n))(p:O.t5 q qi=some (n,es))(hv:v.ev O=.tv (e b))(he:es=l.map e)(u:∀a,(e a).cells.length=n)(w:idx l j=some a)(hi:Nat.blt 0 n=true)(A:(e b).cells=[e b])
  (B:(e b).cells=(e a).cells.set 0 (e b))(o:O.Aab q qi n ((BP l j b).map e)=env')(C:WO S K os env'):WO S K (⟨none,.xst x v 1,none⟩::os) O:=lL (i:=0) h p hv he u w rfl hi A B rfl o C
end
end Go.Sf
namespace Go.Sf
section
variable{S:FuncId->Fq->At->Prop}{K:AB->Prop}{os:List PR}{O:AB}{d:Nat}
theorem uC{x:AF}{s o:Nat}{es:Fq}(h:x.ev O=.bp s o)(p:O.nat s o=some es)(k:WO S K os ((d,.nh s o .hd)::O)):WO S K (⟨some d,.lan x,none⟩::os) O:=by
 replace k:=k.out;refine⟨?_⟩;simp only[wpOps,PR.wp,AE.wp,h,p,AY];exact k
variable{j:Int}
theorem uU{α:Type}{x:AF}{s o:Nat}{es:Fq}{e:α->TV}{l:List α}{a:α}(h:x.ev O=.nh s o (.el j.toNat))(u:O.nat s o=some es)(he:es=l.map e)(w:idx l j=some a)(k:WO S K os ((d,.nh s o (.rw j.toNat))::O)):WO S K (⟨some d,.nld x,none⟩::os) O:=by
 replace k:=k.out;refine⟨?_⟩;subst he;obtain⟨B,C,A⟩:=F2 w;have p:j.toNat<l.length:=(List.getElem?_eq_some_iff.1 A).1;simp only[wpOps,PR.wp,AE.wp,h,u,AY];exact⟨by simpa using p,k⟩
variable{fs:Fq}
theorem qO{q n:Nat}(h:O.get q=.xo n fs)(o:O.j0 d=true)(hd:d≠q)(k:WO S K os ((d,.x1 n fs)::(q,.undef)::O)):WO S K (⟨some d,.Abi q,none⟩::os) O:=by
 replace k:=k.out;refine⟨?_⟩;simp only[wpOps,PR.wp,AE.wp,h];exact⟨⟨o,hd⟩,k⟩
theorem qM{x:AF}{q s h:Nat}{cs cs':List AP}{es:Fq}(p:x.place O=some (s,h))(u:O.get q=.xn es)(w:O.get s=.bx cs)(A:O.noX s (some h)=true)(B:Nat.blt h cs.length=true)(o:cs.set h ⟨true,.xn es⟩=cs')(k:WO S K os ((s,.bx cs')::(q,.undef)::O)):WO S K (⟨none,.cpt x q,none⟩::os) O:=by
 replace k:=k.out;refine⟨?_⟩;subst o;simp only[wpOps,PR.wp,AE.wp,p,u,w];exact⟨A,Nat.le_of_ble_eq_true B,k⟩
theorem qJ{q:Nat}{cs:List AP}(h:O.get q=.oag cs)(o:O.j0 d=true)(hd:d≠q)(k:WO S K os ((d,.bx cs)::(q,.undef)::O)):WO S K (⟨some d,.Abu q,none⟩::os) O:=by
 replace k:=k.out;refine⟨?_⟩;simp only[wpOps,PR.wp,AE.wp,h];exact⟨⟨o,hd⟩,k⟩
theorem uD{s n:Nat}{cs cs':List AP}(h:O.get s=.bx cs)(o:Nat.beq cs.length n=true)(hd:d≠s)(p:(cs.map fun _=>(⟨false,.undef⟩:AP))=cs')(k:WO S K os ((d,.oag cs)::(s,.bx cs')::O)):WO S K (⟨some d,.ldg s n,none⟩::os) O:=by
 replace k:=k.out;refine⟨?_⟩;subst p;simp only[wpOps,PR.wp,AE.wp,h];exact⟨Nat.eq_of_beq_eq_true o,hd,k⟩
theorem ub{x v:AF}{s h n:Nat}{p:List (Option AP)}{t:TV}{cs ds cs':List AP}(u:x.place O=some (s,h))(hv:v.val O=some t)(w:O.get s=.bx cs)(A:DG p t.cells=some ds)(B:Nat.beq t.cells.length n=true)(o:Nat.ble (h+n) cs.length=true)(C:O.noX s none=true)(D:cs.take h++ds++cs.drop (h+n)=cs')
  (k:WO S K os ((s,.bx cs')::O)):WO S K (⟨none,.stq n p x v,none⟩::os) O:=by
 replace k:=k.out;refine⟨?_⟩;subst D;simp only[wpOps,PR.wp,AE.wp,u,hv,w,A,AY];exact⟨Nat.eq_of_beq_eq_true B,Nat.le_of_ble_eq_true o,C,k⟩
variable{j2:Int}
theorem uW{α:Type}{x v:AF}{s o:Nat}{es:Fq}{env':AB}{e:List α->TV}{e2:α->TV}{l:List (List α)}{m:List α}{A b:α}{t:TV}(h:x.ev O=.nh s o (.rp j.toNat j2.toNat))(B:O.nat s o=some es)(hv:v.ev O=.tv t)(he:es=l.map e)(w:∀m,e m=.list 1 (m.map e2))(C:idx l j=some m)(D:idx m j2=some A)(E:t=e2 b)(F:t.cells=[t])(G:t.flat=true)
  (p:O.AbJ s o ((BP l j (BP m j2 b)).map e)=env')(k:WO S K os env'):WO S K (⟨none,.nst x v,none⟩::os) O:=by
 replace k:=k.out;refine⟨?_⟩;subst he p E;obtain⟨J,L,H⟩:=F2 C;obtain⟨m0,m1,I⟩:=F2 D;have u:j2.toNat<m.length:=(List.getElem?_eq_some_iff.1 I).1;simp only[wpOps,PR.wp,AE.wp,h,B,hv,AY];refine⟨m.map e2,by rw[List.getElem?_map,H];simp[w],by simpa using u,F,G,?_⟩;have:(l.map e).set j.toNat (.list 1 ((m.map e2).set j2.toNat (e2 b)))=(BP l j (BP m j2 b)).map e:=by
  simp only[BP,List.map_set,w]
 rw [this];exact k
end
section
variable{P:Program}{K:AB->Prop}{os:List PR}{O:AB}{d:Nat}{α β γ ρ:Type}{f:FuncId}{args:List AF}{ts:Fq}{R:α->At}{x:Option α}{k:α->Option ρ}{r:ρ}
variable{j:Int}
theorem rS{x i:AF}{s o:Nat}{es:Fq}{e:α->TV}{l:List α}{ik:IntKind}{S:FuncId->Fq->At->Prop}(h:(idx l j).bind k=some r)(u:x.ev O=.nh s o .hd)(w:O.nat s o=some es)(hi:i.val O=some (.int ik j))(he:es=l.map e)
  (A:∀a,idx l j=some a->k a=some r->WO S K os ((d,.nh s o (.el j.toNat))::O)):WO S K (⟨some d,.nia x i,none⟩::os) O:=by
 obtain ⟨a,p,h⟩:=bind_some h;have B:=(A a p h).out;refine⟨?_⟩;subst he;obtain⟨D,F,E⟩:=F2 p;have C:j.toNat<l.length:=(List.getElem?_eq_some_iff.1 E).1;simp only[wpOps,PR.wp,AE.wp,u,w,hi,AY];exact⟨D,by simp only[ci];omega,B⟩
variable{e2:α->TV}{j2:Int}
theorem rT{x i:AF}{s o:Nat}{es:Fq}{e:List α->TV}{l:List (List α)}{m:List α}{ik:IntKind}{S:FuncId->Fq->At->Prop}(h:(idx m j2).bind k=some r)(u:x.ev O=.nh s o (.rw j.toNat))(w:O.nat s o=some es)(hi:i.val O=some (.int ik j2))(he:es=l.map e)(A:∀m,e m=.list 1 (m.map e2))(B:idx l j=some m)
  (C:∀a,idx m j2=some a->k a=some r->WO S K os ((d,.nh s o (.rp j.toNat j2.toNat))::O)):WO S K (⟨some d,.nia x i,none⟩::os) O:=by
 obtain ⟨b,p,h⟩:=bind_some h;have D:=(C b p h).out;refine⟨?_⟩;subst he;obtain⟨H,I,F⟩:=F2 B;obtain⟨m0,m1,G⟩:=F2 p;have E:j2.toNat<m.length:=(List.getElem?_eq_some_iff.1 G).1;simp only[wpOps,PR.wp,AE.wp,u,w,hi,AY];exact⟨m0,m.map e2,by rw[List.getElem?_map,F];simp[A],by simp only[ci];omega,D⟩
theorem nx{mm q s o:Nat}{es fs:Fq}{cs cs':List AP}{n:Nat}{e:β->TV}{l:List β}{m:β}{k:List β->Option ρ}{S:FuncId->Fq->At->Prop}(h:(Aj l [m]).bind k=some r)(w:O.get mm=.nh s o .hd)(A:O.get q=.x1 n fs)(B:O.get s=.bx cs)(C:O.nat s o=some es)(he:es=l.map e)(hf:TV.list n fs=e m)(u:O.j0 d=true)(hd:d≠mm/\d≠q/\mm≠q)(D:cs.set o ⟨false,.undef⟩=cs')
  (E:∀a,Aj l [m]=some a->k a=some r->WO S K os ((d,.xn (a.map e))::(s,.bx cs')::(mm,.undef)::(q,.undef)::O)):WO S K (⟨some d,.AaQ mm q,none⟩::os) O:=by
 obtain ⟨a,p,h⟩:=bind_some h;have G:=(E a p h).out;refine⟨?_⟩;subst he D;unfold Aj at p;split at p
 .rename_i F;cases p;simp only[wpOps,PR.wp,AE.wp,w,A,B,C,AY];refine⟨by simpa using F,⟨u,hd⟩,?_⟩;rw[hf];simpa[AB.put]using G
 .cases p
theorem gv{u:α->List β}{v:α->List γ}{w A:Nat}{p:β->TV}{e2:γ->TV}(h:x.bind k=some r)(c:Ct P x f ts R)(E:vals O args=some ts)(F:∀a,R a=.oag [⟨true,.list w ((u a).map p)⟩,⟨true,.list A ((v a).map e2)⟩])(G:∀a,(p a).flat=true)(H:∀a,(e2 a).flat=true)
  (I:∀a,x=some a->k a=some r->WO (AQ P) K os ((d,.oag [⟨true,.xl w ((u a).map p)⟩,⟨true,.xl A ((v a).map e2)⟩])::O)):WO (AQ P) K (⟨some d,.AaG f args,none⟩::os) O:=by
 obtain ⟨a,D,h⟩:=bind_some h;have C:=c.snd a D;rw[F]at C;have J:=(I a D h).out;have o:∀{τ:Type}(e:τ->TV)(l:List τ),(∀a,(e a).flat=true)->TV.zt (l.map e)=true:=by
  intro τ e l he
  induction l with
  |nil=>rfl|cons a l L=>simp[TV.zt,he,L]
 refine ⟨?_⟩;simp only[wpOps,PR.wp,AE.wp,E,AY];refine⟨_,C,fun c B=>?_,fun _=>J⟩;simp only[List.mem_cons,List.not_mem_nil,or_false]at B;rcases B with rfl|rfl
 .exact⟨_,_,rfl,o _ _ G⟩
 .exact⟨_,_,rfl,o _ _ H⟩
inductive NL:List AP->List AP->Prop
 |nil {xs:List AP}:xs=[]->NL xs []
 |cons {xs ys zs:List AP} {o:Bool} {t:TV}:xs=⟨o,t⟩::ys->NL ys zs->NL xs (⟨o,t⟩::zs)
theorem NL.eq{xs o:List AP}(h:NL xs o):xs=o:=by
 induction h with
 |nil h=>exact h|cons h _ p=>rw[h,p]
theorem rY{S:FuncId->Fq->At->Prop}{K:AB->Prop}{os:List PR}{O:AB}{n s h:Nat}{x v:AF}{cs cs':List AP}{t:TV}(o:x.place O=some (s,h))(p:O.get s=.bx cs)(hv:v.ev O=.tv t)(u:t.cells.length=n)(w:Nat.ble (h+n) cs.length=true)(A:NL (cs.take h++t.cells.map (⟨false,·⟩)++cs.drop (h+n)) cs')
  (k:WO S K os ((s,.bx cs')::O)):WO S K (⟨none,.st n x v,none⟩::os) O:=qZ o p hv u w A.eq k
theorem oR{S:FuncId->Fq->At->Prop}{K:AB->Prop}{os:List PR}{O:AB}{s h q:Nat}{x:AF}{cs cs':List AP}{t:TV}(o:x.place O=some (s,h))(p:O.get s=.bx cs)(hv:O.get q=.ow t)(u:q≠s)(w:Nat.blt h cs.length=true)(A:NL (cs.set h ⟨true,t⟩) cs')
  (k:WO S K os ((s,.bx cs')::(q,.tv t)::O)):WO S K (⟨none,.st 1 x (.s q),none⟩::os) O:=lJ o p hv u w A.eq k
theorem Wl:∀(ts:List (Nat×Nat×TV))(done rest:Fq),Up done.length ts=true->(HQ ts).length<=rest.length->EH (done++rest) ts=some (done++(HQ ts++rest.drop (HQ ts).length))
 |[],done,rest,_,h=>by simp[EH,HQ]|(i,n,t)::r,done,rest,p,h=>by
  simp only[Up,pc,Nat.beq_eq]at p;obtain⟨⟨rfl,o⟩,A⟩:=p;simp only[HQ,bk]at h;have u:n<=rest.length:=by omega
  simp only[EH];rw[a6 ⟨o,by rw[bk];omega⟩];have w:done++rest=done++(rest.take n++rest.drop n):=by rw[List.take_append_drop]
  rw [w,TM t.cells done (rest.take n) (rest.drop n) (by rw[cE];omega),<-d3];rw[Wl r (done++t.cells) (rest.drop n) (by rw[bk,o];exact A) (by rw[List.length_drop];omega)];simp[HQ,List.drop_drop,o]
inductive NT:Fq->Fq->Prop
 |nil {xs:Fq}:xs=[]->NT xs []
 |cons {xs ys zs:Fq} {t:TV}:xs=t::ys->NT ys zs->NT xs (t::zs)
theorem NT.eq{xs o:Fq}(h:NT xs o):xs=o:=by
 induction h with
 |nil h=>exact h|cons h _ p=>rw[h,p]
variable{zero:Fq}
theorem oA{S:FuncId->Fq->At->Prop}{K:AB->Prop}{os:List PR}{O:AB}{d:Nat}{parts:List (Nat×Nat×AF)}{ts:List (Nat×Nat×TV)}{cs:Fq}(h:Fe O parts=some ts)(o:Up 0 ts=true)(p:Nat.ble (HQ ts).length zero.length=true)(u:NT (HQ ts++zero.drop (HQ ts).length) cs)(k:WO S K os ((d,.tv (.agg cs))::O)):WO S K (⟨some d,.bld zero parts,none⟩::os) O:=
 X2 h (by have:=Wl ts [] zero o (Nat.le_of_ble_eq_true p);simpa using this) (by rw[u.eq]) k
structure HY{α A B C:Type}(n:Nat)(f:A->B->C->α)(g1:A->TV)(g2:B->TV)(g3:C->TV):Prop where
variable{qi:Option Nat}
theorem oV{S:FuncId->Fq->At->Prop}{K:AB->Prop}{os:List PR}{O:AB}{α A B C:Type}{f:A->B->C->α}{o:Nat}{v:AF}{q n:Nat}{env':AB}{es cs cs':Fq}{e:α->TV}{l:List α}{a:α}{E:A}{F:B}{G:C}{p:A->TV}{u:B->TV}{w:C->TV}(_:HY o f p u w)(h:(AF.s o).ev O=.lp q qi (j.toNat*n))(H:O.t5 q qi=some (n,es))(he:es=l.map e)(I:∀a,(e a).cells.length=n)(hv:v.ev O=.tv (.agg cs))(J:NT cs cs')(L:cs'=[p E,u F,w G])(hf:∀a b c,TV.agg [p a,u b,w c]=e (f a b c))(N:idx l j=some a)(U:Nat.blt 0 n=true)
  (D:O.Aab q qi n ((BP l j (f E F G)).map e)=env')(k:WO S K os env'):WO S K (⟨none,.xst (.s o) v n,none⟩::os) O:=lM h H (by rw[hv,J.eq,L,hf]) he I N U D k
theorem rf{S:FuncId->Fq->At->Prop}{α:Type}{x v:AF}{q n:Nat}{env':AB}{es:Fq}{e:α->TV}{l:List α}{a b:α}(h:x.ev O=.lp q qi (j.toNat*n))(p:O.t5 q qi=some (n,es))(he:es=l.map e)(u:∀a,(e a).cells.length=n)(hv:v.ev O=.tv (e b))(w:idx l j=some a)(A:Nat.blt 0 n=true)
  (o:O.Aab q qi n ((BP l j b).map e)=env')(k:WO S K os env'):WO S K (⟨none,.xst x v n,none⟩::os) O:=lM h p hv he u w A o k
theorem lV{i q:Nat}{cs:List AP}{o:Fq}{p:α->At}{e:α->EV}(h:x.bind k=some r)(c:Ct P x f o R)(hi:args[i]?=some (.s q))(B:O.get q=.oag cs)(hd:d≠q)(C:Gt O i args=some ts)(u:ts.set i (.agg (cs.map fun _=>.undef))=o)(D:∀a,R a=.ag cs i (p a))(he:∀a,(p a).aev=e a)
  (E:∀a,x=some a->k a=some r->WO (AQ P) K os ((d,e a)::(q,.undef)::O)):WO (AQ P) K (⟨some d,.AaJ f args i,none⟩::os) O:=by
 obtain ⟨a,A,h⟩:=bind_some h;have w:=c.snd a A;rw[D]at w;have F:=(E a A h).out;refine⟨?_⟩;subst u;simp only[wpOps,PR.wp,AE.wp,hi,B,C,AY];refine⟨hd,p a,w,fun _=>?_⟩;rw[he];exact F
end
section
variable{S:FuncId->Fq->At->Prop}{K:AB->Prop}{os:List PR}{O:AB}{d:Nat}
theorem uL(k:∀b,WO S K os ((d,.mx (.mp b []))::O)):WO S K (⟨some d,.mkm,none⟩::os) O:=
 ⟨fun b=>(k b).out⟩
variable{kvs:BJ}
theorem uR{s b:Nat}(h:O.get s=.mx (.mp b kvs))(k:WO S K os ((d,.tv (.AaD b))::O)):WO S K (⟨some d,.mvm s,none⟩::os) O:=by
 replace k:=k.out;refine⟨?_⟩;simp only[wpOps,PR.wp,AE.wp,h];exact k
variable{ky:Int×Int}
theorem uN{s b:Nat}{m x:AF}{t:TV}(h:O.get s=.mx (.mp b kvs))(o:m.val O=some (.AaD b))(p:x.val O=some t)(u:t.Abz?=some ky)(k:WO S K os ((d,.tp [.int .i64 ((kvs.look ky).getD 0),.bool (kvs.look ky).isSome])::O)):WO S K (⟨some d,.mlk s m x,none⟩::os) O:=by
 replace k:=k.out;refine⟨?_⟩;simp only[wpOps,PR.wp,AE.wp,h,o,p,u,AY];exact⟨trivial,k⟩
theorem uQ{s b:Nat}{m x v:AF}{t:TV}{n:Int}(h:O.get s=.mx (.mp b kvs))(o:m.val O=some (.AaD b))(p:x.val O=some t)(u:t.Abz?=some ky)(hv:v.val O=some (.int .i64 n))(k:WO S K os ((s,.mx (.mp b (kvs.set ky n)))::O)):WO S K (⟨none,.mup s m x v,none⟩::os) O:=by
 replace k:=k.out;refine⟨?_⟩;simp only[wpOps,PR.wp,AE.wp,h,o,p,u,hv,AY];exact⟨trivial,k⟩
variable{todo:BJ}
theorem uJ{s:Nat}{p:(Int×Int)×Int}(h:O.get s=.mx (.mi (some p) todo))(k:WO S K os ((d,.tp [Pg p.1,.int .i64 p.2])::O)):WO S K (⟨some d,.men s,none⟩::os) O:=by
 replace k:=k.out;refine⟨?_⟩;simp only[wpOps,PR.wp,AE.wp,h];exact k
theorem gB{s b:Nat}{ts:Fq}(h:O.get s=.mx (.tm b kvs ts))(k:WO S K os ((d,.tp (.AaD b::ts))::O)):WO S K (⟨some d,.mvm s,none⟩::os) O:=by
 replace k:=k.out;refine⟨?_⟩;simp only[wpOps,PR.wp,AE.wp,h];exact k
theorem gA{s:Nat}{ts:Fq}(h:O.get s=.tp ts)(k:WO S K os ((d,.tp ts)::O)):WO S K (⟨some d,.mvm s,none⟩::os) O:=by
 replace k:=k.out;refine⟨?_⟩;simp only[wpOps,PR.wp,AE.wp,h];exact k
theorem lG{s b:Nat}{ts:Fq}{m:AF}(h:O.get s=.mx (.tm b kvs ts))(o:m.val O=some (.AaD b))(hd:d≠s)(k:WO S K os ((d,.mx (.mi none kvs))::(s,.undef)::O)):WO S K (⟨some d,.ws s m,none⟩::os) O:=by
 replace k:=k.out;refine⟨?_⟩;simp only[wpOps,PR.wp,AE.wp,h,o];exact⟨⟨hd,trivial⟩,k⟩
theorem uO{s:Nat}{last:Option ((Int×Int)×Int)}(h:O.get s=.mx (.mi last todo))(hd:d≠s)(u:todo=[]->WO S K os ((d,.tp [.bool false])::O))(w:∀p o,todo.Perm (p::o)->WO S K os ((d,.tp [.bool true,Pg p.1,.int .i64 p.2])::(s,.mx (.mi (some p) o))::O)):WO S K (⟨some d,.mnx s,none⟩::os) O:=by
 refine ⟨?_⟩;simp only[wpOps,PR.wp,AE.wp,h];exact⟨hd,fun e=>(u e).out,fun p t A=>(w p t A).out⟩
theorem jQ{f:FuncId}{args:List AF}{ts us:Fq}(hv:vals O args=some ts)(h:S f ts (.mpr kvs us))(k:∀b,WO S K os ((d,.mx (.tm b kvs us))::O)):WO S K (⟨some d,.AaN f args,none⟩::os) O:=by
 refine ⟨?_⟩;simp only[wpOps,PR.wp,AE.wp,hv,AY];exact .inr ⟨kvs,us,h,fun _ b=>(k b).out⟩
theorem jP{f:FuncId}{args:List AF}{ts us:Fq}(hv:vals O args=some ts)(h:S f ts (.tp us))(k:WO S K os ((d,.tp us)::O)):WO S K (⟨some d,.AaN f args,none⟩::os) O:=by
 refine ⟨?_⟩;simp only[wpOps,PR.wp,AE.wp,hv,AY];exact .inl ⟨us,h,fun _=>k.out⟩
theorem Jn{ss:Ne}{s:Nat}{r:AB}{m:MX}(h:O.get s=.mx m)(k:Kp O ss r):Kp O (s::ss) ((s,.mx m)::r):=MV h k
theorem tB{ss:Ne}{s:Nat}{r:AB}{q:List (Nat×EV)}{m:MX}(h:look q s=none)(o:O.get s=.mx m)(k:Nm O q ss r):Nm O q (s::ss) ((s,.mx m)::r):=Ow h o k
end
def MY(r:BJ×Int):At:=if r.2=0 then .mpr r.1 [.int .i64 r.2]else .tp [.undef,.int .i64 r.2]
structure uo(o:Nat):Prop where
variable{kvs:BJ}
theorem mH{h:List RV}{O:AB}{e:Int}(he:(!decide (e=0))=true)(o:h.length≠1)(p:Dz O h=some [.undef,.int .i64 e]):Bi h (MY (kvs,e)) O:=by
 simp only[Bool.not_eq_true',decide_eq_false_iff_not]at he;simp only[MY,ae he];exact⟨o,p⟩
theorem mI{s o b:Nat}{h:List RV}{O:AB}(_:uo o)(p:O.get s=.tv (.AaD b))(u:O.get o=.mx (.mp b kvs))(w:h≠[])(A:Dz O h=some [.int .i64 0]):Bi (.tmp s::h) (MY (kvs,0)) O:=by
 simp only[MY,if_true,Bi];exact⟨w,⟨b,o,p,u⟩,A⟩
section
variable{P:Program}{α β:Type}{K:AB->Prop}{os:List PR}{O:AB}{d:Nat}{x:Option α}{k:α->Option β}{r:β}{f:FuncId}{args:List AF}{ts:Fq}{R:α->At}
theorem gu{i s:Nat}{cs:List AP}{q:α->Bool}{u v:α->List AP}{us:α->Fq}{e:α->EV}(h:x.bind k=some r)(c:Ct P x f ts R)(A:(args[i]?).bind (·.place O)=some (s,0))(B:O.get s=.bx cs)(C:O.noX s none=true)(hd:d≠s)(D:Gt O i args=some ts)(E:∀a,R a=.bo cs (if q a=true then u a else v a) i (us a))(he:∀a,EV.ofs (us a)=e a)
  (F:∀a,x=some a->q a=true->k a=some r->WO (AQ P) K os ((d,e a)::(s,.bx (u a))::O))(G:∀a,x=some a->q a=false->k a=some r->WO (AQ P) K os ((d,e a)::(s,.bx (v a))::O)):WO (AQ P) K (⟨some d,.Aaw f args i,none⟩::os) O:=by
 refine aN h c A B C hd D E he (fun a o p=>?_);cases w:q a with
 |true=>rw[a6 rfl];exact F a o w p|false=>rw[ae (by simp)];exact G a o w p
end
section
variable{S:FuncId->Fq->At->Prop}{a b:PC}{O:AB}
variable{Q:Q}
theorem oD{c:AF}{β:Type}{q:Bool}{u v:Option β}{r:β}(p:c.val O=some (.bool q))(h:(if q=true then u else v)=some r)(o:q=true)(k:u=some r->WP S a Q O):WP S (.cond c a b) Q O:=
 Qe p o (k (VR o h))
theorem oC{c:AF}{β:Type}{q:Bool}{u v:Option β}{r:β}(p:c.val O=some (.bool q))(h:(if q=true then u else v)=some r)(o:q=false)(k:v=some r->WP S b Q O):WP S (.cond c a b) Q O:=
 Qd p o (k (VQ o h))
end
end Go.Sf
set_option maxRecDepth 100000
namespace Go.Sf
theorem au{P:Prop}(p:P:=by
 repeat' (first
  |(show WO _ _ _ _;first
    |(apply Oe;exact rfl)
    |(apply wA;exact rfl;exact rfl)
    |(apply Rm;exact rfl;exact rfl)
    |(apply ue;exact rfl)
    |(apply wB;exact rfl)
    |apply MI
    |(apply k9;exact rfl)
    |(apply k8;exact rfl)
    |(apply fz;exact rfl;exact rfl)
    |(apply fw;exact rfl)
    |(apply sZ;exact rfl;assumption)
    |(apply ot;exact rfl;assumption)
    |(apply vb;exact rfl)
    |(apply nT;exact rfl;assumption;exact rfl)
    |(apply nS;exact rfl;assumption;exact rfl)
    |(apply tz;exact rfl;exact rfl)
    |(apply uH;exact rfl;exact rfl)
    |(apply td;exact rfl;exact rfl)
    |(apply dP;exact rfl;exact rfl)
    |(apply uG;exact rfl;exact rfl)
    |(apply ud;exact rfl;exact rfl)
    |(apply t8;exact rfl;exact rfl)
    |(apply t7;exact rfl;exact rfl)
    |(apply fx;exact rfl;exact rfl)
    |(apply uF;exact rfl;(first|exact rfl|exact Ml.eq))
    |(apply rM;exact h;exact rfl;exact rfl;(first|exact rfl|exact Ml.eq);intro x o h)
    |(apply oB;exact h;infer_instance;exact rfl;exact fun _=>rfl;intro x o h)|(apply lh;exact h;infer_instance;exact rfl;exact fun _=>rfl;intro x o h)|(apply li;assumption;exact h;infer_instance;exact rfl;exact fun _=>rfl;intro x o h)|(apply lg;exact h;infer_instance;exact rfl;exact fun _=>rfl;intro x o h)|(apply ll;exact h;infer_instance;exact rfl;exact fun _=>rfl;intro x o h)|(apply lb;exact h;infer_instance;exact rfl;exact fun _=>rfl;intro x o h)
    |(apply rL h (ho:=rfl);(focus ((repeat(first|apply GS.step|(apply GS.AbS;exact rfl)));exact GS.done));exact rfl;exact rfl;intro v B C h;rotate_left;intro v B C h;rotate_left;intro v h;rotate_left)
    |(apply rK h (ho:=rfl);(focus ((repeat(first|apply GS.step|(apply GS.AbS;exact rfl)));exact GS.done));exact rfl;exact rfl;intro v B C h;rotate_left;intro v B C h;rotate_left;intro v h;rotate_left)
    |(apply rJ rfl;(focus ((repeat(first|apply GS.step|(apply GS.AbS;exact rfl)));exact GS.done));exact rfl;exact rfl;intro B C;rotate_left;intro B C;rotate_left 3)
    |(apply rI rfl;(focus ((repeat(first|apply GS.step|(apply GS.AbS;exact rfl)));exact GS.done));exact rfl;exact rfl;intro B C;rotate_left;intro B C;rotate_left 3)
    |apply oG
    |apply qR
    |(apply ny;exact h;exact rfl;exact rfl;(first|exact rfl|exact Ml.eq);(first|exact rfl|exact Ml.eq);infer_instance;intro x o h)
    |(apply rD;exact h;exact rfl;exact rfl;(first|exact rfl|exact Ml.eq);(first|exact rfl|exact Ml.eq);intro x o h)
    |(apply oK;exact rfl;(focus ((repeat(apply Lm.cons;exact rfl));exact Lm.nil));exact fun _=>rfl;infer_instance)|(apply oJ;exact rfl;(focus ((repeat(apply Lm.cons;exact rfl));exact Lm.nil));exact fun _=>rfl)
    |(apply rQ;exact rfl;exact rfl)
    |(apply rP;(with_reducible exact h);infer_instance;exact rfl;exact rfl;exact rfl;intro x o h)
    |(apply kT;exact rfl;exact rfl;exact rfl)
    |(apply rO;exact rfl;exact rfl;exact rfl;exact rfl)
    |(apply lD;exact rfl;exact rfl;exact rfl)
    |(apply oI;exact rfl;exact rfl;exact rfl)
    |(apply X3;exact rfl;exact rfl;exact rfl)
    |(apply oQ;exact rfl;exact rfl;exact rfl;exact rfl)
    |(apply lH;exact rfl;exact rfl;exact rfl;exact rfl;exact rfl)
    |(apply qa;exact rfl;exact rfl;decide;exact rfl;exact rfl)
    |(apply rY;exact rfl;exact rfl;exact rfl;exact rfl;exact rfl;(focus ((repeat(apply NL.cons;exact rfl));exact NL.nil rfl)))
    |(apply oR;exact rfl;exact rfl;exact rfl;decide;exact rfl;(focus ((repeat(apply NL.cons;exact rfl));exact NL.nil rfl)))
    |(apply qZ;exact rfl;exact rfl;exact rfl;exact rfl;exact rfl;exact rfl)
    |(apply lJ;exact rfl;exact rfl;exact rfl;decide;exact rfl;exact rfl)
    |(apply uE;exact rfl;exact rfl;exact rfl;exact rfl;exact rfl)
    |(apply n9;(with_reducible exact h);infer_instance;exact rfl;exact rfl;exact rfl;intro x o h)
    |(apply qG;exact rfl;exact rfl;exact rfl;exact rfl)
    |(apply oA;exact rfl;exact rfl;exact rfl;(focus ((repeat(apply NT.cons;exact rfl));exact NT.nil rfl)))
    |(apply X2;exact rfl;exact rfl;exact rfl)
    |(apply ti;exact rfl)
    |(apply lj;exact h;infer_instance;exact rfl;exact rfl;exact rfl;exact fun _=>rfl;intro x o h)|(apply g7;exact h;infer_instance;exact rfl;exact rfl;exact rfl;exact fun _=>rfl;intro x o h)|(apply g6;exact h;infer_instance;exact rfl;exact rfl;exact rfl;exact fun _=>rfl;intro x o h)
    |(apply rX;exact h;exact rfl;(first|exact rfl|exact Ml.eq);exact rfl;exact rfl;intro x o h)
    |(apply qW;exact rfl)
    |(apply oM;exact h;exact rfl;exact rfl;intro x o h)
    |(apply oN;exact h;exact rfl;exact rfl;exact rfl;intro x o h)
    |(apply uV;exact rfl)
    |(apply uP;exact rfl;exact rfl)
    |(apply uI;exact rfl;exact rfl)
    |(apply uK;exact rfl;exact rfl)
    |(apply uT;exact rfl)
    |(apply tw;exact rfl)
    |(apply uS;exact rfl)
    |(apply tf;exact rfl)
    |(apply qK;exact rfl;exact rfl;exact rfl;exact rfl)
    |(apply qL;exact rfl;exact rfl;exact rfl)
    |(apply rH;exact rfl;infer_instance)
    |(apply qN;exact rfl;exact rfl;exact rfl)
    |(apply nR;exact rfl;exact rfl;exact rfl)
    |(apply qU;exact rfl;exact rfl)
    |(apply qX;exact rfl;exact rfl)
    |(apply qF;exact rfl;exact rfl)
    |(apply qI;exact rfl;exact rfl)
    |(apply nt;exact rfl;exact rfl;infer_instance;exact rfl;exact rfl;exact rfl)
    |(apply nv;exact rfl;exact rfl;infer_instance;exact rfl;exact rfl;exact rfl)
    |refine nu rfl rfl rfl rfl rfl ?_
    |refine nw rfl rfl rfl rfl rfl ?_
    |(apply ug;exact rfl)
    |(apply qS;exact rfl)
    |(apply uf;exact rfl;exact rfl;decide)
    |(apply uY;exact rfl;decide)
    |(apply qc;exact rfl;(first|exact rfl|exact Ml.eq))
    |(apply rc;exact h;exact rfl;exact rfl;(first|exact rfl|exact Ml.eq);exact rfl;intro x o h)
    |(apply uh;exact rfl;exact rfl)
    |(apply oS;exact rfl;exact rfl;exact rfl;exact fun _=>rfl;assumption;exact rfl;exact rfl;exact rfl)|(apply rd;exact rfl;exact rfl;exact rfl;exact fun _=>rfl;assumption;exact rfl;exact rfl;exact rfl)|(apply oU;assumption;exact rfl;exact rfl;exact rfl;exact rfl;exact fun _=>rfl;assumption;exact rfl;exact rfl;exact rfl;exact rfl)|(apply oT;exact rfl;exact rfl;exact rfl;exact rfl;exact fun _=>rfl;assumption;exact rfl;exact rfl;exact rfl;exact rfl)|(apply oV;assumption;exact rfl;exact rfl;exact rfl;exact fun _=>rfl;exact rfl;(focus ((repeat(apply NT.cons;exact rfl));exact NT.nil rfl));exact rfl;exact fun _ _ _=>rfl;assumption;exact rfl;exact rfl)|(apply rf;exact rfl;exact rfl;exact rfl;exact fun _=>rfl;exact rfl;assumption;exact rfl;exact rfl)
    |(apply n7;exact h;exact rfl;exact rfl;(first|exact rfl|exact Ml.eq);(first|exact rfl|exact Ml.eq);exact rfl;decide;intro x o h)
    |(apply n8;exact h;exact rfl;exact rfl;exact rfl;exact rfl;exact rfl;decide;exact rfl;exact rfl;intro x o h)
    |(apply rF;exact h;exact rfl;exact rfl;exact rfl;exact rfl;decide;intro x o h)
    |(apply rR;exact h;exact rfl;exact rfl;exact rfl;intro x o h)
    |(apply lm;exact h;infer_instance;exact rfl;exact rfl;exact fun _=>rfl;intro x o h)|(apply g8;exact h;infer_instance;exact rfl;exact rfl;exact fun _=>rfl;exact fun _=>rfl;intro x o h)|(apply lc;exact h;infer_instance;exact rfl;exact fun _=>rfl;exact fun _=>rfl;intro x o h)|(apply gx;exact h;infer_instance;exact rfl;exact fun _=>rfl;exact fun _=>rfl;intro x o h)|(apply gw;exact h;infer_instance;exact rfl;exact fun _=>rfl;exact fun _=>rfl;intro x o h)|(apply lZ;exact h;infer_instance;exact rfl;exact fun _=>rfl;intro x o h)|(apply gu;exact h;infer_instance;exact rfl;exact rfl;exact rfl;decide;exact rfl;exact fun _=>rfl;exact fun _=>rfl;intro x o C h;rotate_left;intro x o C h;rotate_left)|(apply aN;exact h;infer_instance;exact rfl;exact rfl;exact rfl;decide;exact rfl;exact fun _=>rfl;exact fun _=>rfl;intro x o h)|(apply lf;exact h;infer_instance;exact rfl;exact rfl;exact fun _=>rfl;intro x o h)
    |(apply lW;exact h;infer_instance;exact rfl;exact rfl;decide;exact rfl;intro x o h)
    |(apply lY;exact h;infer_instance;exact rfl;exact fun _=>rfl;intro x o h)
    |(apply rU;exact h;exact rfl;exact rfl;intro x o h)
    |(apply rV;exact h;exact rfl;exact rfl;intro x o h)
    |(apply rE;exact h;exact rfl;exact rfl;decide;intro x o h)
    |(apply oL;exact h;exact rfl;exact rfl;intro x o h)
    |(apply rN;exact h;exact rfl;(first|exact rfl|exact Ml.eq);intro u h)
    |(apply lC;exact rfl;exact rfl;intro z D;replace h:=lu h z D)
    |(apply uB;exact rfl;exact rfl)
    |(apply tq;exact rfl;exact rfl;exact rfl;exact rfl;exact rfl)
    |(apply tj;exact rfl;exact rfl;exact rfl;exact rfl;exact rfl;exact rfl)
    |(apply qH;decide;decide;exact rfl;exact rfl)
    |(apply qP;exact rfl)
    |(apply uc;exact rfl;exact rfl;decide;exact rfl;exact rfl;exact rfl;exact rfl)
    |(apply qB;exact rfl;exact rfl;exact rfl)
    |(apply uC;exact rfl;exact rfl)
    |(apply rS;exact h;exact rfl;exact rfl;exact rfl;(first|exact rfl|exact Ml.eq);intro x o h)
    |(apply uU;exact rfl;exact rfl;(first|exact rfl|exact Ml.eq);assumption)
    |(apply rT;exact h;exact rfl;exact rfl;exact rfl;(first|exact rfl|exact Ml.eq);exact fun _=>rfl;assumption;intro x o h)
    |(apply uW;exact rfl;exact rfl;exact rfl;(first|exact rfl|exact Ml.eq);exact fun _=>rfl;assumption;assumption;exact rfl;exact rfl;exact rfl;exact rfl)
    |(apply qO;exact rfl;exact rfl;decide)
    |(apply nx;exact h;exact rfl;exact rfl;exact rfl;exact rfl;(first|exact rfl|exact Ml.eq);exact rfl;exact rfl;decide;exact rfl;intro x o h)
    |(apply qM;exact rfl;exact rfl;exact rfl;exact rfl;exact rfl;exact rfl)
    |(apply qJ;exact rfl;exact rfl;decide)
    |(apply uD;exact rfl;exact rfl;decide;exact rfl)
    |(apply ub;exact rfl;exact rfl;exact rfl;exact rfl;exact rfl;exact rfl;exact rfl;exact rfl)
    |(apply gv;exact h;infer_instance;exact rfl;exact fun _=>rfl;exact fun _=>rfl;exact fun _=>rfl;intro x o h)|(apply lV;exact h;infer_instance;exact rfl;exact rfl;decide;exact rfl;exact rfl;exact fun _=>rfl;exact fun _=>rfl;intro x o h)
    |(apply uL;intro b;have K:=K b)
    |(apply uR;exact rfl)
    |(apply gB;exact rfl)
    |(apply gA;exact rfl)
    |(apply uJ;exact rfl)
    |(apply lG;exact rfl;exact rfl;decide)
    |(apply uN;exact rfl;exact rfl;exact rfl;exact rfl)
    |(apply uQ;exact rfl;exact rfl;exact rfl;exact rfl;exact rfl))
  |(show WP _ _ _ _;first
    |with_reducible apply rG
    |apply Ji
    |apply Oh
    |(apply oF;exact rfl)
    |(apply rW;exact rfl;exact rfl)
    |apply YB
    |apply cG
    |apply dw
    |(apply Qe;exact rfl;with_reducible rfl)
    |(apply Qd;exact rfl;with_reducible rfl)
    |(apply oH;exact rfl;exact h;assumption;exact rfl;intro w C h;rotate_left;intro w C h;rotate_left;intro w h;rotate_left)
    |(apply oD;exact rfl;exact h;assumption;intro h)
    |(apply oC;exact rfl;exact h;assumption;intro h)
    |(apply oE;exact rfl;exact h;intro C h;rotate_left;intro C h;rotate_left)
    |(apply Qe;exact rfl;apply wJ;assumption)
    |(apply Qd;exact rfl;apply vZ;assumption)
    |(apply dx;assumption;exact h;exact A;(first|exact Sj rfl (by first|exact rfl|exact Ml.eq)|exact Si rfl|exact P1 rfl rfl (by first|exact rfl|exact Ml.eq)|exact P0 rfl rfl|exact Sn rfl|exact Sl rfl (by first|exact rfl|exact Ml.eq)|exact Sp rfl rfl|exact So|exact Sh (by decide));exact rfl;exact rfl;exact fun _ _=>rfl;intro i s r hi h A;rotate_left;intro i s hi;clear h;rotate_left;intro s h;rotate_left)
    |(apply dx;apply HB.a;assumption;exact h;exact A;(first|exact Sj rfl (by first|exact rfl|exact Ml.eq)|exact Si rfl|exact P1 rfl rfl (by first|exact rfl|exact Ml.eq)|exact P0 rfl rfl|exact Sn rfl|exact Sl rfl (by first|exact rfl|exact Ml.eq)|exact Sp rfl rfl|exact So|exact Sh (by decide));exact rfl;exact rfl;exact fun _ _=>rfl;intro i s r hi h A;rotate_left;intro i s hi;clear h;rotate_left;intro s h;rotate_left)
    |(apply d8;assumption;assumption;exact rfl;exact h;exact A;(first|exact Sj rfl (by first|exact rfl|exact Ml.eq)|exact Si rfl|exact P1 rfl rfl (by first|exact rfl|exact Ml.eq)|exact P0 rfl rfl|exact Sn rfl|exact Sl rfl (by first|exact rfl|exact Ml.eq)|exact Sp rfl rfl|exact So|exact Sh (by decide));exact rfl;exact rfl;exact fun _ _=>rfl;intro i s r hi h A;rotate_left;intro i s hi;clear h;rotate_left;intro s h;rotate_left)
    |(apply d8;apply HB.a;assumption;assumption;exact rfl;exact h;exact A;(first|exact Sj rfl (by first|exact rfl|exact Ml.eq)|exact Si rfl|exact P1 rfl rfl (by first|exact rfl|exact Ml.eq)|exact P0 rfl rfl|exact Sn rfl|exact Sl rfl (by first|exact rfl|exact Ml.eq)|exact Sp rfl rfl|exact So|exact Sh (by decide));exact rfl;exact rfl;exact fun _ _=>rfl;intro i s r hi h A;rotate_left;intro i s hi;clear h;rotate_left;intro s h;rotate_left)
    |(apply dz;assumption;exact h;exact A;(first|exact Sj rfl (by first|exact rfl|exact Ml.eq)|exact Si rfl|exact P1 rfl rfl (by first|exact rfl|exact Ml.eq)|exact P0 rfl rfl|exact Sn rfl|exact Sl rfl (by first|exact rfl|exact Ml.eq)|exact Sp rfl rfl|exact So|exact Sh (by decide));exact rfl;exact rfl;exact fun _ _=>rfl;intro i s r hi h A;rotate_left;intro i s hi;clear h;rotate_left;intro s h;rotate_left)
    |(apply dz;apply HB.a;assumption;exact h;exact A;(first|exact Sj rfl (by first|exact rfl|exact Ml.eq)|exact Si rfl|exact P1 rfl rfl (by first|exact rfl|exact Ml.eq)|exact P0 rfl rfl|exact Sn rfl|exact Sl rfl (by first|exact rfl|exact Ml.eq)|exact Sp rfl rfl|exact So|exact Sh (by decide));exact rfl;exact rfl;exact fun _ _=>rfl;intro i s r hi h A;rotate_left;intro i s hi;clear h;rotate_left;intro s h;rotate_left)
    |(apply dy;assumption;exact h;exact A;(first|exact Sj rfl (by first|exact rfl|exact Ml.eq)|exact Si rfl|exact P1 rfl rfl (by first|exact rfl|exact Ml.eq)|exact P0 rfl rfl|exact Sn rfl|exact Sl rfl (by first|exact rfl|exact Ml.eq)|exact Sp rfl rfl|exact So|exact Sh (by decide));exact rfl;exact rfl;exact fun _ _=>rfl;intro i s r hi h A;rotate_left;intro i s hi;clear h;rotate_left;intro s h;rotate_left)
    |(apply dy;apply HB.a;assumption;exact h;exact A;(first|exact Sj rfl (by first|exact rfl|exact Ml.eq)|exact Si rfl|exact P1 rfl rfl (by first|exact rfl|exact Ml.eq)|exact P0 rfl rfl|exact Sn rfl|exact Sl rfl (by first|exact rfl|exact Ml.eq)|exact Sp rfl rfl|exact So|exact Sh (by decide));exact rfl;exact rfl;exact fun _ _=>rfl;intro i s r hi h A;rotate_left;intro i s hi;clear h;rotate_left;intro s h;rotate_left)
    |(apply rb;assumption;assumption;exact rfl;exact h;exact rfl;exact rfl;intro s r h A;rotate_left;intro s h;rotate_left)
    |(apply ra;assumption;exact h;exact rfl;exact rfl;intro s r h A;rotate_left;intro s h;rotate_left)
    |(apply rZ;assumption;exact h;exact rfl;exact rfl;intro s r h A;rotate_left;intro s h;rotate_left)
    |apply aM
    |cases h)
  |(show Kp _ _ _;first
    |exact HU
    |(apply Jp;exact rfl)
    |(apply si;exact rfl)
    |(apply Jm;exact rfl)
    |(apply sn;exact rfl)
    |(apply sf;exact rfl)
    |(apply Jo;exact rfl)
    |(apply Jq;exact rfl)
    |(apply sg;exact rfl)
    |(apply sj;exact rfl)
    |(apply pB;exact rfl)
    |(apply Jn;exact rfl))
  |(show Nm _ _ _ _;first
    |exact pF
    |(apply pE;exact rfl)
    |(apply tE;exact rfl;exact rfl)
    |(apply tC;exact rfl;exact rfl)
    |(apply s9;exact rfl;exact rfl)
    |(apply tG;exact rfl;exact rfl)
    |(apply s8;exact rfl;exact rfl)
    |(apply tD;exact rfl;exact rfl)
    |(apply tF;exact rfl;exact rfl)
    |(apply tA;exact rfl;exact rfl)
    |(apply tB;exact rfl;exact rfl))
  |apply l6
  |(apply iR;intro j)
  |apply l5
  |exact eW rfl
  |(cases h;exact eW rfl)
  |apply YU
  |(apply lx;decide)
  |intro A
  |(cases h;first|exact rfl|exact⟨rfl⟩|exact⟨rfl,rfl⟩|exact⟨_,rfl,rfl⟩|exact⟨_,rfl,⟨rfl⟩⟩|exact⟨rfl,_,rfl,⟨rfl⟩⟩|exact⟨by decide,rfl⟩|exact⟨_,rfl,by decide,rfl⟩|exact⟨_,rfl,rfl,rfl⟩|exact mI (by assumption) rfl rfl (by decide) rfl|exact⟨_,rfl,mH (by first|assumption|decide) (by decide) rfl⟩)
  |exact⟨rfl,⟨rfl⟩⟩)):P:=p
end Go.Sf
