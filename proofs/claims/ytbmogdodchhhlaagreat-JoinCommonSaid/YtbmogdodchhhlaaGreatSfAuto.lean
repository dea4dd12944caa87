/- Contracts that are found by themselves: rules that take the typed text along, and the script that applies them. -/
import Derived.Test.YtbmogdodchhhlaaGreatSfK
import Derived.Test.YtbmogdodchhhlaaGreatSfStep
import Derived.Test.YtbmogdodchhhlaaGreatSfLib
set_option linter.all false
namespace Go.Sf
class Ct(P:Program){α:Type}(x:Option α)(f:outParam FuncId)(ts:outParam Fq)(R:outParam (α->Ap)):Prop where
 snd:∀r,x=some r->AJ P f ts (R r)
class Ml(es:Fq){α:outParam Type}(e:outParam (α->TV))(l:outParam (List α)):Prop where
 eq:es=l.map e
class SJ{α:Type}(e:α->TV)where
 un:Fq->α
 dec:∀a b,∃i:Decidable (a=b),BT (e a).cells (e b).cells=some (@decide (a=b) i)
class Fz(cs:List AI)(row:outParam Fq):Prop where
 h:cs.map (·.t)=row
instance(priority:=high){l:Fq}:Fz (l.map fun x=>(⟨false,x⟩:AI)) l:=⟨by rw[List.map_map];exact List.map_id _⟩
instance(priority:=low){cs:List AI}:Fz cs (cs.map (·.t)):=⟨rfl⟩
class En(α:Type)(e:outParam (α->TV)):Prop where
class Fl{α:Type}(e:α->TV)(n:outParam Nat)(f:outParam (List α->TV)):Prop where
 eq:∀l,f l=.list n (l.map e)
structure Kp(O:AA)(l:Ne)(r:AA):Prop where
 of::out:O.po l=r
def look:List (Nat×EV)->Nat->Option EV
 |[],_=>none|(k,e)::r,n=>if k=n then some e else look r n
def su(O:AA)(m:List (Nat×EV)):Ne->AA
 |[]=>[]|s::ss=>(s,(look m s).getD (O.get s))::su O m ss
structure Nm(O:AA)(m:List (Nat×EV))(l:Ne)(r:AA):Prop where
 of::out:su O m l=r
structure Rn(a b:AA):Prop where
 of::out:a=b
structure HJ{σ:Type}(n:Nat)(M:σ->List (Nat×EV)):Prop where
structure HA{σ:Type}(n Fo q i:Nat)(M:Int->σ->List (Nat×EV)):Prop where
structure HB{σ:Type}(n Fo q i:Nat)(M:Int->σ->List (Nat×EV)):Prop where
theorem HB.a{σ:Type}{n Fo q i:Nat}{M:Int->σ->List (Nat×EV)}(_:HB n Fo q i M):HA n Fo q i M:=⟨⟩
structure HW{σ:Type}(n:Nat)(M:σ->List (Nat×EV)):Prop where
structure HR{β:Type}(R:β->AA->Prop):Prop where
structure HS(n:Nat):Prop where
structure HX{α γ:Type}(n:Nat)(f:α->γ->α):Prop where
structure SL(g:Nat)(b q:Bool):Prop where
 of::out:q=b
structure O3(g:Nat)(b q:Bool):Prop where
 of::out:q=!b
def KR(n:AA->Prop)(l:Ne):AA->Prop:=fun e=>n (e.po l)
section
variable{O:AA}{s:Nat}{ss:Ne}{r:AA}{m:List (Nat×EV)}
theorem FY:Kp O [] []:=⟨rfl⟩
theorem JY{e:EV}(h:O.get s=e)(k:Kp O ss r):Kp O (s::ss) ((s,e)::r):=⟨by rw[<-k.out,<-h];rfl⟩
theorem He{t:TV}(h:O.get s=.tv t)(k:Kp O ss r):Kp O (s::ss) ((s,.tv t)::r):=JY h k
theorem fi{t:TV}(h:O.get s=.ow t)(k:Kp O ss r):Kp O (s::ss) ((s,.ow t)::r):=JY h k
theorem Hb{t:List AI}(h:O.get s=.bx t)(k:Kp O ss r):Kp O (s::ss) ((s,.bx t)::r):=JY h k
theorem fg{q o:Nat}(h:O.get s=.bp q o)(k:Kp O ss r):Kp O (s::ss) ((s,.bp q o)::r):=JY h k
theorem Hd{t:Fq}(h:O.get s=.tp t)(k:Kp O ss r):Kp O (s::ss) ((s,.tp t)::r):=JY h k
theorem Hf(h:O.get s=.undef)(k:Kp O ss r):Kp O (s::ss) ((s,.undef)::r):=JY h k
theorem fk{n:Nat}{t:Fq}(h:O.get s=.xo n t)(k:Kp O ss r):Kp O (s::ss) ((s,.xo n t)::r):=JY h k
theorem fh{q:Nat}{i:Option Nat}(h:O.get s=.la q i)(k:Kp O ss r):Kp O (s::ss) ((s,.la q i)::r):=JY h k
theorem fj(h:O.get s=.sk)(k:Kp O ss r):Kp O (s::ss) ((s,.sk)::r):=JY h k
theorem cK{t:List AI}(h:O.get s=.sO t)(k:Kp O ss r):Kp O (s::ss) ((s,.sO t)::r):=JY h k
theorem cO:Nm O m [] []:=⟨rfl⟩
theorem cN{e:EV}(h:look m s=some e)(k:Nm O m ss r):Nm O m (s::ss) ((s,e)::r):=⟨by rw[<-k.out];simp only[su,h,Option.getD_some]⟩
theorem LC{e:EV}(h:look m s=none)(o:O.get s=e)(k:Nm O m ss r):Nm O m (s::ss) ((s,e)::r):=⟨by rw[<-k.out];simp only[su,h,o,Option.getD_none]⟩
theorem gD{t:TV}(h:look m s=none)(o:O.get s=.tv t)(k:Nm O m ss r):Nm O m (s::ss) ((s,.tv t)::r):=LC h o k
theorem gB{t:TV}(h:look m s=none)(o:O.get s=.ow t)(k:Nm O m ss r):Nm O m (s::ss) ((s,.ow t)::r):=LC h o k
theorem fy{t:List AI}(h:look m s=none)(o:O.get s=.bx t)(k:Nm O m ss r):Nm O m (s::ss) ((s,.bx t)::r):=LC h o k
theorem fx{q o:Nat}(h:look m s=none)(p:O.get s=.bp q o)(k:Nm O m ss r):Nm O m (s::ss) ((s,.bp q o)::r):=LC h p k
theorem gC{t:Fq}(h:look m s=none)(o:O.get s=.tp t)(k:Nm O m ss r):Nm O m (s::ss) ((s,.tp t)::r):=LC h o k
theorem gE(h:look m s=none)(o:O.get s=.undef)(k:Nm O m ss r):Nm O m (s::ss) ((s,.undef)::r):=LC h o k
theorem gF{n:Nat}{t:Fq}(h:look m s=none)(o:O.get s=.xo n t)(k:Nm O m ss r):Nm O m (s::ss) ((s,.xo n t)::r):=LC h o k
theorem fz{q:Nat}{i:Option Nat}(h:look m s=none)(o:O.get s=.la q i)(k:Nm O m ss r):Nm O m (s::ss) ((s,.la q i)::r):=LC h o k
end
def PC.xl(i:Nat):PC->Option Ne
 |.exit j l=>if j=i then some l else none|.seq a b=>match a.xl i with
  |some l=>some l|none=>b.xl i
 |.cond _ a b=>match a.xl i with
  |some l=>some l|none=>b.xl i
 |.block _ a=>a.xl i|.loop _ a=>a.xl i|.vt _ a=>a.xl i|_=>none
def PC.last:PC->Option Ne
 |.region _ l=>some l|.draw _ _ l=>some l|.skip l=>some l|.exit _ l=>some l|.seq _ b=>b.last|.cond _ a _=>a.last|.block i (.loop _ b)=>b.xl i|.block _ c=>c.last|.vt _ c=>c.last|_=>none
section
variable{S:FuncId->Fq->Ap->Prop}{K:AA->Prop}{os:List PR}{O:AA}{d:Nat}
section code
variable{n t:AA->Prop}{x:Nat->AA->Prop}{a b:PC}{l:Ne}{env':AA}
theorem JS(o:Kp O l env')(h:n env'):WO S (KR n l) [] O:=⟨by show n (O.po l);rw[o.out];exact h⟩
theorem K5{ops:List PR}(h:WO S (KR n l) ops O):WP S (.region ops l) ⟨n,x,t⟩ O:=⟨h.out⟩
theorem bH{D:Ne}{ops:List PR}(hd:Mh O D=true)(h:WO S (KR n l) ops O):WP S (.draw D ops l) ⟨n,x,t⟩ O:=⟨hd,h.out⟩
theorem HT(h:WP S a ⟨fun e=>(∀s,(e.get s).WF)->WP S b ⟨n,x,t⟩ e,x,t⟩ O):WP S (.seq a b) ⟨n,x,t⟩ O:=fK h
theorem SN(o:Kp O l env')(h:n env'):WP S (.skip l) ⟨n,x,t⟩ O:=bg o.out h
theorem UO(h:t O):WP S .ret ⟨n,x,t⟩ O:=⟨h⟩
theorem Vc{i:Nat}(o:Kp O l env')(h:x i env'):WP S (.exit i l) ⟨n,x,t⟩ O:=bf o.out h
theorem eH{s:Nat}{cs cs':List AI}{c:PC}{q:Q}(h:O.get s=.bx cs)(he:cs.map AI.rel=cs')(k:WP S c q ((s,.bx cs')::O)):WP S (.vt s c) q O:=by
 refine ⟨?_⟩;subst he;simp only[PC.wp,h];exact k.out
theorem Tl{i:Nat}(h:WP S a ⟨n,fun j e=>if j=i then n e else x j e,t⟩ O):WP S (.block i a) ⟨n,x,t⟩ O:=QX h
theorem du{m:List (Nat×EV)}{e:AA}{q:Q}(he:Nm e m l env')(h:WP S a q env'):WP S a q (su e m l):=by rw[he.out];exact h
variable{Q:Q}
theorem bG{c:AD}{β:Type}{q:Bool}{u v:Option β}{r:β}(o:c.val O=some (.bool q))(h:(if q=true then u else v)=some r)(p:q=true->u=some r->WP S a Q O)(w:q=false->v=some r->WP S b Q O):WP S (.cond c a b) Q O:=
 Pk o (fun e=>p e (P2 e h)) (fun e=>w e (P1 e h))
theorem bJ{σ β:Type}{i:Nat}{M:σ->List (Nat×EV)}{q:Bool}{u v:Option σ}{k:σ->Option β}{r:β}(p:(AD.s i).val O=some (.bool q))(h:((if q=true then u else v).bind k)=some r)(_:HJ i M)(_:(PC.cond (.s i) a b).last=some l)
  (A:∀w,q=true->u=some w->WP S a ⟨fun e=>Rn e (su O (M w) l),x,t⟩ O)(B:∀w,q=false->v=some w->WP S b ⟨fun e=>Rn e (su O (M w) l),x,t⟩ O)(C:∀w,k w=some r->n (su O (M w) l)):WP S (.cond (.s i) a b) ⟨n,x,t⟩ O:=by
 obtain ⟨w,o,h⟩:=bind_some h;refine fJ (fun e=>Rn e (su O (M w) l)) ?_ (fun e he=>by rw[he.out];exact C w h);exact Pk p (fun e=>A w e (P2 e o)) (fun e=>B w e (P1 e o))
end code
structure Bd(O:AA)(q i:Nat)(b:Int):Prop where
 of::out:(∀s,(O.get s).WF)->b<=9223372036854775807
section bounds
variable{q i:Nat}{α:Type}{e:α->TV}{l:List α}{es row:Fq}{n:Nat}
theorem Nn{b:Int}(h:decide (b<=9223372036854775807)=true):Bd O q i b:=⟨fun _=>of_decide_eq_true h⟩
theorem Nt{b:Int}:Bd O q i (Az b):=⟨fun _=>dh _⟩
theorem Nq(h:O.get q=.tv (.list n es))(he:es=l.map e):Bd O q i l.length:=⟨fun o=>by have:=o q;rw[h]at this;exact Ok (SH this) he⟩
theorem Nr(h:O.get q=.ow (.list n es))(he:es=l.map e):Bd O q i l.length:=⟨fun o=>by have:=o q;rw[h]at this;exact Ok (iP this) he⟩
theorem Nu(h:O.get q=.xo n es)(he:es=l.map e):Bd O q i l.length:=⟨fun o=>by have:=o q;rw[h]at this;exact Ok (iQ this) he⟩
theorem Ns{b:ByteArray}(h:O.get q=.tv (.str b)):Bd O q i b.size:=⟨fun o=>by have:=o q;rw[h]at this;exact ac (SH this)⟩
theorem Np{b:Int}(h:O.get q=.tv (.int .i64 b)):Bd O q i b:=⟨fun o=>by have:=o q;rw[h]at this;exact Wu (SH this)⟩
theorem L0(h:O.get q=.tv (.pt row))(o:row[i]?=some (.list n es))(he:es=l.map e):Bd O q i l.length:=⟨fun p=>by have:=p q;rw[h]at this;exact Ok (UI (ZS this) o) he⟩
theorem Lz{b:Int}(h:O.get q=.tv (.pt row))(o:row[i]?=some (.int .i64 b)):Bd O q i b:=⟨fun p=>by have:=p q;rw[h]at this;exact Wu (UI (ZS this) o)⟩
end bounds
section loops
variable{σ β ρ:Type}{n t:AA->Prop}{x:Nat->AA->Prop}{c:PC}{live jl:Ne}{i0 Fo q i1:Nat}{lo b:Int}{s0:σ}{r:β}{k:σ->Option β}
variable{M:Int->σ->List (Nat×EV)}
theorem di(h:∀i s,(su O (M i s) live).get Fo=.tv (.int .i64 i)){i:Int}{s:σ}(o:∀k,((su O (M i s) live).get k).WF)(hi:i<b)(p:b<=9223372036854775807):Az (i+1)=i+1:=by
 have:=o Fo;rw[h]at this;exact iR (SH this) hi p
theorem Vd{f:Int->σ->Option σ}(_:HA i0 Fo q i1 M)(h:(ry f lo b s0).bind k=some r)(p:∀s,(O.get s).WF)(u:Bd O q i1 b)(_:c.xl i0=some jl)(w:O.po live=su O (M lo s0) live)(A:∀i s,(su O (M i s) live).get Fo=.tv (.int .i64 i))
  (B:∀i s r,i<b->f i s=some r->(∀k,((su O (M i s) live).get k).WF)->WP S c ⟨fun e=>Rn (e.po live) (su O (M (Az (i+1)) r) live),fun _ _=>False,fun _=>False⟩ (su O (M i s) live))
  (C:∀i s,¬i<b->WP S c ⟨fun _=>False,fun j e=>j=i0/\Rn e (su O (M 0 s) jl),fun _=>False⟩ (su O (M i s) live))
  (D:∀s,k s=some r->n (su O (M 0 s) jl)):WP S (.block i0 (.loop live c)) ⟨n,x,t⟩ O:=by
 obtain ⟨o,ho,h⟩:=bind_some h;have u:=u.out p;refine ah ho (fun i s=>su O (M i s) live) (fun s=>su O (M 0 s) jl) w (fun i s r hi hf p=>⟨PC.rl S c _ _ (B i s r hi hf p).out _ (fun e he=>?_) (fun _ _ h=>h) (fun _ h=>h)⟩) (fun i s hi=>⟨PC.rl S c _ _ (C i s hi).out _ (fun _ h=>h) (fun j e h=>⟨h.1,h.2.out⟩) (fun _ h=>h)⟩) (D o h);have:=he.out;rw[di A p hi u]at this;exact this
variable{kr:ρ->Option β}
theorem Qc{f:Int->σ->Option (C9 σ ρ)}{R:ρ->AA->Prop}(h:og (qo f lo b s0) k kr=some r)(A:b<=9223372036854775807)(B:O.po live=su O (M lo s0) live)(C:∀i s,(su O (M i s) live).get Fo=.tv (.int .i64 i))
  (D:∀i s r,i<b->f i s=some r->(∀k,((su O (M i s) live).get k).WF)->WP S c ⟨fun e=>∃p,r=.next p/\Rn (e.po live) (su O (M (Az (i+1)) p) live),fun j e=>j=i0/\∃p,r=.brk p/\Rn e (su O (M 0 p) jl),fun e=>∃v,r=.ret v/\R v e⟩ (su O (M i s) live))
  (E:∀i s,¬i<b->WP S c ⟨fun _=>False,fun j e=>j=i0/\Rn e (su O (M 0 s) jl),fun _=>False⟩ (su O (M i s) live))
  (F:∀s,k s=some r->n (su O (M 0 s) jl))(G:∀v e,kr v=some r->R v e->t e):WP S (.block i0 (.loop live c)) ⟨n,x,t⟩ O:=by
 obtain ⟨o,ho,h⟩:=QS h;refine UK ho (fun i s=>su O (M i s) live) (fun s=>su O (M 0 s) jl) R B (fun i s r hi hf w=>⟨PC.rl S c _ _ (D i s r hi hf w).out _ (fun e he=>?_) (fun j e he=>?_) (fun _ h=>h)⟩) (fun i s hi=>⟨PC.rl S c _ _ (E i s hi).out _ (fun _ h=>h) (fun j e h=>⟨h.1,h.2.out⟩) (fun _ h=>h)⟩) (fun s H=>F s (UD h H)) (fun v e hv=>G v e (UE h hv))
 .obtain⟨p,u,e2⟩:=he;have e2:=e2.out;rw[di C w hi A]at e2;exact⟨p,u,e2⟩
 .obtain⟨I,p,u,e2⟩:=he;exact⟨I,p,u,e2.out⟩
theorem Vg{f:Int->σ->Option (C9 σ β)}{R:β->AA->Prop}(_:HA i0 Fo q i1 M)(_:HR R)(p:R r=t)(h:og (qo f lo b s0) k (fun v=>some v)=some r)(u:∀s,(O.get s).WF)(w:Bd O q i1 b)(_:c.xl i0=some jl)(A:O.po live=su O (M lo s0) live)(B:∀i s,(su O (M i s) live).get Fo=.tv (.int .i64 i))
  (C:∀i s r,i<b->f i s=some r->(∀k,((su O (M i s) live).get k).WF)->WP S c ⟨fun e=>∃o,r=.next o/\Rn (e.po live) (su O (M (Az (i+1)) o) live),fun j e=>j=i0/\∃o,r=.brk o/\Rn e (su O (M 0 o) jl),fun e=>∃v,r=.ret v/\R v e⟩ (su O (M i s) live))
  (D:∀i s,¬i<b->WP S c ⟨fun _=>False,fun j e=>j=i0/\Rn e (su O (M 0 s) jl),fun _=>False⟩ (su O (M i s) live))
  (E:∀s,k s=some r->n (su O (M 0 s) jl)):WP S (.block i0 (.loop live c)) ⟨n,x,t⟩ O:=
 Qc h (w.out u) A B C D E (fun v e hv F=>by cases hv;rw[<-p];exact F)
variable{τ:Type}
theorem Vf{f:Int->σ->Option (C9 σ ρ)}{k:σ->Option (C9 τ ρ)}{r:C9 τ ρ}{R:ρ->AA->Prop}(_:HA i0 Fo q i1 M)(h:og (qo f lo b s0) k (fun v=>some (.ret v))=some r)(p:∀s,(O.get s).WF)(u:Bd O q i1 b)(_:c.xl i0=some jl)(w:O.po live=su O (M lo s0) live)(A:∀i s,(su O (M i s) live).get Fo=.tv (.int .i64 i))
  (B:∀i s r,i<b->f i s=some r->(∀k,((su O (M i s) live).get k).WF)->WP S c ⟨fun e=>∃o,r=.next o/\Rn (e.po live) (su O (M (Az (i+1)) o) live),fun j e=>j=i0/\∃o,r=.brk o/\Rn e (su O (M 0 o) jl),fun e=>∃v,r=.ret v/\R v e⟩ (su O (M i s) live))
  (C:∀i s,¬i<b->WP S c ⟨fun _=>False,fun j e=>j=i0/\Rn e (su O (M 0 s) jl),fun _=>False⟩ (su O (M i s) live))
  (D:∀s,k s=some r->n (su O (M 0 s) jl)):WP S (.block i0 (.loop live c)) ⟨n,x,fun e=>∃v,r=.ret v/\R v e⟩ O:=
 Qc h (u.out p) w A B C D (fun v e hv E=>by cases hv;exact⟨v,rfl,E⟩)
theorem Ve{f:Int->σ->Option (C9 σ ρ)}(_:HA i0 Fo q i1 M)(h:og (qo f lo b s0) k (fun _=>none)=some r)(p:∀s,(O.get s).WF)(u:Bd O q i1 b)(_:c.xl i0=some jl)(w:O.po live=su O (M lo s0) live)(A:∀i s,(su O (M i s) live).get Fo=.tv (.int .i64 i))
  (B:∀i s r,i<b->f i s=some r->(∀k,((su O (M i s) live).get k).WF)->WP S c ⟨fun e=>∃o,r=.next o/\Rn (e.po live) (su O (M (Az (i+1)) o) live),fun j e=>j=i0/\∃o,r=.brk o/\Rn e (su O (M 0 o) jl),fun _=>∃v,r=.ret v/\False⟩ (su O (M i s) live))
  (C:∀i s,¬i<b->WP S c ⟨fun _=>False,fun j e=>j=i0/\Rn e (su O (M 0 s) jl),fun _=>False⟩ (su O (M i s) live))
  (D:∀s,k s=some r->n (su O (M 0 s) jl)):WP S (.block i0 (.loop live c)) ⟨n,x,t⟩ O:=
 Qc (R:=fun _ _=>False) h (u.out p) w A B C D (fun v e hv _=>by cases hv)
theorem TK{f:σ->Option (C9 σ ρ)}{R:ρ->AA->Prop}{M:σ->List (Nat×EV)}(h:og (GO f s0) k kr=some r)(w:O.po live=su O (M s0) live)
  (A:∀s r,f s=some r->(∀k,((su O (M s) live).get k).WF)->WP S c ⟨fun e=>∃p,r=.next p/\Rn (e.po live) (su O (M p) live),fun j e=>j=i0/\∃p,r=.brk p/\Rn e (su O (M p) jl),fun e=>∃v,r=.ret v/\R v e⟩ (su O (M s) live))
  (B:∀s,k s=some r->n (su O (M s) jl))(C:∀v e,kr v=some r->R v e->t e):WP S (.block i0 (.loop live c)) ⟨n,x,t⟩ O:=by
 obtain ⟨o,ho,h⟩:=QS h;refine dk ho (fun s=>su O (M s) live) (fun s=>su O (M s) jl) R w (fun s r hf D=>⟨PC.rl S c _ _ (A s r hf D).out _ (fun e he=>?_) (fun j e he=>?_) (fun _ h=>h)⟩) (fun s E=>B s (UD h E)) (fun v e hv=>C v e (UE h hv))
 .obtain⟨p,u,e2⟩:=he;exact⟨p,u,e2.out⟩
 .obtain⟨F,p,u,e2⟩:=he;exact⟨F,p,u,e2.out⟩
theorem eQ{f:σ->Option (C9 σ β)}{R:β->AA->Prop}{M:σ->List (Nat×EV)}(_:HW i0 M)(_:HR R)(p:R r=t)(h:og (GO f s0) k (fun v=>some v)=some r)(_:c.xl i0=some jl)(u:O.po live=su O (M s0) live)
  (w:∀s r,f s=some r->(∀k,((su O (M s) live).get k).WF)->WP S c ⟨fun e=>∃o,r=.next o/\Rn (e.po live) (su O (M o) live),fun j e=>j=i0/\∃o,r=.brk o/\Rn e (su O (M o) jl),fun e=>∃v,r=.ret v/\R v e⟩ (su O (M s) live))
  (A:∀s,k s=some r->n (su O (M s) jl)):WP S (.block i0 (.loop live c)) ⟨n,x,t⟩ O:=
 TK h u w A (fun v e hv B=>by cases hv;rw[<-p];exact B)
theorem eP{f:σ->Option (C9 σ ρ)}{k:σ->Option (C9 τ ρ)}{r:C9 τ ρ}{R:ρ->AA->Prop}{M:σ->List (Nat×EV)}(_:HW i0 M)(h:og (GO f s0) k (fun v=>some (.ret v))=some r)(_:c.xl i0=some jl)(p:O.po live=su O (M s0) live)
  (u:∀s r,f s=some r->(∀k,((su O (M s) live).get k).WF)->WP S c ⟨fun e=>∃o,r=.next o/\Rn (e.po live) (su O (M o) live),fun j e=>j=i0/\∃o,r=.brk o/\Rn e (su O (M o) jl),fun e=>∃v,r=.ret v/\R v e⟩ (su O (M s) live))
  (w:∀s,k s=some r->n (su O (M s) jl)):WP S (.block i0 (.loop live c)) ⟨n,x,fun e=>∃v,r=.ret v/\R v e⟩ O:=
 TK h p u w (fun v e hv A=>by cases hv;exact⟨v,rfl,A⟩)
theorem eM{f:σ->Option (C9 σ ρ)}{M:σ->List (Nat×EV)}(_:HW i0 M)(h:og (GO f s0) k (fun _=>none)=some r)(_:c.xl i0=some jl)(p:O.po live=su O (M s0) live)
  (u:∀s r,f s=some r->(∀k,((su O (M s) live).get k).WF)->WP S c ⟨fun e=>∃o,r=.next o/\Rn (e.po live) (su O (M o) live),fun j e=>j=i0/\∃o,r=.brk o/\Rn e (su O (M o) jl),fun _=>∃v,r=.ret v/\False⟩ (su O (M s) live))
  (w:∀s,k s=some r->n (su O (M s) jl)):WP S (.block i0 (.loop live c)) ⟨n,x,t⟩ O:=
 TK (R:=fun _ _=>False) h p u w (fun v e hv _=>by cases hv)
end loops
end
end Go.Sf
namespace Go.Sf
section
variable{P:Program}{S:FuncId->Fq->Ap->Prop}{K:AA->Prop}{os:List PR}{O:AA}{d:Nat}{α β:Type}{k:α->Option β}{r:β}
variable{j:Int}
theorem d6{n:Nat}{x i:AD}{es:Fq}{e:α->TV}{l:List α}{ik:IntKind}(h:(idx l j).bind k=some r)(p:x.val O=some (.list n es))(hi:i.val O=some (.int ik j))(he:es=l.map e)
  (u:∀a,idx l j=some a->k a=some r->WO S K os ((d,.tv (.pt (e a).cells))::O)):WO S K (⟨some d,.ur x i n,none⟩::os) O:=by
 obtain ⟨a,o,h⟩:=bind_some h;exact gX p hi he o rfl (u a o h)
variable{ka kb:IntKind}
theorem eJ{β:Type}{γ:Type}{k:List γ->Option β}{r:β}{n:Nat}{x:AD}{lo hi:Option AD}{es:Fq}{e:γ->TV}{l:List γ}{a b:Int}(h:(tR l a b).bind k=some r)(w:x.val O=some (.list n es))(he:es=l.map e)(o:Df O 0 lo=some (.int ka a))(p:Df O l.length hi=some (.int kb b))
  (A:∀m,tR l a b=some m->k m=some r->WO S K os ((d,.tv (.list n (m.map e)))::O)):WO S K (⟨some d,.tR n x lo hi,none⟩::os) O:=by
 obtain ⟨m,u,h⟩:=bind_some h;exact iE w he o p u (A m u h)
theorem bP{k:ByteArray->Option β}{x:AD}{lo hi:Option AD}{s:ByteArray}{a b:Int}(h:(tz s a b).bind k=some r)(w:x.val O=some (.str s))(o:Df O 0 lo=some (.int ka a))(p:Df O s.size hi=some (.int kb b))
  (A:∀m,tz s a b=some m->k m=some r->WO S K os ((d,.tv (.str m))::O)):WO S K (⟨some d,.tz x lo hi,none⟩::os) O:=by
 obtain ⟨m,u,h⟩:=bind_some h;exact dL w o p u (A m u h)
theorem bO{k:Int->Option β}{x i:AD}{s:ByteArray}{ik:IntKind}(h:(th s j).bind k=some r)(p:x.val O=some (.str s))(hi:i.val O=some (.int ik j))
  (u:∀b,th s j=some b->k b=some r->WO S K os ((d,.tv (.int .u8 b))::O)):WO S K (⟨some d,.th x i,none⟩::os) O:=by
 obtain ⟨b,o,h⟩:=bind_some h;exact dI p hi o (u b o h)
theorem dn{γ:Type}{k:List γ->Option β}{n s:Nat}{y:AD}{es fs:Fq}{e:γ->TV}{l m:List γ}(h:(Ao l m).bind k=some r)(p:O.get s=.ow (.list n es))(u:y.val O=some (.list n fs))(he:es=l.map e)(hf:fs=m.map e)
  (w:∀x,Ao l m=some x->k x=some r->WO S K os ((d,.ow (.list n (x.map e)))::(s,.tv (.list n es))::O)):WO S K (⟨some d,.app n (.s s) y,none⟩::os) O:=by
 obtain ⟨x,o,h⟩:=bind_some h;exact ZC p u he hf o rfl (w x o h)
theorem a6{γ:Type}{k:List γ->Option β}{n s:Nat}{y:AD}{es fs:Fq}{e:γ->TV}{l m:List γ}{f:List γ->TV}(h:(Ao l m).bind k=some r)(p:O.get s=.ow (.list n es))(u:y.val O=some (.list n fs))(he:es=l.map e)(hf:fs=m.map e)(c:Fl e n f)
  (w:∀x,Ao l m=some x->k x=some r->WO S K os ((d,.ow (f x))::(s,.tv (.list n es))::O)):WO S K (⟨some d,.app n (.s s) y,none⟩::os) O:=by
 obtain ⟨x,o,h⟩:=bind_some h;have:=w x o h;rw[c.eq]at this;exact ZC p u he hf o rfl this
theorem a7{γ:Type}{k:List γ->Option β}{n s:Nat}{y:AD}{es fs:Fq}{e:γ->TV}{l m:List γ}(h:(Ao l m).bind k=some r)(p:O.get s=.xo n es)(u:y.val O=some (.list n fs))(he:es=l.map e)(hf:fs=m.map e)(w:O.pc d=true)(hd:d≠s)
  (A:∀x,Ao l m=some x->k x=some r->WO S K os ((d,.xo n (x.map e))::(s,.undef)::O)):WO S K (⟨some d,.t6 n s y,none⟩::os) O:=by
 obtain ⟨x,o,h⟩:=bind_some h;exact cg p u he hf o rfl w hd (A x o h)
theorem a8{γ:Type}{k:List γ->Option β}{n s:Nat}{o:TV}{x:AD}{es:Fq}{e:γ->TV}{z:γ}{l:List γ}{ik:IntKind}(h:(SQ l j z).bind k=some r)(w:O.get s=.xo n es)(A:x.val O=some (.int ik j))(he:es=l.map e)(B:o=e z)(C:O.pc d=true)(hd:d≠s)(p:n=1)(D:o.cells=[o])
  (E:∀m,SQ l j z=some m->k m=some r->WO S K os ((d,.xo n (m.map e))::(s,.undef)::O)):WO S K (⟨some d,.ue n s o x,none⟩::os) O:=by
 obtain ⟨m,u,h⟩:=bind_some h;exact cj w A he B u rfl C hd p D (E m u h)
theorem dt{γ:Type}{k:List γ->Option β}{n s:Nat}{hi:AD}{es:Fq}{e:γ->TV}{l:List γ}{ik:IntKind}(h:(tR l 0 j).bind k=some r)(p:O.get s=.xo n es)(u:hi.val O=some (.int ik j))(he:es=l.map e)(w:O.pc d=true)(hd:d≠s)
  (A:∀m,tR l 0 j=some m->k m=some r->WO S K os ((d,.xo n (m.map e))::(s,.undef)::O)):WO S K (⟨some d,.cut n s hi,none⟩::os) O:=by
 obtain ⟨m,o,h⟩:=bind_some h;exact gQ p u he o rfl w hd (A m o h)
variable{zero:Fq}
theorem eC{γ:Type}{k:List γ->Option β}{n:Nat}{x:AD}{ik:IntKind}{e:γ->TV}{z:γ}(h:(Kf j z).bind k=some r)(p:O.pc d=true)(u:x.val O=some (.int ik j))(w:(match zero with|[t]=>t|ts=>.agg ts)=e z)
  (A:∀m,Kf j z=some m->k m=some r->WO S K os ((d,.xo n (m.map e))::O)):WO S K (⟨some d,.uv n zero x,none⟩::os) O:=by
 obtain ⟨m,o,h⟩:=bind_some h;exact gu p u w o rfl (A m o h)
variable{qi:Option Nat}
theorem eR{x i:AD}{q n:Nat}{es:Fq}{e:α->TV}{l:List α}{ik:IntKind}(h:(idx l j).bind k=some r)(p:x.sv O=some ((q,qi),n,es))(hi:i.val O=some (.int ik j))(he:es=l.map e)(u:(x.ev O).sE=some q)
  (w:∀a,idx l j=some a->k a=some r->WO S K os ((d,.lp q qi (j.toNat*n))::O)):WO S K (⟨some d,.vC x i n,none⟩::os) O:=by
 obtain ⟨a,o,h⟩:=bind_some h;exact iM p hi he o u (w a o h)
section ints
variable{k:Int->Option β}{x y:AD}{ik:IntKind}{a b:Int}
theorem eF(h:(quo a b).bind k=some r)(p:x.val O=some (.int ik a))(u:y.val O=some (.int ik b))(w:∀q,quo a b=some q->k q=some r->WO S K os ((d,.tv (.int ik (ik.wrap q)))::O)):WO S K (⟨some d,.bin .i .quo x y,none⟩::os) O:=by
 obtain ⟨m,o,h⟩:=bind_some h;exact iB p u o (w m o h)
theorem eG(h:(ZB a b).bind k=some r)(p:x.val O=some (.int ik a))(u:y.val O=some (.int ik b))(w:∀q,ZB a b=some q->k q=some r->WO S K os ((d,.tv (.int ik q))::O)):WO S K (⟨some d,.bin .i .rem x y,none⟩::os) O:=by
 obtain ⟨m,o,h⟩:=bind_some h;exact iD p u o (w m o h)
theorem dr{op:BinOp}{o:IntKind}(h:(Ke ik op a b).bind k=some r)(u:x.val O=some (.int ik a))(A:y.val O=some (.int o b))(B:ik=o\/op=.shl\/op=.shr)(C:∀q,Ke ik op a b=some q->k q=some r->WO S K os ((d,.tv (.int ik q))::O)):WO S K (⟨some d,.bin .w op x y,none⟩::os) O:=by
 obtain ⟨m,p,h⟩:=bind_some h;exact gM u A B p (C m p h)
end ints
theorem bN{k:ByteArray->Option β}{x y:AD}{u v:ByteArray}(h:(OL u v).bind k=some r)(p:x.val O=some (.str u))(w:y.val O=some (.str v))(A:∀q,OL u v=some q->k q=some r->WO S K os ((d,.tv (.str q))::O)):WO S K (⟨some d,.bin .s .add x y,none⟩::os) O:=by
 obtain ⟨m,o,h⟩:=bind_some h;exact dG p w o (A m o h)
theorem d7{k:Unit->Option β}{x:AD}{n:Nat}{es:Fq}{e:α->TV}{l:List α}(h:(Uw l).bind k=some r)(o:x.val O=some (.list n es))(he:es=l.map e)(p:∀u,k u=some r->WO S K os ((d,.tv (.bool false))::O)):WO S K (⟨some d,.vn x,none⟩::os) O:=by
 obtain ⟨u,A,h⟩:=bind_some h;refine ZG o he fun b w=>?_;obtain rfl:=V0 A w;exact p u h
theorem Yv{x:AD}{n:Nat}{e:α->TV}{a:α}(h:Ay O (x.ev O)=some (e a).cells)(o:Nat.beq (e a).cells.length n=true)(p:TV.agg (e a).cells=e a)(u:WO S K os ((d,.tv (e a))::O)):WO S K (⟨some d,.uC x n,none⟩::os) O:=by
 have o:=Nat.eq_of_beq_eq_true o;exact SB h (by rw[o];exact Nat.ble_self_eq_true n) (by rw[List.take_of_length_le (by omega),p]) u
theorem d8{s n:Nat}{cs:List AI}{e:α->TV}{a:α}(h:O.get s=.bx cs)(p:cs.map (·.t)=(e a).cells)(o:Nat.beq (e a).cells.length n=true)(u:TV.agg (e a).cells=e a)(w:WO S K os ((d,.tv (e a))::O)):WO S K (⟨some d,.vR s n,none⟩::os) O:=by
 have o:=Nat.eq_of_beq_eq_true o;exact ZH h (by rw[p,o];exact Nat.ble_self_eq_true n) (by rw[p,List.take_of_length_le (by omega),u]) w
theorem bQ{n s:Nat}{v:AD}{cs:List AI}{t:TV}(o:O.get s=.bx cs)(hv:v.ev O=.tv t)(p:t.cells.length=n)(h:Nat.beq n cs.length=true)(u:WO S K os ((s,.bx (t.cells.map (⟨false,·⟩)))::O)):WO S K (⟨none,.uz n s v,none⟩::os) O:=by
 have h:=Nat.eq_of_beq_eq_true h;refine ZK o hv p (by rw[Nat.zero_add,h];exact Nat.ble_self_eq_true _) ?_ u;rw[List.take_zero,Nat.zero_add,h,List.drop_length,List.append_nil,List.nil_append]
theorem bK{x:AD}{n:Nat}{e:α->TV}{a:α}(h:Ay O (x.ev O)=some (((e a).cells.map fun t=>(⟨false,t⟩:AI)).map (·.t)))(o:Nat.beq (e a).cells.length n=true)(p:TV.agg (e a).cells=e a)(u:WO S K os ((d,.tv (e a))::O)):WO S K (⟨some d,.uC x n,none⟩::os) O:=
 Yv (by rw[h,List.map_map];congr 1;exact List.map_id _) o p u
def UQ(n:Nat):Fq->Bool
 |[]=>true|t::ts=>Nat.beq t.cells.length n&&UQ n ts
theorem SO{n:Nat}:∀{ts:Fq},UQ n ts=true->∀t∈ts,t.cells.length=n
 |[],_,_,h=>by cases h
 |t::ts,h,u,o=>by
  simp only[UQ,sc]at h;rcases List.mem_cons.1 o with rfl|o
  .exact Nat.eq_of_beq_eq_true h.1
  .exact SO h.2 u o
variable{parts:List AD}
theorem eA{n:Nat}{ts:Fq}(h:vals O parts=some ts)(o:UQ n ts=true)(p:WO S K os ((d,.ow (.list n ts))::O)):WO S K (⟨some d,.uS n parts,none⟩::os) O:=by
 have:=p.out;refine⟨?_⟩;simp only[wpOps,PR.wp,AC.wp,h,AR];exact⟨SO o,this⟩
variable{zero:Fq}
theorem bA{parts:List (Nat×Nat×AD)}{ts:List (Nat×Nat×TV)}{cs:Fq}{e:α->TV}{a:α}(h:(some a).bind k=some r)(_:En α e)(o:EQ O parts=some ts)(p:DN zero ts=some cs)(he:TV.agg cs=e a)(u:∀x,x=a->k x=some r->WO S K os ((d,.tv (e x))::O)):WO S K (⟨some d,.uy zero parts,none⟩::os) O:=by
 rw [Option.bind_some]at h;exact SA o p he (u a rfl h)
theorem d9{x:AD}{n:Nat}{cs:Fq}{e:α->TV}{a:α}(h:(some a).bind k=some r)(_:En α e)(o:Ay O (x.ev O)=some cs)(p:Nat.ble n cs.length=true)(he:TV.agg (cs.take n)=e a)(u:∀x,x=a->k x=some r->WO S K os ((d,.tv (e x))::O)):WO S K (⟨some d,.uC x n,none⟩::os) O:=by
 rw [Option.bind_some]at h;exact SB o p he (u a rfl h)
inductive Lm{α:Type}(e:α->TV):Fq->List α->Prop
 |nil:Lm e [] []
 |cons {t:TV} {ts:Fq} {a:α} {l:List α}:t=e a->Lm e ts l->Lm e (t::ts) (a::l)
theorem Lm.eq{e:α->TV}{ts:Fq}{l:List α}(h:Lm e ts l):ts=l.map e:=by
 induction h with
 |nil=>rfl|cons h _ o=>rw[h,o];rfl
theorem bL{n:Nat}{ts:Fq}{e:α->TV}{l:List α}(h:vals O parts=some ts)(o:Lm e ts l)(p:∀a,(e a).cells.length=n)(u:WO S K os ((d,.ow (.list n (l.map e)))::O)):WO S K (⟨some d,.uS n parts,none⟩::os) O:=ZI h o.eq p u
theorem bM{n:Nat}{ts:Fq}{e:α->TV}{l:List α}{f:List α->TV}(h:vals O parts=some ts)(p:Lm e ts l)(u:∀a,(e a).cells.length=n)(c:Fl e n f)(o:WO S K os ((d,.ow (f l))::O)):WO S K (⟨some d,.uS n parts,none⟩::os) O:=by
 rw [c.eq]at o;exact ZI h p.eq u o
theorem av{e:α->TV}{n:Ne}{x y:AD}{a:α}{cs:Fq}(o:x.val O=some (e a))(p:y.val O=some (.agg cs))[c:SJ e][i:Decidable (a=c.un cs)](u:TV.agg (e a).cells=e a)(w:(e (c.un cs)).cells=cs)(A:(e a).cells.map TV.kd=n)(B:WO S K os ((d,.tv (.bool (decide (a=c.un cs))))::O)):WO S K (⟨some d,.bin (.a n) .eql x y,none⟩::os) O:=by
 obtain ⟨C,h⟩:=c.dec a (c.un cs);have:i=C:=Subsingleton.elim _ _;subst this;rw[<-u]at o;rw[w]at h;exact WI o p A h B
theorem ax{e:α->TV}{n:Ne}{x y:AD}{a:α}{cs:Fq}(o:x.val O=some (e a))(p:y.val O=some (.agg cs))[c:SJ e][i:Decidable (a=c.un cs)](u:TV.agg (e a).cells=e a)(w:(e (c.un cs)).cells=cs)(A:(e a).cells.map TV.kd=n)(B:WO S K os ((d,.tv (.bool (!decide (a=c.un cs))))::O)):WO S K (⟨some d,.bin (.a n) .neq x y,none⟩::os) O:=by
 obtain ⟨C,h⟩:=c.dec a (c.un cs);have:i=C:=Subsingleton.elim _ _;subst this;rw[<-u]at o;rw[w]at h;exact WJ o p A h B
theorem ar{e:α->TV}{n:Ne}{x y:AD}{a b:α}{i:Decidable (a=b)}(o:x.val O=some (e a))(p:y.val O=some (e b))(c:SJ e)(u:TV.agg (e a).cells=e a)(w:TV.agg (e b).cells=e b)(A:(e a).cells.map TV.kd=n)(B:WO S K os ((d,.tv (.bool (decide (a=b))))::O)):WO S K (⟨some d,.bin (.a n) .eql x y,none⟩::os) O:=by
 obtain ⟨C,h⟩:=c.dec a b;have:i=C:=Subsingleton.elim _ _;subst this;rw[<-u]at o;rw[<-w]at p;exact WI o p A h B
theorem aw{e:α->TV}{n:Ne}{x y:AD}{a b:α}{i:Decidable (a=b)}(o:x.val O=some (e a))(p:y.val O=some (e b))(c:SJ e)(u:TV.agg (e a).cells=e a)(w:TV.agg (e b).cells=e b)(A:(e a).cells.map TV.kd=n)(B:WO S K os ((d,.tv (.bool (!decide (a=b))))::O)):WO S K (⟨some d,.bin (.a n) .neq x y,none⟩::os) O:=by
 obtain ⟨C,h⟩:=c.dec a b;have:i=C:=Subsingleton.elim _ _;subst this;rw[<-u]at o;rw[<-w]at p;exact WJ o p A h B
section calls
variable{x:Option α}{f:FuncId}{ts:Fq}{R:α->Ap}{args:List AD}
theorem dw{s:Nat}{cs:List AI}{row:Fq}(o:O.get s=.bx cs)(f:Fz cs row)(k:WO S K os ((s,.tv (.pt row))::O)):WO S K (⟨none,.vo s,none⟩::os) O:=gU o f.h k
theorem bC{t:α->TV}(h:x.bind k=some r)(c:Ct P x f ts R)(p:vals O args=some ts)(u:∀a,R a=.sh (t a))(w:∀a,x=some a->k a=some r->WO (AJ P) K os ((d,.tv (t a))::O)):WO (AJ P) K (⟨some d,.call f args,none⟩::os) O:=by
 obtain ⟨a,o,h⟩:=bind_some h;have:=c.snd a o;rw[u]at this;exact WM p this (w a o h)
theorem Zb{t:α->TV}(h:x.bind k=some r)(c:Ct P x f ts R)(p:vals O args=some ts)(u:∀a,R a=.own (t a))(w:∀a,x=some a->k a=some r->WO (AJ P) K os ((d,.ow (t a))::O)):WO (AJ P) K (⟨some d,.call f args,none⟩::os) O:=by
 obtain ⟨a,o,h⟩:=bind_some h;have:=c.snd a o;rw[u]at this;exact aJ p this (w a o h)
theorem Zd{t:α->TV}(_:HS d)(h:x.bind k=some r)(c:Ct P x f ts R)(p:vals O args=some ts)(u:∀a,R a=.own (t a))(w:∀a,x=some a->k a=some r->WO (AJ P) K os ((d,.tv (t a))::O)):WO (AJ P) K (⟨some d,.call f args,none⟩::os) O:=by
 obtain ⟨a,o,h⟩:=bind_some h;have:=c.snd a o;rw[u]at this;exact WM p (cT this) (w a o h)
theorem Zf{n:Nat}{t:α->Fq}(h:x.bind k=some r)(c:Ct P x f ts R)(p:vals O args=some ts)(u:∀a,R a=.tL n (t a))(w:∀a,x=some a->k a=some r->WO (AJ P) K os ((d,.ow (.list n (t a)))::O)):WO (AJ P) K (⟨some d,.call f args,none⟩::os) O:=by
 obtain ⟨a,o,h⟩:=bind_some h;have:=c.snd a o;rw[u]at this;exact aM p this (w a o h)
theorem Zc{t:α->Fq}(h:x.bind k=some r)(c:Ct P x f ts R)(p:vals O args=some ts)(u:∀a,R a=.tp (t a))(w:∀a,x=some a->k a=some r->WO (AJ P) K os ((d,.tp (t a))::O)):WO (AJ P) K (⟨some d,.call f args,none⟩::os) O:=by
 obtain ⟨a,o,h⟩:=bind_some h;have:=c.snd a o;rw[u]at this;exact aK p this (w a o h)
theorem ZY{t:α->List AI}(h:x.bind k=some r)(c:Ct P x f ts R)(p:vals O args=some ts)(u:∀a,R a=.sO (t a))(w:∀a,x=some a->k a=some r->WO (AJ P) K os ((d,.tv (.agg ((t a).map fun c=>c.rel.t)))::O)):WO (AJ P) K (⟨some d,.call f args,none⟩::os) O:=by
 obtain ⟨a,o,h⟩:=bind_some h;have:=c.snd a o;rw[u]at this;exact aG p this rfl (w a o h)
theorem ZX{t:α->List AI}(h:x.bind k=some r)(c:Ct P x f ts R)(p:vals O args=some ts)(u:∀a,R a=.sO (t a))(w:∀a,x=some a->k a=some r->WO (AJ P) K os ((d,.sO (t a))::O)):WO (AJ P) K (⟨some d,.tN f args,none⟩::os) O:=by
 obtain ⟨a,o,h⟩:=bind_some h;have:=c.snd a o;rw[u]at this;exact aF p this (w a o h)
theorem Zg{n:Nat}{t:α->Fq}(h:x.bind k=some r)(c:Ct P x f ts R)(p:O.pc d=true)(u:vals O args=some ts)(w:∀a,R a=.tL n (t a))(A:∀a,x=some a->k a=some r->WO (AJ P) K os ((d,.xo n (t a))::O)):WO (AJ P) K (⟨some d,.tj f args,none⟩::os) O:=by
 obtain ⟨a,o,h⟩:=bind_some h;have:=c.snd a o;rw[w]at this;exact aN p u this (A a o h)
theorem XB{γ:Type}{k:List γ->Option β}{x:Option (List γ)}{R:List γ->Ap}{n:Nat}{e:γ->TV}(h:x.bind k=some r)(c:Ct P x f ts R)(p:O.pc d=true)(u:vals O args=some ts)(w:∀a,R a=.own (.list n (a.map e)))(hf:∀a,(e a).flat=true)(A:∀a,x=some a->k a=some r->WO (AJ P) K os ((d,.xo n (a.map e))::O)):WO (AJ P) K (⟨some d,.tj f args,none⟩::os) O:=by
 obtain ⟨a,o,h⟩:=bind_some h;have:=c.snd a o;rw[w]at this;exact X2 p u this rfl hf (A a o h)
theorem ZZ{t:α->TV}(h:x.bind k=some r)(c:Ct P x f ts R)(p:sP O args=some ts)(u:∀a,R a=.sh (t a))(w:∀a,(t a).flat=true)(A:∀a,x=some a->k a=some r->WO (AJ P) K os ((d,.tv (t a))::O)):WO (AJ P) K (⟨some d,.ti f args,none⟩::os) O:=by
 obtain ⟨a,o,h⟩:=bind_some h;have:=c.snd a o;rw[u]at this;exact aH p this (w a) (A a o h)
theorem W8{t:α->Fq}(h:x.bind k=some r)(c:Ct P x f ts R)(p:sP O args=some ts)(u:∀a,R a=.tp (t a))(w:∀a,TV.sF (t a)=true)(A:∀a,x=some a->k a=some r->WO (AJ P) K os ((d,.tp (t a))::O)):WO (AJ P) K (⟨some d,.ti f args,none⟩::os) O:=by
 obtain ⟨a,o,h⟩:=bind_some h;have:=c.snd a o;rw[u]at this;exact Xw p this (w a) (A a o h)
theorem W7{γ:Type}{k:List γ->Option β}{x:Option (List γ)}{R:List γ->Ap}{n:Nat}{e:γ->TV}(h:x.bind k=some r)(c:Ct P x f ts R)(p:sP O args=some ts)(u:∀a,R a=.own (.list n (a.map e)))(hf:∀a,(e a).flat=true)(w:∀a,x=some a->k a=some r->WO (AJ P) K os ((d,.ow (.list n (a.map e)))::O)):WO (AJ P) K (⟨some d,.ti f args,none⟩::os) O:=by
 obtain ⟨a,o,h⟩:=bind_some h;have:=c.snd a o;rw[u]at this;exact Xv p this rfl rfl hf (w a o h)
theorem ZW{t:α->Fq}(h:x.bind k=some r)(c:Ct P x f ts R)(p:vals O args=some ts)(u:∀a,R a=.ext (t a))(w:∀a,x=some a->k a=some r->WO (AJ P) K os ((d,.tp (t a))::O)):WO (AJ P) K (⟨some d,.tM f args,none⟩::os) O:=by
 obtain ⟨a,o,h⟩:=bind_some h;have:=c.snd a o;rw[u]at this;exact aE p this (w a o h)
theorem Tm{i s:Nat}{cs:List AI}{cs':α->List AI}{us:α->Fq}{e:α->EV}(h:x.bind k=some r)(c:Ct P x f ts R)(p:(args[i]?).bind (·.place O)=some (s,0))(u:O.get s=.bx cs)(w:O.ua s none=true)(hd:d≠s)(A:FC O i args=some ts)(B:∀a,R a=.bo cs (cs' a) i (us a))(he:∀a,EV.ofs (us a)=e a)(C:∀a,x=some a->k a=some r->WO (AJ P) K os ((d,e a)::(s,.bx (cs' a))::O)):WO (AJ P) K (⟨some d,.tg f args i,none⟩::os) O:=by
 obtain ⟨a,o,h⟩:=bind_some h;have:=c.snd a o;rw[B]at this;exact aC p u w hd A this (he a) (C a o h)
variable{qi:Option Nat}
theorem Za{k:Fp->Option β}{f:FuncId}{x:AD}{q:Nat}{es:Fq}{l:Fp}{y:Option Fp}{env':Fp->AA}(h:y.bind k=some r)(c:Ct P y f [.list 1 (l.map (TV.int .i64))] Ap.turn)(p:x.sv O=some ((q,qi),1,es))(he:es=l.map (TV.int .i64))(hv:∀a,O.sI q qi 1 (a.map (TV.int .i64))=env' a)(u:∀a,y=some a->k a=some r->WO (AJ P) K os ((d,.tp [])::env' a)):WO (AJ P) K (⟨some d,.tD f x,none⟩::os) O:=by
 obtain ⟨a,o,h⟩:=bind_some h;exact aI p he rfl (c.snd a o) rfl (hv a) (u a o h)
theorem ZV{k:Fp->Option β}{f:FuncId}{x:AD}{q:Nat}{es:Fq}{l:Fp}{y:Option Fp}(h:y.bind k=some r)(c:Ct P y f [.list 1 (l.map (TV.int .i64))] Ap.cut)(u:x.sv O=some ((q,none),1,es))(he:es=l.map (TV.int .i64))(o:q≠d)(w:O.pc d=true)(A:∀a,y=some a->k a=some r->WO (AJ P) K os ((d,.xo 1 (a.map (TV.int .i64)))::(q,.undef)::O)):WO (AJ P) K (⟨some d,.tF f x,none⟩::os) O:=by
 obtain ⟨a,p,h⟩:=bind_some h;exact aD u he rfl o w (c.snd a p) rfl (A a p h)
section values
variable{v:AD}{caps us:Fq}
theorem Ze{t:α->TV}(h:x.bind k=some r)(c:Ct P x f ts R)(hv:v.val O=some (.sR f caps))(p:vals O args=some us)(u:us++caps=ts)(w:∀a,R a=.sh (t a))(A:∀a,x=some a->k a=some r->WO (AJ P) K os ((d,.tv (t a))::O)):WO (AJ P) K (⟨some d,.tq v args,none⟩::os) O:=by
 obtain ⟨a,o,h⟩:=bind_some h;have:=c.snd a o;rw[w,<-u]at this;exact aL hv p this (A a o h)
theorem W9{t:α->TV}(h:x.bind k=some r)(c:Ct P x f ts R)(hv:v.val O=some (.sR f caps))(p:vals O args=some us)(u:us++caps=ts)(w:∀a,R a=.own (t a))(A:∀a,x=some a->k a=some r->WO (AJ P) K os ((d,.ow (t a))::O)):WO (AJ P) K (⟨some d,.tq v args,none⟩::os) O:=by
 obtain ⟨a,o,h⟩:=bind_some h;have:=c.snd a o;rw[w,<-u]at this;exact Xz hv p this (A a o h)
theorem XA{t:α->Fq}(h:x.bind k=some r)(c:Ct P x f ts R)(hv:v.val O=some (.sR f caps))(p:vals O args=some us)(u:us++caps=ts)(w:∀a,R a=.tp (t a))(A:∀a,x=some a->k a=some r->WO (AJ P) K os ((d,.tp (t a))::O)):WO (AJ P) K (⟨some d,.tq v args,none⟩::os) O:=by
 obtain ⟨a,o,h⟩:=bind_some h;have:=c.snd a o;rw[w,<-u]at this;exact X0 hv p this (A a o h)
end values
end calls
inductive GS(g:Nat)(b:Bool):Ne->List PR->Ne->Nat->Prop
 |done {acc:Ne} {os:List PR}:GS g b acc os [] 0
 |step {acc js:Ne} {d n:Nat} {op:AC} {os:List PR}:GS g b (d::acc) os js n->GS g b acc (⟨some d,op,some (g,b)⟩::os) (d::js) (n+1)
 |vM {acc js:Ne} {d n g':Nat} {b':Bool} {op:AC} {os:List PR}:acc.contains g'=true->GS g b (d::acc) os js n->GS g b acc (⟨some d,op,some (g',b')⟩::os) (d::js) (n+1)
def am:Ne->AA->(AA->Prop)->Prop
 |[],z,K=>K z|k::ks,z,K=>∃j,am ks ((k,j)::z) K
structure Gj(js:Ne)(d:Nat)(v:TV)(z e:AA):Prop where
 of::out:am js z fun y=>e=(d,.tv v)::y
theorem Vw{d:Nat}{v:TV}{z e:AA}(h:e=(d,.tv v)::z):Gj [] d v z e:=⟨h⟩
variable{ks:Ne}
theorem Zs{k d:Nat}{v:TV}{j:EV}{z e:AA}(h:Gj ks d v ((k,j)::z) e):Gj (k::ks) d v z e:=⟨j,h.out⟩
theorem bI{js:Ne}{v:TV}{z:AA}(h:Gj js d v z O):WO S (Gj js d v z) [] O:=⟨h⟩
structure RA(js:Ne)(z:AA)(Q:AA->Prop):Prop where
 of::out:∀(d:Nat)(v:TV)(e:AA),Gj js d v z e->∃y,e=(d,.tv v)::y/\Q y
theorem Zt{z:AA}{Q:AA->Prop}(h:Q z):RA [] z Q:=⟨fun _ _ _ he=>⟨z,he.out,h⟩⟩
theorem XU{k:Nat}{z:AA}{Q:AA->Prop}(h:∀j,RA ks ((k,j)::z) Q):RA (k::ks) z Q:=⟨fun d v e he=>by
 obtain ⟨j,o⟩:=he.out;exact(h j).out d v e ⟨o⟩⟩
theorem fZ{dd:Option Nat}{op:AC}{g:Nat}{b q:Bool}(h:O.get g=.tv (.bool q))(o:SL g b q)(p:WO S K (⟨dd,op,none⟩::os) O):WO S K (⟨dd,op,some (g,b)⟩::os) O:=jP h o.out p
theorem d3{ρ:Type}{dd:Option Nat}{op:AC}{g:Nat}{q:Bool}{u v:Option ρ}{r:ρ}(w:O.get g=.tv (.bool q))(h:(if q=true then u else v)=some r)
  (o:SL g true q->q=true->u=some r->WO S K (⟨dd,op,some (g,true)⟩::os) O)(p:O3 g true q->q=false->v=some r->WO S K (⟨dd,op,some (g,true)⟩::os) O):WO S K (⟨dd,op,some (g,true)⟩::os) O:=by
 cases q with
 |true=>exact o ⟨rfl⟩ rfl h|false=>exact p ⟨by rfl⟩ rfl h
theorem dz{ρ:Type}{dd:Option Nat}{op:AC}{g:Nat}{q:Bool}{u v:Option ρ}{r:ρ}(w:O.get g=.tv (.bool q))(h:(if q=true then u else v)=some r)
  (o:O3 g false q->q=true->u=some r->WO S K (⟨dd,op,some (g,false)⟩::os) O)(p:SL g false q->q=false->v=some r->WO S K (⟨dd,op,some (g,false)⟩::os) O):WO S K (⟨dd,op,some (g,false)⟩::os) O:=by
 cases q with
 |true=>exact o ⟨by rfl⟩ rfl h|false=>exact p ⟨rfl⟩ rfl h
theorem bv{op:AC}{g:Nat}{b q:Bool}(h:O.get g=.tv (.bool q))(o:O3 g b q)(p:WO S K os ((d,.sk)::O)):WO S K (⟨some d,op,some (g,b)⟩::os) O:=fY h o.out p
theorem Uh{d n:Nat}{js:Ne}{v:TV}(h:WO S (Gj js d v O) (os.take n) O)(o:RA js O fun e=>WO S K (os.drop n) ((d,.tv v)::e)):WO S K os O:=
 fX n (Gj js d v) h fun e he=>by
  obtain ⟨y,rfl,p⟩:=o.out d v e he;exact p
section groups
variable{g n:Nat}{js:Ne}{c:Bool}{dd gd:Option Nat}{op:AC}{x y z:AD}{gg:Option (Nat×Bool)}
variable{T:K1}{os':List PR}
theorem d5{k:Bool->Option β}(h:(if c=true then T else some false).bind k=some r)(_:GS g true [] os js n)(A:O.get g=.tv (.bool c))(_:os[n]?=some ⟨some d,.pick x y z,gg⟩)
  (p:∀v,SL g true c->c=true->T=some v->WO S (Gj js d (.bool v) O) (os.take (n+1)) O)(u:∀v,O3 g true c->c=false->some false=some v->WO S (Gj js d (.bool v) O) (os.take (n+1)) O)
  (w:∀v,k v=some r->RA js O fun e=>WO S K (os.drop (n+1)) ((d,.tv (.bool v))::e))(ho:os=⟨dd,op,some (g,true)⟩::os'):WO S K (⟨dd,op,some (g,true)⟩::os') O:=by
 obtain ⟨v,hv,h⟩:=bind_some h;rw[<-ho];refine Uh (n:=n+1) (v:=.bool v) ?_ (w v h);rcases Bool.eq_false_or_eq_true c with o|o
 .exact p v ⟨o⟩ o (P2 o hv)
 .exact u v ⟨by rw[o];rfl⟩ o (P1 o hv)
theorem d4{k:Bool->Option β}(h:(if c=true then some true else T).bind k=some r)(_:GS g false [] os js n)(A:O.get g=.tv (.bool c))(_:os[n]?=some ⟨some d,.pick x y z,gg⟩)
  (p:∀v,SL g false c->c=false->T=some v->WO S (Gj js d (.bool v) O) (os.take (n+1)) O)(u:∀v,O3 g false c->c=true->some true=some v->WO S (Gj js d (.bool v) O) (os.take (n+1)) O)
  (w:∀v,k v=some r->RA js O fun e=>WO S K (os.drop (n+1)) ((d,.tv (.bool v))::e))(ho:os=⟨dd,op,some (g,false)⟩::os'):WO S K (⟨dd,op,some (g,false)⟩::os') O:=by
 obtain ⟨v,hv,h⟩:=bind_some h;rw[<-ho];refine Uh (n:=n+1) (v:=.bool v) ?_ (w v h);rcases Bool.eq_false_or_eq_true c with o|o
 .exact u v ⟨by rw[o];rfl⟩ o (P2 o hv)
 .exact p v ⟨o⟩ o (P1 o hv)
theorem dy{e:Bool}(ho:os=⟨dd,op,some (g,true)⟩::os')(_:GS g true [] os js n)(u:O.get g=.tv (.bool c))(_:os[n]?=some ⟨some d,.pick x y z,gg⟩)
  (h:SL g true c->c=true->WO S (Gj js d (.bool e) O) (os.take (n+1)) O)(o:O3 g true c->c=false->WO S (Gj js d (.bool false) O) (os.take (n+1)) O)
  (p:RA js O fun z=>WO S K (os.drop (n+1)) ((d,.tv (.bool (c&&e)))::z)):WO S K (⟨dd,op,some (g,true)⟩::os') O:=by
 rw [<-ho];refine Uh (n:=n+1) (v:=.bool (c&&e)) ?_ p;cases c
 .exact o ⟨rfl⟩ rfl
 .exact h ⟨rfl⟩ rfl
theorem dx{e:Bool}(ho:os=⟨dd,op,some (g,false)⟩::os')(_:GS g false [] os js n)(u:O.get g=.tv (.bool c))(_:os[n]?=some ⟨some d,.pick x y z,gg⟩)
  (h:SL g false c->c=false->WO S (Gj js d (.bool e) O) (os.take (n+1)) O)(o:O3 g false c->c=true->WO S (Gj js d (.bool true) O) (os.take (n+1)) O)
  (p:RA js O fun z=>WO S K (os.drop (n+1)) ((d,.tv (.bool (c||e)))::z)):WO S K (⟨dd,op,some (g,false)⟩::os') O:=by
 rw [<-ho];refine Uh (n:=n+1) (v:=.bool (c||e)) ?_ p;cases c
 .exact h ⟨rfl⟩ rfl
 .exact o ⟨rfl⟩ rfl
end groups
variable{qi:Option Nat}{j:Int}
theorem eT{x:AD}{q n i:Nat}{es row:Fq}{e:α->TV}{l:List α}{a:α}{t:TV}(h:x.ev O=.lp q qi (j.toNat*n+i))(o:O.sf q qi=some (n,es))(he:es=l.map e)(p:∀a,(e a).cells.length=n)(u:idx l j=some a)(hi:Nat.blt i n=true)(w:(e a).cells=row)(A:row[i]?=some t)
  (B:WO S K os ((d,.tv t)::O)):WO S K (⟨some d,.vL x,none⟩::os) O:=ZM h o he p u rfl hi w A B
theorem bS{x:AD}{q n:Nat}{es row:Fq}{e:α->TV}{l:List α}{a:α}{t:TV}(h:x.ev O=.lp q qi (j.toNat*n))(o:O.sf q qi=some (n,es))(he:es=l.map e)(p:∀a,(e a).cells.length=n)(u:idx l j=some a)(hi:Nat.blt 0 n=true)(w:(e a).cells=row)(A:row[0]?=some t)
  (B:WO S K os ((d,.tv t)::O)):WO S K (⟨some d,.vL x,none⟩::os) O:=ZM (i:=0) h o he p u rfl hi w A B
theorem bV{γ:Type}{s:Nat}{v:AD}{q n i:Nat}{env':AA}{es:Fq}{e:α->TV}{g:γ->TV}{l:List α}{a:α}{b:γ}{f:α->γ->α}(_:HX s f)(h:(AD.s s).ev O=.lp q qi (j.toNat*n+i))(p:O.sf q qi=some (n,es))(hv:v.ev O=.tv (g b))(he:es=l.map e)(u:∀a,(e a).cells.length=n)(w:idx l j=some a)(hi:Nat.blt i n=true)(A:(g b).cells=[g b])
  (B:(e (f a b)).cells=(e a).cells.set i (g b))(o:O.sI q qi n ((Bg l j (f a b)).map e)=env')(C:WO S K os env'):WO S K (⟨none,.uB (.s s) v 1,none⟩::os) O:=ZN h p hv he u w rfl hi A B rfl o C
theorem bU{x v:AD}{q n:Nat}{env':AA}{es:Fq}{e:α->TV}{l:List α}{a b:α}(h:x.ev O=.lp q qi (j.toNat*n))(p:O.sf q qi=some (n,es))(hv:v.ev O=.tv (e b))(he:es=l.map e)(u:∀a,(e a).cells.length=n)(w:idx l j=some a)(hi:Nat.blt 0 n=true)(A:(e b).cells=[e b])
  (B:(e b).cells=(e a).cells.set 0 (e b))(o:O.sI q qi n ((Bg l j b).map e)=env')(C:WO S K os env'):WO S K (⟨none,.uB x v 1,none⟩::os) O:=ZN (i:=0) h p hv he u w rfl hi A B rfl o C
end
end Go.Sf
namespace Go.Sf
section
variable{S:FuncId->Fq->Ap->Prop}{K:AA->Prop}{os:List PR}{O:AA}{d:Nat}
theorem gZ{x:AD}{s o:Nat}{es:Fq}(h:x.ev O=.bp s o)(p:O.nat s o=some es)(k:WO S K os ((d,.nh s o .hd)::O)):WO S K (⟨some d,.vq x,none⟩::os) O:=by
 replace k:=k.out;refine⟨?_⟩;simp only[wpOps,PR.wp,AC.wp,h,p,AR];exact k
variable{j:Int}
theorem hO{α:Type}{x:AD}{s o:Nat}{es:Fq}{e:α->TV}{l:List α}{a:α}(h:x.ev O=.nh s o (.el j.toNat))(u:O.nat s o=some es)(he:es=l.map e)(w:idx l j=some a)(k:WO S K os ((d,.nh s o (.rw j.toNat))::O)):WO S K (⟨some d,.vw x,none⟩::os) O:=by
 replace k:=k.out;refine⟨?_⟩;subst he;obtain⟨B,C,A⟩:=FX w;have p:j.toNat<l.length:=(List.getElem?_eq_some_iff.1 A).1;simp only[wpOps,PR.wp,AC.wp,h,u,AR];exact⟨by simpa using p,k⟩
variable{fs:Fq}
theorem cz{q n:Nat}(h:O.get q=.xo n fs)(o:O.pc d=true)(hd:d≠q)(k:WO S K os ((d,.x1 n fs)::(q,.undef)::O)):WO S K (⟨some d,.ut q,none⟩::os) O:=by
 replace k:=k.out;refine⟨?_⟩;simp only[wpOps,PR.wp,AC.wp,h];exact⟨⟨o,hd⟩,k⟩
theorem cv{x:AD}{q s h:Nat}{cs cs':List AI}{es:Fq}(p:x.place O=some (s,h))(u:O.get q=.xn es)(w:O.get s=.bx cs)(A:O.ua s (some h)=true)(B:Nat.blt h cs.length=true)(o:cs.set h ⟨true,.xn es⟩=cs')(k:WO S K os ((s,.bx cs')::(q,.undef)::O)):WO S K (⟨none,.vk x q,none⟩::os) O:=by
 replace k:=k.out;refine⟨?_⟩;subst o;simp only[wpOps,PR.wp,AC.wp,p,u,w];exact⟨A,Nat.le_of_ble_eq_true B,k⟩
theorem cr{q:Nat}{cs:List AI}(h:O.get q=.sO cs)(o:O.pc d=true)(hd:d≠q)(k:WO S K os ((d,.bx cs)::(q,.undef)::O)):WO S K (⟨some d,.uL q,none⟩::os) O:=by
 replace k:=k.out;refine⟨?_⟩;simp only[wpOps,PR.wp,AC.wp,h];exact⟨⟨o,hd⟩,k⟩
theorem gf{s n:Nat}{cs cs':List AI}(h:O.get s=.bx cs)(o:Nat.beq cs.length n=true)(hd:d≠s)(p:(cs.map fun _=>(⟨false,.undef⟩:AI))=cs')(k:WO S K os ((d,.sO cs)::(s,.bx cs')::O)):WO S K (⟨some d,.vO s n,none⟩::os) O:=by
 replace k:=k.out;refine⟨?_⟩;subst p;simp only[wpOps,PR.wp,AC.wp,h];exact⟨Nat.eq_of_beq_eq_true o,hd,k⟩
theorem iF{x v:AD}{s h n:Nat}{p:List (Option AI)}{t:TV}{cs ds cs':List AI}(u:x.place O=some (s,h))(hv:v.val O=some t)(w:O.get s=.bx cs)(A:Cg p t.cells=some ds)(B:Nat.beq t.cells.length n=true)(o:Nat.ble (h+n) cs.length=true)(C:O.ua s none=true)(D:cs.take h++ds++cs.drop (h+n)=cs')
  (k:WO S K os ((s,.bx cs')::O)):WO S K (⟨none,.vj n p x v,none⟩::os) O:=by
 replace k:=k.out;refine⟨?_⟩;subst D;simp only[wpOps,PR.wp,AC.wp,u,hv,w,A,AR];exact⟨Nat.eq_of_beq_eq_true B,Nat.le_of_ble_eq_true o,C,k⟩
variable{j2:Int}
theorem iA{α:Type}{x v:AD}{s o:Nat}{es:Fq}{env':AA}{e:List α->TV}{e2:α->TV}{l:List (List α)}{m:List α}{A b:α}{t:TV}(h:x.ev O=.nh s o (.rp j.toNat j2.toNat))(B:O.nat s o=some es)(hv:v.ev O=.tv t)(he:es=l.map e)(w:∀m,e m=.list 1 (m.map e2))(C:idx l j=some m)(D:idx m j2=some A)(E:t=e2 b)(F:t.cells=[t])(G:t.flat=true)
  (p:O.vg s o ((Bg l j (Bg m j2 b)).map e)=env')(k:WO S K os env'):WO S K (⟨none,.uU x v,none⟩::os) O:=by
 replace k:=k.out;refine⟨?_⟩;subst he p E;obtain⟨J,L,H⟩:=FX C;obtain⟨m0,m1,I⟩:=FX D;have u:j2.toNat<m.length:=(List.getElem?_eq_some_iff.1 I).1;simp only[wpOps,PR.wp,AC.wp,h,B,hv,AR];refine⟨m.map e2,by rw[List.getElem?_map,H];simp[w],by simpa using u,F,G,?_⟩;have:(l.map e).set j.toNat (.list 1 ((m.map e2).set j2.toNat (e2 b)))=(Bg l j (Bg m j2 b)).map e:=by
  simp only[Bg,List.map_set,w]
 rw [this];exact k
end
section
variable{P:Program}{K:AA->Prop}{os:List PR}{O:AA}{d:Nat}{α β γ ρ:Type}{f:FuncId}{args:List AD}{ts:Fq}{R:α->Ap}{x:Option α}{k:α->Option ρ}{r:ρ}
variable{j:Int}
theorem eD{x i:AD}{s o:Nat}{es:Fq}{e:α->TV}{l:List α}{ik:IntKind}{S:FuncId->Fq->Ap->Prop}(h:(idx l j).bind k=some r)(u:x.ev O=.nh s o .hd)(w:O.nat s o=some es)(hi:i.val O=some (.int ik j))(he:es=l.map e)
  (A:∀a,idx l j=some a->k a=some r->WO S K os ((d,.nh s o (.el j.toNat))::O)):WO S K (⟨some d,.uQ x i,none⟩::os) O:=by
 obtain ⟨a,p,h⟩:=bind_some h;have B:=(A a p h).out;refine⟨?_⟩;subst he;obtain⟨D,F,E⟩:=FX p;have C:j.toNat<l.length:=(List.getElem?_eq_some_iff.1 E).1;simp only[wpOps,PR.wp,AC.wp,u,w,hi,AR];exact⟨D,by simp only[f0];omega,B⟩
variable{e2:α->TV}{j2:Int}
theorem eE{x i:AD}{s o:Nat}{es:Fq}{e:List α->TV}{l:List (List α)}{m:List α}{ik:IntKind}{S:FuncId->Fq->Ap->Prop}(h:(idx m j2).bind k=some r)(u:x.ev O=.nh s o (.rw j.toNat))(w:O.nat s o=some es)(hi:i.val O=some (.int ik j2))(he:es=l.map e)(A:∀m,e m=.list 1 (m.map e2))(B:idx l j=some m)
  (C:∀a,idx m j2=some a->k a=some r->WO S K os ((d,.nh s o (.rp j.toNat j2.toNat))::O)):WO S K (⟨some d,.uQ x i,none⟩::os) O:=by
 obtain ⟨b,p,h⟩:=bind_some h;have D:=(C b p h).out;refine⟨?_⟩;subst he;obtain⟨H,I,F⟩:=FX B;obtain⟨m0,m1,G⟩:=FX p;have E:j2.toNat<m.length:=(List.getElem?_eq_some_iff.1 G).1;simp only[wpOps,PR.wp,AC.wp,u,w,hi,AR];exact⟨m0,m.map e2,by rw[List.getElem?_map,F];simp[A],by simp only[f0];omega,D⟩
theorem ay{mm q s o:Nat}{es fs:Fq}{cs cs':List AI}{n:Nat}{e:β->TV}{l:List β}{m:β}{k:List β->Option ρ}{S:FuncId->Fq->Ap->Prop}(h:(Ao l [m]).bind k=some r)(w:O.get mm=.nh s o .hd)(A:O.get q=.x1 n fs)(B:O.get s=.bx cs)(C:O.nat s o=some es)(he:es=l.map e)(hf:TV.list n fs=e m)(u:O.pc d=true)(hd:d≠mm/\d≠q/\mm≠q)(D:cs.set o ⟨false,.undef⟩=cs')
  (E:∀a,Ao l [m]=some a->k a=some r->WO S K os ((d,.xn (a.map e))::(s,.bx cs')::(mm,.undef)::(q,.undef)::O)):WO S K (⟨some d,.tK mm q,none⟩::os) O:=by
 obtain ⟨a,p,h⟩:=bind_some h;have G:=(E a p h).out;refine⟨?_⟩;subst he D;unfold Ao at p;split at p
 .rename_i F;cases p;simp only[wpOps,PR.wp,AC.wp,w,A,B,C,AR];refine⟨by simpa using F,⟨u,hd⟩,?_⟩;rw[hf];simpa[AA.put]using G
 .cases p
theorem W6{u:α->List β}{v:α->List γ}{w A:Nat}{p:β->TV}{e2:γ->TV}(h:x.bind k=some r)(c:Ct P x f ts R)(E:vals O args=some ts)(F:∀a,R a=.sO [⟨true,.list w ((u a).map p)⟩,⟨true,.list A ((v a).map e2)⟩])(G:∀a,(p a).flat=true)(H:∀a,(e2 a).flat=true)
  (I:∀a,x=some a->k a=some r->WO (AJ P) K os ((d,.sO [⟨true,.xl w ((u a).map p)⟩,⟨true,.xl A ((v a).map e2)⟩])::O)):WO (AJ P) K (⟨some d,.tw f args,none⟩::os) O:=by
 obtain ⟨a,D,h⟩:=bind_some h;have C:=c.snd a D;rw[F]at C;have J:=(I a D h).out;have o:∀{τ:Type}(e:τ->TV)(l:List τ),(∀a,(e a).flat=true)->TV.sF (l.map e)=true:=by
  intro τ e l he
  induction l with
  |nil=>rfl|cons a l L=>simp[TV.sF,he,L]
 refine ⟨?_⟩;simp only[wpOps,PR.wp,AC.wp,E,AR];refine⟨_,C,fun c B=>?_,fun _=>J⟩;simp only[List.mem_cons,List.not_mem_nil,or_false]at B;rcases B with rfl|rfl
 .exact⟨_,_,rfl,o _ _ G⟩
 .exact⟨_,_,rfl,o _ _ H⟩
inductive NL:List AI->List AI->Prop
 |nil {xs:List AI}:xs=[]->NL xs []
 |cons {xs ys zs:List AI} {o:Bool} {t:TV}:xs=⟨o,t⟩::ys->NL ys zs->NL xs (⟨o,t⟩::zs)
theorem NL.eq{xs o:List AI}(h:NL xs o):xs=o:=by
 induction h with
 |nil h=>exact h|cons h _ p=>rw[h,p]
theorem eK{S:FuncId->Fq->Ap->Prop}{K:AA->Prop}{os:List PR}{O:AA}{n s h:Nat}{x v:AD}{cs cs':List AI}{t:TV}(o:x.place O=some (s,h))(p:O.get s=.bx cs)(hv:v.ev O=.tv t)(u:t.cells.length=n)(w:Nat.ble (h+n) cs.length=true)(A:NL (cs.take h++t.cells.map (⟨false,·⟩)++cs.drop (h+n)) cs')
  (k:WO S K os ((s,.bx cs')::O)):WO S K (⟨none,.st n x v,none⟩::os) O:=dM o p hv u w A.eq k
theorem bR{S:FuncId->Fq->Ap->Prop}{K:AA->Prop}{os:List PR}{O:AA}{s h q:Nat}{x:AD}{cs cs':List AI}{t:TV}(o:x.place O=some (s,h))(p:O.get s=.bx cs)(hv:O.get q=.ow t)(u:q≠s)(w:Nat.blt h cs.length=true)(A:NL (cs.set h ⟨true,t⟩) cs')
  (k:WO S K os ((s,.bx cs')::(q,.tv t)::O)):WO S K (⟨none,.st 1 x (.s q),none⟩::os) O:=ZL o p hv u w A.eq k
theorem RM:∀(ts:List (Nat×Nat×TV))(done rest:Fq),PS done.length ts=true->(FV ts).length<=rest.length->DN (done++rest) ts=some (done++(FV ts++rest.drop (FV ts).length))
 |[],done,rest,_,h=>by simp[DN,FV]|(i,n,t)::r,done,rest,p,h=>by
  simp only[PS,sc,Nat.beq_eq]at p;obtain⟨⟨rfl,o⟩,A⟩:=p;simp only[FV,ca]at h;have u:n<=rest.length:=by omega
  simp only[DN];rw[ae ⟨o,by rw[ca];omega⟩];have w:done++rest=done++(rest.take n++rest.drop n):=by rw[List.take_append_drop]
  rw [w,OD t.cells done (rest.take n) (rest.drop n) (by rw[ci];omega),<-fd];rw[RM r (done++t.cells) (rest.drop n) (by rw[ca,o];exact A) (by rw[List.length_drop];omega)];simp[FV,List.drop_drop,o]
inductive NT:Fq->Fq->Prop
 |nil {xs:Fq}:xs=[]->NT xs []
 |cons {xs ys zs:Fq} {t:TV}:xs=t::ys->NT ys zs->NT xs (t::zs)
theorem NT.eq{xs o:Fq}(h:NT xs o):xs=o:=by
 induction h with
 |nil h=>exact h|cons h _ p=>rw[h,p]
variable{zero:Fq}
theorem bB{S:FuncId->Fq->Ap->Prop}{K:AA->Prop}{os:List PR}{O:AA}{d:Nat}{parts:List (Nat×Nat×AD)}{ts:List (Nat×Nat×TV)}{cs:Fq}(h:EQ O parts=some ts)(o:PS 0 ts=true)(p:Nat.ble (FV ts).length zero.length=true)(u:NT (FV ts++zero.drop (FV ts).length) cs)(k:WO S K os ((d,.tv (.agg cs))::O)):WO S K (⟨some d,.uy zero parts,none⟩::os) O:=
 SA h (by have:=RM ts [] zero o (Nat.le_of_ble_eq_true p);simpa using this) (by rw[u.eq]) k
structure HY{α A B C:Type}(n:Nat)(f:A->B->C->α)(g1:A->TV)(g2:B->TV)(g3:C->TV):Prop where
variable{qi:Option Nat}
theorem bW{S:FuncId->Fq->Ap->Prop}{K:AA->Prop}{os:List PR}{O:AA}{α A B C:Type}{f:A->B->C->α}{o:Nat}{v:AD}{q n:Nat}{env':AA}{es cs cs':Fq}{e:α->TV}{l:List α}{a:α}{E:A}{F:B}{G:C}{p:A->TV}{u:B->TV}{w:C->TV}(_:HY o f p u w)(h:(AD.s o).ev O=.lp q qi (j.toNat*n))(H:O.sf q qi=some (n,es))(he:es=l.map e)(I:∀a,(e a).cells.length=n)(hv:v.ev O=.tv (.agg cs))(J:NT cs cs')(L:cs'=[p E,u F,w G])(hf:∀a b c,TV.agg [p a,u b,w c]=e (f a b c))(N:idx l j=some a)(U:Nat.blt 0 n=true)
  (D:O.sI q qi n ((Bg l j (f E F G)).map e)=env')(k:WO S K os env'):WO S K (⟨none,.uB (.s o) v n,none⟩::os) O:=ZO h H (by rw[hv,J.eq,L,hf]) he I N U D k
theorem eU{S:FuncId->Fq->Ap->Prop}{α:Type}{x v:AD}{q n:Nat}{env':AA}{es:Fq}{e:α->TV}{l:List α}{a b:α}(h:x.ev O=.lp q qi (j.toNat*n))(p:O.sf q qi=some (n,es))(he:es=l.map e)(u:∀a,(e a).cells.length=n)(hv:v.ev O=.tv (e b))(w:idx l j=some a)(A:Nat.blt 0 n=true)
  (o:O.sI q qi n ((Bg l j b).map e)=env')(k:WO S K os env'):WO S K (⟨none,.uB x v n,none⟩::os) O:=ZO h p hv he u w A o k
theorem ZU{i q:Nat}{cs:List AI}{o:Fq}{p:α->Ap}{e:α->EV}(h:x.bind k=some r)(c:Ct P x f o R)(hi:args[i]?=some (.s q))(B:O.get q=.sO cs)(hd:d≠q)(C:FC O i args=some ts)(u:ts.set i (.agg (cs.map fun _=>.undef))=o)(D:∀a,R a=.ag cs i (p a))(he:∀a,(p a).uI=e a)
  (E:∀a,x=some a->k a=some r->WO (AJ P) K os ((d,e a)::(q,.undef)::O)):WO (AJ P) K (⟨some d,.tG f args i,none⟩::os) O:=by
 obtain ⟨a,A,h⟩:=bind_some h;have w:=c.snd a A;rw[D]at w;have F:=(E a A h).out;refine⟨?_⟩;subst u;simp only[wpOps,PR.wp,AC.wp,hi,B,C,AR];refine⟨hd,p a,w,fun _=>?_⟩;rw[he];exact F
end
section
variable{S:FuncId->Fq->Ap->Prop}{K:AA->Prop}{os:List PR}{O:AA}{d:Nat}
theorem gq(k:∀b,WO S K os ((d,.mx (.mp b []))::O)):WO S K (⟨some d,.uT,none⟩::os) O:=
 ⟨fun b=>(k b).out⟩
variable{kvs:Bi}
theorem g7{s b:Nat}(h:O.get s=.mx (.mp b kvs))(k:WO S K os ((d,.tv (.tu b))::O)):WO S K (⟨some d,.vh s,none⟩::os) O:=by
 replace k:=k.out;refine⟨?_⟩;simp only[wpOps,PR.wp,AC.wp,h];exact k
variable{ky:Int×Int}
theorem gv{s b:Nat}{m x:AD}{t:TV}(h:O.get s=.mx (.mp b kvs))(o:m.val O=some (.tu b))(p:x.val O=some t)(u:t.uM?=some ky)(k:WO S K os ((d,.tp [.int .i64 ((kvs.look ky).getD 0),.bool (kvs.look ky).isSome])::O)):WO S K (⟨some d,.vI s m x,none⟩::os) O:=by
 replace k:=k.out;refine⟨?_⟩;simp only[wpOps,PR.wp,AC.wp,h,o,p,u,AR];exact⟨trivial,k⟩
theorem g6{s b:Nat}{m x v:AD}{t:TV}{n:Int}(h:O.get s=.mx (.mp b kvs))(o:m.val O=some (.tu b))(p:x.val O=some t)(u:t.uM?=some ky)(hv:v.val O=some (.int .i64 n))(k:WO S K os ((s,.mx (.mp b (kvs.set ky n)))::O)):WO S K (⟨none,.vf s m x v,none⟩::os) O:=by
 replace k:=k.out;refine⟨?_⟩;simp only[wpOps,PR.wp,AC.wp,h,o,p,u,hv,AR];exact⟨trivial,k⟩
variable{todo:Bi}
theorem gn{s:Nat}{p:(Int×Int)×Int}(h:O.get s=.mx (.mi (some p) todo))(k:WO S K os ((d,.tp [Lc p.1,.int .i64 p.2])::O)):WO S K (⟨some d,.vu s,none⟩::os) O:=by
 replace k:=k.out;refine⟨?_⟩;simp only[wpOps,PR.wp,AC.wp,h];exact k
theorem WR{s b:Nat}{ts:Fq}(h:O.get s=.mx (.tm b kvs ts))(k:WO S K os ((d,.tp (.tu b::ts))::O)):WO S K (⟨some d,.vh s,none⟩::os) O:=by
 replace k:=k.out;refine⟨?_⟩;simp only[wpOps,PR.wp,AC.wp,h];exact k
theorem WQ{s:Nat}{ts:Fq}(h:O.get s=.tp ts)(k:WO S K os ((d,.tp ts)::O)):WO S K (⟨some d,.vh s,none⟩::os) O:=by
 replace k:=k.out;refine⟨?_⟩;simp only[wpOps,PR.wp,AC.wp,h];exact k
theorem ZJ{s b:Nat}{ts:Fq}{m:AD}(h:O.get s=.mx (.tm b kvs ts))(o:m.val O=some (.tu b))(hd:d≠s)(k:WO S K os ((d,.mx (.mi none kvs))::(s,.undef)::O)):WO S K (⟨some d,.su s m,none⟩::os) O:=by
 replace k:=k.out;refine⟨?_⟩;simp only[wpOps,PR.wp,AC.wp,h,o];exact⟨⟨hd,trivial⟩,k⟩
theorem gw{s:Nat}{last:Option ((Int×Int)×Int)}(h:O.get s=.mx (.mi last todo))(hd:d≠s)(u:todo=[]->WO S K os ((d,.tp [.bool false])::O))(w:∀p o,todo.Perm (p::o)->WO S K os ((d,.tp [.bool true,Lc p.1,.int .i64 p.2])::(s,.mx (.mi (some p) o))::O)):WO S K (⟨some d,.vB s,none⟩::os) O:=by
 refine ⟨?_⟩;simp only[wpOps,PR.wp,AC.wp,h];exact⟨hd,fun e=>(u e).out,fun p t A=>(w p t A).out⟩
theorem Xy{f:FuncId}{args:List AD}{ts us:Fq}(hv:vals O args=some ts)(h:S f ts (.mpr kvs us))(k:∀b,WO S K os ((d,.mx (.tm b kvs us))::O)):WO S K (⟨some d,.tB f args,none⟩::os) O:=by
 refine ⟨?_⟩;simp only[wpOps,PR.wp,AC.wp,hv,AR];exact .inr ⟨kvs,us,h,fun _ b=>(k b).out⟩
theorem Xx{f:FuncId}{args:List AD}{ts us:Fq}(hv:vals O args=some ts)(h:S f ts (.tp us))(k:WO S K os ((d,.tp us)::O)):WO S K (⟨some d,.tB f args,none⟩::os) O:=by
 refine ⟨?_⟩;simp only[wpOps,PR.wp,AC.wp,hv,AR];exact .inl ⟨us,h,fun _=>k.out⟩
theorem Hc{ss:Ne}{s:Nat}{r:AA}{m:MX}(h:O.get s=.mx m)(k:Kp O ss r):Kp O (s::ss) ((s,.mx m)::r):=JY h k
theorem gA{ss:Ne}{s:Nat}{r:AA}{q:List (Nat×EV)}{m:MX}(h:look q s=none)(o:O.get s=.mx m)(k:Nm O q ss r):Nm O q (s::ss) ((s,.mx m)::r):=LC h o k
end
def JZ(r:Bi×Int):Ap:=if r.2=0 then .mpr r.1 [.int .i64 r.2]else .tp [.undef,.int .i64 r.2]
structure iU(o:Nat):Prop where
variable{kvs:Bi}
theorem Z3{h:List RV}{O:AA}{e:Int}(he:(!decide (e=0))=true)(o:h.length≠1)(p:DF O h=some [.undef,.int .i64 e]):BR h (JZ (kvs,e)) O:=by
 simp only[Bool.not_eq_true',decide_eq_false_iff_not]at he;simp only[JZ,az he];exact⟨o,p⟩
theorem Z4{s o b:Nat}{h:List RV}{O:AA}(_:iU o)(p:O.get s=.tv (.tu b))(u:O.get o=.mx (.mp b kvs))(w:h≠[])(A:DF O h=some [.int .i64 0]):BR (.tmp s::h) (JZ (kvs,0)) O:=by
 simp only[JZ,if_true,BR];exact⟨w,⟨b,o,p,u⟩,A⟩
section
variable{P:Program}{α β:Type}{K:AA->Prop}{os:List PR}{O:AA}{d:Nat}{x:Option α}{k:α->Option β}{r:β}{f:FuncId}{args:List AD}{ts:Fq}{R:α->Ap}
theorem W5{i s:Nat}{cs:List AI}{q:α->Bool}{u v:α->List AI}{us:α->Fq}{e:α->EV}(h:x.bind k=some r)(c:Ct P x f ts R)(A:(args[i]?).bind (·.place O)=some (s,0))(B:O.get s=.bx cs)(C:O.ua s none=true)(hd:d≠s)(D:FC O i args=some ts)(E:∀a,R a=.bo cs (if q a=true then u a else v a) i (us a))(he:∀a,EV.ofs (us a)=e a)
  (F:∀a,x=some a->q a=true->k a=some r->WO (AJ P) K os ((d,e a)::(s,.bx (u a))::O))(G:∀a,x=some a->q a=false->k a=some r->WO (AJ P) K os ((d,e a)::(s,.bx (v a))::O)):WO (AJ P) K (⟨some d,.tg f args i,none⟩::os) O:=by
 refine Tm h c A B C hd D E he (fun a o p=>?_);cases w:q a with
 |true=>rw[ae rfl];exact F a o w p|false=>rw[az (by simp)];exact G a o w p
end
section
variable{S:FuncId->Fq->Ap->Prop}{a b:PC}{O:AA}
variable{Q:Q}
theorem bF{c:AD}{β:Type}{q:Bool}{u v:Option β}{r:β}(p:c.val O=some (.bool q))(h:(if q=true then u else v)=some r)(o:q=true)(k:u=some r->WP S a Q O):WP S (.cond c a b) Q O:=
 Mg p o (k (P2 o h))
theorem bE{c:AD}{β:Type}{q:Bool}{u v:Option β}{r:β}(p:c.val O=some (.bool q))(h:(if q=true then u else v)=some r)(o:q=false)(k:v=some r->WP S b Q O):WP S (.cond c a b) Q O:=
 Mf p o (k (P1 o h))
end
end Go.Sf
set_option maxRecDepth 100000
namespace Go.Sf
theorem au{P:Prop}(p:P:=by
 repeat' (first
  |(show WO _ _ _ _;first
    |(apply Kv;exact rfl)
    |(apply cy;exact rfl;exact rfl)
    |(apply gc;exact rfl)
    |(apply NW;exact rfl;exact rfl)
    |(apply iI;exact rfl)
    |(apply jp;exact rfl)
    |apply JS
    |(apply ZE;exact rfl)
    |(apply ZD;exact rfl)
    |(apply WN;exact rfl;exact rfl)
    |(apply WK;exact rfl)
    |(apply fZ;exact rfl;assumption)
    |(apply bv;exact rfl;assumption)
    |(apply jQ;exact rfl)
    |(apply aQ;exact rfl;assumption;exact rfl)
    |(apply aP;exact rfl;assumption;exact rfl)
    |(apply gS;exact rfl;exact rfl)
    |(apply gl;exact rfl;exact rfl)
    |(apply gK;exact rfl;exact rfl)
    |(apply VD;exact rfl;exact rfl)
    |(apply gk;exact rfl;exact rfl)
    |(apply iH;exact rfl;exact rfl)
    |(apply gW;exact rfl;exact rfl)
    |(apply gV;exact rfl;exact rfl)
    |(apply WL;exact rfl;exact rfl)
    |(apply gj;exact rfl;(first|exact rfl|exact Ml.eq))
    |(apply d6;exact h;exact rfl;exact rfl;(first|exact rfl|exact Ml.eq);intro x o h)
    |(apply bC;exact h;infer_instance;exact rfl;exact fun _=>rfl;intro x o h)|(apply Zc;exact h;infer_instance;exact rfl;exact fun _=>rfl;intro x o h)|(apply Zd;assumption;exact h;infer_instance;exact rfl;exact fun _=>rfl;intro x o h)|(apply Zb;exact h;infer_instance;exact rfl;exact fun _=>rfl;intro x o h)|(apply Zf;exact h;infer_instance;exact rfl;exact fun _=>rfl;intro x o h)|(apply ZY;exact h;infer_instance;exact rfl;exact fun _=>rfl;intro x o h)
    |(apply d3;exact rfl;(with_reducible exact h);intro A C h;rotate_left;intro A C h;rotate_left)
    |(apply dz;exact rfl;(with_reducible exact h);intro A C h;rotate_left;intro A C h;rotate_left)
    |(apply d5 h (ho:=rfl);(focus ((repeat(first|apply GS.step|(apply GS.vM;exact rfl)));exact GS.done));exact rfl;exact rfl;intro v A C h;rotate_left;intro v A C h;rotate_left;intro v h;rotate_left)
    |(apply d4 h (ho:=rfl);(focus ((repeat(first|apply GS.step|(apply GS.vM;exact rfl)));exact GS.done));exact rfl;exact rfl;intro v A C h;rotate_left;intro v A C h;rotate_left;intro v h;rotate_left)
    |(apply dy rfl;(focus ((repeat(first|apply GS.step|(apply GS.vM;exact rfl)));exact GS.done));exact rfl;exact rfl;intro A C;rotate_left;intro A C;rotate_left 3)
    |(apply dx rfl;(focus ((repeat(first|apply GS.step|(apply GS.vM;exact rfl)));exact GS.done));exact rfl;exact rfl;intro A C;rotate_left;intro A C;rotate_left 3)
    |apply bI
    |apply dE
    |(apply a6;exact h;exact rfl;exact rfl;(first|exact rfl|exact Ml.eq);(first|exact rfl|exact Ml.eq);infer_instance;intro x o h)
    |(apply dn;exact h;exact rfl;exact rfl;(first|exact rfl|exact Ml.eq);(first|exact rfl|exact Ml.eq);intro x o h)
    |(apply bM;exact rfl;(focus ((repeat(apply Lm.cons;exact rfl));exact Lm.nil));exact fun _=>rfl;infer_instance)|(apply bL;exact rfl;(focus ((repeat(apply Lm.cons;exact rfl));exact Lm.nil));exact fun _=>rfl)
    |(apply eA;exact rfl;exact rfl)
    |(apply d9;(with_reducible exact h);infer_instance;exact rfl;exact rfl;exact rfl;intro x o h)
    |(apply Yv;exact rfl;exact rfl;exact rfl)
    |(apply d8;exact rfl;exact rfl;exact rfl;exact rfl)
    |(apply ZH;exact rfl;exact rfl;exact rfl)
    |(apply bK;exact rfl;exact rfl;exact rfl)
    |(apply SB;exact rfl;exact rfl;exact rfl)
    |(apply bQ;exact rfl;exact rfl;exact rfl;exact rfl)
    |(apply ZK;exact rfl;exact rfl;exact rfl;exact rfl;exact rfl)
    |(apply dN;exact rfl;exact rfl;decide;exact rfl;exact rfl)
    |(apply eK;exact rfl;exact rfl;exact rfl;exact rfl;exact rfl;(focus ((repeat(apply NL.cons;exact rfl));exact NL.nil rfl)))
    |(apply bR;exact rfl;exact rfl;exact rfl;decide;exact rfl;(focus ((repeat(apply NL.cons;exact rfl));exact NL.nil rfl)))
    |(apply dM;exact rfl;exact rfl;exact rfl;exact rfl;exact rfl;exact rfl)
    |(apply ZL;exact rfl;exact rfl;exact rfl;decide;exact rfl;exact rfl)
    |(apply gh;exact rfl;exact rfl;exact rfl;exact rfl;exact rfl)
    |(apply bA;(with_reducible exact h);infer_instance;exact rfl;exact rfl;exact rfl;intro x o h)
    |(apply cm;exact rfl;exact rfl;exact rfl;exact rfl)
    |(apply bB;exact rfl;exact rfl;exact rfl;(focus ((repeat(apply NT.cons;exact rfl));exact NT.nil rfl)))
    |(apply SA;exact rfl;exact rfl;exact rfl)
    |(apply gN;exact rfl)
    |(apply Ze;exact h;infer_instance;exact rfl;exact rfl;exact rfl;exact fun _=>rfl;intro x o h)|(apply XA;exact h;infer_instance;exact rfl;exact rfl;exact rfl;exact fun _=>rfl;intro x o h)|(apply W9;exact h;infer_instance;exact rfl;exact rfl;exact rfl;exact fun _=>rfl;intro x o h)
    |(apply eJ;exact h;exact rfl;(first|exact rfl|exact Ml.eq);exact rfl;exact rfl;intro x o h)
    |(apply dJ;exact rfl)
    |(apply bO;exact h;exact rfl;exact rfl;intro x o h)
    |(apply bP;exact h;exact rfl;exact rfl;exact rfl;intro x o h)
    |(apply hU;exact rfl)
    |(apply gx;exact rfl;exact rfl)
    |(apply gm;exact rfl;exact rfl)
    |(apply gp;exact rfl;exact rfl)
    |(apply g9;exact rfl)
    |(apply gR;exact rfl)
    |(apply g8;exact rfl)
    |(apply gL;exact rfl)
    |(apply ct;exact rfl;exact rfl;exact rfl;exact rfl)
    |(apply cu;exact rfl;exact rfl;exact rfl)
    |(apply dw;exact rfl;infer_instance)
    |(apply cw;exact rfl;exact rfl;exact rfl)
    |(apply aO;exact rfl;exact rfl;exact rfl)
    |(apply dH;exact rfl;exact rfl)
    |(apply dK;exact rfl;exact rfl)
    |(apply cl;exact rfl;exact rfl)
    |(apply cq;exact rfl;exact rfl)
    |(apply ar;exact rfl;exact rfl;infer_instance;exact rfl;exact rfl;exact rfl)
    |(apply aw;exact rfl;exact rfl;infer_instance;exact rfl;exact rfl;exact rfl)
    |refine av rfl rfl rfl rfl rfl ?_
    |refine ax rfl rfl rfl rfl rfl ?_
    |(apply iK;exact rfl)
    |(apply dF;exact rfl)
    |(apply iJ;exact rfl;exact rfl;decide)
    |(apply iC;exact rfl;decide)
    |(apply dO;exact rfl;(first|exact rfl|exact Ml.eq))
    |(apply eR;exact h;exact rfl;exact rfl;(first|exact rfl|exact Ml.eq);exact rfl;intro x o h)
    |(apply iL;exact rfl;exact rfl)
    |(apply bS;exact rfl;exact rfl;exact rfl;exact fun _=>rfl;assumption;exact rfl;exact rfl;exact rfl)|(apply eT;exact rfl;exact rfl;exact rfl;exact fun _=>rfl;assumption;exact rfl;exact rfl;exact rfl)|(apply bV;assumption;exact rfl;exact rfl;exact rfl;exact rfl;exact fun _=>rfl;assumption;exact rfl;exact rfl;exact rfl;exact rfl)|(apply bU;exact rfl;exact rfl;exact rfl;exact rfl;exact fun _=>rfl;assumption;exact rfl;exact rfl;exact rfl;exact rfl)|(apply bW;assumption;exact rfl;exact rfl;exact rfl;exact fun _=>rfl;exact rfl;(focus ((repeat(apply NT.cons;exact rfl));exact NT.nil rfl));exact rfl;exact fun _ _ _=>rfl;assumption;exact rfl;exact rfl)|(apply eU;exact rfl;exact rfl;exact rfl;exact fun _=>rfl;exact rfl;assumption;exact rfl;exact rfl)
    |(apply a7;exact h;exact rfl;exact rfl;(first|exact rfl|exact Ml.eq);(first|exact rfl|exact Ml.eq);exact rfl;decide;intro x o h)
    |(apply a8;exact h;exact rfl;exact rfl;exact rfl;exact rfl;exact rfl;decide;exact rfl;exact rfl;intro x o h)
    |(apply dt;exact h;exact rfl;exact rfl;exact rfl;exact rfl;decide;intro x o h)
    |(apply eC;exact h;exact rfl;exact rfl;exact rfl;intro x o h)
    |(apply Zg;exact h;infer_instance;exact rfl;exact rfl;exact fun _=>rfl;intro x o h)|(apply XB;exact h;infer_instance;exact rfl;exact rfl;exact fun _=>rfl;exact fun _=>rfl;intro x o h)|(apply ZZ;exact h;infer_instance;exact rfl;exact fun _=>rfl;exact fun _=>rfl;intro x o h)|(apply W8;exact h;infer_instance;exact rfl;exact fun _=>rfl;exact fun _=>rfl;intro x o h)|(apply W7;exact h;infer_instance;exact rfl;exact fun _=>rfl;exact fun _=>rfl;intro x o h)|(apply ZX;exact h;infer_instance;exact rfl;exact fun _=>rfl;intro x o h)|(apply W5;exact h;infer_instance;exact rfl;exact rfl;exact rfl;decide;exact rfl;exact fun _=>rfl;exact fun _=>rfl;intro x o C h;rotate_left;intro x o C h;rotate_left)|(apply Tm;exact h;infer_instance;exact rfl;exact rfl;exact rfl;decide;exact rfl;exact fun _=>rfl;exact fun _=>rfl;intro x o h)|(apply Za;exact h;infer_instance;exact rfl;exact rfl;exact fun _=>rfl;intro x o h)
    |(apply ZV;exact h;infer_instance;exact rfl;exact rfl;decide;exact rfl;intro x o h)
    |(apply ZW;exact h;infer_instance;exact rfl;exact fun _=>rfl;intro x o h)
    |(apply eF;exact h;exact rfl;exact rfl;intro x o h)
    |(apply eG;exact h;exact rfl;exact rfl;intro x o h)
    |(apply dr;exact h;exact rfl;exact rfl;decide;intro x o h)
    |(apply bN;exact h;exact rfl;exact rfl;intro x o h)
    |(apply cx;exact rfl)
    |(apply gT;exact rfl;exact rfl)
    |(apply gi;exact rfl;exact rfl;exact rfl)
    |(apply d7;exact h;exact rfl;(first|exact rfl|exact Ml.eq);intro u h)
    |(apply ZG;exact rfl;exact rfl;intro z D;replace h:=Zl h z D)
    |(apply gY;exact rfl;exact rfl)
    |(apply gP;exact rfl;exact rfl;exact rfl;exact rfl;exact rfl)
    |(apply gO;exact rfl;exact rfl;exact rfl;exact rfl;exact rfl;exact rfl)
    |(apply cp;decide;decide;exact rfl;exact rfl)
    |(apply dA;exact rfl)
    |(apply iG;exact rfl;exact rfl;decide;exact rfl;exact rfl;exact rfl;exact rfl)
    |(apply cf;exact rfl;exact rfl;exact rfl)
    |(apply gZ;exact rfl;exact rfl)
    |(apply eD;exact h;exact rfl;exact rfl;exact rfl;(first|exact rfl|exact Ml.eq);intro x o h)
    |(apply hO;exact rfl;exact rfl;(first|exact rfl|exact Ml.eq);assumption)
    |(apply eE;exact h;exact rfl;exact rfl;exact rfl;(first|exact rfl|exact Ml.eq);exact fun _=>rfl;assumption;intro x o h)
    |(apply iA;exact rfl;exact rfl;exact rfl;(first|exact rfl|exact Ml.eq);exact fun _=>rfl;assumption;assumption;exact rfl;exact rfl;exact rfl;exact rfl)
    |(apply cz;exact rfl;exact rfl;decide)
    |(apply ay;exact h;exact rfl;exact rfl;exact rfl;exact rfl;(first|exact rfl|exact Ml.eq);exact rfl;exact rfl;decide;exact rfl;intro x o h)
    |(apply cv;exact rfl;exact rfl;exact rfl;exact rfl;exact rfl;exact rfl)
    |(apply cr;exact rfl;exact rfl;decide)
    |(apply gf;exact rfl;exact rfl;decide;exact rfl)
    |(apply iF;exact rfl;exact rfl;exact rfl;exact rfl;exact rfl;exact rfl;exact rfl;exact rfl)
    |(apply W6;exact h;infer_instance;exact rfl;exact fun _=>rfl;exact fun _=>rfl;exact fun _=>rfl;intro x o h)|(apply ZU;exact h;infer_instance;exact rfl;exact rfl;decide;exact rfl;exact rfl;exact fun _=>rfl;exact fun _=>rfl;intro x o h)
    |(apply gq;intro b;have K:=K b)
    |(apply g7;exact rfl)
    |(apply WR;exact rfl)
    |(apply WQ;exact rfl)
    |(apply gn;exact rfl)
    |(apply ZJ;exact rfl;exact rfl;decide)
    |(apply gv;exact rfl;exact rfl;exact rfl;exact rfl)
    |(apply g6;exact rfl;exact rfl;exact rfl;exact rfl;exact rfl))
  |(show WP _ _ _ _;first
    |with_reducible apply du
    |apply HT
    |apply K5
    |(apply bH;exact rfl)
    |(apply eH;exact rfl;exact rfl)
    |apply SN
    |apply UO
    |apply Vc
    |(apply Mg;exact rfl;with_reducible rfl)
    |(apply Mf;exact rfl;with_reducible rfl)
    |(apply bJ;exact rfl;exact h;assumption;exact rfl;intro w C h;rotate_left;intro w C h;rotate_left;intro w h;rotate_left)
    |(apply bF;exact rfl;exact h;assumption;intro h)
    |(apply bE;exact rfl;exact h;assumption;intro h)
    |(apply bG;exact rfl;exact h;intro C h;rotate_left;intro C h;rotate_left)
    |(apply Mg;exact rfl;apply jy;assumption)
    |(apply Mf;exact rfl;apply jN;assumption)
    |(apply Vd;assumption;exact h;exact B;(first|exact Nq rfl (by first|exact rfl|exact Ml.eq)|exact Np rfl|exact L0 rfl rfl (by first|exact rfl|exact Ml.eq)|exact Lz rfl rfl|exact Ns rfl|exact Nr rfl (by first|exact rfl|exact Ml.eq)|exact Nu rfl rfl|exact Nt|exact Nn (by decide));exact rfl;exact rfl;exact fun _ _=>rfl;intro i s r hi h B;rotate_left;intro i s hi;clear h;rotate_left;intro s h;rotate_left)
    |(apply Vd;apply HB.a;assumption;exact h;exact B;(first|exact Nq rfl (by first|exact rfl|exact Ml.eq)|exact Np rfl|exact L0 rfl rfl (by first|exact rfl|exact Ml.eq)|exact Lz rfl rfl|exact Ns rfl|exact Nr rfl (by first|exact rfl|exact Ml.eq)|exact Nu rfl rfl|exact Nt|exact Nn (by decide));exact rfl;exact rfl;exact fun _ _=>rfl;intro i s r hi h B;rotate_left;intro i s hi;clear h;rotate_left;intro s h;rotate_left)
    |(apply Vg;assumption;assumption;exact rfl;exact h;exact B;(first|exact Nq rfl (by first|exact rfl|exact Ml.eq)|exact Np rfl|exact L0 rfl rfl (by first|exact rfl|exact Ml.eq)|exact Lz rfl rfl|exact Ns rfl|exact Nr rfl (by first|exact rfl|exact Ml.eq)|exact Nu rfl rfl|exact Nt|exact Nn (by decide));exact rfl;exact rfl;exact fun _ _=>rfl;intro i s r hi h B;rotate_left;intro i s hi;clear h;rotate_left;intro s h;rotate_left)
    |(apply Vg;apply HB.a;assumption;assumption;exact rfl;exact h;exact B;(first|exact Nq rfl (by first|exact rfl|exact Ml.eq)|exact Np rfl|exact L0 rfl rfl (by first|exact rfl|exact Ml.eq)|exact Lz rfl rfl|exact Ns rfl|exact Nr rfl (by first|exact rfl|exact Ml.eq)|exact Nu rfl rfl|exact Nt|exact Nn (by decide));exact rfl;exact rfl;exact fun _ _=>rfl;intro i s r hi h B;rotate_left;intro i s hi;clear h;rotate_left;intro s h;rotate_left)
    |(apply Vf;assumption;exact h;exact B;(first|exact Nq rfl (by first|exact rfl|exact Ml.eq)|exact Np rfl|exact L0 rfl rfl (by first|exact rfl|exact Ml.eq)|exact Lz rfl rfl|exact Ns rfl|exact Nr rfl (by first|exact rfl|exact Ml.eq)|exact Nu rfl rfl|exact Nt|exact Nn (by decide));exact rfl;exact rfl;exact fun _ _=>rfl;intro i s r hi h B;rotate_left;intro i s hi;clear h;rotate_left;intro s h;rotate_left)
    |(apply Vf;apply HB.a;assumption;exact h;exact B;(first|exact Nq rfl (by first|exact rfl|exact Ml.eq)|exact Np rfl|exact L0 rfl rfl (by first|exact rfl|exact Ml.eq)|exact Lz rfl rfl|exact Ns rfl|exact Nr rfl (by first|exact rfl|exact Ml.eq)|exact Nu rfl rfl|exact Nt|exact Nn (by decide));exact rfl;exact rfl;exact fun _ _=>rfl;intro i s r hi h B;rotate_left;intro i s hi;clear h;rotate_left;intro s h;rotate_left)
    |(apply Ve;assumption;exact h;exact B;(first|exact Nq rfl (by first|exact rfl|exact Ml.eq)|exact Np rfl|exact L0 rfl rfl (by first|exact rfl|exact Ml.eq)|exact Lz rfl rfl|exact Ns rfl|exact Nr rfl (by first|exact rfl|exact Ml.eq)|exact Nu rfl rfl|exact Nt|exact Nn (by decide));exact rfl;exact rfl;exact fun _ _=>rfl;intro i s r hi h B;rotate_left;intro i s hi;clear h;rotate_left;intro s h;rotate_left)
    |(apply Ve;apply HB.a;assumption;exact h;exact B;(first|exact Nq rfl (by first|exact rfl|exact Ml.eq)|exact Np rfl|exact L0 rfl rfl (by first|exact rfl|exact Ml.eq)|exact Lz rfl rfl|exact Ns rfl|exact Nr rfl (by first|exact rfl|exact Ml.eq)|exact Nu rfl rfl|exact Nt|exact Nn (by decide));exact rfl;exact rfl;exact fun _ _=>rfl;intro i s r hi h B;rotate_left;intro i s hi;clear h;rotate_left;intro s h;rotate_left)
    |(apply eQ;assumption;assumption;exact rfl;exact h;exact rfl;exact rfl;intro s r h B;rotate_left;intro s h;rotate_left)
    |(apply eP;assumption;exact h;exact rfl;exact rfl;intro s r h B;rotate_left;intro s h;rotate_left)
    |(apply eM;assumption;exact h;exact rfl;exact rfl;intro s r h B;rotate_left;intro s h;rotate_left)
    |apply Tl
    |cases h)
  |(show Kp _ _ _;first
    |exact FY
    |(apply He;exact rfl)
    |(apply fi;exact rfl)
    |(apply Hb;exact rfl)
    |(apply fk;exact rfl)
    |(apply fg;exact rfl)
    |(apply Hd;exact rfl)
    |(apply Hf;exact rfl)
    |(apply fh;exact rfl)
    |(apply fj;exact rfl)
    |(apply cK;exact rfl)
    |(apply Hc;exact rfl))
  |(show Nm _ _ _ _;first
    |exact cO
    |(apply cN;exact rfl)
    |(apply gD;exact rfl;exact rfl)
    |(apply gB;exact rfl;exact rfl)
    |(apply fy;exact rfl;exact rfl)
    |(apply gF;exact rfl;exact rfl)
    |(apply fx;exact rfl;exact rfl)
    |(apply gC;exact rfl;exact rfl)
    |(apply gE;exact rfl;exact rfl)
    |(apply fz;exact rfl;exact rfl)
    |(apply gA;exact rfl;exact rfl))
  |apply Zt
  |(apply XU;intro j)
  |apply Zs
  |exact Vw rfl
  |(cases h;exact Vw rfl)
  |apply SY
  |(apply Zo;decide)
  |intro B
  |(cases h;first|exact rfl|exact⟨rfl⟩|exact⟨rfl,rfl⟩|exact⟨_,rfl,rfl⟩|exact⟨_,rfl,⟨rfl⟩⟩|exact⟨rfl,_,rfl,⟨rfl⟩⟩|exact⟨by decide,rfl⟩|exact⟨_,rfl,by decide,rfl⟩|exact⟨_,rfl,rfl,rfl⟩|exact Z4 (by assumption) rfl rfl (by decide) rfl|exact⟨_,rfl,Z3 (by first|assumption|decide) (by decide) rfl⟩)
  |exact⟨rfl,⟨rfl⟩⟩)):P:=p
end Go.Sf
