/- Contracts that are found by themselves: rules that take the typed text along, and the script that applies them. -/
import Derived.Test.YthhobbgaejimgaaGreatDoorSfK
import Derived.Test.YthhobbgaejimgaaGreatDoorSfStep
import Derived.Test.YthhobbgaejimgaaGreatDoorSfLib
set_option linter.all false
namespace Go.Sf
class Ct(P:Program){α:Type}(x:Option α)(f:outParam FuncId)(ts:outParam Fq)(R:outParam (α->Af)):Prop where
 snd:∀r,x=some r->AH P f ts (R r)
class Ml(es:Fq){α:outParam Type}(e:outParam (α->TV))(l:outParam (List α)):Prop where
 eq:es=l.map e
class Vr{α:Type}(e:α->TV)where
 un:Fq->α
 dec:∀a b,∃i:Decidable (a=b),BX (e a).cells (e b).cells=some (@decide (a=b) i)
class Fz(cs:List AJ)(row:outParam Fq):Prop where
 h:cs.map (·.t)=row
instance(priority:=high){l:Fq}:Fz (l.map fun x=>(⟨false,x⟩:AJ)) l:=⟨by rw[List.map_map];exact List.map_id _⟩
instance(priority:=low){cs:List AJ}:Fz cs (cs.map (·.t)):=⟨rfl⟩
class En(α:Type)(e:outParam (α->TV)):Prop where
class Fl{α:Type}(e:α->TV)(n:outParam Nat)(f:outParam (List α->TV)):Prop where
 eq:∀l,f l=.list n (l.map e)
structure Kp(O:AA)(l:Ne)(r:AA):Prop where
 of::out:O.pr l=r
def look:List (Nat×EV)->Nat->Option EV
 |[],_=>none|(k,e)::r,n=>if k=n then some e else look r n
def rK(O:AA)(m:List (Nat×EV)):Ne->AA
 |[]=>[]|s::ss=>(s,(look m s).getD (O.get s))::rK O m ss
structure Nm(O:AA)(m:List (Nat×EV))(l:Ne)(r:AA):Prop where
 of::out:rK O m l=r
structure Rn(a b:AA):Prop where
 of::out:a=b
structure HJ{σ:Type}(n:Nat)(M:σ->List (Nat×EV)):Prop where
structure HA{σ:Type}(n FA q i:Nat)(M:Int->σ->List (Nat×EV)):Prop where
structure HB{σ:Type}(n FA q i:Nat)(M:Int->σ->List (Nat×EV)):Prop where
theorem HB.a{σ:Type}{n FA q i:Nat}{M:Int->σ->List (Nat×EV)}(_:HB n FA q i M):HA n FA q i M:=⟨⟩
structure HW{σ:Type}(n:Nat)(M:σ->List (Nat×EV)):Prop where
structure HR{β:Type}(R:β->AA->Prop):Prop where
structure HS(n:Nat):Prop where
structure HX{α γ:Type}(n:Nat)(f:α->γ->α):Prop where
structure Rs(g:Nat)(b q:Bool):Prop where
 of::out:q=b
structure Ov(g:Nat)(b q:Bool):Prop where
 of::out:q=!b
def KR(n:AA->Prop)(l:Ne):AA->Prop:=fun e=>n (e.pr l)
section
variable{O:AA}{s:Nat}{ss:Ne}{r:AA}{m:List (Nat×EV)}
theorem FQ:Kp O [] []:=⟨rfl⟩
theorem Ia{e:EV}(h:O.get s=e)(k:Kp O ss r):Kp O (s::ss) ((s,e)::r):=⟨by rw[<-k.out,<-h];rfl⟩
theorem G0{t:TV}(h:O.get s=.tv t)(k:Kp O ss r):Kp O (s::ss) ((s,.tv t)::r):=Ia h k
theorem gv{t:TV}(h:O.get s=.ow t)(k:Kp O ss r):Kp O (s::ss) ((s,.ow t)::r):=Ia h k
theorem Gx{t:List AJ}(h:O.get s=.bx t)(k:Kp O ss r):Kp O (s::ss) ((s,.bx t)::r):=Ia h k
theorem gq{q o:Nat}(h:O.get s=.bp q o)(k:Kp O ss r):Kp O (s::ss) ((s,.bp q o)::r):=Ia h k
theorem Gz{t:Fq}(h:O.get s=.tp t)(k:Kp O ss r):Kp O (s::ss) ((s,.tp t)::r):=Ia h k
theorem G2(h:O.get s=.undef)(k:Kp O ss r):Kp O (s::ss) ((s,.undef)::r):=Ia h k
theorem gx{n:Nat}{t:Fq}(h:O.get s=.xo n t)(k:Kp O ss r):Kp O (s::ss) ((s,.xo n t)::r):=Ia h k
theorem gu{q:Nat}{i:Option Nat}(h:O.get s=.la q i)(k:Kp O ss r):Kp O (s::ss) ((s,.la q i)::r):=Ia h k
theorem gw(h:O.get s=.sk)(k:Kp O ss r):Kp O (s::ss) ((s,.sk)::r):=Ia h k
theorem dg{t:List AJ}(h:O.get s=.sq t)(k:Kp O ss r):Kp O (s::ss) ((s,.sq t)::r):=Ia h k
theorem dl:Nm O m [] []:=⟨rfl⟩
theorem dk{e:EV}(h:look m s=some e)(k:Nm O m ss r):Nm O m (s::ss) ((s,e)::r):=⟨by rw[<-k.out];simp only[rK,h,Option.getD_some]⟩
theorem J5{e:EV}(h:look m s=none)(o:O.get s=e)(k:Nm O m ss r):Nm O m (s::ss) ((s,e)::r):=⟨by rw[<-k.out];simp only[rK,h,o,Option.getD_none]⟩
theorem iF{t:TV}(h:look m s=none)(o:O.get s=.tv t)(k:Nm O m ss r):Nm O m (s::ss) ((s,.tv t)::r):=J5 h o k
theorem iD{t:TV}(h:look m s=none)(o:O.get s=.ow t)(k:Nm O m ss r):Nm O m (s::ss) ((s,.ow t)::r):=J5 h o k
theorem iA{t:List AJ}(h:look m s=none)(o:O.get s=.bx t)(k:Nm O m ss r):Nm O m (s::ss) ((s,.bx t)::r):=J5 h o k
theorem hU{q o:Nat}(h:look m s=none)(p:O.get s=.bp q o)(k:Nm O m ss r):Nm O m (s::ss) ((s,.bp q o)::r):=J5 h p k
theorem iE{t:Fq}(h:look m s=none)(o:O.get s=.tp t)(k:Nm O m ss r):Nm O m (s::ss) ((s,.tp t)::r):=J5 h o k
theorem iG(h:look m s=none)(o:O.get s=.undef)(k:Nm O m ss r):Nm O m (s::ss) ((s,.undef)::r):=J5 h o k
theorem iH{n:Nat}{t:Fq}(h:look m s=none)(o:O.get s=.xo n t)(k:Nm O m ss r):Nm O m (s::ss) ((s,.xo n t)::r):=J5 h o k
theorem iB{q:Nat}{i:Option Nat}(h:look m s=none)(o:O.get s=.la q i)(k:Nm O m ss r):Nm O m (s::ss) ((s,.la q i)::r):=J5 h o k
end
def PC.xl(i:Nat):PC->Option Ne
 |.exit j l=>if j=i then some l else none|.seq a b=>match a.xl i with
  |some l=>some l|none=>b.xl i
 |.cond _ a b=>match a.xl i with
  |some l=>some l|none=>b.xl i
 |.block _ a=>a.xl i|.loop _ a=>a.xl i|.uN _ a=>a.xl i|_=>none
def PC.last:PC->Option Ne
 |.region _ l=>some l|.draw _ _ l=>some l|.skip l=>some l|.exit _ l=>some l|.seq _ b=>b.last|.cond _ a _=>a.last|.block i (.loop _ b)=>b.xl i|.block _ c=>c.last|.uN _ c=>c.last|_=>none
section
variable{S:FuncId->Fq->Af->Prop}{K:AA->Prop}{os:List PR}{O:AA}{d:Nat}
section code
variable{n t:AA->Prop}{x:Nat->AA->Prop}{a b:PC}{l:Ne}{env':AA}
theorem IV(o:Kp O l env')(h:n env'):WO S (KR n l) [] O:=⟨by show n (O.pr l);rw[o.out];exact h⟩
theorem Jz{ops:List PR}(h:WO S (KR n l) ops O):WP S (.region ops l) ⟨n,x,t⟩ O:=⟨h.out⟩
theorem cX{D:Ne}{ops:List PR}(hd:Ll O D=true)(h:WO S (KR n l) ops O):WP S (.draw D ops l) ⟨n,x,t⟩ O:=⟨hd,h.out⟩
theorem Gs(h:WP S a ⟨fun e=>(∀s,(e.get s).WF)->WP S b ⟨n,x,t⟩ e,x,t⟩ O):WP S (.seq a b) ⟨n,x,t⟩ O:=gT h
theorem Rw(o:Kp O l env')(h:n env'):WP S (.skip l) ⟨n,x,t⟩ O:=dE o.out h
theorem Uc(h:t O):WP S .ret ⟨n,x,t⟩ O:=⟨h⟩
theorem Vv{i:Nat}(o:Kp O l env')(h:x i env'):WP S (.exit i l) ⟨n,x,t⟩ O:=dB o.out h
theorem fo{s:Nat}{cs cs':List AJ}{c:PC}{q:Q}(h:O.get s=.bx cs)(he:cs.map AJ.rel=cs')(k:WP S c q ((s,.bx cs')::O)):WP S (.uN s c) q O:=by
 refine ⟨?_⟩;subst he;simp only[PC.wp,h];exact k.out
theorem Tj{i:Nat}(h:WP S a ⟨n,fun j e=>if j=i then n e else x j e,t⟩ O):WP S (.block i a) ⟨n,x,t⟩ O:=QL h
theorem fT{m:List (Nat×EV)}{e:AA}{q:Q}(he:Nm e m l env')(h:WP S a q env'):WP S a q (rK e m l):=by rw[he.out];exact h
variable{Q:Q}
theorem cW{c:AD}{β:Type}{q:Bool}{u v:Option β}{r:β}(o:c.val O=some (.bool q))(h:(if q=true then u else v)=some r)(p:q=true->u=some r->WP S a Q O)(w:q=false->v=some r->WP S b Q O):WP S (.cond c a b) Q O:=
 PZ o (fun e=>p e (Pt e h)) (fun e=>w e (Ps e h))
theorem cZ{σ β:Type}{i:Nat}{M:σ->List (Nat×EV)}{q:Bool}{u v:Option σ}{k:σ->Option β}{r:β}(p:(AD.s i).val O=some (.bool q))(h:((if q=true then u else v).bind k)=some r)(_:HJ i M)(_:(PC.cond (.s i) a b).last=some l)
  (A:∀w,q=true->u=some w->WP S a ⟨fun e=>Rn e (rK O (M w) l),x,t⟩ O)(B:∀w,q=false->v=some w->WP S b ⟨fun e=>Rn e (rK O (M w) l),x,t⟩ O)(C:∀w,k w=some r->n (rK O (M w) l)):WP S (.cond (.s i) a b) ⟨n,x,t⟩ O:=by
 obtain ⟨w,o,h⟩:=bind_some h;refine gS (fun e=>Rn e (rK O (M w) l)) ?_ (fun e he=>by rw[he.out];exact C w h);exact PZ p (fun e=>A w e (Pt e o)) (fun e=>B w e (Ps e o))
end code
structure Bd(O:AA)(q i:Nat)(b:Int):Prop where
 of::out:(∀s,(O.get s).WF)->b<=9223372036854775807
section bounds
variable{q i:Nat}{α:Type}{e:α->TV}{l:List α}{es row:Fq}{n:Nat}
theorem NV{b:Int}(h:decide (b<=9223372036854775807)=true):Bd O q i b:=⟨fun _=>of_decide_eq_true h⟩
theorem Na{b:Int}:Bd O q i (AW b):=⟨fun _=>fJ _⟩
theorem NX(h:O.get q=.tv (.list n es))(he:es=l.map e):Bd O q i l.length:=⟨fun o=>by have:=o q;rw[h]at this;exact Oe (Rm this) he⟩
theorem NY(h:O.get q=.ow (.list n es))(he:es=l.map e):Bd O q i l.length:=⟨fun o=>by have:=o q;rw[h]at this;exact Oe (jV this) he⟩
theorem Nb(h:O.get q=.xo n es)(he:es=l.map e):Bd O q i l.length:=⟨fun o=>by have:=o q;rw[h]at this;exact Oe (jW this) he⟩
theorem NZ{b:ByteArray}(h:O.get q=.tv (.str b)):Bd O q i b.size:=⟨fun o=>by have:=o q;rw[h]at this;exact b7 (Rm this)⟩
theorem NW{b:Int}(h:O.get q=.tv (.int .i64 b)):Bd O q i b:=⟨fun o=>by have:=o q;rw[h]at this;exact XT (Rm this)⟩
theorem Ks(h:O.get q=.tv (.pt row))(o:row[i]?=some (.list n es))(he:es=l.map e):Bd O q i l.length:=⟨fun p=>by have:=p q;rw[h]at this;exact Oe (UV (Z6 this) o) he⟩
theorem Kr{b:Int}(h:O.get q=.tv (.pt row))(o:row[i]?=some (.int .i64 b)):Bd O q i b:=⟨fun p=>by have:=p q;rw[h]at this;exact XT (UV (Z6 this) o)⟩
end bounds
section loops
variable{σ β ρ:Type}{n t:AA->Prop}{x:Nat->AA->Prop}{c:PC}{live jl:Ne}{i0 FA q i1:Nat}{lo b:Int}{s0:σ}{r:β}{k:σ->Option β}
variable{M:Int->σ->List (Nat×EV)}
theorem fK(h:∀i s,(rK O (M i s) live).get FA=.tv (.int .i64 i)){i:Int}{s:σ}(o:∀k,((rK O (M i s) live).get k).WF)(hi:i<b)(p:b<=9223372036854775807):AW (i+1)=i+1:=by
 have:=o FA;rw[h]at this;exact jX (Rm this) hi p
theorem Vw{f:Int->σ->Option σ}(_:HA i0 FA q i1 M)(h:(rz f lo b s0).bind k=some r)(p:∀s,(O.get s).WF)(u:Bd O q i1 b)(_:c.xl i0=some jl)(w:O.pr live=rK O (M lo s0) live)(A:∀i s,(rK O (M i s) live).get FA=.tv (.int .i64 i))
  (B:∀i s r,i<b->f i s=some r->(∀k,((rK O (M i s) live).get k).WF)->WP S c ⟨fun e=>Rn (e.pr live) (rK O (M (AW (i+1)) r) live),fun _ _=>False,fun _=>False⟩ (rK O (M i s) live))
  (C:∀i s,¬i<b->WP S c ⟨fun _=>False,fun j e=>j=i0/\Rn e (rK O (M 0 s) jl),fun _=>False⟩ (rK O (M i s) live))
  (D:∀s,k s=some r->n (rK O (M 0 s) jl)):WP S (.block i0 (.loop live c)) ⟨n,x,t⟩ O:=by
 obtain ⟨o,ho,h⟩:=bind_some h;have u:=u.out p;refine b8 ho (fun i s=>rK O (M i s) live) (fun s=>rK O (M 0 s) jl) w (fun i s r hi hf p=>⟨PC.q9 S c _ _ (B i s r hi hf p).out _ (fun e he=>?_) (fun _ _ h=>h) (fun _ h=>h)⟩) (fun i s hi=>⟨PC.q9 S c _ _ (C i s hi).out _ (fun _ h=>h) (fun j e h=>⟨h.1,h.2.out⟩) (fun _ h=>h)⟩) (D o h);have:=he.out;rw[fK A p hi u]at this;exact this
variable{kr:ρ->Option β}
theorem QS{f:Int->σ->Option (B2 σ ρ)}{R:ρ->AA->Prop}(h:o4 (rb f lo b s0) k kr=some r)(w:b<=9223372036854775807)(A:O.pr live=rK O (M lo s0) live)(B:∀i s,(rK O (M i s) live).get FA=.tv (.int .i64 i))
  (C:∀i s r,i<b->f i s=some r->(∀k,((rK O (M i s) live).get k).WF)->WP S c ⟨fun e=>∃s',r=.next s'/\Rn (e.pr live) (rK O (M (AW (i+1)) s') live),fun j e=>j=i0/\∃s',r=.brk s'/\Rn e (rK O (M 0 s') jl),fun e=>∃v,r=.ret v/\R v e⟩ (rK O (M i s) live))
  (D:∀i s,¬i<b->WP S c ⟨fun _=>False,fun j e=>j=i0/\Rn e (rK O (M 0 s) jl),fun _=>False⟩ (rK O (M i s) live))
  (E:∀s,k s=some r->n (rK O (M 0 s) jl))(F:∀v e,kr v=some r->R v e->t e):WP S (.block i0 (.loop live c)) ⟨n,x,t⟩ O:=by
 obtain ⟨o,ho,h⟩:=QH h;refine UY ho (fun i s=>rK O (M i s) live) (fun s=>rK O (M 0 s) jl) R A (fun i s r hi hf u=>⟨PC.q9 S c _ _ (C i s r hi hf u).out _ (fun e he=>?_) (fun j e he=>?_) (fun _ h=>h)⟩) (fun i s hi=>⟨PC.q9 S c _ _ (D i s hi).out _ (fun _ h=>h) (fun j e h=>⟨h.1,h.2.out⟩) (fun _ h=>h)⟩) (fun s G=>E s (UP h G)) (fun v e hv=>F v e (UQ h hv))
 .obtain⟨s',p,e2⟩:=he;have e2:=e2.out;rw[fK B u hi w]at e2;exact⟨s',p,e2⟩
 .obtain⟨H,s',p,e2⟩:=he;exact⟨H,s',p,e2.out⟩
theorem Vz{f:Int->σ->Option (B2 σ β)}{R:β->AA->Prop}(_:HA i0 FA q i1 M)(_:HR R)(o:R r=t)(h:o4 (rb f lo b s0) k (fun v=>some v)=some r)(p:∀s,(O.get s).WF)(u:Bd O q i1 b)(_:c.xl i0=some jl)(w:O.pr live=rK O (M lo s0) live)(A:∀i s,(rK O (M i s) live).get FA=.tv (.int .i64 i))
  (B:∀i s r,i<b->f i s=some r->(∀k,((rK O (M i s) live).get k).WF)->WP S c ⟨fun e=>∃s',r=.next s'/\Rn (e.pr live) (rK O (M (AW (i+1)) s') live),fun j e=>j=i0/\∃s',r=.brk s'/\Rn e (rK O (M 0 s') jl),fun e=>∃v,r=.ret v/\R v e⟩ (rK O (M i s) live))
  (C:∀i s,¬i<b->WP S c ⟨fun _=>False,fun j e=>j=i0/\Rn e (rK O (M 0 s) jl),fun _=>False⟩ (rK O (M i s) live))
  (D:∀s,k s=some r->n (rK O (M 0 s) jl)):WP S (.block i0 (.loop live c)) ⟨n,x,t⟩ O:=
 QS h (u.out p) w A B C D (fun v e hv E=>by cases hv;rw[<-o];exact E)
variable{τ:Type}
theorem Vy{f:Int->σ->Option (B2 σ ρ)}{k:σ->Option (B2 τ ρ)}{r:B2 τ ρ}{R:ρ->AA->Prop}(_:HA i0 FA q i1 M)(h:o4 (rb f lo b s0) k (fun v=>some (.ret v))=some r)(o:∀s,(O.get s).WF)(p:Bd O q i1 b)(_:c.xl i0=some jl)(u:O.pr live=rK O (M lo s0) live)(w:∀i s,(rK O (M i s) live).get FA=.tv (.int .i64 i))
  (A:∀i s r,i<b->f i s=some r->(∀k,((rK O (M i s) live).get k).WF)->WP S c ⟨fun e=>∃s',r=.next s'/\Rn (e.pr live) (rK O (M (AW (i+1)) s') live),fun j e=>j=i0/\∃s',r=.brk s'/\Rn e (rK O (M 0 s') jl),fun e=>∃v,r=.ret v/\R v e⟩ (rK O (M i s) live))
  (B:∀i s,¬i<b->WP S c ⟨fun _=>False,fun j e=>j=i0/\Rn e (rK O (M 0 s) jl),fun _=>False⟩ (rK O (M i s) live))
  (C:∀s,k s=some r->n (rK O (M 0 s) jl)):WP S (.block i0 (.loop live c)) ⟨n,x,fun e=>∃v,r=.ret v/\R v e⟩ O:=
 QS h (p.out o) u w A B C (fun v e hv D=>by cases hv;exact⟨v,rfl,D⟩)
theorem Vx{f:Int->σ->Option (B2 σ ρ)}(_:HA i0 FA q i1 M)(h:o4 (rb f lo b s0) k (fun _=>none)=some r)(o:∀s,(O.get s).WF)(p:Bd O q i1 b)(_:c.xl i0=some jl)(u:O.pr live=rK O (M lo s0) live)(w:∀i s,(rK O (M i s) live).get FA=.tv (.int .i64 i))
  (A:∀i s r,i<b->f i s=some r->(∀k,((rK O (M i s) live).get k).WF)->WP S c ⟨fun e=>∃s',r=.next s'/\Rn (e.pr live) (rK O (M (AW (i+1)) s') live),fun j e=>j=i0/\∃s',r=.brk s'/\Rn e (rK O (M 0 s') jl),fun _=>∃v,r=.ret v/\False⟩ (rK O (M i s) live))
  (B:∀i s,¬i<b->WP S c ⟨fun _=>False,fun j e=>j=i0/\Rn e (rK O (M 0 s) jl),fun _=>False⟩ (rK O (M i s) live))
  (C:∀s,k s=some r->n (rK O (M 0 s) jl)):WP S (.block i0 (.loop live c)) ⟨n,x,t⟩ O:=
 QS (R:=fun _ _=>False) h (p.out o) u w A B C (fun v e hv _=>by cases hv)
theorem TG{f:σ->Option (B2 σ ρ)}{R:ρ->AA->Prop}{M:σ->List (Nat×EV)}(h:o4 (E5 f s0) k kr=some r)(u:O.pr live=rK O (M s0) live)
  (w:∀s r,f s=some r->(∀k,((rK O (M s) live).get k).WF)->WP S c ⟨fun e=>∃s',r=.next s'/\Rn (e.pr live) (rK O (M s') live),fun j e=>j=i0/\∃s',r=.brk s'/\Rn e (rK O (M s') jl),fun e=>∃v,r=.ret v/\R v e⟩ (rK O (M s) live))
  (A:∀s,k s=some r->n (rK O (M s) jl))(B:∀v e,kr v=some r->R v e->t e):WP S (.block i0 (.loop live c)) ⟨n,x,t⟩ O:=by
 obtain ⟨o,ho,h⟩:=QH h;refine fN ho (fun s=>rK O (M s) live) (fun s=>rK O (M s) jl) R u (fun s r hf C=>⟨PC.q9 S c _ _ (w s r hf C).out _ (fun e he=>?_) (fun j e he=>?_) (fun _ h=>h)⟩) (fun s D=>A s (UP h D)) (fun v e hv=>B v e (UQ h hv))
 .obtain⟨s',p,e2⟩:=he;exact⟨s',p,e2.out⟩
 .obtain⟨E,s',p,e2⟩:=he;exact⟨E,s',p,e2.out⟩
theorem fx{f:σ->Option (B2 σ β)}{R:β->AA->Prop}{M:σ->List (Nat×EV)}(_:HW i0 M)(_:HR R)(o:R r=t)(h:o4 (E5 f s0) k (fun v=>some v)=some r)(_:c.xl i0=some jl)(p:O.pr live=rK O (M s0) live)
  (u:∀s r,f s=some r->(∀k,((rK O (M s) live).get k).WF)->WP S c ⟨fun e=>∃s',r=.next s'/\Rn (e.pr live) (rK O (M s') live),fun j e=>j=i0/\∃s',r=.brk s'/\Rn e (rK O (M s') jl),fun e=>∃v,r=.ret v/\R v e⟩ (rK O (M s) live))
  (w:∀s,k s=some r->n (rK O (M s) jl)):WP S (.block i0 (.loop live c)) ⟨n,x,t⟩ O:=
 TG h p u w (fun v e hv A=>by cases hv;rw[<-o];exact A)
theorem fw{f:σ->Option (B2 σ ρ)}{k:σ->Option (B2 τ ρ)}{r:B2 τ ρ}{R:ρ->AA->Prop}{M:σ->List (Nat×EV)}(_:HW i0 M)(h:o4 (E5 f s0) k (fun v=>some (.ret v))=some r)(_:c.xl i0=some jl)(o:O.pr live=rK O (M s0) live)
  (p:∀s r,f s=some r->(∀k,((rK O (M s) live).get k).WF)->WP S c ⟨fun e=>∃s',r=.next s'/\Rn (e.pr live) (rK O (M s') live),fun j e=>j=i0/\∃s',r=.brk s'/\Rn e (rK O (M s') jl),fun e=>∃v,r=.ret v/\R v e⟩ (rK O (M s) live))
  (u:∀s,k s=some r->n (rK O (M s) jl)):WP S (.block i0 (.loop live c)) ⟨n,x,fun e=>∃v,r=.ret v/\R v e⟩ O:=
 TG h o p u (fun v e hv w=>by cases hv;exact⟨v,rfl,w⟩)
theorem fv{f:σ->Option (B2 σ ρ)}{M:σ->List (Nat×EV)}(_:HW i0 M)(h:o4 (E5 f s0) k (fun _=>none)=some r)(_:c.xl i0=some jl)(o:O.pr live=rK O (M s0) live)
  (p:∀s r,f s=some r->(∀k,((rK O (M s) live).get k).WF)->WP S c ⟨fun e=>∃s',r=.next s'/\Rn (e.pr live) (rK O (M s') live),fun j e=>j=i0/\∃s',r=.brk s'/\Rn e (rK O (M s') jl),fun _=>∃v,r=.ret v/\False⟩ (rK O (M s) live))
  (u:∀s,k s=some r->n (rK O (M s) jl)):WP S (.block i0 (.loop live c)) ⟨n,x,t⟩ O:=
 TG (R:=fun _ _=>False) h o p u (fun v e hv _=>by cases hv)
end loops
end
end Go.Sf
namespace Go.Sf
section
variable{P:Program}{S:FuncId->Fq->Af->Prop}{K:AA->Prop}{os:List PR}{O:AA}{d:Nat}{α β:Type}{k:α->Option β}{r:β}
variable{j:Int}
theorem fb{n:Nat}{x i:AD}{es:Fq}{e:α->TV}{l:List α}{ik:IntKind}(h:(idx l j).bind k=some r)(p:x.val O=some (.list n es))(hi:i.val O=some (.int ik j))(he:es=l.map e)
  (u:∀a,idx l j=some a->k a=some r->WO S K os ((d,.tv (.pt (e a).cells))::O)):WO S K (⟨some d,.tY x i n,none⟩::os) O:=by
 obtain ⟨a,o,h⟩:=bind_some h;exact iX p hi he o rfl (u a o h)
variable{ka kb:IntKind}
theorem ft{β:Type}{γ:Type}{k:List γ->Option β}{r:β}{n:Nat}{x:AD}{lo hi:Option AD}{es:Fq}{e:γ->TV}{l:List γ}{a b:Int}(h:(tw l a b).bind k=some r)(w:x.val O=some (.list n es))(he:es=l.map e)(o:DW O 0 lo=some (.int ka a))(p:DW O l.length hi=some (.int kb b))
  (A:∀m,tw l a b=some m->k m=some r->WO S K os ((d,.tv (.list n (m.map e)))::O)):WO S K (⟨some d,.tw n x lo hi,none⟩::os) O:=by
 obtain ⟨m,u,h⟩:=bind_some h;exact jI w he o p u (A m u h)
theorem cg{k:ByteArray->Option β}{x:AD}{lo hi:Option AD}{s:ByteArray}{a b:Int}(h:(rR s a b).bind k=some r)(w:x.val O=some (.str s))(o:DW O 0 lo=some (.int ka a))(p:DW O s.size hi=some (.int kb b))
  (A:∀m,rR s a b=some m->k m=some r->WO S K os ((d,.tv (.str m))::O)):WO S K (⟨some d,.rR x lo hi,none⟩::os) O:=by
 obtain ⟨m,u,h⟩:=bind_some h;exact eg w o p u (A m u h)
theorem cf{k:Int->Option β}{x i:AD}{s:ByteArray}{ik:IntKind}(h:(rP s j).bind k=some r)(p:x.val O=some (.str s))(hi:i.val O=some (.int ik j))
  (u:∀b,rP s j=some b->k b=some r->WO S K os ((d,.tv (.int .u8 b))::O)):WO S K (⟨some d,.rP x i,none⟩::os) O:=by
 obtain ⟨b,o,h⟩:=bind_some h;exact ed p hi o (u b o h)
theorem fQ{γ:Type}{k:List γ->Option β}{n s:Nat}{y:AD}{es fs:Fq}{e:γ->TV}{l m:List γ}(h:(Am l m).bind k=some r)(p:O.get s=.ow (.list n es))(u:y.val O=some (.list n fs))(he:es=l.map e)(hf:fs=m.map e)
  (w:∀x,Am l m=some x->k x=some r->WO S K os ((d,.ow (.list n (x.map e)))::(s,.tv (.list n es))::O)):WO S K (⟨some d,.app n (.s s) y,none⟩::os) O:=by
 obtain ⟨x,o,h⟩:=bind_some h;exact Zr p u he hf o rfl (w x o h)
theorem cM{γ:Type}{k:List γ->Option β}{n s:Nat}{y:AD}{es fs:Fq}{e:γ->TV}{l m:List γ}{f:List γ->TV}(h:(Am l m).bind k=some r)(p:O.get s=.ow (.list n es))(u:y.val O=some (.list n fs))(he:es=l.map e)(hf:fs=m.map e)(c:Fl e n f)
  (w:∀x,Am l m=some x->k x=some r->WO S K os ((d,.ow (f x))::(s,.tv (.list n es))::O)):WO S K (⟨some d,.app n (.s s) y,none⟩::os) O:=by
 obtain ⟨x,o,h⟩:=bind_some h;have:=w x o h;rw[c.eq]at this;exact Zr p u he hf o rfl this
theorem cN{γ:Type}{k:List γ->Option β}{n s:Nat}{y:AD}{es fs:Fq}{e:γ->TV}{l m:List γ}(h:(Am l m).bind k=some r)(p:O.get s=.xo n es)(u:y.val O=some (.list n fs))(he:es=l.map e)(hf:fs=m.map e)(w:O.l3 d=true)(hd:d≠s)
  (A:∀x,Am l m=some x->k x=some r->WO S K os ((d,.xo n (x.map e))::(s,.undef)::O)):WO S K (⟨some d,.tB n s y,none⟩::os) O:=by
 obtain ⟨x,o,h⟩:=bind_some h;exact eD p u he hf o rfl w hd (A x o h)
theorem cO{γ:Type}{k:List γ->Option β}{n s:Nat}{o:TV}{x:AD}{es:Fq}{e:γ->TV}{z:γ}{l:List γ}{ik:IntKind}(h:(Ry l j z).bind k=some r)(w:O.get s=.xo n es)(A:x.val O=some (.int ik j))(he:es=l.map e)(B:o=e z)(C:O.l3 d=true)(hd:d≠s)(p:n=1)(D:o.cells=[o])
  (E:∀m,Ry l j z=some m->k m=some r->WO S K os ((d,.xo n (m.map e))::(s,.undef)::O)):WO S K (⟨some d,.tG n s o x,none⟩::os) O:=by
 obtain ⟨m,u,h⟩:=bind_some h;exact eE w A he B u rfl C hd p D (E m u h)
theorem fS{γ:Type}{k:List γ->Option β}{n s:Nat}{hi:AD}{es:Fq}{e:γ->TV}{l:List γ}{ik:IntKind}(h:(tw l 0 j).bind k=some r)(p:O.get s=.xo n es)(u:hi.val O=some (.int ik j))(he:es=l.map e)(w:O.l3 d=true)(hd:d≠s)
  (A:∀m,tw l 0 j=some m->k m=some r->WO S K os ((d,.xo n (m.map e))::(s,.undef)::O)):WO S K (⟨some d,.cut n s hi,none⟩::os) O:=by
 obtain ⟨m,o,h⟩:=bind_some h;exact iQ p u he o rfl w hd (A m o h)
variable{zero:Fq}
theorem fi{γ:Type}{k:List γ->Option β}{n:Nat}{x:AD}{ik:IntKind}{e:γ->TV}{z:γ}(h:(NF j z).bind k=some r)(p:O.l3 d=true)(u:x.val O=some (.int ik j))(w:(match zero with|[t]=>t|ts=>.agg ts)=e z)
  (A:∀m,NF j z=some m->k m=some r->WO S K os ((d,.xo n (m.map e))::O)):WO S K (⟨some d,.ui n zero x,none⟩::os) O:=by
 obtain ⟨m,o,h⟩:=bind_some h;exact ir p u w o rfl (A m o h)
variable{qi:Option Nat}
theorem fy{x i:AD}{q n:Nat}{es:Fq}{e:α->TV}{l:List α}{ik:IntKind}(h:(idx l j).bind k=some r)(p:x.rL O=some ((q,qi),n,es))(hi:i.val O=some (.int ik j))(he:es=l.map e)(u:(x.ev O).rS=some q)
  (w:∀a,idx l j=some a->k a=some r->WO S K os ((d,.lp q qi (j.toNat*n))::O)):WO S K (⟨some d,.uX x i n,none⟩::os) O:=by
 obtain ⟨a,o,h⟩:=bind_some h;exact jQ p hi he o u (w a o h)
section ints
variable{k:Int->Option β}{x y:AD}{ik:IntKind}{a b:Int}
theorem fl(h:(quo a b).bind k=some r)(p:x.val O=some (.int ik a))(u:y.val O=some (.int ik b))(w:∀q,quo a b=some q->k q=some r->WO S K os ((d,.tv (.int ik (ik.wrap q)))::O)):WO S K (⟨some d,.bin .i .quo x y,none⟩::os) O:=by
 obtain ⟨m,o,h⟩:=bind_some h;exact jF p u o (w m o h)
theorem fm(h:(QD a b).bind k=some r)(p:x.val O=some (.int ik a))(u:y.val O=some (.int ik b))(w:∀q,QD a b=some q->k q=some r->WO S K os ((d,.tv (.int ik q))::O)):WO S K (⟨some d,.bin .i .rem x y,none⟩::os) O:=by
 obtain ⟨m,o,h⟩:=bind_some h;exact jH p u o (w m o h)
theorem fR{op:BinOp}{o:IntKind}(h:(Jd ik op a b).bind k=some r)(u:x.val O=some (.int ik a))(A:y.val O=some (.int o b))(B:ik=o\/op=.shl\/op=.shr)(C:∀q,Jd ik op a b=some q->k q=some r->WO S K os ((d,.tv (.int ik q))::O)):WO S K (⟨some d,.bin .w op x y,none⟩::os) O:=by
 obtain ⟨m,p,h⟩:=bind_some h;exact iM u A B p (C m p h)
end ints
theorem ce{k:ByteArray->Option β}{x y:AD}{u v:ByteArray}(h:(Cy u v).bind k=some r)(p:x.val O=some (.str u))(w:y.val O=some (.str v))(A:∀q,Cy u v=some q->k q=some r->WO S K os ((d,.tv (.str q))::O)):WO S K (⟨some d,.bin .s .add x y,none⟩::os) O:=by
 obtain ⟨m,o,h⟩:=bind_some h;exact ea p w o (A m o h)
theorem fc{k:Unit->Option β}{x:AD}{n:Nat}{es:Fq}{e:α->TV}{l:List α}(h:(U9 l).bind k=some r)(o:x.val O=some (.list n es))(he:es=l.map e)(p:∀u,k u=some r->WO S K os ((d,.tv (.bool false))::O)):WO S K (⟨some d,.uM x,none⟩::os) O:=by
 obtain ⟨u,A,h⟩:=bind_some h;refine Zu o he fun b w=>?_;obtain rfl:=WN A w;exact p u h
theorem ZX{x:AD}{n:Nat}{e:α->TV}{a:α}(h:Ap O (x.ev O)=some (e a).cells)(o:Nat.beq (e a).cells.length n=true)(p:TV.agg (e a).cells=e a)(u:WO S K os ((d,.tv (e a))::O)):WO S K (⟨some d,.tX x n,none⟩::os) O:=by
 have o:=Nat.eq_of_beq_eq_true o;exact Rf h (by rw[o];exact Nat.ble_self_eq_true n) (by rw[List.take_of_length_le (by omega),p]) u
theorem fe{s n:Nat}{cs:List AJ}{e:α->TV}{a:α}(h:O.get s=.bx cs)(p:cs.map (·.t)=(e a).cells)(o:Nat.beq (e a).cells.length n=true)(u:TV.agg (e a).cells=e a)(w:WO S K os ((d,.tv (e a))::O)):WO S K (⟨some d,.vn s n,none⟩::os) O:=by
 have o:=Nat.eq_of_beq_eq_true o;exact Zv h (by rw[p,o];exact Nat.ble_self_eq_true n) (by rw[p,List.take_of_length_le (by omega),u]) w
theorem cj{n s:Nat}{v:AD}{cs:List AJ}{t:TV}(o:O.get s=.bx cs)(hv:v.ev O=.tv t)(p:t.cells.length=n)(h:Nat.beq n cs.length=true)(u:WO S K os ((s,.bx (t.cells.map (⟨false,·⟩)))::O)):WO S K (⟨none,.tV n s v,none⟩::os) O:=by
 have h:=Nat.eq_of_beq_eq_true h;refine Zy o hv p (by rw[Nat.zero_add,h];exact Nat.ble_self_eq_true _) ?_ u;rw[List.take_zero,Nat.zero_add,h,List.drop_length,List.append_nil,List.nil_append]
theorem cb{x:AD}{n:Nat}{e:α->TV}{a:α}(h:Ap O (x.ev O)=some (((e a).cells.map fun t=>(⟨false,t⟩:AJ)).map (·.t)))(o:Nat.beq (e a).cells.length n=true)(p:TV.agg (e a).cells=e a)(u:WO S K os ((d,.tv (e a))::O)):WO S K (⟨some d,.tX x n,none⟩::os) O:=
 ZX (by rw[h,List.map_map];congr 1;exact List.map_id _) o p u
def Ue(n:Nat):Fq->Bool
 |[]=>true|t::ts=>Nat.beq t.cells.length n&&Ue n ts
theorem Rx{n:Nat}:∀{ts:Fq},Ue n ts=true->∀t∈ts,t.cells.length=n
 |[],_,_,h=>by cases h
 |t::ts,h,u,o=>by
  simp only[Ue,rt]at h;rcases List.mem_cons.1 o with rfl|o
  .exact Nat.eq_of_beq_eq_true h.1
  .exact Rx h.2 u o
variable{parts:List AD}
theorem fh{n:Nat}{ts:Fq}(h:vals O parts=some ts)(o:Ue n ts=true)(p:WO S K os ((d,.ow (.list n ts))::O)):WO S K (⟨some d,.uc n parts,none⟩::os) O:=by
 have:=p.out;refine⟨?_⟩;simp only[wpOps,PR.wp,AC.wp,h,AQ];exact⟨Rx o,this⟩
variable{zero:Fq}
theorem cP{parts:List (Nat×Nat×AD)}{ts:List (Nat×Nat×TV)}{cs:Fq}{e:α->TV}{a:α}(h:(some a).bind k=some r)(_:En α e)(o:EO O parts=some ts)(p:DH zero ts=some cs)(he:TV.agg cs=e a)(u:∀x,x=a->k x=some r->WO S K os ((d,.tv (e x))::O)):WO S K (⟨some d,.tQ zero parts,none⟩::os) O:=by
 rw [Option.bind_some]at h;exact Re o p he (u a rfl h)
theorem fg{x:AD}{n:Nat}{cs:Fq}{e:α->TV}{a:α}(h:(some a).bind k=some r)(_:En α e)(o:Ap O (x.ev O)=some cs)(p:Nat.ble n cs.length=true)(he:TV.agg (cs.take n)=e a)(u:∀x,x=a->k x=some r->WO S K os ((d,.tv (e x))::O)):WO S K (⟨some d,.tX x n,none⟩::os) O:=by
 rw [Option.bind_some]at h;exact Rf o p he (u a rfl h)
inductive Lm{α:Type}(e:α->TV):Fq->List α->Prop
 |nil:Lm e [] []
 |cons {t:TV} {ts:Fq} {a:α} {l:List α}:t=e a->Lm e ts l->Lm e (t::ts) (a::l)
theorem Lm.eq{e:α->TV}{ts:Fq}{l:List α}(h:Lm e ts l):ts=l.map e:=by
 induction h with
 |nil=>rfl|cons h _ o=>rw[h,o];rfl
theorem cc{n:Nat}{ts:Fq}{e:α->TV}{l:List α}(h:vals O parts=some ts)(o:Lm e ts l)(p:∀a,(e a).cells.length=n)(u:WO S K os ((d,.ow (.list n (l.map e)))::O)):WO S K (⟨some d,.uc n parts,none⟩::os) O:=Zw h o.eq p u
theorem cd{n:Nat}{ts:Fq}{e:α->TV}{l:List α}{f:List α->TV}(h:vals O parts=some ts)(p:Lm e ts l)(u:∀a,(e a).cells.length=n)(c:Fl e n f)(o:WO S K os ((d,.ow (f l))::O)):WO S K (⟨some d,.uc n parts,none⟩::os) O:=by
 rw [c.eq]at o;exact Zw h p.eq u o
theorem cI{e:α->TV}{n:Ne}{x y:AD}{a:α}{cs:Fq}(o:x.val O=some (e a))(p:y.val O=some (.agg cs))[c:Vr e][i:Decidable (a=c.un cs)](u:TV.agg (e a).cells=e a)(w:(e (c.un cs)).cells=cs)(A:(e a).cells.map TV.kd=n)(B:WO S K os ((d,.tv (.bool (decide (a=c.un cs))))::O)):WO S K (⟨some d,.bin (.a n) .eql x y,none⟩::os) O:=by
 obtain ⟨C,h⟩:=c.dec a (c.un cs);have:i=C:=Subsingleton.elim _ _;subst this;rw[<-u]at o;rw[w]at h;exact Wm o p A h B
theorem cK{e:α->TV}{n:Ne}{x y:AD}{a:α}{cs:Fq}(o:x.val O=some (e a))(p:y.val O=some (.agg cs))[c:Vr e][i:Decidable (a=c.un cs)](u:TV.agg (e a).cells=e a)(w:(e (c.un cs)).cells=cs)(A:(e a).cells.map TV.kd=n)(B:WO S K os ((d,.tv (.bool (!decide (a=c.un cs))))::O)):WO S K (⟨some d,.bin (.a n) .neq x y,none⟩::os) O:=by
 obtain ⟨C,h⟩:=c.dec a (c.un cs);have:i=C:=Subsingleton.elim _ _;subst this;rw[<-u]at o;rw[w]at h;exact Wn o p A h B
theorem cH{e:α->TV}{n:Ne}{x y:AD}{a b:α}{i:Decidable (a=b)}(o:x.val O=some (e a))(p:y.val O=some (e b))(c:Vr e)(u:TV.agg (e a).cells=e a)(w:TV.agg (e b).cells=e b)(A:(e a).cells.map TV.kd=n)(B:WO S K os ((d,.tv (.bool (decide (a=b))))::O)):WO S K (⟨some d,.bin (.a n) .eql x y,none⟩::os) O:=by
 obtain ⟨C,h⟩:=c.dec a b;have:i=C:=Subsingleton.elim _ _;subst this;rw[<-u]at o;rw[<-w]at p;exact Wm o p A h B
theorem cJ{e:α->TV}{n:Ne}{x y:AD}{a b:α}{i:Decidable (a=b)}(o:x.val O=some (e a))(p:y.val O=some (e b))(c:Vr e)(u:TV.agg (e a).cells=e a)(w:TV.agg (e b).cells=e b)(A:(e a).cells.map TV.kd=n)(B:WO S K os ((d,.tv (.bool (!decide (a=b))))::O)):WO S K (⟨some d,.bin (.a n) .neq x y,none⟩::os) O:=by
 obtain ⟨C,h⟩:=c.dec a b;have:i=C:=Subsingleton.elim _ _;subst this;rw[<-u]at o;rw[<-w]at p;exact Wn o p A h B
section calls
variable{x:Option α}{f:FuncId}{ts:Fq}{R:α->Af}{args:List AD}
theorem fU{s:Nat}{cs:List AJ}{row:Fq}(o:O.get s=.bx cs)(f:Fz cs row)(k:WO S K os ((s,.tv (.pt row))::O)):WO S K (⟨none,.uP s,none⟩::os) O:=iU o f.h k
theorem cR{t:α->TV}(h:x.bind k=some r)(c:Ct P x f ts R)(p:vals O args=some ts)(u:∀a,R a=.sh (t a))(w:∀a,x=some a->k a=some r->WO (AH P) K os ((d,.tv (t a))::O)):WO (AH P) K (⟨some d,.call f args,none⟩::os) O:=by
 obtain ⟨a,o,h⟩:=bind_some h;have:=c.snd a o;rw[u]at this;exact Wq p this (w a o h)
theorem aF{t:α->TV}(h:x.bind k=some r)(c:Ct P x f ts R)(p:vals O args=some ts)(u:∀a,R a=.own (t a))(w:∀a,x=some a->k a=some r->WO (AH P) K os ((d,.ow (t a))::O)):WO (AH P) K (⟨some d,.call f args,none⟩::os) O:=by
 obtain ⟨a,o,h⟩:=bind_some h;have:=c.snd a o;rw[u]at this;exact bW p this (w a o h)
theorem aH{t:α->TV}(_:HS d)(h:x.bind k=some r)(c:Ct P x f ts R)(p:vals O args=some ts)(u:∀a,R a=.own (t a))(w:∀a,x=some a->k a=some r->WO (AH P) K os ((d,.tv (t a))::O)):WO (AH P) K (⟨some d,.call f args,none⟩::os) O:=by
 obtain ⟨a,o,h⟩:=bind_some h;have:=c.snd a o;rw[u]at this;exact Wq p (du this) (w a o h)
theorem aJ{n:Nat}{t:α->Fq}(h:x.bind k=some r)(c:Ct P x f ts R)(p:vals O args=some ts)(u:∀a,R a=.sZ n (t a))(w:∀a,x=some a->k a=some r->WO (AH P) K os ((d,.ow (.list n (t a)))::O)):WO (AH P) K (⟨some d,.call f args,none⟩::os) O:=by
 obtain ⟨a,o,h⟩:=bind_some h;have:=c.snd a o;rw[u]at this;exact bZ p this (w a o h)
theorem aG{t:α->Fq}(h:x.bind k=some r)(c:Ct P x f ts R)(p:vals O args=some ts)(u:∀a,R a=.tp (t a))(w:∀a,x=some a->k a=some r->WO (AH P) K os ((d,.tp (t a))::O)):WO (AH P) K (⟨some d,.call f args,none⟩::os) O:=by
 obtain ⟨a,o,h⟩:=bind_some h;have:=c.snd a o;rw[u]at this;exact bX p this (w a o h)
theorem aC{t:α->List AJ}(h:x.bind k=some r)(c:Ct P x f ts R)(p:vals O args=some ts)(u:∀a,R a=.sq (t a))(w:∀a,x=some a->k a=some r->WO (AH P) K os ((d,.tv (.agg ((t a).map fun c=>c.rel.t)))::O)):WO (AH P) K (⟨some d,.call f args,none⟩::os) O:=by
 obtain ⟨a,o,h⟩:=bind_some h;have:=c.snd a o;rw[u]at this;exact bS p this rfl (w a o h)
theorem aB{t:α->List AJ}(h:x.bind k=some r)(c:Ct P x f ts R)(p:vals O args=some ts)(u:∀a,R a=.sq (t a))(w:∀a,x=some a->k a=some r->WO (AH P) K os ((d,.sq (t a))::O)):WO (AH P) K (⟨some d,.s9 f args,none⟩::os) O:=by
 obtain ⟨a,o,h⟩:=bind_some h;have:=c.snd a o;rw[u]at this;exact bR p this (w a o h)
theorem aK{n:Nat}{t:α->Fq}(h:x.bind k=some r)(c:Ct P x f ts R)(p:O.l3 d=true)(u:vals O args=some ts)(w:∀a,R a=.sZ n (t a))(A:∀a,x=some a->k a=some r->WO (AH P) K os ((d,.xo n (t a))::O)):WO (AH P) K (⟨some d,.sI f args,none⟩::os) O:=by
 obtain ⟨a,o,h⟩:=bind_some h;have:=c.snd a o;rw[w]at this;exact ba p u this (A a o h)
theorem Xh{γ:Type}{k:List γ->Option β}{x:Option (List γ)}{R:List γ->Af}{n:Nat}{e:γ->TV}(h:x.bind k=some r)(c:Ct P x f ts R)(p:O.l3 d=true)(u:vals O args=some ts)(w:∀a,R a=.own (.list n (a.map e)))(hf:∀a,(e a).flat=true)(A:∀a,x=some a->k a=some r->WO (AH P) K os ((d,.xo n (a.map e))::O)):WO (AH P) K (⟨some d,.sI f args,none⟩::os) O:=by
 obtain ⟨a,o,h⟩:=bind_some h;have:=c.snd a o;rw[w]at this;exact Ya p u this rfl hf (A a o h)
theorem aD{t:α->TV}(h:x.bind k=some r)(c:Ct P x f ts R)(p:sf O args=some ts)(u:∀a,R a=.sh (t a))(w:∀a,(t a).flat=true)(A:∀a,x=some a->k a=some r->WO (AH P) K os ((d,.tv (t a))::O)):WO (AH P) K (⟨some d,.r9 f args,none⟩::os) O:=by
 obtain ⟨a,o,h⟩:=bind_some h;have:=c.snd a o;rw[u]at this;exact bU p this (w a) (A a o h)
theorem Xe{t:α->Fq}(h:x.bind k=some r)(c:Ct P x f ts R)(p:sf O args=some ts)(u:∀a,R a=.tp (t a))(w:∀a,TV.rV (t a)=true)(A:∀a,x=some a->k a=some r->WO (AH P) K os ((d,.tp (t a))::O)):WO (AH P) K (⟨some d,.r9 f args,none⟩::os) O:=by
 obtain ⟨a,o,h⟩:=bind_some h;have:=c.snd a o;rw[u]at this;exact YV p this (w a) (A a o h)
theorem Xd{γ:Type}{k:List γ->Option β}{x:Option (List γ)}{R:List γ->Af}{n:Nat}{e:γ->TV}(h:x.bind k=some r)(c:Ct P x f ts R)(p:sf O args=some ts)(u:∀a,R a=.own (.list n (a.map e)))(hf:∀a,(e a).flat=true)(w:∀a,x=some a->k a=some r->WO (AH P) K os ((d,.ow (.list n (a.map e)))::O)):WO (AH P) K (⟨some d,.r9 f args,none⟩::os) O:=by
 obtain ⟨a,o,h⟩:=bind_some h;have:=c.snd a o;rw[u]at this;exact YU p this rfl rfl hf (w a o h)
theorem aA{t:α->Fq}(h:x.bind k=some r)(c:Ct P x f ts R)(p:vals O args=some ts)(u:∀a,R a=.ext (t a))(w:∀a,x=some a->k a=some r->WO (AH P) K os ((d,.tp (t a))::O)):WO (AH P) K (⟨some d,.ta f args,none⟩::os) O:=by
 obtain ⟨a,o,h⟩:=bind_some h;have:=c.snd a o;rw[u]at this;exact bQ p this (w a o h)
theorem Tl{i s:Nat}{cs:List AJ}{cs':α->List AJ}{us:α->Fq}{e:α->EV}(h:x.bind k=some r)(c:Ct P x f ts R)(p:(args[i]?).bind (·.place O)=some (s,0))(u:O.get s=.bx cs)(w:O.tC s none=true)(hd:d≠s)(A:E8 O i args=some ts)(B:∀a,R a=.bo cs (cs' a) i (us a))(he:∀a,EV.ofs (us a)=e a)(C:∀a,x=some a->k a=some r->WO (AH P) K os ((d,e a)::(s,.bx (cs' a))::O)):WO (AH P) K (⟨some d,.r7 f args i,none⟩::os) O:=by
 obtain ⟨a,o,h⟩:=bind_some h;have:=c.snd a o;rw[B]at this;exact bO p u w hd A this (he a) (C a o h)
variable{qi:Option Nat}
theorem aE{k:Fp->Option β}{f:FuncId}{x:AD}{q:Nat}{es:Fq}{l:Fp}{y:Option Fp}{env':Fp->AA}(h:y.bind k=some r)(c:Ct P y f [.list 1 (l.map (TV.int .i64))] Af.turn)(p:x.rL O=some ((q,qi),1,es))(he:es=l.map (TV.int .i64))(hv:∀a,O.rZ q qi 1 (a.map (TV.int .i64))=env' a)(u:∀a,y=some a->k a=some r->WO (AH P) K os ((d,.tp [])::env' a)):WO (AH P) K (⟨some d,.sS f x,none⟩::os) O:=by
 obtain ⟨a,o,h⟩:=bind_some h;exact bV p he rfl (c.snd a o) rfl (hv a) (u a o h)
theorem Z9{k:Fp->Option β}{f:FuncId}{x:AD}{q:Nat}{es:Fq}{l:Fp}{y:Option Fp}(h:y.bind k=some r)(c:Ct P y f [.list 1 (l.map (TV.int .i64))] Af.cut)(u:x.rL O=some ((q,none),1,es))(he:es=l.map (TV.int .i64))(o:q≠d)(w:O.l3 d=true)(A:∀a,y=some a->k a=some r->WO (AH P) K os ((d,.xo 1 (a.map (TV.int .i64)))::(q,.undef)::O)):WO (AH P) K (⟨some d,.sR f x,none⟩::os) O:=by
 obtain ⟨a,p,h⟩:=bind_some h;exact bP u he rfl o w (c.snd a p) rfl (A a p h)
section values
variable{v:AD}{caps us:Fq}
theorem aI{t:α->TV}(h:x.bind k=some r)(c:Ct P x f ts R)(hv:v.val O=some (.sE f caps))(p:vals O args=some us)(u:us++caps=ts)(w:∀a,R a=.sh (t a))(A:∀a,x=some a->k a=some r->WO (AH P) K os ((d,.tv (t a))::O)):WO (AH P) K (⟨some d,.sJ v args,none⟩::os) O:=by
 obtain ⟨a,o,h⟩:=bind_some h;have:=c.snd a o;rw[w,<-u]at this;exact bY hv p this (A a o h)
theorem Xf{t:α->TV}(h:x.bind k=some r)(c:Ct P x f ts R)(hv:v.val O=some (.sE f caps))(p:vals O args=some us)(u:us++caps=ts)(w:∀a,R a=.own (t a))(A:∀a,x=some a->k a=some r->WO (AH P) K os ((d,.ow (t a))::O)):WO (AH P) K (⟨some d,.sJ v args,none⟩::os) O:=by
 obtain ⟨a,o,h⟩:=bind_some h;have:=c.snd a o;rw[w,<-u]at this;exact YY hv p this (A a o h)
theorem Xg{t:α->Fq}(h:x.bind k=some r)(c:Ct P x f ts R)(hv:v.val O=some (.sE f caps))(p:vals O args=some us)(u:us++caps=ts)(w:∀a,R a=.tp (t a))(A:∀a,x=some a->k a=some r->WO (AH P) K os ((d,.tp (t a))::O)):WO (AH P) K (⟨some d,.sJ v args,none⟩::os) O:=by
 obtain ⟨a,o,h⟩:=bind_some h;have:=c.snd a o;rw[w,<-u]at this;exact YZ hv p this (A a o h)
end values
end calls
inductive GS(g:Nat)(b:Bool):Ne->List PR->Ne->Nat->Prop
 |done {acc:Ne} {os:List PR}:GS g b acc os [] 0
 |step {acc js:Ne} {d n:Nat} {op:AC} {os:List PR}:GS g b (d::acc) os js n->GS g b acc (⟨some d,op,some (g,b)⟩::os) (d::js) (n+1)
 |vj {acc js:Ne} {d n g':Nat} {b':Bool} {op:AC} {os:List PR}:acc.contains g'=true->GS g b (d::acc) os js n->GS g b acc (⟨some d,op,some (g',b')⟩::os) (d::js) (n+1)
def cF:Ne->AA->(AA->Prop)->Prop
 |[],z,K=>K z|k::ks,z,K=>∃j,cF ks ((k,j)::z) K
structure Gj(js:Ne)(d:Nat)(v:TV)(z e:AA):Prop where
 of::out:cF js z fun y=>e=(d,.tv v)::y
theorem WJ{d:Nat}{v:TV}{z e:AA}(h:e=(d,.tv v)::z):Gj [] d v z e:=⟨h⟩
variable{ks:Ne}
theorem ah{k d:Nat}{v:TV}{j:EV}{z e:AA}(h:Gj ks d v ((k,j)::z) e):Gj (k::ks) d v z e:=⟨j,h.out⟩
theorem cY{js:Ne}{v:TV}{z:AA}(h:Gj js d v z O):WO S (Gj js d v z) [] O:=⟨h⟩
structure Qd(js:Ne)(z:AA)(Q:AA->Prop):Prop where
 of::out:∀(d:Nat)(v:TV)(e:AA),Gj js d v z e->∃y,e=(d,.tv v)::y/\Q y
theorem ai{z:AA}{Q:AA->Prop}(h:Q z):Qd [] z Q:=⟨fun _ _ _ he=>⟨z,he.out,h⟩⟩
theorem X2{k:Nat}{z:AA}{Q:AA->Prop}(h:∀j,Qd ks ((k,j)::z) Q):Qd (k::ks) z Q:=⟨fun d v e he=>by
 obtain ⟨j,o⟩:=he.out;exact(h j).out d v e ⟨o⟩⟩
theorem gk{dd:Option Nat}{op:AC}{g:Nat}{b q:Bool}(h:O.get g=.tv (.bool q))(o:Rs g b q)(p:WO S K (⟨dd,op,none⟩::os) O):WO S K (⟨dd,op,some (g,b)⟩::os) O:=kP h o.out p
theorem fY{ρ:Type}{dd:Option Nat}{op:AC}{g:Nat}{q:Bool}{u v:Option ρ}{r:ρ}(w:O.get g=.tv (.bool q))(h:(if q=true then u else v)=some r)
  (o:Rs g true q->q=true->u=some r->WO S K (⟨dd,op,some (g,true)⟩::os) O)(p:Ov g true q->q=false->v=some r->WO S K (⟨dd,op,some (g,true)⟩::os) O):WO S K (⟨dd,op,some (g,true)⟩::os) O:=by
 cases q with
 |true=>exact o ⟨rfl⟩ rfl h|false=>exact p ⟨by rfl⟩ rfl h
theorem fX{ρ:Type}{dd:Option Nat}{op:AC}{g:Nat}{q:Bool}{u v:Option ρ}{r:ρ}(w:O.get g=.tv (.bool q))(h:(if q=true then u else v)=some r)
  (o:Ov g false q->q=true->u=some r->WO S K (⟨dd,op,some (g,false)⟩::os) O)(p:Rs g false q->q=false->v=some r->WO S K (⟨dd,op,some (g,false)⟩::os) O):WO S K (⟨dd,op,some (g,false)⟩::os) O:=by
 cases q with
 |true=>exact o ⟨by rfl⟩ rfl h|false=>exact p ⟨rfl⟩ rfl h
theorem dP{op:AC}{g:Nat}{b q:Bool}(h:O.get g=.tv (.bool q))(o:Ov g b q)(p:WO S K os ((d,.sk)::O)):WO S K (⟨some d,op,some (g,b)⟩::os) O:=gj h o.out p
theorem Ut{d n:Nat}{js:Ne}{v:TV}(h:WO S (Gj js d v O) (os.take n) O)(o:Qd js O fun e=>WO S K (os.drop n) ((d,.tv v)::e)):WO S K os O:=
 gi n (Gj js d v) h fun e he=>by
  obtain ⟨y,rfl,p⟩:=o.out d v e he;exact p
section groups
variable{g n:Nat}{js:Ne}{c:Bool}{dd gd:Option Nat}{op:AC}{x y z:AD}{gg:Option (Nat×Bool)}
variable{T:K1}{os':List PR}
theorem fa{k:Bool->Option β}(h:(if c=true then T else some false).bind k=some r)(_:GS g true [] os js n)(A:O.get g=.tv (.bool c))(_:os[n]?=some ⟨some d,.pick x y z,gg⟩)
  (p:∀v,Rs g true c->c=true->T=some v->WO S (Gj js d (.bool v) O) (os.take (n+1)) O)(u:∀v,Ov g true c->c=false->some false=some v->WO S (Gj js d (.bool v) O) (os.take (n+1)) O)
  (w:∀v,k v=some r->Qd js O fun e=>WO S K (os.drop (n+1)) ((d,.tv (.bool v))::e))(ho:os=⟨dd,op,some (g,true)⟩::os'):WO S K (⟨dd,op,some (g,true)⟩::os') O:=by
 obtain ⟨v,hv,h⟩:=bind_some h;rw[<-ho];refine Ut (n:=n+1) (v:=.bool v) ?_ (w v h);rcases Bool.eq_false_or_eq_true c with o|o
 .exact p v ⟨o⟩ o (Pt o hv)
 .exact u v ⟨by rw[o];rfl⟩ o (Ps o hv)
theorem fZ{k:Bool->Option β}(h:(if c=true then some true else T).bind k=some r)(_:GS g false [] os js n)(A:O.get g=.tv (.bool c))(_:os[n]?=some ⟨some d,.pick x y z,gg⟩)
  (p:∀v,Rs g false c->c=false->T=some v->WO S (Gj js d (.bool v) O) (os.take (n+1)) O)(u:∀v,Ov g false c->c=true->some true=some v->WO S (Gj js d (.bool v) O) (os.take (n+1)) O)
  (w:∀v,k v=some r->Qd js O fun e=>WO S K (os.drop (n+1)) ((d,.tv (.bool v))::e))(ho:os=⟨dd,op,some (g,false)⟩::os'):WO S K (⟨dd,op,some (g,false)⟩::os') O:=by
 obtain ⟨v,hv,h⟩:=bind_some h;rw[<-ho];refine Ut (n:=n+1) (v:=.bool v) ?_ (w v h);rcases Bool.eq_false_or_eq_true c with o|o
 .exact u v ⟨by rw[o];rfl⟩ o (Pt o hv)
 .exact p v ⟨o⟩ o (Ps o hv)
theorem fW{e:Bool}(ho:os=⟨dd,op,some (g,true)⟩::os')(_:GS g true [] os js n)(u:O.get g=.tv (.bool c))(_:os[n]?=some ⟨some d,.pick x y z,gg⟩)
  (h:Rs g true c->c=true->WO S (Gj js d (.bool e) O) (os.take (n+1)) O)(o:Ov g true c->c=false->WO S (Gj js d (.bool false) O) (os.take (n+1)) O)
  (p:Qd js O fun z=>WO S K (os.drop (n+1)) ((d,.tv (.bool (c&&e)))::z)):WO S K (⟨dd,op,some (g,true)⟩::os') O:=by
 rw [<-ho];refine Ut (n:=n+1) (v:=.bool (c&&e)) ?_ p;cases c
 .exact o ⟨rfl⟩ rfl
 .exact h ⟨rfl⟩ rfl
theorem fV{e:Bool}(ho:os=⟨dd,op,some (g,false)⟩::os')(_:GS g false [] os js n)(u:O.get g=.tv (.bool c))(_:os[n]?=some ⟨some d,.pick x y z,gg⟩)
  (h:Rs g false c->c=false->WO S (Gj js d (.bool e) O) (os.take (n+1)) O)(o:Ov g false c->c=true->WO S (Gj js d (.bool true) O) (os.take (n+1)) O)
  (p:Qd js O fun z=>WO S K (os.drop (n+1)) ((d,.tv (.bool (c||e)))::z)):WO S K (⟨dd,op,some (g,false)⟩::os') O:=by
 rw [<-ho];refine Ut (n:=n+1) (v:=.bool (c||e)) ?_ p;cases c
 .exact h ⟨rfl⟩ rfl
 .exact o ⟨rfl⟩ rfl
end groups
variable{qi:Option Nat}{j:Int}
theorem fz{x:AD}{q n i:Nat}{es row:Fq}{e:α->TV}{l:List α}{a:α}{t:TV}(h:x.ev O=.lp q qi (j.toNat*n+i))(o:O.rD q qi=some (n,es))(he:es=l.map e)(p:∀a,(e a).cells.length=n)(u:idx l j=some a)(hi:Nat.blt i n=true)(w:(e a).cells=row)(A:row[i]?=some t)
  (B:WO S K os ((d,.tv t)::O)):WO S K (⟨some d,.vc x,none⟩::os) O:=Z0 h o he p u rfl hi w A B
theorem cm{x:AD}{q n:Nat}{es row:Fq}{e:α->TV}{l:List α}{a:α}{t:TV}(h:x.ev O=.lp q qi (j.toNat*n))(o:O.rD q qi=some (n,es))(he:es=l.map e)(p:∀a,(e a).cells.length=n)(u:idx l j=some a)(hi:Nat.blt 0 n=true)(w:(e a).cells=row)(A:row[0]?=some t)
  (B:WO S K os ((d,.tv t)::O)):WO S K (⟨some d,.vc x,none⟩::os) O:=Z0 (i:=0) h o he p u rfl hi w A B
theorem cq{γ:Type}{s:Nat}{v:AD}{q n i:Nat}{env':AA}{es:Fq}{e:α->TV}{g:γ->TV}{l:List α}{a:α}{b:γ}{f:α->γ->α}(_:HX s f)(h:(AD.s s).ev O=.lp q qi (j.toNat*n+i))(p:O.rD q qi=some (n,es))(hv:v.ev O=.tv (g b))(he:es=l.map e)(u:∀a,(e a).cells.length=n)(w:idx l j=some a)(hi:Nat.blt i n=true)(A:(g b).cells=[g b])
  (B:(e (f a b)).cells=(e a).cells.set i (g b))(o:O.rZ q qi n ((CN l j (f a b)).map e)=env')(C:WO S K os env'):WO S K (⟨none,.t6 (.s s) v 1,none⟩::os) O:=Z1 h p hv he u w rfl hi A B rfl o C
theorem cp{x v:AD}{q n:Nat}{env':AA}{es:Fq}{e:α->TV}{l:List α}{a b:α}(h:x.ev O=.lp q qi (j.toNat*n))(p:O.rD q qi=some (n,es))(hv:v.ev O=.tv (e b))(he:es=l.map e)(u:∀a,(e a).cells.length=n)(w:idx l j=some a)(hi:Nat.blt 0 n=true)(A:(e b).cells=[e b])
  (B:(e b).cells=(e a).cells.set 0 (e b))(o:O.rZ q qi n ((CN l j b).map e)=env')(C:WO S K os env'):WO S K (⟨none,.t6 x v 1,none⟩::os) O:=Z1 (i:=0) h p hv he u w rfl hi A B rfl o C
end
end Go.Sf
namespace Go.Sf
section
variable{S:FuncId->Fq->Af->Prop}{K:AA->Prop}{os:List PR}{O:AA}{d:Nat}
theorem iZ{x:AD}{s o:Nat}{es:Fq}(h:x.ev O=.bp s o)(p:O.nat s o=some es)(k:WO S K os ((d,.nh s o .hd)::O)):WO S K (⟨some d,.uO x,none⟩::os) O:=by
 replace k:=k.out;refine⟨?_⟩;simp only[wpOps,PR.wp,AC.wp,h,p,AQ];exact k
variable{j:Int}
theorem jC{α:Type}{x:AD}{s o:Nat}{es:Fq}{e:α->TV}{l:List α}{a:α}(h:x.ev O=.nh s o (.el j.toNat))(u:O.nat s o=some es)(he:es=l.map e)(w:idx l j=some a)(k:WO S K os ((d,.nh s o (.rw j.toNat))::O)):WO S K (⟨some d,.uQ x,none⟩::os) O:=by
 replace k:=k.out;refine⟨?_⟩;subst he;obtain⟨B,C,A⟩:=FP w;have p:j.toNat<l.length:=(List.getElem?_eq_some_iff.1 A).1;simp only[wpOps,PR.wp,AC.wp,h,u,AQ];exact⟨by simpa using p,k⟩
variable{fs:Fq}
theorem eV{q n:Nat}(h:O.get q=.xo n fs)(o:O.l3 d=true)(hd:d≠q)(k:WO S K os ((d,.x1 n fs)::(q,.undef)::O)):WO S K (⟨some d,.tO q,none⟩::os) O:=by
 replace k:=k.out;refine⟨?_⟩;simp only[wpOps,PR.wp,AC.wp,h];exact⟨⟨o,hd⟩,k⟩
theorem eQ{x:AD}{q s h:Nat}{cs cs':List AJ}{es:Fq}(p:x.place O=some (s,h))(u:O.get q=.xn es)(w:O.get s=.bx cs)(A:O.tC s (some h)=true)(B:Nat.blt h cs.length=true)(o:cs.set h ⟨true,.xn es⟩=cs')(k:WO S K os ((s,.bx cs')::(q,.undef)::O)):WO S K (⟨none,.uJ x q,none⟩::os) O:=by
 replace k:=k.out;refine⟨?_⟩;subst o;simp only[wpOps,PR.wp,AC.wp,p,u,w];exact⟨A,Nat.le_of_ble_eq_true B,k⟩
theorem eK{q:Nat}{cs:List AJ}(h:O.get q=.sq cs)(o:O.l3 d=true)(hd:d≠q)(k:WO S K os ((d,.bx cs)::(q,.undef)::O)):WO S K (⟨some d,.ub q,none⟩::os) O:=by
 replace k:=k.out;refine⟨?_⟩;simp only[wpOps,PR.wp,AC.wp,h];exact⟨⟨o,hd⟩,k⟩
theorem ib{s n:Nat}{cs cs':List AJ}(h:O.get s=.bx cs)(o:Nat.beq cs.length n=true)(hd:d≠s)(p:(cs.map fun _=>(⟨false,.undef⟩:AJ))=cs')(k:WO S K os ((d,.sq cs)::(s,.bx cs')::O)):WO S K (⟨some d,.ve s n,none⟩::os) O:=by
 replace k:=k.out;refine⟨?_⟩;subst p;simp only[wpOps,PR.wp,AC.wp,h];exact⟨Nat.eq_of_beq_eq_true o,hd,k⟩
theorem jJ{x v:AD}{s h n:Nat}{p:List (Option AJ)}{t:TV}{cs ds cs':List AJ}(u:x.place O=some (s,h))(hv:v.val O=some t)(w:O.get s=.bx cs)(A:CZ p t.cells=some ds)(B:Nat.beq t.cells.length n=true)(o:Nat.ble (h+n) cs.length=true)(C:O.tC s none=true)(D:cs.take h++ds++cs.drop (h+n)=cs')
  (k:WO S K os ((s,.bx cs')::O)):WO S K (⟨none,.uL n p x v,none⟩::os) O:=by
 replace k:=k.out;refine⟨?_⟩;subst D;simp only[wpOps,PR.wp,AC.wp,u,hv,w,A,AQ];exact⟨Nat.eq_of_beq_eq_true B,Nat.le_of_ble_eq_true o,C,k⟩
variable{j2:Int}
theorem jE{α:Type}{x v:AD}{s o:Nat}{es:Fq}{env':AA}{e:List α->TV}{e2:α->TV}{l:List (List α)}{m:List α}{b0 b:α}{t:TV}(h:x.ev O=.nh s o (.rp j.toNat j2.toNat))(A:O.nat s o=some es)(hv:v.ev O=.tv t)(he:es=l.map e)(w:∀m,e m=.list 1 (m.map e2))(B:idx l j=some m)(C:idx m j2=some b0)(D:t=e2 b)(E:t.cells=[t])(F:t.flat=true)
  (p:O.uI s o ((CN l j (CN m j2 b)).map e)=env')(k:WO S K os env'):WO S K (⟨none,.up x v,none⟩::os) O:=by
 replace k:=k.out;refine⟨?_⟩;subst he p D;obtain⟨I,J,G⟩:=FP B;obtain⟨m0,m1,H⟩:=FP C;have u:j2.toNat<m.length:=(List.getElem?_eq_some_iff.1 H).1;simp only[wpOps,PR.wp,AC.wp,h,A,hv,AQ];refine⟨m.map e2,by rw[List.getElem?_map,G];simp[w],by simpa using u,E,F,?_⟩;have:(l.map e).set j.toNat (.list 1 ((m.map e2).set j2.toNat (e2 b)))=(CN l j (CN m j2 b)).map e:=by
  simp only[CN,List.map_set,w]
 rw [this];exact k
end
section
variable{P:Program}{K:AA->Prop}{os:List PR}{O:AA}{d:Nat}{α β γ ρ:Type}{f:FuncId}{args:List AD}{ts:Fq}{R:α->Af}{x:Option α}{k:α->Option ρ}{r:ρ}
variable{j:Int}
theorem fj{x i:AD}{s o:Nat}{es:Fq}{e:α->TV}{l:List α}{ik:IntKind}{S:FuncId->Fq->Af->Prop}(h:(idx l j).bind k=some r)(u:x.ev O=.nh s o .hd)(w:O.nat s o=some es)(hi:i.val O=some (.int ik j))(he:es=l.map e)
  (A:∀a,idx l j=some a->k a=some r->WO S K os ((d,.nh s o (.el j.toNat))::O)):WO S K (⟨some d,.uo x i,none⟩::os) O:=by
 obtain ⟨a,p,h⟩:=bind_some h;have B:=(A a p h).out;refine⟨?_⟩;subst he;obtain⟨D,F,E⟩:=FP p;have C:j.toNat<l.length:=(List.getElem?_eq_some_iff.1 E).1;simp only[wpOps,PR.wp,AC.wp,u,w,hi,AQ];exact⟨D,by simp only[fd];omega,B⟩
variable{e2:α->TV}{j2:Int}
theorem fk{x i:AD}{s o:Nat}{es:Fq}{e:List α->TV}{l:List (List α)}{m:List α}{ik:IntKind}{S:FuncId->Fq->Af->Prop}(h:(idx m j2).bind k=some r)(u:x.ev O=.nh s o (.rw j.toNat))(w:O.nat s o=some es)(hi:i.val O=some (.int ik j2))(he:es=l.map e)(A:∀m,e m=.list 1 (m.map e2))(B:idx l j=some m)
  (C:∀a,idx m j2=some a->k a=some r->WO S K os ((d,.nh s o (.rp j.toNat j2.toNat))::O)):WO S K (⟨some d,.uo x i,none⟩::os) O:=by
 obtain ⟨b,p,h⟩:=bind_some h;have D:=(C b p h).out;refine⟨?_⟩;subst he;obtain⟨H,I,F⟩:=FP B;obtain⟨m0,m1,G⟩:=FP p;have E:j2.toNat<m.length:=(List.getElem?_eq_some_iff.1 G).1;simp only[wpOps,PR.wp,AC.wp,u,w,hi,AQ];exact⟨m0,m.map e2,by rw[List.getElem?_map,F];simp[A],by simp only[fd];omega,D⟩
theorem cL{mm q s o:Nat}{es fs:Fq}{cs cs':List AJ}{n:Nat}{e:β->TV}{l:List β}{m:β}{k:List β->Option ρ}{S:FuncId->Fq->Af->Prop}(h:(Am l [m]).bind k=some r)(w:O.get mm=.nh s o .hd)(A:O.get q=.x1 n fs)(B:O.get s=.bx cs)(C:O.nat s o=some es)(he:es=l.map e)(hf:TV.list n fs=e m)(u:O.l3 d=true)(hd:d≠mm/\d≠q/\mm≠q)(D:cs.set o ⟨false,.undef⟩=cs')
  (E:∀a,Am l [m]=some a->k a=some r->WO S K os ((d,.xn (a.map e))::(s,.bx cs')::(mm,.undef)::(q,.undef)::O)):WO S K (⟨some d,.s5 mm q,none⟩::os) O:=by
 obtain ⟨a,p,h⟩:=bind_some h;have G:=(E a p h).out;refine⟨?_⟩;subst he D;unfold Am at p;split at p
 .rename_i F;cases p;simp only[wpOps,PR.wp,AC.wp,w,A,B,C,AQ];refine⟨by simpa using F,⟨u,hd⟩,?_⟩;rw[hf];simpa[AA.put]using G
 .cases p
theorem Xc{u:α->List β}{v:α->List γ}{w A:Nat}{p:β->TV}{e2:γ->TV}(h:x.bind k=some r)(c:Ct P x f ts R)(E:vals O args=some ts)(F:∀a,R a=.sq [⟨true,.list w ((u a).map p)⟩,⟨true,.list A ((v a).map e2)⟩])(G:∀a,(p a).flat=true)(H:∀a,(e2 a).flat=true)
  (I:∀a,x=some a->k a=some r->WO (AH P) K os ((d,.sq [⟨true,.xl w ((u a).map p)⟩,⟨true,.xl A ((v a).map e2)⟩])::O)):WO (AH P) K (⟨some d,.sP f args,none⟩::os) O:=by
 obtain ⟨a,D,h⟩:=bind_some h;have C:=c.snd a D;rw[F]at C;have J:=(I a D h).out;have o:∀{τ:Type}(e:τ->TV)(l:List τ),(∀a,(e a).flat=true)->TV.rV (l.map e)=true:=by
  intro τ e l he
  induction l with
  |nil=>rfl|cons a l L=>simp[TV.rV,he,L]
 refine ⟨?_⟩;simp only[wpOps,PR.wp,AC.wp,E,AQ];refine⟨_,C,fun c B=>?_,fun _=>J⟩;simp only[List.mem_cons,List.not_mem_nil,or_false]at B;rcases B with rfl|rfl
 .exact⟨_,_,rfl,o _ _ G⟩
 .exact⟨_,_,rfl,o _ _ H⟩
inductive NL:List AJ->List AJ->Prop
 |nil {xs:List AJ}:xs=[]->NL xs []
 |cons {xs ys zs:List AJ} {o:Bool} {t:TV}:xs=⟨o,t⟩::ys->NL ys zs->NL xs (⟨o,t⟩::zs)
theorem NL.eq{xs o:List AJ}(h:NL xs o):xs=o:=by
 induction h with
 |nil h=>exact h|cons h _ p=>rw[h,p]
theorem fu{S:FuncId->Fq->Af->Prop}{K:AA->Prop}{os:List PR}{O:AA}{n s h:Nat}{x v:AD}{cs cs':List AJ}{t:TV}(o:x.place O=some (s,h))(p:O.get s=.bx cs)(hv:v.ev O=.tv t)(u:t.cells.length=n)(w:Nat.ble (h+n) cs.length=true)(A:NL (cs.take h++t.cells.map (⟨false,·⟩)++cs.drop (h+n)) cs')
  (k:WO S K os ((s,.bx cs')::O)):WO S K (⟨none,.st n x v,none⟩::os) O:=eh o p hv u w A.eq k
theorem cl{S:FuncId->Fq->Af->Prop}{K:AA->Prop}{os:List PR}{O:AA}{s h q:Nat}{x:AD}{cs cs':List AJ}{t:TV}(o:x.place O=some (s,h))(p:O.get s=.bx cs)(hv:O.get q=.ow t)(u:q≠s)(w:Nat.blt h cs.length=true)(A:NL (cs.set h ⟨true,t⟩) cs')
  (k:WO S K os ((s,.bx cs')::(q,.tv t)::O)):WO S K (⟨none,.st 1 x (.s q),none⟩::os) O:=Zz o p hv u w A.eq k
theorem Qn:∀(ts:List (Nat×Nat×TV))(done rest:Fq),PE done.length ts=true->(FL ts).length<=rest.length->DH (done++rest) ts=some (done++(FL ts++rest.drop (FL ts).length))
 |[],done,rest,_,h=>by simp[DH,FL]|(i,n,t)::r,done,rest,p,h=>by
  simp only[PE,rt,Nat.beq_eq]at p;obtain⟨⟨rfl,o⟩,A⟩:=p;simp only[FL,ci]at h;have u:n<=rest.length:=by omega
  simp only[DH];rw[az ⟨o,by rw[ci];omega⟩];have w:done++rest=done++(rest.take n++rest.drop n):=by rw[List.take_append_drop]
  rw [w,N6 t.cells done (rest.take n) (rest.drop n) (by rw[ec];omega),<-ff];rw[Qn r (done++t.cells) (rest.drop n) (by rw[ci,o];exact A) (by rw[List.length_drop];omega)];simp[FL,List.drop_drop,o]
inductive NT:Fq->Fq->Prop
 |nil {xs:Fq}:xs=[]->NT xs []
 |cons {xs ys zs:Fq} {t:TV}:xs=t::ys->NT ys zs->NT xs (t::zs)
theorem NT.eq{xs o:Fq}(h:NT xs o):xs=o:=by
 induction h with
 |nil h=>exact h|cons h _ p=>rw[h,p]
variable{zero:Fq}
theorem cQ{S:FuncId->Fq->Af->Prop}{K:AA->Prop}{os:List PR}{O:AA}{d:Nat}{parts:List (Nat×Nat×AD)}{ts:List (Nat×Nat×TV)}{cs:Fq}(h:EO O parts=some ts)(o:PE 0 ts=true)(p:Nat.ble (FL ts).length zero.length=true)(u:NT (FL ts++zero.drop (FL ts).length) cs)(k:WO S K os ((d,.tv (.agg cs))::O)):WO S K (⟨some d,.tQ zero parts,none⟩::os) O:=
 Re h (by have:=Qn ts [] zero o (Nat.le_of_ble_eq_true p);simpa using this) (by rw[u.eq]) k
structure HY{α A B C:Type}(n:Nat)(f:A->B->C->α)(g1:A->TV)(g2:B->TV)(g3:C->TV):Prop where
variable{qi:Option Nat}
theorem cr{S:FuncId->Fq->Af->Prop}{K:AA->Prop}{os:List PR}{O:AA}{α A B C:Type}{f:A->B->C->α}{o:Nat}{v:AD}{q n:Nat}{env':AA}{es cs cs':Fq}{e:α->TV}{l:List α}{a:α}{E:A}{F:B}{G:C}{p:A->TV}{u:B->TV}{w:C->TV}(_:HY o f p u w)(h:(AD.s o).ev O=.lp q qi (j.toNat*n))(H:O.rD q qi=some (n,es))(he:es=l.map e)(I:∀a,(e a).cells.length=n)(hv:v.ev O=.tv (.agg cs))(J:NT cs cs')(L:cs'=[p E,u F,w G])(hf:∀a b c,TV.agg [p a,u b,w c]=e (f a b c))(N:idx l j=some a)(U:Nat.blt 0 n=true)
  (D:O.rZ q qi n ((CN l j (f E F G)).map e)=env')(k:WO S K os env'):WO S K (⟨none,.t6 (.s o) v n,none⟩::os) O:=Z2 h H (by rw[hv,J.eq,L,hf]) he I N U D k
theorem gA{S:FuncId->Fq->Af->Prop}{α:Type}{x v:AD}{q n:Nat}{env':AA}{es:Fq}{e:α->TV}{l:List α}{a b:α}(h:x.ev O=.lp q qi (j.toNat*n))(p:O.rD q qi=some (n,es))(he:es=l.map e)(u:∀a,(e a).cells.length=n)(hv:v.ev O=.tv (e b))(w:idx l j=some a)(A:Nat.blt 0 n=true)
  (o:O.rZ q qi n ((CN l j b).map e)=env')(k:WO S K os env'):WO S K (⟨none,.t6 x v n,none⟩::os) O:=Z2 h p hv he u w A o k
theorem Z8{i q:Nat}{cs:List AJ}{o:Fq}{p:α->Af}{e:α->EV}(h:x.bind k=some r)(c:Ct P x f o R)(hi:args[i]?=some (.s q))(B:O.get q=.sq cs)(hd:d≠q)(C:E8 O i args=some ts)(u:ts.set i (.agg (cs.map fun _=>.undef))=o)(D:∀a,R a=.ag cs i (p a))(he:∀a,(p a).uf=e a)
  (E:∀a,x=some a->k a=some r->WO (AH P) K os ((d,e a)::(q,.undef)::O)):WO (AH P) K (⟨some d,.sW f args i,none⟩::os) O:=by
 obtain ⟨a,A,h⟩:=bind_some h;have w:=c.snd a A;rw[D]at w;have F:=(E a A h).out;refine⟨?_⟩;subst u;simp only[wpOps,PR.wp,AC.wp,hi,B,C,AQ];refine⟨hd,p a,w,fun _=>?_⟩;rw[he];exact F
end
section
variable{S:FuncId->Fq->Af->Prop}{K:AA->Prop}{os:List PR}{O:AA}{d:Nat}
theorem iq(k:∀b,WO S K os ((d,.mx (.mp b []))::O)):WO S K (⟨some d,.ur,none⟩::os) O:=
 ⟨fun b=>(k b).out⟩
variable{kvs:Bb}
theorem iz{s b:Nat}(h:O.get s=.mx (.mp b kvs))(k:WO S K os ((d,.tv (.sK b))::O)):WO S K (⟨some d,.uH s,none⟩::os) O:=by
 replace k:=k.out;refine⟨?_⟩;simp only[wpOps,PR.wp,AC.wp,h];exact k
variable{ky:Int×Int}
theorem iu{s b:Nat}{m x:AD}{t:TV}(h:O.get s=.mx (.mp b kvs))(o:m.val O=some (.sK b))(p:x.val O=some t)(u:t.um?=some ky)(k:WO S K os ((d,.tp [.int .i64 ((kvs.look ky).getD 0),.bool (kvs.look ky).isSome])::O)):WO S K (⟨some d,.vb s m x,none⟩::os) O:=by
 replace k:=k.out;refine⟨?_⟩;simp only[wpOps,PR.wp,AC.wp,h,o,p,u,AQ];exact⟨trivial,k⟩
theorem iy{s b:Nat}{m x v:AD}{t:TV}{n:Int}(h:O.get s=.mx (.mp b kvs))(o:m.val O=some (.sK b))(p:x.val O=some t)(u:t.um?=some ky)(hv:v.val O=some (.int .i64 n))(k:WO S K os ((s,.mx (.mp b (kvs.set ky n)))::O)):WO S K (⟨none,.uK s m x v,none⟩::os) O:=by
 replace k:=k.out;refine⟨?_⟩;simp only[wpOps,PR.wp,AC.wp,h,o,p,u,hv,AQ];exact⟨trivial,k⟩
variable{todo:Bb}
theorem io{s:Nat}{p:(Int×Int)×Int}(h:O.get s=.mx (.mi (some p) todo))(k:WO S K os ((d,.tp [KW p.1,.int .i64 p.2])::O)):WO S K (⟨some d,.uR s,none⟩::os) O:=by
 replace k:=k.out;refine⟨?_⟩;simp only[wpOps,PR.wp,AC.wp,h];exact k
theorem Wt{s b:Nat}{ts:Fq}(h:O.get s=.mx (.tm b kvs ts))(k:WO S K os ((d,.tp (.sK b::ts))::O)):WO S K (⟨some d,.uH s,none⟩::os) O:=by
 replace k:=k.out;refine⟨?_⟩;simp only[wpOps,PR.wp,AC.wp,h];exact k
theorem Ws{s:Nat}{ts:Fq}(h:O.get s=.tp ts)(k:WO S K os ((d,.tp ts)::O)):WO S K (⟨some d,.uH s,none⟩::os) O:=by
 replace k:=k.out;refine⟨?_⟩;simp only[wpOps,PR.wp,AC.wp,h];exact k
theorem Zx{s b:Nat}{ts:Fq}{m:AD}(h:O.get s=.mx (.tm b kvs ts))(o:m.val O=some (.sK b))(hd:d≠s)(k:WO S K os ((d,.mx (.mi none kvs))::(s,.undef)::O)):WO S K (⟨some d,.rK s m,none⟩::os) O:=by
 replace k:=k.out;refine⟨?_⟩;simp only[wpOps,PR.wp,AC.wp,h,o];exact⟨⟨hd,trivial⟩,k⟩
theorem iv{s:Nat}{last:Option ((Int×Int)×Int)}(h:O.get s=.mx (.mi last todo))(hd:d≠s)(u:todo=[]->WO S K os ((d,.tp [.bool false])::O))(w:∀p o,todo.Perm (p::o)->WO S K os ((d,.tp [.bool true,KW p.1,.int .i64 p.2])::(s,.mx (.mi (some p) o))::O)):WO S K (⟨some d,.u9 s,none⟩::os) O:=by
 refine ⟨?_⟩;simp only[wpOps,PR.wp,AC.wp,h];exact⟨hd,fun e=>(u e).out,fun p t A=>(w p t A).out⟩
theorem YX{f:FuncId}{args:List AD}{ts us:Fq}(hv:vals O args=some ts)(h:S f ts (.mpr kvs us))(k:∀b,WO S K os ((d,.mx (.tm b kvs us))::O)):WO S K (⟨some d,.sV f args,none⟩::os) O:=by
 refine ⟨?_⟩;simp only[wpOps,PR.wp,AC.wp,hv,AQ];exact .inr ⟨kvs,us,h,fun _ b=>(k b).out⟩
theorem YW{f:FuncId}{args:List AD}{ts us:Fq}(hv:vals O args=some ts)(h:S f ts (.tp us))(k:WO S K os ((d,.tp us)::O)):WO S K (⟨some d,.sV f args,none⟩::os) O:=by
 refine ⟨?_⟩;simp only[wpOps,PR.wp,AC.wp,hv,AQ];exact .inl ⟨us,h,fun _=>k.out⟩
theorem Gy{ss:Ne}{s:Nat}{r:AA}{m:MX}(h:O.get s=.mx m)(k:Kp O ss r):Kp O (s::ss) ((s,.mx m)::r):=Ia h k
theorem iC{ss:Ne}{s:Nat}{r:AA}{q:List (Nat×EV)}{m:MX}(h:look q s=none)(o:O.get s=.mx m)(k:Nm O q ss r):Nm O q (s::ss) ((s,.mx m)::r):=J5 h o k
end
def Ib(r:Bb×Int):Af:=if r.2=0 then .mpr r.1 [.int .i64 r.2]else .tp [.undef,.int .i64 r.2]
structure jZ(o:Nat):Prop where
variable{kvs:Bb}
theorem a7{h:List RV}{O:AA}{e:Int}(he:(!decide (e=0))=true)(o:h.length≠1)(p:C9 O h=some [.undef,.int .i64 e]):Bf h (Ib (kvs,e)) O:=by
 simp only[Bool.not_eq_true',decide_eq_false_iff_not]at he;simp only[Ib,bk he];exact⟨o,p⟩
theorem a8{s o b:Nat}{h:List RV}{O:AA}(_:jZ o)(p:O.get s=.tv (.sK b))(u:O.get o=.mx (.mp b kvs))(w:h≠[])(A:C9 O h=some [.int .i64 0]):Bf (.tmp s::h) (Ib (kvs,0)) O:=by
 simp only[Ib,if_true,Bf];exact⟨w,⟨b,o,p,u⟩,A⟩
section
variable{P:Program}{α β:Type}{K:AA->Prop}{os:List PR}{O:AA}{d:Nat}{x:Option α}{k:α->Option β}{r:β}{f:FuncId}{args:List AD}{ts:Fq}{R:α->Af}
theorem Xb{i s:Nat}{cs:List AJ}{q:α->Bool}{u v:α->List AJ}{us:α->Fq}{e:α->EV}(h:x.bind k=some r)(c:Ct P x f ts R)(A:(args[i]?).bind (·.place O)=some (s,0))(B:O.get s=.bx cs)(C:O.tC s none=true)(hd:d≠s)(D:E8 O i args=some ts)(E:∀a,R a=.bo cs (if q a=true then u a else v a) i (us a))(he:∀a,EV.ofs (us a)=e a)
  (F:∀a,x=some a->q a=true->k a=some r->WO (AH P) K os ((d,e a)::(s,.bx (u a))::O))(G:∀a,x=some a->q a=false->k a=some r->WO (AH P) K os ((d,e a)::(s,.bx (v a))::O)):WO (AH P) K (⟨some d,.r7 f args i,none⟩::os) O:=by
 refine Tl h c A B C hd D E he (fun a o p=>?_);cases w:q a with
 |true=>rw[az rfl];exact F a o w p|false=>rw[bk (by simp)];exact G a o w p
end
section
variable{S:FuncId->Fq->Af->Prop}{a b:PC}{O:AA}
variable{Q:Q}
theorem cU{c:AD}{β:Type}{q:Bool}{u v:Option β}{r:β}(p:c.val O=some (.bool q))(h:(if q=true then u else v)=some r)(o:q=true)(k:u=some r->WP S a Q O):WP S (.cond c a b) Q O:=
 Lc p o (k (Pt o h))
theorem cT{c:AD}{β:Type}{q:Bool}{u v:Option β}{r:β}(p:c.val O=some (.bool q))(h:(if q=true then u else v)=some r)(o:q=false)(k:v=some r->WP S b Q O):WP S (.cond c a b) Q O:=
 Lb p o (k (Ps o h))
end
end Go.Sf
set_option maxRecDepth 100000
namespace Go.Sf
theorem au{P:Prop}(p:P:=by
 repeat' (first
  |(show WO _ _ _ _;first
    |(apply Js;exact rfl)
    |(apply eU;exact rfl;exact rfl)
    |(apply ia;exact rfl)
    |(apply M9;exact rfl;exact rfl)
    |(apply jM;exact rfl)
    |(apply k7;exact rfl)
    |apply IV
    |(apply Zt;exact rfl)
    |(apply Zs;exact rfl)
    |(apply Wr;exact rfl;exact rfl)
    |(apply Wo;exact rfl)
    |(apply gk;exact rfl;assumption)
    |(apply dP;exact rfl;assumption)
    |(apply kQ;exact rfl)
    |(apply be;exact rfl;assumption;exact rfl)
    |(apply bd;exact rfl;assumption;exact rfl)
    |(apply iS;exact rfl;exact rfl)
    |(apply il;exact rfl;exact rfl)
    |(apply iK;exact rfl;exact rfl)
    |(apply VX;exact rfl;exact rfl)
    |(apply ij;exact rfl;exact rfl)
    |(apply jL;exact rfl;exact rfl)
    |(apply iW;exact rfl;exact rfl)
    |(apply iV;exact rfl;exact rfl)
    |(apply Wp;exact rfl;exact rfl)
    |(apply ii;exact rfl;(first|exact rfl|exact Ml.eq))
    |(apply fb;exact h;exact rfl;exact rfl;(first|exact rfl|exact Ml.eq);intro x o h)
    |(apply cR;exact h;infer_instance;exact rfl;exact fun _=>rfl;intro x o h)|(apply aG;exact h;infer_instance;exact rfl;exact fun _=>rfl;intro x o h)|(apply aH;assumption;exact h;infer_instance;exact rfl;exact fun _=>rfl;intro x o h)|(apply aF;exact h;infer_instance;exact rfl;exact fun _=>rfl;intro x o h)|(apply aJ;exact h;infer_instance;exact rfl;exact fun _=>rfl;intro x o h)|(apply aC;exact h;infer_instance;exact rfl;exact fun _=>rfl;intro x o h)
    |(apply fY;exact rfl;(with_reducible exact h);intro A C h;rotate_left;intro A C h;rotate_left)
    |(apply fX;exact rfl;(with_reducible exact h);intro A C h;rotate_left;intro A C h;rotate_left)
    |(apply fa h (ho:=rfl);(focus ((repeat(first|apply GS.step|(apply GS.vj;exact rfl)));exact GS.done));exact rfl;exact rfl;intro v A C h;rotate_left;intro v A C h;rotate_left;intro v h;rotate_left)
    |(apply fZ h (ho:=rfl);(focus ((repeat(first|apply GS.step|(apply GS.vj;exact rfl)));exact GS.done));exact rfl;exact rfl;intro v A C h;rotate_left;intro v A C h;rotate_left;intro v h;rotate_left)
    |(apply fW rfl;(focus ((repeat(first|apply GS.step|(apply GS.vj;exact rfl)));exact GS.done));exact rfl;exact rfl;intro A C;rotate_left;intro A C;rotate_left 3)
    |(apply fV rfl;(focus ((repeat(first|apply GS.step|(apply GS.vj;exact rfl)));exact GS.done));exact rfl;exact rfl;intro A C;rotate_left;intro A C;rotate_left 3)
    |apply cY
    |apply eY
    |(apply cM;exact h;exact rfl;exact rfl;(first|exact rfl|exact Ml.eq);(first|exact rfl|exact Ml.eq);infer_instance;intro x o h)
    |(apply fQ;exact h;exact rfl;exact rfl;(first|exact rfl|exact Ml.eq);(first|exact rfl|exact Ml.eq);intro x o h)
    |(apply cd;exact rfl;(focus ((repeat(apply Lm.cons;exact rfl));exact Lm.nil));exact fun _=>rfl;infer_instance)|(apply cc;exact rfl;(focus ((repeat(apply Lm.cons;exact rfl));exact Lm.nil));exact fun _=>rfl)
    |(apply fh;exact rfl;exact rfl)
    |(apply fg;(with_reducible exact h);infer_instance;exact rfl;exact rfl;exact rfl;intro x o h)
    |(apply ZX;exact rfl;exact rfl;exact rfl)
    |(apply fe;exact rfl;exact rfl;exact rfl;exact rfl)
    |(apply Zv;exact rfl;exact rfl;exact rfl)
    |(apply cb;exact rfl;exact rfl;exact rfl)
    |(apply Rf;exact rfl;exact rfl;exact rfl)
    |(apply cj;exact rfl;exact rfl;exact rfl;exact rfl)
    |(apply Zy;exact rfl;exact rfl;exact rfl;exact rfl;exact rfl)
    |(apply ei;exact rfl;exact rfl;decide;exact rfl;exact rfl)
    |(apply fu;exact rfl;exact rfl;exact rfl;exact rfl;exact rfl;(focus ((repeat(apply NL.cons;exact rfl));exact NL.nil rfl)))
    |(apply cl;exact rfl;exact rfl;exact rfl;decide;exact rfl;(focus ((repeat(apply NL.cons;exact rfl));exact NL.nil rfl)))
    |(apply eh;exact rfl;exact rfl;exact rfl;exact rfl;exact rfl;exact rfl)
    |(apply Zz;exact rfl;exact rfl;exact rfl;decide;exact rfl;exact rfl)
    |(apply ic;exact rfl;exact rfl;exact rfl;exact rfl;exact rfl)
    |(apply cP;(with_reducible exact h);infer_instance;exact rfl;exact rfl;exact rfl;intro x o h)
    |(apply eG;exact rfl;exact rfl;exact rfl;exact rfl)
    |(apply cQ;exact rfl;exact rfl;exact rfl;(focus ((repeat(apply NT.cons;exact rfl));exact NT.nil rfl)))
    |(apply Re;exact rfl;exact rfl;exact rfl)
    |(apply iN;exact rfl)
    |(apply aI;exact h;infer_instance;exact rfl;exact rfl;exact rfl;exact fun _=>rfl;intro x o h)|(apply Xg;exact h;infer_instance;exact rfl;exact rfl;exact rfl;exact fun _=>rfl;intro x o h)|(apply Xf;exact h;infer_instance;exact rfl;exact rfl;exact rfl;exact fun _=>rfl;intro x o h)
    |(apply ft;exact h;exact rfl;(first|exact rfl|exact Ml.eq);exact rfl;exact rfl;intro x o h)
    |(apply ee;exact rfl)
    |(apply cf;exact h;exact rfl;exact rfl;intro x o h)
    |(apply cg;exact h;exact rfl;exact rfl;exact rfl;intro x o h)
    |(apply jD;exact rfl)
    |(apply iw;exact rfl;exact rfl)
    |(apply im;exact rfl;exact rfl)
    |(apply ip;exact rfl;exact rfl)
    |(apply jB;exact rfl)
    |(apply iR;exact rfl)
    |(apply jA;exact rfl)
    |(apply iL;exact rfl)
    |(apply eM;exact rfl;exact rfl;exact rfl;exact rfl)
    |(apply eP;exact rfl;exact rfl;exact rfl)
    |(apply fU;exact rfl;infer_instance)
    |(apply eR;exact rfl;exact rfl;exact rfl)
    |(apply bc;exact rfl;exact rfl;exact rfl)
    |(apply eb;exact rfl;exact rfl)
    |(apply ef;exact rfl;exact rfl)
    |(apply eF;exact rfl;exact rfl)
    |(apply eJ;exact rfl;exact rfl)
    |(apply cH;exact rfl;exact rfl;infer_instance;exact rfl;exact rfl;exact rfl)
    |(apply cJ;exact rfl;exact rfl;infer_instance;exact rfl;exact rfl;exact rfl)
    |refine cI rfl rfl rfl rfl rfl ?_
    |refine cK rfl rfl rfl rfl rfl ?_
    |(apply jO;exact rfl)
    |(apply eZ;exact rfl)
    |(apply jN;exact rfl;exact rfl;decide)
    |(apply jG;exact rfl;decide)
    |(apply ej;exact rfl;(first|exact rfl|exact Ml.eq))
    |(apply fy;exact h;exact rfl;exact rfl;(first|exact rfl|exact Ml.eq);exact rfl;intro x o h)
    |(apply jP;exact rfl;exact rfl)
    |(apply cm;exact rfl;exact rfl;exact rfl;exact fun _=>rfl;assumption;exact rfl;exact rfl;exact rfl)|(apply fz;exact rfl;exact rfl;exact rfl;exact fun _=>rfl;assumption;exact rfl;exact rfl;exact rfl)|(apply cq;assumption;exact rfl;exact rfl;exact rfl;exact rfl;exact fun _=>rfl;assumption;exact rfl;exact rfl;exact rfl;exact rfl)|(apply cp;exact rfl;exact rfl;exact rfl;exact rfl;exact fun _=>rfl;assumption;exact rfl;exact rfl;exact rfl;exact rfl)|(apply cr;assumption;exact rfl;exact rfl;exact rfl;exact fun _=>rfl;exact rfl;(focus ((repeat(apply NT.cons;exact rfl));exact NT.nil rfl));exact rfl;exact fun _ _ _=>rfl;assumption;exact rfl;exact rfl)|(apply gA;exact rfl;exact rfl;exact rfl;exact fun _=>rfl;exact rfl;assumption;exact rfl;exact rfl)
    |(apply cN;exact h;exact rfl;exact rfl;(first|exact rfl|exact Ml.eq);(first|exact rfl|exact Ml.eq);exact rfl;decide;intro x o h)
    |(apply cO;exact h;exact rfl;exact rfl;exact rfl;exact rfl;exact rfl;decide;exact rfl;exact rfl;intro x o h)
    |(apply fS;exact h;exact rfl;exact rfl;exact rfl;exact rfl;decide;intro x o h)
    |(apply fi;exact h;exact rfl;exact rfl;exact rfl;intro x o h)
    |(apply aK;exact h;infer_instance;exact rfl;exact rfl;exact fun _=>rfl;intro x o h)|(apply Xh;exact h;infer_instance;exact rfl;exact rfl;exact fun _=>rfl;exact fun _=>rfl;intro x o h)|(apply aD;exact h;infer_instance;exact rfl;exact fun _=>rfl;exact fun _=>rfl;intro x o h)|(apply Xe;exact h;infer_instance;exact rfl;exact fun _=>rfl;exact fun _=>rfl;intro x o h)|(apply Xd;exact h;infer_instance;exact rfl;exact fun _=>rfl;exact fun _=>rfl;intro x o h)|(apply aB;exact h;infer_instance;exact rfl;exact fun _=>rfl;intro x o h)|(apply Xb;exact h;infer_instance;exact rfl;exact rfl;exact rfl;decide;exact rfl;exact fun _=>rfl;exact fun _=>rfl;intro x o C h;rotate_left;intro x o C h;rotate_left)|(apply Tl;exact h;infer_instance;exact rfl;exact rfl;exact rfl;decide;exact rfl;exact fun _=>rfl;exact fun _=>rfl;intro x o h)|(apply aE;exact h;infer_instance;exact rfl;exact rfl;exact fun _=>rfl;intro x o h)
    |(apply Z9;exact h;infer_instance;exact rfl;exact rfl;decide;exact rfl;intro x o h)
    |(apply aA;exact h;infer_instance;exact rfl;exact fun _=>rfl;intro x o h)
    |(apply fl;exact h;exact rfl;exact rfl;intro x o h)
    |(apply fm;exact h;exact rfl;exact rfl;intro x o h)
    |(apply fR;exact h;exact rfl;exact rfl;decide;intro x o h)
    |(apply ce;exact h;exact rfl;exact rfl;intro x o h)
    |(apply eT;exact rfl)
    |(apply iT;exact rfl;exact rfl)
    |(apply ig;exact rfl;exact rfl;exact rfl)
    |(apply fc;exact h;exact rfl;(first|exact rfl|exact Ml.eq);intro u h)
    |(apply Zu;exact rfl;exact rfl;intro z D;replace h:=aQ h z D)
    |(apply iY;exact rfl;exact rfl)
    |(apply iP;exact rfl;exact rfl;exact rfl;exact rfl;exact rfl)
    |(apply iO;exact rfl;exact rfl;exact rfl;exact rfl;exact rfl;exact rfl)
    |(apply eH;decide;decide;exact rfl;exact rfl)
    |(apply eW;exact rfl)
    |(apply jK;exact rfl;exact rfl;decide;exact rfl;exact rfl;exact rfl;exact rfl)
    |(apply eC;exact rfl;exact rfl;exact rfl)
    |(apply iZ;exact rfl;exact rfl)
    |(apply fj;exact h;exact rfl;exact rfl;exact rfl;(first|exact rfl|exact Ml.eq);intro x o h)
    |(apply jC;exact rfl;exact rfl;(first|exact rfl|exact Ml.eq);assumption)
    |(apply fk;exact h;exact rfl;exact rfl;exact rfl;(first|exact rfl|exact Ml.eq);exact fun _=>rfl;assumption;intro x o h)
    |(apply jE;exact rfl;exact rfl;exact rfl;(first|exact rfl|exact Ml.eq);exact fun _=>rfl;assumption;assumption;exact rfl;exact rfl;exact rfl;exact rfl)
    |(apply eV;exact rfl;exact rfl;decide)
    |(apply cL;exact h;exact rfl;exact rfl;exact rfl;exact rfl;(first|exact rfl|exact Ml.eq);exact rfl;exact rfl;decide;exact rfl;intro x o h)
    |(apply eQ;exact rfl;exact rfl;exact rfl;exact rfl;exact rfl;exact rfl)
    |(apply eK;exact rfl;exact rfl;decide)
    |(apply ib;exact rfl;exact rfl;decide;exact rfl)
    |(apply jJ;exact rfl;exact rfl;exact rfl;exact rfl;exact rfl;exact rfl;exact rfl;exact rfl)
    |(apply Xc;exact h;infer_instance;exact rfl;exact fun _=>rfl;exact fun _=>rfl;exact fun _=>rfl;intro x o h)|(apply Z8;exact h;infer_instance;exact rfl;exact rfl;decide;exact rfl;exact rfl;exact fun _=>rfl;exact fun _=>rfl;intro x o h)
    |(apply iq;intro b;have K:=K b)
    |(apply iz;exact rfl)
    |(apply Wt;exact rfl)
    |(apply Ws;exact rfl)
    |(apply io;exact rfl)
    |(apply Zx;exact rfl;exact rfl;decide)
    |(apply iu;exact rfl;exact rfl;exact rfl;exact rfl)
    |(apply iy;exact rfl;exact rfl;exact rfl;exact rfl;exact rfl))
  |(show WP _ _ _ _;first
    |with_reducible apply fT
    |apply Gs
    |apply Jz
    |(apply cX;exact rfl)
    |(apply fo;exact rfl;exact rfl)
    |apply Rw
    |apply Uc
    |apply Vv
    |(apply Lc;exact rfl;with_reducible rfl)
    |(apply Lb;exact rfl;with_reducible rfl)
    |(apply cZ;exact rfl;exact h;assumption;exact rfl;intro w C h;rotate_left;intro w C h;rotate_left;intro w h;rotate_left)
    |(apply cU;exact rfl;exact h;assumption;intro h)
    |(apply cT;exact rfl;exact h;assumption;intro h)
    |(apply cW;exact rfl;exact h;intro C h;rotate_left;intro C h;rotate_left)
    |(apply Lc;exact rfl;apply lH;assumption)
    |(apply Lb;exact rfl;apply kN;assumption)
    |(apply Vw;assumption;exact h;exact B;(first|exact NX rfl (by first|exact rfl|exact Ml.eq)|exact NW rfl|exact Ks rfl rfl (by first|exact rfl|exact Ml.eq)|exact Kr rfl rfl|exact NZ rfl|exact NY rfl (by first|exact rfl|exact Ml.eq)|exact Nb rfl rfl|exact Na|exact NV (by decide));exact rfl;exact rfl;exact fun _ _=>rfl;intro i s r hi h B;rotate_left;intro i s hi;clear h;rotate_left;intro s h;rotate_left)
    |(apply Vw;apply HB.a;assumption;exact h;exact B;(first|exact NX rfl (by first|exact rfl|exact Ml.eq)|exact NW rfl|exact Ks rfl rfl (by first|exact rfl|exact Ml.eq)|exact Kr rfl rfl|exact NZ rfl|exact NY rfl (by first|exact rfl|exact Ml.eq)|exact Nb rfl rfl|exact Na|exact NV (by decide));exact rfl;exact rfl;exact fun _ _=>rfl;intro i s r hi h B;rotate_left;intro i s hi;clear h;rotate_left;intro s h;rotate_left)
    |(apply Vz;assumption;assumption;exact rfl;exact h;exact B;(first|exact NX rfl (by first|exact rfl|exact Ml.eq)|exact NW rfl|exact Ks rfl rfl (by first|exact rfl|exact Ml.eq)|exact Kr rfl rfl|exact NZ rfl|exact NY rfl (by first|exact rfl|exact Ml.eq)|exact Nb rfl rfl|exact Na|exact NV (by decide));exact rfl;exact rfl;exact fun _ _=>rfl;intro i s r hi h B;rotate_left;intro i s hi;clear h;rotate_left;intro s h;rotate_left)
    |(apply Vz;apply HB.a;assumption;assumption;exact rfl;exact h;exact B;(first|exact NX rfl (by first|exact rfl|exact Ml.eq)|exact NW rfl|exact Ks rfl rfl (by first|exact rfl|exact Ml.eq)|exact Kr rfl rfl|exact NZ rfl|exact NY rfl (by first|exact rfl|exact Ml.eq)|exact Nb rfl rfl|exact Na|exact NV (by decide));exact rfl;exact rfl;exact fun _ _=>rfl;intro i s r hi h B;rotate_left;intro i s hi;clear h;rotate_left;intro s h;rotate_left)
    |(apply Vy;assumption;exact h;exact B;(first|exact NX rfl (by first|exact rfl|exact Ml.eq)|exact NW rfl|exact Ks rfl rfl (by first|exact rfl|exact Ml.eq)|exact Kr rfl rfl|exact NZ rfl|exact NY rfl (by first|exact rfl|exact Ml.eq)|exact Nb rfl rfl|exact Na|exact NV (by decide));exact rfl;exact rfl;exact fun _ _=>rfl;intro i s r hi h B;rotate_left;intro i s hi;clear h;rotate_left;intro s h;rotate_left)
    |(apply Vy;apply HB.a;assumption;exact h;exact B;(first|exact NX rfl (by first|exact rfl|exact Ml.eq)|exact NW rfl|exact Ks rfl rfl (by first|exact rfl|exact Ml.eq)|exact Kr rfl rfl|exact NZ rfl|exact NY rfl (by first|exact rfl|exact Ml.eq)|exact Nb rfl rfl|exact Na|exact NV (by decide));exact rfl;exact rfl;exact fun _ _=>rfl;intro i s r hi h B;rotate_left;intro i s hi;clear h;rotate_left;intro s h;rotate_left)
    |(apply Vx;assumption;exact h;exact B;(first|exact NX rfl (by first|exact rfl|exact Ml.eq)|exact NW rfl|exact Ks rfl rfl (by first|exact rfl|exact Ml.eq)|exact Kr rfl rfl|exact NZ rfl|exact NY rfl (by first|exact rfl|exact Ml.eq)|exact Nb rfl rfl|exact Na|exact NV (by decide));exact rfl;exact rfl;exact fun _ _=>rfl;intro i s r hi h B;rotate_left;intro i s hi;clear h;rotate_left;intro s h;rotate_left)
    |(apply Vx;apply HB.a;assumption;exact h;exact B;(first|exact NX rfl (by first|exact rfl|exact Ml.eq)|exact NW rfl|exact Ks rfl rfl (by first|exact rfl|exact Ml.eq)|exact Kr rfl rfl|exact NZ rfl|exact NY rfl (by first|exact rfl|exact Ml.eq)|exact Nb rfl rfl|exact Na|exact NV (by decide));exact rfl;exact rfl;exact fun _ _=>rfl;intro i s r hi h B;rotate_left;intro i s hi;clear h;rotate_left;intro s h;rotate_left)
    |(apply fx;assumption;assumption;exact rfl;exact h;exact rfl;exact rfl;intro s r h B;rotate_left;intro s h;rotate_left)
    |(apply fw;assumption;exact h;exact rfl;exact rfl;intro s r h B;rotate_left;intro s h;rotate_left)
    |(apply fv;assumption;exact h;exact rfl;exact rfl;intro s r h B;rotate_left;intro s h;rotate_left)
    |apply Tj
    |cases h)
  |(show Kp _ _ _;first
    |exact FQ
    |(apply G0;exact rfl)
    |(apply gv;exact rfl)
    |(apply Gx;exact rfl)
    |(apply gx;exact rfl)
    |(apply gq;exact rfl)
    |(apply Gz;exact rfl)
    |(apply G2;exact rfl)
    |(apply gu;exact rfl)
    |(apply gw;exact rfl)
    |(apply dg;exact rfl)
    |(apply Gy;exact rfl))
  |(show Nm _ _ _ _;first
    |exact dl
    |(apply dk;exact rfl)
    |(apply iF;exact rfl;exact rfl)
    |(apply iD;exact rfl;exact rfl)
    |(apply iA;exact rfl;exact rfl)
    |(apply iH;exact rfl;exact rfl)
    |(apply hU;exact rfl;exact rfl)
    |(apply iE;exact rfl;exact rfl)
    |(apply iG;exact rfl;exact rfl)
    |(apply iB;exact rfl;exact rfl)
    |(apply iC;exact rfl;exact rfl))
  |apply ai
  |(apply X2;intro j)
  |apply ah
  |exact WJ rfl
  |(cases h;exact WJ rfl)
  |apply R8
  |(apply aW;decide)
  |intro B
  |(cases h;first|exact rfl|exact⟨rfl⟩|exact⟨rfl,rfl⟩|exact⟨_,rfl,rfl⟩|exact⟨_,rfl,⟨rfl⟩⟩|exact⟨rfl,_,rfl,⟨rfl⟩⟩|exact⟨by decide,rfl⟩|exact⟨_,rfl,by decide,rfl⟩|exact⟨_,rfl,rfl,rfl⟩|exact a8 (by assumption) rfl rfl (by decide) rfl|exact⟨_,rfl,a7 (by first|assumption|decide) (by decide) rfl⟩)
  |exact⟨rfl,⟨rfl⟩⟩)):P:=p
end Go.Sf
