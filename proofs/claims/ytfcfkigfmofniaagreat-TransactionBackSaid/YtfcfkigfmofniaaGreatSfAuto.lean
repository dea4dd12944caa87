/- Contracts that are found by themselves: rules that take the typed text along, and the script that applies them. -/
import Derived.Test.YtfcfkigfmofniaaGreatSfLib
set_option linter.all false
open Option renaming some->Y,none->W
open Bool renaming true->X,false->T
open List renaming map_map->u!,map_id->u?,take_of_length_le->v1,mem_cons->v5,getElem?_eq_some_iff->v6,getElem?_map->v9
open Nat renaming beq->v_,eq_of_beq_eq_true->v!,ble_self_eq_true->v?,zero_add->w_,ble->w!,blt->w?
namespace Go.Sf
class Ct(P:Program){α:Type}(x:Option α)(f:outParam FuncId)(ts:outParam Fq)(R:outParam (α->Al)):Prop where
 snd:∀r,x=Y r->AX P f ts (R r)
class Ml(es:Fq){α:outParam Type}(e:outParam (α->TV))(l:outParam (List α)):Prop where
 eq:es=l.map e
class gS{α:Type}(e:α->TV)where
 un:Fq->α
 dec:∀a b,∃i:Decidable (a=b),B1 (e a).cells (e b).cells=Y (@decide (a=b) i)
class Fz(cs:List AR)(row:outParam Fq):Prop where
 h:cs.map (·.t)=row
instance(priority:=high){l:Fq}:Fz (l.map λx=>(⟨T,x⟩:AR)) l:=⟨by rw[u!];exact u? _⟩
instance(priority:=low){cs:List AR}:Fz cs (cs.map (·.t)):=⟨rfl⟩
class En(α:Type)(e:outParam (α->TV)):Prop where
class Fl{α:Type}(e:α->TV)(n:outParam Nat)(f:outParam (List α->TV)):Prop where
 eq:∀l,f l=.list n (l.map e)
structure Kp(O:AB)(l:QQ)(r:AB):Prop where
 of::out:O.fu l=r
def look:List (Nat×EV)->Nat->Option EV
 |[],_=>W|(k,e)::r,n=>if k=n then Y e else look r n
def x7(O:AB)(m:List (Nat×EV)):QQ->AB
 |[]=>[]|s::ss=>(s,(look m s).getD (O.get s))::x7 O m ss
structure Nm(O:AB)(m:List (Nat×EV))(l:QQ)(r:AB):Prop where
 of::out:x7 O m l=r
structure Rn(a b:AB):Prop where
 of::out:a=b
structure HJ{σ:Type}(n:Nat)(M:σ->List (Nat×EV)):Prop where
structure HA{σ:Type}(n EN q i:Nat)(M:Int->σ->List (Nat×EV)):Prop where
structure HB{σ:Type}(n EN q i:Nat)(M:Int->σ->List (Nat×EV)):Prop where
theorem HB.a{σ:Type}{n EN q i:Nat}{M:Int->σ->List (Nat×EV)}(_:HB n EN q i M):HA n EN q i M:=⟨⟩
structure HW{σ:Type}(n:Nat)(M:σ->List (Nat×EV)):Prop where
structure HR{β:Type}(R:β->AB->Prop):Prop where
structure HS(n:Nat):Prop where
structure HX{α γ:Type}(n:Nat)(f:α->γ->α):Prop where
structure Zg(g:Nat)(b q:Bool):Prop where
 of::out:q=b
structure VZ(g:Nat)(b q:Bool):Prop where
 of::out:q=!b
def KR(n:AB->Prop)(l:QQ):AB->Prop:=λe=>n (e.fu l)
section
variable{O:AB}{s:Nat}{ss:QQ}{r:AB}{m:List (Nat×EV)}
theorem IK:Kp O [] []:=⟨rfl⟩
theorem Ni{e:EV}(h:O.get s=e)(k:Kp O ss r):Kp O (s::ss) ((s,e)::r):=⟨by rw[<-k.out,<-h];rfl⟩
theorem Kj{t:TV}(h:O.get s=.tv t)(k:Kp O ss r):Kp O (s::ss) ((s,.tv t)::r):=Ni h k
theorem vW{t:TV}(h:O.get s=.ow t)(k:Kp O ss r):Kp O (s::ss) ((s,.ow t)::r):=Ni h k
theorem Kg{t:List AR}(h:O.get s=.bx t)(k:Kp O ss r):Kp O (s::ss) ((s,.bx t)::r):=Ni h k
theorem vU{q o:Nat}(h:O.get s=.bp q o)(k:Kp O ss r):Kp O (s::ss) ((s,.bp q o)::r):=Ni h k
theorem Ki{t:Fq}(h:O.get s=.tp t)(k:Kp O ss r):Kp O (s::ss) ((s,.tp t)::r):=Ni h k
theorem Kk(h:O.get s=.undef)(k:Kp O ss r):Kp O (s::ss) ((s,.undef)::r):=Ni h k
theorem vY{n:Nat}{t:Fq}(h:O.get s=.xo n t)(k:Kp O ss r):Kp O (s::ss) ((s,.xo n t)::r):=Ni h k
theorem vV{q:Nat}{i:Option Nat}(h:O.get s=.la q i)(k:Kp O ss r):Kp O (s::ss) ((s,.la q i)::r):=Ni h k
theorem vX(h:O.get s=.sk)(k:Kp O ss r):Kp O (s::ss) ((s,.sk)::r):=Ni h k
theorem rk{t:List AR}(h:O.get s=.yy t)(k:Kp O ss r):Kp O (s::ss) ((s,.yy t)::r):=Ni h k
theorem rn:Nm O m [] []:=⟨rfl⟩
theorem rm{e:EV}(h:look m s=Y e)(k:Nm O m ss r):Nm O m (s::ss) ((s,e)::r):=⟨by rw[<-k.out];simp only[x7,h,Option.getD_some]⟩
theorem QG{e:EV}(h:look m s=W)(o:O.get s=e)(k:Nm O m ss r):Nm O m (s::ss) ((s,e)::r):=⟨by rw[<-k.out];simp only[x7,h,o,Option.getD_none]⟩
theorem vp{t:TV}(h:look m s=W)(o:O.get s=.tv t)(k:Nm O m ss r):Nm O m (s::ss) ((s,.tv t)::r):=QG h o k
theorem vn{t:TV}(h:look m s=W)(o:O.get s=.ow t)(k:Nm O m ss r):Nm O m (s::ss) ((s,.ow t)::r):=QG h o k
theorem vj{t:List AR}(h:look m s=W)(o:O.get s=.bx t)(k:Nm O m ss r):Nm O m (s::ss) ((s,.bx t)::r):=QG h o k
theorem vh{q o:Nat}(h:look m s=W)(p:O.get s=.bp q o)(k:Nm O m ss r):Nm O m (s::ss) ((s,.bp q o)::r):=QG h p k
theorem vo{t:Fq}(h:look m s=W)(o:O.get s=.tp t)(k:Nm O m ss r):Nm O m (s::ss) ((s,.tp t)::r):=QG h o k
theorem vq(h:look m s=W)(o:O.get s=.undef)(k:Nm O m ss r):Nm O m (s::ss) ((s,.undef)::r):=QG h o k
theorem vr{n:Nat}{t:Fq}(h:look m s=W)(o:O.get s=.xo n t)(k:Nm O m ss r):Nm O m (s::ss) ((s,.xo n t)::r):=QG h o k
theorem vk{q:Nat}{i:Option Nat}(h:look m s=W)(o:O.get s=.la q i)(k:Nm O m ss r):Nm O m (s::ss) ((s,.la q i)::r):=QG h o k
end
def PC.xl(i:Nat):PC->Option QQ
 |.exit j l=>if j=i then Y l else W|.seq a b=>match a.xl i with
  |some l=>Y l|none=>b.xl i
 |.cond _ a b=>match a.xl i with
  |some l=>Y l|none=>b.xl i
 |.block _ a=>a.xl i|.loop _ a=>a.xl i|.rls _ a=>a.xl i|_=>W
def PC.last:PC->Option QQ
 |.region _ l=>Y l|.draw _ _ l=>Y l|.skip l=>Y l|.exit _ l=>Y l|.seq _ b=>b.last|.cond _ a _=>a.last|.block i (.loop _ b)=>b.xl i|.block _ c=>c.last|.rls _ c=>c.last|_=>W
section
variable{S:FuncId->Fq->Al->Prop}{K:AB->Prop}{os:List PR}{O:AB}{d:Nat}
section code
variable{n t:AB->Prop}{x:Nat->AB->Prop}{a b:PC}{l:QQ}{env':AB}
theorem NQ(o:Kp O l env')(h:n env'):WO S (KR n l) [] O:=⟨by show n (O.fu l);rw[o.out];exact h⟩
theorem P6{ops:List PR}(h:WO S (KR n l) ops O):WP S (.region ops l) ⟨n,x,t⟩ O:=⟨h.out⟩
theorem qe{D:QQ}{ops:List PR}(hd:Rs O D=X)(h:WO S (KR n l) ops O):WP S (.draw D ops l) ⟨n,x,t⟩ O:=⟨hd,h.out⟩
theorem Kd(h:WP S a ⟨λe=>(∀s,(e.get s).WF)->WP S b ⟨n,x,t⟩ e,x,t⟩ O):WP S (.seq a b) ⟨n,x,t⟩ O:=vB h
theorem Zj(o:Kp O l env')(h:n env'):WP S (.skip l) ⟨n,x,t⟩ O:=rF o.out h
theorem eQ(h:t O):WP S .ret ⟨n,x,t⟩ O:=⟨h⟩
theorem gf{i:Nat}(o:Kp O l env')(h:x i env'):WP S (.exit i l) ⟨n,x,t⟩ O:=rE o.out h
theorem uH{s:Nat}{cs cs':List AR}{c:PC}{q:Q}(h:O.get s=.bx cs)(he:cs.map AR.rel=cs')(k:WP S c q ((s,.bx cs')::O)):WP S (.rls s c) q O:=by
 refine ⟨?_⟩;subst he;simp only[PC.wp,h];exact k.out
theorem cg{i:Nat}(h:WP S a ⟨n,λj e=>if j=i then n e else x j e,t⟩ O):WP S (.block i a) ⟨n,x,t⟩ O:=XW h
theorem tq{m:List (Nat×EV)}{e:AB}{q:Q}(he:Nm e m l env')(h:WP S a q env'):WP S a q (x7 e m l):=by rw[he.out];exact h
variable{Q:Q}
theorem qc{c:AE}{β:Type}{q:Bool}{u v:Option β}{r:β}(o:c.val O=Y (.bool q))(h:(if q=X then u else v)=Y r)(p:q=X->u=Y r->WP S a Q O)(w:q=T->v=Y r->WP S b Q O):WP S (.cond c a b) Q O:=
 WM o (λe=>p e (Wj e h)) (λe=>w e (Wi e h))
theorem qn{σ β:Type}{i:Nat}{M:σ->List (Nat×EV)}{q:Bool}{u v:Option σ}{k:σ->Option β}{r:β}(p:(AE.s i).val O=Y (.bool q))(h:((if q=X then u else v).bind k)=Y r)(_:HJ i M)(_:(PC.cond (.s i) a b).last=Y l)
  (A:∀w,q=X->u=Y w->WP S a ⟨λe=>Rn e (x7 O (M w) l),x,t⟩ O)(B:∀w,q=T->v=Y w->WP S b ⟨λe=>Rn e (x7 O (M w) l),x,t⟩ O)(C:∀w,k w=Y r->n (x7 O (M w) l)):WP S (.cond (.s i) a b) ⟨n,x,t⟩ O:=by
 obtain ⟨w,o,h⟩:=bind_some h;refine vA (λe=>Rn e (x7 O (M w) l)) ?_ (λe he=>by rw[he.out];exact C w h);exact WM p (λe=>A w e (Wj e o)) (λe=>B w e (Wi e o))
end code
structure Bd(O:AB)(q i:Nat)(b:Int):Prop where
 of::out:(∀s,(O.get s).WF)->b<=9223372036854775807
section bounds
variable{q i:Nat}{α:Type}{e:α->TV}{l:List α}{es row:Fq}{n:Nat}
theorem xI{b:Int}(h:decide (b<=9223372036854775807)=X):Bd O q i b:=⟨λ_=>of_decide_eq_true h⟩
theorem xN{b:Int}:Bd O q i (AH b):=⟨λ_=>tZ _⟩
theorem xK(h:O.get q=.tv (.list n es))(he:es=l.map e):Bd O q i l.length:=⟨λo=>by have:=o q;rw[h]at this;exact VE (Zd this) he⟩
theorem xL(h:O.get q=.ow (.list n es))(he:es=l.map e):Bd O q i l.length:=⟨λo=>by have:=o q;rw[h]at this;exact VE (wn this) he⟩
theorem xO(h:O.get q=.xo n es)(he:es=l.map e):Bd O q i l.length:=⟨λo=>by have:=o q;rw[h]at this;exact VE (wo this) he⟩
theorem xM{b:ByteArray}(h:O.get q=.tv (.str b)):Bd O q i b.size:=⟨λo=>by have:=o q;rw[h]at this;exact qK (Zd this)⟩
theorem xJ{b:Int}(h:O.get q=.tv (.int .i64 b)):Bd O q i b:=⟨λo=>by have:=o q;rw[h]at this;exact kI (Zd this)⟩
theorem uP(h:O.get q=.tv (.pt row))(o:row[i]?=Y (.list n es))(he:es=l.map e):Bd O q i l.length:=⟨λp=>by have:=p q;rw[h]at this;exact VE (eC (oG this) o) he⟩
theorem uO{b:Int}(h:O.get q=.tv (.pt row))(o:row[i]?=Y (.int .i64 b)):Bd O q i b:=⟨λp=>by have:=p q;rw[h]at this;exact kI (eC (oG this) o)⟩
end bounds
section loops
variable{σ β ρ:Type}{n t:AB->Prop}{x:Nat->AB->Prop}{c:PC}{live jl:QQ}{i0 EN q i1:Nat}{lo b:Int}{s0:σ}{r:β}{k:σ->Option β}
variable{M:Int->σ->List (Nat×EV)}
theorem ta(h:∀i s,(x7 O (M i s) live).get EN=.tv (.int .i64 i)){i:Int}{s:σ}(o:∀k,((x7 O (M i s) live).get k).WF)(hi:i<b)(p:b<=9223372036854775807):AH (i+1)=i+1:=by
 have:=o EN;rw[h]at this;exact wq (Zd this) hi p
theorem qf{f:Int->σ->Option σ}(_:HA i0 EN q i1 M)(h:(ns f lo b s0).bind k=Y r)(p:∀s,(O.get s).WF)(u:Bd O q i1 b)(_:c.xl i0=Y jl)(w:O.fu live=x7 O (M lo s0) live)(A:∀i s,(x7 O (M i s) live).get EN=.tv (.int .i64 i))
  (B:∀i s r,i<b->f i s=Y r->(∀k,((x7 O (M i s) live).get k).WF)->WP S c ⟨λe=>Rn (e.fu live) (x7 O (M (AH (i+1)) r) live),λ_ _=>False,λ_=>False⟩ (x7 O (M i s) live))
  (C:∀i s,¬i<b->WP S c ⟨λ_=>False,λj e=>j=i0/\Rn e (x7 O (M 0 s) jl),λ_=>False⟩ (x7 O (M i s) live))
  (D:∀s,k s=Y r->n (x7 O (M 0 s) jl)):WP S (.block i0 (.loop live c)) ⟨n,x,t⟩ O:=by
 obtain ⟨o,ho,h⟩:=bind_some h;have u:=u.out p;refine qL ho (λi s=>x7 O (M i s) live) (λs=>x7 O (M 0 s) jl) w (λi s r hi hf p=>⟨PC.o3 S c _ _ (B i s r hi hf p).out _ (λe he=>?_) (λ_ _ h=>h) (λ_ h=>h)⟩) (λi s hi=>⟨PC.o3 S c _ _ (C i s hi).out _ (λ_ h=>h) (λj e h=>⟨h.1,h.2.out⟩) (λ_ h=>h)⟩) (D o h);have:=he.out;rw[ta A p hi u]at this;exact this
variable{kr:ρ->Option β}
theorem Xi{f:Int->σ->Option (Be σ ρ)}{R:ρ->AB->Prop}(h:ek (kl f lo b s0) k kr=Y r)(w:b<=9223372036854775807)(A:O.fu live=x7 O (M lo s0) live)(B:∀i s,(x7 O (M i s) live).get EN=.tv (.int .i64 i))
  (C:∀i s r,i<b->f i s=Y r->(∀k,((x7 O (M i s) live).get k).WF)->WP S c ⟨λe=>∃s',r=.next s'/\Rn (e.fu live) (x7 O (M (AH (i+1)) s') live),λj e=>j=i0/\∃s',r=.brk s'/\Rn e (x7 O (M 0 s') jl),λe=>∃v,r=.ret v/\R v e⟩ (x7 O (M i s) live))
  (D:∀i s,¬i<b->WP S c ⟨λ_=>False,λj e=>j=i0/\Rn e (x7 O (M 0 s) jl),λ_=>False⟩ (x7 O (M i s) live))
  (E:∀s,k s=Y r->n (x7 O (M 0 s) jl))(F:∀v e,kr v=Y r->R v e->t e):WP S (.block i0 (.loop live c)) ⟨n,x,t⟩ O:=by
 obtain ⟨o,ho,h⟩:=XO h;refine eF ho (λi s=>x7 O (M i s) live) (λs=>x7 O (M 0 s) jl) R A (λi s r hi hf u=>⟨PC.o3 S c _ _ (C i s r hi hf u).out _ (λe he=>?_) (λj e he=>?_) (λ_ h=>h)⟩) (λi s hi=>⟨PC.o3 S c _ _ (D i s hi).out _ (λ_ h=>h) (λj e h=>⟨h.1,h.2.out⟩) (λ_ h=>h)⟩) (λs G=>E s (dx h G)) (λv e hv=>F v e (dy h hv))
 .obtain⟨s',p,e2⟩:=he;have e2:=e2.out;rw[ta B u hi w]at e2;exact⟨s',p,e2⟩
 .obtain⟨H,s',p,e2⟩:=he;exact⟨H,s',p,e2.out⟩
theorem qk{f:Int->σ->Option (Be σ β)}{R:β->AB->Prop}(_:HA i0 EN q i1 M)(_:HR R)(o:R r=t)(h:ek (kl f lo b s0) k (λv=>Y v)=Y r)(p:∀s,(O.get s).WF)(u:Bd O q i1 b)(_:c.xl i0=Y jl)(w:O.fu live=x7 O (M lo s0) live)(A:∀i s,(x7 O (M i s) live).get EN=.tv (.int .i64 i))
  (B:∀i s r,i<b->f i s=Y r->(∀k,((x7 O (M i s) live).get k).WF)->WP S c ⟨λe=>∃s',r=.next s'/\Rn (e.fu live) (x7 O (M (AH (i+1)) s') live),λj e=>j=i0/\∃s',r=.brk s'/\Rn e (x7 O (M 0 s') jl),λe=>∃v,r=.ret v/\R v e⟩ (x7 O (M i s) live))
  (C:∀i s,¬i<b->WP S c ⟨λ_=>False,λj e=>j=i0/\Rn e (x7 O (M 0 s) jl),λ_=>False⟩ (x7 O (M i s) live))
  (D:∀s,k s=Y r->n (x7 O (M 0 s) jl)):WP S (.block i0 (.loop live c)) ⟨n,x,t⟩ O:=
 Xi h (u.out p) w A B C D (λv e hv E=>by cases hv;rw[<-o];exact E)
variable{τ:Type}
theorem qj{f:Int->σ->Option (Be σ ρ)}{k:σ->Option (Be τ ρ)}{r:Be τ ρ}{R:ρ->AB->Prop}(_:HA i0 EN q i1 M)(h:ek (kl f lo b s0) k (λv=>Y (.ret v))=Y r)(o:∀s,(O.get s).WF)(p:Bd O q i1 b)(_:c.xl i0=Y jl)(u:O.fu live=x7 O (M lo s0) live)(w:∀i s,(x7 O (M i s) live).get EN=.tv (.int .i64 i))
  (A:∀i s r,i<b->f i s=Y r->(∀k,((x7 O (M i s) live).get k).WF)->WP S c ⟨λe=>∃s',r=.next s'/\Rn (e.fu live) (x7 O (M (AH (i+1)) s') live),λj e=>j=i0/\∃s',r=.brk s'/\Rn e (x7 O (M 0 s') jl),λe=>∃v,r=.ret v/\R v e⟩ (x7 O (M i s) live))
  (B:∀i s,¬i<b->WP S c ⟨λ_=>False,λj e=>j=i0/\Rn e (x7 O (M 0 s) jl),λ_=>False⟩ (x7 O (M i s) live))
  (C:∀s,k s=Y r->n (x7 O (M 0 s) jl)):WP S (.block i0 (.loop live c)) ⟨n,x,λe=>∃v,r=.ret v/\R v e⟩ O:=
 Xi h (p.out o) u w A B C (λv e hv D=>by cases hv;exact⟨v,rfl,D⟩)
theorem qh{f:Int->σ->Option (Be σ ρ)}(_:HA i0 EN q i1 M)(h:ek (kl f lo b s0) k (λ_=>W)=Y r)(o:∀s,(O.get s).WF)(p:Bd O q i1 b)(_:c.xl i0=Y jl)(u:O.fu live=x7 O (M lo s0) live)(w:∀i s,(x7 O (M i s) live).get EN=.tv (.int .i64 i))
  (A:∀i s r,i<b->f i s=Y r->(∀k,((x7 O (M i s) live).get k).WF)->WP S c ⟨λe=>∃s',r=.next s'/\Rn (e.fu live) (x7 O (M (AH (i+1)) s') live),λj e=>j=i0/\∃s',r=.brk s'/\Rn e (x7 O (M 0 s') jl),λ_=>∃v,r=.ret v/\False⟩ (x7 O (M i s) live))
  (B:∀i s,¬i<b->WP S c ⟨λ_=>False,λj e=>j=i0/\Rn e (x7 O (M 0 s) jl),λ_=>False⟩ (x7 O (M i s) live))
  (C:∀s,k s=Y r->n (x7 O (M 0 s) jl)):WP S (.block i0 (.loop live c)) ⟨n,x,t⟩ O:=
 Xi (R:=λ_ _=>False) h (p.out o) u w A B C (λv e hv _=>by cases hv)
theorem bv{f:σ->Option (Be σ ρ)}{R:ρ->AB->Prop}{M:σ->List (Nat×EV)}(h:ek (CY f s0) k kr=Y r)(u:O.fu live=x7 O (M s0) live)
  (w:∀s r,f s=Y r->(∀k,((x7 O (M s) live).get k).WF)->WP S c ⟨λe=>∃s',r=.next s'/\Rn (e.fu live) (x7 O (M s') live),λj e=>j=i0/\∃s',r=.brk s'/\Rn e (x7 O (M s') jl),λe=>∃v,r=.ret v/\R v e⟩ (x7 O (M s) live))
  (A:∀s,k s=Y r->n (x7 O (M s) jl))(B:∀v e,kr v=Y r->R v e->t e):WP S (.block i0 (.loop live c)) ⟨n,x,t⟩ O:=by
 obtain ⟨o,ho,h⟩:=XO h;refine th ho (λs=>x7 O (M s) live) (λs=>x7 O (M s) jl) R u (λs r hf C=>⟨PC.o3 S c _ _ (w s r hf C).out _ (λe he=>?_) (λj e he=>?_) (λ_ h=>h)⟩) (λs D=>A s (dx h D)) (λv e hv=>B v e (dy h hv))
 .obtain⟨s',p,e2⟩:=he;exact⟨s',p,e2.out⟩
 .obtain⟨E,s',p,e2⟩:=he;exact⟨E,s',p,e2.out⟩
theorem uL{f:σ->Option (Be σ β)}{R:β->AB->Prop}{M:σ->List (Nat×EV)}(_:HW i0 M)(_:HR R)(o:R r=t)(h:ek (CY f s0) k (λv=>Y v)=Y r)(_:c.xl i0=Y jl)(p:O.fu live=x7 O (M s0) live)
  (u:∀s r,f s=Y r->(∀k,((x7 O (M s) live).get k).WF)->WP S c ⟨λe=>∃s',r=.next s'/\Rn (e.fu live) (x7 O (M s') live),λj e=>j=i0/\∃s',r=.brk s'/\Rn e (x7 O (M s') jl),λe=>∃v,r=.ret v/\R v e⟩ (x7 O (M s) live))
  (w:∀s,k s=Y r->n (x7 O (M s) jl)):WP S (.block i0 (.loop live c)) ⟨n,x,t⟩ O:=
 bv h p u w (λv e hv A=>by cases hv;rw[<-o];exact A)
theorem uK{f:σ->Option (Be σ ρ)}{k:σ->Option (Be τ ρ)}{r:Be τ ρ}{R:ρ->AB->Prop}{M:σ->List (Nat×EV)}(_:HW i0 M)(h:ek (CY f s0) k (λv=>Y (.ret v))=Y r)(_:c.xl i0=Y jl)(o:O.fu live=x7 O (M s0) live)
  (p:∀s r,f s=Y r->(∀k,((x7 O (M s) live).get k).WF)->WP S c ⟨λe=>∃s',r=.next s'/\Rn (e.fu live) (x7 O (M s') live),λj e=>j=i0/\∃s',r=.brk s'/\Rn e (x7 O (M s') jl),λe=>∃v,r=.ret v/\R v e⟩ (x7 O (M s) live))
  (u:∀s,k s=Y r->n (x7 O (M s) jl)):WP S (.block i0 (.loop live c)) ⟨n,x,λe=>∃v,r=.ret v/\R v e⟩ O:=
 bv h o p u (λv e hv w=>by cases hv;exact⟨v,rfl,w⟩)
theorem uJ{f:σ->Option (Be σ ρ)}{M:σ->List (Nat×EV)}(_:HW i0 M)(h:ek (CY f s0) k (λ_=>W)=Y r)(_:c.xl i0=Y jl)(o:O.fu live=x7 O (M s0) live)
  (p:∀s r,f s=Y r->(∀k,((x7 O (M s) live).get k).WF)->WP S c ⟨λe=>∃s',r=.next s'/\Rn (e.fu live) (x7 O (M s') live),λj e=>j=i0/\∃s',r=.brk s'/\Rn e (x7 O (M s') jl),λ_=>∃v,r=.ret v/\False⟩ (x7 O (M s) live))
  (u:∀s,k s=Y r->n (x7 O (M s) jl)):WP S (.block i0 (.loop live c)) ⟨n,x,t⟩ O:=
 bv (R:=λ_ _=>False) h o p u (λv e hv _=>by cases hv)
end loops
end
end Go.Sf
namespace Go.Sf
section
variable{P:Program}{S:FuncId->Fq->Al->Prop}{K:AB->Prop}{os:List PR}{O:AB}{d:Nat}{α β:Type}{k:α->Option β}{r:β}
theorem bnd{G:Prop}{x:Option α}(h:x.bind k=Y r)(g:∀a,x=Y a->k a=Y r->G):G:=by
 obtain ⟨a,o,h⟩:=bind_some h;exact g a o h
theorem xQ{α:Type}{x:Option α}{k:α->Option β}{op:AD}{dd:Option Nat}(_:op.Aa8=4)(h:x.bind k=Y r)(g:∀a,x=Y a->k a=Y r->WO S K (⟨dd,op,W⟩::os) O):WO S K (⟨dd,op,W⟩::os) O:=bnd h g
theorem xP{x:Option α}{f:FuncId}{ts:Fq}{R:α->Al}{op:AD}{dd:Option Nat}(_:op.Aa8=3)(h:x.bind k=Y r)(c:Ct P x f ts R)(g:∀a,AX P f ts (R a)->k a=Y r->WO (AX P) K (⟨dd,op,W⟩::os) O):WO (AX P) K (⟨dd,op,W⟩::os) O:=bnd h λa o=>g a (c.snd a o)
theorem qW{γ:Type}{k:List γ->Option β}{n s:Nat}{y:AE}{es o:Fq}{e:γ->TV}{l m:List γ}{f:List γ->TV}(h:(AT l m).bind k=Y r)(u:O.get s=.ow (.list n es))(w:y.val O=Y (.list n o))(he:es=l.map e)(hf:o=m.map e)(c:Fl e n f)
  (A:∀x,AT l m=Y x->k x=Y r->WO S K os ((d,.ow (f x))::(s,.tv (.list n es))::O)):WO S K (⟨Y d,.app n (.s s) y,W⟩::os) O:=by
 obtain ⟨x,p,h⟩:=bind_some h;have:=A x p h;rw[c.eq]at this;exact n7 p u w he hf rfl this
section ints
variable{k:Int->Option β}{x y:AE}{ik:IntKind}{a b:Int}
theorem uF(h:(quo a b).bind k=Y r)(p:x.val O=Y (.int ik a))(u:y.val O=Y (.int ik b))(w:∀q,quo a b=Y q->k q=Y r->WO S K os ((d,.tv (.int ik (ik.wrap q)))::O)):WO S K (⟨Y d,.bin .i .quo x y,W⟩::os) O:=bnd h λq o h=>we o p u (w q o h)
theorem uG(h:(Cf a b).bind k=Y r)(p:x.val O=Y (.int ik a))(u:y.val O=Y (.int ik b))(w:∀q,Cf a b=Y q->k q=Y r->WO S K os ((d,.tv (.int ik q))::O)):WO S K (⟨Y d,.bin .i .rem x y,W⟩::os) O:=bnd h λq o h=>wg o p u (w q o h)
theorem tj{op:BinOp}{o:IntKind}(h:(Ff ik op a b).bind k=Y r)(u:x.val O=Y (.int ik a))(A:y.val O=Y (.int o b))(B:ik=o\/op=.shl\/op=.shr)(C:∀q,Ff ik op a b=Y q->k q=Y r->WO S K os ((d,.tv (.int ik q))::O)):WO S K (⟨Y d,.bin .w op x y,W⟩::os) O:=bnd h λq p h=>wP p u A B (C q p h)
end ints
theorem qu{k:ByteArray->Option β}{x y:AE}{u v:ByteArray}(h:(Uf u v).bind k=Y r)(p:x.val O=Y (.str u))(w:y.val O=Y (.str v))(A:∀q,Uf u v=Y q->k q=Y r->WO S K os ((d,.tv (.str q))::O)):WO S K (⟨Y d,.bin .s .add x y,W⟩::os) O:=bnd h λq o h=>tA o p w (A q o h)
theorem t8{k:Unit->Option β}{x:AE}{n:Nat}{es:Fq}{e:α->TV}{l:List α}(h:(Xl l).bind k=Y r)(o:x.val O=Y (.list n es))(he:es=l.map e)(p:∀u,k u=Y r->WO S K os ((d,.tv (.bool T))::O)):WO S K (⟨Y d,.isn x,W⟩::os) O:=by
 obtain ⟨u,A,h⟩:=bind_some h;refine n9 o he λb w=>?_;obtain rfl:=iN A w;exact p u h
theorem nS{x:AE}{n:Nat}{e:α->TV}{a:α}(h:A4 O (x.ev O)=Y (e a).cells)(o:v_ (e a).cells.length n=X)(p:TV.agg (e a).cells=e a)(u:WO S K os ((d,.tv (e a))::O)):WO S K (⟨Y d,.lda x n,W⟩::os) O:=by
 have o:=v! o;exact oA h (by rw[o];exact v? n) (by rw[v1 U,p]) u
theorem uA{s n:Nat}{cs:List AR}{e:α->TV}{a:α}(h:O.get s=.bx cs)(p:cs.map (·.t)=(e a).cells)(o:v_ (e a).cells.length n=X)(u:TV.agg (e a).cells=e a)(w:WO S K os ((d,.tv (e a))::O)):WO S K (⟨Y d,.ldb s n,W⟩::os) O:=by
 have o:=v! o;exact wV h (by rw[p,o];exact v? n) (by rw[p,v1 U,u]) w
variable{v:AE}
theorem qv{n s:Nat}{cs:List AR}{t:TV}(o:O.get s=.bx cs)(hv:v.ev O=.tv t)(p:t.cells.length=n)(h:v_ n cs.length=X)(u:WO S K os ((s,.bx (t.cells.map (⟨T,·⟩)))::O)):WO S K (⟨W,.stb n s v,W⟩::os) O:=by
 have h:=v! h;refine wk o hv p (by rw[w_,h];exact v? _) ?_ u;rw[List.take_zero,w_,h,List.drop_length,List.append_nil,List.nil_append]
theorem qp{x:AE}{n:Nat}{e:α->TV}{a:α}(h:A4 O (x.ev O)=Y (((e a).cells.map λt=>(⟨T,t⟩:AR)).map (·.t)))(o:v_ (e a).cells.length n=X)(p:TV.agg (e a).cells=e a)(u:WO S K os ((d,.tv (e a))::O)):WO S K (⟨Y d,.lda x n,W⟩::os) O:=
 nS (by rw[h,u!];congr 1;exact u? _) o p u
def eT(n:Nat):Fq->Bool
 |[]=>X|t::ts=>v_ t.cells.length n&&eT n ts
theorem Zn{n:Nat}:∀{ts:Fq},eT n ts=X->∀t∈ts,t.cells.length=n
 |[],_,_,h=>c?
 |t::ts,h,u,o=>by
  simp only[eT,sx]at h;rcases v5.1 o with rfl|o
  .exact v! h.1
  .exact Zn h.2 u o
variable{parts:List AE}
theorem uC{n:Nat}{ts:Fq}(h:vals O parts=Y ts)(o:eT n ts=X)(p:WO S K os ((d,.ow (.list n ts))::O)):WO S K (⟨Y d,.lst n parts,W⟩::os) O:=by
 have:=p.out;refine⟨?_⟩;simp only[wpOps,PR.wp,AD.wp,h,Ad];exact⟨Zn o,this⟩
variable{zero:Fq}
theorem qX{parts:List (Nat×Nat×AE)}{ts:List (Nat×Nat×TV)}{cs:Fq}{e:α->TV}{a:α}(h:(Y a).bind k=Y r)(_:En α e)(o:GT O parts=Y ts)(p:Ek zero ts=Y cs)(he:TV.agg cs=e a)(u:∀x,x=a->k x=Y r->WO S K os ((d,.tv (e x))::O)):WO S K (⟨Y d,.bld zero parts,W⟩::os) O:=by
 rw [Option.bind_some]at h;exact Zc o p he (u a rfl h)
theorem uB{x:AE}{n:Nat}{cs:Fq}{e:α->TV}{a:α}(h:(Y a).bind k=Y r)(_:En α e)(o:A4 O (x.ev O)=Y cs)(p:w! n cs.length=X)(he:TV.agg (cs.take n)=e a)(u:∀x,x=a->k x=Y r->WO S K os ((d,.tv (e x))::O)):WO S K (⟨Y d,.lda x n,W⟩::os) O:=by
 rw [Option.bind_some]at h;exact oA o p he (u a rfl h)
inductive Lm{α:Type}(e:α->TV):Fq->List α->Prop
 |nil:Lm e [] []
 |cons {t:TV} {ts:Fq} {a:α} {l:List α}:t=e a->Lm e ts l->Lm e (t::ts) (a::l)
theorem Lm.eq{e:α->TV}{ts:Fq}{l:List α}(h:Lm e ts l):ts=l.map e:=by
 induction h with
 |nil=>rfl|cons h _ o=>rw[h,o];rfl
theorem qr{n:Nat}{ts:Fq}{e:α->TV}{l:List α}(h:vals O parts=Y ts)(o:Lm e ts l)(p:∀a,(e a).cells.length=n)(u:WO S K os ((d,.ow (.list n (l.map e)))::O)):WO S K (⟨Y d,.lst n parts,W⟩::os) O:=oB h o.eq p u
theorem qt{n:Nat}{ts:Fq}{e:α->TV}{l:List α}{f:List α->TV}(h:vals O parts=Y ts)(p:Lm e ts l)(u:∀a,(e a).cells.length=n)(c:Fl e n f)(o:WO S K os ((d,.ow (f l))::O)):WO S K (⟨Y d,.lst n parts,W⟩::os) O:=by
 rw [c.eq]at o;exact oB h p.eq u o
theorem qS{e:α->TV}{n:QQ}{x y:AE}{a:α}{cs:Fq}(o:x.val O=Y (e a))(p:y.val O=Y (.agg cs))[c:gS e][i:Decidable (a=c.un cs)](u:TV.agg (e a).cells=e a)(w:(e (c.un cs)).cells=cs)(A:(e a).cells.map TV.kd=n)(B:WO S K os ((d,.tv (.bool (decide (a=c.un cs))))::O)):WO S K (⟨Y d,.bin (.a n) .eql x y,W⟩::os) O:=by
 obtain ⟨C,h⟩:=c.dec a (c.un cs);have:i=C:=Subsingleton.elim _ _;subst this;rw[<-u]at o;rw[w]at h;exact jf o p A h B
theorem qU{e:α->TV}{n:QQ}{x y:AE}{a:α}{cs:Fq}(o:x.val O=Y (e a))(p:y.val O=Y (.agg cs))[c:gS e][i:Decidable (a=c.un cs)](u:TV.agg (e a).cells=e a)(w:(e (c.un cs)).cells=cs)(A:(e a).cells.map TV.kd=n)(B:WO S K os ((d,.tv (.bool (!decide (a=c.un cs))))::O)):WO S K (⟨Y d,.bin (.a n) .neq x y,W⟩::os) O:=by
 obtain ⟨C,h⟩:=c.dec a (c.un cs);have:i=C:=Subsingleton.elim _ _;subst this;rw[<-u]at o;rw[w]at h;exact jg o p A h B
theorem qR{e:α->TV}{n:QQ}{x y:AE}{a b:α}{i:Decidable (a=b)}(o:x.val O=Y (e a))(p:y.val O=Y (e b))(c:gS e)(u:TV.agg (e a).cells=e a)(w:TV.agg (e b).cells=e b)(A:(e a).cells.map TV.kd=n)(B:WO S K os ((d,.tv (.bool (decide (a=b))))::O)):WO S K (⟨Y d,.bin (.a n) .eql x y,W⟩::os) O:=by
 obtain ⟨C,h⟩:=c.dec a b;have:i=C:=Subsingleton.elim _ _;subst this;rw[<-u]at o;rw[<-w]at p;exact jf o p A h B
theorem qT{e:α->TV}{n:QQ}{x y:AE}{a b:α}{i:Decidable (a=b)}(o:x.val O=Y (e a))(p:y.val O=Y (e b))(c:gS e)(u:TV.agg (e a).cells=e a)(w:TV.agg (e b).cells=e b)(A:(e a).cells.map TV.kd=n)(B:WO S K os ((d,.tv (.bool (!decide (a=b))))::O)):WO S K (⟨Y d,.bin (.a n) .neq x y,W⟩::os) O:=by
 obtain ⟨C,h⟩:=c.dec a b;have:i=C:=Subsingleton.elim _ _;subst this;rw[<-u]at o;rw[<-w]at p;exact jg o p A h B
section calls
variable{x:Option α}{f:FuncId}{ts:Fq}{R:α->Al}{args:List AE}
theorem tu{s:Nat}{cs:List AR}{row:Fq}(o:O.get s=.bx cs)(f:Fz cs row)(k:WO S K os ((s,.tv (.pt row))::O)):WO S K (⟨W,.frz s,W⟩::os) O:=wR o f.h k
theorem oL{t:α->TV}(_:HS d)(h:x.bind k=Y r)(c:Ct P x f ts R)(p:vals O args=Y ts)(u:∀a,R a=.own (t a))(w:∀a,x=Y a->k a=Y r->WO (AX P) K os ((d,.tv (t a))::O)):WO (AX P) K (⟨Y d,.call f args,W⟩::os) O:=by
 obtain ⟨a,o,h⟩:=bind_some h;have:=c.snd a o;rw[u]at this;exact s7 p (ru this) (w a o h)
theorem oK{t:α->List AR}(h:x.bind k=Y r)(c:Ct P x f ts R)(p:vals O args=Y ts)(u:∀a,R a=.yy (t a))(w:∀a,x=Y a->k a=Y r->WO (AX P) K os ((d,.tv (.agg ((t a).map λc=>c.rel.t)))::O)):WO (AX P) K (⟨Y d,.call f args,W⟩::os) O:=by
 obtain ⟨a,o,h⟩:=bind_some h;have:=c.snd a o;rw[u]at this;exact p6 p this rfl (w a o h)
theorem kQ{γ:Type}{k:List γ->Option β}{x:Option (List γ)}{R:List γ->Al}{n:Nat}{e:γ->TV}(h:x.bind k=Y r)(c:Ct P x f ts R)(p:O.jj d=X)(u:vals O args=Y ts)(w:∀a,R a=.own (.list n (a.map e)))(hf:∀a,(e a).flat=X)(A:∀a,x=Y a->k a=Y r->WO (AX P) K os ((d,.xo n (a.map e))::O)):WO (AX P) K (⟨Y d,.zH f args,W⟩::os) O:=by
 obtain ⟨a,o,h⟩:=bind_some h;have:=c.snd a o;rw[w]at this;exact mJ p u this rfl hf (A a o h)
theorem kP{γ:Type}{k:List γ->Option β}{x:Option (List γ)}{R:List γ->Al}{n:Nat}{e:γ->TV}(h:x.bind k=Y r)(c:Ct P x f ts R)(p:zm O args=Y ts)(u:∀a,R a=.own (.list n (a.map e)))(hf:∀a,(e a).flat=X)(w:∀a,x=Y a->k a=Y r->WO (AX P) K os ((d,.ow (.list n (a.map e)))::O)):WO (AX P) K (⟨Y d,.zR f args,W⟩::os) O:=by
 obtain ⟨a,o,h⟩:=bind_some h;have:=c.snd a o;rw[u]at this;exact mG p this rfl rfl hf (w a o h)
variable{us:α->Fq}
theorem oJ{i s:Nat}{cs:List AR}{cs':α->List AR}{e:α->EV}(h:x.bind k=Y r)(c:Ct P x f ts R)(p:(args[i]?).bind (·.place O)=Y (s,0))(u:O.get s=.bx cs)(w:O.noX s W=X)(hd:d≠s)(A:IB O i args=Y ts)(B:∀a,R a=.bo cs (cs' a) i (us a))(he:∀a,EV.ofs (us a)=e a)(C:∀a,x=Y a->k a=Y r->WO (AX P) K os ((d,e a)::(s,.bx (cs' a))::O)):WO (AX P) K (⟨Y d,.zi f args i,W⟩::os) O:=by
 obtain ⟨a,o,h⟩:=bind_some h;have:=c.snd a o;rw[B]at this;exact p5 p u w hd A this (he a) (C a o h)
end calls
inductive GS(g:Nat)(b:Bool):QQ->List PR->QQ->Nat->Prop
 |done {acc:QQ} {os:List PR}:GS g b acc os [] 0
 |step {acc js:QQ} {d n:Nat} {op:AD} {os:List PR}:GS g b (d::acc) os js n->GS g b acc (⟨Y d,op,Y (g,b)⟩::os) (d::js) (n+1)
 |nest {acc js:QQ} {d n g':Nat} {b':Bool} {op:AD} {os:List PR}:acc.contains g'=X->GS g b (d::acc) os js n->GS g b acc (⟨Y d,op,Y (g',b')⟩::os) (d::js) (n+1)
def qP:QQ->AB->(AB->Prop)->Prop
 |[],z,K=>K z|k::ks,z,K=>∃j,qP ks ((k,j)::z) K
structure Gj(js:QQ)(d:Nat)(v:TV)(z e:AB):Prop where
 of::out:qP js z λy=>e=(d,.tv v)::y
theorem iJ{d:Nat}{v:TV}{z e:AB}(h:e=(d,.tv v)::z):Gj [] d v z e:=⟨h⟩
variable{ks:QQ}
theorem od{k d:Nat}{v:TV}{j:EV}{z e:AB}(h:Gj ks d v ((k,j)::z) e):Gj (k::ks) d v z e:=⟨j,h.out⟩
theorem ql{js:QQ}{v:TV}{z:AB}(h:Gj js d v z O):WO S (Gj js d v z) [] O:=⟨h⟩
structure X0(js:QQ)(z:AB)(Q:AB->Prop):Prop where
 of::out:∀(d:Nat)(v:TV)(e:AB),Gj js d v z e->∃y,e=(d,.tv v)::y/\Q y
theorem oe{z:AB}{Q:AB->Prop}(h:Q z):X0 [] z Q:=⟨λ_ _ _ he=>⟨z,he.out,h⟩⟩
theorem kw{k:Nat}{z:AB}{Q:AB->Prop}(h:∀j,X0 ks ((k,j)::z) Q):X0 (k::ks) z Q:=⟨λd v e he=>by
 obtain ⟨j,o⟩:=he.out;exact(h j).out d v e ⟨o⟩⟩
theorem vO{dd:Option Nat}{op:AD}{g:Nat}{b q:Bool}(h:O.get g=.tv (.bool q))(o:Zg g b q)(p:WO S K (⟨dd,op,W⟩::os) O):WO S K (⟨dd,op,Y (g,b)⟩::os) O:=xc h o.out p
theorem t2{ρ:Type}{dd:Option Nat}{op:AD}{g:Nat}{q:Bool}{u v:Option ρ}{r:ρ}(w:O.get g=.tv (.bool q))(h:(if q=X then u else v)=Y r)
  (o:Zg g X q->q=X->u=Y r->WO S K (⟨dd,op,Y (g,X)⟩::os) O)(p:VZ g X q->q=T->v=Y r->WO S K (⟨dd,op,Y (g,X)⟩::os) O):WO S K (⟨dd,op,Y (g,X)⟩::os) O:=by
 cases q with
 |true=>exact o ⟨rfl⟩ rfl h|false=>exact p ⟨r!⟩ rfl h
theorem t1{ρ:Type}{dd:Option Nat}{op:AD}{g:Nat}{q:Bool}{u v:Option ρ}{r:ρ}(w:O.get g=.tv (.bool q))(h:(if q=X then u else v)=Y r)
  (o:VZ g T q->q=X->u=Y r->WO S K (⟨dd,op,Y (g,T)⟩::os) O)(p:Zg g T q->q=T->v=Y r->WO S K (⟨dd,op,Y (g,T)⟩::os) O):WO S K (⟨dd,op,Y (g,T)⟩::os) O:=by
 cases q with
 |true=>exact o ⟨r!⟩ rfl h|false=>exact p ⟨rfl⟩ rfl h
theorem rU{op:AD}{g:Nat}{b q:Bool}(h:O.get g=.tv (.bool q))(o:VZ g b q)(p:WO S K os ((d,.sk)::O)):WO S K (⟨Y d,op,Y (g,b)⟩::os) O:=vN h o.out p
theorem fB{d n:Nat}{js:QQ}{v:TV}(h:WO S (Gj js d v O) (os.take n) O)(o:X0 js O λe=>WO S K (os.drop n) ((d,.tv v)::e)):WO S K os O:=
 vM n (Gj js d v) h λe he=>by
  obtain ⟨y,rfl,p⟩:=o.out d v e he;exact p
section groups
variable{g n:Nat}{js:QQ}{c:Bool}{dd gd:Option Nat}{op:AD}{x y z:AE}{gg:Option (Nat×Bool)}
variable{θ:K1}{os':List PR}
theorem t7{k:Bool->Option β}(h:(if c=X then θ else Y T).bind k=Y r)(_:GS g X [] os js n)(A:O.get g=.tv (.bool c))(_:os[n]?=Y ⟨Y d,.pick x y z,gg⟩)
  (p:∀v,Zg g X c->c=X->θ=Y v->WO S (Gj js d (.bool v) O) (os.take (n+1)) O)(u:∀v,VZ g X c->c=T->Y T=Y v->WO S (Gj js d (.bool v) O) (os.take (n+1)) O)
  (w:∀v,k v=Y r->X0 js O λe=>WO S K (os.drop (n+1)) ((d,.tv (.bool v))::e))(ho:os=⟨dd,op,Y (g,X)⟩::os'):WO S K (⟨dd,op,Y (g,X)⟩::os') O:=by
 obtain ⟨v,hv,h⟩:=bind_some h;rw[<-ho];refine fB (n:=n+1) (v:=.bool v) ?_ (w v h);rcases Bool.eq_false_or_eq_true c with o|o
 .exact p v ⟨o⟩ o (Wj o hv)
 .exact u v ⟨by rw[o];rfl⟩ o (Wi o hv)
theorem t6{k:Bool->Option β}(h:(if c=X then Y X else θ).bind k=Y r)(_:GS g T [] os js n)(A:O.get g=.tv (.bool c))(_:os[n]?=Y ⟨Y d,.pick x y z,gg⟩)
  (p:∀v,Zg g T c->c=T->θ=Y v->WO S (Gj js d (.bool v) O) (os.take (n+1)) O)(u:∀v,VZ g T c->c=X->Y X=Y v->WO S (Gj js d (.bool v) O) (os.take (n+1)) O)
  (w:∀v,k v=Y r->X0 js O λe=>WO S K (os.drop (n+1)) ((d,.tv (.bool v))::e))(ho:os=⟨dd,op,Y (g,T)⟩::os'):WO S K (⟨dd,op,Y (g,T)⟩::os') O:=by
 obtain ⟨v,hv,h⟩:=bind_some h;rw[<-ho];refine fB (n:=n+1) (v:=.bool v) ?_ (w v h);rcases Bool.eq_false_or_eq_true c with o|o
 .exact u v ⟨by rw[o];rfl⟩ o (Wj o hv)
 .exact p v ⟨o⟩ o (Wi o hv)
theorem tz{e:Bool}(ho:os=⟨dd,op,Y (g,X)⟩::os')(_:GS g X [] os js n)(u:O.get g=.tv (.bool c))(_:os[n]?=Y ⟨Y d,.pick x y z,gg⟩)
  (h:Zg g X c->c=X->WO S (Gj js d (.bool e) O) (os.take (n+1)) O)(o:VZ g X c->c=T->WO S (Gj js d (.bool T) O) (os.take (n+1)) O)
  (p:X0 js O λz=>WO S K (os.drop (n+1)) ((d,.tv (.bool (c&&e)))::z)):WO S K (⟨dd,op,Y (g,X)⟩::os') O:=by
 rw [<-ho];refine fB (n:=n+1) (v:=.bool (c&&e)) ?_ p;cases c
 .exact o ⟨rfl⟩ rfl
 .exact h ⟨rfl⟩ rfl
theorem tw{e:Bool}(ho:os=⟨dd,op,Y (g,T)⟩::os')(_:GS g T [] os js n)(u:O.get g=.tv (.bool c))(_:os[n]?=Y ⟨Y d,.pick x y z,gg⟩)
  (h:Zg g T c->c=T->WO S (Gj js d (.bool e) O) (os.take (n+1)) O)(o:VZ g T c->c=X->WO S (Gj js d (.bool X) O) (os.take (n+1)) O)
  (p:X0 js O λz=>WO S K (os.drop (n+1)) ((d,.tv (.bool (c||e)))::z)):WO S K (⟨dd,op,Y (g,T)⟩::os') O:=by
 rw [<-ho];refine fB (n:=n+1) (v:=.bool (c||e)) ?_ p;cases c
 .exact h ⟨rfl⟩ rfl
 .exact o ⟨rfl⟩ rfl
end groups
variable{qi:Option Nat}{j:Int}
theorem uM{x:AE}{q n i:Nat}{es row:Fq}{e:α->TV}{l:List α}{a:α}{t:TV}(h:x.ev O=.lp q qi (j.toNat*n+i))(o:O.x5 q qi=Y (n,es))(he:es=l.map e)(p:∀a,(e a).cells.length=n)(u:idx l j=Y a)(hi:w? i n=X)(w:(e a).cells=row)(A:row[i]?=Y t)
  (B:WO S K os ((d,.tv t)::O)):WO S K (⟨Y d,.xld x,W⟩::os) O:=oC h o he p u rfl hi w A B
theorem qx{x:AE}{q n:Nat}{es row:Fq}{e:α->TV}{l:List α}{a:α}{t:TV}(h:x.ev O=.lp q qi (j.toNat*n))(o:O.x5 q qi=Y (n,es))(he:es=l.map e)(p:∀a,(e a).cells.length=n)(u:idx l j=Y a)(hi:w? 0 n=X)(w:(e a).cells=row)(A:row[0]?=Y t)
  (B:WO S K os ((d,.tv t)::O)):WO S K (⟨Y d,.xld x,W⟩::os) O:=oC (i:=0) h o he p u rfl hi w A B
variable{v:AE}
theorem qz{γ:Type}{s:Nat}{q n i:Nat}{env':AB}{es:Fq}{e:α->TV}{g:γ->TV}{l:List α}{a:α}{b:γ}{f:α->γ->α}(_:HX s f)(h:(AE.s s).ev O=.lp q qi (j.toNat*n+i))(p:O.x5 q qi=Y (n,es))(hv:v.ev O=.tv (g b))(he:es=l.map e)(u:∀a,(e a).cells.length=n)(w:idx l j=Y a)(hi:w? i n=X)(A:(g b).cells=[g b])
  (B:(e (f a b)).cells=(e a).cells.set i (g b))(o:O.yt q qi n ((Av l j (f a b)).map e)=env')(C:WO S K os env'):WO S K (⟨W,.xst (.s s) v 1,W⟩::os) O:=oD h p hv he u w rfl hi A B rfl o C
theorem qy{x v:AE}{q n:Nat}{env':AB}{es:Fq}{e:α->TV}{l:List α}{a b:α}(h:x.ev O=.lp q qi (j.toNat*n))(p:O.x5 q qi=Y (n,es))(hv:v.ev O=.tv (e b))(he:es=l.map e)(u:∀a,(e a).cells.length=n)(w:idx l j=Y a)(hi:w? 0 n=X)(A:(e b).cells=[e b])
  (B:(e b).cells=(e a).cells.set 0 (e b))(o:O.yt q qi n ((Av l j b).map e)=env')(C:WO S K os env'):WO S K (⟨W,.xst x v 1,W⟩::os) O:=oD (i:=0) h p hv he u w rfl hi A B rfl o C
end
end Go.Sf
namespace Go.Sf
section
variable{S:FuncId->Fq->Al->Prop}{K:AB->Prop}{os:List PR}{O:AB}{d:Nat}
variable{j:Int}
theorem wc{α:Type}{x:AE}{s o:Nat}{es:Fq}{e:α->TV}{l:List α}{a:α}(h:x.ev O=.nh s o (.el j.toNat))(u:O.nat s o=Y es)(he:es=l.map e)(w:idx l j=Y a)(k:WO S K os ((d,.nh s o (.rw j.toNat))::O)):WO S K (⟨Y d,.nld x,W⟩::os) O:=by
 replace k:=k.out;refine⟨?_⟩;subst he;obtain⟨B,C,A⟩:=Gd w;have p:j.toNat<l.length:=(v6.1 A).1;simp only[wpOps,PR.wp,AD.wp,h,u,Ad];exact⟨u_,k⟩
variable{j2:Int}
theorem wd{α:Type}{x v:AE}{s o:Nat}{es:Fq}{env':AB}{e:List α->TV}{e2:α->TV}{l:List (List α)}{m:List α}{A b:α}{t:TV}(h:x.ev O=.nh s o (.rp j.toNat j2.toNat))(B:O.nat s o=Y es)(hv:v.ev O=.tv t)(he:es=l.map e)(w:∀m,e m=.list 1 (m.map e2))(C:idx l j=Y m)(D:idx m j2=Y A)(E:t=e2 b)(F:t.cells=[t])(G:t.flat=X)
  (p:O.AaY s o ((Av l j (Av m j2 b)).map e)=env')(k:WO S K os env'):WO S K (⟨W,.nst x v,W⟩::os) O:=by
 replace k:=k.out;refine⟨?_⟩;subst he p E;obtain⟨J,L,H⟩:=Gd C;obtain⟨m0,m1,I⟩:=Gd D;have u:j2.toNat<m.length:=(v6.1 I).1;simp only[wpOps,PR.wp,AD.wp,h,B,hv,Ad];refine⟨m.map e2,by rw[v9,H];simp[w],g!,F,G,?_⟩;have:(l.map e).set j.toNat (.list 1 ((m.map e2).set j2.toNat (e2 b)))=(Av l j (Av m j2 b)).map e:=by
  simp only[Av,List.map_set,w]
 rw [this];exact k
end
section
variable{P:Program}{K:AB->Prop}{os:List PR}{O:AB}{d:Nat}{α β γ ρ:Type}{f:FuncId}{args:List AE}{ts:Fq}{R:α->Al}{x:Option α}{k:α->Option ρ}{r:ρ}
variable{j:Int}
theorem uD{x i:AE}{s o:Nat}{es:Fq}{e:α->TV}{l:List α}{ik:IntKind}{S:FuncId->Fq->Al->Prop}(h:(idx l j).bind k=Y r)(u:x.ev O=.nh s o .hd)(w:O.nat s o=Y es)(hi:i.val O=Y (.int ik j))(he:es=l.map e)
  (A:∀a,idx l j=Y a->k a=Y r->WO S K os ((d,.nh s o (.el j.toNat))::O)):WO S K (⟨Y d,.nia x i,W⟩::os) O:=by
 obtain ⟨a,p,h⟩:=bind_some h;have B:=(A a p h).out;refine⟨?_⟩;subst he;obtain⟨D,F,E⟩:=Gd p;have C:j.toNat<l.length:=(v6.1 E).1;simp only[wpOps,PR.wp,AD.wp,u,w,hi,Ad];exact⟨D,by simp only[c8];omega,B⟩
variable{e2:α->TV}{j2:Int}
theorem uE{x i:AE}{s o:Nat}{es:Fq}{e:List α->TV}{l:List (List α)}{m:List α}{ik:IntKind}{S:FuncId->Fq->Al->Prop}(h:(idx m j2).bind k=Y r)(u:x.ev O=.nh s o (.rw j.toNat))(w:O.nat s o=Y es)(hi:i.val O=Y (.int ik j2))(he:es=l.map e)(A:∀m,e m=.list 1 (m.map e2))(B:idx l j=Y m)
  (C:∀a,idx m j2=Y a->k a=Y r->WO S K os ((d,.nh s o (.rp j.toNat j2.toNat))::O)):WO S K (⟨Y d,.nia x i,W⟩::os) O:=by
 obtain ⟨b,p,h⟩:=bind_some h;have D:=(C b p h).out;refine⟨?_⟩;subst he;obtain⟨H,I,F⟩:=Gd B;obtain⟨m0,m1,G⟩:=Gd p;have E:j2.toNat<m.length:=(v6.1 G).1;simp only[wpOps,PR.wp,AD.wp,u,w,hi,Ad];exact⟨m0,m.map e2,by rw[v9,F];simp[A],by simp only[c8];omega,D⟩
theorem qV{mm q s o:Nat}{es w:Fq}{cs cs':List AR}{n:Nat}{e:β->TV}{l:List β}{m:β}{k:List β->Option ρ}{S:FuncId->Fq->Al->Prop}(h:(AT l [m]).bind k=Y r)(A:O.get mm=.nh s o .hd)(B:O.get q=.x1 n w)(C:O.get s=.bx cs)(D:O.nat s o=Y es)(he:es=l.map e)(hf:TV.list n w=e m)(u:O.jj d=X)(hd:d≠mm/\d≠q/\mm≠q)(E:cs.set o ⟨T,.undef⟩=cs')
  (F:∀a,AT l [m]=Y a->k a=Y r->WO S K os ((d,.xn (a.map e))::(s,.bx cs')::(mm,.undef)::(q,.undef)::O)):WO S K (⟨Y d,.zL mm q,W⟩::os) O:=by
 obtain ⟨a,p,h⟩:=bind_some h;have H:=(F a p h).out;refine⟨?_⟩;subst he E;unfold AT at p;split at p
 next G=>cases p;simp only[wpOps,PR.wp,AD.wp,A,B,C,D,Ad];refine⟨by simpa using G,⟨u,hd⟩,?_⟩;rw[hf];simpa[AB.put]using H
 .cases p
theorem kO{u:α->List β}{v:α->List γ}{w A:Nat}{p:β->TV}{e2:γ->TV}(h:x.bind k=Y r)(c:Ct P x f ts R)(E:vals O args=Y ts)(F:∀a,R a=.yy [⟨X,.list w ((u a).map p)⟩,⟨X,.list A ((v a).map e2)⟩])(G:∀a,(p a).flat=X)(H:∀a,(e2 a).flat=X)
  (I:∀a,x=Y a->k a=Y r->WO (AX P) K os ((d,.yy [⟨X,.xl w ((u a).map p)⟩,⟨X,.xl A ((v a).map e2)⟩])::O)):WO (AX P) K (⟨Y d,.zy f args,W⟩::os) O:=by
 obtain ⟨a,D,h⟩:=bind_some h;have C:=c.snd a D;rw[F]at C;have J:=(I a D h).out;have o:∀{τ:Type}(e:τ->TV)(l:List τ),(∀a,(e a).flat=X)->TV.yl (l.map e)=X:=by
  intro τ e l he
  induction l with
  |nil=>rfl|cons a l L=>simp[TV.yl,he,L]
 refine ⟨?_⟩;simp only[wpOps,PR.wp,AD.wp,E,Ad];refine⟨_,C,λc B=>?_,λ_=>J⟩;simp only[v5,List.not_mem_nil,or_false]at B;rcases B with rfl|rfl
 .exact⟨_,_,rfl,o _ _ G⟩
 .exact⟨_,_,rfl,o _ _ H⟩
inductive NL:List AR->List AR->Prop
 |nil {xs:List AR}:xs=[]->NL xs []
 |cons {xs ys zs:List AR} {o:Bool} {t:TV}:xs=⟨o,t⟩::ys->NL ys zs->NL xs (⟨o,t⟩::zs)
theorem NL.eq{xs ys:List AR}(h:NL xs ys):xs=ys:=by
 induction h with
 |nil h=>exact h|cons h _ o=>rw[h,o]
theorem uI{S:FuncId->Fq->Al->Prop}{K:AB->Prop}{os:List PR}{O:AB}{n s h:Nat}{x v:AE}{cs cs':List AR}{t:TV}(o:x.place O=Y (s,h))(p:O.get s=.bx cs)(hv:v.ev O=.tv t)(u:t.cells.length=n)(w:w! (h+n) cs.length=X)(A:NL (cs.take h++t.cells.map (⟨T,·⟩)++cs.drop (h+n)) cs')
  (k:WO S K os ((s,.bx cs')::O)):WO S K (⟨W,.st n x v,W⟩::os) O:=xm o p hv u w A.eq k
theorem qw{S:FuncId->Fq->Al->Prop}{K:AB->Prop}{os:List PR}{O:AB}{s h q:Nat}{x:AE}{cs cs':List AR}{t:TV}(o:x.place O=Y (s,h))(p:O.get s=.bx cs)(hv:O.get q=.ow t)(u:q≠s)(w:w? h cs.length=X)(A:NL (cs.set h ⟨X,t⟩) cs')
  (k:WO S K os ((s,.bx cs')::(q,.tv t)::O)):WO S K (⟨W,.st 1 x (.s q),W⟩::os) O:=wl o p hv u w A.eq k
theorem YI:∀(ts:List (Nat×Nat×TV))(done rest:Fq),Vy done.length ts=X->(IJ ts).length<=rest.length->Ek (done++rest) ts=Y (done++(IJ ts++rest.drop (IJ ts).length))
 |[],done,rest,_,h=>by simp[Ek,IJ]|(i,n,t)::r,done,rest,p,h=>by
  simp only[Vy,sx,Nat.beq_eq]at p;obtain⟨⟨rfl,o⟩,A⟩:=p;simp only[IJ,bk]at h;have u:n<=rest.length:=U
  simp only[Ek];rw[ae ⟨o,by rw[bk];omega⟩];have w:done++rest=done++(rest.take n++rest.drop n):=by rw[List.take_append_drop]
  rw [w,UT t.cells done (rest.take n) (rest.drop n) q!,<-c9];rw[YI r (done++t.cells) (rest.drop n) (by rw[bk,o];exact A) (by rw[List.length_drop];omega)];simp[IJ,List.drop_drop,o]
inductive NT:Fq->Fq->Prop
 |nil {xs:Fq}:xs=[]->NT xs []
 |cons {xs ys zs:Fq} {t:TV}:xs=t::ys->NT ys zs->NT xs (t::zs)
theorem NT.eq{xs ys:Fq}(h:NT xs ys):xs=ys:=by
 induction h with
 |nil h=>exact h|cons h _ o=>rw[h,o]
variable{zero:Fq}
theorem qY{S:FuncId->Fq->Al->Prop}{K:AB->Prop}{os:List PR}{O:AB}{d:Nat}{parts:List (Nat×Nat×AE)}{ts:List (Nat×Nat×TV)}{cs:Fq}(h:GT O parts=Y ts)(o:Vy 0 ts=X)(p:w! (IJ ts).length zero.length=X)(u:NT (IJ ts++zero.drop (IJ ts).length) cs)(k:WO S K os ((d,.tv (.agg cs))::O)):WO S K (⟨Y d,.bld zero parts,W⟩::os) O:=
 Zc h (by have:=YI ts [] zero o (Nat.le_of_ble_eq_true p);simpa using this) (by rw[u.eq]) k
structure HY{α A B C:Type}(n:Nat)(f:A->B->C->α)(g1:A->TV)(g2:B->TV)(g3:C->TV):Prop where
variable{v:AE}{qi:Option Nat}
theorem q8{S:FuncId->Fq->Al->Prop}{K:AB->Prop}{os:List PR}{O:AB}{α A B C:Type}{f:A->B->C->α}{o:Nat}{q n:Nat}{env':AB}{es cs cs':Fq}{e:α->TV}{l:List α}{a:α}{E:A}{F:B}{G:C}{p:A->TV}{u:B->TV}{w:C->TV}(_:HY o f p u w)(h:(AE.s o).ev O=.lp q qi (j.toNat*n))(H:O.x5 q qi=Y (n,es))(he:es=l.map e)(I:∀a,(e a).cells.length=n)(hv:v.ev O=.tv (.agg cs))(J:NT cs cs')(L:cs'=[p E,u F,w G])(hf:∀a b c,TV.agg [p a,u b,w c]=e (f a b c))(N:idx l j=Y a)(ε:w? 0 n=X)
  (D:O.yt q qi n ((Av l j (f E F G)).map e)=env')(k:WO S K os env'):WO S K (⟨W,.xst (.s o) v n,W⟩::os) O:=oE h H (by rw[hv,J.eq,L,hf]) he I N ε D k
theorem uN{S:FuncId->Fq->Al->Prop}{α:Type}{x v:AE}{q n:Nat}{env':AB}{es:Fq}{e:α->TV}{l:List α}{a b:α}(h:x.ev O=.lp q qi (j.toNat*n))(p:O.x5 q qi=Y (n,es))(he:es=l.map e)(u:∀a,(e a).cells.length=n)(hv:v.ev O=.tv (e b))(w:idx l j=Y a)(A:w? 0 n=X)
  (o:O.yt q qi n ((Av l j b).map e)=env')(k:WO S K os env'):WO S K (⟨W,.xst x v n,W⟩::os) O:=oE h p hv he u w A o k
end
section
variable{S:FuncId->Fq->Al->Prop}{K:AB->Prop}{os:List PR}{O:AB}{d:Nat}
theorem wZ(k:∀b,WO S K os ((d,.mx (.mp b []))::O)):WO S K (⟨Y d,.mkm,W⟩::os) O:=
 ⟨λb=>(k b).out⟩
theorem wb{s:Nat}{last:Option ((Int×Int)×Int)}{o:BM}(h:O.get s=.mx (.mi last o))(hd:d≠s)(w:o=[]->WO S K os ((d,.tp [.bool T])::O))(A:∀p u,o.Perm (p::u)->WO S K os ((d,.tp [.bool X,Rd p.1,.int .i64 p.2])::(s,.mx (.mi (Y p) u))::O)):WO S K (⟨Y d,.mnx s,W⟩::os) O:=by
 refine ⟨?_⟩;simp only[wpOps,PR.wp,AD.wp,h];exact⟨hd,λe=>(w e).out,λp t B=>(A p t B).out⟩
variable{kvs:BM}
theorem mI{f:FuncId}{args:List AE}{ts us:Fq}(hv:vals O args=Y ts)(h:S f ts (.mpr kvs us))(k:∀b,WO S K os ((d,.mx (.tm b kvs us))::O)):WO S K (⟨Y d,.zE f args,W⟩::os) O:=by
 refine ⟨?_⟩;simp only[wpOps,PR.wp,AD.wp,hv,Ad];exact .inr ⟨kvs,us,h,λ_ b=>(k b).out⟩
theorem mH{f:FuncId}{args:List AE}{ts us:Fq}(hv:vals O args=Y ts)(h:S f ts (.tp us))(k:WO S K os ((d,.tp us)::O)):WO S K (⟨Y d,.zE f args,W⟩::os) O:=by
 refine ⟨?_⟩;simp only[wpOps,PR.wp,AD.wp,hv,Ad];exact .inl ⟨us,h,λ_=>k.out⟩
theorem Kh{ss:QQ}{s:Nat}{r:AB}{m:MX}(h:O.get s=.mx m)(k:Kp O ss r):Kp O (s::ss) ((s,.mx m)::r):=Ni h k
theorem vl{ss:QQ}{s:Nat}{r:AB}{q:List (Nat×EV)}{m:MX}(h:look q s=W)(o:O.get s=.mx m)(k:Nm O q ss r):Nm O q (s::ss) ((s,.mx m)::r):=QG h o k
end
def Nl(r:BM×Int):Al:=if r.2=0 then .mpr r.1 [.int .i64 r.2]else .tp [.undef,.int .i64 r.2]
structure wu(o:Nat):Prop where
variable{kvs:BM}
theorem ox{h:List RV}{O:AB}{e:Int}(he:(!decide (e=0))=X)(o:h.length≠1)(p:D4 O h=Y [.undef,.int .i64 e]):BE h (Nl (kvs,e)) O:=by
 simp only[Bool.not_eq_true',decide_eq_false_iff_not]at he;simp only[Nl,az he];exact⟨o,p⟩
theorem oy{s o b:Nat}{h:List RV}{O:AB}(_:wu o)(p:O.get s=.tv (.zW b))(u:O.get o=.mx (.mp b kvs))(w:h≠[])(A:D4 O h=Y [.int .i64 0]):BE (.tmp s::h) (Nl (kvs,0)) O:=by
 simp only[Nl,if_true,BE];exact⟨w,⟨b,o,p,u⟩,A⟩
section
variable{P:Program}{α β:Type}{K:AB->Prop}{os:List PR}{O:AB}{d:Nat}{x:Option α}{k:α->Option β}{r:β}{f:FuncId}{args:List AE}{ts:Fq}{R:α->Al}
variable{us:α->Fq}
theorem kN{i s:Nat}{cs:List AR}{q:α->Bool}{u v:α->List AR}{e:α->EV}(h:x.bind k=Y r)(c:Ct P x f ts R)(A:(args[i]?).bind (·.place O)=Y (s,0))(B:O.get s=.bx cs)(C:O.noX s W=X)(hd:d≠s)(D:IB O i args=Y ts)(E:∀a,R a=.bo cs (if q a=X then u a else v a) i (us a))(he:∀a,EV.ofs (us a)=e a)
  (F:∀a,x=Y a->q a=X->k a=Y r->WO (AX P) K os ((d,e a)::(s,.bx (u a))::O))(G:∀a,x=Y a->q a=T->k a=Y r->WO (AX P) K os ((d,e a)::(s,.bx (v a))::O)):WO (AX P) K (⟨Y d,.zi f args i,W⟩::os) O:=by
 refine oJ h c A B C hd D E he (λa o p=>?_);cases w:q a with
 |true=>rw[ae rfl];exact F a o w p|false=>rw[az V];exact G a o w p
end
section
variable{S:FuncId->Fq->Al->Prop}{a b:PC}{O:AB}
variable{Q:Q}
theorem qa{c:AE}{β:Type}{q:Bool}{u v:Option β}{r:β}(p:c.val O=Y (.bool q))(h:(if q=X then u else v)=Y r)(o:q=X)(k:u=Y r->WP S a Q O):WP S (.cond c a b) Q O:=
 Rp p o (k (Wj o h))
theorem qZ{c:AE}{β:Type}{q:Bool}{u v:Option β}{r:β}(p:c.val O=Y (.bool q))(h:(if q=X then u else v)=Y r)(o:q=T)(k:v=Y r->WP S b Q O):WP S (.cond c a b) Q O:=
 Ro p o (k (Wi o h))
end
end Go.Sf
set_option maxRecDepth 100000
namespace Go.Sf
theorem ND{P:Prop}(p:P:=by first|exact rfl|exact Ml.eq):P:=p
theorem nU{P:Prop}(p:P:=by
 first|exact xK rfl ND|exact xJ rfl|exact uP rfl rfl ND|exact uO rfl rfl|exact xM rfl|exact xL rfl ND|exact xO rfl rfl|exact xN|exact xI a?):P:=p
theorem nf{P:Prop}(p:P:=by
 repeat (first|apply GS.step|(apply GS.nest;exact rfl))
 exact GS.done):P:=p
theorem w6{P:Prop}(p:P:=by
 repeat (apply NL.cons;exact rfl)
 exact NL.nil rfl):P:=p
theorem w7{P:Prop}(p:P:=by
 repeat (apply NT.cons;exact rfl)
 exact NT.nil rfl):P:=p
theorem w5{P:Prop}(p:P:=by
 repeat (apply Lm.cons;exact rfl)
 exact Lm.nil):P:=p
theorem w4{P:Prop}(p:P:=by
 intro _ k
 repeat' (first|exact k|exact rfl|exact Nat.le_of_ble_eq_true rfl|exact Nat.ne_of_beq_eq_false rfl|decide|apply And.intro)):P:=p
theorem au{P:Prop}(p:P:=by
 repeat' (first
  |(show WO _ _ _ _;first
    |apply NQ
    |(apply st 1;exact rfl;first|exact λ_ k=>k|exact λ_ k=>⟨rfl,k⟩)
    |(apply vO;exact rfl;assumption)
    |(apply rU;exact rfl;assumption)
    |(apply wW;exact rfl;exact ND)
    |(apply p8;exact rfl;assumption;exact rfl)
    |(apply p7;exact rfl;assumption;exact rfl)
    |(apply oL;assumption;exact h;infer_instance;exact rfl;exact λ_=>rfl;intro x o h)|(apply kN;exact h;infer_instance;exact rfl;exact rfl;exact rfl;decide;exact rfl;exact λ_=>rfl;exact λ_=>rfl;intro x o B h;rotate_left;intro x o B h;rotate_left)|(apply xP;exact rfl;exact h;infer_instance;intro x c h;apply st 3;exact rfl;first|exact λ_ k=>⟨_,⟨c,rfl⟩,λ_=>k⟩|exact λ_ k=>⟨_,c,λ_=>k⟩|exact λ_ k=>⟨_,c,k⟩|exact λ_ k=>⟨rfl,_,_,.inl c,λ_=>k⟩|exact λ_ k=>⟨⟨rfl,Nat.ne_of_beq_eq_false rfl⟩,_,_,c,λ_=>k⟩|exact λ_ k=>⟨Nat.ne_of_beq_eq_false rfl,_,c,λ_=>k⟩|exact λ_ k=>⟨rfl,_,_,_,rfl,c,λ_=>k⟩|exact λ_ k=>⟨⟨Nat.ne_of_beq_eq_false rfl,rfl⟩,rfl,rfl,_,_,rfl,c,λ_=>k⟩)
    |(apply qW;exact h;exact rfl;exact rfl;exact ND;exact ND;infer_instance;intro x o h)
    |(apply xQ;exact rfl;exact h;intro x o h;first|(apply wT o;exact rfl;exact rfl;exact ND;exact rfl)|(apply n7 o;exact rfl;exact rfl;exact ND;exact ND;exact rfl)|(apply wj o;exact rfl;exact ND;exact rfl;exact rfl)|(apply tB o;exact rfl;exact rfl)|(apply tC o;exact rfl;exact rfl;exact rfl)|(apply wm o;exact rfl;exact rfl;exact ND;exact rfl)|(apply sv o;exact rfl;exact rfl;exact ND;exact ND;exact rfl;exact rfl;decide)|(apply sw o;exact rfl;exact rfl;exact rfl;exact rfl;exact rfl;exact rfl;decide;exact rfl;exact rfl)|(apply wQ o;exact rfl;exact rfl;exact rfl;exact rfl;exact rfl;decide)|(apply wa o;exact rfl;exact rfl;exact rfl;exact rfl))
    |(apply tD;exact rfl;exact ND)
    |(apply qX;(with_reducible exact h);infer_instance;exact rfl;exact rfl;exact rfl;intro x o h)
    |(apply sz;exact rfl;exact rfl;exact rfl;exact rfl)
    |(apply qY;exact rfl;exact rfl;exact rfl;exact w7)
    |(apply Zc;exact rfl;exact rfl;exact rfl)
    |(apply uB;(with_reducible exact h);infer_instance;exact rfl;exact rfl;exact rfl;intro x o h)
    |(apply nS;exact rfl;exact rfl;exact rfl)
    |(apply uA;exact rfl;exact rfl;exact rfl;exact rfl)
    |(apply qp;exact rfl;exact rfl;exact rfl)
    |(apply qv;exact rfl;exact rfl;exact rfl;exact rfl)
    |(apply uI;exact rfl;exact rfl;exact rfl;exact rfl;exact rfl;exact w6)
    |(apply qw;exact rfl;exact rfl;exact rfl;decide;exact rfl;exact w6)
    |(apply wX;exact rfl;exact rfl)
    |(apply wY;exact rfl;exact rfl)
    |(apply st 2;exact rfl;exact w4)
    |(apply sn;exact rfl;exact w4)
    |(apply xd;exact rfl)
    |(apply wU;exact rfl)
    |(apply oK;exact h;infer_instance;exact rfl;exact λ_=>rfl;intro x o h)
    |(apply uF;exact h;exact rfl;exact rfl;intro x o h)
    |(apply uG;exact h;exact rfl;exact rfl;intro x o h)
    |(apply tj;exact h;exact rfl;exact rfl;decide;intro x o h)
    |(apply qu;exact h;exact rfl;exact rfl;intro x o h)
    |(apply qR;exact rfl;exact rfl;infer_instance;exact rfl;exact rfl;exact rfl)
    |(apply qT;exact rfl;exact rfl;infer_instance;exact rfl;exact rfl;exact rfl)
    |refine qS rfl rfl rfl rfl rfl ?_
    |refine qU rfl rfl rfl rfl rfl ?_
    |(apply t2;exact rfl;(with_reducible exact h);intro A B h;rotate_left;intro A B h;rotate_left)
    |(apply t1;exact rfl;(with_reducible exact h);intro A B h;rotate_left;intro A B h;rotate_left)
    |(apply t7 h (ho:=rfl);exact nf;exact rfl;exact rfl;intro v A B h;rotate_left;intro v A B h;rotate_left;intro v h;rotate_left)
    |(apply t6 h (ho:=rfl);exact nf;exact rfl;exact rfl;intro v A B h;rotate_left;intro v A B h;rotate_left;intro v h;rotate_left)
    |(apply tz rfl;exact nf;exact rfl;exact rfl;intro A B;rotate_left;intro A B;rotate_left 3)
    |(apply tw rfl;exact nf;exact rfl;exact rfl;intro A B;rotate_left;intro A B;rotate_left 3)
    |apply ql
    |(apply qt;exact rfl;exact w5;exact λ_=>rfl;infer_instance)|(apply qr;exact rfl;exact w5;exact λ_=>rfl)
    |(apply uC;exact rfl;exact rfl)
    |(apply tu;exact rfl;infer_instance)
    |(apply qx;exact rfl;exact rfl;exact rfl;exact λ_=>rfl;assumption;exact rfl;exact rfl;exact rfl)|(apply uM;exact rfl;exact rfl;exact rfl;exact λ_=>rfl;assumption;exact rfl;exact rfl;exact rfl)|(apply qz;assumption;exact rfl;exact rfl;exact rfl;exact rfl;exact λ_=>rfl;assumption;exact rfl;exact rfl;exact rfl;exact rfl)|(apply qy;exact rfl;exact rfl;exact rfl;exact rfl;exact λ_=>rfl;assumption;exact rfl;exact rfl;exact rfl;exact rfl)|(apply q8;assumption;exact rfl;exact rfl;exact rfl;exact λ_=>rfl;exact rfl;exact w7;exact rfl;exact λ_ _ _=>rfl;assumption;exact rfl;exact rfl)|(apply uN;exact rfl;exact rfl;exact rfl;exact λ_=>rfl;exact rfl;assumption;exact rfl;exact rfl)|(apply kQ;exact h;infer_instance;exact rfl;exact rfl;exact λ_=>rfl;exact λ_=>rfl;intro x o h)|(apply kP;exact h;infer_instance;exact rfl;exact λ_=>rfl;exact λ_=>rfl;intro x o h)
    |(apply t8;exact h;exact rfl;exact ND;intro u h)
    |(apply n9;exact rfl;exact rfl;intro z D;replace h:=oV h z D)
    |(apply s8;exact rfl)
    |(apply uD;exact h;exact rfl;exact rfl;exact rfl;exact ND;intro x o h)
    |(apply wc;exact rfl;exact rfl;exact ND;assumption)
    |(apply uE;exact h;exact rfl;exact rfl;exact rfl;exact ND;exact λ_=>rfl;assumption;intro x o h)|(apply wd;exact rfl;exact rfl;exact rfl;exact ND;exact λ_=>rfl;assumption;assumption;exact rfl;exact rfl;exact rfl;exact rfl)
    |(apply qV;exact h;exact rfl;exact rfl;exact rfl;exact rfl;exact ND;exact rfl;exact rfl;decide;exact rfl;intro x o h)
    |(apply kO;exact h;infer_instance;exact rfl;exact λ_=>rfl;exact λ_=>rfl;exact λ_=>rfl;intro x o h)
    |(apply wZ;intro b;have K:=K b))
  |(show WP _ _ _ _;first
    |with_reducible apply tq
    |apply Kd
    |apply P6
    |(apply qe;exact rfl)
    |(apply uH;exact rfl;exact rfl)
    |apply Zj
    |apply eQ
    |apply gf
    |(apply Rp;exact rfl;with_reducible rfl)
    |(apply Ro;exact rfl;with_reducible rfl)
    |(apply qn;exact rfl;exact h;assumption;exact rfl;intro w B h;rotate_left;intro w B h;rotate_left;intro w h;rotate_left)
    |(apply qa;exact rfl;exact h;assumption;intro h)
    |(apply qZ;exact rfl;exact h;assumption;intro h)
    |(apply qc;exact rfl;exact h;intro B h;rotate_left;intro B h;rotate_left)
    |(apply Rp;exact rfl;apply xz;assumption)
    |(apply Ro;exact rfl;apply xb;assumption)
    |(apply qf;(first|assumption|(apply HB.a;assumption));exact h;exact C;exact nU;exact rfl;exact rfl;exact λ_ _=>rfl;intro i s r hi h C;rotate_left;intro i s hi;clear h;rotate_left;intro s h;rotate_left)
    |(apply qk;(first|assumption|(apply HB.a;assumption));assumption;exact rfl;exact h;exact C;exact nU;exact rfl;exact rfl;exact λ_ _=>rfl;intro i s r hi h C;rotate_left;intro i s hi;clear h;rotate_left;intro s h;rotate_left)
    |(apply qj;(first|assumption|(apply HB.a;assumption));exact h;exact C;exact nU;exact rfl;exact rfl;exact λ_ _=>rfl;intro i s r hi h C;rotate_left;intro i s hi;clear h;rotate_left;intro s h;rotate_left)
    |(apply qh;(first|assumption|(apply HB.a;assumption));exact h;exact C;exact nU;exact rfl;exact rfl;exact λ_ _=>rfl;intro i s r hi h C;rotate_left;intro i s hi;clear h;rotate_left;intro s h;rotate_left)
    |(apply uL;assumption;assumption;exact rfl;exact h;exact rfl;exact rfl;intro s r h C;rotate_left;intro s h;rotate_left)
    |(apply uK;assumption;exact h;exact rfl;exact rfl;intro s r h C;rotate_left;intro s h;rotate_left)
    |(apply uJ;assumption;exact h;exact rfl;exact rfl;intro s r h C;rotate_left;intro s h;rotate_left)
    |apply cg
    |cases h)
  |(show Kp _ _ _;first
    |exact IK
    |(apply Kj;exact rfl)
    |(apply vW;exact rfl)
    |(apply Kg;exact rfl)
    |(apply vY;exact rfl)
    |(apply vU;exact rfl)
    |(apply Ki;exact rfl)
    |(apply Kk;exact rfl)
    |(apply vV;exact rfl)
    |(apply vX;exact rfl)
    |(apply rk;exact rfl)
    |(apply Kh;exact rfl))
  |(show Nm _ _ _ _;first
    |exact rn
    |(apply rm;exact rfl)
    |(apply vp;exact rfl;exact rfl)
    |(apply vn;exact rfl;exact rfl)
    |(apply vj;exact rfl;exact rfl)
    |(apply vr;exact rfl;exact rfl)
    |(apply vh;exact rfl;exact rfl)
    |(apply vo;exact rfl;exact rfl)
    |(apply vq;exact rfl;exact rfl)
    |(apply vk;exact rfl;exact rfl)
    |(apply vl;exact rfl;exact rfl))
  |apply oe
  |(apply kw;intro j)
  |apply od
  |exact iJ rfl
  |(cases h;exact iJ rfl)
  |apply Z5
  |(apply oZ;decide)
  |intro C
  |(cases h;first|exact rfl|exact⟨rfl⟩|exact⟨rfl,rfl⟩|exact⟨_,rfl,rfl⟩|exact⟨_,rfl,⟨rfl⟩⟩|exact⟨rfl,_,rfl,⟨rfl⟩⟩|exact⟨a?,rfl⟩|exact⟨_,rfl,a?,rfl⟩|exact⟨_,rfl,rfl,rfl⟩|exact oy (by assumption) rfl rfl a? rfl|exact⟨_,rfl,ox (by first|assumption|decide) a? rfl⟩)
  |exact⟨rfl,⟨rfl⟩⟩)):P:=p
end Go.Sf
