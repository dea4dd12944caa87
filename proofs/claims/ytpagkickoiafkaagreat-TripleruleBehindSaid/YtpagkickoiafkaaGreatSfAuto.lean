/- Contracts that are found by themselves: rules that take the typed text along, and the script that applies them. -/
import Derived.Test.YtpagkickoiafkaaGreatSfLib
set_option linter.all false
open Option renaming some->Y,none->W
open Bool renaming true->X,false->T
open List renaming map_map->v?,map_id->w_,take_of_length_le->w!,mem_cons->w?,getElem?_eq_some_iff->x_,getElem?_map->x!
open Nat renaming beq->x?,eq_of_beq_eq_true->y_,ble_self_eq_true->y!,zero_add->y?,ble->z_,blt->z!
namespace Go.Sf
class Ct(P:Program){α:Type}(x:Option α)(f:outParam FuncId)(ts:outParam Fq)(R:outParam (α->At)):Prop where
 snd:∀r,x=Y r->AV P f ts (R r)
class Ml(es:Fq){α:outParam Type}(e:outParam (α->TV))(l:outParam (List α)):Prop where
 eq:es=l.map e
class bH{α:Type}(e:α->TV)where
 un:Fq->α
 dec:∀a b,∃i:Decidable (a=b),B1 (e a).cells (e b).cells=Y (@decide (a=b) i)
class Fz(cs:List AQ)(row:outParam Fq):Prop where
 h:cs.map (·.t)=row
instance(priority:=high){l:Fq}:Fz (l.map λx=>(⟨T,x⟩:AQ)) l:=⟨by rw[v?];exact w_ _⟩
instance(priority:=low){cs:List AQ}:Fz cs (cs.map (·.t)):=⟨rfl⟩
class En(α:Type)(e:outParam (α->TV)):Prop where
class Fl{α:Type}(e:α->TV)(n:outParam Nat)(f:outParam (List α->TV)):Prop where
 eq:∀l,f l=.list n (l.map e)
structure Kp(O:AB)(l:I2)(r:AB):Prop where
 of::out:O.em l=r
def look:List (Nat×EV)->Nat->Option EV
 |[],_=>W|(k,e)::r,n=>if k=n then Y e else look r n
def pc(O:AB)(m:List (Nat×EV)):I2->AB
 |[]=>[]|s::ss=>(s,(look m s).getD (O.get s))::pc O m ss
structure Nm(O:AB)(m:List (Nat×EV))(l:I2)(r:AB):Prop where
 of::out:pc O m l=r
structure Rn(a b:AB):Prop where
 of::out:a=b
structure HJ{σ:Type}(n:Nat)(M:σ->List (Nat×EV)):Prop where
structure HA{σ:Type}(n DM q i:Nat)(M:Int->σ->List (Nat×EV)):Prop where
structure HB{σ:Type}(n DM q i:Nat)(M:Int->σ->List (Nat×EV)):Prop where
theorem HB.a{σ:Type}{n DM q i:Nat}{M:Int->σ->List (Nat×EV)}(_:HB n DM q i M):HA n DM q i M:=⟨⟩
structure HW{σ:Type}(n:Nat)(M:σ->List (Nat×EV)):Prop where
structure HR{β:Type}(R:β->AB->Prop):Prop where
structure HS(n:Nat):Prop where
structure HX{α γ:Type}(n:Nat)(f:α->γ->α):Prop where
structure bI(g:Nat)(b q:Bool):Prop where
 of::out:q=b
structure WR(g:Nat)(b q:Bool):Prop where
 of::out:q=!b
def KR(n:AB->Prop)(l:I2):AB->Prop:=λe=>n (e.em l)
section
variable{O:AB}{s:Nat}{ss:I2}{r:AB}{m:List (Nat×EV)}
theorem Ic:Kp O [] []:=⟨rfl⟩
theorem Nr{e:EV}(h:O.get s=e)(k:Kp O ss r):Kp O (s::ss) ((s,e)::r):=⟨by rw[<-k.out,<-h];rfl⟩
theorem K0{t:TV}(h:O.get s=.tv t)(k:Kp O ss r):Kp O (s::ss) ((s,.tv t)::r):=Nr h k
theorem yt{t:TV}(h:O.get s=.ow t)(k:Kp O ss r):Kp O (s::ss) ((s,.ow t)::r):=Nr h k
theorem Kx{t:List AQ}(h:O.get s=.bx t)(k:Kp O ss r):Kp O (s::ss) ((s,.bx t)::r):=Nr h k
theorem yp{q o:Nat}(h:O.get s=.bp q o)(k:Kp O ss r):Kp O (s::ss) ((s,.bp q o)::r):=Nr h k
theorem Kz{t:Fq}(h:O.get s=.tp t)(k:Kp O ss r):Kp O (s::ss) ((s,.tp t)::r):=Nr h k
theorem K3(h:O.get s=.undef)(k:Kp O ss r):Kp O (s::ss) ((s,.undef)::r):=Nr h k
theorem yv{n:Nat}{t:Fq}(h:O.get s=.xo n t)(k:Kp O ss r):Kp O (s::ss) ((s,.xo n t)::r):=Nr h k
theorem yq{q:Nat}{i:Option Nat}(h:O.get s=.la q i)(k:Kp O ss r):Kp O (s::ss) ((s,.la q i)::r):=Nr h k
theorem yu(h:O.get s=.sk)(k:Kp O ss r):Kp O (s::ss) ((s,.sk)::r):=Nr h k
theorem vU{t:List AQ}(h:O.get s=.vS t)(k:Kp O ss r):Kp O (s::ss) ((s,.vS t)::r):=Nr h k
theorem vZ:Nm O m [] []:=⟨rfl⟩
theorem vY{e:EV}(h:look m s=Y e)(k:Nm O m ss r):Nm O m (s::ss) ((s,e)::r):=⟨by rw[<-k.out];simp only[pc,h,Option.getD_some]⟩
theorem Qa{e:EV}(h:look m s=W)(o:O.get s=e)(k:Nm O m ss r):Nm O m (s::ss) ((s,e)::r):=⟨by rw[<-k.out];simp only[pc,h,o,Option.getD_none]⟩
theorem zC{t:TV}(h:look m s=W)(o:O.get s=.tv t)(k:Nm O m ss r):Nm O m (s::ss) ((s,.tv t)::r):=Qa h o k
theorem zA{t:TV}(h:look m s=W)(o:O.get s=.ow t)(k:Nm O m ss r):Nm O m (s::ss) ((s,.ow t)::r):=Qa h o k
theorem y7{t:List AQ}(h:look m s=W)(o:O.get s=.bx t)(k:Nm O m ss r):Nm O m (s::ss) ((s,.bx t)::r):=Qa h o k
theorem y6{q o:Nat}(h:look m s=W)(p:O.get s=.bp q o)(k:Nm O m ss r):Nm O m (s::ss) ((s,.bp q o)::r):=Qa h p k
theorem zB{t:Fq}(h:look m s=W)(o:O.get s=.tp t)(k:Nm O m ss r):Nm O m (s::ss) ((s,.tp t)::r):=Qa h o k
theorem zD(h:look m s=W)(o:O.get s=.undef)(k:Nm O m ss r):Nm O m (s::ss) ((s,.undef)::r):=Qa h o k
theorem zE{n:Nat}{t:Fq}(h:look m s=W)(o:O.get s=.xo n t)(k:Nm O m ss r):Nm O m (s::ss) ((s,.xo n t)::r):=Qa h o k
theorem y8{q:Nat}{i:Option Nat}(h:look m s=W)(o:O.get s=.la q i)(k:Nm O m ss r):Nm O m (s::ss) ((s,.la q i)::r):=Qa h o k
end
def PC.xl(i:Nat):PC->Option I2
 |.exit j l=>if j=i then Y l else W|.seq a b=>match a.xl i with
  |some l=>Y l|none=>b.xl i
 |.cond _ a b=>match a.xl i with
  |some l=>Y l|none=>b.xl i
 |.block _ a=>a.xl i|.loop _ a=>a.xl i|.rls _ a=>a.xl i|_=>W
def PC.last:PC->Option I2
 |.region _ l=>Y l|.draw _ _ l=>Y l|.skip l=>Y l|.exit _ l=>Y l|.seq _ b=>b.last|.cond _ a _=>a.last|.block i (.loop _ b)=>b.xl i|.block _ c=>c.last|.rls _ c=>c.last|_=>W
section
variable{S:FuncId->Fq->At->Prop}{K:AB->Prop}{os:List PR}{O:AB}{d:Nat}
section code
variable{n t:AB->Prop}{x:Nat->AB->Prop}{a b:PC}{l:I2}{env':AB}
theorem Nb(o:Kp O l env')(h:n env'):WO S (KR n l) [] O:=⟨by show n (O.em l);rw[o.out];exact h⟩
theorem QM{ops:List PR}(h:WO S (KR n l) ops O):WP S (.region ops l) ⟨n,x,t⟩ O:=⟨h.out⟩
theorem uS{D:I2}{ops:List PR}(hd:SY O D=X)(h:WO S (KR n l) ops O):WP S (.draw D ops l) ⟨n,x,t⟩ O:=⟨hd,h.out⟩
theorem Kt(h:WP S a ⟨λe=>(∀s,(e.get s).WF)->WP S b ⟨n,x,t⟩ e,x,t⟩ O):WP S (.seq a b) ⟨n,x,t⟩ O:=yX h
theorem bL(o:Kp O l env')(h:n env'):WP S (.skip l) ⟨n,x,t⟩ O:=uq o.out h
theorem iZ(h:t O):WP S .ret ⟨n,x,t⟩ O:=⟨h⟩
theorem kM{i:Nat}(o:Kp O l env')(h:x i env'):WP S (.exit i l) ⟨n,x,t⟩ O:=uo o.out h
theorem xc{s:Nat}{cs cs':List AQ}{c:PC}{q:Q}(h:O.get s=.bx cs)(he:cs.map AQ.rel=cs')(k:WP S c q ((s,.bx cs')::O)):WP S (.rls s c) q O:=by
 refine ⟨?_⟩;subst he;simp only[PC.wp,h];exact k.out
theorem fE{i:Nat}(h:WP S a ⟨n,λj e=>if j=i then n e else x j e,t⟩ O):WP S (.block i a) ⟨n,x,t⟩ O:=YV h
theorem xM{m:List (Nat×EV)}{e:AB}{q:Q}(he:Nm e m l env')(h:WP S a q env'):WP S a q (pc e m l):=by rw[he.out];exact h
variable{Q:Q}
theorem uR{c:AF}{β:Type}{q:Bool}{u v:Option β}{r:β}(o:c.val O=Y (.bool q))(h:(if q=X then u else v)=Y r)(p:q=X->u=Y r->WP S a Q O)(w:q=T->v=Y r->WP S b Q O):WP S (.cond c a b) Q O:=
 XK o (λe=>p e (Xj e h)) (λe=>w e (Xi e h))
theorem uY{σ β:Type}{i:Nat}{M:σ->List (Nat×EV)}{q:Bool}{u v:Option σ}{k:σ->Option β}{r:β}(p:(AF.s i).val O=Y (.bool q))(h:((if q=X then u else v).bind k)=Y r)(_:HJ i M)(_:(PC.cond (.s i) a b).last=Y l)
  (A:∀w,q=X->u=Y w->WP S a ⟨λe=>Rn e (pc O (M w) l),x,t⟩ O)(B:∀w,q=T->v=Y w->WP S b ⟨λe=>Rn e (pc O (M w) l),x,t⟩ O)(C:∀w,k w=Y r->n (pc O (M w) l)):WP S (.cond (.s i) a b) ⟨n,x,t⟩ O:=by
 obtain ⟨w,o,h⟩:=bind_some h;refine yW (λe=>Rn e (pc O (M w) l)) ?_ (λe he=>by rw[he.out];exact C w h);exact XK p (λe=>A w e (Xj e o)) (λe=>B w e (Xi e o))
end code
structure Bd(O:AB)(q i:Nat)(b:Int):Prop where
 of::out:(∀s,(O.get s).WF)->b<=9223372036854775807
section bounds
variable{q i:Nat}{α:Type}{e:α->TV}{l:List α}{es row:Fq}{n:Nat}
theorem AAF{b:Int}(h:decide (b<=9223372036854775807)=X):Bd O q i b:=⟨λ_=>of_decide_eq_true h⟩
theorem AAK{b:Int}:Bd O q i (Ag b):=⟨λ_=>xF _⟩
theorem AAH(h:O.get q=.tv (.list n es))(he:es=l.map e):Bd O q i l.length:=⟨λo=>by have:=o q;rw[h]at this;exact V1 (bE this) he⟩
theorem AAI(h:O.get q=.ow (.list n es))(he:es=l.map e):Bd O q i l.length:=⟨λo=>by have:=o q;rw[h]at this;exact V1 (zq this) he⟩
theorem AAL(h:O.get q=.xo n es)(he:es=l.map e):Bd O q i l.length:=⟨λo=>by have:=o q;rw[h]at this;exact V1 (zr this) he⟩
theorem AAJ{b:ByteArray}(h:O.get q=.tv (.str b)):Bd O q i b.size:=⟨λo=>by have:=o q;rw[h]at this;exact t7 (bE this)⟩
theorem AAG{b:Int}(h:O.get q=.tv (.int .i64 b)):Bd O q i b:=⟨λo=>by have:=o q;rw[h]at this;exact nP (bE this)⟩
theorem xr(h:O.get q=.tv (.pt row))(o:row[i]?=Y (.list n es))(he:es=l.map e):Bd O q i l.length:=⟨λp=>by have:=p q;rw[h]at this;exact V1 (iL (rZ this) o) he⟩
theorem xm{b:Int}(h:O.get q=.tv (.pt row))(o:row[i]?=Y (.int .i64 b)):Bd O q i b:=⟨λp=>by have:=p q;rw[h]at this;exact nP (iL (rZ this) o)⟩
end bounds
section loops
variable{σ β ρ:Type}{n t:AB->Prop}{x:Nat->AB->Prop}{c:PC}{live jl:I2}{i0 DM q i1:Nat}{lo b:Int}{s0:σ}{r:β}{k:σ->Option β}
variable{M:Int->σ->List (Nat×EV)}
theorem xG(h:∀i s,(pc O (M i s) live).get DM=.tv (.int .i64 i)){i:Int}{s:σ}(o:∀k,((pc O (M i s) live).get k).WF)(hi:i<b)(p:b<=9223372036854775807):Ag (i+1)=i+1:=by
 have:=o DM;rw[h]at this;exact zu (bE this) hi p
theorem uT{f:Int->σ->Option σ}(_:HA i0 DM q i1 M)(h:(BB f lo b s0).bind k=Y r)(p:∀s,(O.get s).WF)(u:Bd O q i1 b)(_:c.xl i0=Y jl)(w:O.em live=pc O (M lo s0) live)(A:∀i s,(pc O (M i s) live).get DM=.tv (.int .i64 i))
  (B:∀i s r,i<b->f i s=Y r->(∀k,((pc O (M i s) live).get k).WF)->WP S c ⟨λe=>Rn (e.em live) (pc O (M (Ag (i+1)) r) live),λ_ _=>False,λ_=>False⟩ (pc O (M i s) live))
  (C:∀i s,¬i<b->WP S c ⟨λ_=>False,λj e=>j=i0/\Rn e (pc O (M 0 s) jl),λ_=>False⟩ (pc O (M i s) live))
  (D:∀s,k s=Y r->n (pc O (M 0 s) jl)):WP S (.block i0 (.loop live c)) ⟨n,x,t⟩ O:=by
 obtain ⟨o,ho,h⟩:=bind_some h;have u:=u.out p;refine t8 ho (λi s=>pc O (M i s) live) (λs=>pc O (M 0 s) jl) w (λi s r hi hf p=>⟨PC.gF S c _ _ (B i s r hi hf p).out _ (λe he=>?_) (λ_ _ h=>h) (λ_ h=>h)⟩) (λi s hi=>⟨PC.gF S c _ _ (C i s hi).out _ (λ_ h=>h) (λj e h=>⟨h.1,h.2.out⟩) (λ_ h=>h)⟩) (D o h);have:=he.out;rw[xG A p hi u]at this;exact this
variable{kr:ρ->Option β}
theorem Yf{f:Int->σ->Option (B3 σ ρ)}{R:ρ->AB->Prop}(h:AL (Aj f lo b s0) k kr=Y r)(w:b<=9223372036854775807)(A:O.em live=pc O (M lo s0) live)(B:∀i s,(pc O (M i s) live).get DM=.tv (.int .i64 i))
  (C:∀i s r,i<b->f i s=Y r->(∀k,((pc O (M i s) live).get k).WF)->WP S c ⟨λe=>∃s',r=.next s'/\Rn (e.em live) (pc O (M (Ag (i+1)) s') live),λj e=>j=i0/\∃s',r=.brk s'/\Rn e (pc O (M 0 s') jl),λe=>∃v,r=.ret v/\R v e⟩ (pc O (M i s) live))
  (D:∀i s,¬i<b->WP S c ⟨λ_=>False,λj e=>j=i0/\Rn e (pc O (M 0 s) jl),λ_=>False⟩ (pc O (M i s) live))
  (E:∀s,k s=Y r->n (pc O (M 0 s) jl))(F:∀v e,kr v=Y r->R v e->t e):WP S (.block i0 (.loop live c)) ⟨n,x,t⟩ O:=by
 obtain ⟨o,ho,h⟩:=YJ h;refine iP ho (λi s=>pc O (M i s) live) (λs=>pc O (M 0 s) jl) R A (λi s r hi hf u=>⟨PC.gF S c _ _ (C i s r hi hf u).out _ (λe he=>?_) (λj e he=>?_) (λ_ h=>h)⟩) (λi s hi=>⟨PC.gF S c _ _ (D i s hi).out _ (λ_ h=>h) (λj e h=>⟨h.1,h.2.out⟩) (λ_ h=>h)⟩) (λs G=>E s (iC h G)) (λv e hv=>F v e (iD h hv))
 .obtain⟨s',p,e2⟩:=he;have e2:=e2.out;rw[xG B u hi w]at e2;exact⟨s',p,e2⟩
 .obtain⟨e0,s',p,e2⟩:=he;exact⟨e0,s',p,e2.out⟩
theorem uW{f:Int->σ->Option (B3 σ β)}{R:β->AB->Prop}(_:HA i0 DM q i1 M)(_:HR R)(o:R r=t)(h:AL (Aj f lo b s0) k (λv=>Y v)=Y r)(p:∀s,(O.get s).WF)(u:Bd O q i1 b)(_:c.xl i0=Y jl)(w:O.em live=pc O (M lo s0) live)(A:∀i s,(pc O (M i s) live).get DM=.tv (.int .i64 i))
  (B:∀i s r,i<b->f i s=Y r->(∀k,((pc O (M i s) live).get k).WF)->WP S c ⟨λe=>∃s',r=.next s'/\Rn (e.em live) (pc O (M (Ag (i+1)) s') live),λj e=>j=i0/\∃s',r=.brk s'/\Rn e (pc O (M 0 s') jl),λe=>∃v,r=.ret v/\R v e⟩ (pc O (M i s) live))
  (C:∀i s,¬i<b->WP S c ⟨λ_=>False,λj e=>j=i0/\Rn e (pc O (M 0 s) jl),λ_=>False⟩ (pc O (M i s) live))
  (D:∀s,k s=Y r->n (pc O (M 0 s) jl)):WP S (.block i0 (.loop live c)) ⟨n,x,t⟩ O:=
 Yf h (u.out p) w A B C D (λv e hv E=>by cases hv;rw[<-o];exact E)
variable{τ:Type}
theorem uV{f:Int->σ->Option (B3 σ ρ)}{k:σ->Option (B3 τ ρ)}{r:B3 τ ρ}{R:ρ->AB->Prop}(_:HA i0 DM q i1 M)(h:AL (Aj f lo b s0) k (λv=>Y (.ret v))=Y r)(o:∀s,(O.get s).WF)(p:Bd O q i1 b)(_:c.xl i0=Y jl)(u:O.em live=pc O (M lo s0) live)(w:∀i s,(pc O (M i s) live).get DM=.tv (.int .i64 i))
  (A:∀i s r,i<b->f i s=Y r->(∀k,((pc O (M i s) live).get k).WF)->WP S c ⟨λe=>∃s',r=.next s'/\Rn (e.em live) (pc O (M (Ag (i+1)) s') live),λj e=>j=i0/\∃s',r=.brk s'/\Rn e (pc O (M 0 s') jl),λe=>∃v,r=.ret v/\R v e⟩ (pc O (M i s) live))
  (B:∀i s,¬i<b->WP S c ⟨λ_=>False,λj e=>j=i0/\Rn e (pc O (M 0 s) jl),λ_=>False⟩ (pc O (M i s) live))
  (C:∀s,k s=Y r->n (pc O (M 0 s) jl)):WP S (.block i0 (.loop live c)) ⟨n,x,λe=>∃v,r=.ret v/\R v e⟩ O:=
 Yf h (p.out o) u w A B C (λv e hv D=>by cases hv;exact⟨v,rfl,D⟩)
theorem uU{f:Int->σ->Option (B3 σ ρ)}(_:HA i0 DM q i1 M)(h:AL (Aj f lo b s0) k (λ_=>W)=Y r)(o:∀s,(O.get s).WF)(p:Bd O q i1 b)(_:c.xl i0=Y jl)(u:O.em live=pc O (M lo s0) live)(w:∀i s,(pc O (M i s) live).get DM=.tv (.int .i64 i))
  (A:∀i s r,i<b->f i s=Y r->(∀k,((pc O (M i s) live).get k).WF)->WP S c ⟨λe=>∃s',r=.next s'/\Rn (e.em live) (pc O (M (Ag (i+1)) s') live),λj e=>j=i0/\∃s',r=.brk s'/\Rn e (pc O (M 0 s') jl),λ_=>∃v,r=.ret v/\False⟩ (pc O (M i s) live))
  (B:∀i s,¬i<b->WP S c ⟨λ_=>False,λj e=>j=i0/\Rn e (pc O (M 0 s) jl),λ_=>False⟩ (pc O (M i s) live))
  (C:∀s,k s=Y r->n (pc O (M 0 s) jl)):WP S (.block i0 (.loop live c)) ⟨n,x,t⟩ O:=
 Yf (R:=λ_ _=>False) h (p.out o) u w A B C (λv e hv _=>by cases hv)
theorem dz{f:σ->Option (B3 σ ρ)}{R:ρ->AB->Prop}{M:σ->List (Nat×EV)}(h:AL (EI f s0) k kr=Y r)(u:O.em live=pc O (M s0) live)
  (w:∀s r,f s=Y r->(∀k,((pc O (M s) live).get k).WF)->WP S c ⟨λe=>∃s',r=.next s'/\Rn (e.em live) (pc O (M s') live),λj e=>j=i0/\∃s',r=.brk s'/\Rn e (pc O (M s') jl),λe=>∃v,r=.ret v/\R v e⟩ (pc O (M s) live))
  (A:∀s,k s=Y r->n (pc O (M s) jl))(B:∀v e,kr v=Y r->R v e->t e):WP S (.block i0 (.loop live c)) ⟨n,x,t⟩ O:=by
 obtain ⟨o,ho,h⟩:=YJ h;refine xI ho (λs=>pc O (M s) live) (λs=>pc O (M s) jl) R u (λs r hf C=>⟨PC.gF S c _ _ (w s r hf C).out _ (λe he=>?_) (λj e he=>?_) (λ_ h=>h)⟩) (λs D=>A s (iC h D)) (λv e hv=>B v e (iD h hv))
 .obtain⟨s',p,e2⟩:=he;exact⟨s',p,e2.out⟩
 .obtain⟨e0,s',p,e2⟩:=he;exact⟨e0,s',p,e2.out⟩
theorem xg{f:σ->Option (B3 σ β)}{R:β->AB->Prop}{M:σ->List (Nat×EV)}(_:HW i0 M)(_:HR R)(o:R r=t)(h:AL (EI f s0) k (λv=>Y v)=Y r)(_:c.xl i0=Y jl)(p:O.em live=pc O (M s0) live)
  (u:∀s r,f s=Y r->(∀k,((pc O (M s) live).get k).WF)->WP S c ⟨λe=>∃s',r=.next s'/\Rn (e.em live) (pc O (M s') live),λj e=>j=i0/\∃s',r=.brk s'/\Rn e (pc O (M s') jl),λe=>∃v,r=.ret v/\R v e⟩ (pc O (M s) live))
  (w:∀s,k s=Y r->n (pc O (M s) jl)):WP S (.block i0 (.loop live c)) ⟨n,x,t⟩ O:=
 dz h p u w (λv e hv A=>by cases hv;rw[<-o];exact A)
theorem xf{f:σ->Option (B3 σ ρ)}{k:σ->Option (B3 τ ρ)}{r:B3 τ ρ}{R:ρ->AB->Prop}{M:σ->List (Nat×EV)}(_:HW i0 M)(h:AL (EI f s0) k (λv=>Y (.ret v))=Y r)(_:c.xl i0=Y jl)(o:O.em live=pc O (M s0) live)
  (p:∀s r,f s=Y r->(∀k,((pc O (M s) live).get k).WF)->WP S c ⟨λe=>∃s',r=.next s'/\Rn (e.em live) (pc O (M s') live),λj e=>j=i0/\∃s',r=.brk s'/\Rn e (pc O (M s') jl),λe=>∃v,r=.ret v/\R v e⟩ (pc O (M s) live))
  (u:∀s,k s=Y r->n (pc O (M s) jl)):WP S (.block i0 (.loop live c)) ⟨n,x,λe=>∃v,r=.ret v/\R v e⟩ O:=
 dz h o p u (λv e hv w=>by cases hv;exact⟨v,rfl,w⟩)
theorem xe{f:σ->Option (B3 σ ρ)}{M:σ->List (Nat×EV)}(_:HW i0 M)(h:AL (EI f s0) k (λ_=>W)=Y r)(_:c.xl i0=Y jl)(o:O.em live=pc O (M s0) live)
  (p:∀s r,f s=Y r->(∀k,((pc O (M s) live).get k).WF)->WP S c ⟨λe=>∃s',r=.next s'/\Rn (e.em live) (pc O (M s') live),λj e=>j=i0/\∃s',r=.brk s'/\Rn e (pc O (M s') jl),λ_=>∃v,r=.ret v/\False⟩ (pc O (M s) live))
  (u:∀s,k s=Y r->n (pc O (M s) jl)):WP S (.block i0 (.loop live c)) ⟨n,x,t⟩ O:=
 dz (R:=λ_ _=>False) h o p u (λv e hv _=>by cases hv)
end loops
end
end Go.Sf
namespace Go.Sf
section
variable{P:Program}{S:FuncId->Fq->At->Prop}{K:AB->Prop}{os:List PR}{O:AB}{d:Nat}{α β:Type}{k:α->Option β}{r:β}
theorem bnd{G:Prop}{x:Option α}(h:x.bind k=Y r)(g:∀a,x=Y a->k a=Y r->G):G:=by
 obtain ⟨a,o,h⟩:=bind_some h;exact g a o h
theorem AAN{α:Type}{x:Option α}{k:α->Option β}{op:AE}{dd:Option Nat}(_:op.AbG=4)(h:x.bind k=Y r)(g:∀a,x=Y a->k a=Y r->WO S K (⟨dd,op,W⟩::os) O):WO S K (⟨dd,op,W⟩::os) O:=bnd h g
theorem AAM{x:Option α}{f:FuncId}{ts:Fq}{R:α->At}{op:AE}{dd:Option Nat}(_:op.AbG=3)(h:x.bind k=Y r)(c:Ct P x f ts R)(g:∀a,AV P f ts (R a)->k a=Y r->WO (AV P) K (⟨dd,op,W⟩::os) O):WO (AV P) K (⟨dd,op,W⟩::os) O:=bnd h λa o=>g a (c.snd a o)
theorem uM{γ:Type}{k:List γ->Option β}{n s:Nat}{y:AF}{es o:Fq}{e:γ->TV}{l m:List γ}{f:List γ->TV}(h:(Al l m).bind k=Y r)(u:O.get s=.ow (.list n es))(w:y.val O=Y (.list n o))(he:es=l.map e)(hf:o=m.map e)(c:Fl e n f)
  (A:∀x,Al l m=Y x->k x=Y r->WO S K os ((d,.ow (f x))::(s,.tv (.list n es))::O)):WO S K (⟨Y d,.app n (.s s) y,W⟩::os) O:=by
 obtain ⟨x,p,h⟩:=bind_some h;have:=A x p h;rw[c.eq]at this;exact rK p u w he hf rfl this
section ints
variable{k:Int->Option β}{x y:AF}{ik:IntKind}{a b:Int}
theorem xa(h:(quo a b).bind k=Y r)(p:x.val O=Y (.int ik a))(u:y.val O=Y (.int ik b))(w:∀q,quo a b=Y q->k q=Y r->WO S K os ((d,.tv (.int ik (ik.wrap q)))::O)):WO S K (⟨Y d,.bin .i .quo x y,W⟩::os) O:=bnd h λq o h=>zf o p u (w q o h)
theorem xb(h:(Jn a b).bind k=Y r)(p:x.val O=Y (.int ik a))(u:y.val O=Y (.int ik b))(w:∀q,Jn a b=Y q->k q=Y r->WO S K os ((d,.tv (.int ik q))::O)):WO S K (⟨Y d,.bin .i .rem x y,W⟩::os) O:=bnd h λq o h=>zg o p u (w q o h)
theorem xL{op:BinOp}{o:IntKind}(h:(MN ik op a b).bind k=Y r)(u:x.val O=Y (.int ik a))(A:y.val O=Y (.int o b))(B:ik=o\/op=.shl\/op=.shr)(C:∀q,MN ik op a b=Y q->k q=Y r->WO S K os ((d,.tv (.int ik q))::O)):WO S K (⟨Y d,.bin .w op x y,W⟩::os) O:=bnd h λq p h=>zR p u A B (C q p h)
end ints
theorem uc{k:ByteArray->Option β}{x y:AF}{u v:ByteArray}(h:(VO u v).bind k=Y r)(p:x.val O=Y (.str u))(w:y.val O=Y (.str v))(A:∀q,VO u v=Y q->k q=Y r->WO S K os ((d,.tv (.str q))::O)):WO S K (⟨Y d,.bin .s .add x y,W⟩::os) O:=bnd h λq o h=>we o p w (A q o h)
theorem xU{k:Unit->Option β}{x:AF}{n:Nat}{es:Fq}{e:α->TV}{l:List α}(h:(Yk l).bind k=Y r)(o:x.val O=Y (.list n es))(he:es=l.map e)(p:∀u,k u=Y r->WO S K os ((d,.tv (.bool T))::O)):WO S K (⟨Y d,.isn x,W⟩::os) O:=by
 obtain ⟨u,A,h⟩:=bind_some h;refine rL o he λb w=>?_;obtain rfl:=lF A w;exact p u h
theorem qk{x:AF}{n:Nat}{e:α->TV}{a:α}(h:A7 O (x.ev O)=Y (e a).cells)(hn:x? (e a).cells.length n=X)(o:TV.agg (e a).cells=e a)(p:WO S K os ((d,.tv (e a))::O)):WO S K (⟨Y d,.lda x n,W⟩::os) O:=by
 have hn:=y_ hn;exact rM h (by rw[hn];exact y! n) (by rw[w! U,o]) p
theorem xV{s n:Nat}{cs:List AQ}{e:α->TV}{a:α}(h:O.get s=.bx cs)(o:cs.map (·.t)=(e a).cells)(hn:x? (e a).cells.length n=X)(p:TV.agg (e a).cells=e a)(u:WO S K os ((d,.tv (e a))::O)):WO S K (⟨Y d,.ldb s n,W⟩::os) O:=by
 have hn:=y_ hn;exact zW h (by rw[o,hn];exact y! n) (by rw[o,w! U,p]) u
variable{v:AF}
theorem ud{n s:Nat}{cs:List AQ}{t:TV}(o:O.get s=.bx cs)(hv:v.ev O=.tv t)(p:t.cells.length=n)(h:x? n cs.length=X)(u:WO S K os ((s,.bx (t.cells.map (⟨T,·⟩)))::O)):WO S K (⟨W,.stb n s v,W⟩::os) O:=by
 have h:=y_ h;refine zi o hv p (by rw[y?,h];exact y! _) ?_ u;rw[List.take_zero,y?,h,List.drop_length,List.append_nil,List.nil_append]
theorem uZ{x:AF}{n:Nat}{e:α->TV}{a:α}(h:A7 O (x.ev O)=Y (((e a).cells.map λt=>(⟨T,t⟩:AQ)).map (·.t)))(hn:x? (e a).cells.length n=X)(o:TV.agg (e a).cells=e a)(p:WO S K os ((d,.tv (e a))::O)):WO S K (⟨Y d,.lda x n,W⟩::os) O:=
 qk (by rw[h,v?];congr 1;exact w_ _) hn o p
def ib(n:Nat):Fq->Bool
 |[]=>X|t::ts=>x? t.cells.length n&&ib n ts
theorem bO{n:Nat}:∀{ts:Fq},ib n ts=X->∀t∈ts,t.cells.length=n
 |[],_,_,h=>d!
 |t::ts,h,u,o=>by
  simp only[ib,gN]at h;rcases w?.1 o with rfl|o
  .exact y_ h.1
  .exact bO h.2 u o
variable{parts:List AF}
theorem xX{n:Nat}{ts:Fq}(h:vals O parts=Y ts)(hn:ib n ts=X)(o:WO S K os ((d,.ow (.list n ts))::O)):WO S K (⟨Y d,.lst n parts,W⟩::os) O:=by
 have:=o.out;refine⟨?_⟩;simp only[wpOps,PR.wp,AE.wp,h,Ai];exact⟨bO hn,this⟩
variable{zero:Fq}
theorem uN{parts:List (Nat×Nat×AF)}{ts:List (Nat×Nat×TV)}{cs:Fq}{e:α->TV}{a:α}(h:(Y a).bind k=Y r)(_:En α e)(o:EX O parts=Y ts)(p:Eb zero ts=Y cs)(he:TV.agg cs=e a)(u:∀x,x=a->k x=Y r->WO S K os ((d,.tv (e x))::O)):WO S K (⟨Y d,.bld zero parts,W⟩::os) O:=by
 rw [Option.bind_some]at h;exact bC o p he (u a rfl h)
theorem xW{x:AF}{n:Nat}{cs:Fq}{e:α->TV}{a:α}(h:(Y a).bind k=Y r)(_:En α e)(o:A7 O (x.ev O)=Y cs)(hn:z_ n cs.length=X)(he:TV.agg (cs.take n)=e a)(p:∀x,x=a->k x=Y r->WO S K os ((d,.tv (e x))::O)):WO S K (⟨Y d,.lda x n,W⟩::os) O:=by
 rw [Option.bind_some]at h;exact rM o hn he (p a rfl h)
inductive Lm{α:Type}(e:α->TV):Fq->List α->Prop
 |nil:Lm e [] []
 |cons {t:TV} {ts:Fq} {a:α} {l:List α}:t=e a->Lm e ts l->Lm e (t::ts) (a::l)
theorem Lm.eq{e:α->TV}{ts:Fq}{l:List α}(h:Lm e ts l):ts=l.map e:=by
 induction h with
 |nil=>rfl|cons h _ o=>rw[h,o];rfl
theorem ua{n:Nat}{ts:Fq}{e:α->TV}{l:List α}(h:vals O parts=Y ts)(o:Lm e ts l)(hn:∀a,(e a).cells.length=n)(p:WO S K os ((d,.ow (.list n (l.map e)))::O)):WO S K (⟨Y d,.lst n parts,W⟩::os) O:=rN h o.eq hn p
theorem ub{n:Nat}{ts:Fq}{e:α->TV}{l:List α}{f:List α->TV}(h:vals O parts=Y ts)(p:Lm e ts l)(hn:∀a,(e a).cells.length=n)(c:Fl e n f)(o:WO S K os ((d,.ow (f l))::O)):WO S K (⟨Y d,.lst n parts,W⟩::os) O:=by
 rw [c.eq]at o;exact rN h p.eq hn o
theorem uI{e:α->TV}{n:I2}{x y:AF}{a:α}{cs:Fq}(o:x.val O=Y (e a))(p:y.val O=Y (.agg cs))[c:bH e][i:Decidable (a=c.un cs)](u:TV.agg (e a).cells=e a)(w:(e (c.un cs)).cells=cs)(hn:(e a).cells.map TV.kd=n)(A:WO S K os ((d,.tv (.bool (decide (a=c.un cs))))::O)):WO S K (⟨Y d,.bin (.a n) .eql x y,W⟩::os) O:=by
 obtain ⟨B,h⟩:=c.dec a (c.un cs);have:i=B:=Subsingleton.elim _ _;subst this;rw[<-u]at o;rw[w]at h;exact ma o p hn h A
theorem uK{e:α->TV}{n:I2}{x y:AF}{a:α}{cs:Fq}(o:x.val O=Y (e a))(p:y.val O=Y (.agg cs))[c:bH e][i:Decidable (a=c.un cs)](u:TV.agg (e a).cells=e a)(w:(e (c.un cs)).cells=cs)(hn:(e a).cells.map TV.kd=n)(A:WO S K os ((d,.tv (.bool (!decide (a=c.un cs))))::O)):WO S K (⟨Y d,.bin (.a n) .neq x y,W⟩::os) O:=by
 obtain ⟨B,h⟩:=c.dec a (c.un cs);have:i=B:=Subsingleton.elim _ _;subst this;rw[<-u]at o;rw[w]at h;exact mb o p hn h A
theorem uH{e:α->TV}{n:I2}{x y:AF}{a b:α}{i:Decidable (a=b)}(o:x.val O=Y (e a))(p:y.val O=Y (e b))(c:bH e)(u:TV.agg (e a).cells=e a)(w:TV.agg (e b).cells=e b)(hn:(e a).cells.map TV.kd=n)(A:WO S K os ((d,.tv (.bool (decide (a=b))))::O)):WO S K (⟨Y d,.bin (.a n) .eql x y,W⟩::os) O:=by
 obtain ⟨B,h⟩:=c.dec a b;have:i=B:=Subsingleton.elim _ _;subst this;rw[<-u]at o;rw[<-w]at p;exact ma o p hn h A
theorem uJ{e:α->TV}{n:I2}{x y:AF}{a b:α}{i:Decidable (a=b)}(o:x.val O=Y (e a))(p:y.val O=Y (e b))(c:bH e)(u:TV.agg (e a).cells=e a)(w:TV.agg (e b).cells=e b)(hn:(e a).cells.map TV.kd=n)(A:WO S K os ((d,.tv (.bool (!decide (a=b))))::O)):WO S K (⟨Y d,.bin (.a n) .neq x y,W⟩::os) O:=by
 obtain ⟨B,h⟩:=c.dec a b;have:i=B:=Subsingleton.elim _ _;subst this;rw[<-u]at o;rw[<-w]at p;exact mb o p hn h A
section calls
variable{x:Option α}{f:FuncId}{ts:Fq}{R:α->At}{args:List AF}
theorem xN{s:Nat}{cs:List AQ}{row:Fq}(o:O.get s=.bx cs)(f:Fz cs row)(k:WO S K os ((s,.tv (.pt row))::O)):WO S K (⟨W,.frz s,W⟩::os) O:=zT o f.h k
theorem rd{t:α->TV}(_:HS d)(h:x.bind k=Y r)(c:Ct P x f ts R)(p:vals O args=Y ts)(u:∀a,R a=.own (t a))(w:∀a,x=Y a->k a=Y r->WO (AV P) K os ((d,.tv (t a))::O)):WO (AV P) K (⟨Y d,.call f args,W⟩::os) O:=by
 obtain ⟨a,o,h⟩:=bind_some h;have:=c.snd a o;rw[u]at this;exact wZ p (vb this) (w a o h)
theorem rc{t:α->List AQ}(h:x.bind k=Y r)(c:Ct P x f ts R)(p:vals O args=Y ts)(u:∀a,R a=.vS (t a))(w:∀a,x=Y a->k a=Y r->WO (AV P) K os ((d,.tv (.agg ((t a).map λc=>c.rel.t)))::O)):WO (AV P) K (⟨Y d,.call f args,W⟩::os) O:=by
 obtain ⟨a,o,h⟩:=bind_some h;have:=c.snd a o;rw[u]at this;exact tX p this rfl (w a o h)
theorem nX{γ:Type}{k:List γ->Option β}{x:Option (List γ)}{R:List γ->At}{n:Nat}{e:γ->TV}(h:x.bind k=Y r)(c:Ct P x f ts R)(hn:O.ew d=X)(p:vals O args=Y ts)(u:∀a,R a=.own (.list n (a.map e)))(hf:∀a,(e a).flat=X)(w:∀a,x=Y a->k a=Y r->WO (AV P) K os ((d,.xo n (a.map e))::O)):WO (AV P) K (⟨Y d,.Aal f args,W⟩::os) O:=by
 obtain ⟨a,o,h⟩:=bind_some h;have:=c.snd a o;rw[u]at this;exact pQ hn p this rfl hf (w a o h)
theorem nW{γ:Type}{k:List γ->Option β}{x:Option (List γ)}{R:List γ->At}{n:Nat}{e:γ->TV}(h:x.bind k=Y r)(c:Ct P x f ts R)(p:up O args=Y ts)(u:∀a,R a=.own (.list n (a.map e)))(hf:∀a,(e a).flat=X)(w:∀a,x=Y a->k a=Y r->WO (AV P) K os ((d,.ow (.list n (a.map e)))::O)):WO (AV P) K (⟨Y d,.Aat f args,W⟩::os) O:=by
 obtain ⟨a,o,h⟩:=bind_some h;have:=c.snd a o;rw[u]at this;exact pM p this rfl rfl hf (w a o h)
variable{us:α->Fq}
theorem rb{i s:Nat}{cs:List AQ}{cs':α->List AQ}{e:α->EV}(h:x.bind k=Y r)(c:Ct P x f ts R)(p:(args[i]?).bind (·.place O)=Y (s,0))(u:O.get s=.bx cs)(hn:O.noX s W=X)(hd:d≠s)(w:FE O i args=Y ts)(A:∀a,R a=.bo cs (cs' a) i (us a))(he:∀a,EV.ofs (us a)=e a)(B:∀a,x=Y a->k a=Y r->WO (AV P) K os ((d,e a)::(s,.bx (cs' a))::O)):WO (AV P) K (⟨Y d,.wi f args i,W⟩::os) O:=by
 obtain ⟨a,o,h⟩:=bind_some h;have:=c.snd a o;rw[A]at this;exact tW p u hn hd w this (he a) (B a o h)
end calls
inductive GS(g:Nat)(b:Bool):I2->List PR->I2->Nat->Prop
 |done {acc:I2} {os:List PR}:GS g b acc os [] 0
 |step {acc js:I2} {d n:Nat} {op:AE} {os:List PR}:GS g b (d::acc) os js n->GS g b acc (⟨Y d,op,Y (g,b)⟩::os) (d::js) (n+1)
 |nest {acc js:I2} {d n g':Nat} {b':Bool} {op:AE} {os:List PR}:acc.contains g'=X->GS g b (d::acc) os js n->GS g b acc (⟨Y d,op,Y (g',b')⟩::os) (d::js) (n+1)
def uF:I2->AB->(AB->Prop)->Prop
 |[],z,K=>K z|k::ks,z,K=>∃j,uF ks ((k,j)::z) K
structure Gj(js:I2)(d:Nat)(v:TV)(z e:AB):Prop where
 of::out:uF js z λy=>e=(d,.tv v)::y
theorem kv{d:Nat}{v:TV}{z e:AB}(h:e=(d,.tv v)::z):Gj [] d v z e:=⟨h⟩
variable{ks:I2}
theorem sA{k d:Nat}{v:TV}{j:EV}{z e:AB}(h:Gj ks d v ((k,j)::z) e):Gj (k::ks) d v z e:=⟨j,h.out⟩
theorem uX{js:I2}{v:TV}{z:AB}(h:Gj js d v z O):WO S (Gj js d v z) [] O:=⟨h⟩
structure Y3(js:I2)(z:AB)(Q:AB->Prop):Prop where
 of::out:∀(d:Nat)(v:TV)(e:AB),Gj js d v z e->∃y,e=(d,.tv v)::y/\Q y
theorem sC{z:AB}{Q:AB->Prop}(h:Q z):Y3 [] z Q:=⟨λ_ _ _ he=>⟨z,he.out,h⟩⟩
theorem oJ{k:Nat}{z:AB}{Q:AB->Prop}(h:∀j,Y3 ks ((k,j)::z) Q):Y3 (k::ks) z Q:=⟨λd v e he=>by
 obtain ⟨j,o⟩:=he.out;exact(h j).out d v e ⟨o⟩⟩
theorem yk{dd:Option Nat}{op:AE}{g:Nat}{b q:Bool}(h:O.get g=.tv (.bool q))(o:bI g b q)(p:WO S K (⟨dd,op,W⟩::os) O):WO S K (⟨dd,op,Y (g,b)⟩::os) O:=AAo h o.out p
theorem xR{ρ:Type}{dd:Option Nat}{op:AE}{g:Nat}{q:Bool}{u v:Option ρ}{r:ρ}(w:O.get g=.tv (.bool q))(h:(if q=X then u else v)=Y r)
  (o:bI g X q->q=X->u=Y r->WO S K (⟨dd,op,Y (g,X)⟩::os) O)(p:WR g X q->q=T->v=Y r->WO S K (⟨dd,op,Y (g,X)⟩::os) O):WO S K (⟨dd,op,Y (g,X)⟩::os) O:=by
 cases q with
 |true=>exact o ⟨rfl⟩ rfl h|false=>exact p ⟨l?⟩ rfl h
theorem xQ{ρ:Type}{dd:Option Nat}{op:AE}{g:Nat}{q:Bool}{u v:Option ρ}{r:ρ}(w:O.get g=.tv (.bool q))(h:(if q=X then u else v)=Y r)
  (o:WR g T q->q=X->u=Y r->WO S K (⟨dd,op,Y (g,T)⟩::os) O)(p:bI g T q->q=T->v=Y r->WO S K (⟨dd,op,Y (g,T)⟩::os) O):WO S K (⟨dd,op,Y (g,T)⟩::os) O:=by
 cases q with
 |true=>exact o ⟨l?⟩ rfl h|false=>exact p ⟨rfl⟩ rfl h
theorem vE{op:AE}{g:Nat}{b q:Bool}(h:O.get g=.tv (.bool q))(o:WR g b q)(p:WO S K os ((d,.sk)::O)):WO S K (⟨Y d,op,Y (g,b)⟩::os) O:=yj h o.out p
theorem jE{d n:Nat}{js:I2}{v:TV}(h:WO S (Gj js d v O) (os.take n) O)(o:Y3 js O λe=>WO S K (os.drop n) ((d,.tv v)::e)):WO S K os O:=
 yi n (Gj js d v) h λe he=>by
  obtain ⟨y,rfl,p⟩:=o.out d v e he;exact p
section groups
variable{g n:Nat}{js:I2}{c:Bool}{dd gd:Option Nat}{op:AE}{x y z:AF}{gg:Option (Nat×Bool)}
variable{θ:I1}{os':List PR}
theorem xT{k:Bool->Option β}(h:(if c=X then θ else Y T).bind k=Y r)(_:GS g X [] os js n)(A:O.get g=.tv (.bool c))(_:os[n]?=Y ⟨Y d,.pick x y z,gg⟩)
  (p:∀v,bI g X c->c=X->θ=Y v->WO S (Gj js d (.bool v) O) (os.take (n+1)) O)(u:∀v,WR g X c->c=T->Y T=Y v->WO S (Gj js d (.bool v) O) (os.take (n+1)) O)
  (w:∀v,k v=Y r->Y3 js O λe=>WO S K (os.drop (n+1)) ((d,.tv (.bool v))::e))(ho:os=⟨dd,op,Y (g,X)⟩::os'):WO S K (⟨dd,op,Y (g,X)⟩::os') O:=by
 obtain ⟨v,hv,h⟩:=bind_some h;rw[<-ho];refine jE (n:=n+1) (v:=.bool v) ?_ (w v h);rcases Bool.eq_false_or_eq_true c with o|o
 .exact p v ⟨o⟩ o (Xj o hv)
 .exact u v ⟨by rw[o];rfl⟩ o (Xi o hv)
theorem xS{k:Bool->Option β}(h:(if c=X then Y X else θ).bind k=Y r)(_:GS g T [] os js n)(A:O.get g=.tv (.bool c))(_:os[n]?=Y ⟨Y d,.pick x y z,gg⟩)
  (p:∀v,bI g T c->c=T->θ=Y v->WO S (Gj js d (.bool v) O) (os.take (n+1)) O)(u:∀v,WR g T c->c=X->Y X=Y v->WO S (Gj js d (.bool v) O) (os.take (n+1)) O)
  (w:∀v,k v=Y r->Y3 js O λe=>WO S K (os.drop (n+1)) ((d,.tv (.bool v))::e))(ho:os=⟨dd,op,Y (g,T)⟩::os'):WO S K (⟨dd,op,Y (g,T)⟩::os') O:=by
 obtain ⟨v,hv,h⟩:=bind_some h;rw[<-ho];refine jE (n:=n+1) (v:=.bool v) ?_ (w v h);rcases Bool.eq_false_or_eq_true c with o|o
 .exact u v ⟨by rw[o];rfl⟩ o (Xj o hv)
 .exact p v ⟨o⟩ o (Xi o hv)
theorem xP{e:Bool}(ho:os=⟨dd,op,Y (g,X)⟩::os')(_:GS g X [] os js n)(u:O.get g=.tv (.bool c))(_:os[n]?=Y ⟨Y d,.pick x y z,gg⟩)
  (h:bI g X c->c=X->WO S (Gj js d (.bool e) O) (os.take (n+1)) O)(o:WR g X c->c=T->WO S (Gj js d (.bool T) O) (os.take (n+1)) O)
  (p:Y3 js O λz=>WO S K (os.drop (n+1)) ((d,.tv (.bool (c&&e)))::z)):WO S K (⟨dd,op,Y (g,X)⟩::os') O:=by
 rw [<-ho];refine jE (n:=n+1) (v:=.bool (c&&e)) ?_ p;cases c
 .exact o ⟨rfl⟩ rfl
 .exact h ⟨rfl⟩ rfl
theorem xO{e:Bool}(ho:os=⟨dd,op,Y (g,T)⟩::os')(_:GS g T [] os js n)(u:O.get g=.tv (.bool c))(_:os[n]?=Y ⟨Y d,.pick x y z,gg⟩)
  (h:bI g T c->c=T->WO S (Gj js d (.bool e) O) (os.take (n+1)) O)(o:WR g T c->c=X->WO S (Gj js d (.bool X) O) (os.take (n+1)) O)
  (p:Y3 js O λz=>WO S K (os.drop (n+1)) ((d,.tv (.bool (c||e)))::z)):WO S K (⟨dd,op,Y (g,T)⟩::os') O:=by
 rw [<-ho];refine jE (n:=n+1) (v:=.bool (c||e)) ?_ p;cases c
 .exact h ⟨rfl⟩ rfl
 .exact o ⟨rfl⟩ rfl
end groups
variable{qi:Option Nat}{j:Int}
theorem xh{x:AF}{q n i:Nat}{es row:Fq}{e:α->TV}{l:List α}{a:α}{t:TV}(h:x.ev O=.lp q qi (j.toNat*n+i))(o:O.ln q qi=Y (n,es))(he:es=l.map e)(p:∀a,(e a).cells.length=n)(u:idx l j=Y a)(hi:z! i n=X)(w:(e a).cells=row)(A:row[i]?=Y t)
  (B:WO S K os ((d,.tv t)::O)):WO S K (⟨Y d,.xld x,W⟩::os) O:=rR h o he p u rfl hi w A B
theorem uf{x:AF}{q n:Nat}{es row:Fq}{e:α->TV}{l:List α}{a:α}{t:TV}(h:x.ev O=.lp q qi (j.toNat*n))(o:O.ln q qi=Y (n,es))(he:es=l.map e)(p:∀a,(e a).cells.length=n)(u:idx l j=Y a)(hi:z! 0 n=X)(w:(e a).cells=row)(A:row[0]?=Y t)
  (B:WO S K os ((d,.tv t)::O)):WO S K (⟨Y d,.xld x,W⟩::os) O:=rR (i:=0) h o he p u rfl hi w A B
theorem xi{x:AF}{q n i:Nat}{es row:Fq}{e:α->TV}{l:List α}{a:α}{t:TV}(h:x.ev O=.lp q W (j.toNat*n+i))(o:O.get q=.xo n es)(he:es=l.map e)(p:∀a,(e a).cells.length=n)(u:idx l j=Y a)(hi:z! i n=X)(w:(e a).cells=row)(A:row[i]?=Y t)
  (B:WO S K os ((d,.tv t)::O)):WO S K (⟨Y d,.xln x,W⟩::os) O:=rU h o he p u rfl hi w A B
theorem ug{x:AF}{q n:Nat}{es row:Fq}{e:α->TV}{l:List α}{a:α}{t:TV}(h:x.ev O=.lp q W (j.toNat*n))(o:O.get q=.xo n es)(he:es=l.map e)(p:∀a,(e a).cells.length=n)(u:idx l j=Y a)(hi:z! 0 n=X)(w:(e a).cells=row)(A:row[0]?=Y t)
  (B:WO S K os ((d,.tv t)::O)):WO S K (⟨Y d,.xln x,W⟩::os) O:=rU (i:=0) h o he p u rfl hi w A B
variable{v:AF}
theorem ui{γ:Type}{s:Nat}{q n i:Nat}{env':AB}{es:Fq}{e:α->TV}{g:γ->TV}{l:List α}{a:α}{b:γ}{f:α->γ->α}(_:HX s f)(h:(AF.s s).ev O=.lp q qi (j.toNat*n+i))(p:O.ln q qi=Y (n,es))(hv:v.ev O=.tv (g b))(he:es=l.map e)(u:∀a,(e a).cells.length=n)(w:idx l j=Y a)(hi:z! i n=X)(A:(g b).cells=[g b])
  (B:(e (f a b)).cells=(e a).cells.set i (g b))(o:O.sc q qi n ((BM l j (f a b)).map e)=env')(C:WO S K os env'):WO S K (⟨W,.xst (.s s) v 1,W⟩::os) O:=rV h p hv he u w rfl hi A B rfl o C
theorem uh{x v:AF}{q n:Nat}{env':AB}{es:Fq}{e:α->TV}{l:List α}{a b:α}(h:x.ev O=.lp q qi (j.toNat*n))(p:O.ln q qi=Y (n,es))(hv:v.ev O=.tv (e b))(he:es=l.map e)(u:∀a,(e a).cells.length=n)(w:idx l j=Y a)(hi:z! 0 n=X)(A:(e b).cells=[e b])
  (B:(e b).cells=(e a).cells.set 0 (e b))(o:O.sc q qi n ((BM l j b).map e)=env')(C:WO S K os env'):WO S K (⟨W,.xst x v 1,W⟩::os) O:=rV (i:=0) h p hv he u w rfl hi A B rfl o C
end
end Go.Sf
namespace Go.Sf
section
variable{S:FuncId->Fq->At->Prop}{K:AB->Prop}{os:List PR}{O:AB}{d:Nat}
variable{j:Int}
theorem zc{α:Type}{x:AF}{s o:Nat}{es:Fq}{e:α->TV}{l:List α}{a:α}(h:x.ev O=.nh s o (.el j.toNat))(u:O.nat s o=Y es)(he:es=l.map e)(w:idx l j=Y a)(k:WO S K os ((d,.nh s o (.rw j.toNat))::O)):WO S K (⟨Y d,.nld x,W⟩::os) O:=by
 replace k:=k.out;refine⟨?_⟩;subst he;obtain⟨B,C,A⟩:=F2 w;have p:j.toNat<l.length:=(x_.1 A).1;simp only[wpOps,PR.wp,AE.wp,h,u,Ai];exact⟨m?,k⟩
variable{j2:Int}
theorem ze{α:Type}{x v:AF}{s o:Nat}{es:Fq}{env':AB}{e:List α->TV}{e2:α->TV}{l:List (List α)}{m:List α}{A b:α}{t:TV}(h:x.ev O=.nh s o (.rp j.toNat j2.toNat))(B:O.nat s o=Y es)(hv:v.ev O=.tv t)(he:es=l.map e)(w:∀m,e m=.list 1 (m.map e2))(C:idx l j=Y m)(D:idx m j2=Y A)(E:t=e2 b)(F:t.cells=[t])(G:t.flat=X)
  (p:O.Abv s o ((BM l j (BM m j2 b)).map e)=env')(k:WO S K os env'):WO S K (⟨W,.nst x v,W⟩::os) O:=by
 replace k:=k.out;refine⟨?_⟩;subst he p E;obtain⟨J,L,H⟩:=F2 C;obtain⟨m0,m1,I⟩:=F2 D;have u:j2.toNat<m.length:=(x_.1 I).1;simp only[wpOps,PR.wp,AE.wp,h,B,hv,Ai];refine⟨m.map e2,by rw[x!,H];simp[w],e_,F,G,?_⟩;have:(l.map e).set j.toNat (.list 1 ((m.map e2).set j2.toNat (e2 b)))=(BM l j (BM m j2 b)).map e:=by
  simp only[BM,List.map_set,w]
 rw [this];exact k
end
section
variable{P:Program}{K:AB->Prop}{os:List PR}{O:AB}{d:Nat}{α β γ ρ:Type}{f:FuncId}{args:List AF}{ts:Fq}{R:α->At}{x:Option α}{k:α->Option ρ}{r:ρ}
variable{j:Int}
theorem xY{x i:AF}{s o:Nat}{es:Fq}{e:α->TV}{l:List α}{ik:IntKind}{S:FuncId->Fq->At->Prop}(h:(idx l j).bind k=Y r)(u:x.ev O=.nh s o .hd)(w:O.nat s o=Y es)(hi:i.val O=Y (.int ik j))(he:es=l.map e)
  (A:∀a,idx l j=Y a->k a=Y r->WO S K os ((d,.nh s o (.el j.toNat))::O)):WO S K (⟨Y d,.nia x i,W⟩::os) O:=by
 obtain ⟨a,p,h⟩:=bind_some h;have B:=(A a p h).out;refine⟨?_⟩;subst he;obtain⟨D,F,E⟩:=F2 p;have C:j.toNat<l.length:=(x_.1 E).1;simp only[wpOps,PR.wp,AE.wp,u,w,hi,Ai];exact⟨D,by simp only[az];omega,B⟩
variable{e2:α->TV}{j2:Int}
theorem xZ{x i:AF}{s o:Nat}{es:Fq}{e:List α->TV}{l:List (List α)}{m:List α}{ik:IntKind}{S:FuncId->Fq->At->Prop}(h:(idx m j2).bind k=Y r)(u:x.ev O=.nh s o (.rw j.toNat))(w:O.nat s o=Y es)(hi:i.val O=Y (.int ik j2))(he:es=l.map e)(A:∀m,e m=.list 1 (m.map e2))(B:idx l j=Y m)
  (C:∀a,idx m j2=Y a->k a=Y r->WO S K os ((d,.nh s o (.rp j.toNat j2.toNat))::O)):WO S K (⟨Y d,.nia x i,W⟩::os) O:=by
 obtain ⟨b,p,h⟩:=bind_some h;have D:=(C b p h).out;refine⟨?_⟩;subst he;obtain⟨H,I,F⟩:=F2 B;obtain⟨m0,m1,G⟩:=F2 p;have E:j2.toNat<m.length:=(x_.1 G).1;simp only[wpOps,PR.wp,AE.wp,u,w,hi,Ai];exact⟨m0,m.map e2,by rw[x!,F];simp[A],by simp only[az];omega,D⟩
theorem uL{mm q s o:Nat}{es w:Fq}{cs cs':List AQ}{n:Nat}{e:β->TV}{l:List β}{m:β}{k:List β->Option ρ}{S:FuncId->Fq->At->Prop}(h:(Al l [m]).bind k=Y r)(A:O.get mm=.nh s o .hd)(B:O.get q=.x1 n w)(C:O.get s=.bx cs)(D:O.nat s o=Y es)(he:es=l.map e)(hf:TV.list n w=e m)(u:O.ew d=X)(hd:d≠mm/\d≠q/\mm≠q)(E:cs.set o ⟨T,.undef⟩=cs')
  (F:∀a,Al l [m]=Y a->k a=Y r->WO S K os ((d,.xn (a.map e))::(s,.bx cs')::(mm,.undef)::(q,.undef)::O)):WO S K (⟨Y d,.Aar mm q,W⟩::os) O:=by
 obtain ⟨a,p,h⟩:=bind_some h;have H:=(F a p h).out;refine⟨?_⟩;subst he E;unfold Al at p;split at p
 next G=>cases p;simp only[wpOps,PR.wp,AE.wp,A,B,C,D,Ai];refine⟨by simpa using G,⟨u,hd⟩,?_⟩;rw[hf];simpa[AB.put]using H
 .cases p
theorem nV{u:α->List β}{v:α->List γ}{w A:Nat}{p:β->TV}{e2:γ->TV}(h:x.bind k=Y r)(c:Ct P x f ts R)(E:vals O args=Y ts)(F:∀a,R a=.vS [⟨X,.list w ((u a).map p)⟩,⟨X,.list A ((v a).map e2)⟩])(G:∀a,(p a).flat=X)(H:∀a,(e2 a).flat=X)
  (I:∀a,x=Y a->k a=Y r->WO (AV P) K os ((d,.vS [⟨X,.xl w ((u a).map p)⟩,⟨X,.xl A ((v a).map e2)⟩])::O)):WO (AV P) K (⟨Y d,.Aae f args,W⟩::os) O:=by
 obtain ⟨a,D,h⟩:=bind_some h;have C:=c.snd a D;rw[F]at C;have J:=(I a D h).out;have o:∀{τ:Type}(e:τ->TV)(l:List τ),(∀a,(e a).flat=X)->TV.q0 (l.map e)=X:=by
  intro τ e l he
  induction l with
  |nil=>rfl|cons a l L=>simp[TV.q0,he,L]
 refine ⟨?_⟩;simp only[wpOps,PR.wp,AE.wp,E,Ai];refine⟨_,C,λc B=>?_,λ_=>J⟩;simp only[w?,List.not_mem_nil,or_false]at B;rcases B with rfl|rfl
 .exact⟨_,_,rfl,o _ _ G⟩
 .exact⟨_,_,rfl,o _ _ H⟩
inductive NL:List AQ->List AQ->Prop
 |nil {xs:List AQ}:xs=[]->NL xs []
 |cons {xs ys zs:List AQ} {o:Bool} {t:TV}:xs=⟨o,t⟩::ys->NL ys zs->NL xs (⟨o,t⟩::zs)
theorem NL.eq{xs o:List AQ}(h:NL xs o):xs=o:=by
 induction h with
 |nil h=>exact h|cons h _ p=>rw[h,p]
theorem xd{S:FuncId->Fq->At->Prop}{K:AB->Prop}{os:List PR}{O:AB}{n s h:Nat}{x v:AF}{cs cs':List AQ}{t:TV}(o:x.place O=Y (s,h))(p:O.get s=.bx cs)(hv:v.ev O=.tv t)(u:t.cells.length=n)(w:z_ (h+n) cs.length=X)(A:NL (cs.take h++t.cells.map (⟨T,·⟩)++cs.drop (h+n)) cs')
  (k:WO S K os ((s,.bx cs')::O)):WO S K (⟨W,.st n x v,W⟩::os) O:=AA0 o p hv u w A.eq k
theorem ue{S:FuncId->Fq->At->Prop}{K:AB->Prop}{os:List PR}{O:AB}{s h q:Nat}{x:AF}{cs cs':List AQ}{t:TV}(o:x.place O=Y (s,h))(p:O.get s=.bx cs)(hv:O.get q=.ow t)(u:q≠s)(w:z! h cs.length=X)(A:NL (cs.set h ⟨X,t⟩) cs')
  (k:WO S K os ((s,.bx cs')::(q,.tv t)::O)):WO S K (⟨W,.st 1 x (.s q),W⟩::os) O:=zj o p hv u w A.eq k
theorem ZR:∀(ts:List (Nat×Nat×TV))(done rest:Fq),Wu done.length ts=X->(Ia ts).length<=rest.length->Eb (done++rest) ts=Y (done++(Ia ts++rest.drop (Ia ts).length))
 |[],done,rest,_,h=>by simp[Eb,Ia]|(i,n,t)::r,done,rest,o,h=>by
  simp only[Wu,gN,Nat.beq_eq]at o;obtain⟨⟨rfl,hn⟩,w⟩:=o;simp only[Ia,a5]at h;have p:n<=rest.length:=U
  simp only[Eb];rw[QQ ⟨hn,l'⟩];have u:done++rest=done++(rest.take n++rest.drop n):=by rw[List.take_append_drop]
  rw [u,VD t.cells done (rest.take n) (rest.drop n) v_,<-bk];rw[ZR r (done++t.cells) (rest.drop n) (by rw[a5,hn];exact w) (by rw[List.length_drop];omega)];simp[Ia,List.drop_drop,hn]
inductive NT:Fq->Fq->Prop
 |nil {xs:Fq}:xs=[]->NT xs []
 |cons {xs ys zs:Fq} {t:TV}:xs=t::ys->NT ys zs->NT xs (t::zs)
theorem NT.eq{xs o:Fq}(h:NT xs o):xs=o:=by
 induction h with
 |nil h=>exact h|cons h _ p=>rw[h,p]
variable{zero:Fq}
theorem uO{S:FuncId->Fq->At->Prop}{K:AB->Prop}{os:List PR}{O:AB}{d:Nat}{parts:List (Nat×Nat×AF)}{ts:List (Nat×Nat×TV)}{cs:Fq}(h:EX O parts=Y ts)(o:Wu 0 ts=X)(p:z_ (Ia ts).length zero.length=X)(u:NT (Ia ts++zero.drop (Ia ts).length) cs)(k:WO S K os ((d,.tv (.agg cs))::O)):WO S K (⟨Y d,.bld zero parts,W⟩::os) O:=
 bC h (by have:=ZR ts [] zero o (Nat.le_of_ble_eq_true p);simpa using this) (by rw[u.eq]) k
structure HY{α A B C:Type}(n:Nat)(f:A->B->C->α)(g1:A->TV)(g2:B->TV)(g3:C->TV):Prop where
variable{v:AF}{qi:Option Nat}
theorem uj{S:FuncId->Fq->At->Prop}{K:AB->Prop}{os:List PR}{O:AB}{α A B C:Type}{f:A->B->C->α}{o:Nat}{q n:Nat}{env':AB}{es cs cs':Fq}{e:α->TV}{l:List α}{a:α}{E:A}{F:B}{G:C}{p:A->TV}{u:B->TV}{w:C->TV}(_:HY o f p u w)(h:(AF.s o).ev O=.lp q qi (j.toNat*n))(H:O.ln q qi=Y (n,es))(he:es=l.map e)(I:∀a,(e a).cells.length=n)(hv:v.ev O=.tv (.agg cs))(J:NT cs cs')(L:cs'=[p E,u F,w G])(hf:∀a b c,TV.agg [p a,u b,w c]=e (f a b c))(N:idx l j=Y a)(hn:z! 0 n=X)
  (D:O.sc q qi n ((BM l j (f E F G)).map e)=env')(k:WO S K os env'):WO S K (⟨W,.xst (.s o) v n,W⟩::os) O:=rW h H (by rw[hv,J.eq,L,hf]) he I N hn D k
theorem xj{S:FuncId->Fq->At->Prop}{α:Type}{x v:AF}{q n:Nat}{env':AB}{es:Fq}{e:α->TV}{l:List α}{a b:α}(h:x.ev O=.lp q qi (j.toNat*n))(p:O.ln q qi=Y (n,es))(he:es=l.map e)(u:∀a,(e a).cells.length=n)(hv:v.ev O=.tv (e b))(w:idx l j=Y a)(hn:z! 0 n=X)
  (o:O.sc q qi n ((BM l j b).map e)=env')(k:WO S K os env'):WO S K (⟨W,.xst x v n,W⟩::os) O:=rW h p hv he u w hn o k
end
section
variable{S:FuncId->Fq->At->Prop}{K:AB->Prop}{os:List PR}{O:AB}{d:Nat}
theorem za(k:∀b,WO S K os ((d,.mx (.mp b []))::O)):WO S K (⟨Y d,.mkm,W⟩::os) O:=
 ⟨λb=>(k b).out⟩
theorem zb{s:Nat}{last:Option ((Int×Int)×Int)}{o:BZ}(h:O.get s=.mx (.mi last o))(hd:d≠s)(w:o=[]->WO S K os ((d,.tp [.bool T])::O))(A:∀p u,o.Perm (p::u)->WO S K os ((d,.tp [.bool X,SK p.1,.int .i64 p.2])::(s,.mx (.mi (Y p) u))::O)):WO S K (⟨Y d,.mnx s,W⟩::os) O:=by
 refine ⟨?_⟩;simp only[wpOps,PR.wp,AE.wp,h];exact⟨hd,λe=>(w e).out,λp t B=>(A p t B).out⟩
variable{kvs:BZ}
theorem pP{f:FuncId}{args:List AF}{ts us:Fq}(hv:vals O args=Y ts)(h:S f ts (.mpr kvs us))(k:∀b,WO S K os ((d,.mx (.tm b kvs us))::O)):WO S K (⟨Y d,.Aan f args,W⟩::os) O:=by
 refine ⟨?_⟩;simp only[wpOps,PR.wp,AE.wp,hv,Ai];exact .inr ⟨kvs,us,h,λ_ b=>(k b).out⟩
theorem pO{f:FuncId}{args:List AF}{ts us:Fq}(hv:vals O args=Y ts)(h:S f ts (.tp us))(k:WO S K os ((d,.tp us)::O)):WO S K (⟨Y d,.Aan f args,W⟩::os) O:=by
 refine ⟨?_⟩;simp only[wpOps,PR.wp,AE.wp,hv,Ai];exact .inl ⟨us,h,λ_=>k.out⟩
theorem Ky{ss:I2}{s:Nat}{r:AB}{m:MX}(h:O.get s=.mx m)(k:Kp O ss r):Kp O (s::ss) ((s,.mx m)::r):=Nr h k
theorem y9{ss:I2}{s:Nat}{r:AB}{q:List (Nat×EV)}{m:MX}(h:look q s=W)(o:O.get s=.mx m)(k:Nm O q ss r):Nm O q (s::ss) ((s,.mx m)::r):=Qa h o k
end
def Nt(r:BZ×Int):At:=if r.2=0 then .mpr r.1 [.int .i64 r.2]else .tp [.undef,.int .i64 r.2]
structure zw(o:Nat):Prop where
variable{kvs:BZ}
theorem sS{h:List RV}{O:AB}{e:Int}(he:(!decide (e=0))=X)(o:h.length≠1)(p:EH O h=Y [.undef,.int .i64 e]):BU h (Nt (kvs,e)) O:=by
 simp only[Bool.not_eq_true',decide_eq_false_iff_not]at he;simp only[Nt,aE he];exact⟨o,p⟩
theorem sT{s o b:Nat}{rs:List RV}{O:AB}(_:zw o)(h:O.get s=.tv (.Aau b))(p:O.get o=.mx (.mp b kvs))(u:rs≠[])(w:EH O rs=Y [.int .i64 0]):BU (.tmp s::rs) (Nt (kvs,0)) O:=by
 simp only[Nt,if_true,BU];exact⟨u,⟨b,o,h,p⟩,w⟩
section
variable{P:Program}{α β:Type}{K:AB->Prop}{os:List PR}{O:AB}{d:Nat}{x:Option α}{k:α->Option β}{r:β}{f:FuncId}{args:List AF}{ts:Fq}{R:α->At}
variable{us:α->Fq}
theorem nU{i s:Nat}{cs:List AQ}{q:α->Bool}{u v:α->List AQ}{e:α->EV}(h:x.bind k=Y r)(c:Ct P x f ts R)(A:(args[i]?).bind (·.place O)=Y (s,0))(B:O.get s=.bx cs)(hn:O.noX s W=X)(hd:d≠s)(C:FE O i args=Y ts)(D:∀a,R a=.bo cs (if q a=X then u a else v a) i (us a))(he:∀a,EV.ofs (us a)=e a)
  (E:∀a,x=Y a->q a=X->k a=Y r->WO (AV P) K os ((d,e a)::(s,.bx (u a))::O))(F:∀a,x=Y a->q a=T->k a=Y r->WO (AV P) K os ((d,e a)::(s,.bx (v a))::O)):WO (AV P) K (⟨Y d,.wi f args i,W⟩::os) O:=by
 refine rb h c A B hn hd C D he (λa o p=>?_);cases w:q a with
 |true=>rw[QQ rfl];exact E a o w p|false=>rw[aE V];exact F a o w p
end
section
variable{S:FuncId->Fq->At->Prop}{a b:PC}{O:AB}
variable{Q:Q}
theorem uQ{c:AF}{β:Type}{q:Bool}{u v:Option β}{r:β}(p:c.val O=Y (.bool q))(h:(if q=X then u else v)=Y r)(o:q=X)(k:u=Y r->WP S a Q O):WP S (.cond c a b) Q O:=
 SU p o (k (Xj o h))
theorem uP{c:AF}{β:Type}{q:Bool}{u v:Option β}{r:β}(p:c.val O=Y (.bool q))(h:(if q=X then u else v)=Y r)(o:q=T)(k:v=Y r->WP S b Q O):WP S (.cond c a b) Q O:=
 ST p o (k (Xi o h))
end
end Go.Sf
set_option maxRecDepth 100000
namespace Go.Sf
theorem NJ{P:Prop}(p:P:=by first|exact rfl|exact Ml.eq):P:=p
theorem qn{P:Prop}(p:P:=by
 first|exact AAH rfl NJ|exact AAG rfl|exact xr rfl rfl NJ|exact xm rfl rfl|exact AAJ rfl|exact AAI rfl NJ|exact AAL rfl rfl|exact AAK|exact AAF a_):P:=p
theorem qx{P:Prop}(p:P:=by
 repeat (first|apply GS.step|(apply GS.nest;exact rfl))
 exact GS.done):P:=p
theorem nlq{P:Prop}(p:P:=by
 repeat (apply NL.cons;exact rfl)
 exact NL.nil rfl):P:=p
theorem ntq{P:Prop}(p:P:=by
 repeat (apply NT.cons;exact rfl)
 exact NT.nil rfl):P:=p
theorem lnq{P:Prop}(p:P:=by
 repeat (first|exact vV|(apply sP (λ_=>rfl)))):P:=p
theorem lmq{P:Prop}(p:P:=by
 repeat (apply Lm.cons;exact rfl)
 exact Lm.nil):P:=p
theorem gnq{P:Prop}(p:P:=by
 intro _ k
 repeat' (first|exact k|exact rfl|exact Nat.le_of_ble_eq_true rfl|exact Nat.ne_of_beq_eq_false rfl|decide|apply And.intro)):P:=p
theorem au{P:Prop}(p:P:=by
 repeat' (first
  |(show WO _ _ _ _;first
    |apply Nb
    |(apply st 1;exact rfl;first|exact λ_ k=>k|exact λ_ k=>⟨rfl,k⟩)
    |(apply yk;exact rfl;assumption)
    |(apply vE;exact rfl;assumption)
    |(apply zX;exact rfl;exact NJ)
    |(apply tZ;exact rfl;assumption;exact rfl)
    |(apply tY;exact rfl;assumption;exact rfl)
    |(apply rd;assumption;exact h;infer_instance;exact rfl;exact λ_=>rfl;intro x o h)|(apply nU;exact h;infer_instance;exact rfl;exact rfl;exact rfl;decide;exact rfl;exact λ_=>rfl;exact λ_=>rfl;intro x o B h;rotate_left;intro x o B h;rotate_left)|(apply AAM;exact rfl;exact h;infer_instance;intro x c h;apply st 3;exact rfl;first|exact λ_ k=>⟨_,⟨c,rfl⟩,λ_=>k⟩|exact λ_ k=>⟨_,⟨c,.inl rfl⟩,λ_=>k⟩|exact λ_ k=>⟨_,⟨c,.inr rfl⟩,λ_=>k⟩|exact λ_ k=>⟨_,⟨c,.inr lnq⟩,λ_=>k⟩|exact λ_ k=>⟨_,c,λ_=>k⟩|exact λ_ k=>⟨_,c,k⟩|exact λ_ k=>⟨rfl,_,_,.inl c,λ_=>k⟩|exact λ_ k=>⟨⟨rfl,Nat.ne_of_beq_eq_false rfl⟩,_,_,c,λ_=>k⟩|exact λ_ k=>⟨Nat.ne_of_beq_eq_false rfl,_,c,λ_=>k⟩|exact λ_ k=>⟨rfl,_,_,_,rfl,c,λ_=>k⟩|exact λ_ k=>⟨⟨Nat.ne_of_beq_eq_false rfl,rfl⟩,rfl,rfl,_,_,rfl,c,λ_=>k⟩)
    |(apply uM;exact h;exact rfl;exact rfl;exact NJ;exact NJ;infer_instance;intro x o h)
    |(apply AAN;exact rfl;exact h;intro x o h;first|(apply zU o;exact rfl;exact rfl;exact NJ;exact rfl)|(apply rK o;exact rfl;exact rfl;exact NJ;exact NJ;exact rfl)|(apply zh o;exact rfl;exact NJ;exact rfl;exact rfl)|(apply wg o;exact rfl;exact rfl)|(apply wj o;exact rfl;exact rfl;exact rfl)|(apply zk o;exact rfl;exact rfl;exact NJ;exact rfl)|(apply wW o;exact rfl;exact rfl;exact NJ;exact NJ;exact rfl;exact rfl;decide)|(apply wX o;exact rfl;exact rfl;exact rfl;exact rfl;exact rfl;exact rfl;decide;exact rfl;exact rfl)|(apply zS o;exact rfl;exact rfl;exact rfl;exact rfl;exact rfl;decide)|(apply wc o;exact rfl;exact rfl;exact rfl)|(apply zl o;exact rfl;exact rfl;exact rfl;exact rfl)|(apply rQ o;exact rfl;exact rfl;exact rfl;exact rfl)|(apply wb o;exact rfl;exact rfl;exact rfl)|(apply rP o;exact rfl;exact rfl;exact rfl;exact rfl))
    |(apply wk;exact rfl;exact NJ)
    |(apply uN;(with_reducible exact h);infer_instance;exact rfl;exact rfl;exact rfl;intro x o h)
    |(apply wY;exact rfl;exact rfl;exact rfl;exact rfl)
    |(apply uO;exact rfl;exact rfl;exact rfl;exact ntq)
    |(apply bC;exact rfl;exact rfl;exact rfl)
    |(apply xW;(with_reducible exact h);infer_instance;exact rfl;exact rfl;exact rfl;intro x o h)
    |(apply qk;exact rfl;exact rfl;exact rfl)
    |(apply xV;exact rfl;exact rfl;exact rfl;exact rfl)
    |(apply uZ;exact rfl;exact rfl;exact rfl)
    |(apply ud;exact rfl;exact rfl;exact rfl;exact rfl)
    |(apply xd;exact rfl;exact rfl;exact rfl;exact rfl;exact rfl;exact nlq)
    |(apply ue;exact rfl;exact rfl;exact rfl;decide;exact rfl;exact nlq)
    |(apply zY;exact rfl;exact rfl)
    |(apply zZ;exact rfl;exact rfl)
    |(apply st 2;exact rfl;exact gnq)
    |(apply sn;exact rfl;exact gnq)
    |(apply AAp;exact rfl)
    |(apply zV;exact rfl)
    |(apply rc;exact h;infer_instance;exact rfl;exact λ_=>rfl;intro x o h)
    |(apply xa;exact h;exact rfl;exact rfl;intro x o h)
    |(apply xb;exact h;exact rfl;exact rfl;intro x o h)
    |(apply xL;exact h;exact rfl;exact rfl;decide;intro x o h)
    |(apply uc;exact h;exact rfl;exact rfl;intro x o h)
    |(apply uH;exact rfl;exact rfl;infer_instance;exact rfl;exact rfl;exact rfl)
    |(apply uJ;exact rfl;exact rfl;infer_instance;exact rfl;exact rfl;exact rfl)
    |refine uI rfl rfl rfl rfl rfl ?_
    |refine uK rfl rfl rfl rfl rfl ?_
    |(apply xR;exact rfl;(with_reducible exact h);intro A B h;rotate_left;intro A B h;rotate_left)
    |(apply xQ;exact rfl;(with_reducible exact h);intro A B h;rotate_left;intro A B h;rotate_left)
    |(apply xT h (ho:=rfl);exact qx;exact rfl;exact rfl;intro v A B h;rotate_left;intro v A B h;rotate_left;intro v h;rotate_left)
    |(apply xS h (ho:=rfl);exact qx;exact rfl;exact rfl;intro v A B h;rotate_left;intro v A B h;rotate_left;intro v h;rotate_left)
    |(apply xP rfl;exact qx;exact rfl;exact rfl;intro A B;rotate_left;intro A B;rotate_left 3)
    |(apply xO rfl;exact qx;exact rfl;exact rfl;intro A B;rotate_left;intro A B;rotate_left 3)
    |apply uX
    |(apply ub;exact rfl;exact lmq;exact λ_=>rfl;infer_instance)|(apply ua;exact rfl;exact lmq;exact λ_=>rfl)
    |(apply xX;exact rfl;exact rfl)
    |(apply xN;exact rfl;infer_instance)
    |(apply uf;exact rfl;exact rfl;exact rfl;exact λ_=>rfl;assumption;exact rfl;exact rfl;exact rfl)|(apply ug;exact rfl;exact rfl;exact rfl;exact λ_=>rfl;assumption;exact rfl;exact rfl;exact rfl)|(apply xi;exact rfl;exact rfl;exact rfl;exact λ_=>rfl;assumption;exact rfl;exact rfl;exact rfl)|(apply xh;exact rfl;exact rfl;exact rfl;exact λ_=>rfl;assumption;exact rfl;exact rfl;exact rfl)|(apply ui;assumption;exact rfl;exact rfl;exact rfl;exact rfl;exact λ_=>rfl;assumption;exact rfl;exact rfl;exact rfl;exact rfl)|(apply uh;exact rfl;exact rfl;exact rfl;exact rfl;exact λ_=>rfl;assumption;exact rfl;exact rfl;exact rfl;exact rfl)|(apply uj;assumption;exact rfl;exact rfl;exact rfl;exact λ_=>rfl;exact rfl;exact ntq;exact rfl;exact λ_ _ _=>rfl;assumption;exact rfl;exact rfl)|(apply xj;exact rfl;exact rfl;exact rfl;exact λ_=>rfl;exact rfl;assumption;exact rfl;exact rfl)|(apply nX;exact h;infer_instance;exact rfl;exact rfl;exact λ_=>rfl;exact λ_=>rfl;intro x o h)|(apply nW;exact h;infer_instance;exact rfl;exact λ_=>rfl;exact λ_=>rfl;intro x o h)
    |(apply xU;exact h;exact rfl;exact NJ;intro u h)
    |(apply rL;exact rfl;exact rfl;intro z D;replace h:=rr h z D)
    |(apply wa;exact rfl)
    |(apply xY;exact h;exact rfl;exact rfl;exact rfl;exact NJ;intro x o h)
    |(apply zc;exact rfl;exact rfl;exact NJ;assumption)
    |(apply xZ;exact h;exact rfl;exact rfl;exact rfl;exact NJ;exact λ_=>rfl;assumption;intro x o h)|(apply ze;exact rfl;exact rfl;exact rfl;exact NJ;exact λ_=>rfl;assumption;assumption;exact rfl;exact rfl;exact rfl;exact rfl)
    |(apply uL;exact h;exact rfl;exact rfl;exact rfl;exact rfl;exact NJ;exact rfl;exact rfl;decide;exact rfl;intro x o h)
    |(apply nV;exact h;infer_instance;exact rfl;exact λ_=>rfl;exact λ_=>rfl;exact λ_=>rfl;intro x o h)
    |(apply za;intro b;have K:=K b))
  |(show WP _ _ _ _;first
    |with_reducible apply xM
    |apply Kt
    |apply QM
    |(apply uS;exact rfl)
    |(apply xc;exact rfl;exact rfl)
    |apply bL
    |apply iZ
    |apply kM
    |(apply SU;exact rfl;with_reducible rfl)
    |(apply ST;exact rfl;with_reducible rfl)
    |(apply uY;exact rfl;exact h;assumption;exact rfl;intro w B h;rotate_left;intro w B h;rotate_left;intro w h;rotate_left)
    |(apply uQ;exact rfl;exact h;assumption;intro h)
    |(apply uP;exact rfl;exact h;assumption;intro h)
    |(apply uR;exact rfl;exact h;intro B h;rotate_left;intro B h;rotate_left)
    |(apply SU;exact rfl;apply dlt;assumption)
    |(apply ST;exact rfl;apply AAn;assumption)
    |(apply uT;(first|assumption|(apply HB.a;assumption));exact h;exact C;exact qn;exact rfl;exact rfl;exact λ_ _=>rfl;intro i s r hi h C;rotate_left;intro i s hi;clear h;rotate_left;intro s h;rotate_left)
    |(apply uW;(first|assumption|(apply HB.a;assumption));assumption;exact rfl;exact h;exact C;exact qn;exact rfl;exact rfl;exact λ_ _=>rfl;intro i s r hi h C;rotate_left;intro i s hi;clear h;rotate_left;intro s h;rotate_left)
    |(apply uV;(first|assumption|(apply HB.a;assumption));exact h;exact C;exact qn;exact rfl;exact rfl;exact λ_ _=>rfl;intro i s r hi h C;rotate_left;intro i s hi;clear h;rotate_left;intro s h;rotate_left)
    |(apply uU;(first|assumption|(apply HB.a;assumption));exact h;exact C;exact qn;exact rfl;exact rfl;exact λ_ _=>rfl;intro i s r hi h C;rotate_left;intro i s hi;clear h;rotate_left;intro s h;rotate_left)
    |(apply xg;assumption;assumption;exact rfl;exact h;exact rfl;exact rfl;intro s r h C;rotate_left;intro s h;rotate_left)
    |(apply xf;assumption;exact h;exact rfl;exact rfl;intro s r h C;rotate_left;intro s h;rotate_left)
    |(apply xe;assumption;exact h;exact rfl;exact rfl;intro s r h C;rotate_left;intro s h;rotate_left)
    |apply fE
    |cases h)
  |(show Kp _ _ _;first
    |exact Ic
    |(apply K0;exact rfl)
    |(apply yt;exact rfl)
    |(apply Kx;exact rfl)
    |(apply yv;exact rfl)
    |(apply yp;exact rfl)
    |(apply Kz;exact rfl)
    |(apply K3;exact rfl)
    |(apply yq;exact rfl)
    |(apply yu;exact rfl)
    |(apply vU;exact rfl)
    |(apply Ky;exact rfl))
  |(show Nm _ _ _ _;first
    |exact vZ
    |(apply vY;exact rfl)
    |(apply zC;exact rfl;exact rfl)
    |(apply zA;exact rfl;exact rfl)
    |(apply y7;exact rfl;exact rfl)
    |(apply zE;exact rfl;exact rfl)
    |(apply y6;exact rfl;exact rfl)
    |(apply zB;exact rfl;exact rfl)
    |(apply zD;exact rfl;exact rfl)
    |(apply y8;exact rfl;exact rfl)
    |(apply y9;exact rfl;exact rfl))
  |apply sC
  |(apply oJ;intro j)
  |apply sA
  |exact kv rfl
  |(cases h;exact kv rfl)
  |apply bj
  |(apply rz;decide)
  |intro C
  |(cases h;first|exact rfl|exact⟨rfl⟩|exact⟨rfl,rfl⟩|exact⟨_,rfl,rfl⟩|exact⟨_,rfl,⟨rfl⟩⟩|exact⟨rfl,_,rfl,⟨rfl⟩⟩|exact⟨a_,rfl⟩|exact⟨_,rfl,a_,rfl⟩|exact⟨_,rfl,rfl,rfl⟩|exact sT (by assumption) rfl rfl a_ rfl|exact⟨_,rfl,sS (by first|assumption|decide) a_ rfl⟩)
  |exact⟨rfl,⟨rfl⟩⟩)):P:=p
end Go.Sf
