/- Contracts that are found by themselves: rules that take the typed text along, and the script that applies them. -/
import Derived.Test.YtbmgmpeimdomoaaGreatSfLib
set_option linter.all false
open Option renaming some->Y,none->W
open Bool renaming true->X,false->T
open List renaming map_map->w_,map_id->w!,take_of_length_le->w?,mem_cons->x_,getElem?_eq_some_iff->x!,getElem?_map->x?
open Nat renaming beq->y_,eq_of_beq_eq_true->y!,ble_self_eq_true->y?,zero_add->z_,ble->z!,blt->z?
namespace Go.Sf
class Ct(P:Program){α:Type}(x:Option α)(f:outParam FuncId)(ts:outParam Fq)(R:outParam (α->As)):Prop where
 snd:∀r,x=Y r->AT P f ts (R r)
class Ml(es:Fq){α:outParam Type}(e:outParam (α->TV))(l:outParam (List α)):Prop where
 eq:es=l.map e
class lh{α:Type}(e:α->TV)where
 un:Fq->α
 dec:∀a b,∃i:Decidable (a=b),CO (e a).cells (e b).cells=Y (@decide (a=b) i)
class Fz(cs:List AO)(row:outParam Fq):Prop where
 h:cs.map (·.t)=row
instance(priority:=high){l:Fq}:Fz (l.map λx=>(⟨T,x⟩:AO)) l:=⟨by rw[w_];exact w! _⟩
instance(priority:=low){cs:List AO}:Fz cs (cs.map (·.t)):=⟨rfl⟩
class En(α:Type)(e:outParam (α->TV)):Prop where
class Fl{α:Type}(e:α->TV)(n:outParam Nat)(f:outParam (List α->TV)):Prop where
 eq:∀l,f l=.list n (l.map e)
structure Kp(ε:AB)(l:I2)(r:AB):Prop where
 of::out:ε.ek l=r
def look:List (Nat×EV)->Nat->Option EV
 |[],_=>W|(k,e)::r,n=>if k=n then Y e else look r n
def pr(ε:AB)(m:List (Nat×EV)):I2->AB
 |[]=>[]|s::ss=>(s,(look m s).getD (ε.get s))::pr ε m ss
structure Nm(ε:AB)(m:List (Nat×EV))(l:I2)(r:AB):Prop where
 of::out:pr ε m l=r
structure Rn(a b:AB):Prop where
 of::out:a=b
structure HJ{σ:Type}(n:Nat)(M:σ->List (Nat×EV)):Prop where
structure HA{σ:Type}(n GH q i:Nat)(M:Int->σ->List (Nat×EV)):Prop where
structure HB{σ:Type}(n GH q i:Nat)(M:Int->σ->List (Nat×EV)):Prop where
theorem HB.a{σ:Type}{n GH q i:Nat}{M:Int->σ->List (Nat×EV)}(_:HB n GH q i M):HA n GH q i M:=⟨⟩
structure HW{σ:Type}(n:Nat)(M:σ->List (Nat×EV)):Prop where
structure HR{β:Type}(R:β->AB->Prop):Prop where
structure HS(n:Nat):Prop where
structure HX{α γ:Type}(n:Nat)(f:α->γ->α):Prop where
structure cd(g:Nat)(b q:Bool):Prop where
 of::out:q=b
structure Xa(g:Nat)(b q:Bool):Prop where
 of::out:q=!b
def KR(n:AB->Prop)(l:I2):AB->Prop:=λe=>n (e.ek l)
section
variable{ε:AB}{s:Nat}{ss:I2}{r:AB}{m:List (Nat×EV)}
theorem JR:Kp ε [] []:=⟨rfl⟩
theorem Og{e:EV}(h:ε.get s=e)(k:Kp ε ss r):Kp ε (s::ss) ((s,e)::r):=⟨by rw[<-k.out,<-h];rfl⟩
theorem Lg{t:TV}(h:ε.get s=.tv t)(k:Kp ε ss r):Kp ε (s::ss) ((s,.tv t)::r):=Og h k
theorem zr{t:TV}(h:ε.get s=.ow t)(k:Kp ε ss r):Kp ε (s::ss) ((s,.ow t)::r):=Og h k
theorem Lc{t:List AO}(h:ε.get s=.bx t)(k:Kp ε ss r):Kp ε (s::ss) ((s,.bx t)::r):=Og h k
theorem zp{q o:Nat}(h:ε.get s=.bp q o)(k:Kp ε ss r):Kp ε (s::ss) ((s,.bp q o)::r):=Og h k
theorem Lf{t:Fq}(h:ε.get s=.tp t)(k:Kp ε ss r):Kp ε (s::ss) ((s,.tp t)::r):=Og h k
theorem Lh(h:ε.get s=.undef)(k:Kp ε ss r):Kp ε (s::ss) ((s,.undef)::r):=Og h k
theorem zv{n:Nat}{t:Fq}(h:ε.get s=.xo n t)(k:Kp ε ss r):Kp ε (s::ss) ((s,.xo n t)::r):=Og h k
theorem zq{q:Nat}{i:Option Nat}(h:ε.get s=.la q i)(k:Kp ε ss r):Kp ε (s::ss) ((s,.la q i)::r):=Og h k
theorem zu(h:ε.get s=.sk)(k:Kp ε ss r):Kp ε (s::ss) ((s,.sk)::r):=Og h k
theorem wP{t:List AO}(h:ε.get s=.oag t)(k:Kp ε ss r):Kp ε (s::ss) ((s,.oag t)::r):=Og h k
theorem wV:Nm ε m [] []:=⟨rfl⟩
theorem wU{e:EV}(h:look m s=Y e)(k:Nm ε m ss r):Nm ε m (s::ss) ((s,e)::r):=⟨by rw[<-k.out];simp only[pr,h,Option.getD_some]⟩
theorem Qx{e:EV}(h:look m s=W)(o:ε.get s=e)(k:Nm ε m ss r):Nm ε m (s::ss) ((s,e)::r):=⟨by rw[<-k.out];simp only[pr,h,o,Option.getD_none]⟩
theorem AAH{t:TV}(h:look m s=W)(o:ε.get s=.tv t)(k:Nm ε m ss r):Nm ε m (s::ss) ((s,.tv t)::r):=Qx h o k
theorem AAF{t:TV}(h:look m s=W)(o:ε.get s=.ow t)(k:Nm ε m ss r):Nm ε m (s::ss) ((s,.ow t)::r):=Qx h o k
theorem AAC{t:List AO}(h:look m s=W)(o:ε.get s=.bx t)(k:Nm ε m ss r):Nm ε m (s::ss) ((s,.bx t)::r):=Qx h o k
theorem AAB{q o:Nat}(h:look m s=W)(p:ε.get s=.bp q o)(k:Nm ε m ss r):Nm ε m (s::ss) ((s,.bp q o)::r):=Qx h p k
theorem AAG{t:Fq}(h:look m s=W)(o:ε.get s=.tp t)(k:Nm ε m ss r):Nm ε m (s::ss) ((s,.tp t)::r):=Qx h o k
theorem AAI(h:look m s=W)(o:ε.get s=.undef)(k:Nm ε m ss r):Nm ε m (s::ss) ((s,.undef)::r):=Qx h o k
theorem AAJ{n:Nat}{t:Fq}(h:look m s=W)(o:ε.get s=.xo n t)(k:Nm ε m ss r):Nm ε m (s::ss) ((s,.xo n t)::r):=Qx h o k
theorem AAD{q:Nat}{i:Option Nat}(h:look m s=W)(o:ε.get s=.la q i)(k:Nm ε m ss r):Nm ε m (s::ss) ((s,.la q i)::r):=Qx h o k
end
def PC.xl(i:Nat):PC->Option I2
 |.exit j l=>if j=i then Y l else W|.seq a b=>match a.xl i with
  |some l=>Y l|none=>b.xl i
 |.cond _ a b=>match a.xl i with
  |some l=>Y l|none=>b.xl i
 |.block _ a=>a.xl i|.loop _ a=>a.xl i|.rls _ a=>a.xl i|_=>W
def PC.last:PC->Option I2
 |.region _ l=>Y l|.draw _ _ l=>Y l|.skip l=>Y l|.exit _ l=>Y l|.seq _ b=>b.last|.cond _ a _=>a.last|.block i (.loop _ b)=>b.xl i|.block _ c=>c.last|.rls _ c=>c.last|_=>W
section
variable{S:FuncId->Fq->As->Prop}{K:AB->Prop}{os:List PR}{ε:AB}{d:Nat}
section code
variable{n t:AB->Prop}{x:Nat->AB->Prop}{a b:PC}{l:I2}{env':AB}
theorem OT(o:Kp ε l env')(h:n env'):WO S (KR n l) [] ε:=⟨by show n (ε.ek l);rw[o.out];exact h⟩
theorem Qp{ops:List PR}(h:WO S (KR n l) ops ε):WP S (.region ops l) ⟨n,x,t⟩ ε:=⟨h.out⟩
theorem vS{D:I2}{ops:List PR}(hd:S0 ε D=X)(h:WO S (KR n l) ops ε):WP S (.draw D ops l) ⟨n,x,t⟩ ε:=⟨hd,h.out⟩
theorem LY(h:WP S a ⟨λe=>(∀s,(e.get s).WF)->WP S b ⟨n,x,t⟩ e,x,t⟩ ε):WP S (.seq a b) ⟨n,x,t⟩ ε:=zR h
theorem cf(o:Kp ε l env')(h:n env'):WP S (.skip l) ⟨n,x,t⟩ ε:=vr o.out h
theorem jm(h:t ε):WP S .ret ⟨n,x,t⟩ ε:=⟨h⟩
theorem lm{i:Nat}(o:Kp ε l env')(h:x i env'):WP S (.exit i l) ⟨n,x,t⟩ ε:=vq o.out h
theorem yb{s:Nat}{cs cs':List AO}{c:PC}{q:Q}(h:ε.get s=.bx cs)(he:cs.map AO.rel=cs')(k:WP S c q ((s,.bx cs')::ε)):WP S (.rls s c) q ε:=by
 refine ⟨?_⟩;subst he;simp only[PC.wp,h];exact k.out
theorem gm{i:Nat}(h:WP S a ⟨n,λj e=>if j=i then n e else x j e,t⟩ ε):WP S (.block i a) ⟨n,x,t⟩ ε:=Zc h
theorem yI{m:List (Nat×EV)}{e:AB}{q:Q}(he:Nm e m l env')(h:WP S a q env'):WP S a q (pr e m l):=by rw[he.out];exact h
variable{Q:Q}
theorem vR{c:AF}{β:Type}{q:Bool}{u v:Option β}{r:β}(o:c.val ε=Y (.bool q))(h:(if q=X then u else v)=Y r)(p:q=X->u=Y r->WP S a Q ε)(w:q=T->v=Y r->WP S b Q ε):WP S (.cond c a b) Q ε:=
 YZ o (λe=>p e (Yu e h)) (λe=>w e (Yt e h))
theorem vY{σ β:Type}{i:Nat}{M:σ->List (Nat×EV)}{q:Bool}{u v:Option σ}{k:σ->Option β}{r:β}(p:(AF.s i).val ε=Y (.bool q))(h:((if q=X then u else v).bind k)=Y r)(_:HJ i M)(_:(PC.cond (.s i) a b).last=Y l)
  (A:∀w,q=X->u=Y w->WP S a ⟨λe=>Rn e (pr ε (M w) l),x,t⟩ ε)(B:∀w,q=T->v=Y w->WP S b ⟨λe=>Rn e (pr ε (M w) l),x,t⟩ ε)(C:∀w,k w=Y r->n (pr ε (M w) l)):WP S (.cond (.s i) a b) ⟨n,x,t⟩ ε:=by
 obtain ⟨w,o,h⟩:=bind_some h;refine zQ (λe=>Rn e (pr ε (M w) l)) ?_ (λe he=>by rw[he.out];exact C w h);exact YZ p (λe=>A w e (Yu e o)) (λe=>B w e (Yt e o))
end code
structure Bd(ε:AB)(q i:Nat)(b:Int):Prop where
 of::out:(∀s,(ε.get s).WF)->b<=9223372036854775807
section bounds
variable{q i:Nat}{α:Type}{e:α->TV}{l:List α}{es row:Fq}{n:Nat}
theorem AA2{b:Int}(h:decide (b<=9223372036854775807)=X):Bd ε q i b:=⟨λ_=>of_decide_eq_true h⟩
theorem AA7{b:Int}:Bd ε q i (AZ b):=⟨λ_=>yC _⟩
theorem AA4(h:ε.get q=.tv (.list n es))(he:es=l.map e):Bd ε q i l.length:=⟨λo=>by have:=o q;rw[h]at this;exact W6 (cX this) he⟩
theorem AA5(h:ε.get q=.ow (.list n es))(he:es=l.map e):Bd ε q i l.length:=⟨λo=>by have:=o q;rw[h]at this;exact W6 (AAu this) he⟩
theorem AA8(h:ε.get q=.xo n es)(he:es=l.map e):Bd ε q i l.length:=⟨λo=>by have:=o q;rw[h]at this;exact W6 (AAv this) he⟩
theorem AA6{b:ByteArray}(h:ε.get q=.tv (.str b)):Bd ε q i b.size:=⟨λo=>by have:=o q;rw[h]at this;exact u0 (cX this)⟩
theorem AA3{b:Int}(h:ε.get q=.tv (.int .i64 b)):Bd ε q i b:=⟨λo=>by have:=o q;rw[h]at this;exact oa (cX this)⟩
theorem yk(h:ε.get q=.tv (.pt row))(o:row[i]?=Y (.list n es))(he:es=l.map e):Bd ε q i l.length:=⟨λp=>by have:=p q;rw[h]at this;exact W6 (jX (sv this) o) he⟩
theorem yj{b:Int}(h:ε.get q=.tv (.pt row))(o:row[i]?=Y (.int .i64 b)):Bd ε q i b:=⟨λp=>by have:=p q;rw[h]at this;exact oa (jX (sv this) o)⟩
end bounds
section loops
variable{σ β ρ:Type}{n t:AB->Prop}{x:Nat->AB->Prop}{c:PC}{live jl:I2}{i0 GH q i1:Nat}{lo b:Int}{s0:σ}{r:β}{k:σ->Option β}
variable{M:Int->σ->List (Nat×EV)}
theorem yD(h:∀i s,(pr ε (M i s) live).get GH=.tv (.int .i64 i)){i:Int}{s:σ}(o:∀k,((pr ε (M i s) live).get k).WF)(hi:i<b)(p:b<=9223372036854775807):AZ (i+1)=i+1:=by
 have:=o GH;rw[h]at this;exact AAw (cX this) hi p
theorem vT{f:Int->σ->Option σ}(_:HA i0 GH q i1 M)(h:(gp f lo b s0).bind k=Y r)(p:∀s,(ε.get s).WF)(u:Bd ε q i1 b)(_:c.xl i0=Y jl)(w:ε.ek live=pr ε (M lo s0) live)(A:∀i s,(pr ε (M i s) live).get GH=.tv (.int .i64 i))
  (B:∀i s r,i<b->f i s=Y r->(∀k,((pr ε (M i s) live).get k).WF)->WP S c ⟨λe=>Rn (e.ek live) (pr ε (M (AZ (i+1)) r) live),λ_ _=>False,λ_=>False⟩ (pr ε (M i s) live))
  (C:∀i s,¬i<b->WP S c ⟨λ_=>False,λj e=>j=i0/\Rn e (pr ε (M 0 s) jl),λ_=>False⟩ (pr ε (M i s) live))
  (D:∀s,k s=Y r->n (pr ε (M 0 s) jl)):WP S (.block i0 (.loop live c)) ⟨n,x,t⟩ ε:=by
 obtain ⟨o,ho,h⟩:=bind_some h;have u:=u.out p;refine u7 ho (λi s=>pr ε (M i s) live) (λs=>pr ε (M 0 s) jl) w (λi s r hi hf p=>⟨PC.gE S c _ _ (B i s r hi hf p).out _ (λe he=>?_) (λ_ _ h=>h) (λ_ h=>h)⟩) (λi s hi=>⟨PC.gE S c _ _ (C i s hi).out _ (λ_ h=>h) (λj e h=>⟨h.1,h.2.out⟩) (λ_ h=>h)⟩) (D o h);have:=he.out;rw[yD A p hi u]at this;exact this
variable{kr:ρ->Option β}
theorem Zn{f:Int->σ->Option (B3 σ ρ)}{R:ρ->AB->Prop}(h:eb (eE f lo b s0) k kr=Y r)(w:b<=9223372036854775807)(A:ε.ek live=pr ε (M lo s0) live)(B:∀i s,(pr ε (M i s) live).get GH=.tv (.int .i64 i))
  (C:∀i s r,i<b->f i s=Y r->(∀k,((pr ε (M i s) live).get k).WF)->WP S c ⟨λe=>∃s',r=.next s'/\Rn (e.ek live) (pr ε (M (AZ (i+1)) s') live),λj e=>j=i0/\∃s',r=.brk s'/\Rn e (pr ε (M 0 s') jl),λe=>∃v,r=.ret v/\R v e⟩ (pr ε (M i s) live))
  (D:∀i s,¬i<b->WP S c ⟨λ_=>False,λj e=>j=i0/\Rn e (pr ε (M 0 s) jl),λ_=>False⟩ (pr ε (M i s) live))
  (E:∀s,k s=Y r->n (pr ε (M 0 s) jl))(F:∀v e,kr v=Y r->R v e->t e):WP S (.block i0 (.loop live c)) ⟨n,x,t⟩ ε:=by
 obtain ⟨o,ho,h⟩:=ZU h;refine ja ho (λi s=>pr ε (M i s) live) (λs=>pr ε (M 0 s) jl) R A (λi s r hi hf u=>⟨PC.gE S c _ _ (C i s r hi hf u).out _ (λe he=>?_) (λj e he=>?_) (λ_ h=>h)⟩) (λi s hi=>⟨PC.gE S c _ _ (D i s hi).out _ (λ_ h=>h) (λj e h=>⟨h.1,h.2.out⟩) (λ_ h=>h)⟩) (λs G=>E s (jP h G)) (λv e hv=>F v e (jQ h hv))
 .obtain⟨s',p,e2⟩:=he;have e2:=e2.out;rw[yD B u hi w]at e2;exact⟨s',p,e2⟩
 .obtain⟨e0,s',p,e2⟩:=he;exact⟨e0,s',p,e2.out⟩
theorem vW{f:Int->σ->Option (B3 σ β)}{R:β->AB->Prop}(_:HA i0 GH q i1 M)(_:HR R)(o:R r=t)(h:eb (eE f lo b s0) k (λv=>Y v)=Y r)(p:∀s,(ε.get s).WF)(u:Bd ε q i1 b)(_:c.xl i0=Y jl)(w:ε.ek live=pr ε (M lo s0) live)(A:∀i s,(pr ε (M i s) live).get GH=.tv (.int .i64 i))
  (B:∀i s r,i<b->f i s=Y r->(∀k,((pr ε (M i s) live).get k).WF)->WP S c ⟨λe=>∃s',r=.next s'/\Rn (e.ek live) (pr ε (M (AZ (i+1)) s') live),λj e=>j=i0/\∃s',r=.brk s'/\Rn e (pr ε (M 0 s') jl),λe=>∃v,r=.ret v/\R v e⟩ (pr ε (M i s) live))
  (C:∀i s,¬i<b->WP S c ⟨λ_=>False,λj e=>j=i0/\Rn e (pr ε (M 0 s) jl),λ_=>False⟩ (pr ε (M i s) live))
  (D:∀s,k s=Y r->n (pr ε (M 0 s) jl)):WP S (.block i0 (.loop live c)) ⟨n,x,t⟩ ε:=
 Zn h (u.out p) w A B C D (λv e hv E=>by cases hv;rw[<-o];exact E)
variable{τ:Type}
theorem vV{f:Int->σ->Option (B3 σ ρ)}{k:σ->Option (B3 τ ρ)}{r:B3 τ ρ}{R:ρ->AB->Prop}(_:HA i0 GH q i1 M)(h:eb (eE f lo b s0) k (λv=>Y (.ret v))=Y r)(o:∀s,(ε.get s).WF)(p:Bd ε q i1 b)(_:c.xl i0=Y jl)(u:ε.ek live=pr ε (M lo s0) live)(w:∀i s,(pr ε (M i s) live).get GH=.tv (.int .i64 i))
  (A:∀i s r,i<b->f i s=Y r->(∀k,((pr ε (M i s) live).get k).WF)->WP S c ⟨λe=>∃s',r=.next s'/\Rn (e.ek live) (pr ε (M (AZ (i+1)) s') live),λj e=>j=i0/\∃s',r=.brk s'/\Rn e (pr ε (M 0 s') jl),λe=>∃v,r=.ret v/\R v e⟩ (pr ε (M i s) live))
  (B:∀i s,¬i<b->WP S c ⟨λ_=>False,λj e=>j=i0/\Rn e (pr ε (M 0 s) jl),λ_=>False⟩ (pr ε (M i s) live))
  (C:∀s,k s=Y r->n (pr ε (M 0 s) jl)):WP S (.block i0 (.loop live c)) ⟨n,x,λe=>∃v,r=.ret v/\R v e⟩ ε:=
 Zn h (p.out o) u w A B C (λv e hv D=>by cases hv;exact⟨v,rfl,D⟩)
theorem vU{f:Int->σ->Option (B3 σ ρ)}(_:HA i0 GH q i1 M)(h:eb (eE f lo b s0) k (λ_=>W)=Y r)(o:∀s,(ε.get s).WF)(p:Bd ε q i1 b)(_:c.xl i0=Y jl)(u:ε.ek live=pr ε (M lo s0) live)(w:∀i s,(pr ε (M i s) live).get GH=.tv (.int .i64 i))
  (A:∀i s r,i<b->f i s=Y r->(∀k,((pr ε (M i s) live).get k).WF)->WP S c ⟨λe=>∃s',r=.next s'/\Rn (e.ek live) (pr ε (M (AZ (i+1)) s') live),λj e=>j=i0/\∃s',r=.brk s'/\Rn e (pr ε (M 0 s') jl),λ_=>∃v,r=.ret v/\False⟩ (pr ε (M i s) live))
  (B:∀i s,¬i<b->WP S c ⟨λ_=>False,λj e=>j=i0/\Rn e (pr ε (M 0 s) jl),λ_=>False⟩ (pr ε (M i s) live))
  (C:∀s,k s=Y r->n (pr ε (M 0 s) jl)):WP S (.block i0 (.loop live c)) ⟨n,x,t⟩ ε:=
 Zn (R:=λ_ _=>False) h (p.out o) u w A B C (λv e hv _=>by cases hv)
theorem fm{f:σ->Option (B3 σ ρ)}{R:ρ->AB->Prop}{M:σ->List (Nat×EV)}(h:eb (Fx f s0) k kr=Y r)(u:ε.ek live=pr ε (M s0) live)
  (w:∀s r,f s=Y r->(∀k,((pr ε (M s) live).get k).WF)->WP S c ⟨λe=>∃s',r=.next s'/\Rn (e.ek live) (pr ε (M s') live),λj e=>j=i0/\∃s',r=.brk s'/\Rn e (pr ε (M s') jl),λe=>∃v,r=.ret v/\R v e⟩ (pr ε (M s) live))
  (A:∀s,k s=Y r->n (pr ε (M s) jl))(B:∀v e,kr v=Y r->R v e->t e):WP S (.block i0 (.loop live c)) ⟨n,x,t⟩ ε:=by
 obtain ⟨o,ho,h⟩:=ZU h;refine yF ho (λs=>pr ε (M s) live) (λs=>pr ε (M s) jl) R u (λs r hf C=>⟨PC.gE S c _ _ (w s r hf C).out _ (λe he=>?_) (λj e he=>?_) (λ_ h=>h)⟩) (λs D=>A s (jP h D)) (λv e hv=>B v e (jQ h hv))
 .obtain⟨s',p,e2⟩:=he;exact⟨s',p,e2.out⟩
 .obtain⟨e0,s',p,e2⟩:=he;exact⟨e0,s',p,e2.out⟩
theorem yf{f:σ->Option (B3 σ β)}{R:β->AB->Prop}{M:σ->List (Nat×EV)}(_:HW i0 M)(_:HR R)(o:R r=t)(h:eb (Fx f s0) k (λv=>Y v)=Y r)(_:c.xl i0=Y jl)(p:ε.ek live=pr ε (M s0) live)
  (u:∀s r,f s=Y r->(∀k,((pr ε (M s) live).get k).WF)->WP S c ⟨λe=>∃s',r=.next s'/\Rn (e.ek live) (pr ε (M s') live),λj e=>j=i0/\∃s',r=.brk s'/\Rn e (pr ε (M s') jl),λe=>∃v,r=.ret v/\R v e⟩ (pr ε (M s) live))
  (w:∀s,k s=Y r->n (pr ε (M s) jl)):WP S (.block i0 (.loop live c)) ⟨n,x,t⟩ ε:=
 fm h p u w (λv e hv A=>by cases hv;rw[<-o];exact A)
theorem ye{f:σ->Option (B3 σ ρ)}{k:σ->Option (B3 τ ρ)}{r:B3 τ ρ}{R:ρ->AB->Prop}{M:σ->List (Nat×EV)}(_:HW i0 M)(h:eb (Fx f s0) k (λv=>Y (.ret v))=Y r)(_:c.xl i0=Y jl)(o:ε.ek live=pr ε (M s0) live)
  (p:∀s r,f s=Y r->(∀k,((pr ε (M s) live).get k).WF)->WP S c ⟨λe=>∃s',r=.next s'/\Rn (e.ek live) (pr ε (M s') live),λj e=>j=i0/\∃s',r=.brk s'/\Rn e (pr ε (M s') jl),λe=>∃v,r=.ret v/\R v e⟩ (pr ε (M s) live))
  (u:∀s,k s=Y r->n (pr ε (M s) jl)):WP S (.block i0 (.loop live c)) ⟨n,x,λe=>∃v,r=.ret v/\R v e⟩ ε:=
 fm h o p u (λv e hv w=>by cases hv;exact⟨v,rfl,w⟩)
theorem yd{f:σ->Option (B3 σ ρ)}{M:σ->List (Nat×EV)}(_:HW i0 M)(h:eb (Fx f s0) k (λ_=>W)=Y r)(_:c.xl i0=Y jl)(o:ε.ek live=pr ε (M s0) live)
  (p:∀s r,f s=Y r->(∀k,((pr ε (M s) live).get k).WF)->WP S c ⟨λe=>∃s',r=.next s'/\Rn (e.ek live) (pr ε (M s') live),λj e=>j=i0/\∃s',r=.brk s'/\Rn e (pr ε (M s') jl),λ_=>∃v,r=.ret v/\False⟩ (pr ε (M s) live))
  (u:∀s,k s=Y r->n (pr ε (M s) jl)):WP S (.block i0 (.loop live c)) ⟨n,x,t⟩ ε:=
 fm (R:=λ_ _=>False) h o p u (λv e hv _=>by cases hv)
end loops
end
end Go.Sf
namespace Go.Sf
section
variable{P:Program}{S:FuncId->Fq->As->Prop}{K:AB->Prop}{os:List PR}{ε:AB}{d:Nat}{α β:Type}{k:α->Option β}{r:β}
theorem bnd{G:Prop}{x:Option α}(h:x.bind k=Y r)(g:∀a,x=Y a->k a=Y r->G):G:=by
 obtain ⟨a,o,h⟩:=bind_some h;exact g a o h
theorem ABA{α:Type}{x:Option α}{k:α->Option β}{op:AE}{dd:Option Nat}(_:op.AbY=4)(h:x.bind k=Y r)(g:∀a,x=Y a->k a=Y r->WO S K (⟨dd,op,W⟩::os) ε):WO S K (⟨dd,op,W⟩::os) ε:=bnd h g
theorem AA9{x:Option α}{f:FuncId}{ts:Fq}{R:α->As}{op:AE}{dd:Option Nat}(_:op.AbY=3)(h:x.bind k=Y r)(c:Ct P x f ts R)(g:∀a,AT P f ts (R a)->k a=Y r->WO (AT P) K (⟨dd,op,W⟩::os) ε):WO (AT P) K (⟨dd,op,W⟩::os) ε:=bnd h λa o=>g a (c.snd a o)
theorem vM{γ:Type}{k:List γ->Option β}{n s:Nat}{y:AF}{es o:Fq}{e:γ->TV}{l m:List γ}{f:List γ->TV}(h:(Al l m).bind k=Y r)(u:ε.get s=.ow (.list n es))(w:y.val ε=Y (.list n o))(he:es=l.map e)(hf:o=m.map e)(c:Fl e n f)
  (A:∀x,Al l m=Y x->k x=Y r->WO S K os ((d,.ow (f x))::(s,.tv (.list n es))::ε)):WO S K (⟨Y d,.app n (.s s) y,W⟩::os) ε:=by
 obtain ⟨x,p,h⟩:=bind_some h;have:=A x p h;rw[c.eq]at this;exact sZ p u w he hf rfl this
section ints
variable{k:Int->Option β}{x y:AF}{ik:IntKind}{a b:Int}
theorem yZ(h:(quo a b).bind k=Y r)(p:x.val ε=Y (.int ik a))(u:y.val ε=Y (.int ik b))(w:∀q,quo a b=Y q->k q=Y r->WO S K os ((d,.tv (.int ik (ik.wrap q)))::ε)):WO S K (⟨Y d,.bin .i .quo x y,W⟩::os) ε:=bnd h λq o h=>AAm o p u (w q o h)
theorem ya(h:(KS a b).bind k=Y r)(p:x.val ε=Y (.int ik a))(u:y.val ε=Y (.int ik b))(w:∀q,KS a b=Y q->k q=Y r->WO S K os ((d,.tv (.int ik q))::ε)):WO S K (⟨Y d,.bin .i .rem x y,W⟩::os) ε:=bnd h λq o h=>AAn o p u (w q o h)
theorem yH{op:BinOp}{o:IntKind}(h:(NE ik op a b).bind k=Y r)(u:x.val ε=Y (.int ik a))(A:y.val ε=Y (.int o b))(B:ik=o\/op=.shl\/op=.shr)(C:∀q,NE ik op a b=Y q->k q=Y r->WO S K os ((d,.tv (.int ik q))::ε)):WO S K (⟨Y d,.bin .w op x y,W⟩::os) ε:=bnd h λq p h=>AAZ p u A B (C q p h)
end ints
theorem vc{k:ByteArray->Option β}{x y:AF}{u v:ByteArray}(h:(Va u v).bind k=Y r)(p:x.val ε=Y (.str u))(w:y.val ε=Y (.str v))(A:∀q,Va u v=Y q->k q=Y r->WO S K os ((d,.tv (.str q))::ε)):WO S K (⟨Y d,.bin .s .add x y,W⟩::os) ε:=bnd h λq o h=>xX o p w (A q o h)
theorem yR{k:Unit->Option β}{x:AF}{n:Nat}{es:Fq}{e:α->TV}{l:List α}(h:(Xx l).bind k=Y r)(o:x.val ε=Y (.list n es))(he:es=l.map e)(p:∀u,k u=Y r->WO S K os ((d,.tv (.bool T))::ε)):WO S K (⟨Y d,.isn x,W⟩::os) ε:=by
 obtain ⟨u,A,h⟩:=bind_some h;refine sa o he λb w=>?_;obtain rfl:=mW A w;exact p u h
theorem r8{x:AF}{n:Nat}{e:α->TV}{a:α}(h:A9 ε (x.ev ε)=Y (e a).cells)(o:y_ (e a).cells.length n=X)(p:TV.agg (e a).cells=e a)(u:WO S K os ((d,.tv (e a))::ε)):WO S K (⟨Y d,.lda x n,W⟩::os) ε:=by
 have o:=y! o;exact sb h (by rw[o];exact y? n) (by rw[w? U,p]) u
theorem yT{s n:Nat}{cs:List AO}{e:α->TV}{a:α}(h:ε.get s=.bx cs)(p:cs.map (·.t)=(e a).cells)(o:y_ (e a).cells.length n=X)(u:TV.agg (e a).cells=e a)(w:WO S K os ((d,.tv (e a))::ε)):WO S K (⟨Y d,.ldb s n,W⟩::os) ε:=by
 have o:=y! o;exact AAe h (by rw[p,o];exact y? n) (by rw[p,w? U,u]) w
variable{v:AF}
theorem vd{n s:Nat}{cs:List AO}{t:TV}(o:ε.get s=.bx cs)(hv:v.ev ε=.tv t)(p:t.cells.length=n)(h:y_ n cs.length=X)(u:WO S K os ((s,.bx (t.cells.map (⟨T,·⟩)))::ε)):WO S K (⟨W,.stb n s v,W⟩::os) ε:=by
 have h:=y! h;refine AAp o hv p (by rw[z_,h];exact y? _) ?_ u;rw[List.take_zero,z_,h,List.drop_length,List.append_nil,List.nil_append]
theorem vZ{x:AF}{n:Nat}{e:α->TV}{a:α}(h:A9 ε (x.ev ε)=Y (((e a).cells.map λt=>(⟨T,t⟩:AO)).map (·.t)))(o:y_ (e a).cells.length n=X)(p:TV.agg (e a).cells=e a)(u:WO S K os ((d,.tv (e a))::ε)):WO S K (⟨Y d,.lda x n,W⟩::os) ε:=
 r8 (by rw[h,w_];congr 1;exact w! _) o p u
def jo(n:Nat):Fq->Bool
 |[]=>X|t::ts=>y_ t.cells.length n&&jo n ts
theorem cv{n:Nat}:∀{ts:Fq},jo n ts=X->∀t∈ts,t.cells.length=n
 |[],_,_,h=>d_
 |t::ts,h,u,o=>by
  simp only[jo,gR]at h;rcases x_.1 o with rfl|o
  .exact y! h.1
  .exact cv h.2 u o
variable{parts:List AF}
theorem yV{n:Nat}{ts:Fq}(h:vals ε parts=Y ts)(o:jo n ts=X)(p:WO S K os ((d,.ow (.list n ts))::ε)):WO S K (⟨Y d,.lst n parts,W⟩::os) ε:=by
 have:=p.out;refine⟨?_⟩;simp only[wpOps,PR.wp,AE.wp,h,Aj];exact⟨cv o,this⟩
variable{zero:Fq}
theorem vN{parts:List (Nat×Nat×AF)}{ts:List (Nat×Nat×TV)}{cs:Fq}{e:α->TV}{a:α}(h:(Y a).bind k=Y r)(_:En α e)(o:FG ε parts=Y ts)(p:FK zero ts=Y cs)(he:TV.agg cs=e a)(u:∀x,x=a->k x=Y r->WO S K os ((d,.tv (e x))::ε)):WO S K (⟨Y d,.bld zero parts,W⟩::os) ε:=by
 rw [Option.bind_some]at h;exact cW o p he (u a rfl h)
theorem yU{x:AF}{n:Nat}{cs:Fq}{e:α->TV}{a:α}(h:(Y a).bind k=Y r)(_:En α e)(o:A9 ε (x.ev ε)=Y cs)(p:z! n cs.length=X)(he:TV.agg (cs.take n)=e a)(u:∀x,x=a->k x=Y r->WO S K os ((d,.tv (e x))::ε)):WO S K (⟨Y d,.lda x n,W⟩::os) ε:=by
 rw [Option.bind_some]at h;exact sb o p he (u a rfl h)
inductive Lm{α:Type}(e:α->TV):Fq->List α->Prop
 |nil:Lm e [] []
 |cons {t:TV} {ts:Fq} {a:α} {l:List α}:t=e a->Lm e ts l->Lm e (t::ts) (a::l)
theorem Lm.eq{e:α->TV}{ts:Fq}{l:List α}(h:Lm e ts l):ts=l.map e:=by
 induction h with
 |nil=>rfl|cons h _ o=>rw[h,o];rfl
theorem va{n:Nat}{ts:Fq}{e:α->TV}{l:List α}(h:vals ε parts=Y ts)(o:Lm e ts l)(p:∀a,(e a).cells.length=n)(u:WO S K os ((d,.ow (.list n (l.map e)))::ε)):WO S K (⟨Y d,.lst n parts,W⟩::os) ε:=sc h o.eq p u
theorem vb{n:Nat}{ts:Fq}{e:α->TV}{l:List α}{f:List α->TV}(h:vals ε parts=Y ts)(p:Lm e ts l)(u:∀a,(e a).cells.length=n)(c:Fl e n f)(o:WO S K os ((d,.ow (f l))::ε)):WO S K (⟨Y d,.lst n parts,W⟩::os) ε:=by
 rw [c.eq]at o;exact sc h p.eq u o
theorem vI{e:α->TV}{n:I2}{x y:AF}{a:α}{cs:Fq}(o:x.val ε=Y (e a))(p:y.val ε=Y (.agg cs))[c:lh e][i:Decidable (a=c.un cs)](u:TV.agg (e a).cells=e a)(w:(e (c.un cs)).cells=cs)(A:(e a).cells.map TV.kd=n)(B:WO S K os ((d,.tv (.bool (decide (a=c.un cs))))::ε)):WO S K (⟨Y d,.bin (.a n) .eql x y,W⟩::os) ε:=by
 obtain ⟨C,h⟩:=c.dec a (c.un cs);have:i=C:=Subsingleton.elim _ _;subst this;rw[<-u]at o;rw[w]at h;exact np o p A h B
theorem vK{e:α->TV}{n:I2}{x y:AF}{a:α}{cs:Fq}(o:x.val ε=Y (e a))(p:y.val ε=Y (.agg cs))[c:lh e][i:Decidable (a=c.un cs)](u:TV.agg (e a).cells=e a)(w:(e (c.un cs)).cells=cs)(A:(e a).cells.map TV.kd=n)(B:WO S K os ((d,.tv (.bool (!decide (a=c.un cs))))::ε)):WO S K (⟨Y d,.bin (.a n) .neq x y,W⟩::os) ε:=by
 obtain ⟨C,h⟩:=c.dec a (c.un cs);have:i=C:=Subsingleton.elim _ _;subst this;rw[<-u]at o;rw[w]at h;exact nq o p A h B
theorem vH{e:α->TV}{n:I2}{x y:AF}{a b:α}{i:Decidable (a=b)}(o:x.val ε=Y (e a))(p:y.val ε=Y (e b))(c:lh e)(u:TV.agg (e a).cells=e a)(w:TV.agg (e b).cells=e b)(A:(e a).cells.map TV.kd=n)(B:WO S K os ((d,.tv (.bool (decide (a=b))))::ε)):WO S K (⟨Y d,.bin (.a n) .eql x y,W⟩::os) ε:=by
 obtain ⟨C,h⟩:=c.dec a b;have:i=C:=Subsingleton.elim _ _;subst this;rw[<-u]at o;rw[<-w]at p;exact np o p A h B
theorem vJ{e:α->TV}{n:I2}{x y:AF}{a b:α}{i:Decidable (a=b)}(o:x.val ε=Y (e a))(p:y.val ε=Y (e b))(c:lh e)(u:TV.agg (e a).cells=e a)(w:TV.agg (e b).cells=e b)(A:(e a).cells.map TV.kd=n)(B:WO S K os ((d,.tv (.bool (!decide (a=b))))::ε)):WO S K (⟨Y d,.bin (.a n) .neq x y,W⟩::os) ε:=by
 obtain ⟨C,h⟩:=c.dec a b;have:i=C:=Subsingleton.elim _ _;subst this;rw[<-u]at o;rw[<-w]at p;exact nq o p A h B
section calls
variable{x:Option α}{f:FuncId}{ts:Fq}{R:α->As}{args:List AF}
theorem yJ{s:Nat}{cs:List AO}{row:Fq}(o:ε.get s=.bx cs)(f:Fz cs row)(k:WO S K os ((s,.tv (.pt row))::ε)):WO S K (⟨W,.frz s,W⟩::os) ε:=AAb o f.h k
theorem s9{t:α->TV}(_:HS d)(h:x.bind k=Y r)(c:Ct P x f ts R)(p:vals ε args=Y ts)(u:∀a,R a=.own (t a))(w:∀a,x=Y a->k a=Y r->WO (AT P) K os ((d,.tv (t a))::ε)):WO (AT P) K (⟨Y d,.call f args,W⟩::os) ε:=by
 obtain ⟨a,o,h⟩:=bind_some h;have:=c.snd a o;rw[u]at this;exact xS p (wX this) (w a o h)
theorem s8{t:α->List AO}(h:x.bind k=Y r)(c:Ct P x f ts R)(p:vals ε args=Y ts)(u:∀a,R a=.oag (t a))(w:∀a,x=Y a->k a=Y r->WO (AT P) K os ((d,.tv (.agg ((t a).map λc=>c.rel.t)))::ε)):WO (AT P) K (⟨Y d,.call f args,W⟩::os) ε:=by
 obtain ⟨a,o,h⟩:=bind_some h;have:=c.snd a o;rw[u]at this;exact um p this rfl (w a o h)
theorem oi{γ:Type}{k:List γ->Option β}{x:Option (List γ)}{R:List γ->As}{n:Nat}{e:γ->TV}(h:x.bind k=Y r)(c:Ct P x f ts R)(p:ε.eo d=X)(u:vals ε args=Y ts)(w:∀a,R a=.own (.list n (a.map e)))(hf:∀a,(e a).flat=X)(A:∀a,x=Y a->k a=Y r->WO (AT P) K os ((d,.xo n (a.map e))::ε)):WO (AT P) K (⟨Y d,.AaD f args,W⟩::os) ε:=by
 obtain ⟨a,o,h⟩:=bind_some h;have:=c.snd a o;rw[w]at this;exact qj p u this rfl hf (A a o h)
theorem oh{γ:Type}{k:List γ->Option β}{x:Option (List γ)}{R:List γ->As}{n:Nat}{e:γ->TV}(h:x.bind k=Y r)(c:Ct P x f ts R)(p:Aaa ε args=Y ts)(u:∀a,R a=.own (.list n (a.map e)))(hf:∀a,(e a).flat=X)(w:∀a,x=Y a->k a=Y r->WO (AT P) K os ((d,.ow (.list n (a.map e)))::ε)):WO (AT P) K (⟨Y d,.AaJ f args,W⟩::os) ε:=by
 obtain ⟨a,o,h⟩:=bind_some h;have:=c.snd a o;rw[u]at this;exact qe p this rfl rfl hf (w a o h)
variable{us:α->Fq}
theorem s7{i s:Nat}{cs:List AO}{cs':α->List AO}{e:α->EV}(h:x.bind k=Y r)(c:Ct P x f ts R)(p:(args[i]?).bind (·.place ε)=Y (s,0))(u:ε.get s=.bx cs)(w:ε.noX s W=X)(hd:d≠s)(A:F2 ε i args=Y ts)(B:∀a,R a=.bo cs (cs' a) i (us a))(he:∀a,EV.ofs (us a)=e a)(C:∀a,x=Y a->k a=Y r->WO (AT P) K os ((d,e a)::(s,.bx (cs' a))::ε)):WO (AT P) K (⟨Y d,.Aad f args i,W⟩::os) ε:=by
 obtain ⟨a,o,h⟩:=bind_some h;have:=c.snd a o;rw[B]at this;exact ul p u w hd A this (he a) (C a o h)
end calls
inductive GS(g:Nat)(b:Bool):I2->List PR->I2->Nat->Prop
 |done {acc:I2} {os:List PR}:GS g b acc os [] 0
 |step {acc js:I2} {d n:Nat} {op:AE} {os:List PR}:GS g b (d::acc) os js n->GS g b acc (⟨Y d,op,Y (g,b)⟩::os) (d::js) (n+1)
 |nest {acc js:I2} {d n g':Nat} {b':Bool} {op:AE} {os:List PR}:acc.contains g'=X->GS g b (d::acc) os js n->GS g b acc (⟨Y d,op,Y (g',b')⟩::os) (d::js) (n+1)
def vE:I2->AB->(AB->Prop)->Prop
 |[],z,K=>K z|k::ks,z,K=>∃j,vE ks ((k,j)::z) K
structure Gj(js:I2)(d:Nat)(v:TV)(z e:AB):Prop where
 of::out:vE js z λy=>e=(d,.tv v)::y
theorem mS{d:Nat}{v:TV}{z e:AB}(h:e=(d,.tv v)::z):Gj [] d v z e:=⟨h⟩
variable{ks:I2}
theorem tW{k d:Nat}{v:TV}{j:EV}{z e:AB}(h:Gj ks d v ((k,j)::z) e):Gj (k::ks) d v z e:=⟨j,h.out⟩
theorem vX{js:I2}{v:TV}{z:AB}(h:Gj js d v z ε):WO S (Gj js d v z) [] ε:=⟨h⟩
structure Z7(js:I2)(z:AB)(Q:AB->Prop):Prop where
 of::out:∀(d:Nat)(v:TV)(e:AB),Gj js d v z e->∃y,e=(d,.tv v)::y/\Q y
theorem tX{z:AB}{Q:AB->Prop}(h:Q z):Z7 [] z Q:=⟨λ_ _ _ he=>⟨z,he.out,h⟩⟩
theorem pR{k:Nat}{z:AB}{Q:AB->Prop}(h:∀j,Z7 ks ((k,j)::z) Q):Z7 (k::ks) z Q:=⟨λd v e he=>by
 obtain ⟨j,o⟩:=he.out;exact(h j).out d v e ⟨o⟩⟩
theorem zi{dd:Option Nat}{op:AE}{g:Nat}{b q:Bool}(h:ε.get g=.tv (.bool q))(o:cd g b q)(p:WO S K (⟨dd,op,W⟩::os) ε):WO S K (⟨dd,op,Y (g,b)⟩::os) ε:=ABR h o.out p
theorem yO{ρ:Type}{dd:Option Nat}{op:AE}{g:Nat}{q:Bool}{u v:Option ρ}{r:ρ}(w:ε.get g=.tv (.bool q))(h:(if q=X then u else v)=Y r)
  (o:cd g X q->q=X->u=Y r->WO S K (⟨dd,op,Y (g,X)⟩::os) ε)(p:Xa g X q->q=T->v=Y r->WO S K (⟨dd,op,Y (g,X)⟩::os) ε):WO S K (⟨dd,op,Y (g,X)⟩::os) ε:=by
 cases q with
 |true=>exact o ⟨rfl⟩ rfl h|false=>exact p ⟨o?⟩ rfl h
theorem yM{ρ:Type}{dd:Option Nat}{op:AE}{g:Nat}{q:Bool}{u v:Option ρ}{r:ρ}(w:ε.get g=.tv (.bool q))(h:(if q=X then u else v)=Y r)
  (o:Xa g T q->q=X->u=Y r->WO S K (⟨dd,op,Y (g,T)⟩::os) ε)(p:cd g T q->q=T->v=Y r->WO S K (⟨dd,op,Y (g,T)⟩::os) ε):WO S K (⟨dd,op,Y (g,T)⟩::os) ε:=by
 cases q with
 |true=>exact o ⟨o?⟩ rfl h|false=>exact p ⟨rfl⟩ rfl h
theorem wB{op:AE}{g:Nat}{b q:Bool}(h:ε.get g=.tv (.bool q))(o:Xa g b q)(p:WO S K os ((d,.sk)::ε)):WO S K (⟨Y d,op,Y (g,b)⟩::os) ε:=zh h o.out p
theorem kE{d n:Nat}{js:I2}{v:TV}(h:WO S (Gj js d v ε) (os.take n) ε)(o:Z7 js ε λe=>WO S K (os.drop n) ((d,.tv v)::e)):WO S K os ε:=
 zg n (Gj js d v) h λe he=>by
  obtain ⟨y,rfl,p⟩:=o.out d v e he;exact p
section groups
variable{g n:Nat}{js:I2}{c:Bool}{dd gd:Option Nat}{op:AE}{x y z:AF}{gg:Option (Nat×Bool)}
variable{θ:I1}{os':List PR}
theorem yQ{k:Bool->Option β}(h:(if c=X then θ else Y T).bind k=Y r)(_:GS g X [] os js n)(A:ε.get g=.tv (.bool c))(_:os[n]?=Y ⟨Y d,.pick x y z,gg⟩)
  (p:∀v,cd g X c->c=X->θ=Y v->WO S (Gj js d (.bool v) ε) (os.take (n+1)) ε)(u:∀v,Xa g X c->c=T->Y T=Y v->WO S (Gj js d (.bool v) ε) (os.take (n+1)) ε)
  (w:∀v,k v=Y r->Z7 js ε λe=>WO S K (os.drop (n+1)) ((d,.tv (.bool v))::e))(ho:os=⟨dd,op,Y (g,X)⟩::os'):WO S K (⟨dd,op,Y (g,X)⟩::os') ε:=by
 obtain ⟨v,hv,h⟩:=bind_some h;rw[<-ho];refine kE (n:=n+1) (v:=.bool v) ?_ (w v h);rcases Bool.eq_false_or_eq_true c with o|o
 .exact p v ⟨o⟩ o (Yu o hv)
 .exact u v ⟨by rw[o];rfl⟩ o (Yt o hv)
theorem yP{k:Bool->Option β}(h:(if c=X then Y X else θ).bind k=Y r)(_:GS g T [] os js n)(A:ε.get g=.tv (.bool c))(_:os[n]?=Y ⟨Y d,.pick x y z,gg⟩)
  (p:∀v,cd g T c->c=T->θ=Y v->WO S (Gj js d (.bool v) ε) (os.take (n+1)) ε)(u:∀v,Xa g T c->c=X->Y X=Y v->WO S (Gj js d (.bool v) ε) (os.take (n+1)) ε)
  (w:∀v,k v=Y r->Z7 js ε λe=>WO S K (os.drop (n+1)) ((d,.tv (.bool v))::e))(ho:os=⟨dd,op,Y (g,T)⟩::os'):WO S K (⟨dd,op,Y (g,T)⟩::os') ε:=by
 obtain ⟨v,hv,h⟩:=bind_some h;rw[<-ho];refine kE (n:=n+1) (v:=.bool v) ?_ (w v h);rcases Bool.eq_false_or_eq_true c with o|o
 .exact u v ⟨by rw[o];rfl⟩ o (Yu o hv)
 .exact p v ⟨o⟩ o (Yt o hv)
theorem yL{e:Bool}(ho:os=⟨dd,op,Y (g,X)⟩::os')(_:GS g X [] os js n)(u:ε.get g=.tv (.bool c))(_:os[n]?=Y ⟨Y d,.pick x y z,gg⟩)
  (h:cd g X c->c=X->WO S (Gj js d (.bool e) ε) (os.take (n+1)) ε)(o:Xa g X c->c=T->WO S (Gj js d (.bool T) ε) (os.take (n+1)) ε)
  (p:Z7 js ε λz=>WO S K (os.drop (n+1)) ((d,.tv (.bool (c&&e)))::z)):WO S K (⟨dd,op,Y (g,X)⟩::os') ε:=by
 rw [<-ho];refine kE (n:=n+1) (v:=.bool (c&&e)) ?_ p;cases c
 .exact o ⟨rfl⟩ rfl
 .exact h ⟨rfl⟩ rfl
theorem yK{e:Bool}(ho:os=⟨dd,op,Y (g,T)⟩::os')(_:GS g T [] os js n)(u:ε.get g=.tv (.bool c))(_:os[n]?=Y ⟨Y d,.pick x y z,gg⟩)
  (h:cd g T c->c=T->WO S (Gj js d (.bool e) ε) (os.take (n+1)) ε)(o:Xa g T c->c=X->WO S (Gj js d (.bool X) ε) (os.take (n+1)) ε)
  (p:Z7 js ε λz=>WO S K (os.drop (n+1)) ((d,.tv (.bool (c||e)))::z)):WO S K (⟨dd,op,Y (g,T)⟩::os') ε:=by
 rw [<-ho];refine kE (n:=n+1) (v:=.bool (c||e)) ?_ p;cases c
 .exact h ⟨rfl⟩ rfl
 .exact o ⟨rfl⟩ rfl
end groups
variable{qi:Option Nat}{j:Int}
theorem yg{x:AF}{q n i:Nat}{es row:Fq}{e:α->TV}{l:List α}{a:α}{t:TV}(h:x.ev ε=.lp q qi (j.toNat*n+i))(o:ε.ns q qi=Y (n,es))(he:es=l.map e)(p:∀a,(e a).cells.length=n)(u:idx l j=Y a)(hi:z? i n=X)(w:(e a).cells=row)(A:row[i]?=Y t)
  (B:WO S K os ((d,.tv t)::ε)):WO S K (⟨Y d,.xld x,W⟩::os) ε:=sf h o he p u rfl hi w A B
theorem vf{x:AF}{q n:Nat}{es row:Fq}{e:α->TV}{l:List α}{a:α}{t:TV}(h:x.ev ε=.lp q qi (j.toNat*n))(o:ε.ns q qi=Y (n,es))(he:es=l.map e)(p:∀a,(e a).cells.length=n)(u:idx l j=Y a)(hi:z? 0 n=X)(w:(e a).cells=row)(A:row[0]?=Y t)
  (B:WO S K os ((d,.tv t)::ε)):WO S K (⟨Y d,.xld x,W⟩::os) ε:=sf (i:=0) h o he p u rfl hi w A B
theorem yh{x:AF}{q n i:Nat}{es row:Fq}{e:α->TV}{l:List α}{a:α}{t:TV}(h:x.ev ε=.lp q W (j.toNat*n+i))(o:ε.get q=.xo n es)(he:es=l.map e)(p:∀a,(e a).cells.length=n)(u:idx l j=Y a)(hi:z? i n=X)(w:(e a).cells=row)(A:row[i]?=Y t)
  (B:WO S K os ((d,.tv t)::ε)):WO S K (⟨Y d,.xln x,W⟩::os) ε:=sg h o he p u rfl hi w A B
theorem vg{x:AF}{q n:Nat}{es row:Fq}{e:α->TV}{l:List α}{a:α}{t:TV}(h:x.ev ε=.lp q W (j.toNat*n))(o:ε.get q=.xo n es)(he:es=l.map e)(p:∀a,(e a).cells.length=n)(u:idx l j=Y a)(hi:z? 0 n=X)(w:(e a).cells=row)(A:row[0]?=Y t)
  (B:WO S K os ((d,.tv t)::ε)):WO S K (⟨Y d,.xln x,W⟩::os) ε:=sg (i:=0) h o he p u rfl hi w A B
variable{v:AF}
theorem vj{γ:Type}{s:Nat}{q n i:Nat}{env':AB}{es:Fq}{e:α->TV}{g:γ->TV}{l:List α}{a:α}{b:γ}{f:α->γ->α}(_:HX s f)(h:(AF.s s).ev ε=.lp q qi (j.toNat*n+i))(p:ε.ns q qi=Y (n,es))(hv:v.ev ε=.tv (g b))(he:es=l.map e)(u:∀a,(e a).cells.length=n)(w:idx l j=Y a)(hi:z? i n=X)(A:(g b).cells=[g b])
  (B:(e (f a b)).cells=(e a).cells.set i (g b))(o:ε.tl q qi n ((BB l j (f a b)).map e)=env')(C:WO S K os env'):WO S K (⟨W,.xst (.s s) v 1,W⟩::os) ε:=si h p hv he u w rfl hi A B rfl o C
theorem vh{x v:AF}{q n:Nat}{env':AB}{es:Fq}{e:α->TV}{l:List α}{a b:α}(h:x.ev ε=.lp q qi (j.toNat*n))(p:ε.ns q qi=Y (n,es))(hv:v.ev ε=.tv (e b))(he:es=l.map e)(u:∀a,(e a).cells.length=n)(w:idx l j=Y a)(hi:z? 0 n=X)(A:(e b).cells=[e b])
  (B:(e b).cells=(e a).cells.set 0 (e b))(o:ε.tl q qi n ((BB l j b).map e)=env')(C:WO S K os env'):WO S K (⟨W,.xst x v 1,W⟩::os) ε:=si (i:=0) h p hv he u w rfl hi A B rfl o C
end
end Go.Sf
namespace Go.Sf
section
variable{S:FuncId->Fq->As->Prop}{K:AB->Prop}{os:List PR}{ε:AB}{d:Nat}
variable{j:Int}
theorem AAk{α:Type}{x:AF}{s o:Nat}{es:Fq}{e:α->TV}{l:List α}{a:α}(h:x.ev ε=.nh s o (.el j.toNat))(u:ε.nat s o=Y es)(he:es=l.map e)(w:idx l j=Y a)(k:WO S K os ((d,.nh s o (.rw j.toNat))::ε)):WO S K (⟨Y d,.nld x,W⟩::os) ε:=by
 replace k:=k.out;refine⟨?_⟩;subst he;obtain⟨B,C,A⟩:=Gn w;have p:j.toNat<l.length:=(x!.1 A).1;simp only[wpOps,PR.wp,AE.wp,h,u,Aj];exact⟨v5,k⟩
variable{j2:Int}
theorem AAl{α:Type}{x v:AF}{s o:Nat}{es:Fq}{env':AB}{e:List α->TV}{e2:α->TV}{l:List (List α)}{m:List α}{A b:α}{t:TV}(h:x.ev ε=.nh s o (.rp j.toNat j2.toNat))(B:ε.nat s o=Y es)(hv:v.ev ε=.tv t)(he:es=l.map e)(w:∀m,e m=.list 1 (m.map e2))(C:idx l j=Y m)(D:idx m j2=Y A)(E:t=e2 b)(F:t.cells=[t])(G:t.flat=X)
  (p:ε.AbO s o ((BB l j (BB m j2 b)).map e)=env')(k:WO S K os env'):WO S K (⟨W,.nst x v,W⟩::os) ε:=by
 replace k:=k.out;refine⟨?_⟩;subst he p E;obtain⟨J,L,H⟩:=Gn C;obtain⟨m0,m1,I⟩:=Gn D;have u:j2.toNat<m.length:=(x!.1 I).1;simp only[wpOps,PR.wp,AE.wp,h,B,hv,Aj];refine⟨m.map e2,by rw[x?,H];simp[w],e_,F,G,?_⟩;have:(l.map e).set j.toNat (.list 1 ((m.map e2).set j2.toNat (e2 b)))=(BB l j (BB m j2 b)).map e:=by
  simp only[BB,List.map_set,w]
 rw [this];exact k
end
section
variable{P:Program}{K:AB->Prop}{os:List PR}{ε:AB}{d:Nat}{α β γ ρ:Type}{f:FuncId}{args:List AF}{ts:Fq}{R:α->As}{x:Option α}{k:α->Option ρ}{r:ρ}
variable{j:Int}
theorem yW{x i:AF}{s o:Nat}{es:Fq}{e:α->TV}{l:List α}{ik:IntKind}{S:FuncId->Fq->As->Prop}(h:(idx l j).bind k=Y r)(u:x.ev ε=.nh s o .hd)(w:ε.nat s o=Y es)(hi:i.val ε=Y (.int ik j))(he:es=l.map e)
  (A:∀a,idx l j=Y a->k a=Y r->WO S K os ((d,.nh s o (.el j.toNat))::ε)):WO S K (⟨Y d,.nia x i,W⟩::os) ε:=by
 obtain ⟨a,p,h⟩:=bind_some h;have B:=(A a p h).out;refine⟨?_⟩;subst he;obtain⟨D,F,E⟩:=Gn p;have C:j.toNat<l.length:=(x!.1 E).1;simp only[wpOps,PR.wp,AE.wp,u,w,hi,Aj];exact⟨D,by simp only[a6];omega,B⟩
variable{e2:α->TV}{j2:Int}
theorem yY{x i:AF}{s o:Nat}{es:Fq}{e:List α->TV}{l:List (List α)}{m:List α}{ik:IntKind}{S:FuncId->Fq->As->Prop}(h:(idx m j2).bind k=Y r)(u:x.ev ε=.nh s o (.rw j.toNat))(w:ε.nat s o=Y es)(hi:i.val ε=Y (.int ik j2))(he:es=l.map e)(A:∀m,e m=.list 1 (m.map e2))(B:idx l j=Y m)
  (C:∀a,idx m j2=Y a->k a=Y r->WO S K os ((d,.nh s o (.rp j.toNat j2.toNat))::ε)):WO S K (⟨Y d,.nia x i,W⟩::os) ε:=by
 obtain ⟨b,p,h⟩:=bind_some h;have D:=(C b p h).out;refine⟨?_⟩;subst he;obtain⟨H,I,F⟩:=Gn B;obtain⟨m0,m1,G⟩:=Gn p;have E:j2.toNat<m.length:=(x!.1 G).1;simp only[wpOps,PR.wp,AE.wp,u,w,hi,Aj];exact⟨m0,m.map e2,by rw[x?,F];simp[A],by simp only[a6];omega,D⟩
theorem vL{mm q s o:Nat}{es w:Fq}{cs cs':List AO}{n:Nat}{e:β->TV}{l:List β}{m:β}{k:List β->Option ρ}{S:FuncId->Fq->As->Prop}(h:(Al l [m]).bind k=Y r)(A:ε.get mm=.nh s o .hd)(B:ε.get q=.x1 n w)(C:ε.get s=.bx cs)(D:ε.nat s o=Y es)(he:es=l.map e)(hf:TV.list n w=e m)(u:ε.eo d=X)(hd:d≠mm/\d≠q/\mm≠q)(E:cs.set o ⟨T,.undef⟩=cs')
  (F:∀a,Al l [m]=Y a->k a=Y r->WO S K os ((d,.xn (a.map e))::(s,.bx cs')::(mm,.undef)::(q,.undef)::ε)):WO S K (⟨Y d,.AaH mm q,W⟩::os) ε:=by
 obtain ⟨a,p,h⟩:=bind_some h;have H:=(F a p h).out;refine⟨?_⟩;subst he E;unfold Al at p;split at p
 next G=>cases p;simp only[wpOps,PR.wp,AE.wp,A,B,C,D,Aj];refine⟨by simpa using G,⟨u,hd⟩,?_⟩;rw[hf];simpa[AB.put]using H
 .cases p
theorem oe{u:α->List β}{v:α->List γ}{w A:Nat}{p:β->TV}{e2:γ->TV}(h:x.bind k=Y r)(c:Ct P x f ts R)(E:vals ε args=Y ts)(F:∀a,R a=.oag [⟨X,.list w ((u a).map p)⟩,⟨X,.list A ((v a).map e2)⟩])(G:∀a,(p a).flat=X)(H:∀a,(e2 a).flat=X)
  (I:∀a,x=Y a->k a=Y r->WO (AT P) K os ((d,.oag [⟨X,.xl w ((u a).map p)⟩,⟨X,.xl A ((v a).map e2)⟩])::ε)):WO (AT P) K (⟨Y d,.Aaz f args,W⟩::os) ε:=by
 obtain ⟨a,D,h⟩:=bind_some h;have C:=c.snd a D;rw[F]at C;have J:=(I a D h).out;have o:∀{τ:Type}(e:τ->TV)(l:List τ),(∀a,(e a).flat=X)->TV.tg (l.map e)=X:=by
  intro τ e l he
  induction l with
  |nil=>rfl|cons a l L=>simp[TV.tg,he,L]
 refine ⟨?_⟩;simp only[wpOps,PR.wp,AE.wp,E,Aj];refine⟨_,C,λc B=>?_,λ_=>J⟩;simp only[x_,List.not_mem_nil,or_false]at B;rcases B with rfl|rfl
 .exact⟨_,_,rfl,o _ _ G⟩
 .exact⟨_,_,rfl,o _ _ H⟩
inductive NL:List AO->List AO->Prop
 |nil {xs:List AO}:xs=[]->NL xs []
 |cons {xs ys zs:List AO} {o:Bool} {t:TV}:xs=⟨o,t⟩::ys->NL ys zs->NL xs (⟨o,t⟩::zs)
theorem NL.eq{xs o:List AO}(h:NL xs o):xs=o:=by
 induction h with
 |nil h=>exact h|cons h _ p=>rw[h,p]
theorem yc{S:FuncId->Fq->As->Prop}{K:AB->Prop}{os:List PR}{ε:AB}{n s h:Nat}{x v:AF}{cs cs':List AO}{t:TV}(o:x.place ε=Y (s,h))(p:ε.get s=.bx cs)(hv:v.ev ε=.tv t)(u:t.cells.length=n)(w:z! (h+n) cs.length=X)(A:NL (cs.take h++t.cells.map (⟨T,·⟩)++cs.drop (h+n)) cs')
  (k:WO S K os ((s,.bx cs')::ε)):WO S K (⟨W,.st n x v,W⟩::os) ε:=ABY o p hv u w A.eq k
theorem ve{S:FuncId->Fq->As->Prop}{K:AB->Prop}{os:List PR}{ε:AB}{s h q:Nat}{x:AF}{cs cs':List AO}{t:TV}(o:x.place ε=Y (s,h))(p:ε.get s=.bx cs)(hv:ε.get q=.ow t)(u:q≠s)(w:z? h cs.length=X)(A:NL (cs.set h ⟨X,t⟩) cs')
  (k:WO S K os ((s,.bx cs')::(q,.tv t)::ε)):WO S K (⟨W,.st 1 x (.s q),W⟩::os) ε:=AAq o p hv u w A.eq k
theorem aT:∀(ts:List (Nat×Nat×TV))(done rest:Fq),YE done.length ts=X->(JO ts).length<=rest.length->FK (done++rest) ts=Y (done++(JO ts++rest.drop (JO ts).length))
 |[],done,rest,_,h=>by simp[FK,JO]|(i,n,t)::r,done,rest,p,h=>by
  simp only[YE,gR,Nat.beq_eq]at p;obtain⟨⟨rfl,o⟩,A⟩:=p;simp only[JO,aE]at h;have u:n<=rest.length:=U
  simp only[FK];rw[Ne ⟨o,to⟩];have w:done++rest=done++(rest.take n++rest.drop n):=by rw[List.take_append_drop]
  rw [w,VS t.cells done (rest.take n) (rest.drop n) i_,<-ae];rw[aT r (done++t.cells) (rest.drop n) (by rw[aE,o];exact A) (by rw[List.length_drop];omega)];simp[JO,List.drop_drop,o]
inductive NT:Fq->Fq->Prop
 |nil {xs:Fq}:xs=[]->NT xs []
 |cons {xs ys zs:Fq} {t:TV}:xs=t::ys->NT ys zs->NT xs (t::zs)
theorem NT.eq{xs o:Fq}(h:NT xs o):xs=o:=by
 induction h with
 |nil h=>exact h|cons h _ p=>rw[h,p]
variable{zero:Fq}
theorem vO{S:FuncId->Fq->As->Prop}{K:AB->Prop}{os:List PR}{ε:AB}{d:Nat}{parts:List (Nat×Nat×AF)}{ts:List (Nat×Nat×TV)}{cs:Fq}(h:FG ε parts=Y ts)(o:YE 0 ts=X)(p:z! (JO ts).length zero.length=X)(u:NT (JO ts++zero.drop (JO ts).length) cs)(k:WO S K os ((d,.tv (.agg cs))::ε)):WO S K (⟨Y d,.bld zero parts,W⟩::os) ε:=
 cW h (by have:=aT ts [] zero o (Nat.le_of_ble_eq_true p);simpa using this) (by rw[u.eq]) k
structure HY{α A B C:Type}(n:Nat)(f:A->B->C->α)(g1:A->TV)(g2:B->TV)(g3:C->TV):Prop where
variable{v:AF}{qi:Option Nat}
theorem vk{S:FuncId->Fq->As->Prop}{K:AB->Prop}{os:List PR}{ε:AB}{α A B C:Type}{f:A->B->C->α}{o:Nat}{q n:Nat}{env':AB}{es cs cs':Fq}{e:α->TV}{l:List α}{a:α}{E:A}{F:B}{G:C}{p:A->TV}{u:B->TV}{w:C->TV}(_:HY o f p u w)(h:(AF.s o).ev ε=.lp q qi (j.toNat*n))(H:ε.ns q qi=Y (n,es))(he:es=l.map e)(I:∀a,(e a).cells.length=n)(hv:v.ev ε=.tv (.agg cs))(J:NT cs cs')(L:cs'=[p E,u F,w G])(hf:∀a b c,TV.agg [p a,u b,w c]=e (f a b c))(N:idx l j=Y a)(O:z? 0 n=X)
  (D:ε.tl q qi n ((BB l j (f E F G)).map e)=env')(k:WO S K os env'):WO S K (⟨W,.xst (.s o) v n,W⟩::os) ε:=sj h H (by rw[hv,J.eq,L,hf]) he I N O D k
theorem yi{S:FuncId->Fq->As->Prop}{α:Type}{x v:AF}{q n:Nat}{env':AB}{es:Fq}{e:α->TV}{l:List α}{a b:α}(h:x.ev ε=.lp q qi (j.toNat*n))(p:ε.ns q qi=Y (n,es))(he:es=l.map e)(u:∀a,(e a).cells.length=n)(hv:v.ev ε=.tv (e b))(w:idx l j=Y a)(A:z? 0 n=X)
  (o:ε.tl q qi n ((BB l j b).map e)=env')(k:WO S K os env'):WO S K (⟨W,.xst x v n,W⟩::os) ε:=sj h p hv he u w A o k
end
section
variable{S:FuncId->Fq->As->Prop}{K:AB->Prop}{os:List PR}{ε:AB}{d:Nat}
theorem AAi(k:∀b,WO S K os ((d,.mx (.mp b []))::ε)):WO S K (⟨Y d,.mkm,W⟩::os) ε:=
 ⟨λb=>(k b).out⟩
theorem AAj{s:Nat}{last:Option ((Int×Int)×Int)}{o:Be}(h:ε.get s=.mx (.mi last o))(hd:d≠s)(w:o=[]->WO S K os ((d,.tp [.bool T])::ε))(A:∀p u,o.Perm (p::u)->WO S K os ((d,.tp [.bool X,Se p.1,.int .i64 p.2])::(s,.mx (.mi (Y p) u))::ε)):WO S K (⟨Y d,.mnx s,W⟩::os) ε:=by
 refine ⟨?_⟩;simp only[wpOps,PR.wp,AE.wp,h];exact⟨hd,λe=>(w e).out,λp t B=>(A p t B).out⟩
variable{kvs:Be}
theorem qh{f:FuncId}{args:List AF}{ts us:Fq}(hv:vals ε args=Y ts)(h:S f ts (.mpr kvs us))(k:∀b,WO S K os ((d,.mx (.tm b kvs us))::ε)):WO S K (⟨Y d,.AaC f args,W⟩::os) ε:=by
 refine ⟨?_⟩;simp only[wpOps,PR.wp,AE.wp,hv,Aj];exact .inr ⟨kvs,us,h,λ_ b=>(k b).out⟩
theorem qf{f:FuncId}{args:List AF}{ts us:Fq}(hv:vals ε args=Y ts)(h:S f ts (.tp us))(k:WO S K os ((d,.tp us)::ε)):WO S K (⟨Y d,.AaC f args,W⟩::os) ε:=by
 refine ⟨?_⟩;simp only[wpOps,PR.wp,AE.wp,hv,Aj];exact .inl ⟨us,h,λ_=>k.out⟩
theorem Ld{ss:I2}{s:Nat}{r:AB}{m:MX}(h:ε.get s=.mx m)(k:Kp ε ss r):Kp ε (s::ss) ((s,.mx m)::r):=Og h k
theorem AAE{ss:I2}{s:Nat}{r:AB}{q:List (Nat×EV)}{m:MX}(h:look q s=W)(o:ε.get s=.mx m)(k:Nm ε q ss r):Nm ε q (s::ss) ((s,.mx m)::r):=Qx h o k
end
def Oi(r:Be×Int):As:=if r.2=0 then .mpr r.1 [.int .i64 r.2]else .tp [.undef,.int .i64 r.2]
structure HMO(o:Nat):Prop where
variable{kvs:Be}
theorem tu{h:List RV}{ε:AB}{e:Int}(he:(!decide (e=0))=X)(o:h.length≠1)(p:Et ε h=Y [.undef,.int .i64 e]):BT h (Oi (kvs,e)) ε:=by
 simp only[Bool.not_eq_true',decide_eq_false_iff_not]at he;simp only[Oi,QQ he];exact⟨o,p⟩
theorem tw{s o b:Nat}{rs:List RV}{ε:AB}(_:HMO o)(h:ε.get s=.tv (.AaK b))(p:ε.get o=.mx (.mp b kvs))(u:rs≠[])(w:Et ε rs=Y [.int .i64 0]):BT (.tmp s::rs) (Oi (kvs,0)) ε:=by
 simp only[Oi,if_true,BT];exact⟨u,⟨b,o,h,p⟩,w⟩
section
variable{P:Program}{α β:Type}{K:AB->Prop}{os:List PR}{ε:AB}{d:Nat}{x:Option α}{k:α->Option β}{r:β}{f:FuncId}{args:List AF}{ts:Fq}{R:α->As}
variable{us:α->Fq}
theorem od{i s:Nat}{cs:List AO}{q:α->Bool}{u v:α->List AO}{e:α->EV}(h:x.bind k=Y r)(c:Ct P x f ts R)(A:(args[i]?).bind (·.place ε)=Y (s,0))(B:ε.get s=.bx cs)(C:ε.noX s W=X)(hd:d≠s)(D:F2 ε i args=Y ts)(E:∀a,R a=.bo cs (if q a=X then u a else v a) i (us a))(he:∀a,EV.ofs (us a)=e a)
  (F:∀a,x=Y a->q a=X->k a=Y r->WO (AT P) K os ((d,e a)::(s,.bx (u a))::ε))(G:∀a,x=Y a->q a=T->k a=Y r->WO (AT P) K os ((d,e a)::(s,.bx (v a))::ε)):WO (AT P) K (⟨Y d,.Aad f args i,W⟩::os) ε:=by
 refine s7 h c A B C hd D E he (λa o p=>?_);cases w:q a with
 |true=>rw[Ne rfl];exact F a o w p|false=>rw[QQ V];exact G a o w p
end
section
variable{S:FuncId->Fq->As->Prop}{a b:PC}{ε:AB}
variable{Q:Q}
theorem vQ{c:AF}{β:Type}{q:Bool}{u v:Option β}{r:β}(p:c.val ε=Y (.bool q))(h:(if q=X then u else v)=Y r)(o:q=X)(k:u=Y r->WP S a Q ε):WP S (.cond c a b) Q ε:=
 Su p o (k (Yu o h))
theorem vP{c:AF}{β:Type}{q:Bool}{u v:Option β}{r:β}(p:c.val ε=Y (.bool q))(h:(if q=X then u else v)=Y r)(o:q=T)(k:v=Y r->WP S b Q ε):WP S (.cond c a b) Q ε:=
 St p o (k (Yt o h))
end
end Go.Sf
set_option maxRecDepth 100000
namespace Go.Sf
theorem OD{P:Prop}(p:P:=by first|exact rfl|exact Ml.eq):P:=p
theorem sA{P:Prop}(p:P:=by
 first|exact AA4 rfl OD|exact AA3 rfl|exact yk rfl rfl OD|exact yj rfl rfl|exact AA6 rfl|exact AA5 rfl OD|exact AA8 rfl rfl|exact AA7|exact AA2 a_):P:=p
theorem sK{P:Prop}(p:P:=by
 repeat (first|apply GS.step|(apply GS.nest;exact rfl))
 exact GS.done):P:=p
theorem nlq{P:Prop}(p:P:=by
 repeat (apply NL.cons;exact rfl)
 exact NL.nil rfl):P:=p
theorem ntq{P:Prop}(p:P:=by
 repeat (apply NT.cons;exact rfl)
 exact NT.nil rfl):P:=p
theorem lnq{P:Prop}(p:P:=by
 repeat (first|exact wQ|(apply ti (λ_=>rfl)))):P:=p
theorem lmq{P:Prop}(p:P:=by
 repeat (apply Lm.cons;exact rfl)
 exact Lm.nil):P:=p
theorem gnq{P:Prop}(p:P:=by
 intro _ k
 repeat' (first|exact k|exact rfl|exact Nat.le_of_ble_eq_true rfl|exact Nat.ne_of_beq_eq_false rfl|decide|apply And.intro)):P:=p
theorem au{P:Prop}(p:P:=by
 repeat' (first
  |(show WO _ _ _ _;first
    |apply OT
    |(apply st 1;exact rfl;first|exact λ_ k=>k|exact λ_ k=>⟨rfl,k⟩)
    |(apply zi;exact rfl;assumption)
    |(apply wB;exact rfl;assumption)
    |(apply AAf;exact rfl;exact OD)
    |(apply uq;exact rfl;assumption;exact rfl)
    |(apply uo;exact rfl;assumption;exact rfl)
    |(apply s9;assumption;exact h;infer_instance;exact rfl;exact λ_=>rfl;intro x o h)|(apply od;exact h;infer_instance;exact rfl;exact rfl;exact rfl;decide;exact rfl;exact λ_=>rfl;exact λ_=>rfl;intro x o B h;rotate_left;intro x o B h;rotate_left)|(apply AA9;exact rfl;exact h;infer_instance;intro x c h;apply st 3;exact rfl;first|exact λ_ k=>⟨_,⟨c,rfl⟩,λ_=>k⟩|exact λ_ k=>⟨_,⟨c,.inl rfl⟩,λ_=>k⟩|exact λ_ k=>⟨_,⟨c,.inr rfl⟩,λ_=>k⟩|exact λ_ k=>⟨_,⟨c,.inr lnq⟩,λ_=>k⟩|exact λ_ k=>⟨_,c,λ_=>k⟩|exact λ_ k=>⟨_,c,k⟩|exact λ_ k=>⟨rfl,_,_,.inl c,λ_=>k⟩|exact λ_ k=>⟨⟨rfl,Nat.ne_of_beq_eq_false rfl⟩,_,_,c,λ_=>k⟩|exact λ_ k=>⟨Nat.ne_of_beq_eq_false rfl,_,c,λ_=>k⟩|exact λ_ k=>⟨rfl,_,_,_,rfl,c,λ_=>k⟩|exact λ_ k=>⟨⟨Nat.ne_of_beq_eq_false rfl,rfl⟩,rfl,rfl,_,_,rfl,c,λ_=>k⟩)
    |(apply vM;exact h;exact rfl;exact rfl;exact OD;exact OD;infer_instance;intro x o h)
    |(apply ABA;exact rfl;exact h;intro x o h;first|(apply AAc o;exact rfl;exact rfl;exact OD;exact rfl)|(apply sZ o;exact rfl;exact rfl;exact OD;exact OD;exact rfl)|(apply AAo o;exact rfl;exact OD;exact rfl;exact rfl)|(apply xY o;exact rfl;exact rfl)|(apply xZ o;exact rfl;exact rfl;exact rfl)|(apply AAr o;exact rfl;exact rfl;exact OD;exact rfl)|(apply xP o;exact rfl;exact rfl;exact OD;exact OD;exact rfl;exact rfl;decide)|(apply xQ o;exact rfl;exact rfl;exact rfl;exact rfl;exact rfl;exact rfl;decide;exact rfl;exact rfl)|(apply AAa o;exact rfl;exact rfl;exact rfl;exact rfl;exact rfl;decide)|(apply xV o;exact rfl;exact rfl;exact rfl)|(apply AAs o;exact rfl;exact rfl;exact rfl;exact rfl)|(apply se o;exact rfl;exact rfl;exact rfl;exact rfl)|(apply xU o;exact rfl;exact rfl;exact rfl)|(apply sd o;exact rfl;exact rfl;exact rfl;exact rfl))
    |(apply xa;exact rfl;exact OD)
    |(apply vN;(with_reducible exact h);infer_instance;exact rfl;exact rfl;exact rfl;intro x o h)
    |(apply xR;exact rfl;exact rfl;exact rfl;exact rfl)
    |(apply vO;exact rfl;exact rfl;exact rfl;exact ntq)
    |(apply cW;exact rfl;exact rfl;exact rfl)
    |(apply yU;(with_reducible exact h);infer_instance;exact rfl;exact rfl;exact rfl;intro x o h)
    |(apply r8;exact rfl;exact rfl;exact rfl)
    |(apply yT;exact rfl;exact rfl;exact rfl;exact rfl)
    |(apply vZ;exact rfl;exact rfl;exact rfl)
    |(apply vd;exact rfl;exact rfl;exact rfl;exact rfl)
    |(apply yc;exact rfl;exact rfl;exact rfl;exact rfl;exact rfl;exact nlq)
    |(apply ve;exact rfl;exact rfl;exact rfl;decide;exact rfl;exact nlq)
    |(apply AAg;exact rfl;exact rfl)
    |(apply AAh;exact rfl;exact rfl)
    |(apply st 2;exact rfl;exact gnq)
    |(apply sn;exact rfl;exact gnq)
    |(apply ABS;exact rfl)
    |(apply AAd;exact rfl)
    |(apply s8;exact h;infer_instance;exact rfl;exact λ_=>rfl;intro x o h)
    |(apply yZ;exact h;exact rfl;exact rfl;intro x o h)
    |(apply ya;exact h;exact rfl;exact rfl;intro x o h)
    |(apply yH;exact h;exact rfl;exact rfl;decide;intro x o h)
    |(apply vc;exact h;exact rfl;exact rfl;intro x o h)
    |(apply vH;exact rfl;exact rfl;infer_instance;exact rfl;exact rfl;exact rfl)
    |(apply vJ;exact rfl;exact rfl;infer_instance;exact rfl;exact rfl;exact rfl)
    |refine vI rfl rfl rfl rfl rfl ?_
    |refine vK rfl rfl rfl rfl rfl ?_
    |(apply yO;exact rfl;(with_reducible exact h);intro A B h;rotate_left;intro A B h;rotate_left)
    |(apply yM;exact rfl;(with_reducible exact h);intro A B h;rotate_left;intro A B h;rotate_left)
    |(apply yQ h (ho:=rfl);exact sK;exact rfl;exact rfl;intro v A B h;rotate_left;intro v A B h;rotate_left;intro v h;rotate_left)
    |(apply yP h (ho:=rfl);exact sK;exact rfl;exact rfl;intro v A B h;rotate_left;intro v A B h;rotate_left;intro v h;rotate_left)
    |(apply yL rfl;exact sK;exact rfl;exact rfl;intro A B;rotate_left;intro A B;rotate_left 3)
    |(apply yK rfl;exact sK;exact rfl;exact rfl;intro A B;rotate_left;intro A B;rotate_left 3)
    |apply vX
    |(apply vb;exact rfl;exact lmq;exact λ_=>rfl;infer_instance)|(apply va;exact rfl;exact lmq;exact λ_=>rfl)
    |(apply yV;exact rfl;exact rfl)
    |(apply yJ;exact rfl;infer_instance)
    |(apply vf;exact rfl;exact rfl;exact rfl;exact λ_=>rfl;assumption;exact rfl;exact rfl;exact rfl)|(apply vg;exact rfl;exact rfl;exact rfl;exact λ_=>rfl;assumption;exact rfl;exact rfl;exact rfl)|(apply yh;exact rfl;exact rfl;exact rfl;exact λ_=>rfl;assumption;exact rfl;exact rfl;exact rfl)|(apply yg;exact rfl;exact rfl;exact rfl;exact λ_=>rfl;assumption;exact rfl;exact rfl;exact rfl)|(apply vj;assumption;exact rfl;exact rfl;exact rfl;exact rfl;exact λ_=>rfl;assumption;exact rfl;exact rfl;exact rfl;exact rfl)|(apply vh;exact rfl;exact rfl;exact rfl;exact rfl;exact λ_=>rfl;assumption;exact rfl;exact rfl;exact rfl;exact rfl)|(apply vk;assumption;exact rfl;exact rfl;exact rfl;exact λ_=>rfl;exact rfl;exact ntq;exact rfl;exact λ_ _ _=>rfl;assumption;exact rfl;exact rfl)|(apply yi;exact rfl;exact rfl;exact rfl;exact λ_=>rfl;exact rfl;assumption;exact rfl;exact rfl)|(apply oi;exact h;infer_instance;exact rfl;exact rfl;exact λ_=>rfl;exact λ_=>rfl;intro x o h)|(apply oh;exact h;infer_instance;exact rfl;exact λ_=>rfl;exact λ_=>rfl;intro x o h)
    |(apply yR;exact h;exact rfl;exact OD;intro u h)
    |(apply sa;exact rfl;exact rfl;intro z D;replace h:=tL h z D)
    |(apply xT;exact rfl)
    |(apply yW;exact h;exact rfl;exact rfl;exact rfl;exact OD;intro x o h)
    |(apply AAk;exact rfl;exact rfl;exact OD;assumption)
    |(apply yY;exact h;exact rfl;exact rfl;exact rfl;exact OD;exact λ_=>rfl;assumption;intro x o h)|(apply AAl;exact rfl;exact rfl;exact rfl;exact OD;exact λ_=>rfl;assumption;assumption;exact rfl;exact rfl;exact rfl;exact rfl)
    |(apply vL;exact h;exact rfl;exact rfl;exact rfl;exact rfl;exact OD;exact rfl;exact rfl;decide;exact rfl;intro x o h)
    |(apply oe;exact h;infer_instance;exact rfl;exact λ_=>rfl;exact λ_=>rfl;exact λ_=>rfl;intro x o h)
    |(apply AAi;intro b;have K:=K b))
  |(show WP _ _ _ _;first
    |with_reducible apply yI
    |apply LY
    |apply Qp
    |(apply vS;exact rfl)
    |(apply yb;exact rfl;exact rfl)
    |apply cf
    |apply jm
    |apply lm
    |(apply Su;exact rfl;with_reducible rfl)
    |(apply St;exact rfl;with_reducible rfl)
    |(apply vY;exact rfl;exact h;assumption;exact rfl;intro w B h;rotate_left;intro w B h;rotate_left;intro w h;rotate_left)
    |(apply vQ;exact rfl;exact h;assumption;intro h)
    |(apply vP;exact rfl;exact h;assumption;intro h)
    |(apply vR;exact rfl;exact h;intro B h;rotate_left;intro B h;rotate_left)
    |(apply Su;exact rfl;apply dlt;assumption)
    |(apply St;exact rfl;apply ABQ;assumption)
    |(apply vT;(first|assumption|(apply HB.a;assumption));exact h;exact C;exact sA;exact rfl;exact rfl;exact λ_ _=>rfl;intro i s r hi h C;rotate_left;intro i s hi;clear h;rotate_left;intro s h;rotate_left)
    |(apply vW;(first|assumption|(apply HB.a;assumption));assumption;exact rfl;exact h;exact C;exact sA;exact rfl;exact rfl;exact λ_ _=>rfl;intro i s r hi h C;rotate_left;intro i s hi;clear h;rotate_left;intro s h;rotate_left)
    |(apply vV;(first|assumption|(apply HB.a;assumption));exact h;exact C;exact sA;exact rfl;exact rfl;exact λ_ _=>rfl;intro i s r hi h C;rotate_left;intro i s hi;clear h;rotate_left;intro s h;rotate_left)
    |(apply vU;(first|assumption|(apply HB.a;assumption));exact h;exact C;exact sA;exact rfl;exact rfl;exact λ_ _=>rfl;intro i s r hi h C;rotate_left;intro i s hi;clear h;rotate_left;intro s h;rotate_left)
    |(apply yf;assumption;assumption;exact rfl;exact h;exact rfl;exact rfl;intro s r h C;rotate_left;intro s h;rotate_left)
    |(apply ye;assumption;exact h;exact rfl;exact rfl;intro s r h C;rotate_left;intro s h;rotate_left)
    |(apply yd;assumption;exact h;exact rfl;exact rfl;intro s r h C;rotate_left;intro s h;rotate_left)
    |apply gm
    |cases h)
  |(show Kp _ _ _;first
    |exact JR
    |(apply Lg;exact rfl)
    |(apply zr;exact rfl)
    |(apply Lc;exact rfl)
    |(apply zv;exact rfl)
    |(apply zp;exact rfl)
    |(apply Lf;exact rfl)
    |(apply Lh;exact rfl)
    |(apply zq;exact rfl)
    |(apply zu;exact rfl)
    |(apply wP;exact rfl)
    |(apply Ld;exact rfl))
  |(show Nm _ _ _ _;first
    |exact wV
    |(apply wU;exact rfl)
    |(apply AAH;exact rfl;exact rfl)
    |(apply AAF;exact rfl;exact rfl)
    |(apply AAC;exact rfl;exact rfl)
    |(apply AAJ;exact rfl;exact rfl)
    |(apply AAB;exact rfl;exact rfl)
    |(apply AAG;exact rfl;exact rfl)
    |(apply AAI;exact rfl;exact rfl)
    |(apply AAD;exact rfl;exact rfl)
    |(apply AAE;exact rfl;exact rfl))
  |apply tX
  |(apply pR;intro j)
  |apply tW
  |exact mS rfl
  |(cases h;exact mS rfl)
  |apply dT
  |(apply tT;decide)
  |intro C
  |(cases h;first|exact rfl|exact⟨rfl⟩|exact⟨rfl,rfl⟩|exact⟨_,rfl,rfl⟩|exact⟨_,rfl,⟨rfl⟩⟩|exact⟨rfl,_,rfl,⟨rfl⟩⟩|exact⟨a_,rfl⟩|exact⟨_,rfl,a_,rfl⟩|exact⟨_,rfl,rfl,rfl⟩|exact tw (by assumption) rfl rfl a_ rfl|exact⟨_,rfl,tu (by first|assumption|decide) a_ rfl⟩)
  |exact⟨rfl,⟨rfl⟩⟩)):P:=p
end Go.Sf
