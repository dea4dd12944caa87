/- Contracts that are found by themselves: rules that take the typed text along, and the script that applies them. -/
import Derived.Test.YtbmgmpeimdomoaaGreatSfLib
set_option linter.all false
open Option renaming some->Y,none->W
open Bool renaming true->X,false->T
open List renaming map_map->w!,map_id->w?,take_of_length_le->x_,mem_cons->x!,getElem?_eq_some_iff->x?,getElem?_map->y_
open Nat renaming beq->y!,eq_of_beq_eq_true->y?,ble_self_eq_true->z_,zero_add->z!,ble->z?,blt->A_
namespace Go.Sf
class Ct(P:Program){α:Type}(x:Option α)(f:outParam FuncId)(ts:outParam Fq)(R:outParam (α->As)):Prop where
 snd:∀r,x=Y r->AS P f ts (R r)
class Ml(es:Fq){α:outParam Type}(e:outParam (α->TV))(l:outParam (List α)):Prop where
 eq:es=l.map e
class j8{α:Type}(e:α->TV)where
 un:Fq->α
 dec:∀a b,∃i:Decidable (a=b),CJ (e a).cells (e b).cells=Y (@decide (a=b) i)
class Fz(cs:List AO)(row:outParam Fq):Prop where
 h:cs.map (·.t)=row
instance(priority:=high){l:Fq}:Fz (l.map λx=>(⟨T,x⟩:AO)) l:=⟨by rw[w!];exact w? _⟩
instance(priority:=low){cs:List AO}:Fz cs (cs.map (·.t)):=⟨rfl⟩
class En(α:Type)(e:outParam (α->TV)):Prop where
class Fl{α:Type}(e:α->TV)(n:outParam Nat)(f:outParam (List α->TV)):Prop where
 eq:∀l,f l=.list n (l.map e)
structure Kp(ε:AB)(l:I2)(r:AB):Prop where
 of::out:ε.ei l=r
def look:List (Nat×EV)->Nat->Option EV
 |[],_=>W|(k,e)::r,n=>if k=n then Y e else look r n
def r0(ε:AB)(m:List (Nat×EV)):I2->AB
 |[]=>[]|s::ss=>(s,(look m s).getD (ε.get s))::r0 ε m ss
structure Nm(ε:AB)(m:List (Nat×EV))(l:I2)(r:AB):Prop where
 of::out:r0 ε m l=r
structure Rn(a b:AB):Prop where
 of::out:a=b
structure HJ{σ:Type}(n:Nat)(M:σ->List (Nat×EV)):Prop where
structure HA{σ:Type}(n F2 q i:Nat)(M:Int->σ->List (Nat×EV)):Prop where
structure HB{σ:Type}(n F2 q i:Nat)(M:Int->σ->List (Nat×EV)):Prop where
theorem HB.a{σ:Type}{n F2 q i:Nat}{M:Int->σ->List (Nat×EV)}(_:HB n F2 q i M):HA n F2 q i M:=⟨⟩
structure HW{σ:Type}(n:Nat)(M:σ->List (Nat×EV)):Prop where
structure HR{β:Type}(R:β->AB->Prop):Prop where
structure HS(n:Nat):Prop where
structure HX{α γ:Type}(n:Nat)(f:α->γ->α):Prop where
structure a7(g:Nat)(b q:Bool):Prop where
 of::out:q=b
structure WU(g:Nat)(b q:Bool):Prop where
 of::out:q=!b
def KR(n:AB->Prop)(l:I2):AB->Prop:=λe=>n (e.ei l)
section
variable{ε:AB}{s:Nat}{ss:I2}{r:AB}{m:List (Nat×EV)}
theorem I6:Kp ε [] []:=⟨rfl⟩
theorem OQ{e:EV}(h:ε.get s=e)(k:Kp ε ss r):Kp ε (s::ss) ((s,e)::r):=⟨by rw[<-k.out,<-h];rfl⟩
theorem LK{t:TV}(h:ε.get s=.tv t)(k:Kp ε ss r):Kp ε (s::ss) ((s,.tv t)::r):=OQ h k
theorem yW{t:TV}(h:ε.get s=.ow t)(k:Kp ε ss r):Kp ε (s::ss) ((s,.ow t)::r):=OQ h k
theorem LH{t:List AO}(h:ε.get s=.bx t)(k:Kp ε ss r):Kp ε (s::ss) ((s,.bx t)::r):=OQ h k
theorem yU{q o:Nat}(h:ε.get s=.bp q o)(k:Kp ε ss r):Kp ε (s::ss) ((s,.bp q o)::r):=OQ h k
theorem LJ{t:Fq}(h:ε.get s=.tp t)(k:Kp ε ss r):Kp ε (s::ss) ((s,.tp t)::r):=OQ h k
theorem LM(h:ε.get s=.undef)(k:Kp ε ss r):Kp ε (s::ss) ((s,.undef)::r):=OQ h k
theorem yZ{n:Nat}{t:Fq}(h:ε.get s=.xo n t)(k:Kp ε ss r):Kp ε (s::ss) ((s,.xo n t)::r):=OQ h k
theorem yV{q:Nat}{i:Option Nat}(h:ε.get s=.la q i)(k:Kp ε ss r):Kp ε (s::ss) ((s,.la q i)::r):=OQ h k
theorem yY(h:ε.get s=.sk)(k:Kp ε ss r):Kp ε (s::ss) ((s,.sk)::r):=OQ h k
theorem ur{t:List AO}(h:ε.get s=.oag t)(k:Kp ε ss r):Kp ε (s::ss) ((s,.oag t)::r):=OQ h k
theorem ux:Nm ε m [] []:=⟨rfl⟩
theorem uw{e:EV}(h:look m s=Y e)(k:Nm ε m ss r):Nm ε m (s::ss) ((s,e)::r):=⟨by rw[<-k.out];simp only[r0,h,Option.getD_some]⟩
theorem Qk{e:EV}(h:look m s=W)(o:ε.get s=e)(k:Nm ε m ss r):Nm ε m (s::ss) ((s,e)::r):=⟨by rw[<-k.out];simp only[r0,h,o,Option.getD_none]⟩
theorem yo{t:TV}(h:look m s=W)(o:ε.get s=.tv t)(k:Nm ε m ss r):Nm ε m (s::ss) ((s,.tv t)::r):=Qk h o k
theorem ym{t:TV}(h:look m s=W)(o:ε.get s=.ow t)(k:Nm ε m ss r):Nm ε m (s::ss) ((s,.ow t)::r):=Qk h o k
theorem yj{t:List AO}(h:look m s=W)(o:ε.get s=.bx t)(k:Nm ε m ss r):Nm ε m (s::ss) ((s,.bx t)::r):=Qk h o k
theorem yi{q o:Nat}(h:look m s=W)(p:ε.get s=.bp q o)(k:Nm ε m ss r):Nm ε m (s::ss) ((s,.bp q o)::r):=Qk h p k
theorem yn{t:Fq}(h:look m s=W)(o:ε.get s=.tp t)(k:Nm ε m ss r):Nm ε m (s::ss) ((s,.tp t)::r):=Qk h o k
theorem yp(h:look m s=W)(o:ε.get s=.undef)(k:Nm ε m ss r):Nm ε m (s::ss) ((s,.undef)::r):=Qk h o k
theorem yq{n:Nat}{t:Fq}(h:look m s=W)(o:ε.get s=.xo n t)(k:Nm ε m ss r):Nm ε m (s::ss) ((s,.xo n t)::r):=Qk h o k
theorem yk{q:Nat}{i:Option Nat}(h:look m s=W)(o:ε.get s=.la q i)(k:Nm ε m ss r):Nm ε m (s::ss) ((s,.la q i)::r):=Qk h o k
end
def PC.xl(i:Nat):PC->Option I2
 |.exit j l=>if j=i then Y l else W|.seq a b=>match a.xl i with
  |some l=>Y l|none=>b.xl i
 |.cond _ a b=>match a.xl i with
  |some l=>Y l|none=>b.xl i
 |.block _ a=>a.xl i|.loop _ a=>a.xl i|.rls _ a=>a.xl i|_=>W
def PC.last:PC->Option I2
 |.region _ l=>Y l|.draw _ _ l=>Y l|.skip l=>Y l|.exit _ l=>Y l|.seq _ b=>b.last|.cond _ a _=>a.last|.block i (.loop _ b)=>b.xl i|.block _ c=>c.last|.rls _ c=>c.last|_=>W
section
variable{S:FuncId->Fq->As->Prop}{K:AB->Prop}{os:List PR}{ε:AB}{d:Nat}
section code
variable{n t:AB->Prop}{x:Nat->AB->Prop}{a b:PC}{l:I2}{env':AB}
theorem N9(o:Kp ε l env')(h:n env'):WO S (KR n l) [] ε:=⟨by show n (ε.ei l);rw[o.out];exact h⟩
theorem Qd{ops:List PR}(h:WO S (KR n l) ops ε):WP S (.region ops l) ⟨n,x,t⟩ ε:=⟨h.out⟩
theorem tz{D:I2}{ops:List PR}(hd:Sd ε D=X)(h:WO S (KR n l) ops ε):WP S (.draw D ops l) ⟨n,x,t⟩ ε:=⟨hd,h.out⟩
theorem LD(h:WP S a ⟨λe=>(∀s,(e.get s).WF)->WP S b ⟨n,x,t⟩ e,x,t⟩ ε):WP S (.seq a b) ⟨n,x,t⟩ ε:=xx h
theorem bA(o:Kp ε l env')(h:n env'):WP S (.skip l) ⟨n,x,t⟩ ε:=uT o.out h
theorem iL(h:t ε):WP S .ret ⟨n,x,t⟩ ε:=⟨h⟩
theorem kC{i:Nat}(o:Kp ε l env')(h:x i env'):WP S (.exit i l) ⟨n,x,t⟩ ε:=uS o.out h
theorem xB{s:Nat}{cs cs':List AO}{c:PC}{q:Q}(h:ε.get s=.bx cs)(he:cs.map AO.rel=cs')(k:WP S c q ((s,.bx cs')::ε)):WP S (.rls s c) q ε:=by
 refine ⟨?_⟩;subst he;simp only[PC.wp,h];exact k.out
theorem fA{i:Nat}(h:WP S a ⟨n,λj e=>if j=i then n e else x j e,t⟩ ε):WP S (.block i a) ⟨n,x,t⟩ ε:=Ya h
theorem wt{m:List (Nat×EV)}{e:AB}{q:Q}(he:Nm e m l env')(h:WP S a q env'):WP S a q (r0 e m l):=by rw[he.out];exact h
variable{Q:Q}
theorem tw{c:AF}{β:Type}{q:Bool}{u v:Option β}{r:β}(o:c.val ε=Y (.bool q))(h:(if q=X then u else v)=Y r)(p:q=X->u=Y r->WP S a Q ε)(w:q=T->v=Y r->WP S b Q ε):WP S (.cond c a b) Q ε:=
 XZ o (λe=>p e (Xu e h)) (λe=>w e (Xt e h))
theorem uC{σ β:Type}{i:Nat}{M:σ->List (Nat×EV)}{q:Bool}{u v:Option σ}{k:σ->Option β}{r:β}(p:(AF.s i).val ε=Y (.bool q))(h:((if q=X then u else v).bind k)=Y r)(_:HJ i M)(_:(PC.cond (.s i) a b).last=Y l)
  (A:∀w,q=X->u=Y w->WP S a ⟨λe=>Rn e (r0 ε (M w) l),x,t⟩ ε)(B:∀w,q=T->v=Y w->WP S b ⟨λe=>Rn e (r0 ε (M w) l),x,t⟩ ε)(C:∀w,k w=Y r->n (r0 ε (M w) l)):WP S (.cond (.s i) a b) ⟨n,x,t⟩ ε:=by
 obtain ⟨w,o,h⟩:=bind_some h;refine xw (λe=>Rn e (r0 ε (M w) l)) ?_ (λe he=>by rw[he.out];exact C w h);exact XZ p (λe=>A w e (Xu e o)) (λe=>B w e (Xt e o))
end code
structure Bd(ε:AB)(q i:Nat)(b:Int):Prop where
 of::out:(∀s,(ε.get s).WF)->b<=9223372036854775807
section bounds
variable{q i:Nat}{α:Type}{e:α->TV}{l:List α}{es row:Fq}{n:Nat}
theorem AAD{b:Int}(h:decide (b<=9223372036854775807)=X):Bd ε q i b:=⟨λ_=>of_decide_eq_true h⟩
theorem AAI{b:Int}:Bd ε q i (AW b):=⟨λ_=>wj _⟩
theorem AAF(h:ε.get q=.tv (.list n es))(he:es=l.map e):Bd ε q i l.length:=⟨λo=>by have:=o q;rw[h]at this;exact Vz (ap this) he⟩
theorem AAG(h:ε.get q=.ow (.list n es))(he:es=l.map e):Bd ε q i l.length:=⟨λo=>by have:=o q;rw[h]at this;exact Vz (ze this) he⟩
theorem AAJ(h:ε.get q=.xo n es)(he:es=l.map e):Bd ε q i l.length:=⟨λo=>by have:=o q;rw[h]at this;exact Vz (zf this) he⟩
theorem AAH{b:ByteArray}(h:ε.get q=.tv (.str b)):Bd ε q i b.size:=⟨λo=>by have:=o q;rw[h]at this;exact tO (ap this)⟩
theorem AAE{b:Int}(h:ε.get q=.tv (.int .i64 b)):Bd ε q i b:=⟨λo=>by have:=o q;rw[h]at this;exact nB (ap this)⟩
theorem xK(h:ε.get q=.tv (.pt row))(o:row[i]?=Y (.list n es))(he:es=l.map e):Bd ε q i l.length:=⟨λp=>by have:=p q;rw[h]at this;exact Vz (iA (rD this) o) he⟩
theorem xJ{b:Int}(h:ε.get q=.tv (.pt row))(o:row[i]?=Y (.int .i64 b)):Bd ε q i b:=⟨λp=>by have:=p q;rw[h]at this;exact nB (iA (rD this) o)⟩
end bounds
section loops
variable{σ β ρ:Type}{n t:AB->Prop}{x:Nat->AB->Prop}{c:PC}{live jl:I2}{i0 F2 q i1:Nat}{lo b:Int}{s0:σ}{r:β}{k:σ->Option β}
variable{M:Int->σ->List (Nat×EV)}
theorem wk(h:∀i s,(r0 ε (M i s) live).get F2=.tv (.int .i64 i)){i:Int}{s:σ}(o:∀k,((r0 ε (M i s) live).get k).WF)(hi:i<b)(p:b<=9223372036854775807):AW (i+1)=i+1:=by
 have:=o F2;rw[h]at this;exact zg (ap this) hi p
theorem t6{f:Int->σ->Option σ}(_:HA i0 F2 q i1 M)(h:(gp f lo b s0).bind k=Y r)(p:∀s,(ε.get s).WF)(u:Bd ε q i1 b)(_:c.xl i0=Y jl)(w:ε.ei live=r0 ε (M lo s0) live)(A:∀i s,(r0 ε (M i s) live).get F2=.tv (.int .i64 i))
  (B:∀i s r,i<b->f i s=Y r->(∀k,((r0 ε (M i s) live).get k).WF)->WP S c ⟨λe=>Rn (e.ei live) (r0 ε (M (AW (i+1)) r) live),λ_ _=>False,λ_=>False⟩ (r0 ε (M i s) live))
  (C:∀i s,¬i<b->WP S c ⟨λ_=>False,λj e=>j=i0/\Rn e (r0 ε (M 0 s) jl),λ_=>False⟩ (r0 ε (M i s) live))
  (D:∀s,k s=Y r->n (r0 ε (M 0 s) jl)):WP S (.block i0 (.loop live c)) ⟨n,x,t⟩ ε:=by
 obtain ⟨o,ho,h⟩:=bind_some h;have u:=u.out p;refine tQ ho (λi s=>r0 ε (M i s) live) (λs=>r0 ε (M 0 s) jl) w (λi s r hi hf p=>⟨PC.gt S c _ _ (B i s r hi hf p).out _ (λe he=>?_) (λ_ _ h=>h) (λ_ h=>h)⟩) (λi s hi=>⟨PC.gt S c _ _ (C i s hi).out _ (λ_ h=>h) (λj e h=>⟨h.1,h.2.out⟩) (λ_ h=>h)⟩) (D o h);have:=he.out;rw[wk A p hi u]at this;exact this
variable{kr:ρ->Option β}
theorem Ym{f:Int->σ->Option (B2 σ ρ)}{R:ρ->AB->Prop}(h:d6 (eE f lo b s0) k kr=Y r)(w:b<=9223372036854775807)(A:ε.ei live=r0 ε (M lo s0) live)(B:∀i s,(r0 ε (M i s) live).get F2=.tv (.int .i64 i))
  (C:∀i s r,i<b->f i s=Y r->(∀k,((r0 ε (M i s) live).get k).WF)->WP S c ⟨λe=>∃s',r=.next s'/\Rn (e.ei live) (r0 ε (M (AW (i+1)) s') live),λj e=>j=i0/\∃s',r=.brk s'/\Rn e (r0 ε (M 0 s') jl),λe=>∃v,r=.ret v/\R v e⟩ (r0 ε (M i s) live))
  (D:∀i s,¬i<b->WP S c ⟨λ_=>False,λj e=>j=i0/\Rn e (r0 ε (M 0 s) jl),λ_=>False⟩ (r0 ε (M i s) live))
  (E:∀s,k s=Y r->n (r0 ε (M 0 s) jl))(F:∀v e,kr v=Y r->R v e->t e):WP S (.block i0 (.loop live c)) ⟨n,x,t⟩ ε:=by
 obtain ⟨o,ho,h⟩:=YT h;refine iD ho (λi s=>r0 ε (M i s) live) (λs=>r0 ε (M 0 s) jl) R A (λi s r hi hf u=>⟨PC.gt S c _ _ (C i s r hi hf u).out _ (λe he=>?_) (λj e he=>?_) (λ_ h=>h)⟩) (λi s hi=>⟨PC.gt S c _ _ (D i s hi).out _ (λ_ h=>h) (λj e h=>⟨h.1,h.2.out⟩) (λ_ h=>h)⟩) (λs G=>E s (gq h G)) (λv e hv=>F v e (gu h hv))
 .obtain⟨s',p,e2⟩:=he;have e2:=e2.out;rw[wk B u hi w]at e2;exact⟨s',p,e2⟩
 .obtain⟨e0,s',p,e2⟩:=he;exact⟨e0,s',p,e2.out⟩
theorem uA{f:Int->σ->Option (B2 σ β)}{R:β->AB->Prop}(_:HA i0 F2 q i1 M)(_:HR R)(o:R r=t)(h:d6 (eE f lo b s0) k (λv=>Y v)=Y r)(p:∀s,(ε.get s).WF)(u:Bd ε q i1 b)(_:c.xl i0=Y jl)(w:ε.ei live=r0 ε (M lo s0) live)(A:∀i s,(r0 ε (M i s) live).get F2=.tv (.int .i64 i))
  (B:∀i s r,i<b->f i s=Y r->(∀k,((r0 ε (M i s) live).get k).WF)->WP S c ⟨λe=>∃s',r=.next s'/\Rn (e.ei live) (r0 ε (M (AW (i+1)) s') live),λj e=>j=i0/\∃s',r=.brk s'/\Rn e (r0 ε (M 0 s') jl),λe=>∃v,r=.ret v/\R v e⟩ (r0 ε (M i s) live))
  (C:∀i s,¬i<b->WP S c ⟨λ_=>False,λj e=>j=i0/\Rn e (r0 ε (M 0 s) jl),λ_=>False⟩ (r0 ε (M i s) live))
  (D:∀s,k s=Y r->n (r0 ε (M 0 s) jl)):WP S (.block i0 (.loop live c)) ⟨n,x,t⟩ ε:=
 Ym h (u.out p) w A B C D (λv e hv E=>by cases hv;rw[<-o];exact E)
variable{τ:Type}
theorem t8{f:Int->σ->Option (B2 σ ρ)}{k:σ->Option (B2 τ ρ)}{r:B2 τ ρ}{R:ρ->AB->Prop}(_:HA i0 F2 q i1 M)(h:d6 (eE f lo b s0) k (λv=>Y (.ret v))=Y r)(o:∀s,(ε.get s).WF)(p:Bd ε q i1 b)(_:c.xl i0=Y jl)(u:ε.ei live=r0 ε (M lo s0) live)(w:∀i s,(r0 ε (M i s) live).get F2=.tv (.int .i64 i))
  (A:∀i s r,i<b->f i s=Y r->(∀k,((r0 ε (M i s) live).get k).WF)->WP S c ⟨λe=>∃s',r=.next s'/\Rn (e.ei live) (r0 ε (M (AW (i+1)) s') live),λj e=>j=i0/\∃s',r=.brk s'/\Rn e (r0 ε (M 0 s') jl),λe=>∃v,r=.ret v/\R v e⟩ (r0 ε (M i s) live))
  (B:∀i s,¬i<b->WP S c ⟨λ_=>False,λj e=>j=i0/\Rn e (r0 ε (M 0 s) jl),λ_=>False⟩ (r0 ε (M i s) live))
  (C:∀s,k s=Y r->n (r0 ε (M 0 s) jl)):WP S (.block i0 (.loop live c)) ⟨n,x,λe=>∃v,r=.ret v/\R v e⟩ ε:=
 Ym h (p.out o) u w A B C (λv e hv D=>by cases hv;exact⟨v,rfl,D⟩)
theorem t7{f:Int->σ->Option (B2 σ ρ)}(_:HA i0 F2 q i1 M)(h:d6 (eE f lo b s0) k (λ_=>W)=Y r)(o:∀s,(ε.get s).WF)(p:Bd ε q i1 b)(_:c.xl i0=Y jl)(u:ε.ei live=r0 ε (M lo s0) live)(w:∀i s,(r0 ε (M i s) live).get F2=.tv (.int .i64 i))
  (A:∀i s r,i<b->f i s=Y r->(∀k,((r0 ε (M i s) live).get k).WF)->WP S c ⟨λe=>∃s',r=.next s'/\Rn (e.ei live) (r0 ε (M (AW (i+1)) s') live),λj e=>j=i0/\∃s',r=.brk s'/\Rn e (r0 ε (M 0 s') jl),λ_=>∃v,r=.ret v/\False⟩ (r0 ε (M i s) live))
  (B:∀i s,¬i<b->WP S c ⟨λ_=>False,λj e=>j=i0/\Rn e (r0 ε (M 0 s) jl),λ_=>False⟩ (r0 ε (M i s) live))
  (C:∀s,k s=Y r->n (r0 ε (M 0 s) jl)):WP S (.block i0 (.loop live c)) ⟨n,x,t⟩ ε:=
 Ym (R:=λ_ _=>False) h (p.out o) u w A B C (λv e hv _=>by cases hv)
theorem dy{f:σ->Option (B2 σ ρ)}{R:ρ->AB->Prop}{M:σ->List (Nat×EV)}(h:d6 (FK f s0) k kr=Y r)(u:ε.ei live=r0 ε (M s0) live)
  (w:∀s r,f s=Y r->(∀k,((r0 ε (M s) live).get k).WF)->WP S c ⟨λe=>∃s',r=.next s'/\Rn (e.ei live) (r0 ε (M s') live),λj e=>j=i0/\∃s',r=.brk s'/\Rn e (r0 ε (M s') jl),λe=>∃v,r=.ret v/\R v e⟩ (r0 ε (M s) live))
  (A:∀s,k s=Y r->n (r0 ε (M s) jl))(B:∀v e,kr v=Y r->R v e->t e):WP S (.block i0 (.loop live c)) ⟨n,x,t⟩ ε:=by
 obtain ⟨o,ho,h⟩:=YT h;refine wo ho (λs=>r0 ε (M s) live) (λs=>r0 ε (M s) jl) R u (λs r hf C=>⟨PC.gt S c _ _ (w s r hf C).out _ (λe he=>?_) (λj e he=>?_) (λ_ h=>h)⟩) (λs D=>A s (gq h D)) (λv e hv=>B v e (gu h hv))
 .obtain⟨s',p,e2⟩:=he;exact⟨s',p,e2.out⟩
 .obtain⟨e0,s',p,e2⟩:=he;exact⟨e0,s',p,e2.out⟩
theorem xF{f:σ->Option (B2 σ β)}{R:β->AB->Prop}{M:σ->List (Nat×EV)}(_:HW i0 M)(_:HR R)(o:R r=t)(h:d6 (FK f s0) k (λv=>Y v)=Y r)(_:c.xl i0=Y jl)(p:ε.ei live=r0 ε (M s0) live)
  (u:∀s r,f s=Y r->(∀k,((r0 ε (M s) live).get k).WF)->WP S c ⟨λe=>∃s',r=.next s'/\Rn (e.ei live) (r0 ε (M s') live),λj e=>j=i0/\∃s',r=.brk s'/\Rn e (r0 ε (M s') jl),λe=>∃v,r=.ret v/\R v e⟩ (r0 ε (M s) live))
  (w:∀s,k s=Y r->n (r0 ε (M s) jl)):WP S (.block i0 (.loop live c)) ⟨n,x,t⟩ ε:=
 dy h p u w (λv e hv A=>by cases hv;rw[<-o];exact A)
theorem xE{f:σ->Option (B2 σ ρ)}{k:σ->Option (B2 τ ρ)}{r:B2 τ ρ}{R:ρ->AB->Prop}{M:σ->List (Nat×EV)}(_:HW i0 M)(h:d6 (FK f s0) k (λv=>Y (.ret v))=Y r)(_:c.xl i0=Y jl)(o:ε.ei live=r0 ε (M s0) live)
  (p:∀s r,f s=Y r->(∀k,((r0 ε (M s) live).get k).WF)->WP S c ⟨λe=>∃s',r=.next s'/\Rn (e.ei live) (r0 ε (M s') live),λj e=>j=i0/\∃s',r=.brk s'/\Rn e (r0 ε (M s') jl),λe=>∃v,r=.ret v/\R v e⟩ (r0 ε (M s) live))
  (u:∀s,k s=Y r->n (r0 ε (M s) jl)):WP S (.block i0 (.loop live c)) ⟨n,x,λe=>∃v,r=.ret v/\R v e⟩ ε:=
 dy h o p u (λv e hv w=>by cases hv;exact⟨v,rfl,w⟩)
theorem xD{f:σ->Option (B2 σ ρ)}{M:σ->List (Nat×EV)}(_:HW i0 M)(h:d6 (FK f s0) k (λ_=>W)=Y r)(_:c.xl i0=Y jl)(o:ε.ei live=r0 ε (M s0) live)
  (p:∀s r,f s=Y r->(∀k,((r0 ε (M s) live).get k).WF)->WP S c ⟨λe=>∃s',r=.next s'/\Rn (e.ei live) (r0 ε (M s') live),λj e=>j=i0/\∃s',r=.brk s'/\Rn e (r0 ε (M s') jl),λ_=>∃v,r=.ret v/\False⟩ (r0 ε (M s) live))
  (u:∀s,k s=Y r->n (r0 ε (M s) jl)):WP S (.block i0 (.loop live c)) ⟨n,x,t⟩ ε:=
 dy (R:=λ_ _=>False) h o p u (λv e hv _=>by cases hv)
end loops
end
end Go.Sf
namespace Go.Sf
section
variable{P:Program}{S:FuncId->Fq->As->Prop}{K:AB->Prop}{os:List PR}{ε:AB}{d:Nat}{α β:Type}{k:α->Option β}{r:β}
theorem bnd{G:Prop}{x:Option α}(h:x.bind k=Y r)(g:∀a,x=Y a->k a=Y r->G):G:=by
 obtain ⟨a,o,h⟩:=bind_some h;exact g a o h
theorem AAL{α:Type}{x:Option α}{k:α->Option β}{op:AE}{dd:Option Nat}(_:op.AbY=4)(h:x.bind k=Y r)(g:∀a,x=Y a->k a=Y r->WO S K (⟨dd,op,W⟩::os) ε):WO S K (⟨dd,op,W⟩::os) ε:=bnd h g
theorem AAK{x:Option α}{f:FuncId}{ts:Fq}{R:α->As}{op:AE}{dd:Option Nat}(_:op.AbY=3)(h:x.bind k=Y r)(c:Ct P x f ts R)(g:∀a,AS P f ts (R a)->k a=Y r->WO (AS P) K (⟨dd,op,W⟩::os) ε):WO (AS P) K (⟨dd,op,W⟩::os) ε:=bnd h λa o=>g a (c.snd a o)
theorem th{γ:Type}{k:List γ->Option β}{n s:Nat}{y:AF}{es o:Fq}{e:γ->TV}{l m:List γ}{f:List γ->TV}(h:(Ak l m).bind k=Y r)(u:ε.get s=.ow (.list n es))(w:y.val ε=Y (.list n o))(he:es=l.map e)(hf:o=m.map e)(c:Fl e n f)
  (A:∀x,Ak l m=Y x->k x=Y r->WO S K os ((d,.ow (f x))::(s,.tv (.list n es))::ε)):WO S K (⟨Y d,.app n (.s s) y,W⟩::os) ε:=by
 obtain ⟨x,p,h⟩:=bind_some h;have:=A x p h;rw[c.eq]at this;exact qr p u w he hf rfl this
section ints
variable{k:Int->Option β}{x y:AF}{ik:IntKind}{a b:Int}
theorem w9(h:(quo a b).bind k=Y r)(p:x.val ε=Y (.int ik a))(u:y.val ε=Y (.int ik b))(w:∀q,quo a b=Y q->k q=Y r->WO S K os ((d,.tv (.int ik (ik.wrap q)))::ε)):WO S K (⟨Y d,.bin .i .quo x y,W⟩::os) ε:=bnd h λq o h=>zV o p u (w q o h)
theorem xA(h:(J6 a b).bind k=Y r)(p:x.val ε=Y (.int ik a))(u:y.val ε=Y (.int ik b))(w:∀q,J6 a b=Y q->k q=Y r->WO S K os ((d,.tv (.int ik q))::ε)):WO S K (⟨Y d,.bin .i .rem x y,W⟩::os) ε:=bnd h λq o h=>zW o p u (w q o h)
theorem ws{op:BinOp}{o:IntKind}(h:(Mv ik op a b).bind k=Y r)(u:x.val ε=Y (.int ik a))(A:y.val ε=Y (.int o b))(B:ik=o\/op=.shl\/op=.shr)(C:∀q,Mv ik op a b=Y q->k q=Y r->WO S K os ((d,.tv (.int ik q))::ε)):WO S K (⟨Y d,.bin .w op x y,W⟩::os) ε:=bnd h λq p h=>zE p u A B (C q p h)
end ints
theorem uG{k:ByteArray->Option β}{x y:AF}{u v:ByteArray}(h:(U2 u v).bind k=Y r)(p:x.val ε=Y (.str u))(w:y.val ε=Y (.str v))(A:∀q,U2 u v=Y q->k q=Y r->WO S K os ((d,.tv (.str q))::ε)):WO S K (⟨Y d,.bin .s .add x y,W⟩::os) ε:=bnd h λq o h=>wH o p w (A q o h)
theorem w3{k:Unit->Option β}{x:AF}{n:Nat}{es:Fq}{e:α->TV}{l:List α}(h:(Wr l).bind k=Y r)(o:x.val ε=Y (.list n es))(he:es=l.map e)(p:∀u,k u=Y r->WO S K os ((d,.tv (.bool T))::ε)):WO S K (⟨Y d,.isn x,W⟩::os) ε:=by
 obtain ⟨u,A,h⟩:=bind_some h;refine qt o he λb w=>?_;obtain rfl:=km A w;exact p u h
theorem qN{x:AF}{n:Nat}{e:α->TV}{a:α}(h:A7 ε (x.ev ε)=Y (e a).cells)(o:y! (e a).cells.length n=X)(p:TV.agg (e a).cells=e a)(u:WO S K os ((d,.tv (e a))::ε)):WO S K (⟨Y d,.lda x n,W⟩::os) ε:=by
 have o:=y? o;exact qu h (by rw[o];exact z_ n) (by rw[x_ U,p]) u
theorem w4{s n:Nat}{cs:List AO}{e:α->TV}{a:α}(h:ε.get s=.bx cs)(p:cs.map (·.t)=(e a).cells)(o:y! (e a).cells.length n=X)(u:TV.agg (e a).cells=e a)(w:WO S K os ((d,.tv (e a))::ε)):WO S K (⟨Y d,.ldb s n,W⟩::os) ε:=by
 have o:=y? o;exact zL h (by rw[p,o];exact z_ n) (by rw[p,x_ U,u]) w
variable{v:AF}
theorem uH{n s:Nat}{cs:List AO}{t:TV}(o:ε.get s=.bx cs)(hv:v.ev ε=.tv t)(p:t.cells.length=n)(h:y! n cs.length=X)(u:WO S K os ((s,.bx (t.cells.map (⟨T,·⟩)))::ε)):WO S K (⟨W,.stb n s v,W⟩::os) ε:=by
 have h:=y? h;refine zY o hv p (by rw[z!,h];exact z_ _) ?_ u;rw[List.take_zero,z!,h,List.drop_length,List.append_nil,List.nil_append]
theorem uD{x:AF}{n:Nat}{e:α->TV}{a:α}(h:A7 ε (x.ev ε)=Y (((e a).cells.map λt=>(⟨T,t⟩:AO)).map (·.t)))(o:y! (e a).cells.length n=X)(p:TV.agg (e a).cells=e a)(u:WO S K os ((d,.tv (e a))::ε)):WO S K (⟨Y d,.lda x n,W⟩::os) ε:=
 qN (by rw[h,w!];congr 1;exact w? _) o p u
def iN(n:Nat):Fq->Bool
 |[]=>X|t::ts=>y! t.cells.length n&&iN n ts
theorem bK{n:Nat}:∀{ts:Fq},iN n ts=X->∀t∈ts,t.cells.length=n
 |[],_,_,h=>c?
 |t::ts,h,u,o=>by
  simp only[iN,gN]at h;rcases x!.1 o with rfl|o
  .exact y? h.1
  .exact bK h.2 u o
variable{parts:List AF}
theorem w6{n:Nat}{ts:Fq}(h:vals ε parts=Y ts)(o:iN n ts=X)(p:WO S K os ((d,.ow (.list n ts))::ε)):WO S K (⟨Y d,.lst n parts,W⟩::os) ε:=by
 have:=p.out;refine⟨?_⟩;simp only[wpOps,PR.wp,AE.wp,h,Ai];exact⟨bK o,this⟩
variable{zero:Fq}
theorem ti{parts:List (Nat×Nat×AF)}{ts:List (Nat×Nat×TV)}{cs:Fq}{e:α->TV}{a:α}(h:(Y a).bind k=Y r)(_:En α e)(o:E4 ε parts=Y ts)(p:E8 zero ts=Y cs)(he:TV.agg cs=e a)(u:∀x,x=a->k x=Y r->WO S K os ((d,.tv (e x))::ε)):WO S K (⟨Y d,.bld zero parts,W⟩::os) ε:=by
 rw [Option.bind_some]at h;exact am o p he (u a rfl h)
theorem w5{x:AF}{n:Nat}{cs:Fq}{e:α->TV}{a:α}(h:(Y a).bind k=Y r)(_:En α e)(o:A7 ε (x.ev ε)=Y cs)(p:z? n cs.length=X)(he:TV.agg (cs.take n)=e a)(u:∀x,x=a->k x=Y r->WO S K os ((d,.tv (e x))::ε)):WO S K (⟨Y d,.lda x n,W⟩::os) ε:=by
 rw [Option.bind_some]at h;exact qu o p he (u a rfl h)
inductive Lm{α:Type}(e:α->TV):Fq->List α->Prop
 |nil:Lm e [] []
 |cons {t:TV} {ts:Fq} {a:α} {l:List α}:t=e a->Lm e ts l->Lm e (t::ts) (a::l)
theorem Lm.eq{e:α->TV}{ts:Fq}{l:List α}(h:Lm e ts l):ts=l.map e:=by
 induction h with
 |nil=>rfl|cons h _ o=>rw[h,o];rfl
theorem uE{n:Nat}{ts:Fq}{e:α->TV}{l:List α}(h:vals ε parts=Y ts)(o:Lm e ts l)(p:∀a,(e a).cells.length=n)(u:WO S K os ((d,.ow (.list n (l.map e)))::ε)):WO S K (⟨Y d,.lst n parts,W⟩::os) ε:=qv h o.eq p u
theorem uF{n:Nat}{ts:Fq}{e:α->TV}{l:List α}{f:List α->TV}(h:vals ε parts=Y ts)(p:Lm e ts l)(u:∀a,(e a).cells.length=n)(c:Fl e n f)(o:WO S K os ((d,.ow (f l))::ε)):WO S K (⟨Y d,.lst n parts,W⟩::os) ε:=by
 rw [c.eq]at o;exact qv h p.eq u o
theorem ta{e:α->TV}{n:I2}{x y:AF}{a:α}{cs:Fq}(o:x.val ε=Y (e a))(p:y.val ε=Y (.agg cs))[c:j8 e][i:Decidable (a=c.un cs)](u:TV.agg (e a).cells=e a)(w:(e (c.un cs)).cells=cs)(A:(e a).cells.map TV.kd=n)(B:WO S K os ((d,.tv (.bool (decide (a=c.un cs))))::ε)):WO S K (⟨Y d,.bin (.a n) .eql x y,W⟩::os) ε:=by
 obtain ⟨C,h⟩:=c.dec a (c.un cs);have:i=C:=Subsingleton.elim _ _;subst this;rw[<-u]at o;rw[w]at h;exact mN o p A h B
theorem te{e:α->TV}{n:I2}{x y:AF}{a:α}{cs:Fq}(o:x.val ε=Y (e a))(p:y.val ε=Y (.agg cs))[c:j8 e][i:Decidable (a=c.un cs)](u:TV.agg (e a).cells=e a)(w:(e (c.un cs)).cells=cs)(A:(e a).cells.map TV.kd=n)(B:WO S K os ((d,.tv (.bool (!decide (a=c.un cs))))::ε)):WO S K (⟨Y d,.bin (.a n) .neq x y,W⟩::os) ε:=by
 obtain ⟨C,h⟩:=c.dec a (c.un cs);have:i=C:=Subsingleton.elim _ _;subst this;rw[<-u]at o;rw[w]at h;exact mO o p A h B
theorem tZ{e:α->TV}{n:I2}{x y:AF}{a b:α}{i:Decidable (a=b)}(o:x.val ε=Y (e a))(p:y.val ε=Y (e b))(c:j8 e)(u:TV.agg (e a).cells=e a)(w:TV.agg (e b).cells=e b)(A:(e a).cells.map TV.kd=n)(B:WO S K os ((d,.tv (.bool (decide (a=b))))::ε)):WO S K (⟨Y d,.bin (.a n) .eql x y,W⟩::os) ε:=by
 obtain ⟨C,h⟩:=c.dec a b;have:i=C:=Subsingleton.elim _ _;subst this;rw[<-u]at o;rw[<-w]at p;exact mN o p A h B
theorem td{e:α->TV}{n:I2}{x y:AF}{a b:α}{i:Decidable (a=b)}(o:x.val ε=Y (e a))(p:y.val ε=Y (e b))(c:j8 e)(u:TV.agg (e a).cells=e a)(w:TV.agg (e b).cells=e b)(A:(e a).cells.map TV.kd=n)(B:WO S K os ((d,.tv (.bool (!decide (a=b))))::ε)):WO S K (⟨Y d,.bin (.a n) .neq x y,W⟩::os) ε:=by
 obtain ⟨C,h⟩:=c.dec a b;have:i=C:=Subsingleton.elim _ _;subst this;rw[<-u]at o;rw[<-w]at p;exact mO o p A h B
section calls
variable{x:Option α}{f:FuncId}{ts:Fq}{R:α->As}{args:List AF}
theorem wu{s:Nat}{cs:List AO}{row:Fq}(o:ε.get s=.bx cs)(f:Fz cs row)(k:WO S K os ((s,.tv (.pt row))::ε)):WO S K (⟨W,.frz s,W⟩::os) ε:=zI o f.h k
theorem rJ{t:α->TV}(_:HS d)(h:x.bind k=Y r)(c:Ct P x f ts R)(p:vals ε args=Y ts)(u:∀a,R a=.own (t a))(w:∀a,x=Y a->k a=Y r->WO (AS P) K os ((d,.tv (t a))::ε)):WO (AS P) K (⟨Y d,.call f args,W⟩::os) ε:=by
 obtain ⟨a,o,h⟩:=bind_some h;have:=c.snd a o;rw[u]at this;exact wC p (uz this) (w a o h)
theorem rH{t:α->List AO}(h:x.bind k=Y r)(c:Ct P x f ts R)(p:vals ε args=Y ts)(u:∀a,R a=.oag (t a))(w:∀a,x=Y a->k a=Y r->WO (AS P) K os ((d,.tv (.agg ((t a).map λc=>c.rel.t)))::ε)):WO (AS P) K (⟨Y d,.call f args,W⟩::os) ε:=by
 obtain ⟨a,o,h⟩:=bind_some h;have:=c.snd a o;rw[u]at this;exact tD p this rfl (w a o h)
theorem nI{γ:Type}{k:List γ->Option β}{x:Option (List γ)}{R:List γ->As}{n:Nat}{e:γ->TV}(h:x.bind k=Y r)(c:Ct P x f ts R)(p:ε.ek d=X)(u:vals ε args=Y ts)(w:∀a,R a=.own (.list n (a.map e)))(hf:∀a,(e a).flat=X)(A:∀a,x=Y a->k a=Y r->WO (AS P) K os ((d,.xo n (a.map e))::ε)):WO (AS P) K (⟨Y d,.AaB f args,W⟩::os) ε:=by
 obtain ⟨a,o,h⟩:=bind_some h;have:=c.snd a o;rw[w]at this;exact o6 p u this rfl hf (A a o h)
theorem nH{γ:Type}{k:List γ->Option β}{x:Option (List γ)}{R:List γ->As}{n:Nat}{e:γ->TV}(h:x.bind k=Y r)(c:Ct P x f ts R)(p:Aaa ε args=Y ts)(u:∀a,R a=.own (.list n (a.map e)))(hf:∀a,(e a).flat=X)(w:∀a,x=Y a->k a=Y r->WO (AS P) K os ((d,.ow (.list n (a.map e)))::ε)):WO (AS P) K (⟨Y d,.AaH f args,W⟩::os) ε:=by
 obtain ⟨a,o,h⟩:=bind_some h;have:=c.snd a o;rw[u]at this;exact oz p this rfl rfl hf (w a o h)
variable{us:α->Fq}
theorem rG{i s:Nat}{cs:List AO}{cs':α->List AO}{e:α->EV}(h:x.bind k=Y r)(c:Ct P x f ts R)(p:(args[i]?).bind (·.place ε)=Y (s,0))(u:ε.get s=.bx cs)(w:ε.noX s W=X)(hd:d≠s)(A:Fg ε i args=Y ts)(B:∀a,R a=.bo cs (cs' a) i (us a))(he:∀a,EV.ofs (us a)=e a)(C:∀a,x=Y a->k a=Y r->WO (AS P) K os ((d,e a)::(s,.bx (cs' a))::ε)):WO (AS P) K (⟨Y d,.Aad f args i,W⟩::os) ε:=by
 obtain ⟨a,o,h⟩:=bind_some h;have:=c.snd a o;rw[B]at this;exact tC p u w hd A this (he a) (C a o h)
end calls
inductive GS(g:Nat)(b:Bool):I2->List PR->I2->Nat->Prop
 |done {acc:I2} {os:List PR}:GS g b acc os [] 0
 |step {acc js:I2} {d n:Nat} {op:AE} {os:List PR}:GS g b (d::acc) os js n->GS g b acc (⟨Y d,op,Y (g,b)⟩::os) (d::js) (n+1)
 |nest {acc js:I2} {d n g':Nat} {b':Bool} {op:AE} {os:List PR}:acc.contains g'=X->GS g b (d::acc) os js n->GS g b acc (⟨Y d,op,Y (g',b')⟩::os) (d::js) (n+1)
def tW:I2->AB->(AB->Prop)->Prop
 |[],z,K=>K z|k::ks,z,K=>∃j,tW ks ((k,j)::z) K
structure Gj(js:I2)(d:Nat)(v:TV)(z e:AB):Prop where
 of::out:tW js z λy=>e=(d,.tv v)::y
theorem kc{d:Nat}{v:TV}{z e:AB}(h:e=(d,.tv v)::z):Gj [] d v z e:=⟨h⟩
variable{ks:I2}
theorem rh{k d:Nat}{v:TV}{j:EV}{z e:AB}(h:Gj ks d v ((k,j)::z) e):Gj (k::ks) d v z e:=⟨j,h.out⟩
theorem uB{js:I2}{v:TV}{z:AB}(h:Gj js d v z ε):WO S (Gj js d v z) [] ε:=⟨h⟩
structure Y2(js:I2)(z:AB)(Q:AB->Prop):Prop where
 of::out:∀(d:Nat)(v:TV)(e:AB),Gj js d v z e->∃y,e=(d,.tv v)::y/\Q y
theorem ri{z:AB}{Q:AB->Prop}(h:Q z):Y2 [] z Q:=⟨λ_ _ _ he=>⟨z,he.out,h⟩⟩
theorem nx{k:Nat}{z:AB}{Q:AB->Prop}(h:∀j,Y2 ks ((k,j)::z) Q):Y2 (k::ks) z Q:=⟨λd v e he=>by
 obtain ⟨j,o⟩:=he.out;exact(h j).out d v e ⟨o⟩⟩
theorem yO{dd:Option Nat}{op:AE}{g:Nat}{b q:Bool}(h:ε.get g=.tv (.bool q))(o:a7 g b q)(p:WO S K (⟨dd,op,W⟩::os) ε):WO S K (⟨dd,op,Y (g,b)⟩::os) ε:=AAc h o.out p
theorem wy{ρ:Type}{dd:Option Nat}{op:AE}{g:Nat}{q:Bool}{u v:Option ρ}{r:ρ}(w:ε.get g=.tv (.bool q))(h:(if q=X then u else v)=Y r)
  (o:a7 g X q->q=X->u=Y r->WO S K (⟨dd,op,Y (g,X)⟩::os) ε)(p:WU g X q->q=T->v=Y r->WO S K (⟨dd,op,Y (g,X)⟩::os) ε):WO S K (⟨dd,op,Y (g,X)⟩::os) ε:=by
 cases q with
 |true=>exact o ⟨rfl⟩ rfl h|false=>exact p ⟨r_⟩ rfl h
theorem wx{ρ:Type}{dd:Option Nat}{op:AE}{g:Nat}{q:Bool}{u v:Option ρ}{r:ρ}(w:ε.get g=.tv (.bool q))(h:(if q=X then u else v)=Y r)
  (o:WU g T q->q=X->u=Y r->WO S K (⟨dd,op,Y (g,T)⟩::os) ε)(p:a7 g T q->q=T->v=Y r->WO S K (⟨dd,op,Y (g,T)⟩::os) ε):WO S K (⟨dd,op,Y (g,T)⟩::os) ε:=by
 cases q with
 |true=>exact o ⟨r_⟩ rfl h|false=>exact p ⟨rfl⟩ rfl h
theorem ub{op:AE}{g:Nat}{b q:Bool}(h:ε.get g=.tv (.bool q))(o:WU g b q)(p:WO S K os ((d,.sk)::ε)):WO S K (⟨Y d,op,Y (g,b)⟩::os) ε:=yM h o.out p
theorem ip{d n:Nat}{js:I2}{v:TV}(h:WO S (Gj js d v ε) (os.take n) ε)(o:Y2 js ε λe=>WO S K (os.drop n) ((d,.tv v)::e)):WO S K os ε:=
 yL n (Gj js d v) h λe he=>by
  obtain ⟨y,rfl,p⟩:=o.out d v e he;exact p
section groups
variable{g n:Nat}{js:I2}{c:Bool}{dd gd:Option Nat}{op:AE}{x y z:AF}{gg:Option (Nat×Bool)}
variable{θ:I1}{os':List PR}
theorem w2{k:Bool->Option β}(h:(if c=X then θ else Y T).bind k=Y r)(_:GS g X [] os js n)(A:ε.get g=.tv (.bool c))(_:os[n]?=Y ⟨Y d,.pick x y z,gg⟩)
  (p:∀v,a7 g X c->c=X->θ=Y v->WO S (Gj js d (.bool v) ε) (os.take (n+1)) ε)(u:∀v,WU g X c->c=T->Y T=Y v->WO S (Gj js d (.bool v) ε) (os.take (n+1)) ε)
  (w:∀v,k v=Y r->Y2 js ε λe=>WO S K (os.drop (n+1)) ((d,.tv (.bool v))::e))(ho:os=⟨dd,op,Y (g,X)⟩::os'):WO S K (⟨dd,op,Y (g,X)⟩::os') ε:=by
 obtain ⟨v,hv,h⟩:=bind_some h;rw[<-ho];refine ip (n:=n+1) (v:=.bool v) ?_ (w v h);rcases Bool.eq_false_or_eq_true c with o|o
 .exact p v ⟨o⟩ o (Xu o hv)
 .exact u v ⟨by rw[o];rfl⟩ o (Xt o hv)
theorem wz{k:Bool->Option β}(h:(if c=X then Y X else θ).bind k=Y r)(_:GS g T [] os js n)(A:ε.get g=.tv (.bool c))(_:os[n]?=Y ⟨Y d,.pick x y z,gg⟩)
  (p:∀v,a7 g T c->c=T->θ=Y v->WO S (Gj js d (.bool v) ε) (os.take (n+1)) ε)(u:∀v,WU g T c->c=X->Y X=Y v->WO S (Gj js d (.bool v) ε) (os.take (n+1)) ε)
  (w:∀v,k v=Y r->Y2 js ε λe=>WO S K (os.drop (n+1)) ((d,.tv (.bool v))::e))(ho:os=⟨dd,op,Y (g,T)⟩::os'):WO S K (⟨dd,op,Y (g,T)⟩::os') ε:=by
 obtain ⟨v,hv,h⟩:=bind_some h;rw[<-ho];refine ip (n:=n+1) (v:=.bool v) ?_ (w v h);rcases Bool.eq_false_or_eq_true c with o|o
 .exact u v ⟨by rw[o];rfl⟩ o (Xu o hv)
 .exact p v ⟨o⟩ o (Xt o hv)
theorem ww{e:Bool}(ho:os=⟨dd,op,Y (g,X)⟩::os')(_:GS g X [] os js n)(u:ε.get g=.tv (.bool c))(_:os[n]?=Y ⟨Y d,.pick x y z,gg⟩)
  (h:a7 g X c->c=X->WO S (Gj js d (.bool e) ε) (os.take (n+1)) ε)(o:WU g X c->c=T->WO S (Gj js d (.bool T) ε) (os.take (n+1)) ε)
  (p:Y2 js ε λz=>WO S K (os.drop (n+1)) ((d,.tv (.bool (c&&e)))::z)):WO S K (⟨dd,op,Y (g,X)⟩::os') ε:=by
 rw [<-ho];refine ip (n:=n+1) (v:=.bool (c&&e)) ?_ p;cases c
 .exact o ⟨rfl⟩ rfl
 .exact h ⟨rfl⟩ rfl
theorem wv{e:Bool}(ho:os=⟨dd,op,Y (g,T)⟩::os')(_:GS g T [] os js n)(u:ε.get g=.tv (.bool c))(_:os[n]?=Y ⟨Y d,.pick x y z,gg⟩)
  (h:a7 g T c->c=T->WO S (Gj js d (.bool e) ε) (os.take (n+1)) ε)(o:WU g T c->c=X->WO S (Gj js d (.bool X) ε) (os.take (n+1)) ε)
  (p:Y2 js ε λz=>WO S K (os.drop (n+1)) ((d,.tv (.bool (c||e)))::z)):WO S K (⟨dd,op,Y (g,T)⟩::os') ε:=by
 rw [<-ho];refine ip (n:=n+1) (v:=.bool (c||e)) ?_ p;cases c
 .exact h ⟨rfl⟩ rfl
 .exact o ⟨rfl⟩ rfl
end groups
variable{qi:Option Nat}{j:Int}
theorem xG{x:AF}{q n i:Nat}{es row:Fq}{e:α->TV}{l:List α}{a:α}{t:TV}(h:x.ev ε=.lp q qi (j.toNat*n+i))(o:ε.o3 q qi=Y (n,es))(he:es=l.map e)(p:∀a,(e a).cells.length=n)(u:idx l j=Y a)(hi:A_ i n=X)(w:(e a).cells=row)(A:row[i]?=Y t)
  (B:WO S K os ((d,.tv t)::ε)):WO S K (⟨Y d,.xld x,W⟩::os) ε:=qy h o he p u rfl hi w A B
theorem uJ{x:AF}{q n:Nat}{es row:Fq}{e:α->TV}{l:List α}{a:α}{t:TV}(h:x.ev ε=.lp q qi (j.toNat*n))(o:ε.o3 q qi=Y (n,es))(he:es=l.map e)(p:∀a,(e a).cells.length=n)(u:idx l j=Y a)(hi:A_ 0 n=X)(w:(e a).cells=row)(A:row[0]?=Y t)
  (B:WO S K os ((d,.tv t)::ε)):WO S K (⟨Y d,.xld x,W⟩::os) ε:=qy (i:=0) h o he p u rfl hi w A B
theorem xH{x:AF}{q n i:Nat}{es row:Fq}{e:α->TV}{l:List α}{a:α}{t:TV}(h:x.ev ε=.lp q W (j.toNat*n+i))(o:ε.get q=.xo n es)(he:es=l.map e)(p:∀a,(e a).cells.length=n)(u:idx l j=Y a)(hi:A_ i n=X)(w:(e a).cells=row)(A:row[i]?=Y t)
  (B:WO S K os ((d,.tv t)::ε)):WO S K (⟨Y d,.xln x,W⟩::os) ε:=qz h o he p u rfl hi w A B
theorem uK{x:AF}{q n:Nat}{es row:Fq}{e:α->TV}{l:List α}{a:α}{t:TV}(h:x.ev ε=.lp q W (j.toNat*n))(o:ε.get q=.xo n es)(he:es=l.map e)(p:∀a,(e a).cells.length=n)(u:idx l j=Y a)(hi:A_ 0 n=X)(w:(e a).cells=row)(A:row[0]?=Y t)
  (B:WO S K os ((d,.tv t)::ε)):WO S K (⟨Y d,.xln x,W⟩::os) ε:=qz (i:=0) h o he p u rfl hi w A B
variable{v:AF}
theorem uM{γ:Type}{s:Nat}{q n i:Nat}{env':AB}{es:Fq}{e:α->TV}{g:γ->TV}{l:List α}{a:α}{b:γ}{f:α->γ->α}(_:HX s f)(h:(AF.s s).ev ε=.lp q qi (j.toNat*n+i))(p:ε.o3 q qi=Y (n,es))(hv:v.ev ε=.tv (g b))(he:es=l.map e)(u:∀a,(e a).cells.length=n)(w:idx l j=Y a)(hi:A_ i n=X)(A:(g b).cells=[g b])
  (B:(e (f a b)).cells=(e a).cells.set i (g b))(o:ε.t5 q qi n ((BB l j (f a b)).map e)=env')(C:WO S K os env'):WO S K (⟨W,.xst (.s s) v 1,W⟩::os) ε:=q8 h p hv he u w rfl hi A B rfl o C
theorem uL{x v:AF}{q n:Nat}{env':AB}{es:Fq}{e:α->TV}{l:List α}{a b:α}(h:x.ev ε=.lp q qi (j.toNat*n))(p:ε.o3 q qi=Y (n,es))(hv:v.ev ε=.tv (e b))(he:es=l.map e)(u:∀a,(e a).cells.length=n)(w:idx l j=Y a)(hi:A_ 0 n=X)(A:(e b).cells=[e b])
  (B:(e b).cells=(e a).cells.set 0 (e b))(o:ε.t5 q qi n ((BB l j b).map e)=env')(C:WO S K os env'):WO S K (⟨W,.xst x v 1,W⟩::os) ε:=q8 (i:=0) h p hv he u w rfl hi A B rfl o C
end
end Go.Sf
namespace Go.Sf
section
variable{S:FuncId->Fq->As->Prop}{K:AB->Prop}{os:List PR}{ε:AB}{d:Nat}
variable{j:Int}
theorem zT{α:Type}{x:AF}{s o:Nat}{es:Fq}{e:α->TV}{l:List α}{a:α}(h:x.ev ε=.nh s o (.el j.toNat))(u:ε.nat s o=Y es)(he:es=l.map e)(w:idx l j=Y a)(k:WO S K os ((d,.nh s o (.rw j.toNat))::ε)):WO S K (⟨Y d,.nld x,W⟩::os) ε:=by
 replace k:=k.out;refine⟨?_⟩;subst he;obtain⟨B,C,A⟩:=GY w;have p:j.toNat<l.length:=(x?.1 A).1;simp only[wpOps,PR.wp,AE.wp,h,u,Ai];exact⟨v5,k⟩
variable{j2:Int}
theorem zU{α:Type}{x v:AF}{s o:Nat}{es:Fq}{env':AB}{e:List α->TV}{e2:α->TV}{l:List (List α)}{m:List α}{A b:α}{t:TV}(h:x.ev ε=.nh s o (.rp j.toNat j2.toNat))(B:ε.nat s o=Y es)(hv:v.ev ε=.tv t)(he:es=l.map e)(w:∀m,e m=.list 1 (m.map e2))(C:idx l j=Y m)(D:idx m j2=Y A)(E:t=e2 b)(F:t.cells=[t])(G:t.flat=X)
  (p:ε.AbM s o ((BB l j (BB m j2 b)).map e)=env')(k:WO S K os env'):WO S K (⟨W,.nst x v,W⟩::os) ε:=by
 replace k:=k.out;refine⟨?_⟩;subst he p E;obtain⟨J,L,H⟩:=GY C;obtain⟨m0,m1,I⟩:=GY D;have u:j2.toNat<m.length:=(x?.1 I).1;simp only[wpOps,PR.wp,AE.wp,h,B,hv,Ai];refine⟨m.map e2,by rw[y_,H];simp[w],e_,F,G,?_⟩;have:(l.map e).set j.toNat (.list 1 ((m.map e2).set j2.toNat (e2 b)))=(BB l j (BB m j2 b)).map e:=by
  simp only[BB,List.map_set,w]
 rw [this];exact k
end
section
variable{P:Program}{K:AB->Prop}{os:List PR}{ε:AB}{d:Nat}{α β γ ρ:Type}{f:FuncId}{args:List AF}{ts:Fq}{R:α->As}{x:Option α}{k:α->Option ρ}{r:ρ}
variable{j:Int}
theorem w7{x i:AF}{s o:Nat}{es:Fq}{e:α->TV}{l:List α}{ik:IntKind}{S:FuncId->Fq->As->Prop}(h:(idx l j).bind k=Y r)(u:x.ev ε=.nh s o .hd)(w:ε.nat s o=Y es)(hi:i.val ε=Y (.int ik j))(he:es=l.map e)
  (A:∀a,idx l j=Y a->k a=Y r->WO S K os ((d,.nh s o (.el j.toNat))::ε)):WO S K (⟨Y d,.nia x i,W⟩::os) ε:=by
 obtain ⟨a,p,h⟩:=bind_some h;have B:=(A a p h).out;refine⟨?_⟩;subst he;obtain⟨D,F,E⟩:=GY p;have C:j.toNat<l.length:=(x?.1 E).1;simp only[wpOps,PR.wp,AE.wp,u,w,hi,Ai];exact⟨D,by simp only[a6];omega,B⟩
variable{e2:α->TV}{j2:Int}
theorem w8{x i:AF}{s o:Nat}{es:Fq}{e:List α->TV}{l:List (List α)}{m:List α}{ik:IntKind}{S:FuncId->Fq->As->Prop}(h:(idx m j2).bind k=Y r)(u:x.ev ε=.nh s o (.rw j.toNat))(w:ε.nat s o=Y es)(hi:i.val ε=Y (.int ik j2))(he:es=l.map e)(A:∀m,e m=.list 1 (m.map e2))(B:idx l j=Y m)
  (C:∀a,idx m j2=Y a->k a=Y r->WO S K os ((d,.nh s o (.rp j.toNat j2.toNat))::ε)):WO S K (⟨Y d,.nia x i,W⟩::os) ε:=by
 obtain ⟨b,p,h⟩:=bind_some h;have D:=(C b p h).out;refine⟨?_⟩;subst he;obtain⟨H,I,F⟩:=GY B;obtain⟨m0,m1,G⟩:=GY p;have E:j2.toNat<m.length:=(x?.1 G).1;simp only[wpOps,PR.wp,AE.wp,u,w,hi,Ai];exact⟨m0,m.map e2,by rw[y_,F];simp[A],by simp only[a6];omega,D⟩
theorem tf{mm q s o:Nat}{es w:Fq}{cs cs':List AO}{n:Nat}{e:β->TV}{l:List β}{m:β}{k:List β->Option ρ}{S:FuncId->Fq->As->Prop}(h:(Ak l [m]).bind k=Y r)(A:ε.get mm=.nh s o .hd)(B:ε.get q=.x1 n w)(C:ε.get s=.bx cs)(D:ε.nat s o=Y es)(he:es=l.map e)(hf:TV.list n w=e m)(u:ε.ek d=X)(hd:d≠mm/\d≠q/\mm≠q)(E:cs.set o ⟨T,.undef⟩=cs')
  (F:∀a,Ak l [m]=Y a->k a=Y r->WO S K os ((d,.xn (a.map e))::(s,.bx cs')::(mm,.undef)::(q,.undef)::ε)):WO S K (⟨Y d,.AaG mm q,W⟩::os) ε:=by
 obtain ⟨a,p,h⟩:=bind_some h;have H:=(F a p h).out;refine⟨?_⟩;subst he E;unfold Ak at p;split at p
 next G=>cases p;simp only[wpOps,PR.wp,AE.wp,A,B,C,D,Ai];refine⟨by simpa using G,⟨u,hd⟩,?_⟩;rw[hf];simpa[AB.put]using H
 .cases p
theorem nG{u:α->List β}{v:α->List γ}{w A:Nat}{p:β->TV}{e2:γ->TV}(h:x.bind k=Y r)(c:Ct P x f ts R)(E:vals ε args=Y ts)(F:∀a,R a=.oag [⟨X,.list w ((u a).map p)⟩,⟨X,.list A ((v a).map e2)⟩])(G:∀a,(p a).flat=X)(H:∀a,(e2 a).flat=X)
  (I:∀a,x=Y a->k a=Y r->WO (AS P) K os ((d,.oag [⟨X,.xl w ((u a).map p)⟩,⟨X,.xl A ((v a).map e2)⟩])::ε)):WO (AS P) K (⟨Y d,.Aax f args,W⟩::os) ε:=by
 obtain ⟨a,D,h⟩:=bind_some h;have C:=c.snd a D;rw[F]at C;have J:=(I a D h).out;have o:∀{τ:Type}(e:τ->TV)(l:List τ),(∀a,(e a).flat=X)->TV.t1 (l.map e)=X:=by
  intro τ e l he
  induction l with
  |nil=>rfl|cons a l L=>simp[TV.t1,he,L]
 refine ⟨?_⟩;simp only[wpOps,PR.wp,AE.wp,E,Ai];refine⟨_,C,λc B=>?_,λ_=>J⟩;simp only[x!,List.not_mem_nil,or_false]at B;rcases B with rfl|rfl
 .exact⟨_,_,rfl,o _ _ G⟩
 .exact⟨_,_,rfl,o _ _ H⟩
inductive NL:List AO->List AO->Prop
 |nil {xs:List AO}:xs=[]->NL xs []
 |cons {xs ys zs:List AO} {o:Bool} {t:TV}:xs=⟨o,t⟩::ys->NL ys zs->NL xs (⟨o,t⟩::zs)
theorem NL.eq{xs o:List AO}(h:NL xs o):xs=o:=by
 induction h with
 |nil h=>exact h|cons h _ p=>rw[h,p]
theorem xC{S:FuncId->Fq->As->Prop}{K:AB->Prop}{os:List PR}{ε:AB}{n s h:Nat}{x v:AF}{cs cs':List AO}{t:TV}(o:x.place ε=Y (s,h))(p:ε.get s=.bx cs)(hv:v.ev ε=.tv t)(u:t.cells.length=n)(w:z? (h+n) cs.length=X)(A:NL (cs.take h++t.cells.map (⟨T,·⟩)++cs.drop (h+n)) cs')
  (k:WO S K os ((s,.bx cs')::ε)):WO S K (⟨W,.st n x v,W⟩::os) ε:=AAp o p hv u w A.eq k
theorem uI{S:FuncId->Fq->As->Prop}{K:AB->Prop}{os:List PR}{ε:AB}{s h q:Nat}{x:AF}{cs cs':List AO}{t:TV}(o:x.place ε=Y (s,h))(p:ε.get s=.bx cs)(hv:ε.get q=.ow t)(u:q≠s)(w:A_ h cs.length=X)(A:NL (cs.set h ⟨X,t⟩) cs')
  (k:WO S K os ((s,.bx cs')::(q,.tv t)::ε)):WO S K (⟨W,.st 1 x (.s q),W⟩::os) ε:=zZ o p hv u w A.eq k
theorem ZN:∀(ts:List (Nat×Nat×TV))(done rest:Fq),XB done.length ts=X->(I4 ts).length<=rest.length->E8 (done++rest) ts=Y (done++(I4 ts++rest.drop (I4 ts).length))
 |[],done,rest,_,h=>by simp[E8,I4]|(i,n,t)::r,done,rest,p,h=>by
  simp only[XB,gN,Nat.beq_eq]at p;obtain⟨⟨rfl,o⟩,A⟩:=p;simp only[I4,aE]at h;have u:n<=rest.length:=U
  simp only[E8];rw[Ne ⟨o,s?⟩];have w:done++rest=done++(rest.take n++rest.drop n):=by rw[List.take_append_drop]
  rw [w,Uw t.cells done (rest.take n) (rest.drop n) i_,<-ae];rw[ZN r (done++t.cells) (rest.drop n) (by rw[aE,o];exact A) (by rw[List.length_drop];omega)];simp[I4,List.drop_drop,o]
inductive NT:Fq->Fq->Prop
 |nil {xs:Fq}:xs=[]->NT xs []
 |cons {xs ys zs:Fq} {t:TV}:xs=t::ys->NT ys zs->NT xs (t::zs)
theorem NT.eq{xs o:Fq}(h:NT xs o):xs=o:=by
 induction h with
 |nil h=>exact h|cons h _ p=>rw[h,p]
variable{zero:Fq}
theorem tj{S:FuncId->Fq->As->Prop}{K:AB->Prop}{os:List PR}{ε:AB}{d:Nat}{parts:List (Nat×Nat×AF)}{ts:List (Nat×Nat×TV)}{cs:Fq}(h:E4 ε parts=Y ts)(o:XB 0 ts=X)(p:z? (I4 ts).length zero.length=X)(u:NT (I4 ts++zero.drop (I4 ts).length) cs)(k:WO S K os ((d,.tv (.agg cs))::ε)):WO S K (⟨Y d,.bld zero parts,W⟩::os) ε:=
 am h (by have:=ZN ts [] zero o (Nat.le_of_ble_eq_true p);simpa using this) (by rw[u.eq]) k
structure HY{α A B C:Type}(n:Nat)(f:A->B->C->α)(g1:A->TV)(g2:B->TV)(g3:C->TV):Prop where
variable{v:AF}{qi:Option Nat}
theorem uN{S:FuncId->Fq->As->Prop}{K:AB->Prop}{os:List PR}{ε:AB}{α A B C:Type}{f:A->B->C->α}{o:Nat}{q n:Nat}{env':AB}{es cs cs':Fq}{e:α->TV}{l:List α}{a:α}{E:A}{F:B}{G:C}{p:A->TV}{u:B->TV}{w:C->TV}(_:HY o f p u w)(h:(AF.s o).ev ε=.lp q qi (j.toNat*n))(H:ε.o3 q qi=Y (n,es))(he:es=l.map e)(I:∀a,(e a).cells.length=n)(hv:v.ev ε=.tv (.agg cs))(J:NT cs cs')(L:cs'=[p E,u F,w G])(hf:∀a b c,TV.agg [p a,u b,w c]=e (f a b c))(N:idx l j=Y a)(O:A_ 0 n=X)
  (D:ε.t5 q qi n ((BB l j (f E F G)).map e)=env')(k:WO S K os env'):WO S K (⟨W,.xst (.s o) v n,W⟩::os) ε:=q9 h H (by rw[hv,J.eq,L,hf]) he I N O D k
theorem xI{S:FuncId->Fq->As->Prop}{α:Type}{x v:AF}{q n:Nat}{env':AB}{es:Fq}{e:α->TV}{l:List α}{a b:α}(h:x.ev ε=.lp q qi (j.toNat*n))(p:ε.o3 q qi=Y (n,es))(he:es=l.map e)(u:∀a,(e a).cells.length=n)(hv:v.ev ε=.tv (e b))(w:idx l j=Y a)(A:A_ 0 n=X)
  (o:ε.t5 q qi n ((BB l j b).map e)=env')(k:WO S K os env'):WO S K (⟨W,.xst x v n,W⟩::os) ε:=q9 h p hv he u w A o k
end
section
variable{S:FuncId->Fq->As->Prop}{K:AB->Prop}{os:List PR}{ε:AB}{d:Nat}
theorem zR(k:∀b,WO S K os ((d,.mx (.mp b []))::ε)):WO S K (⟨Y d,.mkm,W⟩::os) ε:=
 ⟨λb=>(k b).out⟩
theorem zS{s:Nat}{last:Option ((Int×Int)×Int)}{o:BW}(h:ε.get s=.mx (.mi last o))(hd:d≠s)(w:o=[]->WO S K os ((d,.tp [.bool T])::ε))(A:∀p u,o.Perm (p::u)->WO S K os ((d,.tp [.bool X,SL p.1,.int .i64 p.2])::(s,.mx (.mi (Y p) u))::ε)):WO S K (⟨Y d,.mnx s,W⟩::os) ε:=by
 refine ⟨?_⟩;simp only[wpOps,PR.wp,AE.wp,h];exact⟨hd,λe=>(w e).out,λp t B=>(A p t B).out⟩
variable{kvs:BW}
theorem o5{f:FuncId}{args:List AF}{ts us:Fq}(hv:vals ε args=Y ts)(h:S f ts (.mpr kvs us))(k:∀b,WO S K os ((d,.mx (.tm b kvs us))::ε)):WO S K (⟨Y d,.AaA f args,W⟩::os) ε:=by
 refine ⟨?_⟩;simp only[wpOps,PR.wp,AE.wp,hv,Ai];exact .inr ⟨kvs,us,h,λ_ b=>(k b).out⟩
theorem o0{f:FuncId}{args:List AF}{ts us:Fq}(hv:vals ε args=Y ts)(h:S f ts (.tp us))(k:WO S K os ((d,.tp us)::ε)):WO S K (⟨Y d,.AaA f args,W⟩::os) ε:=by
 refine ⟨?_⟩;simp only[wpOps,PR.wp,AE.wp,hv,Ai];exact .inl ⟨us,h,λ_=>k.out⟩
theorem LI{ss:I2}{s:Nat}{r:AB}{m:MX}(h:ε.get s=.mx m)(k:Kp ε ss r):Kp ε (s::ss) ((s,.mx m)::r):=OQ h k
theorem yl{ss:I2}{s:Nat}{r:AB}{q:List (Nat×EV)}{m:MX}(h:look q s=W)(o:ε.get s=.mx m)(k:Nm ε q ss r):Nm ε q (s::ss) ((s,.mx m)::r):=Qk h o k
end
def OT(r:BW×Int):As:=if r.2=0 then .mpr r.1 [.int .i64 r.2]else .tp [.undef,.int .i64 r.2]
structure zi(o:Nat):Prop where
variable{kvs:BW}
theorem rz{h:List RV}{ε:AB}{e:Int}(he:(!decide (e=0))=X)(o:h.length≠1)(p:Ee ε h=Y [.undef,.int .i64 e]):BQ h (OT (kvs,e)) ε:=by
 simp only[Bool.not_eq_true',decide_eq_false_iff_not]at he;simp only[OT,QQ he];exact⟨o,p⟩
theorem r6{s o b:Nat}{rs:List RV}{ε:AB}(_:zi o)(h:ε.get s=.tv (.AaK b))(p:ε.get o=.mx (.mp b kvs))(u:rs≠[])(w:Ee ε rs=Y [.int .i64 0]):BQ (.tmp s::rs) (OT (kvs,0)) ε:=by
 simp only[OT,if_true,BQ];exact⟨u,⟨b,o,h,p⟩,w⟩
section
variable{P:Program}{α β:Type}{K:AB->Prop}{os:List PR}{ε:AB}{d:Nat}{x:Option α}{k:α->Option β}{r:β}{f:FuncId}{args:List AF}{ts:Fq}{R:α->As}
variable{us:α->Fq}
theorem nF{i s:Nat}{cs:List AO}{q:α->Bool}{u v:α->List AO}{e:α->EV}(h:x.bind k=Y r)(c:Ct P x f ts R)(A:(args[i]?).bind (·.place ε)=Y (s,0))(B:ε.get s=.bx cs)(C:ε.noX s W=X)(hd:d≠s)(D:Fg ε i args=Y ts)(E:∀a,R a=.bo cs (if q a=X then u a else v a) i (us a))(he:∀a,EV.ofs (us a)=e a)
  (F:∀a,x=Y a->q a=X->k a=Y r->WO (AS P) K os ((d,e a)::(s,.bx (u a))::ε))(G:∀a,x=Y a->q a=T->k a=Y r->WO (AS P) K os ((d,e a)::(s,.bx (v a))::ε)):WO (AS P) K (⟨Y d,.Aad f args i,W⟩::os) ε:=by
 refine rG h c A B C hd D E he (λa o p=>?_);cases w:q a with
 |true=>rw[Ne rfl];exact F a o w p|false=>rw[QQ V];exact G a o w p
end
section
variable{S:FuncId->Fq->As->Prop}{a b:PC}{ε:AB}
variable{Q:Q}
theorem tu{c:AF}{β:Type}{q:Bool}{u v:Option β}{r:β}(p:c.val ε=Y (.bool q))(h:(if q=X then u else v)=Y r)(o:q=X)(k:u=Y r->WP S a Q ε):WP S (.cond c a b) Q ε:=
 SX p o (k (Xu o h))
theorem tq{c:AF}{β:Type}{q:Bool}{u v:Option β}{r:β}(p:c.val ε=Y (.bool q))(h:(if q=X then u else v)=Y r)(o:q=T)(k:v=Y r->WP S b Q ε):WP S (.cond c a b) Q ε:=
 SW p o (k (Xt o h))
end
end Go.Sf
set_option maxRecDepth 100000
namespace Go.Sf
theorem Nt{P:Prop}(p:P:=by first|exact rfl|exact Ml.eq):P:=p
theorem qP{P:Prop}(p:P:=by
 first|exact AAF rfl Nt|exact AAE rfl|exact xK rfl rfl Nt|exact xJ rfl rfl|exact AAH rfl|exact AAG rfl Nt|exact AAJ rfl rfl|exact AAI|exact AAD a_):P:=p
theorem qX{P:Prop}(p:P:=by
 repeat (first|apply GS.step|(apply GS.nest;exact rfl))
 exact GS.done):P:=p
theorem zv{P:Prop}(p:P:=by
 repeat (apply NL.cons;exact rfl)
 exact NL.nil rfl):P:=p
theorem zw{P:Prop}(p:P:=by
 repeat (apply NT.cons;exact rfl)
 exact NT.nil rfl):P:=p
theorem lnq{P:Prop}(p:P:=by
 repeat (first|exact ut|(apply ru (λ_=>rfl)))):P:=p
theorem zu{P:Prop}(p:P:=by
 repeat (apply Lm.cons;exact rfl)
 exact Lm.nil):P:=p
theorem zr{P:Prop}(p:P:=by
 intro _ k
 repeat' (first|exact k|exact rfl|exact Nat.le_of_ble_eq_true rfl|exact Nat.ne_of_beq_eq_false rfl|decide|apply And.intro)):P:=p
theorem au{P:Prop}(p:P:=by
 repeat' (first
  |(show WO _ _ _ _;first
    |apply N9
    |(apply st 1;exact rfl;first|exact λ_ k=>k|exact λ_ k=>⟨rfl,k⟩)
    |(apply yO;exact rfl;assumption)
    |(apply ub;exact rfl;assumption)
    |(apply zN;exact rfl;exact Nt)
    |(apply tF;exact rfl;assumption;exact rfl)
    |(apply tE;exact rfl;assumption;exact rfl)
    |(apply rJ;assumption;exact h;infer_instance;exact rfl;exact λ_=>rfl;intro x o h)|(apply nF;exact h;infer_instance;exact rfl;exact rfl;exact rfl;decide;exact rfl;exact λ_=>rfl;exact λ_=>rfl;intro x o B h;rotate_left;intro x o B h;rotate_left)|(apply AAK;exact rfl;exact h;infer_instance;intro x c h;apply st 3;exact rfl;first|exact λ_ k=>⟨_,⟨c,rfl⟩,λ_=>k⟩|exact λ_ k=>⟨_,⟨c,.inl rfl⟩,λ_=>k⟩|exact λ_ k=>⟨_,⟨c,.inr rfl⟩,λ_=>k⟩|exact λ_ k=>⟨_,⟨c,.inr lnq⟩,λ_=>k⟩|exact λ_ k=>⟨_,c,λ_=>k⟩|exact λ_ k=>⟨_,c,k⟩|exact λ_ k=>⟨rfl,_,_,.inl c,λ_=>k⟩|exact λ_ k=>⟨⟨rfl,Nat.ne_of_beq_eq_false rfl⟩,_,_,c,λ_=>k⟩|exact λ_ k=>⟨Nat.ne_of_beq_eq_false rfl,_,c,λ_=>k⟩|exact λ_ k=>⟨rfl,_,_,_,rfl,c,λ_=>k⟩|exact λ_ k=>⟨⟨Nat.ne_of_beq_eq_false rfl,rfl⟩,rfl,rfl,_,_,rfl,c,λ_=>k⟩)
    |(apply th;exact h;exact rfl;exact rfl;exact Nt;exact Nt;infer_instance;intro x o h)
    |(apply AAL;exact rfl;exact h;intro x o h;first|(apply zJ o;exact rfl;exact rfl;exact Nt;exact rfl)|(apply qr o;exact rfl;exact rfl;exact Nt;exact Nt;exact rfl)|(apply zX o;exact rfl;exact Nt;exact rfl;exact rfl)|(apply wI o;exact rfl;exact rfl)|(apply wJ o;exact rfl;exact rfl;exact rfl)|(apply za o;exact rfl;exact rfl;exact Nt;exact rfl)|(apply v8 o;exact rfl;exact rfl;exact Nt;exact Nt;exact rfl;exact rfl;decide)|(apply wA o;exact rfl;exact rfl;exact rfl;exact rfl;exact rfl;exact rfl;decide;exact rfl;exact rfl)|(apply zF o;exact rfl;exact rfl;exact rfl;exact rfl;exact rfl;decide)|(apply wF o;exact rfl;exact rfl;exact rfl)|(apply zb o;exact rfl;exact rfl;exact rfl;exact rfl)|(apply qx o;exact rfl;exact rfl;exact rfl;exact rfl)|(apply wE o;exact rfl;exact rfl;exact rfl)|(apply qw o;exact rfl;exact rfl;exact rfl;exact rfl))
    |(apply wK;exact rfl;exact Nt)
    |(apply ti;(with_reducible exact h);infer_instance;exact rfl;exact rfl;exact rfl;intro x o h)
    |(apply wB;exact rfl;exact rfl;exact rfl;exact rfl)
    |(apply tj;exact rfl;exact rfl;exact rfl;exact zw)
    |(apply am;exact rfl;exact rfl;exact rfl)
    |(apply w5;(with_reducible exact h);infer_instance;exact rfl;exact rfl;exact rfl;intro x o h)
    |(apply qN;exact rfl;exact rfl;exact rfl)
    |(apply w4;exact rfl;exact rfl;exact rfl;exact rfl)
    |(apply uD;exact rfl;exact rfl;exact rfl)
    |(apply uH;exact rfl;exact rfl;exact rfl;exact rfl)
    |(apply xC;exact rfl;exact rfl;exact rfl;exact rfl;exact rfl;exact zv)
    |(apply uI;exact rfl;exact rfl;exact rfl;decide;exact rfl;exact zv)
    |(apply zO;exact rfl;exact rfl)
    |(apply zQ;exact rfl;exact rfl)
    |(apply st 2;exact rfl;exact zr)
    |(apply sn;exact rfl;exact zr)
    |(apply AAd;exact rfl)
    |(apply zK;exact rfl)
    |(apply rH;exact h;infer_instance;exact rfl;exact λ_=>rfl;intro x o h)
    |(apply w9;exact h;exact rfl;exact rfl;intro x o h)
    |(apply xA;exact h;exact rfl;exact rfl;intro x o h)
    |(apply ws;exact h;exact rfl;exact rfl;decide;intro x o h)
    |(apply uG;exact h;exact rfl;exact rfl;intro x o h)
    |(apply tZ;exact rfl;exact rfl;infer_instance;exact rfl;exact rfl;exact rfl)
    |(apply td;exact rfl;exact rfl;infer_instance;exact rfl;exact rfl;exact rfl)
    |refine ta rfl rfl rfl rfl rfl ?_
    |refine te rfl rfl rfl rfl rfl ?_
    |(apply wy;exact rfl;(with_reducible exact h);intro A B h;rotate_left;intro A B h;rotate_left)
    |(apply wx;exact rfl;(with_reducible exact h);intro A B h;rotate_left;intro A B h;rotate_left)
    |(apply w2 h (ho:=rfl);exact qX;exact rfl;exact rfl;intro v A B h;rotate_left;intro v A B h;rotate_left;intro v h;rotate_left)
    |(apply wz h (ho:=rfl);exact qX;exact rfl;exact rfl;intro v A B h;rotate_left;intro v A B h;rotate_left;intro v h;rotate_left)
    |(apply ww rfl;exact qX;exact rfl;exact rfl;intro A B;rotate_left;intro A B;rotate_left 3)
    |(apply wv rfl;exact qX;exact rfl;exact rfl;intro A B;rotate_left;intro A B;rotate_left 3)
    |apply uB
    |(apply uF;exact rfl;exact zu;exact λ_=>rfl;infer_instance)|(apply uE;exact rfl;exact zu;exact λ_=>rfl)
    |(apply w6;exact rfl;exact rfl)
    |(apply wu;exact rfl;infer_instance)
    |(apply uJ;exact rfl;exact rfl;exact rfl;exact λ_=>rfl;assumption;exact rfl;exact rfl;exact rfl)|(apply uK;exact rfl;exact rfl;exact rfl;exact λ_=>rfl;assumption;exact rfl;exact rfl;exact rfl)|(apply xH;exact rfl;exact rfl;exact rfl;exact λ_=>rfl;assumption;exact rfl;exact rfl;exact rfl)|(apply xG;exact rfl;exact rfl;exact rfl;exact λ_=>rfl;assumption;exact rfl;exact rfl;exact rfl)|(apply uM;assumption;exact rfl;exact rfl;exact rfl;exact rfl;exact λ_=>rfl;assumption;exact rfl;exact rfl;exact rfl;exact rfl)|(apply uL;exact rfl;exact rfl;exact rfl;exact rfl;exact λ_=>rfl;assumption;exact rfl;exact rfl;exact rfl;exact rfl)|(apply uN;assumption;exact rfl;exact rfl;exact rfl;exact λ_=>rfl;exact rfl;exact zw;exact rfl;exact λ_ _ _=>rfl;assumption;exact rfl;exact rfl)|(apply xI;exact rfl;exact rfl;exact rfl;exact λ_=>rfl;exact rfl;assumption;exact rfl;exact rfl)|(apply nI;exact h;infer_instance;exact rfl;exact rfl;exact λ_=>rfl;exact λ_=>rfl;intro x o h)|(apply nH;exact h;infer_instance;exact rfl;exact λ_=>rfl;exact λ_=>rfl;intro x o h)
    |(apply w3;exact h;exact rfl;exact Nt;intro u h)
    |(apply qt;exact rfl;exact rfl;intro z D;replace h:=rY h z D)
    |(apply wD;exact rfl)
    |(apply w7;exact h;exact rfl;exact rfl;exact rfl;exact Nt;intro x o h)
    |(apply zT;exact rfl;exact rfl;exact Nt;assumption)
    |(apply w8;exact h;exact rfl;exact rfl;exact rfl;exact Nt;exact λ_=>rfl;assumption;intro x o h)|(apply zU;exact rfl;exact rfl;exact rfl;exact Nt;exact λ_=>rfl;assumption;assumption;exact rfl;exact rfl;exact rfl;exact rfl)
    |(apply tf;exact h;exact rfl;exact rfl;exact rfl;exact rfl;exact Nt;exact rfl;exact rfl;decide;exact rfl;intro x o h)
    |(apply nG;exact h;infer_instance;exact rfl;exact λ_=>rfl;exact λ_=>rfl;exact λ_=>rfl;intro x o h)
    |(apply zR;intro b;have K:=K b))
  |(show WP _ _ _ _;first
    |with_reducible apply wt
    |apply LD
    |apply Qd
    |(apply tz;exact rfl)
    |(apply xB;exact rfl;exact rfl)
    |apply bA
    |apply iL
    |apply kC
    |(apply SX;exact rfl;with_reducible rfl)
    |(apply SW;exact rfl;with_reducible rfl)
    |(apply uC;exact rfl;exact h;assumption;exact rfl;intro w B h;rotate_left;intro w B h;rotate_left;intro w h;rotate_left)
    |(apply tu;exact rfl;exact h;assumption;intro h)
    |(apply tq;exact rfl;exact h;assumption;intro h)
    |(apply tw;exact rfl;exact h;intro B h;rotate_left;intro B h;rotate_left)
    |(apply SX;exact rfl;apply dlt;assumption)
    |(apply SW;exact rfl;apply AAb;assumption)
    |(apply t6;(first|assumption|(apply HB.a;assumption));exact h;exact C;exact qP;exact rfl;exact rfl;exact λ_ _=>rfl;intro i s r hi h C;rotate_left;intro i s hi;clear h;rotate_left;intro s h;rotate_left)
    |(apply uA;(first|assumption|(apply HB.a;assumption));assumption;exact rfl;exact h;exact C;exact qP;exact rfl;exact rfl;exact λ_ _=>rfl;intro i s r hi h C;rotate_left;intro i s hi;clear h;rotate_left;intro s h;rotate_left)
    |(apply t8;(first|assumption|(apply HB.a;assumption));exact h;exact C;exact qP;exact rfl;exact rfl;exact λ_ _=>rfl;intro i s r hi h C;rotate_left;intro i s hi;clear h;rotate_left;intro s h;rotate_left)
    |(apply t7;(first|assumption|(apply HB.a;assumption));exact h;exact C;exact qP;exact rfl;exact rfl;exact λ_ _=>rfl;intro i s r hi h C;rotate_left;intro i s hi;clear h;rotate_left;intro s h;rotate_left)
    |(apply xF;assumption;assumption;exact rfl;exact h;exact rfl;exact rfl;intro s r h C;rotate_left;intro s h;rotate_left)
    |(apply xE;assumption;exact h;exact rfl;exact rfl;intro s r h C;rotate_left;intro s h;rotate_left)
    |(apply xD;assumption;exact h;exact rfl;exact rfl;intro s r h C;rotate_left;intro s h;rotate_left)
    |apply fA
    |cases h)
  |(show Kp _ _ _;first
    |exact I6
    |(apply LK;exact rfl)
    |(apply yW;exact rfl)
    |(apply LH;exact rfl)
    |(apply yZ;exact rfl)
    |(apply yU;exact rfl)
    |(apply LJ;exact rfl)
    |(apply LM;exact rfl)
    |(apply yV;exact rfl)
    |(apply yY;exact rfl)
    |(apply ur;exact rfl)
    |(apply LI;exact rfl))
  |(show Nm _ _ _ _;first
    |exact ux
    |(apply uw;exact rfl)
    |(apply yo;exact rfl;exact rfl)
    |(apply ym;exact rfl;exact rfl)
    |(apply yj;exact rfl;exact rfl)
    |(apply yq;exact rfl;exact rfl)
    |(apply yi;exact rfl;exact rfl)
    |(apply yn;exact rfl;exact rfl)
    |(apply yp;exact rfl;exact rfl)
    |(apply yk;exact rfl;exact rfl)
    |(apply yl;exact rfl;exact rfl))
  |apply ri
  |(apply nx;intro j)
  |apply rh
  |exact kc rfl
  |(cases h;exact kc rfl)
  |apply bm
  |(apply rd;decide)
  |intro C
  |(cases h;first|exact rfl|exact⟨rfl⟩|exact⟨rfl,rfl⟩|exact⟨_,rfl,rfl⟩|exact⟨_,rfl,⟨rfl⟩⟩|exact⟨rfl,_,rfl,⟨rfl⟩⟩|exact⟨a_,rfl⟩|exact⟨_,rfl,a_,rfl⟩|exact⟨_,rfl,rfl,rfl⟩|exact r6 (by assumption) rfl rfl a_ rfl|exact⟨_,rfl,rz (by first|assumption|decide) a_ rfl⟩)
  |exact⟨rfl,⟨rfl⟩⟩)):P:=p
end Go.Sf
