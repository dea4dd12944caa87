/- Contracts that are found by themselves: rules that take the typed text along, and the script that applies them. -/
import Derived.Test.YtiefejhapgafkaaGreatSfStep
set_option linter.all false
open Option renaming some->Y,none->W
open Bool renaming true->X,false->T
open List renaming map_map->x!,map_id->x?,take_of_length_le->y_,mem_cons->y!,getElem?_eq_some_iff->y?,getElem?_map->z_
open Nat renaming beq->z!,eq_of_beq_eq_true->z?,ble_self_eq_true->A_,zero_add->A',ble->A!,blt->A?
namespace Go.Sf
class Ct(P:Program){α:Type}(x:Option α)(f:outParam FuncId)(ts:outParam Fq)(R:outParam (α->BA)):Prop where
 snd:∀r,x=Y r->AV P f ts (R r)
class Ml(es:Fq){α:outParam Type}(e:outParam (α->TV))(l:outParam (List α)):Prop where
 eq:es=l.map e
class dR{α:Type}(e:α->TV)where
 un:Fq->α
 dec:∀a b,∃i:Decidable (a=b),CN (e a).cells (e b).cells=Y (@decide (a=b) i)
class Fz(cs:List AS)(row:outParam Fq):Prop where
 h:cs.map (·.t)=row
instance(priority:=high){l:Fq}:Fz (l.map λx=>(⟨T,x⟩:AS)) l:=⟨by rw[x!];exact x? _⟩
instance(priority:=low){cs:List AS}:Fz cs (cs.map (·.t)):=⟨rfl⟩
class En(α:Type)(e:outParam (α->TV)):Prop where
class Fl{α:Type}(e:α->TV)(n:outParam Nat)(f:outParam (List α->TV)):Prop where
 eq:∀l,f l=.list n (l.map e)
structure Kp(O:AB)(l:QQ)(r:AB):Prop where
 of::out:O.fd l=r
def look:List (Nat×EV)->Nat->Option EV
 |[],_=>W|(k,e)::r,n=>if k=n then Y e else look r n
def tg(O:AB)(m:List (Nat×EV)):QQ->AB
 |[]=>[]|s::ss=>(s,(look m s).getD (O.get s))::tg O m ss
structure Nm(O:AB)(m:List (Nat×EV))(l:QQ)(r:AB):Prop where
 of::out:tg O m l=r
structure Rn(a b:AB):Prop where
 of::out:a=b
structure HJ{σ:Type}(n:Nat)(M:σ->List (Nat×EV)):Prop where
structure HA{σ:Type}(n D3 q i:Nat)(M:Int->σ->List (Nat×EV)):Prop where
structure HB{σ:Type}(n D3 q i:Nat)(M:Int->σ->List (Nat×EV)):Prop where
def HB.a{σ:Type}{n D3 q i:Nat}{M:Int->σ->List (Nat×EV)}(_:HB n D3 q i M):HA n D3 q i M:=⟨⟩
structure HW{σ:Type}(n:Nat)(M:σ->List (Nat×EV)):Prop where
structure HR{β:Type}(R:β->AB->Prop):Prop where
structure HS(n:Nat):Prop where
structure HX{α γ:Type}(n:Nat)(f:α->γ->α):Prop where
structure dU(g:Nat)(b q:Bool):Prop where
 of::out:q=b
structure XK(g:Nat)(b q:Bool):Prop where
 of::out:q=!b
def KR(n:AB->Prop)(l:QQ):AB->Prop:=λe=>n (e.fd l)
section
variable{O:AB}{s:Nat}{ss:QQ}{r:AB}{m:List (Nat×EV)}
def Js:Kp O [] []:=⟨rfl⟩
def PW{e:EV}(h:O.get s=e)(k:Kp O ss r):Kp O (s::ss) ((s,e)::r):=⟨by rw[<-k.out,<-h];rfl⟩
def MU{t:TV}(h:O.get s=.tv t)(k:Kp O ss r):Kp O (s::ss) ((s,.tv t)::r):=PW h k
def ABI{t:TV}(h:O.get s=.ow t)(k:Kp O ss r):Kp O (s::ss) ((s,.ow t)::r):=PW h k
def MR{t:List AS}(h:O.get s=.bx t)(k:Kp O ss r):Kp O (s::ss) ((s,.bx t)::r):=PW h k
def ABG{q o:Nat}(h:O.get s=.bp q o)(k:Kp O ss r):Kp O (s::ss) ((s,.bp q o)::r):=PW h k
def MT{t:Fq}(h:O.get s=.tp t)(k:Kp O ss r):Kp O (s::ss) ((s,.tp t)::r):=PW h k
def MV(h:O.get s=.undef)(k:Kp O ss r):Kp O (s::ss) ((s,.undef)::r):=PW h k
def ABK{n:Nat}{t:Fq}(h:O.get s=.xo n t)(k:Kp O ss r):Kp O (s::ss) ((s,.xo n t)::r):=PW h k
def ABH{q:Nat}{i:Option Nat}(h:O.get s=.la q i)(k:Kp O ss r):Kp O (s::ss) ((s,.la q i)::r):=PW h k
def ABJ(h:O.get s=.sk)(k:Kp O ss r):Kp O (s::ss) ((s,.sk)::r):=PW h k
def xk{t:List AS}(h:O.get s=.oag t)(k:Kp O ss r):Kp O (s::ss) ((s,.oag t)::r):=PW h k
def xw:Nm O m [] []:=⟨rfl⟩
def xu{e:EV}(h:look m s=Y e)(k:Nm O m ss r):Nm O m (s::ss) ((s,e)::r):=⟨by rw[<-k.out];simp only[tg,h,Option.getD_some]⟩
def Rm{e:EV}(h:look m s=W)(o:O.get s=e)(k:Nm O m ss r):Nm O m (s::ss) ((s,e)::r):=⟨by rw[<-k.out];simp only[tg,h,o,Option.getD_none]⟩
def ABZ{t:TV}(h:look m s=W)(o:O.get s=.tv t)(k:Nm O m ss r):Nm O m (s::ss) ((s,.tv t)::r):=Rm h o k
def ABX{t:TV}(h:look m s=W)(o:O.get s=.ow t)(k:Nm O m ss r):Nm O m (s::ss) ((s,.ow t)::r):=Rm h o k
def ABU{t:List AS}(h:look m s=W)(o:O.get s=.bx t)(k:Nm O m ss r):Nm O m (s::ss) ((s,.bx t)::r):=Rm h o k
def ABT{q o:Nat}(h:look m s=W)(p:O.get s=.bp q o)(k:Nm O m ss r):Nm O m (s::ss) ((s,.bp q o)::r):=Rm h p k
def ABY{t:Fq}(h:look m s=W)(o:O.get s=.tp t)(k:Nm O m ss r):Nm O m (s::ss) ((s,.tp t)::r):=Rm h o k
def ABa(h:look m s=W)(o:O.get s=.undef)(k:Nm O m ss r):Nm O m (s::ss) ((s,.undef)::r):=Rm h o k
def ABb{n:Nat}{t:Fq}(h:look m s=W)(o:O.get s=.xo n t)(k:Nm O m ss r):Nm O m (s::ss) ((s,.xo n t)::r):=Rm h o k
def ABV{q:Nat}{i:Option Nat}(h:look m s=W)(o:O.get s=.la q i)(k:Nm O m ss r):Nm O m (s::ss) ((s,.la q i)::r):=Rm h o k
end
def PC.xl(i:Nat):PC->Option QQ
 |.exit j l=>if j=i then Y l else W|.seq a b=>match a.xl i with
  |some l=>Y l|none=>b.xl i
 |.cond _ a b=>match a.xl i with
  |some l=>Y l|none=>b.xl i
 |.block _ a=>a.xl i|.loop _ a=>a.xl i|.rls _ a=>a.xl i|_=>W
def PC.last:PC->Option QQ
 |.region _ l=>Y l|.draw _ _ l=>Y l|.skip l=>Y l|.exit _ l=>Y l|.seq _ b=>b.last|.cond _ a _=>a.last|.block i (.loop _ b)=>b.xl i|.block _ c=>c.last|.rls _ c=>c.last|_=>W
section
variable{S:FuncId->Fq->BA->Prop}{K:AB->Prop}{os:List PR}{O:AB}{d:Nat}
section code
variable{n t:AB->Prop}{x:Nat->AB->Prop}{a b:PC}{l:QQ}{env':AB}
def PG(o:Kp O l env')(h:n env'):WO S (KR n l) [] O:=⟨by show n (O.fd l);rw[o.out];exact h⟩
def RX{ops:List PR}(h:WO S (KR n l) ops O):WP S (.region ops l) ⟨n,x,t⟩ O:=⟨h.out⟩
def ww{D:QQ}{ops:List PR}(hd:Tg O D=X)(h:WO S (KR n l) ops O):WP S (.draw D ops l) ⟨n,x,t⟩ O:=⟨hd,h.out⟩
def MO(h:WP S a ⟨λe=>(∀s,(e.get s).WF)->WP S b ⟨n,x,t⟩ e,x,t⟩ O):WP S (.seq a b) ⟨n,x,t⟩ O:=AAs h
def dW(o:Kp O l env')(h:n env'):WP S (.skip l) ⟨n,x,t⟩ O:=xJ o.out h
def kj(h:t O):WP S .ret ⟨n,x,t⟩ O:=⟨h⟩
def my{i:Nat}(o:Kp O l env')(h:x i env'):WP S (.exit i l) ⟨n,x,t⟩ O:=xI o.out h
def z6{s:Nat}{cs cs':List AS}{c:PC}{q:Q}(h:O.get s=.bx cs)(he:cs.map AS.rel=cs')(k:WP S c q ((s,.bx cs')::O)):WP S (.rls s c) q O:=by
 refine ⟨?_⟩;subst he;simp only[PC.wp,h];exact k.out
def iy{i:Nat}(h:WP S a ⟨n,λj e=>if j=i then n e else x j e,t⟩ O):WP S (.block i a) ⟨n,x,t⟩ O:=ZS h
def zg{m:List (Nat×EV)}{e:AB}{q:Q}(he:Nm e m l env')(h:WP S a q env'):WP S a q (tg e m l):=by rw[he.out];exact h
variable{Q:Q}
def wv{c:AH}{β:Type}{q:Bool}{u v:Option β}{r:β}(o:c.val O=Y (.bool q))(h:(if q=X then u else v)=Y r)(p:q=X->u=Y r->WP S a Q O)(w:q=T->v=Y r->WP S b Q O):WP S (.cond c a b) Q O:=
 YJ o (λe=>p e (Yg e h)) (λe=>w e (Yf e h))
def w4{σ β:Type}{i:Nat}{M:σ->List (Nat×EV)}{q:Bool}{u v:Option σ}{k:σ->Option β}{r:β}(p:(AH.s i).val O=Y (.bool q))(h:((if q=X then u else v).bind k)=Y r)(_:HJ i M)(_:(PC.cond (.s i) a b).last=Y l)
  (A:∀w,q=X->u=Y w->WP S a ⟨λe=>Rn e (tg O (M w) l),x,t⟩ O)(B:∀w,q=T->v=Y w->WP S b ⟨λe=>Rn e (tg O (M w) l),x,t⟩ O)(C:∀w,k w=Y r->n (tg O (M w) l)):WP S (.cond (.s i) a b) ⟨n,x,t⟩ O:=by
 obtain ⟨w,o,h⟩:=bind_some h;refine AAr (λe=>Rn e (tg O (M w) l)) ?_ (λe he=>by rw[he.out];exact C w h);exact YJ p (λe=>A w e (Yg e o)) (λe=>B w e (Yf e o))
end code
structure Bd(O:AB)(q i:Nat)(b:Int):Prop where
 of::out:(∀s,(O.get s).WF)->b<=9223372036854775807
section bounds
variable{q i:Nat}{α:Type}{e:α->TV}{l:List α}{es row:Fq}{n:Nat}
def ACJ{b:Int}(h:decide (b<=9223372036854775807)=X):Bd O q i b:=⟨λ_=>of_decide_eq_true h⟩
def ACO{b:Int}:Bd O q i (AJ b):=⟨λ_=>zU _⟩
def ACL(h:O.get q=.tv (.list n es))(he:es=l.map e):Bd O q i l.length:=⟨λo=>by have:=o q;rw[h]at this;exact Wo (dP this) he⟩
def ACM(h:O.get q=.ow (.list n es))(he:es=l.map e):Bd O q i l.length:=⟨λo=>by have:=o q;rw[h]at this;exact Wo (ACA this) he⟩
def ACP(h:O.get q=.xo n es)(he:es=l.map e):Bd O q i l.length:=⟨λo=>by have:=o q;rw[h]at this;exact Wo (ACB this) he⟩
def ACN{b:ByteArray}(h:O.get q=.tv (.str b)):Bd O q i b.size:=⟨λo=>by have:=o q;rw[h]at this;exact wT (dP this)⟩
def ACK{b:Int}(h:O.get q=.tv (.int .i64 b)):Bd O q i b:=⟨λo=>by have:=o q;rw[h]at this;exact p8 (dP this)⟩
def AAF(h:O.get q=.tv (.pt row))(hr:row[i]?=Y (.list n es))(he:es=l.map e):Bd O q i l.length:=⟨λo=>by have:=o q;rw[h]at this;exact Wo (kT (uL this) hr) he⟩
def AAE{b:Int}(h:O.get q=.tv (.pt row))(hr:row[i]?=Y (.int .i64 b)):Bd O q i b:=⟨λo=>by have:=o q;rw[h]at this;exact p8 (kT (uL this) hr)⟩
end bounds
section loops
variable{σ β ρ:Type}{n t:AB->Prop}{x:Nat->AB->Prop}{c:PC}{live jl:QQ}{i0 D3 q i1:Nat}{lo b:Int}{s0:σ}{r:β}{k:σ->Option β}
variable{M:Int->σ->List (Nat×EV)}
def zV(h:∀i s,(tg O (M i s) live).get D3=.tv (.int .i64 i)){i:Int}{s:σ}(o:∀k,((tg O (M i s) live).get k).WF)(hi:i<b)(hb:b<=9223372036854775807):AJ (i+1)=i+1:=by
 have:=o D3;rw[h]at this;exact ACC (dP this) hi hb
def wx{f:Int->σ->Option σ}(_:HA i0 D3 q i1 M)(h:(kx f lo b s0).bind k=Y r)(p:∀s,(O.get s).WF)(hb:Bd O q i1 b)(_:c.xl i0=Y jl)(u:O.fd live=tg O (M lo s0) live)(w:∀i s,(tg O (M i s) live).get D3=.tv (.int .i64 i))
  (A:∀i s r,i<b->f i s=Y r->(∀k,((tg O (M i s) live).get k).WF)->WP S c ⟨λe=>Rn (e.fd live) (tg O (M (AJ (i+1)) r) live),λ_ _=>False,λ_=>False⟩ (tg O (M i s) live))
  (B:∀i s,¬i<b->WP S c ⟨λ_=>False,λj e=>j=i0/\Rn e (tg O (M 0 s) jl),λ_=>False⟩ (tg O (M i s) live))
  (C:∀s,k s=Y r->n (tg O (M 0 s) jl)):WP S (.block i0 (.loop live c)) ⟨n,x,t⟩ O:=by
 obtain ⟨o,ho,h⟩:=bind_some h;have hb:=hb.out p;refine wV ho (λi s=>tg O (M i s) live) (λs=>tg O (M 0 s) jl) u (λi s r hi hf p=>⟨PC.ls S c _ _ (A i s r hi hf p).out _ (λe he=>?_) (λ_ _ h=>h) (λ_ h=>h)⟩) (λi s hi=>⟨PC.ls S c _ _ (B i s hi).out _ (λ_ h=>h) (λj e h=>⟨h.1,h.2.out⟩) (λ_ h=>h)⟩) (C o h);have:=he.out;rw[zV w p hi hb]at this;exact this
variable{kr:ρ->Option β}
def Zc{f:Int->σ->Option (B2 σ ρ)}{R:ρ->AB->Prop}(h:ej (hV f lo b s0) k kr=Y r)(hb:b<=9223372036854775807)(w:O.fd live=tg O (M lo s0) live)(A:∀i s,(tg O (M i s) live).get D3=.tv (.int .i64 i))
  (B:∀i s r,i<b->f i s=Y r->(∀k,((tg O (M i s) live).get k).WF)->WP S c ⟨λe=>∃s',r=.next s'/\Rn (e.fd live) (tg O (M (AJ (i+1)) s') live),λj e=>j=i0/\∃s',r=.brk s'/\Rn e (tg O (M 0 s') jl),λe=>∃v,r=.ret v/\R v e⟩ (tg O (M i s) live))
  (C:∀i s,¬i<b->WP S c ⟨λ_=>False,λj e=>j=i0/\Rn e (tg O (M 0 s) jl),λ_=>False⟩ (tg O (M i s) live))
  (D:∀s,k s=Y r->n (tg O (M 0 s) jl))(E:∀v e,kr v=Y r->R v e->t e):WP S (.block i0 (.loop live c)) ⟨n,x,t⟩ O:=by
 obtain ⟨o,ho,h⟩:=ZJ h;refine kW ho (λi s=>tg O (M i s) live) (λs=>tg O (M 0 s) jl) R w (λi s r hi hf u=>⟨PC.ls S c _ _ (B i s r hi hf u).out _ (λe he=>?_) (λj e he=>?_) (λ_ h=>h)⟩) (λi s hi=>⟨PC.ls S c _ _ (C i s hi).out _ (λ_ h=>h) (λj e h=>⟨h.1,h.2.out⟩) (λ_ h=>h)⟩) (λs F=>D s (kN h F)) (λv e hv=>E v e (kO h hv))
 .obtain⟨s',p,e2⟩:=he;have e2:=e2.out;rw[zV A u hi hb]at e2;exact⟨s',p,e2⟩
 .obtain⟨G,s',p,e2⟩:=he;exact⟨G,s',p,e2.out⟩
def w2{f:Int->σ->Option (B2 σ β)}{R:β->AB->Prop}(_:HA i0 D3 q i1 M)(_:HR R)(o:R r=t)(h:ej (hV f lo b s0) k (λv=>Y v)=Y r)(p:∀s,(O.get s).WF)(hb:Bd O q i1 b)(_:c.xl i0=Y jl)(u:O.fd live=tg O (M lo s0) live)(w:∀i s,(tg O (M i s) live).get D3=.tv (.int .i64 i))
  (A:∀i s r,i<b->f i s=Y r->(∀k,((tg O (M i s) live).get k).WF)->WP S c ⟨λe=>∃s',r=.next s'/\Rn (e.fd live) (tg O (M (AJ (i+1)) s') live),λj e=>j=i0/\∃s',r=.brk s'/\Rn e (tg O (M 0 s') jl),λe=>∃v,r=.ret v/\R v e⟩ (tg O (M i s) live))
  (B:∀i s,¬i<b->WP S c ⟨λ_=>False,λj e=>j=i0/\Rn e (tg O (M 0 s) jl),λ_=>False⟩ (tg O (M i s) live))
  (C:∀s,k s=Y r->n (tg O (M 0 s) jl)):WP S (.block i0 (.loop live c)) ⟨n,x,t⟩ O:=
 Zc h (hb.out p) u w A B C (λv e hv D=>by cases hv;rw[<-o];exact D)
variable{τ:Type}
def wz{f:Int->σ->Option (B2 σ ρ)}{k:σ->Option (B2 τ ρ)}{r:B2 τ ρ}{R:ρ->AB->Prop}(_:HA i0 D3 q i1 M)(h:ej (hV f lo b s0) k (λv=>Y (.ret v))=Y r)(o:∀s,(O.get s).WF)(hb:Bd O q i1 b)(_:c.xl i0=Y jl)(p:O.fd live=tg O (M lo s0) live)(u:∀i s,(tg O (M i s) live).get D3=.tv (.int .i64 i))
  (w:∀i s r,i<b->f i s=Y r->(∀k,((tg O (M i s) live).get k).WF)->WP S c ⟨λe=>∃s',r=.next s'/\Rn (e.fd live) (tg O (M (AJ (i+1)) s') live),λj e=>j=i0/\∃s',r=.brk s'/\Rn e (tg O (M 0 s') jl),λe=>∃v,r=.ret v/\R v e⟩ (tg O (M i s) live))
  (A:∀i s,¬i<b->WP S c ⟨λ_=>False,λj e=>j=i0/\Rn e (tg O (M 0 s) jl),λ_=>False⟩ (tg O (M i s) live))
  (B:∀s,k s=Y r->n (tg O (M 0 s) jl)):WP S (.block i0 (.loop live c)) ⟨n,x,λe=>∃v,r=.ret v/\R v e⟩ O:=
 Zc h (hb.out o) p u w A B (λv e hv C=>by cases hv;exact⟨v,rfl,C⟩)
def wy{f:Int->σ->Option (B2 σ ρ)}(_:HA i0 D3 q i1 M)(h:ej (hV f lo b s0) k (λ_=>W)=Y r)(o:∀s,(O.get s).WF)(hb:Bd O q i1 b)(_:c.xl i0=Y jl)(p:O.fd live=tg O (M lo s0) live)(u:∀i s,(tg O (M i s) live).get D3=.tv (.int .i64 i))
  (w:∀i s r,i<b->f i s=Y r->(∀k,((tg O (M i s) live).get k).WF)->WP S c ⟨λe=>∃s',r=.next s'/\Rn (e.fd live) (tg O (M (AJ (i+1)) s') live),λj e=>j=i0/\∃s',r=.brk s'/\Rn e (tg O (M 0 s') jl),λ_=>∃v,r=.ret v/\False⟩ (tg O (M i s) live))
  (A:∀i s,¬i<b->WP S c ⟨λ_=>False,λj e=>j=i0/\Rn e (tg O (M 0 s) jl),λ_=>False⟩ (tg O (M i s) live))
  (B:∀s,k s=Y r->n (tg O (M 0 s) jl)):WP S (.block i0 (.loop live c)) ⟨n,x,t⟩ O:=
 Zc (R:=λ_ _=>False) h (hb.out o) p u w A B (λv e hv _=>by cases hv)
def iB{f:σ->Option (B2 σ ρ)}{R:ρ->AB->Prop}{M:σ->List (Nat×EV)}(h:ej (DC f s0) k kr=Y r)(u:O.fd live=tg O (M s0) live)
  (w:∀s r,f s=Y r->(∀k,((tg O (M s) live).get k).WF)->WP S c ⟨λe=>∃s',r=.next s'/\Rn (e.fd live) (tg O (M s') live),λj e=>j=i0/\∃s',r=.brk s'/\Rn e (tg O (M s') jl),λe=>∃v,r=.ret v/\R v e⟩ (tg O (M s) live))
  (A:∀s,k s=Y r->n (tg O (M s) jl))(B:∀v e,kr v=Y r->R v e->t e):WP S (.block i0 (.loop live c)) ⟨n,x,t⟩ O:=by
 obtain ⟨o,ho,h⟩:=ZJ h;refine zZ ho (λs=>tg O (M s) live) (λs=>tg O (M s) jl) R u (λs r hf C=>⟨PC.ls S c _ _ (w s r hf C).out _ (λe he=>?_) (λj e he=>?_) (λ_ h=>h)⟩) (λs D=>A s (kN h D)) (λv e hv=>B v e (kO h hv))
 .obtain⟨s',p,e2⟩:=he;exact⟨s',p,e2.out⟩
 .obtain⟨E,s',p,e2⟩:=he;exact⟨E,s',p,e2.out⟩
def AAB{f:σ->Option (B2 σ β)}{R:β->AB->Prop}{M:σ->List (Nat×EV)}(_:HW i0 M)(_:HR R)(o:R r=t)(h:ej (DC f s0) k (λv=>Y v)=Y r)(_:c.xl i0=Y jl)(p:O.fd live=tg O (M s0) live)
  (u:∀s r,f s=Y r->(∀k,((tg O (M s) live).get k).WF)->WP S c ⟨λe=>∃s',r=.next s'/\Rn (e.fd live) (tg O (M s') live),λj e=>j=i0/\∃s',r=.brk s'/\Rn e (tg O (M s') jl),λe=>∃v,r=.ret v/\R v e⟩ (tg O (M s) live))
  (w:∀s,k s=Y r->n (tg O (M s) jl)):WP S (.block i0 (.loop live c)) ⟨n,x,t⟩ O:=
 iB h p u w (λv e hv A=>by cases hv;rw[<-o];exact A)
def AAA{f:σ->Option (B2 σ ρ)}{k:σ->Option (B2 τ ρ)}{r:B2 τ ρ}{R:ρ->AB->Prop}{M:σ->List (Nat×EV)}(_:HW i0 M)(h:ej (DC f s0) k (λv=>Y (.ret v))=Y r)(_:c.xl i0=Y jl)(o:O.fd live=tg O (M s0) live)
  (p:∀s r,f s=Y r->(∀k,((tg O (M s) live).get k).WF)->WP S c ⟨λe=>∃s',r=.next s'/\Rn (e.fd live) (tg O (M s') live),λj e=>j=i0/\∃s',r=.brk s'/\Rn e (tg O (M s') jl),λe=>∃v,r=.ret v/\R v e⟩ (tg O (M s) live))
  (u:∀s,k s=Y r->n (tg O (M s) jl)):WP S (.block i0 (.loop live c)) ⟨n,x,λe=>∃v,r=.ret v/\R v e⟩ O:=
 iB h o p u (λv e hv w=>by cases hv;exact⟨v,rfl,w⟩)
def z8{f:σ->Option (B2 σ ρ)}{M:σ->List (Nat×EV)}(_:HW i0 M)(h:ej (DC f s0) k (λ_=>W)=Y r)(_:c.xl i0=Y jl)(o:O.fd live=tg O (M s0) live)
  (p:∀s r,f s=Y r->(∀k,((tg O (M s) live).get k).WF)->WP S c ⟨λe=>∃s',r=.next s'/\Rn (e.fd live) (tg O (M s') live),λj e=>j=i0/\∃s',r=.brk s'/\Rn e (tg O (M s') jl),λ_=>∃v,r=.ret v/\False⟩ (tg O (M s) live))
  (u:∀s,k s=Y r->n (tg O (M s) jl)):WP S (.block i0 (.loop live c)) ⟨n,x,t⟩ O:=
 iB (R:=λ_ _=>False) h o p u (λv e hv _=>by cases hv)
end loops
end
end Go.Sf
namespace Go.Sf
section
variable{P:Program}{S:FuncId->Fq->BA->Prop}{K:AB->Prop}{os:List PR}{O:AB}{d:Nat}{α β:Type}{k:α->Option β}{r:β}
def bnd{G:Prop}{x:Option α}(h:x.bind k=Y r)(g:∀a,x=Y a->k a=Y r->G):G:=by
 obtain ⟨a,ha,h⟩:=bind_some h;exact g a ha h
def ACR{α:Type}{x:Option α}{k:α->Option β}{op:AF}{dd:Option Nat}(_:op.AbU=4)(h:x.bind k=Y r)(g:∀a,x=Y a->k a=Y r->WO S K (⟨dd,op,W⟩::os) O):WO S K (⟨dd,op,W⟩::os) O:=bnd h g
def ACQ{x:Option α}{f:FuncId}{ts:Fq}{R:α->BA}{op:AF}{dd:Option Nat}(_:op.AbU=3)(h:x.bind k=Y r)(c:Ct P x f ts R)(g:∀a,AV P f ts (R a)->k a=Y r->WO (AV P) K (⟨dd,op,W⟩::os) O):WO (AV P) K (⟨dd,op,W⟩::os) O:=bnd h λa ha=>g a (c.snd a ha)
def wo{γ:Type}{k:List γ->Option β}{n s:Nat}{y:AH}{es o:Fq}{e:γ->TV}{l m:List γ}{f:List γ->TV}(h:(AY l m).bind k=Y r)(u:O.get s=.ow (.list n es))(w:y.val O=Y (.list n o))(he:es=l.map e)(hf:o=m.map e)(c:Fl e n f)
  (A:∀x,AY l m=Y x->k x=Y r->WO S K os ((d,.ow (f x))::(s,.tv (.list n es))::O)):WO S K (⟨Y d,.app n (.s s) y,W⟩::os) O:=by
 obtain ⟨x,p,h⟩:=bind_some h;have:=A x p h;rw[c.eq]at this;exact uE p u w he hf rfl this
section ints
variable{k:Int->Option β}{x y:AH}{ik:IntKind}{a b:Int}
def zy(h:(quo a b).bind k=Y r)(p:x.val O=Y (.int ik a))(u:y.val O=Y (.int ik b))(w:∀q,quo a b=Y q->k q=Y r->WO S K os ((d,.tv (.int ik (ik.wrap q)))::O)):WO S K (⟨Y d,.bin .i .quo x y,W⟩::os) O:=bnd h λq o h=>AB4 o p u (w q o h)
def z1(h:(Di a b).bind k=Y r)(p:x.val O=Y (.int ik a))(u:y.val O=Y (.int ik b))(w:∀q,Di a b=Y q->k q=Y r->WO S K os ((d,.tv (.int ik q))::O)):WO S K (⟨Y d,.bin .i .rem x y,W⟩::os) O:=bnd h λq o h=>AB5 o p u (w q o h)
def zf{op:BinOp}{o:IntKind}(h:(Gy ik op a b).bind k=Y r)(u:x.val O=Y (.int ik a))(A:y.val O=Y (.int o b))(B:ik=o\/op=.shl\/op=.shr)(C:∀q,Gy ik op a b=Y q->k q=Y r->WO S K os ((d,.tv (.int ik q))::O)):WO S K (⟨Y d,.bin .w op x y,W⟩::os) O:=bnd h λq p h=>ABq p u A B (C q p h)
end ints
def w8{k:ByteArray->Option β}{x y:AH}{u v:ByteArray}(h:(WB u v).bind k=Y r)(p:x.val O=Y (.str u))(w:y.val O=Y (.str v))(A:∀q,WB u v=Y q->k q=Y r->WO S K os ((d,.tv (.str q))::O)):WO S K (⟨Y d,.bin .s .add x y,W⟩::os) O:=bnd h λq o h=>yy o p w (A q o h)
def zq{k:Unit->Option β}{x:AH}{n:Nat}{es:Fq}{e:α->TV}{l:List α}(h:(Xf l).bind k=Y r)(o:x.val O=Y (.list n es))(he:es=l.map e)(p:∀u,k u=Y r->WO S K os ((d,.tv (.bool T))::O)):WO S K (⟨Y d,.isn x,W⟩::os) O:=by
 obtain ⟨u,w,h⟩:=bind_some h;refine uF o he λb hb=>?_;obtain rfl:=n7 w hb;exact p u h
def tU{x:AH}{n:Nat}{e:α->TV}{a:α}(h:BT O (x.ev O)=Y (e a).cells)(o:z! (e a).cells.length n=X)(p:TV.agg (e a).cells=e a)(u:WO S K os ((d,.tv (e a))::O)):WO S K (⟨Y d,.lda x n,W⟩::os) O:=by
 have o:=z? o;exact uG h (by rw[o];exact A_ n) (by rw[y_ U,p]) u
def zr{s n:Nat}{cs:List AS}{e:α->TV}{a:α}(h:O.get s=.bx cs)(p:cs.map (·.t)=(e a).cells)(o:z! (e a).cells.length n=X)(u:TV.agg (e a).cells=e a)(w:WO S K os ((d,.tv (e a))::O)):WO S K (⟨Y d,.ldb s n,W⟩::os) O:=by
 have o:=z? o;exact ABv h (by rw[p,o];exact A_ n) (by rw[p,y_ U,u]) w
variable{v:AH}
def w9{n s:Nat}{cs:List AS}{t:TV}(h:O.get s=.bx cs)(hv:v.ev O=.tv t)(o:t.cells.length=n)(hb:z! n cs.length=X)(p:WO S K os ((s,.bx (t.cells.map (⟨T,·⟩)))::O)):WO S K (⟨W,.stb n s v,W⟩::os) O:=by
 have hb:=z? hb;refine AB7 h hv o (by rw[A',hb];exact A_ _) ?_ p;rw[List.take_zero,A',hb,List.drop_length,List.append_nil,List.nil_append]
def w5{x:AH}{n:Nat}{e:α->TV}{a:α}(h:BT O (x.ev O)=Y (((e a).cells.map λt=>(⟨T,t⟩:AS)).map (·.t)))(o:z! (e a).cells.length n=X)(p:TV.agg (e a).cells=e a)(u:WO S K os ((d,.tv (e a))::O)):WO S K (⟨Y d,.lda x n,W⟩::os) O:=
 tU (by rw[h,x!];congr 1;exact x? _) o p u
def ko(n:Nat):Fq->Bool
 |[]=>X|t::ts=>z! t.cells.length n&&ko n ts
def df{n:Nat}:∀{ts:Fq},ko n ts=X->∀t∈ts,t.cells.length=n
 |[],_,_,h=>c!
 |t::ts,h,u,o=>by
  simp only[ko,mo]at h;rcases y!.1 o with rfl|o
  .exact z? h.1
  .exact df h.2 u o
variable{parts:List AH}
def zv{n:Nat}{ts:Fq}(h:vals O parts=Y ts)(o:ko n ts=X)(p:WO S K os ((d,.ow (.list n ts))::O)):WO S K (⟨Y d,.lst n parts,W⟩::os) O:=by
 have:=p.out;refine⟨?_⟩;simp only[wpOps,PR.wp,AF.wp,h,A0];exact⟨df o,this⟩
variable{zero:Fq}
def wq{parts:List (Nat×Nat×AH)}{ts:List (Nat×Nat×TV)}{cs:Fq}{e:α->TV}{a:α}(h:(Y a).bind k=Y r)(_:En α e)(o:Hw O parts=Y ts)(p:F1 zero ts=Y cs)(he:TV.agg cs=e a)(u:∀x,x=a->k x=Y r->WO S K os ((d,.tv (e x))::O)):WO S K (⟨Y d,.bld zero parts,W⟩::os) O:=by
 rw [Option.bind_some]at h;exact dO o p he (u a rfl h)
def zu{x:AH}{n:Nat}{cs:Fq}{e:α->TV}{a:α}(h:(Y a).bind k=Y r)(_:En α e)(o:BT O (x.ev O)=Y cs)(p:A! n cs.length=X)(he:TV.agg (cs.take n)=e a)(u:∀x,x=a->k x=Y r->WO S K os ((d,.tv (e x))::O)):WO S K (⟨Y d,.lda x n,W⟩::os) O:=by
 rw [Option.bind_some]at h;exact uG o p he (u a rfl h)
inductive Lm{α:Type}(e:α->TV):Fq->List α->Prop
 |nil:Lm e [] []
 |cons {t:TV} {ts:Fq} {a:α} {l:List α}:t=e a->Lm e ts l->Lm e (t::ts) (a::l)
def Lm.eq{e:α->TV}{ts:Fq}{l:List α}(h:Lm e ts l):ts=l.map e:=by
 induction h with
 |nil=>rfl|cons h _ o=>rw[h,o];rfl
def w6{n:Nat}{ts:Fq}{e:α->TV}{l:List α}(h:vals O parts=Y ts)(o:Lm e ts l)(p:∀a,(e a).cells.length=n)(u:WO S K os ((d,.ow (.list n (l.map e)))::O)):WO S K (⟨Y d,.lst n parts,W⟩::os) O:=uH h o.eq p u
def w7{n:Nat}{ts:Fq}{e:α->TV}{l:List α}{f:List α->TV}(h:vals O parts=Y ts)(p:Lm e ts l)(u:∀a,(e a).cells.length=n)(c:Fl e n f)(o:WO S K os ((d,.ow (f l))::O)):WO S K (⟨Y d,.lst n parts,W⟩::os) O:=by
 rw [c.eq]at o;exact uH h p.eq u o
def wk{e:α->TV}{n:QQ}{x y:AH}{a:α}{cs:Fq}(o:x.val O=Y (e a))(p:y.val O=Y (.agg cs))[c:dR e][i:Decidable (a=c.un cs)](ha:TV.agg (e a).cells=e a)(hb:(e (c.un cs)).cells=cs)(u:(e a).cells.map TV.kd=n)(w:WO S K os ((d,.tv (.bool (decide (a=c.un cs))))::O)):WO S K (⟨Y d,.bin (.a n) .eql x y,W⟩::os) O:=by
 obtain ⟨A,h⟩:=c.dec a (c.un cs);have:i=A:=Subsingleton.elim _ _;subst this;rw[<-ha]at o;rw[hb]at h;exact pJ o p u h w
def wm{e:α->TV}{n:QQ}{x y:AH}{a:α}{cs:Fq}(o:x.val O=Y (e a))(p:y.val O=Y (.agg cs))[c:dR e][i:Decidable (a=c.un cs)](ha:TV.agg (e a).cells=e a)(hb:(e (c.un cs)).cells=cs)(u:(e a).cells.map TV.kd=n)(w:WO S K os ((d,.tv (.bool (!decide (a=c.un cs))))::O)):WO S K (⟨Y d,.bin (.a n) .neq x y,W⟩::os) O:=by
 obtain ⟨A,h⟩:=c.dec a (c.un cs);have:i=A:=Subsingleton.elim _ _;subst this;rw[<-ha]at o;rw[hb]at h;exact pK o p u h w
def wj{e:α->TV}{n:QQ}{x y:AH}{a b:α}{i:Decidable (a=b)}(o:x.val O=Y (e a))(p:y.val O=Y (e b))(c:dR e)(ha:TV.agg (e a).cells=e a)(hb:TV.agg (e b).cells=e b)(u:(e a).cells.map TV.kd=n)(w:WO S K os ((d,.tv (.bool (decide (a=b))))::O)):WO S K (⟨Y d,.bin (.a n) .eql x y,W⟩::os) O:=by
 obtain ⟨A,h⟩:=c.dec a b;have:i=A:=Subsingleton.elim _ _;subst this;rw[<-ha]at o;rw[<-hb]at p;exact pJ o p u h w
def wl{e:α->TV}{n:QQ}{x y:AH}{a b:α}{i:Decidable (a=b)}(o:x.val O=Y (e a))(p:y.val O=Y (e b))(c:dR e)(ha:TV.agg (e a).cells=e a)(hb:TV.agg (e b).cells=e b)(u:(e a).cells.map TV.kd=n)(w:WO S K os ((d,.tv (.bool (!decide (a=b))))::O)):WO S K (⟨Y d,.bin (.a n) .neq x y,W⟩::os) O:=by
 obtain ⟨A,h⟩:=c.dec a b;have:i=A:=Subsingleton.elim _ _;subst this;rw[<-ha]at o;rw[<-hb]at p;exact pK o p u h w
section calls
variable{x:Option α}{f:FuncId}{ts:Fq}{R:α->BA}{args:List AH}
def zh{s:Nat}{cs:List AS}{row:Fq}(o:O.get s=.bx cs)(f:Fz cs row)(k:WO S K os ((s,.tv (.pt row))::O)):WO S K (⟨W,.frz s,W⟩::os) O:=ABs o f.h k
def uQ{t:α->TV}(_:HS d)(h:x.bind k=Y r)(c:Ct P x f ts R)(ha:vals O args=Y ts)(p:∀a,R a=.own (t a))(u:∀a,x=Y a->k a=Y r->WO (AV P) K os ((d,.tv (t a))::O)):WO (AV P) K (⟨Y d,.call f args,W⟩::os) O:=by
 obtain ⟨a,o,h⟩:=bind_some h;have:=c.snd a o;rw[p]at this;exact yu ha (xz this) (u a o h)
def uP{t:α->List AS}(h:x.bind k=Y r)(c:Ct P x f ts R)(ha:vals O args=Y ts)(p:∀a,R a=.oag (t a))(u:∀a,x=Y a->k a=Y r->WO (AV P) K os ((d,.tv (.agg ((t a).map λc=>c.rel.t)))::O)):WO (AV P) K (⟨Y d,.call f args,W⟩::os) O:=by
 obtain ⟨a,o,h⟩:=bind_some h;have:=c.snd a o;rw[p]at this;exact wE ha this rfl (u a o h)
def qJ{γ:Type}{k:List γ->Option β}{x:Option (List γ)}{R:List γ->BA}{n:Nat}{e:γ->TV}(h:x.bind k=Y r)(c:Ct P x f ts R)(p:O.gt d=X)(ha:vals O args=Y ts)(u:∀a,R a=.own (.list n (a.map e)))(hf:∀a,(e a).flat=X)(w:∀a,x=Y a->k a=Y r->WO (AV P) K os ((d,.xo n (a.map e))::O)):WO (AV P) K (⟨Y d,.AaE f args,W⟩::os) O:=by
 obtain ⟨a,o,h⟩:=bind_some h;have:=c.snd a o;rw[u]at this;exact sG p ha this rfl hf (w a o h)
def qI{γ:Type}{k:List γ->Option β}{x:Option (List γ)}{R:List γ->BA}{n:Nat}{e:γ->TV}(h:x.bind k=Y r)(c:Ct P x f ts R)(ha:Aau O args=Y ts)(p:∀a,R a=.own (.list n (a.map e)))(hf:∀a,(e a).flat=X)(u:∀a,x=Y a->k a=Y r->WO (AV P) K os ((d,.ow (.list n (a.map e)))::O)):WO (AV P) K (⟨Y d,.AaM f args,W⟩::os) O:=by
 obtain ⟨a,o,h⟩:=bind_some h;have:=c.snd a o;rw[p]at this;exact sC ha this rfl rfl hf (u a o h)
variable{us:α->Fq}
def uO{i s:Nat}{cs:List AS}{cs':α->List AS}{e:α->EV}(h:x.bind k=Y r)(c:Ct P x f ts R)(p:(args[i]?).bind (·.place O)=Y (s,0))(u:O.get s=.bx cs)(w:O.noX s W=X)(hd:d≠s)(ha:Jd O i args=Y ts)(A:∀a,R a=.bo cs (cs' a) i (us a))(he:∀a,EV.ofs (us a)=e a)(B:∀a,x=Y a->k a=Y r->WO (AV P) K os ((d,e a)::(s,.bx (cs' a))::O)):WO (AV P) K (⟨Y d,.Aas f args i,W⟩::os) O:=by
 obtain ⟨a,o,h⟩:=bind_some h;have:=c.snd a o;rw[A]at this;exact wD p u w hd ha this (he a) (B a o h)
end calls
inductive GS(g:Nat)(b:Bool):QQ->List PR->QQ->Nat->Prop
 |done {acc:QQ} {os:List PR}:GS g b acc os [] 0
 |step {acc js:QQ} {d n:Nat} {op:AF} {os:List PR}:GS g b (d::acc) os js n->GS g b acc (⟨Y d,op,Y (g,b)⟩::os) (d::js) (n+1)
 |nest {acc js:QQ} {d n g':Nat} {b':Bool} {op:AF} {os:List PR}:acc.contains g'=X->GS g b (d::acc) os js n->GS g b acc (⟨Y d,op,Y (g',b')⟩::os) (d::js) (n+1)
def wc:QQ->AB->(AB->Prop)->Prop
 |[],z,K=>K z|k::ks,z,K=>∃j,wc ks ((k,j)::z) K
structure Gj(js:QQ)(d:Nat)(v:TV)(z e:AB):Prop where
 of::out:wc js z λy=>e=(d,.tv v)::y
def np{d:Nat}{v:TV}{z e:AB}(h:e=(d,.tv v)::z):Gj [] d v z e:=⟨h⟩
variable{ks:QQ}
def uo{k d:Nat}{v:TV}{j:EV}{z e:AB}(h:Gj ks d v ((k,j)::z) e):Gj (k::ks) d v z e:=⟨j,h.out⟩
def w3{js:QQ}{v:TV}{z:AB}(h:Gj js d v z O):WO S (Gj js d v z) [] O:=⟨h⟩
structure Z0(js:QQ)(z:AB)(Q:AB->Prop):Prop where
 of::out:∀(d:Nat)(v:TV)(e:AB),Gj js d v z e->∃y,e=(d,.tv v)::y/\Q y
def uq{z:AB}{Q:AB->Prop}(h:Q z):Z0 [] z Q:=⟨λ_ _ _ he=>⟨z,he.out,h⟩⟩
def qv{k:Nat}{z:AB}{Q:AB->Prop}(h:∀j,Z0 ks ((k,j)::z) Q):Z0 (k::ks) z Q:=⟨λd v e he=>by
 obtain ⟨j,o⟩:=he.out;exact(h j).out d v e ⟨o⟩⟩
def ABA{dd:Option Nat}{op:AF}{g:Nat}{b q:Bool}(h:O.get g=.tv (.bool q))(o:dU g b q)(p:WO S K (⟨dd,op,W⟩::os) O):WO S K (⟨dd,op,Y (g,b)⟩::os) O:=ACl h o.out p
def zl{ρ:Type}{dd:Option Nat}{op:AF}{g:Nat}{q:Bool}{u v:Option ρ}{r:ρ}(w:O.get g=.tv (.bool q))(h:(if q=X then u else v)=Y r)
  (o:dU g X q->q=X->u=Y r->WO S K (⟨dd,op,Y (g,X)⟩::os) O)(p:XK g X q->q=T->v=Y r->WO S K (⟨dd,op,Y (g,X)⟩::os) O):WO S K (⟨dd,op,Y (g,X)⟩::os) O:=by
 cases q with
 |true=>exact o ⟨rfl⟩ rfl h|false=>exact p ⟨t_⟩ rfl h
def zk{ρ:Type}{dd:Option Nat}{op:AF}{g:Nat}{q:Bool}{u v:Option ρ}{r:ρ}(w:O.get g=.tv (.bool q))(h:(if q=X then u else v)=Y r)
  (o:XK g T q->q=X->u=Y r->WO S K (⟨dd,op,Y (g,T)⟩::os) O)(p:dU g T q->q=T->v=Y r->WO S K (⟨dd,op,Y (g,T)⟩::os) O):WO S K (⟨dd,op,Y (g,T)⟩::os) O:=by
 cases q with
 |true=>exact o ⟨t_⟩ rfl h|false=>exact p ⟨rfl⟩ rfl h
def xU{op:AF}{g:Nat}{b q:Bool}(h:O.get g=.tv (.bool q))(o:XK g b q)(p:WO S K os ((d,.sk)::O)):WO S K (⟨Y d,op,Y (g,b)⟩::os) O:=AA9 h o.out p
def lL{d n:Nat}{js:QQ}{v:TV}(h:WO S (Gj js d v O) (os.take n) O)(o:Z0 js O λe=>WO S K (os.drop n) ((d,.tv v)::e)):WO S K os O:=
 AA8 n (Gj js d v) h λe he=>by
  obtain ⟨y,rfl,p⟩:=o.out d v e he;exact p
section groups
variable{g n:Nat}{js:QQ}{c:Bool}{dd gd:Option Nat}{op:AF}{x y z:AH}{gg:Option (Nat×Bool)}
variable{θ:K1}{os':List PR}
def zp{k:Bool->Option β}(h:(if c=X then θ else Y T).bind k=Y r)(_:GS g X [] os js n)(A:O.get g=.tv (.bool c))(_:os[n]?=Y ⟨Y d,.pick x y z,gg⟩)
  (p:∀v,dU g X c->c=X->θ=Y v->WO S (Gj js d (.bool v) O) (os.take (n+1)) O)(u:∀v,XK g X c->c=T->Y T=Y v->WO S (Gj js d (.bool v) O) (os.take (n+1)) O)
  (w:∀v,k v=Y r->Z0 js O λe=>WO S K (os.drop (n+1)) ((d,.tv (.bool v))::e))(ho:os=⟨dd,op,Y (g,X)⟩::os'):WO S K (⟨dd,op,Y (g,X)⟩::os') O:=by
 obtain ⟨v,hv,h⟩:=bind_some h;rw[<-ho];refine lL (n:=n+1) (v:=.bool v) ?_ (w v h);rcases Bool.eq_false_or_eq_true c with o|o
 .exact p v ⟨o⟩ o (Yg o hv)
 .exact u v ⟨by rw[o];rfl⟩ o (Yf o hv)
def zm{k:Bool->Option β}(h:(if c=X then Y X else θ).bind k=Y r)(_:GS g T [] os js n)(A:O.get g=.tv (.bool c))(_:os[n]?=Y ⟨Y d,.pick x y z,gg⟩)
  (p:∀v,dU g T c->c=T->θ=Y v->WO S (Gj js d (.bool v) O) (os.take (n+1)) O)(u:∀v,XK g T c->c=X->Y X=Y v->WO S (Gj js d (.bool v) O) (os.take (n+1)) O)
  (w:∀v,k v=Y r->Z0 js O λe=>WO S K (os.drop (n+1)) ((d,.tv (.bool v))::e))(ho:os=⟨dd,op,Y (g,T)⟩::os'):WO S K (⟨dd,op,Y (g,T)⟩::os') O:=by
 obtain ⟨v,hv,h⟩:=bind_some h;rw[<-ho];refine lL (n:=n+1) (v:=.bool v) ?_ (w v h);rcases Bool.eq_false_or_eq_true c with o|o
 .exact u v ⟨by rw[o];rfl⟩ o (Yg o hv)
 .exact p v ⟨o⟩ o (Yf o hv)
def zj{e:Bool}(ho:os=⟨dd,op,Y (g,X)⟩::os')(_:GS g X [] os js n)(u:O.get g=.tv (.bool c))(_:os[n]?=Y ⟨Y d,.pick x y z,gg⟩)
  (h:dU g X c->c=X->WO S (Gj js d (.bool e) O) (os.take (n+1)) O)(o:XK g X c->c=T->WO S (Gj js d (.bool T) O) (os.take (n+1)) O)
  (p:Z0 js O λz=>WO S K (os.drop (n+1)) ((d,.tv (.bool (c&&e)))::z)):WO S K (⟨dd,op,Y (g,X)⟩::os') O:=by
 rw [<-ho];refine lL (n:=n+1) (v:=.bool (c&&e)) ?_ p;cases c
 .exact o ⟨rfl⟩ rfl
 .exact h ⟨rfl⟩ rfl
def zi{e:Bool}(ho:os=⟨dd,op,Y (g,T)⟩::os')(_:GS g T [] os js n)(u:O.get g=.tv (.bool c))(_:os[n]?=Y ⟨Y d,.pick x y z,gg⟩)
  (h:dU g T c->c=T->WO S (Gj js d (.bool e) O) (os.take (n+1)) O)(o:XK g T c->c=X->WO S (Gj js d (.bool X) O) (os.take (n+1)) O)
  (p:Z0 js O λz=>WO S K (os.drop (n+1)) ((d,.tv (.bool (c||e)))::z)):WO S K (⟨dd,op,Y (g,T)⟩::os') O:=by
 rw [<-ho];refine lL (n:=n+1) (v:=.bool (c||e)) ?_ p;cases c
 .exact h ⟨rfl⟩ rfl
 .exact o ⟨rfl⟩ rfl
end groups
variable{qi:Option Nat}{j:Int}
def AAC{x:AH}{q n i:Nat}{es row:Fq}{e:α->TV}{l:List α}{a:α}{t:TV}(h:x.ev O=.lp q qi (j.toNat*n+i))(o:O.so q qi=Y (n,es))(he:es=l.map e)(p:∀a,(e a).cells.length=n)(ha:idx l j=Y a)(hi:A? i n=X)(hr:(e a).cells=row)(u:row[i]?=Y t)
  (w:WO S K os ((d,.tv t)::O)):WO S K (⟨Y d,.xld x,W⟩::os) O:=uI h o he p ha rfl hi hr u w
def xB{x:AH}{q n:Nat}{es row:Fq}{e:α->TV}{l:List α}{a:α}{t:TV}(h:x.ev O=.lp q qi (j.toNat*n))(o:O.so q qi=Y (n,es))(he:es=l.map e)(p:∀a,(e a).cells.length=n)(ha:idx l j=Y a)(hi:A? 0 n=X)(hr:(e a).cells=row)(u:row[0]?=Y t)
  (w:WO S K os ((d,.tv t)::O)):WO S K (⟨Y d,.xld x,W⟩::os) O:=uI (i:=0) h o he p ha rfl hi hr u w
variable{v:AH}
def xD{γ:Type}{s:Nat}{q n i:Nat}{env':AB}{es:Fq}{e:α->TV}{g:γ->TV}{l:List α}{a:α}{b:γ}{f:α->γ->α}(_:HX s f)(h:(AH.s s).ev O=.lp q qi (j.toNat*n+i))(p:O.so q qi=Y (n,es))(hv:v.ev O=.tv (g b))(he:es=l.map e)(u:∀a,(e a).cells.length=n)(ha:idx l j=Y a)(hi:A? i n=X)(w:(g b).cells=[g b])
  (hb:(e (f a b)).cells=(e a).cells.set i (g b))(o:O.Aad q qi n ((BE l j (f a b)).map e)=env')(A:WO S K os env'):WO S K (⟨W,.xst (.s s) v 1,W⟩::os) O:=uJ h p hv he u ha rfl hi w hb rfl o A
def xC{x v:AH}{q n:Nat}{env':AB}{es:Fq}{e:α->TV}{l:List α}{a b:α}(h:x.ev O=.lp q qi (j.toNat*n))(p:O.so q qi=Y (n,es))(hv:v.ev O=.tv (e b))(he:es=l.map e)(u:∀a,(e a).cells.length=n)(ha:idx l j=Y a)(hi:A? 0 n=X)(w:(e b).cells=[e b])
  (hb:(e b).cells=(e a).cells.set 0 (e b))(o:O.Aad q qi n ((BE l j b).map e)=env')(A:WO S K os env'):WO S K (⟨W,.xst x v 1,W⟩::os) O:=uJ (i:=0) h p hv he u ha rfl hi w hb rfl o A
end
end Go.Sf
namespace Go.Sf
section
variable{S:FuncId->Fq->BA->Prop}{K:AB->Prop}{os:List PR}{O:AB}{d:Nat}
variable{j:Int}
def AB2{α:Type}{x:AH}{s o:Nat}{es:Fq}{e:α->TV}{l:List α}{a:α}(h:x.ev O=.nh s o (.el j.toNat))(u:O.nat s o=Y es)(he:es=l.map e)(ha:idx l j=Y a)(k:WO S K os ((d,.nh s o (.rw j.toNat))::O)):WO S K (⟨Y d,.nld x,W⟩::os) O:=by
 replace k:=k.out;refine⟨?_⟩;subst he;obtain⟨A,B,w⟩:=IH ha;have p:j.toNat<l.length:=(y?.1 w).1;simp only[wpOps,PR.wp,AF.wp,h,u,A0];exact⟨by simpa using p,k⟩
variable{j2:Int}
def AB3{α:Type}{x v:AH}{s o:Nat}{es:Fq}{env':AB}{e:List α->TV}{e2:α->TV}{l:List (List α)}{m:List α}{A b:α}{t:TV}(h:x.ev O=.nh s o (.rp j.toNat j2.toNat))(B:O.nat s o=Y es)(hv:v.ev O=.tv t)(he:es=l.map e)(w:∀m,e m=.list 1 (m.map e2))(ha:idx l j=Y m)(hb:idx m j2=Y A)(C:t=e2 b)(D:t.cells=[t])(E:t.flat=X)
  (p:O.AbL s o ((BE l j (BE m j2 b)).map e)=env')(k:WO S K os env'):WO S K (⟨W,.nst x v,W⟩::os) O:=by
 replace k:=k.out;refine⟨?_⟩;subst he p C;obtain⟨H,I,F⟩:=IH ha;obtain⟨m0,m1,G⟩:=IH hb;have u:j2.toNat<m.length:=(y?.1 G).1;simp only[wpOps,PR.wp,AF.wp,h,B,hv,A0];refine⟨m.map e2,by rw[z_,F];simp[w],d?,D,E,?_⟩;have:(l.map e).set j.toNat (.list 1 ((m.map e2).set j2.toNat (e2 b)))=(BE l j (BE m j2 b)).map e:=by
  simp only[BE,List.map_set,w]
 rw [this];exact k
end
section
variable{P:Program}{K:AB->Prop}{os:List PR}{O:AB}{d:Nat}{α β γ ρ:Type}{f:FuncId}{args:List AH}{ts:Fq}{R:α->BA}{x:Option α}{k:α->Option ρ}{r:ρ}
variable{j:Int}
def zw{x i:AH}{s o:Nat}{es:Fq}{e:α->TV}{l:List α}{ik:IntKind}{S:FuncId->Fq->BA->Prop}(h:(idx l j).bind k=Y r)(p:x.ev O=.nh s o .hd)(u:O.nat s o=Y es)(hi:i.val O=Y (.int ik j))(he:es=l.map e)
  (w:∀a,idx l j=Y a->k a=Y r->WO S K os ((d,.nh s o (.el j.toNat))::O)):WO S K (⟨Y d,.nia x i,W⟩::os) O:=by
 obtain ⟨a,ha,h⟩:=bind_some h;have A:=(w a ha h).out;refine⟨?_⟩;subst he;obtain⟨C,E,D⟩:=IH ha;have B:j.toNat<l.length:=(y?.1 D).1;simp only[wpOps,PR.wp,AF.wp,p,u,hi,A0];exact⟨C,by simp only[c9];omega,A⟩
variable{e2:α->TV}{j2:Int}
def zx{x i:AH}{s o:Nat}{es:Fq}{e:List α->TV}{l:List (List α)}{m:List α}{ik:IntKind}{S:FuncId->Fq->BA->Prop}(h:(idx m j2).bind k=Y r)(p:x.ev O=.nh s o (.rw j.toNat))(u:O.nat s o=Y es)(hi:i.val O=Y (.int ik j2))(he:es=l.map e)(w:∀m,e m=.list 1 (m.map e2))(ha:idx l j=Y m)
  (A:∀a,idx m j2=Y a->k a=Y r->WO S K os ((d,.nh s o (.rp j.toNat j2.toNat))::O)):WO S K (⟨Y d,.nia x i,W⟩::os) O:=by
 obtain ⟨b,hb,h⟩:=bind_some h;have B:=(A b hb h).out;refine⟨?_⟩;subst he;obtain⟨F,G,D⟩:=IH ha;obtain⟨m0,m1,E⟩:=IH hb;have C:j2.toNat<m.length:=(y?.1 E).1;simp only[wpOps,PR.wp,AF.wp,p,u,hi,A0];exact⟨m0,m.map e2,by rw[z_,D];simp[w],by simp only[c9];omega,B⟩
def wn{mm q s o:Nat}{es u:Fq}{cs cs':List AS}{n:Nat}{e:β->TV}{l:List β}{m:β}{k:List β->Option ρ}{S:FuncId->Fq->BA->Prop}(h:(AY l [m]).bind k=Y r)(w:O.get mm=.nh s o .hd)(A:O.get q=.x1 n u)(B:O.get s=.bx cs)(C:O.nat s o=Y es)(he:es=l.map e)(hf:TV.list n u=e m)(p:O.gt d=X)(hd:d≠mm/\d≠q/\mm≠q)(D:cs.set o ⟨T,.undef⟩=cs')
  (E:∀a,AY l [m]=Y a->k a=Y r->WO S K os ((d,.xn (a.map e))::(s,.bx cs')::(mm,.undef)::(q,.undef)::O)):WO S K (⟨Y d,.AaJ mm q,W⟩::os) O:=by
 obtain ⟨a,ha,h⟩:=bind_some h;have G:=(E a ha h).out;refine⟨?_⟩;subst he D;unfold AY at ha;split at ha
 next F=>cases ha;simp only[wpOps,PR.wp,AF.wp,w,A,B,C,A0];refine⟨o!,⟨p,hd⟩,?_⟩;rw[hf];simpa[AB.put]using G
 .cases ha
def qH{u:α->List β}{v:α->List γ}{w A:Nat}{p:β->TV}{e2:γ->TV}(h:x.bind k=Y r)(c:Ct P x f ts R)(ha:vals O args=Y ts)(E:∀a,R a=.oag [⟨X,.list w ((u a).map p)⟩,⟨X,.list A ((v a).map e2)⟩])(F:∀a,(p a).flat=X)(G:∀a,(e2 a).flat=X)
  (H:∀a,x=Y a->k a=Y r->WO (AV P) K os ((d,.oag [⟨X,.xl w ((u a).map p)⟩,⟨X,.xl A ((v a).map e2)⟩])::O)):WO (AV P) K (⟨Y d,.Aaz f args,W⟩::os) O:=by
 obtain ⟨a,D,h⟩:=bind_some h;have C:=c.snd a D;rw[E]at C;have I:=(H a D h).out;have o:∀{τ:Type}(e:τ->TV)(l:List τ),(∀a,(e a).flat=X)->TV.zt (l.map e)=X:=by
  intro τ e l he
  induction l with
  |nil=>rfl|cons a l J=>simp[TV.zt,he,J]
 refine ⟨?_⟩;simp only[wpOps,PR.wp,AF.wp,ha,A0];refine⟨_,C,λc B=>?_,λ_=>I⟩;simp only[y!,List.not_mem_nil,or_false]at B;rcases B with rfl|rfl
 .exact⟨_,_,rfl,o _ _ F⟩
 .exact⟨_,_,rfl,o _ _ G⟩
inductive NL:List AS->List AS->Prop
 |nil {xs:List AS}:xs=[]->NL xs []
 |cons {xs ys zs:List AS} {o:Bool} {t:TV}:xs=⟨o,t⟩::ys->NL ys zs->NL xs (⟨o,t⟩::zs)
def NL.eq{xs ys:List AS}(h:NL xs ys):xs=ys:=by
 induction h with
 |nil h=>exact h|cons h _ o=>rw[h,o]
def z7{S:FuncId->Fq->BA->Prop}{K:AB->Prop}{os:List PR}{O:AB}{n s h:Nat}{x v:AH}{cs cs':List AS}{t:TV}(o:x.place O=Y (s,h))(p:O.get s=.bx cs)(hv:v.ev O=.tv t)(u:t.cells.length=n)(hb:A! (h+n) cs.length=X)(w:NL (cs.take h++t.cells.map (⟨T,·⟩)++cs.drop (h+n)) cs')
  (k:WO S K os ((s,.bx cs')::O)):WO S K (⟨W,.st n x v,W⟩::os) O:=ACy o p hv u hb w.eq k
def xA{S:FuncId->Fq->BA->Prop}{K:AB->Prop}{os:List PR}{O:AB}{s h q:Nat}{x:AH}{cs cs':List AS}{t:TV}(o:x.place O=Y (s,h))(p:O.get s=.bx cs)(hv:O.get q=.ow t)(u:q≠s)(hb:A? h cs.length=X)(w:NL (cs.set h ⟨X,t⟩) cs')
  (k:WO S K os ((s,.bx cs')::(q,.tv t)::O)):WO S K (⟨W,.st 1 x (.s q),W⟩::os) O:=AB8 o p hv u hb w.eq k
def aN:∀(ts:List (Nat×Nat×TV))(done rest:Fq),Xt done.length ts=X->(Jk ts).length<=rest.length->F1 (done++rest) ts=Y (done++(Jk ts++rest.drop (Jk ts).length))
 |[],done,rest,_,h=>by simp[F1,Jk]|(i,n,t)::r,done,rest,p,h=>by
  simp only[Xt,mo,Nat.beq_eq]at p;obtain⟨⟨rfl,o⟩,hr⟩:=p;simp only[Jk,b6]at h;have u:n<=rest.length:=U
  simp only[F1];rw[ac ⟨o,by rw[b6];omega⟩];have w:done++rest=done++(rest.take n++rest.drop n):=by rw[List.take_append_drop]
  rw [w,V1 t.cells done (rest.take n) (rest.drop n) e!,<-ci];rw[aN r (done++t.cells) (rest.drop n) (by rw[b6,o];exact hr) (by rw[List.length_drop];omega)];simp[Jk,List.drop_drop,o]
inductive NT:Fq->Fq->Prop
 |nil {xs:Fq}:xs=[]->NT xs []
 |cons {xs ys zs:Fq} {t:TV}:xs=t::ys->NT ys zs->NT xs (t::zs)
def NT.eq{xs ys:Fq}(h:NT xs ys):xs=ys:=by
 induction h with
 |nil h=>exact h|cons h _ o=>rw[h,o]
variable{zero:Fq}
def ws{S:FuncId->Fq->BA->Prop}{K:AB->Prop}{os:List PR}{O:AB}{d:Nat}{parts:List (Nat×Nat×AH)}{ts:List (Nat×Nat×TV)}{cs:Fq}(h:Hw O parts=Y ts)(o:Xt 0 ts=X)(p:A! (Jk ts).length zero.length=X)(u:NT (Jk ts++zero.drop (Jk ts).length) cs)(k:WO S K os ((d,.tv (.agg cs))::O)):WO S K (⟨Y d,.bld zero parts,W⟩::os) O:=
 dO h (by have:=aN ts [] zero o (Nat.le_of_ble_eq_true p);simpa using this) (by rw[u.eq]) k
structure HY{α A B C:Type}(n:Nat)(f:A->B->C->α)(g1:A->TV)(g2:B->TV)(g3:C->TV):Prop where
variable{v:AH}{qi:Option Nat}
def xE{S:FuncId->Fq->BA->Prop}{K:AB->Prop}{os:List PR}{O:AB}{α A B C:Type}{f:A->B->C->α}{o:Nat}{q n:Nat}{env':AB}{es cs cs':Fq}{e:α->TV}{l:List α}{a:α}{E:A}{F:B}{G:C}{p:A->TV}{u:B->TV}{w:C->TV}(_:HY o f p u w)(h:(AH.s o).ev O=.lp q qi (j.toNat*n))(H:O.so q qi=Y (n,es))(he:es=l.map e)(I:∀a,(e a).cells.length=n)(hv:v.ev O=.tv (.agg cs))(J:NT cs cs')(hb:cs'=[p E,u F,w G])(hf:∀a b c,TV.agg [p a,u b,w c]=e (f a b c))(ha:idx l j=Y a)(L:A? 0 n=X)
  (D:O.Aad q qi n ((BE l j (f E F G)).map e)=env')(k:WO S K os env'):WO S K (⟨W,.xst (.s o) v n,W⟩::os) O:=uK h H (by rw[hv,J.eq,hb,hf]) he I ha L D k
def AAD{S:FuncId->Fq->BA->Prop}{α:Type}{x v:AH}{q n:Nat}{env':AB}{es:Fq}{e:α->TV}{l:List α}{a b:α}(h:x.ev O=.lp q qi (j.toNat*n))(p:O.so q qi=Y (n,es))(he:es=l.map e)(u:∀a,(e a).cells.length=n)(hv:v.ev O=.tv (e b))(ha:idx l j=Y a)(w:A? 0 n=X)
  (o:O.Aad q qi n ((BE l j b).map e)=env')(k:WO S K os env'):WO S K (⟨W,.xst x v n,W⟩::os) O:=uK h p hv he u ha w o k
end
section
variable{S:FuncId->Fq->BA->Prop}{K:AB->Prop}{os:List PR}{O:AB}{d:Nat}
def ABz(k:∀b,WO S K os ((d,.mx (.mp b []))::O)):WO S K (⟨Y d,.mkm,W⟩::os) O:=
 ⟨λb=>(k b).out⟩
def AB1{s:Nat}{last:Option ((Int×Int)×Int)}{o:Bj}(h:O.get s=.mx (.mi last o))(hd:d≠s)(w:o=[]->WO S K os ((d,.tp [.bool T])::O))(A:∀p u,o.Perm (p::u)->WO S K os ((d,.tp [.bool X,TX p.1,.int .i64 p.2])::(s,.mx (.mi (Y p) u))::O)):WO S K (⟨Y d,.mnx s,W⟩::os) O:=by
 refine ⟨?_⟩;simp only[wpOps,PR.wp,AF.wp,h];exact⟨hd,λe=>(w e).out,λp t B=>(A p t B).out⟩
variable{kvs:Bj}
def sF{f:FuncId}{args:List AH}{ts us:Fq}(hv:vals O args=Y ts)(h:S f ts (.mpr kvs us))(k:∀b,WO S K os ((d,.mx (.tm b kvs us))::O)):WO S K (⟨Y d,.AaF f args,W⟩::os) O:=by
 refine ⟨?_⟩;simp only[wpOps,PR.wp,AF.wp,hv,A0];exact .inr ⟨kvs,us,h,λ_ b=>(k b).out⟩
def sE{f:FuncId}{args:List AH}{ts us:Fq}(hv:vals O args=Y ts)(h:S f ts (.tp us))(k:WO S K os ((d,.tp us)::O)):WO S K (⟨Y d,.AaF f args,W⟩::os) O:=by
 refine ⟨?_⟩;simp only[wpOps,PR.wp,AF.wp,hv,A0];exact .inl ⟨us,h,λ_=>k.out⟩
def MS{ss:QQ}{s:Nat}{r:AB}{m:MX}(h:O.get s=.mx m)(k:Kp O ss r):Kp O (s::ss) ((s,.mx m)::r):=PW h k
def ABW{ss:QQ}{s:Nat}{r:AB}{q:List (Nat×EV)}{m:MX}(h:look q s=W)(o:O.get s=.mx m)(k:Nm O q ss r):Nm O q (s::ss) ((s,.mx m)::r):=Rm h o k
end
def PY(r:Bj×Int):BA:=if r.2=0 then .mpr r.1 [.int .i64 r.2]else .tp [.undef,.int .i64 r.2]
structure HMO(o:Nat):Prop where
variable{kvs:Bj}
def vB{h:List RV}{O:AB}{e:Int}(he:(!decide (e=0))=X)(o:h.length≠1)(p:Ey O h=Y [.undef,.int .i64 e]):Bf h (PY (kvs,e)) O:=by
 simp only[Bool.not_eq_true',decide_eq_false_iff_not]at he;simp only[PY,ae he];exact⟨o,p⟩
def vC{s o b:Nat}{h:List RV}{O:AB}(_:HMO o)(p:O.get s=.tv (.AaQ b))(u:O.get o=.mx (.mp b kvs))(w:h≠[])(A:Ey O h=Y [.int .i64 0]):Bf (.tmp s::h) (PY (kvs,0)) O:=by
 simp only[PY,if_true,Bf];exact⟨w,⟨b,o,p,u⟩,A⟩
section
variable{P:Program}{α β:Type}{K:AB->Prop}{os:List PR}{O:AB}{d:Nat}{x:Option α}{k:α->Option β}{r:β}{f:FuncId}{args:List AH}{ts:Fq}{R:α->BA}
variable{us:α->Fq}
def qG{i s:Nat}{cs:List AS}{q:α->Bool}{u v:α->List AS}{e:α->EV}(h:x.bind k=Y r)(c:Ct P x f ts R)(A:(args[i]?).bind (·.place O)=Y (s,0))(B:O.get s=.bx cs)(C:O.noX s W=X)(hd:d≠s)(ha:Jd O i args=Y ts)(D:∀a,R a=.bo cs (if q a=X then u a else v a) i (us a))(he:∀a,EV.ofs (us a)=e a)
  (E:∀a,x=Y a->q a=X->k a=Y r->WO (AV P) K os ((d,e a)::(s,.bx (u a))::O))(F:∀a,x=Y a->q a=T->k a=Y r->WO (AV P) K os ((d,e a)::(s,.bx (v a))::O)):WO (AV P) K (⟨Y d,.Aas f args i,W⟩::os) O:=by
 refine uO h c A B C hd ha D he (λa o p=>?_);cases w:q a with
 |true=>rw[ac rfl];exact E a o w p|false=>rw[ae V];exact F a o w p
end
section
variable{S:FuncId->Fq->BA->Prop}{a b:PC}{O:AB}
variable{Q:Q}
def wu{c:AH}{β:Type}{q:Bool}{u v:Option β}{r:β}(p:c.val O=Y (.bool q))(h:(if q=X then u else v)=Y r)(o:q=X)(k:u=Y r->WP S a Q O):WP S (.cond c a b) Q O:=
 Te p o (k (Yg o h))
def wt{c:AH}{β:Type}{q:Bool}{u v:Option β}{r:β}(p:c.val O=Y (.bool q))(h:(if q=X then u else v)=Y r)(o:q=T)(k:v=Y r->WP S b Q O):WP S (.cond c a b) Q O:=
 Td p o (k (Yf o h))
end
end Go.Sf
set_option maxRecDepth 100000
namespace Go.Sf
def O4{P:Prop}(p:P:=by first|exact rfl|exact Ml.eq):P:=p
def tW{P:Prop}(p:P:=by
 first|exact ACL rfl O4|exact ACK rfl|exact AAF rfl rfl O4|exact AAE rfl rfl|exact ACN rfl|exact ACM rfl O4|exact ACP rfl rfl|exact ACO|exact ACJ a!):P:=p
def tj{P:Prop}(p:P:=by
 repeat (first|apply GS.step|(apply GS.nest;exact rfl))
 exact GS.done):P:=p
def nlq{P:Prop}(p:P:=by
 repeat (apply NL.cons;exact rfl)
 exact NL.nil rfl):P:=p
def ntq{P:Prop}(p:P:=by
 repeat (apply NT.cons;exact rfl)
 exact NT.nil rfl):P:=p
def lmq{P:Prop}(p:P:=by
 repeat (apply Lm.cons;exact rfl)
 exact Lm.nil):P:=p
def gnq{P:Prop}(p:P:=by
 intro _ k
 repeat' (first|exact k|exact rfl|exact Nat.le_of_ble_eq_true rfl|exact Nat.ne_of_beq_eq_false rfl|decide|apply And.intro)):P:=p
def au{P:Prop}(p:P:=by
 repeat' (first
  |(show WO _ _ _ _;first
    |apply PG
    |(apply st 1;exact rfl;first|exact λ_ k=>k|exact λ_ k=>⟨rfl,k⟩)
    |(apply ABA;exact rfl;assumption)
    |(apply xU;exact rfl;assumption)
    |(apply ABw;exact rfl;exact O4)
    |(apply wG;exact rfl;assumption;exact rfl)
    |(apply wF;exact rfl;assumption;exact rfl)
    |(apply uQ;assumption;exact h;infer_instance;exact rfl;exact λ_=>rfl;intro x o h)|(apply qG;exact h;infer_instance;exact rfl;exact rfl;exact rfl;decide;exact rfl;exact λ_=>rfl;exact λ_=>rfl;intro x o B h;rotate_left;intro x o B h;rotate_left)|(apply ACQ;exact rfl;exact h;infer_instance;intro x c h;apply st 3;exact rfl;first|exact λ_ k=>⟨_,⟨c,rfl⟩,λ_=>k⟩|exact λ_ k=>⟨_,c,λ_=>k⟩|exact λ_ k=>⟨_,c,k⟩|exact λ_ k=>⟨rfl,_,_,.inl c,λ_=>k⟩|exact λ_ k=>⟨⟨rfl,Nat.ne_of_beq_eq_false rfl⟩,_,_,c,λ_=>k⟩|exact λ_ k=>⟨Nat.ne_of_beq_eq_false rfl,_,c,λ_=>k⟩|exact λ_ k=>⟨rfl,_,_,_,rfl,c,λ_=>k⟩|exact λ_ k=>⟨⟨Nat.ne_of_beq_eq_false rfl,rfl⟩,rfl,rfl,_,_,rfl,c,λ_=>k⟩)
    |(apply wo;exact h;exact rfl;exact rfl;exact O4;exact O4;infer_instance;intro x o h)
    |(apply ACR;exact rfl;exact h;intro x o h;first|(apply ABt o;exact rfl;exact rfl;exact O4;exact rfl)|(apply uE o;exact rfl;exact rfl;exact O4;exact O4;exact rfl)|(apply AB6 o;exact rfl;exact O4;exact rfl;exact rfl)|(apply yz o;exact rfl;exact rfl)|(apply y4 o;exact rfl;exact rfl;exact rfl)|(apply AB9 o;exact rfl;exact rfl;exact O4;exact rfl)|(apply yq o;exact rfl;exact rfl;exact O4;exact O4;exact rfl;exact rfl;decide)|(apply yr o;exact rfl;exact rfl;exact rfl;exact rfl;exact rfl;exact rfl;decide;exact rfl;exact rfl)|(apply ABr o;exact rfl;exact rfl;exact rfl;exact rfl;exact rfl;decide)|(apply AB0 o;exact rfl;exact rfl;exact rfl;exact rfl))
    |(apply y5;exact rfl;exact O4)
    |(apply wq;(with_reducible exact h);infer_instance;exact rfl;exact rfl;exact rfl;intro x o h)
    |(apply yt;exact rfl;exact rfl;exact rfl;exact rfl)
    |(apply ws;exact rfl;exact rfl;exact rfl;exact ntq)
    |(apply dO;exact rfl;exact rfl;exact rfl)
    |(apply zu;(with_reducible exact h);infer_instance;exact rfl;exact rfl;exact rfl;intro x o h)
    |(apply tU;exact rfl;exact rfl;exact rfl)
    |(apply zr;exact rfl;exact rfl;exact rfl;exact rfl)
    |(apply w5;exact rfl;exact rfl;exact rfl)
    |(apply w9;exact rfl;exact rfl;exact rfl;exact rfl)
    |(apply z7;exact rfl;exact rfl;exact rfl;exact rfl;exact rfl;exact nlq)
    |(apply xA;exact rfl;exact rfl;exact rfl;decide;exact rfl;exact nlq)
    |(apply ABx;exact rfl;exact rfl)
    |(apply ABy;exact rfl;exact rfl)
    |(apply st 2;exact rfl;exact gnq)
    |(apply sn;exact rfl;exact gnq)
    |(apply ACm;exact rfl)
    |(apply ABu;exact rfl)
    |(apply uP;exact h;infer_instance;exact rfl;exact λ_=>rfl;intro x o h)
    |(apply zy;exact h;exact rfl;exact rfl;intro x o h)
    |(apply z1;exact h;exact rfl;exact rfl;intro x o h)
    |(apply zf;exact h;exact rfl;exact rfl;decide;intro x o h)
    |(apply w8;exact h;exact rfl;exact rfl;intro x o h)
    |(apply wj;exact rfl;exact rfl;infer_instance;exact rfl;exact rfl;exact rfl)
    |(apply wl;exact rfl;exact rfl;infer_instance;exact rfl;exact rfl;exact rfl)
    |refine wk rfl rfl rfl rfl rfl ?_
    |refine wm rfl rfl rfl rfl rfl ?_
    |(apply zl;exact rfl;(with_reducible exact h);intro A B h;rotate_left;intro A B h;rotate_left)
    |(apply zk;exact rfl;(with_reducible exact h);intro A B h;rotate_left;intro A B h;rotate_left)
    |(apply zp h (ho:=rfl);exact tj;exact rfl;exact rfl;intro v A B h;rotate_left;intro v A B h;rotate_left;intro v h;rotate_left)
    |(apply zm h (ho:=rfl);exact tj;exact rfl;exact rfl;intro v A B h;rotate_left;intro v A B h;rotate_left;intro v h;rotate_left)
    |(apply zj rfl;exact tj;exact rfl;exact rfl;intro A B;rotate_left;intro A B;rotate_left 3)
    |(apply zi rfl;exact tj;exact rfl;exact rfl;intro A B;rotate_left;intro A B;rotate_left 3)
    |apply w3
    |(apply w7;exact rfl;exact lmq;exact λ_=>rfl;infer_instance)|(apply w6;exact rfl;exact lmq;exact λ_=>rfl)
    |(apply zv;exact rfl;exact rfl)
    |(apply zh;exact rfl;infer_instance)
    |(apply xB;exact rfl;exact rfl;exact rfl;exact λ_=>rfl;assumption;exact rfl;exact rfl;exact rfl)|(apply AAC;exact rfl;exact rfl;exact rfl;exact λ_=>rfl;assumption;exact rfl;exact rfl;exact rfl)|(apply xD;assumption;exact rfl;exact rfl;exact rfl;exact rfl;exact λ_=>rfl;assumption;exact rfl;exact rfl;exact rfl;exact rfl)|(apply xC;exact rfl;exact rfl;exact rfl;exact rfl;exact λ_=>rfl;assumption;exact rfl;exact rfl;exact rfl;exact rfl)|(apply xE;assumption;exact rfl;exact rfl;exact rfl;exact λ_=>rfl;exact rfl;exact ntq;exact rfl;exact λ_ _ _=>rfl;assumption;exact rfl;exact rfl)|(apply AAD;exact rfl;exact rfl;exact rfl;exact λ_=>rfl;exact rfl;assumption;exact rfl;exact rfl)|(apply qJ;exact h;infer_instance;exact rfl;exact rfl;exact λ_=>rfl;exact λ_=>rfl;intro x o h)|(apply qI;exact h;infer_instance;exact rfl;exact λ_=>rfl;exact λ_=>rfl;intro x o h)
    |(apply zq;exact h;exact rfl;exact O4;intro u h)
    |(apply uF;exact rfl;exact rfl;intro z D;replace h:=ua h z D)
    |(apply yw;exact rfl)
    |(apply zw;exact h;exact rfl;exact rfl;exact rfl;exact O4;intro x o h)
    |(apply AB2;exact rfl;exact rfl;exact O4;assumption)
    |(apply zx;exact h;exact rfl;exact rfl;exact rfl;exact O4;exact λ_=>rfl;assumption;intro x o h)|(apply AB3;exact rfl;exact rfl;exact rfl;exact O4;exact λ_=>rfl;assumption;assumption;exact rfl;exact rfl;exact rfl;exact rfl)
    |(apply wn;exact h;exact rfl;exact rfl;exact rfl;exact rfl;exact O4;exact rfl;exact rfl;decide;exact rfl;intro x o h)
    |(apply qH;exact h;infer_instance;exact rfl;exact λ_=>rfl;exact λ_=>rfl;exact λ_=>rfl;intro x o h)
    |(apply ABz;intro b;have K:=K b))
  |(show WP _ _ _ _;first
    |with_reducible apply zg
    |apply MO
    |apply RX
    |(apply ww;exact rfl)
    |(apply z6;exact rfl;exact rfl)
    |apply dW
    |apply kj
    |apply my
    |(apply Te;exact rfl;with_reducible rfl)
    |(apply Td;exact rfl;with_reducible rfl)
    |(apply w4;exact rfl;exact h;assumption;exact rfl;intro w B h;rotate_left;intro w B h;rotate_left;intro w h;rotate_left)
    |(apply wu;exact rfl;exact h;assumption;intro h)
    |(apply wt;exact rfl;exact h;assumption;intro h)
    |(apply wv;exact rfl;exact h;intro B h;rotate_left;intro B h;rotate_left)
    |(apply Te;exact rfl;apply dlt;assumption)
    |(apply Td;exact rfl;apply ACk;assumption)
    |(apply wx;(first|assumption|(apply HB.a;assumption));exact h;exact C;exact tW;exact rfl;exact rfl;exact λ_ _=>rfl;intro i s r hi h C;rotate_left;intro i s hi;clear h;rotate_left;intro s h;rotate_left)
    |(apply w2;(first|assumption|(apply HB.a;assumption));assumption;exact rfl;exact h;exact C;exact tW;exact rfl;exact rfl;exact λ_ _=>rfl;intro i s r hi h C;rotate_left;intro i s hi;clear h;rotate_left;intro s h;rotate_left)
    |(apply wz;(first|assumption|(apply HB.a;assumption));exact h;exact C;exact tW;exact rfl;exact rfl;exact λ_ _=>rfl;intro i s r hi h C;rotate_left;intro i s hi;clear h;rotate_left;intro s h;rotate_left)
    |(apply wy;(first|assumption|(apply HB.a;assumption));exact h;exact C;exact tW;exact rfl;exact rfl;exact λ_ _=>rfl;intro i s r hi h C;rotate_left;intro i s hi;clear h;rotate_left;intro s h;rotate_left)
    |(apply AAB;assumption;assumption;exact rfl;exact h;exact rfl;exact rfl;intro s r h C;rotate_left;intro s h;rotate_left)
    |(apply AAA;assumption;exact h;exact rfl;exact rfl;intro s r h C;rotate_left;intro s h;rotate_left)
    |(apply z8;assumption;exact h;exact rfl;exact rfl;intro s r h C;rotate_left;intro s h;rotate_left)
    |apply iy
    |cases h)
  |(show Kp _ _ _;first
    |exact Js
    |(apply MU;exact rfl)
    |(apply ABI;exact rfl)
    |(apply MR;exact rfl)
    |(apply ABK;exact rfl)
    |(apply ABG;exact rfl)
    |(apply MT;exact rfl)
    |(apply MV;exact rfl)
    |(apply ABH;exact rfl)
    |(apply ABJ;exact rfl)
    |(apply xk;exact rfl)
    |(apply MS;exact rfl))
  |(show Nm _ _ _ _;first
    |exact xw
    |(apply xu;exact rfl)
    |(apply ABZ;exact rfl;exact rfl)
    |(apply ABX;exact rfl;exact rfl)
    |(apply ABU;exact rfl;exact rfl)
    |(apply ABb;exact rfl;exact rfl)
    |(apply ABT;exact rfl;exact rfl)
    |(apply ABY;exact rfl;exact rfl)
    |(apply ABa;exact rfl;exact rfl)
    |(apply ABV;exact rfl;exact rfl)
    |(apply ABW;exact rfl;exact rfl))
  |apply uq
  |(apply qv;intro j)
  |apply uo
  |exact np rfl
  |(cases h;exact np rfl)
  |apply eD
  |(apply ug;decide)
  |intro C
  |(cases h;first|exact rfl|exact⟨rfl⟩|exact⟨rfl,rfl⟩|exact⟨_,rfl,rfl⟩|exact⟨_,rfl,⟨rfl⟩⟩|exact⟨rfl,_,rfl,⟨rfl⟩⟩|exact⟨a!,rfl⟩|exact⟨_,rfl,a!,rfl⟩|exact⟨_,rfl,rfl,rfl⟩|exact vC (by assumption) rfl rfl a! rfl|exact⟨_,rfl,vB (by first|assumption|decide) a! rfl⟩)
  |exact⟨rfl,⟨rfl⟩⟩)):P:=p
end Go.Sf
