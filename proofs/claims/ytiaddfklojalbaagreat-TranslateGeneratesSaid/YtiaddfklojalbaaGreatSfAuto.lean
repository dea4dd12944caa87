/- Contracts that are found by themselves: rules that take the typed text along, and the script that applies them. -/
import Derived.Test.YtiaddfklojalbaaGreatSfLib
set_option linter.all false
open Option renaming some->Y,none->W
open Bool renaming true->X,false->T
open List renaming map_map->w?,map_id->x_,take_of_length_le->x!,mem_cons->x?,getElem?_eq_some_iff->y_,getElem?_map->y!
open Nat renaming beq->y?,eq_of_beq_eq_true->z_,ble_self_eq_true->z!,zero_add->z?,ble->A_,blt->A'
namespace Go.Sf
class Ct(P:Program){α:Type}(x:Option α)(f:outParam FuncId)(ts:outParam Fq)(R:outParam (α->Az)):Prop where
 snd:∀r,x=Y r->AW P f ts (R r)
class Ml(es:Fq){α:outParam Type}(e:outParam (α->TV))(l:outParam (List α)):Prop where
 eq:es=l.map e
class kH{α:Type}(e:α->TV)where
 un:Fq->α
 dec:∀a b,∃i:Decidable (a=b),CR (e a).cells (e b).cells=Y (@decide (a=b) i)
class Fz(cs:List AQ)(row:outParam Fq):Prop where
 h:cs.map (·.t)=row
instance(priority:=high){l:Fq}:Fz (l.map λx=>(⟨T,x⟩:AQ)) l:=⟨by rw[w?];exact x_ _⟩
instance(priority:=low){cs:List AQ}:Fz cs (cs.map (·.t)):=⟨rfl⟩
class En(α:Type)(e:outParam (α->TV)):Prop where
class Fl{α:Type}(e:α->TV)(n:outParam Nat)(f:outParam (List α->TV)):Prop where
 eq:∀l,f l=.list n (l.map e)
structure Kp(ε:AB)(l:MV)(r:AB):Prop where
 of::out:ε.eE l=r
def look:List (Nat×EV)->Nat->Option EV
 |[],_=>W|(k,e)::r,n=>if k=n then Y e else look r n
def sr(ε:AB)(m:List (Nat×EV)):MV->AB
 |[]=>[]|s::ss=>(s,(look m s).getD (ε.get s))::sr ε m ss
structure Nm(ε:AB)(m:List (Nat×EV))(l:MV)(r:AB):Prop where
 of::out:sr ε m l=r
structure Rn(a b:AB):Prop where
 of::out:a=b
structure HJ{σ:Type}(n:Nat)(M:σ->List (Nat×EV)):Prop where
structure HA{σ:Type}(n G8 q i:Nat)(M:Int->σ->List (Nat×EV)):Prop where
structure HB{σ:Type}(n G8 q i:Nat)(M:Int->σ->List (Nat×EV)):Prop where
theorem HB.a{σ:Type}{n G8 q i:Nat}{M:Int->σ->List (Nat×EV)}(_:HB n G8 q i M):HA n G8 q i M:=⟨⟩
structure HW{σ:Type}(n:Nat)(M:σ->List (Nat×EV)):Prop where
structure HR{β:Type}(R:β->AB->Prop):Prop where
structure HS(n:Nat):Prop where
structure HX{α γ:Type}(n:Nat)(f:α->γ->α):Prop where
structure ax(g:Nat)(b q:Bool):Prop where
 of::out:q=b
structure Wc(g:Nat)(b q:Bool):Prop where
 of::out:q=!b
def KR(n:AB->Prop)(l:MV):AB->Prop:=λe=>n (e.eE l)
section
variable{ε:AB}{s:Nat}{ss:MV}{r:AB}{m:List (Nat×EV)}
theorem Ij:Kp ε [] []:=⟨rfl⟩
theorem NZ{e:EV}(h:ε.get s=e)(k:Kp ε ss r):Kp ε (s::ss) ((s,e)::r):=⟨by rw[<-k.out,<-h];rfl⟩
theorem Ku{t:TV}(h:ε.get s=.tv t)(k:Kp ε ss r):Kp ε (s::ss) ((s,.tv t)::r):=NZ h k
theorem xt{t:TV}(h:ε.get s=.ow t)(k:Kp ε ss r):Kp ε (s::ss) ((s,.ow t)::r):=NZ h k
theorem Kr{t:List AQ}(h:ε.get s=.bx t)(k:Kp ε ss r):Kp ε (s::ss) ((s,.bx t)::r):=NZ h k
theorem xm{q o:Nat}(h:ε.get s=.bp q o)(k:Kp ε ss r):Kp ε (s::ss) ((s,.bp q o)::r):=NZ h k
theorem Kt{t:Fq}(h:ε.get s=.tp t)(k:Kp ε ss r):Kp ε (s::ss) ((s,.tp t)::r):=NZ h k
theorem Kv(h:ε.get s=.undef)(k:Kp ε ss r):Kp ε (s::ss) ((s,.undef)::r):=NZ h k
theorem xw{n:Nat}{t:Fq}(h:ε.get s=.xo n t)(k:Kp ε ss r):Kp ε (s::ss) ((s,.xo n t)::r):=NZ h k
theorem xr{q:Nat}{i:Option Nat}(h:ε.get s=.la q i)(k:Kp ε ss r):Kp ε (s::ss) ((s,.la q i)::r):=NZ h k
theorem xu(h:ε.get s=.sk)(k:Kp ε ss r):Kp ε (s::ss) ((s,.sk)::r):=NZ h k
theorem uZ{t:List AQ}(h:ε.get s=.oag t)(k:Kp ε ss r):Kp ε (s::ss) ((s,.oag t)::r):=NZ h k
theorem ue:Nm ε m [] []:=⟨rfl⟩
theorem ud{e:EV}(h:look m s=Y e)(k:Nm ε m ss r):Nm ε m (s::ss) ((s,e)::r):=⟨by rw[<-k.out];simp only[sr,h,Option.getD_some]⟩
theorem Po{e:EV}(h:look m s=W)(o:ε.get s=e)(k:Nm ε m ss r):Nm ε m (s::ss) ((s,e)::r):=⟨by rw[<-k.out];simp only[sr,h,o,Option.getD_none]⟩
theorem yI{t:TV}(h:look m s=W)(o:ε.get s=.tv t)(k:Nm ε m ss r):Nm ε m (s::ss) ((s,.tv t)::r):=Po h o k
theorem yG{t:TV}(h:look m s=W)(o:ε.get s=.ow t)(k:Nm ε m ss r):Nm ε m (s::ss) ((s,.ow t)::r):=Po h o k
theorem yD{t:List AQ}(h:look m s=W)(o:ε.get s=.bx t)(k:Nm ε m ss r):Nm ε m (s::ss) ((s,.bx t)::r):=Po h o k
theorem yC{q o:Nat}(h:look m s=W)(p:ε.get s=.bp q o)(k:Nm ε m ss r):Nm ε m (s::ss) ((s,.bp q o)::r):=Po h p k
theorem yH{t:Fq}(h:look m s=W)(o:ε.get s=.tp t)(k:Nm ε m ss r):Nm ε m (s::ss) ((s,.tp t)::r):=Po h o k
theorem yJ(h:look m s=W)(o:ε.get s=.undef)(k:Nm ε m ss r):Nm ε m (s::ss) ((s,.undef)::r):=Po h o k
theorem yK{n:Nat}{t:Fq}(h:look m s=W)(o:ε.get s=.xo n t)(k:Nm ε m ss r):Nm ε m (s::ss) ((s,.xo n t)::r):=Po h o k
theorem yE{q:Nat}{i:Option Nat}(h:look m s=W)(o:ε.get s=.la q i)(k:Nm ε m ss r):Nm ε m (s::ss) ((s,.la q i)::r):=Po h o k
end
def PC.xl(i:Nat):PC->Option MV
 |.exit j l=>if j=i then Y l else W|.seq a b=>match a.xl i with
  |some l=>Y l|none=>b.xl i
 |.cond _ a b=>match a.xl i with
  |some l=>Y l|none=>b.xl i
 |.block _ a=>a.xl i|.loop _ a=>a.xl i|.rls _ a=>a.xl i|_=>W
def PC.last:PC->Option MV
 |.region _ l=>Y l|.draw _ _ l=>Y l|.skip l=>Y l|.exit _ l=>Y l|.seq _ b=>b.last|.cond _ a _=>a.last|.block i (.loop _ b)=>b.xl i|.block _ c=>c.last|.rls _ c=>c.last|_=>W
section
variable{S:FuncId->Fq->Az->Prop}{K:AB->Prop}{os:List PR}{ε:AB}{d:Nat}
section code
variable{n t:AB->Prop}{x:Nat->AB->Prop}{a b:PC}{l:MV}{env':AB}
theorem NJ(o:Kp ε l env')(h:n env'):WO S (KR n l) [] ε:=⟨by show n (ε.eE l);rw[o.out];exact h⟩
theorem Pc{ops:List PR}(h:WO S (KR n l) ops ε):WP S (.region ops l) ⟨n,x,t⟩ ε:=⟨h.out⟩
theorem tT{D:MV}{ops:List PR}(hd:SI ε D=X)(h:WO S (KR n l) ops ε):WP S (.draw D ops l) ⟨n,x,t⟩ ε:=⟨hd,h.out⟩
theorem Kn(h:WP S a ⟨λe=>(∀s,(e.get s).WF)->WP S b ⟨n,x,t⟩ e,x,t⟩ ε):WP S (.seq a b) ⟨n,x,t⟩ ε:=xS h
theorem a8(o:Kp ε l env')(h:n env'):WP S (.skip l) ⟨n,x,t⟩ ε:=uE o.out h
theorem iM(h:t ε):WP S .ret ⟨n,x,t⟩ ε:=⟨h⟩
theorem kL{i:Nat}(o:Kp ε l env')(h:x i env'):WP S (.exit i l) ⟨n,x,t⟩ ε:=uD o.out h
theorem wg{s:Nat}{cs cs':List AQ}{c:PC}{q:Q}(h:ε.get s=.bx cs)(he:cs.map AQ.rel=cs')(k:WP S c q ((s,.bx cs')::ε)):WP S (.rls s c) q ε:=by
 refine ⟨?_⟩;subst he;simp only[PC.wp,h];exact k.out
theorem fR{i:Nat}(h:WP S a ⟨n,λj e=>if j=i then n e else x j e,t⟩ ε):WP S (.block i a) ⟨n,x,t⟩ ε:=Yd h
theorem wO{m:List (Nat×EV)}{e:AB}{q:Q}(he:Nm e m l env')(h:WP S a q env'):WP S a q (sr e m l):=by rw[he.out];exact h
variable{Q:Q}
theorem tS{c:AG}{β:Type}{q:Bool}{u v:Option β}{r:β}(o:c.val ε=Y (.bool q))(h:(if q=X then u else v)=Y r)(p:q=X->u=Y r->WP S a Q ε)(w:q=T->v=Y r->WP S b Q ε):WP S (.cond c a b) Q ε:=
 Xb o (λe=>p e (Xu e h)) (λe=>w e (Xt e h))
theorem tZ{σ β:Type}{i:Nat}{M:σ->List (Nat×EV)}{q:Bool}{u v:Option σ}{k:σ->Option β}{r:β}(p:(AG.s i).val ε=Y (.bool q))(h:((if q=X then u else v).bind k)=Y r)(_:HJ i M)(_:(PC.cond (.s i) a b).last=Y l)
  (A:∀w,q=X->u=Y w->WP S a ⟨λe=>Rn e (sr ε (M w) l),x,t⟩ ε)(B:∀w,q=T->v=Y w->WP S b ⟨λe=>Rn e (sr ε (M w) l),x,t⟩ ε)(C:∀w,k w=Y r->n (sr ε (M w) l)):WP S (.cond (.s i) a b) ⟨n,x,t⟩ ε:=by
 obtain ⟨w,o,h⟩:=bind_some h;refine xR (λe=>Rn e (sr ε (M w) l)) ?_ (λe he=>by rw[he.out];exact C w h);exact Xb p (λe=>A w e (Xu e o)) (λe=>B w e (Xt e o))
end code
structure Bd(ε:AB)(q i:Nat)(b:Int):Prop where
 of::out:(∀s,(ε.get s).WF)->b<=9223372036854775807
section bounds
variable{q i:Nat}{α:Type}{e:α->TV}{l:List α}{es row:Fq}{n:Nat}
theorem zZ{b:Int}(h:decide (b<=9223372036854775807)=X):Bd ε q i b:=⟨λ_=>of_decide_eq_true h⟩
theorem zf{b:Int}:Bd ε q i (Ag b):=⟨λ_=>wH _⟩
theorem zb(h:ε.get q=.tv (.list n es))(he:es=l.map e):Bd ε q i l.length:=⟨λo=>by have:=o q;rw[h]at this;exact WC (am this) he⟩
theorem zc(h:ε.get q=.ow (.list n es))(he:es=l.map e):Bd ε q i l.length:=⟨λo=>by have:=o q;rw[h]at this;exact WC (y9 this) he⟩
theorem zg(h:ε.get q=.xo n es)(he:es=l.map e):Bd ε q i l.length:=⟨λo=>by have:=o q;rw[h]at this;exact WC (zA this) he⟩
theorem ze{b:ByteArray}(h:ε.get q=.tv (.str b)):Bd ε q i b.size:=⟨λo=>by have:=o q;rw[h]at this;exact sz (am this)⟩
theorem za{b:Int}(h:ε.get q=.tv (.int .i64 b)):Bd ε q i b:=⟨λo=>by have:=o q;rw[h]at this;exact m9 (am this)⟩
theorem wv(h:ε.get q=.tv (.pt row))(o:row[i]?=Y (.list n es))(he:es=l.map e):Bd ε q i l.length:=⟨λp=>by have:=p q;rw[h]at this;exact WC (iD (qu this) o) he⟩
theorem wu{b:Int}(h:ε.get q=.tv (.pt row))(o:row[i]?=Y (.int .i64 b)):Bd ε q i b:=⟨λp=>by have:=p q;rw[h]at this;exact m9 (iD (qu this) o)⟩
end bounds
section loops
variable{σ β ρ:Type}{n t:AB->Prop}{x:Nat->AB->Prop}{c:PC}{live jl:MV}{i0 G8 q i1:Nat}{lo b:Int}{s0:σ}{r:β}{k:σ->Option β}
variable{M:Int->σ->List (Nat×EV)}
theorem wI(h:∀i s,(sr ε (M i s) live).get G8=.tv (.int .i64 i)){i:Int}{s:σ}(o:∀k,((sr ε (M i s) live).get k).WF)(hi:i<b)(p:b<=9223372036854775807):Ag (i+1)=i+1:=by
 have:=o G8;rw[h]at this;exact zB (am this) hi p
theorem tU{f:Int->σ->Option σ}(_:HA i0 G8 q i1 M)(h:(kx f lo b s0).bind k=Y r)(p:∀s,(ε.get s).WF)(u:Bd ε q i1 b)(_:c.xl i0=Y jl)(w:ε.eE live=sr ε (M lo s0) live)(A:∀i s,(sr ε (M i s) live).get G8=.tv (.int .i64 i))
  (B:∀i s r,i<b->f i s=Y r->(∀k,((sr ε (M i s) live).get k).WF)->WP S c ⟨λe=>Rn (e.eE live) (sr ε (M (Ag (i+1)) r) live),λ_ _=>False,λ_=>False⟩ (sr ε (M i s) live))
  (C:∀i s,¬i<b->WP S c ⟨λ_=>False,λj e=>j=i0/\Rn e (sr ε (M 0 s) jl),λ_=>False⟩ (sr ε (M i s) live))
  (D:∀s,k s=Y r->n (sr ε (M 0 s) jl)):WP S (.block i0 (.loop live c)) ⟨n,x,t⟩ ε:=by
 obtain ⟨o,ho,h⟩:=bind_some h;have u:=u.out p;refine s7 ho (λi s=>sr ε (M i s) live) (λs=>sr ε (M 0 s) jl) w (λi s r hi hf p=>⟨PC.gE S c _ _ (B i s r hi hf p).out _ (λe he=>?_) (λ_ _ h=>h) (λ_ h=>h)⟩) (λi s hi=>⟨PC.gE S c _ _ (C i s hi).out _ (λ_ h=>h) (λj e h=>⟨h.1,h.2.out⟩) (λ_ h=>h)⟩) (D o h);have:=he.out;rw[wI A p hi u]at this;exact this
variable{kr:ρ->Option β}
theorem Yr{f:Int->σ->Option (CF σ ρ)}{R:ρ->AB->Prop}(h:eg (fq f lo b s0) k kr=Y r)(w:b<=9223372036854775807)(A:ε.eE live=sr ε (M lo s0) live)(B:∀i s,(sr ε (M i s) live).get G8=.tv (.int .i64 i))
  (C:∀i s r,i<b->f i s=Y r->(∀k,((sr ε (M i s) live).get k).WF)->WP S c ⟨λe=>∃s',r=.next s'/\Rn (e.eE live) (sr ε (M (Ag (i+1)) s') live),λj e=>j=i0/\∃s',r=.brk s'/\Rn e (sr ε (M 0 s') jl),λe=>∃v,r=.ret v/\R v e⟩ (sr ε (M i s) live))
  (D:∀i s,¬i<b->WP S c ⟨λ_=>False,λj e=>j=i0/\Rn e (sr ε (M 0 s) jl),λ_=>False⟩ (sr ε (M i s) live))
  (E:∀s,k s=Y r->n (sr ε (M 0 s) jl))(F:∀v e,kr v=Y r->R v e->t e):WP S (.block i0 (.loop live c)) ⟨n,x,t⟩ ε:=by
 obtain ⟨o,ho,h⟩:=YU h;refine iF ho (λi s=>sr ε (M i s) live) (λs=>sr ε (M 0 s) jl) R A (λi s r hi hf u=>⟨PC.gE S c _ _ (C i s r hi hf u).out _ (λe he=>?_) (λj e he=>?_) (λ_ h=>h)⟩) (λi s hi=>⟨PC.gE S c _ _ (D i s hi).out _ (λ_ h=>h) (λj e h=>⟨h.1,h.2.out⟩) (λ_ h=>h)⟩) (λs G=>E s (g6 h G)) (λv e hv=>F v e (g7 h hv))
 .obtain⟨s',p,e2⟩:=he;have e2:=e2.out;rw[wI B u hi w]at e2;exact⟨s',p,e2⟩
 .obtain⟨H,s',p,e2⟩:=he;exact⟨H,s',p,e2.out⟩
theorem tX{f:Int->σ->Option (CF σ β)}{R:β->AB->Prop}(_:HA i0 G8 q i1 M)(_:HR R)(o:R r=t)(h:eg (fq f lo b s0) k (λv=>Y v)=Y r)(p:∀s,(ε.get s).WF)(u:Bd ε q i1 b)(_:c.xl i0=Y jl)(w:ε.eE live=sr ε (M lo s0) live)(A:∀i s,(sr ε (M i s) live).get G8=.tv (.int .i64 i))
  (B:∀i s r,i<b->f i s=Y r->(∀k,((sr ε (M i s) live).get k).WF)->WP S c ⟨λe=>∃s',r=.next s'/\Rn (e.eE live) (sr ε (M (Ag (i+1)) s') live),λj e=>j=i0/\∃s',r=.brk s'/\Rn e (sr ε (M 0 s') jl),λe=>∃v,r=.ret v/\R v e⟩ (sr ε (M i s) live))
  (C:∀i s,¬i<b->WP S c ⟨λ_=>False,λj e=>j=i0/\Rn e (sr ε (M 0 s) jl),λ_=>False⟩ (sr ε (M i s) live))
  (D:∀s,k s=Y r->n (sr ε (M 0 s) jl)):WP S (.block i0 (.loop live c)) ⟨n,x,t⟩ ε:=
 Yr h (u.out p) w A B C D (λv e hv E=>by cases hv;rw[<-o];exact E)
variable{τ:Type}
theorem tW{f:Int->σ->Option (CF σ ρ)}{k:σ->Option (CF τ ρ)}{r:CF τ ρ}{R:ρ->AB->Prop}(_:HA i0 G8 q i1 M)(h:eg (fq f lo b s0) k (λv=>Y (.ret v))=Y r)(o:∀s,(ε.get s).WF)(p:Bd ε q i1 b)(_:c.xl i0=Y jl)(u:ε.eE live=sr ε (M lo s0) live)(w:∀i s,(sr ε (M i s) live).get G8=.tv (.int .i64 i))
  (A:∀i s r,i<b->f i s=Y r->(∀k,((sr ε (M i s) live).get k).WF)->WP S c ⟨λe=>∃s',r=.next s'/\Rn (e.eE live) (sr ε (M (Ag (i+1)) s') live),λj e=>j=i0/\∃s',r=.brk s'/\Rn e (sr ε (M 0 s') jl),λe=>∃v,r=.ret v/\R v e⟩ (sr ε (M i s) live))
  (B:∀i s,¬i<b->WP S c ⟨λ_=>False,λj e=>j=i0/\Rn e (sr ε (M 0 s) jl),λ_=>False⟩ (sr ε (M i s) live))
  (C:∀s,k s=Y r->n (sr ε (M 0 s) jl)):WP S (.block i0 (.loop live c)) ⟨n,x,λe=>∃v,r=.ret v/\R v e⟩ ε:=
 Yr h (p.out o) u w A B C (λv e hv D=>by cases hv;exact⟨v,rfl,D⟩)
theorem tV{f:Int->σ->Option (CF σ ρ)}(_:HA i0 G8 q i1 M)(h:eg (fq f lo b s0) k (λ_=>W)=Y r)(o:∀s,(ε.get s).WF)(p:Bd ε q i1 b)(_:c.xl i0=Y jl)(u:ε.eE live=sr ε (M lo s0) live)(w:∀i s,(sr ε (M i s) live).get G8=.tv (.int .i64 i))
  (A:∀i s r,i<b->f i s=Y r->(∀k,((sr ε (M i s) live).get k).WF)->WP S c ⟨λe=>∃s',r=.next s'/\Rn (e.eE live) (sr ε (M (Ag (i+1)) s') live),λj e=>j=i0/\∃s',r=.brk s'/\Rn e (sr ε (M 0 s') jl),λ_=>∃v,r=.ret v/\False⟩ (sr ε (M i s) live))
  (B:∀i s,¬i<b->WP S c ⟨λ_=>False,λj e=>j=i0/\Rn e (sr ε (M 0 s) jl),λ_=>False⟩ (sr ε (M i s) live))
  (C:∀s,k s=Y r->n (sr ε (M 0 s) jl)):WP S (.block i0 (.loop live c)) ⟨n,x,t⟩ ε:=
 Yr (R:=λ_ _=>False) h (p.out o) u w A B C (λv e hv _=>by cases hv)
theorem eP{f:σ->Option (CF σ ρ)}{R:ρ->AB->Prop}{M:σ->List (Nat×EV)}(h:eg (GP f s0) k kr=Y r)(u:ε.eE live=sr ε (M s0) live)
  (w:∀s r,f s=Y r->(∀k,((sr ε (M s) live).get k).WF)->WP S c ⟨λe=>∃s',r=.next s'/\Rn (e.eE live) (sr ε (M s') live),λj e=>j=i0/\∃s',r=.brk s'/\Rn e (sr ε (M s') jl),λe=>∃v,r=.ret v/\R v e⟩ (sr ε (M s) live))
  (A:∀s,k s=Y r->n (sr ε (M s) jl))(B:∀v e,kr v=Y r->R v e->t e):WP S (.block i0 (.loop live c)) ⟨n,x,t⟩ ε:=by
 obtain ⟨o,ho,h⟩:=YU h;refine wL ho (λs=>sr ε (M s) live) (λs=>sr ε (M s) jl) R u (λs r hf C=>⟨PC.gE S c _ _ (w s r hf C).out _ (λe he=>?_) (λj e he=>?_) (λ_ h=>h)⟩) (λs D=>A s (g6 h D)) (λv e hv=>B v e (g7 h hv))
 .obtain⟨s',p,e2⟩:=he;exact⟨s',p,e2.out⟩
 .obtain⟨E,s',p,e2⟩:=he;exact⟨E,s',p,e2.out⟩
theorem wo{f:σ->Option (CF σ β)}{R:β->AB->Prop}{M:σ->List (Nat×EV)}(_:HW i0 M)(_:HR R)(o:R r=t)(h:eg (GP f s0) k (λv=>Y v)=Y r)(_:c.xl i0=Y jl)(p:ε.eE live=sr ε (M s0) live)
  (u:∀s r,f s=Y r->(∀k,((sr ε (M s) live).get k).WF)->WP S c ⟨λe=>∃s',r=.next s'/\Rn (e.eE live) (sr ε (M s') live),λj e=>j=i0/\∃s',r=.brk s'/\Rn e (sr ε (M s') jl),λe=>∃v,r=.ret v/\R v e⟩ (sr ε (M s) live))
  (w:∀s,k s=Y r->n (sr ε (M s) jl)):WP S (.block i0 (.loop live c)) ⟨n,x,t⟩ ε:=
 eP h p u w (λv e hv A=>by cases hv;rw[<-o];exact A)
theorem wn{f:σ->Option (CF σ ρ)}{k:σ->Option (CF τ ρ)}{r:CF τ ρ}{R:ρ->AB->Prop}{M:σ->List (Nat×EV)}(_:HW i0 M)(h:eg (GP f s0) k (λv=>Y (.ret v))=Y r)(_:c.xl i0=Y jl)(o:ε.eE live=sr ε (M s0) live)
  (p:∀s r,f s=Y r->(∀k,((sr ε (M s) live).get k).WF)->WP S c ⟨λe=>∃s',r=.next s'/\Rn (e.eE live) (sr ε (M s') live),λj e=>j=i0/\∃s',r=.brk s'/\Rn e (sr ε (M s') jl),λe=>∃v,r=.ret v/\R v e⟩ (sr ε (M s) live))
  (u:∀s,k s=Y r->n (sr ε (M s) jl)):WP S (.block i0 (.loop live c)) ⟨n,x,λe=>∃v,r=.ret v/\R v e⟩ ε:=
 eP h o p u (λv e hv w=>by cases hv;exact⟨v,rfl,w⟩)
theorem wk{f:σ->Option (CF σ ρ)}{M:σ->List (Nat×EV)}(_:HW i0 M)(h:eg (GP f s0) k (λ_=>W)=Y r)(_:c.xl i0=Y jl)(o:ε.eE live=sr ε (M s0) live)
  (p:∀s r,f s=Y r->(∀k,((sr ε (M s) live).get k).WF)->WP S c ⟨λe=>∃s',r=.next s'/\Rn (e.eE live) (sr ε (M s') live),λj e=>j=i0/\∃s',r=.brk s'/\Rn e (sr ε (M s') jl),λ_=>∃v,r=.ret v/\False⟩ (sr ε (M s) live))
  (u:∀s,k s=Y r->n (sr ε (M s) jl)):WP S (.block i0 (.loop live c)) ⟨n,x,t⟩ ε:=
 eP (R:=λ_ _=>False) h o p u (λv e hv _=>by cases hv)
end loops
end
end Go.Sf
namespace Go.Sf
section
variable{P:Program}{S:FuncId->Fq->Az->Prop}{K:AB->Prop}{os:List PR}{ε:AB}{d:Nat}{α β:Type}{k:α->Option β}{r:β}
theorem bnd{G:Prop}{x:Option α}(h:x.bind k=Y r)(g:∀a,x=Y a->k a=Y r->G):G:=by
 obtain ⟨a,o,h⟩:=bind_some h;exact g a o h
theorem zi{α:Type}{x:Option α}{k:α->Option β}{op:AE}{dd:Option Nat}(_:op.AbR=4)(h:x.bind k=Y r)(g:∀a,x=Y a->k a=Y r->WO S K (⟨dd,op,W⟩::os) ε):WO S K (⟨dd,op,W⟩::os) ε:=bnd h g
theorem zh{x:Option α}{f:FuncId}{ts:Fq}{R:α->Az}{op:AE}{dd:Option Nat}(_:op.AbR=3)(h:x.bind k=Y r)(c:Ct P x f ts R)(g:∀a,AW P f ts (R a)->k a=Y r->WO (AW P) K (⟨dd,op,W⟩::os) ε):WO (AW P) K (⟨dd,op,W⟩::os) ε:=bnd h λa o=>g a (c.snd a o)
theorem tM{γ:Type}{k:List γ->Option β}{n s:Nat}{y:AG}{es o:Fq}{e:γ->TV}{l m:List γ}{f:List γ->TV}(h:(Ax l m).bind k=Y r)(u:ε.get s=.ow (.list n es))(w:y.val ε=Y (.list n o))(he:es=l.map e)(hf:o=m.map e)(c:Fl e n f)
  (A:∀x,Ax l m=Y x->k x=Y r->WO S K os ((d,.ow (f x))::(s,.tv (.list n es))::ε)):WO S K (⟨Y d,.app n (.s s) y,W⟩::os) ε:=by
 obtain ⟨x,p,h⟩:=bind_some h;have:=A x p h;rw[c.eq]at this;exact qa p u w he hf rfl this
section ints
variable{k:Int->Option β}{x y:AG}{ik:IntKind}{a b:Int}
theorem wd(h:(quo a b).bind k=Y r)(p:x.val ε=Y (.int ik a))(u:y.val ε=Y (.int ik b))(w:∀q,quo a b=Y q->k q=Y r->WO S K os ((d,.tv (.int ik (ik.wrap q)))::ε)):WO S K (⟨Y d,.bin .i .quo x y,W⟩::os) ε:=bnd h λq o h=>yw o p u (w q o h)
theorem we(h:(SU a b).bind k=Y r)(p:x.val ε=Y (.int ik a))(u:y.val ε=Y (.int ik b))(w:∀q,SU a b=Y q->k q=Y r->WO S K os ((d,.tv (.int ik q))::ε)):WO S K (⟨Y d,.bin .i .rem x y,W⟩::os) ε:=bnd h λq o h=>yx o p u (w q o h)
theorem wN{op:BinOp}{o:IntKind}(h:(MD ik op a b).bind k=Y r)(u:x.val ε=Y (.int ik a))(A:y.val ε=Y (.int o b))(B:ik=o\/op=.shl\/op=.shr)(C:∀q,MD ik op a b=Y q->k q=Y r->WO S K os ((d,.tv (.int ik q))::ε)):WO S K (⟨Y d,.bin .w op x y,W⟩::os) ε:=bnd h λq p h=>yh p u A B (C q p h)
end ints
theorem tf{k:ByteArray->Option β}{x y:AG}{u v:ByteArray}(h:(VZ u v).bind k=Y r)(p:x.val ε=Y (.str u))(w:y.val ε=Y (.str v))(A:∀q,VZ u v=Y q->k q=Y r->WO S K os ((d,.tv (.str q))::ε)):WO S K (⟨Y d,.bin .s .add x y,W⟩::os) ε:=bnd h λq o h=>vc o p w (A q o h)
theorem wX{k:Unit->Option β}{x:AG}{n:Nat}{es:Fq}{e:α->TV}{l:List α}(h:(Wx l).bind k=Y r)(o:x.val ε=Y (.list n es))(he:es=l.map e)(p:∀u,k u=Y r->WO S K os ((d,.tv (.bool T))::ε)):WO S K (⟨Y d,.isn x,W⟩::os) ε:=by
 obtain ⟨u,A,h⟩:=bind_some h;refine qc o he λb w=>?_;obtain rfl:=lC A w;exact p u h
theorem qC{x:AG}{n:Nat}{e:α->TV}{a:α}(h:BB ε (x.ev ε)=Y (e a).cells)(o:y? (e a).cells.length n=X)(p:TV.agg (e a).cells=e a)(u:WO S K os ((d,.tv (e a))::ε)):WO S K (⟨Y d,.lda x n,W⟩::os) ε:=by
 have o:=z_ o;exact qe h (by rw[o];exact z! n) (by rw[x! U,p]) u
theorem wY{s n:Nat}{cs:List AQ}{e:α->TV}{a:α}(h:ε.get s=.bx cs)(p:cs.map (·.t)=(e a).cells)(o:y? (e a).cells.length n=X)(u:TV.agg (e a).cells=e a)(w:WO S K os ((d,.tv (e a))::ε)):WO S K (⟨Y d,.ldb s n,W⟩::os) ε:=by
 have o:=z_ o;exact ym h (by rw[p,o];exact z! n) (by rw[p,x! U,u]) w
variable{v:AG}
theorem th{n s:Nat}{cs:List AQ}{t:TV}(o:ε.get s=.bx cs)(hv:v.ev ε=.tv t)(p:t.cells.length=n)(h:y? n cs.length=X)(u:WO S K os ((s,.bx (t.cells.map (⟨T,·⟩)))::ε)):WO S K (⟨W,.stb n s v,W⟩::os) ε:=by
 have h:=z_ h;refine yz o hv p (by rw[z?,h];exact z! _) ?_ u;rw[List.take_zero,z?,h,List.drop_length,List.append_nil,List.nil_append]
theorem ta{x:AG}{n:Nat}{e:α->TV}{a:α}(h:BB ε (x.ev ε)=Y (((e a).cells.map λt=>(⟨T,t⟩:AQ)).map (·.t)))(o:y? (e a).cells.length n=X)(p:TV.agg (e a).cells=e a)(u:WO S K os ((d,.tv (e a))::ε)):WO S K (⟨Y d,.lda x n,W⟩::os) ε:=
 qC (by rw[h,w?];congr 1;exact x_ _) o p u
def iO(n:Nat):Fq->Bool
 |[]=>X|t::ts=>y? t.cells.length n&&iO n ts
theorem bG{n:Nat}:∀{ts:Fq},iO n ts=X->∀t∈ts,t.cells.length=n
 |[],_,_,h=>e_
 |t::ts,h,u,o=>by
  simp only[iO,kp]at h;rcases x?.1 o with rfl|o
  .exact z_ h.1
  .exact bG h.2 u o
variable{parts:List AG}
theorem wa{n:Nat}{ts:Fq}(h:vals ε parts=Y ts)(o:iO n ts=X)(p:WO S K os ((d,.ow (.list n ts))::ε)):WO S K (⟨Y d,.lst n parts,W⟩::os) ε:=by
 have:=p.out;refine⟨?_⟩;simp only[wpOps,PR.wp,AE.wp,h,Ai];exact⟨bG o,this⟩
variable{zero:Fq}
theorem tN{parts:List (Nat×Nat×AG)}{ts:List (Nat×Nat×TV)}{cs:Fq}{e:α->TV}{a:α}(h:(Y a).bind k=Y r)(_:En α e)(o:E5 ε parts=Y ts)(p:E9 zero ts=Y cs)(he:TV.agg cs=e a)(u:∀x,x=a->k x=Y r->WO S K os ((d,.tv (e x))::ε)):WO S K (⟨Y d,.bld zero parts,W⟩::os) ε:=by
 rw [Option.bind_some]at h;exact aj o p he (u a rfl h)
theorem wZ{x:AG}{n:Nat}{cs:Fq}{e:α->TV}{a:α}(h:(Y a).bind k=Y r)(_:En α e)(o:BB ε (x.ev ε)=Y cs)(p:A_ n cs.length=X)(he:TV.agg (cs.take n)=e a)(u:∀x,x=a->k x=Y r->WO S K os ((d,.tv (e x))::ε)):WO S K (⟨Y d,.lda x n,W⟩::os) ε:=by
 rw [Option.bind_some]at h;exact qe o p he (u a rfl h)
inductive Lm{α:Type}(e:α->TV):Fq->List α->Prop
 |nil:Lm e [] []
 |cons {t:TV} {ts:Fq} {a:α} {l:List α}:t=e a->Lm e ts l->Lm e (t::ts) (a::l)
theorem Lm.eq{e:α->TV}{ts:Fq}{l:List α}(h:Lm e ts l):ts=l.map e:=by
 induction h with
 |nil=>rfl|cons h _ o=>rw[h,o];rfl
theorem td{n:Nat}{ts:Fq}{e:α->TV}{l:List α}(h:vals ε parts=Y ts)(o:Lm e ts l)(p:∀a,(e a).cells.length=n)(u:WO S K os ((d,.ow (.list n (l.map e)))::ε)):WO S K (⟨Y d,.lst n parts,W⟩::os) ε:=qf h o.eq p u
theorem te{n:Nat}{ts:Fq}{e:α->TV}{l:List α}{f:List α->TV}(h:vals ε parts=Y ts)(p:Lm e ts l)(u:∀a,(e a).cells.length=n)(c:Fl e n f)(o:WO S K os ((d,.ow (f l))::ε)):WO S K (⟨Y d,.lst n parts,W⟩::os) ε:=by
 rw [c.eq]at o;exact qf h p.eq u o
theorem tI{e:α->TV}{n:MV}{x y:AG}{a:α}{cs:Fq}(o:x.val ε=Y (e a))(p:y.val ε=Y (.agg cs))[c:kH e][i:Decidable (a=c.un cs)](u:TV.agg (e a).cells=e a)(w:(e (c.un cs)).cells=cs)(A:(e a).cells.map TV.kd=n)(B:WO S K os ((d,.tv (.bool (decide (a=c.un cs))))::ε)):WO S K (⟨Y d,.bin (.a n) .eql x y,W⟩::os) ε:=by
 obtain ⟨C,h⟩:=c.dec a (c.un cs);have:i=C:=Subsingleton.elim _ _;subst this;rw[<-u]at o;rw[w]at h;exact mN o p A h B
theorem tK{e:α->TV}{n:MV}{x y:AG}{a:α}{cs:Fq}(o:x.val ε=Y (e a))(p:y.val ε=Y (.agg cs))[c:kH e][i:Decidable (a=c.un cs)](u:TV.agg (e a).cells=e a)(w:(e (c.un cs)).cells=cs)(A:(e a).cells.map TV.kd=n)(B:WO S K os ((d,.tv (.bool (!decide (a=c.un cs))))::ε)):WO S K (⟨Y d,.bin (.a n) .neq x y,W⟩::os) ε:=by
 obtain ⟨C,h⟩:=c.dec a (c.un cs);have:i=C:=Subsingleton.elim _ _;subst this;rw[<-u]at o;rw[w]at h;exact mO o p A h B
theorem tH{e:α->TV}{n:MV}{x y:AG}{a b:α}{i:Decidable (a=b)}(o:x.val ε=Y (e a))(p:y.val ε=Y (e b))(c:kH e)(u:TV.agg (e a).cells=e a)(w:TV.agg (e b).cells=e b)(A:(e a).cells.map TV.kd=n)(B:WO S K os ((d,.tv (.bool (decide (a=b))))::ε)):WO S K (⟨Y d,.bin (.a n) .eql x y,W⟩::os) ε:=by
 obtain ⟨C,h⟩:=c.dec a b;have:i=C:=Subsingleton.elim _ _;subst this;rw[<-u]at o;rw[<-w]at p;exact mN o p A h B
theorem tJ{e:α->TV}{n:MV}{x y:AG}{a b:α}{i:Decidable (a=b)}(o:x.val ε=Y (e a))(p:y.val ε=Y (e b))(c:kH e)(u:TV.agg (e a).cells=e a)(w:TV.agg (e b).cells=e b)(A:(e a).cells.map TV.kd=n)(B:WO S K os ((d,.tv (.bool (!decide (a=b))))::ε)):WO S K (⟨Y d,.bin (.a n) .neq x y,W⟩::os) ε:=by
 obtain ⟨C,h⟩:=c.dec a b;have:i=C:=Subsingleton.elim _ _;subst this;rw[<-u]at o;rw[<-w]at p;exact mO o p A h B
section calls
variable{x:Option α}{f:FuncId}{ts:Fq}{R:α->Az}{args:List AG}
theorem wP{s:Nat}{cs:List AQ}{row:Fq}(o:ε.get s=.bx cs)(f:Fz cs row)(k:WO S K os ((s,.tv (.pt row))::ε)):WO S K (⟨W,.frz s,W⟩::os) ε:=yj o f.h k
theorem qz{t:α->TV}(_:HS d)(h:x.bind k=Y r)(c:Ct P x f ts R)(p:vals ε args=Y ts)(u:∀a,R a=.own (t a))(w:∀a,x=Y a->k a=Y r->WO (AW P) K os ((d,.tv (t a))::ε)):WO (AW P) K (⟨Y d,.call f args,W⟩::os) ε:=by
 obtain ⟨a,o,h⟩:=bind_some h;have:=c.snd a o;rw[u]at this;exact vX p (ug this) (w a o h)
theorem qy{t:α->List AQ}(h:x.bind k=Y r)(c:Ct P x f ts R)(p:vals ε args=Y ts)(u:∀a,R a=.oag (t a))(w:∀a,x=Y a->k a=Y r->WO (AW P) K os ((d,.tv (.agg ((t a).map λc=>c.rel.t)))::ε)):WO (AW P) K (⟨Y d,.call f args,W⟩::os) ε:=by
 obtain ⟨a,o,h⟩:=bind_some h;have:=c.snd a o;rw[u]at this;exact sX p this rfl (w a o h)
theorem nF{γ:Type}{k:List γ->Option β}{x:Option (List γ)}{R:List γ->Az}{n:Nat}{e:γ->TV}(h:x.bind k=Y r)(c:Ct P x f ts R)(p:ε.ew d=X)(u:vals ε args=Y ts)(w:∀a,R a=.own (.list n (a.map e)))(hf:∀a,(e a).flat=X)(A:∀a,x=Y a->k a=Y r->WO (AW P) K os ((d,.xo n (a.map e))::ε)):WO (AW P) K (⟨Y d,.AaC f args,W⟩::os) ε:=by
 obtain ⟨a,o,h⟩:=bind_some h;have:=c.snd a o;rw[w]at this;exact ol p u this rfl hf (A a o h)
theorem nE{γ:Type}{k:List γ->Option β}{x:Option (List γ)}{R:List γ->Az}{n:Nat}{e:γ->TV}(h:x.bind k=Y r)(c:Ct P x f ts R)(p:Aab ε args=Y ts)(u:∀a,R a=.own (.list n (a.map e)))(hf:∀a,(e a).flat=X)(w:∀a,x=Y a->k a=Y r->WO (AW P) K os ((d,.ow (.list n (a.map e)))::ε)):WO (AW P) K (⟨Y d,.AaH f args,W⟩::os) ε:=by
 obtain ⟨a,o,h⟩:=bind_some h;have:=c.snd a o;rw[u]at this;exact oh p this rfl rfl hf (w a o h)
variable{us:α->Fq}
theorem qx{i s:Nat}{cs:List AQ}{cs':α->List AQ}{e:α->EV}(h:x.bind k=Y r)(c:Ct P x f ts R)(p:(args[i]?).bind (·.place ε)=Y (s,0))(u:ε.get s=.bx cs)(w:ε.noX s W=X)(hd:d≠s)(A:Fh ε i args=Y ts)(B:∀a,R a=.bo cs (cs' a) i (us a))(he:∀a,EV.ofs (us a)=e a)(C:∀a,x=Y a->k a=Y r->WO (AW P) K os ((d,e a)::(s,.bx (cs' a))::ε)):WO (AW P) K (⟨Y d,.Aac f args i,W⟩::os) ε:=by
 obtain ⟨a,o,h⟩:=bind_some h;have:=c.snd a o;rw[B]at this;exact sW p u w hd A this (he a) (C a o h)
end calls
inductive GS(g:Nat)(b:Bool):MV->List PR->MV->Nat->Prop
 |done {acc:MV} {os:List PR}:GS g b acc os [] 0
 |step {acc js:MV} {d n:Nat} {op:AE} {os:List PR}:GS g b (d::acc) os js n->GS g b acc (⟨Y d,op,Y (g,b)⟩::os) (d::js) (n+1)
 |nest {acc js:MV} {d n g':Nat} {b':Bool} {op:AE} {os:List PR}:acc.contains g'=X->GS g b (d::acc) os js n->GS g b acc (⟨Y d,op,Y (g',b')⟩::os) (d::js) (n+1)
def tF:MV->AB->(AB->Prop)->Prop
 |[],z,K=>K z|k::ks,z,K=>∃j,tF ks ((k,j)::z) K
structure Gj(js:MV)(d:Nat)(v:TV)(z e:AB):Prop where
 of::out:tF js z λy=>e=(d,.tv v)::y
theorem kw{d:Nat}{v:TV}{z e:AB}(h:e=(d,.tv v)::z):Gj [] d v z e:=⟨h⟩
variable{ks:MV}
theorem rR{k d:Nat}{v:TV}{j:EV}{z e:AB}(h:Gj ks d v ((k,j)::z) e):Gj (k::ks) d v z e:=⟨j,h.out⟩
theorem tY{js:MV}{v:TV}{z:AB}(h:Gj js d v z ε):WO S (Gj js d v z) [] ε:=⟨h⟩
structure ZG(js:MV)(z:AB)(Q:AB->Prop):Prop where
 of::out:∀(d:Nat)(v:TV)(e:AB),Gj js d v z e->∃y,e=(d,.tv v)::y/\Q y
theorem rU{z:AB}{Q:AB->Prop}(h:Q z):ZG [] z Q:=⟨λ_ _ _ he=>⟨z,he.out,h⟩⟩
theorem nq{k:Nat}{z:AB}{Q:AB->Prop}(h:∀j,ZG ks ((k,j)::z) Q):ZG (k::ks) z Q:=⟨λd v e he=>by
 obtain ⟨j,o⟩:=he.out;exact(h j).out d v e ⟨o⟩⟩
theorem xg{dd:Option Nat}{op:AE}{g:Nat}{b q:Bool}(h:ε.get g=.tv (.bool q))(o:ax g b q)(p:WO S K (⟨dd,op,W⟩::os) ε):WO S K (⟨dd,op,Y (g,b)⟩::os) ε:=AAC h o.out p
theorem wU{ρ:Type}{dd:Option Nat}{op:AE}{g:Nat}{q:Bool}{u v:Option ρ}{r:ρ}(w:ε.get g=.tv (.bool q))(h:(if q=X then u else v)=Y r)
  (o:ax g X q->q=X->u=Y r->WO S K (⟨dd,op,Y (g,X)⟩::os) ε)(p:Wc g X q->q=T->v=Y r->WO S K (⟨dd,op,Y (g,X)⟩::os) ε):WO S K (⟨dd,op,Y (g,X)⟩::os) ε:=by
 cases q with
 |true=>exact o ⟨rfl⟩ rfl h|false=>exact p ⟨q?⟩ rfl h
theorem wT{ρ:Type}{dd:Option Nat}{op:AE}{g:Nat}{q:Bool}{u v:Option ρ}{r:ρ}(w:ε.get g=.tv (.bool q))(h:(if q=X then u else v)=Y r)
  (o:Wc g T q->q=X->u=Y r->WO S K (⟨dd,op,Y (g,T)⟩::os) ε)(p:ax g T q->q=T->v=Y r->WO S K (⟨dd,op,Y (g,T)⟩::os) ε):WO S K (⟨dd,op,Y (g,T)⟩::os) ε:=by
 cases q with
 |true=>exact o ⟨q?⟩ rfl h|false=>exact p ⟨rfl⟩ rfl h
theorem uM{op:AE}{g:Nat}{b q:Bool}(h:ε.get g=.tv (.bool q))(o:Wc g b q)(p:WO S K os ((d,.sk)::ε)):WO S K (⟨Y d,op,Y (g,b)⟩::os) ε:=xf h o.out p
theorem iq{d n:Nat}{js:MV}{v:TV}(h:WO S (Gj js d v ε) (os.take n) ε)(o:ZG js ε λe=>WO S K (os.drop n) ((d,.tv v)::e)):WO S K os ε:=
 xe n (Gj js d v) h λe he=>by
  obtain ⟨y,rfl,p⟩:=o.out d v e he;exact p
section groups
variable{g n:Nat}{js:MV}{c:Bool}{dd gd:Option Nat}{op:AE}{x y z:AG}{gg:Option (Nat×Bool)}
variable{θ:K1}{os':List PR}
theorem wW{k:Bool->Option β}(h:(if c=X then θ else Y T).bind k=Y r)(_:GS g X [] os js n)(A:ε.get g=.tv (.bool c))(_:os[n]?=Y ⟨Y d,.pick x y z,gg⟩)
  (p:∀v,ax g X c->c=X->θ=Y v->WO S (Gj js d (.bool v) ε) (os.take (n+1)) ε)(u:∀v,Wc g X c->c=T->Y T=Y v->WO S (Gj js d (.bool v) ε) (os.take (n+1)) ε)
  (w:∀v,k v=Y r->ZG js ε λe=>WO S K (os.drop (n+1)) ((d,.tv (.bool v))::e))(ho:os=⟨dd,op,Y (g,X)⟩::os'):WO S K (⟨dd,op,Y (g,X)⟩::os') ε:=by
 obtain ⟨v,hv,h⟩:=bind_some h;rw[<-ho];refine iq (n:=n+1) (v:=.bool v) ?_ (w v h);rcases Bool.eq_false_or_eq_true c with o|o
 .exact p v ⟨o⟩ o (Xu o hv)
 .exact u v ⟨by rw[o];rfl⟩ o (Xt o hv)
theorem wV{k:Bool->Option β}(h:(if c=X then Y X else θ).bind k=Y r)(_:GS g T [] os js n)(A:ε.get g=.tv (.bool c))(_:os[n]?=Y ⟨Y d,.pick x y z,gg⟩)
  (p:∀v,ax g T c->c=T->θ=Y v->WO S (Gj js d (.bool v) ε) (os.take (n+1)) ε)(u:∀v,Wc g T c->c=X->Y X=Y v->WO S (Gj js d (.bool v) ε) (os.take (n+1)) ε)
  (w:∀v,k v=Y r->ZG js ε λe=>WO S K (os.drop (n+1)) ((d,.tv (.bool v))::e))(ho:os=⟨dd,op,Y (g,T)⟩::os'):WO S K (⟨dd,op,Y (g,T)⟩::os') ε:=by
 obtain ⟨v,hv,h⟩:=bind_some h;rw[<-ho];refine iq (n:=n+1) (v:=.bool v) ?_ (w v h);rcases Bool.eq_false_or_eq_true c with o|o
 .exact u v ⟨by rw[o];rfl⟩ o (Xu o hv)
 .exact p v ⟨o⟩ o (Xt o hv)
theorem wR{e:Bool}(ho:os=⟨dd,op,Y (g,X)⟩::os')(_:GS g X [] os js n)(u:ε.get g=.tv (.bool c))(_:os[n]?=Y ⟨Y d,.pick x y z,gg⟩)
  (h:ax g X c->c=X->WO S (Gj js d (.bool e) ε) (os.take (n+1)) ε)(o:Wc g X c->c=T->WO S (Gj js d (.bool T) ε) (os.take (n+1)) ε)
  (p:ZG js ε λz=>WO S K (os.drop (n+1)) ((d,.tv (.bool (c&&e)))::z)):WO S K (⟨dd,op,Y (g,X)⟩::os') ε:=by
 rw [<-ho];refine iq (n:=n+1) (v:=.bool (c&&e)) ?_ p;cases c
 .exact o ⟨rfl⟩ rfl
 .exact h ⟨rfl⟩ rfl
theorem wQ{e:Bool}(ho:os=⟨dd,op,Y (g,T)⟩::os')(_:GS g T [] os js n)(u:ε.get g=.tv (.bool c))(_:os[n]?=Y ⟨Y d,.pick x y z,gg⟩)
  (h:ax g T c->c=T->WO S (Gj js d (.bool e) ε) (os.take (n+1)) ε)(o:Wc g T c->c=X->WO S (Gj js d (.bool X) ε) (os.take (n+1)) ε)
  (p:ZG js ε λz=>WO S K (os.drop (n+1)) ((d,.tv (.bool (c||e)))::z)):WO S K (⟨dd,op,Y (g,T)⟩::os') ε:=by
 rw [<-ho];refine iq (n:=n+1) (v:=.bool (c||e)) ?_ p;cases c
 .exact h ⟨rfl⟩ rfl
 .exact o ⟨rfl⟩ rfl
end groups
variable{qi:Option Nat}{j:Int}
theorem wq{x:AG}{q n i:Nat}{es row:Fq}{e:α->TV}{l:List α}{a:α}{t:TV}(h:x.ev ε=.lp q qi (j.toNat*n+i))(o:ε.pc q qi=Y (n,es))(he:es=l.map e)(p:∀a,(e a).cells.length=n)(u:idx l j=Y a)(hi:A' i n=X)(w:(e a).cells=row)(A:row[i]?=Y t)
  (B:WO S K os ((d,.tv t)::ε)):WO S K (⟨Y d,.xld x,W⟩::os) ε:=qk h o he p u rfl hi w A B
theorem tj{x:AG}{q n:Nat}{es row:Fq}{e:α->TV}{l:List α}{a:α}{t:TV}(h:x.ev ε=.lp q qi (j.toNat*n))(o:ε.pc q qi=Y (n,es))(he:es=l.map e)(p:∀a,(e a).cells.length=n)(u:idx l j=Y a)(hi:A' 0 n=X)(w:(e a).cells=row)(A:row[0]?=Y t)
  (B:WO S K os ((d,.tv t)::ε)):WO S K (⟨Y d,.xld x,W⟩::os) ε:=qk (i:=0) h o he p u rfl hi w A B
theorem ws{x:AG}{q n i:Nat}{es row:Fq}{e:α->TV}{l:List α}{a:α}{t:TV}(h:x.ev ε=.lp q W (j.toNat*n+i))(o:ε.get q=.xo n es)(he:es=l.map e)(p:∀a,(e a).cells.length=n)(u:idx l j=Y a)(hi:A' i n=X)(w:(e a).cells=row)(A:row[i]?=Y t)
  (B:WO S K os ((d,.tv t)::ε)):WO S K (⟨Y d,.xln x,W⟩::os) ε:=ql h o he p u rfl hi w A B
theorem tq{x:AG}{q n:Nat}{es row:Fq}{e:α->TV}{l:List α}{a:α}{t:TV}(h:x.ev ε=.lp q W (j.toNat*n))(o:ε.get q=.xo n es)(he:es=l.map e)(p:∀a,(e a).cells.length=n)(u:idx l j=Y a)(hi:A' 0 n=X)(w:(e a).cells=row)(A:row[0]?=Y t)
  (B:WO S K os ((d,.tv t)::ε)):WO S K (⟨Y d,.xln x,W⟩::os) ε:=ql (i:=0) h o he p u rfl hi w A B
variable{v:AG}
theorem tw{γ:Type}{s:Nat}{q n i:Nat}{env':AB}{es:Fq}{e:α->TV}{g:γ->TV}{l:List α}{a:α}{b:γ}{f:α->γ->α}(_:HX s f)(h:(AG.s s).ev ε=.lp q qi (j.toNat*n+i))(p:ε.pc q qi=Y (n,es))(hv:v.ev ε=.tv (g b))(he:es=l.map e)(u:∀a,(e a).cells.length=n)(w:idx l j=Y a)(hi:A' i n=X)(A:(g b).cells=[g b])
  (B:(e (f a b)).cells=(e a).cells.set i (g b))(o:ε.wi q qi n ((BN l j (f a b)).map e)=env')(C:WO S K os env'):WO S K (⟨W,.xst (.s s) v 1,W⟩::os) ε:=qn h p hv he u w rfl hi A B rfl o C
theorem tu{x v:AG}{q n:Nat}{env':AB}{es:Fq}{e:α->TV}{l:List α}{a b:α}(h:x.ev ε=.lp q qi (j.toNat*n))(p:ε.pc q qi=Y (n,es))(hv:v.ev ε=.tv (e b))(he:es=l.map e)(u:∀a,(e a).cells.length=n)(w:idx l j=Y a)(hi:A' 0 n=X)(A:(e b).cells=[e b])
  (B:(e b).cells=(e a).cells.set 0 (e b))(o:ε.wi q qi n ((BN l j b).map e)=env')(C:WO S K os env'):WO S K (⟨W,.xst x v 1,W⟩::os) ε:=qn (i:=0) h p hv he u w rfl hi A B rfl o C
end
end Go.Sf
namespace Go.Sf
section
variable{S:FuncId->Fq->Az->Prop}{K:AB->Prop}{os:List PR}{ε:AB}{d:Nat}
variable{j:Int}
theorem yu{α:Type}{x:AG}{s o:Nat}{es:Fq}{e:α->TV}{l:List α}{a:α}(h:x.ev ε=.nh s o (.el j.toNat))(u:ε.nat s o=Y es)(he:es=l.map e)(w:idx l j=Y a)(k:WO S K os ((d,.nh s o (.rw j.toNat))::ε)):WO S K (⟨Y d,.nld x,W⟩::os) ε:=by
 replace k:=k.out;refine⟨?_⟩;subst he;obtain⟨B,C,A⟩:=Ga w;have p:j.toNat<l.length:=(y_.1 A).1;simp only[wpOps,PR.wp,AE.wp,h,u,Ai];exact⟨l!,k⟩
variable{j2:Int}
theorem yv{α:Type}{x v:AG}{s o:Nat}{es:Fq}{env':AB}{e:List α->TV}{e2:α->TV}{l:List (List α)}{m:List α}{A b:α}{t:TV}(h:x.ev ε=.nh s o (.rp j.toNat j2.toNat))(B:ε.nat s o=Y es)(hv:v.ev ε=.tv t)(he:es=l.map e)(w:∀m,e m=.list 1 (m.map e2))(C:idx l j=Y m)(D:idx m j2=Y A)(E:t=e2 b)(F:t.cells=[t])(G:t.flat=X)
  (p:ε.AbI s o ((BN l j (BN m j2 b)).map e)=env')(k:WO S K os env'):WO S K (⟨W,.nst x v,W⟩::os) ε:=by
 replace k:=k.out;refine⟨?_⟩;subst he p E;obtain⟨J,L,H⟩:=Ga C;obtain⟨m0,m1,I⟩:=Ga D;have u:j2.toNat<m.length:=(y_.1 I).1;simp only[wpOps,PR.wp,AE.wp,h,B,hv,Ai];refine⟨m.map e2,by rw[y!,H];simp[w],d_,F,G,?_⟩;have:(l.map e).set j.toNat (.list 1 ((m.map e2).set j2.toNat (e2 b)))=(BN l j (BN m j2 b)).map e:=by
  simp only[BN,List.map_set,w]
 rw [this];exact k
end
section
variable{P:Program}{K:AB->Prop}{os:List PR}{ε:AB}{d:Nat}{α β γ ρ:Type}{f:FuncId}{args:List AG}{ts:Fq}{R:α->Az}{x:Option α}{k:α->Option ρ}{r:ρ}
variable{j:Int}
theorem wb{x i:AG}{s o:Nat}{es:Fq}{e:α->TV}{l:List α}{ik:IntKind}{S:FuncId->Fq->Az->Prop}(h:(idx l j).bind k=Y r)(u:x.ev ε=.nh s o .hd)(w:ε.nat s o=Y es)(hi:i.val ε=Y (.int ik j))(he:es=l.map e)
  (A:∀a,idx l j=Y a->k a=Y r->WO S K os ((d,.nh s o (.el j.toNat))::ε)):WO S K (⟨Y d,.nia x i,W⟩::os) ε:=by
 obtain ⟨a,p,h⟩:=bind_some h;have B:=(A a p h).out;refine⟨?_⟩;subst he;obtain⟨D,F,E⟩:=Ga p;have C:j.toNat<l.length:=(y_.1 E).1;simp only[wpOps,PR.wp,AE.wp,u,w,hi,Ai];exact⟨D,by simp only[bd];omega,B⟩
variable{e2:α->TV}{j2:Int}
theorem wc{x i:AG}{s o:Nat}{es:Fq}{e:List α->TV}{l:List (List α)}{m:List α}{ik:IntKind}{S:FuncId->Fq->Az->Prop}(h:(idx m j2).bind k=Y r)(u:x.ev ε=.nh s o (.rw j.toNat))(w:ε.nat s o=Y es)(hi:i.val ε=Y (.int ik j2))(he:es=l.map e)(A:∀m,e m=.list 1 (m.map e2))(B:idx l j=Y m)
  (C:∀a,idx m j2=Y a->k a=Y r->WO S K os ((d,.nh s o (.rp j.toNat j2.toNat))::ε)):WO S K (⟨Y d,.nia x i,W⟩::os) ε:=by
 obtain ⟨b,p,h⟩:=bind_some h;have D:=(C b p h).out;refine⟨?_⟩;subst he;obtain⟨H,I,F⟩:=Ga B;obtain⟨m0,m1,G⟩:=Ga p;have E:j2.toNat<m.length:=(y_.1 G).1;simp only[wpOps,PR.wp,AE.wp,u,w,hi,Ai];exact⟨m0,m.map e2,by rw[y!,F];simp[A],by simp only[bd];omega,D⟩
theorem tL{mm q s o:Nat}{es w:Fq}{cs cs':List AQ}{n:Nat}{e:β->TV}{l:List β}{m:β}{k:List β->Option ρ}{S:FuncId->Fq->Az->Prop}(h:(Ax l [m]).bind k=Y r)(A:ε.get mm=.nh s o .hd)(B:ε.get q=.x1 n w)(C:ε.get s=.bx cs)(D:ε.nat s o=Y es)(he:es=l.map e)(hf:TV.list n w=e m)(u:ε.ew d=X)(hd:d≠mm/\d≠q/\mm≠q)(E:cs.set o ⟨T,.undef⟩=cs')
  (F:∀a,Ax l [m]=Y a->k a=Y r->WO S K os ((d,.xn (a.map e))::(s,.bx cs')::(mm,.undef)::(q,.undef)::ε)):WO S K (⟨Y d,.AaG mm q,W⟩::os) ε:=by
 obtain ⟨a,p,h⟩:=bind_some h;have H:=(F a p h).out;refine⟨?_⟩;subst he E;unfold Ax at p;split at p
 next G=>cases p;simp only[wpOps,PR.wp,AE.wp,A,B,C,D,Ai];refine⟨by simpa using G,⟨u,hd⟩,?_⟩;rw[hf];simpa[AB.put]using H
 .cases p
theorem nD{u:α->List β}{v:α->List γ}{w A:Nat}{p:β->TV}{e2:γ->TV}(h:x.bind k=Y r)(c:Ct P x f ts R)(E:vals ε args=Y ts)(F:∀a,R a=.oag [⟨X,.list w ((u a).map p)⟩,⟨X,.list A ((v a).map e2)⟩])(G:∀a,(p a).flat=X)(H:∀a,(e2 a).flat=X)
  (I:∀a,x=Y a->k a=Y r->WO (AW P) K os ((d,.oag [⟨X,.xl w ((u a).map p)⟩,⟨X,.xl A ((v a).map e2)⟩])::ε)):WO (AW P) K (⟨Y d,.Aay f args,W⟩::os) ε:=by
 obtain ⟨a,D,h⟩:=bind_some h;have C:=c.snd a D;rw[F]at C;have J:=(I a D h).out;have o:∀{τ:Type}(e:τ->TV)(l:List τ),(∀a,(e a).flat=X)->TV.up (l.map e)=X:=by
  intro τ e l he
  induction l with
  |nil=>rfl|cons a l L=>simp[TV.up,he,L]
 refine ⟨?_⟩;simp only[wpOps,PR.wp,AE.wp,E,Ai];refine⟨_,C,λc B=>?_,λ_=>J⟩;simp only[x?,List.not_mem_nil,or_false]at B;rcases B with rfl|rfl
 .exact⟨_,_,rfl,o _ _ G⟩
 .exact⟨_,_,rfl,o _ _ H⟩
inductive NL:List AQ->List AQ->Prop
 |nil {xs:List AQ}:xs=[]->NL xs []
 |cons {xs ys zs:List AQ} {o:Bool} {t:TV}:xs=⟨o,t⟩::ys->NL ys zs->NL xs (⟨o,t⟩::zs)
theorem NL.eq{xs o:List AQ}(h:NL xs o):xs=o:=by
 induction h with
 |nil h=>exact h|cons h _ p=>rw[h,p]
theorem wj{S:FuncId->Fq->Az->Prop}{K:AB->Prop}{os:List PR}{ε:AB}{n s h:Nat}{x v:AG}{cs cs':List AQ}{t:TV}(o:x.place ε=Y (s,h))(p:ε.get s=.bx cs)(hv:v.ev ε=.tv t)(u:t.cells.length=n)(w:A_ (h+n) cs.length=X)(A:NL (cs.take h++t.cells.map (⟨T,·⟩)++cs.drop (h+n)) cs')
  (k:WO S K os ((s,.bx cs')::ε)):WO S K (⟨W,.st n x v,W⟩::os) ε:=AAJ o p hv u w A.eq k
theorem ti{S:FuncId->Fq->Az->Prop}{K:AB->Prop}{os:List PR}{ε:AB}{s h q:Nat}{x:AG}{cs cs':List AQ}{t:TV}(o:x.place ε=Y (s,h))(p:ε.get s=.bx cs)(hv:ε.get q=.ow t)(u:q≠s)(w:A' h cs.length=X)(A:NL (cs.set h ⟨X,t⟩) cs')
  (k:WO S K os ((s,.bx cs')::(q,.tv t)::ε)):WO S K (⟨W,.st 1 x (.s q),W⟩::os) ε:=y5 o p hv u w A.eq k
theorem ZX:∀(ts:List (Nat×Nat×TV))(done rest:Fq),XG done.length ts=X->(Ii ts).length<=rest.length->E9 (done++rest) ts=Y (done++(Ii ts++rest.drop (Ii ts).length))
 |[],done,rest,_,h=>by simp[E9,Ii]|(i,n,t)::r,done,rest,p,h=>by
  simp only[XG,kp,Nat.beq_eq]at p;obtain⟨⟨rfl,o⟩,A⟩:=p;simp only[Ii,a6]at h;have u:n<=rest.length:=U
  simp only[E9];rw[aE ⟨o,by rw[a6];omega⟩];have w:done++rest=done++(rest.take n++rest.drop n):=by rw[List.take_append_drop]
  rw [w,VO t.cells done (rest.take n) (rest.drop n) l_,<-bk];rw[ZX r (done++t.cells) (rest.drop n) (by rw[a6,o];exact A) (by rw[List.length_drop];omega)];simp[Ii,List.drop_drop,o]
inductive NT:Fq->Fq->Prop
 |nil {xs:Fq}:xs=[]->NT xs []
 |cons {xs ys zs:Fq} {t:TV}:xs=t::ys->NT ys zs->NT xs (t::zs)
theorem NT.eq{xs o:Fq}(h:NT xs o):xs=o:=by
 induction h with
 |nil h=>exact h|cons h _ p=>rw[h,p]
variable{zero:Fq}
theorem tO{S:FuncId->Fq->Az->Prop}{K:AB->Prop}{os:List PR}{ε:AB}{d:Nat}{parts:List (Nat×Nat×AG)}{ts:List (Nat×Nat×TV)}{cs:Fq}(h:E5 ε parts=Y ts)(o:XG 0 ts=X)(p:A_ (Ii ts).length zero.length=X)(u:NT (Ii ts++zero.drop (Ii ts).length) cs)(k:WO S K os ((d,.tv (.agg cs))::ε)):WO S K (⟨Y d,.bld zero parts,W⟩::os) ε:=
 aj h (by have:=ZX ts [] zero o (Nat.le_of_ble_eq_true p);simpa using this) (by rw[u.eq]) k
structure HY{α A B C:Type}(n:Nat)(f:A->B->C->α)(g1:A->TV)(g2:B->TV)(g3:C->TV):Prop where
variable{v:AG}{qi:Option Nat}
theorem tz{S:FuncId->Fq->Az->Prop}{K:AB->Prop}{os:List PR}{ε:AB}{α A B C:Type}{f:A->B->C->α}{o:Nat}{q n:Nat}{env':AB}{es cs cs':Fq}{e:α->TV}{l:List α}{a:α}{E:A}{F:B}{G:C}{p:A->TV}{u:B->TV}{w:C->TV}(_:HY o f p u w)(h:(AG.s o).ev ε=.lp q qi (j.toNat*n))(H:ε.pc q qi=Y (n,es))(he:es=l.map e)(I:∀a,(e a).cells.length=n)(hv:v.ev ε=.tv (.agg cs))(J:NT cs cs')(L:cs'=[p E,u F,w G])(hf:∀a b c,TV.agg [p a,u b,w c]=e (f a b c))(N:idx l j=Y a)(O:A' 0 n=X)
  (D:ε.wi q qi n ((BN l j (f E F G)).map e)=env')(k:WO S K os env'):WO S K (⟨W,.xst (.s o) v n,W⟩::os) ε:=qp h H (by rw[hv,J.eq,L,hf]) he I N O D k
theorem wt{S:FuncId->Fq->Az->Prop}{α:Type}{x v:AG}{q n:Nat}{env':AB}{es:Fq}{e:α->TV}{l:List α}{a b:α}(h:x.ev ε=.lp q qi (j.toNat*n))(p:ε.pc q qi=Y (n,es))(he:es=l.map e)(u:∀a,(e a).cells.length=n)(hv:v.ev ε=.tv (e b))(w:idx l j=Y a)(A:A' 0 n=X)
  (o:ε.wi q qi n ((BN l j b).map e)=env')(k:WO S K os env'):WO S K (⟨W,.xst x v n,W⟩::os) ε:=qp h p hv he u w A o k
end
section
variable{S:FuncId->Fq->Az->Prop}{K:AB->Prop}{os:List PR}{ε:AB}{d:Nat}
theorem yq(k:∀b,WO S K os ((d,.mx (.mp b []))::ε)):WO S K (⟨Y d,.mkm,W⟩::os) ε:=
 ⟨λb=>(k b).out⟩
theorem yt{s:Nat}{last:Option ((Int×Int)×Int)}{o:Bh}(h:ε.get s=.mx (.mi last o))(hd:d≠s)(w:o=[]->WO S K os ((d,.tp [.bool T])::ε))(A:∀p u,o.Perm (p::u)->WO S K os ((d,.tp [.bool X,RR p.1,.int .i64 p.2])::(s,.mx (.mi (Y p) u))::ε)):WO S K (⟨Y d,.mnx s,W⟩::os) ε:=by
 refine ⟨?_⟩;simp only[wpOps,PR.wp,AE.wp,h];exact⟨hd,λe=>(w e).out,λp t B=>(A p t B).out⟩
variable{kvs:Bh}
theorem oj{f:FuncId}{args:List AG}{ts us:Fq}(hv:vals ε args=Y ts)(h:S f ts (.mpr kvs us))(k:∀b,WO S K os ((d,.mx (.tm b kvs us))::ε)):WO S K (⟨Y d,.AaD f args,W⟩::os) ε:=by
 refine ⟨?_⟩;simp only[wpOps,PR.wp,AE.wp,hv,Ai];exact .inr ⟨kvs,us,h,λ_ b=>(k b).out⟩
theorem oi{f:FuncId}{args:List AG}{ts us:Fq}(hv:vals ε args=Y ts)(h:S f ts (.tp us))(k:WO S K os ((d,.tp us)::ε)):WO S K (⟨Y d,.AaD f args,W⟩::os) ε:=by
 refine ⟨?_⟩;simp only[wpOps,PR.wp,AE.wp,hv,Ai];exact .inl ⟨us,h,λ_=>k.out⟩
theorem Ks{ss:MV}{s:Nat}{r:AB}{m:MX}(h:ε.get s=.mx m)(k:Kp ε ss r):Kp ε (s::ss) ((s,.mx m)::r):=NZ h k
theorem yF{ss:MV}{s:Nat}{r:AB}{q:List (Nat×EV)}{m:MX}(h:look q s=W)(o:ε.get s=.mx m)(k:Nm ε q ss r):Nm ε q (s::ss) ((s,.mx m)::r):=Po h o k
end
def Nb(r:Bh×Int):Az:=if r.2=0 then .mpr r.1 [.int .i64 r.2]else .tp [.undef,.int .i64 r.2]
structure zC(o:Nat):Prop where
variable{kvs:Bh}
theorem ri{h:List RV}{ε:AB}{e:Int}(he:(!decide (e=0))=X)(o:h.length≠1)(p:Ej ε h=Y [.undef,.int .i64 e]):Bw h (Nb (kvs,e)) ε:=by
 simp only[Bool.not_eq_true',decide_eq_false_iff_not]at he;simp only[Nb,aN he];exact⟨o,p⟩
theorem rj{s o b:Nat}{rs:List RV}{ε:AB}(_:zC o)(h:ε.get s=.tv (.AaJ b))(p:ε.get o=.mx (.mp b kvs))(u:rs≠[])(w:Ej ε rs=Y [.int .i64 0]):Bw (.tmp s::rs) (Nb (kvs,0)) ε:=by
 simp only[Nb,if_true,Bw];exact⟨u,⟨b,o,h,p⟩,w⟩
section
variable{P:Program}{α β:Type}{K:AB->Prop}{os:List PR}{ε:AB}{d:Nat}{x:Option α}{k:α->Option β}{r:β}{f:FuncId}{args:List AG}{ts:Fq}{R:α->Az}
variable{us:α->Fq}
theorem nC{i s:Nat}{cs:List AQ}{q:α->Bool}{u v:α->List AQ}{e:α->EV}(h:x.bind k=Y r)(c:Ct P x f ts R)(A:(args[i]?).bind (·.place ε)=Y (s,0))(B:ε.get s=.bx cs)(C:ε.noX s W=X)(hd:d≠s)(D:Fh ε i args=Y ts)(E:∀a,R a=.bo cs (if q a=X then u a else v a) i (us a))(he:∀a,EV.ofs (us a)=e a)
  (F:∀a,x=Y a->q a=X->k a=Y r->WO (AW P) K os ((d,e a)::(s,.bx (u a))::ε))(G:∀a,x=Y a->q a=T->k a=Y r->WO (AW P) K os ((d,e a)::(s,.bx (v a))::ε)):WO (AW P) K (⟨Y d,.Aac f args i,W⟩::os) ε:=by
 refine qx h c A B C hd D E he (λa o p=>?_);cases w:q a with
 |true=>rw[aE rfl];exact F a o w p|false=>rw[aN V];exact G a o w p
end
section
variable{S:FuncId->Fq->Az->Prop}{a b:PC}{ε:AB}
variable{Q:Q}
theorem tR{c:AG}{β:Type}{q:Bool}{u v:Option β}{r:β}(p:c.val ε=Y (.bool q))(h:(if q=X then u else v)=Y r)(o:q=X)(k:u=Y r->WP S a Q ε):WP S (.cond c a b) Q ε:=
 SG p o (k (Xu o h))
theorem tQ{c:AG}{β:Type}{q:Bool}{u v:Option β}{r:β}(p:c.val ε=Y (.bool q))(h:(if q=X then u else v)=Y r)(o:q=T)(k:v=Y r->WP S b Q ε):WP S (.cond c a b) Q ε:=
 SF p o (k (Xt o h))
end
end Go.Sf
set_option maxRecDepth 100000
namespace Go.Sf
theorem M3{P:Prop}(p:P:=by first|exact rfl|exact Ml.eq):P:=p
theorem qF{P:Prop}(p:P:=by
 first|exact zb rfl M3|exact za rfl|exact wv rfl rfl M3|exact wu rfl rfl|exact ze rfl|exact zc rfl M3|exact zg rfl rfl|exact zf|exact zZ a_):P:=p
theorem qN{P:Prop}(p:P:=by
 repeat (first|apply GS.step|(apply GS.nest;exact rfl))
 exact GS.done):P:=p
theorem zO{P:Prop}(p:P:=by
 repeat (apply NL.cons;exact rfl)
 exact NL.nil rfl):P:=p
theorem zQ{P:Prop}(p:P:=by
 repeat (apply NT.cons;exact rfl)
 exact NT.nil rfl):P:=p
theorem lnq{P:Prop}(p:P:=by
 repeat (first|exact ua|(apply rg (λ_=>rfl)))):P:=p
theorem zN{P:Prop}(p:P:=by
 repeat (apply Lm.cons;exact rfl)
 exact Lm.nil):P:=p
theorem zL{P:Prop}(p:P:=by
 intro _ k
 repeat' (first|exact k|exact rfl|exact Nat.le_of_ble_eq_true rfl|exact Nat.ne_of_beq_eq_false rfl|decide|apply And.intro)):P:=p
theorem au{P:Prop}(p:P:=by
 repeat' (first
  |(show WO _ _ _ _;first
    |apply NJ
    |(apply st 1;exact rfl;first|exact λ_ k=>k|exact λ_ k=>⟨rfl,k⟩)
    |(apply xg;exact rfl;assumption)
    |(apply uM;exact rfl;assumption)
    |(apply yn;exact rfl;exact M3)
    |(apply sZ;exact rfl;assumption;exact rfl)
    |(apply sY;exact rfl;assumption;exact rfl)
    |(apply qz;assumption;exact h;infer_instance;exact rfl;exact λ_=>rfl;intro x o h)|(apply nC;exact h;infer_instance;exact rfl;exact rfl;exact rfl;decide;exact rfl;exact λ_=>rfl;exact λ_=>rfl;intro x o B h;rotate_left;intro x o B h;rotate_left)|(apply zh;exact rfl;exact h;infer_instance;intro x c h;apply st 3;exact rfl;first|exact λ_ k=>⟨_,⟨c,rfl⟩,λ_=>k⟩|exact λ_ k=>⟨_,⟨c,.inl rfl⟩,λ_=>k⟩|exact λ_ k=>⟨_,⟨c,.inr rfl⟩,λ_=>k⟩|exact λ_ k=>⟨_,⟨c,.inr lnq⟩,λ_=>k⟩|exact λ_ k=>⟨_,c,λ_=>k⟩|exact λ_ k=>⟨_,c,k⟩|exact λ_ k=>⟨rfl,_,_,.inl c,λ_=>k⟩|exact λ_ k=>⟨⟨rfl,Nat.ne_of_beq_eq_false rfl⟩,_,_,c,λ_=>k⟩|exact λ_ k=>⟨Nat.ne_of_beq_eq_false rfl,_,c,λ_=>k⟩|exact λ_ k=>⟨rfl,_,_,_,rfl,c,λ_=>k⟩|exact λ_ k=>⟨⟨Nat.ne_of_beq_eq_false rfl,rfl⟩,rfl,rfl,_,_,rfl,c,λ_=>k⟩)
    |(apply tM;exact h;exact rfl;exact rfl;exact M3;exact M3;infer_instance;intro x o h)
    |(apply zi;exact rfl;exact h;intro x o h;first|(apply yk o;exact rfl;exact rfl;exact M3;exact rfl)|(apply qa o;exact rfl;exact rfl;exact M3;exact M3;exact rfl)|(apply yy o;exact rfl;exact M3;exact rfl;exact rfl)|(apply vd o;exact rfl;exact rfl)|(apply ve o;exact rfl;exact rfl;exact rfl)|(apply y6 o;exact rfl;exact rfl;exact M3;exact rfl)|(apply vU o;exact rfl;exact rfl;exact M3;exact M3;exact rfl;exact rfl;decide)|(apply vV o;exact rfl;exact rfl;exact rfl;exact rfl;exact rfl;exact rfl;decide;exact rfl;exact rfl)|(apply yi o;exact rfl;exact rfl;exact rfl;exact rfl;exact rfl;decide)|(apply va o;exact rfl;exact rfl;exact rfl)|(apply y7 o;exact rfl;exact rfl;exact rfl;exact rfl)|(apply qj o;exact rfl;exact rfl;exact rfl;exact rfl)|(apply vZ o;exact rfl;exact rfl;exact rfl)|(apply qh o;exact rfl;exact rfl;exact rfl;exact rfl))
    |(apply vf;exact rfl;exact M3)
    |(apply tN;(with_reducible exact h);infer_instance;exact rfl;exact rfl;exact rfl;intro x o h)
    |(apply vW;exact rfl;exact rfl;exact rfl;exact rfl)
    |(apply tO;exact rfl;exact rfl;exact rfl;exact zQ)
    |(apply aj;exact rfl;exact rfl;exact rfl)
    |(apply wZ;(with_reducible exact h);infer_instance;exact rfl;exact rfl;exact rfl;intro x o h)
    |(apply qC;exact rfl;exact rfl;exact rfl)
    |(apply wY;exact rfl;exact rfl;exact rfl;exact rfl)
    |(apply ta;exact rfl;exact rfl;exact rfl)
    |(apply th;exact rfl;exact rfl;exact rfl;exact rfl)
    |(apply wj;exact rfl;exact rfl;exact rfl;exact rfl;exact rfl;exact zO)
    |(apply ti;exact rfl;exact rfl;exact rfl;decide;exact rfl;exact zO)
    |(apply yo;exact rfl;exact rfl)
    |(apply yp;exact rfl;exact rfl)
    |(apply st 2;exact rfl;exact zL)
    |(apply sn;exact rfl;exact zL)
    |(apply AAD;exact rfl)
    |(apply yl;exact rfl)
    |(apply qy;exact h;infer_instance;exact rfl;exact λ_=>rfl;intro x o h)
    |(apply wd;exact h;exact rfl;exact rfl;intro x o h)
    |(apply we;exact h;exact rfl;exact rfl;intro x o h)
    |(apply wN;exact h;exact rfl;exact rfl;decide;intro x o h)
    |(apply tf;exact h;exact rfl;exact rfl;intro x o h)
    |(apply tH;exact rfl;exact rfl;infer_instance;exact rfl;exact rfl;exact rfl)
    |(apply tJ;exact rfl;exact rfl;infer_instance;exact rfl;exact rfl;exact rfl)
    |refine tI rfl rfl rfl rfl rfl ?_
    |refine tK rfl rfl rfl rfl rfl ?_
    |(apply wU;exact rfl;(with_reducible exact h);intro A B h;rotate_left;intro A B h;rotate_left)
    |(apply wT;exact rfl;(with_reducible exact h);intro A B h;rotate_left;intro A B h;rotate_left)
    |(apply wW h (ho:=rfl);exact qN;exact rfl;exact rfl;intro v A B h;rotate_left;intro v A B h;rotate_left;intro v h;rotate_left)
    |(apply wV h (ho:=rfl);exact qN;exact rfl;exact rfl;intro v A B h;rotate_left;intro v A B h;rotate_left;intro v h;rotate_left)
    |(apply wR rfl;exact qN;exact rfl;exact rfl;intro A B;rotate_left;intro A B;rotate_left 3)
    |(apply wQ rfl;exact qN;exact rfl;exact rfl;intro A B;rotate_left;intro A B;rotate_left 3)
    |apply tY
    |(apply te;exact rfl;exact zN;exact λ_=>rfl;infer_instance)|(apply td;exact rfl;exact zN;exact λ_=>rfl)
    |(apply wa;exact rfl;exact rfl)
    |(apply wP;exact rfl;infer_instance)
    |(apply tj;exact rfl;exact rfl;exact rfl;exact λ_=>rfl;assumption;exact rfl;exact rfl;exact rfl)|(apply tq;exact rfl;exact rfl;exact rfl;exact λ_=>rfl;assumption;exact rfl;exact rfl;exact rfl)|(apply ws;exact rfl;exact rfl;exact rfl;exact λ_=>rfl;assumption;exact rfl;exact rfl;exact rfl)|(apply wq;exact rfl;exact rfl;exact rfl;exact λ_=>rfl;assumption;exact rfl;exact rfl;exact rfl)|(apply tw;assumption;exact rfl;exact rfl;exact rfl;exact rfl;exact λ_=>rfl;assumption;exact rfl;exact rfl;exact rfl;exact rfl)|(apply tu;exact rfl;exact rfl;exact rfl;exact rfl;exact λ_=>rfl;assumption;exact rfl;exact rfl;exact rfl;exact rfl)|(apply tz;assumption;exact rfl;exact rfl;exact rfl;exact λ_=>rfl;exact rfl;exact zQ;exact rfl;exact λ_ _ _=>rfl;assumption;exact rfl;exact rfl)|(apply wt;exact rfl;exact rfl;exact rfl;exact λ_=>rfl;exact rfl;assumption;exact rfl;exact rfl)|(apply nF;exact h;infer_instance;exact rfl;exact rfl;exact λ_=>rfl;exact λ_=>rfl;intro x o h)|(apply nE;exact h;infer_instance;exact rfl;exact λ_=>rfl;exact λ_=>rfl;intro x o h)
    |(apply wX;exact h;exact rfl;exact M3;intro u h)
    |(apply qc;exact rfl;exact rfl;intro z D;replace h:=rG h z D)
    |(apply vY;exact rfl)
    |(apply wb;exact h;exact rfl;exact rfl;exact rfl;exact M3;intro x o h)
    |(apply yu;exact rfl;exact rfl;exact M3;assumption)
    |(apply wc;exact h;exact rfl;exact rfl;exact rfl;exact M3;exact λ_=>rfl;assumption;intro x o h)|(apply yv;exact rfl;exact rfl;exact rfl;exact M3;exact λ_=>rfl;assumption;assumption;exact rfl;exact rfl;exact rfl;exact rfl)
    |(apply tL;exact h;exact rfl;exact rfl;exact rfl;exact rfl;exact M3;exact rfl;exact rfl;decide;exact rfl;intro x o h)
    |(apply nD;exact h;infer_instance;exact rfl;exact λ_=>rfl;exact λ_=>rfl;exact λ_=>rfl;intro x o h)
    |(apply yq;intro b;have K:=K b))
  |(show WP _ _ _ _;first
    |with_reducible apply wO
    |apply Kn
    |apply Pc
    |(apply tT;exact rfl)
    |(apply wg;exact rfl;exact rfl)
    |apply a8
    |apply iM
    |apply kL
    |(apply SG;exact rfl;with_reducible rfl)
    |(apply SF;exact rfl;with_reducible rfl)
    |(apply tZ;exact rfl;exact h;assumption;exact rfl;intro w B h;rotate_left;intro w B h;rotate_left;intro w h;rotate_left)
    |(apply tR;exact rfl;exact h;assumption;intro h)
    |(apply tQ;exact rfl;exact h;assumption;intro h)
    |(apply tS;exact rfl;exact h;intro B h;rotate_left;intro B h;rotate_left)
    |(apply SG;exact rfl;apply dlt;assumption)
    |(apply SF;exact rfl;apply AAB;assumption)
    |(apply tU;(first|assumption|(apply HB.a;assumption));exact h;exact C;exact qF;exact rfl;exact rfl;exact λ_ _=>rfl;intro i s r hi h C;rotate_left;intro i s hi;clear h;rotate_left;intro s h;rotate_left)
    |(apply tX;(first|assumption|(apply HB.a;assumption));assumption;exact rfl;exact h;exact C;exact qF;exact rfl;exact rfl;exact λ_ _=>rfl;intro i s r hi h C;rotate_left;intro i s hi;clear h;rotate_left;intro s h;rotate_left)
    |(apply tW;(first|assumption|(apply HB.a;assumption));exact h;exact C;exact qF;exact rfl;exact rfl;exact λ_ _=>rfl;intro i s r hi h C;rotate_left;intro i s hi;clear h;rotate_left;intro s h;rotate_left)
    |(apply tV;(first|assumption|(apply HB.a;assumption));exact h;exact C;exact qF;exact rfl;exact rfl;exact λ_ _=>rfl;intro i s r hi h C;rotate_left;intro i s hi;clear h;rotate_left;intro s h;rotate_left)
    |(apply wo;assumption;assumption;exact rfl;exact h;exact rfl;exact rfl;intro s r h C;rotate_left;intro s h;rotate_left)
    |(apply wn;assumption;exact h;exact rfl;exact rfl;intro s r h C;rotate_left;intro s h;rotate_left)
    |(apply wk;assumption;exact h;exact rfl;exact rfl;intro s r h C;rotate_left;intro s h;rotate_left)
    |apply fR
    |cases h)
  |(show Kp _ _ _;first
    |exact Ij
    |(apply Ku;exact rfl)
    |(apply xt;exact rfl)
    |(apply Kr;exact rfl)
    |(apply xw;exact rfl)
    |(apply xm;exact rfl)
    |(apply Kt;exact rfl)
    |(apply Kv;exact rfl)
    |(apply xr;exact rfl)
    |(apply xu;exact rfl)
    |(apply uZ;exact rfl)
    |(apply Ks;exact rfl))
  |(show Nm _ _ _ _;first
    |exact ue
    |(apply ud;exact rfl)
    |(apply yI;exact rfl;exact rfl)
    |(apply yG;exact rfl;exact rfl)
    |(apply yD;exact rfl;exact rfl)
    |(apply yK;exact rfl;exact rfl)
    |(apply yC;exact rfl;exact rfl)
    |(apply yH;exact rfl;exact rfl)
    |(apply yJ;exact rfl;exact rfl)
    |(apply yE;exact rfl;exact rfl)
    |(apply yF;exact rfl;exact rfl))
  |apply rU
  |(apply nq;intro j)
  |apply rR
  |exact kw rfl
  |(cases h;exact kw rfl)
  |apply bh
  |(apply rL;decide)
  |intro C
  |(cases h;first|exact rfl|exact⟨rfl⟩|exact⟨rfl,rfl⟩|exact⟨_,rfl,rfl⟩|exact⟨_,rfl,⟨rfl⟩⟩|exact⟨rfl,_,rfl,⟨rfl⟩⟩|exact⟨a_,rfl⟩|exact⟨_,rfl,a_,rfl⟩|exact⟨_,rfl,rfl,rfl⟩|exact rj (by assumption) rfl rfl a_ rfl|exact⟨_,rfl,ri (by first|assumption|decide) a_ rfl⟩)
  |exact⟨rfl,⟨rfl⟩⟩)):P:=p
end Go.Sf
