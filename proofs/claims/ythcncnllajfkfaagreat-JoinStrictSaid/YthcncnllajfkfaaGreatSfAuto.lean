/- Contracts that are found by themselves: rules that take the typed text along, and the script that applies them. -/
import Derived.Test.YthcncnllajfkfaaGreatSfLib
set_option linter.all false
open Option renaming some->Y,none->W
open Bool renaming true->X,false->T
open List renaming map_map->v1,map_id->v5,take_of_length_le->v6,mem_cons->v_,getElem?_eq_some_iff->v!,getElem?_map->v?
open Nat renaming beq->w_,eq_of_beq_eq_true->w!,ble_self_eq_true->w?,zero_add->x_,ble->x!,blt->x?
namespace Go.Sf
class Ct(P:Program){α:Type}(x:Option α)(f:outParam FuncId)(ts:outParam Fq)(R:outParam (α->A9)):Prop where
 snd:∀r,x=Y r->AT P f ts (R r)
class Ml(es:Fq){α:outParam Type}(e:outParam (α->TV))(l:outParam (List α)):Prop where
 eq:es=l.map e
class dN{α:Type}(e:α->TV)where
 un:Fq->α
 dec:∀a b,∃i:Decidable (a=b),CS (e a).cells (e b).cells=Y (@decide (a=b) i)
class Fz(cs:List AS)(row:outParam Fq):Prop where
 h:cs.map (·.t)=row
instance(priority:=high){l:Fq}:Fz (l.map λx=>(⟨T,x⟩:AS)) l:=⟨by rw[v1];exact v5 _⟩
instance(priority:=low){cs:List AS}:Fz cs (cs.map (·.t)):=⟨rfl⟩
class En(α:Type)(e:outParam (α->TV)):Prop where
class Fl{α:Type}(e:α->TV)(n:outParam Nat)(f:outParam (List α->TV)):Prop where
 eq:∀l,f l=.list n (l.map e)
structure Kp(O:AB)(l:Ne)(r:AB):Prop where
 of::out:O.fq l=r
def look:List (Nat×EV)->Nat->Option EV
 |[],_=>W|(k,e)::r,n=>if k=n then Y e else look r n
def sR(O:AB)(m:List (Nat×EV)):Ne->AB
 |[]=>[]|s::ss=>(s,(look m s).getD (O.get s))::sR O m ss
structure Nm(O:AB)(m:List (Nat×EV))(l:Ne)(r:AB):Prop where
 of::out:sR O m l=r
structure Rn(a b:AB):Prop where
 of::out:a=b
structure HJ{σ:Type}(n:Nat)(M:σ->List (Nat×EV)):Prop where
structure HA{σ:Type}(n Do q i:Nat)(M:Int->σ->List (Nat×EV)):Prop where
structure HB{σ:Type}(n Do q i:Nat)(M:Int->σ->List (Nat×EV)):Prop where
theorem HB.a{σ:Type}{n Do q i:Nat}{M:Int->σ->List (Nat×EV)}(_:HB n Do q i M):HA n Do q i M:=⟨⟩
structure HW{σ:Type}(n:Nat)(M:σ->List (Nat×EV)):Prop where
structure HR{β:Type}(R:β->AB->Prop):Prop where
structure HS(n:Nat):Prop where
structure HX{α γ:Type}(n:Nat)(f:α->γ->α):Prop where
structure dP(g:Nat)(b q:Bool):Prop where
 of::out:q=b
structure Wt(g:Nat)(b q:Bool):Prop where
 of::out:q=!b
def KR(n:AB->Prop)(l:Ne):AB->Prop:=λe=>n (e.fq l)
section
variable{O:AB}{s:Nat}{ss:Ne}{r:AB}{m:List (Nat×EV)}
theorem Jq:Kp O [] []:=⟨rfl⟩
theorem PX{e:EV}(h:O.get s=e)(k:Kp O ss r):Kp O (s::ss) ((s,e)::r):=⟨by rw[<-k.out,<-h];rfl⟩
theorem MY{t:TV}(h:O.get s=.tv t)(k:Kp O ss r):Kp O (s::ss) ((s,.tv t)::r):=PX h k
theorem ABN{t:TV}(h:O.get s=.ow t)(k:Kp O ss r):Kp O (s::ss) ((s,.ow t)::r):=PX h k
theorem MU{t:List AS}(h:O.get s=.bx t)(k:Kp O ss r):Kp O (s::ss) ((s,.bx t)::r):=PX h k
theorem ABL{q o:Nat}(h:O.get s=.bp q o)(k:Kp O ss r):Kp O (s::ss) ((s,.bp q o)::r):=PX h k
theorem MW{t:Fq}(h:O.get s=.tp t)(k:Kp O ss r):Kp O (s::ss) ((s,.tp t)::r):=PX h k
theorem MZ(h:O.get s=.undef)(k:Kp O ss r):Kp O (s::ss) ((s,.undef)::r):=PX h k
theorem ABP{n:Nat}{t:Fq}(h:O.get s=.xo n t)(k:Kp O ss r):Kp O (s::ss) ((s,.xo n t)::r):=PX h k
theorem ABM{q:Nat}{i:Option Nat}(h:O.get s=.la q i)(k:Kp O ss r):Kp O (s::ss) ((s,.la q i)::r):=PX h k
theorem ABO(h:O.get s=.sk)(k:Kp O ss r):Kp O (s::ss) ((s,.sk)::r):=PX h k
theorem xu{t:List AS}(h:O.get s=.z5 t)(k:Kp O ss r):Kp O (s::ss) ((s,.z5 t)::r):=PX h k
theorem yA:Nm O m [] []:=⟨rfl⟩
theorem xz{e:EV}(h:look m s=Y e)(k:Nm O m ss r):Nm O m (s::ss) ((s,e)::r):=⟨by rw[<-k.out];simp only[sR,h,Option.getD_some]⟩
theorem Rf{e:EV}(h:look m s=W)(o:O.get s=e)(k:Nm O m ss r):Nm O m (s::ss) ((s,e)::r):=⟨by rw[<-k.out];simp only[sR,h,o,Option.getD_none]⟩
theorem ABf{t:TV}(h:look m s=W)(o:O.get s=.tv t)(k:Nm O m ss r):Nm O m (s::ss) ((s,.tv t)::r):=Rf h o k
theorem ABd{t:TV}(h:look m s=W)(o:O.get s=.ow t)(k:Nm O m ss r):Nm O m (s::ss) ((s,.ow t)::r):=Rf h o k
theorem ABa{t:List AS}(h:look m s=W)(o:O.get s=.bx t)(k:Nm O m ss r):Nm O m (s::ss) ((s,.bx t)::r):=Rf h o k
theorem ABZ{q o:Nat}(h:look m s=W)(p:O.get s=.bp q o)(k:Nm O m ss r):Nm O m (s::ss) ((s,.bp q o)::r):=Rf h p k
theorem ABe{t:Fq}(h:look m s=W)(o:O.get s=.tp t)(k:Nm O m ss r):Nm O m (s::ss) ((s,.tp t)::r):=Rf h o k
theorem ABg(h:look m s=W)(o:O.get s=.undef)(k:Nm O m ss r):Nm O m (s::ss) ((s,.undef)::r):=Rf h o k
theorem ABh{n:Nat}{t:Fq}(h:look m s=W)(o:O.get s=.xo n t)(k:Nm O m ss r):Nm O m (s::ss) ((s,.xo n t)::r):=Rf h o k
theorem ABb{q:Nat}{i:Option Nat}(h:look m s=W)(o:O.get s=.la q i)(k:Nm O m ss r):Nm O m (s::ss) ((s,.la q i)::r):=Rf h o k
end
def PC.xl(i:Nat):PC->Option Ne
 |.exit j l=>if j=i then Y l else W|.seq a b=>match a.xl i with
  |some l=>Y l|none=>b.xl i
 |.cond _ a b=>match a.xl i with
  |some l=>Y l|none=>b.xl i
 |.block _ a=>a.xl i|.loop _ a=>a.xl i|.rls _ a=>a.xl i|_=>W
def PC.last:PC->Option Ne
 |.region _ l=>Y l|.draw _ _ l=>Y l|.skip l=>Y l|.exit _ l=>Y l|.seq _ b=>b.last|.cond _ a _=>a.last|.block i (.loop _ b)=>b.xl i|.block _ c=>c.last|.rls _ c=>c.last|_=>W
section
variable{S:FuncId->Fq->A9->Prop}{K:AB->Prop}{os:List PR}{O:AB}{d:Nat}
section code
variable{n t:AB->Prop}{x:Nat->AB->Prop}{a b:PC}{l:Ne}{env':AB}
theorem PA(o:Kp O l env')(h:n env'):WO S (KR n l) [] O:=⟨by show n (O.fq l);rw[o.out];exact h⟩
theorem RO{ops:List PR}(h:WO S (KR n l) ops O):WP S (.region ops l) ⟨n,x,t⟩ O:=⟨h.out⟩
theorem w5{D:Ne}{ops:List PR}(hd:TM O D=X)(h:WO S (KR n l) ops O):WP S (.draw D ops l) ⟨n,x,t⟩ O:=⟨hd,h.out⟩
theorem MQ(h:WP S a ⟨λe=>(∀s,(e.get s).WF)->WP S b ⟨n,x,t⟩ e,x,t⟩ O):WP S (.seq a b) ⟨n,x,t⟩ O:=AAz h
theorem dR(o:Kp O l env')(h:n env'):WP S (.skip l) ⟨n,x,t⟩ O:=xQ o.out h
theorem lR(h:t O):WP S .ret ⟨n,x,t⟩ O:=⟨h⟩
theorem nR{i:Nat}(o:Kp O l env')(h:x i env'):WP S (.exit i l) ⟨n,x,t⟩ O:=xP o.out h
theorem zx{s:Nat}{cs cs':List AS}{c:PC}{q:Q}(h:O.get s=.bx cs)(he:cs.map AS.rel=cs')(k:WP S c q ((s,.bx cs')::O)):WP S (.rls s c) q O:=by
 refine ⟨?_⟩;subst he;simp only[PC.wp,h];exact k.out
theorem jT{i:Nat}(h:WP S a ⟨n,λj e=>if j=i then n e else x j e,t⟩ O):WP S (.block i a) ⟨n,x,t⟩ O:=ZE h
theorem zc{m:List (Nat×EV)}{e:AB}{q:Q}(he:Nm e m l env')(h:WP S a q env'):WP S a q (sR e m l):=by rw[he.out];exact h
variable{Q:Q}
theorem w4{c:AG}{β:Type}{q:Bool}{u v:Option β}{r:β}(o:c.val O=Y (.bool q))(h:(if q=X then u else v)=Y r)(p:q=X->u=Y r->WP S a Q O)(w:q=T->v=Y r->WP S b Q O):WP S (.cond c a b) Q O:=
 Xz o (λe=>p e (YS e h)) (λe=>w e (YR e h))
theorem xB{σ β:Type}{i:Nat}{M:σ->List (Nat×EV)}{q:Bool}{u v:Option σ}{k:σ->Option β}{r:β}(p:(AG.s i).val O=Y (.bool q))(h:((if q=X then u else v).bind k)=Y r)(_:HJ i M)(_:(PC.cond (.s i) a b).last=Y l)
  (A:∀w,q=X->u=Y w->WP S a ⟨λe=>Rn e (sR O (M w) l),x,t⟩ O)(B:∀w,q=T->v=Y w->WP S b ⟨λe=>Rn e (sR O (M w) l),x,t⟩ O)(C:∀w,k w=Y r->n (sR O (M w) l)):WP S (.cond (.s i) a b) ⟨n,x,t⟩ O:=by
 obtain ⟨w,o,h⟩:=bind_some h;refine AAy (λe=>Rn e (sR O (M w) l)) ?_ (λe he=>by rw[he.out];exact C w h);exact Xz p (λe=>A w e (YS e o)) (λe=>B w e (YR e o))
end code
structure Bd(O:AB)(q i:Nat)(b:Int):Prop where
 of::out:(∀s,(O.get s).WF)->b<=9223372036854775807
section bounds
variable{q i:Nat}{α:Type}{e:α->TV}{l:List α}{es row:Fq}{n:Nat}
theorem ACJ{b:Int}(h:decide (b<=9223372036854775807)=X):Bd O q i b:=⟨λ_=>of_decide_eq_true h⟩
theorem ACO{b:Int}:Bd O q i (At b):=⟨λ_=>zU _⟩
theorem ACL(h:O.get q=.tv (.list n es))(he:es=l.map e):Bd O q i l.length:=⟨λo=>by have:=o q;rw[h]at this;exact WS (dL this) he⟩
theorem ACM(h:O.get q=.ow (.list n es))(he:es=l.map e):Bd O q i l.length:=⟨λo=>by have:=o q;rw[h]at this;exact WS (ACB this) he⟩
theorem ACP(h:O.get q=.xo n es)(he:es=l.map e):Bd O q i l.length:=⟨λo=>by have:=o q;rw[h]at this;exact WS (ACC this) he⟩
theorem ACN{b:ByteArray}(h:O.get q=.tv (.str b)):Bd O q i b.size:=⟨λo=>by have:=o q;rw[h]at this;exact wX (dL this)⟩
theorem ACK{b:Int}(h:O.get q=.tv (.int .i64 b)):Bd O q i b:=⟨λo=>by have:=o q;rw[h]at this;exact qB (dL this)⟩
theorem AAC(h:O.get q=.tv (.pt row))(hr:row[i]?=Y (.list n es))(he:es=l.map e):Bd O q i l.length:=⟨λo=>by have:=o q;rw[h]at this;exact WS (lC (uS this) hr) he⟩
theorem AAB{b:Int}(h:O.get q=.tv (.pt row))(hr:row[i]?=Y (.int .i64 b)):Bd O q i b:=⟨λo=>by have:=o q;rw[h]at this;exact qB (lC (uS this) hr)⟩
end bounds
section loops
variable{σ β ρ:Type}{n t:AB->Prop}{x:Nat->AB->Prop}{c:PC}{live jl:Ne}{i0 Do q i1:Nat}{lo b:Int}{s0:σ}{r:β}{k:σ->Option β}
variable{M:Int->σ->List (Nat×EV)}
theorem zV(h:∀i s,(sR O (M i s) live).get Do=.tv (.int .i64 i)){i:Int}{s:σ}(o:∀k,((sR O (M i s) live).get k).WF)(hi:i<b)(hb:b<=9223372036854775807):At (i+1)=i+1:=by
 have:=o Do;rw[h]at this;exact ACD (dL this) hi hb
theorem w6{f:Int->σ->Option σ}(_:HA i0 Do q i1 M)(h:(ls f lo b s0).bind k=Y r)(p:∀s,(O.get s).WF)(hb:Bd O q i1 b)(_:c.xl i0=Y jl)(u:O.fq live=sR O (M lo s0) live)(w:∀i s,(sR O (M i s) live).get Do=.tv (.int .i64 i))
  (A:∀i s r,i<b->f i s=Y r->(∀k,((sR O (M i s) live).get k).WF)->WP S c ⟨λe=>Rn (e.fq live) (sR O (M (At (i+1)) r) live),λ_ _=>False,λ_=>False⟩ (sR O (M i s) live))
  (B:∀i s,¬i<b->WP S c ⟨λ_=>False,λj e=>j=i0/\Rn e (sR O (M 0 s) jl),λ_=>False⟩ (sR O (M i s) live))
  (C:∀s,k s=Y r->n (sR O (M 0 s) jl)):WP S (.block i0 (.loop live c)) ⟨n,x,t⟩ O:=by
 obtain ⟨o,ho,h⟩:=bind_some h;have hb:=hb.out p;refine wZ ho (λi s=>sR O (M i s) live) (λs=>sR O (M 0 s) jl) u (λi s r hi hf p=>⟨PC.l3 S c _ _ (A i s r hi hf p).out _ (λe he=>?_) (λ_ _ h=>h) (λ_ h=>h)⟩) (λi s hi=>⟨PC.l3 S c _ _ (B i s hi).out _ (λ_ h=>h) (λj e h=>⟨h.1,h.2.out⟩) (λ_ h=>h)⟩) (C o h);have:=he.out;rw[zV w p hi hb]at this;exact this
variable{kr:ρ->Option β}
theorem ZP{f:Int->σ->Option (CF σ ρ)}{R:ρ->AB->Prop}(h:ei (gt f lo b s0) k kr=Y r)(hb:b<=9223372036854775807)(w:O.fq live=sR O (M lo s0) live)(A:∀i s,(sR O (M i s) live).get Do=.tv (.int .i64 i))
  (B:∀i s r,i<b->f i s=Y r->(∀k,((sR O (M i s) live).get k).WF)->WP S c ⟨λe=>∃s',r=.next s'/\Rn (e.fq live) (sR O (M (At (i+1)) s') live),λj e=>j=i0/\∃s',r=.brk s'/\Rn e (sR O (M 0 s') jl),λe=>∃v,r=.ret v/\R v e⟩ (sR O (M i s) live))
  (C:∀i s,¬i<b->WP S c ⟨λ_=>False,λj e=>j=i0/\Rn e (sR O (M 0 s) jl),λ_=>False⟩ (sR O (M i s) live))
  (D:∀s,k s=Y r->n (sR O (M 0 s) jl))(E:∀v e,kr v=Y r->R v e->t e):WP S (.block i0 (.loop live c)) ⟨n,x,t⟩ O:=by
 obtain ⟨o,ho,h⟩:=Y8 h;refine lH ho (λi s=>sR O (M i s) live) (λs=>sR O (M 0 s) jl) R w (λi s r hi hf u=>⟨PC.l3 S c _ _ (B i s r hi hf u).out _ (λe he=>?_) (λj e he=>?_) (λ_ h=>h)⟩) (λi s hi=>⟨PC.l3 S c _ _ (C i s hi).out _ (λ_ h=>h) (λj e h=>⟨h.1,h.2.out⟩) (λ_ h=>h)⟩) (λs F=>D s (ky h F)) (λv e hv=>E v e (kz h hv))
 .obtain⟨s',p,e2⟩:=he;have e2:=e2.out;rw[zV A u hi hb]at e2;exact⟨s',p,e2⟩
 .obtain⟨G,s',p,e2⟩:=he;exact⟨G,s',p,e2.out⟩
theorem w9{f:Int->σ->Option (CF σ β)}{R:β->AB->Prop}(_:HA i0 Do q i1 M)(_:HR R)(o:R r=t)(h:ei (gt f lo b s0) k (λv=>Y v)=Y r)(p:∀s,(O.get s).WF)(hb:Bd O q i1 b)(_:c.xl i0=Y jl)(u:O.fq live=sR O (M lo s0) live)(w:∀i s,(sR O (M i s) live).get Do=.tv (.int .i64 i))
  (A:∀i s r,i<b->f i s=Y r->(∀k,((sR O (M i s) live).get k).WF)->WP S c ⟨λe=>∃s',r=.next s'/\Rn (e.fq live) (sR O (M (At (i+1)) s') live),λj e=>j=i0/\∃s',r=.brk s'/\Rn e (sR O (M 0 s') jl),λe=>∃v,r=.ret v/\R v e⟩ (sR O (M i s) live))
  (B:∀i s,¬i<b->WP S c ⟨λ_=>False,λj e=>j=i0/\Rn e (sR O (M 0 s) jl),λ_=>False⟩ (sR O (M i s) live))
  (C:∀s,k s=Y r->n (sR O (M 0 s) jl)):WP S (.block i0 (.loop live c)) ⟨n,x,t⟩ O:=
 ZP h (hb.out p) u w A B C (λv e hv D=>by cases hv;rw[<-o];exact D)
variable{τ:Type}
theorem w8{f:Int->σ->Option (CF σ ρ)}{k:σ->Option (CF τ ρ)}{r:CF τ ρ}{R:ρ->AB->Prop}(_:HA i0 Do q i1 M)(h:ei (gt f lo b s0) k (λv=>Y (.ret v))=Y r)(o:∀s,(O.get s).WF)(hb:Bd O q i1 b)(_:c.xl i0=Y jl)(p:O.fq live=sR O (M lo s0) live)(u:∀i s,(sR O (M i s) live).get Do=.tv (.int .i64 i))
  (w:∀i s r,i<b->f i s=Y r->(∀k,((sR O (M i s) live).get k).WF)->WP S c ⟨λe=>∃s',r=.next s'/\Rn (e.fq live) (sR O (M (At (i+1)) s') live),λj e=>j=i0/\∃s',r=.brk s'/\Rn e (sR O (M 0 s') jl),λe=>∃v,r=.ret v/\R v e⟩ (sR O (M i s) live))
  (A:∀i s,¬i<b->WP S c ⟨λ_=>False,λj e=>j=i0/\Rn e (sR O (M 0 s) jl),λ_=>False⟩ (sR O (M i s) live))
  (B:∀s,k s=Y r->n (sR O (M 0 s) jl)):WP S (.block i0 (.loop live c)) ⟨n,x,λe=>∃v,r=.ret v/\R v e⟩ O:=
 ZP h (hb.out o) p u w A B (λv e hv C=>by cases hv;exact⟨v,rfl,C⟩)
theorem w7{f:Int->σ->Option (CF σ ρ)}(_:HA i0 Do q i1 M)(h:ei (gt f lo b s0) k (λ_=>W)=Y r)(o:∀s,(O.get s).WF)(hb:Bd O q i1 b)(_:c.xl i0=Y jl)(p:O.fq live=sR O (M lo s0) live)(u:∀i s,(sR O (M i s) live).get Do=.tv (.int .i64 i))
  (w:∀i s r,i<b->f i s=Y r->(∀k,((sR O (M i s) live).get k).WF)->WP S c ⟨λe=>∃s',r=.next s'/\Rn (e.fq live) (sR O (M (At (i+1)) s') live),λj e=>j=i0/\∃s',r=.brk s'/\Rn e (sR O (M 0 s') jl),λ_=>∃v,r=.ret v/\False⟩ (sR O (M i s) live))
  (A:∀i s,¬i<b->WP S c ⟨λ_=>False,λj e=>j=i0/\Rn e (sR O (M 0 s) jl),λ_=>False⟩ (sR O (M i s) live))
  (B:∀s,k s=Y r->n (sR O (M 0 s) jl)):WP S (.block i0 (.loop live c)) ⟨n,x,t⟩ O:=
 ZP (R:=λ_ _=>False) h (hb.out o) p u w A B (λv e hv _=>by cases hv)
theorem iY{f:σ->Option (CF σ ρ)}{R:ρ->AB->Prop}{M:σ->List (Nat×EV)}(h:ei (D5 f s0) k kr=Y r)(u:O.fq live=sR O (M s0) live)
  (w:∀s r,f s=Y r->(∀k,((sR O (M s) live).get k).WF)->WP S c ⟨λe=>∃s',r=.next s'/\Rn (e.fq live) (sR O (M s') live),λj e=>j=i0/\∃s',r=.brk s'/\Rn e (sR O (M s') jl),λe=>∃v,r=.ret v/\R v e⟩ (sR O (M s) live))
  (A:∀s,k s=Y r->n (sR O (M s) jl))(B:∀v e,kr v=Y r->R v e->t e):WP S (.block i0 (.loop live c)) ⟨n,x,t⟩ O:=by
 obtain ⟨o,ho,h⟩:=Y8 h;refine zY ho (λs=>sR O (M s) live) (λs=>sR O (M s) jl) R u (λs r hf C=>⟨PC.l3 S c _ _ (w s r hf C).out _ (λe he=>?_) (λj e he=>?_) (λ_ h=>h)⟩) (λs D=>A s (ky h D)) (λv e hv=>B v e (kz h hv))
 .obtain⟨s',p,e2⟩:=he;exact⟨s',p,e2.out⟩
 .obtain⟨E,s',p,e2⟩:=he;exact⟨E,s',p,e2.out⟩
theorem z7{f:σ->Option (CF σ β)}{R:β->AB->Prop}{M:σ->List (Nat×EV)}(_:HW i0 M)(_:HR R)(o:R r=t)(h:ei (D5 f s0) k (λv=>Y v)=Y r)(_:c.xl i0=Y jl)(p:O.fq live=sR O (M s0) live)
  (u:∀s r,f s=Y r->(∀k,((sR O (M s) live).get k).WF)->WP S c ⟨λe=>∃s',r=.next s'/\Rn (e.fq live) (sR O (M s') live),λj e=>j=i0/\∃s',r=.brk s'/\Rn e (sR O (M s') jl),λe=>∃v,r=.ret v/\R v e⟩ (sR O (M s) live))
  (w:∀s,k s=Y r->n (sR O (M s) jl)):WP S (.block i0 (.loop live c)) ⟨n,x,t⟩ O:=
 iY h p u w (λv e hv A=>by cases hv;rw[<-o];exact A)
theorem z6{f:σ->Option (CF σ ρ)}{k:σ->Option (CF τ ρ)}{r:CF τ ρ}{R:ρ->AB->Prop}{M:σ->List (Nat×EV)}(_:HW i0 M)(h:ei (D5 f s0) k (λv=>Y (.ret v))=Y r)(_:c.xl i0=Y jl)(o:O.fq live=sR O (M s0) live)
  (p:∀s r,f s=Y r->(∀k,((sR O (M s) live).get k).WF)->WP S c ⟨λe=>∃s',r=.next s'/\Rn (e.fq live) (sR O (M s') live),λj e=>j=i0/\∃s',r=.brk s'/\Rn e (sR O (M s') jl),λe=>∃v,r=.ret v/\R v e⟩ (sR O (M s) live))
  (u:∀s,k s=Y r->n (sR O (M s) jl)):WP S (.block i0 (.loop live c)) ⟨n,x,λe=>∃v,r=.ret v/\R v e⟩ O:=
 iY h o p u (λv e hv w=>by cases hv;exact⟨v,rfl,w⟩)
theorem z1{f:σ->Option (CF σ ρ)}{M:σ->List (Nat×EV)}(_:HW i0 M)(h:ei (D5 f s0) k (λ_=>W)=Y r)(_:c.xl i0=Y jl)(o:O.fq live=sR O (M s0) live)
  (p:∀s r,f s=Y r->(∀k,((sR O (M s) live).get k).WF)->WP S c ⟨λe=>∃s',r=.next s'/\Rn (e.fq live) (sR O (M s') live),λj e=>j=i0/\∃s',r=.brk s'/\Rn e (sR O (M s') jl),λ_=>∃v,r=.ret v/\False⟩ (sR O (M s) live))
  (u:∀s,k s=Y r->n (sR O (M s) jl)):WP S (.block i0 (.loop live c)) ⟨n,x,t⟩ O:=
 iY (R:=λ_ _=>False) h o p u (λv e hv _=>by cases hv)
end loops
end
end Go.Sf
namespace Go.Sf
section
variable{P:Program}{S:FuncId->Fq->A9->Prop}{K:AB->Prop}{os:List PR}{O:AB}{d:Nat}{α β:Type}{k:α->Option β}{r:β}
theorem bnd{G:Prop}{x:Option α}(h:x.bind k=Y r)(g:∀a,x=Y a->k a=Y r->G):G:=by
 obtain ⟨a,ha,h⟩:=bind_some h;exact g a ha h
theorem ACR{α:Type}{x:Option α}{k:α->Option β}{op:AE}{dd:Option Nat}(_:op.AbL=4)(h:x.bind k=Y r)(g:∀a,x=Y a->k a=Y r->WO S K (⟨dd,op,W⟩::os) O):WO S K (⟨dd,op,W⟩::os) O:=bnd h g
theorem ACQ{x:Option α}{f:FuncId}{ts:Fq}{R:α->A9}{op:AE}{dd:Option Nat}(_:op.AbL=3)(h:x.bind k=Y r)(c:Ct P x f ts R)(g:∀a,AT P f ts (R a)->k a=Y r->WO (AT P) K (⟨dd,op,W⟩::os) O):WO (AT P) K (⟨dd,op,W⟩::os) O:=bnd h λa ha=>g a (c.snd a ha)
theorem wu{γ:Type}{k:List γ->Option β}{n s:Nat}{y:AG}{es o:Fq}{e:γ->TV}{l m:List γ}{f:List γ->TV}(h:(Aw l m).bind k=Y r)(u:O.get s=.ow (.list n es))(w:y.val O=Y (.list n o))(he:es=l.map e)(hf:o=m.map e)(c:Fl e n f)
  (A:∀x,Aw l m=Y x->k x=Y r->WO S K os ((d,.ow (f x))::(s,.tv (.list n es))::O)):WO S K (⟨Y d,.app n (.s s) y,W⟩::os) O:=by
 obtain ⟨x,p,h⟩:=bind_some h;have:=A x p h;rw[c.eq]at this;exact uK p u w he hf rfl this
section ints
variable{k:Int->Option β}{x y:AG}{ik:IntKind}{a b:Int}
theorem zv(h:(quo a b).bind k=Y r)(p:x.val O=Y (.int ik a))(u:y.val O=Y (.int ik b))(w:∀q,quo a b=Y q->k q=Y r->WO S K os ((d,.tv (.int ik (ik.wrap q)))::O)):WO S K (⟨Y d,.bin .i .quo x y,W⟩::os) O:=bnd h λq o h=>AB5 o p u (w q o h)
theorem zw(h:(uJ a b).bind k=Y r)(p:x.val O=Y (.int ik a))(u:y.val O=Y (.int ik b))(w:∀q,uJ a b=Y q->k q=Y r->WO S K os ((d,.tv (.int ik q))::O)):WO S K (⟨Y d,.bin .i .rem x y,W⟩::os) O:=bnd h λq o h=>AB6 o p u (w q o h)
theorem zb{op:BinOp}{o:IntKind}(h:(Ny ik op a b).bind k=Y r)(u:x.val O=Y (.int ik a))(A:y.val O=Y (.int o b))(B:ik=o\/op=.shl\/op=.shr)(C:∀q,Ny ik op a b=Y q->k q=Y r->WO S K os ((d,.tv (.int ik q))::O)):WO S K (⟨Y d,.bin .w op x y,W⟩::os) O:=bnd h λq p h=>ABr p u A B (C q p h)
end ints
theorem xF{k:ByteArray->Option β}{x y:AG}{u v:ByteArray}(h:(Vp u v).bind k=Y r)(p:x.val O=Y (.str u))(w:y.val O=Y (.str v))(A:∀q,Vp u v=Y q->k q=Y r->WO S K os ((d,.tv (.str q))::O)):WO S K (⟨Y d,.bin .s .add x y,W⟩::os) O:=bnd h λq o h=>y5 o p w (A q o h)
theorem zl{k:Unit->Option β}{x:AG}{n:Nat}{es:Fq}{e:α->TV}{l:List α}(h:(XL l).bind k=Y r)(o:x.val O=Y (.list n es))(he:es=l.map e)(p:∀u,k u=Y r->WO S K os ((d,.tv (.bool T))::O)):WO S K (⟨Y d,.isn x,W⟩::os) O:=by
 obtain ⟨u,w,h⟩:=bind_some h;refine uL o he λb hb=>?_;obtain rfl:=oG w hb;exact p u h
theorem tX{x:AG}{n:Nat}{e:α->TV}{a:α}(h:BS O (x.ev O)=Y (e a).cells)(o:w_ (e a).cells.length n=X)(p:TV.agg (e a).cells=e a)(u:WO S K os ((d,.tv (e a))::O)):WO S K (⟨Y d,.lda x n,W⟩::os) O:=by
 have o:=w! o;exact uM h (by rw[o];exact w? n) (by rw[v6 U,p]) u
theorem zm{s n:Nat}{cs:List AS}{e:α->TV}{a:α}(h:O.get s=.bx cs)(p:cs.map (·.t)=(e a).cells)(o:w_ (e a).cells.length n=X)(u:TV.agg (e a).cells=e a)(w:WO S K os ((d,.tv (e a))::O)):WO S K (⟨Y d,.ldb s n,W⟩::os) O:=by
 have o:=w! o;exact ABw h (by rw[p,o];exact w? n) (by rw[p,v6 U,u]) w
variable{v:AG}
theorem xG{n s:Nat}{cs:List AS}{t:TV}(h:O.get s=.bx cs)(hv:v.ev O=.tv t)(o:t.cells.length=n)(hb:w_ n cs.length=X)(p:WO S K os ((s,.bx (t.cells.map (⟨T,·⟩)))::O)):WO S K (⟨W,.stb n s v,W⟩::os) O:=by
 have hb:=w! hb;refine AB8 h hv o (by rw[x_,hb];exact w? _) ?_ p;rw[List.take_zero,x_,hb,List.drop_length,List.append_nil,List.nil_append]
theorem xC{x:AG}{n:Nat}{e:α->TV}{a:α}(h:BS O (x.ev O)=Y (((e a).cells.map λt=>(⟨T,t⟩:AS)).map (·.t)))(o:w_ (e a).cells.length n=X)(p:TV.agg (e a).cells=e a)(u:WO S K os ((d,.tv (e a))::O)):WO S K (⟨Y d,.lda x n,W⟩::os) O:=
 tX (by rw[h,v1];congr 1;exact v5 _) o p u
def lV(n:Nat):Fq->Bool
 |[]=>X|t::ts=>w_ t.cells.length n&&lV n ts
theorem da{n:Nat}:∀{ts:Fq},lV n ts=X->∀t∈ts,t.cells.length=n
 |[],_,_,h=>c_
 |t::ts,h,u,o=>by
  simp only[lV,ne]at h;rcases v_.1 o with rfl|o
  .exact w! h.1
  .exact da h.2 u o
variable{parts:List AG}
theorem zq{n:Nat}{ts:Fq}(h:vals O parts=Y ts)(o:lV n ts=X)(p:WO S K os ((d,.ow (.list n ts))::O)):WO S K (⟨Y d,.lst n parts,W⟩::os) O:=by
 have:=p.out;refine⟨?_⟩;simp only[wpOps,PR.wp,AE.wp,h,Ax];exact⟨da o,this⟩
variable{zero:Fq}
theorem wv{parts:List (Nat×Nat×AG)}{ts:List (Nat×Nat×TV)}{cs:Fq}{e:α->TV}{a:α}(h:(Y a).bind k=Y r)(_:En α e)(o:Hx O parts=Y ts)(p:GB zero ts=Y cs)(he:TV.agg cs=e a)(u:∀x,x=a->k x=Y r->WO S K os ((d,.tv (e x))::O)):WO S K (⟨Y d,.bld zero parts,W⟩::os) O:=by
 rw [Option.bind_some]at h;exact dJ o p he (u a rfl h)
theorem zp{x:AG}{n:Nat}{cs:Fq}{e:α->TV}{a:α}(h:(Y a).bind k=Y r)(_:En α e)(o:BS O (x.ev O)=Y cs)(p:x! n cs.length=X)(he:TV.agg (cs.take n)=e a)(u:∀x,x=a->k x=Y r->WO S K os ((d,.tv (e x))::O)):WO S K (⟨Y d,.lda x n,W⟩::os) O:=by
 rw [Option.bind_some]at h;exact uM o p he (u a rfl h)
inductive Lm{α:Type}(e:α->TV):Fq->List α->Prop
 |nil:Lm e [] []
 |cons {t:TV} {ts:Fq} {a:α} {l:List α}:t=e a->Lm e ts l->Lm e (t::ts) (a::l)
theorem Lm.eq{e:α->TV}{ts:Fq}{l:List α}(h:Lm e ts l):ts=l.map e:=by
 induction h with
 |nil=>rfl|cons h _ o=>rw[h,o];rfl
theorem xD{n:Nat}{ts:Fq}{e:α->TV}{l:List α}(h:vals O parts=Y ts)(o:Lm e ts l)(p:∀a,(e a).cells.length=n)(u:WO S K os ((d,.ow (.list n (l.map e)))::O)):WO S K (⟨Y d,.lst n parts,W⟩::os) O:=uN h o.eq p u
theorem xE{n:Nat}{ts:Fq}{e:α->TV}{l:List α}{f:List α->TV}(h:vals O parts=Y ts)(p:Lm e ts l)(u:∀a,(e a).cells.length=n)(c:Fl e n f)(o:WO S K os ((d,.ow (f l))::O)):WO S K (⟨Y d,.lst n parts,W⟩::os) O:=by
 rw [c.eq]at o;exact uN h p.eq u o
theorem wo{e:α->TV}{n:Ne}{x y:AG}{a:α}{cs:Fq}(o:x.val O=Y (e a))(p:y.val O=Y (.agg cs))[c:dN e][i:Decidable (a=c.un cs)](ha:TV.agg (e a).cells=e a)(hb:(e (c.un cs)).cells=cs)(u:(e a).cells.map TV.kd=n)(w:WO S K os ((d,.tv (.bool (decide (a=c.un cs))))::O)):WO S K (⟨Y d,.bin (.a n) .eql x y,W⟩::os) O:=by
 obtain ⟨A,h⟩:=c.dec a (c.un cs);have:i=A:=Subsingleton.elim _ _;subst this;rw[<-ha]at o;rw[hb]at h;exact pM o p u h w
theorem ws{e:α->TV}{n:Ne}{x y:AG}{a:α}{cs:Fq}(o:x.val O=Y (e a))(p:y.val O=Y (.agg cs))[c:dN e][i:Decidable (a=c.un cs)](ha:TV.agg (e a).cells=e a)(hb:(e (c.un cs)).cells=cs)(u:(e a).cells.map TV.kd=n)(w:WO S K os ((d,.tv (.bool (!decide (a=c.un cs))))::O)):WO S K (⟨Y d,.bin (.a n) .neq x y,W⟩::os) O:=by
 obtain ⟨A,h⟩:=c.dec a (c.un cs);have:i=A:=Subsingleton.elim _ _;subst this;rw[<-ha]at o;rw[hb]at h;exact pN o p u h w
theorem wn{e:α->TV}{n:Ne}{x y:AG}{a b:α}{i:Decidable (a=b)}(o:x.val O=Y (e a))(p:y.val O=Y (e b))(c:dN e)(ha:TV.agg (e a).cells=e a)(hb:TV.agg (e b).cells=e b)(u:(e a).cells.map TV.kd=n)(w:WO S K os ((d,.tv (.bool (decide (a=b))))::O)):WO S K (⟨Y d,.bin (.a n) .eql x y,W⟩::os) O:=by
 obtain ⟨A,h⟩:=c.dec a b;have:i=A:=Subsingleton.elim _ _;subst this;rw[<-ha]at o;rw[<-hb]at p;exact pM o p u h w
theorem wq{e:α->TV}{n:Ne}{x y:AG}{a b:α}{i:Decidable (a=b)}(o:x.val O=Y (e a))(p:y.val O=Y (e b))(c:dN e)(ha:TV.agg (e a).cells=e a)(hb:TV.agg (e b).cells=e b)(u:(e a).cells.map TV.kd=n)(w:WO S K os ((d,.tv (.bool (!decide (a=b))))::O)):WO S K (⟨Y d,.bin (.a n) .neq x y,W⟩::os) O:=by
 obtain ⟨A,h⟩:=c.dec a b;have:i=A:=Subsingleton.elim _ _;subst this;rw[<-ha]at o;rw[<-hb]at p;exact pN o p u h w
section calls
variable{x:Option α}{f:FuncId}{ts:Fq}{R:α->A9}{args:List AG}
theorem ze{s:Nat}{cs:List AS}{row:Fq}(o:O.get s=.bx cs)(f:Fz cs row)(k:WO S K os ((s,.tv (.pt row))::O)):WO S K (⟨W,.frz s,W⟩::os) O:=ABt o f.h k
theorem uW{t:α->TV}(_:HS d)(h:x.bind k=Y r)(c:Ct P x f ts R)(ha:vals O args=Y ts)(p:∀a,R a=.own (t a))(u:∀a,x=Y a->k a=Y r->WO (AT P) K os ((d,.tv (t a))::O)):WO (AT P) K (⟨Y d,.call f args,W⟩::os) O:=by
 obtain ⟨a,o,h⟩:=bind_some h;have:=c.snd a o;rw[p]at this;exact yy ha (yC this) (u a o h)
theorem uV{t:α->List AS}(h:x.bind k=Y r)(c:Ct P x f ts R)(ha:vals O args=Y ts)(p:∀a,R a=.z5 (t a))(u:∀a,x=Y a->k a=Y r->WO (AT P) K os ((d,.tv (.agg ((t a).map λc=>c.rel.t)))::O)):WO (AT P) K (⟨Y d,.call f args,W⟩::os) O:=by
 obtain ⟨a,o,h⟩:=bind_some h;have:=c.snd a o;rw[p]at this;exact wG ha this rfl (u a o h)
theorem qJ{γ:Type}{k:List γ->Option β}{x:Option (List γ)}{R:List γ->A9}{n:Nat}{e:γ->TV}(h:x.bind k=Y r)(c:Ct P x f ts R)(p:O.f0 d=X)(ha:vals O args=Y ts)(u:∀a,R a=.own (.list n (a.map e)))(hf:∀a,(e a).flat=X)(w:∀a,x=Y a->k a=Y r->WO (AT P) K os ((d,.xo n (a.map e))::O)):WO (AT P) K (⟨Y d,.Aax f args,W⟩::os) O:=by
 obtain ⟨a,o,h⟩:=bind_some h;have:=c.snd a o;rw[u]at this;exact sJ p ha this rfl hf (w a o h)
theorem qI{γ:Type}{k:List γ->Option β}{x:Option (List γ)}{R:List γ->A9}{n:Nat}{e:γ->TV}(h:x.bind k=Y r)(c:Ct P x f ts R)(ha:Aaj O args=Y ts)(p:∀a,R a=.own (.list n (a.map e)))(hf:∀a,(e a).flat=X)(u:∀a,x=Y a->k a=Y r->WO (AT P) K os ((d,.ow (.list n (a.map e)))::O)):WO (AT P) K (⟨Y d,.AaE f args,W⟩::os) O:=by
 obtain ⟨a,o,h⟩:=bind_some h;have:=c.snd a o;rw[p]at this;exact sG ha this rfl rfl hf (u a o h)
variable{us:α->Fq}
theorem uU{i s:Nat}{cs:List AS}{cs':α->List AS}{e:α->EV}(h:x.bind k=Y r)(c:Ct P x f ts R)(p:(args[i]?).bind (·.place O)=Y (s,0))(u:O.get s=.bx cs)(w:O.noX s W=X)(hd:d≠s)(ha:Jf O i args=Y ts)(A:∀a,R a=.bo cs (cs' a) i (us a))(he:∀a,EV.ofs (us a)=e a)(B:∀a,x=Y a->k a=Y r->WO (AT P) K os ((d,e a)::(s,.bx (cs' a))::O)):WO (AT P) K (⟨Y d,.zt f args i,W⟩::os) O:=by
 obtain ⟨a,o,h⟩:=bind_some h;have:=c.snd a o;rw[A]at this;exact wF p u w hd ha this (he a) (B a o h)
end calls
inductive GS(g:Nat)(b:Bool):Ne->List PR->Ne->Nat->Prop
 |done {acc:Ne} {os:List PR}:GS g b acc os [] 0
 |step {acc js:Ne} {d n:Nat} {op:AE} {os:List PR}:GS g b (d::acc) os js n->GS g b acc (⟨Y d,op,Y (g,b)⟩::os) (d::js) (n+1)
 |nest {acc js:Ne} {d n g':Nat} {b':Bool} {op:AE} {os:List PR}:acc.contains g'=X->GS g b (d::acc) os js n->GS g b acc (⟨Y d,op,Y (g',b')⟩::os) (d::js) (n+1)
def wg:Ne->AB->(AB->Prop)->Prop
 |[],z,K=>K z|k::ks,z,K=>∃j,wg ks ((k,j)::z) K
structure Gj(js:Ne)(d:Nat)(v:TV)(z e:AB):Prop where
 of::out:wg js z λy=>e=(d,.tv v)::y
theorem oA{d:Nat}{v:TV}{z e:AB}(h:e=(d,.tv v)::z):Gj [] d v z e:=⟨h⟩
variable{ks:Ne}
theorem ut{k d:Nat}{v:TV}{j:EV}{z e:AB}(h:Gj ks d v ((k,j)::z) e):Gj (k::ks) d v z e:=⟨j,h.out⟩
theorem xA{js:Ne}{v:TV}{z:AB}(h:Gj js d v z O):WO S (Gj js d v z) [] O:=⟨h⟩
structure aB(js:Ne)(z:AB)(Q:AB->Prop):Prop where
 of::out:∀(d:Nat)(v:TV)(e:AB),Gj js d v z e->∃y,e=(d,.tv v)::y/\Q y
theorem uu{z:AB}{Q:AB->Prop}(h:Q z):aB [] z Q:=⟨λ_ _ _ he=>⟨z,he.out,h⟩⟩
theorem qr{k:Nat}{z:AB}{Q:AB->Prop}(h:∀j,aB ks ((k,j)::z) Q):aB (k::ks) z Q:=⟨λd v e he=>by
 obtain ⟨j,o⟩:=he.out;exact(h j).out d v e ⟨o⟩⟩
theorem ABF{dd:Option Nat}{op:AE}{g:Nat}{b q:Bool}(h:O.get g=.tv (.bool q))(o:dP g b q)(p:WO S K (⟨dd,op,W⟩::os) O):WO S K (⟨dd,op,Y (g,b)⟩::os) O:=ACh h o.out p
theorem zi{ρ:Type}{dd:Option Nat}{op:AE}{g:Nat}{q:Bool}{u v:Option ρ}{r:ρ}(w:O.get g=.tv (.bool q))(h:(if q=X then u else v)=Y r)
  (o:dP g X q->q=X->u=Y r->WO S K (⟨dd,op,Y (g,X)⟩::os) O)(p:Wt g X q->q=T->v=Y r->WO S K (⟨dd,op,Y (g,X)⟩::os) O):WO S K (⟨dd,op,Y (g,X)⟩::os) O:=by
 cases q with
 |true=>exact o ⟨rfl⟩ rfl h|false=>exact p ⟨q?⟩ rfl h
theorem zh{ρ:Type}{dd:Option Nat}{op:AE}{g:Nat}{q:Bool}{u v:Option ρ}{r:ρ}(w:O.get g=.tv (.bool q))(h:(if q=X then u else v)=Y r)
  (o:Wt g T q->q=X->u=Y r->WO S K (⟨dd,op,Y (g,T)⟩::os) O)(p:dP g T q->q=T->v=Y r->WO S K (⟨dd,op,Y (g,T)⟩::os) O):WO S K (⟨dd,op,Y (g,T)⟩::os) O:=by
 cases q with
 |true=>exact o ⟨q?⟩ rfl h|false=>exact p ⟨rfl⟩ rfl h
theorem xZ{op:AE}{g:Nat}{b q:Bool}(h:O.get g=.tv (.bool q))(o:Wt g b q)(p:WO S K os ((d,.sk)::O)):WO S K (⟨Y d,op,Y (g,b)⟩::os) O:=ABE h o.out p
theorem lz{d n:Nat}{js:Ne}{v:TV}(h:WO S (Gj js d v O) (os.take n) O)(o:aB js O λe=>WO S K (os.drop n) ((d,.tv v)::e)):WO S K os O:=
 ABD n (Gj js d v) h λe he=>by
  obtain ⟨y,rfl,p⟩:=o.out d v e he;exact p
section groups
variable{g n:Nat}{js:Ne}{c:Bool}{dd gd:Option Nat}{op:AE}{x y z:AG}{gg:Option (Nat×Bool)}
variable{θ:K1}{os':List PR}
theorem zk{k:Bool->Option β}(h:(if c=X then θ else Y T).bind k=Y r)(_:GS g X [] os js n)(A:O.get g=.tv (.bool c))(_:os[n]?=Y ⟨Y d,.pick x y z,gg⟩)
  (p:∀v,dP g X c->c=X->θ=Y v->WO S (Gj js d (.bool v) O) (os.take (n+1)) O)(u:∀v,Wt g X c->c=T->Y T=Y v->WO S (Gj js d (.bool v) O) (os.take (n+1)) O)
  (w:∀v,k v=Y r->aB js O λe=>WO S K (os.drop (n+1)) ((d,.tv (.bool v))::e))(ho:os=⟨dd,op,Y (g,X)⟩::os'):WO S K (⟨dd,op,Y (g,X)⟩::os') O:=by
 obtain ⟨v,hv,h⟩:=bind_some h;rw[<-ho];refine lz (n:=n+1) (v:=.bool v) ?_ (w v h);rcases Bool.eq_false_or_eq_true c with o|o
 .exact p v ⟨o⟩ o (YS o hv)
 .exact u v ⟨by rw[o];rfl⟩ o (YR o hv)
theorem zj{k:Bool->Option β}(h:(if c=X then Y X else θ).bind k=Y r)(_:GS g T [] os js n)(A:O.get g=.tv (.bool c))(_:os[n]?=Y ⟨Y d,.pick x y z,gg⟩)
  (p:∀v,dP g T c->c=T->θ=Y v->WO S (Gj js d (.bool v) O) (os.take (n+1)) O)(u:∀v,Wt g T c->c=X->Y X=Y v->WO S (Gj js d (.bool v) O) (os.take (n+1)) O)
  (w:∀v,k v=Y r->aB js O λe=>WO S K (os.drop (n+1)) ((d,.tv (.bool v))::e))(ho:os=⟨dd,op,Y (g,T)⟩::os'):WO S K (⟨dd,op,Y (g,T)⟩::os') O:=by
 obtain ⟨v,hv,h⟩:=bind_some h;rw[<-ho];refine lz (n:=n+1) (v:=.bool v) ?_ (w v h);rcases Bool.eq_false_or_eq_true c with o|o
 .exact u v ⟨by rw[o];rfl⟩ o (YS o hv)
 .exact p v ⟨o⟩ o (YR o hv)
theorem zg{e:Bool}(ho:os=⟨dd,op,Y (g,X)⟩::os')(_:GS g X [] os js n)(u:O.get g=.tv (.bool c))(_:os[n]?=Y ⟨Y d,.pick x y z,gg⟩)
  (h:dP g X c->c=X->WO S (Gj js d (.bool e) O) (os.take (n+1)) O)(o:Wt g X c->c=T->WO S (Gj js d (.bool T) O) (os.take (n+1)) O)
  (p:aB js O λz=>WO S K (os.drop (n+1)) ((d,.tv (.bool (c&&e)))::z)):WO S K (⟨dd,op,Y (g,X)⟩::os') O:=by
 rw [<-ho];refine lz (n:=n+1) (v:=.bool (c&&e)) ?_ p;cases c
 .exact o ⟨rfl⟩ rfl
 .exact h ⟨rfl⟩ rfl
theorem zf{e:Bool}(ho:os=⟨dd,op,Y (g,T)⟩::os')(_:GS g T [] os js n)(u:O.get g=.tv (.bool c))(_:os[n]?=Y ⟨Y d,.pick x y z,gg⟩)
  (h:dP g T c->c=T->WO S (Gj js d (.bool e) O) (os.take (n+1)) O)(o:Wt g T c->c=X->WO S (Gj js d (.bool X) O) (os.take (n+1)) O)
  (p:aB js O λz=>WO S K (os.drop (n+1)) ((d,.tv (.bool (c||e)))::z)):WO S K (⟨dd,op,Y (g,T)⟩::os') O:=by
 rw [<-ho];refine lz (n:=n+1) (v:=.bool (c||e)) ?_ p;cases c
 .exact h ⟨rfl⟩ rfl
 .exact o ⟨rfl⟩ rfl
end groups
variable{qi:Option Nat}{j:Int}
theorem z8{x:AG}{q n i:Nat}{es row:Fq}{e:α->TV}{l:List α}{a:α}{t:TV}(h:x.ev O=.lp q qi (j.toNat*n+i))(o:O.sx q qi=Y (n,es))(he:es=l.map e)(p:∀a,(e a).cells.length=n)(ha:idx l j=Y a)(hi:x? i n=X)(hr:(e a).cells=row)(u:row[i]?=Y t)
  (w:WO S K os ((d,.tv t)::O)):WO S K (⟨Y d,.xld x,W⟩::os) O:=uO h o he p ha rfl hi hr u w
theorem xI{x:AG}{q n:Nat}{es row:Fq}{e:α->TV}{l:List α}{a:α}{t:TV}(h:x.ev O=.lp q qi (j.toNat*n))(o:O.sx q qi=Y (n,es))(he:es=l.map e)(p:∀a,(e a).cells.length=n)(ha:idx l j=Y a)(hi:x? 0 n=X)(hr:(e a).cells=row)(u:row[0]?=Y t)
  (w:WO S K os ((d,.tv t)::O)):WO S K (⟨Y d,.xld x,W⟩::os) O:=uO (i:=0) h o he p ha rfl hi hr u w
variable{v:AG}
theorem xK{γ:Type}{s:Nat}{q n i:Nat}{env':AB}{es:Fq}{e:α->TV}{g:γ->TV}{l:List α}{a:α}{b:γ}{f:α->γ->α}(_:HX s f)(h:(AG.s s).ev O=.lp q qi (j.toNat*n+i))(p:O.sx q qi=Y (n,es))(hv:v.ev O=.tv (g b))(he:es=l.map e)(u:∀a,(e a).cells.length=n)(ha:idx l j=Y a)(hi:x? i n=X)(w:(g b).cells=[g b])
  (hb:(e (f a b)).cells=(e a).cells.set i (g b))(o:O.x5 q qi n ((BR l j (f a b)).map e)=env')(A:WO S K os env'):WO S K (⟨W,.xst (.s s) v 1,W⟩::os) O:=uP h p hv he u ha rfl hi w hb rfl o A
theorem xJ{x v:AG}{q n:Nat}{env':AB}{es:Fq}{e:α->TV}{l:List α}{a b:α}(h:x.ev O=.lp q qi (j.toNat*n))(p:O.sx q qi=Y (n,es))(hv:v.ev O=.tv (e b))(he:es=l.map e)(u:∀a,(e a).cells.length=n)(ha:idx l j=Y a)(hi:x? 0 n=X)(w:(e b).cells=[e b])
  (hb:(e b).cells=(e a).cells.set 0 (e b))(o:O.x5 q qi n ((BR l j b).map e)=env')(A:WO S K os env'):WO S K (⟨W,.xst x v 1,W⟩::os) O:=uP (i:=0) h p hv he u ha rfl hi w hb rfl o A
end
end Go.Sf
namespace Go.Sf
section
variable{S:FuncId->Fq->A9->Prop}{K:AB->Prop}{os:List PR}{O:AB}{d:Nat}
variable{j:Int}
theorem AB3{α:Type}{x:AG}{s o:Nat}{es:Fq}{e:α->TV}{l:List α}{a:α}(h:x.ev O=.nh s o (.el j.toNat))(u:O.nat s o=Y es)(he:es=l.map e)(ha:idx l j=Y a)(k:WO S K os ((d,.nh s o (.rw j.toNat))::O)):WO S K (⟨Y d,.nld x,W⟩::os) O:=by
 replace k:=k.out;refine⟨?_⟩;subst he;obtain⟨A,B,w⟩:=II ha;have p:j.toNat<l.length:=(v!.1 w).1;simp only[wpOps,PR.wp,AE.wp,h,u,Ax];exact⟨by simpa using p,k⟩
variable{j2:Int}
theorem AB4{α:Type}{x v:AG}{s o:Nat}{es:Fq}{env':AB}{e:List α->TV}{e2:α->TV}{l:List (List α)}{m:List α}{A b:α}{t:TV}(h:x.ev O=.nh s o (.rp j.toNat j2.toNat))(B:O.nat s o=Y es)(hv:v.ev O=.tv t)(he:es=l.map e)(w:∀m,e m=.list 1 (m.map e2))(ha:idx l j=Y m)(hb:idx m j2=Y A)(C:t=e2 b)(D:t.cells=[t])(E:t.flat=X)
  (p:O.Abz s o ((BR l j (BR m j2 b)).map e)=env')(k:WO S K os env'):WO S K (⟨W,.nst x v,W⟩::os) O:=by
 replace k:=k.out;refine⟨?_⟩;subst he p C;obtain⟨H,I,F⟩:=II ha;obtain⟨m0,m1,G⟩:=II hb;have u:j2.toNat<m.length:=(v!.1 G).1;simp only[wpOps,PR.wp,AE.wp,h,B,hv,Ax];refine⟨m.map e2,by rw[v?,F];simp[w],g_,D,E,?_⟩;have:(l.map e).set j.toNat (.list 1 ((m.map e2).set j2.toNat (e2 b)))=(BR l j (BR m j2 b)).map e:=by
  simp only[BR,List.map_set,w]
 rw [this];exact k
end
section
variable{P:Program}{K:AB->Prop}{os:List PR}{O:AB}{d:Nat}{α β γ ρ:Type}{f:FuncId}{args:List AG}{ts:Fq}{R:α->A9}{x:Option α}{k:α->Option ρ}{r:ρ}
variable{j:Int}
theorem zr{x i:AG}{s o:Nat}{es:Fq}{e:α->TV}{l:List α}{ik:IntKind}{S:FuncId->Fq->A9->Prop}(h:(idx l j).bind k=Y r)(p:x.ev O=.nh s o .hd)(u:O.nat s o=Y es)(hi:i.val O=Y (.int ik j))(he:es=l.map e)
  (w:∀a,idx l j=Y a->k a=Y r->WO S K os ((d,.nh s o (.el j.toNat))::O)):WO S K (⟨Y d,.nia x i,W⟩::os) O:=by
 obtain ⟨a,ha,h⟩:=bind_some h;have A:=(w a ha h).out;refine⟨?_⟩;subst he;obtain⟨C,E,D⟩:=II ha;have B:j.toNat<l.length:=(v!.1 D).1;simp only[wpOps,PR.wp,AE.wp,p,u,hi,Ax];exact⟨C,by simp only[c9];omega,A⟩
variable{e2:α->TV}{j2:Int}
theorem zu{x i:AG}{s o:Nat}{es:Fq}{e:List α->TV}{l:List (List α)}{m:List α}{ik:IntKind}{S:FuncId->Fq->A9->Prop}(h:(idx m j2).bind k=Y r)(p:x.ev O=.nh s o (.rw j.toNat))(u:O.nat s o=Y es)(hi:i.val O=Y (.int ik j2))(he:es=l.map e)(w:∀m,e m=.list 1 (m.map e2))(ha:idx l j=Y m)
  (A:∀a,idx m j2=Y a->k a=Y r->WO S K os ((d,.nh s o (.rp j.toNat j2.toNat))::O)):WO S K (⟨Y d,.nia x i,W⟩::os) O:=by
 obtain ⟨b,hb,h⟩:=bind_some h;have B:=(A b hb h).out;refine⟨?_⟩;subst he;obtain⟨F,G,D⟩:=II ha;obtain⟨m0,m1,E⟩:=II hb;have C:j2.toNat<m.length:=(v!.1 E).1;simp only[wpOps,PR.wp,AE.wp,p,u,hi,Ax];exact⟨m0,m.map e2,by rw[v?,D];simp[w],by simp only[c9];omega,B⟩
theorem wt{mm q s o:Nat}{es u:Fq}{cs cs':List AS}{n:Nat}{e:β->TV}{l:List β}{m:β}{k:List β->Option ρ}{S:FuncId->Fq->A9->Prop}(h:(Aw l [m]).bind k=Y r)(w:O.get mm=.nh s o .hd)(A:O.get q=.x1 n u)(B:O.get s=.bx cs)(C:O.nat s o=Y es)(he:es=l.map e)(hf:TV.list n u=e m)(p:O.f0 d=X)(hd:d≠mm/\d≠q/\mm≠q)(D:cs.set o ⟨T,.undef⟩=cs')
  (E:∀a,Aw l [m]=Y a->k a=Y r->WO S K os ((d,.xn (a.map e))::(s,.bx cs')::(mm,.undef)::(q,.undef)::O)):WO S K (⟨Y d,.AaA mm q,W⟩::os) O:=by
 obtain ⟨a,ha,h⟩:=bind_some h;have G:=(E a ha h).out;refine⟨?_⟩;subst he D;unfold Aw at ha;split at ha
 next F=>cases ha;simp only[wpOps,PR.wp,AE.wp,w,A,B,C,Ax];refine⟨by simpa using F,⟨p,hd⟩,?_⟩;rw[hf];simpa[AB.put]using G
 .cases ha
theorem qH{u:α->List β}{v:α->List γ}{w A:Nat}{p:β->TV}{e2:γ->TV}(h:x.bind k=Y r)(c:Ct P x f ts R)(ha:vals O args=Y ts)(E:∀a,R a=.z5 [⟨X,.list w ((u a).map p)⟩,⟨X,.list A ((v a).map e2)⟩])(F:∀a,(p a).flat=X)(G:∀a,(e2 a).flat=X)
  (H:∀a,x=Y a->k a=Y r->WO (AT P) K os ((d,.z5 [⟨X,.xl w ((u a).map p)⟩,⟨X,.xl A ((v a).map e2)⟩])::O)):WO (AT P) K (⟨Y d,.Aar f args,W⟩::os) O:=by
 obtain ⟨a,D,h⟩:=bind_some h;have C:=c.snd a D;rw[E]at C;have I:=(H a D h).out;have o:∀{τ:Type}(e:τ->TV)(l:List τ),(∀a,(e a).flat=X)->TV.wx (l.map e)=X:=by
  intro τ e l he
  induction l with
  |nil=>rfl|cons a l J=>simp[TV.wx,he,J]
 refine ⟨?_⟩;simp only[wpOps,PR.wp,AE.wp,ha,Ax];refine⟨_,C,λc B=>?_,λ_=>I⟩;simp only[v_,List.not_mem_nil,or_false]at B;rcases B with rfl|rfl
 .exact⟨_,_,rfl,o _ _ F⟩
 .exact⟨_,_,rfl,o _ _ G⟩
inductive NL:List AS->List AS->Prop
 |nil {xs:List AS}:xs=[]->NL xs []
 |cons {xs ys zs:List AS} {o:Bool} {t:TV}:xs=⟨o,t⟩::ys->NL ys zs->NL xs (⟨o,t⟩::zs)
theorem NL.eq{xs o:List AS}(h:NL xs o):xs=o:=by
 induction h with
 |nil h=>exact h|cons h _ p=>rw[h,p]
theorem zy{S:FuncId->Fq->A9->Prop}{K:AB->Prop}{os:List PR}{O:AB}{n s h:Nat}{x v:AG}{cs cs':List AS}{t:TV}(o:x.place O=Y (s,h))(p:O.get s=.bx cs)(hv:v.ev O=.tv t)(u:t.cells.length=n)(hb:x! (h+n) cs.length=X)(w:NL (cs.take h++t.cells.map (⟨T,·⟩)++cs.drop (h+n)) cs')
  (k:WO S K os ((s,.bx cs')::O)):WO S K (⟨W,.st n x v,W⟩::os) O:=ACn o p hv u hb w.eq k
theorem xH{S:FuncId->Fq->A9->Prop}{K:AB->Prop}{os:List PR}{O:AB}{s h q:Nat}{x:AG}{cs cs':List AS}{t:TV}(o:x.place O=Y (s,h))(p:O.get s=.bx cs)(hv:O.get q=.ow t)(u:q≠s)(hb:x? h cs.length=X)(w:NL (cs.set h ⟨X,t⟩) cs')
  (k:WO S K os ((s,.bx cs')::(q,.tv t)::O)):WO S K (⟨W,.st 1 x (.s q),W⟩::os) O:=AB9 o p hv u hb w.eq k
theorem aX:∀(ts:List (Nat×Nat×TV))(done rest:Fq),Xa done.length ts=X->(Jj ts).length<=rest.length->GB (done++rest) ts=Y (done++(Jj ts++rest.drop (Jj ts).length))
 |[],done,rest,_,h=>by simp[GB,Jj]|(i,n,t)::r,done,rest,p,h=>by
  simp only[Xa,ne,Nat.beq_eq]at p;obtain⟨⟨rfl,o⟩,hr⟩:=p;simp only[Jj,az]at h;have u:n<=rest.length:=U
  simp only[GB];rw[a6 ⟨o,by rw[az];omega⟩];have w:done++rest=done++(rest.take n++rest.drop n):=by rw[List.take_append_drop]
  rw [w,Vg t.cells done (rest.take n) (rest.drop n) f?,<-ci];rw[aX r (done++t.cells) (rest.drop n) (by rw[az,o];exact hr) (by rw[List.length_drop];omega)];simp[Jj,List.drop_drop,o]
inductive NT:Fq->Fq->Prop
 |nil {xs:Fq}:xs=[]->NT xs []
 |cons {xs ys zs:Fq} {t:TV}:xs=t::ys->NT ys zs->NT xs (t::zs)
theorem NT.eq{xs o:Fq}(h:NT xs o):xs=o:=by
 induction h with
 |nil h=>exact h|cons h _ p=>rw[h,p]
variable{zero:Fq}
theorem ww{S:FuncId->Fq->A9->Prop}{K:AB->Prop}{os:List PR}{O:AB}{d:Nat}{parts:List (Nat×Nat×AG)}{ts:List (Nat×Nat×TV)}{cs:Fq}(h:Hx O parts=Y ts)(o:Xa 0 ts=X)(p:x! (Jj ts).length zero.length=X)(u:NT (Jj ts++zero.drop (Jj ts).length) cs)(k:WO S K os ((d,.tv (.agg cs))::O)):WO S K (⟨Y d,.bld zero parts,W⟩::os) O:=
 dJ h (by have:=aX ts [] zero o (Nat.le_of_ble_eq_true p);simpa using this) (by rw[u.eq]) k
structure HY{α A B C:Type}(n:Nat)(f:A->B->C->α)(g1:A->TV)(g2:B->TV)(g3:C->TV):Prop where
variable{v:AG}{qi:Option Nat}
theorem xL{S:FuncId->Fq->A9->Prop}{K:AB->Prop}{os:List PR}{O:AB}{α A B C:Type}{f:A->B->C->α}{o:Nat}{q n:Nat}{env':AB}{es cs cs':Fq}{e:α->TV}{l:List α}{a:α}{E:A}{F:B}{G:C}{p:A->TV}{u:B->TV}{w:C->TV}(_:HY o f p u w)(h:(AG.s o).ev O=.lp q qi (j.toNat*n))(H:O.sx q qi=Y (n,es))(he:es=l.map e)(I:∀a,(e a).cells.length=n)(hv:v.ev O=.tv (.agg cs))(J:NT cs cs')(hb:cs'=[p E,u F,w G])(hf:∀a b c,TV.agg [p a,u b,w c]=e (f a b c))(ha:idx l j=Y a)(L:x? 0 n=X)
  (D:O.x5 q qi n ((BR l j (f E F G)).map e)=env')(k:WO S K os env'):WO S K (⟨W,.xst (.s o) v n,W⟩::os) O:=uQ h H (by rw[hv,J.eq,hb,hf]) he I ha L D k
theorem AAA{S:FuncId->Fq->A9->Prop}{α:Type}{x v:AG}{q n:Nat}{env':AB}{es:Fq}{e:α->TV}{l:List α}{a b:α}(h:x.ev O=.lp q qi (j.toNat*n))(p:O.sx q qi=Y (n,es))(he:es=l.map e)(u:∀a,(e a).cells.length=n)(hv:v.ev O=.tv (e b))(ha:idx l j=Y a)(w:x? 0 n=X)
  (o:O.x5 q qi n ((BR l j b).map e)=env')(k:WO S K os env'):WO S K (⟨W,.xst x v n,W⟩::os) O:=uQ h p hv he u ha w o k
end
section
variable{S:FuncId->Fq->A9->Prop}{K:AB->Prop}{os:List PR}{O:AB}{d:Nat}
theorem AB0(k:∀b,WO S K os ((d,.mx (.mp b []))::O)):WO S K (⟨Y d,.mkm,W⟩::os) O:=
 ⟨λb=>(k b).out⟩
theorem AB2{s:Nat}{last:Option ((Int×Int)×Int)}{o:Bq}(h:O.get s=.mx (.mi last o))(hd:d≠s)(w:o=[]->WO S K os ((d,.tp [.bool T])::O))(A:∀p u,o.Perm (p::u)->WO S K os ((d,.tp [.bool X,TD p.1,.int .i64 p.2])::(s,.mx (.mi (Y p) u))::O)):WO S K (⟨Y d,.mnx s,W⟩::os) O:=by
 refine ⟨?_⟩;simp only[wpOps,PR.wp,AE.wp,h];exact⟨hd,λe=>(w e).out,λp t B=>(A p t B).out⟩
variable{kvs:Bq}
theorem sI{f:FuncId}{args:List AG}{ts us:Fq}(hv:vals O args=Y ts)(h:S f ts (.mpr kvs us))(k:∀b,WO S K os ((d,.mx (.tm b kvs us))::O)):WO S K (⟨Y d,.Aaw f args,W⟩::os) O:=by
 refine ⟨?_⟩;simp only[wpOps,PR.wp,AE.wp,hv,Ax];exact .inr ⟨kvs,us,h,λ_ b=>(k b).out⟩
theorem sH{f:FuncId}{args:List AG}{ts us:Fq}(hv:vals O args=Y ts)(h:S f ts (.tp us))(k:WO S K os ((d,.tp us)::O)):WO S K (⟨Y d,.Aaw f args,W⟩::os) O:=by
 refine ⟨?_⟩;simp only[wpOps,PR.wp,AE.wp,hv,Ax];exact .inl ⟨us,h,λ_=>k.out⟩
theorem MV{ss:Ne}{s:Nat}{r:AB}{m:MX}(h:O.get s=.mx m)(k:Kp O ss r):Kp O (s::ss) ((s,.mx m)::r):=PX h k
theorem ABc{ss:Ne}{s:Nat}{r:AB}{q:List (Nat×EV)}{m:MX}(h:look q s=W)(o:O.get s=.mx m)(k:Nm O q ss r):Nm O q (s::ss) ((s,.mx m)::r):=Rf h o k
end
def Pa(r:Bq×Int):A9:=if r.2=0 then .mpr r.1 [.int .i64 r.2]else .tp [.undef,.int .i64 r.2]
structure HMO(o:Nat):Prop where
variable{kvs:Bq}
theorem vF{h:List RV}{O:AB}{e:Int}(he:(!decide (e=0))=X)(o:h.length≠1)(p:E6 O h=Y [.undef,.int .i64 e]):Bm h (Pa (kvs,e)) O:=by
 simp only[Bool.not_eq_true',decide_eq_false_iff_not]at he;simp only[Pa,ac he];exact⟨o,p⟩
theorem vG{s o b:Nat}{h:List RV}{O:AB}(_:HMO o)(p:O.get s=.tv (.AaG b))(u:O.get o=.mx (.mp b kvs))(w:h≠[])(A:E6 O h=Y [.int .i64 0]):Bm (.tmp s::h) (Pa (kvs,0)) O:=by
 simp only[Pa,if_true,Bm];exact⟨w,⟨b,o,p,u⟩,A⟩
section
variable{P:Program}{α β:Type}{K:AB->Prop}{os:List PR}{O:AB}{d:Nat}{x:Option α}{k:α->Option β}{r:β}{f:FuncId}{args:List AG}{ts:Fq}{R:α->A9}
variable{us:α->Fq}
theorem qG{i s:Nat}{cs:List AS}{q:α->Bool}{u v:α->List AS}{e:α->EV}(h:x.bind k=Y r)(c:Ct P x f ts R)(A:(args[i]?).bind (·.place O)=Y (s,0))(B:O.get s=.bx cs)(C:O.noX s W=X)(hd:d≠s)(ha:Jf O i args=Y ts)(D:∀a,R a=.bo cs (if q a=X then u a else v a) i (us a))(he:∀a,EV.ofs (us a)=e a)
  (E:∀a,x=Y a->q a=X->k a=Y r->WO (AT P) K os ((d,e a)::(s,.bx (u a))::O))(F:∀a,x=Y a->q a=T->k a=Y r->WO (AT P) K os ((d,e a)::(s,.bx (v a))::O)):WO (AT P) K (⟨Y d,.zt f args i,W⟩::os) O:=by
 refine uU h c A B C hd ha D he (λa o p=>?_);cases w:q a with
 |true=>rw[a6 rfl];exact E a o w p|false=>rw[ac V];exact F a o w p
end
section
variable{S:FuncId->Fq->A9->Prop}{a b:PC}{O:AB}
variable{Q:Q}
theorem wz{c:AG}{β:Type}{q:Bool}{u v:Option β}{r:β}(p:c.val O=Y (.bool q))(h:(if q=X then u else v)=Y r)(o:q=X)(k:u=Y r->WP S a Q O):WP S (.cond c a b) Q O:=
 TK p o (k (YS o h))
theorem wy{c:AG}{β:Type}{q:Bool}{u v:Option β}{r:β}(p:c.val O=Y (.bool q))(h:(if q=X then u else v)=Y r)(o:q=T)(k:v=Y r->WP S b Q O):WP S (.cond c a b) Q O:=
 TJ p o (k (YR o h))
end
end Go.Sf
set_option maxRecDepth 100000
namespace Go.Sf
theorem Ow{P:Prop}(p:P:=by first|exact rfl|exact Ml.eq):P:=p
theorem tZ{P:Prop}(p:P:=by
 first|exact ACL rfl Ow|exact ACK rfl|exact AAC rfl rfl Ow|exact AAB rfl rfl|exact ACN rfl|exact ACM rfl Ow|exact ACP rfl rfl|exact ACO|exact ACJ a!):P:=p
theorem t7{P:Prop}(p:P:=by
 repeat (first|apply GS.step|(apply GS.nest;exact rfl))
 exact GS.done):P:=p
theorem nlq{P:Prop}(p:P:=by
 repeat (apply NL.cons;exact rfl)
 exact NL.nil rfl):P:=p
theorem ntq{P:Prop}(p:P:=by
 repeat (apply NT.cons;exact rfl)
 exact NT.nil rfl):P:=p
theorem lmq{P:Prop}(p:P:=by
 repeat (apply Lm.cons;exact rfl)
 exact Lm.nil):P:=p
theorem gnq{P:Prop}(p:P:=by
 intro _ k
 repeat' (first|exact k|exact rfl|exact Nat.le_of_ble_eq_true rfl|exact Nat.ne_of_beq_eq_false rfl|decide|apply And.intro)):P:=p
theorem au{P:Prop}(p:P:=by
 repeat' (first
  |(show WO _ _ _ _;first
    |apply PA
    |(apply st 1;exact rfl;first|exact λ_ k=>k|exact λ_ k=>⟨rfl,k⟩)
    |(apply ABF;exact rfl;assumption)
    |(apply xZ;exact rfl;assumption)
    |(apply ABx;exact rfl;exact Ow)
    |(apply wI;exact rfl;assumption;exact rfl)
    |(apply wH;exact rfl;assumption;exact rfl)
    |(apply uW;assumption;exact h;infer_instance;exact rfl;exact λ_=>rfl;intro x o h)|(apply qG;exact h;infer_instance;exact rfl;exact rfl;exact rfl;decide;exact rfl;exact λ_=>rfl;exact λ_=>rfl;intro x o B h;rotate_left;intro x o B h;rotate_left)|(apply ACQ;exact rfl;exact h;infer_instance;intro x c h;apply st 3;exact rfl;first|exact λ_ k=>⟨_,⟨c,rfl⟩,λ_=>k⟩|exact λ_ k=>⟨_,c,λ_=>k⟩|exact λ_ k=>⟨_,c,k⟩|exact λ_ k=>⟨rfl,_,_,.inl c,λ_=>k⟩|exact λ_ k=>⟨⟨rfl,Nat.ne_of_beq_eq_false rfl⟩,_,_,c,λ_=>k⟩|exact λ_ k=>⟨Nat.ne_of_beq_eq_false rfl,_,c,λ_=>k⟩|exact λ_ k=>⟨rfl,_,_,_,rfl,c,λ_=>k⟩|exact λ_ k=>⟨⟨Nat.ne_of_beq_eq_false rfl,rfl⟩,rfl,rfl,_,_,rfl,c,λ_=>k⟩)
    |(apply wu;exact h;exact rfl;exact rfl;exact Ow;exact Ow;infer_instance;intro x o h)
    |(apply ACR;exact rfl;exact h;intro x o h;first|(apply ABu o;exact rfl;exact rfl;exact Ow;exact rfl)|(apply uK o;exact rfl;exact rfl;exact Ow;exact Ow;exact rfl)|(apply AB7 o;exact rfl;exact Ow;exact rfl;exact rfl)|(apply y6 o;exact rfl;exact rfl)|(apply y7 o;exact rfl;exact rfl;exact rfl)|(apply ACA o;exact rfl;exact rfl;exact Ow;exact rfl)|(apply yu o;exact rfl;exact rfl;exact Ow;exact Ow;exact rfl;exact rfl;decide)|(apply yw o;exact rfl;exact rfl;exact rfl;exact rfl;exact rfl;exact rfl;decide;exact rfl;exact rfl)|(apply ABs o;exact rfl;exact rfl;exact rfl;exact rfl;exact rfl;decide)|(apply AB1 o;exact rfl;exact rfl;exact rfl;exact rfl))
    |(apply y8;exact rfl;exact Ow)
    |(apply wv;(with_reducible exact h);infer_instance;exact rfl;exact rfl;exact rfl;intro x o h)
    |(apply yx;exact rfl;exact rfl;exact rfl;exact rfl)
    |(apply ww;exact rfl;exact rfl;exact rfl;exact ntq)
    |(apply dJ;exact rfl;exact rfl;exact rfl)
    |(apply zp;(with_reducible exact h);infer_instance;exact rfl;exact rfl;exact rfl;intro x o h)
    |(apply tX;exact rfl;exact rfl;exact rfl)
    |(apply zm;exact rfl;exact rfl;exact rfl;exact rfl)
    |(apply xC;exact rfl;exact rfl;exact rfl)
    |(apply xG;exact rfl;exact rfl;exact rfl;exact rfl)
    |(apply zy;exact rfl;exact rfl;exact rfl;exact rfl;exact rfl;exact nlq)
    |(apply xH;exact rfl;exact rfl;exact rfl;decide;exact rfl;exact nlq)
    |(apply ABy;exact rfl;exact rfl)
    |(apply ABz;exact rfl;exact rfl)
    |(apply st 2;exact rfl;exact gnq)
    |(apply sn;exact rfl;exact gnq)
    |(apply ACi;exact rfl)
    |(apply ABv;exact rfl)
    |(apply uV;exact h;infer_instance;exact rfl;exact λ_=>rfl;intro x o h)
    |(apply zv;exact h;exact rfl;exact rfl;intro x o h)
    |(apply zw;exact h;exact rfl;exact rfl;intro x o h)
    |(apply zb;exact h;exact rfl;exact rfl;decide;intro x o h)
    |(apply xF;exact h;exact rfl;exact rfl;intro x o h)
    |(apply wn;exact rfl;exact rfl;infer_instance;exact rfl;exact rfl;exact rfl)
    |(apply wq;exact rfl;exact rfl;infer_instance;exact rfl;exact rfl;exact rfl)
    |refine wo rfl rfl rfl rfl rfl ?_
    |refine ws rfl rfl rfl rfl rfl ?_
    |(apply zi;exact rfl;(with_reducible exact h);intro A B h;rotate_left;intro A B h;rotate_left)
    |(apply zh;exact rfl;(with_reducible exact h);intro A B h;rotate_left;intro A B h;rotate_left)
    |(apply zk h (ho:=rfl);exact t7;exact rfl;exact rfl;intro v A B h;rotate_left;intro v A B h;rotate_left;intro v h;rotate_left)
    |(apply zj h (ho:=rfl);exact t7;exact rfl;exact rfl;intro v A B h;rotate_left;intro v A B h;rotate_left;intro v h;rotate_left)
    |(apply zg rfl;exact t7;exact rfl;exact rfl;intro A B;rotate_left;intro A B;rotate_left 3)
    |(apply zf rfl;exact t7;exact rfl;exact rfl;intro A B;rotate_left;intro A B;rotate_left 3)
    |apply xA
    |(apply xE;exact rfl;exact lmq;exact λ_=>rfl;infer_instance)|(apply xD;exact rfl;exact lmq;exact λ_=>rfl)
    |(apply zq;exact rfl;exact rfl)
    |(apply ze;exact rfl;infer_instance)
    |(apply xI;exact rfl;exact rfl;exact rfl;exact λ_=>rfl;assumption;exact rfl;exact rfl;exact rfl)|(apply z8;exact rfl;exact rfl;exact rfl;exact λ_=>rfl;assumption;exact rfl;exact rfl;exact rfl)|(apply xK;assumption;exact rfl;exact rfl;exact rfl;exact rfl;exact λ_=>rfl;assumption;exact rfl;exact rfl;exact rfl;exact rfl)|(apply xJ;exact rfl;exact rfl;exact rfl;exact rfl;exact λ_=>rfl;assumption;exact rfl;exact rfl;exact rfl;exact rfl)|(apply xL;assumption;exact rfl;exact rfl;exact rfl;exact λ_=>rfl;exact rfl;exact ntq;exact rfl;exact λ_ _ _=>rfl;assumption;exact rfl;exact rfl)|(apply AAA;exact rfl;exact rfl;exact rfl;exact λ_=>rfl;exact rfl;assumption;exact rfl;exact rfl)|(apply qJ;exact h;infer_instance;exact rfl;exact rfl;exact λ_=>rfl;exact λ_=>rfl;intro x o h)|(apply qI;exact h;infer_instance;exact rfl;exact λ_=>rfl;exact λ_=>rfl;intro x o h)
    |(apply zl;exact h;exact rfl;exact Ow;intro u h)
    |(apply uL;exact rfl;exact rfl;intro z D;replace h:=ug h z D)
    |(apply yz;exact rfl)
    |(apply zr;exact h;exact rfl;exact rfl;exact rfl;exact Ow;intro x o h)
    |(apply AB3;exact rfl;exact rfl;exact Ow;assumption)
    |(apply zu;exact h;exact rfl;exact rfl;exact rfl;exact Ow;exact λ_=>rfl;assumption;intro x o h)|(apply AB4;exact rfl;exact rfl;exact rfl;exact Ow;exact λ_=>rfl;assumption;assumption;exact rfl;exact rfl;exact rfl;exact rfl)
    |(apply wt;exact h;exact rfl;exact rfl;exact rfl;exact rfl;exact Ow;exact rfl;exact rfl;decide;exact rfl;intro x o h)
    |(apply qH;exact h;infer_instance;exact rfl;exact λ_=>rfl;exact λ_=>rfl;exact λ_=>rfl;intro x o h)
    |(apply AB0;intro b;have K:=K b))
  |(show WP _ _ _ _;first
    |with_reducible apply zc
    |apply MQ
    |apply RO
    |(apply w5;exact rfl)
    |(apply zx;exact rfl;exact rfl)
    |apply dR
    |apply lR
    |apply nR
    |(apply TK;exact rfl;with_reducible rfl)
    |(apply TJ;exact rfl;with_reducible rfl)
    |(apply xB;exact rfl;exact h;assumption;exact rfl;intro w B h;rotate_left;intro w B h;rotate_left;intro w h;rotate_left)
    |(apply wz;exact rfl;exact h;assumption;intro h)
    |(apply wy;exact rfl;exact h;assumption;intro h)
    |(apply w4;exact rfl;exact h;intro B h;rotate_left;intro B h;rotate_left)
    |(apply TK;exact rfl;apply dlt;assumption)
    |(apply TJ;exact rfl;apply ACg;assumption)
    |(apply w6;(first|assumption|(apply HB.a;assumption));exact h;exact C;exact tZ;exact rfl;exact rfl;exact λ_ _=>rfl;intro i s r hi h C;rotate_left;intro i s hi;clear h;rotate_left;intro s h;rotate_left)
    |(apply w9;(first|assumption|(apply HB.a;assumption));assumption;exact rfl;exact h;exact C;exact tZ;exact rfl;exact rfl;exact λ_ _=>rfl;intro i s r hi h C;rotate_left;intro i s hi;clear h;rotate_left;intro s h;rotate_left)
    |(apply w8;(first|assumption|(apply HB.a;assumption));exact h;exact C;exact tZ;exact rfl;exact rfl;exact λ_ _=>rfl;intro i s r hi h C;rotate_left;intro i s hi;clear h;rotate_left;intro s h;rotate_left)
    |(apply w7;(first|assumption|(apply HB.a;assumption));exact h;exact C;exact tZ;exact rfl;exact rfl;exact λ_ _=>rfl;intro i s r hi h C;rotate_left;intro i s hi;clear h;rotate_left;intro s h;rotate_left)
    |(apply z7;assumption;assumption;exact rfl;exact h;exact rfl;exact rfl;intro s r h C;rotate_left;intro s h;rotate_left)
    |(apply z6;assumption;exact h;exact rfl;exact rfl;intro s r h C;rotate_left;intro s h;rotate_left)
    |(apply z1;assumption;exact h;exact rfl;exact rfl;intro s r h C;rotate_left;intro s h;rotate_left)
    |apply jT
    |cases h)
  |(show Kp _ _ _;first
    |exact Jq
    |(apply MY;exact rfl)
    |(apply ABN;exact rfl)
    |(apply MU;exact rfl)
    |(apply ABP;exact rfl)
    |(apply ABL;exact rfl)
    |(apply MW;exact rfl)
    |(apply MZ;exact rfl)
    |(apply ABM;exact rfl)
    |(apply ABO;exact rfl)
    |(apply xu;exact rfl)
    |(apply MV;exact rfl))
  |(show Nm _ _ _ _;first
    |exact yA
    |(apply xz;exact rfl)
    |(apply ABf;exact rfl;exact rfl)
    |(apply ABd;exact rfl;exact rfl)
    |(apply ABa;exact rfl;exact rfl)
    |(apply ABh;exact rfl;exact rfl)
    |(apply ABZ;exact rfl;exact rfl)
    |(apply ABe;exact rfl;exact rfl)
    |(apply ABg;exact rfl;exact rfl)
    |(apply ABb;exact rfl;exact rfl)
    |(apply ABc;exact rfl;exact rfl))
  |apply uu
  |(apply qr;intro j)
  |apply ut
  |exact oA rfl
  |(cases h;exact oA rfl)
  |apply dx
  |(apply uk;decide)
  |intro C
  |(cases h;first|exact rfl|exact⟨rfl⟩|exact⟨rfl,rfl⟩|exact⟨_,rfl,rfl⟩|exact⟨_,rfl,⟨rfl⟩⟩|exact⟨rfl,_,rfl,⟨rfl⟩⟩|exact⟨a!,rfl⟩|exact⟨_,rfl,a!,rfl⟩|exact⟨_,rfl,rfl,rfl⟩|exact vG (by assumption) rfl rfl a! rfl|exact⟨_,rfl,vF (by first|assumption|decide) a! rfl⟩)
  |exact⟨rfl,⟨rfl⟩⟩)):P:=p
end Go.Sf
