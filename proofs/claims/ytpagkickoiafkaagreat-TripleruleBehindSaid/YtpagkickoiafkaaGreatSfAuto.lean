/- Contracts that are found by themselves: rules that take the typed text along, and the script that applies them. -/
import Derived.Test.YtpagkickoiafkaaGreatSfLib
set_option linter.all false
open Option renaming some->Y,none->W
open Bool renaming true->X,false->T
open List renaming map_map->l!,map_id->l?,take_of_length_le->m_,mem_cons->m?,getElem?_eq_some_iff->nc,getElem?_map->nQ
open Nat renaming beq->nR,eq_of_beq_eq_true->nS,ble_self_eq_true->nT,zero_add->nU,ble->nV,blt->nW
namespace Go.Sf
class Ct(P:Program){α:Type}(x:Option α)(f:outParam FuncId)(ts:outParam Fq)(R:outParam (α->AZ)):Prop where
 snd:∀r,x=Y r->AO P f ts (R r)
class Ml(es:Fq){α:outParam Type}(e:outParam (α->TV))(l:outParam (List α)):Prop where
 eq:es=l.map e
class SD{α:Type}(e:α->TV)where
 un:Fq->α
 dec:∀a b,∃i:Decidable (a=b),BL (e a).cells (e b).cells=Y (@decide (a=b) i)
class Fz(cs:List AI)(row:outParam Fq):Prop where
 h:cs.map (·.t)=row
instance(priority:=high){l:Fq}:Fz (l.map λx=>(⟨T,x⟩:AI)) l:=⟨by rw[l!];exact l? _⟩
instance(priority:=low){cs:List AI}:Fz cs (cs.map (·.t)):=⟨rfl⟩
class En(α:Type)(e:outParam (α->TV)):Prop where
class Fl{α:Type}(e:α->TV)(n:outParam Nat)(f:outParam (List α->TV)):Prop where
 eq:∀l,f l=.list n (l.map e)
structure Kp(O:AA)(l:Ne)(r:AA):Prop where
 of::out:O.jj l=r
def look:List (Nat×EV)->Nat->Option EV
 |[],_=>W|(k,e)::r,n=>if k=n then Y e else look r n
def j7(O:AA)(m:List (Nat×EV)):Ne->AA
 |[]=>[]|s::ss=>(s,(look m s).getD (O.get s))::j7 O m ss
structure Nm(O:AA)(m:List (Nat×EV))(l:Ne)(r:AA):Prop where
 of::out:j7 O m l=r
structure Rn(a b:AA):Prop where
 of::out:a=b
structure HJ{σ:Type}(n:Nat)(M:σ->List (Nat×EV)):Prop where
structure HA{σ:Type}(n Hh q i:Nat)(M:Int->σ->List (Nat×EV)):Prop where
structure HB{σ:Type}(n Hh q i:Nat)(M:Int->σ->List (Nat×EV)):Prop where
theorem HB.a{σ:Type}{n Hh q i:Nat}{M:Int->σ->List (Nat×EV)}(_:HB n Hh q i M):HA n Hh q i M:=⟨⟩
structure HW{σ:Type}(n:Nat)(M:σ->List (Nat×EV)):Prop where
structure HR{β:Type}(R:β->AA->Prop):Prop where
structure HS(n:Nat):Prop where
structure HX{α γ:Type}(n:Nat)(f:α->γ->α):Prop where
structure SF(g:Nat)(b q:Bool):Prop where
 of::out:q=b
structure Pm(g:Nat)(b q:Bool):Prop where
 of::out:q=!b
def KR(n:AA->Prop)(l:Ne):AA->Prop:=λe=>n (e.jj l)
section
variable{O:AA}{s:Nat}{ss:Ne}{r:AA}{m:List (Nat×EV)}
theorem EJ:Kp O [] []:=⟨rfl⟩
theorem Hz{e:EV}(h:O.get s=e)(k:Kp O ss r):Kp O (s::ss) ((s,e)::r):=⟨by rw[<-k.out,<-h];rfl⟩
theorem F8{t:TV}(h:O.get s=.tv t)(k:Kp O ss r):Kp O (s::ss) ((s,.tv t)::r):=Hz h k
theorem dW{t:TV}(h:O.get s=.ow t)(k:Kp O ss r):Kp O (s::ss) ((s,.ow t)::r):=Hz h k
theorem F5{t:List AI}(h:O.get s=.bx t)(k:Kp O ss r):Kp O (s::ss) ((s,.bx t)::r):=Hz h k
theorem dU{q o:Nat}(h:O.get s=.bp q o)(k:Kp O ss r):Kp O (s::ss) ((s,.bp q o)::r):=Hz h k
theorem F7{t:Fq}(h:O.get s=.tp t)(k:Kp O ss r):Kp O (s::ss) ((s,.tp t)::r):=Hz h k
theorem F9(h:O.get s=.undef)(k:Kp O ss r):Kp O (s::ss) ((s,.undef)::r):=Hz h k
theorem dY{n:Nat}{t:Fq}(h:O.get s=.xo n t)(k:Kp O ss r):Kp O (s::ss) ((s,.xo n t)::r):=Hz h k
theorem dV{q:Nat}{i:Option Nat}(h:O.get s=.la q i)(k:Kp O ss r):Kp O (s::ss) ((s,.la q i)::r):=Hz h k
theorem dX(h:O.get s=.sk)(k:Kp O ss r):Kp O (s::ss) ((s,.sk)::r):=Hz h k
theorem aV{t:List AI}(h:O.get s=.kC t)(k:Kp O ss r):Kp O (s::ss) ((s,.kC t)::r):=Hz h k
theorem aa:Nm O m [] []:=⟨rfl⟩
theorem aZ{e:EV}(h:look m s=Y e)(k:Nm O m ss r):Nm O m (s::ss) ((s,e)::r):=⟨by rw[<-k.out];simp only[j7,h,Option.getD_some]⟩
theorem J2{e:EV}(h:look m s=W)(o:O.get s=e)(k:Nm O m ss r):Nm O m (s::ss) ((s,e)::r):=⟨by rw[<-k.out];simp only[j7,h,o,Option.getD_none]⟩
theorem dn{t:TV}(h:look m s=W)(o:O.get s=.tv t)(k:Nm O m ss r):Nm O m (s::ss) ((s,.tv t)::r):=J2 h o k
theorem dl{t:TV}(h:look m s=W)(o:O.get s=.ow t)(k:Nm O m ss r):Nm O m (s::ss) ((s,.ow t)::r):=J2 h o k
theorem di{t:List AI}(h:look m s=W)(o:O.get s=.bx t)(k:Nm O m ss r):Nm O m (s::ss) ((s,.bx t)::r):=J2 h o k
theorem dh{q o:Nat}(h:look m s=W)(p:O.get s=.bp q o)(k:Nm O m ss r):Nm O m (s::ss) ((s,.bp q o)::r):=J2 h p k
theorem dm{t:Fq}(h:look m s=W)(o:O.get s=.tp t)(k:Nm O m ss r):Nm O m (s::ss) ((s,.tp t)::r):=J2 h o k
theorem dr(h:look m s=W)(o:O.get s=.undef)(k:Nm O m ss r):Nm O m (s::ss) ((s,.undef)::r):=J2 h o k
theorem dt{n:Nat}{t:Fq}(h:look m s=W)(o:O.get s=.xo n t)(k:Nm O m ss r):Nm O m (s::ss) ((s,.xo n t)::r):=J2 h o k
theorem dj{q:Nat}{i:Option Nat}(h:look m s=W)(o:O.get s=.la q i)(k:Nm O m ss r):Nm O m (s::ss) ((s,.la q i)::r):=J2 h o k
end
def PC.xl(i:Nat):PC->Option Ne
 |.exit j l=>if j=i then Y l else W|.seq a b=>match a.xl i with
  |some l=>Y l|none=>b.xl i
 |.cond _ a b=>match a.xl i with
  |some l=>Y l|none=>b.xl i
 |.block _ a=>a.xl i|.loop _ a=>a.xl i|.nd _ a=>a.xl i|_=>W
def PC.last:PC->Option Ne
 |.region _ l=>Y l|.draw _ _ l=>Y l|.skip l=>Y l|.exit _ l=>Y l|.seq _ b=>b.last|.cond _ a _=>a.last|.block i (.loop _ b)=>b.xl i|.block _ c=>c.last|.nd _ c=>c.last|_=>W
section
variable{S:FuncId->Fq->AZ->Prop}{K:AA->Prop}{os:List PR}{O:AA}{d:Nat}
section code
variable{n t:AA->Prop}{x:Nat->AA->Prop}{a b:PC}{l:Ne}{env':AA}
theorem Hp(o:Kp O l env')(h:n env'):WO S (KR n l) [] O:=⟨by show n (O.jj l);rw[o.out];exact h⟩
theorem Jw{ops:List PR}(h:WO S (KR n l) ops O):WP S (.region ops l) ⟨n,x,t⟩ O:=⟨h.out⟩
theorem Zh{D:Ne}{ops:List PR}(hd:L9 O D=X)(h:WO S (KR n l) ops O):WP S (.draw D ops l) ⟨n,x,t⟩ O:=⟨hd,h.out⟩
theorem Fx(h:WP S a ⟨λe=>(∀s,(e.get s).WF)->WP S b ⟨n,x,t⟩ e,x,t⟩ O):WP S (.seq a b) ⟨n,x,t⟩ O:=c8 h
theorem SH(o:Kp O l env')(h:n env'):WP S (.skip l) ⟨n,x,t⟩ O:=Z5 o.out h
theorem T8(h:t O):WP S .ret ⟨n,x,t⟩ O:=⟨h⟩
theorem VD{i:Nat}(o:Kp O l env')(h:x i env'):WP S (.exit i l) ⟨n,x,t⟩ O:=Z4 o.out h
theorem cF{s:Nat}{cs cs':List AI}{c:PC}{q:Q}(h:O.get s=.bx cs)(he:cs.map AI.rel=cs')(k:WP S c q ((s,.bx cs')::O)):WP S (.nd s c) q O:=by
 refine ⟨?_⟩;subst he;simp only[PC.wp,h];exact k.out
theorem TU{i:Nat}(h:WP S a ⟨n,λj e=>if j=i then n e else x j e,t⟩ O):WP S (.block i a) ⟨n,x,t⟩ O:=Qw h
theorem bj{m:List (Nat×EV)}{e:AA}{q:Q}(he:Nm e m l env')(h:WP S a q env'):WP S a q (j7 e m l):=by rw[he.out];exact h
variable{Q:Q}
theorem Zg{c:AC}{β:Type}{q:Bool}{u v:Option β}{r:β}(o:c.val O=Y (.bool q))(h:(if q=X then u else v)=Y r)(p:q=X->u=Y r->WP S a Q O)(w:q=T->v=Y r->WP S b Q O):WP S (.cond c a b) Q O:=
 QK o (λe=>p e (QW e h)) (λe=>w e (QV e h))
theorem Zn{σ β:Type}{i:Nat}{M:σ->List (Nat×EV)}{q:Bool}{u v:Option σ}{k:σ->Option β}{r:β}(p:(AC.s i).val O=Y (.bool q))(h:((if q=X then u else v).bind k)=Y r)(_:HJ i M)(_:(PC.cond (.s i) a b).last=Y l)
  (A:∀w,q=X->u=Y w->WP S a ⟨λe=>Rn e (j7 O (M w) l),x,t⟩ O)(B:∀w,q=T->v=Y w->WP S b ⟨λe=>Rn e (j7 O (M w) l),x,t⟩ O)(C:∀w,k w=Y r->n (j7 O (M w) l)):WP S (.cond (.s i) a b) ⟨n,x,t⟩ O:=by
 obtain ⟨w,o,h⟩:=bind_some h;refine c7 (λe=>Rn e (j7 O (M w) l)) ?_ (λe he=>by rw[he.out];exact C w h);exact QK p (λe=>A w e (QW e o)) (λe=>B w e (QV e o))
end code
structure Bd(O:AA)(q i:Nat)(b:Int):Prop where
 of::out:(∀s,(O.get s).WF)->b<=9223372036854775807
section bounds
variable{q i:Nat}{α:Type}{e:α->TV}{l:List α}{es row:Fq}{n:Nat}
theorem fL{b:Int}(h:decide (b<=9223372036854775807)=X):Bd O q i b:=⟨λ_=>of_decide_eq_true h⟩
theorem fQ{b:Int}:Bd O q i (Ai b):=⟨λ_=>bc _⟩
theorem fN(h:O.get q=.tv (.list n es))(he:es=l.map e):Bd O q i l.length:=⟨λo=>by have:=o q;rw[h]at this;exact PV (SB this) he⟩
theorem fO(h:O.get q=.ow (.list n es))(he:es=l.map e):Bd O q i l.length:=⟨λo=>by have:=o q;rw[h]at this;exact PV (eW this) he⟩
theorem fR(h:O.get q=.xo n es)(he:es=l.map e):Bd O q i l.length:=⟨λo=>by have:=o q;rw[h]at this;exact PV (eX this) he⟩
theorem fP{b:ByteArray}(h:O.get q=.tv (.str b)):Bd O q i b.size:=⟨λo=>by have:=o q;rw[h]at this;exact ZK (SB this)⟩
theorem fM{b:Int}(h:O.get q=.tv (.int .i64 b)):Bd O q i b:=⟨λo=>by have:=o q;rw[h]at this;exact WI (SB this)⟩
theorem cP(h:O.get q=.tv (.pt row))(o:row[i]?=Y (.list n es))(he:es=l.map e):Bd O q i l.length:=⟨λp=>by have:=p q;rw[h]at this;exact PV (T3 (Yf this) o) he⟩
theorem cO{b:Int}(h:O.get q=.tv (.pt row))(o:row[i]?=Y (.int .i64 b)):Bd O q i b:=⟨λp=>by have:=p q;rw[h]at this;exact WI (T3 (Yf this) o)⟩
end bounds
section loops
variable{σ β ρ:Type}{n t:AA->Prop}{x:Nat->AA->Prop}{c:PC}{live jl:Ne}{i0 Hh q i1:Nat}{lo b:Int}{s0:σ}{r:β}{k:σ->Option β}
variable{M:Int->σ->List (Nat×EV)}
theorem bd(h:∀i s,(j7 O (M i s) live).get Hh=.tv (.int .i64 i)){i:Int}{s:σ}(o:∀k,((j7 O (M i s) live).get k).WF)(hi:i<b)(p:b<=9223372036854775807):Ai (i+1)=i+1:=by
 have:=o Hh;rw[h]at this;exact eY (SB this) hi p
theorem Zi{f:Int->σ->Option σ}(_:HA i0 Hh q i1 M)(h:(A1 f lo b s0).bind k=Y r)(p:∀s,(O.get s).WF)(u:Bd O q i1 b)(_:c.xl i0=Y jl)(w:O.jj live=j7 O (M lo s0) live)(A:∀i s,(j7 O (M i s) live).get Hh=.tv (.int .i64 i))
  (B:∀i s r,i<b->f i s=Y r->(∀k,((j7 O (M i s) live).get k).WF)->WP S c ⟨λe=>Rn (e.jj live) (j7 O (M (Ai (i+1)) r) live),λ_ _=>False,λ_=>False⟩ (j7 O (M i s) live))
  (C:∀i s,¬i<b->WP S c ⟨λ_=>False,λj e=>j=i0/\Rn e (j7 O (M 0 s) jl),λ_=>False⟩ (j7 O (M i s) live))
  (D:∀s,k s=Y r->n (j7 O (M 0 s) jl)):WP S (.block i0 (.loop live c)) ⟨n,x,t⟩ O:=by
 obtain ⟨o,ho,h⟩:=bind_some h;have u:=u.out p;refine ZL ho (λi s=>j7 O (M i s) live) (λs=>j7 O (M 0 s) jl) w (λi s r hi hf p=>⟨PC.jr S c _ _ (B i s r hi hf p).out _ (λe he=>?_) (λ_ _ h=>h) (λ_ h=>h)⟩) (λi s hi=>⟨PC.jr S c _ _ (C i s hi).out _ (λ_ h=>h) (λj e h=>⟨h.1,h.2.out⟩) (λ_ h=>h)⟩) (D o h);have:=he.out;rw[bd A p hi u]at this;exact this
variable{kr:ρ->Option β}
theorem Q2{f:Int->σ->Option (Dt σ ρ)}{R:ρ->AA->Prop}(h:AL (AX f lo b s0) k kr=Y r)(A:b<=9223372036854775807)(B:O.jj live=j7 O (M lo s0) live)(C:∀i s,(j7 O (M i s) live).get Hh=.tv (.int .i64 i))
  (D:∀i s r,i<b->f i s=Y r->(∀k,((j7 O (M i s) live).get k).WF)->WP S c ⟨λe=>∃p,r=.next p/\Rn (e.jj live) (j7 O (M (Ai (i+1)) p) live),λj e=>j=i0/\∃p,r=.brk p/\Rn e (j7 O (M 0 p) jl),λe=>∃v,r=.ret v/\R v e⟩ (j7 O (M i s) live))
  (E:∀i s,¬i<b->WP S c ⟨λ_=>False,λj e=>j=i0/\Rn e (j7 O (M 0 s) jl),λ_=>False⟩ (j7 O (M i s) live))
  (F:∀s,k s=Y r->n (j7 O (M 0 s) jl))(G:∀v e,kr v=Y r->R v e->t e):WP S (.block i0 (.loop live c)) ⟨n,x,t⟩ O:=by
 obtain ⟨o,ho,h⟩:=Qs h;refine T5 ho (λi s=>j7 O (M i s) live) (λs=>j7 O (M 0 s) jl) R B (λi s r hi hf w=>⟨PC.jr S c _ _ (D i s r hi hf w).out _ (λe he=>?_) (λj e he=>?_) (λ_ h=>h)⟩) (λi s hi=>⟨PC.jr S c _ _ (E i s hi).out _ (λ_ h=>h) (λj e h=>⟨h.1,h.2.out⟩) (λ_ h=>h)⟩) (λs H=>F s (Tw h H)) (λv e hv=>G v e (Tx h hv))
 .obtain⟨p,u,e2⟩:=he;have e2:=e2.out;rw[bd C w hi A]at e2;exact⟨p,u,e2⟩
 .obtain⟨e0,p,u,e2⟩:=he;exact⟨e0,p,u,e2.out⟩
theorem Zl{f:Int->σ->Option (Dt σ β)}{R:β->AA->Prop}(_:HA i0 Hh q i1 M)(_:HR R)(p:R r=t)(h:AL (AX f lo b s0) k (λv=>Y v)=Y r)(u:∀s,(O.get s).WF)(w:Bd O q i1 b)(_:c.xl i0=Y jl)(A:O.jj live=j7 O (M lo s0) live)(B:∀i s,(j7 O (M i s) live).get Hh=.tv (.int .i64 i))
  (C:∀i s r,i<b->f i s=Y r->(∀k,((j7 O (M i s) live).get k).WF)->WP S c ⟨λe=>∃o,r=.next o/\Rn (e.jj live) (j7 O (M (Ai (i+1)) o) live),λj e=>j=i0/\∃o,r=.brk o/\Rn e (j7 O (M 0 o) jl),λe=>∃v,r=.ret v/\R v e⟩ (j7 O (M i s) live))
  (D:∀i s,¬i<b->WP S c ⟨λ_=>False,λj e=>j=i0/\Rn e (j7 O (M 0 s) jl),λ_=>False⟩ (j7 O (M i s) live))
  (E:∀s,k s=Y r->n (j7 O (M 0 s) jl)):WP S (.block i0 (.loop live c)) ⟨n,x,t⟩ O:=
 Q2 h (w.out u) A B C D E (λv e hv F=>by cases hv;rw[<-p];exact F)
variable{τ:Type}
theorem Zk{f:Int->σ->Option (Dt σ ρ)}{k:σ->Option (Dt τ ρ)}{r:Dt τ ρ}{R:ρ->AA->Prop}(_:HA i0 Hh q i1 M)(h:AL (AX f lo b s0) k (λv=>Y (.ret v))=Y r)(p:∀s,(O.get s).WF)(u:Bd O q i1 b)(_:c.xl i0=Y jl)(w:O.jj live=j7 O (M lo s0) live)(A:∀i s,(j7 O (M i s) live).get Hh=.tv (.int .i64 i))
  (B:∀i s r,i<b->f i s=Y r->(∀k,((j7 O (M i s) live).get k).WF)->WP S c ⟨λe=>∃o,r=.next o/\Rn (e.jj live) (j7 O (M (Ai (i+1)) o) live),λj e=>j=i0/\∃o,r=.brk o/\Rn e (j7 O (M 0 o) jl),λe=>∃v,r=.ret v/\R v e⟩ (j7 O (M i s) live))
  (C:∀i s,¬i<b->WP S c ⟨λ_=>False,λj e=>j=i0/\Rn e (j7 O (M 0 s) jl),λ_=>False⟩ (j7 O (M i s) live))
  (D:∀s,k s=Y r->n (j7 O (M 0 s) jl)):WP S (.block i0 (.loop live c)) ⟨n,x,λe=>∃v,r=.ret v/\R v e⟩ O:=
 Q2 h (u.out p) w A B C D (λv e hv E=>by cases hv;exact⟨v,rfl,E⟩)
theorem Zj{f:Int->σ->Option (Dt σ ρ)}(_:HA i0 Hh q i1 M)(h:AL (AX f lo b s0) k (λ_=>W)=Y r)(p:∀s,(O.get s).WF)(u:Bd O q i1 b)(_:c.xl i0=Y jl)(w:O.jj live=j7 O (M lo s0) live)(A:∀i s,(j7 O (M i s) live).get Hh=.tv (.int .i64 i))
  (B:∀i s r,i<b->f i s=Y r->(∀k,((j7 O (M i s) live).get k).WF)->WP S c ⟨λe=>∃o,r=.next o/\Rn (e.jj live) (j7 O (M (Ai (i+1)) o) live),λj e=>j=i0/\∃o,r=.brk o/\Rn e (j7 O (M 0 o) jl),λ_=>∃v,r=.ret v/\False⟩ (j7 O (M i s) live))
  (C:∀i s,¬i<b->WP S c ⟨λ_=>False,λj e=>j=i0/\Rn e (j7 O (M 0 s) jl),λ_=>False⟩ (j7 O (M i s) live))
  (D:∀s,k s=Y r->n (j7 O (M 0 s) jl)):WP S (.block i0 (.loop live c)) ⟨n,x,t⟩ O:=
 Q2 (R:=λ_ _=>False) h (u.out p) w A B C D (λv e hv _=>by cases hv)
theorem S8{f:σ->Option (Dt σ ρ)}{R:ρ->AA->Prop}{M:σ->List (Nat×EV)}(h:AL (DY f s0) k kr=Y r)(w:O.jj live=j7 O (M s0) live)
  (A:∀s r,f s=Y r->(∀k,((j7 O (M s) live).get k).WF)->WP S c ⟨λe=>∃p,r=.next p/\Rn (e.jj live) (j7 O (M p) live),λj e=>j=i0/\∃p,r=.brk p/\Rn e (j7 O (M p) jl),λe=>∃v,r=.ret v/\R v e⟩ (j7 O (M s) live))
  (B:∀s,k s=Y r->n (j7 O (M s) jl))(C:∀v e,kr v=Y r->R v e->t e):WP S (.block i0 (.loop live c)) ⟨n,x,t⟩ O:=by
 obtain ⟨o,ho,h⟩:=Qs h;refine bf ho (λs=>j7 O (M s) live) (λs=>j7 O (M s) jl) R w (λs r hf D=>⟨PC.jr S c _ _ (A s r hf D).out _ (λe he=>?_) (λj e he=>?_) (λ_ h=>h)⟩) (λs E=>B s (Tw h E)) (λv e hv=>C v e (Tx h hv))
 .obtain⟨p,u,e2⟩:=he;exact⟨p,u,e2.out⟩
 .obtain⟨e0,p,u,e2⟩:=he;exact⟨e0,p,u,e2.out⟩
theorem cJ{f:σ->Option (Dt σ β)}{R:β->AA->Prop}{M:σ->List (Nat×EV)}(_:HW i0 M)(_:HR R)(p:R r=t)(h:AL (DY f s0) k (λv=>Y v)=Y r)(_:c.xl i0=Y jl)(u:O.jj live=j7 O (M s0) live)
  (w:∀s r,f s=Y r->(∀k,((j7 O (M s) live).get k).WF)->WP S c ⟨λe=>∃o,r=.next o/\Rn (e.jj live) (j7 O (M o) live),λj e=>j=i0/\∃o,r=.brk o/\Rn e (j7 O (M o) jl),λe=>∃v,r=.ret v/\R v e⟩ (j7 O (M s) live))
  (A:∀s,k s=Y r->n (j7 O (M s) jl)):WP S (.block i0 (.loop live c)) ⟨n,x,t⟩ O:=
 S8 h u w A (λv e hv B=>by cases hv;rw[<-p];exact B)
theorem cI{f:σ->Option (Dt σ ρ)}{k:σ->Option (Dt τ ρ)}{r:Dt τ ρ}{R:ρ->AA->Prop}{M:σ->List (Nat×EV)}(_:HW i0 M)(h:AL (DY f s0) k (λv=>Y (.ret v))=Y r)(_:c.xl i0=Y jl)(p:O.jj live=j7 O (M s0) live)
  (u:∀s r,f s=Y r->(∀k,((j7 O (M s) live).get k).WF)->WP S c ⟨λe=>∃o,r=.next o/\Rn (e.jj live) (j7 O (M o) live),λj e=>j=i0/\∃o,r=.brk o/\Rn e (j7 O (M o) jl),λe=>∃v,r=.ret v/\R v e⟩ (j7 O (M s) live))
  (w:∀s,k s=Y r->n (j7 O (M s) jl)):WP S (.block i0 (.loop live c)) ⟨n,x,λe=>∃v,r=.ret v/\R v e⟩ O:=
 S8 h p u w (λv e hv A=>by cases hv;exact⟨v,rfl,A⟩)
theorem cH{f:σ->Option (Dt σ ρ)}{M:σ->List (Nat×EV)}(_:HW i0 M)(h:AL (DY f s0) k (λ_=>W)=Y r)(_:c.xl i0=Y jl)(p:O.jj live=j7 O (M s0) live)
  (u:∀s r,f s=Y r->(∀k,((j7 O (M s) live).get k).WF)->WP S c ⟨λe=>∃o,r=.next o/\Rn (e.jj live) (j7 O (M o) live),λj e=>j=i0/\∃o,r=.brk o/\Rn e (j7 O (M o) jl),λ_=>∃v,r=.ret v/\False⟩ (j7 O (M s) live))
  (w:∀s,k s=Y r->n (j7 O (M s) jl)):WP S (.block i0 (.loop live c)) ⟨n,x,t⟩ O:=
 S8 (R:=λ_ _=>False) h p u w (λv e hv _=>by cases hv)
end loops
end
end Go.Sf
namespace Go.Sf
section
variable{P:Program}{S:FuncId->Fq->AZ->Prop}{K:AA->Prop}{os:List PR}{O:AA}{d:Nat}{α β:Type}{k:α->Option β}{r:β}
theorem nx{G:Prop}{x:Option α}(h:x.bind k=Y r)(g:∀a,x=Y a->k a=Y r->G):G:=by
 obtain ⟨a,o,h⟩:=bind_some h;exact g a o h
theorem fT{α:Type}{x:Option α}{k:α->Option β}{op:AB}{dd:Option Nat}(_:op.nL=4)(h:x.bind k=Y r)(g:∀a,x=Y a->k a=Y r->WO S K (⟨dd,op,W⟩::os) O):WO S K (⟨dd,op,W⟩::os) O:=nx h g
theorem fS{x:Option α}{f:FuncId}{ts:Fq}{R:α->AZ}{op:AB}{dd:Option Nat}(_:op.nL=3)(h:x.bind k=Y r)(c:Ct P x f ts R)(g:∀a,AO P f ts (R a)->k a=Y r->WO (AO P) K (⟨dd,op,W⟩::os) O):WO (AO P) K (⟨dd,op,W⟩::os) O:=nx h λa o=>g a (c.snd a o)
theorem Zb{γ:Type}{k:List γ->Option β}{n s:Nat}{y:AC}{es o:Fq}{e:γ->TV}{l m:List γ}{f:List γ->TV}(h:(Ag l m).bind k=Y r)(u:O.get s=.ow (.list n es))(w:y.val O=Y (.list n o))(he:es=l.map e)(hf:o=m.map e)(c:Fl e n f)
  (A:∀x,Ag l m=Y x->k x=Y r->WO S K os ((d,.ow (f x))::(s,.tv (.list n es))::O)):WO S K (⟨Y d,.app n (.s s) y,W⟩::os) O:=by
 obtain ⟨x,p,h⟩:=bind_some h;have:=A x p h;rw[c.eq]at this;exact YP p u w he hf rfl this
section ints
variable{k:Int->Option β}{x y:AC}{ik:IntKind}{a b:Int}
theorem cD(h:(quo a b).bind k=Y r)(p:x.val O=Y (.int ik a))(u:y.val O=Y (.int ik b))(w:∀q,quo a b=Y q->k q=Y r->WO S K os ((d,.tv (.int ik (ik.wrap q)))::O)):WO S K (⟨Y d,.bin .i .quo x y,W⟩::os) O:=nx h λq o h=>eF o p u (w q o h)
theorem cE(h:(ML a b).bind k=Y r)(p:x.val O=Y (.int ik a))(u:y.val O=Y (.int ik b))(w:∀q,ML a b=Y q->k q=Y r->WO S K os ((d,.tv (.int ik q))::O)):WO S K (⟨Y d,.bin .i .rem x y,W⟩::os) O:=nx h λq o h=>eG o p u (w q o h)
theorem bi{op:BinOp}{o:IntKind}(h:(JT ik op a b).bind k=Y r)(u:x.val O=Y (.int ik a))(A:y.val O=Y (.int o b))(B:ik=o\/op=.shl\/op=.shr)(C:∀q,JT ik op a b=Y q->k q=Y r->WO S K os ((d,.tv (.int ik q))::O)):WO S K (⟨Y d,.bin .w op x y,W⟩::os) O:=nx h λq p h=>dy p u A B (C q p h)
end ints
theorem Zr{k:ByteArray->Option β}{x y:AC}{u v:ByteArray}(h:(O3 u v).bind k=Y r)(p:x.val O=Y (.str u))(w:y.val O=Y (.str v))(A:∀q,O3 u v=Y q->k q=Y r->WO S K os ((d,.tv (.str q))::O)):WO S K (⟨Y d,.bin .s .add x y,W⟩::os) O:=nx h λq o h=>bA o p w (A q o h)
theorem bz{k:Unit->Option β}{x:AC}{n:Nat}{es:Fq}{e:α->TV}{l:List α}(h:(W4 l).bind k=Y r)(o:x.val O=Y (.list n es))(he:es=l.map e)(p:∀u,k u=Y r->WO S K os ((d,.tv (.bool T))::O)):WO S K (⟨Y d,.ni x,W⟩::os) O:=by
 obtain ⟨u,A,h⟩:=bind_some h;refine YQ o he λb w=>?_;obtain rfl:=Vd A w;exact p u h
theorem YB{x:AC}{n:Nat}{e:α->TV}{a:α}(h:Ao O (x.ev O)=Y (e a).cells)(o:nR (e a).cells.length n=X)(p:TV.agg (e a).cells=e a)(u:WO S K os ((d,.tv (e a))::O)):WO S K (⟨Y d,.mn x n,W⟩::os) O:=by
 have o:=nS o;exact YR h (by rw[o];exact nT n) (by rw[m_ U,p]) u
theorem b6{s n:Nat}{cs:List AI}{e:α->TV}{a:α}(h:O.get s=.bx cs)(p:cs.map (·.t)=(e a).cells)(o:nR (e a).cells.length n=X)(u:TV.agg (e a).cells=e a)(w:WO S K os ((d,.tv (e a))::O)):WO S K (⟨Y d,.nM s n,W⟩::os) O:=by
 have o:=nS o;exact d6 h (by rw[p,o];exact nT n) (by rw[p,m_ U,u]) w
variable{v:AC}
theorem Zs{n s:Nat}{cs:List AI}{t:TV}(o:O.get s=.bx cs)(hv:v.ev O=.tv t)(p:t.cells.length=n)(h:nR n cs.length=X)(u:WO S K os ((s,.bx (t.cells.map (⟨T,·⟩)))::O)):WO S K (⟨W,.mh n s v,W⟩::os) O:=by
 have h:=nS h;refine eJ o hv p (by rw[nU,h];exact nT _) ?_ u;rw[List.take_zero,nU,h,List.drop_length,List.append_nil,List.nil_append]
theorem Zo{x:AC}{n:Nat}{e:α->TV}{a:α}(h:Ao O (x.ev O)=Y (((e a).cells.map λt=>(⟨T,t⟩:AI)).map (·.t)))(o:nR (e a).cells.length n=X)(p:TV.agg (e a).cells=e a)(u:WO S K os ((d,.tv (e a))::O)):WO S K (⟨Y d,.mn x n,W⟩::os) O:=
 YB (by rw[h,l!];congr 1;exact l? _) o p u
def UA(n:Nat):Fq->Bool
 |[]=>X|t::ts=>nR t.cells.length n&&UA n ts
theorem SI{n:Nat}:∀{ts:Fq},UA n ts=X->∀t∈ts,t.cells.length=n
 |[],_,_,h=>b?
 |t::ts,h,u,o=>by
  simp only[UA,jP]at h;rcases m?.1 o with rfl|o
  .exact nS h.1
  .exact SI h.2 u o
variable{parts:List AC}
theorem b8{n:Nat}{ts:Fq}(h:vals O parts=Y ts)(o:UA n ts=X)(p:WO S K os ((d,.ow (.list n ts))::O)):WO S K (⟨Y d,.mE n parts,W⟩::os) O:=by
 have:=p.out;refine⟨?_⟩;simp only[wpOps,PR.wp,AB.wp,h,AS];exact⟨SI o,this⟩
variable{zero:Fq}
theorem Zc{parts:List (Nat×Nat×AC)}{ts:List (Nat×Nat×TV)}{cs:Fq}{e:α->TV}{a:α}(h:(Y a).bind k=Y r)(_:En α e)(o:CS O parts=Y ts)(p:CX zero ts=Y cs)(he:TV.agg cs=e a)(u:∀x,x=a->k x=Y r->WO S K os ((d,.tv (e x))::O)):WO S K (⟨Y d,.ma zero parts,W⟩::os) O:=by
 rw [Option.bind_some]at h;exact R6 o p he (u a rfl h)
theorem b7{x:AC}{n:Nat}{cs:Fq}{e:α->TV}{a:α}(h:(Y a).bind k=Y r)(_:En α e)(o:Ao O (x.ev O)=Y cs)(p:nV n cs.length=X)(he:TV.agg (cs.take n)=e a)(u:∀x,x=a->k x=Y r->WO S K os ((d,.tv (e x))::O)):WO S K (⟨Y d,.mn x n,W⟩::os) O:=by
 rw [Option.bind_some]at h;exact YR o p he (u a rfl h)
inductive Lm{α:Type}(e:α->TV):Fq->List α->Prop
 |nil:Lm e [] []
 |cons {t:TV} {ts:Fq} {a:α} {l:List α}:t=e a->Lm e ts l->Lm e (t::ts) (a::l)
theorem Lm.eq{e:α->TV}{ts:Fq}{l:List α}(h:Lm e ts l):ts=l.map e:=by
 induction h with
 |nil=>rfl|cons h _ o=>rw[h,o];rfl
theorem Zp{n:Nat}{ts:Fq}{e:α->TV}{l:List α}(h:vals O parts=Y ts)(o:Lm e ts l)(p:∀a,(e a).cells.length=n)(u:WO S K os ((d,.ow (.list n (l.map e)))::O)):WO S K (⟨Y d,.mE n parts,W⟩::os) O:=YS h o.eq p u
theorem Zq{n:Nat}{ts:Fq}{e:α->TV}{l:List α}{f:List α->TV}(h:vals O parts=Y ts)(p:Lm e ts l)(u:∀a,(e a).cells.length=n)(c:Fl e n f)(o:WO S K os ((d,.ow (f l))::O)):WO S K (⟨Y d,.mE n parts,W⟩::os) O:=by
 rw [c.eq]at o;exact YS h p.eq u o
theorem ZX{e:α->TV}{n:Ne}{x y:AC}{a:α}{cs:Fq}(o:x.val O=Y (e a))(p:y.val O=Y (.agg cs))[c:SD e][i:Decidable (a=c.un cs)](u:TV.agg (e a).cells=e a)(w:(e (c.un cs)).cells=cs)(A:(e a).cells.map TV.kd=n)(B:WO S K os ((d,.tv (.bool (decide (a=c.un cs))))::O)):WO S K (⟨Y d,.bin (.a n) .eql x y,W⟩::os) O:=by
 obtain ⟨C,h⟩:=c.dec a (c.un cs);have:i=C:=Subsingleton.elim _ _;subst this;rw[<-u]at o;rw[w]at h;exact Vs o p A h B
theorem ZZ{e:α->TV}{n:Ne}{x y:AC}{a:α}{cs:Fq}(o:x.val O=Y (e a))(p:y.val O=Y (.agg cs))[c:SD e][i:Decidable (a=c.un cs)](u:TV.agg (e a).cells=e a)(w:(e (c.un cs)).cells=cs)(A:(e a).cells.map TV.kd=n)(B:WO S K os ((d,.tv (.bool (!decide (a=c.un cs))))::O)):WO S K (⟨Y d,.bin (.a n) .neq x y,W⟩::os) O:=by
 obtain ⟨C,h⟩:=c.dec a (c.un cs);have:i=C:=Subsingleton.elim _ _;subst this;rw[<-u]at o;rw[w]at h;exact Vt o p A h B
theorem ZW{e:α->TV}{n:Ne}{x y:AC}{a b:α}{i:Decidable (a=b)}(o:x.val O=Y (e a))(p:y.val O=Y (e b))(c:SD e)(u:TV.agg (e a).cells=e a)(w:TV.agg (e b).cells=e b)(A:(e a).cells.map TV.kd=n)(B:WO S K os ((d,.tv (.bool (decide (a=b))))::O)):WO S K (⟨Y d,.bin (.a n) .eql x y,W⟩::os) O:=by
 obtain ⟨C,h⟩:=c.dec a b;have:i=C:=Subsingleton.elim _ _;subst this;rw[<-u]at o;rw[<-w]at p;exact Vs o p A h B
theorem ZY{e:α->TV}{n:Ne}{x y:AC}{a b:α}{i:Decidable (a=b)}(o:x.val O=Y (e a))(p:y.val O=Y (e b))(c:SD e)(u:TV.agg (e a).cells=e a)(w:TV.agg (e b).cells=e b)(A:(e a).cells.map TV.kd=n)(B:WO S K os ((d,.tv (.bool (!decide (a=b))))::O)):WO S K (⟨Y d,.bin (.a n) .neq x y,W⟩::os) O:=by
 obtain ⟨C,h⟩:=c.dec a b;have:i=C:=Subsingleton.elim _ _;subst this;rw[<-u]at o;rw[<-w]at p;exact Vt o p A h B
section calls
variable{x:Option α}{f:FuncId}{ts:Fq}{R:α->AZ}{args:List AC}
theorem bl{s:Nat}{cs:List AI}{row:Fq}(o:O.get s=.bx cs)(f:Fz cs row)(k:WO S K os ((s,.tv (.pt row))::O)):WO S K (⟨W,.nk s,W⟩::os) O:=d3 o f.h k
theorem Yk{t:α->TV}(_:HS d)(h:x.bind k=Y r)(c:Ct P x f ts R)(p:vals O args=Y ts)(u:∀a,R a=.own (t a))(w:∀a,x=Y a->k a=Y r->WO (AO P) K os ((d,.tv (t a))::O)):WO (AO P) K (⟨Y d,.call f args,W⟩::os) O:=by
 obtain ⟨a,o,h⟩:=bind_some h;have:=c.snd a o;rw[u]at this;exact ax p (aj this) (w a o h)
theorem Yj{t:α->List AI}(h:x.bind k=Y r)(c:Ct P x f ts R)(p:vals O args=Y ts)(u:∀a,R a=.kC (t a))(w:∀a,x=Y a->k a=Y r->WO (AO P) K os ((d,.tv (.agg ((t a).map λc=>c.rel.t)))::O)):WO (AO P) K (⟨Y d,.call f args,W⟩::os) O:=by
 obtain ⟨a,o,h⟩:=bind_some h;have:=c.snd a o;rw[u]at this;exact ZB p this rfl (w a o h)
theorem WU{γ:Type}{k:List γ->Option β}{x:Option (List γ)}{R:List γ->AZ}{n:Nat}{e:γ->TV}(h:x.bind k=Y r)(c:Ct P x f ts R)(p:O.je d=X)(u:vals O args=Y ts)(w:∀a,R a=.own (.list n (a.map e)))(hf:∀a,(e a).flat=X)(A:∀a,x=Y a->k a=Y r->WO (AO P) K os ((d,.xo n (a.map e))::O)):WO (AO P) K (⟨Y d,.kW f args,W⟩::os) O:=by
 obtain ⟨a,o,h⟩:=bind_some h;have:=c.snd a o;rw[w]at this;exact XK p u this rfl hf (A a o h)
theorem WT{γ:Type}{k:List γ->Option β}{x:Option (List γ)}{R:List γ->AZ}{n:Nat}{e:γ->TV}(h:x.bind k=Y r)(c:Ct P x f ts R)(p:kz O args=Y ts)(u:∀a,R a=.own (.list n (a.map e)))(hf:∀a,(e a).flat=X)(w:∀a,x=Y a->k a=Y r->WO (AO P) K os ((d,.ow (.list n (a.map e)))::O)):WO (AO P) K (⟨Y d,.k9 f args,W⟩::os) O:=by
 obtain ⟨a,o,h⟩:=bind_some h;have:=c.snd a o;rw[u]at this;exact XH p this rfl rfl hf (w a o h)
variable{us:α->Fq}
theorem Yi{i s:Nat}{cs:List AI}{cs':α->List AI}{e:α->EV}(h:x.bind k=Y r)(c:Ct P x f ts R)(p:(args[i]?).bind (·.place O)=Y (s,0))(u:O.get s=.bx cs)(w:O.lV s W=X)(hd:d≠s)(A:Ch O i args=Y ts)(B:∀a,R a=.bo cs (cs' a) i (us a))(he:∀a,EV.mQ (us a)=e a)(C:∀a,x=Y a->k a=Y r->WO (AO P) K os ((d,e a)::(s,.bx (cs' a))::O)):WO (AO P) K (⟨Y d,.kD f args i,W⟩::os) O:=by
 obtain ⟨a,o,h⟩:=bind_some h;have:=c.snd a o;rw[B]at this;exact ZA p u w hd A this (he a) (C a o h)
end calls
inductive GS(g:Nat)(b:Bool):Ne->List PR->Ne->Nat->Prop
 |done {acc:Ne} {os:List PR}:GS g b acc os [] 0
 |step {acc js:Ne} {d n:Nat} {op:AB} {os:List PR}:GS g b (d::acc) os js n->GS g b acc (⟨Y d,op,Y (g,b)⟩::os) (d::js) (n+1)
 |nest {acc js:Ne} {d n g':Nat} {b':Bool} {op:AB} {os:List PR}:acc.contains g'=X->GS g b (d::acc) os js n->GS g b acc (⟨Y d,op,Y (g',b')⟩::os) (d::js) (n+1)
def ZS:Ne->AA->(AA->Prop)->Prop
 |[],z,K=>K z|k::ks,z,K=>∃j,ZS ks ((k,j)::z) K
structure Gj(js:Ne)(d:Nat)(v:TV)(z e:AA):Prop where
 of::out:ZS js z λy=>e=(d,.tv v)::y
theorem VX{d:Nat}{v:TV}{z e:AA}(h:e=(d,.tv v)::z):Gj [] d v z e:=⟨h⟩
variable{ks:Ne}
theorem Ys{k d:Nat}{v:TV}{j:EV}{z e:AA}(h:Gj ks d v ((k,j)::z) e):Gj (k::ks) d v z e:=⟨j,h.out⟩
theorem Zm{js:Ne}{v:TV}{z:AA}(h:Gj js d v z O):WO S (Gj js d v z) [] O:=⟨h⟩
structure RA(js:Ne)(z:AA)(Q:AA->Prop):Prop where
 of::out:∀(d:Nat)(v:TV)(e:AA),Gj js d v z e->∃y,e=(d,.tv v)::y/\Q y
theorem Yt{z:AA}{Q:AA->Prop}(h:Q z):RA [] z Q:=⟨λ_ _ _ he=>⟨z,he.out,h⟩⟩
theorem Wp{k:Nat}{z:AA}{Q:AA->Prop}(h:∀j,RA ks ((k,j)::z) Q):RA (k::ks) z Q:=⟨λd v e he=>by
 obtain ⟨j,o⟩:=he.out;exact(h j).out d v e ⟨o⟩⟩
theorem dN{dd:Option Nat}{op:AB}{g:Nat}{b q:Bool}(h:O.get g=.tv (.bool q))(o:SF g b q)(p:WO S K (⟨dd,op,W⟩::os) O):WO S K (⟨dd,op,Y (g,b)⟩::os) O:=gC h o.out p
theorem bu{ρ:Type}{dd:Option Nat}{op:AB}{g:Nat}{q:Bool}{u v:Option ρ}{r:ρ}(w:O.get g=.tv (.bool q))(h:(if q=X then u else v)=Y r)
  (o:SF g X q->q=X->u=Y r->WO S K (⟨dd,op,Y (g,X)⟩::os) O)(p:Pm g X q->q=T->v=Y r->WO S K (⟨dd,op,Y (g,X)⟩::os) O):WO S K (⟨dd,op,Y (g,X)⟩::os) O:=by
 cases q with
 |true=>exact o ⟨rfl⟩ rfl h|false=>exact p ⟨by rfl⟩ rfl h
theorem br{ρ:Type}{dd:Option Nat}{op:AB}{g:Nat}{q:Bool}{u v:Option ρ}{r:ρ}(w:O.get g=.tv (.bool q))(h:(if q=X then u else v)=Y r)
  (o:Pm g T q->q=X->u=Y r->WO S K (⟨dd,op,Y (g,T)⟩::os) O)(p:SF g T q->q=T->v=Y r->WO S K (⟨dd,op,Y (g,T)⟩::os) O):WO S K (⟨dd,op,Y (g,T)⟩::os) O:=by
 cases q with
 |true=>exact o ⟨by rfl⟩ rfl h|false=>exact p ⟨rfl⟩ rfl h
theorem aG{op:AB}{g:Nat}{b q:Bool}(h:O.get g=.tv (.bool q))(o:Pm g b q)(p:WO S K os ((d,.sk)::O)):WO S K (⟨Y d,op,Y (g,b)⟩::os) O:=dM h o.out p
theorem UP{d n:Nat}{js:Ne}{v:TV}(h:WO S (Gj js d v O) (os.take n) O)(o:RA js O λe=>WO S K (os.drop n) ((d,.tv v)::e)):WO S K os O:=
 dL n (Gj js d v) h λe he=>by
  obtain ⟨y,rfl,p⟩:=o.out d v e he;exact p
section groups
variable{g n:Nat}{js:Ne}{c:Bool}{dd gd:Option Nat}{op:AB}{x y z:AC}{gg:Option (Nat×Bool)}
variable{θ:K1}{os':List PR}
theorem bw{k:Bool->Option β}(h:(if c=X then θ else Y T).bind k=Y r)(_:GS g X [] os js n)(A:O.get g=.tv (.bool c))(_:os[n]?=Y ⟨Y d,.pick x y z,gg⟩)
  (p:∀v,SF g X c->c=X->θ=Y v->WO S (Gj js d (.bool v) O) (os.take (n+1)) O)(u:∀v,Pm g X c->c=T->Y T=Y v->WO S (Gj js d (.bool v) O) (os.take (n+1)) O)
  (w:∀v,k v=Y r->RA js O λe=>WO S K (os.drop (n+1)) ((d,.tv (.bool v))::e))(ho:os=⟨dd,op,Y (g,X)⟩::os'):WO S K (⟨dd,op,Y (g,X)⟩::os') O:=by
 obtain ⟨v,hv,h⟩:=bind_some h;rw[<-ho];refine UP (n:=n+1) (v:=.bool v) ?_ (w v h);rcases Bool.eq_false_or_eq_true c with o|o
 .exact p v ⟨o⟩ o (QW o hv)
 .exact u v ⟨by rw[o];rfl⟩ o (QV o hv)
theorem bv{k:Bool->Option β}(h:(if c=X then Y X else θ).bind k=Y r)(_:GS g T [] os js n)(A:O.get g=.tv (.bool c))(_:os[n]?=Y ⟨Y d,.pick x y z,gg⟩)
  (p:∀v,SF g T c->c=T->θ=Y v->WO S (Gj js d (.bool v) O) (os.take (n+1)) O)(u:∀v,Pm g T c->c=X->Y X=Y v->WO S (Gj js d (.bool v) O) (os.take (n+1)) O)
  (w:∀v,k v=Y r->RA js O λe=>WO S K (os.drop (n+1)) ((d,.tv (.bool v))::e))(ho:os=⟨dd,op,Y (g,T)⟩::os'):WO S K (⟨dd,op,Y (g,T)⟩::os') O:=by
 obtain ⟨v,hv,h⟩:=bind_some h;rw[<-ho];refine UP (n:=n+1) (v:=.bool v) ?_ (w v h);rcases Bool.eq_false_or_eq_true c with o|o
 .exact u v ⟨by rw[o];rfl⟩ o (QW o hv)
 .exact p v ⟨o⟩ o (QV o hv)
theorem bn{e:Bool}(ho:os=⟨dd,op,Y (g,X)⟩::os')(_:GS g X [] os js n)(u:O.get g=.tv (.bool c))(_:os[n]?=Y ⟨Y d,.pick x y z,gg⟩)
  (h:SF g X c->c=X->WO S (Gj js d (.bool e) O) (os.take (n+1)) O)(o:Pm g X c->c=T->WO S (Gj js d (.bool T) O) (os.take (n+1)) O)
  (p:RA js O λz=>WO S K (os.drop (n+1)) ((d,.tv (.bool (c&&e)))::z)):WO S K (⟨dd,op,Y (g,X)⟩::os') O:=by
 rw [<-ho];refine UP (n:=n+1) (v:=.bool (c&&e)) ?_ p;cases c
 .exact o ⟨rfl⟩ rfl
 .exact h ⟨rfl⟩ rfl
theorem bm{e:Bool}(ho:os=⟨dd,op,Y (g,T)⟩::os')(_:GS g T [] os js n)(u:O.get g=.tv (.bool c))(_:os[n]?=Y ⟨Y d,.pick x y z,gg⟩)
  (h:SF g T c->c=T->WO S (Gj js d (.bool e) O) (os.take (n+1)) O)(o:Pm g T c->c=X->WO S (Gj js d (.bool X) O) (os.take (n+1)) O)
  (p:RA js O λz=>WO S K (os.drop (n+1)) ((d,.tv (.bool (c||e)))::z)):WO S K (⟨dd,op,Y (g,T)⟩::os') O:=by
 rw [<-ho];refine UP (n:=n+1) (v:=.bool (c||e)) ?_ p;cases c
 .exact h ⟨rfl⟩ rfl
 .exact o ⟨rfl⟩ rfl
end groups
variable{qi:Option Nat}{j:Int}
theorem cK{x:AC}{q n i:Nat}{es row:Fq}{e:α->TV}{l:List α}{a:α}{t:TV}(h:x.ev O=.lp q qi (j.toNat*n+i))(o:O.jT q qi=Y (n,es))(he:es=l.map e)(p:∀a,(e a).cells.length=n)(u:idx l j=Y a)(hi:nW i n=X)(w:(e a).cells=row)(A:row[i]?=Y t)
  (B:WO S K os ((d,.tv t)::O)):WO S K (⟨Y d,.nv x,W⟩::os) O:=YV h o he p u rfl hi w A B
theorem Zu{x:AC}{q n:Nat}{es row:Fq}{e:α->TV}{l:List α}{a:α}{t:TV}(h:x.ev O=.lp q qi (j.toNat*n))(o:O.jT q qi=Y (n,es))(he:es=l.map e)(p:∀a,(e a).cells.length=n)(u:idx l j=Y a)(hi:nW 0 n=X)(w:(e a).cells=row)(A:row[0]?=Y t)
  (B:WO S K os ((d,.tv t)::O)):WO S K (⟨Y d,.nv x,W⟩::os) O:=YV (i:=0) h o he p u rfl hi w A B
theorem cL{x:AC}{q n i:Nat}{es row:Fq}{e:α->TV}{l:List α}{a:α}{t:TV}(h:x.ev O=.lp q W (j.toNat*n+i))(o:O.get q=.xo n es)(he:es=l.map e)(p:∀a,(e a).cells.length=n)(u:idx l j=Y a)(hi:nW i n=X)(w:(e a).cells=row)(A:row[i]?=Y t)
  (B:WO S K os ((d,.tv t)::O)):WO S K (⟨Y d,.nu x,W⟩::os) O:=YW h o he p u rfl hi w A B
theorem Zv{x:AC}{q n:Nat}{es row:Fq}{e:α->TV}{l:List α}{a:α}{t:TV}(h:x.ev O=.lp q W (j.toNat*n))(o:O.get q=.xo n es)(he:es=l.map e)(p:∀a,(e a).cells.length=n)(u:idx l j=Y a)(hi:nW 0 n=X)(w:(e a).cells=row)(A:row[0]?=Y t)
  (B:WO S K os ((d,.tv t)::O)):WO S K (⟨Y d,.nu x,W⟩::os) O:=YW (i:=0) h o he p u rfl hi w A B
variable{v:AC}
theorem Zx{γ:Type}{s:Nat}{q n i:Nat}{env':AA}{es:Fq}{e:α->TV}{g:γ->TV}{l:List α}{a:α}{b:γ}{f:α->γ->α}(_:HX s f)(h:(AC.s s).ev O=.lp q qi (j.toNat*n+i))(p:O.jT q qi=Y (n,es))(hv:v.ev O=.tv (g b))(he:es=l.map e)(u:∀a,(e a).cells.length=n)(w:idx l j=Y a)(hi:nW i n=X)(A:(g b).cells=[g b])
  (B:(e (f a b)).cells=(e a).cells.set i (g b))(o:O.kj q qi n ((BX l j (f a b)).map e)=env')(C:WO S K os env'):WO S K (⟨W,.mf (.s s) v 1,W⟩::os) O:=YX h p hv he u w rfl hi A B rfl o C
theorem Zw{x v:AC}{q n:Nat}{env':AA}{es:Fq}{e:α->TV}{l:List α}{a b:α}(h:x.ev O=.lp q qi (j.toNat*n))(p:O.jT q qi=Y (n,es))(hv:v.ev O=.tv (e b))(he:es=l.map e)(u:∀a,(e a).cells.length=n)(w:idx l j=Y a)(hi:nW 0 n=X)(A:(e b).cells=[e b])
  (B:(e b).cells=(e a).cells.set 0 (e b))(o:O.kj q qi n ((BX l j b).map e)=env')(C:WO S K os env'):WO S K (⟨W,.mf x v 1,W⟩::os) O:=YX (i:=0) h p hv he u w rfl hi A B rfl o C
end
end Go.Sf
namespace Go.Sf
section
variable{S:FuncId->Fq->AZ->Prop}{K:AA->Prop}{os:List PR}{O:AA}{d:Nat}
variable{j:Int}
theorem eD{α:Type}{x:AC}{s o:Nat}{es:Fq}{e:α->TV}{l:List α}{a:α}(h:x.ev O=.nh s o (.el j.toNat))(u:O.nat s o=Y es)(he:es=l.map e)(w:idx l j=Y a)(k:WO S K os ((d,.nh s o (.rw j.toNat))::O)):WO S K (⟨Y d,.ng x,W⟩::os) O:=by
 replace k:=k.out;refine⟨?_⟩;subst he;obtain⟨B,C,A⟩:=DV w;have p:j.toNat<l.length:=(nc.1 A).1;simp only[wpOps,PR.wp,AB.wp,h,u,AS];exact⟨k_,k⟩
variable{j2:Int}
theorem eE{α:Type}{x v:AC}{s o:Nat}{es:Fq}{env':AA}{e:List α->TV}{e2:α->TV}{l:List (List α)}{m:List α}{A b:α}{t:TV}(h:x.ev O=.nh s o (.rp j.toNat j2.toNat))(B:O.nat s o=Y es)(hv:v.ev O=.tv t)(he:es=l.map e)(w:∀m,e m=.list 1 (m.map e2))(C:idx l j=Y m)(D:idx m j2=Y A)(E:t=e2 b)(F:t.cells=[t])(G:t.flat=X)
  (p:O.m9 s o ((BX l j (BX m j2 b)).map e)=env')(k:WO S K os env'):WO S K (⟨W,.mK x v,W⟩::os) O:=by
 replace k:=k.out;refine⟨?_⟩;subst he p E;obtain⟨J,L,H⟩:=DV C;obtain⟨m0,m1,I⟩:=DV D;have u:j2.toNat<m.length:=(nc.1 I).1;simp only[wpOps,PR.wp,AB.wp,h,B,hv,AS];refine⟨m.map e2,by rw[nQ,H];simp[w],k!,F,G,?_⟩;have:(l.map e).set j.toNat (.list 1 ((m.map e2).set j2.toNat (e2 b)))=(BX l j (BX m j2 b)).map e:=by
  simp only[BX,List.map_set,w]
 rw [this];exact k
end
section
variable{P:Program}{K:AA->Prop}{os:List PR}{O:AA}{d:Nat}{α β γ ρ:Type}{f:FuncId}{args:List AC}{ts:Fq}{R:α->AZ}{x:Option α}{k:α->Option ρ}{r:ρ}
variable{j:Int}
theorem b9{x i:AC}{s o:Nat}{es:Fq}{e:α->TV}{l:List α}{ik:IntKind}{S:FuncId->Fq->AZ->Prop}(h:(idx l j).bind k=Y r)(u:x.ev O=.nh s o .hd)(w:O.nat s o=Y es)(hi:i.val O=Y (.int ik j))(he:es=l.map e)
  (A:∀a,idx l j=Y a->k a=Y r->WO S K os ((d,.nh s o (.el j.toNat))::O)):WO S K (⟨Y d,.mL x i,W⟩::os) O:=by
 obtain ⟨a,p,h⟩:=bind_some h;have B:=(A a p h).out;refine⟨?_⟩;subst he;obtain⟨D,F,E⟩:=DV p;have C:j.toNat<l.length:=(nc.1 E).1;simp only[wpOps,PR.wp,AB.wp,u,w,hi,AS];exact⟨D,by simp only[ec];omega,B⟩
variable{e2:α->TV}{j2:Int}
theorem cA{x i:AC}{s o:Nat}{es:Fq}{e:List α->TV}{l:List (List α)}{m:List α}{ik:IntKind}{S:FuncId->Fq->AZ->Prop}(h:(idx m j2).bind k=Y r)(u:x.ev O=.nh s o (.rw j.toNat))(w:O.nat s o=Y es)(hi:i.val O=Y (.int ik j2))(he:es=l.map e)(A:∀m,e m=.list 1 (m.map e2))(B:idx l j=Y m)
  (C:∀a,idx m j2=Y a->k a=Y r->WO S K os ((d,.nh s o (.rp j.toNat j2.toNat))::O)):WO S K (⟨Y d,.mL x i,W⟩::os) O:=by
 obtain ⟨b,p,h⟩:=bind_some h;have D:=(C b p h).out;refine⟨?_⟩;subst he;obtain⟨H,I,F⟩:=DV B;obtain⟨m0,m1,G⟩:=DV p;have E:j2.toNat<m.length:=(nc.1 G).1;simp only[wpOps,PR.wp,AB.wp,u,w,hi,AS];exact⟨m0,m.map e2,by rw[nQ,F];simp[A],by simp only[ec];omega,D⟩
theorem Za{mm q s o:Nat}{es w:Fq}{cs cs':List AI}{n:Nat}{e:β->TV}{l:List β}{m:β}{k:List β->Option ρ}{S:FuncId->Fq->AZ->Prop}(h:(Ag l [m]).bind k=Y r)(A:O.get mm=.nh s o .hd)(B:O.get q=.x1 n w)(C:O.get s=.bx cs)(D:O.nat s o=Y es)(he:es=l.map e)(hf:TV.list n w=e m)(u:O.je d=X)(hd:d≠mm/\d≠q/\mm≠q)(E:cs.set o ⟨T,.undef⟩=cs')
  (F:∀a,Ag l [m]=Y a->k a=Y r->WO S K os ((d,.xn (a.map e))::(s,.bx cs')::(mm,.undef)::(q,.undef)::O)):WO S K (⟨Y d,.k7 mm q,W⟩::os) O:=by
 obtain ⟨a,p,h⟩:=bind_some h;have H:=(F a p h).out;refine⟨?_⟩;subst he E;unfold Ag at p;split at p
 next G=>cases p;simp only[wpOps,PR.wp,AB.wp,A,B,C,D,AS];refine⟨by simpa using G,⟨u,hd⟩,?_⟩;rw[hf];simpa[AA.put]using H
 .cases p
theorem WS{u:α->List β}{v:α->List γ}{w A:Nat}{p:β->TV}{e2:γ->TV}(h:x.bind k=Y r)(c:Ct P x f ts R)(E:vals O args=Y ts)(F:∀a,R a=.kC [⟨X,.list w ((u a).map p)⟩,⟨X,.list A ((v a).map e2)⟩])(G:∀a,(p a).flat=X)(H:∀a,(e2 a).flat=X)
  (I:∀a,x=Y a->k a=Y r->WO (AO P) K os ((d,.kC [⟨X,.xl w ((u a).map p)⟩,⟨X,.xl A ((v a).map e2)⟩])::O)):WO (AO P) K (⟨Y d,.kS f args,W⟩::os) O:=by
 obtain ⟨a,D,h⟩:=bind_some h;have C:=c.snd a D;rw[F]at C;have J:=(I a D h).out;have o:∀{τ:Type}(e:τ->TV)(l:List τ),(∀a,(e a).flat=X)->TV.ki (l.map e)=X:=by
  intro τ e l he
  induction l with
  |nil=>rfl|cons a l L=>simp[TV.ki,he,L]
 refine ⟨?_⟩;simp only[wpOps,PR.wp,AB.wp,E,AS];refine⟨_,C,λc B=>?_,λ_=>J⟩;simp only[m?,List.not_mem_nil,or_false]at B;rcases B with rfl|rfl
 .exact⟨_,_,rfl,o _ _ G⟩
 .exact⟨_,_,rfl,o _ _ H⟩
inductive NL:List AI->List AI->Prop
 |nil {xs:List AI}:xs=[]->NL xs []
 |cons {xs ys zs:List AI} {o:Bool} {t:TV}:xs=⟨o,t⟩::ys->NL ys zs->NL xs (⟨o,t⟩::zs)
theorem NL.eq{xs o:List AI}(h:NL xs o):xs=o:=by
 induction h with
 |nil h=>exact h|cons h _ p=>rw[h,p]
theorem cG{S:FuncId->Fq->AZ->Prop}{K:AA->Prop}{os:List PR}{O:AA}{n s h:Nat}{x v:AC}{cs cs':List AI}{t:TV}(o:x.place O=Y (s,h))(p:O.get s=.bx cs)(hv:v.ev O=.tv t)(u:t.cells.length=n)(w:nV (h+n) cs.length=X)(A:NL (cs.take h++t.cells.map (⟨T,·⟩)++cs.drop (h+n)) cs')
  (k:WO S K os ((s,.bx cs')::O)):WO S K (⟨W,.st n x v,W⟩::os) O:=gW o p hv u w A.eq k
theorem Zt{S:FuncId->Fq->AZ->Prop}{K:AA->Prop}{os:List PR}{O:AA}{s h q:Nat}{x:AC}{cs cs':List AI}{t:TV}(o:x.place O=Y (s,h))(p:O.get s=.bx cs)(hv:O.get q=.ow t)(u:q≠s)(w:nW h cs.length=X)(A:NL (cs.set h ⟨X,t⟩) cs')
  (k:WO S K os ((s,.bx cs')::(q,.tv t)::O)):WO S K (⟨W,.st 1 x (.s q),W⟩::os) O:=eK o p hv u w A.eq k
theorem RK:∀(ts:List (Nat×Nat×TV))(done rest:Fq),P6 done.length ts=X->(EI ts).length<=rest.length->CX (done++rest) ts=Y (done++(EI ts++rest.drop (EI ts).length))
 |[],done,rest,_,h=>by simp[CX,EI]|(i,n,t)::r,done,rest,p,h=>by
  simp only[P6,jP,Nat.beq_eq]at p;obtain⟨⟨rfl,o⟩,A⟩:=p;simp only[EI,bq]at h;have u:n<=rest.length:=U
  simp only[CX];rw[ae ⟨o,by rw[bq];omega⟩];have w:done++rest=done++(rest.take n++rest.drop n):=by rw[List.take_append_drop]
  rw [w,Oh t.cells done (rest.take n) (rest.drop n) (by rw[ca];omega),<-eo];rw[RK r (done++t.cells) (rest.drop n) (by rw[bq,o];exact A) (by rw[List.length_drop];omega)];simp[EI,List.drop_drop,o]
inductive NT:Fq->Fq->Prop
 |nil {xs:Fq}:xs=[]->NT xs []
 |cons {xs ys zs:Fq} {t:TV}:xs=t::ys->NT ys zs->NT xs (t::zs)
theorem NT.eq{xs o:Fq}(h:NT xs o):xs=o:=by
 induction h with
 |nil h=>exact h|cons h _ p=>rw[h,p]
variable{zero:Fq}
theorem Zd{S:FuncId->Fq->AZ->Prop}{K:AA->Prop}{os:List PR}{O:AA}{d:Nat}{parts:List (Nat×Nat×AC)}{ts:List (Nat×Nat×TV)}{cs:Fq}(h:CS O parts=Y ts)(o:P6 0 ts=X)(p:nV (EI ts).length zero.length=X)(u:NT (EI ts++zero.drop (EI ts).length) cs)(k:WO S K os ((d,.tv (.agg cs))::O)):WO S K (⟨Y d,.ma zero parts,W⟩::os) O:=
 R6 h (by have:=RK ts [] zero o (Nat.le_of_ble_eq_true p);simpa using this) (by rw[u.eq]) k
structure HY{α A B C:Type}(n:Nat)(f:A->B->C->α)(g1:A->TV)(g2:B->TV)(g3:C->TV):Prop where
variable{v:AC}{qi:Option Nat}
theorem Zy{S:FuncId->Fq->AZ->Prop}{K:AA->Prop}{os:List PR}{O:AA}{α A B C:Type}{f:A->B->C->α}{o:Nat}{q n:Nat}{env':AA}{es cs cs':Fq}{e:α->TV}{l:List α}{a:α}{E:A}{F:B}{G:C}{p:A->TV}{u:B->TV}{w:C->TV}(_:HY o f p u w)(h:(AC.s o).ev O=.lp q qi (j.toNat*n))(H:O.jT q qi=Y (n,es))(he:es=l.map e)(I:∀a,(e a).cells.length=n)(hv:v.ev O=.tv (.agg cs))(J:NT cs cs')(L:cs'=[p E,u F,w G])(hf:∀a b c,TV.agg [p a,u b,w c]=e (f a b c))(N:idx l j=Y a)(ε:nW 0 n=X)
  (D:O.kj q qi n ((BX l j (f E F G)).map e)=env')(k:WO S K os env'):WO S K (⟨W,.mf (.s o) v n,W⟩::os) O:=YY h H (by rw[hv,J.eq,L,hf]) he I N ε D k
theorem cM{S:FuncId->Fq->AZ->Prop}{α:Type}{x v:AC}{q n:Nat}{env':AA}{es:Fq}{e:α->TV}{l:List α}{a b:α}(h:x.ev O=.lp q qi (j.toNat*n))(p:O.jT q qi=Y (n,es))(he:es=l.map e)(u:∀a,(e a).cells.length=n)(hv:v.ev O=.tv (e b))(w:idx l j=Y a)(A:nW 0 n=X)
  (o:O.kj q qi n ((BX l j b).map e)=env')(k:WO S K os env'):WO S K (⟨W,.mf x v n,W⟩::os) O:=YY h p hv he u w A o k
end
section
variable{S:FuncId->Fq->AZ->Prop}{K:AA->Prop}{os:List PR}{O:AA}{d:Nat}
theorem eA(k:∀b,WO S K os ((d,.mx (.mp b []))::O)):WO S K (⟨Y d,.mJ,W⟩::os) O:=
 ⟨λb=>(k b).out⟩
theorem eC{s:Nat}{last:Option ((Int×Int)×Int)}{o:Be}(h:O.get s=.mx (.mi last o))(hd:d≠s)(w:o=[]->WO S K os ((d,.tp [.bool T])::O))(A:∀p u,o.Perm (p::u)->WO S K os ((d,.tp [.bool X,LR p.1,.int .i64 p.2])::(s,.mx (.mi (Y p) u))::O)):WO S K (⟨Y d,.nC s,W⟩::os) O:=by
 refine ⟨?_⟩;simp only[wpOps,PR.wp,AB.wp,h];exact⟨hd,λe=>(w e).out,λp t B=>(A p t B).out⟩
variable{kvs:Be}
theorem XJ{f:FuncId}{args:List AC}{ts us:Fq}(hv:vals O args=Y ts)(h:S f ts (.mpr kvs us))(k:∀b,WO S K os ((d,.mx (.tm b kvs us))::O)):WO S K (⟨Y d,.kX f args,W⟩::os) O:=by
 refine ⟨?_⟩;simp only[wpOps,PR.wp,AB.wp,hv,AS];exact .inr ⟨kvs,us,h,λ_ b=>(k b).out⟩
theorem XI{f:FuncId}{args:List AC}{ts us:Fq}(hv:vals O args=Y ts)(h:S f ts (.tp us))(k:WO S K os ((d,.tp us)::O)):WO S K (⟨Y d,.kX f args,W⟩::os) O:=by
 refine ⟨?_⟩;simp only[wpOps,PR.wp,AB.wp,hv,AS];exact .inl ⟨us,h,λ_=>k.out⟩
theorem F6{ss:Ne}{s:Nat}{r:AA}{m:MX}(h:O.get s=.mx m)(k:Kp O ss r):Kp O (s::ss) ((s,.mx m)::r):=Hz h k
theorem dk{ss:Ne}{s:Nat}{r:AA}{q:List (Nat×EV)}{m:MX}(h:look q s=W)(o:O.get s=.mx m)(k:Nm O q ss r):Nm O q (s::ss) ((s,.mx m)::r):=J2 h o k
end
def H4(r:Be×Int):AZ:=if r.2=0 then .mpr r.1 [.int .i64 r.2]else .tp [.undef,.int .i64 r.2]
structure eb(o:Nat):Prop where
variable{kvs:Be}
theorem Y3{h:List RV}{O:AA}{e:Int}(he:(!decide (e=0))=X)(o:h.length≠1)(p:CM O h=Y [.undef,.int .i64 e]):Ax h (H4 (kvs,e)) O:=by
 simp only[Bool.not_eq_true',decide_eq_false_iff_not]at he;simp only[H4,az he];exact⟨o,p⟩
theorem Y4{s o b:Nat}{rs:List RV}{O:AA}(_:eb o)(h:O.get s=.tv (.lg b))(p:O.get o=.mx (.mp b kvs))(u:rs≠[])(w:CM O rs=Y [.int .i64 0]):Ax (.tmp s::rs) (H4 (kvs,0)) O:=by
 simp only[H4,if_true,Ax];exact⟨u,⟨b,o,h,p⟩,w⟩
section
variable{P:Program}{α β:Type}{K:AA->Prop}{os:List PR}{O:AA}{d:Nat}{x:Option α}{k:α->Option β}{r:β}{f:FuncId}{args:List AC}{ts:Fq}{R:α->AZ}
variable{us:α->Fq}
theorem WR{i s:Nat}{cs:List AI}{q:α->Bool}{u v:α->List AI}{e:α->EV}(h:x.bind k=Y r)(c:Ct P x f ts R)(A:(args[i]?).bind (·.place O)=Y (s,0))(B:O.get s=.bx cs)(C:O.lV s W=X)(hd:d≠s)(D:Ch O i args=Y ts)(E:∀a,R a=.bo cs (if q a=X then u a else v a) i (us a))(he:∀a,EV.mQ (us a)=e a)
  (F:∀a,x=Y a->q a=X->k a=Y r->WO (AO P) K os ((d,e a)::(s,.bx (u a))::O))(G:∀a,x=Y a->q a=T->k a=Y r->WO (AO P) K os ((d,e a)::(s,.bx (v a))::O)):WO (AO P) K (⟨Y d,.kD f args i,W⟩::os) O:=by
 refine Yi h c A B C hd D E he (λa o p=>?_);cases w:q a with
 |true=>rw[ae rfl];exact F a o w p|false=>rw[az V];exact G a o w p
end
section
variable{S:FuncId->Fq->AZ->Prop}{a b:PC}{O:AA}
variable{Q:Q}
theorem Zf{c:AC}{β:Type}{q:Bool}{u v:Option β}{r:β}(p:c.val O=Y (.bool q))(h:(if q=X then u else v)=Y r)(o:q=X)(k:u=Y r->WP S a Q O):WP S (.cond c a b) Q O:=
 L7 p o (k (QW o h))
theorem Ze{c:AC}{β:Type}{q:Bool}{u v:Option β}{r:β}(p:c.val O=Y (.bool q))(h:(if q=X then u else v)=Y r)(o:q=T)(k:v=Y r->WP S b Q O):WP S (.cond c a b) Q O:=
 L6 p o (k (QV o h))
end
end Go.Sf
set_option maxRecDepth 100000
namespace Go.Sf
theorem Hk{P:Prop}(p:P:=by first|exact rfl|exact Ml.eq):P:=p
theorem YC{P:Prop}(p:P:=by
 first|exact fN rfl Hk|exact fM rfl|exact cP rfl rfl Hk|exact cO rfl rfl|exact fP rfl|exact fO rfl Hk|exact fR rfl rfl|exact fQ|exact fL a?):P:=p
theorem YI{P:Prop}(p:P:=by
 repeat (first|apply GS.step|(apply GS.nest;exact rfl))
 exact GS.done):P:=p
theorem eu{P:Prop}(p:P:=by
 repeat (apply NL.cons;exact rfl)
 exact NL.nil rfl):P:=p
theorem ew{P:Prop}(p:P:=by
 repeat (apply NT.cons;exact rfl)
 exact NT.nil rfl):P:=p
theorem g7{P:Prop}(p:P:=by
 repeat (first|exact aX|(apply Y1 (λ_=>rfl)))):P:=p
theorem en{P:Prop}(p:P:=by
 repeat (apply Lm.cons;exact rfl)
 exact Lm.nil):P:=p
theorem em{P:Prop}(p:P:=by
 intro _ k
 repeat' (first|exact k|exact rfl|exact Nat.le_of_ble_eq_true rfl|exact Nat.ne_of_beq_eq_false rfl|decide|apply And.intro)):P:=p
theorem au{P:Prop}(p:P:=by
 repeat' (first
  |(show WO _ _ _ _;first
    |apply Hp
    |(apply st 1;exact rfl;first|exact λ_ k=>k|exact λ_ k=>⟨rfl,k⟩)
    |(apply dN;exact rfl;assumption)
    |(apply aG;exact rfl;assumption)
    |(apply d7;exact rfl;exact Hk)
    |(apply ZD;exact rfl;assumption;exact rfl)
    |(apply ZC;exact rfl;assumption;exact rfl)
    |(apply Yk;assumption;exact h;infer_instance;exact rfl;exact λ_=>rfl;intro x o h)|(apply WR;exact h;infer_instance;exact rfl;exact rfl;exact rfl;decide;exact rfl;exact λ_=>rfl;exact λ_=>rfl;intro x o B h;rotate_left;intro x o B h;rotate_left)|(apply fS;exact rfl;exact h;infer_instance;intro x c h;apply st 3;exact rfl;first|exact λ_ k=>⟨_,⟨c,rfl⟩,λ_=>k⟩|exact λ_ k=>⟨_,⟨c,.inl rfl⟩,λ_=>k⟩|exact λ_ k=>⟨_,⟨c,.inr rfl⟩,λ_=>k⟩|exact λ_ k=>⟨_,⟨c,.inr g7⟩,λ_=>k⟩|exact λ_ k=>⟨_,c,λ_=>k⟩|exact λ_ k=>⟨_,c,k⟩|exact λ_ k=>⟨rfl,_,_,.inl c,λ_=>k⟩|exact λ_ k=>⟨⟨rfl,Nat.ne_of_beq_eq_false rfl⟩,_,_,c,λ_=>k⟩|exact λ_ k=>⟨Nat.ne_of_beq_eq_false rfl,_,c,λ_=>k⟩|exact λ_ k=>⟨rfl,_,_,_,rfl,c,λ_=>k⟩|exact λ_ k=>⟨⟨Nat.ne_of_beq_eq_false rfl,rfl⟩,rfl,rfl,_,_,rfl,c,λ_=>k⟩)
    |(apply Zb;exact h;exact rfl;exact rfl;exact Hk;exact Hk;infer_instance;intro x o h)
    |(apply fT;exact rfl;exact h;intro x o h;first|(apply d4 o;exact rfl;exact rfl;exact Hk;exact rfl)|(apply YP o;exact rfl;exact rfl;exact Hk;exact Hk;exact rfl)|(apply eH o;exact rfl;exact Hk;exact rfl;exact rfl)|(apply bB o;exact rfl;exact rfl)|(apply bC o;exact rfl;exact rfl;exact rfl)|(apply eM o;exact rfl;exact rfl;exact Hk;exact rfl)|(apply ar o;exact rfl;exact rfl;exact Hk;exact Hk;exact rfl;exact rfl;decide)|(apply av o;exact rfl;exact rfl;exact rfl;exact rfl;exact rfl;exact rfl;decide;exact rfl;exact rfl)|(apply dz o;exact rfl;exact rfl;exact rfl;exact rfl;exact rfl;decide)|(apply a7 o;exact rfl;exact rfl;exact rfl)|(apply eN o;exact rfl;exact rfl;exact rfl;exact rfl)|(apply YU o;exact rfl;exact rfl;exact rfl;exact rfl)|(apply a6 o;exact rfl;exact rfl;exact rfl)|(apply YT o;exact rfl;exact rfl;exact rfl;exact rfl))
    |(apply bE;exact rfl;exact Hk)
    |(apply Zc;(with_reducible exact h);infer_instance;exact rfl;exact rfl;exact rfl;intro x o h)
    |(apply aw;exact rfl;exact rfl;exact rfl;exact rfl)
    |(apply Zd;exact rfl;exact rfl;exact rfl;exact ew)
    |(apply R6;exact rfl;exact rfl;exact rfl)
    |(apply b7;(with_reducible exact h);infer_instance;exact rfl;exact rfl;exact rfl;intro x o h)
    |(apply YB;exact rfl;exact rfl;exact rfl)
    |(apply b6;exact rfl;exact rfl;exact rfl;exact rfl)
    |(apply Zo;exact rfl;exact rfl;exact rfl)
    |(apply Zs;exact rfl;exact rfl;exact rfl;exact rfl)
    |(apply cG;exact rfl;exact rfl;exact rfl;exact rfl;exact rfl;exact eu)
    |(apply Zt;exact rfl;exact rfl;exact rfl;decide;exact rfl;exact eu)
    |(apply d8;exact rfl;exact rfl)
    |(apply d9;exact rfl;exact rfl)
    |(apply st 2;exact rfl;exact em)
    |(apply sn;exact rfl;exact em)
    |(apply gD;exact rfl)
    |(apply d5;exact rfl)
    |(apply Yj;exact h;infer_instance;exact rfl;exact λ_=>rfl;intro x o h)
    |(apply cD;exact h;exact rfl;exact rfl;intro x o h)
    |(apply cE;exact h;exact rfl;exact rfl;intro x o h)
    |(apply bi;exact h;exact rfl;exact rfl;decide;intro x o h)
    |(apply Zr;exact h;exact rfl;exact rfl;intro x o h)
    |(apply ZW;exact rfl;exact rfl;infer_instance;exact rfl;exact rfl;exact rfl)
    |(apply ZY;exact rfl;exact rfl;infer_instance;exact rfl;exact rfl;exact rfl)
    |refine ZX rfl rfl rfl rfl rfl ?_
    |refine ZZ rfl rfl rfl rfl rfl ?_
    |(apply bu;exact rfl;(with_reducible exact h);intro A B h;rotate_left;intro A B h;rotate_left)
    |(apply br;exact rfl;(with_reducible exact h);intro A B h;rotate_left;intro A B h;rotate_left)
    |(apply bw h (ho:=rfl);exact YI;exact rfl;exact rfl;intro v A B h;rotate_left;intro v A B h;rotate_left;intro v h;rotate_left)
    |(apply bv h (ho:=rfl);exact YI;exact rfl;exact rfl;intro v A B h;rotate_left;intro v A B h;rotate_left;intro v h;rotate_left)
    |(apply bn rfl;exact YI;exact rfl;exact rfl;intro A B;rotate_left;intro A B;rotate_left 3)
    |(apply bm rfl;exact YI;exact rfl;exact rfl;intro A B;rotate_left;intro A B;rotate_left 3)
    |apply Zm
    |(apply Zq;exact rfl;exact en;exact λ_=>rfl;infer_instance)|(apply Zp;exact rfl;exact en;exact λ_=>rfl)
    |(apply b8;exact rfl;exact rfl)
    |(apply bl;exact rfl;infer_instance)
    |(apply Zu;exact rfl;exact rfl;exact rfl;exact λ_=>rfl;assumption;exact rfl;exact rfl;exact rfl)|(apply Zv;exact rfl;exact rfl;exact rfl;exact λ_=>rfl;assumption;exact rfl;exact rfl;exact rfl)|(apply cL;exact rfl;exact rfl;exact rfl;exact λ_=>rfl;assumption;exact rfl;exact rfl;exact rfl)|(apply cK;exact rfl;exact rfl;exact rfl;exact λ_=>rfl;assumption;exact rfl;exact rfl;exact rfl)|(apply Zx;assumption;exact rfl;exact rfl;exact rfl;exact rfl;exact λ_=>rfl;assumption;exact rfl;exact rfl;exact rfl;exact rfl)|(apply Zw;exact rfl;exact rfl;exact rfl;exact rfl;exact λ_=>rfl;assumption;exact rfl;exact rfl;exact rfl;exact rfl)|(apply Zy;assumption;exact rfl;exact rfl;exact rfl;exact λ_=>rfl;exact rfl;exact ew;exact rfl;exact λ_ _ _=>rfl;assumption;exact rfl;exact rfl)|(apply cM;exact rfl;exact rfl;exact rfl;exact λ_=>rfl;exact rfl;assumption;exact rfl;exact rfl)|(apply WU;exact h;infer_instance;exact rfl;exact rfl;exact λ_=>rfl;exact λ_=>rfl;intro x o h)|(apply WT;exact h;infer_instance;exact rfl;exact λ_=>rfl;exact λ_=>rfl;intro x o h)
    |(apply bz;exact h;exact rfl;exact Hk;intro u h)
    |(apply YQ;exact rfl;exact rfl;intro z D;replace h:=Yn h z D)
    |(apply ay;exact rfl)
    |(apply b9;exact h;exact rfl;exact rfl;exact rfl;exact Hk;intro x o h)
    |(apply eD;exact rfl;exact rfl;exact Hk;assumption)
    |(apply cA;exact h;exact rfl;exact rfl;exact rfl;exact Hk;exact λ_=>rfl;assumption;intro x o h)|(apply eE;exact rfl;exact rfl;exact rfl;exact Hk;exact λ_=>rfl;assumption;assumption;exact rfl;exact rfl;exact rfl;exact rfl)
    |(apply Za;exact h;exact rfl;exact rfl;exact rfl;exact rfl;exact Hk;exact rfl;exact rfl;decide;exact rfl;intro x o h)
    |(apply WS;exact h;infer_instance;exact rfl;exact λ_=>rfl;exact λ_=>rfl;exact λ_=>rfl;intro x o h)
    |(apply eA;intro b;have K:=K b))
  |(show WP _ _ _ _;first
    |with_reducible apply bj
    |apply Fx
    |apply Jw
    |(apply Zh;exact rfl)
    |(apply cF;exact rfl;exact rfl)
    |apply SH
    |apply T8
    |apply VD
    |(apply L7;exact rfl;with_reducible rfl)
    |(apply L6;exact rfl;with_reducible rfl)
    |(apply Zn;exact rfl;exact h;assumption;exact rfl;intro w B h;rotate_left;intro w B h;rotate_left;intro w h;rotate_left)
    |(apply Zf;exact rfl;exact h;assumption;intro h)
    |(apply Ze;exact rfl;exact h;assumption;intro h)
    |(apply Zg;exact rfl;exact h;intro B h;rotate_left;intro B h;rotate_left)
    |(apply L7;exact rfl;apply g6;assumption)
    |(apply L6;exact rfl;apply gA;assumption)
    |(apply Zi;(first|assumption|(apply HB.a;assumption));exact h;exact C;exact YC;exact rfl;exact rfl;exact λ_ _=>rfl;intro i s r hi h C;rotate_left;intro i s hi;clear h;rotate_left;intro s h;rotate_left)
    |(apply Zl;(first|assumption|(apply HB.a;assumption));assumption;exact rfl;exact h;exact C;exact YC;exact rfl;exact rfl;exact λ_ _=>rfl;intro i s r hi h C;rotate_left;intro i s hi;clear h;rotate_left;intro s h;rotate_left)
    |(apply Zk;(first|assumption|(apply HB.a;assumption));exact h;exact C;exact YC;exact rfl;exact rfl;exact λ_ _=>rfl;intro i s r hi h C;rotate_left;intro i s hi;clear h;rotate_left;intro s h;rotate_left)
    |(apply Zj;(first|assumption|(apply HB.a;assumption));exact h;exact C;exact YC;exact rfl;exact rfl;exact λ_ _=>rfl;intro i s r hi h C;rotate_left;intro i s hi;clear h;rotate_left;intro s h;rotate_left)
    |(apply cJ;assumption;assumption;exact rfl;exact h;exact rfl;exact rfl;intro s r h C;rotate_left;intro s h;rotate_left)
    |(apply cI;assumption;exact h;exact rfl;exact rfl;intro s r h C;rotate_left;intro s h;rotate_left)
    |(apply cH;assumption;exact h;exact rfl;exact rfl;intro s r h C;rotate_left;intro s h;rotate_left)
    |apply TU
    |cases h)
  |(show Kp _ _ _;first
    |exact EJ
    |(apply F8;exact rfl)
    |(apply dW;exact rfl)
    |(apply F5;exact rfl)
    |(apply dY;exact rfl)
    |(apply dU;exact rfl)
    |(apply F7;exact rfl)
    |(apply F9;exact rfl)
    |(apply dV;exact rfl)
    |(apply dX;exact rfl)
    |(apply aV;exact rfl)
    |(apply F6;exact rfl))
  |(show Nm _ _ _ _;first
    |exact aa
    |(apply aZ;exact rfl)
    |(apply dn;exact rfl;exact rfl)
    |(apply dl;exact rfl;exact rfl)
    |(apply di;exact rfl;exact rfl)
    |(apply dt;exact rfl;exact rfl)
    |(apply dh;exact rfl;exact rfl)
    |(apply dm;exact rfl;exact rfl)
    |(apply dr;exact rfl;exact rfl)
    |(apply dj;exact rfl;exact rfl)
    |(apply dk;exact rfl;exact rfl))
  |apply Yt
  |(apply Wp;intro j)
  |apply Ys
  |exact VX rfl
  |(cases h;exact VX rfl)
  |apply SN
  |(apply Yp;decide)
  |intro C
  |(cases h;first|exact rfl|exact⟨rfl⟩|exact⟨rfl,rfl⟩|exact⟨_,rfl,rfl⟩|exact⟨_,rfl,⟨rfl⟩⟩|exact⟨rfl,_,rfl,⟨rfl⟩⟩|exact⟨a?,rfl⟩|exact⟨_,rfl,a?,rfl⟩|exact⟨_,rfl,rfl,rfl⟩|exact Y4 (by assumption) rfl rfl a? rfl|exact⟨_,rfl,Y3 (by first|assumption|decide) a? rfl⟩)
  |exact⟨rfl,⟨rfl⟩⟩)):P:=p
end Go.Sf
