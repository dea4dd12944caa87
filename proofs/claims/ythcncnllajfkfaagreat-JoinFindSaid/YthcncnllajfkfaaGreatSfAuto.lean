/- Contracts that are found by themselves: rules that take the typed text along, and the script that applies them. -/
import Derived.Test.YthcncnllajfkfaaGreatSfLib
set_option linter.all false
open Option renaming some->Y,none->W
open Bool renaming true->X,false->T
open List renaming map_map->v5,map_id->v6,take_of_length_le->v_,mem_cons->v!,getElem?_eq_some_iff->v?,getElem?_map->w_
open Nat renaming beq->w!,eq_of_beq_eq_true->w?,ble_self_eq_true->x_,zero_add->x!,ble->x?,blt->y_
namespace Go.Sf
class Ct(P:Program){α:Type}(x:Option α)(f:outParam FuncId)(ts:outParam Fq)(R:outParam (α->Az)):Prop where
 snd:∀r,x=Y r->AT P f ts (R r)
class Ml(es:Fq){α:outParam Type}(e:outParam (α->TV))(l:outParam (List α)):Prop where
 eq:es=l.map e
class dH{α:Type}(e:α->TV)where
 un:Fq->α
 dec:∀a b,∃i:Decidable (a=b),CH (e a).cells (e b).cells=Y (@decide (a=b) i)
class Fz(cs:List AS)(row:outParam Fq):Prop where
 h:cs.map (·.t)=row
instance(priority:=high){l:Fq}:Fz (l.map λx=>(⟨T,x⟩:AS)) l:=⟨by rw[v5];exact v6 _⟩
instance(priority:=low){cs:List AS}:Fz cs (cs.map (·.t)):=⟨rfl⟩
class En(α:Type)(e:outParam (α->TV)):Prop where
class Fl{α:Type}(e:α->TV)(n:outParam Nat)(f:outParam (List α->TV)):Prop where
 eq:∀l,f l=.list n (l.map e)
structure Kp(O:AB)(l:Ne)(r:AB):Prop where
 of::out:O.fq l=r
def look:List (Nat×EV)->Nat->Option EV
 |[],_=>W|(k,e)::r,n=>if k=n then Y e else look r n
def sB(O:AB)(m:List (Nat×EV)):Ne->AB
 |[]=>[]|s::ss=>(s,(look m s).getD (O.get s))::sB O m ss
structure Nm(O:AB)(m:List (Nat×EV))(l:Ne)(r:AB):Prop where
 of::out:sB O m l=r
structure Rn(a b:AB):Prop where
 of::out:a=b
structure HJ{σ:Type}(n:Nat)(M:σ->List (Nat×EV)):Prop where
structure HA{σ:Type}(n De q i:Nat)(M:Int->σ->List (Nat×EV)):Prop where
structure HB{σ:Type}(n De q i:Nat)(M:Int->σ->List (Nat×EV)):Prop where
theorem HB.a{σ:Type}{n De q i:Nat}{M:Int->σ->List (Nat×EV)}(_:HB n De q i M):HA n De q i M:=⟨⟩
structure HW{σ:Type}(n:Nat)(M:σ->List (Nat×EV)):Prop where
structure HR{β:Type}(R:β->AB->Prop):Prop where
structure HS(n:Nat):Prop where
structure HX{α γ:Type}(n:Nat)(f:α->γ->α):Prop where
structure dJ(g:Nat)(b q:Bool):Prop where
 of::out:q=b
structure Wn(g:Nat)(b q:Bool):Prop where
 of::out:q=!b
def KR(n:AB->Prop)(l:Ne):AB->Prop:=λe=>n (e.fq l)
section
variable{O:AB}{s:Nat}{ss:Ne}{r:AB}{m:List (Nat×EV)}
theorem Jg:Kp O [] []:=⟨rfl⟩
theorem PM{e:EV}(h:O.get s=e)(k:Kp O ss r):Kp O (s::ss) ((s,e)::r):=⟨by rw[<-k.out,<-h];rfl⟩
theorem MN{t:TV}(h:O.get s=.tv t)(k:Kp O ss r):Kp O (s::ss) ((s,.tv t)::r):=PM h k
theorem ABE{t:TV}(h:O.get s=.ow t)(k:Kp O ss r):Kp O (s::ss) ((s,.ow t)::r):=PM h k
theorem MK{t:List AS}(h:O.get s=.bx t)(k:Kp O ss r):Kp O (s::ss) ((s,.bx t)::r):=PM h k
theorem ABC{q o:Nat}(h:O.get s=.bp q o)(k:Kp O ss r):Kp O (s::ss) ((s,.bp q o)::r):=PM h k
theorem MM{t:Fq}(h:O.get s=.tp t)(k:Kp O ss r):Kp O (s::ss) ((s,.tp t)::r):=PM h k
theorem MO(h:O.get s=.undef)(k:Kp O ss r):Kp O (s::ss) ((s,.undef)::r):=PM h k
theorem ABG{n:Nat}{t:Fq}(h:O.get s=.xo n t)(k:Kp O ss r):Kp O (s::ss) ((s,.xo n t)::r):=PM h k
theorem ABD{q:Nat}{i:Option Nat}(h:O.get s=.la q i)(k:Kp O ss r):Kp O (s::ss) ((s,.la q i)::r):=PM h k
theorem ABF(h:O.get s=.sk)(k:Kp O ss r):Kp O (s::ss) ((s,.sk)::r):=PM h k
theorem xd{t:List AS}(h:O.get s=.zl t)(k:Kp O ss r):Kp O (s::ss) ((s,.zl t)::r):=PM h k
theorem xj:Nm O m [] []:=⟨rfl⟩
theorem xi{e:EV}(h:look m s=Y e)(k:Nm O m ss r):Nm O m (s::ss) ((s,e)::r):=⟨by rw[<-k.out];simp only[sB,h,Option.getD_some]⟩
theorem RT{e:EV}(h:look m s=W)(o:O.get s=e)(k:Nm O m ss r):Nm O m (s::ss) ((s,e)::r):=⟨by rw[<-k.out];simp only[sB,h,o,Option.getD_none]⟩
theorem ABW{t:TV}(h:look m s=W)(o:O.get s=.tv t)(k:Nm O m ss r):Nm O m (s::ss) ((s,.tv t)::r):=RT h o k
theorem ABU{t:TV}(h:look m s=W)(o:O.get s=.ow t)(k:Nm O m ss r):Nm O m (s::ss) ((s,.ow t)::r):=RT h o k
theorem ABR{t:List AS}(h:look m s=W)(o:O.get s=.bx t)(k:Nm O m ss r):Nm O m (s::ss) ((s,.bx t)::r):=RT h o k
theorem ABQ{q o:Nat}(h:look m s=W)(p:O.get s=.bp q o)(k:Nm O m ss r):Nm O m (s::ss) ((s,.bp q o)::r):=RT h p k
theorem ABV{t:Fq}(h:look m s=W)(o:O.get s=.tp t)(k:Nm O m ss r):Nm O m (s::ss) ((s,.tp t)::r):=RT h o k
theorem ABX(h:look m s=W)(o:O.get s=.undef)(k:Nm O m ss r):Nm O m (s::ss) ((s,.undef)::r):=RT h o k
theorem ABY{n:Nat}{t:Fq}(h:look m s=W)(o:O.get s=.xo n t)(k:Nm O m ss r):Nm O m (s::ss) ((s,.xo n t)::r):=RT h o k
theorem ABS{q:Nat}{i:Option Nat}(h:look m s=W)(o:O.get s=.la q i)(k:Nm O m ss r):Nm O m (s::ss) ((s,.la q i)::r):=RT h o k
end
def PC.xl(i:Nat):PC->Option Ne
 |.exit j l=>if j=i then Y l else W|.seq a b=>match a.xl i with
  |some l=>Y l|none=>b.xl i
 |.cond _ a b=>match a.xl i with
  |some l=>Y l|none=>b.xl i
 |.block _ a=>a.xl i|.loop _ a=>a.xl i|.rls _ a=>a.xl i|_=>W
def PC.last:PC->Option Ne
 |.region _ l=>Y l|.draw _ _ l=>Y l|.skip l=>Y l|.exit _ l=>Y l|.seq _ b=>b.last|.cond _ a _=>a.last|.block i (.loop _ b)=>b.xl i|.block _ c=>c.last|.rls _ c=>c.last|_=>W
section
variable{S:FuncId->Fq->Az->Prop}{K:AB->Prop}{os:List PR}{O:AB}{d:Nat}
section code
variable{n t:AB->Prop}{x:Nat->AB->Prop}{a b:PC}{l:Ne}{env':AB}
theorem O0(o:Kp O l env')(h:n env'):WO S (KR n l) [] O:=⟨by show n (O.fq l);rw[o.out];exact h⟩
theorem RE{ops:List PR}(h:WO S (KR n l) ops O):WP S (.region ops l) ⟨n,x,t⟩ O:=⟨h.out⟩
theorem wo{D:Ne}{ops:List PR}(hd:TC O D=X)(h:WO S (KR n l) ops O):WP S (.draw D ops l) ⟨n,x,t⟩ O:=⟨hd,h.out⟩
theorem MG(h:WP S a ⟨λe=>(∀s,(e.get s).WF)->WP S b ⟨n,x,t⟩ e,x,t⟩ O):WP S (.seq a b) ⟨n,x,t⟩ O:=AAq h
theorem dL(o:Kp O l env')(h:n env'):WP S (.skip l) ⟨n,x,t⟩ O:=xG o.out h
theorem lG(h:t O):WP S .ret ⟨n,x,t⟩ O:=⟨h⟩
theorem nI{i:Nat}(o:Kp O l env')(h:x i env'):WP S (.exit i l) ⟨n,x,t⟩ O:=xF o.out h
theorem zj{s:Nat}{cs cs':List AS}{c:PC}{q:Q}(h:O.get s=.bx cs)(he:cs.map AS.rel=cs')(k:WP S c q ((s,.bx cs')::O)):WP S (.rls s c) q O:=by
 refine ⟨?_⟩;subst he;simp only[PC.wp,h];exact k.out
theorem jM{i:Nat}(h:WP S a ⟨n,λj e=>if j=i then n e else x j e,t⟩ O):WP S (.block i a) ⟨n,x,t⟩ O:=Y9 h
theorem zS{m:List (Nat×EV)}{e:AB}{q:Q}(he:Nm e m l env')(h:WP S a q env'):WP S a q (sB e m l):=by rw[he.out];exact h
variable{Q:Q}
theorem wn{c:AG}{β:Type}{q:Bool}{u v:Option β}{r:β}(o:c.val O=Y (.bool q))(h:(if q=X then u else v)=Y r)(p:q=X->u=Y r->WP S a Q O)(w:q=T->v=Y r->WP S b Q O):WP S (.cond c a b) Q O:=
 Xv o (λe=>p e (YN e h)) (λe=>w e (YM e h))
theorem ww{σ β:Type}{i:Nat}{M:σ->List (Nat×EV)}{q:Bool}{u v:Option σ}{k:σ->Option β}{r:β}(p:(AG.s i).val O=Y (.bool q))(h:((if q=X then u else v).bind k)=Y r)(_:HJ i M)(_:(PC.cond (.s i) a b).last=Y l)
  (A:∀w,q=X->u=Y w->WP S a ⟨λe=>Rn e (sB O (M w) l),x,t⟩ O)(B:∀w,q=T->v=Y w->WP S b ⟨λe=>Rn e (sB O (M w) l),x,t⟩ O)(C:∀w,k w=Y r->n (sB O (M w) l)):WP S (.cond (.s i) a b) ⟨n,x,t⟩ O:=by
 obtain ⟨w,o,h⟩:=bind_some h;refine AAp (λe=>Rn e (sB O (M w) l)) ?_ (λe he=>by rw[he.out];exact C w h);exact Xv p (λe=>A w e (YN e o)) (λe=>B w e (YM e o))
end code
structure Bd(O:AB)(q i:Nat)(b:Int):Prop where
 of::out:(∀s,(O.get s).WF)->b<=9223372036854775807
section bounds
variable{q i:Nat}{α:Type}{e:α->TV}{l:List α}{es row:Fq}{n:Nat}
theorem ACA{b:Int}(h:decide (b<=9223372036854775807)=X):Bd O q i b:=⟨λ_=>of_decide_eq_true h⟩
theorem ACF{b:Int}:Bd O q i (Al b):=⟨λ_=>zI _⟩
theorem ACC(h:O.get q=.tv (.list n es))(he:es=l.map e):Bd O q i l.length:=⟨λo=>by have:=o q;rw[h]at this;exact WJ (dF this) he⟩
theorem ACD(h:O.get q=.ow (.list n es))(he:es=l.map e):Bd O q i l.length:=⟨λo=>by have:=o q;rw[h]at this;exact WJ (AB2 this) he⟩
theorem ACG(h:O.get q=.xo n es)(he:es=l.map e):Bd O q i l.length:=⟨λo=>by have:=o q;rw[h]at this;exact WJ (AB3 this) he⟩
theorem ACE{b:ByteArray}(h:O.get q=.tv (.str b)):Bd O q i b.size:=⟨λo=>by have:=o q;rw[h]at this;exact wM (dF this)⟩
theorem ACB{b:Int}(h:O.get q=.tv (.int .i64 b)):Bd O q i b:=⟨λo=>by have:=o q;rw[h]at this;exact pw (dF this)⟩
theorem zw(h:O.get q=.tv (.pt row))(hr:row[i]?=Y (.list n es))(he:es=l.map e):Bd O q i l.length:=⟨λo=>by have:=o q;rw[h]at this;exact WJ (ko (uI this) hr) he⟩
theorem zv{b:Int}(h:O.get q=.tv (.pt row))(hr:row[i]?=Y (.int .i64 b)):Bd O q i b:=⟨λo=>by have:=o q;rw[h]at this;exact pw (ko (uI this) hr)⟩
end bounds
section loops
variable{σ β ρ:Type}{n t:AB->Prop}{x:Nat->AB->Prop}{c:PC}{live jl:Ne}{i0 De q i1:Nat}{lo b:Int}{s0:σ}{r:β}{k:σ->Option β}
variable{M:Int->σ->List (Nat×EV)}
theorem zJ(h:∀i s,(sB O (M i s) live).get De=.tv (.int .i64 i)){i:Int}{s:σ}(o:∀k,((sB O (M i s) live).get k).WF)(hi:i<b)(hb:b<=9223372036854775807):Al (i+1)=i+1:=by
 have:=o De;rw[h]at this;exact AB4 (dF this) hi hb
theorem wq{f:Int->σ->Option σ}(_:HA i0 De q i1 M)(h:(ls f lo b s0).bind k=Y r)(p:∀s,(O.get s).WF)(hb:Bd O q i1 b)(_:c.xl i0=Y jl)(u:O.fq live=sB O (M lo s0) live)(w:∀i s,(sB O (M i s) live).get De=.tv (.int .i64 i))
  (A:∀i s r,i<b->f i s=Y r->(∀k,((sB O (M i s) live).get k).WF)->WP S c ⟨λe=>Rn (e.fq live) (sB O (M (Al (i+1)) r) live),λ_ _=>False,λ_=>False⟩ (sB O (M i s) live))
  (B:∀i s,¬i<b->WP S c ⟨λ_=>False,λj e=>j=i0/\Rn e (sB O (M 0 s) jl),λ_=>False⟩ (sB O (M i s) live))
  (C:∀s,k s=Y r->n (sB O (M 0 s) jl)):WP S (.block i0 (.loop live c)) ⟨n,x,t⟩ O:=by
 obtain ⟨o,ho,h⟩:=bind_some h;have hb:=hb.out p;refine wO ho (λi s=>sB O (M i s) live) (λs=>sB O (M 0 s) jl) u (λi s r hi hf p=>⟨PC.l3 S c _ _ (A i s r hi hf p).out _ (λe he=>?_) (λ_ _ h=>h) (λ_ h=>h)⟩) (λi s hi=>⟨PC.l3 S c _ _ (B i s hi).out _ (λ_ h=>h) (λj e h=>⟨h.1,h.2.out⟩) (λ_ h=>h)⟩) (C o h);have:=he.out;rw[zJ w p hi hb]at this;exact this
variable{kr:ρ->Option β}
theorem ZK{f:Int->σ->Option (B5 σ ρ)}{R:ρ->AB->Prop}(h:ei (gt f lo b s0) k kr=Y r)(hb:b<=9223372036854775807)(w:O.fq live=sB O (M lo s0) live)(A:∀i s,(sB O (M i s) live).get De=.tv (.int .i64 i))
  (B:∀i s r,i<b->f i s=Y r->(∀k,((sB O (M i s) live).get k).WF)->WP S c ⟨λe=>∃s',r=.next s'/\Rn (e.fq live) (sB O (M (Al (i+1)) s') live),λj e=>j=i0/\∃s',r=.brk s'/\Rn e (sB O (M 0 s') jl),λe=>∃v,r=.ret v/\R v e⟩ (sB O (M i s) live))
  (C:∀i s,¬i<b->WP S c ⟨λ_=>False,λj e=>j=i0/\Rn e (sB O (M 0 s) jl),λ_=>False⟩ (sB O (M i s) live))
  (D:∀s,k s=Y r->n (sB O (M 0 s) jl))(E:∀v e,kr v=Y r->R v e->t e):WP S (.block i0 (.loop live c)) ⟨n,x,t⟩ O:=by
 obtain ⟨o,ho,h⟩:=Y3 h;refine ky ho (λi s=>sB O (M i s) live) (λs=>sB O (M 0 s) jl) R w (λi s r hi hf u=>⟨PC.l3 S c _ _ (B i s r hi hf u).out _ (λe he=>?_) (λj e he=>?_) (λ_ h=>h)⟩) (λi s hi=>⟨PC.l3 S c _ _ (C i s hi).out _ (λ_ h=>h) (λj e h=>⟨h.1,h.2.out⟩) (λ_ h=>h)⟩) (λs F=>D s (kf h F)) (λv e hv=>E v e (kh h hv))
 .obtain⟨s',p,e2⟩:=he;have e2:=e2.out;rw[zJ A u hi hb]at e2;exact⟨s',p,e2⟩
 .obtain⟨G,s',p,e2⟩:=he;exact⟨G,s',p,e2.out⟩
theorem wu{f:Int->σ->Option (B5 σ β)}{R:β->AB->Prop}(_:HA i0 De q i1 M)(_:HR R)(o:R r=t)(h:ei (gt f lo b s0) k (λv=>Y v)=Y r)(p:∀s,(O.get s).WF)(hb:Bd O q i1 b)(_:c.xl i0=Y jl)(u:O.fq live=sB O (M lo s0) live)(w:∀i s,(sB O (M i s) live).get De=.tv (.int .i64 i))
  (A:∀i s r,i<b->f i s=Y r->(∀k,((sB O (M i s) live).get k).WF)->WP S c ⟨λe=>∃s',r=.next s'/\Rn (e.fq live) (sB O (M (Al (i+1)) s') live),λj e=>j=i0/\∃s',r=.brk s'/\Rn e (sB O (M 0 s') jl),λe=>∃v,r=.ret v/\R v e⟩ (sB O (M i s) live))
  (B:∀i s,¬i<b->WP S c ⟨λ_=>False,λj e=>j=i0/\Rn e (sB O (M 0 s) jl),λ_=>False⟩ (sB O (M i s) live))
  (C:∀s,k s=Y r->n (sB O (M 0 s) jl)):WP S (.block i0 (.loop live c)) ⟨n,x,t⟩ O:=
 ZK h (hb.out p) u w A B C (λv e hv D=>by cases hv;rw[<-o];exact D)
variable{τ:Type}
theorem wt{f:Int->σ->Option (B5 σ ρ)}{k:σ->Option (B5 τ ρ)}{r:B5 τ ρ}{R:ρ->AB->Prop}(_:HA i0 De q i1 M)(h:ei (gt f lo b s0) k (λv=>Y (.ret v))=Y r)(o:∀s,(O.get s).WF)(hb:Bd O q i1 b)(_:c.xl i0=Y jl)(p:O.fq live=sB O (M lo s0) live)(u:∀i s,(sB O (M i s) live).get De=.tv (.int .i64 i))
  (w:∀i s r,i<b->f i s=Y r->(∀k,((sB O (M i s) live).get k).WF)->WP S c ⟨λe=>∃s',r=.next s'/\Rn (e.fq live) (sB O (M (Al (i+1)) s') live),λj e=>j=i0/\∃s',r=.brk s'/\Rn e (sB O (M 0 s') jl),λe=>∃v,r=.ret v/\R v e⟩ (sB O (M i s) live))
  (A:∀i s,¬i<b->WP S c ⟨λ_=>False,λj e=>j=i0/\Rn e (sB O (M 0 s) jl),λ_=>False⟩ (sB O (M i s) live))
  (B:∀s,k s=Y r->n (sB O (M 0 s) jl)):WP S (.block i0 (.loop live c)) ⟨n,x,λe=>∃v,r=.ret v/\R v e⟩ O:=
 ZK h (hb.out o) p u w A B (λv e hv C=>by cases hv;exact⟨v,rfl,C⟩)
theorem ws{f:Int->σ->Option (B5 σ ρ)}(_:HA i0 De q i1 M)(h:ei (gt f lo b s0) k (λ_=>W)=Y r)(o:∀s,(O.get s).WF)(hb:Bd O q i1 b)(_:c.xl i0=Y jl)(p:O.fq live=sB O (M lo s0) live)(u:∀i s,(sB O (M i s) live).get De=.tv (.int .i64 i))
  (w:∀i s r,i<b->f i s=Y r->(∀k,((sB O (M i s) live).get k).WF)->WP S c ⟨λe=>∃s',r=.next s'/\Rn (e.fq live) (sB O (M (Al (i+1)) s') live),λj e=>j=i0/\∃s',r=.brk s'/\Rn e (sB O (M 0 s') jl),λ_=>∃v,r=.ret v/\False⟩ (sB O (M i s) live))
  (A:∀i s,¬i<b->WP S c ⟨λ_=>False,λj e=>j=i0/\Rn e (sB O (M 0 s) jl),λ_=>False⟩ (sB O (M i s) live))
  (B:∀s,k s=Y r->n (sB O (M 0 s) jl)):WP S (.block i0 (.loop live c)) ⟨n,x,t⟩ O:=
 ZK (R:=λ_ _=>False) h (hb.out o) p u w A B (λv e hv _=>by cases hv)
theorem iS{f:σ->Option (B5 σ ρ)}{R:ρ->AB->Prop}{M:σ->List (Nat×EV)}(h:ei (Dv f s0) k kr=Y r)(u:O.fq live=sB O (M s0) live)
  (w:∀s r,f s=Y r->(∀k,((sB O (M s) live).get k).WF)->WP S c ⟨λe=>∃s',r=.next s'/\Rn (e.fq live) (sB O (M s') live),λj e=>j=i0/\∃s',r=.brk s'/\Rn e (sB O (M s') jl),λe=>∃v,r=.ret v/\R v e⟩ (sB O (M s) live))
  (A:∀s,k s=Y r->n (sB O (M s) jl))(B:∀v e,kr v=Y r->R v e->t e):WP S (.block i0 (.loop live c)) ⟨n,x,t⟩ O:=by
 obtain ⟨o,ho,h⟩:=Y3 h;refine zN ho (λs=>sB O (M s) live) (λs=>sB O (M s) jl) R u (λs r hf C=>⟨PC.l3 S c _ _ (w s r hf C).out _ (λe he=>?_) (λj e he=>?_) (λ_ h=>h)⟩) (λs D=>A s (kf h D)) (λv e hv=>B v e (kh h hv))
 .obtain⟨s',p,e2⟩:=he;exact⟨s',p,e2.out⟩
 .obtain⟨E,s',p,e2⟩:=he;exact⟨E,s',p,e2.out⟩
theorem zq{f:σ->Option (B5 σ β)}{R:β->AB->Prop}{M:σ->List (Nat×EV)}(_:HW i0 M)(_:HR R)(o:R r=t)(h:ei (Dv f s0) k (λv=>Y v)=Y r)(_:c.xl i0=Y jl)(p:O.fq live=sB O (M s0) live)
  (u:∀s r,f s=Y r->(∀k,((sB O (M s) live).get k).WF)->WP S c ⟨λe=>∃s',r=.next s'/\Rn (e.fq live) (sB O (M s') live),λj e=>j=i0/\∃s',r=.brk s'/\Rn e (sB O (M s') jl),λe=>∃v,r=.ret v/\R v e⟩ (sB O (M s) live))
  (w:∀s,k s=Y r->n (sB O (M s) jl)):WP S (.block i0 (.loop live c)) ⟨n,x,t⟩ O:=
 iS h p u w (λv e hv A=>by cases hv;rw[<-o];exact A)
theorem zp{f:σ->Option (B5 σ ρ)}{k:σ->Option (B5 τ ρ)}{r:B5 τ ρ}{R:ρ->AB->Prop}{M:σ->List (Nat×EV)}(_:HW i0 M)(h:ei (Dv f s0) k (λv=>Y (.ret v))=Y r)(_:c.xl i0=Y jl)(o:O.fq live=sB O (M s0) live)
  (p:∀s r,f s=Y r->(∀k,((sB O (M s) live).get k).WF)->WP S c ⟨λe=>∃s',r=.next s'/\Rn (e.fq live) (sB O (M s') live),λj e=>j=i0/\∃s',r=.brk s'/\Rn e (sB O (M s') jl),λe=>∃v,r=.ret v/\R v e⟩ (sB O (M s) live))
  (u:∀s,k s=Y r->n (sB O (M s) jl)):WP S (.block i0 (.loop live c)) ⟨n,x,λe=>∃v,r=.ret v/\R v e⟩ O:=
 iS h o p u (λv e hv w=>by cases hv;exact⟨v,rfl,w⟩)
theorem zm{f:σ->Option (B5 σ ρ)}{M:σ->List (Nat×EV)}(_:HW i0 M)(h:ei (Dv f s0) k (λ_=>W)=Y r)(_:c.xl i0=Y jl)(o:O.fq live=sB O (M s0) live)
  (p:∀s r,f s=Y r->(∀k,((sB O (M s) live).get k).WF)->WP S c ⟨λe=>∃s',r=.next s'/\Rn (e.fq live) (sB O (M s') live),λj e=>j=i0/\∃s',r=.brk s'/\Rn e (sB O (M s') jl),λ_=>∃v,r=.ret v/\False⟩ (sB O (M s) live))
  (u:∀s,k s=Y r->n (sB O (M s) jl)):WP S (.block i0 (.loop live c)) ⟨n,x,t⟩ O:=
 iS (R:=λ_ _=>False) h o p u (λv e hv _=>by cases hv)
end loops
end
end Go.Sf
namespace Go.Sf
section
variable{P:Program}{S:FuncId->Fq->Az->Prop}{K:AB->Prop}{os:List PR}{O:AB}{d:Nat}{α β:Type}{k:α->Option β}{r:β}
theorem bnd{G:Prop}{x:Option α}(h:x.bind k=Y r)(g:∀a,x=Y a->k a=Y r->G):G:=by
 obtain ⟨a,ha,h⟩:=bind_some h;exact g a ha h
theorem ACI{α:Type}{x:Option α}{k:α->Option β}{op:AE}{dd:Option Nat}(_:op.AbL=4)(h:x.bind k=Y r)(g:∀a,x=Y a->k a=Y r->WO S K (⟨dd,op,W⟩::os) O):WO S K (⟨dd,op,W⟩::os) O:=bnd h g
theorem ACH{x:Option α}{f:FuncId}{ts:Fq}{R:α->Az}{op:AE}{dd:Option Nat}(_:op.AbL=3)(h:x.bind k=Y r)(c:Ct P x f ts R)(g:∀a,AT P f ts (R a)->k a=Y r->WO (AT P) K (⟨dd,op,W⟩::os) O):WO (AT P) K (⟨dd,op,W⟩::os) O:=bnd h λa ha=>g a (c.snd a ha)
theorem wd{γ:Type}{k:List γ->Option β}{n s:Nat}{y:AG}{es o:Fq}{e:γ->TV}{l m:List γ}{f:List γ->TV}(h:(Am l m).bind k=Y r)(u:O.get s=.ow (.list n es))(w:y.val O=Y (.list n o))(he:es=l.map e)(hf:o=m.map e)(c:Fl e n f)
  (A:∀x,Am l m=Y x->k x=Y r->WO S K os ((d,.ow (f x))::(s,.tv (.list n es))::O)):WO S K (⟨Y d,.app n (.s s) y,W⟩::os) O:=by
 obtain ⟨x,p,h⟩:=bind_some h;have:=A x p h;rw[c.eq]at this;exact uA p u w he hf rfl this
section ints
variable{k:Int->Option β}{x y:AG}{ik:IntKind}{a b:Int}
theorem zh(h:(quo a b).bind k=Y r)(p:x.val O=Y (.int ik a))(u:y.val O=Y (.int ik b))(w:∀q,quo a b=Y q->k q=Y r->WO S K os ((d,.tv (.int ik (ik.wrap q)))::O)):WO S K (⟨Y d,.bin .i .quo x y,W⟩::os) O:=bnd h λq o h=>ABw o p u (w q o h)
theorem zi(h:(t8 a b).bind k=Y r)(p:x.val O=Y (.int ik a))(u:y.val O=Y (.int ik b))(w:∀q,t8 a b=Y q->k q=Y r->WO S K os ((d,.tv (.int ik q))::O)):WO S K (⟨Y d,.bin .i .rem x y,W⟩::os) O:=bnd h λq o h=>ABx o p u (w q o h)
theorem zR{op:BinOp}{o:IntKind}(h:(Nn ik op a b).bind k=Y r)(u:x.val O=Y (.int ik a))(A:y.val O=Y (.int o b))(B:ik=o\/op=.shl\/op=.shr)(C:∀q,Nn ik op a b=Y q->k q=Y r->WO S K os ((d,.tv (.int ik q))::O)):WO S K (⟨Y d,.bin .w op x y,W⟩::os) O:=bnd h λq p h=>ABi p u A B (C q p h)
end ints
theorem w5{k:ByteArray->Option β}{x y:AG}{u v:ByteArray}(h:(Vg u v).bind k=Y r)(p:x.val O=Y (.str u))(w:y.val O=Y (.str v))(A:∀q,Vg u v=Y q->k q=Y r->WO S K os ((d,.tv (.str q))::O)):WO S K (⟨Y d,.bin .s .add x y,W⟩::os) O:=bnd h λq o h=>yp o p w (A q o h)
theorem za{k:Unit->Option β}{x:AG}{n:Nat}{es:Fq}{e:α->TV}{l:List α}(h:(XF l).bind k=Y r)(o:x.val O=Y (.list n es))(he:es=l.map e)(p:∀u,k u=Y r->WO S K os ((d,.tv (.bool T))::O)):WO S K (⟨Y d,.isn x,W⟩::os) O:=by
 obtain ⟨u,w,h⟩:=bind_some h;refine uB o he λb hb=>?_;obtain rfl:=n7 w hb;exact p u h
theorem tM{x:AG}{n:Nat}{e:α->TV}{a:α}(h:BH O (x.ev O)=Y (e a).cells)(o:w! (e a).cells.length n=X)(p:TV.agg (e a).cells=e a)(u:WO S K os ((d,.tv (e a))::O)):WO S K (⟨Y d,.lda x n,W⟩::os) O:=by
 have o:=w? o;exact uC h (by rw[o];exact x_ n) (by rw[v_ U,p]) u
theorem zb{s n:Nat}{cs:List AS}{e:α->TV}{a:α}(h:O.get s=.bx cs)(p:cs.map (·.t)=(e a).cells)(o:w! (e a).cells.length n=X)(u:TV.agg (e a).cells=e a)(w:WO S K os ((d,.tv (e a))::O)):WO S K (⟨Y d,.ldb s n,W⟩::os) O:=by
 have o:=w? o;exact ABn h (by rw[p,o];exact x_ n) (by rw[p,v_ U,u]) w
variable{v:AG}
theorem w6{n s:Nat}{cs:List AS}{t:TV}(h:O.get s=.bx cs)(hv:v.ev O=.tv t)(o:t.cells.length=n)(hb:w! n cs.length=X)(p:WO S K os ((s,.bx (t.cells.map (⟨T,·⟩)))::O)):WO S K (⟨W,.stb n s v,W⟩::os) O:=by
 have hb:=w? hb;refine ABz h hv o (by rw[x!,hb];exact x_ _) ?_ p;rw[List.take_zero,x!,hb,List.drop_length,List.append_nil,List.nil_append]
theorem wy{x:AG}{n:Nat}{e:α->TV}{a:α}(h:BH O (x.ev O)=Y (((e a).cells.map λt=>(⟨T,t⟩:AS)).map (·.t)))(o:w! (e a).cells.length n=X)(p:TV.agg (e a).cells=e a)(u:WO S K os ((d,.tv (e a))::O)):WO S K (⟨Y d,.lda x n,W⟩::os) O:=
 tM (by rw[h,v5];congr 1;exact v6 _) o p u
def lJ(n:Nat):Fq->Bool
 |[]=>X|t::ts=>w! t.cells.length n&&lJ n ts
theorem dU{n:Nat}:∀{ts:Fq},lJ n ts=X->∀t∈ts,t.cells.length=n
 |[],_,_,h=>c_
 |t::ts,h,u,o=>by
  simp only[lJ,ne]at h;rcases v!.1 o with rfl|o
  .exact w? h.1
  .exact dU h.2 u o
variable{parts:List AG}
theorem ze{n:Nat}{ts:Fq}(h:vals O parts=Y ts)(o:lJ n ts=X)(p:WO S K os ((d,.ow (.list n ts))::O)):WO S K (⟨Y d,.lst n parts,W⟩::os) O:=by
 have:=p.out;refine⟨?_⟩;simp only[wpOps,PR.wp,AE.wp,h,An];exact⟨dU o,this⟩
variable{zero:Fq}
theorem we{parts:List (Nat×Nat×AG)}{ts:List (Nat×Nat×TV)}{cs:Fq}{e:α->TV}{a:α}(h:(Y a).bind k=Y r)(_:En α e)(o:Hn O parts=Y ts)(p:F2 zero ts=Y cs)(he:TV.agg cs=e a)(u:∀x,x=a->k x=Y r->WO S K os ((d,.tv (e x))::O)):WO S K (⟨Y d,.bld zero parts,W⟩::os) O:=by
 rw [Option.bind_some]at h;exact dB o p he (u a rfl h)
theorem zc{x:AG}{n:Nat}{cs:Fq}{e:α->TV}{a:α}(h:(Y a).bind k=Y r)(_:En α e)(o:BH O (x.ev O)=Y cs)(p:x? n cs.length=X)(he:TV.agg (cs.take n)=e a)(u:∀x,x=a->k x=Y r->WO S K os ((d,.tv (e x))::O)):WO S K (⟨Y d,.lda x n,W⟩::os) O:=by
 rw [Option.bind_some]at h;exact uC o p he (u a rfl h)
inductive Lm{α:Type}(e:α->TV):Fq->List α->Prop
 |nil:Lm e [] []
 |cons {t:TV} {ts:Fq} {a:α} {l:List α}:t=e a->Lm e ts l->Lm e (t::ts) (a::l)
theorem Lm.eq{e:α->TV}{ts:Fq}{l:List α}(h:Lm e ts l):ts=l.map e:=by
 induction h with
 |nil=>rfl|cons h _ o=>rw[h,o];rfl
theorem wz{n:Nat}{ts:Fq}{e:α->TV}{l:List α}(h:vals O parts=Y ts)(o:Lm e ts l)(p:∀a,(e a).cells.length=n)(u:WO S K os ((d,.ow (.list n (l.map e)))::O)):WO S K (⟨Y d,.lst n parts,W⟩::os) O:=uD h o.eq p u
theorem w4{n:Nat}{ts:Fq}{e:α->TV}{l:List α}{f:List α->TV}(h:vals O parts=Y ts)(p:Lm e ts l)(u:∀a,(e a).cells.length=n)(c:Fl e n f)(o:WO S K os ((d,.ow (f l))::O)):WO S K (⟨Y d,.lst n parts,W⟩::os) O:=by
 rw [c.eq]at o;exact uD h p.eq u o
theorem wX{e:α->TV}{n:Ne}{x y:AG}{a:α}{cs:Fq}(o:x.val O=Y (e a))(p:y.val O=Y (.agg cs))[c:dH e][i:Decidable (a=c.un cs)](ha:TV.agg (e a).cells=e a)(hb:(e (c.un cs)).cells=cs)(u:(e a).cells.map TV.kd=n)(w:WO S K os ((d,.tv (.bool (decide (a=c.un cs))))::O)):WO S K (⟨Y d,.bin (.a n) .eql x y,W⟩::os) O:=by
 obtain ⟨A,h⟩:=c.dec a (c.un cs);have:i=A:=Subsingleton.elim _ _;subst this;rw[<-ha]at o;rw[hb]at h;exact pC o p u h w
theorem wZ{e:α->TV}{n:Ne}{x y:AG}{a:α}{cs:Fq}(o:x.val O=Y (e a))(p:y.val O=Y (.agg cs))[c:dH e][i:Decidable (a=c.un cs)](ha:TV.agg (e a).cells=e a)(hb:(e (c.un cs)).cells=cs)(u:(e a).cells.map TV.kd=n)(w:WO S K os ((d,.tv (.bool (!decide (a=c.un cs))))::O)):WO S K (⟨Y d,.bin (.a n) .neq x y,W⟩::os) O:=by
 obtain ⟨A,h⟩:=c.dec a (c.un cs);have:i=A:=Subsingleton.elim _ _;subst this;rw[<-ha]at o;rw[hb]at h;exact pE o p u h w
theorem wW{e:α->TV}{n:Ne}{x y:AG}{a b:α}{i:Decidable (a=b)}(o:x.val O=Y (e a))(p:y.val O=Y (e b))(c:dH e)(ha:TV.agg (e a).cells=e a)(hb:TV.agg (e b).cells=e b)(u:(e a).cells.map TV.kd=n)(w:WO S K os ((d,.tv (.bool (decide (a=b))))::O)):WO S K (⟨Y d,.bin (.a n) .eql x y,W⟩::os) O:=by
 obtain ⟨A,h⟩:=c.dec a b;have:i=A:=Subsingleton.elim _ _;subst this;rw[<-ha]at o;rw[<-hb]at p;exact pC o p u h w
theorem wY{e:α->TV}{n:Ne}{x y:AG}{a b:α}{i:Decidable (a=b)}(o:x.val O=Y (e a))(p:y.val O=Y (e b))(c:dH e)(ha:TV.agg (e a).cells=e a)(hb:TV.agg (e b).cells=e b)(u:(e a).cells.map TV.kd=n)(w:WO S K os ((d,.tv (.bool (!decide (a=b))))::O)):WO S K (⟨Y d,.bin (.a n) .neq x y,W⟩::os) O:=by
 obtain ⟨A,h⟩:=c.dec a b;have:i=A:=Subsingleton.elim _ _;subst this;rw[<-ha]at o;rw[<-hb]at p;exact pE o p u h w
section calls
variable{x:Option α}{f:FuncId}{ts:Fq}{R:α->Az}{args:List AG}
theorem zT{s:Nat}{cs:List AS}{row:Fq}(o:O.get s=.bx cs)(f:Fz cs row)(k:WO S K os ((s,.tv (.pt row))::O)):WO S K (⟨W,.frz s,W⟩::os) O:=ABk o f.h k
theorem uM{t:α->TV}(_:HS d)(h:x.bind k=Y r)(c:Ct P x f ts R)(ha:vals O args=Y ts)(p:∀a,R a=.own (t a))(u:∀a,x=Y a->k a=Y r->WO (AT P) K os ((d,.tv (t a))::O)):WO (AT P) K (⟨Y d,.call f args,W⟩::os) O:=by
 obtain ⟨a,o,h⟩:=bind_some h;have:=c.snd a o;rw[p]at this;exact yl ha (xm this) (u a o h)
theorem uL{t:α->List AS}(h:x.bind k=Y r)(c:Ct P x f ts R)(ha:vals O args=Y ts)(p:∀a,R a=.zl (t a))(u:∀a,x=Y a->k a=Y r->WO (AT P) K os ((d,.tv (.agg ((t a).map λc=>c.rel.t)))::O)):WO (AT P) K (⟨Y d,.call f args,W⟩::os) O:=by
 obtain ⟨a,o,h⟩:=bind_some h;have:=c.snd a o;rw[p]at this;exact vt ha this rfl (u a o h)
theorem p8{γ:Type}{k:List γ->Option β}{x:Option (List γ)}{R:List γ->Az}{n:Nat}{e:γ->TV}(h:x.bind k=Y r)(c:Ct P x f ts R)(p:O.f0 d=X)(ha:vals O args=Y ts)(u:∀a,R a=.own (.list n (a.map e)))(hf:∀a,(e a).flat=X)(w:∀a,x=Y a->k a=Y r->WO (AT P) K os ((d,.xo n (a.map e))::O)):WO (AT P) K (⟨Y d,.Aaw f args,W⟩::os) O:=by
 obtain ⟨a,o,h⟩:=bind_some h;have:=c.snd a o;rw[u]at this;exact r6 p ha this rfl hf (w a o h)
theorem p7{γ:Type}{k:List γ->Option β}{x:Option (List γ)}{R:List γ->Az}{n:Nat}{e:γ->TV}(h:x.bind k=Y r)(c:Ct P x f ts R)(ha:Aak O args=Y ts)(p:∀a,R a=.own (.list n (a.map e)))(hf:∀a,(e a).flat=X)(u:∀a,x=Y a->k a=Y r->WO (AT P) K os ((d,.ow (.list n (a.map e)))::O)):WO (AT P) K (⟨Y d,.AaE f args,W⟩::os) O:=by
 obtain ⟨a,o,h⟩:=bind_some h;have:=c.snd a o;rw[p]at this;exact rx ha this rfl rfl hf (u a o h)
variable{us:α->Fq}
theorem uK{i s:Nat}{cs:List AS}{cs':α->List AS}{e:α->EV}(h:x.bind k=Y r)(c:Ct P x f ts R)(p:(args[i]?).bind (·.place O)=Y (s,0))(u:O.get s=.bx cs)(w:O.noX s W=X)(hd:d≠s)(ha:JV O i args=Y ts)(A:∀a,R a=.bo cs (cs' a) i (us a))(he:∀a,EV.ofs (us a)=e a)(B:∀a,x=Y a->k a=Y r->WO (AT P) K os ((d,e a)::(s,.bx (cs' a))::O)):WO (AT P) K (⟨Y d,.Aaf f args i,W⟩::os) O:=by
 obtain ⟨a,o,h⟩:=bind_some h;have:=c.snd a o;rw[A]at this;exact vr p u w hd ha this (he a) (B a o h)
end calls
inductive GS(g:Nat)(b:Bool):Ne->List PR->Ne->Nat->Prop
 |done {acc:Ne} {os:List PR}:GS g b acc os [] 0
 |step {acc js:Ne} {d n:Nat} {op:AE} {os:List PR}:GS g b (d::acc) os js n->GS g b acc (⟨Y d,op,Y (g,b)⟩::os) (d::js) (n+1)
 |nest {acc js:Ne} {d n g':Nat} {b':Bool} {op:AE} {os:List PR}:acc.contains g'=X->GS g b (d::acc) os js n->GS g b acc (⟨Y d,op,Y (g',b')⟩::os) (d::js) (n+1)
def wT:Ne->AB->(AB->Prop)->Prop
 |[],z,K=>K z|k::ks,z,K=>∃j,wT ks ((k,j)::z) K
structure Gj(js:Ne)(d:Nat)(v:TV)(z e:AB):Prop where
 of::out:wT js z λy=>e=(d,.tv v)::y
theorem nq{d:Nat}{v:TV}{z e:AB}(h:e=(d,.tv v)::z):Gj [] d v z e:=⟨h⟩
variable{ks:Ne}
theorem ug{k d:Nat}{v:TV}{j:EV}{z e:AB}(h:Gj ks d v ((k,j)::z) e):Gj (k::ks) d v z e:=⟨j,h.out⟩
theorem wv{js:Ne}{v:TV}{z:AB}(h:Gj js d v z O):WO S (Gj js d v z) [] O:=⟨h⟩
structure Z6(js:Ne)(z:AB)(Q:AB->Prop):Prop where
 of::out:∀(d:Nat)(v:TV)(e:AB),Gj js d v z e->∃y,e=(d,.tv v)::y/\Q y
theorem uh{z:AB}{Q:AB->Prop}(h:Q z):Z6 [] z Q:=⟨λ_ _ _ he=>⟨z,he.out,h⟩⟩
theorem qa{k:Nat}{z:AB}{Q:AB->Prop}(h:∀j,Z6 ks ((k,j)::z) Q):Z6 (k::ks) z Q:=⟨λd v e he=>by
 obtain ⟨j,o⟩:=he.out;exact(h j).out d v e ⟨o⟩⟩
theorem AA6{dd:Option Nat}{op:AE}{g:Nat}{b q:Bool}(h:O.get g=.tv (.bool q))(o:dJ g b q)(p:WO S K (⟨dd,op,W⟩::os) O):WO S K (⟨dd,op,Y (g,b)⟩::os) O:=ACY h o.out p
theorem zX{ρ:Type}{dd:Option Nat}{op:AE}{g:Nat}{q:Bool}{u v:Option ρ}{r:ρ}(w:O.get g=.tv (.bool q))(h:(if q=X then u else v)=Y r)
  (o:dJ g X q->q=X->u=Y r->WO S K (⟨dd,op,Y (g,X)⟩::os) O)(p:Wn g X q->q=T->v=Y r->WO S K (⟨dd,op,Y (g,X)⟩::os) O):WO S K (⟨dd,op,Y (g,X)⟩::os) O:=by
 cases q with
 |true=>exact o ⟨rfl⟩ rfl h|false=>exact p ⟨q?⟩ rfl h
theorem zW{ρ:Type}{dd:Option Nat}{op:AE}{g:Nat}{q:Bool}{u v:Option ρ}{r:ρ}(w:O.get g=.tv (.bool q))(h:(if q=X then u else v)=Y r)
  (o:Wn g T q->q=X->u=Y r->WO S K (⟨dd,op,Y (g,T)⟩::os) O)(p:dJ g T q->q=T->v=Y r->WO S K (⟨dd,op,Y (g,T)⟩::os) O):WO S K (⟨dd,op,Y (g,T)⟩::os) O:=by
 cases q with
 |true=>exact o ⟨q?⟩ rfl h|false=>exact p ⟨rfl⟩ rfl h
theorem xP{op:AE}{g:Nat}{b q:Bool}(h:O.get g=.tv (.bool q))(o:Wn g b q)(p:WO S K os ((d,.sk)::O)):WO S K (⟨Y d,op,Y (g,b)⟩::os) O:=AA5 h o.out p
theorem lh{d n:Nat}{js:Ne}{v:TV}(h:WO S (Gj js d v O) (os.take n) O)(o:Z6 js O λe=>WO S K (os.drop n) ((d,.tv v)::e)):WO S K os O:=
 AA4 n (Gj js d v) h λe he=>by
  obtain ⟨y,rfl,p⟩:=o.out d v e he;exact p
section groups
variable{g n:Nat}{js:Ne}{c:Bool}{dd gd:Option Nat}{op:AE}{x y z:AG}{gg:Option (Nat×Bool)}
variable{θ:K1}{os':List PR}
theorem zZ{k:Bool->Option β}(h:(if c=X then θ else Y T).bind k=Y r)(_:GS g X [] os js n)(A:O.get g=.tv (.bool c))(_:os[n]?=Y ⟨Y d,.pick x y z,gg⟩)
  (p:∀v,dJ g X c->c=X->θ=Y v->WO S (Gj js d (.bool v) O) (os.take (n+1)) O)(u:∀v,Wn g X c->c=T->Y T=Y v->WO S (Gj js d (.bool v) O) (os.take (n+1)) O)
  (w:∀v,k v=Y r->Z6 js O λe=>WO S K (os.drop (n+1)) ((d,.tv (.bool v))::e))(ho:os=⟨dd,op,Y (g,X)⟩::os'):WO S K (⟨dd,op,Y (g,X)⟩::os') O:=by
 obtain ⟨v,hv,h⟩:=bind_some h;rw[<-ho];refine lh (n:=n+1) (v:=.bool v) ?_ (w v h);rcases Bool.eq_false_or_eq_true c with o|o
 .exact p v ⟨o⟩ o (YN o hv)
 .exact u v ⟨by rw[o];rfl⟩ o (YM o hv)
theorem zY{k:Bool->Option β}(h:(if c=X then Y X else θ).bind k=Y r)(_:GS g T [] os js n)(A:O.get g=.tv (.bool c))(_:os[n]?=Y ⟨Y d,.pick x y z,gg⟩)
  (p:∀v,dJ g T c->c=T->θ=Y v->WO S (Gj js d (.bool v) O) (os.take (n+1)) O)(u:∀v,Wn g T c->c=X->Y X=Y v->WO S (Gj js d (.bool v) O) (os.take (n+1)) O)
  (w:∀v,k v=Y r->Z6 js O λe=>WO S K (os.drop (n+1)) ((d,.tv (.bool v))::e))(ho:os=⟨dd,op,Y (g,T)⟩::os'):WO S K (⟨dd,op,Y (g,T)⟩::os') O:=by
 obtain ⟨v,hv,h⟩:=bind_some h;rw[<-ho];refine lh (n:=n+1) (v:=.bool v) ?_ (w v h);rcases Bool.eq_false_or_eq_true c with o|o
 .exact u v ⟨by rw[o];rfl⟩ o (YN o hv)
 .exact p v ⟨o⟩ o (YM o hv)
theorem zV{e:Bool}(ho:os=⟨dd,op,Y (g,X)⟩::os')(_:GS g X [] os js n)(u:O.get g=.tv (.bool c))(_:os[n]?=Y ⟨Y d,.pick x y z,gg⟩)
  (h:dJ g X c->c=X->WO S (Gj js d (.bool e) O) (os.take (n+1)) O)(o:Wn g X c->c=T->WO S (Gj js d (.bool T) O) (os.take (n+1)) O)
  (p:Z6 js O λz=>WO S K (os.drop (n+1)) ((d,.tv (.bool (c&&e)))::z)):WO S K (⟨dd,op,Y (g,X)⟩::os') O:=by
 rw [<-ho];refine lh (n:=n+1) (v:=.bool (c&&e)) ?_ p;cases c
 .exact o ⟨rfl⟩ rfl
 .exact h ⟨rfl⟩ rfl
theorem zU{e:Bool}(ho:os=⟨dd,op,Y (g,T)⟩::os')(_:GS g T [] os js n)(u:O.get g=.tv (.bool c))(_:os[n]?=Y ⟨Y d,.pick x y z,gg⟩)
  (h:dJ g T c->c=T->WO S (Gj js d (.bool e) O) (os.take (n+1)) O)(o:Wn g T c->c=X->WO S (Gj js d (.bool X) O) (os.take (n+1)) O)
  (p:Z6 js O λz=>WO S K (os.drop (n+1)) ((d,.tv (.bool (c||e)))::z)):WO S K (⟨dd,op,Y (g,T)⟩::os') O:=by
 rw [<-ho];refine lh (n:=n+1) (v:=.bool (c||e)) ?_ p;cases c
 .exact h ⟨rfl⟩ rfl
 .exact o ⟨rfl⟩ rfl
end groups
variable{qi:Option Nat}{j:Int}
theorem zr{x:AG}{q n i:Nat}{es row:Fq}{e:α->TV}{l:List α}{a:α}{t:TV}(h:x.ev O=.lp q qi (j.toNat*n+i))(o:O.sx q qi=Y (n,es))(he:es=l.map e)(p:∀a,(e a).cells.length=n)(ha:idx l j=Y a)(hi:y_ i n=X)(hr:(e a).cells=row)(u:row[i]?=Y t)
  (w:WO S K os ((d,.tv t)::O)):WO S K (⟨Y d,.xld x,W⟩::os) O:=uE h o he p ha rfl hi hr u w
theorem w8{x:AG}{q n:Nat}{es row:Fq}{e:α->TV}{l:List α}{a:α}{t:TV}(h:x.ev O=.lp q qi (j.toNat*n))(o:O.sx q qi=Y (n,es))(he:es=l.map e)(p:∀a,(e a).cells.length=n)(ha:idx l j=Y a)(hi:y_ 0 n=X)(hr:(e a).cells=row)(u:row[0]?=Y t)
  (w:WO S K os ((d,.tv t)::O)):WO S K (⟨Y d,.xld x,W⟩::os) O:=uE (i:=0) h o he p ha rfl hi hr u w
variable{v:AG}
theorem xA{γ:Type}{s:Nat}{q n i:Nat}{env':AB}{es:Fq}{e:α->TV}{g:γ->TV}{l:List α}{a:α}{b:γ}{f:α->γ->α}(_:HX s f)(h:(AG.s s).ev O=.lp q qi (j.toNat*n+i))(p:O.sx q qi=Y (n,es))(hv:v.ev O=.tv (g b))(he:es=l.map e)(u:∀a,(e a).cells.length=n)(ha:idx l j=Y a)(hi:y_ i n=X)(w:(g b).cells=[g b])
  (hb:(e (f a b)).cells=(e a).cells.set i (g b))(o:O.x5 q qi n ((BG l j (f a b)).map e)=env')(A:WO S K os env'):WO S K (⟨W,.xst (.s s) v 1,W⟩::os) O:=uF h p hv he u ha rfl hi w hb rfl o A
theorem w9{x v:AG}{q n:Nat}{env':AB}{es:Fq}{e:α->TV}{l:List α}{a b:α}(h:x.ev O=.lp q qi (j.toNat*n))(p:O.sx q qi=Y (n,es))(hv:v.ev O=.tv (e b))(he:es=l.map e)(u:∀a,(e a).cells.length=n)(ha:idx l j=Y a)(hi:y_ 0 n=X)(w:(e b).cells=[e b])
  (hb:(e b).cells=(e a).cells.set 0 (e b))(o:O.x5 q qi n ((BG l j b).map e)=env')(A:WO S K os env'):WO S K (⟨W,.xst x v 1,W⟩::os) O:=uF (i:=0) h p hv he u ha rfl hi w hb rfl o A
end
end Go.Sf
namespace Go.Sf
section
variable{S:FuncId->Fq->Az->Prop}{K:AB->Prop}{os:List PR}{O:AB}{d:Nat}
variable{j:Int}
theorem ABu{α:Type}{x:AG}{s o:Nat}{es:Fq}{e:α->TV}{l:List α}{a:α}(h:x.ev O=.nh s o (.el j.toNat))(u:O.nat s o=Y es)(he:es=l.map e)(ha:idx l j=Y a)(k:WO S K os ((d,.nh s o (.rw j.toNat))::O)):WO S K (⟨Y d,.nld x,W⟩::os) O:=by
 replace k:=k.out;refine⟨?_⟩;subst he;obtain⟨A,B,w⟩:=H8 ha;have p:j.toNat<l.length:=(v?.1 w).1;simp only[wpOps,PR.wp,AE.wp,h,u,An];exact⟨by simpa using p,k⟩
variable{j2:Int}
theorem ABv{α:Type}{x v:AG}{s o:Nat}{es:Fq}{env':AB}{e:List α->TV}{e2:α->TV}{l:List (List α)}{m:List α}{A b:α}{t:TV}(h:x.ev O=.nh s o (.rp j.toNat j2.toNat))(B:O.nat s o=Y es)(hv:v.ev O=.tv t)(he:es=l.map e)(w:∀m,e m=.list 1 (m.map e2))(ha:idx l j=Y m)(hb:idx m j2=Y A)(C:t=e2 b)(D:t.cells=[t])(E:t.flat=X)
  (p:O.AbA s o ((BG l j (BG m j2 b)).map e)=env')(k:WO S K os env'):WO S K (⟨W,.nst x v,W⟩::os) O:=by
 replace k:=k.out;refine⟨?_⟩;subst he p C;obtain⟨H,I,F⟩:=H8 ha;obtain⟨m0,m1,G⟩:=H8 hb;have u:j2.toNat<m.length:=(v?.1 G).1;simp only[wpOps,PR.wp,AE.wp,h,B,hv,An];refine⟨m.map e2,by rw[w_,F];simp[w],g_,D,E,?_⟩;have:(l.map e).set j.toNat (.list 1 ((m.map e2).set j2.toNat (e2 b)))=(BG l j (BG m j2 b)).map e:=by
  simp only[BG,List.map_set,w]
 rw [this];exact k
end
section
variable{P:Program}{K:AB->Prop}{os:List PR}{O:AB}{d:Nat}{α β γ ρ:Type}{f:FuncId}{args:List AG}{ts:Fq}{R:α->Az}{x:Option α}{k:α->Option ρ}{r:ρ}
variable{j:Int}
theorem zf{x i:AG}{s o:Nat}{es:Fq}{e:α->TV}{l:List α}{ik:IntKind}{S:FuncId->Fq->Az->Prop}(h:(idx l j).bind k=Y r)(p:x.ev O=.nh s o .hd)(u:O.nat s o=Y es)(hi:i.val O=Y (.int ik j))(he:es=l.map e)
  (w:∀a,idx l j=Y a->k a=Y r->WO S K os ((d,.nh s o (.el j.toNat))::O)):WO S K (⟨Y d,.nia x i,W⟩::os) O:=by
 obtain ⟨a,ha,h⟩:=bind_some h;have A:=(w a ha h).out;refine⟨?_⟩;subst he;obtain⟨C,E,D⟩:=H8 ha;have B:j.toNat<l.length:=(v?.1 D).1;simp only[wpOps,PR.wp,AE.wp,p,u,hi,An];exact⟨C,by simp only[c9];omega,A⟩
variable{e2:α->TV}{j2:Int}
theorem zg{x i:AG}{s o:Nat}{es:Fq}{e:List α->TV}{l:List (List α)}{m:List α}{ik:IntKind}{S:FuncId->Fq->Az->Prop}(h:(idx m j2).bind k=Y r)(p:x.ev O=.nh s o (.rw j.toNat))(u:O.nat s o=Y es)(hi:i.val O=Y (.int ik j2))(he:es=l.map e)(w:∀m,e m=.list 1 (m.map e2))(ha:idx l j=Y m)
  (A:∀a,idx m j2=Y a->k a=Y r->WO S K os ((d,.nh s o (.rp j.toNat j2.toNat))::O)):WO S K (⟨Y d,.nia x i,W⟩::os) O:=by
 obtain ⟨b,hb,h⟩:=bind_some h;have B:=(A b hb h).out;refine⟨?_⟩;subst he;obtain⟨F,G,D⟩:=H8 ha;obtain⟨m0,m1,E⟩:=H8 hb;have C:j2.toNat<m.length:=(v?.1 E).1;simp only[wpOps,PR.wp,AE.wp,p,u,hi,An];exact⟨m0,m.map e2,by rw[w_,D];simp[w],by simp only[c9];omega,B⟩
theorem wc{mm q s o:Nat}{es u:Fq}{cs cs':List AS}{n:Nat}{e:β->TV}{l:List β}{m:β}{k:List β->Option ρ}{S:FuncId->Fq->Az->Prop}(h:(Am l [m]).bind k=Y r)(w:O.get mm=.nh s o .hd)(A:O.get q=.x1 n u)(B:O.get s=.bx cs)(C:O.nat s o=Y es)(he:es=l.map e)(hf:TV.list n u=e m)(p:O.f0 d=X)(hd:d≠mm/\d≠q/\mm≠q)(D:cs.set o ⟨T,.undef⟩=cs')
  (E:∀a,Am l [m]=Y a->k a=Y r->WO S K os ((d,.xn (a.map e))::(s,.bx cs')::(mm,.undef)::(q,.undef)::O)):WO S K (⟨Y d,.AaB mm q,W⟩::os) O:=by
 obtain ⟨a,ha,h⟩:=bind_some h;have G:=(E a ha h).out;refine⟨?_⟩;subst he D;unfold Am at ha;split at ha
 next F=>cases ha;simp only[wpOps,PR.wp,AE.wp,w,A,B,C,An];refine⟨by simpa using F,⟨p,hd⟩,?_⟩;rw[hf];simpa[AB.put]using G
 .cases ha
theorem p6{u:α->List β}{v:α->List γ}{w A:Nat}{p:β->TV}{e2:γ->TV}(h:x.bind k=Y r)(c:Ct P x f ts R)(ha:vals O args=Y ts)(E:∀a,R a=.zl [⟨X,.list w ((u a).map p)⟩,⟨X,.list A ((v a).map e2)⟩])(F:∀a,(p a).flat=X)(G:∀a,(e2 a).flat=X)
  (H:∀a,x=Y a->k a=Y r->WO (AT P) K os ((d,.zl [⟨X,.xl w ((u a).map p)⟩,⟨X,.xl A ((v a).map e2)⟩])::O)):WO (AT P) K (⟨Y d,.Aap f args,W⟩::os) O:=by
 obtain ⟨a,D,h⟩:=bind_some h;have C:=c.snd a D;rw[E]at C;have I:=(H a D h).out;have o:∀{τ:Type}(e:τ->TV)(l:List τ),(∀a,(e a).flat=X)->TV.wA (l.map e)=X:=by
  intro τ e l he
  induction l with
  |nil=>rfl|cons a l J=>simp[TV.wA,he,J]
 refine ⟨?_⟩;simp only[wpOps,PR.wp,AE.wp,ha,An];refine⟨_,C,λc B=>?_,λ_=>I⟩;simp only[v!,List.not_mem_nil,or_false]at B;rcases B with rfl|rfl
 .exact⟨_,_,rfl,o _ _ F⟩
 .exact⟨_,_,rfl,o _ _ G⟩
inductive NL:List AS->List AS->Prop
 |nil {xs:List AS}:xs=[]->NL xs []
 |cons {xs ys zs:List AS} {o:Bool} {t:TV}:xs=⟨o,t⟩::ys->NL ys zs->NL xs (⟨o,t⟩::zs)
theorem NL.eq{xs o:List AS}(h:NL xs o):xs=o:=by
 induction h with
 |nil h=>exact h|cons h _ p=>rw[h,p]
theorem zk{S:FuncId->Fq->Az->Prop}{K:AB->Prop}{os:List PR}{O:AB}{n s h:Nat}{x v:AG}{cs cs':List AS}{t:TV}(o:x.place O=Y (s,h))(p:O.get s=.bx cs)(hv:v.ev O=.tv t)(u:t.cells.length=n)(hb:x? (h+n) cs.length=X)(w:NL (cs.take h++t.cells.map (⟨T,·⟩)++cs.drop (h+n)) cs')
  (k:WO S K os ((s,.bx cs')::O)):WO S K (⟨W,.st n x v,W⟩::os) O:=ACe o p hv u hb w.eq k
theorem w7{S:FuncId->Fq->Az->Prop}{K:AB->Prop}{os:List PR}{O:AB}{s h q:Nat}{x:AG}{cs cs':List AS}{t:TV}(o:x.place O=Y (s,h))(p:O.get s=.bx cs)(hv:O.get q=.ow t)(u:q≠s)(hb:y_ h cs.length=X)(w:NL (cs.set h ⟨X,t⟩) cs')
  (k:WO S K os ((s,.bx cs')::(q,.tv t)::O)):WO S K (⟨W,.st 1 x (.s q),W⟩::os) O:=AB0 o p hv u hb w.eq k
theorem aR:∀(ts:List (Nat×Nat×TV))(done rest:Fq),XT done.length ts=X->(JZ ts).length<=rest.length->F2 (done++rest) ts=Y (done++(JZ ts++rest.drop (JZ ts).length))
 |[],done,rest,_,h=>by simp[F2,JZ]|(i,n,t)::r,done,rest,p,h=>by
  simp only[XT,ne,Nat.beq_eq]at p;obtain⟨⟨rfl,o⟩,hr⟩:=p;simp only[JZ,az]at h;have u:n<=rest.length:=U
  simp only[F2];rw[a6 ⟨o,by rw[az];omega⟩];have w:done++rest=done++(rest.take n++rest.drop n):=by rw[List.take_append_drop]
  rw [w,VX t.cells done (rest.take n) (rest.drop n) e!,<-ci];rw[aR r (done++t.cells) (rest.drop n) (by rw[az,o];exact hr) (by rw[List.length_drop];omega)];simp[JZ,List.drop_drop,o]
inductive NT:Fq->Fq->Prop
 |nil {xs:Fq}:xs=[]->NT xs []
 |cons {xs ys zs:Fq} {t:TV}:xs=t::ys->NT ys zs->NT xs (t::zs)
theorem NT.eq{xs o:Fq}(h:NT xs o):xs=o:=by
 induction h with
 |nil h=>exact h|cons h _ p=>rw[h,p]
variable{zero:Fq}
theorem wg{S:FuncId->Fq->Az->Prop}{K:AB->Prop}{os:List PR}{O:AB}{d:Nat}{parts:List (Nat×Nat×AG)}{ts:List (Nat×Nat×TV)}{cs:Fq}(h:Hn O parts=Y ts)(o:XT 0 ts=X)(p:x? (JZ ts).length zero.length=X)(u:NT (JZ ts++zero.drop (JZ ts).length) cs)(k:WO S K os ((d,.tv (.agg cs))::O)):WO S K (⟨Y d,.bld zero parts,W⟩::os) O:=
 dB h (by have:=aR ts [] zero o (Nat.le_of_ble_eq_true p);simpa using this) (by rw[u.eq]) k
structure HY{α A B C:Type}(n:Nat)(f:A->B->C->α)(g1:A->TV)(g2:B->TV)(g3:C->TV):Prop where
variable{v:AG}{qi:Option Nat}
theorem xB{S:FuncId->Fq->Az->Prop}{K:AB->Prop}{os:List PR}{O:AB}{α A B C:Type}{f:A->B->C->α}{o:Nat}{q n:Nat}{env':AB}{es cs cs':Fq}{e:α->TV}{l:List α}{a:α}{E:A}{F:B}{G:C}{p:A->TV}{u:B->TV}{w:C->TV}(_:HY o f p u w)(h:(AG.s o).ev O=.lp q qi (j.toNat*n))(H:O.sx q qi=Y (n,es))(he:es=l.map e)(I:∀a,(e a).cells.length=n)(hv:v.ev O=.tv (.agg cs))(J:NT cs cs')(hb:cs'=[p E,u F,w G])(hf:∀a b c,TV.agg [p a,u b,w c]=e (f a b c))(ha:idx l j=Y a)(L:y_ 0 n=X)
  (D:O.x5 q qi n ((BG l j (f E F G)).map e)=env')(k:WO S K os env'):WO S K (⟨W,.xst (.s o) v n,W⟩::os) O:=uG h H (by rw[hv,J.eq,hb,hf]) he I ha L D k
theorem zu{S:FuncId->Fq->Az->Prop}{α:Type}{x v:AG}{q n:Nat}{env':AB}{es:Fq}{e:α->TV}{l:List α}{a b:α}(h:x.ev O=.lp q qi (j.toNat*n))(p:O.sx q qi=Y (n,es))(he:es=l.map e)(u:∀a,(e a).cells.length=n)(hv:v.ev O=.tv (e b))(ha:idx l j=Y a)(w:y_ 0 n=X)
  (o:O.x5 q qi n ((BG l j b).map e)=env')(k:WO S K os env'):WO S K (⟨W,.xst x v n,W⟩::os) O:=uG h p hv he u ha w o k
end
section
variable{S:FuncId->Fq->Az->Prop}{K:AB->Prop}{os:List PR}{O:AB}{d:Nat}
theorem ABr(k:∀b,WO S K os ((d,.mx (.mp b []))::O)):WO S K (⟨Y d,.mkm,W⟩::os) O:=
 ⟨λb=>(k b).out⟩
theorem ABt{s:Nat}{last:Option ((Int×Int)×Int)}{o:Bf}(h:O.get s=.mx (.mi last o))(hd:d≠s)(w:o=[]->WO S K os ((d,.tp [.bool T])::O))(A:∀p u,o.Perm (p::u)->WO S K os ((d,.tp [.bool X,S3 p.1,.int .i64 p.2])::(s,.mx (.mi (Y p) u))::O)):WO S K (⟨Y d,.mnx s,W⟩::os) O:=by
 refine ⟨?_⟩;simp only[wpOps,PR.wp,AE.wp,h];exact⟨hd,λe=>(w e).out,λp t B=>(A p t B).out⟩
variable{kvs:Bf}
theorem r0{f:FuncId}{args:List AG}{ts us:Fq}(hv:vals O args=Y ts)(h:S f ts (.mpr kvs us))(k:∀b,WO S K os ((d,.mx (.tm b kvs us))::O)):WO S K (⟨Y d,.Aau f args,W⟩::os) O:=by
 refine ⟨?_⟩;simp only[wpOps,PR.wp,AE.wp,hv,An];exact .inr ⟨kvs,us,h,λ_ b=>(k b).out⟩
theorem ry{f:FuncId}{args:List AG}{ts us:Fq}(hv:vals O args=Y ts)(h:S f ts (.tp us))(k:WO S K os ((d,.tp us)::O)):WO S K (⟨Y d,.Aau f args,W⟩::os) O:=by
 refine ⟨?_⟩;simp only[wpOps,PR.wp,AE.wp,hv,An];exact .inl ⟨us,h,λ_=>k.out⟩
theorem ML{ss:Ne}{s:Nat}{r:AB}{m:MX}(h:O.get s=.mx m)(k:Kp O ss r):Kp O (s::ss) ((s,.mx m)::r):=PM h k
theorem ABT{ss:Ne}{s:Nat}{r:AB}{q:List (Nat×EV)}{m:MX}(h:look q s=W)(o:O.get s=.mx m)(k:Nm O q ss r):Nm O q (s::ss) ((s,.mx m)::r):=RT h o k
end
def PP(r:Bf×Int):Az:=if r.2=0 then .mpr r.1 [.int .i64 r.2]else .tp [.undef,.int .i64 r.2]
structure HMO(o:Nat):Prop where
variable{kvs:Bf}
theorem uy{h:List RV}{O:AB}{e:Int}(he:(!decide (e=0))=X)(o:h.length≠1)(p:Eu O h=Y [.undef,.int .i64 e]):Ba h (PP (kvs,e)) O:=by
 simp only[Bool.not_eq_true',decide_eq_false_iff_not]at he;simp only[PP,ac he];exact⟨o,p⟩
theorem uz{s o b:Nat}{h:List RV}{O:AB}(_:HMO o)(p:O.get s=.tv (.AaF b))(u:O.get o=.mx (.mp b kvs))(w:h≠[])(A:Eu O h=Y [.int .i64 0]):Ba (.tmp s::h) (PP (kvs,0)) O:=by
 simp only[PP,if_true,Ba];exact⟨w,⟨b,o,p,u⟩,A⟩
section
variable{P:Program}{α β:Type}{K:AB->Prop}{os:List PR}{O:AB}{d:Nat}{x:Option α}{k:α->Option β}{r:β}{f:FuncId}{args:List AG}{ts:Fq}{R:α->Az}
variable{us:α->Fq}
theorem p5{i s:Nat}{cs:List AS}{q:α->Bool}{u v:α->List AS}{e:α->EV}(h:x.bind k=Y r)(c:Ct P x f ts R)(A:(args[i]?).bind (·.place O)=Y (s,0))(B:O.get s=.bx cs)(C:O.noX s W=X)(hd:d≠s)(ha:JV O i args=Y ts)(D:∀a,R a=.bo cs (if q a=X then u a else v a) i (us a))(he:∀a,EV.ofs (us a)=e a)
  (E:∀a,x=Y a->q a=X->k a=Y r->WO (AT P) K os ((d,e a)::(s,.bx (u a))::O))(F:∀a,x=Y a->q a=T->k a=Y r->WO (AT P) K os ((d,e a)::(s,.bx (v a))::O)):WO (AT P) K (⟨Y d,.Aaf f args i,W⟩::os) O:=by
 refine uK h c A B C hd ha D he (λa o p=>?_);cases w:q a with
 |true=>rw[a6 rfl];exact E a o w p|false=>rw[ac V];exact F a o w p
end
section
variable{S:FuncId->Fq->Az->Prop}{a b:PC}{O:AB}
variable{Q:Q}
theorem wk{c:AG}{β:Type}{q:Bool}{u v:Option β}{r:β}(p:c.val O=Y (.bool q))(h:(if q=X then u else v)=Y r)(o:q=X)(k:u=Y r->WP S a Q O):WP S (.cond c a b) Q O:=
 TA p o (k (YN o h))
theorem wj{c:AG}{β:Type}{q:Bool}{u v:Option β}{r:β}(p:c.val O=Y (.bool q))(h:(if q=X then u else v)=Y r)(o:q=T)(k:v=Y r->WP S b Q O):WP S (.cond c a b) Q O:=
 S9 p o (k (YM o h))
end
end Go.Sf
set_option maxRecDepth 100000
namespace Go.Sf
theorem Oj{P:Prop}(p:P:=by first|exact rfl|exact Ml.eq):P:=p
theorem tO{P:Prop}(p:P:=by
 first|exact ACC rfl Oj|exact ACB rfl|exact zw rfl rfl Oj|exact zv rfl rfl|exact ACE rfl|exact ACD rfl Oj|exact ACG rfl rfl|exact ACF|exact ACA a!):P:=p
theorem te{P:Prop}(p:P:=by
 repeat (first|apply GS.step|(apply GS.nest;exact rfl))
 exact GS.done):P:=p
theorem nlq{P:Prop}(p:P:=by
 repeat (apply NL.cons;exact rfl)
 exact NL.nil rfl):P:=p
theorem ntq{P:Prop}(p:P:=by
 repeat (apply NT.cons;exact rfl)
 exact NT.nil rfl):P:=p
theorem lmq{P:Prop}(p:P:=by
 repeat (apply Lm.cons;exact rfl)
 exact Lm.nil):P:=p
theorem gnq{P:Prop}(p:P:=by
 intro _ k
 repeat' (first|exact k|exact rfl|exact Nat.le_of_ble_eq_true rfl|exact Nat.ne_of_beq_eq_false rfl|decide|apply And.intro)):P:=p
theorem au{P:Prop}(p:P:=by
 repeat' (first
  |(show WO _ _ _ _;first
    |apply O0
    |(apply st 1;exact rfl;first|exact λ_ k=>k|exact λ_ k=>⟨rfl,k⟩)
    |(apply AA6;exact rfl;assumption)
    |(apply xP;exact rfl;assumption)
    |(apply ABo;exact rfl;exact Oj)
    |(apply vw;exact rfl;assumption;exact rfl)
    |(apply vu;exact rfl;assumption;exact rfl)
    |(apply uM;assumption;exact h;infer_instance;exact rfl;exact λ_=>rfl;intro x o h)|(apply p5;exact h;infer_instance;exact rfl;exact rfl;exact rfl;decide;exact rfl;exact λ_=>rfl;exact λ_=>rfl;intro x o B h;rotate_left;intro x o B h;rotate_left)|(apply ACH;exact rfl;exact h;infer_instance;intro x c h;apply st 3;exact rfl;first|exact λ_ k=>⟨_,⟨c,rfl⟩,λ_=>k⟩|exact λ_ k=>⟨_,c,λ_=>k⟩|exact λ_ k=>⟨_,c,k⟩|exact λ_ k=>⟨rfl,_,_,.inl c,λ_=>k⟩|exact λ_ k=>⟨⟨rfl,Nat.ne_of_beq_eq_false rfl⟩,_,_,c,λ_=>k⟩|exact λ_ k=>⟨Nat.ne_of_beq_eq_false rfl,_,c,λ_=>k⟩|exact λ_ k=>⟨rfl,_,_,_,rfl,c,λ_=>k⟩|exact λ_ k=>⟨⟨Nat.ne_of_beq_eq_false rfl,rfl⟩,rfl,rfl,_,_,rfl,c,λ_=>k⟩)
    |(apply wd;exact h;exact rfl;exact rfl;exact Oj;exact Oj;infer_instance;intro x o h)
    |(apply ACI;exact rfl;exact h;intro x o h;first|(apply ABl o;exact rfl;exact rfl;exact Oj;exact rfl)|(apply uA o;exact rfl;exact rfl;exact Oj;exact Oj;exact rfl)|(apply ABy o;exact rfl;exact Oj;exact rfl;exact rfl)|(apply yq o;exact rfl;exact rfl)|(apply yr o;exact rfl;exact rfl;exact rfl)|(apply AB1 o;exact rfl;exact rfl;exact Oj;exact rfl)|(apply yi o;exact rfl;exact rfl;exact Oj;exact Oj;exact rfl;exact rfl;decide)|(apply yj o;exact rfl;exact rfl;exact rfl;exact rfl;exact rfl;exact rfl;decide;exact rfl;exact rfl)|(apply ABj o;exact rfl;exact rfl;exact rfl;exact rfl;exact rfl;decide)|(apply ABs o;exact rfl;exact rfl;exact rfl;exact rfl))
    |(apply yt;exact rfl;exact Oj)
    |(apply we;(with_reducible exact h);infer_instance;exact rfl;exact rfl;exact rfl;intro x o h)
    |(apply yk;exact rfl;exact rfl;exact rfl;exact rfl)
    |(apply wg;exact rfl;exact rfl;exact rfl;exact ntq)
    |(apply dB;exact rfl;exact rfl;exact rfl)
    |(apply zc;(with_reducible exact h);infer_instance;exact rfl;exact rfl;exact rfl;intro x o h)
    |(apply tM;exact rfl;exact rfl;exact rfl)
    |(apply zb;exact rfl;exact rfl;exact rfl;exact rfl)
    |(apply wy;exact rfl;exact rfl;exact rfl)
    |(apply w6;exact rfl;exact rfl;exact rfl;exact rfl)
    |(apply zk;exact rfl;exact rfl;exact rfl;exact rfl;exact rfl;exact nlq)
    |(apply w7;exact rfl;exact rfl;exact rfl;decide;exact rfl;exact nlq)
    |(apply ABp;exact rfl;exact rfl)
    |(apply ABq;exact rfl;exact rfl)
    |(apply st 2;exact rfl;exact gnq)
    |(apply sn;exact rfl;exact gnq)
    |(apply ACZ;exact rfl)
    |(apply ABm;exact rfl)
    |(apply uL;exact h;infer_instance;exact rfl;exact λ_=>rfl;intro x o h)
    |(apply zh;exact h;exact rfl;exact rfl;intro x o h)
    |(apply zi;exact h;exact rfl;exact rfl;intro x o h)
    |(apply zR;exact h;exact rfl;exact rfl;decide;intro x o h)
    |(apply w5;exact h;exact rfl;exact rfl;intro x o h)
    |(apply wW;exact rfl;exact rfl;infer_instance;exact rfl;exact rfl;exact rfl)
    |(apply wY;exact rfl;exact rfl;infer_instance;exact rfl;exact rfl;exact rfl)
    |refine wX rfl rfl rfl rfl rfl ?_
    |refine wZ rfl rfl rfl rfl rfl ?_
    |(apply zX;exact rfl;(with_reducible exact h);intro A B h;rotate_left;intro A B h;rotate_left)
    |(apply zW;exact rfl;(with_reducible exact h);intro A B h;rotate_left;intro A B h;rotate_left)
    |(apply zZ h (ho:=rfl);exact te;exact rfl;exact rfl;intro v A B h;rotate_left;intro v A B h;rotate_left;intro v h;rotate_left)
    |(apply zY h (ho:=rfl);exact te;exact rfl;exact rfl;intro v A B h;rotate_left;intro v A B h;rotate_left;intro v h;rotate_left)
    |(apply zV rfl;exact te;exact rfl;exact rfl;intro A B;rotate_left;intro A B;rotate_left 3)
    |(apply zU rfl;exact te;exact rfl;exact rfl;intro A B;rotate_left;intro A B;rotate_left 3)
    |apply wv
    |(apply w4;exact rfl;exact lmq;exact λ_=>rfl;infer_instance)|(apply wz;exact rfl;exact lmq;exact λ_=>rfl)
    |(apply ze;exact rfl;exact rfl)
    |(apply zT;exact rfl;infer_instance)
    |(apply w8;exact rfl;exact rfl;exact rfl;exact λ_=>rfl;assumption;exact rfl;exact rfl;exact rfl)|(apply zr;exact rfl;exact rfl;exact rfl;exact λ_=>rfl;assumption;exact rfl;exact rfl;exact rfl)|(apply xA;assumption;exact rfl;exact rfl;exact rfl;exact rfl;exact λ_=>rfl;assumption;exact rfl;exact rfl;exact rfl;exact rfl)|(apply w9;exact rfl;exact rfl;exact rfl;exact rfl;exact λ_=>rfl;assumption;exact rfl;exact rfl;exact rfl;exact rfl)|(apply xB;assumption;exact rfl;exact rfl;exact rfl;exact λ_=>rfl;exact rfl;exact ntq;exact rfl;exact λ_ _ _=>rfl;assumption;exact rfl;exact rfl)|(apply zu;exact rfl;exact rfl;exact rfl;exact λ_=>rfl;exact rfl;assumption;exact rfl;exact rfl)|(apply p8;exact h;infer_instance;exact rfl;exact rfl;exact λ_=>rfl;exact λ_=>rfl;intro x o h)|(apply p7;exact h;infer_instance;exact rfl;exact λ_=>rfl;exact λ_=>rfl;intro x o h)
    |(apply za;exact h;exact rfl;exact Oj;intro u h)
    |(apply uB;exact rfl;exact rfl;intro z D;replace h:=uW h z D)
    |(apply ym;exact rfl)
    |(apply zf;exact h;exact rfl;exact rfl;exact rfl;exact Oj;intro x o h)
    |(apply ABu;exact rfl;exact rfl;exact Oj;assumption)
    |(apply zg;exact h;exact rfl;exact rfl;exact rfl;exact Oj;exact λ_=>rfl;assumption;intro x o h)|(apply ABv;exact rfl;exact rfl;exact rfl;exact Oj;exact λ_=>rfl;assumption;assumption;exact rfl;exact rfl;exact rfl;exact rfl)
    |(apply wc;exact h;exact rfl;exact rfl;exact rfl;exact rfl;exact Oj;exact rfl;exact rfl;decide;exact rfl;intro x o h)
    |(apply p6;exact h;infer_instance;exact rfl;exact λ_=>rfl;exact λ_=>rfl;exact λ_=>rfl;intro x o h)
    |(apply ABr;intro b;have K:=K b))
  |(show WP _ _ _ _;first
    |with_reducible apply zS
    |apply MG
    |apply RE
    |(apply wo;exact rfl)
    |(apply zj;exact rfl;exact rfl)
    |apply dL
    |apply lG
    |apply nI
    |(apply TA;exact rfl;with_reducible rfl)
    |(apply S9;exact rfl;with_reducible rfl)
    |(apply ww;exact rfl;exact h;assumption;exact rfl;intro w B h;rotate_left;intro w B h;rotate_left;intro w h;rotate_left)
    |(apply wk;exact rfl;exact h;assumption;intro h)
    |(apply wj;exact rfl;exact h;assumption;intro h)
    |(apply wn;exact rfl;exact h;intro B h;rotate_left;intro B h;rotate_left)
    |(apply TA;exact rfl;apply dlt;assumption)
    |(apply S9;exact rfl;apply ACX;assumption)
    |(apply wq;(first|assumption|(apply HB.a;assumption));exact h;exact C;exact tO;exact rfl;exact rfl;exact λ_ _=>rfl;intro i s r hi h C;rotate_left;intro i s hi;clear h;rotate_left;intro s h;rotate_left)
    |(apply wu;(first|assumption|(apply HB.a;assumption));assumption;exact rfl;exact h;exact C;exact tO;exact rfl;exact rfl;exact λ_ _=>rfl;intro i s r hi h C;rotate_left;intro i s hi;clear h;rotate_left;intro s h;rotate_left)
    |(apply wt;(first|assumption|(apply HB.a;assumption));exact h;exact C;exact tO;exact rfl;exact rfl;exact λ_ _=>rfl;intro i s r hi h C;rotate_left;intro i s hi;clear h;rotate_left;intro s h;rotate_left)
    |(apply ws;(first|assumption|(apply HB.a;assumption));exact h;exact C;exact tO;exact rfl;exact rfl;exact λ_ _=>rfl;intro i s r hi h C;rotate_left;intro i s hi;clear h;rotate_left;intro s h;rotate_left)
    |(apply zq;assumption;assumption;exact rfl;exact h;exact rfl;exact rfl;intro s r h C;rotate_left;intro s h;rotate_left)
    |(apply zp;assumption;exact h;exact rfl;exact rfl;intro s r h C;rotate_left;intro s h;rotate_left)
    |(apply zm;assumption;exact h;exact rfl;exact rfl;intro s r h C;rotate_left;intro s h;rotate_left)
    |apply jM
    |cases h)
  |(show Kp _ _ _;first
    |exact Jg
    |(apply MN;exact rfl)
    |(apply ABE;exact rfl)
    |(apply MK;exact rfl)
    |(apply ABG;exact rfl)
    |(apply ABC;exact rfl)
    |(apply MM;exact rfl)
    |(apply MO;exact rfl)
    |(apply ABD;exact rfl)
    |(apply ABF;exact rfl)
    |(apply xd;exact rfl)
    |(apply ML;exact rfl))
  |(show Nm _ _ _ _;first
    |exact xj
    |(apply xi;exact rfl)
    |(apply ABW;exact rfl;exact rfl)
    |(apply ABU;exact rfl;exact rfl)
    |(apply ABR;exact rfl;exact rfl)
    |(apply ABY;exact rfl;exact rfl)
    |(apply ABQ;exact rfl;exact rfl)
    |(apply ABV;exact rfl;exact rfl)
    |(apply ABX;exact rfl;exact rfl)
    |(apply ABS;exact rfl;exact rfl)
    |(apply ABT;exact rfl;exact rfl))
  |apply uh
  |(apply qa;intro j)
  |apply ug
  |exact nq rfl
  |(cases h;exact nq rfl)
  |apply dk
  |(apply ua;decide)
  |intro C
  |(cases h;first|exact rfl|exact⟨rfl⟩|exact⟨rfl,rfl⟩|exact⟨_,rfl,rfl⟩|exact⟨_,rfl,⟨rfl⟩⟩|exact⟨rfl,_,rfl,⟨rfl⟩⟩|exact⟨a!,rfl⟩|exact⟨_,rfl,a!,rfl⟩|exact⟨_,rfl,rfl,rfl⟩|exact uz (by assumption) rfl rfl a! rfl|exact⟨_,rfl,uy (by first|assumption|decide) a! rfl⟩)
  |exact⟨rfl,⟨rfl⟩⟩)):P:=p
end Go.Sf
