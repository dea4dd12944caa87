/- Contracts that are found by themselves: rules that take the typed text along, and the script that applies them. -/
import Derived.Test.YthcncnllajfkfaaGreatSfLib
set_option linter.all false
open Option renaming some->Y,none->W
open Bool renaming true->X,false->T
open List renaming map_map->w_,map_id->w!,take_of_length_le->w?,mem_cons->x_,getElem?_eq_some_iff->x!,getElem?_map->x?
open Nat renaming beq->y_,eq_of_beq_eq_true->y!,ble_self_eq_true->y?,zero_add->z_,ble->z!,blt->z?
namespace Go.Sf
class Ct(P:Program){α:Type}(x:Option α)(f:outParam FuncId)(ts:outParam Fq)(R:outParam (α->A9)):Prop where
 snd:∀r,x=Y r->AV P f ts (R r)
class Ml(es:Fq){α:outParam Type}(e:outParam (α->TV))(l:outParam (List α)):Prop where
 eq:es=l.map e
class dG{α:Type}(e:α->TV)where
 un:Fq->α
 dec:∀a b,∃i:Decidable (a=b),CJ (e a).cells (e b).cells=Y (@decide (a=b) i)
class Fz(cs:List AR)(row:outParam Fq):Prop where
 h:cs.map (·.t)=row
instance(priority:=high){l:Fq}:Fz (l.map λx=>(⟨T,x⟩:AR)) l:=⟨by rw[w_];exact w! _⟩
instance(priority:=low){cs:List AR}:Fz cs (cs.map (·.t)):=⟨rfl⟩
class En(α:Type)(e:outParam (α->TV)):Prop where
class Fl{α:Type}(e:α->TV)(n:outParam Nat)(f:outParam (List α->TV)):Prop where
 eq:∀l,f l=.list n (l.map e)
structure Kp(O:AB)(l:QQ)(r:AB):Prop where
 of::out:O.fl l=r
def look:List (Nat×EV)->Nat->Option EV
 |[],_=>W|(k,e)::r,n=>if k=n then Y e else look r n
def x6(O:AB)(m:List (Nat×EV)):QQ->AB
 |[]=>[]|s::ss=>(s,(look m s).getD (O.get s))::x6 O m ss
structure Nm(O:AB)(m:List (Nat×EV))(l:QQ)(r:AB):Prop where
 of::out:x6 O m l=r
structure Rn(a b:AB):Prop where
 of::out:a=b
structure HJ{σ:Type}(n:Nat)(M:σ->List (Nat×EV)):Prop where
structure HA{σ:Type}(n Dv q i:Nat)(M:Int->σ->List (Nat×EV)):Prop where
structure HB{σ:Type}(n Dv q i:Nat)(M:Int->σ->List (Nat×EV)):Prop where
theorem HB.a{σ:Type}{n Dv q i:Nat}{M:Int->σ->List (Nat×EV)}(_:HB n Dv q i M):HA n Dv q i M:=⟨⟩
structure HW{σ:Type}(n:Nat)(M:σ->List (Nat×EV)):Prop where
structure HR{β:Type}(R:β->AB->Prop):Prop where
structure HS(n:Nat):Prop where
structure HX{α γ:Type}(n:Nat)(f:α->γ->α):Prop where
structure dI(g:Nat)(b q:Bool):Prop where
 of::out:q=b
structure XC(g:Nat)(b q:Bool):Prop where
 of::out:q=!b
def KR(n:AB->Prop)(l:QQ):AB->Prop:=λe=>n (e.fl l)
section
variable{O:AB}{s:Nat}{ss:QQ}{r:AB}{m:List (Nat×EV)}
theorem Jd:Kp O [] []:=⟨rfl⟩
theorem PT{e:EV}(h:O.get s=e)(k:Kp O ss r):Kp O (s::ss) ((s,e)::r):=⟨by rw[<-k.out,<-h];rfl⟩
theorem MM{t:TV}(h:O.get s=.tv t)(k:Kp O ss r):Kp O (s::ss) ((s,.tv t)::r):=PT h k
theorem AAx{t:TV}(h:O.get s=.ow t)(k:Kp O ss r):Kp O (s::ss) ((s,.ow t)::r):=PT h k
theorem MJ{t:List AR}(h:O.get s=.bx t)(k:Kp O ss r):Kp O (s::ss) ((s,.bx t)::r):=PT h k
theorem AAv{q o:Nat}(h:O.get s=.bp q o)(k:Kp O ss r):Kp O (s::ss) ((s,.bp q o)::r):=PT h k
theorem ML{t:Fq}(h:O.get s=.tp t)(k:Kp O ss r):Kp O (s::ss) ((s,.tp t)::r):=PT h k
theorem MN(h:O.get s=.undef)(k:Kp O ss r):Kp O (s::ss) ((s,.undef)::r):=PT h k
theorem AAz{n:Nat}{t:Fq}(h:O.get s=.xo n t)(k:Kp O ss r):Kp O (s::ss) ((s,.xo n t)::r):=PT h k
theorem AAw{q:Nat}{i:Option Nat}(h:O.get s=.la q i)(k:Kp O ss r):Kp O (s::ss) ((s,.la q i)::r):=PT h k
theorem AAy(h:O.get s=.sk)(k:Kp O ss r):Kp O (s::ss) ((s,.sk)::r):=PT h k
theorem xK{t:List AR}(h:O.get s=.oag t)(k:Kp O ss r):Kp O (s::ss) ((s,.oag t)::r):=PT h k
theorem xO:Nm O m [] []:=⟨rfl⟩
theorem xN{e:EV}(h:look m s=Y e)(k:Nm O m ss r):Nm O m (s::ss) ((s,e)::r):=⟨by rw[<-k.out];simp only[x6,h,Option.getD_some]⟩
theorem Rr{e:EV}(h:look m s=W)(o:O.get s=e)(k:Nm O m ss r):Nm O m (s::ss) ((s,e)::r):=⟨by rw[<-k.out];simp only[x6,h,o,Option.getD_none]⟩
theorem ABE{t:TV}(h:look m s=W)(o:O.get s=.tv t)(k:Nm O m ss r):Nm O m (s::ss) ((s,.tv t)::r):=Rr h o k
theorem ABC{t:TV}(h:look m s=W)(o:O.get s=.ow t)(k:Nm O m ss r):Nm O m (s::ss) ((s,.ow t)::r):=Rr h o k
theorem AA9{t:List AR}(h:look m s=W)(o:O.get s=.bx t)(k:Nm O m ss r):Nm O m (s::ss) ((s,.bx t)::r):=Rr h o k
theorem AA8{q o:Nat}(h:look m s=W)(p:O.get s=.bp q o)(k:Nm O m ss r):Nm O m (s::ss) ((s,.bp q o)::r):=Rr h p k
theorem ABD{t:Fq}(h:look m s=W)(o:O.get s=.tp t)(k:Nm O m ss r):Nm O m (s::ss) ((s,.tp t)::r):=Rr h o k
theorem ABF(h:look m s=W)(o:O.get s=.undef)(k:Nm O m ss r):Nm O m (s::ss) ((s,.undef)::r):=Rr h o k
theorem ABG{n:Nat}{t:Fq}(h:look m s=W)(o:O.get s=.xo n t)(k:Nm O m ss r):Nm O m (s::ss) ((s,.xo n t)::r):=Rr h o k
theorem ABA{q:Nat}{i:Option Nat}(h:look m s=W)(o:O.get s=.la q i)(k:Nm O m ss r):Nm O m (s::ss) ((s,.la q i)::r):=Rr h o k
end
def PC.xl(i:Nat):PC->Option QQ
 |.exit j l=>if j=i then Y l else W|.seq a b=>match a.xl i with
  |some l=>Y l|none=>b.xl i
 |.cond _ a b=>match a.xl i with
  |some l=>Y l|none=>b.xl i
 |.block _ a=>a.xl i|.loop _ a=>a.xl i|.rls _ a=>a.xl i|_=>W
def PC.last:PC->Option QQ
 |.region _ l=>Y l|.draw _ _ l=>Y l|.skip l=>Y l|.exit _ l=>Y l|.seq _ b=>b.last|.cond _ a _=>a.last|.block i (.loop _ b)=>b.xl i|.block _ c=>c.last|.rls _ c=>c.last|_=>W
section
variable{S:FuncId->Fq->A9->Prop}{K:AB->Prop}{os:List PR}{O:AB}{d:Nat}
section code
variable{n t:AB->Prop}{x:Nat->AB->Prop}{a b:PC}{l:QQ}{env':AB}
theorem O9(o:Kp O l env')(h:n env'):WO S (KR n l) [] O:=⟨by show n (O.fl l);rw[o.out];exact h⟩
theorem RZ{ops:List PR}(h:WO S (KR n l) ops O):WP S (.region ops l) ⟨n,x,t⟩ O:=⟨h.out⟩
theorem wL{D:QQ}{ops:List PR}(hd:Th O D=X)(h:WO S (KR n l) ops O):WP S (.draw D ops l) ⟨n,x,t⟩ O:=⟨hd,h.out⟩
theorem MG(h:WP S a ⟨λe=>(∀s,(e.get s).WF)->WP S b ⟨n,x,t⟩ e,x,t⟩ O):WP S (.seq a b) ⟨n,x,t⟩ O:=AAX h
theorem dK(o:Kp O l env')(h:n env'):WP S (.skip l) ⟨n,x,t⟩ O:=wq o.out h
theorem kI(h:t O):WP S .ret ⟨n,x,t⟩ O:=⟨h⟩
theorem mQ{i:Nat}(o:Kp O l env')(h:x i env'):WP S (.exit i l) ⟨n,x,t⟩ O:=wo o.out h
theorem zV{s:Nat}{cs cs':List AR}{c:PC}{q:Q}(h:O.get s=.bx cs)(he:cs.map AR.rel=cs')(k:WP S c q ((s,.bx cs')::O)):WP S (.rls s c) q O:=by
 refine ⟨?_⟩;subst he;simp only[PC.wp,h];exact k.out
theorem iW{i:Nat}(h:WP S a ⟨n,λj e=>if j=i then n e else x j e,t⟩ O):WP S (.block i a) ⟨n,x,t⟩ O:=ZH h
theorem zC{m:List (Nat×EV)}{e:AB}{q:Q}(he:Nm e m l env')(h:WP S a q env'):WP S a q (x6 e m l):=by rw[he.out];exact h
variable{Q:Q}
theorem wK{c:AH}{β:Type}{q:Bool}{u v:Option β}{r:β}(o:c.val O=Y (.bool q))(h:(if q=X then u else v)=Y r)(p:q=X->u=Y r->WP S a Q O)(w:q=T->v=Y r->WP S b Q O):WP S (.cond c a b) Q O:=
 YB o (λe=>p e (YW e h)) (λe=>w e (YV e h))
theorem wR{σ β:Type}{i:Nat}{M:σ->List (Nat×EV)}{q:Bool}{u v:Option σ}{k:σ->Option β}{r:β}(p:(AH.s i).val O=Y (.bool q))(h:((if q=X then u else v).bind k)=Y r)(_:HJ i M)(_:(PC.cond (.s i) a b).last=Y l)
  (A:∀w,q=X->u=Y w->WP S a ⟨λe=>Rn e (x6 O (M w) l),x,t⟩ O)(B:∀w,q=T->v=Y w->WP S b ⟨λe=>Rn e (x6 O (M w) l),x,t⟩ O)(C:∀w,k w=Y r->n (x6 O (M w) l)):WP S (.cond (.s i) a b) ⟨n,x,t⟩ O:=by
 obtain ⟨w,o,h⟩:=bind_some h;refine AAW (λe=>Rn e (x6 O (M w) l)) ?_ (λe he=>by rw[he.out];exact C w h);exact YB p (λe=>A w e (YW e o)) (λe=>B w e (YV e o))
end code
structure Bd(O:AB)(q i:Nat)(b:Int):Prop where
 of::out:(∀s,(O.get s).WF)->b<=9223372036854775807
section bounds
variable{q i:Nat}{α:Type}{e:α->TV}{l:List α}{es row:Fq}{n:Nat}
theorem ABy{b:Int}(h:decide (b<=9223372036854775807)=X):Bd O q i b:=⟨λ_=>of_decide_eq_true h⟩
theorem AB3{b:Int}:Bd O q i (AJ b):=⟨λ_=>yx _⟩
theorem AB0(h:O.get q=.tv (.list n es))(he:es=l.map e):Bd O q i l.length:=⟨λo=>by have:=o q;rw[h]at this;exact Wh (dE this) he⟩
theorem AB1(h:O.get q=.ow (.list n es))(he:es=l.map e):Bd O q i l.length:=⟨λo=>by have:=o q;rw[h]at this;exact Wh (ABp this) he⟩
theorem AB4(h:O.get q=.xo n es)(he:es=l.map e):Bd O q i l.length:=⟨λo=>by have:=o q;rw[h]at this;exact Wh (ABq this) he⟩
theorem AB2{b:ByteArray}(h:O.get q=.tv (.str b)):Bd O q i b.size:=⟨λo=>by have:=o q;rw[h]at this;exact vn (dE this)⟩
theorem ABz{b:Int}(h:O.get q=.tv (.int .i64 b)):Bd O q i b:=⟨λo=>by have:=o q;rw[h]at this;exact pP (dE this)⟩
theorem ze(h:O.get q=.tv (.pt row))(hr:row[i]?=Y (.list n es))(he:es=l.map e):Bd O q i l.length:=⟨λo=>by have:=o q;rw[h]at this;exact Wh (j8 (tW this) hr) he⟩
theorem zc{b:Int}(h:O.get q=.tv (.pt row))(hr:row[i]?=Y (.int .i64 b)):Bd O q i b:=⟨λo=>by have:=o q;rw[h]at this;exact pP (j8 (tW this) hr)⟩
end bounds
section loops
variable{σ β ρ:Type}{n t:AB->Prop}{x:Nat->AB->Prop}{c:PC}{live jl:QQ}{i0 Dv q i1:Nat}{lo b:Int}{s0:σ}{r:β}{k:σ->Option β}
variable{M:Int->σ->List (Nat×EV)}
theorem yy(h:∀i s,(x6 O (M i s) live).get Dv=.tv (.int .i64 i)){i:Int}{s:σ}(o:∀k,((x6 O (M i s) live).get k).WF)(hi:i<b)(hb:b<=9223372036854775807):AJ (i+1)=i+1:=by
 have:=o Dv;rw[h]at this;exact ABr (dE this) hi hb
theorem wM{f:Int->σ->Option σ}(_:HA i0 Dv q i1 M)(h:(n8 f lo b s0).bind k=Y r)(p:∀s,(O.get s).WF)(hb:Bd O q i1 b)(_:c.xl i0=Y jl)(u:O.fl live=x6 O (M lo s0) live)(w:∀i s,(x6 O (M i s) live).get Dv=.tv (.int .i64 i))
  (A:∀i s r,i<b->f i s=Y r->(∀k,((x6 O (M i s) live).get k).WF)->WP S c ⟨λe=>Rn (e.fl live) (x6 O (M (AJ (i+1)) r) live),λ_ _=>False,λ_=>False⟩ (x6 O (M i s) live))
  (B:∀i s,¬i<b->WP S c ⟨λ_=>False,λj e=>j=i0/\Rn e (x6 O (M 0 s) jl),λ_=>False⟩ (x6 O (M i s) live))
  (C:∀s,k s=Y r->n (x6 O (M 0 s) jl)):WP S (.block i0 (.loop live c)) ⟨n,x,t⟩ O:=by
 obtain ⟨o,ho,h⟩:=bind_some h;have hb:=hb.out p;refine vp ho (λi s=>x6 O (M i s) live) (λs=>x6 O (M 0 s) jl) u (λi s r hi hf p=>⟨PC.o4 S c _ _ (A i s r hi hf p).out _ (λe he=>?_) (λ_ _ h=>h) (λ_ h=>h)⟩) (λi s hi=>⟨PC.o4 S c _ _ (B i s hi).out _ (λ_ h=>h) (λj e h=>⟨h.1,h.2.out⟩) (λ_ h=>h)⟩) (C o h);have:=he.out;rw[yy w p hi hb]at this;exact this
variable{kr:ρ->Option β}
theorem ZR{f:Int->σ->Option (B0 σ ρ)}{R:ρ->AB->Prop}(h:em (jj f lo b s0) k kr=Y r)(hb:b<=9223372036854775807)(w:O.fl live=x6 O (M lo s0) live)(A:∀i s,(x6 O (M i s) live).get Dv=.tv (.int .i64 i))
  (B:∀i s r,i<b->f i s=Y r->(∀k,((x6 O (M i s) live).get k).WF)->WP S c ⟨λe=>∃s',r=.next s'/\Rn (e.fl live) (x6 O (M (AJ (i+1)) s') live),λj e=>j=i0/\∃s',r=.brk s'/\Rn e (x6 O (M 0 s') jl),λe=>∃v,r=.ret v/\R v e⟩ (x6 O (M i s) live))
  (C:∀i s,¬i<b->WP S c ⟨λ_=>False,λj e=>j=i0/\Rn e (x6 O (M 0 s) jl),λ_=>False⟩ (x6 O (M i s) live))
  (D:∀s,k s=Y r->n (x6 O (M 0 s) jl))(E:∀v e,kr v=Y r->R v e->t e):WP S (.block i0 (.loop live c)) ⟨n,x,t⟩ O:=by
 obtain ⟨o,ho,h⟩:=Y5 h;refine kB ho (λi s=>x6 O (M i s) live) (λs=>x6 O (M 0 s) jl) R w (λi s r hi hf u=>⟨PC.o4 S c _ _ (B i s r hi hf u).out _ (λe he=>?_) (λj e he=>?_) (λ_ h=>h)⟩) (λi s hi=>⟨PC.o4 S c _ _ (C i s hi).out _ (λ_ h=>h) (λj e h=>⟨h.1,h.2.out⟩) (λ_ h=>h)⟩) (λs F=>D s (jx h F)) (λv e hv=>E v e (jy h hv))
 .obtain⟨s',p,e2⟩:=he;have e2:=e2.out;rw[yy A u hi hb]at e2;exact⟨s',p,e2⟩
 .obtain⟨G,s',p,e2⟩:=he;exact⟨G,s',p,e2.out⟩
theorem wP{f:Int->σ->Option (B0 σ β)}{R:β->AB->Prop}(_:HA i0 Dv q i1 M)(_:HR R)(o:R r=t)(h:em (jj f lo b s0) k (λv=>Y v)=Y r)(p:∀s,(O.get s).WF)(hb:Bd O q i1 b)(_:c.xl i0=Y jl)(u:O.fl live=x6 O (M lo s0) live)(w:∀i s,(x6 O (M i s) live).get Dv=.tv (.int .i64 i))
  (A:∀i s r,i<b->f i s=Y r->(∀k,((x6 O (M i s) live).get k).WF)->WP S c ⟨λe=>∃s',r=.next s'/\Rn (e.fl live) (x6 O (M (AJ (i+1)) s') live),λj e=>j=i0/\∃s',r=.brk s'/\Rn e (x6 O (M 0 s') jl),λe=>∃v,r=.ret v/\R v e⟩ (x6 O (M i s) live))
  (B:∀i s,¬i<b->WP S c ⟨λ_=>False,λj e=>j=i0/\Rn e (x6 O (M 0 s) jl),λ_=>False⟩ (x6 O (M i s) live))
  (C:∀s,k s=Y r->n (x6 O (M 0 s) jl)):WP S (.block i0 (.loop live c)) ⟨n,x,t⟩ O:=
 ZR h (hb.out p) u w A B C (λv e hv D=>by cases hv;rw[<-o];exact D)
variable{τ:Type}
theorem wO{f:Int->σ->Option (B0 σ ρ)}{k:σ->Option (B0 τ ρ)}{r:B0 τ ρ}{R:ρ->AB->Prop}(_:HA i0 Dv q i1 M)(h:em (jj f lo b s0) k (λv=>Y (.ret v))=Y r)(o:∀s,(O.get s).WF)(hb:Bd O q i1 b)(_:c.xl i0=Y jl)(p:O.fl live=x6 O (M lo s0) live)(u:∀i s,(x6 O (M i s) live).get Dv=.tv (.int .i64 i))
  (w:∀i s r,i<b->f i s=Y r->(∀k,((x6 O (M i s) live).get k).WF)->WP S c ⟨λe=>∃s',r=.next s'/\Rn (e.fl live) (x6 O (M (AJ (i+1)) s') live),λj e=>j=i0/\∃s',r=.brk s'/\Rn e (x6 O (M 0 s') jl),λe=>∃v,r=.ret v/\R v e⟩ (x6 O (M i s) live))
  (A:∀i s,¬i<b->WP S c ⟨λ_=>False,λj e=>j=i0/\Rn e (x6 O (M 0 s) jl),λ_=>False⟩ (x6 O (M i s) live))
  (B:∀s,k s=Y r->n (x6 O (M 0 s) jl)):WP S (.block i0 (.loop live c)) ⟨n,x,λe=>∃v,r=.ret v/\R v e⟩ O:=
 ZR h (hb.out o) p u w A B (λv e hv C=>by cases hv;exact⟨v,rfl,C⟩)
theorem wN{f:Int->σ->Option (B0 σ ρ)}(_:HA i0 Dv q i1 M)(h:em (jj f lo b s0) k (λ_=>W)=Y r)(o:∀s,(O.get s).WF)(hb:Bd O q i1 b)(_:c.xl i0=Y jl)(p:O.fl live=x6 O (M lo s0) live)(u:∀i s,(x6 O (M i s) live).get Dv=.tv (.int .i64 i))
  (w:∀i s r,i<b->f i s=Y r->(∀k,((x6 O (M i s) live).get k).WF)->WP S c ⟨λe=>∃s',r=.next s'/\Rn (e.fl live) (x6 O (M (AJ (i+1)) s') live),λj e=>j=i0/\∃s',r=.brk s'/\Rn e (x6 O (M 0 s') jl),λ_=>∃v,r=.ret v/\False⟩ (x6 O (M i s) live))
  (A:∀i s,¬i<b->WP S c ⟨λ_=>False,λj e=>j=i0/\Rn e (x6 O (M 0 s) jl),λ_=>False⟩ (x6 O (M i s) live))
  (B:∀s,k s=Y r->n (x6 O (M 0 s) jl)):WP S (.block i0 (.loop live c)) ⟨n,x,t⟩ O:=
 ZR (R:=λ_ _=>False) h (hb.out o) p u w A B (λv e hv _=>by cases hv)
theorem gh{f:σ->Option (B0 σ ρ)}{R:ρ->AB->Prop}{M:σ->List (Nat×EV)}(h:em (C3 f s0) k kr=Y r)(u:O.fl live=x6 O (M s0) live)
  (w:∀s r,f s=Y r->(∀k,((x6 O (M s) live).get k).WF)->WP S c ⟨λe=>∃s',r=.next s'/\Rn (e.fl live) (x6 O (M s') live),λj e=>j=i0/\∃s',r=.brk s'/\Rn e (x6 O (M s') jl),λe=>∃v,r=.ret v/\R v e⟩ (x6 O (M s) live))
  (A:∀s,k s=Y r->n (x6 O (M s) jl))(B:∀v e,kr v=Y r->R v e->t e):WP S (.block i0 (.loop live c)) ⟨n,x,t⟩ O:=by
 obtain ⟨o,ho,h⟩:=Y5 h;refine y6 ho (λs=>x6 O (M s) live) (λs=>x6 O (M s) jl) R u (λs r hf C=>⟨PC.o4 S c _ _ (w s r hf C).out _ (λe he=>?_) (λj e he=>?_) (λ_ h=>h)⟩) (λs D=>A s (jx h D)) (λv e hv=>B v e (jy h hv))
 .obtain⟨s',p,e2⟩:=he;exact⟨s',p,e2.out⟩
 .obtain⟨E,s',p,e2⟩:=he;exact⟨E,s',p,e2.out⟩
theorem zZ{f:σ->Option (B0 σ β)}{R:β->AB->Prop}{M:σ->List (Nat×EV)}(_:HW i0 M)(_:HR R)(o:R r=t)(h:em (C3 f s0) k (λv=>Y v)=Y r)(_:c.xl i0=Y jl)(p:O.fl live=x6 O (M s0) live)
  (u:∀s r,f s=Y r->(∀k,((x6 O (M s) live).get k).WF)->WP S c ⟨λe=>∃s',r=.next s'/\Rn (e.fl live) (x6 O (M s') live),λj e=>j=i0/\∃s',r=.brk s'/\Rn e (x6 O (M s') jl),λe=>∃v,r=.ret v/\R v e⟩ (x6 O (M s) live))
  (w:∀s,k s=Y r->n (x6 O (M s) jl)):WP S (.block i0 (.loop live c)) ⟨n,x,t⟩ O:=
 gh h p u w (λv e hv A=>by cases hv;rw[<-o];exact A)
theorem zY{f:σ->Option (B0 σ ρ)}{k:σ->Option (B0 τ ρ)}{r:B0 τ ρ}{R:ρ->AB->Prop}{M:σ->List (Nat×EV)}(_:HW i0 M)(h:em (C3 f s0) k (λv=>Y (.ret v))=Y r)(_:c.xl i0=Y jl)(o:O.fl live=x6 O (M s0) live)
  (p:∀s r,f s=Y r->(∀k,((x6 O (M s) live).get k).WF)->WP S c ⟨λe=>∃s',r=.next s'/\Rn (e.fl live) (x6 O (M s') live),λj e=>j=i0/\∃s',r=.brk s'/\Rn e (x6 O (M s') jl),λe=>∃v,r=.ret v/\R v e⟩ (x6 O (M s) live))
  (u:∀s,k s=Y r->n (x6 O (M s) jl)):WP S (.block i0 (.loop live c)) ⟨n,x,λe=>∃v,r=.ret v/\R v e⟩ O:=
 gh h o p u (λv e hv w=>by cases hv;exact⟨v,rfl,w⟩)
theorem zX{f:σ->Option (B0 σ ρ)}{M:σ->List (Nat×EV)}(_:HW i0 M)(h:em (C3 f s0) k (λ_=>W)=Y r)(_:c.xl i0=Y jl)(o:O.fl live=x6 O (M s0) live)
  (p:∀s r,f s=Y r->(∀k,((x6 O (M s) live).get k).WF)->WP S c ⟨λe=>∃s',r=.next s'/\Rn (e.fl live) (x6 O (M s') live),λj e=>j=i0/\∃s',r=.brk s'/\Rn e (x6 O (M s') jl),λ_=>∃v,r=.ret v/\False⟩ (x6 O (M s) live))
  (u:∀s,k s=Y r->n (x6 O (M s) jl)):WP S (.block i0 (.loop live c)) ⟨n,x,t⟩ O:=
 gh (R:=λ_ _=>False) h o p u (λv e hv _=>by cases hv)
end loops
end
end Go.Sf
namespace Go.Sf
section
variable{P:Program}{S:FuncId->Fq->A9->Prop}{K:AB->Prop}{os:List PR}{O:AB}{d:Nat}{α β:Type}{k:α->Option β}{r:β}
theorem bnd{G:Prop}{x:Option α}(h:x.bind k=Y r)(g:∀a,x=Y a->k a=Y r->G):G:=by
 obtain ⟨a,ha,h⟩:=bind_some h;exact g a ha h
theorem AB6{α:Type}{x:Option α}{k:α->Option β}{op:AE}{dd:Option Nat}(_:op.Ab2=4)(h:x.bind k=Y r)(g:∀a,x=Y a->k a=Y r->WO S K (⟨dd,op,W⟩::os) O):WO S K (⟨dd,op,W⟩::os) O:=bnd h g
theorem AB5{x:Option α}{f:FuncId}{ts:Fq}{R:α->A9}{op:AE}{dd:Option Nat}(_:op.Ab2=3)(h:x.bind k=Y r)(c:Ct P x f ts R)(g:∀a,AV P f ts (R a)->k a=Y r->WO (AV P) K (⟨dd,op,W⟩::os) O):WO (AV P) K (⟨dd,op,W⟩::os) O:=bnd h λa ha=>g a (c.snd a ha)
theorem wF{γ:Type}{k:List γ->Option β}{n s:Nat}{y:AH}{es o:Fq}{e:γ->TV}{l m:List γ}{f:List γ->TV}(h:(AY l m).bind k=Y r)(u:O.get s=.ow (.list n es))(w:y.val O=Y (.list n o))(he:es=l.map e)(hf:o=m.map e)(c:Fl e n f)
  (A:∀x,AY l m=Y x->k x=Y r->WO S K os ((d,.ow (f x))::(s,.tv (.list n es))::O)):WO S K (⟨Y d,.app n (.s s) y,W⟩::os) O:=by
 obtain ⟨x,p,h⟩:=bind_some h;have:=A x p h;rw[c.eq]at this;exact tO p u w he hf rfl this
section ints
variable{k:Int->Option β}{x y:AH}{ik:IntKind}{a b:Int}
theorem zT(h:(quo a b).bind k=Y r)(p:x.val O=Y (.int ik a))(u:y.val O=Y (.int ik b))(w:∀q,quo a b=Y q->k q=Y r->WO S K os ((d,.tv (.int ik (ik.wrap q)))::O)):WO S K (⟨Y d,.bin .i .quo x y,W⟩::os) O:=bnd h λq o h=>ABj o p u (w q o h)
theorem zU(h:(DZ a b).bind k=Y r)(p:x.val O=Y (.int ik a))(u:y.val O=Y (.int ik b))(w:∀q,DZ a b=Y q->k q=Y r->WO S K os ((d,.tv (.int ik q))::O)):WO S K (⟨Y d,.bin .i .rem x y,W⟩::os) O:=bnd h λq o h=>ABk o p u (w q o h)
theorem zB{op:BinOp}{o:IntKind}(h:(Gk ik op a b).bind k=Y r)(u:x.val O=Y (.int ik a))(A:y.val O=Y (.int o b))(B:ik=o\/op=.shl\/op=.shr)(C:∀q,Gk ik op a b=Y q->k q=Y r->WO S K os ((d,.tv (.int ik q))::O)):WO S K (⟨Y d,.bin .w op x y,W⟩::os) O:=bnd h λq p h=>ABV p u A B (C q p h)
end ints
theorem wW{k:ByteArray->Option β}{x y:AH}{u v:ByteArray}(h:(V5 u v).bind k=Y r)(p:x.val O=Y (.str u))(w:y.val O=Y (.str v))(A:∀q,V5 u v=Y q->k q=Y r->WO S K os ((d,.tv (.str q))::O)):WO S K (⟨Y d,.bin .s .add x y,W⟩::os) O:=bnd h λq o h=>yV o p w (A q o h)
theorem zL{k:Unit->Option β}{x:AH}{n:Nat}{es:Fq}{e:α->TV}{l:List α}(h:(XZ l).bind k=Y r)(o:x.val O=Y (.list n es))(he:es=l.map e)(p:∀u,k u=Y r->WO S K os ((d,.tv (.bool T))::O)):WO S K (⟨Y d,.isn x,W⟩::os) O:=by
 obtain ⟨u,w,h⟩:=bind_some h;refine tQ o he λb hb=>?_;obtain rfl:=nN w hb;exact p u h
theorem sq{x:AH}{n:Nat}{e:α->TV}{a:α}(h:BS O (x.ev O)=Y (e a).cells)(o:y_ (e a).cells.length n=X)(p:TV.agg (e a).cells=e a)(u:WO S K os ((d,.tv (e a))::O)):WO S K (⟨Y d,.lda x n,W⟩::os) O:=by
 have o:=y! o;exact tR h (by rw[o];exact y? n) (by rw[w? U,p]) u
theorem zN{s n:Nat}{cs:List AR}{e:α->TV}{a:α}(h:O.get s=.bx cs)(p:cs.map (·.t)=(e a).cells)(o:y_ (e a).cells.length n=X)(u:TV.agg (e a).cells=e a)(w:WO S K os ((d,.tv (e a))::O)):WO S K (⟨Y d,.ldb s n,W⟩::os) O:=by
 have o:=y! o;exact ABa h (by rw[p,o];exact y? n) (by rw[p,w? U,u]) w
variable{v:AH}
theorem wX{n s:Nat}{cs:List AR}{t:TV}(h:O.get s=.bx cs)(hv:v.ev O=.tv t)(o:t.cells.length=n)(hb:y_ n cs.length=X)(p:WO S K os ((s,.bx (t.cells.map (⟨T,·⟩)))::O)):WO S K (⟨W,.stb n s v,W⟩::os) O:=by
 have hb:=y! hb;refine ABm h hv o (by rw[z_,hb];exact y? _) ?_ p;rw[List.take_zero,z_,hb,List.drop_length,List.append_nil,List.nil_append]
theorem wT{x:AH}{n:Nat}{e:α->TV}{a:α}(h:BS O (x.ev O)=Y (((e a).cells.map λt=>(⟨T,t⟩:AR)).map (·.t)))(o:y_ (e a).cells.length n=X)(p:TV.agg (e a).cells=e a)(u:WO S K os ((d,.tv (e a))::O)):WO S K (⟨Y d,.lda x n,W⟩::os) O:=
 sq (by rw[h,w_];congr 1;exact w! _) o p u
def kK(n:Nat):Fq->Bool
 |[]=>X|t::ts=>y_ t.cells.length n&&kK n ts
theorem dT{n:Nat}:∀{ts:Fq},kK n ts=X->∀t∈ts,t.cells.length=n
 |[],_,_,h=>d_
 |t::ts,h,u,o=>by
  simp only[kK,pq]at h;rcases x_.1 o with rfl|o
  .exact y! h.1
  .exact dT h.2 u o
variable{parts:List AH}
theorem zQ{n:Nat}{ts:Fq}(h:vals O parts=Y ts)(o:kK n ts=X)(p:WO S K os ((d,.ow (.list n ts))::O)):WO S K (⟨Y d,.lst n parts,W⟩::os) O:=by
 have:=p.out;refine⟨?_⟩;simp only[wpOps,PR.wp,AE.wp,h,Ay];exact⟨dT o,this⟩
variable{zero:Fq}
theorem wG{parts:List (Nat×Nat×AH)}{ts:List (Nat×Nat×TV)}{cs:Fq}{e:α->TV}{a:α}(h:(Y a).bind k=Y r)(_:En α e)(o:Hg O parts=Y ts)(p:Fm zero ts=Y cs)(he:TV.agg cs=e a)(u:∀x,x=a->k x=Y r->WO S K os ((d,.tv (e x))::O)):WO S K (⟨Y d,.bld zero parts,W⟩::os) O:=by
 rw [Option.bind_some]at h;exact dA o p he (u a rfl h)
theorem zO{x:AH}{n:Nat}{cs:Fq}{e:α->TV}{a:α}(h:(Y a).bind k=Y r)(_:En α e)(o:BS O (x.ev O)=Y cs)(p:z! n cs.length=X)(he:TV.agg (cs.take n)=e a)(u:∀x,x=a->k x=Y r->WO S K os ((d,.tv (e x))::O)):WO S K (⟨Y d,.lda x n,W⟩::os) O:=by
 rw [Option.bind_some]at h;exact tR o p he (u a rfl h)
inductive Lm{α:Type}(e:α->TV):Fq->List α->Prop
 |nil:Lm e [] []
 |cons {t:TV} {ts:Fq} {a:α} {l:List α}:t=e a->Lm e ts l->Lm e (t::ts) (a::l)
theorem Lm.eq{e:α->TV}{ts:Fq}{l:List α}(h:Lm e ts l):ts=l.map e:=by
 induction h with
 |nil=>rfl|cons h _ o=>rw[h,o];rfl
theorem wU{n:Nat}{ts:Fq}{e:α->TV}{l:List α}(h:vals O parts=Y ts)(o:Lm e ts l)(p:∀a,(e a).cells.length=n)(u:WO S K os ((d,.ow (.list n (l.map e)))::O)):WO S K (⟨Y d,.lst n parts,W⟩::os) O:=tS h o.eq p u
theorem wV{n:Nat}{ts:Fq}{e:α->TV}{l:List α}{f:List α->TV}(h:vals O parts=Y ts)(p:Lm e ts l)(u:∀a,(e a).cells.length=n)(c:Fl e n f)(o:WO S K os ((d,.ow (f l))::O)):WO S K (⟨Y d,.lst n parts,W⟩::os) O:=by
 rw [c.eq]at o;exact tS h p.eq u o
theorem wB{e:α->TV}{n:QQ}{x y:AH}{a:α}{cs:Fq}(o:x.val O=Y (e a))(p:y.val O=Y (.agg cs))[c:dG e][i:Decidable (a=c.un cs)](ha:TV.agg (e a).cells=e a)(hb:(e (c.un cs)).cells=cs)(u:(e a).cells.map TV.kd=n)(w:WO S K os ((d,.tv (.bool (decide (a=c.un cs))))::O)):WO S K (⟨Y d,.bin (.a n) .eql x y,W⟩::os) O:=by
 obtain ⟨A,h⟩:=c.dec a (c.un cs);have:i=A:=Subsingleton.elim _ _;subst this;rw[<-ha]at o;rw[hb]at h;exact oi o p u h w
theorem wD{e:α->TV}{n:QQ}{x y:AH}{a:α}{cs:Fq}(o:x.val O=Y (e a))(p:y.val O=Y (.agg cs))[c:dG e][i:Decidable (a=c.un cs)](ha:TV.agg (e a).cells=e a)(hb:(e (c.un cs)).cells=cs)(u:(e a).cells.map TV.kd=n)(w:WO S K os ((d,.tv (.bool (!decide (a=c.un cs))))::O)):WO S K (⟨Y d,.bin (.a n) .neq x y,W⟩::os) O:=by
 obtain ⟨A,h⟩:=c.dec a (c.un cs);have:i=A:=Subsingleton.elim _ _;subst this;rw[<-ha]at o;rw[hb]at h;exact oj o p u h w
theorem wA{e:α->TV}{n:QQ}{x y:AH}{a b:α}{i:Decidable (a=b)}(o:x.val O=Y (e a))(p:y.val O=Y (e b))(c:dG e)(ha:TV.agg (e a).cells=e a)(hb:TV.agg (e b).cells=e b)(u:(e a).cells.map TV.kd=n)(w:WO S K os ((d,.tv (.bool (decide (a=b))))::O)):WO S K (⟨Y d,.bin (.a n) .eql x y,W⟩::os) O:=by
 obtain ⟨A,h⟩:=c.dec a b;have:i=A:=Subsingleton.elim _ _;subst this;rw[<-ha]at o;rw[<-hb]at p;exact oi o p u h w
theorem wC{e:α->TV}{n:QQ}{x y:AH}{a b:α}{i:Decidable (a=b)}(o:x.val O=Y (e a))(p:y.val O=Y (e b))(c:dG e)(ha:TV.agg (e a).cells=e a)(hb:TV.agg (e b).cells=e b)(u:(e a).cells.map TV.kd=n)(w:WO S K os ((d,.tv (.bool (!decide (a=b))))::O)):WO S K (⟨Y d,.bin (.a n) .neq x y,W⟩::os) O:=by
 obtain ⟨A,h⟩:=c.dec a b;have:i=A:=Subsingleton.elim _ _;subst this;rw[<-ha]at o;rw[<-hb]at p;exact oj o p u h w
section calls
variable{x:Option α}{f:FuncId}{ts:Fq}{R:α->A9}{args:List AH}
theorem zD{s:Nat}{cs:List AR}{row:Fq}(o:O.get s=.bx cs)(f:Fz cs row)(k:WO S K os ((s,.tv (.pt row))::O)):WO S K (⟨W,.frz s,W⟩::os) O:=ABX o f.h k
theorem te{t:α->TV}(_:HS d)(h:x.bind k=Y r)(c:Ct P x f ts R)(ha:vals O args=Y ts)(p:∀a,R a=.own (t a))(u:∀a,x=Y a->k a=Y r->WO (AV P) K os ((d,.tv (t a))::O)):WO (AV P) K (⟨Y d,.call f args,W⟩::os) O:=by
 obtain ⟨a,o,h⟩:=bind_some h;have:=c.snd a o;rw[p]at this;exact yS ha (xS this) (u a o h)
theorem td{t:α->List AR}(h:x.bind k=Y r)(c:Ct P x f ts R)(ha:vals O args=Y ts)(p:∀a,R a=.oag (t a))(u:∀a,x=Y a->k a=Y r->WO (AV P) K os ((d,.tv (.agg ((t a).map λc=>c.rel.t)))::O)):WO (AV P) K (⟨Y d,.call f args,W⟩::os) O:=by
 obtain ⟨a,o,h⟩:=bind_some h;have:=c.snd a o;rw[p]at this;exact vV ha this rfl (u a o h)
theorem pZ{γ:Type}{k:List γ->Option β}{x:Option (List γ)}{R:List γ->A9}{n:Nat}{e:γ->TV}(h:x.bind k=Y r)(c:Ct P x f ts R)(p:O.ij d=X)(ha:vals O args=Y ts)(u:∀a,R a=.own (.list n (a.map e)))(hf:∀a,(e a).flat=X)(w:∀a,x=Y a->k a=Y r->WO (AV P) K os ((d,.xo n (a.map e))::O)):WO (AV P) K (⟨Y d,.AaL f args,W⟩::os) O:=by
 obtain ⟨a,o,h⟩:=bind_some h;have:=c.snd a o;rw[u]at this;exact rb p ha this rfl hf (w a o h)
theorem pY{γ:Type}{k:List γ->Option β}{x:Option (List γ)}{R:List γ->A9}{n:Nat}{e:γ->TV}(h:x.bind k=Y r)(c:Ct P x f ts R)(ha:Aax O args=Y ts)(p:∀a,R a=.own (.list n (a.map e)))(hf:∀a,(e a).flat=X)(u:∀a,x=Y a->k a=Y r->WO (AV P) K os ((d,.ow (.list n (a.map e)))::O)):WO (AV P) K (⟨Y d,.AaQ f args,W⟩::os) O:=by
 obtain ⟨a,o,h⟩:=bind_some h;have:=c.snd a o;rw[p]at this;exact rY ha this rfl rfl hf (u a o h)
variable{us:α->Fq}
theorem tZ{i s:Nat}{cs:List AR}{cs':α->List AR}{e:α->EV}(h:x.bind k=Y r)(c:Ct P x f ts R)(p:(args[i]?).bind (·.place O)=Y (s,0))(u:O.get s=.bx cs)(w:O.noX s W=X)(hd:d≠s)(ha:JQ O i args=Y ts)(A:∀a,R a=.bo cs (cs' a) i (us a))(he:∀a,EV.ofs (us a)=e a)(B:∀a,x=Y a->k a=Y r->WO (AV P) K os ((d,e a)::(s,.bx (cs' a))::O)):WO (AV P) K (⟨Y d,.AaA f args i,W⟩::os) O:=by
 obtain ⟨a,o,h⟩:=bind_some h;have:=c.snd a o;rw[A]at this;exact vU p u w hd ha this (he a) (B a o h)
end calls
inductive GS(g:Nat)(b:Bool):QQ->List PR->QQ->Nat->Prop
 |done {acc:QQ} {os:List PR}:GS g b acc os [] 0
 |step {acc js:QQ} {d n:Nat} {op:AE} {os:List PR}:GS g b (d::acc) os js n->GS g b acc (⟨Y d,op,Y (g,b)⟩::os) (d::js) (n+1)
 |nest {acc js:QQ} {d n g':Nat} {b':Bool} {op:AE} {os:List PR}:acc.contains g'=X->GS g b (d::acc) os js n->GS g b acc (⟨Y d,op,Y (g',b')⟩::os) (d::js) (n+1)
def vw:QQ->AB->(AB->Prop)->Prop
 |[],z,K=>K z|k::ks,z,K=>∃j,vw ks ((k,j)::z) K
structure Gj(js:QQ)(d:Nat)(v:TV)(z e:AB):Prop where
 of::out:vw js z λy=>e=(d,.tv v)::y
theorem nG{d:Nat}{v:TV}{z e:AB}(h:e=(d,.tv v)::z):Gj [] d v z e:=⟨h⟩
variable{ks:QQ}
theorem uK{k d:Nat}{v:TV}{j:EV}{z e:AB}(h:Gj ks d v ((k,j)::z) e):Gj (k::ks) d v z e:=⟨j,h.out⟩
theorem wQ{js:QQ}{v:TV}{z:AB}(h:Gj js d v z O):WO S (Gj js d v z) [] O:=⟨h⟩
structure Zu(js:QQ)(z:AB)(Q:AB->Prop):Prop where
 of::out:∀(d:Nat)(v:TV)(e:AB),Gj js d v z e->∃y,e=(d,.tv v)::y/\Q y
theorem uL{z:AB}{Q:AB->Prop}(h:Q z):Zu [] z Q:=⟨λ_ _ _ he=>⟨z,he.out,h⟩⟩
theorem qM{k:Nat}{z:AB}{Q:AB->Prop}(h:∀j,Zu ks ((k,j)::z) Q):Zu (k::ks) z Q:=⟨λd v e he=>by
 obtain ⟨j,o⟩:=he.out;exact(h j).out d v e ⟨o⟩⟩
theorem AAp{dd:Option Nat}{op:AE}{g:Nat}{b q:Bool}(h:O.get g=.tv (.bool q))(o:dI g b q)(p:WO S K (⟨dd,op,W⟩::os) O):WO S K (⟨dd,op,Y (g,b)⟩::os) O:=ACN h o.out p
theorem zI{ρ:Type}{dd:Option Nat}{op:AE}{g:Nat}{q:Bool}{u v:Option ρ}{r:ρ}(w:O.get g=.tv (.bool q))(h:(if q=X then u else v)=Y r)
  (o:dI g X q->q=X->u=Y r->WO S K (⟨dd,op,Y (g,X)⟩::os) O)(p:XC g X q->q=T->v=Y r->WO S K (⟨dd,op,Y (g,X)⟩::os) O):WO S K (⟨dd,op,Y (g,X)⟩::os) O:=by
 cases q with
 |true=>exact o ⟨rfl⟩ rfl h|false=>exact p ⟨t?⟩ rfl h
theorem zH{ρ:Type}{dd:Option Nat}{op:AE}{g:Nat}{q:Bool}{u v:Option ρ}{r:ρ}(w:O.get g=.tv (.bool q))(h:(if q=X then u else v)=Y r)
  (o:XC g T q->q=X->u=Y r->WO S K (⟨dd,op,Y (g,T)⟩::os) O)(p:dI g T q->q=T->v=Y r->WO S K (⟨dd,op,Y (g,T)⟩::os) O):WO S K (⟨dd,op,Y (g,T)⟩::os) O:=by
 cases q with
 |true=>exact o ⟨t?⟩ rfl h|false=>exact p ⟨rfl⟩ rfl h
theorem w4{op:AE}{g:Nat}{b q:Bool}(h:O.get g=.tv (.bool q))(o:XC g b q)(p:WO S K os ((d,.sk)::O)):WO S K (⟨Y d,op,Y (g,b)⟩::os) O:=AAo h o.out p
theorem ku{d n:Nat}{js:QQ}{v:TV}(h:WO S (Gj js d v O) (os.take n) O)(o:Zu js O λe=>WO S K (os.drop n) ((d,.tv v)::e)):WO S K os O:=
 AAn n (Gj js d v) h λe he=>by
  obtain ⟨y,rfl,p⟩:=o.out d v e he;exact p
section groups
variable{g n:Nat}{js:QQ}{c:Bool}{dd gd:Option Nat}{op:AE}{x y z:AH}{gg:Option (Nat×Bool)}
variable{θ:K1}{os':List PR}
theorem zK{k:Bool->Option β}(h:(if c=X then θ else Y T).bind k=Y r)(_:GS g X [] os js n)(A:O.get g=.tv (.bool c))(_:os[n]?=Y ⟨Y d,.pick x y z,gg⟩)
  (p:∀v,dI g X c->c=X->θ=Y v->WO S (Gj js d (.bool v) O) (os.take (n+1)) O)(u:∀v,XC g X c->c=T->Y T=Y v->WO S (Gj js d (.bool v) O) (os.take (n+1)) O)
  (w:∀v,k v=Y r->Zu js O λe=>WO S K (os.drop (n+1)) ((d,.tv (.bool v))::e))(ho:os=⟨dd,op,Y (g,X)⟩::os'):WO S K (⟨dd,op,Y (g,X)⟩::os') O:=by
 obtain ⟨v,hv,h⟩:=bind_some h;rw[<-ho];refine ku (n:=n+1) (v:=.bool v) ?_ (w v h);rcases Bool.eq_false_or_eq_true c with o|o
 .exact p v ⟨o⟩ o (YW o hv)
 .exact u v ⟨by rw[o];rfl⟩ o (YV o hv)
theorem zJ{k:Bool->Option β}(h:(if c=X then Y X else θ).bind k=Y r)(_:GS g T [] os js n)(A:O.get g=.tv (.bool c))(_:os[n]?=Y ⟨Y d,.pick x y z,gg⟩)
  (p:∀v,dI g T c->c=T->θ=Y v->WO S (Gj js d (.bool v) O) (os.take (n+1)) O)(u:∀v,XC g T c->c=X->Y X=Y v->WO S (Gj js d (.bool v) O) (os.take (n+1)) O)
  (w:∀v,k v=Y r->Zu js O λe=>WO S K (os.drop (n+1)) ((d,.tv (.bool v))::e))(ho:os=⟨dd,op,Y (g,T)⟩::os'):WO S K (⟨dd,op,Y (g,T)⟩::os') O:=by
 obtain ⟨v,hv,h⟩:=bind_some h;rw[<-ho];refine ku (n:=n+1) (v:=.bool v) ?_ (w v h);rcases Bool.eq_false_or_eq_true c with o|o
 .exact u v ⟨by rw[o];rfl⟩ o (YW o hv)
 .exact p v ⟨o⟩ o (YV o hv)
theorem zF{e:Bool}(ho:os=⟨dd,op,Y (g,X)⟩::os')(_:GS g X [] os js n)(u:O.get g=.tv (.bool c))(_:os[n]?=Y ⟨Y d,.pick x y z,gg⟩)
  (h:dI g X c->c=X->WO S (Gj js d (.bool e) O) (os.take (n+1)) O)(o:XC g X c->c=T->WO S (Gj js d (.bool T) O) (os.take (n+1)) O)
  (p:Zu js O λz=>WO S K (os.drop (n+1)) ((d,.tv (.bool (c&&e)))::z)):WO S K (⟨dd,op,Y (g,X)⟩::os') O:=by
 rw [<-ho];refine ku (n:=n+1) (v:=.bool (c&&e)) ?_ p;cases c
 .exact o ⟨rfl⟩ rfl
 .exact h ⟨rfl⟩ rfl
theorem zE{e:Bool}(ho:os=⟨dd,op,Y (g,T)⟩::os')(_:GS g T [] os js n)(u:O.get g=.tv (.bool c))(_:os[n]?=Y ⟨Y d,.pick x y z,gg⟩)
  (h:dI g T c->c=T->WO S (Gj js d (.bool e) O) (os.take (n+1)) O)(o:XC g T c->c=X->WO S (Gj js d (.bool X) O) (os.take (n+1)) O)
  (p:Zu js O λz=>WO S K (os.drop (n+1)) ((d,.tv (.bool (c||e)))::z)):WO S K (⟨dd,op,Y (g,T)⟩::os') O:=by
 rw [<-ho];refine ku (n:=n+1) (v:=.bool (c||e)) ?_ p;cases c
 .exact h ⟨rfl⟩ rfl
 .exact o ⟨rfl⟩ rfl
end groups
variable{qi:Option Nat}{j:Int}
theorem za{x:AH}{q n i:Nat}{es row:Fq}{e:α->TV}{l:List α}{a:α}{t:TV}(h:x.ev O=.lp q qi (j.toNat*n+i))(o:O.wi q qi=Y (n,es))(he:es=l.map e)(p:∀a,(e a).cells.length=n)(ha:idx l j=Y a)(hi:z? i n=X)(hr:(e a).cells=row)(u:row[i]?=Y t)
  (w:WO S K os ((d,.tv t)::O)):WO S K (⟨Y d,.xld x,W⟩::os) O:=tT h o he p ha rfl hi hr u w
theorem wZ{x:AH}{q n:Nat}{es row:Fq}{e:α->TV}{l:List α}{a:α}{t:TV}(h:x.ev O=.lp q qi (j.toNat*n))(o:O.wi q qi=Y (n,es))(he:es=l.map e)(p:∀a,(e a).cells.length=n)(ha:idx l j=Y a)(hi:z? 0 n=X)(hr:(e a).cells=row)(u:row[0]?=Y t)
  (w:WO S K os ((d,.tv t)::O)):WO S K (⟨Y d,.xld x,W⟩::os) O:=tT (i:=0) h o he p ha rfl hi hr u w
variable{v:AH}
theorem wd{γ:Type}{s:Nat}{q n i:Nat}{env':AB}{es:Fq}{e:α->TV}{g:γ->TV}{l:List α}{a:α}{b:γ}{f:α->γ->α}(_:HX s f)(h:(AH.s s).ev O=.lp q qi (j.toNat*n+i))(p:O.wi q qi=Y (n,es))(hv:v.ev O=.tv (g b))(he:es=l.map e)(u:∀a,(e a).cells.length=n)(ha:idx l j=Y a)(hi:z? i n=X)(w:(g b).cells=[g b])
  (hb:(e (f a b)).cells=(e a).cells.set i (g b))(o:O.Aah q qi n ((BE l j (f a b)).map e)=env')(A:WO S K os env'):WO S K (⟨W,.xst (.s s) v 1,W⟩::os) O:=tU h p hv he u ha rfl hi w hb rfl o A
theorem wc{x v:AH}{q n:Nat}{env':AB}{es:Fq}{e:α->TV}{l:List α}{a b:α}(h:x.ev O=.lp q qi (j.toNat*n))(p:O.wi q qi=Y (n,es))(hv:v.ev O=.tv (e b))(he:es=l.map e)(u:∀a,(e a).cells.length=n)(ha:idx l j=Y a)(hi:z? 0 n=X)(w:(e b).cells=[e b])
  (hb:(e b).cells=(e a).cells.set 0 (e b))(o:O.Aah q qi n ((BE l j b).map e)=env')(A:WO S K os env'):WO S K (⟨W,.xst x v 1,W⟩::os) O:=tU (i:=0) h p hv he u ha rfl hi w hb rfl o A
end
end Go.Sf
namespace Go.Sf
section
variable{S:FuncId->Fq->A9->Prop}{K:AB->Prop}{os:List PR}{O:AB}{d:Nat}
variable{j:Int}
theorem ABh{α:Type}{x:AH}{s o:Nat}{es:Fq}{e:α->TV}{l:List α}{a:α}(h:x.ev O=.nh s o (.el j.toNat))(u:O.nat s o=Y es)(he:es=l.map e)(ha:idx l j=Y a)(k:WO S K os ((d,.nh s o (.rw j.toNat))::O)):WO S K (⟨Y d,.nld x,W⟩::os) O:=by
 replace k:=k.out;refine⟨?_⟩;subst he;obtain⟨A,B,w⟩:=Hw ha;have p:j.toNat<l.length:=(x!.1 w).1;simp only[wpOps,PR.wp,AE.wp,h,u,Ay];exact⟨by simpa using p,k⟩
variable{j2:Int}
theorem ABi{α:Type}{x v:AH}{s o:Nat}{es:Fq}{env':AB}{e:List α->TV}{e2:α->TV}{l:List (List α)}{m:List α}{A b:α}{t:TV}(h:x.ev O=.nh s o (.rp j.toNat j2.toNat))(B:O.nat s o=Y es)(hv:v.ev O=.tv t)(he:es=l.map e)(w:∀m,e m=.list 1 (m.map e2))(ha:idx l j=Y m)(hb:idx m j2=Y A)(C:t=e2 b)(D:t.cells=[t])(E:t.flat=X)
  (p:O.AbS s o ((BE l j (BE m j2 b)).map e)=env')(k:WO S K os env'):WO S K (⟨W,.nst x v,W⟩::os) O:=by
 replace k:=k.out;refine⟨?_⟩;subst he p C;obtain⟨H,I,F⟩:=Hw ha;obtain⟨m0,m1,G⟩:=Hw hb;have u:j2.toNat<m.length:=(x!.1 G).1;simp only[wpOps,PR.wp,AE.wp,h,B,hv,Ay];refine⟨m.map e2,by rw[x?,F];simp[w],i9,D,E,?_⟩;have:(l.map e).set j.toNat (.list 1 ((m.map e2).set j2.toNat (e2 b)))=(BE l j (BE m j2 b)).map e:=by
  simp only[BE,List.map_set,w]
 rw [this];exact k
end
section
variable{P:Program}{K:AB->Prop}{os:List PR}{O:AB}{d:Nat}{α β γ ρ:Type}{f:FuncId}{args:List AH}{ts:Fq}{R:α->A9}{x:Option α}{k:α->Option ρ}{r:ρ}
variable{j:Int}
theorem zR{x i:AH}{s o:Nat}{es:Fq}{e:α->TV}{l:List α}{ik:IntKind}{S:FuncId->Fq->A9->Prop}(h:(idx l j).bind k=Y r)(p:x.ev O=.nh s o .hd)(u:O.nat s o=Y es)(hi:i.val O=Y (.int ik j))(he:es=l.map e)
  (w:∀a,idx l j=Y a->k a=Y r->WO S K os ((d,.nh s o (.el j.toNat))::O)):WO S K (⟨Y d,.nia x i,W⟩::os) O:=by
 obtain ⟨a,ha,h⟩:=bind_some h;have A:=(w a ha h).out;refine⟨?_⟩;subst he;obtain⟨C,E,D⟩:=Hw ha;have B:j.toNat<l.length:=(x!.1 D).1;simp only[wpOps,PR.wp,AE.wp,p,u,hi,Ay];exact⟨C,by simp only[c9];omega,A⟩
variable{e2:α->TV}{j2:Int}
theorem zS{x i:AH}{s o:Nat}{es:Fq}{e:List α->TV}{l:List (List α)}{m:List α}{ik:IntKind}{S:FuncId->Fq->A9->Prop}(h:(idx m j2).bind k=Y r)(p:x.ev O=.nh s o (.rw j.toNat))(u:O.nat s o=Y es)(hi:i.val O=Y (.int ik j2))(he:es=l.map e)(w:∀m,e m=.list 1 (m.map e2))(ha:idx l j=Y m)
  (A:∀a,idx m j2=Y a->k a=Y r->WO S K os ((d,.nh s o (.rp j.toNat j2.toNat))::O)):WO S K (⟨Y d,.nia x i,W⟩::os) O:=by
 obtain ⟨b,hb,h⟩:=bind_some h;have B:=(A b hb h).out;refine⟨?_⟩;subst he;obtain⟨F,G,D⟩:=Hw ha;obtain⟨m0,m1,E⟩:=Hw hb;have C:j2.toNat<m.length:=(x!.1 E).1;simp only[wpOps,PR.wp,AE.wp,p,u,hi,Ay];exact⟨m0,m.map e2,by rw[x?,D];simp[w],by simp only[c9];omega,B⟩
theorem wE{mm q s o:Nat}{es u:Fq}{cs cs':List AR}{n:Nat}{e:β->TV}{l:List β}{m:β}{k:List β->Option ρ}{S:FuncId->Fq->A9->Prop}(h:(AY l [m]).bind k=Y r)(w:O.get mm=.nh s o .hd)(A:O.get q=.x1 n u)(B:O.get s=.bx cs)(C:O.nat s o=Y es)(he:es=l.map e)(hf:TV.list n u=e m)(p:O.ij d=X)(hd:d≠mm/\d≠q/\mm≠q)(D:cs.set o ⟨T,.undef⟩=cs')
  (E:∀a,AY l [m]=Y a->k a=Y r->WO S K os ((d,.xn (a.map e))::(s,.bx cs')::(mm,.undef)::(q,.undef)::O)):WO S K (⟨Y d,.AaO mm q,W⟩::os) O:=by
 obtain ⟨a,ha,h⟩:=bind_some h;have G:=(E a ha h).out;refine⟨?_⟩;subst he D;unfold AY at ha;split at ha
 next F=>cases ha;simp only[wpOps,PR.wp,AE.wp,w,A,B,C,Ay];refine⟨by simpa using F,⟨p,hd⟩,?_⟩;rw[hf];simpa[AB.put]using G
 .cases ha
theorem pX{u:α->List β}{v:α->List γ}{w A:Nat}{p:β->TV}{e2:γ->TV}(h:x.bind k=Y r)(c:Ct P x f ts R)(ha:vals O args=Y ts)(E:∀a,R a=.oag [⟨X,.list w ((u a).map p)⟩,⟨X,.list A ((v a).map e2)⟩])(F:∀a,(p a).flat=X)(G:∀a,(e2 a).flat=X)
  (H:∀a,x=Y a->k a=Y r->WO (AV P) K os ((d,.oag [⟨X,.xl w ((u a).map p)⟩,⟨X,.xl A ((v a).map e2)⟩])::O)):WO (AV P) K (⟨Y d,.AaE f args,W⟩::os) O:=by
 obtain ⟨a,D,h⟩:=bind_some h;have C:=c.snd a D;rw[E]at C;have I:=(H a D h).out;have o:∀{τ:Type}(e:τ->TV)(l:List τ),(∀a,(e a).flat=X)->TV.Aab (l.map e)=X:=by
  intro τ e l he
  induction l with
  |nil=>rfl|cons a l J=>simp[TV.Aab,he,J]
 refine ⟨?_⟩;simp only[wpOps,PR.wp,AE.wp,ha,Ay];refine⟨_,C,λc B=>?_,λ_=>I⟩;simp only[x_,List.not_mem_nil,or_false]at B;rcases B with rfl|rfl
 .exact⟨_,_,rfl,o _ _ F⟩
 .exact⟨_,_,rfl,o _ _ G⟩
inductive NL:List AR->List AR->Prop
 |nil {xs:List AR}:xs=[]->NL xs []
 |cons {xs ys zs:List AR} {o:Bool} {t:TV}:xs=⟨o,t⟩::ys->NL ys zs->NL xs (⟨o,t⟩::zs)
theorem NL.eq{xs ys:List AR}(h:NL xs ys):xs=ys:=by
 induction h with
 |nil h=>exact h|cons h _ o=>rw[h,o]
theorem zW{S:FuncId->Fq->A9->Prop}{K:AB->Prop}{os:List PR}{O:AB}{n s h:Nat}{x v:AH}{cs cs':List AR}{t:TV}(o:x.place O=Y (s,h))(p:O.get s=.bx cs)(hv:v.ev O=.tv t)(u:t.cells.length=n)(hb:z! (h+n) cs.length=X)(w:NL (cs.take h++t.cells.map (⟨T,·⟩)++cs.drop (h+n)) cs')
  (k:WO S K os ((s,.bx cs')::O)):WO S K (⟨W,.st n x v,W⟩::os) O:=ACb o p hv u hb w.eq k
theorem wY{S:FuncId->Fq->A9->Prop}{K:AB->Prop}{os:List PR}{O:AB}{s h q:Nat}{x:AH}{cs cs':List AR}{t:TV}(o:x.place O=Y (s,h))(p:O.get s=.bx cs)(hv:O.get q=.ow t)(u:q≠s)(hb:z? h cs.length=X)(w:NL (cs.set h ⟨X,t⟩) cs')
  (k:WO S K os ((s,.bx cs')::(q,.tv t)::O)):WO S K (⟨W,.st 1 x (.s q),W⟩::os) O:=ABn o p hv u hb w.eq k
theorem aG:∀(ts:List (Nat×Nat×TV))(done rest:Fq),Xn done.length ts=X->(JX ts).length<=rest.length->Fm (done++rest) ts=Y (done++(JX ts++rest.drop (JX ts).length))
 |[],done,rest,_,h=>by simp[Fm,JX]|(i,n,t)::r,done,rest,p,h=>by
  simp only[Xn,pq,Nat.beq_eq]at p;obtain⟨⟨rfl,o⟩,hr⟩:=p;simp only[JX,b6]at h;have u:n<=rest.length:=U
  simp only[Fm];rw[ac ⟨o,by rw[b6];omega⟩];have w:done++rest=done++(rest.take n++rest.drop n):=by rw[List.take_append_drop]
  rw [w,Vv t.cells done (rest.take n) (rest.drop n) h?,<-ci];rw[aG r (done++t.cells) (rest.drop n) (by rw[b6,o];exact hr) (by rw[List.length_drop];omega)];simp[JX,List.drop_drop,o]
inductive NT:Fq->Fq->Prop
 |nil {xs:Fq}:xs=[]->NT xs []
 |cons {xs ys zs:Fq} {t:TV}:xs=t::ys->NT ys zs->NT xs (t::zs)
theorem NT.eq{xs ys:Fq}(h:NT xs ys):xs=ys:=by
 induction h with
 |nil h=>exact h|cons h _ o=>rw[h,o]
variable{zero:Fq}
theorem wH{S:FuncId->Fq->A9->Prop}{K:AB->Prop}{os:List PR}{O:AB}{d:Nat}{parts:List (Nat×Nat×AH)}{ts:List (Nat×Nat×TV)}{cs:Fq}(h:Hg O parts=Y ts)(o:Xn 0 ts=X)(p:z! (JX ts).length zero.length=X)(u:NT (JX ts++zero.drop (JX ts).length) cs)(k:WO S K os ((d,.tv (.agg cs))::O)):WO S K (⟨Y d,.bld zero parts,W⟩::os) O:=
 dA h (by have:=aG ts [] zero o (Nat.le_of_ble_eq_true p);simpa using this) (by rw[u.eq]) k
structure HY{α A B C:Type}(n:Nat)(f:A->B->C->α)(g1:A->TV)(g2:B->TV)(g3:C->TV):Prop where
variable{v:AH}{qi:Option Nat}
theorem we{S:FuncId->Fq->A9->Prop}{K:AB->Prop}{os:List PR}{O:AB}{α A B C:Type}{f:A->B->C->α}{o:Nat}{q n:Nat}{env':AB}{es cs cs':Fq}{e:α->TV}{l:List α}{a:α}{E:A}{F:B}{G:C}{p:A->TV}{u:B->TV}{w:C->TV}(_:HY o f p u w)(h:(AH.s o).ev O=.lp q qi (j.toNat*n))(H:O.wi q qi=Y (n,es))(he:es=l.map e)(I:∀a,(e a).cells.length=n)(hv:v.ev O=.tv (.agg cs))(J:NT cs cs')(hb:cs'=[p E,u F,w G])(hf:∀a b c,TV.agg [p a,u b,w c]=e (f a b c))(ha:idx l j=Y a)(L:z? 0 n=X)
  (D:O.Aah q qi n ((BE l j (f E F G)).map e)=env')(k:WO S K os env'):WO S K (⟨W,.xst (.s o) v n,W⟩::os) O:=tV h H (by rw[hv,J.eq,hb,hf]) he I ha L D k
theorem zb{S:FuncId->Fq->A9->Prop}{α:Type}{x v:AH}{q n:Nat}{env':AB}{es:Fq}{e:α->TV}{l:List α}{a b:α}(h:x.ev O=.lp q qi (j.toNat*n))(p:O.wi q qi=Y (n,es))(he:es=l.map e)(u:∀a,(e a).cells.length=n)(hv:v.ev O=.tv (e b))(ha:idx l j=Y a)(w:z? 0 n=X)
  (o:O.Aah q qi n ((BE l j b).map e)=env')(k:WO S K os env'):WO S K (⟨W,.xst x v n,W⟩::os) O:=tV h p hv he u ha w o k
end
section
variable{S:FuncId->Fq->A9->Prop}{K:AB->Prop}{os:List PR}{O:AB}{d:Nat}
theorem ABe(k:∀b,WO S K os ((d,.mx (.mp b []))::O)):WO S K (⟨Y d,.mkm,W⟩::os) O:=
 ⟨λb=>(k b).out⟩
theorem ABg{s:Nat}{last:Option ((Int×Int)×Int)}{o:Bk}(h:O.get s=.mx (.mi last o))(hd:d≠s)(w:o=[]->WO S K os ((d,.tp [.bool T])::O))(A:∀p u,o.Perm (p::u)->WO S K os ((d,.tp [.bool X,TW p.1,.int .i64 p.2])::(s,.mx (.mi (Y p) u))::O)):WO S K (⟨Y d,.mnx s,W⟩::os) O:=by
 refine ⟨?_⟩;simp only[wpOps,PR.wp,AE.wp,h];exact⟨hd,λe=>(w e).out,λp t B=>(A p t B).out⟩
variable{kvs:Bk}
theorem ra{f:FuncId}{args:List AH}{ts us:Fq}(hv:vals O args=Y ts)(h:S f ts (.mpr kvs us))(k:∀b,WO S K os ((d,.mx (.tm b kvs us))::O)):WO S K (⟨Y d,.AaI f args,W⟩::os) O:=by
 refine ⟨?_⟩;simp only[wpOps,PR.wp,AE.wp,hv,Ay];exact .inr ⟨kvs,us,h,λ_ b=>(k b).out⟩
theorem rZ{f:FuncId}{args:List AH}{ts us:Fq}(hv:vals O args=Y ts)(h:S f ts (.tp us))(k:WO S K os ((d,.tp us)::O)):WO S K (⟨Y d,.AaI f args,W⟩::os) O:=by
 refine ⟨?_⟩;simp only[wpOps,PR.wp,AE.wp,hv,Ay];exact .inl ⟨us,h,λ_=>k.out⟩
theorem MK{ss:QQ}{s:Nat}{r:AB}{m:MX}(h:O.get s=.mx m)(k:Kp O ss r):Kp O (s::ss) ((s,.mx m)::r):=PT h k
theorem ABB{ss:QQ}{s:Nat}{r:AB}{q:List (Nat×EV)}{m:MX}(h:look q s=W)(o:O.get s=.mx m)(k:Nm O q ss r):Nm O q (s::ss) ((s,.mx m)::r):=Rr h o k
end
def PV(r:Bk×Int):A9:=if r.2=0 then .mpr r.1 [.int .i64 r.2]else .tp [.undef,.int .i64 r.2]
structure HMO(o:Nat):Prop where
variable{kvs:Bk}
theorem uY{h:List RV}{O:AB}{e:Int}(he:(!decide (e=0))=X)(o:h.length≠1)(p:Er O h=Y [.undef,.int .i64 e]):Bb h (PV (kvs,e)) O:=by
 simp only[Bool.not_eq_true',decide_eq_false_iff_not]at he;simp only[PV,ae he];exact⟨o,p⟩
theorem uZ{s o b:Nat}{h:List RV}{O:AB}(_:HMO o)(p:O.get s=.tv (.AaV b))(u:O.get o=.mx (.mp b kvs))(w:h≠[])(A:Er O h=Y [.int .i64 0]):Bb (.tmp s::h) (PV (kvs,0)) O:=by
 simp only[PV,if_true,Bb];exact⟨w,⟨b,o,p,u⟩,A⟩
section
variable{P:Program}{α β:Type}{K:AB->Prop}{os:List PR}{O:AB}{d:Nat}{x:Option α}{k:α->Option β}{r:β}{f:FuncId}{args:List AH}{ts:Fq}{R:α->A9}
variable{us:α->Fq}
theorem pW{i s:Nat}{cs:List AR}{q:α->Bool}{u v:α->List AR}{e:α->EV}(h:x.bind k=Y r)(c:Ct P x f ts R)(A:(args[i]?).bind (·.place O)=Y (s,0))(B:O.get s=.bx cs)(C:O.noX s W=X)(hd:d≠s)(ha:JQ O i args=Y ts)(D:∀a,R a=.bo cs (if q a=X then u a else v a) i (us a))(he:∀a,EV.ofs (us a)=e a)
  (E:∀a,x=Y a->q a=X->k a=Y r->WO (AV P) K os ((d,e a)::(s,.bx (u a))::O))(F:∀a,x=Y a->q a=T->k a=Y r->WO (AV P) K os ((d,e a)::(s,.bx (v a))::O)):WO (AV P) K (⟨Y d,.AaA f args i,W⟩::os) O:=by
 refine tZ h c A B C hd ha D he (λa o p=>?_);cases w:q a with
 |true=>rw[ac rfl];exact E a o w p|false=>rw[ae V];exact F a o w p
end
section
variable{S:FuncId->Fq->A9->Prop}{a b:PC}{O:AB}
variable{Q:Q}
theorem wJ{c:AH}{β:Type}{q:Bool}{u v:Option β}{r:β}(p:c.val O=Y (.bool q))(h:(if q=X then u else v)=Y r)(o:q=X)(k:u=Y r->WP S a Q O):WP S (.cond c a b) Q O:=
 Tf p o (k (YW o h))
theorem wI{c:AH}{β:Type}{q:Bool}{u v:Option β}{r:β}(p:c.val O=Y (.bool q))(h:(if q=X then u else v)=Y r)(o:q=T)(k:v=Y r->WP S b Q O):WP S (.cond c a b) Q O:=
 Te p o (k (YV o h))
end
end Go.Sf
set_option maxRecDepth 100000
namespace Go.Sf
theorem Ox{P:Prop}(p:P:=by first|exact rfl|exact Ml.eq):P:=p
theorem sv{P:Prop}(p:P:=by
 first|exact AB0 rfl Ox|exact ABz rfl|exact ze rfl rfl Ox|exact zc rfl rfl|exact AB2 rfl|exact AB1 rfl Ox|exact AB4 rfl rfl|exact AB3|exact ABy a!):P:=p
theorem tD{P:Prop}(p:P:=by
 repeat (first|apply GS.step|(apply GS.nest;exact rfl))
 exact GS.done):P:=p
theorem nlq{P:Prop}(p:P:=by
 repeat (apply NL.cons;exact rfl)
 exact NL.nil rfl):P:=p
theorem ntq{P:Prop}(p:P:=by
 repeat (apply NT.cons;exact rfl)
 exact NT.nil rfl):P:=p
theorem lmq{P:Prop}(p:P:=by
 repeat (apply Lm.cons;exact rfl)
 exact Lm.nil):P:=p
theorem gnq{P:Prop}(p:P:=by
 intro _ k
 repeat' (first|exact k|exact rfl|exact Nat.le_of_ble_eq_true rfl|exact Nat.ne_of_beq_eq_false rfl|decide|apply And.intro)):P:=p
theorem au{P:Prop}(p:P:=by
 repeat' (first
  |(show WO _ _ _ _;first
    |apply O9
    |(apply st 1;exact rfl;first|exact λ_ k=>k|exact λ_ k=>⟨rfl,k⟩)
    |(apply AAp;exact rfl;assumption)
    |(apply w4;exact rfl;assumption)
    |(apply ABb;exact rfl;exact Ox)
    |(apply vX;exact rfl;assumption;exact rfl)
    |(apply vW;exact rfl;assumption;exact rfl)
    |(apply te;assumption;exact h;infer_instance;exact rfl;exact λ_=>rfl;intro x o h)|(apply pW;exact h;infer_instance;exact rfl;exact rfl;exact rfl;decide;exact rfl;exact λ_=>rfl;exact λ_=>rfl;intro x o B h;rotate_left;intro x o B h;rotate_left)|(apply AB5;exact rfl;exact h;infer_instance;intro x c h;apply st 3;exact rfl;first|exact λ_ k=>⟨_,⟨c,rfl⟩,λ_=>k⟩|exact λ_ k=>⟨_,c,λ_=>k⟩|exact λ_ k=>⟨_,c,k⟩|exact λ_ k=>⟨rfl,_,_,.inl c,λ_=>k⟩|exact λ_ k=>⟨⟨rfl,Nat.ne_of_beq_eq_false rfl⟩,_,_,c,λ_=>k⟩|exact λ_ k=>⟨Nat.ne_of_beq_eq_false rfl,_,c,λ_=>k⟩|exact λ_ k=>⟨rfl,_,_,_,rfl,c,λ_=>k⟩|exact λ_ k=>⟨⟨Nat.ne_of_beq_eq_false rfl,rfl⟩,rfl,rfl,_,_,rfl,c,λ_=>k⟩)
    |(apply wF;exact h;exact rfl;exact rfl;exact Ox;exact Ox;infer_instance;intro x o h)
    |(apply AB6;exact rfl;exact h;intro x o h;first|(apply ABY o;exact rfl;exact rfl;exact Ox;exact rfl)|(apply tO o;exact rfl;exact rfl;exact Ox;exact Ox;exact rfl)|(apply ABl o;exact rfl;exact Ox;exact rfl;exact rfl)|(apply yW o;exact rfl;exact rfl)|(apply yX o;exact rfl;exact rfl;exact rfl)|(apply ABo o;exact rfl;exact rfl;exact Ox;exact rfl)|(apply yP o;exact rfl;exact rfl;exact Ox;exact Ox;exact rfl;exact rfl;decide)|(apply yQ o;exact rfl;exact rfl;exact rfl;exact rfl;exact rfl;exact rfl;decide;exact rfl;exact rfl)|(apply ABW o;exact rfl;exact rfl;exact rfl;exact rfl;exact rfl;decide)|(apply ABf o;exact rfl;exact rfl;exact rfl;exact rfl))
    |(apply yY;exact rfl;exact Ox)
    |(apply wG;(with_reducible exact h);infer_instance;exact rfl;exact rfl;exact rfl;intro x o h)
    |(apply yR;exact rfl;exact rfl;exact rfl;exact rfl)
    |(apply wH;exact rfl;exact rfl;exact rfl;exact ntq)
    |(apply dA;exact rfl;exact rfl;exact rfl)
    |(apply zO;(with_reducible exact h);infer_instance;exact rfl;exact rfl;exact rfl;intro x o h)
    |(apply sq;exact rfl;exact rfl;exact rfl)
    |(apply zN;exact rfl;exact rfl;exact rfl;exact rfl)
    |(apply wT;exact rfl;exact rfl;exact rfl)
    |(apply wX;exact rfl;exact rfl;exact rfl;exact rfl)
    |(apply zW;exact rfl;exact rfl;exact rfl;exact rfl;exact rfl;exact nlq)
    |(apply wY;exact rfl;exact rfl;exact rfl;decide;exact rfl;exact nlq)
    |(apply ABc;exact rfl;exact rfl)
    |(apply ABd;exact rfl;exact rfl)
    |(apply st 2;exact rfl;exact gnq)
    |(apply sn;exact rfl;exact gnq)
    |(apply ACO;exact rfl)
    |(apply ABZ;exact rfl)
    |(apply td;exact h;infer_instance;exact rfl;exact λ_=>rfl;intro x o h)
    |(apply zT;exact h;exact rfl;exact rfl;intro x o h)
    |(apply zU;exact h;exact rfl;exact rfl;intro x o h)
    |(apply zB;exact h;exact rfl;exact rfl;decide;intro x o h)
    |(apply wW;exact h;exact rfl;exact rfl;intro x o h)
    |(apply wA;exact rfl;exact rfl;infer_instance;exact rfl;exact rfl;exact rfl)
    |(apply wC;exact rfl;exact rfl;infer_instance;exact rfl;exact rfl;exact rfl)
    |refine wB rfl rfl rfl rfl rfl ?_
    |refine wD rfl rfl rfl rfl rfl ?_
    |(apply zI;exact rfl;(with_reducible exact h);intro A B h;rotate_left;intro A B h;rotate_left)
    |(apply zH;exact rfl;(with_reducible exact h);intro A B h;rotate_left;intro A B h;rotate_left)
    |(apply zK h (ho:=rfl);exact tD;exact rfl;exact rfl;intro v A B h;rotate_left;intro v A B h;rotate_left;intro v h;rotate_left)
    |(apply zJ h (ho:=rfl);exact tD;exact rfl;exact rfl;intro v A B h;rotate_left;intro v A B h;rotate_left;intro v h;rotate_left)
    |(apply zF rfl;exact tD;exact rfl;exact rfl;intro A B;rotate_left;intro A B;rotate_left 3)
    |(apply zE rfl;exact tD;exact rfl;exact rfl;intro A B;rotate_left;intro A B;rotate_left 3)
    |apply wQ
    |(apply wV;exact rfl;exact lmq;exact λ_=>rfl;infer_instance)|(apply wU;exact rfl;exact lmq;exact λ_=>rfl)
    |(apply zQ;exact rfl;exact rfl)
    |(apply zD;exact rfl;infer_instance)
    |(apply wZ;exact rfl;exact rfl;exact rfl;exact λ_=>rfl;assumption;exact rfl;exact rfl;exact rfl)|(apply za;exact rfl;exact rfl;exact rfl;exact λ_=>rfl;assumption;exact rfl;exact rfl;exact rfl)|(apply wd;assumption;exact rfl;exact rfl;exact rfl;exact rfl;exact λ_=>rfl;assumption;exact rfl;exact rfl;exact rfl;exact rfl)|(apply wc;exact rfl;exact rfl;exact rfl;exact rfl;exact λ_=>rfl;assumption;exact rfl;exact rfl;exact rfl;exact rfl)|(apply we;assumption;exact rfl;exact rfl;exact rfl;exact λ_=>rfl;exact rfl;exact ntq;exact rfl;exact λ_ _ _=>rfl;assumption;exact rfl;exact rfl)|(apply zb;exact rfl;exact rfl;exact rfl;exact λ_=>rfl;exact rfl;assumption;exact rfl;exact rfl)|(apply pZ;exact h;infer_instance;exact rfl;exact rfl;exact λ_=>rfl;exact λ_=>rfl;intro x o h)|(apply pY;exact h;infer_instance;exact rfl;exact λ_=>rfl;exact λ_=>rfl;intro x o h)
    |(apply zL;exact h;exact rfl;exact Ox;intro u h)
    |(apply tQ;exact rfl;exact rfl;intro z D;replace h:=t8 h z D)
    |(apply yT;exact rfl)
    |(apply zR;exact h;exact rfl;exact rfl;exact rfl;exact Ox;intro x o h)
    |(apply ABh;exact rfl;exact rfl;exact Ox;assumption)
    |(apply zS;exact h;exact rfl;exact rfl;exact rfl;exact Ox;exact λ_=>rfl;assumption;intro x o h)|(apply ABi;exact rfl;exact rfl;exact rfl;exact Ox;exact λ_=>rfl;assumption;assumption;exact rfl;exact rfl;exact rfl;exact rfl)
    |(apply wE;exact h;exact rfl;exact rfl;exact rfl;exact rfl;exact Ox;exact rfl;exact rfl;decide;exact rfl;intro x o h)
    |(apply pX;exact h;infer_instance;exact rfl;exact λ_=>rfl;exact λ_=>rfl;exact λ_=>rfl;intro x o h)
    |(apply ABe;intro b;have K:=K b))
  |(show WP _ _ _ _;first
    |with_reducible apply zC
    |apply MG
    |apply RZ
    |(apply wL;exact rfl)
    |(apply zV;exact rfl;exact rfl)
    |apply dK
    |apply kI
    |apply mQ
    |(apply Tf;exact rfl;with_reducible rfl)
    |(apply Te;exact rfl;with_reducible rfl)
    |(apply wR;exact rfl;exact h;assumption;exact rfl;intro w B h;rotate_left;intro w B h;rotate_left;intro w h;rotate_left)
    |(apply wJ;exact rfl;exact h;assumption;intro h)
    |(apply wI;exact rfl;exact h;assumption;intro h)
    |(apply wK;exact rfl;exact h;intro B h;rotate_left;intro B h;rotate_left)
    |(apply Tf;exact rfl;apply dlt;assumption)
    |(apply Te;exact rfl;apply ACM;assumption)
    |(apply wM;(first|assumption|(apply HB.a;assumption));exact h;exact C;exact sv;exact rfl;exact rfl;exact λ_ _=>rfl;intro i s r hi h C;rotate_left;intro i s hi;clear h;rotate_left;intro s h;rotate_left)
    |(apply wP;(first|assumption|(apply HB.a;assumption));assumption;exact rfl;exact h;exact C;exact sv;exact rfl;exact rfl;exact λ_ _=>rfl;intro i s r hi h C;rotate_left;intro i s hi;clear h;rotate_left;intro s h;rotate_left)
    |(apply wO;(first|assumption|(apply HB.a;assumption));exact h;exact C;exact sv;exact rfl;exact rfl;exact λ_ _=>rfl;intro i s r hi h C;rotate_left;intro i s hi;clear h;rotate_left;intro s h;rotate_left)
    |(apply wN;(first|assumption|(apply HB.a;assumption));exact h;exact C;exact sv;exact rfl;exact rfl;exact λ_ _=>rfl;intro i s r hi h C;rotate_left;intro i s hi;clear h;rotate_left;intro s h;rotate_left)
    |(apply zZ;assumption;assumption;exact rfl;exact h;exact rfl;exact rfl;intro s r h C;rotate_left;intro s h;rotate_left)
    |(apply zY;assumption;exact h;exact rfl;exact rfl;intro s r h C;rotate_left;intro s h;rotate_left)
    |(apply zX;assumption;exact h;exact rfl;exact rfl;intro s r h C;rotate_left;intro s h;rotate_left)
    |apply iW
    |cases h)
  |(show Kp _ _ _;first
    |exact Jd
    |(apply MM;exact rfl)
    |(apply AAx;exact rfl)
    |(apply MJ;exact rfl)
    |(apply AAz;exact rfl)
    |(apply AAv;exact rfl)
    |(apply ML;exact rfl)
    |(apply MN;exact rfl)
    |(apply AAw;exact rfl)
    |(apply AAy;exact rfl)
    |(apply xK;exact rfl)
    |(apply MK;exact rfl))
  |(show Nm _ _ _ _;first
    |exact xO
    |(apply xN;exact rfl)
    |(apply ABE;exact rfl;exact rfl)
    |(apply ABC;exact rfl;exact rfl)
    |(apply AA9;exact rfl;exact rfl)
    |(apply ABG;exact rfl;exact rfl)
    |(apply AA8;exact rfl;exact rfl)
    |(apply ABD;exact rfl;exact rfl)
    |(apply ABF;exact rfl;exact rfl)
    |(apply ABA;exact rfl;exact rfl)
    |(apply ABB;exact rfl;exact rfl))
  |apply uL
  |(apply qM;intro j)
  |apply uK
  |exact nG rfl
  |(cases h;exact nG rfl)
  |apply dn
  |(apply uE;decide)
  |intro C
  |(cases h;first|exact rfl|exact⟨rfl⟩|exact⟨rfl,rfl⟩|exact⟨_,rfl,rfl⟩|exact⟨_,rfl,⟨rfl⟩⟩|exact⟨rfl,_,rfl,⟨rfl⟩⟩|exact⟨a!,rfl⟩|exact⟨_,rfl,a!,rfl⟩|exact⟨_,rfl,rfl,rfl⟩|exact uZ (by assumption) rfl rfl a! rfl|exact⟨_,rfl,uY (by first|assumption|decide) a! rfl⟩)
  |exact⟨rfl,⟨rfl⟩⟩)):P:=p
end Go.Sf
