/- Contracts that are found by themselves: rules that take the typed text along, and the script that applies them. -/
import Derived.Test.YtagcclhejecceaaGreatSfK
import Derived.Test.YtagcclhejecceaaGreatSfStep
import Derived.Test.YtagcclhejecceaaGreatSfLib
set_option linter.all false
namespace Go.Sf
class Ct(P:Program){α:Type}(x:Option α)(f:outParam FuncId)(ts:outParam Fq)(R:outParam (α->Am)):Prop where
 snd:∀r,x=some r->AR P f ts (R r)
class Ml(es:Fq){α:outParam Type}(e:outParam (α->TV))(l:outParam (List α)):Prop where
 eq:es=l.map e
class eR{α:Type}(e:α->TV)where
 un:Fq->α
 dec:∀a b,∃i:Decidable (a=b),CA (e a).cells (e b).cells=some (@decide (a=b) i)
class Fz(cs:List AN)(row:outParam Fq):Prop where
 h:cs.map (·.t)=row
instance(priority:=high){l:Fq}:Fz (l.map fun x=>(⟨false,x⟩:AN)) l:=⟨by rw[List.map_map];exact List.map_id _⟩
instance(priority:=low){cs:List AN}:Fz cs (cs.map (·.t)):=⟨rfl⟩
class En(α:Type)(e:outParam (α->TV)):Prop where
class Fl{α:Type}(e:α->TV)(n:outParam Nat)(f:outParam (List α->TV)):Prop where
 eq:∀l,f l=.list n (l.map e)
structure Kp(U:AB)(l:Ne)(r:AB):Prop where
 of::out:U.ff l=r
def look:List (Nat×EV)->Nat->Option EV
 |[],_=>none|(k,e)::r,n=>if k=n then some e else look r n
def wi(U:AB)(m:List (Nat×EV)):Ne->AB
 |[]=>[]|s::ss=>(s,(look m s).getD (U.get s))::wi U m ss
structure Nm(U:AB)(m:List (Nat×EV))(l:Ne)(r:AB):Prop where
 of::out:wi U m l=r
structure Rn(a b:AB):Prop where
 of::out:a=b
structure HJ{σ:Type}(n:Nat)(M:σ->List (Nat×EV)):Prop where
structure HA{σ:Type}(n FY q i:Nat)(M:Int->σ->List (Nat×EV)):Prop where
structure HB{σ:Type}(n FY q i:Nat)(M:Int->σ->List (Nat×EV)):Prop where
theorem HB.a{σ:Type}{n FY q i:Nat}{M:Int->σ->List (Nat×EV)}(_:HB n FY q i M):HA n FY q i M:=⟨⟩
structure HW{σ:Type}(n:Nat)(M:σ->List (Nat×EV)):Prop where
structure HR{β:Type}(R:β->AB->Prop):Prop where
structure HS(n:Nat):Prop where
structure HX{α γ:Type}(n:Nat)(f:α->γ->α):Prop where
structure Yl(g:Nat)(b q:Bool):Prop where
 of::out:q=b
structure Uw(g:Nat)(b q:Bool):Prop where
 of::out:q=!b
def KR(n:AB->Prop)(l:Ne):AB->Prop:=fun e=>n (e.ff l)
section
variable{U:AB}{s:Nat}{ss:Ne}{r:AB}{m:List (Nat×EV)}
theorem H6:Kp U [] []:=⟨rfl⟩
theorem Ms{e:EV}(h:U.get s=e)(k:Kp U ss r):Kp U (s::ss) ((s,e)::r):=⟨by rw[<-k.out,<-h];rfl⟩
theorem J9{t:TV}(h:U.get s=.tv t)(k:Kp U ss r):Kp U (s::ss) ((s,.tv t)::r):=Ms h k
theorem sd{t:TV}(h:U.get s=.ow t)(k:Kp U ss r):Kp U (s::ss) ((s,.ow t)::r):=Ms h k
theorem J6{t:List AN}(h:U.get s=.bx t)(k:Kp U ss r):Kp U (s::ss) ((s,.bx t)::r):=Ms h k
theorem sb{q o:Nat}(h:U.get s=.bp q o)(k:Kp U ss r):Kp U (s::ss) ((s,.bp q o)::r):=Ms h k
theorem J8{t:Fq}(h:U.get s=.tp t)(k:Kp U ss r):Kp U (s::ss) ((s,.tp t)::r):=Ms h k
theorem KA(h:U.get s=.undef)(k:Kp U ss r):Kp U (s::ss) ((s,.undef)::r):=Ms h k
theorem sf{n:Nat}{t:Fq}(h:U.get s=.xo n t)(k:Kp U ss r):Kp U (s::ss) ((s,.xo n t)::r):=Ms h k
theorem sc{q:Nat}{i:Option Nat}(h:U.get s=.la q i)(k:Kp U ss r):Kp U (s::ss) ((s,.la q i)::r):=Ms h k
theorem se(h:U.get s=.sk)(k:Kp U ss r):Kp U (s::ss) ((s,.sk)::r):=Ms h k
theorem ou{t:List AN}(h:U.get s=.wQ t)(k:Kp U ss r):Kp U (s::ss) ((s,.wQ t)::r):=Ms h k
theorem o0:Nm U m [] []:=⟨rfl⟩
theorem oz{e:EV}(h:look m s=some e)(k:Nm U m ss r):Nm U m (s::ss) ((s,e)::r):=⟨by rw[<-k.out];simp only[wi,h,Option.getD_some]⟩
theorem O4{e:EV}(h:look m s=none)(o:U.get s=e)(k:Nm U m ss r):Nm U m (s::ss) ((s,e)::r):=⟨by rw[<-k.out];simp only[wi,h,o,Option.getD_none]⟩
theorem tD{t:TV}(h:look m s=none)(o:U.get s=.tv t)(k:Nm U m ss r):Nm U m (s::ss) ((s,.tv t)::r):=O4 h o k
theorem tB{t:TV}(h:look m s=none)(o:U.get s=.ow t)(k:Nm U m ss r):Nm U m (s::ss) ((s,.ow t)::r):=O4 h o k
theorem s8{t:List AN}(h:look m s=none)(o:U.get s=.bx t)(k:Nm U m ss r):Nm U m (s::ss) ((s,.bx t)::r):=O4 h o k
theorem s7{q o:Nat}(h:look m s=none)(p:U.get s=.bp q o)(k:Nm U m ss r):Nm U m (s::ss) ((s,.bp q o)::r):=O4 h p k
theorem tC{t:Fq}(h:look m s=none)(o:U.get s=.tp t)(k:Nm U m ss r):Nm U m (s::ss) ((s,.tp t)::r):=O4 h o k
theorem tE(h:look m s=none)(o:U.get s=.undef)(k:Nm U m ss r):Nm U m (s::ss) ((s,.undef)::r):=O4 h o k
theorem tF{n:Nat}{t:Fq}(h:look m s=none)(o:U.get s=.xo n t)(k:Nm U m ss r):Nm U m (s::ss) ((s,.xo n t)::r):=O4 h o k
theorem s9{q:Nat}{i:Option Nat}(h:look m s=none)(o:U.get s=.la q i)(k:Nm U m ss r):Nm U m (s::ss) ((s,.la q i)::r):=O4 h o k
end
def PC.xl(i:Nat):PC->Option Ne
 |.exit j l=>if j=i then some l else none|.seq a b=>match a.xl i with
  |some l=>some l|none=>b.xl i
 |.cond _ a b=>match a.xl i with
  |some l=>some l|none=>b.xl i
 |.block _ a=>a.xl i|.loop _ a=>a.xl i|.zk _ a=>a.xl i|_=>none
def PC.last:PC->Option Ne
 |.region _ l=>some l|.draw _ _ l=>some l|.skip l=>some l|.exit _ l=>some l|.seq _ b=>b.last|.cond _ a _=>a.last|.block i (.loop _ b)=>b.xl i|.block _ c=>c.last|.zk _ c=>c.last|_=>none
section
variable{S:FuncId->Fq->Am->Prop}{K:AB->Prop}{os:List PR}{U:AB}{d:Nat}
section code
variable{n t:AB->Prop}{x:Nat->AB->Prop}{a b:PC}{l:Ne}{env':AB}
theorem Mb(o:Kp U l env')(h:n env'):WO S (KR n l) [] U:=⟨by show n (U.ff l);rw[o.out];exact h⟩
theorem Ox{ops:List PR}(h:WO S (KR n l) ops U):WP S (.region ops l) ⟨n,x,t⟩ U:=⟨h.out⟩
theorem nj{D:Ne}{ops:List PR}(hd:Qe U D=true)(h:WO S (KR n l) ops U):WP S (.draw D ops l) ⟨n,x,t⟩ U:=⟨hd,h.out⟩
theorem J2(h:WP S a ⟨fun e=>(∀s,(e.get s).WF)->WP S b ⟨n,x,t⟩ e,x,t⟩ U):WP S (.seq a b) ⟨n,x,t⟩ U:=sH h
theorem Yn(o:Kp U l env')(h:n env'):WP S (.skip l) ⟨n,x,t⟩ U:=oM o.out h
theorem cc(h:t U):WP S .ret ⟨n,x,t⟩ U:=⟨h⟩
theorem eX{i:Nat}(o:Kp U l env')(h:x i env'):WP S (.exit i l) ⟨n,x,t⟩ U:=oL o.out h
theorem rK{s:Nat}{cs cs':List AN}{c:PC}{q:Q}(h:U.get s=.bx cs)(he:cs.map AN.rel=cs')(k:WP S c q ((s,.bx cs')::U)):WP S (.zk s c) q U:=by
 refine ⟨?_⟩;subst he;simp only[PC.wp,h];exact k.out
theorem bB{i:Nat}(h:WP S a ⟨n,fun j e=>if j=i then n e else x j e,t⟩ U):WP S (.block i a) ⟨n,x,t⟩ U:=Wi h
theorem qu{m:List (Nat×EV)}{e:AB}{q:Q}(he:Nm e m l env')(h:WP S a q env'):WP S a q (wi e m l):=by rw[he.out];exact h
variable{Q:Q}
theorem ni{c:AF}{β:Type}{q:Bool}{u v:Option β}{r:β}(o:c.val U=some (.bool q))(h:(if q=true then u else v)=some r)(p:q=true->u=some r->WP S a Q U)(w:q=false->v=some r->WP S b Q U):WP S (.cond c a b) Q U:=
 Vl o (fun e=>p e (V5 e h)) (fun e=>w e (V4 e h))
theorem nv{σ β:Type}{i:Nat}{M:σ->List (Nat×EV)}{q:Bool}{u v:Option σ}{k:σ->Option β}{r:β}(p:(AF.s i).val U=some (.bool q))(h:((if q=true then u else v).bind k)=some r)(_:HJ i M)(_:(PC.cond (.s i) a b).last=some l)
  (A:∀w,q=true->u=some w->WP S a ⟨fun e=>Rn e (wi U (M w) l),x,t⟩ U)(B:∀w,q=false->v=some w->WP S b ⟨fun e=>Rn e (wi U (M w) l),x,t⟩ U)(C:∀w,k w=some r->n (wi U (M w) l)):WP S (.cond (.s i) a b) ⟨n,x,t⟩ U:=by
 obtain ⟨w,o,h⟩:=bind_some h;refine sG (fun e=>Rn e (wi U (M w) l)) ?_ (fun e he=>by rw[he.out];exact C w h);exact Vl p (fun e=>A w e (V5 e o)) (fun e=>B w e (V4 e o))
end code
structure Bd(U:AB)(q i:Nat)(b:Int):Prop where
 of::out:(∀s,(U.get s).WF)->b<=9223372036854775807
section bounds
variable{q i:Nat}{α:Type}{e:α->TV}{l:List α}{es row:Fq}{n:Nat}
theorem uW{b:Int}(h:decide (b<=9223372036854775807)=true):Bd U q i b:=⟨fun _=>of_decide_eq_true h⟩
theorem ub{b:Int}:Bd U q i (AY b):=⟨fun _=>qh _⟩
theorem uY(h:U.get q=.tv (.list n es))(he:es=l.map e):Bd U q i l.length:=⟨fun o=>by have:=o q;rw[h]at this;exact UT (Yh this) he⟩
theorem uZ(h:U.get q=.ow (.list n es))(he:es=l.map e):Bd U q i l.length:=⟨fun o=>by have:=o q;rw[h]at this;exact UT (t1 this) he⟩
theorem uc(h:U.get q=.xo n es)(he:es=l.map e):Bd U q i l.length:=⟨fun o=>by have:=o q;rw[h]at this;exact UT (t2 this) he⟩
theorem ua{b:ByteArray}(h:U.get q=.tv (.str b)):Bd U q i b.size:=⟨fun o=>by have:=o q;rw[h]at this;exact nM (Yh this)⟩
theorem uX{b:Int}(h:U.get q=.tv (.int .i64 b)):Bd U q i b:=⟨fun o=>by have:=o q;rw[h]at this;exact gj (Yh this)⟩
theorem rW(h:U.get q=.tv (.pt row))(o:row[i]?=some (.list n es))(he:es=l.map e):Bd U q i l.length:=⟨fun p=>by have:=p q;rw[h]at this;exact UT (cR (lg this) o) he⟩
theorem rV{b:Int}(h:U.get q=.tv (.pt row))(o:row[i]?=some (.int .i64 b)):Bd U q i b:=⟨fun p=>by have:=p q;rw[h]at this;exact gj (cR (lg this) o)⟩
end bounds
section loops
variable{σ β ρ:Type}{n t:AB->Prop}{x:Nat->AB->Prop}{c:PC}{live jl:Ne}{i0 FY q i1:Nat}{lo b:Int}{s0:σ}{r:β}{k:σ->Option β}
variable{M:Int->σ->List (Nat×EV)}
theorem qj(h:∀i s,(wi U (M i s) live).get FY=.tv (.int .i64 i)){i:Int}{s:σ}(o:∀k,((wi U (M i s) live).get k).WF)(hi:i<b)(p:b<=9223372036854775807):AY (i+1)=i+1:=by
 have:=o FY;rw[h]at this;exact t6 (Yh this) hi p
theorem nk{f:Int->σ->Option σ}(_:HA i0 FY q i1 M)(h:(o4 f lo b s0).bind k=some r)(p:∀s,(U.get s).WF)(u:Bd U q i1 b)(_:c.xl i0=some jl)(w:U.ff live=wi U (M lo s0) live)(A:∀i s,(wi U (M i s) live).get FY=.tv (.int .i64 i))
  (B:∀i s r,i<b->f i s=some r->(∀k,((wi U (M i s) live).get k).WF)->WP S c ⟨fun e=>Rn (e.ff live) (wi U (M (AY (i+1)) r) live),fun _ _=>False,fun _=>False⟩ (wi U (M i s) live))
  (C:∀i s,¬i<b->WP S c ⟨fun _=>False,fun j e=>j=i0/\Rn e (wi U (M 0 s) jl),fun _=>False⟩ (wi U (M i s) live))
  (D:∀s,k s=some r->n (wi U (M 0 s) jl)):WP S (.block i0 (.loop live c)) ⟨n,x,t⟩ U:=by
 obtain ⟨o,ho,h⟩:=bind_some h;have u:=u.out p;refine nN ho (fun i s=>wi U (M i s) live) (fun s=>wi U (M 0 s) jl) w (fun i s r hi hf p=>⟨PC.ns S c _ _ (B i s r hi hf p).out _ (fun e he=>?_) (fun _ _ h=>h) (fun _ h=>h)⟩) (fun i s hi=>⟨PC.ns S c _ _ (C i s hi).out _ (fun _ h=>h) (fun j e h=>⟨h.1,h.2.out⟩) (fun _ h=>h)⟩) (D o h);have:=he.out;rw[qj A p hi u]at this;exact this
variable{kr:ρ->Option β}
theorem Wt{f:Int->σ->Option (Bx σ ρ)}{R:ρ->AB->Prop}(h:ek (jj f lo b s0) k kr=some r)(w:b<=9223372036854775807)(A:U.ff live=wi U (M lo s0) live)(B:∀i s,(wi U (M i s) live).get FY=.tv (.int .i64 i))
  (C:∀i s r,i<b->f i s=some r->(∀k,((wi U (M i s) live).get k).WF)->WP S c ⟨fun e=>∃s',r=.next s'/\Rn (e.ff live) (wi U (M (AY (i+1)) s') live),fun j e=>j=i0/\∃s',r=.brk s'/\Rn e (wi U (M 0 s') jl),fun e=>∃v,r=.ret v/\R v e⟩ (wi U (M i s) live))
  (D:∀i s,¬i<b->WP S c ⟨fun _=>False,fun j e=>j=i0/\Rn e (wi U (M 0 s) jl),fun _=>False⟩ (wi U (M i s) live))
  (E:∀s,k s=some r->n (wi U (M 0 s) jl))(F:∀v e,kr v=some r->R v e->t e):WP S (.block i0 (.loop live c)) ⟨n,x,t⟩ U:=by
 obtain ⟨o,ho,h⟩:=Wc h;refine cW ho (fun i s=>wi U (M i s) live) (fun s=>wi U (M 0 s) jl) R A (fun i s r hi hf u=>⟨PC.ns S c _ _ (C i s r hi hf u).out _ (fun e he=>?_) (fun j e he=>?_) (fun _ h=>h)⟩) (fun i s hi=>⟨PC.ns S c _ _ (D i s hi).out _ (fun _ h=>h) (fun j e h=>⟨h.1,h.2.out⟩) (fun _ h=>h)⟩) (fun s G=>E s (cL h G)) (fun v e hv=>F v e (cM h hv))
 .obtain⟨s',p,e2⟩:=he;have e2:=e2.out;rw[qj B u hi w]at e2;exact⟨s',p,e2⟩
 .obtain⟨H,s',p,e2⟩:=he;exact⟨H,s',p,e2.out⟩
theorem nt{f:Int->σ->Option (Bx σ β)}{R:β->AB->Prop}(_:HA i0 FY q i1 M)(_:HR R)(o:R r=t)(h:ek (jj f lo b s0) k (fun v=>some v)=some r)(p:∀s,(U.get s).WF)(u:Bd U q i1 b)(_:c.xl i0=some jl)(w:U.ff live=wi U (M lo s0) live)(A:∀i s,(wi U (M i s) live).get FY=.tv (.int .i64 i))
  (B:∀i s r,i<b->f i s=some r->(∀k,((wi U (M i s) live).get k).WF)->WP S c ⟨fun e=>∃s',r=.next s'/\Rn (e.ff live) (wi U (M (AY (i+1)) s') live),fun j e=>j=i0/\∃s',r=.brk s'/\Rn e (wi U (M 0 s') jl),fun e=>∃v,r=.ret v/\R v e⟩ (wi U (M i s) live))
  (C:∀i s,¬i<b->WP S c ⟨fun _=>False,fun j e=>j=i0/\Rn e (wi U (M 0 s) jl),fun _=>False⟩ (wi U (M i s) live))
  (D:∀s,k s=some r->n (wi U (M 0 s) jl)):WP S (.block i0 (.loop live c)) ⟨n,x,t⟩ U:=
 Wt h (u.out p) w A B C D (fun v e hv E=>by cases hv;rw[<-o];exact E)
variable{τ:Type}
theorem nq{f:Int->σ->Option (Bx σ ρ)}{k:σ->Option (Bx τ ρ)}{r:Bx τ ρ}{R:ρ->AB->Prop}(_:HA i0 FY q i1 M)(h:ek (jj f lo b s0) k (fun v=>some (.ret v))=some r)(o:∀s,(U.get s).WF)(p:Bd U q i1 b)(_:c.xl i0=some jl)(u:U.ff live=wi U (M lo s0) live)(w:∀i s,(wi U (M i s) live).get FY=.tv (.int .i64 i))
  (A:∀i s r,i<b->f i s=some r->(∀k,((wi U (M i s) live).get k).WF)->WP S c ⟨fun e=>∃s',r=.next s'/\Rn (e.ff live) (wi U (M (AY (i+1)) s') live),fun j e=>j=i0/\∃s',r=.brk s'/\Rn e (wi U (M 0 s') jl),fun e=>∃v,r=.ret v/\R v e⟩ (wi U (M i s) live))
  (B:∀i s,¬i<b->WP S c ⟨fun _=>False,fun j e=>j=i0/\Rn e (wi U (M 0 s) jl),fun _=>False⟩ (wi U (M i s) live))
  (C:∀s,k s=some r->n (wi U (M 0 s) jl)):WP S (.block i0 (.loop live c)) ⟨n,x,fun e=>∃v,r=.ret v/\R v e⟩ U:=
 Wt h (p.out o) u w A B C (fun v e hv D=>by cases hv;exact⟨v,rfl,D⟩)
theorem np{f:Int->σ->Option (Bx σ ρ)}(_:HA i0 FY q i1 M)(h:ek (jj f lo b s0) k (fun _=>none)=some r)(o:∀s,(U.get s).WF)(p:Bd U q i1 b)(_:c.xl i0=some jl)(u:U.ff live=wi U (M lo s0) live)(w:∀i s,(wi U (M i s) live).get FY=.tv (.int .i64 i))
  (A:∀i s r,i<b->f i s=some r->(∀k,((wi U (M i s) live).get k).WF)->WP S c ⟨fun e=>∃s',r=.next s'/\Rn (e.ff live) (wi U (M (AY (i+1)) s') live),fun j e=>j=i0/\∃s',r=.brk s'/\Rn e (wi U (M 0 s') jl),fun _=>∃v,r=.ret v/\False⟩ (wi U (M i s) live))
  (B:∀i s,¬i<b->WP S c ⟨fun _=>False,fun j e=>j=i0/\Rn e (wi U (M 0 s) jl),fun _=>False⟩ (wi U (M i s) live))
  (C:∀s,k s=some r->n (wi U (M 0 s) jl)):WP S (.block i0 (.loop live c)) ⟨n,x,t⟩ U:=
 Wt (R:=fun _ _=>False) h (p.out o) u w A B C (fun v e hv _=>by cases hv)
theorem aP{f:σ->Option (Bx σ ρ)}{R:ρ->AB->Prop}{M:σ->List (Nat×EV)}(h:ek (Gf f s0) k kr=some r)(u:U.ff live=wi U (M s0) live)
  (w:∀s r,f s=some r->(∀k,((wi U (M s) live).get k).WF)->WP S c ⟨fun e=>∃s',r=.next s'/\Rn (e.ff live) (wi U (M s') live),fun j e=>j=i0/\∃s',r=.brk s'/\Rn e (wi U (M s') jl),fun e=>∃v,r=.ret v/\R v e⟩ (wi U (M s) live))
  (A:∀s,k s=some r->n (wi U (M s) jl))(B:∀v e,kr v=some r->R v e->t e):WP S (.block i0 (.loop live c)) ⟨n,x,t⟩ U:=by
 obtain ⟨o,ho,h⟩:=Wc h;refine ql ho (fun s=>wi U (M s) live) (fun s=>wi U (M s) jl) R u (fun s r hf C=>⟨PC.ns S c _ _ (w s r hf C).out _ (fun e he=>?_) (fun j e he=>?_) (fun _ h=>h)⟩) (fun s D=>A s (cL h D)) (fun v e hv=>B v e (cM h hv))
 .obtain⟨s',p,e2⟩:=he;exact⟨s',p,e2.out⟩
 .obtain⟨E,s',p,e2⟩:=he;exact⟨E,s',p,e2.out⟩
theorem rP{f:σ->Option (Bx σ β)}{R:β->AB->Prop}{M:σ->List (Nat×EV)}(_:HW i0 M)(_:HR R)(o:R r=t)(h:ek (Gf f s0) k (fun v=>some v)=some r)(_:c.xl i0=some jl)(p:U.ff live=wi U (M s0) live)
  (u:∀s r,f s=some r->(∀k,((wi U (M s) live).get k).WF)->WP S c ⟨fun e=>∃s',r=.next s'/\Rn (e.ff live) (wi U (M s') live),fun j e=>j=i0/\∃s',r=.brk s'/\Rn e (wi U (M s') jl),fun e=>∃v,r=.ret v/\R v e⟩ (wi U (M s) live))
  (w:∀s,k s=some r->n (wi U (M s) jl)):WP S (.block i0 (.loop live c)) ⟨n,x,t⟩ U:=
 aP h p u w (fun v e hv A=>by cases hv;rw[<-o];exact A)
theorem rN{f:σ->Option (Bx σ ρ)}{k:σ->Option (Bx τ ρ)}{r:Bx τ ρ}{R:ρ->AB->Prop}{M:σ->List (Nat×EV)}(_:HW i0 M)(h:ek (Gf f s0) k (fun v=>some (.ret v))=some r)(_:c.xl i0=some jl)(o:U.ff live=wi U (M s0) live)
  (p:∀s r,f s=some r->(∀k,((wi U (M s) live).get k).WF)->WP S c ⟨fun e=>∃s',r=.next s'/\Rn (e.ff live) (wi U (M s') live),fun j e=>j=i0/\∃s',r=.brk s'/\Rn e (wi U (M s') jl),fun e=>∃v,r=.ret v/\R v e⟩ (wi U (M s) live))
  (u:∀s,k s=some r->n (wi U (M s) jl)):WP S (.block i0 (.loop live c)) ⟨n,x,fun e=>∃v,r=.ret v/\R v e⟩ U:=
 aP h o p u (fun v e hv w=>by cases hv;exact⟨v,rfl,w⟩)
theorem rM{f:σ->Option (Bx σ ρ)}{M:σ->List (Nat×EV)}(_:HW i0 M)(h:ek (Gf f s0) k (fun _=>none)=some r)(_:c.xl i0=some jl)(o:U.ff live=wi U (M s0) live)
  (p:∀s r,f s=some r->(∀k,((wi U (M s) live).get k).WF)->WP S c ⟨fun e=>∃s',r=.next s'/\Rn (e.ff live) (wi U (M s') live),fun j e=>j=i0/\∃s',r=.brk s'/\Rn e (wi U (M s') jl),fun _=>∃v,r=.ret v/\False⟩ (wi U (M s) live))
  (u:∀s,k s=some r->n (wi U (M s) jl)):WP S (.block i0 (.loop live c)) ⟨n,x,t⟩ U:=
 aP (R:=fun _ _=>False) h o p u (fun v e hv _=>by cases hv)
end loops
end
end Go.Sf
namespace Go.Sf
section
variable{P:Program}{S:FuncId->Fq->Am->Prop}{K:AB->Prop}{os:List PR}{U:AB}{d:Nat}{α β:Type}{k:α->Option β}{r:β}
theorem zE{G:Prop}{x:Option α}(h:x.bind k=some r)(g:∀a,x=some a->k a=some r->G):G:=by
 obtain ⟨a,o,h⟩:=bind_some h;exact g a o h
theorem ue{α:Type}{x:Option α}{k:α->Option β}{op:AE}{dd:Option Nat}(_:op.zR=4)(h:x.bind k=some r)(g:∀a,x=some a->k a=some r->WO S K (⟨dd,op,none⟩::os) U):WO S K (⟨dd,op,none⟩::os) U:=zE h g
theorem ud{x:Option α}{f:FuncId}{ts:Fq}{R:α->Am}{op:AE}{dd:Option Nat}(_:op.zR=3)(h:x.bind k=some r)(c:Ct P x f ts R)(g:∀a,AR P f ts (R a)->k a=some r->WO (AR P) K (⟨dd,op,none⟩::os) U):WO (AR P) K (⟨dd,op,none⟩::os) U:=zE h fun a o=>g a (c.snd a o)
theorem na{γ:Type}{k:List γ->Option β}{n s:Nat}{y:AF}{es o:Fq}{e:γ->TV}{l m:List γ}{f:List γ->TV}(h:(Ai l m).bind k=some r)(u:U.get s=.ow (.list n es))(w:y.val U=some (.list n o))(he:es=l.map e)(hf:o=m.map e)(c:Fl e n f)
  (A:∀x,Ai l m=some x->k x=some r->WO S K os ((d,.ow (f x))::(s,.tv (.list n es))::U)):WO S K (⟨some d,.app n (.s s) y,none⟩::os) U:=by
 obtain ⟨x,p,h⟩:=bind_some h;have:=A x p h;rw[c.eq]at this;exact lO p u w he hf rfl this
section ints
variable{k:Int->Option β}{x y:AF}{ik:IntKind}{a b:Int}
theorem rH(h:(quo a b).bind k=some r)(p:x.val U=some (.int ik a))(u:y.val U=some (.int ik b))(w:∀q,quo a b=some q->k q=some r->WO S K os ((d,.tv (.int ik (ik.wrap q)))::U)):WO S K (⟨some d,.bin .i .quo x y,none⟩::os) U:=zE h fun q o h=>tf o p u (w q o h)
theorem rJ(h:(Qo a b).bind k=some r)(p:x.val U=some (.int ik a))(u:y.val U=some (.int ik b))(w:∀q,Qo a b=some q->k q=some r->WO S K os ((d,.tv (.int ik q))::U)):WO S K (⟨some d,.bin .i .rem x y,none⟩::os) U:=zE h fun q o h=>th o p u (w q o h)
theorem qt{op:BinOp}{o:IntKind}(h:(LP ik op a b).bind k=some r)(u:x.val U=some (.int ik a))(A:y.val U=some (.int o b))(B:ik=o\/op=.shl\/op=.shr)(C:∀q,LP ik op a b=some q->k q=some r->WO S K os ((d,.tv (.int ik q))::U)):WO S K (⟨some d,.bin .w op x y,none⟩::os) U:=zE h fun q p h=>tQ p u A B (C q p h)
end ints
theorem n7{k:ByteArray->Option β}{x y:AF}{u v:ByteArray}(h:(S6 u v).bind k=some r)(p:x.val U=some (.str u))(w:y.val U=some (.str v))(A:∀q,S6 u v=some q->k q=some r->WO S K os ((d,.tv (.str q))::U)):WO S K (⟨some d,.bin .s .add x y,none⟩::os) U:=zE h fun q o h=>qI o p w (A q o h)
theorem rA{k:Unit->Option β}{x:AF}{n:Nat}{es:Fq}{e:α->TV}{l:List α}(h:(VC l).bind k=some r)(o:x.val U=some (.list n es))(he:es=l.map e)(p:∀u,k u=some r->WO S K os ((d,.tv (.bool false))::U)):WO S K (⟨some d,.y9 x,none⟩::os) U:=by
 obtain ⟨u,A,h⟩:=bind_some h;refine lP o he fun b w=>?_;obtain rfl:=fF A w;exact p u h
theorem kf{x:AF}{n:Nat}{e:α->TV}{a:α}(h:A1 U (x.ev U)=some (e a).cells)(o:Nat.beq (e a).cells.length n=true)(p:TV.agg (e a).cells=e a)(u:WO S K os ((d,.tv (e a))::U)):WO S K (⟨some d,.yt x n,none⟩::os) U:=by
 have o:=Nat.eq_of_beq_eq_true o;exact lQ h (by rw[o];exact Nat.ble_self_eq_true n) (by rw[List.take_of_length_le (by omega),p]) u
theorem rC{s n:Nat}{cs:List AN}{e:α->TV}{a:α}(h:U.get s=.bx cs)(p:cs.map (·.t)=(e a).cells)(o:Nat.beq (e a).cells.length n=true)(u:TV.agg (e a).cells=e a)(w:WO S K os ((d,.tv (e a))::U)):WO S K (⟨some d,.zO s n,none⟩::os) U:=by
 have o:=Nat.eq_of_beq_eq_true o;exact tV h (by rw[p,o];exact Nat.ble_self_eq_true n) (by rw[p,List.take_of_length_le (by omega),u]) w
variable{v:AF}
theorem n8{n s:Nat}{cs:List AN}{t:TV}(o:U.get s=.bx cs)(hv:v.ev U=.tv t)(p:t.cells.length=n)(h:Nat.beq n cs.length=true)(u:WO S K os ((s,.bx (t.cells.map (⟨false,·⟩)))::U)):WO S K (⟨none,.yy n s v,none⟩::os) U:=by
 have h:=Nat.eq_of_beq_eq_true h;refine tj o hv p (by rw[Nat.zero_add,h];exact Nat.ble_self_eq_true _) ?_ u;rw[List.take_zero,Nat.zero_add,h,List.drop_length,List.append_nil,List.nil_append]
theorem nw{x:AF}{n:Nat}{e:α->TV}{a:α}(h:A1 U (x.ev U)=some (((e a).cells.map fun t=>(⟨false,t⟩:AN)).map (·.t)))(o:Nat.beq (e a).cells.length n=true)(p:TV.agg (e a).cells=e a)(u:WO S K os ((d,.tv (e a))::U)):WO S K (⟨some d,.yt x n,none⟩::os) U:=
 kf (by rw[h,List.map_map];congr 1;exact List.map_id _) o p u
def ce(n:Nat):Fq->Bool
 |[]=>true|t::ts=>Nat.beq t.cells.length n&&ce n ts
theorem Yq{n:Nat}:∀{ts:Fq},ce n ts=true->∀t∈ts,t.cells.length=n
 |[],_,_,h=>by cases h
 |t::ts,h,u,o=>by
  simp only[ce,pr]at h;rcases List.mem_cons.1 o with rfl|o
  .exact Nat.eq_of_beq_eq_true h.1
  .exact Yq h.2 u o
variable{parts:List AF}
theorem rE{n:Nat}{ts:Fq}(h:vals U parts=some ts)(o:ce n ts=true)(p:WO S K os ((d,.ow (.list n ts))::U)):WO S K (⟨some d,.yI n parts,none⟩::os) U:=by
 have:=p.out;refine⟨?_⟩;simp only[wpOps,PR.wp,AE.wp,h,AX];exact⟨Yq o,this⟩
variable{zero:Fq}
theorem nc{parts:List (Nat×Nat×AF)}{ts:List (Nat×Nat×TV)}{cs:Fq}{e:α->TV}{a:α}(h:(some a).bind k=some r)(_:En α e)(o:EL U parts=some ts)(p:EP zero ts=some cs)(he:TV.agg cs=e a)(u:∀x,x=a->k x=some r->WO S K os ((d,.tv (e x))::U)):WO S K (⟨some d,.yq zero parts,none⟩::os) U:=by
 rw [Option.bind_some]at h;exact Yg o p he (u a rfl h)
theorem rD{x:AF}{n:Nat}{cs:Fq}{e:α->TV}{a:α}(h:(some a).bind k=some r)(_:En α e)(o:A1 U (x.ev U)=some cs)(p:Nat.ble n cs.length=true)(he:TV.agg (cs.take n)=e a)(u:∀x,x=a->k x=some r->WO S K os ((d,.tv (e x))::U)):WO S K (⟨some d,.yt x n,none⟩::os) U:=by
 rw [Option.bind_some]at h;exact lQ o p he (u a rfl h)
inductive Lm{α:Type}(e:α->TV):Fq->List α->Prop
 |nil:Lm e [] []
 |cons {t:TV} {ts:Fq} {a:α} {l:List α}:t=e a->Lm e ts l->Lm e (t::ts) (a::l)
theorem Lm.eq{e:α->TV}{ts:Fq}{l:List α}(h:Lm e ts l):ts=l.map e:=by
 induction h with
 |nil=>rfl|cons h _ o=>rw[h,o];rfl
theorem nx{n:Nat}{ts:Fq}{e:α->TV}{l:List α}(h:vals U parts=some ts)(o:Lm e ts l)(p:∀a,(e a).cells.length=n)(u:WO S K os ((d,.ow (.list n (l.map e)))::U)):WO S K (⟨some d,.yI n parts,none⟩::os) U:=lR h o.eq p u
theorem ny{n:Nat}{ts:Fq}{e:α->TV}{l:List α}{f:List α->TV}(h:vals U parts=some ts)(p:Lm e ts l)(u:∀a,(e a).cells.length=n)(c:Fl e n f)(o:WO S K os ((d,.ow (f l))::U)):WO S K (⟨some d,.yI n parts,none⟩::os) U:=by
 rw [c.eq]at o;exact lR h p.eq u o
theorem nW{e:α->TV}{n:Ne}{x y:AF}{a:α}{cs:Fq}(o:x.val U=some (e a))(p:y.val U=some (.agg cs))[c:eR e][i:Decidable (a=c.un cs)](u:TV.agg (e a).cells=e a)(w:(e (c.un cs)).cells=cs)(A:(e a).cells.map TV.kd=n)(B:WO S K os ((d,.tv (.bool (decide (a=c.un cs))))::U)):WO S K (⟨some d,.bin (.a n) .eql x y,none⟩::os) U:=by
 obtain ⟨C,h⟩:=c.dec a (c.un cs);have:i=C:=Subsingleton.elim _ _;subst this;rw[<-u]at o;rw[w]at h;exact gB o p A h B
theorem nY{e:α->TV}{n:Ne}{x y:AF}{a:α}{cs:Fq}(o:x.val U=some (e a))(p:y.val U=some (.agg cs))[c:eR e][i:Decidable (a=c.un cs)](u:TV.agg (e a).cells=e a)(w:(e (c.un cs)).cells=cs)(A:(e a).cells.map TV.kd=n)(B:WO S K os ((d,.tv (.bool (!decide (a=c.un cs))))::U)):WO S K (⟨some d,.bin (.a n) .neq x y,none⟩::os) U:=by
 obtain ⟨C,h⟩:=c.dec a (c.un cs);have:i=C:=Subsingleton.elim _ _;subst this;rw[<-u]at o;rw[w]at h;exact gC o p A h B
theorem nV{e:α->TV}{n:Ne}{x y:AF}{a b:α}{i:Decidable (a=b)}(o:x.val U=some (e a))(p:y.val U=some (e b))(c:eR e)(u:TV.agg (e a).cells=e a)(w:TV.agg (e b).cells=e b)(A:(e a).cells.map TV.kd=n)(B:WO S K os ((d,.tv (.bool (decide (a=b))))::U)):WO S K (⟨some d,.bin (.a n) .eql x y,none⟩::os) U:=by
 obtain ⟨C,h⟩:=c.dec a b;have:i=C:=Subsingleton.elim _ _;subst this;rw[<-u]at o;rw[<-w]at p;exact gB o p A h B
theorem nX{e:α->TV}{n:Ne}{x y:AF}{a b:α}{i:Decidable (a=b)}(o:x.val U=some (e a))(p:y.val U=some (e b))(c:eR e)(u:TV.agg (e a).cells=e a)(w:TV.agg (e b).cells=e b)(A:(e a).cells.map TV.kd=n)(B:WO S K os ((d,.tv (.bool (!decide (a=b))))::U)):WO S K (⟨some d,.bin (.a n) .neq x y,none⟩::os) U:=by
 obtain ⟨C,h⟩:=c.dec a b;have:i=C:=Subsingleton.elim _ _;subst this;rw[<-u]at o;rw[<-w]at p;exact gC o p A h B
section calls
variable{x:Option α}{f:FuncId}{ts:Fq}{R:α->Am}{args:List AF}
theorem qv{s:Nat}{cs:List AN}{row:Fq}(o:U.get s=.bx cs)(f:Fz cs row)(k:WO S K os ((s,.tv (.pt row))::U)):WO S K (⟨none,.ze s,none⟩::os) U:=tS o f.h k
theorem lm{t:α->TV}(_:HS d)(h:x.bind k=some r)(c:Ct P x f ts R)(p:vals U args=some ts)(u:∀a,R a=.own (t a))(w:∀a,x=some a->k a=some r->WO (AR P) K os ((d,.tv (t a))::U)):WO (AR P) K (⟨some d,.call f args,none⟩::os) U:=by
 obtain ⟨a,o,h⟩:=bind_some h;have:=c.snd a o;rw[u]at this;exact qC p (o6 this) (w a o h)
theorem ll{t:α->List AN}(h:x.bind k=some r)(c:Ct P x f ts R)(p:vals U args=some ts)(u:∀a,R a=.wQ (t a))(w:∀a,x=some a->k a=some r->WO (AR P) K os ((d,.tv (.agg ((t a).map fun c=>c.rel.t)))::U)):WO (AR P) K (⟨some d,.call f args,none⟩::os) U:=by
 obtain ⟨a,o,h⟩:=bind_some h;have:=c.snd a o;rw[u]at this;exact nB p this rfl (w a o h)
theorem gx{γ:Type}{k:List γ->Option β}{x:Option (List γ)}{R:List γ->Am}{n:Nat}{e:γ->TV}(h:x.bind k=some r)(c:Ct P x f ts R)(p:U.f0 d=true)(u:vals U args=some ts)(w:∀a,R a=.own (.list n (a.map e)))(hf:∀a,(e a).flat=true)(A:∀a,x=some a->k a=some r->WO (AR P) K os ((d,.xo n (a.map e))::U)):WO (AR P) K (⟨some d,.xz f args,none⟩::os) U:=by
 obtain ⟨a,o,h⟩:=bind_some h;have:=c.snd a o;rw[w]at this;exact jc p u this rfl hf (A a o h)
theorem gw{γ:Type}{k:List γ->Option β}{x:Option (List γ)}{R:List γ->Am}{n:Nat}{e:γ->TV}(h:x.bind k=some r)(c:Ct P x f ts R)(p:wN U args=some ts)(u:∀a,R a=.own (.list n (a.map e)))(hf:∀a,(e a).flat=true)(w:∀a,x=some a->k a=some r->WO (AR P) K os ((d,.ow (.list n (a.map e)))::U)):WO (AR P) K (⟨some d,.xD f args,none⟩::os) U:=by
 obtain ⟨a,o,h⟩:=bind_some h;have:=c.snd a o;rw[u]at this;exact jY p this rfl rfl hf (w a o h)
variable{us:α->Fq}
theorem lj{i s:Nat}{cs:List AN}{cs':α->List AN}{e:α->EV}(h:x.bind k=some r)(c:Ct P x f ts R)(p:(args[i]?).bind (·.place U)=some (s,0))(u:U.get s=.bx cs)(w:U.yp s none=true)(hd:d≠s)(A:Hx U i args=some ts)(B:∀a,R a=.bo cs (cs' a) i (us a))(he:∀a,EV.zf (us a)=e a)(C:∀a,x=some a->k a=some r->WO (AR P) K os ((d,e a)::(s,.bx (cs' a))::U)):WO (AR P) K (⟨some d,.w6 f args i,none⟩::os) U:=by
 obtain ⟨a,o,h⟩:=bind_some h;have:=c.snd a o;rw[B]at this;exact nA p u w hd A this (he a) (C a o h)
end calls
inductive GS(g:Nat)(b:Bool):Ne->List PR->Ne->Nat->Prop
 |done {acc:Ne} {os:List PR}:GS g b acc os [] 0
 |step {acc js:Ne} {d n:Nat} {op:AE} {os:List PR}:GS g b (d::acc) os js n->GS g b acc (⟨some d,op,some (g,b)⟩::os) (d::js) (n+1)
 |nest {acc js:Ne} {d n g':Nat} {b':Bool} {op:AE} {os:List PR}:acc.contains g'=true->GS g b (d::acc) os js n->GS g b acc (⟨some d,op,some (g',b')⟩::os) (d::js) (n+1)
def nT:Ne->AB->(AB->Prop)->Prop
 |[],z,K=>K z|k::ks,z,K=>∃j,nT ks ((k,j)::z) K
structure Gj(js:Ne)(d:Nat)(v:TV)(z e:AB):Prop where
 of::out:nT js z fun y=>e=(d,.tv v)::y
theorem fC{d:Nat}{v:TV}{z e:AB}(h:e=(d,.tv v)::z):Gj [] d v z e:=⟨h⟩
variable{ks:Ne}
theorem l8{k d:Nat}{v:TV}{j:EV}{z e:AB}(h:Gj ks d v ((k,j)::z) e):Gj (k::ks) d v z e:=⟨j,h.out⟩
theorem nu{js:Ne}{v:TV}{z:AB}(h:Gj js d v z U):WO S (Gj js d v z) [] U:=⟨h⟩
structure XB(js:Ne)(z:AB)(Q:AB->Prop):Prop where
 of::out:∀(d:Nat)(v:TV)(e:AB),Gj js d v z e->∃y,e=(d,.tv v)::y/\Q y
theorem l9{z:AB}{Q:AB->Prop}(h:Q z):XB [] z Q:=⟨fun _ _ _ he=>⟨z,he.out,h⟩⟩
theorem iQ{k:Nat}{z:AB}{Q:AB->Prop}(h:∀j,XB ks ((k,j)::z) Q):XB (k::ks) z Q:=⟨fun d v e he=>by
 obtain ⟨j,o⟩:=he.out;exact(h j).out d v e ⟨o⟩⟩
theorem sW{dd:Option Nat}{op:AE}{g:Nat}{b q:Bool}(h:U.get g=.tv (.bool q))(o:Yl g b q)(p:WO S K (⟨dd,op,none⟩::os) U):WO S K (⟨dd,op,some (g,b)⟩::os) U:=ux h o.out p
theorem qz{ρ:Type}{dd:Option Nat}{op:AE}{g:Nat}{q:Bool}{u v:Option ρ}{r:ρ}(w:U.get g=.tv (.bool q))(h:(if q=true then u else v)=some r)
  (o:Yl g true q->q=true->u=some r->WO S K (⟨dd,op,some (g,true)⟩::os) U)(p:Uw g true q->q=false->v=some r->WO S K (⟨dd,op,some (g,true)⟩::os) U):WO S K (⟨dd,op,some (g,true)⟩::os) U:=by
 cases q with
 |true=>exact o ⟨rfl⟩ rfl h|false=>exact p ⟨by rfl⟩ rfl h
theorem qy{ρ:Type}{dd:Option Nat}{op:AE}{g:Nat}{q:Bool}{u v:Option ρ}{r:ρ}(w:U.get g=.tv (.bool q))(h:(if q=true then u else v)=some r)
  (o:Uw g false q->q=true->u=some r->WO S K (⟨dd,op,some (g,false)⟩::os) U)(p:Yl g false q->q=false->v=some r->WO S K (⟨dd,op,some (g,false)⟩::os) U):WO S K (⟨dd,op,some (g,false)⟩::os) U:=by
 cases q with
 |true=>exact o ⟨by rfl⟩ rfl h|false=>exact p ⟨rfl⟩ rfl h
theorem oX{op:AE}{g:Nat}{b q:Bool}(h:U.get g=.tv (.bool q))(o:Uw g b q)(p:WO S K os ((d,.sk)::U)):WO S K (⟨some d,op,some (g,b)⟩::os) U:=sV h o.out p
theorem dA{d n:Nat}{js:Ne}{v:TV}(h:WO S (Gj js d v U) (os.take n) U)(o:XB js U fun e=>WO S K (os.drop n) ((d,.tv v)::e)):WO S K os U:=
 sU n (Gj js d v) h fun e he=>by
  obtain ⟨y,rfl,p⟩:=o.out d v e he;exact p
section groups
variable{g n:Nat}{js:Ne}{c:Bool}{dd gd:Option Nat}{op:AE}{x y z:AF}{gg:Option (Nat×Bool)}
variable{T:K1}{os':List PR}
theorem q9{k:Bool->Option β}(h:(if c=true then T else some false).bind k=some r)(_:GS g true [] os js n)(A:U.get g=.tv (.bool c))(_:os[n]?=some ⟨some d,.pick x y z,gg⟩)
  (p:∀v,Yl g true c->c=true->T=some v->WO S (Gj js d (.bool v) U) (os.take (n+1)) U)(u:∀v,Uw g true c->c=false->some false=some v->WO S (Gj js d (.bool v) U) (os.take (n+1)) U)
  (w:∀v,k v=some r->XB js U fun e=>WO S K (os.drop (n+1)) ((d,.tv (.bool v))::e))(ho:os=⟨dd,op,some (g,true)⟩::os'):WO S K (⟨dd,op,some (g,true)⟩::os') U:=by
 obtain ⟨v,hv,h⟩:=bind_some h;rw[<-ho];refine dA (n:=n+1) (v:=.bool v) ?_ (w v h);rcases Bool.eq_false_or_eq_true c with o|o
 .exact p v ⟨o⟩ o (V5 o hv)
 .exact u v ⟨by rw[o];rfl⟩ o (V4 o hv)
theorem q8{k:Bool->Option β}(h:(if c=true then some true else T).bind k=some r)(_:GS g false [] os js n)(A:U.get g=.tv (.bool c))(_:os[n]?=some ⟨some d,.pick x y z,gg⟩)
  (p:∀v,Yl g false c->c=false->T=some v->WO S (Gj js d (.bool v) U) (os.take (n+1)) U)(u:∀v,Uw g false c->c=true->some true=some v->WO S (Gj js d (.bool v) U) (os.take (n+1)) U)
  (w:∀v,k v=some r->XB js U fun e=>WO S K (os.drop (n+1)) ((d,.tv (.bool v))::e))(ho:os=⟨dd,op,some (g,false)⟩::os'):WO S K (⟨dd,op,some (g,false)⟩::os') U:=by
 obtain ⟨v,hv,h⟩:=bind_some h;rw[<-ho];refine dA (n:=n+1) (v:=.bool v) ?_ (w v h);rcases Bool.eq_false_or_eq_true c with o|o
 .exact u v ⟨by rw[o];rfl⟩ o (V5 o hv)
 .exact p v ⟨o⟩ o (V4 o hv)
theorem qx{e:Bool}(ho:os=⟨dd,op,some (g,true)⟩::os')(_:GS g true [] os js n)(u:U.get g=.tv (.bool c))(_:os[n]?=some ⟨some d,.pick x y z,gg⟩)
  (h:Yl g true c->c=true->WO S (Gj js d (.bool e) U) (os.take (n+1)) U)(o:Uw g true c->c=false->WO S (Gj js d (.bool false) U) (os.take (n+1)) U)
  (p:XB js U fun z=>WO S K (os.drop (n+1)) ((d,.tv (.bool (c&&e)))::z)):WO S K (⟨dd,op,some (g,true)⟩::os') U:=by
 rw [<-ho];refine dA (n:=n+1) (v:=.bool (c&&e)) ?_ p;cases c
 .exact o ⟨rfl⟩ rfl
 .exact h ⟨rfl⟩ rfl
theorem qw{e:Bool}(ho:os=⟨dd,op,some (g,false)⟩::os')(_:GS g false [] os js n)(u:U.get g=.tv (.bool c))(_:os[n]?=some ⟨some d,.pick x y z,gg⟩)
  (h:Yl g false c->c=false->WO S (Gj js d (.bool e) U) (os.take (n+1)) U)(o:Uw g false c->c=true->WO S (Gj js d (.bool true) U) (os.take (n+1)) U)
  (p:XB js U fun z=>WO S K (os.drop (n+1)) ((d,.tv (.bool (c||e)))::z)):WO S K (⟨dd,op,some (g,false)⟩::os') U:=by
 rw [<-ho];refine dA (n:=n+1) (v:=.bool (c||e)) ?_ p;cases c
 .exact h ⟨rfl⟩ rfl
 .exact o ⟨rfl⟩ rfl
end groups
variable{qi:Option Nat}{j:Int}
theorem rQ{x:AF}{q n i:Nat}{es row:Fq}{e:α->TV}{l:List α}{a:α}{t:TV}(h:x.ev U=.lp q qi (j.toNat*n+i))(o:U.tl q qi=some (n,es))(he:es=l.map e)(p:∀a,(e a).cells.length=n)(u:idx l j=some a)(hi:Nat.blt i n=true)(w:(e a).cells=row)(A:row[i]?=some t)
  (B:WO S K os ((d,.tv t)::U)):WO S K (⟨some d,.zD x,none⟩::os) U:=lW h o he p u rfl hi w A B
theorem oA{x:AF}{q n:Nat}{es row:Fq}{e:α->TV}{l:List α}{a:α}{t:TV}(h:x.ev U=.lp q qi (j.toNat*n))(o:U.tl q qi=some (n,es))(he:es=l.map e)(p:∀a,(e a).cells.length=n)(u:idx l j=some a)(hi:Nat.blt 0 n=true)(w:(e a).cells=row)(A:row[0]?=some t)
  (B:WO S K os ((d,.tv t)::U)):WO S K (⟨some d,.zD x,none⟩::os) U:=lW (i:=0) h o he p u rfl hi w A B
theorem rR{x:AF}{q n i:Nat}{es row:Fq}{e:α->TV}{l:List α}{a:α}{t:TV}(h:x.ev U=.lp q none (j.toNat*n+i))(o:U.get q=.xo n es)(he:es=l.map e)(p:∀a,(e a).cells.length=n)(u:idx l j=some a)(hi:Nat.blt i n=true)(w:(e a).cells=row)(A:row[i]?=some t)
  (B:WO S K os ((d,.tv t)::U)):WO S K (⟨some d,.y8 x,none⟩::os) U:=lY h o he p u rfl hi w A B
theorem oB{x:AF}{q n:Nat}{es row:Fq}{e:α->TV}{l:List α}{a:α}{t:TV}(h:x.ev U=.lp q none (j.toNat*n))(o:U.get q=.xo n es)(he:es=l.map e)(p:∀a,(e a).cells.length=n)(u:idx l j=some a)(hi:Nat.blt 0 n=true)(w:(e a).cells=row)(A:row[0]?=some t)
  (B:WO S K os ((d,.tv t)::U)):WO S K (⟨some d,.y8 x,none⟩::os) U:=lY (i:=0) h o he p u rfl hi w A B
variable{v:AF}
theorem oD{γ:Type}{s:Nat}{q n i:Nat}{env':AB}{es:Fq}{e:α->TV}{g:γ->TV}{l:List α}{a:α}{b:γ}{f:α->γ->α}(_:HX s f)(h:(AF.s s).ev U=.lp q qi (j.toNat*n+i))(p:U.tl q qi=some (n,es))(hv:v.ev U=.tv (g b))(he:es=l.map e)(u:∀a,(e a).cells.length=n)(w:idx l j=some a)(hi:Nat.blt i n=true)(A:(g b).cells=[g b])
  (B:(e (f a b)).cells=(e a).cells.set i (g b))(o:U.ww q qi n ((BF l j (f a b)).map e)=env')(C:WO S K os env'):WO S K (⟨none,.yx (.s s) v 1,none⟩::os) U:=lZ h p hv he u w rfl hi A B rfl o C
theorem oC{x v:AF}{q n:Nat}{env':AB}{es:Fq}{e:α->TV}{l:List α}{a b:α}(h:x.ev U=.lp q qi (j.toNat*n))(p:U.tl q qi=some (n,es))(hv:v.ev U=.tv (e b))(he:es=l.map e)(u:∀a,(e a).cells.length=n)(w:idx l j=some a)(hi:Nat.blt 0 n=true)(A:(e b).cells=[e b])
  (B:(e b).cells=(e a).cells.set 0 (e b))(o:U.ww q qi n ((BF l j b).map e)=env')(C:WO S K os env'):WO S K (⟨none,.yx x v 1,none⟩::os) U:=lZ (i:=0) h p hv he u w rfl hi A B rfl o C
end
end Go.Sf
namespace Go.Sf
section
variable{S:FuncId->Fq->Am->Prop}{K:AB->Prop}{os:List PR}{U:AB}{d:Nat}
variable{j:Int}
theorem td{α:Type}{x:AF}{s o:Nat}{es:Fq}{e:α->TV}{l:List α}{a:α}(h:x.ev U=.nh s o (.el j.toNat))(u:U.nat s o=some es)(he:es=l.map e)(w:idx l j=some a)(k:WO S K os ((d,.nh s o (.rw j.toNat))::U)):WO S K (⟨some d,.zj x,none⟩::os) U:=by
 replace k:=k.out;refine⟨?_⟩;subst he;obtain⟨B,C,A⟩:=FZ w;have p:j.toNat<l.length:=(List.getElem?_eq_some_iff.1 A).1;simp only[wpOps,PR.wp,AE.wp,h,u,AX];exact⟨by simpa using p,k⟩
variable{j2:Int}
theorem te{α:Type}{x v:AF}{s o:Nat}{es:Fq}{env':AB}{e:List α->TV}{e2:α->TV}{l:List (List α)}{m:List α}{A b:α}{t:TV}(h:x.ev U=.nh s o (.rp j.toNat j2.toNat))(B:U.nat s o=some es)(hv:v.ev U=.tv t)(he:es=l.map e)(w:∀m,e m=.list 1 (m.map e2))(C:idx l j=some m)(D:idx m j2=some A)(E:t=e2 b)(F:t.cells=[t])(G:t.flat=true)
  (p:U.za s o ((BF l j (BF m j2 b)).map e)=env')(k:WO S K os env'):WO S K (⟨none,.yP x v,none⟩::os) U:=by
 replace k:=k.out;refine⟨?_⟩;subst he p E;obtain⟨J,L,H⟩:=FZ C;obtain⟨m0,m1,I⟩:=FZ D;have u:j2.toNat<m.length:=(List.getElem?_eq_some_iff.1 I).1;simp only[wpOps,PR.wp,AE.wp,h,B,hv,AX];refine⟨m.map e2,by rw[List.getElem?_map,H];simp[w],by simpa using u,F,G,?_⟩;have:(l.map e).set j.toNat (.list 1 ((m.map e2).set j2.toNat (e2 b)))=(BF l j (BF m j2 b)).map e:=by
  simp only[BF,List.map_set,w]
 rw [this];exact k
end
section
variable{P:Program}{K:AB->Prop}{os:List PR}{U:AB}{d:Nat}{α β γ ρ:Type}{f:FuncId}{args:List AF}{ts:Fq}{R:α->Am}{x:Option α}{k:α->Option ρ}{r:ρ}
variable{j:Int}
theorem rF{x i:AF}{s o:Nat}{es:Fq}{e:α->TV}{l:List α}{ik:IntKind}{S:FuncId->Fq->Am->Prop}(h:(idx l j).bind k=some r)(u:x.ev U=.nh s o .hd)(w:U.nat s o=some es)(hi:i.val U=some (.int ik j))(he:es=l.map e)
  (A:∀a,idx l j=some a->k a=some r->WO S K os ((d,.nh s o (.el j.toNat))::U)):WO S K (⟨some d,.yO x i,none⟩::os) U:=by
 obtain ⟨a,p,h⟩:=bind_some h;have B:=(A a p h).out;refine⟨?_⟩;subst he;obtain⟨D,F,E⟩:=FZ p;have C:j.toNat<l.length:=(List.getElem?_eq_some_iff.1 E).1;simp only[wpOps,PR.wp,AE.wp,u,w,hi,AX];exact⟨D,by simp only[c7];omega,B⟩
variable{e2:α->TV}{j2:Int}
theorem rG{x i:AF}{s o:Nat}{es:Fq}{e:List α->TV}{l:List (List α)}{m:List α}{ik:IntKind}{S:FuncId->Fq->Am->Prop}(h:(idx m j2).bind k=some r)(u:x.ev U=.nh s o (.rw j.toNat))(w:U.nat s o=some es)(hi:i.val U=some (.int ik j2))(he:es=l.map e)(A:∀m,e m=.list 1 (m.map e2))(B:idx l j=some m)
  (C:∀a,idx m j2=some a->k a=some r->WO S K os ((d,.nh s o (.rp j.toNat j2.toNat))::U)):WO S K (⟨some d,.yO x i,none⟩::os) U:=by
 obtain ⟨b,p,h⟩:=bind_some h;have D:=(C b p h).out;refine⟨?_⟩;subst he;obtain⟨H,I,F⟩:=FZ B;obtain⟨m0,m1,G⟩:=FZ p;have E:j2.toNat<m.length:=(List.getElem?_eq_some_iff.1 G).1;simp only[wpOps,PR.wp,AE.wp,u,w,hi,AX];exact⟨m0,m.map e2,by rw[List.getElem?_map,F];simp[A],by simp only[c7];omega,D⟩
theorem nZ{mm q s o:Nat}{es w:Fq}{cs cs':List AN}{n:Nat}{e:β->TV}{l:List β}{m:β}{k:List β->Option ρ}{S:FuncId->Fq->Am->Prop}(h:(Ai l [m]).bind k=some r)(A:U.get mm=.nh s o .hd)(B:U.get q=.x1 n w)(C:U.get s=.bx cs)(D:U.nat s o=some es)(he:es=l.map e)(hf:TV.list n w=e m)(u:U.f0 d=true)(hd:d≠mm/\d≠q/\mm≠q)(E:cs.set o ⟨false,.undef⟩=cs')
  (F:∀a,Ai l [m]=some a->k a=some r->WO S K os ((d,.xn (a.map e))::(s,.bx cs')::(mm,.undef)::(q,.undef)::U)):WO S K (⟨some d,.xC mm q,none⟩::os) U:=by
 obtain ⟨a,p,h⟩:=bind_some h;have H:=(F a p h).out;refine⟨?_⟩;subst he E;unfold Ai at p;split at p
 .rename_i G;cases p;simp only[wpOps,PR.wp,AE.wp,A,B,C,D,AX];refine⟨by simpa using G,⟨u,hd⟩,?_⟩;rw[hf];simpa[AB.put]using H
 .cases p
theorem gv{u:α->List β}{v:α->List γ}{w A:Nat}{p:β->TV}{e2:γ->TV}(h:x.bind k=some r)(c:Ct P x f ts R)(E:vals U args=some ts)(F:∀a,R a=.wQ [⟨true,.list w ((u a).map p)⟩,⟨true,.list A ((v a).map e2)⟩])(G:∀a,(p a).flat=true)(H:∀a,(e2 a).flat=true)
  (I:∀a,x=some a->k a=some r->WO (AR P) K os ((d,.wQ [⟨true,.xl w ((u a).map p)⟩,⟨true,.xl A ((v a).map e2)⟩])::U)):WO (AR P) K (⟨some d,.xj f args,none⟩::os) U:=by
 obtain ⟨a,D,h⟩:=bind_some h;have C:=c.snd a D;rw[F]at C;have J:=(I a D h).out;have o:∀{τ:Type}(e:τ->TV)(l:List τ),(∀a,(e a).flat=true)->TV.wv (l.map e)=true:=by
  intro τ e l he
  induction l with
  |nil=>rfl|cons a l L=>simp[TV.wv,he,L]
 refine ⟨?_⟩;simp only[wpOps,PR.wp,AE.wp,E,AX];refine⟨_,C,fun c B=>?_,fun _=>J⟩;simp only[List.mem_cons,List.not_mem_nil,or_false]at B;rcases B with rfl|rfl
 .exact⟨_,_,rfl,o _ _ G⟩
 .exact⟨_,_,rfl,o _ _ H⟩
inductive NL:List AN->List AN->Prop
 |nil {xs:List AN}:xs=[]->NL xs []
 |cons {xs ys zs:List AN} {o:Bool} {t:TV}:xs=⟨o,t⟩::ys->NL ys zs->NL xs (⟨o,t⟩::zs)
theorem NL.eq{xs o:List AN}(h:NL xs o):xs=o:=by
 induction h with
 |nil h=>exact h|cons h _ p=>rw[h,p]
theorem rL{S:FuncId->Fq->Am->Prop}{K:AB->Prop}{os:List PR}{U:AB}{n s h:Nat}{x v:AF}{cs cs':List AN}{t:TV}(o:x.place U=some (s,h))(p:U.get s=.bx cs)(hv:v.ev U=.tv t)(u:t.cells.length=n)(w:Nat.ble (h+n) cs.length=true)(A:NL (cs.take h++t.cells.map (⟨false,·⟩)++cs.drop (h+n)) cs')
  (k:WO S K os ((s,.bx cs')::U)):WO S K (⟨none,.st n x v,none⟩::os) U:=vD o p hv u w A.eq k
theorem n9{S:FuncId->Fq->Am->Prop}{K:AB->Prop}{os:List PR}{U:AB}{s h q:Nat}{x:AF}{cs cs':List AN}{t:TV}(o:x.place U=some (s,h))(p:U.get s=.bx cs)(hv:U.get q=.ow t)(u:q≠s)(w:Nat.blt h cs.length=true)(A:NL (cs.set h ⟨true,t⟩) cs')
  (k:WO S K os ((s,.bx cs')::(q,.tv t)::U)):WO S K (⟨none,.st 1 x (.s q),none⟩::os) U:=tq o p hv u w A.eq k
theorem XR:∀(ts:List (Nat×Nat×TV))(done rest:Fq),VR done.length ts=true->(H5 ts).length<=rest.length->EP (done++rest) ts=some (done++(H5 ts++rest.drop (H5 ts).length))
 |[],done,rest,_,h=>by simp[EP,H5]|(i,n,t)::r,done,rest,p,h=>by
  simp only[VR,pr,Nat.beq_eq]at p;obtain⟨⟨rfl,o⟩,A⟩:=p;simp only[H5,bk]at h;have u:n<=rest.length:=by omega
  simp only[EP];rw[a6 ⟨o,by rw[bk];omega⟩];have w:done++rest=done++(rest.take n++rest.drop n):=by rw[List.take_append_drop]
  rw [w,Sv t.cells done (rest.take n) (rest.drop n) (by rw[bq];omega),<-c8];rw[XR r (done++t.cells) (rest.drop n) (by rw[bk,o];exact A) (by rw[List.length_drop];omega)];simp[H5,List.drop_drop,o]
inductive NT:Fq->Fq->Prop
 |nil {xs:Fq}:xs=[]->NT xs []
 |cons {xs ys zs:Fq} {t:TV}:xs=t::ys->NT ys zs->NT xs (t::zs)
theorem NT.eq{xs o:Fq}(h:NT xs o):xs=o:=by
 induction h with
 |nil h=>exact h|cons h _ p=>rw[h,p]
variable{zero:Fq}
theorem nd{S:FuncId->Fq->Am->Prop}{K:AB->Prop}{os:List PR}{U:AB}{d:Nat}{parts:List (Nat×Nat×AF)}{ts:List (Nat×Nat×TV)}{cs:Fq}(h:EL U parts=some ts)(o:VR 0 ts=true)(p:Nat.ble (H5 ts).length zero.length=true)(u:NT (H5 ts++zero.drop (H5 ts).length) cs)(k:WO S K os ((d,.tv (.agg cs))::U)):WO S K (⟨some d,.yq zero parts,none⟩::os) U:=
 Yg h (by have:=XR ts [] zero o (Nat.le_of_ble_eq_true p);simpa using this) (by rw[u.eq]) k
structure HY{α A B C:Type}(n:Nat)(f:A->B->C->α)(g1:A->TV)(g2:B->TV)(g3:C->TV):Prop where
variable{v:AF}{qi:Option Nat}
theorem oE{S:FuncId->Fq->Am->Prop}{K:AB->Prop}{os:List PR}{U:AB}{α A B C:Type}{f:A->B->C->α}{o:Nat}{q n:Nat}{env':AB}{es cs cs':Fq}{e:α->TV}{l:List α}{a:α}{E:A}{F:B}{G:C}{p:A->TV}{u:B->TV}{w:C->TV}(_:HY o f p u w)(h:(AF.s o).ev U=.lp q qi (j.toNat*n))(H:U.tl q qi=some (n,es))(he:es=l.map e)(I:∀a,(e a).cells.length=n)(hv:v.ev U=.tv (.agg cs))(J:NT cs cs')(L:cs'=[p E,u F,w G])(hf:∀a b c,TV.agg [p a,u b,w c]=e (f a b c))(N:idx l j=some a)(O:Nat.blt 0 n=true)
  (D:U.ww q qi n ((BF l j (f E F G)).map e)=env')(k:WO S K os env'):WO S K (⟨none,.yx (.s o) v n,none⟩::os) U:=lb h H (by rw[hv,J.eq,L,hf]) he I N O D k
theorem rU{S:FuncId->Fq->Am->Prop}{α:Type}{x v:AF}{q n:Nat}{env':AB}{es:Fq}{e:α->TV}{l:List α}{a b:α}(h:x.ev U=.lp q qi (j.toNat*n))(p:U.tl q qi=some (n,es))(he:es=l.map e)(u:∀a,(e a).cells.length=n)(hv:v.ev U=.tv (e b))(w:idx l j=some a)(A:Nat.blt 0 n=true)
  (o:U.ww q qi n ((BF l j b).map e)=env')(k:WO S K os env'):WO S K (⟨none,.yx x v n,none⟩::os) U:=lb h p hv he u w A o k
end
section
variable{S:FuncId->Fq->Am->Prop}{K:AB->Prop}{os:List PR}{U:AB}{d:Nat}
theorem tZ(k:∀b,WO S K os ((d,.mx (.mp b []))::U)):WO S K (⟨some d,.yQ,none⟩::os) U:=
 ⟨fun b=>(k b).out⟩
theorem ta{s:Nat}{last:Option ((Int×Int)×Int)}{o:BT}(h:U.get s=.mx (.mi last o))(hd:d≠s)(w:o=[]->WO S K os ((d,.tp [.bool false])::U))(A:∀p u,o.Perm (p::u)->WO S K os ((d,.tp [.bool true,QT p.1,.int .i64 p.2])::(s,.mx (.mi (some p) u))::U)):WO S K (⟨some d,.zm s,none⟩::os) U:=by
 refine ⟨?_⟩;simp only[wpOps,PR.wp,AE.wp,h];exact⟨hd,fun e=>(w e).out,fun p t B=>(A p t B).out⟩
variable{kvs:BT}
theorem ja{f:FuncId}{args:List AF}{ts us:Fq}(hv:vals U args=some ts)(h:S f ts (.mpr kvs us))(k:∀b,WO S K os ((d,.mx (.tm b kvs us))::U)):WO S K (⟨some d,.xw f args,none⟩::os) U:=by
 refine ⟨?_⟩;simp only[wpOps,PR.wp,AE.wp,hv,AX];exact .inr ⟨kvs,us,h,fun _ b=>(k b).out⟩
theorem jZ{f:FuncId}{args:List AF}{ts us:Fq}(hv:vals U args=some ts)(h:S f ts (.tp us))(k:WO S K os ((d,.tp us)::U)):WO S K (⟨some d,.xw f args,none⟩::os) U:=by
 refine ⟨?_⟩;simp only[wpOps,PR.wp,AE.wp,hv,AX];exact .inl ⟨us,h,fun _=>k.out⟩
theorem J7{ss:Ne}{s:Nat}{r:AB}{m:MX}(h:U.get s=.mx m)(k:Kp U ss r):Kp U (s::ss) ((s,.mx m)::r):=Ms h k
theorem tA{ss:Ne}{s:Nat}{r:AB}{q:List (Nat×EV)}{m:MX}(h:look q s=none)(o:U.get s=.mx m)(k:Nm U q ss r):Nm U q (s::ss) ((s,.mx m)::r):=O4 h o k
end
def Mu(r:BT×Int):Am:=if r.2=0 then .mpr r.1 [.int .i64 r.2]else .tp [.undef,.int .i64 r.2]
structure t8(o:Nat):Prop where
variable{kvs:BT}
theorem mK{h:List RV}{U:AB}{e:Int}(he:(!decide (e=0))=true)(o:h.length≠1)(p:D5 U h=some [.undef,.int .i64 e]):BO h (Mu (kvs,e)) U:=by
 simp only[Bool.not_eq_true',decide_eq_false_iff_not]at he;simp only[Mu,ae he];exact⟨o,p⟩
theorem mL{s o b:Nat}{h:List RV}{U:AB}(_:t8 o)(p:U.get s=.tv (.xJ b))(u:U.get o=.mx (.mp b kvs))(w:h≠[])(A:D5 U h=some [.int .i64 0]):BO (.tmp s::h) (Mu (kvs,0)) U:=by
 simp only[Mu,if_true,BO];exact⟨w,⟨b,o,p,u⟩,A⟩
section
variable{P:Program}{α β:Type}{K:AB->Prop}{os:List PR}{U:AB}{d:Nat}{x:Option α}{k:α->Option β}{r:β}{f:FuncId}{args:List AF}{ts:Fq}{R:α->Am}
variable{us:α->Fq}
theorem gu{i s:Nat}{cs:List AN}{q:α->Bool}{u v:α->List AN}{e:α->EV}(h:x.bind k=some r)(c:Ct P x f ts R)(A:(args[i]?).bind (·.place U)=some (s,0))(B:U.get s=.bx cs)(C:U.yp s none=true)(hd:d≠s)(D:Hx U i args=some ts)(E:∀a,R a=.bo cs (if q a=true then u a else v a) i (us a))(he:∀a,EV.zf (us a)=e a)
  (F:∀a,x=some a->q a=true->k a=some r->WO (AR P) K os ((d,e a)::(s,.bx (u a))::U))(G:∀a,x=some a->q a=false->k a=some r->WO (AR P) K os ((d,e a)::(s,.bx (v a))::U)):WO (AR P) K (⟨some d,.w6 f args i,none⟩::os) U:=by
 refine lj h c A B C hd D E he (fun a o p=>?_);cases w:q a with
 |true=>rw[a6 rfl];exact F a o w p|false=>rw[ae (by simp)];exact G a o w p
end
section
variable{S:FuncId->Fq->Am->Prop}{a b:PC}{U:AB}
variable{Q:Q}
theorem ng{c:AF}{β:Type}{q:Bool}{u v:Option β}{r:β}(p:c.val U=some (.bool q))(h:(if q=true then u else v)=some r)(o:q=true)(k:u=some r->WP S a Q U):WP S (.cond c a b) Q U:=
 Qc p o (k (V5 o h))
theorem nf{c:AF}{β:Type}{q:Bool}{u v:Option β}{r:β}(p:c.val U=some (.bool q))(h:(if q=true then u else v)=some r)(o:q=false)(k:v=some r->WP S b Q U):WP S (.cond c a b) Q U:=
 Qb p o (k (V4 o h))
end
end Go.Sf
set_option maxRecDepth 100000
namespace Go.Sf
theorem MM{P:Prop}(p:P:=by first|exact rfl|exact Ml.eq):P:=p
theorem ki{P:Prop}(p:P:=by
 first|exact uY rfl MM|exact uX rfl|exact rW rfl rfl MM|exact rV rfl rfl|exact ua rfl|exact uZ rfl MM|exact uc rfl rfl|exact ub|exact uW (by decide)):P:=p
theorem kz{P:Prop}(p:P:=by
 repeat (first|apply GS.step|(apply GS.nest;exact rfl))
 exact GS.done):P:=p
theorem uI{P:Prop}(p:P:=by
 repeat (apply NL.cons;exact rfl)
 exact NL.nil rfl):P:=p
theorem uK{P:Prop}(p:P:=by
 repeat (apply NT.cons;exact rfl)
 exact NT.nil rfl):P:=p
theorem vN{P:Prop}(p:P:=by
 repeat (first|exact ov|(apply mH (fun _=>rfl)))):P:=p
theorem uH{P:Prop}(p:P:=by
 repeat (apply Lm.cons;exact rfl)
 exact Lm.nil):P:=p
theorem uG{P:Prop}(p:P:=by
 intro _ k
 repeat' (first|exact k|exact rfl|exact Nat.le_of_ble_eq_true rfl|exact Nat.ne_of_beq_eq_false rfl|decide|apply And.intro)):P:=p
theorem au{P:Prop}(p:P:=by
 repeat' (first
  |(show WO _ _ _ _;first
    |apply Mb
    |(apply st 1;exact rfl;first|exact fun _ k=>k|exact fun _ k=>⟨rfl,k⟩)
    |(apply sW;exact rfl;assumption)
    |(apply oX;exact rfl;assumption)
    |(apply tW;exact rfl;exact MM)
    |(apply nD;exact rfl;assumption;exact rfl)
    |(apply nC;exact rfl;assumption;exact rfl)
    |(apply lm;assumption;exact h;infer_instance;exact rfl;exact fun _=>rfl;intro x o h)|(apply gu;exact h;infer_instance;exact rfl;exact rfl;exact rfl;decide;exact rfl;exact fun _=>rfl;exact fun _=>rfl;intro x o B h;rotate_left;intro x o B h;rotate_left)|(apply ud;exact rfl;exact h;infer_instance;intro x c h;apply st 3;exact rfl;first|exact fun _ k=>⟨_,⟨c,rfl⟩,fun _=>k⟩|exact fun _ k=>⟨_,⟨c,.inl rfl⟩,fun _=>k⟩|exact fun _ k=>⟨_,⟨c,.inr rfl⟩,fun _=>k⟩|exact fun _ k=>⟨_,⟨c,.inr vN⟩,fun _=>k⟩|exact fun _ k=>⟨_,c,fun _=>k⟩|exact fun _ k=>⟨_,c,k⟩|exact fun _ k=>⟨rfl,_,_,.inl c,fun _=>k⟩|exact fun _ k=>⟨⟨rfl,Nat.ne_of_beq_eq_false rfl⟩,_,_,c,fun _=>k⟩|exact fun _ k=>⟨Nat.ne_of_beq_eq_false rfl,_,c,fun _=>k⟩|exact fun _ k=>⟨rfl,_,_,_,rfl,c,fun _=>k⟩|exact fun _ k=>⟨⟨Nat.ne_of_beq_eq_false rfl,rfl⟩,rfl,rfl,_,_,rfl,c,fun _=>k⟩)
    |(apply na;exact h;exact rfl;exact rfl;exact MM;exact MM;infer_instance;intro x o h)
    |(apply ue;exact rfl;exact h;intro x o h;first|(apply tT o;exact rfl;exact rfl;exact MM;exact rfl)|(apply lO o;exact rfl;exact rfl;exact MM;exact MM;exact rfl)|(apply ti o;exact rfl;exact MM;exact rfl;exact rfl)|(apply qJ o;exact rfl;exact rfl)|(apply qK o;exact rfl;exact rfl;exact rfl)|(apply tu o;exact rfl;exact rfl;exact MM;exact rfl)|(apply p9 o;exact rfl;exact rfl;exact MM;exact MM;exact rfl;exact rfl;decide)|(apply qA o;exact rfl;exact rfl;exact rfl;exact rfl;exact rfl;exact rfl;decide;exact rfl;exact rfl)|(apply tR o;exact rfl;exact rfl;exact rfl;exact rfl;exact rfl;decide)|(apply qG o;exact rfl;exact rfl;exact rfl)|(apply tw o;exact rfl;exact rfl;exact rfl;exact rfl)|(apply lV o;exact rfl;exact rfl;exact rfl;exact rfl)|(apply qF o;exact rfl;exact rfl;exact rfl)|(apply lU o;exact rfl;exact rfl;exact rfl;exact rfl))
    |(apply qL;exact rfl;exact MM)
    |(apply nc;(with_reducible exact h);infer_instance;exact rfl;exact rfl;exact rfl;intro x o h)
    |(apply qB;exact rfl;exact rfl;exact rfl;exact rfl)
    |(apply nd;exact rfl;exact rfl;exact rfl;exact uK)
    |(apply Yg;exact rfl;exact rfl;exact rfl)
    |(apply rD;(with_reducible exact h);infer_instance;exact rfl;exact rfl;exact rfl;intro x o h)
    |(apply kf;exact rfl;exact rfl;exact rfl)
    |(apply rC;exact rfl;exact rfl;exact rfl;exact rfl)
    |(apply nw;exact rfl;exact rfl;exact rfl)
    |(apply n8;exact rfl;exact rfl;exact rfl;exact rfl)
    |(apply rL;exact rfl;exact rfl;exact rfl;exact rfl;exact rfl;exact uI)
    |(apply n9;exact rfl;exact rfl;exact rfl;decide;exact rfl;exact uI)
    |(apply tX;exact rfl;exact rfl)
    |(apply tY;exact rfl;exact rfl)
    |(apply st 2;exact rfl;exact uG)
    |(apply sn;exact rfl;exact uG)
    |(apply uy;exact rfl)
    |(apply tU;exact rfl)
    |(apply ll;exact h;infer_instance;exact rfl;exact fun _=>rfl;intro x o h)
    |(apply rH;exact h;exact rfl;exact rfl;intro x o h)
    |(apply rJ;exact h;exact rfl;exact rfl;intro x o h)
    |(apply qt;exact h;exact rfl;exact rfl;decide;intro x o h)
    |(apply n7;exact h;exact rfl;exact rfl;intro x o h)
    |(apply nV;exact rfl;exact rfl;infer_instance;exact rfl;exact rfl;exact rfl)
    |(apply nX;exact rfl;exact rfl;infer_instance;exact rfl;exact rfl;exact rfl)
    |refine nW rfl rfl rfl rfl rfl ?_
    |refine nY rfl rfl rfl rfl rfl ?_
    |(apply qz;exact rfl;(with_reducible exact h);intro A B h;rotate_left;intro A B h;rotate_left)
    |(apply qy;exact rfl;(with_reducible exact h);intro A B h;rotate_left;intro A B h;rotate_left)
    |(apply q9 h (ho:=rfl);exact kz;exact rfl;exact rfl;intro v A B h;rotate_left;intro v A B h;rotate_left;intro v h;rotate_left)
    |(apply q8 h (ho:=rfl);exact kz;exact rfl;exact rfl;intro v A B h;rotate_left;intro v A B h;rotate_left;intro v h;rotate_left)
    |(apply qx rfl;exact kz;exact rfl;exact rfl;intro A B;rotate_left;intro A B;rotate_left 3)
    |(apply qw rfl;exact kz;exact rfl;exact rfl;intro A B;rotate_left;intro A B;rotate_left 3)
    |apply nu
    |(apply ny;exact rfl;exact uH;exact fun _=>rfl;infer_instance)|(apply nx;exact rfl;exact uH;exact fun _=>rfl)
    |(apply rE;exact rfl;exact rfl)
    |(apply qv;exact rfl;infer_instance)
    |(apply oA;exact rfl;exact rfl;exact rfl;exact fun _=>rfl;assumption;exact rfl;exact rfl;exact rfl)|(apply oB;exact rfl;exact rfl;exact rfl;exact fun _=>rfl;assumption;exact rfl;exact rfl;exact rfl)|(apply rR;exact rfl;exact rfl;exact rfl;exact fun _=>rfl;assumption;exact rfl;exact rfl;exact rfl)|(apply rQ;exact rfl;exact rfl;exact rfl;exact fun _=>rfl;assumption;exact rfl;exact rfl;exact rfl)|(apply oD;assumption;exact rfl;exact rfl;exact rfl;exact rfl;exact fun _=>rfl;assumption;exact rfl;exact rfl;exact rfl;exact rfl)|(apply oC;exact rfl;exact rfl;exact rfl;exact rfl;exact fun _=>rfl;assumption;exact rfl;exact rfl;exact rfl;exact rfl)|(apply oE;assumption;exact rfl;exact rfl;exact rfl;exact fun _=>rfl;exact rfl;exact uK;exact rfl;exact fun _ _ _=>rfl;assumption;exact rfl;exact rfl)|(apply rU;exact rfl;exact rfl;exact rfl;exact fun _=>rfl;exact rfl;assumption;exact rfl;exact rfl)|(apply gx;exact h;infer_instance;exact rfl;exact rfl;exact fun _=>rfl;exact fun _=>rfl;intro x o h)|(apply gw;exact h;infer_instance;exact rfl;exact fun _=>rfl;exact fun _=>rfl;intro x o h)
    |(apply rA;exact h;exact rfl;exact MM;intro u h)
    |(apply lP;exact rfl;exact rfl;intro z D;replace h:=lv h z D)
    |(apply qE;exact rfl)
    |(apply rF;exact h;exact rfl;exact rfl;exact rfl;exact MM;intro x o h)
    |(apply td;exact rfl;exact rfl;exact MM;assumption)
    |(apply rG;exact h;exact rfl;exact rfl;exact rfl;exact MM;exact fun _=>rfl;assumption;intro x o h)|(apply te;exact rfl;exact rfl;exact rfl;exact MM;exact fun _=>rfl;assumption;assumption;exact rfl;exact rfl;exact rfl;exact rfl)
    |(apply nZ;exact h;exact rfl;exact rfl;exact rfl;exact rfl;exact MM;exact rfl;exact rfl;decide;exact rfl;intro x o h)
    |(apply gv;exact h;infer_instance;exact rfl;exact fun _=>rfl;exact fun _=>rfl;exact fun _=>rfl;intro x o h)
    |(apply tZ;intro b;have K:=K b))
  |(show WP _ _ _ _;first
    |with_reducible apply qu
    |apply J2
    |apply Ox
    |(apply nj;exact rfl)
    |(apply rK;exact rfl;exact rfl)
    |apply Yn
    |apply cc
    |apply eX
    |(apply Qc;exact rfl;with_reducible rfl)
    |(apply Qb;exact rfl;with_reducible rfl)
    |(apply nv;exact rfl;exact h;assumption;exact rfl;intro w B h;rotate_left;intro w B h;rotate_left;intro w h;rotate_left)
    |(apply ng;exact rfl;exact h;assumption;intro h)
    |(apply nf;exact rfl;exact h;assumption;intro h)
    |(apply ni;exact rfl;exact h;intro B h;rotate_left;intro B h;rotate_left)
    |(apply Qc;exact rfl;apply vL;assumption)
    |(apply Qb;exact rfl;apply uw;assumption)
    |(apply nk;(first|assumption|(apply HB.a;assumption));exact h;exact C;exact ki;exact rfl;exact rfl;exact fun _ _=>rfl;intro i s r hi h C;rotate_left;intro i s hi;clear h;rotate_left;intro s h;rotate_left)
    |(apply nt;(first|assumption|(apply HB.a;assumption));assumption;exact rfl;exact h;exact C;exact ki;exact rfl;exact rfl;exact fun _ _=>rfl;intro i s r hi h C;rotate_left;intro i s hi;clear h;rotate_left;intro s h;rotate_left)
    |(apply nq;(first|assumption|(apply HB.a;assumption));exact h;exact C;exact ki;exact rfl;exact rfl;exact fun _ _=>rfl;intro i s r hi h C;rotate_left;intro i s hi;clear h;rotate_left;intro s h;rotate_left)
    |(apply np;(first|assumption|(apply HB.a;assumption));exact h;exact C;exact ki;exact rfl;exact rfl;exact fun _ _=>rfl;intro i s r hi h C;rotate_left;intro i s hi;clear h;rotate_left;intro s h;rotate_left)
    |(apply rP;assumption;assumption;exact rfl;exact h;exact rfl;exact rfl;intro s r h C;rotate_left;intro s h;rotate_left)
    |(apply rN;assumption;exact h;exact rfl;exact rfl;intro s r h C;rotate_left;intro s h;rotate_left)
    |(apply rM;assumption;exact h;exact rfl;exact rfl;intro s r h C;rotate_left;intro s h;rotate_left)
    |apply bB
    |cases h)
  |(show Kp _ _ _;first
    |exact H6
    |(apply J9;exact rfl)
    |(apply sd;exact rfl)
    |(apply J6;exact rfl)
    |(apply sf;exact rfl)
    |(apply sb;exact rfl)
    |(apply J8;exact rfl)
    |(apply KA;exact rfl)
    |(apply sc;exact rfl)
    |(apply se;exact rfl)
    |(apply ou;exact rfl)
    |(apply J7;exact rfl))
  |(show Nm _ _ _ _;first
    |exact o0
    |(apply oz;exact rfl)
    |(apply tD;exact rfl;exact rfl)
    |(apply tB;exact rfl;exact rfl)
    |(apply s8;exact rfl;exact rfl)
    |(apply tF;exact rfl;exact rfl)
    |(apply s7;exact rfl;exact rfl)
    |(apply tC;exact rfl;exact rfl)
    |(apply tE;exact rfl;exact rfl)
    |(apply s9;exact rfl;exact rfl)
    |(apply tA;exact rfl;exact rfl))
  |apply l9
  |(apply iQ;intro j)
  |apply l8
  |exact fC rfl
  |(cases h;exact fC rfl)
  |apply ZA
  |(apply l5;decide)
  |intro C
  |(cases h;first|exact rfl|exact⟨rfl⟩|exact⟨rfl,rfl⟩|exact⟨_,rfl,rfl⟩|exact⟨_,rfl,⟨rfl⟩⟩|exact⟨rfl,_,rfl,⟨rfl⟩⟩|exact⟨by decide,rfl⟩|exact⟨_,rfl,by decide,rfl⟩|exact⟨_,rfl,rfl,rfl⟩|exact mL (by assumption) rfl rfl (by decide) rfl|exact⟨_,rfl,mK (by first|assumption|decide) (by decide) rfl⟩)
  |exact⟨rfl,⟨rfl⟩⟩)):P:=p
end Go.Sf
