/- Contracts that are found by themselves: rules that take the typed text along, and the script that applies them. -/
import Derived.Test.YtmbomnkcdolalaaGreatSfK
import Derived.Test.YtmbomnkcdolalaaGreatSfStep
import Derived.Test.YtmbomnkcdolalaaGreatSfLib
set_option linter.all false
namespace Go.Sf
class Ct(P:Program){α:Type}(x:Option α)(f:outParam FuncId)(ts:outParam Fq)(R:outParam (α->Am)):Prop where
 snd:∀r,x=some r->AQ P f ts (R r)
class Ml(es:Fq){α:outParam Type}(e:outParam (α->TV))(l:outParam (List α)):Prop where
 eq:es=l.map e
class a8{α:Type}(e:α->TV)where
 un:Fq->α
 dec:∀a b,∃i:Decidable (a=b),Bz (e a).cells (e b).cells=some (@decide (a=b) i)
class Fz(cs:List AO)(row:outParam Fq):Prop where
 h:cs.map (·.t)=row
instance(priority:=high){l:Fq}:Fz (l.map fun x=>(⟨false,x⟩:AO)) l:=⟨by rw[List.map_map];exact List.map_id _⟩
instance(priority:=low){cs:List AO}:Fz cs (cs.map (·.t)):=⟨rfl⟩
class En(α:Type)(e:outParam (α->TV)):Prop where
class Fl{α:Type}(e:α->TV)(n:outParam Nat)(f:outParam (List α->TV)):Prop where
 eq:∀l,f l=.list n (l.map e)
structure Kp(O:AB)(l:Ne)(r:AB):Prop where
 of::out:O.hT l=r
def look:List (Nat×EV)->Nat->Option EV
 |[],_=>none|(k,e)::r,n=>if k=n then some e else look r n
def z5(O:AB)(m:List (Nat×EV)):Ne->AB
 |[]=>[]|s::ss=>(s,(look m s).getD (O.get s))::z5 O m ss
structure Nm(O:AB)(m:List (Nat×EV))(l:Ne)(r:AB):Prop where
 of::out:z5 O m l=r
structure Rn(a b:AB):Prop where
 of::out:a=b
structure HJ{σ:Type}(n:Nat)(M:σ->List (Nat×EV)):Prop where
structure HA{σ:Type}(n EP q i:Nat)(M:Int->σ->List (Nat×EV)):Prop where
structure HB{σ:Type}(n EP q i:Nat)(M:Int->σ->List (Nat×EV)):Prop where
theorem HB.a{σ:Type}{n EP q i:Nat}{M:Int->σ->List (Nat×EV)}(_:HB n EP q i M):HA n EP q i M:=⟨⟩
structure HW{σ:Type}(n:Nat)(M:σ->List (Nat×EV)):Prop where
structure HR{β:Type}(R:β->AB->Prop):Prop where
structure HS(n:Nat):Prop where
structure HX{α γ:Type}(n:Nat)(f:α->γ->α):Prop where
structure bE(g:Nat)(b q:Bool):Prop where
 of::out:q=b
structure Wb(g:Nat)(b q:Bool):Prop where
 of::out:q=!b
def KR(n:AB->Prop)(l:Ne):AB->Prop:=fun e=>n (e.hT l)
section
variable{O:AB}{s:Nat}{ss:Ne}{r:AB}{m:List (Nat×EV)}
theorem HU:Kp O [] []:=⟨rfl⟩
theorem L3{e:EV}(h:O.get s=e)(k:Kp O ss r):Kp O (s::ss) ((s,e)::r):=⟨by rw[<-k.out,<-h];rfl⟩
theorem Jc{t:TV}(h:O.get s=.tv t)(k:Kp O ss r):Kp O (s::ss) ((s,.tv t)::r):=L3 h k
theorem qH{t:TV}(h:O.get s=.ow t)(k:Kp O ss r):Kp O (s::ss) ((s,.ow t)::r):=L3 h k
theorem JZ{t:List AO}(h:O.get s=.bx t)(k:Kp O ss r):Kp O (s::ss) ((s,.bx t)::r):=L3 h k
theorem qF{q o:Nat}(h:O.get s=.bp q o)(k:Kp O ss r):Kp O (s::ss) ((s,.bp q o)::r):=L3 h k
theorem Jb{t:Fq}(h:O.get s=.tp t)(k:Kp O ss r):Kp O (s::ss) ((s,.tp t)::r):=L3 h k
theorem Jd(h:O.get s=.undef)(k:Kp O ss r):Kp O (s::ss) ((s,.undef)::r):=L3 h k
theorem qJ{n:Nat}{t:Fq}(h:O.get s=.xo n t)(k:Kp O ss r):Kp O (s::ss) ((s,.xo n t)::r):=L3 h k
theorem qG{q:Nat}{i:Option Nat}(h:O.get s=.la q i)(k:Kp O ss r):Kp O (s::ss) ((s,.la q i)::r):=L3 h k
theorem qI(h:O.get s=.sk)(k:Kp O ss r):Kp O (s::ss) ((s,.sk)::r):=L3 h k
theorem mA{t:List AO}(h:O.get s=.oag t)(k:Kp O ss r):Kp O (s::ss) ((s,.oag t)::r):=L3 h k
theorem mE:Nm O m [] []:=⟨rfl⟩
theorem mC{e:EV}(h:look m s=some e)(k:Nm O m ss r):Nm O m (s::ss) ((s,e)::r):=⟨by rw[<-k.out];simp only[z5,h,Option.getD_some]⟩
theorem OE{e:EV}(h:look m s=none)(o:O.get s=e)(k:Nm O m ss r):Nm O m (s::ss) ((s,e)::r):=⟨by rw[<-k.out];simp only[z5,h,o,Option.getD_none]⟩
theorem qY{t:TV}(h:look m s=none)(o:O.get s=.tv t)(k:Nm O m ss r):Nm O m (s::ss) ((s,.tv t)::r):=OE h o k
theorem qW{t:TV}(h:look m s=none)(o:O.get s=.ow t)(k:Nm O m ss r):Nm O m (s::ss) ((s,.ow t)::r):=OE h o k
theorem qT{t:List AO}(h:look m s=none)(o:O.get s=.bx t)(k:Nm O m ss r):Nm O m (s::ss) ((s,.bx t)::r):=OE h o k
theorem qS{q o:Nat}(h:look m s=none)(p:O.get s=.bp q o)(k:Nm O m ss r):Nm O m (s::ss) ((s,.bp q o)::r):=OE h p k
theorem qX{t:Fq}(h:look m s=none)(o:O.get s=.tp t)(k:Nm O m ss r):Nm O m (s::ss) ((s,.tp t)::r):=OE h o k
theorem qZ(h:look m s=none)(o:O.get s=.undef)(k:Nm O m ss r):Nm O m (s::ss) ((s,.undef)::r):=OE h o k
theorem qa{n:Nat}{t:Fq}(h:look m s=none)(o:O.get s=.xo n t)(k:Nm O m ss r):Nm O m (s::ss) ((s,.xo n t)::r):=OE h o k
theorem qU{q:Nat}{i:Option Nat}(h:look m s=none)(o:O.get s=.la q i)(k:Nm O m ss r):Nm O m (s::ss) ((s,.la q i)::r):=OE h o k
end
def PC.xl(i:Nat):PC->Option Ne
 |.exit j l=>if j=i then some l else none|.seq a b=>match a.xl i with
  |some l=>some l|none=>b.xl i
 |.cond _ a b=>match a.xl i with
  |some l=>some l|none=>b.xl i
 |.block _ a=>a.xl i|.loop _ a=>a.xl i|.rls _ a=>a.xl i|_=>none
def PC.last:PC->Option Ne
 |.region _ l=>some l|.draw _ _ l=>some l|.skip l=>some l|.exit _ l=>some l|.seq _ b=>b.last|.cond _ a _=>a.last|.block i (.loop _ b)=>b.xl i|.block _ c=>c.last|.rls _ c=>c.last|_=>none
section
variable{S:FuncId->Fq->Am->Prop}{K:AB->Prop}{os:List PR}{O:AB}{d:Nat}
section code
variable{n t:AB->Prop}{x:Nat->AB->Prop}{a b:PC}{l:Ne}{env':AB}
theorem Li(o:Kp O l env')(h:n env'):WO S (KR n l) [] O:=⟨by show n (O.hT l);rw[o.out];exact h⟩
theorem N4{ops:List PR}(h:WO S (KR n l) ops O):WP S (.region ops l) ⟨n,x,t⟩ O:=⟨h.out⟩
theorem lC{D:Ne}{ops:List PR}(hd:Pk O D=true)(h:WO S (KR n l) ops O):WP S (.draw D ops l) ⟨n,x,t⟩ O:=⟨hd,h.out⟩
theorem JW(h:WP S a ⟨fun e=>(∀s,(e.get s).WF)->WP S b ⟨n,x,t⟩ e,x,t⟩ O):WP S (.seq a b) ⟨n,x,t⟩ O:=pi h
theorem Wd(o:Kp O l env')(h:n env'):WP S (.skip l) ⟨n,x,t⟩ O:=lh o.out h
theorem Zj(h:t O):WP S .ret ⟨n,x,t⟩ O:=⟨h⟩
theorem bG{i:Nat}(o:Kp O l env')(h:x i env'):WP S (.exit i l) ⟨n,x,t⟩ O:=lg o.out h
theorem oh{s:Nat}{cs cs':List AO}{c:PC}{q:Q}(h:O.get s=.bx cs)(he:cs.map AO.rel=cs')(k:WP S c q ((s,.bx cs')::O)):WP S (.rls s c) q O:=by
 refine ⟨?_⟩;subst he;simp only[PC.wp,h];exact k.out
theorem Yh{i:Nat}(h:WP S a ⟨n,fun j e=>if j=i then n e else x j e,t⟩ O):WP S (.block i a) ⟨n,x,t⟩ O:=Ul h
theorem oN{m:List (Nat×EV)}{e:AB}{q:Q}(he:Nm e m l env')(h:WP S a q env'):WP S a q (z5 e m l):=by rw[he.out];exact h
variable{Q:Q}
theorem k9{c:AF}{β:Type}{q:Bool}{u v:Option β}{r:β}(o:c.val O=some (.bool q))(h:(if q=true then u else v)=some r)(p:q=true->u=some r->WP S a Q O)(w:q=false->v=some r->WP S b Q O):WP S (.cond c a b) Q O:=
 Ts o (fun e=>p e (UE e h)) (fun e=>w e (UD e h))
theorem lF{σ β:Type}{i:Nat}{M:σ->List (Nat×EV)}{q:Bool}{u v:Option σ}{k:σ->Option β}{r:β}(p:(AF.s i).val O=some (.bool q))(h:((if q=true then u else v).bind k)=some r)(_:HJ i M)(_:(PC.cond (.s i) a b).last=some l)
  (A:∀w,q=true->u=some w->WP S a ⟨fun e=>Rn e (z5 O (M w) l),x,t⟩ O)(B:∀w,q=false->v=some w->WP S b ⟨fun e=>Rn e (z5 O (M w) l),x,t⟩ O)(C:∀w,k w=some r->n (z5 O (M w) l)):WP S (.cond (.s i) a b) ⟨n,x,t⟩ O:=by
 obtain ⟨w,o,h⟩:=bind_some h;refine ph (fun e=>Rn e (z5 O (M w) l)) ?_ (fun e he=>by rw[he.out];exact C w h);exact Ts p (fun e=>A w e (UE e o)) (fun e=>B w e (UD e o))
end code
structure Bd(O:AB)(q i:Nat)(b:Int):Prop where
 of::out:(∀s,(O.get s).WF)->b<=9223372036854775807
section bounds
variable{q i:Nat}{α:Type}{e:α->TV}{l:List α}{es row:Fq}{n:Nat}
theorem RT{b:Int}(h:decide (b<=9223372036854775807)=true):Bd O q i b:=⟨fun _=>of_decide_eq_true h⟩
theorem RZ{b:Int}:Bd O q i (Af b):=⟨fun _=>oF _⟩
theorem RW(h:O.get q=.tv (.list n es))(he:es=l.map e):Bd O q i l.length:=⟨fun o=>by have:=o q;rw[h]at this;exact Sk (WY this) he⟩
theorem RX(h:O.get q=.ow (.list n es))(he:es=l.map e):Bd O q i l.length:=⟨fun o=>by have:=o q;rw[h]at this;exact Sk (r9 this) he⟩
theorem Ra(h:O.get q=.xo n es)(he:es=l.map e):Bd O q i l.length:=⟨fun o=>by have:=o q;rw[h]at this;exact Sk (sA this) he⟩
theorem RY{b:ByteArray}(h:O.get q=.tv (.str b)):Bd O q i b.size:=⟨fun o=>by have:=o q;rw[h]at this;exact kV (WY this)⟩
theorem RU{b:Int}(h:O.get q=.tv (.int .i64 b)):Bd O q i b:=⟨fun o=>by have:=o q;rw[h]at this;exact de (WY this)⟩
theorem O4(h:O.get q=.tv (.pt row))(o:row[i]?=some (.list n es))(he:es=l.map e):Bd O q i l.length:=⟨fun p=>by have:=p q;rw[h]at this;exact Sk (Za (iN this) o) he⟩
theorem O3{b:Int}(h:O.get q=.tv (.pt row))(o:row[i]?=some (.int .i64 b)):Bd O q i b:=⟨fun p=>by have:=p q;rw[h]at this;exact de (Za (iN this) o)⟩
end bounds
section loops
variable{σ β ρ:Type}{n t:AB->Prop}{x:Nat->AB->Prop}{c:PC}{live jl:Ne}{i0 EP q i1:Nat}{lo b:Int}{s0:σ}{r:β}{k:σ->Option β}
variable{M:Int->σ->List (Nat×EV)}
theorem oG(h:∀i s,(z5 O (M i s) live).get EP=.tv (.int .i64 i)){i:Int}{s:σ}(o:∀k,((z5 O (M i s) live).get k).WF)(hi:i<b)(p:b<=9223372036854775807):Af (i+1)=i+1:=by
 have:=o EP;rw[h]at this;exact sB (WY this) hi p
theorem bH{f:Int->σ->Option σ}(_:HA i0 EP q i1 M)(h:(sx f lo b s0).bind k=some r)(p:∀s,(O.get s).WF)(u:Bd O q i1 b)(_:c.xl i0=some jl)(w:O.hT live=z5 O (M lo s0) live)(A:∀i s,(z5 O (M i s) live).get EP=.tv (.int .i64 i))
  (B:∀i s r,i<b->f i s=some r->(∀k,((z5 O (M i s) live).get k).WF)->WP S c ⟨fun e=>Rn (e.hT live) (z5 O (M (Af (i+1)) r) live),fun _ _=>False,fun _=>False⟩ (z5 O (M i s) live))
  (C:∀i s,¬i<b->WP S c ⟨fun _=>False,fun j e=>j=i0/\Rn e (z5 O (M 0 s) jl),fun _=>False⟩ (z5 O (M i s) live))
  (D:∀s,k s=some r->n (z5 O (M 0 s) jl)):WP S (.block i0 (.loop live c)) ⟨n,x,t⟩ O:=by
 obtain ⟨o,ho,h⟩:=bind_some h;have u:=u.out p;refine kW ho (fun i s=>z5 O (M i s) live) (fun s=>z5 O (M 0 s) jl) w (fun i s r hi hf p=>⟨PC.qo S c _ _ (B i s r hi hf p).out _ (fun e he=>?_) (fun _ _ h=>h) (fun _ h=>h)⟩) (fun i s hi=>⟨PC.qo S c _ _ (C i s hi).out _ (fun _ h=>h) (fun j e h=>⟨h.1,h.2.out⟩) (fun _ h=>h)⟩) (D o h);have:=he.out;rw[oG A p hi u]at this;exact this
variable{kr:ρ->Option β}
theorem Uu{f:Int->σ->Option (Bk σ ρ)}{R:ρ->AB->Prop}(h:fq (j4 f lo b s0) k kr=some r)(w:b<=9223372036854775807)(A:O.hT live=z5 O (M lo s0) live)(B:∀i s,(z5 O (M i s) live).get EP=.tv (.int .i64 i))
  (C:∀i s r,i<b->f i s=some r->(∀k,((z5 O (M i s) live).get k).WF)->WP S c ⟨fun e=>∃s',r=.next s'/\Rn (e.hT live) (z5 O (M (Af (i+1)) s') live),fun j e=>j=i0/\∃s',r=.brk s'/\Rn e (z5 O (M 0 s') jl),fun e=>∃v,r=.ret v/\R v e⟩ (z5 O (M i s) live))
  (D:∀i s,¬i<b->WP S c ⟨fun _=>False,fun j e=>j=i0/\Rn e (z5 O (M 0 s) jl),fun _=>False⟩ (z5 O (M i s) live))
  (E:∀s,k s=some r->n (z5 O (M 0 s) jl))(F:∀v e,kr v=some r->R v e->t e):WP S (.block i0 (.loop live c)) ⟨n,x,t⟩ O:=by
 obtain ⟨o,ho,h⟩:=Uh h;refine Zd ho (fun i s=>z5 O (M i s) live) (fun s=>z5 O (M 0 s) jl) R A (fun i s r hi hf u=>⟨PC.qo S c _ _ (C i s r hi hf u).out _ (fun e he=>?_) (fun j e he=>?_) (fun _ h=>h)⟩) (fun i s hi=>⟨PC.qo S c _ _ (D i s hi).out _ (fun _ h=>h) (fun j e h=>⟨h.1,h.2.out⟩) (fun _ h=>h)⟩) (fun s G=>E s (ZU h G)) (fun v e hv=>F v e (ZV h hv))
 .obtain⟨s',p,e2⟩:=he;have e2:=e2.out;rw[oG B u hi w]at e2;exact⟨s',p,e2⟩
 .obtain⟨H,s',p,e2⟩:=he;exact⟨H,s',p,e2.out⟩
theorem bK{f:Int->σ->Option (Bk σ β)}{R:β->AB->Prop}(_:HA i0 EP q i1 M)(_:HR R)(o:R r=t)(h:fq (j4 f lo b s0) k (fun v=>some v)=some r)(p:∀s,(O.get s).WF)(u:Bd O q i1 b)(_:c.xl i0=some jl)(w:O.hT live=z5 O (M lo s0) live)(A:∀i s,(z5 O (M i s) live).get EP=.tv (.int .i64 i))
  (B:∀i s r,i<b->f i s=some r->(∀k,((z5 O (M i s) live).get k).WF)->WP S c ⟨fun e=>∃s',r=.next s'/\Rn (e.hT live) (z5 O (M (Af (i+1)) s') live),fun j e=>j=i0/\∃s',r=.brk s'/\Rn e (z5 O (M 0 s') jl),fun e=>∃v,r=.ret v/\R v e⟩ (z5 O (M i s) live))
  (C:∀i s,¬i<b->WP S c ⟨fun _=>False,fun j e=>j=i0/\Rn e (z5 O (M 0 s) jl),fun _=>False⟩ (z5 O (M i s) live))
  (D:∀s,k s=some r->n (z5 O (M 0 s) jl)):WP S (.block i0 (.loop live c)) ⟨n,x,t⟩ O:=
 Uu h (u.out p) w A B C D (fun v e hv E=>by cases hv;rw[<-o];exact E)
variable{τ:Type}
theorem bJ{f:Int->σ->Option (Bk σ ρ)}{k:σ->Option (Bk τ ρ)}{r:Bk τ ρ}{R:ρ->AB->Prop}(_:HA i0 EP q i1 M)(h:fq (j4 f lo b s0) k (fun v=>some (.ret v))=some r)(o:∀s,(O.get s).WF)(p:Bd O q i1 b)(_:c.xl i0=some jl)(u:O.hT live=z5 O (M lo s0) live)(w:∀i s,(z5 O (M i s) live).get EP=.tv (.int .i64 i))
  (A:∀i s r,i<b->f i s=some r->(∀k,((z5 O (M i s) live).get k).WF)->WP S c ⟨fun e=>∃s',r=.next s'/\Rn (e.hT live) (z5 O (M (Af (i+1)) s') live),fun j e=>j=i0/\∃s',r=.brk s'/\Rn e (z5 O (M 0 s') jl),fun e=>∃v,r=.ret v/\R v e⟩ (z5 O (M i s) live))
  (B:∀i s,¬i<b->WP S c ⟨fun _=>False,fun j e=>j=i0/\Rn e (z5 O (M 0 s) jl),fun _=>False⟩ (z5 O (M i s) live))
  (C:∀s,k s=some r->n (z5 O (M 0 s) jl)):WP S (.block i0 (.loop live c)) ⟨n,x,fun e=>∃v,r=.ret v/\R v e⟩ O:=
 Uu h (p.out o) u w A B C (fun v e hv D=>by cases hv;exact⟨v,rfl,D⟩)
theorem bI{f:Int->σ->Option (Bk σ ρ)}(_:HA i0 EP q i1 M)(h:fq (j4 f lo b s0) k (fun _=>none)=some r)(o:∀s,(O.get s).WF)(p:Bd O q i1 b)(_:c.xl i0=some jl)(u:O.hT live=z5 O (M lo s0) live)(w:∀i s,(z5 O (M i s) live).get EP=.tv (.int .i64 i))
  (A:∀i s r,i<b->f i s=some r->(∀k,((z5 O (M i s) live).get k).WF)->WP S c ⟨fun e=>∃s',r=.next s'/\Rn (e.hT live) (z5 O (M (Af (i+1)) s') live),fun j e=>j=i0/\∃s',r=.brk s'/\Rn e (z5 O (M 0 s') jl),fun _=>∃v,r=.ret v/\False⟩ (z5 O (M i s) live))
  (B:∀i s,¬i<b->WP S c ⟨fun _=>False,fun j e=>j=i0/\Rn e (z5 O (M 0 s) jl),fun _=>False⟩ (z5 O (M i s) live))
  (C:∀s,k s=some r->n (z5 O (M 0 s) jl)):WP S (.block i0 (.loop live c)) ⟨n,x,t⟩ O:=
 Uu (R:=fun _ _=>False) h (p.out o) u w A B C (fun v e hv _=>by cases hv)
theorem YD{f:σ->Option (Bk σ ρ)}{R:ρ->AB->Prop}{M:σ->List (Nat×EV)}(h:fq (EQ f s0) k kr=some r)(u:O.hT live=z5 O (M s0) live)
  (w:∀s r,f s=some r->(∀k,((z5 O (M s) live).get k).WF)->WP S c ⟨fun e=>∃s',r=.next s'/\Rn (e.hT live) (z5 O (M s') live),fun j e=>j=i0/\∃s',r=.brk s'/\Rn e (z5 O (M s') jl),fun e=>∃v,r=.ret v/\R v e⟩ (z5 O (M s) live))
  (A:∀s,k s=some r->n (z5 O (M s) jl))(B:∀v e,kr v=some r->R v e->t e):WP S (.block i0 (.loop live c)) ⟨n,x,t⟩ O:=by
 obtain ⟨o,ho,h⟩:=Uh h;refine oJ ho (fun s=>z5 O (M s) live) (fun s=>z5 O (M s) jl) R u (fun s r hf C=>⟨PC.qo S c _ _ (w s r hf C).out _ (fun e he=>?_) (fun j e he=>?_) (fun _ h=>h)⟩) (fun s D=>A s (ZU h D)) (fun v e hv=>B v e (ZV h hv))
 .obtain⟨s',p,e2⟩:=he;exact⟨s',p,e2.out⟩
 .obtain⟨E,s',p,e2⟩:=he;exact⟨E,s',p,e2.out⟩
theorem oo{f:σ->Option (Bk σ β)}{R:β->AB->Prop}{M:σ->List (Nat×EV)}(_:HW i0 M)(_:HR R)(o:R r=t)(h:fq (EQ f s0) k (fun v=>some v)=some r)(_:c.xl i0=some jl)(p:O.hT live=z5 O (M s0) live)
  (u:∀s r,f s=some r->(∀k,((z5 O (M s) live).get k).WF)->WP S c ⟨fun e=>∃s',r=.next s'/\Rn (e.hT live) (z5 O (M s') live),fun j e=>j=i0/\∃s',r=.brk s'/\Rn e (z5 O (M s') jl),fun e=>∃v,r=.ret v/\R v e⟩ (z5 O (M s) live))
  (w:∀s,k s=some r->n (z5 O (M s) jl)):WP S (.block i0 (.loop live c)) ⟨n,x,t⟩ O:=
 YD h p u w (fun v e hv A=>by cases hv;rw[<-o];exact A)
theorem om{f:σ->Option (Bk σ ρ)}{k:σ->Option (Bk τ ρ)}{r:Bk τ ρ}{R:ρ->AB->Prop}{M:σ->List (Nat×EV)}(_:HW i0 M)(h:fq (EQ f s0) k (fun v=>some (.ret v))=some r)(_:c.xl i0=some jl)(o:O.hT live=z5 O (M s0) live)
  (p:∀s r,f s=some r->(∀k,((z5 O (M s) live).get k).WF)->WP S c ⟨fun e=>∃s',r=.next s'/\Rn (e.hT live) (z5 O (M s') live),fun j e=>j=i0/\∃s',r=.brk s'/\Rn e (z5 O (M s') jl),fun e=>∃v,r=.ret v/\R v e⟩ (z5 O (M s) live))
  (u:∀s,k s=some r->n (z5 O (M s) jl)):WP S (.block i0 (.loop live c)) ⟨n,x,fun e=>∃v,r=.ret v/\R v e⟩ O:=
 YD h o p u (fun v e hv w=>by cases hv;exact⟨v,rfl,w⟩)
theorem ol{f:σ->Option (Bk σ ρ)}{M:σ->List (Nat×EV)}(_:HW i0 M)(h:fq (EQ f s0) k (fun _=>none)=some r)(_:c.xl i0=some jl)(o:O.hT live=z5 O (M s0) live)
  (p:∀s r,f s=some r->(∀k,((z5 O (M s) live).get k).WF)->WP S c ⟨fun e=>∃s',r=.next s'/\Rn (e.hT live) (z5 O (M s') live),fun j e=>j=i0/\∃s',r=.brk s'/\Rn e (z5 O (M s') jl),fun _=>∃v,r=.ret v/\False⟩ (z5 O (M s) live))
  (u:∀s,k s=some r->n (z5 O (M s) jl)):WP S (.block i0 (.loop live c)) ⟨n,x,t⟩ O:=
 YD (R:=fun _ _=>False) h o p u (fun v e hv _=>by cases hv)
end loops
end
end Go.Sf
namespace Go.Sf
section
variable{P:Program}{S:FuncId->Fq->Am->Prop}{K:AB->Prop}{os:List PR}{O:AB}{d:Nat}{α β:Type}{k:α->Option β}{r:β}
variable{j:Int}
theorem oV{n:Nat}{x i:AF}{es:Fq}{e:α->TV}{l:List α}{ik:IntKind}(h:(idx l j).bind k=some r)(p:x.val O=some (.list n es))(hi:i.val O=some (.int ik j))(he:es=l.map e)
  (u:∀a,idx l j=some a->k a=some r->WO S K os ((d,.tv (.pt (e a).cells))::O)):WO S K (⟨some d,.iad x i n,none⟩::os) O:=by
 obtain ⟨a,o,h⟩:=bind_some h;exact rP p hi he o rfl (u a o h)
variable{ka kb:IntKind}
theorem oi{β:Type}{γ:Type}{k:List γ->Option β}{r:β}{n:Nat}{x:AF}{lo hi:Option AF}{es:Fq}{e:γ->TV}{l:List γ}{a b:Int}(h:(slc l a b).bind k=some r)(w:x.val O=some (.list n es))(he:es=l.map e)(o:Er O 0 lo=some (.int ka a))(p:Er O l.length hi=some (.int kb b))
  (A:∀m,slc l a b=some m->k m=some r->WO S K os ((d,.tv (.list n (m.map e)))::O)):WO S K (⟨some d,.slc n x lo hi,none⟩::os) O:=by
 obtain ⟨m,u,h⟩:=bind_some h;exact rt w he o p u (A m u h)
theorem lM{k:ByteArray->Option β}{x:AF}{lo hi:Option AF}{s:ByteArray}{a b:Int}(h:(AaH s a b).bind k=some r)(w:x.val O=some (.str s))(o:Er O 0 lo=some (.int ka a))(p:Er O s.size hi=some (.int kb b))
  (A:∀m,AaH s a b=some m->k m=some r->WO S K os ((d,.tv (.str m))::O)):WO S K (⟨some d,.AaH x lo hi,none⟩::os) O:=by
 obtain ⟨m,u,h⟩:=bind_some h;exact ni w o p u (A m u h)
theorem lL{k:Int->Option β}{x i:AF}{s:ByteArray}{ik:IntKind}(h:(AaC s j).bind k=some r)(p:x.val O=some (.str s))(hi:i.val O=some (.int ik j))
  (u:∀b,AaC s j=some b->k b=some r->WO S K os ((d,.tv (.int .u8 b))::O)):WO S K (⟨some d,.AaC x i,none⟩::os) O:=by
 obtain ⟨b,o,h⟩:=bind_some h;exact nd p hi o (u b o h)
theorem oK{γ:Type}{k:List γ->Option β}{n s:Nat}{y:AF}{es fs:Fq}{e:γ->TV}{l m:List γ}(h:(Ag l m).bind k=some r)(p:O.get s=.ow (.list n es))(u:y.val O=some (.list n fs))(he:es=l.map e)(hf:fs=m.map e)
  (w:∀x,Ag l m=some x->k x=some r->WO S K os ((d,.ow (.list n (x.map e)))::(s,.tv (.list n es))::O)):WO S K (⟨some d,.app n (.s s) y,none⟩::os) O:=by
 obtain ⟨x,o,h⟩:=bind_some h;exact hO p u he hf o rfl (w x o h)
theorem km{γ:Type}{k:List γ->Option β}{n s:Nat}{y:AF}{es fs:Fq}{e:γ->TV}{l m:List γ}{f:List γ->TV}(h:(Ag l m).bind k=some r)(p:O.get s=.ow (.list n es))(u:y.val O=some (.list n fs))(he:es=l.map e)(hf:fs=m.map e)(c:Fl e n f)
  (w:∀x,Ag l m=some x->k x=some r->WO S K os ((d,.ow (f x))::(s,.tv (.list n es))::O)):WO S K (⟨some d,.app n (.s s) y,none⟩::os) O:=by
 obtain ⟨x,o,h⟩:=bind_some h;have:=w x o h;rw[c.eq]at this;exact hO p u he hf o rfl this
theorem ko{γ:Type}{k:List γ->Option β}{n s:Nat}{y:AF}{es fs:Fq}{e:γ->TV}{l m:List γ}(h:(Ag l m).bind k=some r)(p:O.get s=.xo n es)(u:y.val O=some (.list n fs))(he:es=l.map e)(hf:fs=m.map e)(w:O.hV d=true)(hd:d≠s)
  (A:∀x,Ag l m=some x->k x=some r->WO S K os ((d,.xo n (x.map e))::(s,.undef)::O)):WO S K (⟨some d,.Abe n s y,none⟩::os) O:=by
 obtain ⟨x,o,h⟩:=bind_some h;exact nK p u he hf o rfl w hd (A x o h)
theorem ku{γ:Type}{k:List γ->Option β}{n s:Nat}{o:TV}{x:AF}{es:Fq}{e:γ->TV}{z:γ}{l:List γ}{ik:IntKind}(h:(S7 l j z).bind k=some r)(w:O.get s=.xo n es)(A:x.val O=some (.int ik j))(he:es=l.map e)(B:o=e z)(C:O.hV d=true)(hd:d≠s)(p:n=1)(D:o.cells=[o])
  (E:∀m,S7 l j z=some m->k m=some r->WO S K os ((d,.xo n (m.map e))::(s,.undef)::O)):WO S K (⟨some d,.Abk n s o x,none⟩::os) O:=by
 obtain ⟨m,u,h⟩:=bind_some h;exact nL w A he B u rfl C hd p D (E m u h)
theorem oM{γ:Type}{k:List γ->Option β}{n s:Nat}{hi:AF}{es:Fq}{e:γ->TV}{l:List γ}{ik:IntKind}(h:(slc l 0 j).bind k=some r)(p:O.get s=.xo n es)(u:hi.val O=some (.int ik j))(he:es=l.map e)(w:O.hV d=true)(hd:d≠s)
  (A:∀m,slc l 0 j=some m->k m=some r->WO S K os ((d,.xo n (m.map e))::(s,.undef)::O)):WO S K (⟨some d,.cut n s hi,none⟩::os) O:=by
 obtain ⟨m,o,h⟩:=bind_some h;exact rJ p u he o rfl w hd (A m o h)
variable{zero:Fq}
theorem oa{γ:Type}{k:List γ->Option β}{n:Nat}{x:AF}{ik:IntKind}{e:γ->TV}{z:γ}(h:(IZ j z).bind k=some r)(p:O.hV d=true)(u:x.val O=some (.int ik j))(w:(match zero with|[t]=>t|ts=>.agg ts)=e z)
  (A:∀m,IZ j z=some m->k m=some r->WO S K os ((d,.xo n (m.map e))::O)):WO S K (⟨some d,.mkx n zero x,none⟩::os) O:=by
 obtain ⟨m,o,h⟩:=bind_some h;exact rb p u w o rfl (A m o h)
variable{qi:Option Nat}
theorem ot{x i:AF}{q n:Nat}{es:Fq}{e:α->TV}{l:List α}{ik:IntKind}(h:(idx l j).bind k=some r)(p:x.Aaa O=some ((q,qi),n,es))(hi:i.val O=some (.int ik j))(he:es=l.map e)(u:(x.ev O).ref=some q)
  (w:∀a,idx l j=some a->k a=some r->WO S K os ((d,.lp q qi (j.toNat*n))::O)):WO S K (⟨some d,.xia x i n,none⟩::os) O:=by
 obtain ⟨a,o,h⟩:=bind_some h;exact r8 p hi he o u (w a o h)
section ints
variable{k:Int->Option β}{x y:AF}{ik:IntKind}{a b:Int}
theorem od(h:(quo a b).bind k=some r)(p:x.val O=some (.int ik a))(u:y.val O=some (.int ik b))(w:∀q,quo a b=some q->k q=some r->WO S K os ((d,.tv (.int ik (ik.wrap q)))::O)):WO S K (⟨some d,.bin .i .quo x y,none⟩::os) O:=by
 obtain ⟨m,o,h⟩:=bind_some h;exact rn p u o (w m o h)
theorem oe(h:(g9 a b).bind k=some r)(p:x.val O=some (.int ik a))(u:y.val O=some (.int ik b))(w:∀q,g9 a b=some q->k q=some r->WO S K os ((d,.tv (.int ik q))::O)):WO S K (⟨some d,.bin .i .rem x y,none⟩::os) O:=by
 obtain ⟨m,o,h⟩:=bind_some h;exact rr p u o (w m o h)
theorem oL{op:BinOp}{o:IntKind}(h:(Kc ik op a b).bind k=some r)(u:x.val O=some (.int ik a))(A:y.val O=some (.int o b))(B:ik=o\/op=.shl\/op=.shr)(C:∀q,Kc ik op a b=some q->k q=some r->WO S K os ((d,.tv (.int ik q))::O)):WO S K (⟨some d,.bin .w op x y,none⟩::os) O:=by
 obtain ⟨m,p,h⟩:=bind_some h;exact rF u A B p (C m p h)
end ints
theorem lK{k:ByteArray->Option β}{x y:AF}{u v:ByteArray}(h:(SI u v).bind k=some r)(p:x.val O=some (.str u))(w:y.val O=some (.str v))(A:∀q,SI u v=some q->k q=some r->WO S K os ((d,.tv (.str q))::O)):WO S K (⟨some d,.bin .s .add x y,none⟩::os) O:=by
 obtain ⟨m,o,h⟩:=bind_some h;exact na p w o (A m o h)
theorem oW{k:Unit->Option β}{x:AF}{n:Nat}{es:Fq}{e:α->TV}{l:List α}(h:(XM l).bind k=some r)(o:x.val O=some (.list n es))(he:es=l.map e)(p:∀u,k u=some r->WO S K os ((d,.tv (.bool false))::O)):WO S K (⟨some d,.isn x,none⟩::os) O:=by
 obtain ⟨u,A,h⟩:=bind_some h;refine iB o he fun b w=>?_;obtain rfl:=bj A w;exact p u h
theorem gX{x:AF}{n:Nat}{e:α->TV}{a:α}(h:A3 O (x.ev O)=some (e a).cells)(o:Nat.beq (e a).cells.length n=true)(p:TV.agg (e a).cells=e a)(u:WO S K os ((d,.tv (e a))::O)):WO S K (⟨some d,.lda x n,none⟩::os) O:=by
 have o:=Nat.eq_of_beq_eq_true o;exact WX h (by rw[o];exact Nat.ble_self_eq_true n) (by rw[List.take_of_length_le (by omega),p]) u
theorem oX{s n:Nat}{cs:List AO}{e:α->TV}{a:α}(h:O.get s=.bx cs)(p:cs.map (·.t)=(e a).cells)(o:Nat.beq (e a).cells.length n=true)(u:TV.agg (e a).cells=e a)(w:WO S K os ((d,.tv (e a))::O)):WO S K (⟨some d,.ldb s n,none⟩::os) O:=by
 have o:=Nat.eq_of_beq_eq_true o;exact iC h (by rw[p,o];exact Nat.ble_self_eq_true n) (by rw[p,List.take_of_length_le (by omega),u]) w
theorem lO{n s:Nat}{v:AF}{cs:List AO}{t:TV}(o:O.get s=.bx cs)(hv:v.ev O=.tv t)(p:t.cells.length=n)(h:Nat.beq n cs.length=true)(u:WO S K os ((s,.bx (t.cells.map (⟨false,·⟩)))::O)):WO S K (⟨none,.stb n s v,none⟩::os) O:=by
 have h:=Nat.eq_of_beq_eq_true h;refine iF o hv p (by rw[Nat.zero_add,h];exact Nat.ble_self_eq_true _) ?_ u;rw[List.take_zero,Nat.zero_add,h,List.drop_length,List.append_nil,List.nil_append]
theorem lG{x:AF}{n:Nat}{e:α->TV}{a:α}(h:A3 O (x.ev O)=some (((e a).cells.map fun t=>(⟨false,t⟩:AO)).map (·.t)))(o:Nat.beq (e a).cells.length n=true)(p:TV.agg (e a).cells=e a)(u:WO S K os ((d,.tv (e a))::O)):WO S K (⟨some d,.lda x n,none⟩::os) O:=
 gX (by rw[h,List.map_map];congr 1;exact List.map_id _) o p u
def Zl(n:Nat):Fq->Bool
 |[]=>true|t::ts=>Nat.beq t.cells.length n&&Zl n ts
theorem Wg{n:Nat}:∀{ts:Fq},Zl n ts=true->∀t∈ts,t.cells.length=n
 |[],_,_,h=>by cases h
 |t::ts,h,u,o=>by
  simp only[Zl,pc]at h;rcases List.mem_cons.1 o with rfl|o
  .exact Nat.eq_of_beq_eq_true h.1
  .exact Wg h.2 u o
variable{parts:List AF}
theorem oZ{n:Nat}{ts:Fq}(h:vals O parts=some ts)(o:Zl n ts=true)(p:WO S K os ((d,.ow (.list n ts))::O)):WO S K (⟨some d,.lst n parts,none⟩::os) O:=by
 have:=p.out;refine⟨?_⟩;simp only[wpOps,PR.wp,AE.wp,h,AX];exact⟨Wg o,this⟩
variable{zero:Fq}
theorem kv{parts:List (Nat×Nat×AF)}{ts:List (Nat×Nat×TV)}{cs:Fq}{e:α->TV}{a:α}(h:(some a).bind k=some r)(_:En α e)(o:Fu O parts=some ts)(p:Ea zero ts=some cs)(he:TV.agg cs=e a)(u:∀x,x=a->k x=some r->WO S K os ((d,.tv (e x))::O)):WO S K (⟨some d,.bld zero parts,none⟩::os) O:=by
 rw [Option.bind_some]at h;exact WW o p he (u a rfl h)
theorem oY{x:AF}{n:Nat}{cs:Fq}{e:α->TV}{a:α}(h:(some a).bind k=some r)(_:En α e)(o:A3 O (x.ev O)=some cs)(p:Nat.ble n cs.length=true)(he:TV.agg (cs.take n)=e a)(u:∀x,x=a->k x=some r->WO S K os ((d,.tv (e x))::O)):WO S K (⟨some d,.lda x n,none⟩::os) O:=by
 rw [Option.bind_some]at h;exact WX o p he (u a rfl h)
inductive Lm{α:Type}(e:α->TV):Fq->List α->Prop
 |nil:Lm e [] []
 |cons {t:TV} {ts:Fq} {a:α} {l:List α}:t=e a->Lm e ts l->Lm e (t::ts) (a::l)
theorem Lm.eq{e:α->TV}{ts:Fq}{l:List α}(h:Lm e ts l):ts=l.map e:=by
 induction h with
 |nil=>rfl|cons h _ o=>rw[h,o];rfl
theorem lH{n:Nat}{ts:Fq}{e:α->TV}{l:List α}(h:vals O parts=some ts)(o:Lm e ts l)(p:∀a,(e a).cells.length=n)(u:WO S K os ((d,.ow (.list n (l.map e)))::O)):WO S K (⟨some d,.lst n parts,none⟩::os) O:=iD h o.eq p u
theorem lJ{n:Nat}{ts:Fq}{e:α->TV}{l:List α}{f:List α->TV}(h:vals O parts=some ts)(p:Lm e ts l)(u:∀a,(e a).cells.length=n)(c:Fl e n f)(o:WO S K os ((d,.ow (f l))::O)):WO S K (⟨some d,.lst n parts,none⟩::os) O:=by
 rw [c.eq]at o;exact iD h p.eq u o
theorem kf{e:α->TV}{n:Ne}{x y:AF}{a:α}{cs:Fq}(o:x.val O=some (e a))(p:y.val O=some (.agg cs))[c:a8 e][i:Decidable (a=c.un cs)](u:TV.agg (e a).cells=e a)(w:(e (c.un cs)).cells=cs)(A:(e a).cells.map TV.kd=n)(B:WO S K os ((d,.tv (.bool (decide (a=c.un cs))))::O)):WO S K (⟨some d,.bin (.a n) .eql x y,none⟩::os) O:=by
 obtain ⟨C,h⟩:=c.dec a (c.un cs);have:i=C:=Subsingleton.elim _ _;subst this;rw[<-u]at o;rw[w]at h;exact cq o p A h B
theorem ki{e:α->TV}{n:Ne}{x y:AF}{a:α}{cs:Fq}(o:x.val O=some (e a))(p:y.val O=some (.agg cs))[c:a8 e][i:Decidable (a=c.un cs)](u:TV.agg (e a).cells=e a)(w:(e (c.un cs)).cells=cs)(A:(e a).cells.map TV.kd=n)(B:WO S K os ((d,.tv (.bool (!decide (a=c.un cs))))::O)):WO S K (⟨some d,.bin (.a n) .neq x y,none⟩::os) O:=by
 obtain ⟨C,h⟩:=c.dec a (c.un cs);have:i=C:=Subsingleton.elim _ _;subst this;rw[<-u]at o;rw[w]at h;exact cr o p A h B
theorem ke{e:α->TV}{n:Ne}{x y:AF}{a b:α}{i:Decidable (a=b)}(o:x.val O=some (e a))(p:y.val O=some (e b))(c:a8 e)(u:TV.agg (e a).cells=e a)(w:TV.agg (e b).cells=e b)(A:(e a).cells.map TV.kd=n)(B:WO S K os ((d,.tv (.bool (decide (a=b))))::O)):WO S K (⟨some d,.bin (.a n) .eql x y,none⟩::os) O:=by
 obtain ⟨C,h⟩:=c.dec a b;have:i=C:=Subsingleton.elim _ _;subst this;rw[<-u]at o;rw[<-w]at p;exact cq o p A h B
theorem kh{e:α->TV}{n:Ne}{x y:AF}{a b:α}{i:Decidable (a=b)}(o:x.val O=some (e a))(p:y.val O=some (e b))(c:a8 e)(u:TV.agg (e a).cells=e a)(w:TV.agg (e b).cells=e b)(A:(e a).cells.map TV.kd=n)(B:WO S K os ((d,.tv (.bool (!decide (a=b))))::O)):WO S K (⟨some d,.bin (.a n) .neq x y,none⟩::os) O:=by
 obtain ⟨C,h⟩:=c.dec a b;have:i=C:=Subsingleton.elim _ _;subst this;rw[<-u]at o;rw[<-w]at p;exact cr o p A h B
section calls
variable{x:Option α}{f:FuncId}{ts:Fq}{R:α->Am}{args:List AF}
theorem oQ{s:Nat}{cs:List AO}{row:Fq}(o:O.get s=.bx cs)(f:Fz cs row)(k:WO S K os ((s,.tv (.pt row))::O)):WO S K (⟨none,.frz s,none⟩::os) O:=rM o f.h k
theorem kz{t:α->TV}(h:x.bind k=some r)(c:Ct P x f ts R)(p:vals O args=some ts)(u:∀a,R a=.sh (t a))(w:∀a,x=some a->k a=some r->WO (AQ P) K os ((d,.tv (t a))::O)):WO (AQ P) K (⟨some d,.call f args,none⟩::os) O:=by
 obtain ⟨a,o,h⟩:=bind_some h;have:=c.snd a o;rw[u]at this;exact cv p this (w a o h)
theorem iX{t:α->TV}(h:x.bind k=some r)(c:Ct P x f ts R)(p:vals O args=some ts)(u:∀a,R a=.own (t a))(w:∀a,x=some a->k a=some r->WO (AQ P) K os ((d,.ow (t a))::O)):WO (AQ P) K (⟨some d,.call f args,none⟩::os) O:=by
 obtain ⟨a,o,h⟩:=bind_some h;have:=c.snd a o;rw[u]at this;exact kD p this (w a o h)
theorem iZ{t:α->TV}(_:HS d)(h:x.bind k=some r)(c:Ct P x f ts R)(p:vals O args=some ts)(u:∀a,R a=.own (t a))(w:∀a,x=some a->k a=some r->WO (AQ P) K os ((d,.tv (t a))::O)):WO (AQ P) K (⟨some d,.call f args,none⟩::os) O:=by
 obtain ⟨a,o,h⟩:=bind_some h;have:=c.snd a o;rw[u]at this;exact cv p (mH this) (w a o h)
theorem ib{n:Nat}{t:α->Fq}(h:x.bind k=some r)(c:Ct P x f ts R)(p:vals O args=some ts)(u:∀a,R a=.Aa0 n (t a))(w:∀a,x=some a->k a=some r->WO (AQ P) K os ((d,.ow (.list n (t a)))::O)):WO (AQ P) K (⟨some d,.call f args,none⟩::os) O:=by
 obtain ⟨a,o,h⟩:=bind_some h;have:=c.snd a o;rw[u]at this;exact kG p this (w a o h)
theorem iY{t:α->Fq}(h:x.bind k=some r)(c:Ct P x f ts R)(p:vals O args=some ts)(u:∀a,R a=.tp (t a))(w:∀a,x=some a->k a=some r->WO (AQ P) K os ((d,.tp (t a))::O)):WO (AQ P) K (⟨some d,.call f args,none⟩::os) O:=by
 obtain ⟨a,o,h⟩:=bind_some h;have:=c.snd a o;rw[u]at this;exact kE p this (w a o h)
theorem iU{t:α->List AO}(h:x.bind k=some r)(c:Ct P x f ts R)(p:vals O args=some ts)(u:∀a,R a=.oag (t a))(w:∀a,x=some a->k a=some r->WO (AQ P) K os ((d,.tv (.agg ((t a).map fun c=>c.rel.t)))::O)):WO (AQ P) K (⟨some d,.call f args,none⟩::os) O:=by
 obtain ⟨a,o,h⟩:=bind_some h;have:=c.snd a o;rw[u]at this;exact kA p this rfl (w a o h)
theorem iT{t:α->List AO}(h:x.bind k=some r)(c:Ct P x f ts R)(p:vals O args=some ts)(u:∀a,R a=.oag (t a))(w:∀a,x=some a->k a=some r->WO (AQ P) K os ((d,.oag (t a))::O)):WO (AQ P) K (⟨some d,.Aa2 f args,none⟩::os) O:=by
 obtain ⟨a,o,h⟩:=bind_some h;have:=c.snd a o;rw[u]at this;exact j9 p this (w a o h)
theorem ic{n:Nat}{t:α->Fq}(h:x.bind k=some r)(c:Ct P x f ts R)(p:O.hV d=true)(u:vals O args=some ts)(w:∀a,R a=.Aa0 n (t a))(A:∀a,x=some a->k a=some r->WO (AQ P) K os ((d,.xo n (t a))::O)):WO (AQ P) K (⟨some d,.AaL f args,none⟩::os) O:=by
 obtain ⟨a,o,h⟩:=bind_some h;have:=c.snd a o;rw[w]at this;exact kH p u this (A a o h)
theorem dn{γ:Type}{k:List γ->Option β}{x:Option (List γ)}{R:List γ->Am}{n:Nat}{e:γ->TV}(h:x.bind k=some r)(c:Ct P x f ts R)(p:O.hV d=true)(u:vals O args=some ts)(w:∀a,R a=.own (.list n (a.map e)))(hf:∀a,(e a).flat=true)(A:∀a,x=some a->k a=some r->WO (AQ P) K os ((d,.xo n (a.map e))::O)):WO (AQ P) K (⟨some d,.AaL f args,none⟩::os) O:=by
 obtain ⟨a,o,h⟩:=bind_some h;have:=c.snd a o;rw[w]at this;exact fQ p u this rfl hf (A a o h)
theorem iV{t:α->TV}(h:x.bind k=some r)(c:Ct P x f ts R)(p:Aar O args=some ts)(u:∀a,R a=.sh (t a))(w:∀a,(t a).flat=true)(A:∀a,x=some a->k a=some r->WO (AQ P) K os ((d,.tv (t a))::O)):WO (AQ P) K (⟨some d,.AaI f args,none⟩::os) O:=by
 obtain ⟨a,o,h⟩:=bind_some h;have:=c.snd a o;rw[u]at this;exact kB p this (w a) (A a o h)
theorem dk{t:α->Fq}(h:x.bind k=some r)(c:Ct P x f ts R)(p:Aar O args=some ts)(u:∀a,R a=.tp (t a))(w:∀a,TV.Aah (t a)=true)(A:∀a,x=some a->k a=some r->WO (AQ P) K os ((d,.tp (t a))::O)):WO (AQ P) K (⟨some d,.AaI f args,none⟩::os) O:=by
 obtain ⟨a,o,h⟩:=bind_some h;have:=c.snd a o;rw[u]at this;exact fL p this (w a) (A a o h)
theorem dj{γ:Type}{k:List γ->Option β}{x:Option (List γ)}{R:List γ->Am}{n:Nat}{e:γ->TV}(h:x.bind k=some r)(c:Ct P x f ts R)(p:Aar O args=some ts)(u:∀a,R a=.own (.list n (a.map e)))(hf:∀a,(e a).flat=true)(w:∀a,x=some a->k a=some r->WO (AQ P) K os ((d,.ow (.list n (a.map e)))::O)):WO (AQ P) K (⟨some d,.AaI f args,none⟩::os) O:=by
 obtain ⟨a,o,h⟩:=bind_some h;have:=c.snd a o;rw[u]at this;exact fK p this rfl rfl hf (w a o h)
theorem iS{t:α->Fq}(h:x.bind k=some r)(c:Ct P x f ts R)(p:vals O args=some ts)(u:∀a,R a=.ext (t a))(w:∀a,x=some a->k a=some r->WO (AQ P) K os ((d,.tp (t a))::O)):WO (AQ P) K (⟨some d,.Aa3 f args,none⟩::os) O:=by
 obtain ⟨a,o,h⟩:=bind_some h;have:=c.snd a o;rw[u]at this;exact j8 p this (w a o h)
theorem Yi{i s:Nat}{cs:List AO}{cs':α->List AO}{us:α->Fq}{e:α->EV}(h:x.bind k=some r)(c:Ct P x f ts R)(p:(args[i]?).bind (·.place O)=some (s,0))(u:O.get s=.bx cs)(w:O.noX s none=true)(hd:d≠s)(A:Gw O i args=some ts)(B:∀a,R a=.bo cs (cs' a) i (us a))(he:∀a,EV.ofs (us a)=e a)(C:∀a,x=some a->k a=some r->WO (AQ P) K os ((d,e a)::(s,.bx (cs' a))::O)):WO (AQ P) K (⟨some d,.AaF f args i,none⟩::os) O:=by
 obtain ⟨a,o,h⟩:=bind_some h;have:=c.snd a o;rw[B]at this;exact j6 p u w hd A this (he a) (C a o h)
variable{qi:Option Nat}
theorem iW{k:Fp->Option β}{f:FuncId}{x:AF}{q:Nat}{es:Fq}{l:Fp}{y:Option Fp}{env':Fp->AB}(h:y.bind k=some r)(c:Ct P y f [.list 1 (l.map (TV.int .i64))] Am.turn)(p:x.Aaa O=some ((q,qi),1,es))(he:es=l.map (TV.int .i64))(hv:∀a,O.Aaj q qi 1 (a.map (TV.int .i64))=env' a)(u:∀a,y=some a->k a=some r->WO (AQ P) K os ((d,.tp [])::env' a)):WO (AQ P) K (⟨some d,.AaU f x,none⟩::os) O:=by
 obtain ⟨a,o,h⟩:=bind_some h;exact kC p he rfl (c.snd a o) rfl (hv a) (u a o h)
theorem iR{k:Fp->Option β}{f:FuncId}{x:AF}{q:Nat}{es:Fq}{l:Fp}{y:Option Fp}(h:y.bind k=some r)(c:Ct P y f [.list 1 (l.map (TV.int .i64))] Am.cut)(u:x.Aaa O=some ((q,none),1,es))(he:es=l.map (TV.int .i64))(o:q≠d)(w:O.hV d=true)(A:∀a,y=some a->k a=some r->WO (AQ P) K os ((d,.xo 1 (a.map (TV.int .i64)))::(q,.undef)::O)):WO (AQ P) K (⟨some d,.AaV f x,none⟩::os) O:=by
 obtain ⟨a,p,h⟩:=bind_some h;exact j7 u he rfl o w (c.snd a p) rfl (A a p h)
section values
variable{v:AF}{caps us:Fq}
theorem ia{t:α->TV}(h:x.bind k=some r)(c:Ct P x f ts R)(hv:v.val O=some (.clo f caps))(p:vals O args=some us)(u:us++caps=ts)(w:∀a,R a=.sh (t a))(A:∀a,x=some a->k a=some r->WO (AQ P) K os ((d,.tv (t a))::O)):WO (AQ P) K (⟨some d,.AaM v args,none⟩::os) O:=by
 obtain ⟨a,o,h⟩:=bind_some h;have:=c.snd a o;rw[w,<-u]at this;exact kF hv p this (A a o h)
theorem dl{t:α->TV}(h:x.bind k=some r)(c:Ct P x f ts R)(hv:v.val O=some (.clo f caps))(p:vals O args=some us)(u:us++caps=ts)(w:∀a,R a=.own (t a))(A:∀a,x=some a->k a=some r->WO (AQ P) K os ((d,.ow (t a))::O)):WO (AQ P) K (⟨some d,.AaM v args,none⟩::os) O:=by
 obtain ⟨a,o,h⟩:=bind_some h;have:=c.snd a o;rw[w,<-u]at this;exact fO hv p this (A a o h)
theorem dm{t:α->Fq}(h:x.bind k=some r)(c:Ct P x f ts R)(hv:v.val O=some (.clo f caps))(p:vals O args=some us)(u:us++caps=ts)(w:∀a,R a=.tp (t a))(A:∀a,x=some a->k a=some r->WO (AQ P) K os ((d,.tp (t a))::O)):WO (AQ P) K (⟨some d,.AaM v args,none⟩::os) O:=by
 obtain ⟨a,o,h⟩:=bind_some h;have:=c.snd a o;rw[w,<-u]at this;exact fP hv p this (A a o h)
end values
end calls
inductive GS(g:Nat)(b:Bool):Ne->List PR->Ne->Nat->Prop
 |done {acc:Ne} {os:List PR}:GS g b acc os [] 0
 |step {acc js:Ne} {d n:Nat} {op:AE} {os:List PR}:GS g b (d::acc) os js n->GS g b acc (⟨some d,op,some (g,b)⟩::os) (d::js) (n+1)
 |Ab5 {acc js:Ne} {d n g':Nat} {b':Bool} {op:AE} {os:List PR}:acc.contains g'=true->GS g b (d::acc) os js n->GS g b acc (⟨some d,op,some (g',b')⟩::os) (d::js) (n+1)
def kc:Ne->AB->(AB->Prop)->Prop
 |[],z,K=>K z|k::ks,z,K=>∃j,kc ks ((k,j)::z) K
structure Gj(js:Ne)(d:Nat)(v:TV)(z e:AB):Prop where
 of::out:kc js z fun y=>e=(d,.tv v)::y
theorem bg{d:Nat}{v:TV}{z e:AB}(h:e=(d,.tv v)::z):Gj [] d v z e:=⟨h⟩
variable{ks:Ne}
theorem jA{k d:Nat}{v:TV}{j:EV}{z e:AB}(h:Gj ks d v ((k,j)::z) e):Gj (k::ks) d v z e:=⟨j,h.out⟩
theorem lD{js:Ne}{v:TV}{z:AB}(h:Gj js d v z O):WO S (Gj js d v z) [] O:=⟨h⟩
structure U9(js:Ne)(z:AB)(Q:AB->Prop):Prop where
 of::out:∀(d:Nat)(v:TV)(e:AB),Gj js d v z e->∃y,e=(d,.tv v)::y/\Q y
theorem jB{z:AB}{Q:AB->Prop}(h:Q z):U9 [] z Q:=⟨fun _ _ _ he=>⟨z,he.out,h⟩⟩
theorem eO{k:Nat}{z:AB}{Q:AB->Prop}(h:∀j,U9 ks ((k,j)::z) Q):U9 (k::ks) z Q:=⟨fun d v e he=>by
 obtain ⟨j,o⟩:=he.out;exact(h j).out d v e ⟨o⟩⟩
theorem p9{dd:Option Nat}{op:AE}{g:Nat}{b q:Bool}(h:O.get g=.tv (.bool q))(o:bE g b q)(p:WO S K (⟨dd,op,none⟩::os) O):WO S K (⟨dd,op,some (g,b)⟩::os) O:=sg h o.out p
theorem lr{op:AE}{g:Nat}{b q:Bool}(h:O.get g=.tv (.bool q))(o:Wb g b q)(p:WO S K os ((d,.sk)::O)):WO S K (⟨some d,op,some (g,b)⟩::os) O:=p8 h o.out p
theorem Zz{d n:Nat}{js:Ne}{v:TV}(h:WO S (Gj js d v O) (os.take n) O)(o:U9 js O fun e=>WO S K (os.drop n) ((d,.tv v)::e)):WO S K os O:=
 p7 n (Gj js d v) h fun e he=>by
  obtain ⟨y,rfl,p⟩:=o.out d v e he;exact p
section groups
variable{g n:Nat}{js:Ne}{c:Bool}{dd gd:Option Nat}{op:AE}{x y z:AF}{gg:Option (Nat×Bool)}
variable{T:K1}{os':List PR}
theorem oU{k:Bool->Option β}(h:(if c=true then T else some false).bind k=some r)(_:GS g true [] os js n)(A:O.get g=.tv (.bool c))(_:os[n]?=some ⟨some d,.pick x y z,gg⟩)
  (p:∀v,bE g true c->c=true->T=some v->WO S (Gj js d (.bool v) O) (os.take (n+1)) O)(u:∀v,Wb g true c->c=false->some false=some v->WO S (Gj js d (.bool v) O) (os.take (n+1)) O)
  (w:∀v,k v=some r->U9 js O fun e=>WO S K (os.drop (n+1)) ((d,.tv (.bool v))::e))(ho:os=⟨dd,op,some (g,true)⟩::os'):WO S K (⟨dd,op,some (g,true)⟩::os') O:=by
 obtain ⟨v,hv,h⟩:=bind_some h;rw[<-ho];refine Zz (n:=n+1) (v:=.bool v) ?_ (w v h);rcases Bool.eq_false_or_eq_true c with o|o
 .exact p v ⟨o⟩ o (UE o hv)
 .exact u v ⟨by rw[o];rfl⟩ o (UD o hv)
theorem oT{k:Bool->Option β}(h:(if c=true then some true else T).bind k=some r)(_:GS g false [] os js n)(A:O.get g=.tv (.bool c))(_:os[n]?=some ⟨some d,.pick x y z,gg⟩)
  (p:∀v,bE g false c->c=false->T=some v->WO S (Gj js d (.bool v) O) (os.take (n+1)) O)(u:∀v,Wb g false c->c=true->some true=some v->WO S (Gj js d (.bool v) O) (os.take (n+1)) O)
  (w:∀v,k v=some r->U9 js O fun e=>WO S K (os.drop (n+1)) ((d,.tv (.bool v))::e))(ho:os=⟨dd,op,some (g,false)⟩::os'):WO S K (⟨dd,op,some (g,false)⟩::os') O:=by
 obtain ⟨v,hv,h⟩:=bind_some h;rw[<-ho];refine Zz (n:=n+1) (v:=.bool v) ?_ (w v h);rcases Bool.eq_false_or_eq_true c with o|o
 .exact u v ⟨by rw[o];rfl⟩ o (UE o hv)
 .exact p v ⟨o⟩ o (UD o hv)
theorem oS{e:Bool}(ho:os=⟨dd,op,some (g,true)⟩::os')(_:GS g true [] os js n)(u:O.get g=.tv (.bool c))(_:os[n]?=some ⟨some d,.pick x y z,gg⟩)
  (h:bE g true c->c=true->WO S (Gj js d (.bool e) O) (os.take (n+1)) O)(o:Wb g true c->c=false->WO S (Gj js d (.bool false) O) (os.take (n+1)) O)
  (p:U9 js O fun z=>WO S K (os.drop (n+1)) ((d,.tv (.bool (c&&e)))::z)):WO S K (⟨dd,op,some (g,true)⟩::os') O:=by
 rw [<-ho];refine Zz (n:=n+1) (v:=.bool (c&&e)) ?_ p;cases c
 .exact o ⟨rfl⟩ rfl
 .exact h ⟨rfl⟩ rfl
theorem oR{e:Bool}(ho:os=⟨dd,op,some (g,false)⟩::os')(_:GS g false [] os js n)(u:O.get g=.tv (.bool c))(_:os[n]?=some ⟨some d,.pick x y z,gg⟩)
  (h:bE g false c->c=false->WO S (Gj js d (.bool e) O) (os.take (n+1)) O)(o:Wb g false c->c=true->WO S (Gj js d (.bool true) O) (os.take (n+1)) O)
  (p:U9 js O fun z=>WO S K (os.drop (n+1)) ((d,.tv (.bool (c||e)))::z)):WO S K (⟨dd,op,some (g,false)⟩::os') O:=by
 rw [<-ho];refine Zz (n:=n+1) (v:=.bool (c||e)) ?_ p;cases c
 .exact h ⟨rfl⟩ rfl
 .exact o ⟨rfl⟩ rfl
end groups
variable{qi:Option Nat}{j:Int}
theorem ou{x:AF}{q n i:Nat}{es row:Fq}{e:α->TV}{l:List α}{a:α}{t:TV}(h:x.ev O=.lp q qi (j.toNat*n+i))(o:O.x5 q qi=some (n,es))(he:es=l.map e)(p:∀a,(e a).cells.length=n)(u:idx l j=some a)(hi:Nat.blt i n=true)(w:(e a).cells=row)(A:row[i]?=some t)
  (B:WO S K os ((d,.tv t)::O)):WO S K (⟨some d,.xld x,none⟩::os) O:=iH h o he p u rfl hi w A B
theorem lQ{x:AF}{q n:Nat}{es row:Fq}{e:α->TV}{l:List α}{a:α}{t:TV}(h:x.ev O=.lp q qi (j.toNat*n))(o:O.x5 q qi=some (n,es))(he:es=l.map e)(p:∀a,(e a).cells.length=n)(u:idx l j=some a)(hi:Nat.blt 0 n=true)(w:(e a).cells=row)(A:row[0]?=some t)
  (B:WO S K os ((d,.tv t)::O)):WO S K (⟨some d,.xld x,none⟩::os) O:=iH (i:=0) h o he p u rfl hi w A B
theorem lU{γ:Type}{s:Nat}{v:AF}{q n i:Nat}{env':AB}{es:Fq}{e:α->TV}{g:γ->TV}{l:List α}{a:α}{b:γ}{f:α->γ->α}(_:HX s f)(h:(AF.s s).ev O=.lp q qi (j.toNat*n+i))(p:O.x5 q qi=some (n,es))(hv:v.ev O=.tv (g b))(he:es=l.map e)(u:∀a,(e a).cells.length=n)(w:idx l j=some a)(hi:Nat.blt i n=true)(A:(g b).cells=[g b])
  (B:(e (f a b)).cells=(e a).cells.set i (g b))(o:O.Aaj q qi n ((BI l j (f a b)).map e)=env')(C:WO S K os env'):WO S K (⟨none,.xst (.s s) v 1,none⟩::os) O:=iI h p hv he u w rfl hi A B rfl o C
theorem lR{x v:AF}{q n:Nat}{env':AB}{es:Fq}{e:α->TV}{l:List α}{a b:α}(h:x.ev O=.lp q qi (j.toNat*n))(p:O.x5 q qi=some (n,es))(hv:v.ev O=.tv (e b))(he:es=l.map e)(u:∀a,(e a).cells.length=n)(w:idx l j=some a)(hi:Nat.blt 0 n=true)(A:(e b).cells=[e b])
  (B:(e b).cells=(e a).cells.set 0 (e b))(o:O.Aaj q qi n ((BI l j b).map e)=env')(C:WO S K os env'):WO S K (⟨none,.xst x v 1,none⟩::os) O:=iI (i:=0) h p hv he u w rfl hi A B rfl o C
end
end Go.Sf
namespace Go.Sf
section
variable{S:FuncId->Fq->Am->Prop}{K:AB->Prop}{os:List PR}{O:AB}{d:Nat}
theorem rR{x:AF}{s o:Nat}{es:Fq}(h:x.ev O=.bp s o)(p:O.nat s o=some es)(k:WO S K os ((d,.nh s o .hd)::O)):WO S K (⟨some d,.lan x,none⟩::os) O:=by
 replace k:=k.out;refine⟨?_⟩;simp only[wpOps,PR.wp,AE.wp,h,p,AX];exact k
variable{j:Int}
theorem rk{α:Type}{x:AF}{s o:Nat}{es:Fq}{e:α->TV}{l:List α}{a:α}(h:x.ev O=.nh s o (.el j.toNat))(u:O.nat s o=some es)(he:es=l.map e)(w:idx l j=some a)(k:WO S K os ((d,.nh s o (.rw j.toNat))::O)):WO S K (⟨some d,.nld x,none⟩::os) O:=by
 replace k:=k.out;refine⟨?_⟩;subst he;obtain⟨B,C,A⟩:=F9 w;have p:j.toNat<l.length:=(List.getElem?_eq_some_iff.1 A).1;simp only[wpOps,PR.wp,AE.wp,h,u,AX];exact⟨by simpa using p,k⟩
variable{fs:Fq}
theorem nV{q n:Nat}(h:O.get q=.xo n fs)(o:O.hV d=true)(hd:d≠q)(k:WO S K os ((d,.x1 n fs)::(q,.undef)::O)):WO S K (⟨some d,.Abv q,none⟩::os) O:=by
 replace k:=k.out;refine⟨?_⟩;simp only[wpOps,PR.wp,AE.wp,h];exact⟨⟨o,hd⟩,k⟩
theorem nT{x:AF}{q s h:Nat}{cs cs':List AO}{es:Fq}(p:x.place O=some (s,h))(u:O.get q=.xn es)(w:O.get s=.bx cs)(A:O.noX s (some h)=true)(B:Nat.blt h cs.length=true)(o:cs.set h ⟨true,.xn es⟩=cs')(k:WO S K os ((s,.bx cs')::(q,.undef)::O)):WO S K (⟨none,.cpt x q,none⟩::os) O:=by
 replace k:=k.out;refine⟨?_⟩;subst o;simp only[wpOps,PR.wp,AE.wp,p,u,w];exact⟨A,Nat.le_of_ble_eq_true B,k⟩
theorem nQ{q:Nat}{cs:List AO}(h:O.get q=.oag cs)(o:O.hV d=true)(hd:d≠q)(k:WO S K os ((d,.bx cs)::(q,.undef)::O)):WO S K (⟨some d,.AbD q,none⟩::os) O:=by
 replace k:=k.out;refine⟨?_⟩;simp only[wpOps,PR.wp,AE.wp,h];exact⟨⟨o,hd⟩,k⟩
theorem rS{s n:Nat}{cs cs':List AO}(h:O.get s=.bx cs)(o:Nat.beq cs.length n=true)(hd:d≠s)(p:(cs.map fun _=>(⟨false,.undef⟩:AO))=cs')(k:WO S K os ((d,.oag cs)::(s,.bx cs')::O)):WO S K (⟨some d,.ldg s n,none⟩::os) O:=by
 replace k:=k.out;refine⟨?_⟩;subst p;simp only[wpOps,PR.wp,AE.wp,h];exact⟨Nat.eq_of_beq_eq_true o,hd,k⟩
theorem ru{x v:AF}{s h n:Nat}{p:List (Option AO)}{t:TV}{cs ds cs':List AO}(u:x.place O=some (s,h))(hv:v.val O=some t)(w:O.get s=.bx cs)(A:DF p t.cells=some ds)(B:Nat.beq t.cells.length n=true)(o:Nat.ble (h+n) cs.length=true)(C:O.noX s none=true)(D:cs.take h++ds++cs.drop (h+n)=cs')
  (k:WO S K os ((s,.bx cs')::O)):WO S K (⟨none,.stq n p x v,none⟩::os) O:=by
 replace k:=k.out;refine⟨?_⟩;subst D;simp only[wpOps,PR.wp,AE.wp,u,hv,w,A,AX];exact⟨Nat.eq_of_beq_eq_true B,Nat.le_of_ble_eq_true o,C,k⟩
variable{j2:Int}
theorem rm{α:Type}{x v:AF}{s o:Nat}{es:Fq}{env':AB}{e:List α->TV}{e2:α->TV}{l:List (List α)}{m:List α}{A b:α}{t:TV}(h:x.ev O=.nh s o (.rp j.toNat j2.toNat))(B:O.nat s o=some es)(hv:v.ev O=.tv t)(he:es=l.map e)(w:∀m,e m=.list 1 (m.map e2))(C:idx l j=some m)(D:idx m j2=some A)(E:t=e2 b)(F:t.cells=[t])(G:t.flat=true)
  (p:O.AbV s o ((BI l j (BI m j2 b)).map e)=env')(k:WO S K os env'):WO S K (⟨none,.nst x v,none⟩::os) O:=by
 replace k:=k.out;refine⟨?_⟩;subst he p E;obtain⟨J,L,H⟩:=F9 C;obtain⟨m0,m1,I⟩:=F9 D;have u:j2.toNat<m.length:=(List.getElem?_eq_some_iff.1 I).1;simp only[wpOps,PR.wp,AE.wp,h,B,hv,AX];refine⟨m.map e2,by rw[List.getElem?_map,H];simp[w],by simpa using u,F,G,?_⟩;have:(l.map e).set j.toNat (.list 1 ((m.map e2).set j2.toNat (e2 b)))=(BI l j (BI m j2 b)).map e:=by
  simp only[BI,List.map_set,w]
 rw [this];exact k
end
section
variable{P:Program}{K:AB->Prop}{os:List PR}{O:AB}{d:Nat}{α β γ ρ:Type}{f:FuncId}{args:List AF}{ts:Fq}{R:α->Am}{x:Option α}{k:α->Option ρ}{r:ρ}
variable{j:Int}
theorem ob{x i:AF}{s o:Nat}{es:Fq}{e:α->TV}{l:List α}{ik:IntKind}{S:FuncId->Fq->Am->Prop}(h:(idx l j).bind k=some r)(u:x.ev O=.nh s o .hd)(w:O.nat s o=some es)(hi:i.val O=some (.int ik j))(he:es=l.map e)
  (A:∀a,idx l j=some a->k a=some r->WO S K os ((d,.nh s o (.el j.toNat))::O)):WO S K (⟨some d,.nia x i,none⟩::os) O:=by
 obtain ⟨a,p,h⟩:=bind_some h;have B:=(A a p h).out;refine⟨?_⟩;subst he;obtain⟨D,F,E⟩:=F9 p;have C:j.toNat<l.length:=(List.getElem?_eq_some_iff.1 E).1;simp only[wpOps,PR.wp,AE.wp,u,w,hi,AX];exact⟨D,by simp only[c8];omega,B⟩
variable{e2:α->TV}{j2:Int}
theorem oc{x i:AF}{s o:Nat}{es:Fq}{e:List α->TV}{l:List (List α)}{m:List α}{ik:IntKind}{S:FuncId->Fq->Am->Prop}(h:(idx m j2).bind k=some r)(u:x.ev O=.nh s o (.rw j.toNat))(w:O.nat s o=some es)(hi:i.val O=some (.int ik j2))(he:es=l.map e)(A:∀m,e m=.list 1 (m.map e2))(B:idx l j=some m)
  (C:∀a,idx m j2=some a->k a=some r->WO S K os ((d,.nh s o (.rp j.toNat j2.toNat))::O)):WO S K (⟨some d,.nia x i,none⟩::os) O:=by
 obtain ⟨b,p,h⟩:=bind_some h;have D:=(C b p h).out;refine⟨?_⟩;subst he;obtain⟨H,I,F⟩:=F9 B;obtain⟨m0,m1,G⟩:=F9 p;have E:j2.toNat<m.length:=(List.getElem?_eq_some_iff.1 G).1;simp only[wpOps,PR.wp,AE.wp,u,w,hi,AX];exact⟨m0,m.map e2,by rw[List.getElem?_map,F];simp[A],by simp only[c8];omega,D⟩
theorem kj{mm q s o:Nat}{es fs:Fq}{cs cs':List AO}{n:Nat}{e:β->TV}{l:List β}{m:β}{k:List β->Option ρ}{S:FuncId->Fq->Am->Prop}(h:(Ag l [m]).bind k=some r)(w:O.get mm=.nh s o .hd)(A:O.get q=.x1 n fs)(B:O.get s=.bx cs)(C:O.nat s o=some es)(he:es=l.map e)(hf:TV.list n fs=e m)(u:O.hV d=true)(hd:d≠mm/\d≠q/\mm≠q)(D:cs.set o ⟨false,.undef⟩=cs')
  (E:∀a,Ag l [m]=some a->k a=some r->WO S K os ((d,.xn (a.map e))::(s,.bx cs')::(mm,.undef)::(q,.undef)::O)):WO S K (⟨some d,.AaZ mm q,none⟩::os) O:=by
 obtain ⟨a,p,h⟩:=bind_some h;have G:=(E a p h).out;refine⟨?_⟩;subst he D;unfold Ag at p;split at p
 .rename_i F;cases p;simp only[wpOps,PR.wp,AE.wp,w,A,B,C,AX];refine⟨by simpa using F,⟨u,hd⟩,?_⟩;rw[hf];simpa[AB.put]using G
 .cases p
theorem di{u:α->List β}{v:α->List γ}{w A:Nat}{p:β->TV}{e2:γ->TV}(h:x.bind k=some r)(c:Ct P x f ts R)(E:vals O args=some ts)(F:∀a,R a=.oag [⟨true,.list w ((u a).map p)⟩,⟨true,.list A ((v a).map e2)⟩])(G:∀a,(p a).flat=true)(H:∀a,(e2 a).flat=true)
  (I:∀a,x=some a->k a=some r->WO (AQ P) K os ((d,.oag [⟨true,.xl w ((u a).map p)⟩,⟨true,.xl A ((v a).map e2)⟩])::O)):WO (AQ P) K (⟨some d,.AaN f args,none⟩::os) O:=by
 obtain ⟨a,D,h⟩:=bind_some h;have C:=c.snd a D;rw[F]at C;have J:=(I a D h).out;have o:∀{τ:Type}(e:τ->TV)(l:List τ),(∀a,(e a).flat=true)->TV.Aah (l.map e)=true:=by
  intro τ e l he
  induction l with
  |nil=>rfl|cons a l L=>simp[TV.Aah,he,L]
 refine ⟨?_⟩;simp only[wpOps,PR.wp,AE.wp,E,AX];refine⟨_,C,fun c B=>?_,fun _=>J⟩;simp only[List.mem_cons,List.not_mem_nil,or_false]at B;rcases B with rfl|rfl
 .exact⟨_,_,rfl,o _ _ G⟩
 .exact⟨_,_,rfl,o _ _ H⟩
inductive NL:List AO->List AO->Prop
 |nil {xs:List AO}:xs=[]->NL xs []
 |cons {xs ys zs:List AO} {o:Bool} {t:TV}:xs=⟨o,t⟩::ys->NL ys zs->NL xs (⟨o,t⟩::zs)
theorem NL.eq{xs o:List AO}(h:NL xs o):xs=o:=by
 induction h with
 |nil h=>exact h|cons h _ p=>rw[h,p]
theorem oj{S:FuncId->Fq->Am->Prop}{K:AB->Prop}{os:List PR}{O:AB}{n s h:Nat}{x v:AF}{cs cs':List AO}{t:TV}(o:x.place O=some (s,h))(p:O.get s=.bx cs)(hv:v.ev O=.tv t)(u:t.cells.length=n)(w:Nat.ble (h+n) cs.length=true)(A:NL (cs.take h++t.cells.map (⟨false,·⟩)++cs.drop (h+n)) cs')
  (k:WO S K os ((s,.bx cs')::O)):WO S K (⟨none,.st n x v,none⟩::os) O:=nj o p hv u w A.eq k
theorem lP{S:FuncId->Fq->Am->Prop}{K:AB->Prop}{os:List PR}{O:AB}{s h q:Nat}{x:AF}{cs cs':List AO}{t:TV}(o:x.place O=some (s,h))(p:O.get s=.bx cs)(hv:O.get q=.ow t)(u:q≠s)(w:Nat.blt h cs.length=true)(A:NL (cs.set h ⟨true,t⟩) cs')
  (k:WO S K os ((s,.bx cs')::(q,.tv t)::O)):WO S K (⟨none,.st 1 x (.s q),none⟩::os) O:=iG o p hv u w A.eq k
theorem VO:∀(ts:List (Nat×Nat×TV))(done rest:Fq),TX done.length ts=true->(HQ ts).length<=rest.length->Ea (done++rest) ts=some (done++(HQ ts++rest.drop (HQ ts).length))
 |[],done,rest,_,h=>by simp[Ea,HQ]|(i,n,t)::r,done,rest,p,h=>by
  simp only[TX,pc,Nat.beq_eq]at p;obtain⟨⟨rfl,o⟩,A⟩:=p;simp only[HQ,bk]at h;have u:n<=rest.length:=by omega
  simp only[Ea];rw[a6 ⟨o,by rw[bk];omega⟩];have w:done++rest=done++(rest.take n++rest.drop n):=by rw[List.take_append_drop]
  rw [w,SA t.cells done (rest.take n) (rest.drop n) (by rw[cE];omega),<-ca];rw[VO r (done++t.cells) (rest.drop n) (by rw[bk,o];exact A) (by rw[List.length_drop];omega)];simp[HQ,List.drop_drop,o]
inductive NT:Fq->Fq->Prop
 |nil {xs:Fq}:xs=[]->NT xs []
 |cons {xs ys zs:Fq} {t:TV}:xs=t::ys->NT ys zs->NT xs (t::zs)
theorem NT.eq{xs o:Fq}(h:NT xs o):xs=o:=by
 induction h with
 |nil h=>exact h|cons h _ p=>rw[h,p]
variable{zero:Fq}
theorem kw{S:FuncId->Fq->Am->Prop}{K:AB->Prop}{os:List PR}{O:AB}{d:Nat}{parts:List (Nat×Nat×AF)}{ts:List (Nat×Nat×TV)}{cs:Fq}(h:Fu O parts=some ts)(o:TX 0 ts=true)(p:Nat.ble (HQ ts).length zero.length=true)(u:NT (HQ ts++zero.drop (HQ ts).length) cs)(k:WO S K os ((d,.tv (.agg cs))::O)):WO S K (⟨some d,.bld zero parts,none⟩::os) O:=
 WW h (by have:=VO ts [] zero o (Nat.le_of_ble_eq_true p);simpa using this) (by rw[u.eq]) k
structure HY{α A B C:Type}(n:Nat)(f:A->B->C->α)(g1:A->TV)(g2:B->TV)(g3:C->TV):Prop where
variable{qi:Option Nat}
theorem lV{S:FuncId->Fq->Am->Prop}{K:AB->Prop}{os:List PR}{O:AB}{α A B C:Type}{f:A->B->C->α}{o:Nat}{v:AF}{q n:Nat}{env':AB}{es cs cs':Fq}{e:α->TV}{l:List α}{a:α}{E:A}{F:B}{G:C}{p:A->TV}{u:B->TV}{w:C->TV}(_:HY o f p u w)(h:(AF.s o).ev O=.lp q qi (j.toNat*n))(H:O.x5 q qi=some (n,es))(he:es=l.map e)(I:∀a,(e a).cells.length=n)(hv:v.ev O=.tv (.agg cs))(J:NT cs cs')(L:cs'=[p E,u F,w G])(hf:∀a b c,TV.agg [p a,u b,w c]=e (f a b c))(N:idx l j=some a)(U:Nat.blt 0 n=true)
  (D:O.Aaj q qi n ((BI l j (f E F G)).map e)=env')(k:WO S K os env'):WO S K (⟨none,.xst (.s o) v n,none⟩::os) O:=iJ h H (by rw[hv,J.eq,L,hf]) he I N U D k
theorem ov{S:FuncId->Fq->Am->Prop}{α:Type}{x v:AF}{q n:Nat}{env':AB}{es:Fq}{e:α->TV}{l:List α}{a b:α}(h:x.ev O=.lp q qi (j.toNat*n))(p:O.x5 q qi=some (n,es))(he:es=l.map e)(u:∀a,(e a).cells.length=n)(hv:v.ev O=.tv (e b))(w:idx l j=some a)(A:Nat.blt 0 n=true)
  (o:O.Aaj q qi n ((BI l j b).map e)=env')(k:WO S K os env'):WO S K (⟨none,.xst x v n,none⟩::os) O:=iJ h p hv he u w A o k
theorem iQ{i q:Nat}{cs:List AO}{o:Fq}{p:α->Am}{e:α->EV}(h:x.bind k=some r)(c:Ct P x f o R)(hi:args[i]?=some (.s q))(B:O.get q=.oag cs)(hd:d≠q)(C:Gw O i args=some ts)(u:ts.set i (.agg (cs.map fun _=>.undef))=o)(D:∀a,R a=.ag cs i (p a))(he:∀a,(p a).aev=e a)
  (E:∀a,x=some a->k a=some r->WO (AQ P) K os ((d,e a)::(q,.undef)::O)):WO (AQ P) K (⟨some d,.AaT f args i,none⟩::os) O:=by
 obtain ⟨a,A,h⟩:=bind_some h;have w:=c.snd a A;rw[D]at w;have F:=(E a A h).out;refine⟨?_⟩;subst u;simp only[wpOps,PR.wp,AE.wp,hi,B,C,AX];refine⟨hd,p a,w,fun _=>?_⟩;rw[he];exact F
end
section
variable{S:FuncId->Fq->Am->Prop}{K:AB->Prop}{os:List PR}{O:AB}{d:Nat}
theorem ra(k:∀b,WO S K os ((d,.mx (.mp b []))::O)):WO S K (⟨some d,.mkm,none⟩::os) O:=
 ⟨fun b=>(k b).out⟩
variable{kvs:BE}
theorem rh{s b:Nat}(h:O.get s=.mx (.mp b kvs))(k:WO S K os ((d,.tv (.AaK b))::O)):WO S K (⟨some d,.mvm s,none⟩::os) O:=by
 replace k:=k.out;refine⟨?_⟩;simp only[wpOps,PR.wp,AE.wp,h];exact k
variable{ky:Int×Int}
theorem rc{s b:Nat}{m x:AF}{t:TV}(h:O.get s=.mx (.mp b kvs))(o:m.val O=some (.AaK b))(p:x.val O=some t)(u:t.AbI?=some ky)(k:WO S K os ((d,.tp [.int .i64 ((kvs.look ky).getD 0),.bool (kvs.look ky).isSome])::O)):WO S K (⟨some d,.mlk s m x,none⟩::os) O:=by
 replace k:=k.out;refine⟨?_⟩;simp only[wpOps,PR.wp,AE.wp,h,o,p,u,AX];exact⟨trivial,k⟩
theorem rg{s b:Nat}{m x v:AF}{t:TV}{n:Int}(h:O.get s=.mx (.mp b kvs))(o:m.val O=some (.AaK b))(p:x.val O=some t)(u:t.AbI?=some ky)(hv:v.val O=some (.int .i64 n))(k:WO S K os ((s,.mx (.mp b (kvs.set ky n)))::O)):WO S K (⟨none,.mup s m x v,none⟩::os) O:=by
 replace k:=k.out;refine⟨?_⟩;simp only[wpOps,PR.wp,AE.wp,h,o,p,u,hv,AX];exact⟨trivial,k⟩
variable{todo:BE}
theorem rY{s:Nat}{p:(Int×Int)×Int}(h:O.get s=.mx (.mi (some p) todo))(k:WO S K os ((d,.tp [Ok p.1,.int .i64 p.2])::O)):WO S K (⟨some d,.men s,none⟩::os) O:=by
 replace k:=k.out;refine⟨?_⟩;simp only[wpOps,PR.wp,AE.wp,h];exact k
theorem cy{s b:Nat}{ts:Fq}(h:O.get s=.mx (.tm b kvs ts))(k:WO S K os ((d,.tp (.AaK b::ts))::O)):WO S K (⟨some d,.mvm s,none⟩::os) O:=by
 replace k:=k.out;refine⟨?_⟩;simp only[wpOps,PR.wp,AE.wp,h];exact k
theorem cx{s:Nat}{ts:Fq}(h:O.get s=.tp ts)(k:WO S K os ((d,.tp ts)::O)):WO S K (⟨some d,.mvm s,none⟩::os) O:=by
 replace k:=k.out;refine⟨?_⟩;simp only[wpOps,PR.wp,AE.wp,h];exact k
theorem iE{s b:Nat}{ts:Fq}{m:AF}(h:O.get s=.mx (.tm b kvs ts))(o:m.val O=some (.AaK b))(hd:d≠s)(k:WO S K os ((d,.mx (.mi none kvs))::(s,.undef)::O)):WO S K (⟨some d,.z5 s m,none⟩::os) O:=by
 replace k:=k.out;refine⟨?_⟩;simp only[wpOps,PR.wp,AE.wp,h,o];exact⟨⟨hd,trivial⟩,k⟩
theorem rd{s:Nat}{last:Option ((Int×Int)×Int)}(h:O.get s=.mx (.mi last todo))(hd:d≠s)(u:todo=[]->WO S K os ((d,.tp [.bool false])::O))(w:∀p o,todo.Perm (p::o)->WO S K os ((d,.tp [.bool true,Ok p.1,.int .i64 p.2])::(s,.mx (.mi (some p) o))::O)):WO S K (⟨some d,.mnx s,none⟩::os) O:=by
 refine ⟨?_⟩;simp only[wpOps,PR.wp,AE.wp,h];exact⟨hd,fun e=>(u e).out,fun p t A=>(w p t A).out⟩
theorem fN{f:FuncId}{args:List AF}{ts us:Fq}(hv:vals O args=some ts)(h:S f ts (.mpr kvs us))(k:∀b,WO S K os ((d,.mx (.tm b kvs us))::O)):WO S K (⟨some d,.AaQ f args,none⟩::os) O:=by
 refine ⟨?_⟩;simp only[wpOps,PR.wp,AE.wp,hv,AX];exact .inr ⟨kvs,us,h,fun _ b=>(k b).out⟩
theorem fM{f:FuncId}{args:List AF}{ts us:Fq}(hv:vals O args=some ts)(h:S f ts (.tp us))(k:WO S K os ((d,.tp us)::O)):WO S K (⟨some d,.AaQ f args,none⟩::os) O:=by
 refine ⟨?_⟩;simp only[wpOps,PR.wp,AE.wp,hv,AX];exact .inl ⟨us,h,fun _=>k.out⟩
theorem Ja{ss:Ne}{s:Nat}{r:AB}{m:MX}(h:O.get s=.mx m)(k:Kp O ss r):Kp O (s::ss) ((s,.mx m)::r):=L3 h k
theorem qV{ss:Ne}{s:Nat}{r:AB}{q:List (Nat×EV)}{m:MX}(h:look q s=none)(o:O.get s=.mx m)(k:Nm O q ss r):Nm O q (s::ss) ((s,.mx m)::r):=OE h o k
end
def L5(r:BE×Int):Am:=if r.2=0 then .mpr r.1 [.int .i64 r.2]else .tp [.undef,.int .i64 r.2]
structure sE(o:Nat):Prop where
variable{kvs:BE}
theorem jN{h:List RV}{O:AB}{e:Int}(he:(!decide (e=0))=true)(o:h.length≠1)(p:EE O h=some [.undef,.int .i64 e]):Bj h (L5 (kvs,e)) O:=by
 simp only[Bool.not_eq_true',decide_eq_false_iff_not]at he;simp only[L5,ae he];exact⟨o,p⟩
theorem jO{s o b:Nat}{h:List RV}{O:AB}(_:sE o)(p:O.get s=.tv (.AaK b))(u:O.get o=.mx (.mp b kvs))(w:h≠[])(A:EE O h=some [.int .i64 0]):Bj (.tmp s::h) (L5 (kvs,0)) O:=by
 simp only[L5,if_true,Bj];exact⟨w,⟨b,o,p,u⟩,A⟩
section
variable{P:Program}{α β:Type}{K:AB->Prop}{os:List PR}{O:AB}{d:Nat}{x:Option α}{k:α->Option β}{r:β}{f:FuncId}{args:List AF}{ts:Fq}{R:α->Am}
theorem dh{i s:Nat}{cs:List AO}{q:α->Bool}{u v:α->List AO}{us:α->Fq}{e:α->EV}(h:x.bind k=some r)(c:Ct P x f ts R)(A:(args[i]?).bind (·.place O)=some (s,0))(B:O.get s=.bx cs)(C:O.noX s none=true)(hd:d≠s)(D:Gw O i args=some ts)(E:∀a,R a=.bo cs (if q a=true then u a else v a) i (us a))(he:∀a,EV.ofs (us a)=e a)
  (F:∀a,x=some a->q a=true->k a=some r->WO (AQ P) K os ((d,e a)::(s,.bx (u a))::O))(G:∀a,x=some a->q a=false->k a=some r->WO (AQ P) K os ((d,e a)::(s,.bx (v a))::O)):WO (AQ P) K (⟨some d,.AaF f args i,none⟩::os) O:=by
 refine Yi h c A B C hd D E he (fun a o p=>?_);cases w:q a with
 |true=>rw[a6 rfl];exact F a o w p|false=>rw[ae (by simp)];exact G a o w p
end
section
variable{S:FuncId->Fq->Am->Prop}{a b:PC}{O:AB}
variable{Q:Q}
theorem k8{c:AF}{β:Type}{q:Bool}{u v:Option β}{r:β}(p:c.val O=some (.bool q))(h:(if q=true then u else v)=some r)(o:q=true)(k:u=some r->WP S a Q O):WP S (.cond c a b) Q O:=
 Ph p o (k (UE o h))
theorem k7{c:AF}{β:Type}{q:Bool}{u v:Option β}{r:β}(p:c.val O=some (.bool q))(h:(if q=true then u else v)=some r)(o:q=false)(k:v=some r->WP S b Q O):WP S (.cond c a b) Q O:=
 Pg p o (k (UD o h))
end
end Go.Sf
set_option maxRecDepth 100000
namespace Go.Sf
theorem au{P:Prop}(p:P:=by
 repeat' (first
  |(show WO _ _ _ _;first
    |(apply N1;exact rfl)
    |(apply tK;exact rfl;exact rfl)
    |(apply Qk;exact rfl;exact rfl)
    |(apply rz;exact rfl)
    |(apply tL;exact rfl)
    |apply Li
    |(apply iA;exact rfl)
    |(apply hU;exact rfl)
    |(apply cw;exact rfl;exact rfl)
    |(apply ct;exact rfl)
    |(apply p9;exact rfl;assumption)
    |(apply lr;exact rfl;assumption)
    |(apply si;exact rfl)
    |(apply kK;exact rfl;assumption;exact rfl)
    |(apply kJ;exact rfl;assumption;exact rfl)
    |(apply rL;exact rfl;exact rfl)
    |(apply rW;exact rfl;exact rfl)
    |(apply rD;exact rfl;exact rfl)
    |(apply aW;exact rfl;exact rfl)
    |(apply rV;exact rfl;exact rfl)
    |(apply ry;exact rfl;exact rfl)
    |(apply rO;exact rfl;exact rfl)
    |(apply rN;exact rfl;exact rfl)
    |(apply cu;exact rfl;exact rfl)
    |(apply rU;exact rfl;(first|exact rfl|exact Ml.eq))
    |(apply oV;exact h;exact rfl;exact rfl;(first|exact rfl|exact Ml.eq);intro x o h)
    |(apply kz;exact h;infer_instance;exact rfl;exact fun _=>rfl;intro x o h)|(apply iY;exact h;infer_instance;exact rfl;exact fun _=>rfl;intro x o h)|(apply iZ;assumption;exact h;infer_instance;exact rfl;exact fun _=>rfl;intro x o h)|(apply iX;exact h;infer_instance;exact rfl;exact fun _=>rfl;intro x o h)|(apply ib;exact h;infer_instance;exact rfl;exact fun _=>rfl;intro x o h)|(apply iU;exact h;infer_instance;exact rfl;exact fun _=>rfl;intro x o h)
    |(apply oU h (ho:=rfl);(focus ((repeat(first|apply GS.step|(apply GS.Ab5;exact rfl)));exact GS.done));exact rfl;exact rfl;intro v B C h;rotate_left;intro v B C h;rotate_left;intro v h;rotate_left)
    |(apply oT h (ho:=rfl);(focus ((repeat(first|apply GS.step|(apply GS.Ab5;exact rfl)));exact GS.done));exact rfl;exact rfl;intro v B C h;rotate_left;intro v B C h;rotate_left;intro v h;rotate_left)
    |(apply oS rfl;(focus ((repeat(first|apply GS.step|(apply GS.Ab5;exact rfl)));exact GS.done));exact rfl;exact rfl;intro B C;rotate_left;intro B C;rotate_left 3)
    |(apply oR rfl;(focus ((repeat(first|apply GS.step|(apply GS.Ab5;exact rfl)));exact GS.done));exact rfl;exact rfl;intro B C;rotate_left;intro B C;rotate_left 3)
    |apply lD
    |apply nY
    |(apply km;exact h;exact rfl;exact rfl;(first|exact rfl|exact Ml.eq);(first|exact rfl|exact Ml.eq);infer_instance;intro x o h)
    |(apply oK;exact h;exact rfl;exact rfl;(first|exact rfl|exact Ml.eq);(first|exact rfl|exact Ml.eq);intro x o h)
    |(apply lJ;exact rfl;(focus ((repeat(apply Lm.cons;exact rfl));exact Lm.nil));exact fun _=>rfl;infer_instance)|(apply lH;exact rfl;(focus ((repeat(apply Lm.cons;exact rfl));exact Lm.nil));exact fun _=>rfl)
    |(apply oZ;exact rfl;exact rfl)
    |(apply oY;(with_reducible exact h);infer_instance;exact rfl;exact rfl;exact rfl;intro x o h)
    |(apply gX;exact rfl;exact rfl;exact rfl)
    |(apply oX;exact rfl;exact rfl;exact rfl;exact rfl)
    |(apply iC;exact rfl;exact rfl;exact rfl)
    |(apply lG;exact rfl;exact rfl;exact rfl)
    |(apply WX;exact rfl;exact rfl;exact rfl)
    |(apply lO;exact rfl;exact rfl;exact rfl;exact rfl)
    |(apply iF;exact rfl;exact rfl;exact rfl;exact rfl;exact rfl)
    |(apply nk;exact rfl;exact rfl;decide;exact rfl;exact rfl)
    |(apply oj;exact rfl;exact rfl;exact rfl;exact rfl;exact rfl;(focus ((repeat(apply NL.cons;exact rfl));exact NL.nil rfl)))
    |(apply lP;exact rfl;exact rfl;exact rfl;decide;exact rfl;(focus ((repeat(apply NL.cons;exact rfl));exact NL.nil rfl)))
    |(apply nj;exact rfl;exact rfl;exact rfl;exact rfl;exact rfl;exact rfl)
    |(apply iG;exact rfl;exact rfl;exact rfl;decide;exact rfl;exact rfl)
    |(apply rT;exact rfl;exact rfl;exact rfl;exact rfl;exact rfl)
    |(apply kv;(with_reducible exact h);infer_instance;exact rfl;exact rfl;exact rfl;intro x o h)
    |(apply nN;exact rfl;exact rfl;exact rfl;exact rfl)
    |(apply kw;exact rfl;exact rfl;exact rfl;(focus ((repeat(apply NT.cons;exact rfl));exact NT.nil rfl)))
    |(apply WW;exact rfl;exact rfl;exact rfl)
    |(apply rG;exact rfl)
    |(apply ia;exact h;infer_instance;exact rfl;exact rfl;exact rfl;exact fun _=>rfl;intro x o h)|(apply dm;exact h;infer_instance;exact rfl;exact rfl;exact rfl;exact fun _=>rfl;intro x o h)|(apply dl;exact h;infer_instance;exact rfl;exact rfl;exact rfl;exact fun _=>rfl;intro x o h)
    |(apply oi;exact h;exact rfl;(first|exact rfl|exact Ml.eq);exact rfl;exact rfl;intro x o h)
    |(apply nf;exact rfl)
    |(apply lL;exact h;exact rfl;exact rfl;intro x o h)
    |(apply lM;exact h;exact rfl;exact rfl;exact rfl;intro x o h)
    |(apply rl;exact rfl)
    |(apply rf;exact rfl;exact rfl)
    |(apply rX;exact rfl;exact rfl)
    |(apply rZ;exact rfl;exact rfl)
    |(apply rj;exact rfl)
    |(apply rK;exact rfl)
    |(apply ri;exact rfl)
    |(apply rE;exact rfl)
    |(apply nR;exact rfl;exact rfl;exact rfl;exact rfl)
    |(apply nS;exact rfl;exact rfl;exact rfl)
    |(apply oQ;exact rfl;infer_instance)
    |(apply nU;exact rfl;exact rfl;exact rfl)
    |(apply kI;exact rfl;exact rfl;exact rfl)
    |(apply nc;exact rfl;exact rfl)
    |(apply ng;exact rfl;exact rfl)
    |(apply nM;exact rfl;exact rfl)
    |(apply nP;exact rfl;exact rfl)
    |(apply ke;exact rfl;exact rfl;infer_instance;exact rfl;exact rfl;exact rfl)
    |(apply kh;exact rfl;exact rfl;infer_instance;exact rfl;exact rfl;exact rfl)
    |refine kf rfl rfl rfl rfl rfl ?_
    |refine ki rfl rfl rfl rfl rfl ?_
    |(apply r6;exact rfl)
    |(apply nZ;exact rfl)
    |(apply r0;exact rfl;exact rfl;decide)
    |(apply rq;exact rfl;decide)
    |(apply nm;exact rfl;(first|exact rfl|exact Ml.eq))
    |(apply ot;exact h;exact rfl;exact rfl;(first|exact rfl|exact Ml.eq);exact rfl;intro x o h)
    |(apply r7;exact rfl;exact rfl)
    |(apply lQ;exact rfl;exact rfl;exact rfl;exact fun _=>rfl;assumption;exact rfl;exact rfl;exact rfl)|(apply ou;exact rfl;exact rfl;exact rfl;exact fun _=>rfl;assumption;exact rfl;exact rfl;exact rfl)|(apply lU;assumption;exact rfl;exact rfl;exact rfl;exact rfl;exact fun _=>rfl;assumption;exact rfl;exact rfl;exact rfl;exact rfl)|(apply lR;exact rfl;exact rfl;exact rfl;exact rfl;exact fun _=>rfl;assumption;exact rfl;exact rfl;exact rfl;exact rfl)|(apply lV;assumption;exact rfl;exact rfl;exact rfl;exact fun _=>rfl;exact rfl;(focus ((repeat(apply NT.cons;exact rfl));exact NT.nil rfl));exact rfl;exact fun _ _ _=>rfl;assumption;exact rfl;exact rfl)|(apply ov;exact rfl;exact rfl;exact rfl;exact fun _=>rfl;exact rfl;assumption;exact rfl;exact rfl)
    |(apply ko;exact h;exact rfl;exact rfl;(first|exact rfl|exact Ml.eq);(first|exact rfl|exact Ml.eq);exact rfl;decide;intro x o h)
    |(apply ku;exact h;exact rfl;exact rfl;exact rfl;exact rfl;exact rfl;decide;exact rfl;exact rfl;intro x o h)
    |(apply oM;exact h;exact rfl;exact rfl;exact rfl;exact rfl;decide;intro x o h)
    |(apply oa;exact h;exact rfl;exact rfl;exact rfl;intro x o h)
    |(apply ic;exact h;infer_instance;exact rfl;exact rfl;exact fun _=>rfl;intro x o h)|(apply dn;exact h;infer_instance;exact rfl;exact rfl;exact fun _=>rfl;exact fun _=>rfl;intro x o h)|(apply iV;exact h;infer_instance;exact rfl;exact fun _=>rfl;exact fun _=>rfl;intro x o h)|(apply dk;exact h;infer_instance;exact rfl;exact fun _=>rfl;exact fun _=>rfl;intro x o h)|(apply dj;exact h;infer_instance;exact rfl;exact fun _=>rfl;exact fun _=>rfl;intro x o h)|(apply iT;exact h;infer_instance;exact rfl;exact fun _=>rfl;intro x o h)|(apply dh;exact h;infer_instance;exact rfl;exact rfl;exact rfl;decide;exact rfl;exact fun _=>rfl;exact fun _=>rfl;intro x o C h;rotate_left;intro x o C h;rotate_left)|(apply Yi;exact h;infer_instance;exact rfl;exact rfl;exact rfl;decide;exact rfl;exact fun _=>rfl;exact fun _=>rfl;intro x o h)|(apply iW;exact h;infer_instance;exact rfl;exact rfl;exact fun _=>rfl;intro x o h)
    |(apply iR;exact h;infer_instance;exact rfl;exact rfl;decide;exact rfl;intro x o h)
    |(apply iS;exact h;infer_instance;exact rfl;exact fun _=>rfl;intro x o h)
    |(apply od;exact h;exact rfl;exact rfl;intro x o h)
    |(apply oe;exact h;exact rfl;exact rfl;intro x o h)
    |(apply oL;exact h;exact rfl;exact rfl;decide;intro x o h)
    |(apply lK;exact h;exact rfl;exact rfl;intro x o h)
    |(apply oW;exact h;exact rfl;(first|exact rfl|exact Ml.eq);intro u h)
    |(apply iB;exact rfl;exact rfl;intro z D;replace h:=io h z D)
    |(apply rQ;exact rfl;exact rfl)
    |(apply rI;exact rfl;exact rfl;exact rfl;exact rfl;exact rfl)
    |(apply rH;exact rfl;exact rfl;exact rfl;exact rfl;exact rfl;exact rfl)
    |(apply nO;decide;decide;exact rfl;exact rfl)
    |(apply nW;exact rfl)
    |(apply rx;exact rfl;exact rfl;decide;exact rfl;exact rfl;exact rfl;exact rfl)
    |(apply nJ;exact rfl;exact rfl;exact rfl)
    |(apply rR;exact rfl;exact rfl)
    |(apply ob;exact h;exact rfl;exact rfl;exact rfl;(first|exact rfl|exact Ml.eq);intro x o h)
    |(apply rk;exact rfl;exact rfl;(first|exact rfl|exact Ml.eq);assumption)
    |(apply oc;exact h;exact rfl;exact rfl;exact rfl;(first|exact rfl|exact Ml.eq);exact fun _=>rfl;assumption;intro x o h)
    |(apply rm;exact rfl;exact rfl;exact rfl;(first|exact rfl|exact Ml.eq);exact fun _=>rfl;assumption;assumption;exact rfl;exact rfl;exact rfl;exact rfl)
    |(apply nV;exact rfl;exact rfl;decide)
    |(apply kj;exact h;exact rfl;exact rfl;exact rfl;exact rfl;(first|exact rfl|exact Ml.eq);exact rfl;exact rfl;decide;exact rfl;intro x o h)
    |(apply nT;exact rfl;exact rfl;exact rfl;exact rfl;exact rfl;exact rfl)
    |(apply nQ;exact rfl;exact rfl;decide)
    |(apply rS;exact rfl;exact rfl;decide;exact rfl)
    |(apply ru;exact rfl;exact rfl;exact rfl;exact rfl;exact rfl;exact rfl;exact rfl;exact rfl)
    |(apply di;exact h;infer_instance;exact rfl;exact fun _=>rfl;exact fun _=>rfl;exact fun _=>rfl;intro x o h)|(apply iQ;exact h;infer_instance;exact rfl;exact rfl;decide;exact rfl;exact rfl;exact fun _=>rfl;exact fun _=>rfl;intro x o h)
    |(apply ra;intro b;have K:=K b)
    |(apply rh;exact rfl)
    |(apply cy;exact rfl)
    |(apply cx;exact rfl)
    |(apply rY;exact rfl)
    |(apply iE;exact rfl;exact rfl;decide)
    |(apply rc;exact rfl;exact rfl;exact rfl;exact rfl)
    |(apply rg;exact rfl;exact rfl;exact rfl;exact rfl;exact rfl))
  |(show WP _ _ _ _;first
    |with_reducible apply oN
    |apply JW
    |apply N4
    |(apply lC;exact rfl)
    |(apply oh;exact rfl;exact rfl)
    |apply Wd
    |apply Zj
    |apply bG
    |(apply Ph;exact rfl;with_reducible rfl)
    |(apply Pg;exact rfl;with_reducible rfl)
    |(apply lF;exact rfl;exact h;assumption;exact rfl;intro w C h;rotate_left;intro w C h;rotate_left;intro w h;rotate_left)
    |(apply k8;exact rfl;exact h;assumption;intro h)
    |(apply k7;exact rfl;exact h;assumption;intro h)
    |(apply k9;exact rfl;exact h;intro C h;rotate_left;intro C h;rotate_left)
    |(apply Ph;exact rfl;apply tU;assumption)
    |(apply Pg;exact rfl;apply sf;assumption)
    |(apply bH;assumption;exact h;exact A;(first|exact RW rfl (by first|exact rfl|exact Ml.eq)|exact RU rfl|exact O4 rfl rfl (by first|exact rfl|exact Ml.eq)|exact O3 rfl rfl|exact RY rfl|exact RX rfl (by first|exact rfl|exact Ml.eq)|exact Ra rfl rfl|exact RZ|exact RT (by decide));exact rfl;exact rfl;exact fun _ _=>rfl;intro i s r hi h A;rotate_left;intro i s hi;clear h;rotate_left;intro s h;rotate_left)
    |(apply bH;apply HB.a;assumption;exact h;exact A;(first|exact RW rfl (by first|exact rfl|exact Ml.eq)|exact RU rfl|exact O4 rfl rfl (by first|exact rfl|exact Ml.eq)|exact O3 rfl rfl|exact RY rfl|exact RX rfl (by first|exact rfl|exact Ml.eq)|exact Ra rfl rfl|exact RZ|exact RT (by decide));exact rfl;exact rfl;exact fun _ _=>rfl;intro i s r hi h A;rotate_left;intro i s hi;clear h;rotate_left;intro s h;rotate_left)
    |(apply bK;assumption;assumption;exact rfl;exact h;exact A;(first|exact RW rfl (by first|exact rfl|exact Ml.eq)|exact RU rfl|exact O4 rfl rfl (by first|exact rfl|exact Ml.eq)|exact O3 rfl rfl|exact RY rfl|exact RX rfl (by first|exact rfl|exact Ml.eq)|exact Ra rfl rfl|exact RZ|exact RT (by decide));exact rfl;exact rfl;exact fun _ _=>rfl;intro i s r hi h A;rotate_left;intro i s hi;clear h;rotate_left;intro s h;rotate_left)
    |(apply bK;apply HB.a;assumption;assumption;exact rfl;exact h;exact A;(first|exact RW rfl (by first|exact rfl|exact Ml.eq)|exact RU rfl|exact O4 rfl rfl (by first|exact rfl|exact Ml.eq)|exact O3 rfl rfl|exact RY rfl|exact RX rfl (by first|exact rfl|exact Ml.eq)|exact Ra rfl rfl|exact RZ|exact RT (by decide));exact rfl;exact rfl;exact fun _ _=>rfl;intro i s r hi h A;rotate_left;intro i s hi;clear h;rotate_left;intro s h;rotate_left)
    |(apply bJ;assumption;exact h;exact A;(first|exact RW rfl (by first|exact rfl|exact Ml.eq)|exact RU rfl|exact O4 rfl rfl (by first|exact rfl|exact Ml.eq)|exact O3 rfl rfl|exact RY rfl|exact RX rfl (by first|exact rfl|exact Ml.eq)|exact Ra rfl rfl|exact RZ|exact RT (by decide));exact rfl;exact rfl;exact fun _ _=>rfl;intro i s r hi h A;rotate_left;intro i s hi;clear h;rotate_left;intro s h;rotate_left)
    |(apply bJ;apply HB.a;assumption;exact h;exact A;(first|exact RW rfl (by first|exact rfl|exact Ml.eq)|exact RU rfl|exact O4 rfl rfl (by first|exact rfl|exact Ml.eq)|exact O3 rfl rfl|exact RY rfl|exact RX rfl (by first|exact rfl|exact Ml.eq)|exact Ra rfl rfl|exact RZ|exact RT (by decide));exact rfl;exact rfl;exact fun _ _=>rfl;intro i s r hi h A;rotate_left;intro i s hi;clear h;rotate_left;intro s h;rotate_left)
    |(apply bI;assumption;exact h;exact A;(first|exact RW rfl (by first|exact rfl|exact Ml.eq)|exact RU rfl|exact O4 rfl rfl (by first|exact rfl|exact Ml.eq)|exact O3 rfl rfl|exact RY rfl|exact RX rfl (by first|exact rfl|exact Ml.eq)|exact Ra rfl rfl|exact RZ|exact RT (by decide));exact rfl;exact rfl;exact fun _ _=>rfl;intro i s r hi h A;rotate_left;intro i s hi;clear h;rotate_left;intro s h;rotate_left)
    |(apply bI;apply HB.a;assumption;exact h;exact A;(first|exact RW rfl (by first|exact rfl|exact Ml.eq)|exact RU rfl|exact O4 rfl rfl (by first|exact rfl|exact Ml.eq)|exact O3 rfl rfl|exact RY rfl|exact RX rfl (by first|exact rfl|exact Ml.eq)|exact Ra rfl rfl|exact RZ|exact RT (by decide));exact rfl;exact rfl;exact fun _ _=>rfl;intro i s r hi h A;rotate_left;intro i s hi;clear h;rotate_left;intro s h;rotate_left)
    |(apply oo;assumption;assumption;exact rfl;exact h;exact rfl;exact rfl;intro s r h A;rotate_left;intro s h;rotate_left)
    |(apply om;assumption;exact h;exact rfl;exact rfl;intro s r h A;rotate_left;intro s h;rotate_left)
    |(apply ol;assumption;exact h;exact rfl;exact rfl;intro s r h A;rotate_left;intro s h;rotate_left)
    |apply Yh
    |cases h)
  |(show Kp _ _ _;first
    |exact HU
    |(apply Jc;exact rfl)
    |(apply qH;exact rfl)
    |(apply JZ;exact rfl)
    |(apply qJ;exact rfl)
    |(apply qF;exact rfl)
    |(apply Jb;exact rfl)
    |(apply Jd;exact rfl)
    |(apply qG;exact rfl)
    |(apply qI;exact rfl)
    |(apply mA;exact rfl)
    |(apply Ja;exact rfl))
  |(show Nm _ _ _ _;first
    |exact mE
    |(apply mC;exact rfl)
    |(apply qY;exact rfl;exact rfl)
    |(apply qW;exact rfl;exact rfl)
    |(apply qT;exact rfl;exact rfl)
    |(apply qa;exact rfl;exact rfl)
    |(apply qS;exact rfl;exact rfl)
    |(apply qX;exact rfl;exact rfl)
    |(apply qZ;exact rfl;exact rfl)
    |(apply qU;exact rfl;exact rfl)
    |(apply qV;exact rfl;exact rfl))
  |apply jB
  |(apply eO;intro j)
  |apply jA
  |exact bg rfl
  |(cases h;exact bg rfl)
  |apply Wt
  |(apply iu;decide)
  |intro A
  |(cases h;first|exact rfl|exact⟨rfl⟩|exact⟨rfl,rfl⟩|exact⟨_,rfl,rfl⟩|exact⟨_,rfl,⟨rfl⟩⟩|exact⟨rfl,_,rfl,⟨rfl⟩⟩|exact⟨by decide,rfl⟩|exact⟨_,rfl,by decide,rfl⟩|exact⟨_,rfl,rfl,rfl⟩|exact jO (by assumption) rfl rfl (by decide) rfl|exact⟨_,rfl,jN (by first|assumption|decide) (by decide) rfl⟩)
  |exact⟨rfl,⟨rfl⟩⟩)):P:=p
end Go.Sf
