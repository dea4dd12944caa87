/- Steps of the pure language with typed values: one rule an operation, one a piece of code, one a kind of loop. -/
import Derived.Test.YtpagkickoiafkaaGreatSfSem
set_option linter.all false
open Option renaming some->Y,none->W
open Bool renaming true->X,false->T
open List renaming replicate->l!,eq_nil_of_length_eq_zero->l?,cons_append->m_,set_append_right->m?,take_append_drop->nc,map_append->nQ,getElem?_cons_succ->nR,map_cons->nS,flatMap_cons->nT,set_cons_succ->nU,getElem?_eq_some_iff->nV,mem_map->nW,map_replicate->nX
open Nat renaming ble->nY,le_of_ble_eq_true->nZ,beq->n7,blt->n8,add_mul->n9,mul_le_mul_right->n_
namespace Go.Sf
abbrev Ai(n:Int):Int:=IntKind.i64.wrap n
def idx{α:Type}(l:List α)(j:Int):Option α:=if 0<=j then l[j.toNat]? else W
def lx{α:Type}(l:List α)(a b:Int):Option (List α):=if(0<=a/\a<=b)/\b<=l.length then Y ((l.take b.toNat).drop a.toNat)else W
def k8(s:ByteArray)(a b:Int):Option ByteArray:=if 0<=a/\a<=b/\b<=s.size then Y (s.extract a.toNat b.toNat)else W
def kQ(s:ByteArray)(j:Int):QQ:=if 0<=j then(s[j.toNat]?).map (λb=>(b.toNat:Int))else W
def Ag{α:Type}(l m:List α):Option (List α):=if l.length+m.length<=CA then Y (l++m)else W
def quo(a b:Int):QQ:=if b=0 then W else Y (a.tdiv b)
def ML(a b:Int):QQ:=if b=0 then W else Y (a.tmod b)
inductive Dt(σ ρ:Type)where
 |next (s:σ)
 |brk (s:σ)
 |ret (r:ρ)
section loops
variable{σ ρ:Type}
def Mj(f:Int->σ->Option (Dt σ ρ)):Nat->Int->σ->Option (σ ⊕ ρ)
 |0,_,s=>Y (.inl s)|n+1,i,s=>match f i s with
  |none=>W|some (.next s')=>Mj f n (i+1) s'|some (.brk s')=>Y (.inl s')|some (.ret r)=>Y (.inr r)
def AX(f:Int->σ->Option (Dt σ ρ))(a b:Int)(s:σ):Option (σ ⊕ ρ):=Mj f (b-a).toNat a s
def OQ(f:Int->σ->Option σ):Nat->Int->σ->Option σ
 |0,_,s=>Y s|n+1,i,s=>match f i s with
  |none=>W|some s'=>OQ f n (i+1) s'
def A1(f:Int->σ->Option σ)(a b:Int)(s:σ):Option σ:=OQ f (b-a).toNat a s
def O9(f:σ->Option (Dt σ ρ)):Nat->σ->Option (σ ⊕ ρ)
 |0,_=>W|n+1,s=>match f s with
  |none=>W|some (.next s')=>O9 f n s'|some (.brk s')=>Y (.inl s')|some (.ret r)=>Y (.inr r)
end loops
class Ev where
 fuel:Option Nat
instance jH:Ev:=⟨W⟩
open Classical in
noncomputable def Sb{α:Type}(g:Nat->Option α):Option α:=if h:∃v N,∀n,N<=n->g n=Y v then Y h.choose else W
noncomputable def FT[e:Ev]{α:Type}(g:Nat->Option α):Option α:=match e.fuel with
 |none=>Sb g|some n=>g n
variable{α:Type}
theorem Bh{g:Nat->Option α}{v:α}(h:FT g=Y v):∃N,∀n,N<=n->g n=Y v:=by
 change Sb g=Y v at h;unfold Sb at h;split at h
 next k=>cases h;exact k.choose_spec
 .cases h
theorem aW{g:Nat->Option α}{v:α}(N:Nat)(h:∀n,N<=n->g n=Y v):FT g=Y v:=by
 have k:∃v N,∀n,N<=n->g n=Y v:=⟨v,N,h⟩;show Sb g=Y v;unfold Sb;rw[dif_pos k];obtain⟨M,u⟩:=k.choose_spec;have p:=h (max N M) (Nat.le_max_left _ _)
 grind
noncomputable def DY[Ev]{σ ρ:Type}(f:σ->Option (Dt σ ρ))(s:σ):Option (σ ⊕ ρ):=FT λn=>O9 f n s
def AL{σ ρ β:Type}(o:Option (σ ⊕ ρ))(k:σ->Option β)(kr:ρ->Option β):Option β:=
 match o with
 |none=>W|some (.inl s)=>k s|some (.inr v)=>kr v
theorem Qs{σ ρ β:Type}{o:Option (σ ⊕ ρ)}{k:σ->Option β}{p:ρ->Option β}{b:β}(h:AL o k p=Y b):∃x,o=Y x/\AL (Y x) k p=Y b:=by
 cases o with
 |none=>cases h
 |some x=>exact⟨x,rfl,h⟩
theorem Tw{σ ρ β:Type}{x:σ ⊕ ρ}{k:σ->Option β}{p:ρ->Option β}{b:β}{s:σ}(h:AL (Y x) k p=Y b)(u:x=.inl s):k s=Y b:=by subst u;exact h
theorem Tx{σ ρ β:Type}{x:σ ⊕ ρ}{k:σ->Option β}{p:ρ->Option β}{b:β}{v:ρ}(h:AL (Y x) k p=Y b)(u:x=.inr v):p v=Y b:=by subst u;exact h
def BX{α:Type}(l:List α)(j:Int)(a:α):List α:=l.set j.toNat a
def H0{α:Type}(j:Int)(a:α):Option (List α):=if 0<=j/\j<=4096 then Y (l! j.toNat a)else W
def O3(a b:ByteArray):Option ByteArray:=if a.size+b.size<=CA then Y (a++b)else W
variable{β:Type}
theorem bind_some{x:Option α}{f:α->Option β}{b:β}(h:x.bind f=Y b):∃a,x=Y a/\f a=Y b:=Option.bind_eq_some_iff.1 h
theorem QW{c:Bool}{a b:α}{r:α}(k:c=X)(h:(if c=X then a else b)=r):a=r:=by grind
theorem QV{c:Bool}{a b:α}{r:α}(k:c=T)(h:(if c=X then a else b)=r):b=r:=by grind
structure WO(S:FuncId->Fq->AZ->Prop)(K:AA->Prop)(os:List PR)(O:AA):Prop where
 of::out:wpOps S K os O
structure WP(S:FuncId->Fq->AZ->Prop)(c:PC)(q:Q)(O:AA):Prop where
 of::out:c.wp S q O
section
variable{S:FuncId->Fq->AZ->Prop}{K:AA->Prop}{os:List PR}{O:AA}{d:Nat}
variable{t:TV}
theorem RH{x:AC}(h:x.val O=Y t):x.ev O=.tv t\/x.ev O=.ow t:=by
 unfold AC.val EV.val at h;split at h<;>simp_all
def AB.nL:AB->Nat
 |.bin .i .quo _ _=>0|.bin .i .rem _ _=>0|.bin .s .add _ _=>0|.bin .w _ _ _=>0|.bin (.a _) _ _ _=>0|.bin ..=>1|o=>4042110221010223200010221334134211003223343421200140120221211411133400441001102212411111 / 10^ o.ctorIdx % 10
theorem st(n:Nat){op:AB}{e:EV}{env':AA}(_:op.nL=n)(h:∀p,p e env'->op.wp S O (Y d) p)(k:WO S K os ((d,e)::env')):WO S K (⟨Y d,op,W⟩::os) O:=⟨h (λe O=>wpOps S K os (O.put (Y d) e)) k.out⟩
theorem sn{op:AB}{env':AA}(_:op.nL=2)(h:∀p,p EV.undef env'->op.wp S O W p)(k:WO S K os env'):WO S K (⟨W,op,W⟩::os) O:=⟨h (λ_ O=>wpOps S K os O) k.out⟩
variable{α:Type}{n:Nat}{e:α->TV}{l:List α}{j:Int}
theorem d4{x i:AC}{es row:Fq}{ik:IntKind}{a:α}(h:idx l j=Y a)(p:x.val O=Y (.list n es))(hi:i.val O=Y (.int ik j))(he:es=l.map e)(u:(e a).cells=row)
  (k:WO S K os ((d,.tv (.pt row))::O)):WO S K (⟨Y d,.l4 x i n,W⟩::os) O:=by
 replace k:=k.out;refine⟨?_⟩;subst he u;simp only[wpOps,PR.wp,AB.wp,p,hi];unfold idx at h;split at h
 next w=>exact⟨trivial,w,e a,by rw[List.getElem?_map,h];rfl,k⟩
 .cases h
theorem gV{x:AC}{r:Fq}(h:Ao O (x.ev O)=Y (t::r))(p:t.kR=T)(k:WO S K os ((d,.tv t)::O)):WO S K (⟨Y d,.ld x,W⟩::os) O:=by
 replace k:=k.out;refine⟨?_⟩;simp[wpOps,PR.wp,AB.wp,h,AS,Cd];exact⟨p,k⟩
def eO{α:Type}(n:Nat)(e:α->TV):Option (List α)->TV
 |none=>.nil|some l=>.list n (l.map e)
theorem d5{l:Option (List α)}{x:AC}{r:Fq}(h:Ao O (x.ev O)=Y (eO n e l::r))(k:WO S K os ((d,.tv (eO n e l))::O)):WO S K (⟨Y d,.ld x,W⟩::os) O:=gV h (by cases l<;>rfl) k
theorem YR{x:AC}{cs:Fq}(h:Ao O (x.ev O)=Y cs)(p:nY n cs.length=X)(u:TV.agg (cs.take n)=t)(k:WO S K os ((d,.tv t)::O)):WO S K (⟨Y d,.mn x n,W⟩::os) O:=by
 replace k:=k.out;refine⟨?_⟩;subst u;simp[wpOps,PR.wp,AB.wp,h,AS];exact⟨nZ p,k⟩
variable{s:Nat}
theorem d6{cs:List AI}(h:O.get s=.bx cs)(p:nY n (cs.map (·.t)).length=X)(u:TV.agg ((cs.map (·.t)).take n)=t)(k:WO S K os ((d,.tv t)::O)):WO S K (⟨Y d,.nM s n,W⟩::os) O:=by
 replace k:=k.out;refine⟨?_⟩;subst u;simp only[wpOps,PR.wp,AB.wp,h];exact⟨nZ p,k⟩
section bins
variable{x y:AC}{ik:IntKind}{a b:Int}
theorem PT{h:BK}{op:BinOp}{u v t:TV}(p:x.val O=Y u)(w:y.val O=Y v)(A:Gc h op u v=Y t)(k:WO S K os ((d,.tv t)::O)):WO S K (⟨Y d,.bin h op x y,W⟩::os) O:=by
 replace k:=k.out;refine⟨?_⟩;simp[wpOps,PR.wp,AB.wp,p,w,A,AS];exact k
theorem eF{q:Int}(h:quo a b=Y q)(p:x.val O=Y (.int ik a))(u:y.val O=Y (.int ik b))(k:WO S K os ((d,.tv (.int ik (ik.wrap q)))::O)):WO S K (⟨Y d,.bin .i .quo x y,W⟩::os) O:=by grind[PT,quo,Gc,intCmp,intArith,Option.some.inj]
theorem eG{q:Int}(h:ML a b=Y q)(p:x.val O=Y (.int ik a))(u:y.val O=Y (.int ik b))(k:WO S K os ((d,.tv (.int ik q))::O)):WO S K (⟨Y d,.bin .i .rem x y,W⟩::os) O:=by grind[PT,ML,Gc,intCmp,intArith,Option.some.inj]
theorem dy{op:BinOp}{h:IntKind}{r:Int}(p:JT ik op a b=Y r)(u:x.val O=Y (.int ik a))(A:y.val O=Y (.int h b))(B:ik=h\/op=.shl\/op=.shr)(k:WO S K os ((d,.tv (.int ik r))::O)):WO S K (⟨Y d,.bin .w op x y,W⟩::os) O:=by grind[PT,Gc]
theorem bA{u v t:ByteArray}(h:O3 u v=Y t)(p:x.val O=Y (.str u))(w:y.val O=Y (.str v))(k:WO S K os ((d,.tv (.str t))::O)):WO S K (⟨Y d,.bin .s .add x y,W⟩::os) O:=by grind[PT,O3,Gc,Option.some.inj]
theorem Vs{n:Ne}{cs ds:Fq}{r:Bool}(p:x.val O=Y (.agg cs))(u:y.val O=Y (.agg ds))(w:cs.map TV.kd=n)(h:BL cs ds=Y r)(k:WO S K os ((d,.tv (.bool r))::O)):WO S K (⟨Y d,.bin (.a n) .eql x y,W⟩::os) O:=by grind[PT,Gc]
theorem Vt{n:Ne}{cs ds:Fq}{r:Bool}(p:x.val O=Y (.agg cs))(u:y.val O=Y (.agg ds))(w:cs.map TV.kd=n)(h:BL cs ds=Y r)(k:WO S K os ((d,.tv (.bool (!r)))::O)):WO S K (⟨Y d,.bin (.a n) .neq x y,W⟩::os) O:=by grind[PT,Gc]
end bins
variable{t:TV}
theorem ZD{c a b:AC}{q:Bool}(p:c.val O=Y (.bool q))(u:q=X)(h:a.val O=Y t)(k:WO S K os ((d,.tv t)::O)):WO S K (⟨Y d,.pick c a b,W⟩::os) O:=by
 replace k:=k.out;refine⟨?_⟩;subst u;simp[wpOps,PR.wp,AB.wp,p];rcases RH h with h|h<;>rw[h]<;>exact k
theorem ZC{c a b:AC}{q:Bool}(p:c.val O=Y (.bool q))(u:q=T)(h:b.val O=Y t)(k:WO S K os ((d,.tv t)::O)):WO S K (⟨Y d,.pick c a b,W⟩::os) O:=by
 replace k:=k.out;refine⟨?_⟩;subst u;simp[wpOps,PR.wp,AB.wp,p];rcases RH h with h|h<;>rw[h]<;>exact k
variable{α:Type}{n:Nat}{e:α->TV}{l:List α}
theorem d7{x:AC}{es:Fq}(h:x.val O=Y (.list n es))(he:es=l.map e)(k:WO S K os ((d,.tv (.int .i64 l.length))::O)):WO S K (⟨Y d,.len x,W⟩::os) O:=by
 replace k:=k.out;refine⟨?_⟩;subst he;simp[wpOps,PR.wp,AB.wp,h];exact k
variable{m:List α}
theorem Sv{a b:Int}(h:lx l a b=Y m):((0<=a/\a<=b)/\b<=l.length)/\m=(l.take b.toNat).drop a.toNat:=by
 unfold lx at h
 grind
variable{ka kb:IntKind}
theorem eH{x:AC}{lo hi:Option AC}{es:Fq}{a b:Int}(A:lx l a b=Y m)(h:x.val O=Y (.list n es))(he:es=l.map e)(p:Dc O 0 lo=Y (.int ka a))(u:Dc O l.length hi=Y (.int kb b))
  (k:WO S K os ((d,.tv (.list n (m.map e)))::O)):WO S K (⟨Y d,.lx n x lo hi,W⟩::os) O:=by
 replace k:=k.out;refine⟨?_⟩;subst he;obtain⟨⟨w,B⟩,C⟩:=Sv A;subst C;simp only[wpOps,PR.wp,AB.wp,h,ec,p,u];refine⟨⟨trivial,w.1,w.2⟩,B,?_⟩;rw[List.map_drop,List.map_take]at k;exact k
theorem bC{x:AC}{lo hi:Option AC}{s t:ByteArray}{a b:Int}(p:k8 s a b=Y t)(h:x.val O=Y (.str s))(u:Dc O 0 lo=Y (.int ka a))(w:Dc O s.size hi=Y (.int kb b))
  (k:WO S K os ((d,.tv (.str t))::O)):WO S K (⟨Y d,.k8 x lo hi,W⟩::os) O:=by
 replace k:=k.out;refine⟨?_⟩;unfold k8 at p;split at p
 next A=>cases p;simp[wpOps,PR.wp,AB.wp,h,u,w];exact⟨A.1,A.2.1,A.2.2,k⟩
 .cases p
variable{zero:Fq}{parts:List (Nat×Nat×AC)}
theorem R6{ts:List (Nat×Nat×TV)}{cs:Fq}(h:CS O parts=Y ts)(p:CX zero ts=Y cs)(u:TV.agg cs=t)(k:WO S K os ((d,.tv t)::O)):WO S K (⟨Y d,.ma zero parts,W⟩::os) O:=by
 replace k:=k.out;refine⟨?_⟩;subst u;simp[wpOps,PR.wp,AB.wp,h,AS,p];exact k
def P6:Nat->List (Nat×Nat×TV)->Bool
 |_,[]=>X|k,(i,n,t)::r=>n7 i k&&n7 t.cells.length n&&P6 (k+n) r
def EI:List (Nat×Nat×TV)->Fq
 |[]=>[]|(_,_,t)::r=>t.cells++EI r
theorem Oh:∀(ds done k rest:Fq),k.length=ds.length->I7 (done++(k++rest)) done.length ds=done++(ds++rest)
 |[],done,k,rest,h=>by
  have:k=[]:=l? f?;subst this;rfl
 |d::ds,done,[],rest,h=>by simp at h|d::ds,done,m::k,rest,h=>by
  simp only[I7];rw[m_,m? _ _ (bk _),Nat.sub_self,List.set_cons_zero];have:=Oh ds (done++[d]) k rest f?;simpa using this
theorem RL:∀(ts:List (Nat×Nat×TV))(done rest:Fq),P6 done.length ts=X->(EI ts).length=rest.length->CX (done++rest) ts=Y (done++EI ts)
 |[],done,rest,_,h=>by
  have:rest=[]:=l? (by simpa[EI]using h.symm);subst this;rfl
 |(i,n,t)::r,done,rest,p,h=>by
  simp [P6]at p;obtain⟨⟨rfl,k⟩,A⟩:=p;simp[EI]at h;have u:n<=rest.length:=U
  simp only[CX];rw[ae ⟨k,by rw[bq];omega⟩];have w:rest=rest.take n++rest.drop n:=(nc n rest).symm;rw[w,Oh t.cells done (rest.take n) (rest.drop n) (by rw[ca];omega),<-eo];rw[RL r (done++t.cells) (rest.drop n) (by rw[bq,k];exact A) (by rw[List.length_drop];omega)];simp[EI]
theorem aw{ts:List (Nat×Nat×TV)}(h:CS O parts=Y ts)(p:P6 0 ts=X)(u:n7 (EI ts).length zero.length=X)(w:TV.agg (EI ts)=t)(k:WO S K os ((d,.tv t)::O)):WO S K (⟨Y d,.ma zero parts,W⟩::os) O:=
 R6 h (by have:=RL ts [] zero p (Nat.eq_of_beq_eq_true u);simpa using this) w k
variable{ts:Fq}
theorem YS{parts:List AC}(h:vals O parts=Y ts)(he:ts=l.map e)(p:∀a,(e a).cells.length=n)(k:WO S K os ((d,.ow (.list n (l.map e)))::O)):WO S K (⟨Y d,.mE n parts,W⟩::os) O:=by
 replace k:=k.out;refine⟨?_⟩;subst he;simp[wpOps,PR.wp,AB.wp,h,AS];refine⟨λt u=>?_,k⟩
 grind
variable{s:Nat}{r:List α}
theorem YP{y:AC}{es p rs:Fq}(h:Ag l m=Y r)(u:O.get s=.ow (.list n es))(w:y.val O=Y (.list n p))(he:es=l.map e)(hf:p=m.map e)(A:rs=r.map e)
  (k:WO S K os ((d,.ow (.list n rs))::(s,.tv (.list n es))::O)):WO S K (⟨Y d,.app n (.s s) y,W⟩::os) O:=by
 replace k:=k.out;refine⟨?_⟩;subst hf A;unfold Ag at h;split at h
 next B=>cases h;simp only[wpOps,PR.wp,AB.wp,AC.ev,u,w,he,ec];rw[he]at k;refine⟨V,V,B,?_⟩;rw[nQ]at k;exact k
 .cases h
variable{f:FuncId}
theorem ax{args:List AC}(h:vals O args=Y ts)(p:S f ts (.sh t))(k:WO S K os ((d,.tv t)::O)):WO S K (⟨Y d,.call f args,W⟩::os) O:=by
 replace k:=k.out;refine⟨?_⟩;simp[wpOps,PR.wp,AB.wp,h,AS];exact⟨_,⟨p,rfl⟩,λ_=>k⟩
theorem bB{x i:AC}{s:ByteArray}{ik:IntKind}{j b:Int}(p:kQ s j=Y b)(h:x.val O=Y (.str s))(hi:i.val O=Y (.int ik j))(k:WO S K os ((d,.tv (.int .u8 b))::O)):WO S K (⟨Y d,.kQ x i,W⟩::os) O:=by
 replace k:=k.out;refine⟨?_⟩;unfold kQ at p;split at p
 next u=>rw[Option.map_eq_some_iff]at p;obtain⟨c,w,rfl⟩:=p;simp[wpOps,PR.wp,AB.wp,h,hi];exact⟨u,c,w,k⟩
 .cases p
theorem a8{mx:Bool}{x y:AC}{ik:IntKind}{a b:Int}(h:x.val O=Y (.int ik a))(p:y.val O=Y (.int ik b))(k:WO S K os ((d,.tv (.int ik (if mx then max a b else min a b)))::O)):WO S K (⟨Y d,.mm mx x y,W⟩::os) O:=by
 replace k:=k.out;refine⟨?_⟩;simp only[wpOps,PR.wp,AB.wp,h,p];exact⟨trivial,k⟩
theorem d8{x y:AC}{ik:IntKind}{a b:Int}(h:x.val O=Y (.int ik a))(p:y.val O=Y (.int ik b))(k:WO S K os ((d,.tv (.int ik (max a b)))::O)):WO S K (⟨Y d,.mm X x y,W⟩::os) O:=a8 h p k
theorem d9{x y:AC}{ik:IntKind}{a b:Int}(h:x.val O=Y (.int ik a))(p:y.val O=Y (.int ik b))(k:WO S K os ((d,.tv (.int ik (min a b)))::O)):WO S K (⟨Y d,.mm T x y,W⟩::os) O:=a8 h p k
variable{off:Nat}
theorem gW{x v:AC}{cs cs':List AI}(h:x.place O=Y (s,off))(p:O.get s=.bx cs)(hv:v.ev O=.tv t)(u:t.cells.length=n)(w:nY (off+n) cs.length=X)(A:cs.take off++t.cells.map (⟨T,·⟩)++cs.drop (off+n)=cs')
  (k:WO S K os ((s,.bx cs')::O)):WO S K (⟨W,.st n x v,W⟩::os) O:=by
 replace k:=k.out;refine⟨?_⟩;subst A;simp only[wpOps,PR.wp,AB.wp,h,p,hv];exact⟨u,nZ w,k⟩
theorem eK{s off q:Nat}{x:AC}{cs cs':List AI}(h:x.place O=Y (s,off))(p:O.get s=.bx cs)(hv:O.get q=.ow t)(u:q≠s)(w:n8 off cs.length=X)(A:cs.set off ⟨X,t⟩=cs')
  (k:WO S K os ((s,.bx cs')::(q,.tv t)::O)):WO S K (⟨W,.st 1 x (.s q),W⟩::os) O:=by
 replace k:=k.out;refine⟨?_⟩;subst A;simp only[wpOps,PR.wp,AB.wp,h,p,AC.ev,hv];exact⟨u,trivial,nZ w,k⟩
variable{v:AC}
theorem eJ{cs cs':List AI}(h:O.get s=.bx cs)(hv:v.ev O=.tv t)(p:t.cells.length=n)(u:nY (0+n) cs.length=X)(w:cs.take 0++t.cells.map (⟨T,·⟩)++cs.drop (0+n)=cs')
  (k:WO S K os ((s,.bx cs')::O)):WO S K (⟨W,.mh n s v,W⟩::os) O:=by
 replace k:=k.out;refine⟨?_⟩;subst w;simp only[wpOps,PR.wp,AB.wp,h,hv];exact⟨p,nZ u,k⟩
theorem d3{cs:List AI}{row:Fq}(h:O.get s=.bx cs)(p:cs.map (·.t)=row)(k:WO S K os ((s,.tv (.pt row))::O)):WO S K (⟨W,.nk s,W⟩::os) O:=by
 replace k:=k.out;refine⟨?_⟩;subst p;simp[wpOps,PR.wp,AB.wp,h];exact k
theorem ZB{args:List AC}{cs:List AI}(h:vals O args=Y ts)(p:S f ts (.kC cs))(u:TV.agg (cs.map λc=>c.rel.t)=t)(k:WO S K os ((d,.tv t)::O)):WO S K (⟨Y d,.call f args,W⟩::os) O:=by
 replace k:=k.out;refine⟨?_⟩;subst u;simp[wpOps,PR.wp,AB.wp,h,AS];exact⟨_,⟨p,rfl⟩,λ_=>k⟩
theorem YQ{x:AC}{es:Fq}(h:x.val O=Y (.list n es))(he:es=l.map e)(k:∀b:Bool,(b=X->l=[])->WO S K os ((d,.tv (.bool b))::O)):WO S K (⟨Y d,.ni x,W⟩::os) O:=by
 replace k:=λb p=>(k b p).out;refine⟨?_⟩;simp only[wpOps,PR.wp,AB.wp,h];intro b p;refine k b λu=>?_;have:=p u;rw[he]at this;simpa using this
theorem ay{x:AC}(h:x.val O=Y .nil)(k:WO S K os ((d,.tv (.bool X))::O)):WO S K (⟨Y d,.ni x,W⟩::os) O:=by
 replace k:=k.out;refine⟨?_⟩;simp[wpOps,PR.wp,AB.wp,h];exact k
theorem Yn(h:Ag [] l=Y r)(b:Bool)(k:b=X->l=[]):(if b=X then Y []else(Ag [] l).bind λx=>Y x)=Y r:=by grind[Ag]
variable{j:Int}
theorem DV{a:α}(h:idx l j=Y a):0<=j/\j<l.length/\l[j.toNat]?=Y a:=by
 unfold idx at h
 grind
theorem Q1(p:∀a,(e a).cells.length=n):∀(l:List α)(j k:Nat)(a:α),l[j]?=Y a->k<n->((l.map e).flatMap TV.cells)[j*n+k]?=(e a).cells[k]?
 |[],j,k,a,h,_=>by simp at h|b::l,0,k,a,h,u=>by
  grind
 |b::l,j+1,k,a,h,u=>by
  rw [nR]at h;rw[nS,nT,List.getElem?_append_right (by rw[p,n9];omega),p,show(j+1)*n+k-n=j*n+k from e_];exact Q1 p l j k a h u
theorem SQ(p:∀a,(e a).cells.length=n)(t:TV):∀(l:List α)(j k:Nat)(a b:α),l[j]?=Y a->k<n->(e b).cells=(e a).cells.set k t->((l.set j b).map e).flatMap TV.cells=((l.map e).flatMap TV.cells).set (j*n+k) t
 |[],j,k,a,b,h,_,_=>by simp at h|c::l,0,k,a,b,h,u,w=>by
  grind
 |c::l,j+1,k,a,b,h,u,w=>by
  rw [nR]at h;rw[nU,nS,nS,nT,nT,m? _ _ (by rw[p,n9];omega),p,show(j+1)*n+k-n=j*n+k from e_,SQ p t l j k a b h u w]
theorem Wj(h:∀a,(e a).cells.length=n)(l:List α):((l.map e).flatMap TV.cells).length=l.length*n:=by
 induction l with
 |nil=>simp|cons b l k=>rw[nS,nT,bq,k,h,ci,n9];omega
theorem K4(h:∀a,(e a).flat=X):∀(l:List α),TV.ki (l.map e)=X
 |[]=>rfl|a::l=>by simp[TV.ki,h a,K4 h l]
theorem bE{x:AC}{q:Nat×Option Nat}{es:Fq}(h:x.kc O=Y (q,n,es))(he:es=l.map e)(k:WO S K os ((d,.tv (.int .i64 l.length))::O)):WO S K (⟨Y d,.mz x,W⟩::os) O:=by
 replace k:=k.out;refine⟨?_⟩;subst he;simp[wpOps,PR.wp,AB.wp,h,AS];exact k
variable{qi:Option Nat}
theorem eM{x i:AC}{q n:Nat}{es:Fq}{ik:IntKind}{a:α}(p:idx l j=Y a)(h:x.kc O=Y ((q,qi),n,es))(hi:i.val O=Y (.int ik j))(he:es=l.map e)(u:(x.ev O).jZ=Y q)
  (k:WO S K os ((d,.lp q qi (j.toNat*n))::O)):WO S K (⟨Y d,.nB x i n,W⟩::os) O:=by
 replace k:=k.out;refine⟨?_⟩;subst he;obtain⟨w,A,_⟩:=DV p;simp only[wpOps,PR.wp,AB.wp,h,hi,AS,ec];exact⟨⟨u,trivial⟩,w,A,k⟩
theorem YV{x:AC}{q c n i:Nat}{es row:Fq}{a:α}(h:x.ev O=.lp q qi c)(p:O.jT q qi=Y (n,es))(he:es=l.map e)(u:∀a,(e a).cells.length=n)(w:idx l j=Y a)(A:c=j.toNat*n+i)(hi:n8 i n=X)(B:(e a).cells=row)(C:row[i]?=Y t)
  (k:WO S K os ((d,.tv t)::O)):WO S K (⟨Y d,.nv x,W⟩::os) O:=by
 replace k:=k.out;refine⟨?_⟩;subst he A B;have hf:=Q1 u l j.toNat i a (DV w).2.2 (nZ hi);simp[wpOps,PR.wp,AB.wp,h,p,hf,C,AS];exact k
theorem eN{x i:AC}{q n:Nat}{es:Fq}{ik:IntKind}{a:α}(p:idx l j=Y a)(h:x.ev O=.la q W)(u:O.get q=.xo n es)(hi:i.val O=Y (.int ik j))(he:es=l.map e)
  (k:WO S K os ((d,.lp q W (j.toNat*n))::O)):WO S K (⟨Y d,.nJ x i n,W⟩::os) O:=by
 replace k:=k.out;refine⟨?_⟩;subst he;obtain⟨w,A,_⟩:=DV p;simp only[wpOps,PR.wp,AB.wp,h,hi,u,ec];exact⟨trivial,w,A,k⟩
theorem YW{x:AC}{q c n i:Nat}{es row:Fq}{a:α}(h:x.ev O=.lp q W c)(p:O.get q=.xo n es)(he:es=l.map e)(u:∀a,(e a).cells.length=n)(w:idx l j=Y a)(A:c=j.toNat*n+i)(hi:n8 i n=X)(B:(e a).cells=row)(C:row[i]?=Y t)
  (k:WO S K os ((d,.tv t)::O)):WO S K (⟨Y d,.nu x,W⟩::os) O:=by
 replace k:=k.out;refine⟨?_⟩;subst he A B;have hf:=Q1 u l j.toNat i a (DV w).2.2 (nZ hi);simp[wpOps,PR.wp,AB.wp,h,p,hf,C,AS];exact k
theorem YX{x v:AC}{q c n i:Nat}{env':AA}{es rs:Fq}{a b:α}(h:x.ev O=.lp q qi c)(F:O.jT q qi=Y (n,es))(hv:v.ev O=.tv t)(he:es=l.map e)(w:∀a,(e a).cells.length=n)(G:idx l j=Y a)(H:c=j.toNat*n+i)(hi:n8 i n=X)(D:t.cells=[t])
  (I:(e b).cells=(e a).cells.set i t)(J:rs=(BX l j b).map e)(A:O.kj q qi n rs=env')(k:WO S K os env'):WO S K (⟨W,.mf x v 1,W⟩::os) O:=by
 replace k:=k.out;refine⟨?_⟩;subst he H J A;obtain⟨N,P,E⟩:=DV G;have B:i<n:=nZ hi;have p:j.toNat<l.length:=(nV.1 E).1;simp only[wpOps,PR.wp,AB.wp,h,F,hv];have C:j.toNat*n+i<l.length*n:=calc j.toNat*n+i<j.toNat*n+n:=U
   _=(j.toNat+1)*n:=e_
   _<=l.length*n:=n_ _ p
 refine ⟨⟨by rw[D];rfl,U⟩,?_,_,(SQ w t l j.toNat i a b E B I).trans (by rw[D,List.set_eq_take_append_cons_drop,ae (by rw[Wj w];exact C)];simp),V,λu L=>?_,k⟩
 .rw[ec]
  calc j.toNat*n+i<j.toNat*n+n:=U
   _=(j.toNat+1)*n:=e_
   _<=l.length*n:=n_ _ p
 .obtain⟨M,_,rfl⟩:=nW.1 L;exact w M
theorem SP(k:∀a,(e a).cells.length=n):∀(l:List α)(j:Nat)(b:α),j<l.length->((l.set j b).map e).flatMap TV.cells=((l.map e).flatMap TV.cells).take (j*n)++(e b).cells++((l.map e).flatMap TV.cells).drop (j*n+n)
 |[],j,b,h=>by simp at h|c::l,0,b,h=>by
  grind
 |c::l,j+1,b,h=>by
  rw [nU,nS,nS,nT,nT,SP k l j b f?,show(j+1)*n=(e c).cells.length+j*n from by rw[k,n9];omega,Nat.add_assoc,List.take_length_add_append,List.drop_length_add_append,eo,eo,eo]
theorem YY{x v:AC}{q n:Nat}{env':AA}{es:Fq}{a b:α}(h:x.ev O=.lp q qi (j.toNat*n))(D:O.jT q qi=Y (n,es))(hv:v.ev O=.tv (e b))(he:es=l.map e)(w:∀a,(e a).cells.length=n)(E:idx l j=Y a)(F:n8 0 n=X)
  (A:O.kj q qi n ((BX l j b).map e)=env')(k:WO S K os env'):WO S K (⟨W,.mf x v n,W⟩::os) O:=by
 replace k:=k.out;refine⟨?_⟩;subst he A;obtain⟨J,L,H⟩:=DV E;have B:0<n:=nZ F;have p:j.toNat<l.length:=(nV.1 H).1;have C:j.toNat*n+n<=l.length*n:=calc j.toNat*n+n=(j.toNat+1)*n:=e_
   _<=l.length*n:=n_ _ p
 simp only[wpOps,PR.wp,AB.wp,h,D,hv];refine⟨⟨w b,B⟩,by rw[ec];exact C,_,SP w l j.toNat b p,V,λu G=>?_,k⟩;obtain⟨I,_,rfl⟩:=nW.1 G;exact w I
theorem ar{y:AC}{es p rs:Fq}(h:Ag l m=Y r)(u:O.get s=.xo n es)(w:y.val O=Y (.list n p))(he:es=l.map e)(hf:p=m.map e)(A:rs=r.map e)(B:O.je d=X)(hd:d≠s)
  (k:WO S K os ((d,.xo n rs)::(s,.undef)::O)):WO S K (⟨Y d,.lL n s y,W⟩::os) O:=by
 replace k:=k.out;refine⟨?_⟩;subst he hf A;unfold Ag at h;split at h
 next C=>cases h;simp only[wpOps,PR.wp,AB.wp,u,w,ec];rw[nQ]at k;exact⟨trivial,trivial,C,B,hd,k⟩
 .cases h
theorem XK{args:List AC}{ts es:Fq}(h:O.je d=X)(p:vals O args=Y ts)(u:S f ts (.own (.list n es)))(he:es=l.map e)(hf:∀a,(e a).flat=X)(k:WO S K os ((d,.xo n es)::O)):WO S K (⟨Y d,.kW f args,W⟩::os) O:=by
 replace k:=k.out;refine⟨?_⟩;simp[wpOps,PR.wp,AB.wp,p,AS];exact⟨h,n,es,.inr ⟨u,by rw[he];exact K4 hf l⟩,λ_=>k⟩
variable{rs:Fq}{z:α}
theorem YU{x:AC}{ik:IntKind}(h:H0 j z=Y r)(u:O.je d=X)(w:x.val O=Y (.int ik j))(A:(match zero with|[t]=>t|ts=>.agg ts)=e z)(B:rs=r.map e)
  (k:WO S K os ((d,.xo n rs)::O)):WO S K (⟨Y d,.lY n zero x,W⟩::os) O:=by
 replace k:=k.out;refine⟨?_⟩;subst B;unfold H0 at h;split at h
 next p=>cases h;rw[nX,<-A]at k;simp[wpOps,PR.wp,AB.wp,w];exact⟨u,p.1,p.2,k⟩
 .cases h
theorem a7{n m:Nat}{x:AC}{ik:IntKind}{r:List Fp}(h:H0 j ([]:Fp)=Y r)(p:O.je d=X)(u:x.val O=Y (.int ik j))(w:rs=r.map λl:Fp=>TV.list m (l.map (TV.int .i64)))
  (k:WO S K os ((d,.xo n rs)::O)):WO S K (⟨Y d,.lY n [.list m []] x,W⟩::os) O:=YU h p u (e:=λl:Fp=>TV.list m (l.map (TV.int .i64))) rfl w k
theorem YT{x:AC}{ik:IntKind}(h:H0 j z=Y r)(u:O.je d=X)(w:x.val O=Y (.int ik j))(A:(match zero with|[t]=>t|ts=>.agg ts)=e z)(B:rs=r.map e)
  (k:WO S K os ((d,.ow (.list n rs))::O)):WO S K (⟨Y d,.nF n zero x,W⟩::os) O:=by
 replace k:=k.out;refine⟨?_⟩;subst B;unfold H0 at h;split at h
 next p=>cases h;rw[nX,<-A]at k;simp[wpOps,PR.wp,AB.wp,w];exact⟨u,p.1,p.2,k⟩
 .cases h
theorem a6{n m:Nat}{x:AC}{ik:IntKind}{r:List Fp}(h:H0 j ([]:Fp)=Y r)(p:O.je d=X)(u:x.val O=Y (.int ik j))(w:rs=r.map λl:Fp=>TV.list m (l.map (TV.int .i64)))
  (k:WO S K os ((d,.ow (.list n rs))::O)):WO S K (⟨Y d,.nF n [.list m []] x,W⟩::os) O:=YT h p u (e:=λl:Fp=>TV.list m (l.map (TV.int .i64))) rfl w k
theorem aX:([]:List AI).all AI.kN=X:=rfl
theorem Y1{cs:List AI}(hf:∀a,(e a).flat=X)(h:cs.all AI.kN=X):((⟨X,.list n (l.map e)⟩:AI)::cs).all AI.kN=X:=by
 rw [List.all_cons,h,Bool.and_true];exact K4 hf l
theorem dz{hi:AC}{es rs:Fq}{ik:IntKind}(h:lx l 0 j=Y r)(u:O.get s=.xo n es)(w:hi.val O=Y (.int ik j))(he:es=l.map e)(A:rs=r.map e)(B:O.je d=X)(hd:d≠s)(k:WO S K os ((d,.xo n rs)::(s,.undef)::O)):WO S K (⟨Y d,.cut n s hi,W⟩::os) O:=by
 replace k:=k.out;refine⟨?_⟩;subst he A;obtain⟨⟨C,D⟩,p⟩:=Sv h;subst p;simp only[wpOps,PR.wp,AB.wp,u,w];refine⟨⟨trivial,B,hd⟩,C.2,by rw[ec];exact D,?_⟩;have p:((l.take j.toNat).drop (0:Int).toNat).map e=(l.map e).take j.toNat:=V
 rw [p]at k;exact k
theorem XH{args:List AC}{ts es:Fq}(h:kz O args=Y ts)(p:S f ts (.own t))(u:t=.list n es)(he:es=l.map e)(hf:∀a,(e a).flat=X)(k:WO S K os ((d,.ow t)::O)):WO S K (⟨Y d,.k9 f args,W⟩::os) O:=by
 replace k:=k.out;refine⟨?_⟩;subst u he;simp[wpOps,PR.wp,AB.wp,h,AS];exact⟨_,⟨p,K4 hf l⟩,λ_=>k⟩
def WX{α:Type}(l:List α)(j:Int)(z:α):Option (List α):=if(0<=j/\j<=4096)/\l.length+j.toNat<=CA then Y (l++l! j.toNat z)else W
theorem av{p:TV}{x:AC}{es rs:Fq}{ik:IntKind}(h:WX l j z=Y r)(A:O.get s=.xo n es)(B:x.val O=Y (.int ik j))(he:es=l.map e)(C:p=e z)(D:rs=r.map e)(E:O.je d=X)(hd:d≠s)(u:n=1)(F:p.cells=[p])(k:WO S K os ((d,.xo n rs)::(s,.undef)::O)):WO S K (⟨Y d,.md n s p x,W⟩::os) O:=by
 replace k:=k.out;refine⟨?_⟩;subst he D;unfold WX at h;split at h
 next w=>cases h;simp only[wpOps,PR.wp,AB.wp,A,B];refine⟨⟨⟨trivial,u⟩,F⟩,w.1,⟨by rw[ec];exact w.2,E,hd⟩,?_⟩;rw[nQ,nX,<-C]at k;exact k
 .cases h
variable{i:Nat}
theorem ZA{args:List AC}{ts h:Fq}{cs cs':List AI}{e:EV}(p:(args[i]?).bind (·.place O)=Y (s,0))(u:O.get s=.bx cs)(w:O.lV s W=X)(hd:d≠s)(A:Ch O i args=Y ts)(B:S f ts (.bo cs cs' i h))(he:EV.mQ h=e)(k:WO S K os ((d,e)::(s,.bx cs')::O)):WO S K (⟨Y d,.kD f args i,W⟩::os) O:=by
 replace k:=k.out;refine⟨?_⟩;subst he;simp only[wpOps,PR.wp,AB.wp,p,u,A,AS];exact⟨⟨w,hd⟩,cs',h,B,λ_=>k⟩
def W4{α:Type}(l:List α):Option Unit:=if l.isEmpty then W else Y ()
theorem Vd{u:Unit}{b:Bool}(h:W4 l=Y u)(k:b=X->l=[]):b=T:=by
 cases b with
 |false=>rfl|true=>rw[k rfl]at h;cases h
variable{g:Nat}
theorem gC{h:Option Nat}{op:AB}{b q:Bool}(p:O.get g=.tv (.bool q))(u:q=b)(k:WO S K (⟨h,op,W⟩::os) O):WO S K (⟨h,op,Y (g,b)⟩::os) O:=by
 replace k:=k.out;refine⟨?_⟩
 grind [wpOps,PR.wp]
theorem dM{d:Nat}{op:AB}{b q:Bool}(p:O.get g=.tv (.bool q))(u:q=!b)(k:WO S K os ((d,.sk)::O)):WO S K (⟨Y d,op,Y (g,b)⟩::os) O:=by
 replace k:=k.out;refine⟨?_⟩;subst u;simp only[wpOps,PR.wp,p];exact⟨λh=>by cases b<;>simp at h,λ_=>k⟩
theorem gD{d:Nat}{op:AB}{b:Bool}(h:O.get g=.sk)(k:WO S K os ((d,.sk)::O)):WO S K (⟨Y d,op,Y (g,b)⟩::os) O:=by
 replace k:=k.out;refine⟨?_⟩;simp[wpOps,PR.wp,h];exact k
theorem S9(xs h:List PR)(O:AA):wpOps S K (xs++h) O=wpOps S (wpOps S K h) xs O:=by
 induction xs generalizing O with
 |nil=>rfl|cons x xs k=>
  simp only[m_,wpOps];congr 1;funext e;exact k e
theorem dL{ops:List PR}(n:Nat)(M:AA->AA->Prop)(h:WO S (M O) (ops.take n) O)(k:∀e,M O e->WO S K (ops.drop n) e):WO S K ops O:=by
 refine ⟨?_⟩;rw[<-nc n ops,S9];exact KF S (λe he=>(k e he).out) _ O h.out
variable{q:Q}{a b:PC}
theorem c8(h:WP S a ⟨λe=>(∀s,(e.get s).WF)->WP S b q e,q.exit,q.ret⟩ O):WP S (.seq a b) q O:=⟨PC.jr S a _ O h.out _ (λ_ he k=>(he k).out) (λ_ _ h=>h) (λ_ h=>h)⟩
theorem Z5{live:Ne}{env':AA}(k:O.jj live=env')(h:q.normal env'):WP S (.skip live) q O:=by subst k;exact⟨h⟩
theorem Z4{live:Ne}{env':AA}(k:O.jj live=env')(h:q.exit i env'):WP S (.exit i live) q O:=by subst k;exact⟨h⟩
theorem QK{x:AC}{c:Bool}(k:x.val O=Y (.bool c))(p:c=X->WP S a q O)(hf:c=T->WP S b q O):WP S (.cond x a b) q O:=by
 refine ⟨?_⟩;simp[PC.wp,k];exact⟨λh=>(p h).out,λh=>(hf h).out⟩
theorem L7{x:AC}{c:Bool}(k:x.val O=Y (.bool c))(h:c=X)(p:WP S a q O):WP S (.cond x a b) q O:=by grind[QK]
theorem L6{x:AC}{c:Bool}(k:x.val O=Y (.bool c))(h:c=T)(p:WP S b q O):WP S (.cond x a b) q O:=by grind[QK]
theorem Qw(h:WP S a ⟨q.normal,λj e=>if j=i then q.normal e else q.exit j e,q.ret⟩ O):WP S (.block i a) q O:=⟨h.out⟩
theorem SN{x y:Prop}(h:x):if i=i then x else y:=by rw[ae rfl];exact h
theorem Yp{i j:Nat}{x y:Prop}(k:i≠j)(h:y):if i=j then x else y:=by rw[az k];exact h
theorem c7(M:AA->Prop)(k:WP S a ⟨M,q.exit,q.ret⟩ O)(p:∀e,M e->q.normal e):WP S a q O:=⟨PC.jr S a _ O k.out q p (λ_ _ h=>h) (λ_ h=>h)⟩
section loops
variable{σ ρ:Type}{live:Ne}{c:PC}{i0:Nat}
variable{ζ:AA->Prop}
theorem X2{f:Int->σ->Option (Dt σ ρ)}{b:Int}(I:Int->σ->AA)(J:σ->AA)(R:ρ->AA->Prop)
  (u:∀i s r,i<b->f i s=Y r->(∀k,((I i s).get k).WF)->c.wp S ⟨λe=>∃p,r=.next p/\e.jj live=I (i+1) p,λj e=>j=i0/\∃p,r=.brk p/\e=J p,λe=>∃v,r=.ret v/\R v e⟩ (I i s))
  (w:∀i s,¬i<b->c.wp S ⟨λ_=>False,λj e=>j=i0/\e=J s,λ_=>False⟩ (I i s))
  (hX:∀e,((∀s,(e.get s).WF)->c.wp S {q with normal:=λD=>ζ (D.jj live)} e)->ζ e)(G:∀s,q.exit i0 (J s)\/True):
  ∀(n:Nat)(i:Int)(s:σ),n=(b-i).toNat->∀o,Mj f n i s=Y o->(∀p,o=.inl p->q.exit i0 (J p))->(∀v e,o=.inr v->R v e->q.ret e)->ζ (I i s):=by
 intro n
 induction n with
 |zero=>
  intro i s E o ho A B;refine hX _ λC=>?_;refine PC.jr S c _ _ (w i s U) _ (λ_ h=>h.elim) (λj e he=>?_) (λ_ h=>h.elim);obtain⟨rfl,rfl⟩:=he;simp[Mj]at ho;exact A s ho.symm
 |succ n F=>
  intro i s E o ho A B;simp[Mj]at ho;refine hX _ λC=>?_;cases hf:f i s with
  |none=>rw[hf]at ho;cases ho
  |some r=>
   rw [hf]at ho;refine PC.jr S c _ _ (u i s r U hf C) _ (λe he=>?_) (λj e he=>?_) (λe he=>?_)
   .obtain⟨p,rfl,he⟩:=he;show ζ (e.jj live);rw[he];exact F (i+1) p U o ho A B
   .obtain⟨rfl,p,rfl,rfl⟩:=he;simp at ho;exact A p ho.symm
   .obtain⟨v,rfl,he⟩:=he;simp at ho;exact B v e ho.symm he
variable{s0:σ}{o:σ ⊕ ρ}
theorem T5{f:Int->σ->Option (Dt σ ρ)}{lo b:Int}(ho:AX f lo b s0=Y o)(I:Int->σ->AA)(J:σ->AA)(R:ρ->AA->Prop)(A:O.jj live=I lo s0)
  (u:∀i s r,i<b->f i s=Y r->(∀k,((I i s).get k).WF)->WP S c ⟨λe=>∃p,r=.next p/\e.jj live=I (i+1) p,λj e=>j=i0/\∃p,r=.brk p/\e=J p,λe=>∃v,r=.ret v/\R v e⟩ (I i s))
  (w:∀i s,¬i<b->WP S c ⟨λ_=>False,λj e=>j=i0/\e=J s,λ_=>False⟩ (I i s))
  (B:∀p,o=.inl p->q.normal (J p))(C:∀v e,o=.inr v->R v e->q.ret e):WP S (.block i0 (.loop live c)) q O:=by
 refine Qw ⟨?_⟩;intro ζ hX;rw[A];refine X2 (q:=⟨q.normal,λj e=>if j=i0 then q.normal e else q.exit j e,q.ret⟩) I J R (λi s r D E F=>(u i s r D E F).out) (λi s h=>(w i s h).out) hX (λ_=>.inr trivial) _ lo s0 rfl o ho ?_ C;intro p G;exact SN (B p G)
theorem Tc{f:Int->σ->Option σ}:∀(n:Nat)(i:Int)(s o:σ),OQ f n i s=Y o->Mj (λi s=>(f i s).map (Dt.next (ρ:=Empty))) n i s=Y (.inl o)
 |0,_,_,_,h=>by simp[OQ]at h;subst h;rfl|n+1,i,s,o,h=>by
  simp [OQ]at h;simp[Mj];cases hf:f i s with
  |none=>rw[hf]at h;cases h
  |some k=>rw[hf]at h;simp;exact Tc n (i+1) k o h
theorem ZL{f:Int->σ->Option σ}{lo b:Int}{s0 o:σ}(ho:A1 f lo b s0=Y o)(I:Int->σ->AA)(J:σ->AA)(A:O.jj live=I lo s0)
  (p:∀i s r,i<b->f i s=Y r->(∀k,((I i s).get k).WF)->WP S c ⟨λe=>e.jj live=I (i+1) r,λ_ _=>False,λ_=>False⟩ (I i s))
  (u:∀i s,¬i<b->WP S c ⟨λ_=>False,λj e=>j=i0/\e=J s,λ_=>False⟩ (I i s))
  (B:q.normal (J o)):WP S (.block i0 (.loop live c)) q O:=by
 refine T5 (f:=λi s=>(f i s).map (Dt.next (ρ:=Empty))) (o:=.inl o) (Tc _ _ _ _ ho) I J (λ_ _=>False) A ?_ u ?_ ?_
 .intro i s r hi hf C;simp at hf;obtain⟨w,hf,rfl⟩:=hf;exact⟨PC.jr S c _ _ (p i s w hi hf C).out _ (λe he=>⟨w,rfl,he⟩) (λ_ _ h=>h.elim) (λ_ h=>h.elim)⟩
 .intro w h;cases h;exact B
 .intro v;cases v
theorem ZN{f:σ->Option (Dt σ ρ)}(I:σ->AA)(J:σ->AA)(R:ρ->AA->Prop)
  (p:∀s r,f s=Y r->(∀k,((I s).get k).WF)->c.wp S ⟨λe=>∃h,r=.next h/\e.jj live=I h,λj e=>j=i0/\∃h,r=.brk h/\e=J h,λe=>∃v,r=.ret v/\R v e⟩ (I s))
  (hX:∀e,((∀s,(e.get s).WF)->c.wp S {q with normal:=λA=>ζ (A.jj live)} e)->ζ e):
  ∀(n:Nat)(s:σ)(o:σ ⊕ ρ),O9 f n s=Y o->(∀h,o=.inl h->q.exit i0 (J h))->(∀v e,o=.inr v->R v e->q.ret e)->ζ (I s):=by
 intro n
 induction n with
 |zero=>intro s o ho;cases ho
 |succ n C=>
  intro s o ho u w;simp[O9]at ho;refine hX _ λB=>?_;cases hf:f s with
  |none=>rw[hf]at ho;cases ho
  |some r=>
   rw [hf]at ho;refine PC.jr S c _ _ (p s r hf B) _ (λe he=>?_) (λj e he=>?_) (λe he=>?_)
   .obtain⟨h,rfl,he⟩:=he;show ζ (e.jj live);rw[he];exact C h o ho u w
   .obtain⟨rfl,h,rfl,rfl⟩:=he;simp at ho;exact u h ho.symm
   .obtain⟨v,rfl,he⟩:=he;simp at ho;exact w v e ho.symm he
theorem bf{f:σ->Option (Dt σ ρ)}(ho:DY f s0=Y o)(I:σ->AA)(J:σ->AA)(R:ρ->AA->Prop)(u:O.jj live=I s0)
  (p:∀s r,f s=Y r->(∀k,((I s).get k).WF)->WP S c ⟨λe=>∃h,r=.next h/\e.jj live=I h,λj e=>j=i0/\∃h,r=.brk h/\e=J h,λe=>∃v,r=.ret v/\R v e⟩ (I s))
  (w:∀h,o=.inl h->q.normal (J h))(A:∀v e,o=.inr v->R v e->q.ret e):WP S (.block i0 (.loop live c)) q O:=by
 obtain ⟨N,E⟩:=Bh ho;refine Qw ⟨?_⟩;intro ζ hX;rw[u];refine ZN (q:=⟨q.normal,λj e=>if j=i0 then q.normal e else q.exit j e,q.ret⟩) I J R (λs r B C=>(p s r B C).out) hX N s0 o (E N (bk _)) ?_ A;intro h D;exact SN (w h D)
end loops
end
theorem g6{a b:Int}(h:a<b):decide (a<b)=X:=decide_eq_true h
theorem gA{a b:Int}(h:¬a<b):decide (a<b)=T:=decide_eq_false h
variable{t:TV}
theorem SB(h:EV.WF (.tv t)):t.WF:=h
theorem eW(h:EV.WF (.ow t)):t.WF:=h
variable{n:Nat}
theorem eX{es:Fq}(h:EV.WF (.xo n es)):TV.WF (.list n es):=h
theorem Yf{row:Fq}(h:EV.WF (.tv (.pt row))):TV.jU row:=h
variable{ts:Fq}{i:Nat}
theorem T3(h:TV.jU ts)(hi:ts[i]?=Y t):t.WF:=by
 induction ts generalizing i with
 |nil=>simp at hi|cons x xs k=>
  cases i with
  |zero=>simp at hi;subst hi;exact h.1|succ i=>exact k h.2 (by simpa using hi)
variable{α:Type}{e:α->TV}{l:List α}
theorem be(h:TV.WF (.list n (l.map e))):(l.length:Int)<=9223372036854775807:=by
 have:=h.1
 grind [ec,FE]
theorem PV{es:Fq}(h:TV.WF (.list n es))(he:es=l.map e):(l.length:Int)<=9223372036854775807:=by subst he;exact be h
theorem ZK{s:ByteArray}(h:TV.WF (.str s)):(s.size:Int)<=9223372036854775807:=by
 have:s.size<=FE:=h
 grind [FE]
theorem WI{n:Int}(h:TV.WF (.int .i64 n)):n<=9223372036854775807:=h.2
theorem WH(n:Int):Ai n=if 9223372036854775808<=n % 18446744073709551616 then n % 18446744073709551616-18446744073709551616 else n % 18446744073709551616:=by
 have h:(2:Int)^ 64=18446744073709551616:=a?
 have k:(2:Int)^ (64-1)=9223372036854775808:=a?
 simp [Ai,IntKind.wrap,IntKind.bits,IntKind.signed,Bool.true_and,kY,h,k,ge_iff_le]
theorem bc(n:Int):Ai n<=9223372036854775807:=by grind[WH]
theorem ba{n:Int}(h:-9223372036854775808<=n)(k:n<=9223372036854775807):Ai n=n:=by grind[WH]
theorem eY{i b:Int}(hi:TV.WF (.int .i64 i))(h:i<b)(k:b<=9223372036854775807):IntKind.i64.wrap (i+1)=i+1:=by
 have p:(-9223372036854775808:Int)<=i:=hi.1
 grind [ba]
end Go.Sf
