/- Steps of the pure language with typed values: one rule an operation, one a piece of code, one a kind of loop. -/
import Derived.Test.YtfcfkigfmofniaaGreatSfSem
set_option linter.all false
namespace Go.Sf
abbrev AG(n:Int):Int:=IntKind.i64.wrap n
def idx{α:Type}(l:List α)(j:Int):Option α:=if 0<=j then l[j.toNat]? else none
def y9{α:Type}(l:List α)(a b:Int):Option (List α):=if(0<=a/\a<=b)/\b<=l.length then some ((l.take b.toNat).drop a.toNat)else none
def yu(s:ByteArray)(a b:Int):Option ByteArray:=if 0<=a/\a<=b/\b<=s.size then some (s.extract a.toNat b.toNat)else none
def za(s:ByteArray)(j:Int):a5:=if 0<=j then(s[j.toNat]?).map (fun b=>(b.toNat:Int))else none
def AT{α:Type}(l m:List α):Option (List α):=if l.length+m.length<=AU then some (l++m)else none
def quo(a b:Int):a5:=if b=0 then none else some (a.tdiv b)
def Cf(a b:Int):a5:=if b=0 then none else some (a.tmod b)
inductive Bf(σ ρ:Type)where
 |next (s:σ)
 |brk (s:σ)
 |ret (r:ρ)
section loops
variable{σ ρ:Type}
def x9(f:Int->σ->Option (Bf σ ρ)):Nat->Int->σ->Option (σ ⊕ ρ)
 |0,_,s=>some (.inl s)|n+1,i,s=>match f i s with
  |none=>none|some (.next s')=>x9 f n (i+1) s'|some (.brk s')=>some (.inl s')|some (.ret r)=>some (.inr r)
def kg(f:Int->σ->Option (Bf σ ρ))(a b:Int)(s:σ):Option (σ ⊕ ρ):=x9 f (b-a).toNat a s
def yy(f:Int->σ->Option σ):Nat->Int->σ->Option σ
 |0,_,s=>some s|n+1,i,s=>match f i s with
  |none=>none|some s'=>yy f n (i+1) s'
def nd(f:Int->σ->Option σ)(a b:Int)(s:σ):Option σ:=yy f (b-a).toNat a s
def Rc(f:σ->Option (Bf σ ρ)):Nat->σ->Option (σ ⊕ ρ)
 |0,_=>none|n+1,s=>match f s with
  |none=>none|some (.next s')=>Rc f n s'|some (.brk s')=>some (.inl s')|some (.ret r)=>some (.inr r)
end loops
class Ev where
 fuel:Option Nat
instance ID:Ev:=⟨none⟩
open Classical in
noncomputable def aE{α:Type}(g:Nat->Option α):Option α:=if h:∃v N,∀n,N<=n->g n=some v then some h.choose else none
noncomputable def Kh[e:Ev]{α:Type}(g:Nat->Option α):Option α:=match e.fuel with
 |none=>aE g|some n=>g n
variable{α:Type}
theorem Cp{g:Nat->Option α}{v:α}(h:Kh g=some v):∃N,∀n,N<=n->g n=some v:=by
 change aE g=some v at h;unfold aE at h;split at h
 .rename_i k;cases h;exact k.choose_spec
 .cases h
theorem Dy{g:Nat->Option α}{v:α}(N:Nat)(h:∀n,N<=n->g n=some v):Kh g=some v:=by
 have k:∃v N,∀n,N<=n->g n=some v:=⟨v,N,h⟩;show aE g=some v;unfold aE;rw[dif_pos k];obtain⟨M,u⟩:=k.choose_spec;have p:=h (max N M) (Nat.le_max_left _ _)
 grind
noncomputable def Ca[Ev]{σ ρ:Type}(f:σ->Option (Bf σ ρ))(s:σ):Option (σ ⊕ ρ):=Kh fun n=>Rc f n s
def ek{σ ρ β:Type}(o:Option (σ ⊕ ρ))(k:σ->Option β)(kr:ρ->Option β):Option β:=
 match o with
 |none=>none|some (.inl s)=>k s|some (.inr v)=>kr v
theorem XD{σ ρ β:Type}{o:Option (σ ⊕ ρ)}{k:σ->Option β}{p:ρ->Option β}{b:β}(h:ek o k p=some b):∃x,o=some x/\ek (some x) k p=some b:=by
 cases o with
 |none=>cases h
 |some x=>exact⟨x,rfl,h⟩
theorem da{σ ρ β:Type}{x:σ ⊕ ρ}{k:σ->Option β}{p:ρ->Option β}{b:β}{s:σ}(h:ek (some x) k p=some b)(u:x=.inl s):k s=some b:=by subst u;exact h
theorem db{σ ρ β:Type}{x:σ ⊕ ρ}{k:σ->Option β}{p:ρ->Option β}{b:β}{v:ρ}(h:ek (some x) k p=some b)(u:x=.inr v):p v=some b:=by subst u;exact h
def Av{α:Type}(l:List α)(j:Int)(a:α):List α:=l.set j.toNat a
def F9{α:Type}(j:Int)(a:α):Option (List α):=if 0<=j/\j<=4096 then some (List.replicate j.toNat a)else none
def UZ(a b:ByteArray):Option ByteArray:=if a.size+b.size<=AU then some (a++b)else none
variable{β:Type}
theorem bind_some{x:Option α}{f:α->Option β}{b:β}(h:x.bind f=some b):∃a,x=some a/\f a=some b:=Option.bind_eq_some_iff.1 h
theorem WY{c:Bool}{a b:α}{r:α}(k:c=true)(h:(if c=true then a else b)=r):a=r:=by grind
theorem WX{c:Bool}{a b:α}{r:α}(k:c=false)(h:(if c=true then a else b)=r):b=r:=by grind
structure WO(S:FuncId->Fq->Al->Prop)(K:AB->Prop)(os:List PR)(O:AB):Prop where
 of::out:wpOps S K os O
structure WP(S:FuncId->Fq->Al->Prop)(c:PC)(q:Q)(O:AB):Prop where
 of::out:c.wp S q O
section
variable{S:FuncId->Fq->Al->Prop}{K:AB->Prop}{os:List PR}{O:AB}{d:Nat}
variable{t:TV}
theorem X3{x:AE}(h:x.val O=some t):x.ev O=.tv t\/x.ev O=.ow t:=by
 unfold AE.val EV.val at h;split at h<;>simp_all
def AD.AaT:AD->Nat
 |.bin .i .quo _ _=>0|.bin .i .rem _ _=>0|.bin .s .add _ _=>0|.bin .w _ _ _=>0|.bin (.a _) _ _ _=>0|.bin ..=>1|o=>2110221010223200010221334134211003223343421200140120221211411133400441001102212411111 / 10^ o.ctorIdx % 10
theorem st(n:Nat){op:AD}{e:EV}{env':AB}(_:op.AaT=n)(h:∀p,p e env'->op.wp S O (some d) p)(k:WO S K os ((d,e)::env')):WO S K (⟨some d,op,none⟩::os) O:=⟨h (fun e O=>wpOps S K os (O.put (some d) e)) k.out⟩
theorem sn{op:AD}{env':AB}(_:op.AaT=2)(h:∀p,p EV.undef env'->op.wp S O none p)(k:WO S K os env'):WO S K (⟨none,op,none⟩::os) O:=⟨h (fun _ O=>wpOps S K os O) k.out⟩
variable{α:Type}{n:Nat}{e:α->TV}{l:List α}{j:Int}
theorem wE{x i:AE}{es row:Fq}{ik:IntKind}{a:α}(h:idx l j=some a)(p:x.val O=some (.list n es))(hi:i.val O=some (.int ik j))(he:es=l.map e)(u:(e a).cells=row)
  (k:WO S K os ((d,.tv (.pt row))::O)):WO S K (⟨some d,.iad x i n,none⟩::os) O:=by
 replace k:=k.out;refine⟨?_⟩;subst he u;simp only[wpOps,PR.wp,AD.wp,p,hi];unfold idx at h;split at h
 .rename_i w;exact⟨trivial,w,e a,by rw[List.getElem?_map,h];rfl,k⟩
 .cases h
theorem xW{x:AE}{r:Fq}(h:A3 O (x.ev O)=some (t::r))(p:t.zt=false)(k:WO S K os ((d,.tv t)::O)):WO S K (⟨some d,.ld x,none⟩::os) O:=by
 replace k:=k.out;refine⟨?_⟩;simp[wpOps,PR.wp,AD.wp,h,Ad,Gc];exact⟨p,k⟩
def eO{α:Type}(n:Nat)(e:α->TV):Option (List α)->TV
 |none=>.nil|some l=>.list n (l.map e)
theorem wF{l:Option (List α)}{x:AE}{r:Fq}(h:A3 O (x.ev O)=some (eO n e l::r))(k:WO S K os ((d,.tv (eO n e l))::O)):WO S K (⟨some d,.ld x,none⟩::os) O:=xW h (by cases l<;>rfl) k
theorem nj{x:AE}{cs:Fq}(h:A3 O (x.ev O)=some cs)(p:Nat.ble n cs.length=true)(u:TV.agg (cs.take n)=t)(k:WO S K os ((d,.tv t)::O)):WO S K (⟨some d,.lda x n,none⟩::os) O:=by
 replace k:=k.out;refine⟨?_⟩;subst u;simp[wpOps,PR.wp,AD.wp,h,Ad];exact⟨Nat.le_of_ble_eq_true p,k⟩
variable{s:Nat}
theorem wG{cs:List AR}(h:O.get s=.bx cs)(p:Nat.ble n (cs.map (·.t)).length=true)(u:TV.agg ((cs.map (·.t)).take n)=t)(k:WO S K os ((d,.tv t)::O)):WO S K (⟨some d,.ldb s n,none⟩::os) O:=by
 replace k:=k.out;refine⟨?_⟩;subst u;simp only[wpOps,PR.wp,AD.wp,h];exact⟨Nat.le_of_ble_eq_true p,k⟩
section bins
variable{x y:AE}{ik:IntKind}{a b:Int}
theorem U0{h:BK}{op:BinOp}{u v t:TV}(p:x.val O=some u)(w:y.val O=some v)(A:LV h op u v=some t)(k:WO S K os ((d,.tv t)::O)):WO S K (⟨some d,.bin h op x y,none⟩::os) O:=by
 replace k:=k.out;refine⟨?_⟩;simp[wpOps,PR.wp,AD.wp,p,w,A,Ad];exact k
theorem wP{q:Int}(h:quo a b=some q)(p:x.val O=some (.int ik a))(u:y.val O=some (.int ik b))(k:WO S K os ((d,.tv (.int ik (ik.wrap q)))::O)):WO S K (⟨some d,.bin .i .quo x y,none⟩::os) O:=by grind[U0,quo,LV,intCmp,intArith,Option.some.inj]
theorem wQ{q:Int}(h:Cf a b=some q)(p:x.val O=some (.int ik a))(u:y.val O=some (.int ik b))(k:WO S K os ((d,.tv (.int ik q))::O)):WO S K (⟨some d,.bin .i .rem x y,none⟩::os) O:=by grind[U0,Cf,LV,intCmp,intArith,Option.some.inj]
theorem wB{op:BinOp}{h:IntKind}{r:Int}(p:FX ik op a b=some r)(u:x.val O=some (.int ik a))(A:y.val O=some (.int h b))(B:ik=h\/op=.shl\/op=.shr)(k:WO S K os ((d,.tv (.int ik r))::O)):WO S K (⟨some d,.bin .w op x y,none⟩::os) O:=by grind[U0,LV]
theorem sf{u v t:ByteArray}(h:UZ u v=some t)(p:x.val O=some (.str u))(w:y.val O=some (.str v))(k:WO S K os ((d,.tv (.str t))::O)):WO S K (⟨some d,.bin .s .add x y,none⟩::os) O:=by grind[U0,UZ,LV,Option.some.inj]
theorem jO{n:QQ}{cs ds:Fq}{r:Bool}(p:x.val O=some (.agg cs))(u:y.val O=some (.agg ds))(w:cs.map TV.kd=n)(h:B1 cs ds=some r)(k:WO S K os ((d,.tv (.bool r))::O)):WO S K (⟨some d,.bin (.a n) .eql x y,none⟩::os) O:=by grind[U0,LV]
theorem jP{n:QQ}{cs ds:Fq}{r:Bool}(p:x.val O=some (.agg cs))(u:y.val O=some (.agg ds))(w:cs.map TV.kd=n)(h:B1 cs ds=some r)(k:WO S K os ((d,.tv (.bool (!r)))::O)):WO S K (⟨some d,.bin (.a n) .neq x y,none⟩::os) O:=by grind[U0,LV]
end bins
variable{t:TV}
theorem ph{c a b:AE}{q:Bool}(p:c.val O=some (.bool q))(u:q=true)(h:a.val O=some t)(k:WO S K os ((d,.tv t)::O)):WO S K (⟨some d,.pick c a b,none⟩::os) O:=by
 replace k:=k.out;refine⟨?_⟩;subst u;simp[wpOps,PR.wp,AD.wp,p];rcases X3 h with h|h<;>rw[h]<;>exact k
theorem pf{c a b:AE}{q:Bool}(p:c.val O=some (.bool q))(u:q=false)(h:b.val O=some t)(k:WO S K os ((d,.tv t)::O)):WO S K (⟨some d,.pick c a b,none⟩::os) O:=by
 replace k:=k.out;refine⟨?_⟩;subst u;simp[wpOps,PR.wp,AD.wp,p];rcases X3 h with h|h<;>rw[h]<;>exact k
variable{α:Type}{n:Nat}{e:α->TV}{l:List α}
theorem wH{x:AE}{es:Fq}(h:x.val O=some (.list n es))(he:es=l.map e)(k:WO S K os ((d,.tv (.int .i64 l.length))::O)):WO S K (⟨some d,.len x,none⟩::os) O:=by
 replace k:=k.out;refine⟨?_⟩;subst he;simp[wpOps,PR.wp,AD.wp,h];exact k
variable{m:List α}
theorem bO{a b:Int}(h:y9 l a b=some m):((0<=a/\a<=b)/\b<=l.length)/\m=(l.take b.toNat).drop a.toNat:=by
 unfold y9 at h
 grind
variable{ka kb:IntKind}
theorem wR{x:AE}{lo hi:Option AE}{es:Fq}{a b:Int}(A:y9 l a b=some m)(h:x.val O=some (.list n es))(he:es=l.map e)(p:Gh O 0 lo=some (.int ka a))(u:Gh O l.length hi=some (.int kb b))
  (k:WO S K os ((d,.tv (.list n (m.map e)))::O)):WO S K (⟨some d,.y9 n x lo hi,none⟩::os) O:=by
 replace k:=k.out;refine⟨?_⟩;subst he;obtain⟨⟨w,B⟩,C⟩:=bO A;subst C;simp only[wpOps,PR.wp,AD.wp,h,c8,p,u];refine⟨⟨trivial,w.1,w.2⟩,B,?_⟩;rw[List.map_drop,List.map_take]at k;exact k
theorem si{x:AE}{lo hi:Option AE}{s t:ByteArray}{a b:Int}(p:yu s a b=some t)(h:x.val O=some (.str s))(u:Gh O 0 lo=some (.int ka a))(w:Gh O s.size hi=some (.int kb b))
  (k:WO S K os ((d,.tv (.str t))::O)):WO S K (⟨some d,.yu x lo hi,none⟩::os) O:=by
 replace k:=k.out;refine⟨?_⟩;unfold yu at p;split at p
 .rename_i A;cases p;simp[wpOps,PR.wp,AD.wp,h,u,w];exact⟨A.1,A.2.1,A.2.2,k⟩
 .cases p
variable{zero:Fq}{parts:List (Nat×Nat×AE)}
theorem ZO{ts:List (Nat×Nat×TV)}{cs:Fq}(h:GP O parts=some ts)(p:Ed zero ts=some cs)(u:TV.agg cs=t)(k:WO S K os ((d,.tv t)::O)):WO S K (⟨some d,.z7 zero parts,none⟩::os) O:=by
 replace k:=k.out;refine⟨?_⟩;subst u;simp[wpOps,PR.wp,AD.wp,h,Ad,p];exact k
def Vo:Nat->List (Nat×Nat×TV)->Bool
 |_,[]=>true|k,(i,n,t)::r=>Nat.beq i k&&Nat.beq t.cells.length n&&Vo (k+n) r
def IE:List (Nat×Nat×TV)->Fq
 |[]=>[]|(_,_,t)::r=>t.cells++IE r
theorem UO:∀(ds done k rest:Fq),k.length=ds.length->O1 (done++(k++rest)) done.length ds=done++(ds++rest)
 |[],done,k,rest,h=>by
  have:k=[]:=List.eq_nil_of_length_eq_zero (by simpa using h);subst this;rfl
 |d::ds,done,[],rest,h=>by simp at h|d::ds,done,m::k,rest,h=>by
  simp only[O1];rw[List.cons_append,List.set_append_right _ _ (b6 _),Nat.sub_self,List.set_cons_zero];have:=UO ds (done++[d]) k rest (by simpa using h);simpa using this
theorem X9:∀(ts:List (Nat×Nat×TV))(done rest:Fq),Vo done.length ts=true->(IE ts).length=rest.length->Ed (done++rest) ts=some (done++IE ts)
 |[],done,rest,_,h=>by
  have:rest=[]:=List.eq_nil_of_length_eq_zero (by simpa[IE]using h.symm);subst this;rfl
 |(i,n,t)::r,done,rest,p,h=>by
  simp [Vo]at p;obtain⟨⟨rfl,k⟩,A⟩:=p;simp[IE]at h;have u:n<=rest.length:=by omega
  simp only[Ed];rw[ae ⟨k,by rw[bk];omega⟩];have w:rest=rest.take n++rest.drop n:=(List.take_append_drop n rest).symm;rw[w,UO t.cells done (rest.take n) (rest.drop n) (by rw[cE];omega),<-c9];rw[X9 r (done++t.cells) (rest.drop n) (by rw[bk,k];exact A) (by rw[List.length_drop];omega)];simp[IE]
theorem sa{ts:List (Nat×Nat×TV)}(h:GP O parts=some ts)(p:Vo 0 ts=true)(u:Nat.beq (IE ts).length zero.length=true)(w:TV.agg (IE ts)=t)(k:WO S K os ((d,.tv t)::O)):WO S K (⟨some d,.z7 zero parts,none⟩::os) O:=
 ZO h (by have:=X9 ts [] zero p (Nat.eq_of_beq_eq_true u);simpa using this) w k
variable{ts:Fq}
theorem nk{parts:List AE}(h:vals O parts=some ts)(he:ts=l.map e)(p:∀a,(e a).cells.length=n)(k:WO S K os ((d,.ow (.list n (l.map e)))::O)):WO S K (⟨some d,.lst n parts,none⟩::os) O:=by
 replace k:=k.out;refine⟨?_⟩;subst he;simp[wpOps,PR.wp,AD.wp,h,Ad];refine⟨fun t u=>?_,k⟩
 grind
variable{s:Nat}{r:List α}
theorem ng{y:AE}{es p rs:Fq}(h:AT l m=some r)(u:O.get s=.ow (.list n es))(w:y.val O=some (.list n p))(he:es=l.map e)(hf:p=m.map e)(A:rs=r.map e)
  (k:WO S K os ((d,.ow (.list n rs))::(s,.tv (.list n es))::O)):WO S K (⟨some d,.app n (.s s) y,none⟩::os) O:=by
 replace k:=k.out;refine⟨?_⟩;subst hf A;unfold AT at h;split at h
 .rename_i B;cases h;simp only[wpOps,PR.wp,AD.wp,AE.ev,u,w,he,c8];rw[he]at k;refine⟨by simp,by simp,B,?_⟩;rw[List.map_append]at k;exact k
 .cases h
variable{f:FuncId}
theorem sb{args:List AE}(h:vals O args=some ts)(p:S f ts (.sh t))(k:WO S K os ((d,.tv t)::O)):WO S K (⟨some d,.call f args,none⟩::os) O:=by
 replace k:=k.out;refine⟨?_⟩;simp[wpOps,PR.wp,AD.wp,h,Ad];exact⟨_,⟨p,rfl⟩,fun _=>k⟩
theorem sg{x i:AE}{s:ByteArray}{ik:IntKind}{j b:Int}(p:za s j=some b)(h:x.val O=some (.str s))(hi:i.val O=some (.int ik j))(k:WO S K os ((d,.tv (.int .u8 b))::O)):WO S K (⟨some d,.za x i,none⟩::os) O:=by
 replace k:=k.out;refine⟨?_⟩;unfold za at p;split at p
 .rename_i u;rw[Option.map_eq_some_iff]at p;obtain⟨c,w,rfl⟩:=p;simp[wpOps,PR.wp,AD.wp,h,hi];exact⟨u,c,w,k⟩
 .cases p
theorem se{mx:Bool}{x y:AE}{ik:IntKind}{a b:Int}(h:x.val O=some (.int ik a))(p:y.val O=some (.int ik b))(k:WO S K os ((d,.tv (.int ik (if mx then max a b else min a b)))::O)):WO S K (⟨some d,.mm mx x y,none⟩::os) O:=by
 replace k:=k.out;refine⟨?_⟩;simp only[wpOps,PR.wp,AD.wp,h,p];exact⟨trivial,k⟩
theorem wI{x y:AE}{ik:IntKind}{a b:Int}(h:x.val O=some (.int ik a))(p:y.val O=some (.int ik b))(k:WO S K os ((d,.tv (.int ik (max a b)))::O)):WO S K (⟨some d,.mm true x y,none⟩::os) O:=se h p k
theorem wJ{x y:AE}{ik:IntKind}{a b:Int}(h:x.val O=some (.int ik a))(p:y.val O=some (.int ik b))(k:WO S K os ((d,.tv (.int ik (min a b)))::O)):WO S K (⟨some d,.mm false x y,none⟩::os) O:=se h p k
variable{off:Nat}
theorem xX{x v:AE}{cs cs':List AR}(h:x.place O=some (s,off))(p:O.get s=.bx cs)(hv:v.ev O=.tv t)(u:t.cells.length=n)(w:Nat.ble (off+n) cs.length=true)(A:cs.take off++t.cells.map (⟨false,·⟩)++cs.drop (off+n)=cs')
  (k:WO S K os ((s,.bx cs')::O)):WO S K (⟨none,.st n x v,none⟩::os) O:=by
 replace k:=k.out;refine⟨?_⟩;subst A;simp only[wpOps,PR.wp,AD.wp,h,p,hv];exact⟨u,Nat.le_of_ble_eq_true w,k⟩
theorem wU{s off q:Nat}{x:AE}{cs cs':List AR}(h:x.place O=some (s,off))(p:O.get s=.bx cs)(hv:O.get q=.ow t)(u:q≠s)(w:Nat.blt off cs.length=true)(A:cs.set off ⟨true,t⟩=cs')
  (k:WO S K os ((s,.bx cs')::(q,.tv t)::O)):WO S K (⟨none,.st 1 x (.s q),none⟩::os) O:=by
 replace k:=k.out;refine⟨?_⟩;subst A;simp only[wpOps,PR.wp,AD.wp,h,p,AE.ev,hv];exact⟨u,trivial,Nat.le_of_ble_eq_true w,k⟩
variable{v:AE}
theorem wT{cs cs':List AR}(h:O.get s=.bx cs)(hv:v.ev O=.tv t)(p:t.cells.length=n)(u:Nat.ble (0+n) cs.length=true)(w:cs.take 0++t.cells.map (⟨false,·⟩)++cs.drop (0+n)=cs')
  (k:WO S K os ((s,.bx cs')::O)):WO S K (⟨none,.stb n s v,none⟩::os) O:=by
 replace k:=k.out;refine⟨?_⟩;subst w;simp only[wpOps,PR.wp,AD.wp,h,hv];exact⟨p,Nat.le_of_ble_eq_true u,k⟩
theorem wD{cs:List AR}{row:Fq}(h:O.get s=.bx cs)(p:cs.map (·.t)=row)(k:WO S K os ((s,.tv (.pt row))::O)):WO S K (⟨none,.frz s,none⟩::os) O:=by
 replace k:=k.out;refine⟨?_⟩;subst p;simp[wpOps,PR.wp,AD.wp,h];exact k
theorem pZ{args:List AE}{cs:List AR}(h:vals O args=some ts)(p:S f ts (.yr cs))(u:TV.agg (cs.map fun c=>c.rel.t)=t)(k:WO S K os ((d,.tv t)::O)):WO S K (⟨some d,.call f args,none⟩::os) O:=by
 replace k:=k.out;refine⟨?_⟩;subst u;simp[wpOps,PR.wp,AD.wp,h,Ad];exact⟨_,⟨p,rfl⟩,fun _=>k⟩
theorem ni{x:AE}{es:Fq}(h:x.val O=some (.list n es))(he:es=l.map e)(k:∀b:Bool,(b=true->l=[])->WO S K os ((d,.tv (.bool b))::O)):WO S K (⟨some d,.isn x,none⟩::os) O:=by
 replace k:=fun b p=>(k b p).out;refine⟨?_⟩;simp only[wpOps,PR.wp,AD.wp,h];intro b p;refine k b fun u=>?_;have:=p u;rw[he]at this;simpa using this
theorem sd{x:AE}(h:x.val O=some .nil)(k:WO S K os ((d,.tv (.bool true))::O)):WO S K (⟨some d,.isn x,none⟩::os) O:=by
 replace k:=k.out;refine⟨?_⟩;simp[wpOps,PR.wp,AD.wp,h];exact k
theorem oH(h:AT [] l=some r)(b:Bool)(k:b=true->l=[]):(if b=true then some []else(AT [] l).bind fun x=>some x)=some r:=by grind[AT]
variable{j:Int}
theorem Ga{a:α}(h:idx l j=some a):0<=j/\j<l.length/\l[j.toNat]?=some a:=by
 unfold idx at h
 grind
theorem cf(p:∀a,(e a).cells.length=n):∀(l:List α)(j k:Nat)(a:α),l[j]?=some a->k<n->((l.map e).flatMap TV.cells)[j*n+k]?=(e a).cells[k]?
 |[],j,k,a,h,_=>by simp at h|b::l,0,k,a,h,u=>by
  grind
 |b::l,j+1,k,a,h,u=>by
  rw [List.getElem?_cons_succ]at h;rw[List.map_cons,List.flatMap_cons,List.getElem?_append_right (by rw[p,Nat.add_mul];omega),p,show(j+1)*n+k-n=j*n+k from by rw[Nat.add_mul];omega];exact cf p l j k a h u
theorem Z1(p:∀a,(e a).cells.length=n)(t:TV):∀(l:List α)(j k:Nat)(a b:α),l[j]?=some a->k<n->(e b).cells=(e a).cells.set k t->((l.set j b).map e).flatMap TV.cells=((l.map e).flatMap TV.cells).set (j*n+k) t
 |[],j,k,a,b,h,_,_=>by simp at h|c::l,0,k,a,b,h,u,w=>by
  grind
 |c::l,j+1,k,a,b,h,u,w=>by
  rw [List.getElem?_cons_succ]at h;rw[List.set_cons_succ,List.map_cons,List.map_cons,List.flatMap_cons,List.flatMap_cons,List.set_append_right _ _ (by rw[p,Nat.add_mul];omega),p,show(j+1)*n+k-n=j*n+k from by rw[Nat.add_mul];omega,Z1 p t l j k a b h u w]
theorem kS(h:∀a,(e a).cells.length=n)(l:List α):((l.map e).flatMap TV.cells).length=l.length*n:=by
 induction l with
 |nil=>simp|cons b l k=>rw[List.map_cons,List.flatMap_cons,bk,k,h,c7,Nat.add_mul];omega
theorem T4(h:∀a,(e a).flat=true):∀(l:List α),TV.ye (l.map e)=true
 |[]=>rfl|a::l=>by simp[TV.ye,h a,T4 h l]
theorem sj{x:AE}{q:Nat×Option Nat}{es:Fq}(h:x.ya O=some (q,n,es))(he:es=l.map e)(k:WO S K os ((d,.tv (.int .i64 l.length))::O)):WO S K (⟨some d,.Aas x,none⟩::os) O:=by
 replace k:=k.out;refine⟨?_⟩;subst he;simp[wpOps,PR.wp,AD.wp,h,Ad];exact k
variable{qi:Option Nat}
theorem wV{x i:AE}{q n:Nat}{es:Fq}{ik:IntKind}{a:α}(p:idx l j=some a)(h:x.ya O=some ((q,qi),n,es))(hi:i.val O=some (.int ik j))(he:es=l.map e)(u:(x.ev O).yc=some q)
  (k:WO S K os ((d,.lp q qi (j.toNat*n))::O)):WO S K (⟨some d,.xia x i n,none⟩::os) O:=by
 replace k:=k.out;refine⟨?_⟩;subst he;obtain⟨w,A,_⟩:=Ga p;simp only[wpOps,PR.wp,AD.wp,h,hi,Ad,c8];exact⟨⟨u,trivial⟩,w,A,k⟩
theorem np{x:AE}{q c n i:Nat}{es row:Fq}{a:α}(h:x.ev O=.lp q qi c)(p:O.x4 q qi=some (n,es))(he:es=l.map e)(u:∀a,(e a).cells.length=n)(w:idx l j=some a)(A:c=j.toNat*n+i)(hi:Nat.blt i n=true)(B:(e a).cells=row)(C:row[i]?=some t)
  (k:WO S K os ((d,.tv t)::O)):WO S K (⟨some d,.xld x,none⟩::os) O:=by
 replace k:=k.out;refine⟨?_⟩;subst he A B;have hf:=cf u l j.toNat i a (Ga w).2.2 (Nat.le_of_ble_eq_true hi);simp[wpOps,PR.wp,AD.wp,h,p,hf,C,Ad];exact k
theorem nq{x v:AE}{q c n i:Nat}{env':AB}{es rs:Fq}{a b:α}(h:x.ev O=.lp q qi c)(F:O.x4 q qi=some (n,es))(hv:v.ev O=.tv t)(he:es=l.map e)(w:∀a,(e a).cells.length=n)(G:idx l j=some a)(H:c=j.toNat*n+i)(hi:Nat.blt i n=true)(D:t.cells=[t])
  (I:(e b).cells=(e a).cells.set i t)(J:rs=(Av l j b).map e)(A:O.ym q qi n rs=env')(k:WO S K os env'):WO S K (⟨none,.xst x v 1,none⟩::os) O:=by
 replace k:=k.out;refine⟨?_⟩;subst he H J A;obtain⟨N,P,E⟩:=Ga G;have B:i<n:=Nat.le_of_ble_eq_true hi;have p:j.toNat<l.length:=(List.getElem?_eq_some_iff.1 E).1;simp only[wpOps,PR.wp,AD.wp,h,F,hv];have C:j.toNat*n+i<l.length*n:=calc j.toNat*n+i<j.toNat*n+n:=by omega
   _=(j.toNat+1)*n:=by rw[Nat.add_mul];omega
   _<=l.length*n:=Nat.mul_le_mul_right _ p
 refine ⟨⟨by rw[D];rfl,by omega⟩,?_,_,(Z1 w t l j.toNat i a b E B I).trans (by rw[D,List.set_eq_take_append_cons_drop,ae (by rw[kS w];exact C)];simp),by simp,fun u L=>?_,k⟩
 .rw[c8]
  calc j.toNat*n+i<j.toNat*n+n:=by omega
   _=(j.toNat+1)*n:=by rw[Nat.add_mul];omega
   _<=l.length*n:=Nat.mul_le_mul_right _ p
 .obtain⟨M,_,rfl⟩:=List.mem_map.1 L;exact w M
theorem Z0(k:∀a,(e a).cells.length=n):∀(l:List α)(j:Nat)(b:α),j<l.length->((l.set j b).map e).flatMap TV.cells=((l.map e).flatMap TV.cells).take (j*n)++(e b).cells++((l.map e).flatMap TV.cells).drop (j*n+n)
 |[],j,b,h=>by simp at h|c::l,0,b,h=>by
  grind
 |c::l,j+1,b,h=>by
  rw [List.set_cons_succ,List.map_cons,List.map_cons,List.flatMap_cons,List.flatMap_cons,Z0 k l j b (by simpa using h),show(j+1)*n=(e c).cells.length+j*n from by rw[k,Nat.add_mul];omega,Nat.add_assoc,List.take_length_add_append,List.drop_length_add_append,c9,c9,c9]
theorem nt{x v:AE}{q n:Nat}{env':AB}{es:Fq}{a b:α}(h:x.ev O=.lp q qi (j.toNat*n))(D:O.x4 q qi=some (n,es))(hv:v.ev O=.tv (e b))(he:es=l.map e)(w:∀a,(e a).cells.length=n)(E:idx l j=some a)(F:Nat.blt 0 n=true)
  (A:O.ym q qi n ((Av l j b).map e)=env')(k:WO S K os env'):WO S K (⟨none,.xst x v n,none⟩::os) O:=by
 replace k:=k.out;refine⟨?_⟩;subst he A;obtain⟨J,L,H⟩:=Ga E;have B:0<n:=Nat.le_of_ble_eq_true F;have p:j.toNat<l.length:=(List.getElem?_eq_some_iff.1 H).1;have C:j.toNat*n+n<=l.length*n:=calc j.toNat*n+n=(j.toNat+1)*n:=by rw[Nat.add_mul];omega
   _<=l.length*n:=Nat.mul_le_mul_right _ p
 simp only[wpOps,PR.wp,AD.wp,h,D,hv];refine⟨⟨w b,B⟩,by rw[c8];exact C,_,Z0 w l j.toNat b p,by simp,fun u G=>?_,k⟩;obtain⟨I,_,rfl⟩:=List.mem_map.1 G;exact w I
theorem sY{y:AE}{es p rs:Fq}(h:AT l m=some r)(u:O.get s=.xo n es)(w:y.val O=some (.list n p))(he:es=l.map e)(hf:p=m.map e)(A:rs=r.map e)(B:O.gt d=true)(hd:d≠s)
  (k:WO S K os ((d,.xo n rs)::(s,.undef)::O)):WO S K (⟨some d,.zY n s y,none⟩::os) O:=by
 replace k:=k.out;refine⟨?_⟩;subst he hf A;unfold AT at h;split at h
 .rename_i C;cases h;simp only[wpOps,PR.wp,AD.wp,u,w,c8];rw[List.map_append]at k;exact⟨trivial,trivial,C,B,hd,k⟩
 .cases h
theorem l5{args:List AE}{ts es:Fq}(h:O.gt d=true)(p:vals O args=some ts)(u:S f ts (.own (.list n es)))(he:es=l.map e)(hf:∀a,(e a).flat=true)(k:WO S K os ((d,.xo n es)::O)):WO S K (⟨some d,.zl f args,none⟩::os) O:=by
 replace k:=k.out;refine⟨?_⟩;simp[wpOps,PR.wp,AD.wp,p,Ad];exact⟨h,n,es,.inr ⟨u,by rw[he];exact T4 hf l⟩,fun _=>k⟩
variable{rs:Fq}{z:α}
theorem wL{x:AE}{ik:IntKind}(h:F9 j z=some r)(u:O.gt d=true)(w:x.val O=some (.int ik j))(A:(match zero with|[t]=>t|ts=>.agg ts)=e z)(B:rs=r.map e)
  (k:WO S K os ((d,.xo n rs)::O)):WO S K (⟨some d,.z8 n zero x,none⟩::os) O:=by
 replace k:=k.out;refine⟨?_⟩;subst B;unfold F9 at h;split at h
 .rename_i p;cases h;rw[List.map_replicate,<-A]at k;simp[wpOps,PR.wp,AD.wp,w];exact⟨u,p.1,p.2,k⟩
 .cases h
theorem wC{hi:AE}{es rs:Fq}{ik:IntKind}(h:y9 l 0 j=some r)(u:O.get s=.xo n es)(w:hi.val O=some (.int ik j))(he:es=l.map e)(A:rs=r.map e)(B:O.gt d=true)(hd:d≠s)(k:WO S K os ((d,.xo n rs)::(s,.undef)::O)):WO S K (⟨some d,.cut n s hi,none⟩::os) O:=by
 replace k:=k.out;refine⟨?_⟩;subst he A;obtain⟨⟨C,D⟩,p⟩:=bO h;subst p;simp only[wpOps,PR.wp,AD.wp,u,w];refine⟨⟨trivial,B,hd⟩,C.2,by rw[c8];exact D,?_⟩;have p:((l.take j.toNat).drop (0:Int).toNat).map e=(l.map e).take j.toNat:=by simp
 rw [p]at k;exact k
theorem lz{args:List AE}{ts es:Fq}(h:yZ O args=some ts)(p:S f ts (.own t))(u:t=.list n es)(he:es=l.map e)(hf:∀a,(e a).flat=true)(k:WO S K os ((d,.ow t)::O)):WO S K (⟨some d,.zx f args,none⟩::os) O:=by
 replace k:=k.out;refine⟨?_⟩;subst u he;simp[wpOps,PR.wp,AD.wp,h,Ad];exact⟨_,⟨p,T4 hf l⟩,fun _=>k⟩
def Zb{α:Type}(l:List α)(j:Int)(z:α):Option (List α):=if(0<=j/\j<=4096)/\l.length+j.toNat<=AU then some (l++List.replicate j.toNat z)else none
theorem sZ{p:TV}{x:AE}{es rs:Fq}{ik:IntKind}(h:Zb l j z=some r)(A:O.get s=.xo n es)(B:x.val O=some (.int ik j))(he:es=l.map e)(C:p=e z)(D:rs=r.map e)(E:O.gt d=true)(hd:d≠s)(u:n=1)(F:p.cells=[p])(k:WO S K os ((d,.xo n rs)::(s,.undef)::O)):WO S K (⟨some d,.Aae n s p x,none⟩::os) O:=by
 replace k:=k.out;refine⟨?_⟩;subst he D;unfold Zb at h;split at h
 .rename_i w;cases h;simp only[wpOps,PR.wp,AD.wp,A,B];refine⟨⟨⟨trivial,u⟩,F⟩,w.1,⟨by rw[c8];exact w.2,E,hd⟩,?_⟩;rw[List.map_append,List.map_replicate,<-C]at k;exact k
 .cases h
variable{i:Nat}
theorem pY{args:List AE}{ts h:Fq}{cs cs':List AR}{e:EV}(p:(args[i]?).bind (·.place O)=some (s,0))(u:O.get s=.bx cs)(w:O.noX s none=true)(hd:d≠s)(A:H6 O i args=some ts)(B:S f ts (.bo cs cs' i h))(he:EV.ofs h=e)(k:WO S K os ((d,e)::(s,.bx cs')::O)):WO S K (⟨some d,.y6 f args i,none⟩::os) O:=by
 replace k:=k.out;refine⟨?_⟩;subst he;simp only[wpOps,PR.wp,AD.wp,p,u,A,Ad];exact⟨⟨w,hd⟩,cs',h,B,fun _=>k⟩
def Xa{α:Type}(l:List α):Option Unit:=if l.isEmpty then none else some ()
theorem gx{u:Unit}{b:Bool}(h:Xa l=some u)(k:b=true->l=[]):b=false:=by
 cases b with
 |false=>rfl|true=>rw[k rfl]at h;cases h
variable{g:Nat}
theorem xO{h:Option Nat}{op:AD}{b q:Bool}(p:O.get g=.tv (.bool q))(u:q=b)(k:WO S K (⟨h,op,none⟩::os) O):WO S K (⟨h,op,some (g,b)⟩::os) O:=by
 replace k:=k.out;refine⟨?_⟩
 grind [wpOps,PR.wp]
theorem vB{d:Nat}{op:AD}{b q:Bool}(p:O.get g=.tv (.bool q))(u:q=!b)(k:WO S K os ((d,.sk)::O)):WO S K (⟨some d,op,some (g,b)⟩::os) O:=by
 replace k:=k.out;refine⟨?_⟩;subst u;simp only[wpOps,PR.wp,p];exact⟨fun h=>by cases b<;>simp at h,fun _=>k⟩
theorem xP{d:Nat}{op:AD}{b:Bool}(h:O.get g=.sk)(k:WO S K os ((d,.sk)::O)):WO S K (⟨some d,op,some (g,b)⟩::os) O:=by
 replace k:=k.out;refine⟨?_⟩;simp[wpOps,PR.wp,h];exact k
theorem bc(xs ys:List PR)(O:AB):wpOps S K (xs++ys) O=wpOps S (wpOps S K ys) xs O:=by
 induction xs generalizing O with
 |nil=>rfl|cons x xs h=>
  simp only[List.cons_append,wpOps];congr 1;funext e;exact h e
theorem vA{ops:List PR}(n:Nat)(M:AB->AB->Prop)(h:WO S (M O) (ops.take n) O)(k:∀e,M O e->WO S K (ops.drop n) e):WO S K ops O:=by
 refine ⟨?_⟩;rw[<-List.take_append_drop n ops,bc];exact QI S (fun e he=>(k e he).out) _ O h.out
variable{q:Q}{a b:PC}
theorem ur(h:WP S a ⟨fun e=>(∀s,(e.get s).WF)->WP S b q e,q.exit,q.ret⟩ O):WP S (.seq a b) q O:=⟨PC.og S a _ O h.out _ (fun _ he k=>(he k).out) (fun _ _ h=>h) (fun _ h=>h)⟩
theorem qt{live:QQ}{env':AB}(k:O.fm live=env')(h:q.normal env'):WP S (.skip live) q O:=by subst k;exact⟨h⟩
theorem qr{live:QQ}{env':AB}(k:O.fm live=env')(h:q.exit i env'):WP S (.exit i live) q O:=by subst k;exact⟨h⟩
theorem WB{x:AE}{c:Bool}(k:x.val O=some (.bool c))(p:c=true->WP S a q O)(hf:c=false->WP S b q O):WP S (.cond x a b) q O:=by
 refine ⟨?_⟩;simp[PC.wp,k];exact⟨fun h=>(p h).out,fun h=>(hf h).out⟩
theorem Rj{x:AE}{c:Bool}(k:x.val O=some (.bool c))(h:c=true)(p:WP S a q O):WP S (.cond x a b) q O:=by grind[WB]
theorem Ri{x:AE}{c:Bool}(k:x.val O=some (.bool c))(h:c=false)(p:WP S b q O):WP S (.cond x a b) q O:=by grind[WB]
theorem XL(h:WP S a ⟨q.normal,fun j e=>if j=i then q.normal e else q.exit j e,q.ret⟩ O):WP S (.block i a) q O:=⟨h.out⟩
theorem Zr{x y:Prop}(h:x):if i=i then x else y:=by rw[ae rfl];exact h
theorem oL{i j:Nat}{x y:Prop}(k:i≠j)(h:y):if i=j then x else y:=by rw[az k];exact h
theorem uq(M:AB->Prop)(k:WP S a ⟨M,q.exit,q.ret⟩ O)(p:∀e,M e->q.normal e):WP S a q O:=⟨PC.og S a _ O k.out q p (fun _ _ h=>h) (fun _ h=>h)⟩
section loops
variable{σ ρ:Type}{live:QQ}{c:PC}{i0:Nat}
variable{X:AB->Prop}
theorem nB{f:Int->σ->Option (Bf σ ρ)}{b:Int}(I:Int->σ->AB)(J:σ->AB)(R:ρ->AB->Prop)
  (p:∀i s r,i<b->f i s=some r->(∀k,((I i s).get k).WF)->c.wp S ⟨fun e=>∃s',r=.next s'/\e.fm live=I (i+1) s',fun j e=>j=i0/\∃s',r=.brk s'/\e=J s',fun e=>∃v,r=.ret v/\R v e⟩ (I i s))
  (u:∀i s,¬i<b->c.wp S ⟨fun _=>False,fun j e=>j=i0/\e=J s,fun _=>False⟩ (I i s))
  (hX:∀e,((∀s,(e.get s).WF)->c.wp S {q with normal:=fun C=>X (C.fm live)} e)->X e)(F:∀s,q.exit i0 (J s)\/True):
  ∀(n:Nat)(i:Int)(s:σ),n=(b-i).toNat->∀o,x9 f n i s=some o->(∀s',o=.inl s'->q.exit i0 (J s'))->(∀v e,o=.inr v->R v e->q.ret e)->X (I i s):=by
 intro n
 induction n with
 |zero=>
  intro i s D o ho w A;refine hX _ fun B=>?_;refine PC.og S c _ _ (u i s (by omega)) _ (fun _ h=>h.elim) (fun j e he=>?_) (fun _ h=>h.elim);obtain⟨rfl,rfl⟩:=he;simp[x9]at ho;exact w s ho.symm
 |succ n E=>
  intro i s D o ho w A;simp[x9]at ho;refine hX _ fun B=>?_;cases hf:f i s with
  |none=>rw[hf]at ho;cases ho
  |some r=>
   rw [hf]at ho;refine PC.og S c _ _ (p i s r (by omega) hf B) _ (fun e he=>?_) (fun j e he=>?_) (fun e he=>?_)
   .obtain⟨s',rfl,he⟩:=he;show X (e.fm live);rw[he];exact E (i+1) s' (by omega) o ho w A
   .obtain⟨rfl,s',rfl,rfl⟩:=he;simp at ho;exact w s' ho.symm
   .obtain⟨v,rfl,he⟩:=he;simp at ho;exact A v e ho.symm he
variable{s0:σ}{o:σ ⊕ ρ}
theorem dk{f:Int->σ->Option (Bf σ ρ)}{lo b:Int}(ho:kg f lo b s0=some o)(I:Int->σ->AB)(J:σ->AB)(R:ρ->AB->Prop)(w:O.fm live=I lo s0)
  (p:∀i s r,i<b->f i s=some r->(∀k,((I i s).get k).WF)->WP S c ⟨fun e=>∃s',r=.next s'/\e.fm live=I (i+1) s',fun j e=>j=i0/\∃s',r=.brk s'/\e=J s',fun e=>∃v,r=.ret v/\R v e⟩ (I i s))
  (u:∀i s,¬i<b->WP S c ⟨fun _=>False,fun j e=>j=i0/\e=J s,fun _=>False⟩ (I i s))
  (A:∀s',o=.inl s'->q.normal (J s'))(B:∀v e,o=.inr v->R v e->q.ret e):WP S (.block i0 (.loop live c)) q O:=by
 refine XL ⟨?_⟩;intro X hX;rw[w];refine nB (q:=⟨q.normal,fun j e=>if j=i0 then q.normal e else q.exit j e,q.ret⟩) I J R (fun i s r C D E=>(p i s r C D E).out) (fun i s h=>(u i s h).out) hX (fun _=>.inr trivial) _ lo s0 rfl o ho ?_ B;intro s' F;exact Zr (A s' F)
theorem cg{f:Int->σ->Option σ}:∀(n:Nat)(i:Int)(s o:σ),yy f n i s=some o->x9 (fun i s=>(f i s).map (Bf.next (ρ:=Empty))) n i s=some (.inl o)
 |0,_,_,_,h=>by simp[yy]at h;subst h;rfl|n+1,i,s,o,h=>by
  simp [yy]at h;simp[x9];cases hf:f i s with
  |none=>rw[hf]at h;cases h
  |some s'=>rw[hf]at h;simp;exact cg n (i+1) s' o h
theorem p6{f:Int->σ->Option σ}{lo b:Int}{s0 o:σ}(ho:nd f lo b s0=some o)(I:Int->σ->AB)(J:σ->AB)(w:O.fm live=I lo s0)
  (p:∀i s r,i<b->f i s=some r->(∀k,((I i s).get k).WF)->WP S c ⟨fun e=>e.fm live=I (i+1) r,fun _ _=>False,fun _=>False⟩ (I i s))
  (u:∀i s,¬i<b->WP S c ⟨fun _=>False,fun j e=>j=i0/\e=J s,fun _=>False⟩ (I i s))
  (A:q.normal (J o)):WP S (.block i0 (.loop live c)) q O:=by
 refine dk (f:=fun i s=>(f i s).map (Bf.next (ρ:=Empty))) (o:=.inl o) (cg _ _ _ _ ho) I J (fun _ _=>False) w ?_ u ?_ ?_
 .intro i s r hi hf B;simp at hf;obtain⟨s',hf,rfl⟩:=hf;exact⟨PC.og S c _ _ (p i s s' hi hf B).out _ (fun e he=>⟨s',rfl,he⟩) (fun _ _ h=>h.elim) (fun _ h=>h.elim)⟩
 .intro s' h;cases h;exact A
 .intro v;cases v
theorem p8{f:σ->Option (Bf σ ρ)}(I:σ->AB)(J:σ->AB)(R:ρ->AB->Prop)
  (h:∀s r,f s=some r->(∀k,((I s).get k).WF)->c.wp S ⟨fun e=>∃s',r=.next s'/\e.fm live=I s',fun j e=>j=i0/\∃s',r=.brk s'/\e=J s',fun e=>∃v,r=.ret v/\R v e⟩ (I s))
  (hX:∀e,((∀s,(e.get s).WF)->c.wp S {q with normal:=fun w=>X (w.fm live)} e)->X e):
  ∀(n:Nat)(s:σ)(o:σ ⊕ ρ),Rc f n s=some o->(∀s',o=.inl s'->q.exit i0 (J s'))->(∀v e,o=.inr v->R v e->q.ret e)->X (I s):=by
 intro n
 induction n with
 |zero=>intro s o ho;cases ho
 |succ n B=>
  intro s o ho p u;simp[Rc]at ho;refine hX _ fun A=>?_;cases hf:f s with
  |none=>rw[hf]at ho;cases ho
  |some r=>
   rw [hf]at ho;refine PC.og S c _ _ (h s r hf A) _ (fun e he=>?_) (fun j e he=>?_) (fun e he=>?_)
   .obtain⟨s',rfl,he⟩:=he;show X (e.fm live);rw[he];exact B s' o ho p u
   .obtain⟨rfl,s',rfl,rfl⟩:=he;simp at ho;exact p s' ho.symm
   .obtain⟨v,rfl,he⟩:=he;simp at ho;exact u v e ho.symm he
theorem tS{f:σ->Option (Bf σ ρ)}(ho:Ca f s0=some o)(I:σ->AB)(J:σ->AB)(R:ρ->AB->Prop)(p:O.fm live=I s0)
  (h:∀s r,f s=some r->(∀k,((I s).get k).WF)->WP S c ⟨fun e=>∃s',r=.next s'/\e.fm live=I s',fun j e=>j=i0/\∃s',r=.brk s'/\e=J s',fun e=>∃v,r=.ret v/\R v e⟩ (I s))
  (u:∀s',o=.inl s'->q.normal (J s'))(w:∀v e,o=.inr v->R v e->q.ret e):WP S (.block i0 (.loop live c)) q O:=by
 obtain ⟨N,D⟩:=Cp ho;refine XL ⟨?_⟩;intro X hX;rw[p];refine p8 (q:=⟨q.normal,fun j e=>if j=i0 then q.normal e else q.exit j e,q.ret⟩) I J R (fun s r A B=>(h s r A B).out) hX N s0 o (D N (b6 _)) ?_ w;intro s' C;exact Zr (u s' C)
end loops
end
theorem xe{a b:Int}(h:a<b):decide (a<b)=true:=decide_eq_true h
theorem xN{a b:Int}(h:¬a<b):decide (a<b)=false:=decide_eq_false h
variable{t:TV}
theorem ZP(h:EV.WF (.tv t)):t.WF:=h
theorem wW(h:EV.WF (.ow t)):t.WF:=h
variable{n:Nat}
theorem wX{es:Fq}(h:EV.WF (.xo n es)):TV.WF (.list n es):=h
theorem nv{row:Fq}(h:EV.WF (.tv (.pt row))):TV.tg row:=h
variable{ts:Fq}{i:Nat}
theorem dh(h:TV.tg ts)(hi:ts[i]?=some t):t.WF:=by
 induction ts generalizing i with
 |nil=>simp at hi|cons x xs k=>
  cases i with
  |zero=>simp at hi;subst hi;exact h.1|succ i=>exact k h.2 (by simpa using hi)
variable{α:Type}{e:α->TV}{l:List α}
theorem tO(h:TV.WF (.list n (l.map e))):(l.length:Int)<=9223372036854775807:=by
 have:=h.1
 grind [c8,Ji]
theorem U4{es:Fq}(h:TV.WF (.list n es))(he:es=l.map e):(l.length:Int)<=9223372036854775807:=by subst he;exact tO h
theorem p5{s:ByteArray}(h:TV.WF (.str s)):(s.size:Int)<=9223372036854775807:=by
 have:s.size<=Ji:=h
 grind [Ji]
theorem jy{n:Int}(h:TV.WF (.int .i64 n)):n<=9223372036854775807:=h.2
theorem jx(n:Int):AG n=if 9223372036854775808<=n % 18446744073709551616 then n % 18446744073709551616-18446744073709551616 else n % 18446744073709551616:=by
 have h:(2:Int)^ 64=18446744073709551616:=by decide
 have k:(2:Int)^ (64-1)=9223372036854775808:=by decide
 simp [AG,IntKind.wrap,IntKind.bits,IntKind.signed,Bool.true_and,yf,h,k,ge_iff_le]
theorem tM(n:Int):AG n<=9223372036854775807:=by grind[jx]
theorem AV{n:Int}(h:-9223372036854775808<=n)(k:n<=9223372036854775807):AG n=n:=by grind[jx]
theorem wY{i b:Int}(hi:TV.WF (.int .i64 i))(h:i<b)(k:b<=9223372036854775807):IntKind.i64.wrap (i+1)=i+1:=by
 have p:(-9223372036854775808:Int)<=i:=hi.1
 grind [AV]
end Go.Sf
