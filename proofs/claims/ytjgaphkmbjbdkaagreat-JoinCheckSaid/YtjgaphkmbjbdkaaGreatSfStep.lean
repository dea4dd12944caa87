/- Steps of the pure language with typed values: one rule an operation, one a piece of code, one a kind of loop. -/
import Derived.Test.YtjgaphkmbjbdkaaGreatSfSem
set_option linter.all false
namespace Go.Sf
abbrev Am(n:Int):Int:=IntKind.i64.wrap n
def idx{α:Type}(l:List α)(j:Int):Option α:=if 0<=j then l[j.toNat]? else none
def slc{α:Type}(l:List α)(a b:Int):Option (List α):=if(0<=a/\a<=b)/\b<=l.length then some ((l.take b.toNat).drop a.toNat)else none
def Aan(s:ByteArray)(a b:Int):Option ByteArray:=if 0<=a/\a<=b/\b<=s.size then some (s.extract a.toNat b.toNat)else none
def Aal(s:ByteArray)(j:Int):QQ:=if 0<=j then(s[j.toNat]?).map (fun b=>(b.toNat:Int))else none
def Ap{α:Type}(l m:List α):Option (List α):=if l.length+m.length<=AZ then some (l++m)else none
def quo(a b:Int):QQ:=if b=0 then none else some (a.tdiv b)
def nO(a b:Int):QQ:=if b=0 then none else some (a.tmod b)
inductive CC(σ ρ:Type)where
 |next (s:σ)
 |brk (s:σ)
 |ret (r:ρ)
section loops
variable{σ ρ:Type}
def wb(f:Int->σ->Option (CC σ ρ)):Nat->Int->σ->Option (σ ⊕ ρ)
 |0,_,s=>some (.inl s)|n+1,i,s=>match f i s with
  |none=>none|some (.next s')=>wb f n (i+1) s'|some (.brk s')=>some (.inl s')|some (.ret r)=>some (.inr r)
def hT(f:Int->σ->Option (CC σ ρ))(a b:Int)(s:σ):Option (σ ⊕ ρ):=wb f (b-a).toNat a s
def Aaa(f:Int->σ->Option σ):Nat->Int->σ->Option σ
 |0,_,s=>some s|n+1,i,s=>match f i s with
  |none=>none|some s'=>Aaa f n (i+1) s'
def ne(f:Int->σ->Option σ)(a b:Int)(s:σ):Option σ:=Aaa f (b-a).toNat a s
def Rd(f:σ->Option (CC σ ρ)):Nat->σ->Option (σ ⊕ ρ)
 |0,_=>none|n+1,s=>match f s with
  |none=>none|some (.next s')=>Rd f n s'|some (.brk s')=>some (.inl s')|some (.ret r)=>some (.inr r)
end loops
class Ev where
 fuel:Option Nat
instance EZ:Ev:=⟨none⟩
open Classical in
noncomputable def aE{α:Type}(g:Nat->Option α):Option α:=if h:∃v N,∀n,N<=n->g n=some v then some h.choose else none
noncomputable def JF[e:Ev]{α:Type}(g:Nat->Option α):Option α:=match e.fuel with
 |none=>aE g|some n=>g n
variable{α:Type}
theorem Cl{g:Nat->Option α}{v:α}(h:JF g=some v):∃N,∀n,N<=n->g n=some v:=by
 change aE g=some v at h;unfold aE at h;split at h
 .rename_i k;cases h;exact k.choose_spec
 .cases h
theorem Dd{g:Nat->Option α}{v:α}(N:Nat)(h:∀n,N<=n->g n=some v):JF g=some v:=by
 have k:∃v N,∀n,N<=n->g n=some v:=⟨v,N,h⟩;show aE g=some v;unfold aE;rw[dif_pos k];obtain⟨M,u⟩:=k.choose_spec;have p:=h (max N M) (Nat.le_max_left _ _)
 grind
noncomputable def EG[Ev]{σ ρ:Type}(f:σ->Option (CC σ ρ))(s:σ):Option (σ ⊕ ρ):=JF fun n=>Rd f n s
def ek{σ ρ β:Type}(o:Option (σ ⊕ ρ))(k:σ->Option β)(kr:ρ->Option β):Option β:=
 match o with
 |none=>none|some (.inl s)=>k s|some (.inr v)=>kr v
theorem Wa{σ ρ β:Type}{o:Option (σ ⊕ ρ)}{k:σ->Option β}{p:ρ->Option β}{b:β}(h:ek o k p=some b):∃x,o=some x/\ek (some x) k p=some b:=by
 cases o with
 |none=>cases h
 |some x=>exact⟨x,rfl,h⟩
theorem dx{σ ρ β:Type}{x:σ ⊕ ρ}{k:σ->Option β}{p:ρ->Option β}{b:β}{s:σ}(h:ek (some x) k p=some b)(u:x=.inl s):k s=some b:=by subst u;exact h
theorem dy{σ ρ β:Type}{x:σ ⊕ ρ}{k:σ->Option β}{p:ρ->Option β}{b:β}{v:ρ}(h:ek (some x) k p=some b)(u:x=.inr v):p v=some b:=by subst u;exact h
def BN{α:Type}(l:List α)(j:Int)(a:α):List α:=l.set j.toNat a
def JW{α:Type}(j:Int)(a:α):Option (List α):=if 0<=j/\j<=4096 then some (List.replicate j.toNat a)else none
def Tx(a b:ByteArray):Option ByteArray:=if a.size+b.size<=AZ then some (a++b)else none
variable{β:Type}
theorem bind_some{x:Option α}{f:α->Option β}{b:β}(h:x.bind f=some b):∃a,x=some a/\f a=some b:=Option.bind_eq_some_iff.1 h
theorem Vy{c:Bool}{a b:α}{r:α}(k:c=true)(h:(if c=true then a else b)=r):a=r:=by grind
theorem Vx{c:Bool}{a b:α}{r:α}(k:c=false)(h:(if c=true then a else b)=r):b=r:=by grind
theorem nt{c:Bool}(h:c=true):(!c)=false:=by rw[h];rfl
structure WO(S:FuncId->Fq->Ax->Prop)(K:AB->Prop)(os:List PR)(O:AB):Prop where
 of::out:wpOps S K os O
structure WP(S:FuncId->Fq->Ax->Prop)(c:PC)(q:Q)(O:AB):Prop where
 of::out:c.wp S q O
section
variable{S:FuncId->Fq->Ax->Prop}{K:AB->Prop}{os:List PR}{O:AB}{d:Nat}
variable{t:TV}
theorem XZ{x:AG}(h:x.val O=some t):x.ev O=.tv t\/x.ev O=.ow t:=by
 unfold AG.val EV.val at h;split at h<;>simp_all
def AE.AbM:AE->Nat
 |.bin .i .quo _ _=>0|.bin .i .rem _ _=>0|.bin .s .add _ _=>0|.bin .w _ _ _=>0|.bin (.a _) _ _ _=>0|.bin ..=>1|o=>2110221010223200010221334134211003223343421200140120221211411133400441001102212411111 / 10^ o.ctorIdx % 10
theorem st(n:Nat){op:AE}{e:EV}{env':AB}(_:op.AbM=n)(h:∀p,p e env'->op.wp S O (some d) p)(k:WO S K os ((d,e)::env')):WO S K (⟨some d,op,none⟩::os) O:=⟨h (fun e O=>wpOps S K os (O.put (some d) e)) k.out⟩
theorem sn{op:AE}{env':AB}(_:op.AbM=2)(h:∀p,p EV.undef env'->op.wp S O none p)(k:WO S K os env'):WO S K (⟨none,op,none⟩::os) O:=⟨h (fun _ O=>wpOps S K os O) k.out⟩
variable{α:Type}{n:Nat}{e:α->TV}{l:List α}{j:Int}
theorem va{x i:AG}{es row:Fq}{ik:IntKind}{a:α}(h:idx l j=some a)(p:x.val O=some (.list n es))(hi:i.val O=some (.int ik j))(he:es=l.map e)(u:(e a).cells=row)
  (k:WO S K os ((d,.tv (.pt row))::O)):WO S K (⟨some d,.iad x i n,none⟩::os) O:=by
 replace k:=k.out;refine⟨?_⟩;subst he u;simp only[wpOps,PR.wp,AE.wp,p,hi];unfold idx at h;split at h
 .rename_i w;exact⟨trivial,w,e a,by rw[List.getElem?_map,h];rfl,k⟩
 .cases h
theorem xO{x:AG}{r:Fq}(h:BB O (x.ev O)=some (t::r))(p:t.Aay=false)(k:WO S K os ((d,.tv t)::O)):WO S K (⟨some d,.ld x,none⟩::os) O:=by
 replace k:=k.out;refine⟨?_⟩;simp[wpOps,PR.wp,AE.wp,h,Al,G8];exact⟨p,k⟩
def eO{α:Type}(n:Nat)(e:α->TV):Option (List α)->TV
 |none=>.nil|some l=>.list n (l.map e)
theorem vb{l:Option (List α)}{x:AG}{r:Fq}(h:BB O (x.ev O)=some (eO n e l::r))(k:WO S K os ((d,.tv (eO n e l))::O)):WO S K (⟨some d,.ld x,none⟩::os) O:=xO h (by cases l<;>rfl) k
theorem nR{x:AG}{cs:Fq}(h:BB O (x.ev O)=some cs)(p:Nat.ble n cs.length=true)(u:TV.agg (cs.take n)=t)(k:WO S K os ((d,.tv t)::O)):WO S K (⟨some d,.lda x n,none⟩::os) O:=by
 replace k:=k.out;refine⟨?_⟩;subst u;simp[wpOps,PR.wp,AE.wp,h,Al];exact⟨Nat.le_of_ble_eq_true p,k⟩
variable{s:Nat}
theorem vc{cs:List AS}(h:O.get s=.bx cs)(p:Nat.ble n (cs.map (·.t)).length=true)(u:TV.agg ((cs.map (·.t)).take n)=t)(k:WO S K os ((d,.tv t)::O)):WO S K (⟨some d,.ldb s n,none⟩::os) O:=by
 replace k:=k.out;refine⟨?_⟩;subst u;simp only[wpOps,PR.wp,AE.wp,h];exact⟨Nat.le_of_ble_eq_true p,k⟩
section bins
variable{x y:AG}{ik:IntKind}{a b:Int}
theorem UP{h:BK}{op:BinOp}{u v t:TV}(p:x.val O=some u)(w:y.val O=some v)(A:L0 h op u v=some t)(k:WO S K os ((d,.tv t)::O)):WO S K (⟨some d,.bin h op x y,none⟩::os) O:=by
 replace k:=k.out;refine⟨?_⟩;simp[wpOps,PR.wp,AE.wp,p,w,A,Al];exact k
theorem vn{q:Int}(h:quo a b=some q)(p:x.val O=some (.int ik a))(u:y.val O=some (.int ik b))(k:WO S K os ((d,.tv (.int ik (ik.wrap q)))::O)):WO S K (⟨some d,.bin .i .quo x y,none⟩::os) O:=by grind[UP,quo,L0,intCmp,intArith,Option.some.inj]
theorem vo{q:Int}(h:nO a b=some q)(p:x.val O=some (.int ik a))(u:y.val O=some (.int ik b))(k:WO S K os ((d,.tv (.int ik q))::O)):WO S K (⟨some d,.bin .i .rem x y,none⟩::os) O:=by grind[UP,nO,L0,intCmp,intArith,Option.some.inj]
theorem vX{op:BinOp}{h:IntKind}{r:Int}(p:MZ ik op a b=some r)(u:x.val O=some (.int ik a))(A:y.val O=some (.int h b))(B:ik=h\/op=.shl\/op=.shr)(k:WO S K os ((d,.tv (.int ik r))::O)):WO S K (⟨some d,.bin .w op x y,none⟩::os) O:=by grind[UP,L0]
theorem r6{u v t:ByteArray}(h:Tx u v=some t)(p:x.val O=some (.str u))(w:y.val O=some (.str v))(k:WO S K os ((d,.tv (.str t))::O)):WO S K (⟨some d,.bin .s .add x y,none⟩::os) O:=by grind[UP,Tx,L0,Option.some.inj]
theorem jS{n:Ne}{cs ds:Fq}{r:Bool}(p:x.val O=some (.agg cs))(u:y.val O=some (.agg ds))(w:cs.map TV.kd=n)(h:B3 cs ds=some r)(k:WO S K os ((d,.tv (.bool r))::O)):WO S K (⟨some d,.bin (.a n) .eql x y,none⟩::os) O:=by grind[UP,L0]
theorem jT{n:Ne}{cs ds:Fq}{r:Bool}(p:x.val O=some (.agg cs))(u:y.val O=some (.agg ds))(w:cs.map TV.kd=n)(h:B3 cs ds=some r)(k:WO S K os ((d,.tv (.bool (!r)))::O)):WO S K (⟨some d,.bin (.a n) .neq x y,none⟩::os) O:=by grind[UP,L0]
end bins
variable{t:TV}
theorem pL{c a b:AG}{q:Bool}(p:c.val O=some (.bool q))(u:q=true)(h:a.val O=some t)(k:WO S K os ((d,.tv t)::O)):WO S K (⟨some d,.pick c a b,none⟩::os) O:=by
 replace k:=k.out;refine⟨?_⟩;subst u;simp[wpOps,PR.wp,AE.wp,p];rcases XZ h with h|h<;>rw[h]<;>exact k
theorem pK{c a b:AG}{q:Bool}(p:c.val O=some (.bool q))(u:q=false)(h:b.val O=some t)(k:WO S K os ((d,.tv t)::O)):WO S K (⟨some d,.pick c a b,none⟩::os) O:=by
 replace k:=k.out;refine⟨?_⟩;subst u;simp[wpOps,PR.wp,AE.wp,p];rcases XZ h with h|h<;>rw[h]<;>exact k
variable{α:Type}{n:Nat}{e:α->TV}{l:List α}
theorem vd{x:AG}{es:Fq}(h:x.val O=some (.list n es))(he:es=l.map e)(k:WO S K os ((d,.tv (.int .i64 l.length))::O)):WO S K (⟨some d,.len x,none⟩::os) O:=by
 replace k:=k.out;refine⟨?_⟩;subst he;simp[wpOps,PR.wp,AE.wp,h];exact k
variable{m:List α}
theorem bO{a b:Int}(h:slc l a b=some m):((0<=a/\a<=b)/\b<=l.length)/\m=(l.take b.toNat).drop a.toNat:=by
 unfold slc at h
 grind
variable{ka kb:IntKind}
theorem vp{x:AG}{lo hi:Option AG}{es:Fq}{a b:Int}(A:slc l a b=some m)(h:x.val O=some (.list n es))(he:es=l.map e)(p:HI O 0 lo=some (.int ka a))(u:HI O l.length hi=some (.int kb b))
  (k:WO S K os ((d,.tv (.list n (m.map e)))::O)):WO S K (⟨some d,.slc n x lo hi,none⟩::os) O:=by
 replace k:=k.out;refine⟨?_⟩;subst he;obtain⟨⟨w,B⟩,C⟩:=bO A;subst C;simp only[wpOps,PR.wp,AE.wp,h,ca,p,u];refine⟨⟨trivial,w.1,w.2⟩,B,?_⟩;rw[List.map_drop,List.map_take]at k;exact k
theorem r8{x:AG}{lo hi:Option AG}{s t:ByteArray}{a b:Int}(p:Aan s a b=some t)(h:x.val O=some (.str s))(u:HI O 0 lo=some (.int ka a))(w:HI O s.size hi=some (.int kb b))
  (k:WO S K os ((d,.tv (.str t))::O)):WO S K (⟨some d,.Aan x lo hi,none⟩::os) O:=by
 replace k:=k.out;refine⟨?_⟩;unfold Aan at p;split at p
 .rename_i A;cases p;simp[wpOps,PR.wp,AE.wp,h,u,w];exact⟨A.1,A.2.1,A.2.2,k⟩
 .cases p
variable{zero:Fq}{parts:List (Nat×Nat×AG)}
theorem ZN{ts:List (Nat×Nat×TV)}{cs:Fq}(h:Gl O parts=some ts)(p:E4 zero ts=some cs)(u:TV.agg cs=t)(k:WO S K os ((d,.tv t)::O)):WO S K (⟨some d,.bld zero parts,none⟩::os) O:=by
 replace k:=k.out;refine⟨?_⟩;subst u;simp[wpOps,PR.wp,AE.wp,h,Al,p];exact k
def VG:Nat->List (Nat×Nat×TV)->Bool
 |_,[]=>true|k,(i,n,t)::r=>Nat.beq i k&&Nat.beq t.cells.length n&&VG (k+n) r
def IY:List (Nat×Nat×TV)->Fq
 |[]=>[]|(_,_,t)::r=>t.cells++IY r
theorem Tr:∀(ds done k rest:Fq),k.length=ds.length->O2 (done++(k++rest)) done.length ds=done++(ds++rest)
 |[],done,k,rest,h=>by
  have:k=[]:=List.eq_nil_of_length_eq_zero (by simpa using h);subst this;rfl
 |d::ds,done,[],rest,h=>by simp at h|d::ds,done,m::k,rest,h=>by
  simp only[O2];rw[List.cons_append,List.set_append_right _ _ (az _),Nat.sub_self,List.set_cons_zero];have:=Tr ds (done++[d]) k rest (by simpa using h);simpa using this
theorem Xg:∀(ts:List (Nat×Nat×TV))(done rest:Fq),VG done.length ts=true->(IY ts).length=rest.length->E4 (done++rest) ts=some (done++IY ts)
 |[],done,rest,_,h=>by
  have:rest=[]:=List.eq_nil_of_length_eq_zero (by simpa[IY]using h.symm);subst this;rfl
 |(i,n,t)::r,done,rest,p,h=>by
  simp [VG]at p;obtain⟨⟨rfl,k⟩,A⟩:=p;simp[IY]at h;have u:n<=rest.length:=by omega
  simp only[E4];rw[a6 ⟨k,by rw[ba];omega⟩];have w:rest=rest.take n++rest.drop n:=(List.take_append_drop n rest).symm;rw[w,Tr t.cells done (rest.take n) (rest.drop n) (by rw[bk];omega),<-ci];rw[Xg r (done++t.cells) (rest.drop n) (by rw[ba,k];exact A) (by rw[List.length_drop];omega)];simp[IY]
theorem ry{ts:List (Nat×Nat×TV)}(h:Gl O parts=some ts)(p:VG 0 ts=true)(u:Nat.beq (IY ts).length zero.length=true)(w:TV.agg (IY ts)=t)(k:WO S K os ((d,.tv t)::O)):WO S K (⟨some d,.bld zero parts,none⟩::os) O:=
 ZN h (by have:=Xg ts [] zero p (Nat.eq_of_beq_eq_true u);simpa using this) w k
variable{ts:Fq}
theorem nS{parts:List AG}(h:vals O parts=some ts)(he:ts=l.map e)(p:∀a,(e a).cells.length=n)(k:WO S K os ((d,.ow (.list n (l.map e)))::O)):WO S K (⟨some d,.lst n parts,none⟩::os) O:=by
 replace k:=k.out;refine⟨?_⟩;subst he;simp[wpOps,PR.wp,AE.wp,h,Al];refine⟨fun t u=>?_,k⟩
 grind
variable{s:Nat}{r:List α}
theorem nP{y:AG}{es p rs:Fq}(h:Ap l m=some r)(u:O.get s=.ow (.list n es))(w:y.val O=some (.list n p))(he:es=l.map e)(hf:p=m.map e)(A:rs=r.map e)
  (k:WO S K os ((d,.ow (.list n rs))::(s,.tv (.list n es))::O)):WO S K (⟨some d,.app n (.s s) y,none⟩::os) O:=by
 replace k:=k.out;refine⟨?_⟩;subst hf A;unfold Ap at h;split at h
 .rename_i B;cases h;simp only[wpOps,PR.wp,AE.wp,AG.ev,u,w,he,ca];rw[he]at k;refine⟨by simp,by simp,B,?_⟩;rw[List.map_append]at k;exact k
 .cases h
variable{f:FuncId}
theorem rz{args:List AG}(h:vals O args=some ts)(p:S f ts (.sh t))(k:WO S K os ((d,.tv t)::O)):WO S K (⟨some d,.call f args,none⟩::os) O:=by
 replace k:=k.out;refine⟨?_⟩;simp[wpOps,PR.wp,AE.wp,h,Al];exact⟨_,⟨p,rfl⟩,fun _=>k⟩
theorem r7{x i:AG}{s:ByteArray}{ik:IntKind}{j b:Int}(p:Aal s j=some b)(h:x.val O=some (.str s))(hi:i.val O=some (.int ik j))(k:WO S K os ((d,.tv (.int .u8 b))::O)):WO S K (⟨some d,.Aal x i,none⟩::os) O:=by
 replace k:=k.out;refine⟨?_⟩;unfold Aal at p;split at p
 .rename_i u;rw[Option.map_eq_some_iff]at p;obtain⟨c,w,rfl⟩:=p;simp[wpOps,PR.wp,AE.wp,h,hi];exact⟨u,c,w,k⟩
 .cases p
theorem r0{mx:Bool}{x y:AG}{ik:IntKind}{a b:Int}(h:x.val O=some (.int ik a))(p:y.val O=some (.int ik b))(k:WO S K os ((d,.tv (.int ik (if mx then max a b else min a b)))::O)):WO S K (⟨some d,.mm mx x y,none⟩::os) O:=by
 replace k:=k.out;refine⟨?_⟩;simp only[wpOps,PR.wp,AE.wp,h,p];exact⟨trivial,k⟩
theorem ve{x y:AG}{ik:IntKind}{a b:Int}(h:x.val O=some (.int ik a))(p:y.val O=some (.int ik b))(k:WO S K os ((d,.tv (.int ik (max a b)))::O)):WO S K (⟨some d,.mm true x y,none⟩::os) O:=r0 h p k
theorem vf{x y:AG}{ik:IntKind}{a b:Int}(h:x.val O=some (.int ik a))(p:y.val O=some (.int ik b))(k:WO S K os ((d,.tv (.int ik (min a b)))::O)):WO S K (⟨some d,.mm false x y,none⟩::os) O:=r0 h p k
variable{off:Nat}
theorem xP{x v:AG}{cs cs':List AS}(h:x.place O=some (s,off))(p:O.get s=.bx cs)(hv:v.ev O=.tv t)(u:t.cells.length=n)(w:Nat.ble (off+n) cs.length=true)(A:cs.take off++t.cells.map (⟨false,·⟩)++cs.drop (off+n)=cs')
  (k:WO S K os ((s,.bx cs')::O)):WO S K (⟨none,.st n x v,none⟩::os) O:=by
 replace k:=k.out;refine⟨?_⟩;subst A;simp only[wpOps,PR.wp,AE.wp,h,p,hv];exact⟨u,Nat.le_of_ble_eq_true w,k⟩
theorem vr{s off q:Nat}{x:AG}{cs cs':List AS}(h:x.place O=some (s,off))(p:O.get s=.bx cs)(hv:O.get q=.ow t)(u:q≠s)(w:Nat.blt off cs.length=true)(A:cs.set off ⟨true,t⟩=cs')
  (k:WO S K os ((s,.bx cs')::(q,.tv t)::O)):WO S K (⟨none,.st 1 x (.s q),none⟩::os) O:=by
 replace k:=k.out;refine⟨?_⟩;subst A;simp only[wpOps,PR.wp,AE.wp,h,p,AG.ev,hv];exact⟨u,trivial,Nat.le_of_ble_eq_true w,k⟩
variable{v:AG}
theorem vq{cs cs':List AS}(h:O.get s=.bx cs)(hv:v.ev O=.tv t)(p:t.cells.length=n)(u:Nat.ble (0+n) cs.length=true)(w:cs.take 0++t.cells.map (⟨false,·⟩)++cs.drop (0+n)=cs')
  (k:WO S K os ((s,.bx cs')::O)):WO S K (⟨none,.stb n s v,none⟩::os) O:=by
 replace k:=k.out;refine⟨?_⟩;subst w;simp only[wpOps,PR.wp,AE.wp,h,hv];exact⟨p,Nat.le_of_ble_eq_true u,k⟩
theorem vZ{cs:List AS}{row:Fq}(h:O.get s=.bx cs)(p:cs.map (·.t)=row)(k:WO S K os ((s,.tv (.pt row))::O)):WO S K (⟨none,.frz s,none⟩::os) O:=by
 replace k:=k.out;refine⟨?_⟩;subst p;simp[wpOps,PR.wp,AE.wp,h];exact k
theorem pJ{args:List AG}{cs:List AS}(h:vals O args=some ts)(p:S f ts (.x8 cs))(u:TV.agg (cs.map fun c=>c.rel.t)=t)(k:WO S K os ((d,.tv t)::O)):WO S K (⟨some d,.call f args,none⟩::os) O:=by
 replace k:=k.out;refine⟨?_⟩;subst u;simp[wpOps,PR.wp,AE.wp,h,Al];exact⟨_,⟨p,rfl⟩,fun _=>k⟩
theorem nQ{x:AG}{es:Fq}(h:x.val O=some (.list n es))(he:es=l.map e)(k:∀b:Bool,(b=true->l=[])->WO S K os ((d,.tv (.bool b))::O)):WO S K (⟨some d,.isn x,none⟩::os) O:=by
 replace k:=fun b p=>(k b p).out;refine⟨?_⟩;simp only[wpOps,PR.wp,AE.wp,h];intro b p;refine k b fun u=>?_;have:=p u;rw[he]at this;simpa using this
theorem nv(h:Ap [] l=some r)(b:Bool)(k:b=true->l=[]):(if b=true then some []else(Ap [] l).bind fun x=>some x)=some r:=by grind[Ap]
variable{j:Int}
theorem G6{a:α}(h:idx l j=some a):0<=j/\j<l.length/\l[j.toNat]?=some a:=by
 unfold idx at h
 grind
theorem cv(p:∀a,(e a).cells.length=n):∀(l:List α)(j k:Nat)(a:α),l[j]?=some a->k<n->((l.map e).flatMap TV.cells)[j*n+k]?=(e a).cells[k]?
 |[],j,k,a,h,_=>by simp at h|b::l,0,k,a,h,u=>by
  grind
 |b::l,j+1,k,a,h,u=>by
  rw [List.getElem?_cons_succ]at h;rw[List.map_cons,List.flatMap_cons,List.getElem?_append_right (by rw[p,Nat.add_mul];omega),p,show(j+1)*n+k-n=j*n+k from by rw[Nat.add_mul];omega];exact cv p l j k a h u
theorem Zy(p:∀a,(e a).cells.length=n)(t:TV):∀(l:List α)(j k:Nat)(a b:α),l[j]?=some a->k<n->(e b).cells=(e a).cells.set k t->((l.set j b).map e).flatMap TV.cells=((l.map e).flatMap TV.cells).set (j*n+k) t
 |[],j,k,a,b,h,_,_=>by simp at h|c::l,0,k,a,b,h,u,w=>by
  grind
 |c::l,j+1,k,a,b,h,u,w=>by
  rw [List.getElem?_cons_succ]at h;rw[List.set_cons_succ,List.map_cons,List.map_cons,List.flatMap_cons,List.flatMap_cons,List.set_append_right _ _ (by rw[p,Nat.add_mul];omega),p,show(j+1)*n+k-n=j*n+k from by rw[Nat.add_mul];omega,Zy p t l j k a b h u w]
theorem kV(h:∀a,(e a).cells.length=n)(l:List α):((l.map e).flatMap TV.cells).length=l.length*n:=by
 induction l with
 |nil=>simp|cons b l k=>rw[List.map_cons,List.flatMap_cons,ba,k,h,cE,Nat.add_mul];omega
theorem TT(h:∀a,(e a).flat=true):∀(l:List α),TV.wm (l.map e)=true
 |[]=>rfl|a::l=>by simp[TV.wm,h a,TT h l]
theorem r9{x:AG}{q:Nat×Option Nat}{es:Fq}(h:x.up O=some (q,n,es))(he:es=l.map e)(k:WO S K os ((d,.tv (.int .i64 l.length))::O)):WO S K (⟨some d,.Abj x,none⟩::os) O:=by
 replace k:=k.out;refine⟨?_⟩;subst he;simp[wpOps,PR.wp,AE.wp,h,Al];exact k
variable{qi:Option Nat}
theorem vt{x i:AG}{q n:Nat}{es:Fq}{ik:IntKind}{a:α}(p:idx l j=some a)(h:x.up O=some ((q,qi),n,es))(hi:i.val O=some (.int ik j))(he:es=l.map e)(u:(x.ev O).wi=some q)
  (k:WO S K os ((d,.lp q qi (j.toNat*n))::O)):WO S K (⟨some d,.xia x i n,none⟩::os) O:=by
 replace k:=k.out;refine⟨?_⟩;subst he;obtain⟨w,A,_⟩:=G6 p;simp only[wpOps,PR.wp,AE.wp,h,hi,Al,ca];exact⟨⟨u,trivial⟩,w,A,k⟩
theorem nT{x:AG}{q c n i:Nat}{es row:Fq}{a:α}(h:x.ev O=.lp q qi c)(p:O.sR q qi=some (n,es))(he:es=l.map e)(u:∀a,(e a).cells.length=n)(w:idx l j=some a)(A:c=j.toNat*n+i)(hi:Nat.blt i n=true)(B:(e a).cells=row)(C:row[i]?=some t)
  (k:WO S K os ((d,.tv t)::O)):WO S K (⟨some d,.xld x,none⟩::os) O:=by
 replace k:=k.out;refine⟨?_⟩;subst he A B;have hf:=cv u l j.toNat i a (G6 w).2.2 (Nat.le_of_ble_eq_true hi);simp[wpOps,PR.wp,AE.wp,h,p,hf,C,Al];exact k
theorem nU{x v:AG}{q c n i:Nat}{env':AB}{es rs:Fq}{a b:α}(h:x.ev O=.lp q qi c)(F:O.sR q qi=some (n,es))(hv:v.ev O=.tv t)(he:es=l.map e)(w:∀a,(e a).cells.length=n)(G:idx l j=some a)(H:c=j.toNat*n+i)(hi:Nat.blt i n=true)(D:t.cells=[t])
  (I:(e b).cells=(e a).cells.set i t)(J:rs=(BN l j b).map e)(A:O.wB q qi n rs=env')(k:WO S K os env'):WO S K (⟨none,.xst x v 1,none⟩::os) O:=by
 replace k:=k.out;refine⟨?_⟩;subst he H J A;obtain⟨N,P,E⟩:=G6 G;have B:i<n:=Nat.le_of_ble_eq_true hi;have p:j.toNat<l.length:=(List.getElem?_eq_some_iff.1 E).1;simp only[wpOps,PR.wp,AE.wp,h,F,hv];have C:j.toNat*n+i<l.length*n:=calc j.toNat*n+i<j.toNat*n+n:=by omega
   _=(j.toNat+1)*n:=by rw[Nat.add_mul];omega
   _<=l.length*n:=Nat.mul_le_mul_right _ p
 refine ⟨⟨by rw[D];rfl,by omega⟩,?_,_,(Zy w t l j.toNat i a b E B I).trans (by rw[D,List.set_eq_take_append_cons_drop,a6 (by rw[kV w];exact C)];simp),by simp,fun u L=>?_,k⟩
 .rw[ca]
  calc j.toNat*n+i<j.toNat*n+n:=by omega
   _=(j.toNat+1)*n:=by rw[Nat.add_mul];omega
   _<=l.length*n:=Nat.mul_le_mul_right _ p
 .obtain⟨M,_,rfl⟩:=List.mem_map.1 L;exact w M
theorem Zx(k:∀a,(e a).cells.length=n):∀(l:List α)(j:Nat)(b:α),j<l.length->((l.set j b).map e).flatMap TV.cells=((l.map e).flatMap TV.cells).take (j*n)++(e b).cells++((l.map e).flatMap TV.cells).drop (j*n+n)
 |[],j,b,h=>by simp at h|c::l,0,b,h=>by
  grind
 |c::l,j+1,b,h=>by
  rw [List.set_cons_succ,List.map_cons,List.map_cons,List.flatMap_cons,List.flatMap_cons,Zx k l j b (by simpa using h),show(j+1)*n=(e c).cells.length+j*n from by rw[k,Nat.add_mul];omega,Nat.add_assoc,List.take_length_add_append,List.drop_length_add_append,ci,ci,ci]
theorem nV{x v:AG}{q n:Nat}{env':AB}{es:Fq}{a b:α}(h:x.ev O=.lp q qi (j.toNat*n))(D:O.sR q qi=some (n,es))(hv:v.ev O=.tv (e b))(he:es=l.map e)(w:∀a,(e a).cells.length=n)(E:idx l j=some a)(F:Nat.blt 0 n=true)
  (A:O.wB q qi n ((BN l j b).map e)=env')(k:WO S K os env'):WO S K (⟨none,.xst x v n,none⟩::os) O:=by
 replace k:=k.out;refine⟨?_⟩;subst he A;obtain⟨J,L,H⟩:=G6 E;have B:0<n:=Nat.le_of_ble_eq_true F;have p:j.toNat<l.length:=(List.getElem?_eq_some_iff.1 H).1;have C:j.toNat*n+n<=l.length*n:=calc j.toNat*n+n=(j.toNat+1)*n:=by rw[Nat.add_mul];omega
   _<=l.length*n:=Nat.mul_le_mul_right _ p
 simp only[wpOps,PR.wp,AE.wp,h,D,hv];refine⟨⟨w b,B⟩,by rw[ca];exact C,_,Zx w l j.toNat b p,by simp,fun u G=>?_,k⟩;obtain⟨I,_,rfl⟩:=List.mem_map.1 G;exact w I
theorem ru{y:AG}{es p rs:Fq}(h:Ap l m=some r)(u:O.get s=.xo n es)(w:y.val O=some (.list n p))(he:es=l.map e)(hf:p=m.map e)(A:rs=r.map e)(B:O.f0 d=true)(hd:d≠s)
  (k:WO S K os ((d,.xo n rs)::(s,.undef)::O)):WO S K (⟨some d,.AaW n s y,none⟩::os) O:=by
 replace k:=k.out;refine⟨?_⟩;subst he hf A;unfold Ap at h;split at h
 .rename_i C;cases h;simp only[wpOps,PR.wp,AE.wp,u,w,ca];rw[List.map_append]at k;exact⟨trivial,trivial,C,B,hd,k⟩
 .cases h
theorem ln{args:List AG}{ts es:Fq}(h:O.f0 d=true)(p:vals O args=some ts)(u:S f ts (.own (.list n es)))(he:es=l.map e)(hf:∀a,(e a).flat=true)(k:WO S K os ((d,.xo n es)::O)):WO S K (⟨some d,.Aas f args,none⟩::os) O:=by
 replace k:=k.out;refine⟨?_⟩;simp[wpOps,PR.wp,AE.wp,p,Al];exact⟨h,n,es,.inr ⟨u,by rw[he];exact TT hf l⟩,fun _=>k⟩
variable{rs:Fq}{z:α}
theorem vh{x:AG}{ik:IntKind}(h:JW j z=some r)(u:O.f0 d=true)(w:x.val O=some (.int ik j))(A:(match zero with|[t]=>t|ts=>.agg ts)=e z)(B:rs=r.map e)
  (k:WO S K os ((d,.xo n rs)::O)):WO S K (⟨some d,.mkx n zero x,none⟩::os) O:=by
 replace k:=k.out;refine⟨?_⟩;subst B;unfold JW at h;split at h
 .rename_i p;cases h;rw[List.map_replicate,<-A]at k;simp[wpOps,PR.wp,AE.wp,w];exact⟨u,p.1,p.2,k⟩
 .cases h
theorem vY{hi:AG}{es rs:Fq}{ik:IntKind}(h:slc l 0 j=some r)(u:O.get s=.xo n es)(w:hi.val O=some (.int ik j))(he:es=l.map e)(A:rs=r.map e)(B:O.f0 d=true)(hd:d≠s)(k:WO S K os ((d,.xo n rs)::(s,.undef)::O)):WO S K (⟨some d,.cut n s hi,none⟩::os) O:=by
 replace k:=k.out;refine⟨?_⟩;subst he A;obtain⟨⟨C,D⟩,p⟩:=bO h;subst p;simp only[wpOps,PR.wp,AE.wp,u,w];refine⟨⟨trivial,B,hd⟩,C.2,by rw[ca];exact D,?_⟩;have p:((l.take j.toNat).drop (0:Int).toNat).map e=(l.map e).take j.toNat:=by simp
 rw [p]at k;exact k
theorem li{args:List AG}{ts es:Fq}(h:Aai O args=some ts)(p:S f ts (.own t))(u:t=.list n es)(he:es=l.map e)(hf:∀a,(e a).flat=true)(k:WO S K os ((d,.ow t)::O)):WO S K (⟨some d,.AaC f args,none⟩::os) O:=by
 replace k:=k.out;refine⟨?_⟩;subst u he;simp[wpOps,PR.wp,AE.wp,h,Al];exact⟨_,⟨p,TT hf l⟩,fun _=>k⟩
def Za{α:Type}(l:List α)(j:Int)(z:α):Option (List α):=if(0<=j/\j<=4096)/\l.length+j.toNat<=AZ then some (l++List.replicate j.toNat z)else none
theorem rx{p:TV}{x:AG}{es rs:Fq}{ik:IntKind}(h:Za l j z=some r)(A:O.get s=.xo n es)(B:x.val O=some (.int ik j))(he:es=l.map e)(C:p=e z)(D:rs=r.map e)(E:O.f0 d=true)(hd:d≠s)(u:n=1)(F:p.cells=[p])(k:WO S K os ((d,.xo n rs)::(s,.undef)::O)):WO S K (⟨some d,.Aa8 n s p x,none⟩::os) O:=by
 replace k:=k.out;refine⟨?_⟩;subst he D;unfold Za at h;split at h
 .rename_i w;cases h;simp only[wpOps,PR.wp,AE.wp,A,B];refine⟨⟨⟨trivial,u⟩,F⟩,w.1,⟨by rw[ca];exact w.2,E,hd⟩,?_⟩;rw[List.map_append,List.map_replicate,<-C]at k;exact k
 .cases h
variable{i:Nat}
theorem pI{args:List AG}{ts h:Fq}{cs cs':List AS}{e:EV}(p:(args[i]?).bind (·.place O)=some (s,0))(u:O.get s=.bx cs)(w:O.noX s none=true)(hd:d≠s)(A:IU O i args=some ts)(B:S f ts (.bo cs cs' i h))(he:EV.ofs h=e)(k:WO S K os ((d,e)::(s,.bx cs')::O)):WO S K (⟨some d,.Aaj f args i,none⟩::os) O:=by
 replace k:=k.out;refine⟨?_⟩;subst he;simp only[wpOps,PR.wp,AE.wp,p,u,A,Al];exact⟨⟨w,hd⟩,cs',h,B,fun _=>k⟩
def U3{α:Type}(l:List α):Option Unit:=if l.isEmpty then none else some ()
theorem iA{u:Unit}{b:Bool}(h:U3 l=some u)(k:b=true->l=[]):b=false:=by
 cases b with
 |false=>rfl|true=>rw[k rfl]at h;cases h
variable{g:Nat}
theorem wy{h:Option Nat}{op:AE}{b q:Bool}(p:O.get g=.tv (.bool q))(u:q=b)(k:WO S K (⟨h,op,none⟩::os) O):WO S K (⟨h,op,some (g,b)⟩::os) O:=by
 replace k:=k.out;refine⟨?_⟩
 grind [wpOps,PR.wp]
theorem uc{d:Nat}{op:AE}{b q:Bool}(p:O.get g=.tv (.bool q))(u:q=!b)(k:WO S K os ((d,.sk)::O)):WO S K (⟨some d,op,some (g,b)⟩::os) O:=by
 replace k:=k.out;refine⟨?_⟩;subst u;simp only[wpOps,PR.wp,p];exact⟨fun h=>by cases b<;>simp at h,fun _=>k⟩
theorem wz{d:Nat}{op:AE}{b:Bool}(h:O.get g=.sk)(k:WO S K os ((d,.sk)::O)):WO S K (⟨some d,op,some (g,b)⟩::os) O:=by
 replace k:=k.out;refine⟨?_⟩;simp[wpOps,PR.wp,h];exact k
theorem bg(xs h:List PR)(O:AB):wpOps S K (xs++h) O=wpOps S (wpOps S K h) xs O:=by
 induction xs generalizing O with
 |nil=>rfl|cons x xs k=>
  simp only[List.cons_append,wpOps];congr 1;funext e;exact k e
theorem ub{ops:List PR}(n:Nat)(M:AB->AB->Prop)(h:WO S (M O) (ops.take n) O)(k:∀e,M O e->WO S K (ops.drop n) e):WO S K ops O:=by
 refine ⟨?_⟩;rw[<-List.take_append_drop n ops,bg];exact QF S (fun e he=>(k e he).out) _ O h.out
variable{q:Q}{a b:PC}
theorem uP(h:WP S a ⟨fun e=>(∀s,(e.get s).WF)->WP S b q e,q.exit,q.ret⟩ O):WP S (.seq a b) q O:=⟨PC.ns S a _ O h.out _ (fun _ he k=>(he k).out) (fun _ _ h=>h) (fun _ h=>h)⟩
theorem qQ{live:Ne}{env':AB}(k:O.ff live=env')(h:q.normal env'):WP S (.skip live) q O:=by subst k;exact⟨h⟩
theorem qP{live:Ne}{env':AB}(k:O.ff live=env')(h:q.exit i env'):WP S (.exit i live) q O:=by subst k;exact⟨h⟩
theorem Ve{x:AG}{c:Bool}(k:x.val O=some (.bool c))(p:c=true->WP S a q O)(hf:c=false->WP S b q O):WP S (.cond x a b) q O:=by
 refine ⟨?_⟩;simp[PC.wp,k];exact⟨fun h=>(p h).out,fun h=>(hf h).out⟩
theorem Rg{x:AG}{c:Bool}(k:x.val O=some (.bool c))(h:c=true)(p:WP S a q O):WP S (.cond x a b) q O:=by grind[Ve]
theorem Rf{x:AG}{c:Bool}(k:x.val O=some (.bool c))(h:c=false)(p:WP S b q O):WP S (.cond x a b) q O:=by grind[Ve]
theorem Wf(h:WP S a ⟨q.normal,fun j e=>if j=i then q.normal e else q.exit j e,q.ret⟩ O):WP S (.block i a) q O:=⟨h.out⟩
theorem Zo{x y:Prop}(h:x):if i=i then x else y:=by rw[a6 rfl];exact h
theorem ny{i j:Nat}{x y:Prop}(k:i≠j)(h:y):if i=j then x else y:=by rw[ae k];exact h
theorem uO(M:AB->Prop)(k:WP S a ⟨M,q.exit,q.ret⟩ O)(p:∀e,M e->q.normal e):WP S a q O:=⟨PC.ns S a _ O k.out q p (fun _ _ h=>h) (fun _ h=>h)⟩
section loops
variable{σ ρ:Type}{live:Ne}{c:PC}{i0:Nat}
variable{X:AB->Prop}
theorem mt{f:Int->σ->Option (CC σ ρ)}{b:Int}(I:Int->σ->AB)(J:σ->AB)(R:ρ->AB->Prop)
  (p:∀i s r,i<b->f i s=some r->(∀k,((I i s).get k).WF)->c.wp S ⟨fun e=>∃s',r=.next s'/\e.ff live=I (i+1) s',fun j e=>j=i0/\∃s',r=.brk s'/\e=J s',fun e=>∃v,r=.ret v/\R v e⟩ (I i s))
  (u:∀i s,¬i<b->c.wp S ⟨fun _=>False,fun j e=>j=i0/\e=J s,fun _=>False⟩ (I i s))
  (B:∀e,((∀s,(e.get s).WF)->c.wp S {q with normal:=fun D=>X (D.ff live)} e)->X e)(G:∀s,q.exit i0 (J s)\/True):
  ∀(n:Nat)(i:Int)(s:σ),n=(b-i).toNat->∀o,wb f n i s=some o->(∀s',o=.inl s'->q.exit i0 (J s'))->(∀v e,o=.inr v->R v e->q.ret e)->X (I i s):=by
 intro n
 induction n with
 |zero=>
  intro i s E o ho w A;refine B _ fun C=>?_;refine PC.ns S c _ _ (u i s (by omega)) _ (fun _ h=>h.elim) (fun j e he=>?_) (fun _ h=>h.elim);obtain⟨rfl,rfl⟩:=he;simp[wb]at ho;exact w s ho.symm
 |succ n F=>
  intro i s E o ho w A;simp[wb]at ho;refine B _ fun C=>?_;cases hf:f i s with
  |none=>rw[hf]at ho;cases ho
  |some r=>
   rw [hf]at ho;refine PC.ns S c _ _ (p i s r (by omega) hf C) _ (fun e he=>?_) (fun j e he=>?_) (fun e he=>?_)
   .obtain⟨s',rfl,he⟩:=he;show X (e.ff live);rw[he];exact F (i+1) s' (by omega) o ho w A
   .obtain⟨rfl,s',rfl,rfl⟩:=he;simp at ho;exact w s' ho.symm
   .obtain⟨v,rfl,he⟩:=he;simp at ho;exact A v e ho.symm he
variable{s0:σ}{o:σ ⊕ ρ}
theorem eF{f:Int->σ->Option (CC σ ρ)}{lo b:Int}(ho:hT f lo b s0=some o)(I:Int->σ->AB)(J:σ->AB)(R:ρ->AB->Prop)(w:O.ff live=I lo s0)
  (p:∀i s r,i<b->f i s=some r->(∀k,((I i s).get k).WF)->WP S c ⟨fun e=>∃s',r=.next s'/\e.ff live=I (i+1) s',fun j e=>j=i0/\∃s',r=.brk s'/\e=J s',fun e=>∃v,r=.ret v/\R v e⟩ (I i s))
  (u:∀i s,¬i<b->WP S c ⟨fun _=>False,fun j e=>j=i0/\e=J s,fun _=>False⟩ (I i s))
  (A:∀s',o=.inl s'->q.normal (J s'))(B:∀v e,o=.inr v->R v e->q.ret e):WP S (.block i0 (.loop live c)) q O:=by
 refine Wf ⟨?_⟩;intro X F;rw[w];refine mt (q:=⟨q.normal,fun j e=>if j=i0 then q.normal e else q.exit j e,q.ret⟩) I J R (fun i s r C D E=>(p i s r C D E).out) (fun i s h=>(u i s h).out) F (fun _=>.inr trivial) _ lo s0 rfl o ho ?_ B;intro s' G;exact Zo (A s' G)
theorem cw{f:Int->σ->Option σ}:∀(n:Nat)(i:Int)(s o:σ),Aaa f n i s=some o->wb (fun i s=>(f i s).map (CC.next (ρ:=Empty))) n i s=some (.inl o)
 |0,_,_,_,h=>by simp[Aaa]at h;subst h;rfl|n+1,i,s,o,h=>by
  simp [Aaa]at h;simp[wb];cases hf:f i s with
  |none=>rw[hf]at h;cases h
  |some s'=>rw[hf]at h;simp;exact cw n (i+1) s' o h
theorem pX{f:Int->σ->Option σ}{lo b:Int}{s0 o:σ}(ho:ne f lo b s0=some o)(I:Int->σ->AB)(J:σ->AB)(w:O.ff live=I lo s0)
  (p:∀i s r,i<b->f i s=some r->(∀k,((I i s).get k).WF)->WP S c ⟨fun e=>e.ff live=I (i+1) r,fun _ _=>False,fun _=>False⟩ (I i s))
  (u:∀i s,¬i<b->WP S c ⟨fun _=>False,fun j e=>j=i0/\e=J s,fun _=>False⟩ (I i s))
  (A:q.normal (J o)):WP S (.block i0 (.loop live c)) q O:=by
 refine eF (f:=fun i s=>(f i s).map (CC.next (ρ:=Empty))) (o:=.inl o) (cw _ _ _ _ ho) I J (fun _ _=>False) w ?_ u ?_ ?_
 .intro i s r hi hf B;simp at hf;obtain⟨s',hf,rfl⟩:=hf;exact⟨PC.ns S c _ _ (p i s s' hi hf B).out _ (fun e he=>⟨s',rfl,he⟩) (fun _ _ h=>h.elim) (fun _ h=>h.elim)⟩
 .intro s' h;cases h;exact A
 .intro v;cases v
theorem pZ{f:σ->Option (CC σ ρ)}(I:σ->AB)(J:σ->AB)(R:ρ->AB->Prop)
  (h:∀s r,f s=some r->(∀k,((I s).get k).WF)->c.wp S ⟨fun e=>∃s',r=.next s'/\e.ff live=I s',fun j e=>j=i0/\∃s',r=.brk s'/\e=J s',fun e=>∃v,r=.ret v/\R v e⟩ (I s))
  (w:∀e,((∀s,(e.get s).WF)->c.wp S {q with normal:=fun A=>X (A.ff live)} e)->X e):
  ∀(n:Nat)(s:σ)(o:σ ⊕ ρ),Rd f n s=some o->(∀s',o=.inl s'->q.exit i0 (J s'))->(∀v e,o=.inr v->R v e->q.ret e)->X (I s):=by
 intro n
 induction n with
 |zero=>intro s o ho;cases ho
 |succ n C=>
  intro s o ho p u;simp[Rd]at ho;refine w _ fun B=>?_;cases hf:f s with
  |none=>rw[hf]at ho;cases ho
  |some r=>
   rw [hf]at ho;refine PC.ns S c _ _ (h s r hf B) _ (fun e he=>?_) (fun j e he=>?_) (fun e he=>?_)
   .obtain⟨s',rfl,he⟩:=he;show X (e.ff live);rw[he];exact C s' o ho p u
   .obtain⟨rfl,s',rfl,rfl⟩:=he;simp at ho;exact p s' ho.symm
   .obtain⟨v,rfl,he⟩:=he;simp at ho;exact u v e ho.symm he
theorem sZ{f:σ->Option (CC σ ρ)}(ho:EG f s0=some o)(I:σ->AB)(J:σ->AB)(R:ρ->AB->Prop)(p:O.ff live=I s0)
  (h:∀s r,f s=some r->(∀k,((I s).get k).WF)->WP S c ⟨fun e=>∃s',r=.next s'/\e.ff live=I s',fun j e=>j=i0/\∃s',r=.brk s'/\e=J s',fun e=>∃v,r=.ret v/\R v e⟩ (I s))
  (u:∀s',o=.inl s'->q.normal (J s'))(w:∀v e,o=.inr v->R v e->q.ret e):WP S (.block i0 (.loop live c)) q O:=by
 obtain ⟨N,E⟩:=Cl ho;refine Wf ⟨?_⟩;intro X C;rw[p];refine pZ (q:=⟨q.normal,fun j e=>if j=i0 then q.normal e else q.exit j e,q.ret⟩) I J R (fun s r A B=>(h s r A B).out) C N s0 o (E N (az _)) ?_ w;intro s' D;exact Zo (u s' D)
end loops
end
theorem xX{a b:Int}(h:a<b):decide (a<b)=true:=decide_eq_true h
theorem ww{a b:Int}(h:¬a<b):decide (a<b)=false:=decide_eq_false h
variable{t:TV}
theorem ZO(h:EV.WF (.tv t)):t.WF:=h
theorem vu(h:EV.WF (.ow t)):t.WF:=h
variable{n:Nat}
theorem vw{es:Fq}(h:EV.WF (.xo n es)):TV.WF (.list n es):=h
theorem nY{row:Fq}(h:EV.WF (.tv (.pt row))):TV.sc row:=h
variable{ts:Fq}{i:Nat}
theorem eC(h:TV.sc ts)(hi:ts[i]?=some t):t.WF:=by
 induction ts generalizing i with
 |nil=>simp at hi|cons x xs k=>
  cases i with
  |zero=>simp at hi;subst hi;exact h.1|succ i=>exact k h.2 (by simpa using hi)
variable{α:Type}{e:α->TV}{l:List α}
theorem sX(h:TV.WF (.list n (l.map e))):(l.length:Int)<=9223372036854775807:=by
 have:=h.1
 grind [ca,JV]
theorem UT{es:Fq}(h:TV.WF (.list n es))(he:es=l.map e):(l.length:Int)<=9223372036854775807:=by subst he;exact sX h
theorem pW{s:ByteArray}(h:TV.WF (.str s)):(s.size:Int)<=9223372036854775807:=by
 have:s.size<=JV:=h
 grind [JV]
theorem j6{n:Int}(h:TV.WF (.int .i64 n)):n<=9223372036854775807:=h.2
theorem bZ(n:Int):Am n=if 9223372036854775808<=n % 18446744073709551616 then n % 18446744073709551616-18446744073709551616 else n % 18446744073709551616:=by
 have h:(2:Int)^ 64=18446744073709551616:=by decide
 have k:(2:Int)^ (64-1)=9223372036854775808:=by decide
 simp [Am,IntKind.wrap,IntKind.bits,IntKind.signed,Bool.true_and,t2,h,k,ge_iff_le]
theorem sV(n:Int):Am n<=9223372036854775807:=by grind[bZ]
theorem Ay{n:Int}(h:-9223372036854775808<=n)(k:n<=9223372036854775807):Am n=n:=by grind[bZ]
theorem vz{i b:Int}(hi:TV.WF (.int .i64 i))(h:i<b)(k:b<=9223372036854775807):IntKind.i64.wrap (i+1)=i+1:=by
 have p:(-9223372036854775808:Int)<=i:=hi.1
 grind [Ay]
end Go.Sf
