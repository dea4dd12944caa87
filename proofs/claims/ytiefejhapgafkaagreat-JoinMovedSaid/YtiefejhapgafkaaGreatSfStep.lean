/- Steps of the pure language with typed values: one rule an operation, one a piece of code, one a kind of loop. -/
import Derived.Test.YtiefejhapgafkaaGreatSfFrame
import Derived.Sort.Row
import Derived.Sort.Grow
import Derived.WalkSmall
import Derived.Lib.RowBridge
import Derived.Lib.Bytealg
import Derived.Lib.ItoaNum
import Derived.Lib.Join
set_option linter.all false
open Option renaming some->Y,none->W
open Bool renaming true->X,false->T
open List renaming replicate->x!,getElem?_map->x?,eq_nil_of_length_eq_zero->y_,cons_append->y!,set_append_right->y?,take_append_drop->z_,map_append->z!,getElem?_cons_succ->z?,map_cons->A_,flatMap_cons->A',set_cons_succ->A!,getElem?_eq_some_iff->A?,mem_map->B_,map_replicate->B',mem_cons->B!,pairwise_cons->B?,ext_getElem?->C_,length->C',getElem?_take->C!,mergeSort_perm->C?,pairwise_iff_getElem->D_
open Nat renaming ble->D',le_of_ble_eq_true->D!,beq->D?,blt->E_,add_mul->E',mul_le_mul_right->E!
open Array renaming getElem?_toList->E?,getElem?_eq_getElem->F_,getElem?_eq_some_iff->F!,getElem?_append_left->F?,size_append->G_
open Int renaming le_refl->G!
namespace Go.Sf
abbrev AJ(n:Int):Int:=IntKind.i64.wrap n
def idx{α:Type}(l:List α)(j:Int):Option α:=if 0<=j then l[j.toNat]? else W
def slc{α:Type}(l:List α)(a b:Int):Option (List α):=if(0<=a/\a<=b)/\b<=l.length then Y ((l.take b.toNat).drop a.toNat)else W
def Aai(s:ByteArray)(a b:Int):Option ByteArray:=if 0<=a/\a<=b/\b<=s.size then Y (s.extract a.toNat b.toNat)else W
def Aav(s:ByteArray)(j:Int):a5:=if 0<=j then(s[j.toNat]?).map (λb=>(b.toNat:Int))else W
def AY{α:Type}(l m:List α):Option (List α):=if l.length+m.length<=AX then Y (l++m)else W
def quo(a b:Int):a5:=if b=0 then W else Y (a.tdiv b)
def Di(a b:Int):a5:=if b=0 then W else Y (a.tmod b)
inductive B2(σ ρ:Type)where
 |next (s:σ)
 |brk (s:σ)
 |ret (r:ρ)
section loops
variable{σ ρ:Type}
def t5(f:Int->σ->Option (B2 σ ρ)):Nat->Int->σ->Option (σ ⊕ ρ)
 |0,_,s=>Y (.inl s)|n+1,i,s=>match f i s with
  |none=>W|some (.next s')=>t5 f n (i+1) s'|some (.brk s')=>Y (.inl s')|some (.ret r)=>Y (.inr r)
def hV(f:Int->σ->Option (B2 σ ρ))(a b:Int)(s:σ):Option (σ ⊕ ρ):=t5 f (b-a).toNat a s
def Aak(f:Int->σ->Option σ):Nat->Int->σ->Option σ
 |0,_,s=>Y s|n+1,i,s=>match f i s with
  |none=>W|some s'=>Aak f n (i+1) s'
def kx(f:Int->σ->Option σ)(a b:Int)(s:σ):Option σ:=Aak f (b-a).toNat a s
def Ta(f:σ->Option (B2 σ ρ)):Nat->σ->Option (σ ⊕ ρ)
 |0,_=>W|n+1,s=>match f s with
  |none=>W|some (.next s')=>Ta f n s'|some (.brk s')=>Y (.inl s')|some (.ret r)=>Y (.inr r)
end loops
class Ev where
 fuel:Option Nat
instance FC:Ev:=⟨W⟩
open Classical in
noncomputable def fC{α:Type}(g:Nat->Option α):Option α:=if h:∃v N,∀n,N<=n->g n=Y v then Y h.choose else W
noncomputable def Kt[e:Ev]{α:Type}(g:Nat->Option α):Option α:=match e.fuel with
 |none=>fC g|some n=>g n
def C3{α:Type}{g:Nat->Option α}{v:α}(h:Kt g=Y v):∃N,∀n,N<=n->g n=Y v:=by
 change fC g=Y v at h;unfold fC at h;split at h
 next e=>cases h;exact e.choose_spec
 .cases h
def Dp{α:Type}{g:Nat->Option α}{v:α}(N:Nat)(h:∀n,N<=n->g n=Y v):Kt g=Y v:=by
 have e:∃v N,∀n,N<=n->g n=Y v:=⟨v,N,h⟩;show fC g=Y v;unfold fC;rw[dif_pos e];obtain⟨M,r⟩:=e.choose_spec;have k:=h (max N M) (Nat.le_max_left _ _)
 grind
noncomputable def DC[Ev]{σ ρ:Type}(f:σ->Option (B2 σ ρ))(s:σ):Option (σ ⊕ ρ):=Kt λn=>Ta f n s
def ej{σ ρ β:Type}(o:Option (σ ⊕ ρ))(k:σ->Option β)(kr:ρ->Option β):Option β:=
 match o with
 |none=>W|some (.inl s)=>k s|some (.inr v)=>kr v
def ZJ{σ ρ β:Type}{o:Option (σ ⊕ ρ)}{k:σ->Option β}{e:ρ->Option β}{b:β}(h:ej o k e=Y b):∃x,o=Y x/\ej (Y x) k e=Y b:=by
 cases o with
 |none=>cases h
 |some x=>exact⟨x,rfl,h⟩
def kN{σ ρ β:Type}{x:σ ⊕ ρ}{k:σ->Option β}{e:ρ->Option β}{b:β}{s:σ}(h:ej (Y x) k e=Y b)(r:x=.inl s):k s=Y b:=by subst r;exact h
def kO{σ ρ β:Type}{x:σ ⊕ ρ}{k:σ->Option β}{e:ρ->Option β}{b:β}{v:ρ}(h:ej (Y x) k e=Y b)(r:x=.inr v):e v=Y b:=by subst r;exact h
def BE{α:Type}(l:List α)(j:Int)(a:α):List α:=l.set j.toNat a
def Gg{α:Type}(j:Int)(a:α):Option (List α):=if 0<=j/\j<=4096 then Y (x! j.toNat a)else W
def WB(a b:ByteArray):Option ByteArray:=if a.size+b.size<=AX then Y (a++b)else W
def bind_some{α β:Type}{x:Option α}{f:α->Option β}{b:β}(h:x.bind f=Y b):∃a,x=Y a/\f a=Y b:=Option.bind_eq_some_iff.1 h
def Yg{α:Type}{c:Bool}{a b:α}{r:α}(e:c=X)(h:(if c=X then a else b)=r):a=r:=n_
def Yf{α:Type}{c:Bool}{a b:α}{r:α}(e:c=T)(h:(if c=X then a else b)=r):b=r:=n_
def nt{c:Bool}(e:c=X):(!c)=T:=s?
structure WO(S:FuncId->Fq->BA->Prop)(K:AB->Prop)(os:List PR)(O:AB):Prop where
 of::out:wpOps S K os O
structure WP(S:FuncId->Fq->BA->Prop)(c:PC)(q:Q)(O:AB):Prop where
 of::out:c.wp S q O
section
variable{S:FuncId->Fq->BA->Prop}{K:AB->Prop}{os:List PR}{O:AB}{d:Nat}
variable{t:TV}
def aI{x:AH}(h:x.val O=Y t):x.ev O=.tv t\/x.ev O=.ow t:=by
 unfold AH.val EV.val at h;split at h<;>simp_all
def AF.AbU:AF->Nat
 |.bin .i .quo _ _=>0|.bin .i .rem _ _=>0|.bin .s .add _ _=>0|.bin .w _ _ _=>0|.bin (.a _) _ _ _=>0|.bin ..=>1|o=>2110221010223200010221334134211003223343421200140120221211411133400441001102212411111 / 10^ o.ctorIdx % 10
def st(n:Nat){op:AF}{e:EV}{env':AB}(_:op.AbU=n)(h:∀r,r e env'->op.wp S O (Y d) r)(k:WO S K os ((d,e)::env')):WO S K (⟨Y d,op,W⟩::os) O:=⟨h (λe O=>wpOps S K os (O.put (Y d) e)) k.out⟩
def sn{op:AF}{env':AB}(_:op.AbU=2)(h:∀e,e EV.undef env'->op.wp S O W e)(k:WO S K os env'):WO S K (⟨W,op,W⟩::os) O:=⟨h (λ_ O=>wpOps S K os O) k.out⟩
variable{n:Nat}{j:Int}
def ABt{α:Type}{x i:AH}{es row:Fq}{e:α->TV}{l:List α}{ik:IntKind}{a:α}(h:idx l j=Y a)(r:x.val O=Y (.list n es))(hi:i.val O=Y (.int ik j))(he:es=l.map e)(hr:(e a).cells=row)
  (k:WO S K os ((d,.tv (.pt row))::O)):WO S K (⟨Y d,.iad x i n,W⟩::os) O:=by
 replace k:=k.out;refine⟨?_⟩;subst he hr;simp only[wpOps,PR.wp,AF.wp,r,hi];unfold idx at h;split at h
 next z=>exact⟨trivial,z,e a,by rw[x?,h];rfl,k⟩
 .cases h
def ACx{x:AH}{r:Fq}(h:BT O (x.ev O)=Y (t::r))(e:t.AaI=T)(k:WO S K os ((d,.tv t)::O)):WO S K (⟨Y d,.ld x,W⟩::os) O:=by
 replace k:=k.out;refine⟨?_⟩;simp[wpOps,PR.wp,AF.wp,h,A0,IJ];exact⟨e,k⟩
def eO{α:Type}(n:Nat)(e:α->TV):Option (List α)->TV
 |none=>.nil|some l=>.list n (l.map e)
def ABu{α:Type}{e:α->TV}{l:Option (List α)}{x:AH}{r:Fq}(h:BT O (x.ev O)=Y (eO n e l::r))(k:WO S K os ((d,.tv (eO n e l))::O)):WO S K (⟨Y d,.ld x,W⟩::os) O:=ACx h (by cases l<;>rfl) k
def uG{x:AH}{cs:Fq}(h:BT O (x.ev O)=Y cs)(e:D' n cs.length=X)(r:TV.agg (cs.take n)=t)(k:WO S K os ((d,.tv t)::O)):WO S K (⟨Y d,.lda x n,W⟩::os) O:=by
 replace k:=k.out;refine⟨?_⟩;subst r;simp[wpOps,PR.wp,AF.wp,h,A0];exact⟨D! e,k⟩
def ABv{s n:Nat}{cs:List AS}(h:O.get s=.bx cs)(e:D' n (cs.map (·.t)).length=X)(r:TV.agg ((cs.map (·.t)).take n)=t)(k:WO S K os ((d,.tv t)::O)):WO S K (⟨Y d,.ldb s n,W⟩::os) O:=by
 replace k:=k.out;refine⟨?_⟩;subst r;simp only[wpOps,PR.wp,AF.wp,h];exact⟨D! e,k⟩
section bins
variable{x y:AH}{ik:IntKind}{a b:Int}
theorem Wm{e:BK}{op:BinOp}{u v t:TV}(h:x.val O=Y u)(r:y.val O=Y v)(z:NN e op u v=Y t)(k:WO S K os ((d,.tv t)::O)):WO S K (⟨Y d,.bin e op x y,W⟩::os) O:=by
 replace k:=k.out;refine⟨?_⟩;simp[wpOps,PR.wp,AF.wp,h,r,z,A0];exact k
def AB4{q:Int}(e:quo a b=Y q)(h:x.val O=Y (.int ik a))(r:y.val O=Y (.int ik b))(k:WO S K os ((d,.tv (.int ik (ik.wrap q)))::O)):WO S K (⟨Y d,.bin .i .quo x y,W⟩::os) O:=by grind[Wm,quo,NN,intCmp,intArith,Option.some.inj]
def AB5{q:Int}(e:Di a b=Y q)(h:x.val O=Y (.int ik a))(r:y.val O=Y (.int ik b))(k:WO S K os ((d,.tv (.int ik q))::O)):WO S K (⟨Y d,.bin .i .rem x y,W⟩::os) O:=by grind[Wm,Di,NN,intCmp,intArith,Option.some.inj]
def ABq{op:BinOp}{e:IntKind}{r:Int}(hr:Gy ik op a b=Y r)(h:x.val O=Y (.int ik a))(z:y.val O=Y (.int e b))(A:ik=e\/op=.shl\/op=.shr)(k:WO S K os ((d,.tv (.int ik r))::O)):WO S K (⟨Y d,.bin .w op x y,W⟩::os) O:=by grind[Wm,NN]
def yy{u v t:ByteArray}(h:WB u v=Y t)(e:x.val O=Y (.str u))(r:y.val O=Y (.str v))(k:WO S K os ((d,.tv (.str t))::O)):WO S K (⟨Y d,.bin .s .add x y,W⟩::os) O:=by grind[Wm,WB,NN,Option.some.inj]
def pJ{n:QQ}{cs ds:Fq}{r:Bool}(e:x.val O=Y (.agg cs))(z:y.val O=Y (.agg ds))(A:cs.map TV.kd=n)(h:CN cs ds=Y r)(k:WO S K os ((d,.tv (.bool r))::O)):WO S K (⟨Y d,.bin (.a n) .eql x y,W⟩::os) O:=by grind[Wm,NN]
def pK{n:QQ}{cs ds:Fq}{r:Bool}(e:x.val O=Y (.agg cs))(z:y.val O=Y (.agg ds))(A:cs.map TV.kd=n)(h:CN cs ds=Y r)(k:WO S K os ((d,.tv (.bool (!r)))::O)):WO S K (⟨Y d,.bin (.a n) .neq x y,W⟩::os) O:=by grind[Wm,NN]
end bins
variable{t:TV}
def wG{c a b:AH}{q:Bool}(e:c.val O=Y (.bool q))(r:q=X)(h:a.val O=Y t)(k:WO S K os ((d,.tv t)::O)):WO S K (⟨Y d,.pick c a b,W⟩::os) O:=by
 replace k:=k.out;refine⟨?_⟩;subst r;simp[wpOps,PR.wp,AF.wp,e];rcases aI h with h|h<;>rw[h]<;>exact k
def wF{c a b:AH}{q:Bool}(e:c.val O=Y (.bool q))(r:q=T)(h:b.val O=Y t)(k:WO S K os ((d,.tv t)::O)):WO S K (⟨Y d,.pick c a b,W⟩::os) O:=by
 replace k:=k.out;refine⟨?_⟩;subst r;simp[wpOps,PR.wp,AF.wp,e];rcases aI h with h|h<;>rw[h]<;>exact k
variable{n:Nat}
def ABw{α:Type}{x:AH}{es:Fq}{e:α->TV}{l:List α}(h:x.val O=Y (.list n es))(he:es=l.map e)(k:WO S K os ((d,.tv (.int .i64 l.length))::O)):WO S K (⟨Y d,.len x,W⟩::os) O:=by
 replace k:=k.out;refine⟨?_⟩;subst he;simp[wpOps,PR.wp,AF.wp,h];exact k
def gc{α:Type}{l m:List α}{a b:Int}(h:slc l a b=Y m):((0<=a/\a<=b)/\b<=l.length)/\m=(l.take b.toNat).drop a.toNat:=by
 unfold slc at h
 grind
variable{ka kb:IntKind}
def AB6{α:Type}{x:AH}{lo hi:Option AH}{es:Fq}{e:α->TV}{l m:List α}{a b:Int}(B:slc l a b=Y m)(h:x.val O=Y (.list n es))(he:es=l.map e)(r:IP O 0 lo=Y (.int ka a))(z:IP O l.length hi=Y (.int kb b))
  (k:WO S K os ((d,.tv (.list n (m.map e)))::O)):WO S K (⟨Y d,.slc n x lo hi,W⟩::os) O:=by
 replace k:=k.out;refine⟨?_⟩;subst he;obtain⟨⟨A,C⟩,D⟩:=gc B;subst D;simp only[wpOps,PR.wp,AF.wp,h,c9,r,z];refine⟨⟨trivial,A.1,A.2⟩,C,?_⟩;rw[List.map_drop,List.map_take]at k;exact k
def y4{x:AH}{lo hi:Option AH}{s t:ByteArray}{a b:Int}(e:Aai s a b=Y t)(h:x.val O=Y (.str s))(r:IP O 0 lo=Y (.int ka a))(z:IP O s.size hi=Y (.int kb b))
  (k:WO S K os ((d,.tv (.str t))::O)):WO S K (⟨Y d,.Aai x lo hi,W⟩::os) O:=by
 replace k:=k.out;refine⟨?_⟩;unfold Aai at e;split at e
 next A=>cases e;simp[wpOps,PR.wp,AF.wp,h,r,z];exact⟨A.1,A.2.1,A.2.2,k⟩
 .cases e
variable{zero:Fq}{parts:List (Nat×Nat×AH)}
def dO{ts:List (Nat×Nat×TV)}{cs:Fq}(e:Hw O parts=Y ts)(h:F1 zero ts=Y cs)(r:TV.agg cs=t)(k:WO S K os ((d,.tv t)::O)):WO S K (⟨Y d,.bld zero parts,W⟩::os) O:=by
 replace k:=k.out;refine⟨?_⟩;subst r;simp[wpOps,PR.wp,AF.wp,e,A0,h];exact k
def Xt:Nat->List (Nat×Nat×TV)->Bool
 |_,[]=>X|k,(i,n,t)::r=>D? i k&&D? t.cells.length n&&Xt (k+n) r
def Jk:List (Nat×Nat×TV)->Fq
 |[]=>[]|(_,_,t)::r=>t.cells++Jk r
def V1:∀(ds done e rest:Fq),e.length=ds.length->Qf (done++(e++rest)) done.length ds=done++(ds++rest)
 |[],done,e,rest,h=>by
  have:e=[]:=y_ b?;subst this;rfl
 |d::ds,done,[],rest,h=>by simp at h|d::ds,done,m::e,rest,h=>by
  simp only[Qf];rw[y!,y? _ _ (az _),Nat.sub_self,List.set_cons_zero];have:=V1 ds (done++[d]) e rest b?;simpa using this
def aO:∀(ts:List (Nat×Nat×TV))(done rest:Fq),Xt done.length ts=X->(Jk ts).length=rest.length->F1 (done++rest) ts=Y (done++Jk ts)
 |[],done,rest,_,h=>by
  have:rest=[]:=y_ (by simpa[Jk]using h.symm);subst this;rfl
 |(i,n,t)::r,done,rest,k,h=>by
  simp [Xt]at k;obtain⟨⟨rfl,e⟩,hr⟩:=k;simp[Jk]at h;have z:n<=rest.length:=U
  simp only[F1];rw[ac ⟨e,by rw[b6];omega⟩];have A:rest=rest.take n++rest.drop n:=(z_ n rest).symm;rw[A,V1 t.cells done (rest.take n) (rest.drop n) e!,<-ci];rw[aO r (done++t.cells) (rest.drop n) (by rw[b6,e];exact hr) (by rw[List.length_drop];omega)];simp[Jk]
def yt{ts:List (Nat×Nat×TV)}(e:Hw O parts=Y ts)(h:Xt 0 ts=X)(r:D? (Jk ts).length zero.length=X)(z:TV.agg (Jk ts)=t)(k:WO S K os ((d,.tv t)::O)):WO S K (⟨Y d,.bld zero parts,W⟩::os) O:=
 dO e (by have:=aO ts [] zero h (Nat.eq_of_beq_eq_true r);simpa using this) z k
variable{ts:Fq}
def uH{α:Type}{parts:List AH}{e:α->TV}{l:List α}(h:vals O parts=Y ts)(he:ts=l.map e)(r:∀a,(e a).cells.length=n)(k:WO S K os ((d,.ow (.list n (l.map e)))::O)):WO S K (⟨Y d,.lst n parts,W⟩::os) O:=by
 replace k:=k.out;refine⟨?_⟩;subst he;simp[wpOps,PR.wp,AF.wp,h,A0];refine⟨λt z=>?_,k⟩
 grind
def uE{α:Type}{n s:Nat}{y:AH}{es z rs:Fq}{e:α->TV}{l m r:List α}(h:AY l m=Y r)(A:O.get s=.ow (.list n es))(B:y.val O=Y (.list n z))(he:es=l.map e)(hf:z=m.map e)(hr:rs=r.map e)
  (k:WO S K os ((d,.ow (.list n rs))::(s,.tv (.list n es))::O)):WO S K (⟨Y d,.app n (.s s) y,W⟩::os) O:=by
 replace k:=k.out;refine⟨?_⟩;subst hf hr;unfold AY at h;split at h
 next C=>cases h;simp only[wpOps,PR.wp,AF.wp,AH.ev,A,B,he,c9];rw[he]at k;refine⟨V,V,C,?_⟩;rw[z!]at k;exact k
 .cases h
variable{f:FuncId}
def yu{args:List AH}(ha:vals O args=Y ts)(e:S f ts (.sh t))(k:WO S K os ((d,.tv t)::O)):WO S K (⟨Y d,.call f args,W⟩::os) O:=by
 replace k:=k.out;refine⟨?_⟩;simp[wpOps,PR.wp,AF.wp,ha,A0];exact⟨_,⟨e,rfl⟩,λ_=>k⟩
def yz{x i:AH}{s:ByteArray}{ik:IntKind}{j b:Int}(e:Aav s j=Y b)(h:x.val O=Y (.str s))(hi:i.val O=Y (.int ik j))(k:WO S K os ((d,.tv (.int .u8 b))::O)):WO S K (⟨Y d,.Aav x i,W⟩::os) O:=by
 replace k:=k.out;refine⟨?_⟩;unfold Aav at e;split at e
 next r=>rw[Option.map_eq_some_iff]at e;obtain⟨c,z,rfl⟩:=e;simp[wpOps,PR.wp,AF.wp,h,hi];exact⟨r,c,z,k⟩
 .cases e
def yx{mx:Bool}{x y:AH}{ik:IntKind}{a b:Int}(e:x.val O=Y (.int ik a))(h:y.val O=Y (.int ik b))(k:WO S K os ((d,.tv (.int ik (if mx then max a b else min a b)))::O)):WO S K (⟨Y d,.mm mx x y,W⟩::os) O:=by
 replace k:=k.out;refine⟨?_⟩;simp only[wpOps,PR.wp,AF.wp,e,h];exact⟨trivial,k⟩
def ABx{x y:AH}{ik:IntKind}{a b:Int}(e:x.val O=Y (.int ik a))(h:y.val O=Y (.int ik b))(k:WO S K os ((d,.tv (.int ik (max a b)))::O)):WO S K (⟨Y d,.mm X x y,W⟩::os) O:=yx e h k
def ABy{x y:AH}{ik:IntKind}{a b:Int}(e:x.val O=Y (.int ik a))(h:y.val O=Y (.int ik b))(k:WO S K os ((d,.tv (.int ik (min a b)))::O)):WO S K (⟨Y d,.mm T x y,W⟩::os) O:=yx e h k
def ACy{n s e:Nat}{x v:AH}{cs cs':List AS}(h:x.place O=Y (s,e))(r:O.get s=.bx cs)(hv:v.ev O=.tv t)(z:t.cells.length=n)(hb:D' (e+n) cs.length=X)(A:cs.take e++t.cells.map (⟨T,·⟩)++cs.drop (e+n)=cs')
  (k:WO S K os ((s,.bx cs')::O)):WO S K (⟨W,.st n x v,W⟩::os) O:=by
 replace k:=k.out;refine⟨?_⟩;subst A;simp only[wpOps,PR.wp,AF.wp,h,r,hv];exact⟨z,D! hb,k⟩
def AB8{s e q:Nat}{x:AH}{cs cs':List AS}(h:x.place O=Y (s,e))(r:O.get s=.bx cs)(hv:O.get q=.ow t)(z:q≠s)(hb:E_ e cs.length=X)(A:cs.set e ⟨X,t⟩=cs')
  (k:WO S K os ((s,.bx cs')::(q,.tv t)::O)):WO S K (⟨W,.st 1 x (.s q),W⟩::os) O:=by
 replace k:=k.out;refine⟨?_⟩;subst A;simp only[wpOps,PR.wp,AF.wp,h,r,AH.ev,hv];exact⟨z,trivial,D! hb,k⟩
variable{v:AH}
def AB7{n s:Nat}{cs cs':List AS}(e:O.get s=.bx cs)(hv:v.ev O=.tv t)(h:t.cells.length=n)(hb:D' (0+n) cs.length=X)(r:cs.take 0++t.cells.map (⟨T,·⟩)++cs.drop (0+n)=cs')
  (k:WO S K os ((s,.bx cs')::O)):WO S K (⟨W,.stb n s v,W⟩::os) O:=by
 replace k:=k.out;refine⟨?_⟩;subst r;simp only[wpOps,PR.wp,AF.wp,e,hv];exact⟨h,D! hb,k⟩
def ABs{s:Nat}{cs:List AS}{row:Fq}(e:O.get s=.bx cs)(hr:cs.map (·.t)=row)(k:WO S K os ((s,.tv (.pt row))::O)):WO S K (⟨W,.frz s,W⟩::os) O:=by
 replace k:=k.out;refine⟨?_⟩;subst hr;simp[wpOps,PR.wp,AF.wp,e];exact k
def wE{args:List AH}{cs:List AS}(ha:vals O args=Y ts)(e:S f ts (.oag cs))(h:TV.agg (cs.map λc=>c.rel.t)=t)(k:WO S K os ((d,.tv t)::O)):WO S K (⟨Y d,.call f args,W⟩::os) O:=by
 replace k:=k.out;refine⟨?_⟩;subst h;simp[wpOps,PR.wp,AF.wp,ha,A0];exact⟨_,⟨e,rfl⟩,λ_=>k⟩
def uF{α:Type}{x:AH}{es:Fq}{e:α->TV}{l:List α}(h:x.val O=Y (.list n es))(he:es=l.map e)(k:∀b:Bool,(b=X->l=[])->WO S K os ((d,.tv (.bool b))::O)):WO S K (⟨Y d,.isn x,W⟩::os) O:=by
 replace k:=λb hb=>(k b hb).out;refine⟨?_⟩;simp only[wpOps,PR.wp,AF.wp,h];intro b hb;refine k b λr=>?_;have:=hb r;rw[he]at this;simpa using this
def yw{x:AH}(h:x.val O=Y .nil)(k:WO S K os ((d,.tv (.bool X))::O)):WO S K (⟨Y d,.isn x,W⟩::os) O:=by
 replace k:=k.out;refine⟨?_⟩;simp[wpOps,PR.wp,AF.wp,h];exact k
def ua{α:Type}{l r:List α}(h:AY [] l=Y r)(b:Bool)(hb:b=X->l=[]):(if b=X then Y []else(AY [] l).bind λx=>Y x)=Y r:=by grind[AY]
variable{j:Int}
def IH{α:Type}{l:List α}{a:α}(h:idx l j=Y a):0<=j/\j<l.length/\l[j.toNat]?=Y a:=by
 unfold idx at h
 grind
def jR{α:Type}{e:α->TV}(r:∀a,(e a).cells.length=n):∀(l:List α)(j k:Nat)(a:α),l[j]?=Y a->k<n->((l.map e).flatMap TV.cells)[j*n+k]?=(e a).cells[k]?
 |[],j,k,a,h,_=>by simp at h|b::l,0,k,a,h,z=>by
  grind
 |b::l,j+1,k,a,h,z=>by
  rw [z?]at h;rw[A_,A',List.getElem?_append_right (by rw[r,E'];omega),r,show(j+1)*n+k-n=j*n+k from i?];exact jR r l j k a h z
def eP{α:Type}{e:α->TV}(r:∀a,(e a).cells.length=n)(t:TV):∀(l:List α)(j k:Nat)(a b:α),l[j]?=Y a->k<n->(e b).cells=(e a).cells.set k t->((l.set j b).map e).flatMap TV.cells=((l.map e).flatMap TV.cells).set (j*n+k) t
 |[],j,k,a,b,h,_,_=>by simp at h|c::l,0,k,a,b,h,z,hb=>by
  grind
 |c::l,j+1,k,a,b,h,z,hb=>by
  rw [z?]at h;rw[A!,A_,A_,A',A',y? _ _ (by rw[r,E'];omega),r,show(j+1)*n+k-n=j*n+k from i?,eP r t l j k a b h z hb]
def qr{α:Type}{e:α->TV}(h:∀a,(e a).cells.length=n)(l:List α):((l.map e).flatMap TV.cells).length=l.length*n:=by
 induction l with
 |nil=>simp|cons b l k=>rw[A_,A',b6,k,h,cE,E'];omega
def Vb{α:Type}{e:α->TV}(h:∀a,(e a).flat=X):∀(l:List α),TV.zt (l.map e)=X
 |[]=>rfl|a::l=>by simp[TV.zt,h a,Vb h l]
def y5{α:Type}{x:AH}{q:Nat×Option Nat}{es:Fq}{e:α->TV}{l:List α}(h:x.x5 O=Y (q,n,es))(he:es=l.map e)(k:WO S K os ((d,.tv (.int .i64 l.length))::O)):WO S K (⟨Y d,.Abt x,W⟩::os) O:=by
 replace k:=k.out;refine⟨?_⟩;subst he;simp[wpOps,PR.wp,AF.wp,h,A0];exact k
variable{qi:Option Nat}
def AB9{α:Type}{x i:AH}{q n:Nat}{es:Fq}{e:α->TV}{l:List α}{ik:IntKind}{a:α}(ha:idx l j=Y a)(h:x.x5 O=Y ((q,qi),n,es))(hi:i.val O=Y (.int ik j))(he:es=l.map e)(hr:(x.ev O).x6=Y q)
  (k:WO S K os ((d,.lp q qi (j.toNat*n))::O)):WO S K (⟨Y d,.xia x i n,W⟩::os) O:=by
 replace k:=k.out;refine⟨?_⟩;subst he;obtain⟨r,z,_⟩:=IH ha;simp only[wpOps,PR.wp,AF.wp,h,hi,A0,c9];exact⟨⟨hr,trivial⟩,r,z,k⟩
def uI{α:Type}{x:AH}{q c n i:Nat}{es row:Fq}{e:α->TV}{l:List α}{a:α}(h:x.ev O=.lp q qi c)(r:O.so q qi=Y (n,es))(he:es=l.map e)(z:∀a,(e a).cells.length=n)(ha:idx l j=Y a)(A:c=j.toNat*n+i)(hi:E_ i n=X)(hr:(e a).cells=row)(B:row[i]?=Y t)
  (k:WO S K os ((d,.tv t)::O)):WO S K (⟨Y d,.xld x,W⟩::os) O:=by
 replace k:=k.out;refine⟨?_⟩;subst he A hr;have hf:=jR z l j.toNat i a (IH ha).2.2 (D! hi);simp[wpOps,PR.wp,AF.wp,h,r,hf,B,A0];exact k
def uJ{α:Type}{x v:AH}{q c n i:Nat}{env':AB}{es rs:Fq}{e:α->TV}{l:List α}{a b:α}(h:x.ev O=.lp q qi c)(G:O.so q qi=Y (n,es))(hv:v.ev O=.tv t)(he:es=l.map e)(z:∀a,(e a).cells.length=n)(ha:idx l j=Y a)(H:c=j.toNat*n+i)(hi:E_ i n=X)(D:t.cells=[t])
  (hb:(e b).cells=(e a).cells.set i t)(hr:rs=(BE l j b).map e)(A:O.Aad q qi n rs=env')(k:WO S K os env'):WO S K (⟨W,.xst x v 1,W⟩::os) O:=by
 replace k:=k.out;refine⟨?_⟩;subst he H hr A;obtain⟨L,M,E⟩:=IH ha;have B:i<n:=D! hi;have r:j.toNat<l.length:=(A?.1 E).1;simp only[wpOps,PR.wp,AF.wp,h,G,hv];have C:j.toNat*n+i<l.length*n:=calc j.toNat*n+i<j.toNat*n+n:=U
   _=(j.toNat+1)*n:=i?
   _<=l.length*n:=E! _ r
 refine ⟨⟨by rw[D];rfl,U⟩,?_,_,(eP z t l j.toNat i a b E B hb).trans (by rw[D,List.set_eq_take_append_cons_drop,ac (by rw[qr z];exact C)];simp),V,λu I=>?_,k⟩
 .rw[c9]
  calc j.toNat*n+i<j.toNat*n+n:=U
   _=(j.toNat+1)*n:=i?
   _<=l.length*n:=E! _ r
 .obtain⟨J,_,rfl⟩:=B_.1 I;exact z J
def eM{α:Type}{e:α->TV}(k:∀a,(e a).cells.length=n):∀(l:List α)(j:Nat)(b:α),j<l.length->((l.set j b).map e).flatMap TV.cells=((l.map e).flatMap TV.cells).take (j*n)++(e b).cells++((l.map e).flatMap TV.cells).drop (j*n+n)
 |[],j,b,h=>by simp at h|c::l,0,b,h=>by
  grind
 |c::l,j+1,b,h=>by
  rw [A!,A_,A_,A',A',eM k l j b b?,show(j+1)*n=(e c).cells.length+j*n from by rw[k,E'];omega,Nat.add_assoc,List.take_length_add_append,List.drop_length_add_append,ci,ci,ci]
def uK{α:Type}{x v:AH}{q n:Nat}{env':AB}{es:Fq}{e:α->TV}{l:List α}{a b:α}(h:x.ev O=.lp q qi (j.toNat*n))(D:O.so q qi=Y (n,es))(hv:v.ev O=.tv (e b))(he:es=l.map e)(z:∀a,(e a).cells.length=n)(ha:idx l j=Y a)(E:E_ 0 n=X)
  (A:O.Aad q qi n ((BE l j b).map e)=env')(k:WO S K os env'):WO S K (⟨W,.xst x v n,W⟩::os) O:=by
 replace k:=k.out;refine⟨?_⟩;subst he A;obtain⟨J,L,H⟩:=IH ha;have B:0<n:=D! E;have r:j.toNat<l.length:=(A?.1 H).1;have C:j.toNat*n+n<=l.length*n:=calc j.toNat*n+n=(j.toNat+1)*n:=i?
   _<=l.length*n:=E! _ r
 simp only[wpOps,PR.wp,AF.wp,h,D,hv];refine⟨⟨z b,B⟩,by rw[c9];exact C,_,eM z l j.toNat b r,V,λu G=>?_,k⟩;obtain⟨I,_,rfl⟩:=B_.1 G;exact z I
def yq{α:Type}{n s:Nat}{y:AH}{es z rs:Fq}{e:α->TV}{l m r:List α}(h:AY l m=Y r)(A:O.get s=.xo n es)(B:y.val O=Y (.list n z))(he:es=l.map e)(hf:z=m.map e)(hr:rs=r.map e)(C:O.gt d=X)(hd:d≠s)
  (k:WO S K os ((d,.xo n rs)::(s,.undef)::O)):WO S K (⟨Y d,.Aa4 n s y,W⟩::os) O:=by
 replace k:=k.out;refine⟨?_⟩;subst he hf hr;unfold AY at h;split at h
 next D=>cases h;simp only[wpOps,PR.wp,AF.wp,A,B,c9];rw[z!]at k;exact⟨trivial,trivial,D,C,hd,k⟩
 .cases h
def sG{α:Type}{args:List AH}{ts es:Fq}{e:α->TV}{l:List α}(h:O.gt d=X)(ha:vals O args=Y ts)(r:S f ts (.own (.list n es)))(he:es=l.map e)(hf:∀a,(e a).flat=X)(k:WO S K os ((d,.xo n es)::O)):WO S K (⟨Y d,.AaE f args,W⟩::os) O:=by
 replace k:=k.out;refine⟨?_⟩;simp[wpOps,PR.wp,AF.wp,ha,A0];exact⟨h,n,es,.inr ⟨r,by rw[he];exact Vb hf l⟩,λ_=>k⟩
variable{rs:Fq}
def AB0{α:Type}{x:AH}{ik:IntKind}{e:α->TV}{z:α}{r:List α}(h:Gg j z=Y r)(B:O.gt d=X)(C:x.val O=Y (.int ik j))(D:(match zero with|[t]=>t|ts=>.agg ts)=e z)(hr:rs=r.map e)
  (k:WO S K os ((d,.xo n rs)::O)):WO S K (⟨Y d,.mkx n zero x,W⟩::os) O:=by
 replace k:=k.out;refine⟨?_⟩;subst hr;unfold Gg at h;split at h
 next A=>cases h;rw[B',<-D]at k;simp[wpOps,PR.wp,AF.wp,C];exact⟨B,A.1,A.2,k⟩
 .cases h
def ABr{α:Type}{n s:Nat}{hi:AH}{es rs:Fq}{e:α->TV}{l r:List α}{ik:IntKind}(h:slc l 0 j=Y r)(A:O.get s=.xo n es)(B:hi.val O=Y (.int ik j))(he:es=l.map e)(hr:rs=r.map e)(C:O.gt d=X)(hd:d≠s)(k:WO S K os ((d,.xo n rs)::(s,.undef)::O)):WO S K (⟨Y d,.cut n s hi,W⟩::os) O:=by
 replace k:=k.out;refine⟨?_⟩;subst he hr;obtain⟨⟨D,E⟩,z⟩:=gc h;subst z;simp only[wpOps,PR.wp,AF.wp,A,B];refine⟨⟨trivial,C,hd⟩,D.2,by rw[c9];exact E,?_⟩;have z:((l.take j.toNat).drop (0:Int).toNat).map e=(l.map e).take j.toNat:=V
 rw [z]at k;exact k
def sC{α:Type}{args:List AH}{ts es:Fq}{e:α->TV}{l:List α}(ha:Aau O args=Y ts)(h:S f ts (.own t))(r:t=.list n es)(he:es=l.map e)(hf:∀a,(e a).flat=X)(k:WO S K os ((d,.ow t)::O)):WO S K (⟨Y d,.AaM f args,W⟩::os) O:=by
 replace k:=k.out;refine⟨?_⟩;subst r he;simp[wpOps,PR.wp,AF.wp,ha,A0];exact⟨_,⟨h,Vb hf l⟩,λ_=>k⟩
def dh{α:Type}(l:List α)(j:Int)(z:α):Option (List α):=if(0<=j/\j<=4096)/\l.length+j.toNat<=AX then Y (l++x! j.toNat z)else W
def yr{α:Type}{n s:Nat}{A:TV}{x:AH}{es rs:Fq}{e:α->TV}{z:α}{l r:List α}{ik:IntKind}(h:dh l j z=Y r)(C:O.get s=.xo n es)(D:x.val O=Y (.int ik j))(he:es=l.map e)(E:A=e z)(hr:rs=r.map e)(G:O.gt d=X)(hd:d≠s)(B:n=1)(H:A.cells=[A])(k:WO S K os ((d,.xo n rs)::(s,.undef)::O)):WO S K (⟨Y d,.Abd n s A x,W⟩::os) O:=by
 replace k:=k.out;refine⟨?_⟩;subst he hr;unfold dh at h;split at h
 next hb=>cases h;simp only[wpOps,PR.wp,AF.wp,C,D];refine⟨⟨⟨trivial,B⟩,H⟩,hb.1,⟨by rw[c9];exact hb.2,G,hd⟩,?_⟩;rw[z!,B',<-E]at k;exact k
 .cases h
def wD{args:List AH}{i s:Nat}{ts h:Fq}{cs cs':List AS}{e:EV}(r:(args[i]?).bind (·.place O)=Y (s,0))(z:O.get s=.bx cs)(A:O.noX s W=X)(hd:d≠s)(ha:Jd O i args=Y ts)(B:S f ts (.bo cs cs' i h))(he:EV.ofs h=e)(k:WO S K os ((d,e)::(s,.bx cs')::O)):WO S K (⟨Y d,.Aas f args i,W⟩::os) O:=by
 replace k:=k.out;refine⟨?_⟩;subst he;simp only[wpOps,PR.wp,AF.wp,r,z,ha,A0];exact⟨⟨A,hd⟩,cs',h,B,λ_=>k⟩
def Xf{α:Type}(l:List α):Option Unit:=if l.isEmpty then W else Y ()
def n7{α:Type}{l:List α}{u:Unit}{b:Bool}(h:Xf l=Y u)(hb:b=X->l=[]):b=T:=by
 cases b with
 |false=>rfl|true=>rw[hb rfl]at h;cases h
variable{g:Nat}
def ACl{e:Option Nat}{op:AF}{b q:Bool}(h:O.get g=.tv (.bool q))(r:q=b)(k:WO S K (⟨e,op,W⟩::os) O):WO S K (⟨e,op,Y (g,b)⟩::os) O:=by
 replace k:=k.out;refine⟨?_⟩
 grind [wpOps,PR.wp]
def AA9{d:Nat}{op:AF}{b q:Bool}(e:O.get g=.tv (.bool q))(r:q=!b)(k:WO S K os ((d,.sk)::O)):WO S K (⟨Y d,op,Y (g,b)⟩::os) O:=by
 replace k:=k.out;refine⟨?_⟩;subst r;simp only[wpOps,PR.wp,e];exact⟨λh=>by cases b<;>simp at h,λ_=>k⟩
def ACm{d:Nat}{op:AF}{b:Bool}(e:O.get g=.sk)(k:WO S K os ((d,.sk)::O)):WO S K (⟨Y d,op,Y (g,b)⟩::os) O:=by
 replace k:=k.out;refine⟨?_⟩;simp[wpOps,PR.wp,e];exact k
def iD(xs ys:List PR)(O:AB):wpOps S K (xs++ys) O=wpOps S (wpOps S K ys) xs O:=by
 induction xs generalizing O with
 |nil=>rfl|cons x xs h=>
  simp only[y!,wpOps];congr 1;funext e;exact h e
def AA8{ops:List PR}(n:Nat)(M:AB->AB->Prop)(h:WO S (M O) (ops.take n) O)(k:∀e,M O e->WO S K (ops.drop n) e):WO S K ops O:=by
 refine ⟨?_⟩;rw[<-z_ n ops,iD];exact R0 S (λe he=>(k e he).out) _ O h.out
variable{q:Q}{a b:PC}
def AAs(h:WP S a ⟨λe=>(∀s,(e.get s).WF)->WP S b q e,q.exit,q.ret⟩ O):WP S (.seq a b) q O:=⟨PC.ls S a _ O h.out _ (λ_ he k=>(he k).out) (λ_ _ h=>h) (λ_ h=>h)⟩
def xJ{live:QQ}{env':AB}(e:O.fd live=env')(h:q.normal env'):WP S (.skip live) q O:=by subst e;exact⟨h⟩
def xI{i:Nat}{live:QQ}{env':AB}(e:O.fd live=env')(h:q.exit i env'):WP S (.exit i live) q O:=by subst e;exact⟨h⟩
theorem YJ{x:AH}{c:Bool}(e:x.val O=Y (.bool c))(k:c=X->WP S a q O)(hf:c=T->WP S b q O):WP S (.cond x a b) q O:=by
 refine ⟨?_⟩;simp[PC.wp,e];exact⟨λh=>(k h).out,λh=>(hf h).out⟩
def Te{x:AH}{c:Bool}(e:x.val O=Y (.bool c))(h:c=X)(k:WP S a q O):WP S (.cond x a b) q O:=by grind[YJ]
def Td{x:AH}{c:Bool}(e:x.val O=Y (.bool c))(h:c=T)(k:WP S b q O):WP S (.cond x a b) q O:=by grind[YJ]
def ZS{i:Nat}(h:WP S a ⟨q.normal,λj e=>if j=i then q.normal e else q.exit j e,q.ret⟩ O):WP S (.block i a) q O:=⟨h.out⟩
def eD{i:Nat}{x y:Prop}(h:x):if i=i then x else y:=by rw[ac rfl];exact h
def ug{i j:Nat}{x y:Prop}(e:i≠j)(h:y):if i=j then x else y:=by rw[ae e];exact h
def AAr(M:AB->Prop)(k:WP S a ⟨M,q.exit,q.ret⟩ O)(r:∀e,M e->q.normal e):WP S a q O:=⟨PC.ls S a _ O k.out q r (λ_ _ h=>h) (λ_ h=>h)⟩
section loops
variable{σ ρ:Type}{live:QQ}{c:PC}{i0:Nat}
variable{ζ:AB->Prop}
def tQ{f:Int->σ->Option (B2 σ ρ)}{b:Int}(I:Int->σ->AB)(J:σ->AB)(R:ρ->AB->Prop)
  (z:∀i s r,i<b->f i s=Y r->(∀k,((I i s).get k).WF)->c.wp S ⟨λe=>∃s',r=.next s'/\e.fd live=I (i+1) s',λj e=>j=i0/\∃s',r=.brk s'/\e=J s',λe=>∃v,r=.ret v/\R v e⟩ (I i s))
  (A:∀i s,¬i<b->c.wp S ⟨λ_=>False,λj e=>j=i0/\e=J s,λ_=>False⟩ (I i s))
  (hX:∀e,((∀s,(e.get s).WF)->c.wp S {q with normal:=λD=>ζ (D.fd live)} e)->ζ e)(H:∀s,q.exit i0 (J s)\/True):
  ∀(n:Nat)(i:Int)(s:σ),n=(b-i).toNat->∀o,t5 f n i s=Y o->(∀s',o=.inl s'->q.exit i0 (J s'))->(∀v e,o=.inr v->R v e->q.ret e)->ζ (I i s):=by
 intro n
 induction n with
 |zero=>
  intro i s E o ho B hr;refine hX _ λC=>?_;refine PC.ls S c _ _ (A i s U) _ (λ_ h=>h.elim) (λj e he=>?_) (λ_ h=>h.elim);obtain⟨rfl,rfl⟩:=he;simp[t5]at ho;exact B s ho.symm
 |succ n G=>
  intro i s E o ho B hr;simp[t5]at ho;refine hX _ λC=>?_;cases hf:f i s with
  |none=>rw[hf]at ho;cases ho
  |some r=>
   rw [hf]at ho;refine PC.ls S c _ _ (z i s r U hf C) _ (λe he=>?_) (λj e he=>?_) (λe he=>?_)
   .obtain⟨s',rfl,he⟩:=he;show ζ (e.fd live);rw[he];exact G (i+1) s' U o ho B hr
   .obtain⟨rfl,s',rfl,rfl⟩:=he;simp at ho;exact B s' ho.symm
   .obtain⟨v,rfl,he⟩:=he;simp at ho;exact hr v e ho.symm he
variable{s0:σ}{o:σ ⊕ ρ}
def kW{f:Int->σ->Option (B2 σ ρ)}{lo b:Int}(ho:hV f lo b s0=Y o)(I:Int->σ->AB)(J:σ->AB)(R:ρ->AB->Prop)(B:O.fd live=I lo s0)
  (z:∀i s r,i<b->f i s=Y r->(∀k,((I i s).get k).WF)->WP S c ⟨λe=>∃s',r=.next s'/\e.fd live=I (i+1) s',λj e=>j=i0/\∃s',r=.brk s'/\e=J s',λe=>∃v,r=.ret v/\R v e⟩ (I i s))
  (A:∀i s,¬i<b->WP S c ⟨λ_=>False,λj e=>j=i0/\e=J s,λ_=>False⟩ (I i s))
  (C:∀s',o=.inl s'->q.normal (J s'))(hr:∀v e,o=.inr v->R v e->q.ret e):WP S (.block i0 (.loop live c)) q O:=by
 refine ZS ⟨?_⟩;intro ζ hX;rw[B];refine tQ (q:=⟨q.normal,λj e=>if j=i0 then q.normal e else q.exit j e,q.ret⟩) I J R (λi s r D E G=>(z i s r D E G).out) (λi s h=>(A i s h).out) hX (λ_=>.inr trivial) _ lo s0 rfl o ho ?_ hr;intro s' H;exact eD (C s' H)
def jS{f:Int->σ->Option σ}:∀(n:Nat)(i:Int)(s o:σ),Aak f n i s=Y o->t5 (λi s=>(f i s).map (B2.next (ρ:=Empty))) n i s=Y (.inl o)
 |0,_,_,_,h=>by simp[Aak]at h;subst h;rfl|n+1,i,s,o,h=>by
  simp [Aak]at h;simp[t5];cases hf:f i s with
  |none=>rw[hf]at h;cases h
  |some s'=>rw[hf]at h;simp;exact jS n (i+1) s' o h
def wV{f:Int->σ->Option σ}{lo b:Int}{s0 o:σ}(ho:kx f lo b s0=Y o)(I:Int->σ->AB)(J:σ->AB)(B:O.fd live=I lo s0)
  (z:∀i s r,i<b->f i s=Y r->(∀k,((I i s).get k).WF)->WP S c ⟨λe=>e.fd live=I (i+1) r,λ_ _=>False,λ_=>False⟩ (I i s))
  (A:∀i s,¬i<b->WP S c ⟨λ_=>False,λj e=>j=i0/\e=J s,λ_=>False⟩ (I i s))
  (C:q.normal (J o)):WP S (.block i0 (.loop live c)) q O:=by
 refine kW (f:=λi s=>(f i s).map (B2.next (ρ:=Empty))) (o:=.inl o) (jS _ _ _ _ ho) I J (λ_ _=>False) B ?_ A ?_ ?_
 .intro i s r hi hf D;simp at hf;obtain⟨s',hf,rfl⟩:=hf;exact⟨PC.ls S c _ _ (z i s s' hi hf D).out _ (λe he=>⟨s',rfl,he⟩) (λ_ _ h=>h.elim) (λ_ h=>h.elim)⟩
 .intro s' h;cases h;exact C
 .intro v;cases v
def wX{f:σ->Option (B2 σ ρ)}(I:σ->AB)(J:σ->AB)(R:ρ->AB->Prop)
  (h:∀s r,f s=Y r->(∀k,((I s).get k).WF)->c.wp S ⟨λe=>∃s',r=.next s'/\e.fd live=I s',λj e=>j=i0/\∃s',r=.brk s'/\e=J s',λe=>∃v,r=.ret v/\R v e⟩ (I s))
  (hX:∀e,((∀s,(e.get s).WF)->c.wp S {q with normal:=λA=>ζ (A.fd live)} e)->ζ e):
  ∀(n:Nat)(s:σ)(o:σ ⊕ ρ),Ta f n s=Y o->(∀s',o=.inl s'->q.exit i0 (J s'))->(∀v e,o=.inr v->R v e->q.ret e)->ζ (I s):=by
 intro n
 induction n with
 |zero=>intro s o ho;cases ho
 |succ n C=>
  intro s o ho z hr;simp[Ta]at ho;refine hX _ λB=>?_;cases hf:f s with
  |none=>rw[hf]at ho;cases ho
  |some r=>
   rw [hf]at ho;refine PC.ls S c _ _ (h s r hf B) _ (λe he=>?_) (λj e he=>?_) (λe he=>?_)
   .obtain⟨s',rfl,he⟩:=he;show ζ (e.fd live);rw[he];exact C s' o ho z hr
   .obtain⟨rfl,s',rfl,rfl⟩:=he;simp at ho;exact z s' ho.symm
   .obtain⟨v,rfl,he⟩:=he;simp at ho;exact hr v e ho.symm he
def zZ{f:σ->Option (B2 σ ρ)}(ho:DC f s0=Y o)(I:σ->AB)(J:σ->AB)(R:ρ->AB->Prop)(z:O.fd live=I s0)
  (h:∀s r,f s=Y r->(∀k,((I s).get k).WF)->WP S c ⟨λe=>∃s',r=.next s'/\e.fd live=I s',λj e=>j=i0/\∃s',r=.brk s'/\e=J s',λe=>∃v,r=.ret v/\R v e⟩ (I s))
  (A:∀s',o=.inl s'->q.normal (J s'))(hr:∀v e,o=.inr v->R v e->q.ret e):WP S (.block i0 (.loop live c)) q O:=by
 obtain ⟨N,E⟩:=C3 ho;refine ZS ⟨?_⟩;intro ζ hX;rw[z];refine wX (q:=⟨q.normal,λj e=>if j=i0 then q.normal e else q.exit j e,q.ret⟩) I J R (λs r B C=>(h s r B C).out) hX N s0 o (E N (az _)) ?_ hr;intro s' D;exact eD (A s' D)
end loops
end
def dlt{a b:Int}(h:a<b):decide (a<b)=X:=decide_eq_true h
def ACk{a b:Int}(h:¬a<b):decide (a<b)=T:=decide_eq_false h
variable{t:TV}
def dP(h:EV.WF (.tv t)):t.WF:=h
def ACA(h:EV.WF (.ow t)):t.WF:=h
variable{n:Nat}
def ACB{es:Fq}(h:EV.WF (.xo n es)):TV.WF (.list n es):=h
def uL{row:Fq}(h:EV.WF (.tv (.pt row))):TV.pq row:=h
variable{ts:Fq}
def kT{i:Nat}(h:TV.pq ts)(hi:ts[i]?=Y t):t.WF:=by
 induction ts generalizing i with
 |nil=>simp at hi|cons x xs e=>
  cases i with
  |zero=>simp at hi;subst hi;exact h.1|succ i=>exact e h.2 n?
def zW{α:Type}{e:α->TV}{l:List α}(h:TV.WF (.list n (l.map e))):(l.length:Int)<=9223372036854775807:=by
 have:=h.1
 grind [c9,LY]
def Wo{es:Fq}{α:Type}{e:α->TV}{l:List α}(h:TV.WF (.list n es))(he:es=l.map e):(l.length:Int)<=9223372036854775807:=by subst he;exact zW h
def wT{s:ByteArray}(h:TV.WF (.str s)):(s.size:Int)<=9223372036854775807:=by
 have:s.size<=LY:=h
 grind [LY]
def p8{n:Int}(h:TV.WF (.int .i64 n)):n<=9223372036854775807:=h.2
theorem p7(n:Int):AJ n=if 9223372036854775808<=n % 18446744073709551616 then n % 18446744073709551616-18446744073709551616 else n % 18446744073709551616:=by
 have e:(2:Int)^ 64=18446744073709551616:=a!
 have h:(2:Int)^ (64-1)=9223372036854775808:=a!
 simp [AJ,IntKind.wrap,IntKind.bits,IntKind.signed,Bool.true_and,qo,e,h,ge_iff_le]
def zU(n:Int):AJ n<=9223372036854775807:=by grind[p7]
theorem AU{n:Int}(e:-9223372036854775808<=n)(h:n<=9223372036854775807):AJ n=n:=by grind[p7]
def ACC{i b:Int}(hi:TV.WF (.int .i64 i))(h:i<b)(hb:b<=9223372036854775807):IntKind.i64.wrap (i+1)=i+1:=by
 have e:(-9223372036854775808:Int)<=i:=hi.1
 grind [AU]
end Go.Sf
namespace Go.Sf
def Ch(κ:List Fp)(p:(Int×Int)×Int):List Fp:=
 if 0<=p.1.1/\0<=p.1.2 then κ.modify p.1.1.toNat (λr=>r.set p.1.2.toNat p.2)else κ
def Bj.Dis(kvs:Bj):Prop:=kvs.Pairwise λa b=>a.1≠b.1
theorem Bj.set_keys(k:Int×Int)(n:Int):∀(kvs:Bj)(p:(Int×Int)×Int),p∈kvs.set k n->p.1=k\/p∈kvs
 |[],p,h=>by simp[Bj.set]at h;subst h;exact .inl rfl|q::r,p,h=>by
  simp [Bj.set]at h;split at h
  .grind
  .rcases B!.1 h with rfl|h
   .exact .inr V
   .exact(Bj.set_keys k n r p h).imp id (List.mem_cons_of_mem _)
theorem Bj.set_dis(k:Int×Int)(n:Int):∀(kvs:Bj),kvs.Dis->(kvs.set k n).Dis
 |[],_=>by simp[Bj.set,Bj.Dis]|q::r,h=>by
  have z:=B?.1 h;simp[Bj.set];split
  next e=>exact B?.2 ⟨λa ha=>by have:=z.1 a ha;rwa[e]at this,z.2⟩
  .rename_i e;refine B?.2 ⟨λa ha=>?_,Bj.set_dis k n r z.2⟩
   grind [Bj.set_keys]
theorem lF(κ:List Fp)(p q:(Int×Int)×Int)(h:p.1≠q.1):Ch (Ch κ p) q=Ch (Ch κ q) p:=by
 obtain ⟨⟨a,b⟩,n⟩:=p;obtain⟨⟨c,d⟩,m⟩:=q;simp[Ch];by_cases e:0<=a/\0<=b
 .by_cases k:0<=c/\0<=d
  .simp[ac e,ac k];apply C_
   grind [Option.map_eq_map,Option.map_map,List.set_comm]
  .simp[ae k]
 .simp[ae e]
variable{kvs:Bj}
theorem Bj.dis_of(hd:kvs.Dis){x y:(Int×Int)×Int}(z:x∈kvs)(A:y∈kvs)(h:x.1=y.1):x=y:=by
 induction kvs with
 |nil=>cases z
 |cons q r E=>
  have B:=B?.1 hd;rcases B!.1 z with C|e<;>rcases B!.1 A with D|k
  .rw[C,D]
  .grind
  .grind
  .exact E B.2 e k
def YO{kvs l:Bj}(hd:kvs.Dis)(h:kvs.Perm l)(κ:List Fp):l.foldl Ch κ=kvs.foldl Ch κ:=by
 refine (h.foldl_eq' (λx e y k z=>?_) κ).symm
 grind [lF,Bj.dis_of]
variable{κ:List Fp}
def eH{r:Fp}{p:(Int×Int)×Int}{x:Int}(e:idx κ p.1.1=Y r)(h:idx r p.1.2=Y x):BE κ p.1.1 (BE r p.1.2 p.2)=Ch κ p:=by
 have k:=IH e;have z:=IH h;simp[Ch,ac (And.intro k.1 z.1),BE];apply C_
 grind
def NI(κ η:List Fp):Prop:=κ.map C'=η.map C'
def aK(κ:List Fp)(p:(Int×Int)×Int):NI (Ch κ p) κ:=by
 simp [NI,Ch];split
 .apply C_
  grind
 .rfl
def NI.idx{κ η:List Fp}(h:NI κ η){a b:Int}{r:Fp}{x:Int}(C:idx η a=Y r)(D:idx r b=Y x):∃e x',idx κ a=Y e/\idx e b=Y x':=by
 have A:=IH C;have B:=IH D;have k:(κ.map C')[a.toNat]?=Y r.length:=by rw[h,x?,A.2.2];rfl
 rw [x?]at k;cases hv:κ[a.toNat]? with
 |none=>rw[hv]at k;cases k
 |some e=>
  rw [hv]at k;simp only[Option.map_some,p0]at k;have z:b.toNat<e.length:=by have:=(A?.1 B.2.2).1;omega
  exact ⟨e,e[b.toNat],by simp only[Go.Sf.idx,ac A.1,hv],by simp only[Go.Sf.idx,ac B.1];exact List.getElem?_eq_getElem z⟩
def Wk.refl(cs:List AS):Wk cs cs:=⟨rfl,λ_ d h=>⟨d,h,.inl rfl⟩⟩
def Wk.set(cs:List AS)(k:Nat):Wk cs (cs.set k ⟨T,.undef⟩):=by
 refine ⟨V,λi d h=>?_⟩
 grind
def AaC{α:Type}(f:α->K1):List α->K1
 |[]=>Y X|p::r=>(f p).bind λb=>(AaC f r).bind λc=>Y (b&&c)
def Yu{α:Type}{f:α->K1}:∀{l:List α}{c:Bool},AaC f l=Y c->(∀p∈l,∃b,f p=Y b/\(c=X->b=X))/\(c=T->∃p∈l,f p=Y T)
 |[],c,h=>by cases h;exact⟨λp k=>(by cases k),λe=>p?⟩
 |q::r,c,h=>by
  obtain ⟨b,hb,h⟩:=bind_some h;obtain⟨d,hd,h⟩:=bind_some h;obtain⟨i1,i2⟩:=Yu hd;cases h;refine⟨λp k=>?_,λe=>?_⟩
  .grind
  .cases b with
   |false=>exact⟨q,V,hb⟩|true=>
    grind
end Go.Sf
namespace Go.Sf
open Go.RowKit (Below)
open Go.Sort
abbrev Ec:Int->Value:=Value.int .i64
variable{w:World}{g:Nat}{cur:Array Value}
def od{e:TypeId}{fr:Nat×Nat}(d:Array Int)(h:w.heap[g]?=Y (.cells cur e fr)):(putRow Ec w g 0 d).heap[g]?=Y (.cells (putCells Ec 0 d cur) e fr):=by
 unfold putRow mapBlock;simp[Array.getElem?_modify,h];rfl
def Y5{g k:Nat}(d:Array Int)(h:k≠g):(putRow Ec w g 0 d).heap[k]?=w.heap[k]?:=by
 unfold putRow mapBlock
 grind
def XA(d:Array Int):(putRow Ec w g 0 d).heap.size=w.heap.size:=by
 unfold putRow mapBlock;simp
def ce(d:Array Int)(cur:Array Value):(putCells Ec 0 d cur).size=cur.size:=by simp[putCells]
def cf(d:Array Int)(cur:Array Value)(h:d.size<=cur.size)(m:Nat)(r:m<=d.size):(putCells Ec 0 d cur).toList.take m=(d.toList.take m).map Ec:=by
 apply C_;intro i;rw[C!,x?,C!];split
 .rename_i hi;have e:i<cur.size:=U
  have k:i<d.size:=U
  rw [E?,E?];simp[putCells,Array.getElem?_mapIdx,F_ e,F_ k]
  grind
 .rfl
variable{n:Nat}
def ZM{v:Value}{xs:List Value}{z:Option (Nat×Nat)}(h:LK w 1 v n xs z):
  (v=.slice W 0 0/\n=0/\z=W/\xs=[])\/∃g cap cur e,v=.slice (Y ⟨g,0,W⟩) n cap/\w.heap[g]?=Y (.cells cur e (0,0))/\n<=cap/\cap<=maxLen/\cur.size=cap/\cur.toList.take n=xs/\z=Y (g,0):=by
 obtain ⟨H,⟨k,r⟩,rfl⟩:=h;rcases r with⟨rfl,rfl,rfl⟩|⟨g,cap,cur,e,A,B,C,D,E,G,rfl⟩
 .exact .inl ⟨rfl,rfl,rfl,y_ (by simpa using k)⟩
 .exact .inr ⟨g,cap,cur,e,A,B,C,D,l',v_,rfl⟩
def am{g n:Nat}{e:TypeId}{zs:Fp}(h:w.heap[g]?=Y (.cells cur e (0,0)))(r:cur.toList.take zs.length=zs.map Ec):Holds Ec w g 0 zs.toArray:=by
 intro j k;simp at k;have z:cur[j]?=Y (Ec (zs[j]'k)):=by
  have:=congrArg (λl=>l[j]?) r
  grind
 refine ⟨?_,?_⟩
 .simp[World.cell?,h,z];simp[getElem!_pos,k]
 .simp[World.frozen?,h]
def iE{g cap m:Nat}{e:TypeId}{d:Array Int}(hb:w.heap[g]?=Y (.cells cur e (0,0)))(B:cur.size=cap)(C:cap<=maxLen)(hd:d.size<=cap)(D:m<=d.size)(q:Nat)(os:Array Obj):
  LK (grow (putRow Ec (Sort.ahead w q) g 0 d) os) 1 (.slice (Y ⟨g,0,W⟩) m cap) m ((d.toList.take m).map Ec) (Y (g,0))/\SB (Y (g,0)) w (grow (putRow Ec (Sort.ahead w q) g 0 d) os):=by
 have z:g<w.heap.size:=(F!.1 hb).1;have h:(putRow Ec (Sort.ahead w q) g 0 d).heap.size=w.heap.size:=XA d;have G:(grow (putRow Ec (Sort.ahead w q) g 0 d) os).heap[g]?=Y (.cells (putCells Ec 0 d cur) e (0,0)):=by
  simp [grow];rw[F? (by rw[h];exact z)];exact od d hb
 refine ⟨⟨Y (g,m*1),⟨by simp[bk];omega,.inr ⟨g,cap,_,e,rfl,G,U,C,by rw[ce,B];simp,?_,rfl⟩⟩,rfl⟩,rfl,rfl,rfl,?_,λk E r=>?_⟩
 .rw[Nat.mul_one];exact cf d cur U m D
 .simp only[grow,G_];rw[h];omega
 .have A:k≠g:=λe=>r 0 (by rw[e]);simp[grow];rw[F? (by rw[h];exact E)];exact Y5 d A
def qC{g cap m:Nat}{e:TypeId}{d:Array Int}(hb:w.heap[g]?=Y (.cells cur e (0,0)))(h:cur.size=cap)(k:cap<=maxLen)(hd:d.size<=cap)(r:m<=d.size)(q:Nat):
  LK (putRow Ec (Sort.ahead w q) g 0 d) 1 (.slice (Y ⟨g,0,W⟩) m cap) m ((d.toList.take m).map Ec) (Y (g,0))/\SB (Y (g,0)) w (putRow Ec (Sort.ahead w q) g 0 d):=by
 have:=iE hb h k hd r q #[]
 rwa [grow_empty]at this
def Wu(z:Option (Nat×Nat))(w:World):SB z w w:=⟨rfl,rfl,rfl,az _,λ_ _ _=>rfl⟩
def Zz{zs e:Fp}(h:(TV.list 1 (zs.map (TV.int .i64))).WF)(k:e.length<=zs.length)(r:∀x∈e,x∈zs):(TV.list 1 (e.map (TV.int .i64))).WF:=by grind[TV.WF,c9,CC]
variable{P:Program}{f:FuncId}
def oB(M:EG P f=X){zs h:Fp}(r:h.length=zs.length)(G:∀x∈h,x∈zs)
  (A:∀(w:World),zs=[]->Calls P f #[.slice W 0 0] w λe w'=>e=.returned (.tuple #[])/\w'=w)
  (B:∀(g cap:Nat)(w:World),zs.length<=cap->cap<=maxLen->g<w.heap.size->Holds Ec w g 0 zs.toArray->Calls P f #[.slice (Y ⟨g,0,W⟩) zs.length cap] w λe w'=>e=.returned (.tuple #[])/\∃n os,w'=grow (putRow Ec (Sort.ahead w n) g 0 h.toArray) os):
  AV P f [.list 1 (zs.map (TV.int .i64))] (.turn h []):=by
 refine ⟨zs,[],rfl,M,rfl,λ_ w v vs z H _ I hv _ _ _=>?_⟩;cases vs with
 |cons=>cases hv
 |nil=>
 rcases ZM I with⟨rfl,k,rfl,E⟩|⟨g,cap,cur,e,rfl,k,E,L,Q,R,rfl⟩
 .have J:zs=[]:=y_ k;have C:h=[]:=y_ (by rw[r,k]);refine(A w J).mono ?_;rintro _ _ ⟨rfl,rfl⟩;subst J C;exact⟨⟨r,Zz H U G,trivial⟩,⟨_,rfl,#[],rfl,rfl⟩,I,Wu _ _⟩
 .have D:g<w.heap.size:=(F!.1 k).1;refine(B g cap w E L D (am (n:=zs.length) k R)).mono ?_;rintro _ _ ⟨rfl,n,os,rfl⟩;have:=iE (d:=h.toArray) (m:=zs.length) k Q L (by simp[r];exact E) (by simp[r]) n os;have N:List.take zs.length h=h:=List.take_of_length_le U;simp[N]at this;exact⟨⟨r,Zz H U G,trivial⟩,⟨_,rfl,#[],rfl,rfl⟩,this.1,this.2⟩
def xN(J:EG P f=X){zs k:Fp}{rest:Fp}(R:k.length+rest.length=zs.length)(L:∀x∈k,x∈zs)
  (r:∀(w:World),zs=[]->Calls P f #[.slice W 0 0] w λe w'=>e=.returned (.slice W 0 0)/\w'=w)
  (A:∀(g cap:Nat)(w:World),zs.length<=cap->cap<=maxLen->g<w.heap.size->Holds Ec w g 0 zs.toArray->Calls P f #[.slice (Y ⟨g,0,W⟩) zs.length cap] w λe w'=>e=.returned (.slice (Y ⟨g,0,W⟩) k.length cap)/\∃n,w'=putRow Ec (Sort.ahead w n) g 0 (k++rest).toArray):
  AV P f [.list 1 (zs.map (TV.int .i64))] (.cut k):=by
 refine ⟨zs,rfl,J,λh=>Zz h U L,λw v z E=>?_⟩;rcases ZM E with⟨rfl,B,rfl,H⟩|⟨g,cap,cur,e,rfl,B,H,I,N,Q,rfl⟩
 .have G:zs=[]:=y_ B;have C:k=[]:=y_ U;refine(r w G).mono ?_;rintro _ _ ⟨rfl,rfl⟩;subst G C;exact⟨_,rfl,E,Wu _ _⟩
 .have D:g<w.heap.size:=(F!.1 B).1;refine(A g cap w H I D (am (n:=zs.length) B Q)).mono ?_;rintro _ _ ⟨rfl,n,rfl⟩;have:=qC (d:=(k++rest).toArray) (m:=k.length) B N I an V n;have M:List.take k.length (k++rest)=k:=V
  simp [M]at this;exact⟨_,rfl,this.1,this.2⟩
variable{F:Nat->Nat->Prop}
def Y9{b:Nat}:∀(zs:Fp)(o:Nat),JX w F 1 (zs.map (TV.int .i64)) b o->∀j,j<zs.length->w.cell? ⟨b,o+j,W⟩=Y (.int .i64 (zs.getD j 0))
 |[],_,_,j,e=>by simp at e|z::zs,o,h,0,_=>by
  grind [JX,JW]
 |z::zs,o,h,j+1,e=>by
  simp [JX]at h;have:=Y9 zs (o+1) h.2.2 j h?
  grind
def Xo{zs:Fp}{v:Value}(h:A3 w F (.list 1 (zs.map (TV.int .i64))) v):
  (zs=[]/\∃a cap,v=.slice a 0 cap)\/∃b k cap,v=.slice (Y ⟨b,k,W⟩) zs.length cap/\zs.length<=cap/\∀j,j<zs.length->w.cell? ⟨b,k+j,W⟩=Y (.int .i64 (zs.getD j 0)):=by
 simp [A3]at h;obtain⟨a,cap,rfl,B,C,D⟩:=h;cases a with
 |none=>
  have r:zs=[]:=by simpa using C rfl
  subst r;exact .inl ⟨rfl,W,cap,rfl⟩
 |some A=>
  obtain ⟨z,E⟩:=D A rfl;obtain⟨b,k,G⟩:=A;simp only at z;by_cases r:zs=[]
  .subst r;exact .inl ⟨rfl,_,cap,rfl⟩
  have z:G=W:=z.resolve_left (λe=>r h?);subst z;exact .inr ⟨b,k,cap,rfl,B,Y9 zs k E⟩
variable{t u:TV}
def U4{vs:Array Value}(h:AR w F [t,u] vs.toList):∃v e,vs=#[v,e]/\A3 w F t v/\A3 w F u e:=by
 simp [AR]at h
 grind
def pL(C:EG P f=X){zs:Fp}{x:Int}(G:zs.length<=AX)(H:zs.Pairwise (·<=·))
  (k:∀(a:Option Addr)(c:Nat)(w:World),zs=[]->Calls P f #[.slice a 0 c,.int .i64 x] w λe w'=>e=.returned (.tuple #[.int .i64 0,.bool T])/\w'=w)
  (r:∀(b h c:Nat)(w:World),(∀j,j<zs.length->w.cell? ⟨b,h+j,W⟩=Y (.int .i64 (zs.getD j 0)))->Calls P f #[.slice (Y ⟨b,h,W⟩) zs.length c,.int .i64 x] w λe w'=>e=.returned (.tuple #[.int .i64 ((zs.take zs.length).countP (·<x):Nat),.bool ((zs.take zs.length).contains x)])/\∃q,w'=w.drewN q):
  AV P f [.list 1 (zs.map (TV.int .i64)),.int .i64 x] (.tp [.int .i64 (zs.countP (·<x):Nat),.bool (zs.contains x)]):=by
 refine AV.of0 (λI=>⟨C,λF0 w vs z _=>?_⟩) rfl;obtain⟨v,J,rfl,D,B⟩:=U4 z;simp[A3]at B;subst B;have A:(BA.tp [.int .i64 (zs.countP (·<x):Nat),.bool (zs.contains x)]).WF:=by
  have:=List.countP_le_length (p:=λy=>decide (y<x)) (l:=zs);simp[BA.WF,TV.pq,TV.WF,IntKind.min,IntKind.max,IntKind.signed,IntKind.bits]
  grind [AX]
 refine ⟨A,?_⟩;rcases Xo D with⟨rfl,a0,cap,rfl⟩|⟨b,h,cap,rfl,L,E⟩
 .refine(k a0 cap w rfl).mono ?_;rintro _ _ ⟨rfl,rfl⟩;refine⟨_,rfl,Below.refl _ _,?_⟩;simp only[JY];exact⟨_,rfl,by simp[AR,A3]⟩
 .refine(r b h cap w E).mono ?_;rintro _ _ ⟨rfl,q,rfl⟩;refine⟨_,rfl,Go.below_drewN (Below.refl _ _) q,?_⟩;simp only[JY];exact⟨_,rfl,by simp[AR,A3]⟩
def xZ(A:EG P f=X){s:ByteArray}{c n:Int}(C:-1<=n/\n<=s.size)(h:∀w:World,Calls P f #[.string s,.int .u8 c] w λe w'=>e=.returned (.int .i64 n)/\w'=w):AV P f [.str s,.int .u8 c] (.sh (.int .i64 n)):=by
 refine AV.of0 (λB=>⟨A,λF0 w vs k _=>?_⟩) rfl;obtain⟨v,E,rfl,r,z⟩:=U4 k;simp[A3]at r z;subst r z;have D:s.size<=LY:=B.1;refine⟨?_,?_⟩
 .simp[BA.WF,TV.WF,IntKind.min,IntKind.max,IntKind.signed,IntKind.bits]
  grind [LY]
 .refine(h w).mono ?_;rintro _ _ ⟨rfl,rfl⟩;exact⟨_,rfl,Below.refl _ _,by simp[JY,A3]⟩
def iK{l:Fp}{x:Int}(h:x∈Go.Lib.compact l):x∈l:=by
 unfold Go.Lib.compact Go.Lib.compactUpTo at h
 grind
def jW:∀(l:List UInt8)(c:UInt8),Go.Lib.indexByte l c<=l.length
 |[],c=>by simp[Go.Lib.indexByte]|b::l,c=>by
  have:=jW l c;simp[Go.Lib.indexByte,cE]
  grind
def xY(s:ByteArray)(c:UInt8):Go.Lib.indexByte s.data.toList c<=s.size:=by
 have:=jW s.data.toList c;simpa using this
def ur(G:EG P f=X)(H:n<=AX){e:TypeId}{z:Array Value}(I:z.size=1)
  (J:∀w:World,n=0->Calls P f #[.slice W 0 0,.int .i64 n] w λr w'=>r=.returned (.slice W 0 0)/\w'=w)
  (L:∀w:World,0<n->Calls P f #[.slice W 0 0,.int .i64 n] w λr w'=>r=.returned (.slice (Y ⟨w.heap.size,0,W⟩) 0 (grownCap w (0+n) 0 e))/\w'=w.drew.alloc (.cells (([]:List Value).toArray++Builtin.zeroCells z (0+n-0)++Builtin.zeroCells z (grownCap w (0+n) 0 e-(0+n))) e)):
  AV P f [.nil,.int .i64 n] (.own (.list 1 [])):=by
 refine AV.of0 (λQ=>⟨G,λF0 w vs h _=>?_⟩) rfl;obtain⟨v,R,rfl,D,E⟩:=U4 h;simp[A3]at D E;subst D E;refine⟨by simp[BA.WF,TV.WF,TV.pq],?_⟩;rcases Nat.eq_zero_or_pos n with C|A
 .refine(J w C).mono ?_;rintro _ _ ⟨rfl,rfl⟩;exact⟨_,rfl,Below.refl _ _,W,⟨[],⟨V,.inl ⟨rfl,rfl,rfl⟩⟩,rfl,V,V⟩,V⟩
 .refine(L w A).mono ?_;rintro _ _ ⟨rfl,rfl⟩;have N:=grownCap_ge w (0+n) 0 e;have B:grownCap w (0+n) 0 e<=maxLen:=grownCap_le_maxLen w (0+n) 0 e (by unfold AX at H;unfold maxLen;omega);refine⟨_,rfl,⟨rfl,rfl,rfl,V,λk M=>Below.heap_alloc w.drew _ k M⟩,Y (w.heap.size,0*1),⟨[],⟨V,.inr ⟨w.heap.size,_,_,e,rfl,heap_alloc_new w.drew _,Nat.zero_le _,B,?_,V,rfl⟩⟩,rfl,V,V⟩,?_⟩
  .simp only[G_,List.size_toArray,List.length_nil,size_zeroCells,I];omega
  .intro b lo hb;simp at hb;rw[<-hb.1];exact⟨az _,V⟩
end Go.Sf
namespace Go.Sf
def ins(x:Int):Fp->Fp
 |[]=>[x]|y::l=>if x<=y then x::y::l else y::ins x l
def S4:Fp->Fp
 |[]=>[]|x::l=>ins x (S4 l)
theorem Xb(x:Int):∀l:Fp,(ins x l).Perm (x::l)
 |[]=>List.Perm.refl _|y::l=>by
  unfold ins;split
  .exact List.Perm.refl _
  .exact((Xb x l).cons y).trans (List.Perm.swap x y l)
theorem Rj:∀l:Fp,(S4 l).Perm l
 |[]=>List.Perm.refl _|x::l=>(Xb x (S4 l)).trans ((Rj l).cons x)
def Yd(x:Int):∀l:Fp,l.Pairwise (·<=·)->(ins x l).Pairwise (·<=·)
 |[],_=>List.pairwise_singleton _ _|y::l,h=>by
  obtain ⟨A,k⟩:=B?.1 h;unfold ins;split
  .grind[B?,Int.le_trans]
  .rename_i e;refine B?.2 ⟨λz r=>?_,Yd x l k⟩
   grind [Xb]
theorem SR:∀l:Fp,(S4 l).Pairwise (·<=·)
 |[]=>List.Pairwise.nil|x::l=>Yd x _ (SR l)
theorem Vo(l:Fp):(l.mergeSort λx y=>decide (x<=y)).Pairwise (·<=·):=by grind[List.pairwise_mergeSort]
def rA(l:Fp):(l.mergeSort λx y=>decide (x<=y))=S4 l:=by grind[List.Perm.eq_of_pairwise,Int.le_antisymm,Vo,SR,C?,Rj]
def Abv:Fp->Bool
 |[]=>T|x::l=>l.contains x||Abv l
theorem XS:∀l:Fp,Abv l=T↔l.Nodup
 |[]=>by simp[Abv]|x::l=>by
  rw [Abv,Bool.or_eq_false_iff,XS l,List.nodup_cons];simp
def U9{l:Fp}(k:l.Pairwise (·<=·)):(Go.Lib.compact l).length=l.length↔l.Nodup:=by
 have e:(Go.Lib.compact l).length=l.length↔∀j,j<l.length->Go.Lib.keeps l.toArray j=X:=by
  unfold Go.Lib.compact Go.Lib.compactUpTo
  grind [c9,List.length_filter_eq_length_iff,List.range,List.length_range]
 have g:∀j(r:j<l.length),l.toArray[j]! =l[j]:=by
  grind
 have E:=D_.1 k;rw[e];constructor
 .intro h;refine D_.2 (λi j C D z A=>?_);have B:=h (i+1) U;simp[Go.Lib.keeps,qo,Nat.add_sub_cancel]at B
  grind
 .intro h j r;simp[Go.Lib.keeps,qo]
  grind [D_]
def tM(l:Fp):decide ((Go.Lib.compact (l.mergeSort λx y=>decide (x<=y))).length<l.length)=Abv l:=by
 have e:=U9 (Vo l);have h:=(C? l (λx y=>decide (x<=y))).nodup_iff;have k:=XS l;have r:=Go.Lib.compact_length_le (l.mergeSort λx y=>decide (x<=y))
 grind [List.length_mergeSort,Abv]
end Go.Sf
namespace Go.Sf
open Go.RowKit (Below)
end Go.Sf
namespace Go.Sf
theorem bs{α β:Type}(a:α)(f:α->Option β):(Y a).bind f=f a:=rfl
section loops
variable{σ ρ:Type}
variable{n:Nat}{i:Int}{s:σ}
theorem GO{f:Int->σ->Option (B2 σ ρ)}:t5 f (n+1) i s=(match f i s with
  |none=>W|some (.next s')=>t5 f n (i+1) s'|some (.brk s')=>Y (.inl s')|some (.ret r)=>Y (.inr r)):=rfl
def GA(c:Int->Option ρ):Nat->Int->Option ρ
 |0,_=>W|n+1,i=>match c i with
  |some r=>Y r|none=>GA c n (i+1)
def fst(c:Int->Option ρ)(a b:Int):Option ρ:=GA c (b-a).toNat a
def tV(o:Option ρ):Unit ⊕ ρ:=match o with
 |none=>.inl ()|some r=>.inr r
def TN(o:Option ρ):B2 Unit ρ:=match o with
 |none=>.next ()|some r=>.ret r
theorem aV{f:Int->Unit->Option (B2 Unit ρ)}(c:Int->Option ρ):∀(n:Nat)(a:Int),
  (∀i,a<=i->i<a+n->(∀j,a<=j->j<i->c j=W)->f i ()=Y (TN (c i)))->t5 f n a ()=Y (tV (GA c n a))
 |0,_,_=>rfl|n+1,a,h=>by
  have z:=h a (G! _) U (λj e k=>U);rw[GO,z,GA];cases D:c a with
  |some r=>rfl|none=>
   simp [TN];refine aV c n (a+1) (λi e k A=>h i U U (λj B C=>?_))
   grind
def Bi{f:Int->Unit->Option (B2 Unit ρ)}(c:Int->Option ρ){a b:Int}(h:∀i,a<=i->i<b->(∀j,a<=j->j<i->c j=W)->f i ()=Y (TN (c i))):hV f a b ()=Y (tV (fst c a b)):=by grind[hV,fst,aV]
theorem UR{c:Int->Option ρ}:∀{n:Nat}{a:Int},GA c n a=W↔∀i,a<=i->i<a+n->c i=W
 |0,a=>by simp[GA];intro i k z;omega|n+1,a=>by
  rw [GA];constructor
  .intro h;cases e:c a with
   |some r=>rw[e]at h;cases h
   |none=>
    rw [e]at h;intro i k z;by_cases hi:i=a
    .subst hi;exact e
    .exact(UR.1 h) i U U
  .intro h;rw[h a (G! _) U];exact UR.2 (λi k z=>h i U U)
theorem A8{c:Int->Option ρ}{a b:Int}:fst c a b=W↔∀i,a<=i->i<b->c i=W:=by grind[fst,UR]
def W4{c d:Int->Option ρ}:∀{n:Nat}{a:Int},(∀i,a<=i->i<a+n->(∀j,a<=j->j<i->c j=W)->c i=d i)->GA c n a=GA d n a
 |0,_,_=>rfl|n+1,a,h=>by
  have z:=h a (G! _) U (λj e k=>U);rw[GA,GA,<-z];cases D:c a with
  |some r=>rfl|none=>
   refine W4 (λi e k A=>h i U U (λj B C=>?_))
   grind
theorem aZ{c d:Int->Option ρ}{a b:Int}(h:∀i,a<=i->i<b->(∀j,a<=j->j<i->c j=W)->c i=d i):fst c a b=fst d a b:=
 W4 (λi e r k=>h i e U k)
def kp(p:Int->Bool)(a b:Int):Bool:=(fst (λi=>if p i then Y ()else W) a b).isSome
variable{p:Int->Bool}
theorem Cz{a b:Int}:kp p a b=X↔∃i,a<=i/\i<b/\p i=X:=by grind[kp,Option.isSome_iff_ne_none,A8]
theorem B5{a b:Int}:kp p a b=T↔∀i,a<=i->i<b->p i=T:=by
 rw [<-Bool.not_eq_true,Cz]
 grind
theorem O0{a b:Int}{v:ρ}:fst (λi=>if p i then Y v else W) a b=if kp p a b then Y v else W:=by
 by_cases h:kp p a b=X
 .rw[ac h];have e:fst (λi=>if p i then Y v else W) a b≠W:=by
   grind [A8,Cz]
  unfold fst at e|-;revert e;generalize (b-a).toNat=n;intro e;clear h
  induction n generalizing a with
  |zero=>exact(e rfl).elim|succ n k=>
   grind [GA]
 .rw[ae h];rw[Bool.not_eq_true,B5]at h
  grind [A8]
def Bq{f:Int->Unit->Option (B2 Unit ρ)}(p:Int->Bool)(v:ρ){a b:Int}(h:∀i,a<=i->i<b->(∀j,a<=j->j<i->p j=T)->f i ()=Y (if p i=X then .ret v else .next ())):hV f a b ()=Y (if kp p a b=X then .inr v else .inl ()):=by
 rw [Bi (λi=>if p i then Y v else W),O0]
 .cases kp p a b<;>rfl
 .intro i e k A;rw[h i e k (λj r z=>by
   grind)]
  cases p i<;>rfl
theorem UA{p q:Int->Bool}{a b:Int}(h:∀i,a<=i->i<b->p i=q i):kp p a b=kp q a b:=by grind[kp,aZ]
def YS{f:Int->σ->Option σ}(I:Int->σ->Prop):∀(n:Nat)(a:Int)(s:σ),I a s->(∀i s,a<=i->i<a+n->I i s->∃s',f i s=Y s'/\I (i+1) s')->∃s',Aak f n a s=Y s'/\I (a+n) s'
 |0,a,s,h,_=>⟨s,rfl,b?⟩|n+1,a,s,h,e=>by
  obtain ⟨s',B,k⟩:=e a s (G! _) U h;obtain⟨r,C,D⟩:=YS I n (a+1) s' k (λi s z A=>e i s U U)
  grind [Aak]
def Om{f:Int->σ->Option σ}(I:Int->σ->Prop){a b:Int}(e:a<=b)(k:I a s)(h:∀i s,a<=i->i<b->I i s->∃s',f i s=Y s'/\I (i+1) s'):∃s',kx f a b s=Y s'/\I b s':=by
 obtain ⟨s',z,A⟩:=YS I (b-a).toNat a s k (λi s r B=>h i s r U);exact⟨s',z,by rwa[show a+((b-a).toNat:Int)=b by omega]at A⟩
def Bo{f:Int->σ->Option σ}(g:Int->σ){a b:Int}(e:a<=b)(k:g a=s)(h:∀i,a<=i->i<b->f i (g i)=Y (g (i+1))):kx f a b s=Y (g b):=by
 obtain ⟨s',B,rfl⟩:=Om (λi s=>s=g i) e k.symm (λi s r z A=>⟨g (i+1),by rw[A];exact h i r z,rfl⟩);exact B
def nj{c:Int->Option ρ}{a b:Int}(h:b<=a):fst c a b=W:=by
 unfold fst;rw[show(b-a).toNat=0 by omega];rfl
def aW{f:Int->σ->Option (B2 σ ρ)}(I:Int->σ->Prop)(B:σ->Prop)(R:ρ->Prop):∀(n:Nat)(a:Int)(s:σ),I a s ->
  (∀i s,a<=i->i<a+n->I i s->(∃s',f i s=Y (.next s')/\I (i+1) s')\/(∃s',f i s=Y (.brk s')/\B s')\/∃r,f i s=Y (.ret r)/\R r) ->
  (∃s',t5 f n a s=Y (.inl s')/\(I (a+n) s'\/B s'))\/∃r,t5 f n a s=Y (.inr r)/\R r
 |0,a,s,h,_=>.inl ⟨s,rfl,.inl b?⟩|n+1,a,s,h,z=>by
  rw [GO];rcases z a s (G! _) U h with⟨s',e,k⟩|⟨s',e,k⟩|⟨r,e,k⟩
  .rw[e];have:=aW I B R n (a+1) s' k (λi s A C=>z i s U U)
   grind
  .grind
  grind
def XZ{f:Int->σ->Option (B2 σ ρ)}(I:Int->σ->Prop)(B:σ->Prop)(R:ρ->Prop){a b:Int}(e:a<=b)(k:I a s)
  (h:∀i s,a<=i->i<b->I i s->(∃s',f i s=Y (.next s')/\I (i+1) s')\/(∃s',f i s=Y (.brk s')/\B s')\/∃r,f i s=Y (.ret r)/\R r):
  (∃s',hV f a b s=Y (.inl s')/\(I b s'\/B s'))\/∃r,hV f a b s=Y (.inr r)/\R r:=by
 have:=aW I B R (b-a).toNat a s k (λi s z A=>h i s z U)
 rwa [show a+((b-a).toNat:Int)=b by omega]at this
end loops
section lists
variable{α:Type}
def AA[Inhabited α](l:List α)(i:Int):α:=l.getD i.toNat default
variable{l:List α}{i:Int}
theorem AD[Inhabited α](e:0<=i)(h:i<l.length):idx l i=Y (AA l i):=by
 unfold idx AA
 grind
theorem eY{x:α}(h:idx l i=Y x):0<=i/\i<l.length/\l[i.toNat]?=Y x:=by
 unfold idx at h
 grind
theorem AG[Inhabited α](e:0<=i)(k:i<l.length):AA l i∈l:=by
 have h:=AD e k;exact List.mem_of_getElem? (eY h).2.2
theorem BP[Inhabited α]{x:α}(h:x∈l):∃i:Int,0<=i/\i<l.length/\AA l i=x:=by
 obtain ⟨n,e⟩:=List.getElem?_of_mem h;have k:=(A?.1 e).1;refine⟨n,U,U,?_⟩;unfold AA
 grind
theorem Jb[Inhabited α]{p:α->Bool}:l.any p=kp (λi=>p (AA l i)) 0 l.length:=by
 rw [Bool.eq_iff_iff,List.any_eq_true,Cz]
 grind [BP,AG]
def GW{b:Int}(e:0<=b)(h:b<=l.length):slc l 0 b=Y (l.take b.toNat):=by
 unfold slc
 grind
variable{n:Nat}
theorem to[Inhabited α](h:i.toNat<n):AA (l.take n) i=AA l i:=by
 unfold AA
 grind
def SH[Inhabited α]{p:α->Bool}{b:Int}(e:0<=b)(h:b<=l.length):(l.take b.toNat).any p=kp (λi=>p (AA l i)) 0 b:=by grind[Jb,bk,UA,to]
variable{m:List α}
theorem AP(h:l.length+m.length<=AX):AY l m=Y (l++m):=by grind[AY]
theorem YG[Inhabited α](h:l.length=m.length)(e:∀i:Int,0<=i->i<l.length->AA l i=AA m i):l=m:=by
 refine List.ext_getElem h (λn k r=>?_);have:=e n U U;unfold AA at this
 grind
theorem Ox[Inhabited α]:AA (l++m) i=if i.toNat<l.length then AA l i else m.getD (i.toNat-l.length) default:=by
 unfold AA
 grind
variable{β:Type}
theorem Fu[Inhabited α][Inhabited β]{g:α->β}(e:0<=i)(h:i<l.length):AA (l.map g) i=g (AA l i):=by grind[AD,eY,AA]
end lists
section wh
variable{σ ρ:Type}
inductive Mc(f:σ->Option (B2 σ ρ)):σ->σ ⊕ ρ->Prop where
 |next {s s':σ} {o:σ ⊕ ρ} (h:f s=Y (.next s')) (k:Mc f s' o):Mc f s o
 |brk {s s':σ} (h:f s=Y (.brk s')):Mc f s (.inl s')
 |ret {s:σ} {r:ρ} (h:f s=Y (.ret r)):Mc f s (.inr r)
variable{s:σ}{o:σ ⊕ ρ}
def Mc.go{f:σ->Option (B2 σ ρ)}(h:Mc f s o):∃N,∀n,N<=n->Ta f n s=Y o:=by
 induction h with
 |next h k z=>
  obtain ⟨N,r⟩:=z;refine⟨N+1,λn e=>?_⟩;cases n with
  |zero=>omega|succ n=>rw[Ta,h];exact r n U
 |brk h=>
  refine ⟨1,λn e=>?_⟩;cases n with
  |zero=>omega|succ n=>rw[Ta,h]
 |ret h=>
  refine ⟨1,λn e=>?_⟩;cases n with
  |zero=>omega|succ n=>rw[Ta,h]
def Mc.eq{f:σ->Option (B2 σ ρ)}(h:Mc f s o):DC f s=Y o:=by
 obtain ⟨N,e⟩:=h.go;exact Dp N e
def D3(i:Int)(c:Option (Int ⊕ ρ)):B2 Int ρ:=match c with
 |none=>.next (i+1)|some (.inl x)=>.brk x|some (.inr r)=>.ret r
def iA{f:Int->Option (B2 Int ρ)}(c:Int->Option (Int ⊕ ρ)):∀(n:Nat)(a:Int),(∀i,a<=i->i<a+n->(∀j,a<=j->j<i->c j=W)->f i=Y (D3 i (c i)))->f (a+n)=Y (.brk (a+n))->Mc f a ((GA c n a).getD (.inl (a+n)))
 |0,a,_,hb=>by
  simp [GA];exact .brk (by simpa using hb)
 |n+1,a,h,hb=>by
  have e:=h a (G! _) U (λj z A=>U);rw[GA];cases k:c a with
  |some r=>
   rw [k]at e;cases r with
   |inl x=>exact .brk e|inr r=>exact .ret e
  |none=>
   rw [k]at e;rw[show a+((n+1:Nat):Int)=a+1+n by omega]at hb|-;refine .next e (iA c n (a+1) (λi z A B=>h i U U (λj C D=>?_)) hb)
   grind
def QR{f:Int->Option (B2 Int ρ)}(c:Int->Option (Int ⊕ ρ)){a b:Int}(k:a<=b)(h:∀i,a<=i->i<b->(∀j,a<=j->j<i->c j=W)->f i=Y (D3 i (c i)))(hb:f b=Y (.brk b)):DC f a=Y ((fst c a b).getD (.inl b)):=by
 have e:a+((b-a).toNat:Int)=b:=U
 have:=iA c (b-a).toNat a (λi r A z=>h i r U z) (by rw[e];exact hb);rw[e]at this;exact this.eq
end wh
section bytes
instance:LawfulBEq ByteArray where
 eq_of_beq {a b} h:=by
  cases a;cases b;exact congrArg ByteArray.mk (eq_of_beq (show((_:Array UInt8)==_)=X from h))
 rfl {a}:=show(a.data==a.data)=X from beq_self_eq_true _
def bt(s:ByteArray)(i:Int):Int:=((s.data.toList.getD i.toNat 0).toNat:Int)
variable{i:Int}
theorem R8{s:ByteArray}(h:0<=i)(k:i<s.size):Aav s i=Y (bt s i):=by
 have e:i.toNat<s.data.size:=by
  have:s.size=s.data.size:=rfl;omega
 unfold Aav bt;rw[ac h,getElem?_pos s i.toNat e];simp[List.getD_eq_getElem?_getD,E?,F_ e];rfl
def J3{s:ByteArray}{a b:Int}(e:0<=a)(h:a<=b)(k:b<=s.size):Aai s a b=Y (s.extract a.toNat b.toNat):=by grind[Aai]
def cm{s:ByteArray}{a b:Int}(e:0<=a)(h:a<=b)(k:b<=s.size):((s.extract a.toNat b.toNat).size:Int)=b-a:=by grind[ByteArray.size_extract]
end bytes
end Go.Sf
namespace Go.Sf
def Le{α:Type}(a b:Option α):Prop:=∀r,a=Y r->b=Y r
def Le.refl{α:Type}(a:Option α):Le a a:=λ_ h=>h
def Le.none{α:Type}(b:Option α):Le Option.none b:=λ_ h=>c!
def Le.bind{α β:Type}{a b:Option α}{f g:α->Option β}(h:Le a b)(k:∀x,Le (f x) (g x)):Le (a.bind f) (b.bind g):=by
 intro r hr;obtain⟨x,e,z⟩:=Option.bind_eq_some_iff.1 hr;rw[h x e,Option.bind_some];exact k x r z
def Le.ite{α:Type}{c:Prop}[Decidable c]{a b a' e:Option α}(h:Le a b)(k:Le a' e):Le (if c then a else a') (if c then b else e):=n_
def Le.Aak{σ:Type}{f g:Int->σ->Option σ}(h:∀i s,Le (f i s) (g i s)):∀(n:Nat)(i:Int)(s:σ),Le (Aak f n i s) (Aak g n i s)
 |0,_,_=>Le.refl _|n+1,i,s=>by
  intro r hr;unfold Go.Sf.Aak at hr|-;cases hf:f i s with
  |none=>rw[hf]at hr;cases hr
  |some s'=>
   rw [hf]at hr;rw[h i s s' hf];exact Le.Aak h n (i+1) s' r hr
def Le.kx{σ:Type}{f g:Int->σ->Option σ}{a b:Int}{s:σ}(h:∀i s,Le (f i s) (g i s)):Le (kx f a b s) (kx g a b s):=Le.Aak h _ _ _
def Le.t5{σ ρ:Type}{f g:Int->σ->Option (B2 σ ρ)}(h:∀i s,Le (f i s) (g i s)):∀(n:Nat)(i:Int)(s:σ),Le (t5 f n i s) (t5 g n i s)
 |0,_,_=>Le.refl _|n+1,i,s=>by
  intro r hr;unfold Go.Sf.t5 at hr|-;cases hf:f i s with
  |none=>rw[hf]at hr;cases hr
  |some c=>
   rw [hf]at hr;rw[h i s c hf];cases c with
   |next s'=>exact Le.t5 h n (i+1) s' r hr|brk s'=>exact hr|ret v=>exact hr
def Le.hV{σ ρ:Type}{f g:Int->σ->Option (B2 σ ρ)}{a b:Int}{s:σ}(h:∀i s,Le (f i s) (g i s)):Le (hV f a b s) (hV g a b s):=Le.t5 h _ _ _
def Le.ej{σ ρ β:Type}{o p:Option (σ ⊕ ρ)}{k e:σ->Option β}{l z:ρ->Option β}(h:Le o p)(A:∀s,Le (k s) (e s))(B:∀v,Le (l v) (z v)):Le (ej o k l) (ej p e z):=by
 intro r hr;cases o with
 |none=>cases hr
 |some x=>
  rw [h x rfl];cases x with
  |inl s=>exact A s r hr|inr v=>exact B v r hr
def ZL{σ ρ:Type}{f g:σ->Option (B2 σ ρ)}(h:∀s,Le (f s) (g s)):∀(n:Nat)(s:σ)(o:σ ⊕ ρ),Ta f n s=Y o->Mc g s o
 |0,_,_,hr=>by cases hr
 |n+1,s,o,hr=>by
  unfold Ta at hr;cases hf:f s with
  |none=>rw[hf]at hr;cases hr
  |some c=>
   rw [hf]at hr;have e:=h s c hf;cases c with
   |next s'=>exact .next e (ZL h n s' o hr)|brk s'=>cases hr;exact .brk e
   |ret v=>cases hr;exact .ret e
abbrev eN(N:Nat):Ev:=⟨Y N⟩
def LW{σ ρ:Type}{f g:σ->Option (B2 σ ρ)}{N:Nat}{s:σ}(h:∀s,Le (f s) (g s)):Le (@DC (eN N) _ _ f s) (@DC FC _ _ g s):=λ_ hr=>(ZL h N s _ hr).eq
def LL{α:Type}{a:Option α}{g:Nat->Option α}(N:Nat)(h:∀n,N<=n->Le a (g n)):Le a (@Kt FC _ g):=λr hr=>Dp N λn e=>h n e r hr
class U6(α:Type)where
 le:α->α->Prop
instance{β:Type}:U6 (Option β):=⟨Le⟩
instance{α β:Type}[U6 β]:U6 (α->β):=⟨λf g=>∀x,U6.le (f x) (g x)⟩
class Mo{α:Type}[U6 α](a b:α):Prop where
 le:U6.le a b
class MF{α:Type}[U6 α](f:Ev->α):Prop where
 le:∀N,U6.le (f (eN N)) (f FC)
instance{α:Type}(a:Option α):Mo a a:=⟨Le.refl a⟩
instance{α β:Type}[U6 β]{F G:α->β}[h:Mo F G](x:α):Mo (F x) (G x):=⟨h.le x⟩
instance{α:Type}[U6 α]{f:Ev->α}[MF f]{N:Nat}:Mo (f (eN N)) (f FC):=⟨MF.le N⟩
variable{β:Type}
def LO{a b:Option β}(h:U6.le a b):Le a b:=h
def Le.AaC{α:Type}{f g:α->K1}(h:∀p,Le (f p) (g p)):∀(l:List α),Le (Go.Sf.AaC f l) (Go.Sf.AaC g l)
 |[]=>Le.refl _|p::r=>(h p).bind λ_=>(Le.AaC h r).bind λ_=>Le.refl _
def lx{P:Prop}(p:P:=by
 with_reducible repeat' first|exact Le.refl _|refine Le.bind ?_ λ_=>?_|refine Le.ite ?_ ?_|refine Le.ej ?_ (λ_=>?_) λ_=>?_|refine Le.kx λ_ _=>?_|refine Le.hV λ_ _=>?_|refine LW λ_=>?_|refine Le.AaC (λ_=>?_) _|exact LO Mo.le):P:=p
def ly{a b:Option β}(p:Le a b):U6.le a b:=p
end Go.Sf
