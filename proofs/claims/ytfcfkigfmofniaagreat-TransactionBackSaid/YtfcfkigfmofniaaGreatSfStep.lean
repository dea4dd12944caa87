/- Steps of the pure language with typed values: one rule an operation, one a piece of code, one a kind of loop. -/
import Derived.Test.YtfcfkigfmofniaaGreatSfSem
set_option linter.all false
open Option renaming some->Y,none->W
open Bool renaming true->X,false->T
open List renaming replicate->u!,eq_nil_of_length_eq_zero->u?,cons_append->v1,set_append_right->v5,take_append_drop->v6,map_append->v9,getElem?_cons_succ->v_,map_cons->v!,flatMap_cons->v?,set_cons_succ->w_,getElem?_eq_some_iff->w!,mem_map->w?,map_replicate->x_
open Nat renaming ble->x!,le_of_ble_eq_true->x?,beq->y_,blt->y!,add_mul->y?,mul_le_mul_right->z9
namespace Go.Sf
abbrev AH(n:Int):Int:=IntKind.i64.wrap n
def idx{α:Type}(l:List α)(j:Int):Option α:=if 0<=j then l[j.toNat]? else W
def zq{α:Type}(l:List α)(a b:Int):Option (List α):=if(0<=a/\a<=b)/\b<=l.length then Y ((l.take b.toNat).drop a.toNat)else W
def y6(s:ByteArray)(a b:Int):Option ByteArray:=if 0<=a/\a<=b/\b<=s.size then Y (s.extract a.toNat b.toNat)else W
def zr(s:ByteArray)(j:Int):a5:=if 0<=j then(s[j.toNat]?).map (λb=>(b.toNat:Int))else W
def AT{α:Type}(l m:List α):Option (List α):=if l.length+m.length<=AU then Y (l++m)else W
def quo(a b:Int):a5:=if b=0 then W else Y (a.tdiv b)
def Cf(a b:Int):a5:=if b=0 then W else Y (a.tmod b)
inductive Be(σ ρ:Type)where
 |next (s:σ)
 |brk (s:σ)
 |ret (r:ρ)
section loops
variable{σ ρ:Type}
def yf(f:Int->σ->Option (Be σ ρ)):Nat->Int->σ->Option (σ ⊕ ρ)
 |0,_,s=>Y (.inl s)|n+1,i,s=>match f i s with
  |none=>W|some (.next s')=>yf f n (i+1) s'|some (.brk s')=>Y (.inl s')|some (.ret r)=>Y (.inr r)
def kl(f:Int->σ->Option (Be σ ρ))(a b:Int)(s:σ):Option (σ ⊕ ρ):=yf f (b-a).toNat a s
def y7(f:Int->σ->Option σ):Nat->Int->σ->Option σ
 |0,_,s=>Y s|n+1,i,s=>match f i s with
  |none=>W|some s'=>y7 f n (i+1) s'
def ns(f:Int->σ->Option σ)(a b:Int)(s:σ):Option σ:=y7 f (b-a).toNat a s
def Ri(f:σ->Option (Be σ ρ)):Nat->σ->Option (σ ⊕ ρ)
 |0,_=>W|n+1,s=>match f s with
  |none=>W|some (.next s')=>Ri f n s'|some (.brk s')=>Y (.inl s')|some (.ret r)=>Y (.inr r)
end loops
class Ev where
 fuel:Option Nat
instance II:Ev:=⟨W⟩
open Classical in
noncomputable def aT{α:Type}(g:Nat->Option α):Option α:=if h:∃v N,∀n,N<=n->g n=Y v then Y h.choose else W
noncomputable def Kl[e:Ev]{α:Type}(g:Nat->Option α):Option α:=match e.fuel with
 |none=>aT g|some n=>g n
variable{α:Type}
theorem Cq{g:Nat->Option α}{v:α}(h:Kl g=Y v):∃N,∀n,N<=n->g n=Y v:=by
 change aT g=Y v at h;unfold aT at h;split at h
 next k=>cases h;exact k.choose_spec
 .cases h
theorem D3{g:Nat->Option α}{v:α}(N:Nat)(h:∀n,N<=n->g n=Y v):Kl g=Y v:=by
 have k:∃v N,∀n,N<=n->g n=Y v:=⟨v,N,h⟩;show aT g=Y v;unfold aT;rw[dif_pos k];obtain⟨M,u⟩:=k.choose_spec;have p:=h (max N M) (Nat.le_max_left _ _)
 grind
noncomputable def CY[Ev]{σ ρ:Type}(f:σ->Option (Be σ ρ))(s:σ):Option (σ ⊕ ρ):=Kl λn=>Ri f n s
def ek{σ ρ β:Type}(o:Option (σ ⊕ ρ))(k:σ->Option β)(kr:ρ->Option β):Option β:=
 match o with
 |none=>W|some (.inl s)=>k s|some (.inr v)=>kr v
theorem XO{σ ρ β:Type}{o:Option (σ ⊕ ρ)}{k:σ->Option β}{p:ρ->Option β}{b:β}(h:ek o k p=Y b):∃x,o=Y x/\ek (Y x) k p=Y b:=by
 cases o with
 |none=>cases h
 |some x=>exact⟨x,rfl,h⟩
theorem dx{σ ρ β:Type}{x:σ ⊕ ρ}{k:σ->Option β}{p:ρ->Option β}{b:β}{s:σ}(h:ek (Y x) k p=Y b)(u:x=.inl s):k s=Y b:=by subst u;exact h
theorem dy{σ ρ β:Type}{x:σ ⊕ ρ}{k:σ->Option β}{p:ρ->Option β}{b:β}{v:ρ}(h:ek (Y x) k p=Y b)(u:x=.inr v):p v=Y b:=by subst u;exact h
def Av{α:Type}(l:List α)(j:Int)(a:α):List α:=l.set j.toNat a
def GD{α:Type}(j:Int)(a:α):Option (List α):=if 0<=j/\j<=4096 then Y (u! j.toNat a)else W
def Uf(a b:ByteArray):Option ByteArray:=if a.size+b.size<=AU then Y (a++b)else W
variable{β:Type}
theorem bind_some{x:Option α}{f:α->Option β}{b:β}(h:x.bind f=Y b):∃a,x=Y a/\f a=Y b:=Option.bind_eq_some_iff.1 h
theorem Wj{c:Bool}{a b:α}{r:α}(k:c=X)(h:(if c=X then a else b)=r):a=r:=l!
theorem Wi{c:Bool}{a b:α}{r:α}(k:c=T)(h:(if c=X then a else b)=r):b=r:=l!
structure WO(S:FuncId->Fq->Al->Prop)(K:AB->Prop)(os:List PR)(O:AB):Prop where
 of::out:wpOps S K os O
structure WP(S:FuncId->Fq->Al->Prop)(c:PC)(q:Q)(O:AB):Prop where
 of::out:c.wp S q O
section
variable{S:FuncId->Fq->Al->Prop}{K:AB->Prop}{os:List PR}{O:AB}{d:Nat}
variable{t:TV}
theorem YD{x:AE}(h:x.val O=Y t):x.ev O=.tv t\/x.ev O=.ow t:=by
 unfold AE.val EV.val at h;split at h<;>simp_all
def AD.Aa8:AD->Nat
 |.bin .i .quo _ _=>0|.bin .i .rem _ _=>0|.bin .s .add _ _=>0|.bin .w _ _ _=>0|.bin (.a _) _ _ _=>0|.bin ..=>1|o=>2110221010223200010221334134211003223343421200140120221211411133400441001102212411111 / 10^ o.ctorIdx % 10
theorem st(n:Nat){op:AD}{e:EV}{env':AB}(_:op.Aa8=n)(h:∀p,p e env'->op.wp S O (Y d) p)(k:WO S K os ((d,e)::env')):WO S K (⟨Y d,op,W⟩::os) O:=⟨h (λe O=>wpOps S K os (O.put (Y d) e)) k.out⟩
theorem sn{op:AD}{env':AB}(_:op.Aa8=2)(h:∀p,p EV.undef env'->op.wp S O W p)(k:WO S K os env'):WO S K (⟨W,op,W⟩::os) O:=⟨h (λ_ O=>wpOps S K os O) k.out⟩
variable{α:Type}{n:Nat}{e:α->TV}{l:List α}{j:Int}
theorem wT{x i:AE}{es row:Fq}{ik:IntKind}{a:α}(h:idx l j=Y a)(p:x.val O=Y (.list n es))(hi:i.val O=Y (.int ik j))(he:es=l.map e)(u:(e a).cells=row)
  (k:WO S K os ((d,.tv (.pt row))::O)):WO S K (⟨Y d,.iad x i n,W⟩::os) O:=by
 replace k:=k.out;refine⟨?_⟩;subst he u;simp only[wpOps,PR.wp,AD.wp,p,hi];unfold idx at h;split at h
 next w=>exact⟨trivial,w,e a,by rw[List.getElem?_map,h];rfl,k⟩
 .cases h
theorem xk{x:AE}{r:Fq}(h:A4 O (x.ev O)=Y (t::r))(p:t.zK=T)(k:WO S K os ((d,.tv t)::O)):WO S K (⟨Y d,.ld x,W⟩::os) O:=by
 replace k:=k.out;refine⟨?_⟩;simp[wpOps,PR.wp,AD.wp,h,Ad,Gf];exact⟨p,k⟩
def eO{α:Type}(n:Nat)(e:α->TV):Option (List α)->TV
 |none=>.nil|some l=>.list n (l.map e)
theorem wU{l:Option (List α)}{x:AE}{r:Fq}(h:A4 O (x.ev O)=Y (eO n e l::r))(k:WO S K os ((d,.tv (eO n e l))::O)):WO S K (⟨Y d,.ld x,W⟩::os) O:=xk h (by cases l<;>rfl) k
theorem oA{x:AE}{cs:Fq}(h:A4 O (x.ev O)=Y cs)(p:x! n cs.length=X)(u:TV.agg (cs.take n)=t)(k:WO S K os ((d,.tv t)::O)):WO S K (⟨Y d,.lda x n,W⟩::os) O:=by
 replace k:=k.out;refine⟨?_⟩;subst u;simp[wpOps,PR.wp,AD.wp,h,Ad];exact⟨x? p,k⟩
variable{s:Nat}
theorem wV{cs:List AR}(h:O.get s=.bx cs)(p:x! n (cs.map (·.t)).length=X)(u:TV.agg ((cs.map (·.t)).take n)=t)(k:WO S K os ((d,.tv t)::O)):WO S K (⟨Y d,.ldb s n,W⟩::os) O:=by
 replace k:=k.out;refine⟨?_⟩;subst u;simp only[wpOps,PR.wp,AD.wp,h];exact⟨x? p,k⟩
section bins
variable{x y:AE}{ik:IntKind}{a b:Int}
theorem VC{h:BK}{op:BinOp}{u v t:TV}(p:x.val O=Y u)(w:y.val O=Y v)(A:LZ h op u v=Y t)(k:WO S K os ((d,.tv t)::O)):WO S K (⟨Y d,.bin h op x y,W⟩::os) O:=by
 replace k:=k.out;refine⟨?_⟩;simp[wpOps,PR.wp,AD.wp,p,w,A,Ad];exact k
theorem we{q:Int}(h:quo a b=Y q)(p:x.val O=Y (.int ik a))(u:y.val O=Y (.int ik b))(k:WO S K os ((d,.tv (.int ik (ik.wrap q)))::O)):WO S K (⟨Y d,.bin .i .quo x y,W⟩::os) O:=by grind[VC,quo,LZ,intCmp,intArith,Option.some.inj]
theorem wg{q:Int}(h:Cf a b=Y q)(p:x.val O=Y (.int ik a))(u:y.val O=Y (.int ik b))(k:WO S K os ((d,.tv (.int ik q))::O)):WO S K (⟨Y d,.bin .i .rem x y,W⟩::os) O:=by grind[VC,Cf,LZ,intCmp,intArith,Option.some.inj]
theorem wP{op:BinOp}{h:IntKind}{r:Int}(p:Ff ik op a b=Y r)(u:x.val O=Y (.int ik a))(A:y.val O=Y (.int h b))(B:ik=h\/op=.shl\/op=.shr)(k:WO S K os ((d,.tv (.int ik r))::O)):WO S K (⟨Y d,.bin .w op x y,W⟩::os) O:=by grind[VC,LZ]
theorem tA{u v t:ByteArray}(h:Uf u v=Y t)(p:x.val O=Y (.str u))(w:y.val O=Y (.str v))(k:WO S K os ((d,.tv (.str t))::O)):WO S K (⟨Y d,.bin .s .add x y,W⟩::os) O:=by grind[VC,Uf,LZ,Option.some.inj]
theorem jf{n:QQ}{cs ds:Fq}{r:Bool}(p:x.val O=Y (.agg cs))(u:y.val O=Y (.agg ds))(w:cs.map TV.kd=n)(h:B1 cs ds=Y r)(k:WO S K os ((d,.tv (.bool r))::O)):WO S K (⟨Y d,.bin (.a n) .eql x y,W⟩::os) O:=by grind[VC,LZ]
theorem jg{n:QQ}{cs ds:Fq}{r:Bool}(p:x.val O=Y (.agg cs))(u:y.val O=Y (.agg ds))(w:cs.map TV.kd=n)(h:B1 cs ds=Y r)(k:WO S K os ((d,.tv (.bool (!r)))::O)):WO S K (⟨Y d,.bin (.a n) .neq x y,W⟩::os) O:=by grind[VC,LZ]
end bins
variable{t:TV}
theorem p8{c a b:AE}{q:Bool}(p:c.val O=Y (.bool q))(u:q=X)(h:a.val O=Y t)(k:WO S K os ((d,.tv t)::O)):WO S K (⟨Y d,.pick c a b,W⟩::os) O:=by
 replace k:=k.out;refine⟨?_⟩;subst u;simp[wpOps,PR.wp,AD.wp,p];rcases YD h with h|h<;>rw[h]<;>exact k
theorem p7{c a b:AE}{q:Bool}(p:c.val O=Y (.bool q))(u:q=T)(h:b.val O=Y t)(k:WO S K os ((d,.tv t)::O)):WO S K (⟨Y d,.pick c a b,W⟩::os) O:=by
 replace k:=k.out;refine⟨?_⟩;subst u;simp[wpOps,PR.wp,AD.wp,p];rcases YD h with h|h<;>rw[h]<;>exact k
variable{α:Type}{n:Nat}{e:α->TV}{l:List α}
theorem wW{x:AE}{es:Fq}(h:x.val O=Y (.list n es))(he:es=l.map e)(k:WO S K os ((d,.tv (.int .i64 l.length))::O)):WO S K (⟨Y d,.len x,W⟩::os) O:=by
 replace k:=k.out;refine⟨?_⟩;subst he;simp[wpOps,PR.wp,AD.wp,h];exact k
variable{m:List α}
theorem bf{a b:Int}(h:zq l a b=Y m):((0<=a/\a<=b)/\b<=l.length)/\m=(l.take b.toNat).drop a.toNat:=by
 unfold zq at h
 grind
variable{ka kb:IntKind}
theorem wj{x:AE}{lo hi:Option AE}{es:Fq}{a b:Int}(A:zq l a b=Y m)(h:x.val O=Y (.list n es))(he:es=l.map e)(p:Gk O 0 lo=Y (.int ka a))(u:Gk O l.length hi=Y (.int kb b))
  (k:WO S K os ((d,.tv (.list n (m.map e)))::O)):WO S K (⟨Y d,.zq n x lo hi,W⟩::os) O:=by
 replace k:=k.out;refine⟨?_⟩;subst he;obtain⟨⟨w,B⟩,C⟩:=bf A;subst C;simp only[wpOps,PR.wp,AD.wp,h,c8,p,u];refine⟨⟨trivial,w.1,w.2⟩,B,?_⟩;rw[List.map_drop,List.map_take]at k;exact k
theorem tC{x:AE}{lo hi:Option AE}{s t:ByteArray}{a b:Int}(p:y6 s a b=Y t)(h:x.val O=Y (.str s))(u:Gk O 0 lo=Y (.int ka a))(w:Gk O s.size hi=Y (.int kb b))
  (k:WO S K os ((d,.tv (.str t))::O)):WO S K (⟨Y d,.y6 x lo hi,W⟩::os) O:=by
 replace k:=k.out;refine⟨?_⟩;unfold y6 at p;split at p
 next A=>cases p;simp[wpOps,PR.wp,AD.wp,h,u,w];exact⟨A.1,A.2.1,A.2.2,k⟩
 .cases p
variable{zero:Fq}{parts:List (Nat×Nat×AE)}
theorem Zc{ts:List (Nat×Nat×TV)}{cs:Fq}(h:GT O parts=Y ts)(p:Ek zero ts=Y cs)(u:TV.agg cs=t)(k:WO S K os ((d,.tv t)::O)):WO S K (⟨Y d,.bld zero parts,W⟩::os) O:=by
 replace k:=k.out;refine⟨?_⟩;subst u;simp[wpOps,PR.wp,AD.wp,h,Ad,p];exact k
def Vy:Nat->List (Nat×Nat×TV)->Bool
 |_,[]=>X|k,(i,n,t)::r=>y_ i k&&y_ t.cells.length n&&Vy (k+n) r
def IJ:List (Nat×Nat×TV)->Fq
 |[]=>[]|(_,_,t)::r=>t.cells++IJ r
theorem UT:∀(ds done k rest:Fq),k.length=ds.length->O5 (done++(k++rest)) done.length ds=done++(ds++rest)
 |[],done,k,rest,h=>by
  have:k=[]:=u? c_;subst this;rfl
 |d::ds,done,[],rest,h=>by simp at h|d::ds,done,m::k,rest,h=>by
  simp only[O5];rw[v1,v5 _ _ (b6 _),Nat.sub_self,List.set_cons_zero];have:=UT ds (done++[d]) k rest c_;simpa using this
theorem YJ:∀(ts:List (Nat×Nat×TV))(done rest:Fq),Vy done.length ts=X->(IJ ts).length=rest.length->Ek (done++rest) ts=Y (done++IJ ts)
 |[],done,rest,_,h=>by
  have:rest=[]:=u? (by simpa[IJ]using h.symm);subst this;rfl
 |(i,n,t)::r,done,rest,p,h=>by
  simp [Vy]at p;obtain⟨⟨rfl,k⟩,A⟩:=p;simp[IJ]at h;have u:n<=rest.length:=U
  simp only[Ek];rw[ae ⟨k,by rw[bk];omega⟩];have w:rest=rest.take n++rest.drop n:=(v6 n rest).symm;rw[w,UT t.cells done (rest.take n) (rest.drop n) q!,<-c9];rw[YJ r (done++t.cells) (rest.drop n) (by rw[bk,k];exact A) (by rw[List.length_drop];omega)];simp[IJ]
theorem sz{ts:List (Nat×Nat×TV)}(h:GT O parts=Y ts)(p:Vy 0 ts=X)(u:y_ (IJ ts).length zero.length=X)(w:TV.agg (IJ ts)=t)(k:WO S K os ((d,.tv t)::O)):WO S K (⟨Y d,.bld zero parts,W⟩::os) O:=
 Zc h (by have:=YJ ts [] zero p (Nat.eq_of_beq_eq_true u);simpa using this) w k
variable{ts:Fq}
theorem oB{parts:List AE}(h:vals O parts=Y ts)(he:ts=l.map e)(p:∀a,(e a).cells.length=n)(k:WO S K os ((d,.ow (.list n (l.map e)))::O)):WO S K (⟨Y d,.lst n parts,W⟩::os) O:=by
 replace k:=k.out;refine⟨?_⟩;subst he;simp[wpOps,PR.wp,AD.wp,h,Ad];refine⟨λt u=>?_,k⟩
 grind
variable{s:Nat}{r:List α}
theorem n7{y:AE}{es p rs:Fq}(h:AT l m=Y r)(u:O.get s=.ow (.list n es))(w:y.val O=Y (.list n p))(he:es=l.map e)(hf:p=m.map e)(A:rs=r.map e)
  (k:WO S K os ((d,.ow (.list n rs))::(s,.tv (.list n es))::O)):WO S K (⟨Y d,.app n (.s s) y,W⟩::os) O:=by
 replace k:=k.out;refine⟨?_⟩;subst hf A;unfold AT at h;split at h
 next B=>cases h;simp only[wpOps,PR.wp,AD.wp,AE.ev,u,w,he,c8];rw[he]at k;refine⟨V,V,B,?_⟩;rw[v9]at k;exact k
 .cases h
variable{f:FuncId}
theorem s7{args:List AE}(h:vals O args=Y ts)(p:S f ts (.sh t))(k:WO S K os ((d,.tv t)::O)):WO S K (⟨Y d,.call f args,W⟩::os) O:=by
 replace k:=k.out;refine⟨?_⟩;simp[wpOps,PR.wp,AD.wp,h,Ad];exact⟨_,⟨p,rfl⟩,λ_=>k⟩
theorem tB{x i:AE}{s:ByteArray}{ik:IntKind}{j b:Int}(p:zr s j=Y b)(h:x.val O=Y (.str s))(hi:i.val O=Y (.int ik j))(k:WO S K os ((d,.tv (.int .u8 b))::O)):WO S K (⟨Y d,.zr x i,W⟩::os) O:=by
 replace k:=k.out;refine⟨?_⟩;unfold zr at p;split at p
 next u=>rw[Option.map_eq_some_iff]at p;obtain⟨c,w,rfl⟩:=p;simp[wpOps,PR.wp,AD.wp,h,hi];exact⟨u,c,w,k⟩
 .cases p
theorem s9{mx:Bool}{x y:AE}{ik:IntKind}{a b:Int}(h:x.val O=Y (.int ik a))(p:y.val O=Y (.int ik b))(k:WO S K os ((d,.tv (.int ik (if mx then max a b else min a b)))::O)):WO S K (⟨Y d,.mm mx x y,W⟩::os) O:=by
 replace k:=k.out;refine⟨?_⟩;simp only[wpOps,PR.wp,AD.wp,h,p];exact⟨trivial,k⟩
theorem wX{x y:AE}{ik:IntKind}{a b:Int}(h:x.val O=Y (.int ik a))(p:y.val O=Y (.int ik b))(k:WO S K os ((d,.tv (.int ik (max a b)))::O)):WO S K (⟨Y d,.mm X x y,W⟩::os) O:=s9 h p k
theorem wY{x y:AE}{ik:IntKind}{a b:Int}(h:x.val O=Y (.int ik a))(p:y.val O=Y (.int ik b))(k:WO S K os ((d,.tv (.int ik (min a b)))::O)):WO S K (⟨Y d,.mm T x y,W⟩::os) O:=s9 h p k
variable{off:Nat}
theorem xm{x v:AE}{cs cs':List AR}(h:x.place O=Y (s,off))(p:O.get s=.bx cs)(hv:v.ev O=.tv t)(u:t.cells.length=n)(w:x! (off+n) cs.length=X)(A:cs.take off++t.cells.map (⟨T,·⟩)++cs.drop (off+n)=cs')
  (k:WO S K os ((s,.bx cs')::O)):WO S K (⟨W,.st n x v,W⟩::os) O:=by
 replace k:=k.out;refine⟨?_⟩;subst A;simp only[wpOps,PR.wp,AD.wp,h,p,hv];exact⟨u,x? w,k⟩
theorem wl{s off q:Nat}{x:AE}{cs cs':List AR}(h:x.place O=Y (s,off))(p:O.get s=.bx cs)(hv:O.get q=.ow t)(u:q≠s)(w:y! off cs.length=X)(A:cs.set off ⟨X,t⟩=cs')
  (k:WO S K os ((s,.bx cs')::(q,.tv t)::O)):WO S K (⟨W,.st 1 x (.s q),W⟩::os) O:=by
 replace k:=k.out;refine⟨?_⟩;subst A;simp only[wpOps,PR.wp,AD.wp,h,p,AE.ev,hv];exact⟨u,trivial,x? w,k⟩
variable{v:AE}
theorem wk{cs cs':List AR}(h:O.get s=.bx cs)(hv:v.ev O=.tv t)(p:t.cells.length=n)(u:x! (0+n) cs.length=X)(w:cs.take 0++t.cells.map (⟨T,·⟩)++cs.drop (0+n)=cs')
  (k:WO S K os ((s,.bx cs')::O)):WO S K (⟨W,.stb n s v,W⟩::os) O:=by
 replace k:=k.out;refine⟨?_⟩;subst w;simp only[wpOps,PR.wp,AD.wp,h,hv];exact⟨p,x? u,k⟩
theorem wR{cs:List AR}{row:Fq}(h:O.get s=.bx cs)(p:cs.map (·.t)=row)(k:WO S K os ((s,.tv (.pt row))::O)):WO S K (⟨W,.frz s,W⟩::os) O:=by
 replace k:=k.out;refine⟨?_⟩;subst p;simp[wpOps,PR.wp,AD.wp,h];exact k
theorem p6{args:List AE}{cs:List AR}(h:vals O args=Y ts)(p:S f ts (.yy cs))(u:TV.agg (cs.map λc=>c.rel.t)=t)(k:WO S K os ((d,.tv t)::O)):WO S K (⟨Y d,.call f args,W⟩::os) O:=by
 replace k:=k.out;refine⟨?_⟩;subst u;simp[wpOps,PR.wp,AD.wp,h,Ad];exact⟨_,⟨p,rfl⟩,λ_=>k⟩
theorem n9{x:AE}{es:Fq}(h:x.val O=Y (.list n es))(he:es=l.map e)(k:∀b:Bool,(b=X->l=[])->WO S K os ((d,.tv (.bool b))::O)):WO S K (⟨Y d,.isn x,W⟩::os) O:=by
 replace k:=λb p=>(k b p).out;refine⟨?_⟩;simp only[wpOps,PR.wp,AD.wp,h];intro b p;refine k b λu=>?_;have:=p u;rw[he]at this;simpa using this
theorem s8{x:AE}(h:x.val O=Y .nil)(k:WO S K os ((d,.tv (.bool X))::O)):WO S K (⟨Y d,.isn x,W⟩::os) O:=by
 replace k:=k.out;refine⟨?_⟩;simp[wpOps,PR.wp,AD.wp,h];exact k
theorem oV(h:AT [] l=Y r)(b:Bool)(k:b=X->l=[]):(if b=X then Y []else(AT [] l).bind λx=>Y x)=Y r:=by grind[AT]
variable{j:Int}
theorem Gd{a:α}(h:idx l j=Y a):0<=j/\j<l.length/\l[j.toNat]?=Y a:=by
 unfold idx at h
 grind
theorem dA(p:∀a,(e a).cells.length=n):∀(l:List α)(j k:Nat)(a:α),l[j]?=Y a->k<n->((l.map e).flatMap TV.cells)[j*n+k]?=(e a).cells[k]?
 |[],j,k,a,h,_=>by simp at h|b::l,0,k,a,h,u=>by
  grind
 |b::l,j+1,k,a,h,u=>by
  rw [v_]at h;rw[v!,v?,List.getElem?_append_right (by rw[p,y?];omega),p,show(j+1)*n+k-n=j*n+k from i!];exact dA p l j k a h u
theorem aE(p:∀a,(e a).cells.length=n)(t:TV):∀(l:List α)(j k:Nat)(a b:α),l[j]?=Y a->k<n->(e b).cells=(e a).cells.set k t->((l.set j b).map e).flatMap TV.cells=((l.map e).flatMap TV.cells).set (j*n+k) t
 |[],j,k,a,b,h,_,_=>by simp at h|c::l,0,k,a,b,h,u,w=>by
  grind
 |c::l,j+1,k,a,b,h,u,w=>by
  rw [v_]at h;rw[w_,v!,v!,v?,v?,v5 _ _ (by rw[p,y?];omega),p,show(j+1)*n+k-n=j*n+k from i!,aE p t l j k a b h u w]
theorem ko(h:∀a,(e a).cells.length=n)(l:List α):((l.map e).flatMap TV.cells).length=l.length*n:=by
 induction l with
 |nil=>simp|cons b l k=>rw[v!,v?,bk,k,h,c7,y?];omega
theorem T9(h:∀a,(e a).flat=X):∀(l:List α),TV.yl (l.map e)=X
 |[]=>rfl|a::l=>by simp[TV.yl,h a,T9 h l]
theorem tD{x:AE}{q:Nat×Option Nat}{es:Fq}(h:x.yg O=Y (q,n,es))(he:es=l.map e)(k:WO S K os ((d,.tv (.int .i64 l.length))::O)):WO S K (⟨Y d,.AaH x,W⟩::os) O:=by
 replace k:=k.out;refine⟨?_⟩;subst he;simp[wpOps,PR.wp,AD.wp,h,Ad];exact k
variable{qi:Option Nat}
theorem wm{x i:AE}{q n:Nat}{es:Fq}{ik:IntKind}{a:α}(p:idx l j=Y a)(h:x.yg O=Y ((q,qi),n,es))(hi:i.val O=Y (.int ik j))(he:es=l.map e)(u:(x.ev O).yi=Y q)
  (k:WO S K os ((d,.lp q qi (j.toNat*n))::O)):WO S K (⟨Y d,.xia x i n,W⟩::os) O:=by
 replace k:=k.out;refine⟨?_⟩;subst he;obtain⟨w,A,_⟩:=Gd p;simp only[wpOps,PR.wp,AD.wp,h,hi,Ad,c8];exact⟨⟨u,trivial⟩,w,A,k⟩
theorem oC{x:AE}{q c n i:Nat}{es row:Fq}{a:α}(h:x.ev O=.lp q qi c)(p:O.x5 q qi=Y (n,es))(he:es=l.map e)(u:∀a,(e a).cells.length=n)(w:idx l j=Y a)(A:c=j.toNat*n+i)(hi:y! i n=X)(B:(e a).cells=row)(C:row[i]?=Y t)
  (k:WO S K os ((d,.tv t)::O)):WO S K (⟨Y d,.xld x,W⟩::os) O:=by
 replace k:=k.out;refine⟨?_⟩;subst he A B;have hf:=dA u l j.toNat i a (Gd w).2.2 (x? hi);simp[wpOps,PR.wp,AD.wp,h,p,hf,C,Ad];exact k
theorem oD{x v:AE}{q c n i:Nat}{env':AB}{es rs:Fq}{a b:α}(h:x.ev O=.lp q qi c)(F:O.x5 q qi=Y (n,es))(hv:v.ev O=.tv t)(he:es=l.map e)(w:∀a,(e a).cells.length=n)(G:idx l j=Y a)(H:c=j.toNat*n+i)(hi:y! i n=X)(D:t.cells=[t])
  (I:(e b).cells=(e a).cells.set i t)(J:rs=(Av l j b).map e)(A:O.yt q qi n rs=env')(k:WO S K os env'):WO S K (⟨W,.xst x v 1,W⟩::os) O:=by
 replace k:=k.out;refine⟨?_⟩;subst he H J A;obtain⟨N,P,E⟩:=Gd G;have B:i<n:=x? hi;have p:j.toNat<l.length:=(w!.1 E).1;simp only[wpOps,PR.wp,AD.wp,h,F,hv];have C:j.toNat*n+i<l.length*n:=calc j.toNat*n+i<j.toNat*n+n:=U
   _=(j.toNat+1)*n:=i!
   _<=l.length*n:=z9 _ p
 refine ⟨⟨by rw[D];rfl,U⟩,?_,_,(aE w t l j.toNat i a b E B I).trans (by rw[D,List.set_eq_take_append_cons_drop,ae (by rw[ko w];exact C)];simp),V,λu L=>?_,k⟩
 .rw[c8]
  calc j.toNat*n+i<j.toNat*n+n:=U
   _=(j.toNat+1)*n:=i!
   _<=l.length*n:=z9 _ p
 .obtain⟨M,_,rfl⟩:=w?.1 L;exact w M
theorem aD(k:∀a,(e a).cells.length=n):∀(l:List α)(j:Nat)(b:α),j<l.length->((l.set j b).map e).flatMap TV.cells=((l.map e).flatMap TV.cells).take (j*n)++(e b).cells++((l.map e).flatMap TV.cells).drop (j*n+n)
 |[],j,b,h=>by simp at h|c::l,0,b,h=>by
  grind
 |c::l,j+1,b,h=>by
  rw [w_,v!,v!,v?,v?,aD k l j b c_,show(j+1)*n=(e c).cells.length+j*n from by rw[k,y?];omega,Nat.add_assoc,List.take_length_add_append,List.drop_length_add_append,c9,c9,c9]
theorem oE{x v:AE}{q n:Nat}{env':AB}{es:Fq}{a b:α}(h:x.ev O=.lp q qi (j.toNat*n))(D:O.x5 q qi=Y (n,es))(hv:v.ev O=.tv (e b))(he:es=l.map e)(w:∀a,(e a).cells.length=n)(E:idx l j=Y a)(F:y! 0 n=X)
  (A:O.yt q qi n ((Av l j b).map e)=env')(k:WO S K os env'):WO S K (⟨W,.xst x v n,W⟩::os) O:=by
 replace k:=k.out;refine⟨?_⟩;subst he A;obtain⟨J,L,H⟩:=Gd E;have B:0<n:=x? F;have p:j.toNat<l.length:=(w!.1 H).1;have C:j.toNat*n+n<=l.length*n:=calc j.toNat*n+n=(j.toNat+1)*n:=i!
   _<=l.length*n:=z9 _ p
 simp only[wpOps,PR.wp,AD.wp,h,D,hv];refine⟨⟨w b,B⟩,by rw[c8];exact C,_,aD w l j.toNat b p,V,λu G=>?_,k⟩;obtain⟨I,_,rfl⟩:=w?.1 G;exact w I
theorem sv{y:AE}{es p rs:Fq}(h:AT l m=Y r)(u:O.get s=.xo n es)(w:y.val O=Y (.list n p))(he:es=l.map e)(hf:p=m.map e)(A:rs=r.map e)(B:O.jj d=X)(hd:d≠s)
  (k:WO S K os ((d,.xo n rs)::(s,.undef)::O)):WO S K (⟨Y d,.Aah n s y,W⟩::os) O:=by
 replace k:=k.out;refine⟨?_⟩;subst he hf A;unfold AT at h;split at h
 next C=>cases h;simp only[wpOps,PR.wp,AD.wp,u,w,c8];rw[v9]at k;exact⟨trivial,trivial,C,B,hd,k⟩
 .cases h
theorem mJ{args:List AE}{ts es:Fq}(h:O.jj d=X)(p:vals O args=Y ts)(u:S f ts (.own (.list n es)))(he:es=l.map e)(hf:∀a,(e a).flat=X)(k:WO S K os ((d,.xo n es)::O)):WO S K (⟨Y d,.zH f args,W⟩::os) O:=by
 replace k:=k.out;refine⟨?_⟩;simp[wpOps,PR.wp,AD.wp,p,Ad];exact⟨h,n,es,.inr ⟨u,by rw[he];exact T9 hf l⟩,λ_=>k⟩
variable{rs:Fq}{z:α}
theorem wa{x:AE}{ik:IntKind}(h:GD j z=Y r)(u:O.jj d=X)(w:x.val O=Y (.int ik j))(A:(match zero with|[t]=>t|ts=>.agg ts)=e z)(B:rs=r.map e)
  (k:WO S K os ((d,.xo n rs)::O)):WO S K (⟨Y d,.mkx n zero x,W⟩::os) O:=by
 replace k:=k.out;refine⟨?_⟩;subst B;unfold GD at h;split at h
 next p=>cases h;rw[x_,<-A]at k;simp[wpOps,PR.wp,AD.wp,w];exact⟨u,p.1,p.2,k⟩
 .cases h
theorem wQ{hi:AE}{es rs:Fq}{ik:IntKind}(h:zq l 0 j=Y r)(u:O.get s=.xo n es)(w:hi.val O=Y (.int ik j))(he:es=l.map e)(A:rs=r.map e)(B:O.jj d=X)(hd:d≠s)(k:WO S K os ((d,.xo n rs)::(s,.undef)::O)):WO S K (⟨Y d,.cut n s hi,W⟩::os) O:=by
 replace k:=k.out;refine⟨?_⟩;subst he A;obtain⟨⟨C,D⟩,p⟩:=bf h;subst p;simp only[wpOps,PR.wp,AD.wp,u,w];refine⟨⟨trivial,B,hd⟩,C.2,by rw[c8];exact D,?_⟩;have p:((l.take j.toNat).drop (0:Int).toNat).map e=(l.map e).take j.toNat:=V
 rw [p]at k;exact k
theorem mG{args:List AE}{ts es:Fq}(h:zm O args=Y ts)(p:S f ts (.own t))(u:t=.list n es)(he:es=l.map e)(hf:∀a,(e a).flat=X)(k:WO S K os ((d,.ow t)::O)):WO S K (⟨Y d,.zR f args,W⟩::os) O:=by
 replace k:=k.out;refine⟨?_⟩;subst u he;simp[wpOps,PR.wp,AD.wp,h,Ad];exact⟨_,⟨p,T9 hf l⟩,λ_=>k⟩
def Zp{α:Type}(l:List α)(j:Int)(z:α):Option (List α):=if(0<=j/\j<=4096)/\l.length+j.toNat<=AU then Y (l++u! j.toNat z)else W
theorem sw{p:TV}{x:AE}{es rs:Fq}{ik:IntKind}(h:Zp l j z=Y r)(A:O.get s=.xo n es)(B:x.val O=Y (.int ik j))(he:es=l.map e)(C:p=e z)(D:rs=r.map e)(E:O.jj d=X)(hd:d≠s)(u:n=1)(F:p.cells=[p])(k:WO S K os ((d,.xo n rs)::(s,.undef)::O)):WO S K (⟨Y d,.Aat n s p x,W⟩::os) O:=by
 replace k:=k.out;refine⟨?_⟩;subst he D;unfold Zp at h;split at h
 next w=>cases h;simp only[wpOps,PR.wp,AD.wp,A,B];refine⟨⟨⟨trivial,u⟩,F⟩,w.1,⟨by rw[c8];exact w.2,E,hd⟩,?_⟩;rw[v9,x_,<-C]at k;exact k
 .cases h
variable{i:Nat}
theorem p5{args:List AE}{ts h:Fq}{cs cs':List AR}{e:EV}(p:(args[i]?).bind (·.place O)=Y (s,0))(u:O.get s=.bx cs)(w:O.noX s W=X)(hd:d≠s)(A:IB O i args=Y ts)(B:S f ts (.bo cs cs' i h))(he:EV.ofs h=e)(k:WO S K os ((d,e)::(s,.bx cs')::O)):WO S K (⟨Y d,.zi f args i,W⟩::os) O:=by
 replace k:=k.out;refine⟨?_⟩;subst he;simp only[wpOps,PR.wp,AD.wp,p,u,A,Ad];exact⟨⟨w,hd⟩,cs',h,B,λ_=>k⟩
def Xl{α:Type}(l:List α):Option Unit:=if l.isEmpty then W else Y ()
theorem iN{u:Unit}{b:Bool}(h:Xl l=Y u)(k:b=X->l=[]):b=T:=by
 cases b with
 |false=>rfl|true=>rw[k rfl]at h;cases h
variable{g:Nat}
theorem xc{h:Option Nat}{op:AD}{b q:Bool}(p:O.get g=.tv (.bool q))(u:q=b)(k:WO S K (⟨h,op,W⟩::os) O):WO S K (⟨h,op,Y (g,b)⟩::os) O:=by
 replace k:=k.out;refine⟨?_⟩
 grind [wpOps,PR.wp]
theorem vN{d:Nat}{op:AD}{b q:Bool}(p:O.get g=.tv (.bool q))(u:q=!b)(k:WO S K os ((d,.sk)::O)):WO S K (⟨Y d,op,Y (g,b)⟩::os) O:=by
 replace k:=k.out;refine⟨?_⟩;subst u;simp only[wpOps,PR.wp,p];exact⟨λh=>by cases b<;>simp at h,λ_=>k⟩
theorem xd{d:Nat}{op:AD}{b:Bool}(h:O.get g=.sk)(k:WO S K os ((d,.sk)::O)):WO S K (⟨Y d,op,Y (g,b)⟩::os) O:=by
 replace k:=k.out;refine⟨?_⟩;simp[wpOps,PR.wp,h];exact k
theorem bw(xs ys:List PR)(O:AB):wpOps S K (xs++ys) O=wpOps S (wpOps S K ys) xs O:=by
 induction xs generalizing O with
 |nil=>rfl|cons x xs h=>
  simp only[v1,wpOps];congr 1;funext e;exact h e
theorem vM{ops:List PR}(n:Nat)(M:AB->AB->Prop)(h:WO S (M O) (ops.take n) O)(k:∀e,M O e->WO S K (ops.drop n) e):WO S K ops O:=by
 refine ⟨?_⟩;rw[<-v6 n ops,bw];exact QR S (λe he=>(k e he).out) _ O h.out
variable{q:Q}{a b:PC}
theorem vB(h:WP S a ⟨λe=>(∀s,(e.get s).WF)->WP S b q e,q.exit,q.ret⟩ O):WP S (.seq a b) q O:=⟨PC.o3 S a _ O h.out _ (λ_ he k=>(he k).out) (λ_ _ h=>h) (λ_ h=>h)⟩
theorem rF{live:QQ}{env':AB}(k:O.fu live=env')(h:q.normal env'):WP S (.skip live) q O:=by subst k;exact⟨h⟩
theorem rE{live:QQ}{env':AB}(k:O.fu live=env')(h:q.exit i env'):WP S (.exit i live) q O:=by subst k;exact⟨h⟩
theorem WM{x:AE}{c:Bool}(k:x.val O=Y (.bool c))(p:c=X->WP S a q O)(hf:c=T->WP S b q O):WP S (.cond x a b) q O:=by
 refine ⟨?_⟩;simp[PC.wp,k];exact⟨λh=>(p h).out,λh=>(hf h).out⟩
theorem Rp{x:AE}{c:Bool}(k:x.val O=Y (.bool c))(h:c=X)(p:WP S a q O):WP S (.cond x a b) q O:=by grind[WM]
theorem Ro{x:AE}{c:Bool}(k:x.val O=Y (.bool c))(h:c=T)(p:WP S b q O):WP S (.cond x a b) q O:=by grind[WM]
theorem XW(h:WP S a ⟨q.normal,λj e=>if j=i then q.normal e else q.exit j e,q.ret⟩ O):WP S (.block i a) q O:=⟨h.out⟩
theorem Z5{x y:Prop}(h:x):if i=i then x else y:=by rw[ae rfl];exact h
theorem oZ{i j:Nat}{x y:Prop}(k:i≠j)(h:y):if i=j then x else y:=by rw[az k];exact h
theorem vA(M:AB->Prop)(k:WP S a ⟨M,q.exit,q.ret⟩ O)(p:∀e,M e->q.normal e):WP S a q O:=⟨PC.o3 S a _ O k.out q p (λ_ _ h=>h) (λ_ h=>h)⟩
section loops
variable{σ ρ:Type}{live:QQ}{c:PC}{i0:Nat}
variable{ζ:AB->Prop}
theorem nN{f:Int->σ->Option (Be σ ρ)}{b:Int}(I:Int->σ->AB)(J:σ->AB)(R:ρ->AB->Prop)
  (p:∀i s r,i<b->f i s=Y r->(∀k,((I i s).get k).WF)->c.wp S ⟨λe=>∃s',r=.next s'/\e.fu live=I (i+1) s',λj e=>j=i0/\∃s',r=.brk s'/\e=J s',λe=>∃v,r=.ret v/\R v e⟩ (I i s))
  (u:∀i s,¬i<b->c.wp S ⟨λ_=>False,λj e=>j=i0/\e=J s,λ_=>False⟩ (I i s))
  (hX:∀e,((∀s,(e.get s).WF)->c.wp S {q with normal:=λC=>ζ (C.fu live)} e)->ζ e)(F:∀s,q.exit i0 (J s)\/True):
  ∀(n:Nat)(i:Int)(s:σ),n=(b-i).toNat->∀o,yf f n i s=Y o->(∀s',o=.inl s'->q.exit i0 (J s'))->(∀v e,o=.inr v->R v e->q.ret e)->ζ (I i s):=by
 intro n
 induction n with
 |zero=>
  intro i s D o ho w A;refine hX _ λB=>?_;refine PC.o3 S c _ _ (u i s U) _ (λ_ h=>h.elim) (λj e he=>?_) (λ_ h=>h.elim);obtain⟨rfl,rfl⟩:=he;simp[yf]at ho;exact w s ho.symm
 |succ n E=>
  intro i s D o ho w A;simp[yf]at ho;refine hX _ λB=>?_;cases hf:f i s with
  |none=>rw[hf]at ho;cases ho
  |some r=>
   rw [hf]at ho;refine PC.o3 S c _ _ (p i s r U hf B) _ (λe he=>?_) (λj e he=>?_) (λe he=>?_)
   .obtain⟨s',rfl,he⟩:=he;show ζ (e.fu live);rw[he];exact E (i+1) s' U o ho w A
   .obtain⟨rfl,s',rfl,rfl⟩:=he;simp at ho;exact w s' ho.symm
   .obtain⟨v,rfl,he⟩:=he;simp at ho;exact A v e ho.symm he
variable{s0:σ}{o:σ ⊕ ρ}
theorem eF{f:Int->σ->Option (Be σ ρ)}{lo b:Int}(ho:kl f lo b s0=Y o)(I:Int->σ->AB)(J:σ->AB)(R:ρ->AB->Prop)(w:O.fu live=I lo s0)
  (p:∀i s r,i<b->f i s=Y r->(∀k,((I i s).get k).WF)->WP S c ⟨λe=>∃s',r=.next s'/\e.fu live=I (i+1) s',λj e=>j=i0/\∃s',r=.brk s'/\e=J s',λe=>∃v,r=.ret v/\R v e⟩ (I i s))
  (u:∀i s,¬i<b->WP S c ⟨λ_=>False,λj e=>j=i0/\e=J s,λ_=>False⟩ (I i s))
  (A:∀s',o=.inl s'->q.normal (J s'))(B:∀v e,o=.inr v->R v e->q.ret e):WP S (.block i0 (.loop live c)) q O:=by
 refine XW ⟨?_⟩;intro ζ hX;rw[w];refine nN (q:=⟨q.normal,λj e=>if j=i0 then q.normal e else q.exit j e,q.ret⟩) I J R (λi s r C D E=>(p i s r C D E).out) (λi s h=>(u i s h).out) hX (λ_=>.inr trivial) _ lo s0 rfl o ho ?_ B;intro s' F;exact Z5 (A s' F)
theorem dB{f:Int->σ->Option σ}:∀(n:Nat)(i:Int)(s o:σ),y7 f n i s=Y o->yf (λi s=>(f i s).map (Be.next (ρ:=Empty))) n i s=Y (.inl o)
 |0,_,_,_,h=>by simp[y7]at h;subst h;rfl|n+1,i,s,o,h=>by
  simp [y7]at h;simp[yf];cases hf:f i s with
  |none=>rw[hf]at h;cases h
  |some s'=>rw[hf]at h;simp;exact dB n (i+1) s' o h
theorem qL{f:Int->σ->Option σ}{lo b:Int}{s0 o:σ}(ho:ns f lo b s0=Y o)(I:Int->σ->AB)(J:σ->AB)(w:O.fu live=I lo s0)
  (p:∀i s r,i<b->f i s=Y r->(∀k,((I i s).get k).WF)->WP S c ⟨λe=>e.fu live=I (i+1) r,λ_ _=>False,λ_=>False⟩ (I i s))
  (u:∀i s,¬i<b->WP S c ⟨λ_=>False,λj e=>j=i0/\e=J s,λ_=>False⟩ (I i s))
  (A:q.normal (J o)):WP S (.block i0 (.loop live c)) q O:=by
 refine eF (f:=λi s=>(f i s).map (Be.next (ρ:=Empty))) (o:=.inl o) (dB _ _ _ _ ho) I J (λ_ _=>False) w ?_ u ?_ ?_
 .intro i s r hi hf B;simp at hf;obtain⟨s',hf,rfl⟩:=hf;exact⟨PC.o3 S c _ _ (p i s s' hi hf B).out _ (λe he=>⟨s',rfl,he⟩) (λ_ _ h=>h.elim) (λ_ h=>h.elim)⟩
 .intro s' h;cases h;exact A
 .intro v;cases v
theorem qN{f:σ->Option (Be σ ρ)}(I:σ->AB)(J:σ->AB)(R:ρ->AB->Prop)
  (h:∀s r,f s=Y r->(∀k,((I s).get k).WF)->c.wp S ⟨λe=>∃s',r=.next s'/\e.fu live=I s',λj e=>j=i0/\∃s',r=.brk s'/\e=J s',λe=>∃v,r=.ret v/\R v e⟩ (I s))
  (hX:∀e,((∀s,(e.get s).WF)->c.wp S {q with normal:=λw=>ζ (w.fu live)} e)->ζ e):
  ∀(n:Nat)(s:σ)(o:σ ⊕ ρ),Ri f n s=Y o->(∀s',o=.inl s'->q.exit i0 (J s'))->(∀v e,o=.inr v->R v e->q.ret e)->ζ (I s):=by
 intro n
 induction n with
 |zero=>intro s o ho;cases ho
 |succ n B=>
  intro s o ho p u;simp[Ri]at ho;refine hX _ λA=>?_;cases hf:f s with
  |none=>rw[hf]at ho;cases ho
  |some r=>
   rw [hf]at ho;refine PC.o3 S c _ _ (h s r hf A) _ (λe he=>?_) (λj e he=>?_) (λe he=>?_)
   .obtain⟨s',rfl,he⟩:=he;show ζ (e.fu live);rw[he];exact B s' o ho p u
   .obtain⟨rfl,s',rfl,rfl⟩:=he;simp at ho;exact p s' ho.symm
   .obtain⟨v,rfl,he⟩:=he;simp at ho;exact u v e ho.symm he
theorem th{f:σ->Option (Be σ ρ)}(ho:CY f s0=Y o)(I:σ->AB)(J:σ->AB)(R:ρ->AB->Prop)(p:O.fu live=I s0)
  (h:∀s r,f s=Y r->(∀k,((I s).get k).WF)->WP S c ⟨λe=>∃s',r=.next s'/\e.fu live=I s',λj e=>j=i0/\∃s',r=.brk s'/\e=J s',λe=>∃v,r=.ret v/\R v e⟩ (I s))
  (u:∀s',o=.inl s'->q.normal (J s'))(w:∀v e,o=.inr v->R v e->q.ret e):WP S (.block i0 (.loop live c)) q O:=by
 obtain ⟨N,D⟩:=Cq ho;refine XW ⟨?_⟩;intro ζ hX;rw[p];refine qN (q:=⟨q.normal,λj e=>if j=i0 then q.normal e else q.exit j e,q.ret⟩) I J R (λs r A B=>(h s r A B).out) hX N s0 o (D N (b6 _)) ?_ w;intro s' C;exact Z5 (u s' C)
end loops
end
theorem xz{a b:Int}(h:a<b):decide (a<b)=X:=decide_eq_true h
theorem xb{a b:Int}(h:¬a<b):decide (a<b)=T:=decide_eq_false h
variable{t:TV}
theorem Zd(h:EV.WF (.tv t)):t.WF:=h
theorem wn(h:EV.WF (.ow t)):t.WF:=h
variable{n:Nat}
theorem wo{es:Fq}(h:EV.WF (.xo n es)):TV.WF (.list n es):=h
theorem oG{row:Fq}(h:EV.WF (.tv (.pt row))):TV.tl row:=h
variable{ts:Fq}{i:Nat}
theorem eC(h:TV.tl ts)(hi:ts[i]?=Y t):t.WF:=by
 induction ts generalizing i with
 |nil=>simp at hi|cons x xs k=>
  cases i with
  |zero=>simp at hi;subst hi;exact h.1|succ i=>exact k h.2 o1
variable{α:Type}{e:α->TV}{l:List α}
theorem td(h:TV.WF (.list n (l.map e))):(l.length:Int)<=9223372036854775807:=by
 have:=h.1
 grind [c8,Jm]
theorem VE{es:Fq}(h:TV.WF (.list n es))(he:es=l.map e):(l.length:Int)<=9223372036854775807:=by subst he;exact td h
theorem qK{s:ByteArray}(h:TV.WF (.str s)):(s.size:Int)<=9223372036854775807:=by
 have:s.size<=Jm:=h
 grind [Jm]
theorem kI{n:Int}(h:TV.WF (.int .i64 n)):n<=9223372036854775807:=h.2
theorem kH(n:Int):AH n=if 9223372036854775808<=n % 18446744073709551616 then n % 18446744073709551616-18446744073709551616 else n % 18446744073709551616:=by
 have h:(2:Int)^ 64=18446744073709551616:=a?
 have k:(2:Int)^ (64-1)=9223372036854775808:=a?
 simp [AH,IntKind.wrap,IntKind.bits,IntKind.signed,Bool.true_and,yk,h,k,ge_iff_le]
theorem tZ(n:Int):AH n<=9223372036854775807:=by grind[kH]
theorem AV{n:Int}(h:-9223372036854775808<=n)(k:n<=9223372036854775807):AH n=n:=by grind[kH]
theorem wq{i b:Int}(hi:TV.WF (.int .i64 i))(h:i<b)(k:b<=9223372036854775807):IntKind.i64.wrap (i+1)=i+1:=by
 have p:(-9223372036854775808:Int)<=i:=hi.1
 grind [AV]
end Go.Sf
