/- Steps of the pure language with typed values: one rule an operation, one a piece of code, one a kind of loop. -/
import Derived.Test.YtbmgmpeimdomoaaGreatSfSem
set_option linter.all false
open Option renaming some->Y,none->W
open Bool renaming true->X,false->T
open List renaming replicate->w!,eq_nil_of_length_eq_zero->w?,cons_append->x_,set_append_right->x!,take_append_drop->x?,map_append->y_,getElem?_cons_succ->y!,map_cons->y?,flatMap_cons->z_,set_cons_succ->z!,getElem?_eq_some_iff->z?,mem_map->A_,map_replicate->A'
open Nat renaming ble->A!,le_of_ble_eq_true->A?,beq->B_,blt->B',add_mul->B!,mul_le_mul_right->B?
namespace Go.Sf
abbrev AW(n:Int):Int:=IntKind.i64.wrap n
def idx{α:Type}(l:List α)(j:Int):Option α:=if 0<=j then l[j.toNat]? else W
def slc{α:Type}(l:List α)(a b:Int):Option (List α):=if(0<=a/\a<=b)/\b<=l.length then Y ((l.take b.toNat).drop a.toNat)else W
def Aau(s:ByteArray)(a b:Int):Option ByteArray:=if 0<=a/\a<=b/\b<=s.size then Y (s.extract a.toNat b.toNat)else W
def Aas(s:ByteArray)(j:Int):K1:=if 0<=j then(s[j.toNat]?).map (λb=>(b.toNat:Int))else W
def Ak{α:Type}(l m:List α):Option (List α):=if l.length+m.length<=AX then Y (l++m)else W
def quo(a b:Int):K1:=if b=0 then W else Y (a.tdiv b)
def J6(a b:Int):K1:=if b=0 then W else Y (a.tmod b)
inductive B2(σ ρ:Type)where
 |next (s:σ)
 |brk (s:σ)
 |ret (r:ρ)
section loops
variable{σ ρ:Type}
def tc(f:Int->σ->Option (B2 σ ρ)):Nat->Int->σ->Option (σ ⊕ ρ)
 |0,_,s=>Y (.inl s)|n+1,i,s=>match f i s with
  |none=>W|some (.next s')=>tc f n (i+1) s'|some (.brk s')=>Y (.inl s')|some (.ret r)=>Y (.inr r)
def eE(f:Int->σ->Option (B2 σ ρ))(a b:Int)(s:σ):Option (σ ⊕ ρ):=tc f (b-a).toNat a s
def Aaf(f:Int->σ->Option σ):Nat->Int->σ->Option σ
 |0,_,s=>Y s|n+1,i,s=>match f i s with
  |none=>W|some s'=>Aaf f n (i+1) s'
def gp(f:Int->σ->Option σ)(a b:Int)(s:σ):Option σ:=Aaf f (b-a).toNat a s
def SQ(f:σ->Option (B2 σ ρ)):Nat->σ->Option (σ ⊕ ρ)
 |0,_=>W|n+1,s=>match f s with
  |none=>W|some (.next s')=>SQ f n s'|some (.brk s')=>Y (.inl s')|some (.ret r)=>Y (.inr r)
end loops
class Ev where
 fuel:Option Nat
instance HH:Ev:=⟨W⟩
open Classical in
noncomputable def cQ{α:Type}(g:Nat->Option α):Option α:=if h:∃v N,∀n,N<=n->g n=Y v then Y h.choose else W
noncomputable def Lc[e:Ev]{α:Type}(g:Nat->Option α):Option α:=match e.fuel with
 |none=>cQ g|some n=>g n
variable{α:Type}
theorem DX{g:Nat->Option α}{v:α}(h:Lc g=Y v):∃N,∀n,N<=n->g n=Y v:=by
 change cQ g=Y v at h;unfold cQ at h;split at h
 next k=>cases h;exact k.choose_spec
 .cases h
theorem GZ{g:Nat->Option α}{v:α}(N:Nat)(h:∀n,N<=n->g n=Y v):Lc g=Y v:=by
 have k:∃v N,∀n,N<=n->g n=Y v:=⟨v,N,h⟩;show cQ g=Y v;unfold cQ;rw[dif_pos k];obtain⟨M,u⟩:=k.choose_spec;have p:=h (max N M) (Nat.le_max_left _ _)
 grind
noncomputable def FK[Ev]{σ ρ:Type}(f:σ->Option (B2 σ ρ))(s:σ):Option (σ ⊕ ρ):=Lc λn=>SQ f n s
def d6{σ ρ β:Type}(o:Option (σ ⊕ ρ))(k:σ->Option β)(kr:ρ->Option β):Option β:=
 match o with
 |none=>W|some (.inl s)=>k s|some (.inr v)=>kr v
theorem YT{σ ρ β:Type}{o:Option (σ ⊕ ρ)}{k:σ->Option β}{p:ρ->Option β}{b:β}(h:d6 o k p=Y b):∃x,o=Y x/\d6 (Y x) k p=Y b:=by
 cases o with
 |none=>cases h
 |some x=>exact⟨x,rfl,h⟩
theorem gq{σ ρ β:Type}{x:σ ⊕ ρ}{k:σ->Option β}{p:ρ->Option β}{b:β}{s:σ}(h:d6 (Y x) k p=Y b)(u:x=.inl s):k s=Y b:=by subst u;exact h
theorem gu{σ ρ β:Type}{x:σ ⊕ ρ}{k:σ->Option β}{p:ρ->Option β}{b:β}{v:ρ}(h:d6 (Y x) k p=Y b)(u:x=.inr v):p v=Y b:=by subst u;exact h
def BB{α:Type}(l:List α)(j:Int)(a:α):List α:=l.set j.toNat a
def Eu{α:Type}(j:Int)(a:α):Option (List α):=if 0<=j/\j<=4096 then Y (w! j.toNat a)else W
def U2(a b:ByteArray):Option ByteArray:=if a.size+b.size<=AX then Y (a++b)else W
variable{β:Type}
theorem bind_some{x:Option α}{f:α->Option β}{b:β}(h:x.bind f=Y b):∃a,x=Y a/\f a=Y b:=Option.bind_eq_some_iff.1 h
theorem Xu{c:Bool}{a b:α}{r:α}(k:c=X)(h:(if c=X then a else b)=r):a=r:=o2
theorem Xt{c:Bool}{a b:α}{r:α}(k:c=T)(h:(if c=X then a else b)=r):b=r:=o2
structure WO(S:FuncId->Fq->As->Prop)(K:AB->Prop)(os:List PR)(ε:AB):Prop where
 of::out:wpOps S K os ε
structure WP(S:FuncId->Fq->As->Prop)(c:PC)(q:Q)(ε:AB):Prop where
 of::out:c.wp S q ε
section
variable{S:FuncId->Fq->As->Prop}{K:AB->Prop}{os:List PR}{ε:AB}{d:Nat}
variable{t:TV}
theorem ZJ{x:AF}(h:x.val ε=Y t):x.ev ε=.tv t\/x.ev ε=.ow t:=by
 unfold AF.val EV.val at h;split at h<;>simp_all
def AE.AbY:AE->Nat
 |.bin .i .quo _ _=>0|.bin .i .rem _ _=>0|.bin .s .add _ _=>0|.bin .w _ _ _=>0|.bin (.a _) _ _ _=>0|.bin ..=>1|o=>4042110221010223200010221334134211003223343421200140120221211411133400441001102212411111 / 10^ o.ctorIdx % 10
theorem st(n:Nat){op:AE}{e:EV}{env':AB}(_:op.AbY=n)(h:∀p,p e env'->op.wp S ε (Y d) p)(k:WO S K os ((d,e)::env')):WO S K (⟨Y d,op,W⟩::os) ε:=⟨h (λe ε=>wpOps S K os (ε.put (Y d) e)) k.out⟩
theorem sn{op:AE}{env':AB}(_:op.AbY=2)(h:∀p,p EV.undef env'->op.wp S ε W p)(k:WO S K os env'):WO S K (⟨W,op,W⟩::os) ε:=⟨h (λ_ ε=>wpOps S K os ε) k.out⟩
variable{α:Type}{n:Nat}{e:α->TV}{l:List α}{j:Int}
theorem zJ{x i:AF}{es row:Fq}{ik:IntKind}{a:α}(h:idx l j=Y a)(p:x.val ε=Y (.list n es))(hi:i.val ε=Y (.int ik j))(he:es=l.map e)(u:(e a).cells=row)
  (k:WO S K os ((d,.tv (.pt row))::ε)):WO S K (⟨Y d,.iad x i n,W⟩::os) ε:=by
 replace k:=k.out;refine⟨?_⟩;subst he u;simp only[wpOps,PR.wp,AE.wp,p,hi];unfold idx at h;split at h
 next w=>exact⟨trivial,w,e a,by rw[List.getElem?_map,h];rfl,k⟩
 .cases h
theorem AAo{x:AF}{r:Fq}(h:A7 ε (x.ev ε)=Y (t::r))(p:t.Aav=T)(k:WO S K os ((d,.tv t)::ε)):WO S K (⟨Y d,.ld x,W⟩::os) ε:=by
 replace k:=k.out;refine⟨?_⟩;simp[wpOps,PR.wp,AE.wp,h,Ai,FW];exact⟨p,k⟩
def eO{α:Type}(n:Nat)(e:α->TV):Option (List α)->TV
 |none=>.nil|some l=>.list n (l.map e)
theorem zK{l:Option (List α)}{x:AF}{r:Fq}(h:A7 ε (x.ev ε)=Y (eO n e l::r))(k:WO S K os ((d,.tv (eO n e l))::ε)):WO S K (⟨Y d,.ld x,W⟩::os) ε:=AAo h (by cases l<;>rfl) k
theorem qu{x:AF}{cs:Fq}(h:A7 ε (x.ev ε)=Y cs)(p:A! n cs.length=X)(u:TV.agg (cs.take n)=t)(k:WO S K os ((d,.tv t)::ε)):WO S K (⟨Y d,.lda x n,W⟩::os) ε:=by
 replace k:=k.out;refine⟨?_⟩;subst u;simp[wpOps,PR.wp,AE.wp,h,Ai];exact⟨A? p,k⟩
variable{s:Nat}
theorem zL{cs:List AO}(h:ε.get s=.bx cs)(p:A! n (cs.map (·.t)).length=X)(u:TV.agg ((cs.map (·.t)).take n)=t)(k:WO S K os ((d,.tv t)::ε)):WO S K (⟨Y d,.ldb s n,W⟩::os) ε:=by
 replace k:=k.out;refine⟨?_⟩;subst u;simp only[wpOps,PR.wp,AE.wp,h];exact⟨A? p,k⟩
section bins
variable{x y:AF}{ik:IntKind}{a b:Int}
theorem Vx{h:BK}{op:BinOp}{u v t:TV}(p:x.val ε=Y u)(w:y.val ε=Y v)(A:ME h op u v=Y t)(k:WO S K os ((d,.tv t)::ε)):WO S K (⟨Y d,.bin h op x y,W⟩::os) ε:=by
 replace k:=k.out;refine⟨?_⟩;simp[wpOps,PR.wp,AE.wp,p,w,A,Ai];exact k
theorem zV{q:Int}(h:quo a b=Y q)(p:x.val ε=Y (.int ik a))(u:y.val ε=Y (.int ik b))(k:WO S K os ((d,.tv (.int ik (ik.wrap q)))::ε)):WO S K (⟨Y d,.bin .i .quo x y,W⟩::os) ε:=by grind[Vx,quo,ME,intCmp,intArith,Option.some.inj]
theorem zW{q:Int}(h:J6 a b=Y q)(p:x.val ε=Y (.int ik a))(u:y.val ε=Y (.int ik b))(k:WO S K os ((d,.tv (.int ik q))::ε)):WO S K (⟨Y d,.bin .i .rem x y,W⟩::os) ε:=by grind[Vx,J6,ME,intCmp,intArith,Option.some.inj]
theorem zE{op:BinOp}{h:IntKind}{r:Int}(p:Mv ik op a b=Y r)(u:x.val ε=Y (.int ik a))(A:y.val ε=Y (.int h b))(B:ik=h\/op=.shl\/op=.shr)(k:WO S K os ((d,.tv (.int ik r))::ε)):WO S K (⟨Y d,.bin .w op x y,W⟩::os) ε:=by grind[Vx,ME]
theorem wH{u v t:ByteArray}(h:U2 u v=Y t)(p:x.val ε=Y (.str u))(w:y.val ε=Y (.str v))(k:WO S K os ((d,.tv (.str t))::ε)):WO S K (⟨Y d,.bin .s .add x y,W⟩::os) ε:=by grind[Vx,U2,ME,Option.some.inj]
theorem mN{n:I2}{cs ds:Fq}{r:Bool}(p:x.val ε=Y (.agg cs))(u:y.val ε=Y (.agg ds))(w:cs.map TV.kd=n)(h:CJ cs ds=Y r)(k:WO S K os ((d,.tv (.bool r))::ε)):WO S K (⟨Y d,.bin (.a n) .eql x y,W⟩::os) ε:=by grind[Vx,ME]
theorem mO{n:I2}{cs ds:Fq}{r:Bool}(p:x.val ε=Y (.agg cs))(u:y.val ε=Y (.agg ds))(w:cs.map TV.kd=n)(h:CJ cs ds=Y r)(k:WO S K os ((d,.tv (.bool (!r)))::ε)):WO S K (⟨Y d,.bin (.a n) .neq x y,W⟩::os) ε:=by grind[Vx,ME]
end bins
variable{t:TV}
theorem tF{c a b:AF}{q:Bool}(p:c.val ε=Y (.bool q))(u:q=X)(h:a.val ε=Y t)(k:WO S K os ((d,.tv t)::ε)):WO S K (⟨Y d,.pick c a b,W⟩::os) ε:=by
 replace k:=k.out;refine⟨?_⟩;subst u;simp[wpOps,PR.wp,AE.wp,p];rcases ZJ h with h|h<;>rw[h]<;>exact k
theorem tE{c a b:AF}{q:Bool}(p:c.val ε=Y (.bool q))(u:q=T)(h:b.val ε=Y t)(k:WO S K os ((d,.tv t)::ε)):WO S K (⟨Y d,.pick c a b,W⟩::os) ε:=by
 replace k:=k.out;refine⟨?_⟩;subst u;simp[wpOps,PR.wp,AE.wp,p];rcases ZJ h with h|h<;>rw[h]<;>exact k
variable{α:Type}{n:Nat}{e:α->TV}{l:List α}
theorem zN{x:AF}{es:Fq}(h:x.val ε=Y (.list n es))(he:es=l.map e)(k:WO S K os ((d,.tv (.int .i64 l.length))::ε)):WO S K (⟨Y d,.len x,W⟩::os) ε:=by
 replace k:=k.out;refine⟨?_⟩;subst he;simp[wpOps,PR.wp,AE.wp,h];exact k
variable{m:List α}
theorem dc{a b:Int}(h:slc l a b=Y m):((0<=a/\a<=b)/\b<=l.length)/\m=(l.take b.toNat).drop a.toNat:=by
 unfold slc at h
 grind
variable{ka kb:IntKind}
theorem zX{x:AF}{lo hi:Option AF}{es:Fq}{a b:Int}(A:slc l a b=Y m)(h:x.val ε=Y (.list n es))(he:es=l.map e)(p:Hf ε 0 lo=Y (.int ka a))(u:Hf ε l.length hi=Y (.int kb b))
  (k:WO S K os ((d,.tv (.list n (m.map e)))::ε)):WO S K (⟨Y d,.slc n x lo hi,W⟩::os) ε:=by
 replace k:=k.out;refine⟨?_⟩;subst he;obtain⟨⟨w,B⟩,C⟩:=dc A;subst C;simp only[wpOps,PR.wp,AE.wp,h,a6,p,u];refine⟨⟨trivial,w.1,w.2⟩,B,?_⟩;rw[List.map_drop,List.map_take]at k;exact k
theorem wJ{x:AF}{lo hi:Option AF}{s t:ByteArray}{a b:Int}(p:Aau s a b=Y t)(h:x.val ε=Y (.str s))(u:Hf ε 0 lo=Y (.int ka a))(w:Hf ε s.size hi=Y (.int kb b))
  (k:WO S K os ((d,.tv (.str t))::ε)):WO S K (⟨Y d,.Aau x lo hi,W⟩::os) ε:=by
 replace k:=k.out;refine⟨?_⟩;unfold Aau at p;split at p
 next A=>cases p;simp[wpOps,PR.wp,AE.wp,h,u,w];exact⟨A.1,A.2.1,A.2.2,k⟩
 .cases p
variable{zero:Fq}{parts:List (Nat×Nat×AF)}
theorem am{ts:List (Nat×Nat×TV)}{cs:Fq}(h:E4 ε parts=Y ts)(p:E8 zero ts=Y cs)(u:TV.agg cs=t)(k:WO S K os ((d,.tv t)::ε)):WO S K (⟨Y d,.bld zero parts,W⟩::os) ε:=by
 replace k:=k.out;refine⟨?_⟩;subst u;simp[wpOps,PR.wp,AE.wp,h,Ai,p];exact k
def XB:Nat->List (Nat×Nat×TV)->Bool
 |_,[]=>X|k,(i,n,t)::r=>B_ i k&&B_ t.cells.length n&&XB (k+n) r
def I4:List (Nat×Nat×TV)->Fq
 |[]=>[]|(_,_,t)::r=>t.cells++I4 r
theorem Uw:∀(ds done k rest:Fq),k.length=ds.length->Pj (done++(k++rest)) done.length ds=done++(ds++rest)
 |[],done,k,rest,h=>by
  have:k=[]:=w? c_;subst this;rfl
 |d::ds,done,[],rest,h=>by simp at h|d::ds,done,m::k,rest,h=>by
  simp only[Pj];rw[x_,x! _ _ (R0 _),Nat.sub_self,List.set_cons_zero];have:=Uw ds (done++[d]) k rest c_;simpa using this
theorem ZO:∀(ts:List (Nat×Nat×TV))(done rest:Fq),XB done.length ts=X->(I4 ts).length=rest.length->E8 (done++rest) ts=Y (done++I4 ts)
 |[],done,rest,_,h=>by
  have:rest=[]:=w? (by simpa[I4]using h.symm);subst this;rfl
 |(i,n,t)::r,done,rest,p,h=>by
  simp [XB]at p;obtain⟨⟨rfl,k⟩,A⟩:=p;simp[I4]at h;have u:n<=rest.length:=U
  simp only[E8];rw[Ne ⟨k,s?⟩];have w:rest=rest.take n++rest.drop n:=(x? n rest).symm;rw[w,Uw t.cells done (rest.take n) (rest.drop n) i_,<-ae];rw[ZO r (done++t.cells) (rest.drop n) (by rw[aE,k];exact A) (by rw[List.length_drop];omega)];simp[I4]
theorem wB{ts:List (Nat×Nat×TV)}(h:E4 ε parts=Y ts)(p:XB 0 ts=X)(u:B_ (I4 ts).length zero.length=X)(w:TV.agg (I4 ts)=t)(k:WO S K os ((d,.tv t)::ε)):WO S K (⟨Y d,.bld zero parts,W⟩::os) ε:=
 am h (by have:=ZO ts [] zero p (Nat.eq_of_beq_eq_true u);simpa using this) w k
variable{ts:Fq}
theorem qv{parts:List AF}(h:vals ε parts=Y ts)(he:ts=l.map e)(p:∀a,(e a).cells.length=n)(k:WO S K os ((d,.ow (.list n (l.map e)))::ε)):WO S K (⟨Y d,.lst n parts,W⟩::os) ε:=by
 replace k:=k.out;refine⟨?_⟩;subst he;simp[wpOps,PR.wp,AE.wp,h,Ai];refine⟨λt u=>?_,k⟩
 grind
variable{s:Nat}{r:List α}
theorem qr{y:AF}{es p rs:Fq}(h:Ak l m=Y r)(u:ε.get s=.ow (.list n es))(w:y.val ε=Y (.list n p))(he:es=l.map e)(hf:p=m.map e)(A:rs=r.map e)
  (k:WO S K os ((d,.ow (.list n rs))::(s,.tv (.list n es))::ε)):WO S K (⟨Y d,.app n (.s s) y,W⟩::os) ε:=by
 replace k:=k.out;refine⟨?_⟩;subst hf A;unfold Ak at h;split at h
 next B=>cases h;simp only[wpOps,PR.wp,AE.wp,AF.ev,u,w,he,a6];rw[he]at k;refine⟨V,V,B,?_⟩;rw[y_]at k;exact k
 .cases h
variable{f:FuncId}
theorem wC{args:List AF}(h:vals ε args=Y ts)(p:S f ts (.sh t))(k:WO S K os ((d,.tv t)::ε)):WO S K (⟨Y d,.call f args,W⟩::os) ε:=by
 replace k:=k.out;refine⟨?_⟩;simp[wpOps,PR.wp,AE.wp,h,Ai];exact⟨_,⟨p,rfl⟩,λ_=>k⟩
theorem wI{x i:AF}{s:ByteArray}{ik:IntKind}{j b:Int}(p:Aas s j=Y b)(h:x.val ε=Y (.str s))(hi:i.val ε=Y (.int ik j))(k:WO S K os ((d,.tv (.int .u8 b))::ε)):WO S K (⟨Y d,.Aas x i,W⟩::os) ε:=by
 replace k:=k.out;refine⟨?_⟩;unfold Aas at p;split at p
 next u=>rw[Option.map_eq_some_iff]at p;obtain⟨c,w,rfl⟩:=p;simp[wpOps,PR.wp,AE.wp,h,hi];exact⟨u,c,w,k⟩
 .cases p
theorem wG{mx:Bool}{x y:AF}{ik:IntKind}{a b:Int}(h:x.val ε=Y (.int ik a))(p:y.val ε=Y (.int ik b))(k:WO S K os ((d,.tv (.int ik (if mx then max a b else min a b)))::ε)):WO S K (⟨Y d,.mm mx x y,W⟩::os) ε:=by
 replace k:=k.out;refine⟨?_⟩;simp only[wpOps,PR.wp,AE.wp,h,p];exact⟨trivial,k⟩
theorem zO{x y:AF}{ik:IntKind}{a b:Int}(h:x.val ε=Y (.int ik a))(p:y.val ε=Y (.int ik b))(k:WO S K os ((d,.tv (.int ik (max a b)))::ε)):WO S K (⟨Y d,.mm X x y,W⟩::os) ε:=wG h p k
theorem zQ{x y:AF}{ik:IntKind}{a b:Int}(h:x.val ε=Y (.int ik a))(p:y.val ε=Y (.int ik b))(k:WO S K os ((d,.tv (.int ik (min a b)))::ε)):WO S K (⟨Y d,.mm T x y,W⟩::os) ε:=wG h p k
variable{off:Nat}
theorem AAp{x v:AF}{cs cs':List AO}(h:x.place ε=Y (s,off))(p:ε.get s=.bx cs)(hv:v.ev ε=.tv t)(u:t.cells.length=n)(w:A! (off+n) cs.length=X)(A:cs.take off++t.cells.map (⟨T,·⟩)++cs.drop (off+n)=cs')
  (k:WO S K os ((s,.bx cs')::ε)):WO S K (⟨W,.st n x v,W⟩::os) ε:=by
 replace k:=k.out;refine⟨?_⟩;subst A;simp only[wpOps,PR.wp,AE.wp,h,p,hv];exact⟨u,A? w,k⟩
theorem zZ{s off q:Nat}{x:AF}{cs cs':List AO}(h:x.place ε=Y (s,off))(p:ε.get s=.bx cs)(hv:ε.get q=.ow t)(u:q≠s)(w:B' off cs.length=X)(A:cs.set off ⟨X,t⟩=cs')
  (k:WO S K os ((s,.bx cs')::(q,.tv t)::ε)):WO S K (⟨W,.st 1 x (.s q),W⟩::os) ε:=by
 replace k:=k.out;refine⟨?_⟩;subst A;simp only[wpOps,PR.wp,AE.wp,h,p,AF.ev,hv];exact⟨u,trivial,A? w,k⟩
variable{v:AF}
theorem zY{cs cs':List AO}(h:ε.get s=.bx cs)(hv:v.ev ε=.tv t)(p:t.cells.length=n)(u:A! (0+n) cs.length=X)(w:cs.take 0++t.cells.map (⟨T,·⟩)++cs.drop (0+n)=cs')
  (k:WO S K os ((s,.bx cs')::ε)):WO S K (⟨W,.stb n s v,W⟩::os) ε:=by
 replace k:=k.out;refine⟨?_⟩;subst w;simp only[wpOps,PR.wp,AE.wp,h,hv];exact⟨p,A? u,k⟩
theorem zI{cs:List AO}{row:Fq}(h:ε.get s=.bx cs)(p:cs.map (·.t)=row)(k:WO S K os ((s,.tv (.pt row))::ε)):WO S K (⟨W,.frz s,W⟩::os) ε:=by
 replace k:=k.out;refine⟨?_⟩;subst p;simp[wpOps,PR.wp,AE.wp,h];exact k
theorem tD{args:List AF}{cs:List AO}(h:vals ε args=Y ts)(p:S f ts (.oag cs))(u:TV.agg (cs.map λc=>c.rel.t)=t)(k:WO S K os ((d,.tv t)::ε)):WO S K (⟨Y d,.call f args,W⟩::os) ε:=by
 replace k:=k.out;refine⟨?_⟩;subst u;simp[wpOps,PR.wp,AE.wp,h,Ai];exact⟨_,⟨p,rfl⟩,λ_=>k⟩
theorem qt{x:AF}{es:Fq}(h:x.val ε=Y (.list n es))(he:es=l.map e)(k:∀b:Bool,(b=X->l=[])->WO S K os ((d,.tv (.bool b))::ε)):WO S K (⟨Y d,.isn x,W⟩::os) ε:=by
 replace k:=λb p=>(k b p).out;refine⟨?_⟩;simp only[wpOps,PR.wp,AE.wp,h];intro b p;refine k b λu=>?_;have:=p u;rw[he]at this;simpa using this
theorem wD{x:AF}(h:x.val ε=Y .nil)(k:WO S K os ((d,.tv (.bool X))::ε)):WO S K (⟨Y d,.isn x,W⟩::os) ε:=by
 replace k:=k.out;refine⟨?_⟩;simp[wpOps,PR.wp,AE.wp,h];exact k
theorem rY(h:Ak [] l=Y r)(b:Bool)(k:b=X->l=[]):(if b=X then Y []else(Ak [] l).bind λx=>Y x)=Y r:=by grind[Ak]
variable{j:Int}
theorem GY{a:α}(h:idx l j=Y a):0<=j/\j<l.length/\l[j.toNat]?=Y a:=by
 unfold idx at h
 grind
theorem Yl(p:∀a,(e a).cells.length=n):∀(l:List α)(j k:Nat)(a:α),l[j]?=Y a->k<n->((l.map e).flatMap TV.cells)[j*n+k]?=(e a).cells[k]?
 |[],j,k,a,h,_=>by simp at h|b::l,0,k,a,h,u=>by
  grind
 |b::l,j+1,k,a,h,u=>by
  rw [y!]at h;rw[y?,z_,List.getElem?_append_right (by rw[p,B!];omega),p,show(j+1)*n+k-n=j*n+k from k?];exact Yl p l j k a h u
theorem b8(p:∀a,(e a).cells.length=n)(t:TV):∀(l:List α)(j k:Nat)(a b:α),l[j]?=Y a->k<n->(e b).cells=(e a).cells.set k t->((l.set j b).map e).flatMap TV.cells=((l.map e).flatMap TV.cells).set (j*n+k) t
 |[],j,k,a,b,h,_,_=>by simp at h|c::l,0,k,a,b,h,u,w=>by
  grind
 |c::l,j+1,k,a,b,h,u,w=>by
  rw [y!]at h;rw[z!,y?,y?,z_,z_,x! _ _ (by rw[p,B!];omega),p,show(j+1)*n+k-n=j*n+k from k?,b8 p t l j k a b h u w]
theorem np(h:∀a,(e a).cells.length=n)(l:List α):((l.map e).flatMap TV.cells).length=l.length*n:=by
 induction l with
 |nil=>simp|cons b l k=>rw[y?,z_,aE,k,h,a5,B!];omega
theorem Rk(h:∀a,(e a).flat=X):∀(l:List α),TV.t1 (l.map e)=X
 |[]=>rfl|a::l=>by simp[TV.t1,h a,Rk h l]
theorem wK{x:AF}{q:Nat×Option Nat}{es:Fq}(h:x.tg ε=Y (q,n,es))(he:es=l.map e)(k:WO S K os ((d,.tv (.int .i64 l.length))::ε)):WO S K (⟨Y d,.Abu x,W⟩::os) ε:=by
 replace k:=k.out;refine⟨?_⟩;subst he;simp[wpOps,PR.wp,AE.wp,h,Ai];exact k
variable{qi:Option Nat}
theorem za{x i:AF}{q n:Nat}{es:Fq}{ik:IntKind}{a:α}(p:idx l j=Y a)(h:x.tg ε=Y ((q,qi),n,es))(hi:i.val ε=Y (.int ik j))(he:es=l.map e)(u:(x.ev ε).pr=Y q)
  (k:WO S K os ((d,.lp q qi (j.toNat*n))::ε)):WO S K (⟨Y d,.xia x i n,W⟩::os) ε:=by
 replace k:=k.out;refine⟨?_⟩;subst he;obtain⟨w,A,_⟩:=GY p;simp only[wpOps,PR.wp,AE.wp,h,hi,Ai,a6];exact⟨⟨u,trivial⟩,w,A,k⟩
theorem qy{x:AF}{q c n i:Nat}{es row:Fq}{a:α}(h:x.ev ε=.lp q qi c)(p:ε.o3 q qi=Y (n,es))(he:es=l.map e)(u:∀a,(e a).cells.length=n)(w:idx l j=Y a)(A:c=j.toNat*n+i)(hi:B' i n=X)(B:(e a).cells=row)(C:row[i]?=Y t)
  (k:WO S K os ((d,.tv t)::ε)):WO S K (⟨Y d,.xld x,W⟩::os) ε:=by
 replace k:=k.out;refine⟨?_⟩;subst he A B;have hf:=Yl u l j.toNat i a (GY w).2.2 (A? hi);simp[wpOps,PR.wp,AE.wp,h,p,hf,C,Ai];exact k
theorem zb{x i:AF}{q n:Nat}{es:Fq}{ik:IntKind}{a:α}(p:idx l j=Y a)(h:x.ev ε=.la q W)(u:ε.get q=.xo n es)(hi:i.val ε=Y (.int ik j))(he:es=l.map e)
  (k:WO S K os ((d,.lp q W (j.toNat*n))::ε)):WO S K (⟨Y d,.xin x i n,W⟩::os) ε:=by
 replace k:=k.out;refine⟨?_⟩;subst he;obtain⟨w,A,_⟩:=GY p;simp only[wpOps,PR.wp,AE.wp,h,hi,u,a6];exact⟨trivial,w,A,k⟩
theorem qz{x:AF}{q c n i:Nat}{es row:Fq}{a:α}(h:x.ev ε=.lp q W c)(p:ε.get q=.xo n es)(he:es=l.map e)(u:∀a,(e a).cells.length=n)(w:idx l j=Y a)(A:c=j.toNat*n+i)(hi:B' i n=X)(B:(e a).cells=row)(C:row[i]?=Y t)
  (k:WO S K os ((d,.tv t)::ε)):WO S K (⟨Y d,.xln x,W⟩::os) ε:=by
 replace k:=k.out;refine⟨?_⟩;subst he A B;have hf:=Yl u l j.toNat i a (GY w).2.2 (A? hi);simp[wpOps,PR.wp,AE.wp,h,p,hf,C,Ai];exact k
theorem q8{x v:AF}{q c n i:Nat}{env':AB}{es rs:Fq}{a b:α}(h:x.ev ε=.lp q qi c)(F:ε.o3 q qi=Y (n,es))(hv:v.ev ε=.tv t)(he:es=l.map e)(w:∀a,(e a).cells.length=n)(G:idx l j=Y a)(H:c=j.toNat*n+i)(hi:B' i n=X)(D:t.cells=[t])
  (I:(e b).cells=(e a).cells.set i t)(J:rs=(BB l j b).map e)(A:ε.t5 q qi n rs=env')(k:WO S K os env'):WO S K (⟨W,.xst x v 1,W⟩::os) ε:=by
 replace k:=k.out;refine⟨?_⟩;subst he H J A;obtain⟨N,O,E⟩:=GY G;have B:i<n:=A? hi;have p:j.toNat<l.length:=(z?.1 E).1;simp only[wpOps,PR.wp,AE.wp,h,F,hv];have C:j.toNat*n+i<l.length*n:=calc j.toNat*n+i<j.toNat*n+n:=U
   _=(j.toNat+1)*n:=k?
   _<=l.length*n:=B? _ p
 refine ⟨⟨by rw[D];rfl,U⟩,?_,_,(b8 w t l j.toNat i a b E B I).trans (by rw[D,List.set_eq_take_append_cons_drop,Ne (by rw[np w];exact C)];simp),V,λu L=>?_,k⟩
 .rw[a6]
  calc j.toNat*n+i<j.toNat*n+n:=U
   _=(j.toNat+1)*n:=k?
   _<=l.length*n:=B? _ p
 .obtain⟨M,_,rfl⟩:=A_.1 L;exact w M
theorem b7(k:∀a,(e a).cells.length=n):∀(l:List α)(j:Nat)(b:α),j<l.length->((l.set j b).map e).flatMap TV.cells=((l.map e).flatMap TV.cells).take (j*n)++(e b).cells++((l.map e).flatMap TV.cells).drop (j*n+n)
 |[],j,b,h=>by simp at h|c::l,0,b,h=>by
  grind
 |c::l,j+1,b,h=>by
  rw [z!,y?,y?,z_,z_,b7 k l j b c_,show(j+1)*n=(e c).cells.length+j*n from by rw[k,B!];omega,Nat.add_assoc,List.take_length_add_append,List.drop_length_add_append,ae,ae,ae]
theorem q9{x v:AF}{q n:Nat}{env':AB}{es:Fq}{a b:α}(h:x.ev ε=.lp q qi (j.toNat*n))(D:ε.o3 q qi=Y (n,es))(hv:v.ev ε=.tv (e b))(he:es=l.map e)(w:∀a,(e a).cells.length=n)(E:idx l j=Y a)(F:B' 0 n=X)
  (A:ε.t5 q qi n ((BB l j b).map e)=env')(k:WO S K os env'):WO S K (⟨W,.xst x v n,W⟩::os) ε:=by
 replace k:=k.out;refine⟨?_⟩;subst he A;obtain⟨J,L,H⟩:=GY E;have B:0<n:=A? F;have p:j.toNat<l.length:=(z?.1 H).1;have C:j.toNat*n+n<=l.length*n:=calc j.toNat*n+n=(j.toNat+1)*n:=k?
   _<=l.length*n:=B? _ p
 simp only[wpOps,PR.wp,AE.wp,h,D,hv];refine⟨⟨w b,B⟩,by rw[a6];exact C,_,b7 w l j.toNat b p,V,λu G=>?_,k⟩;obtain⟨I,_,rfl⟩:=A_.1 G;exact w I
theorem v8{y:AF}{es p rs:Fq}(h:Ak l m=Y r)(u:ε.get s=.xo n es)(w:y.val ε=Y (.list n p))(he:es=l.map e)(hf:p=m.map e)(A:rs=r.map e)(B:ε.ek d=X)(hd:d≠s)
  (k:WO S K os ((d,.xo n rs)::(s,.undef)::ε)):WO S K (⟨Y d,.Aa7 n s y,W⟩::os) ε:=by
 replace k:=k.out;refine⟨?_⟩;subst he hf A;unfold Ak at h;split at h
 next C=>cases h;simp only[wpOps,PR.wp,AE.wp,u,w,a6];rw[y_]at k;exact⟨trivial,trivial,C,B,hd,k⟩
 .cases h
theorem o6{args:List AF}{ts es:Fq}(h:ε.ek d=X)(p:vals ε args=Y ts)(u:S f ts (.own (.list n es)))(he:es=l.map e)(hf:∀a,(e a).flat=X)(k:WO S K os ((d,.xo n es)::ε)):WO S K (⟨Y d,.AaB f args,W⟩::os) ε:=by
 replace k:=k.out;refine⟨?_⟩;simp[wpOps,PR.wp,AE.wp,p,Ai];exact⟨h,n,es,.inr ⟨u,by rw[he];exact Rk hf l⟩,λ_=>k⟩
variable{rs:Fq}{z:α}
theorem qx{x:AF}{ik:IntKind}(h:Eu j z=Y r)(u:ε.ek d=X)(w:x.val ε=Y (.int ik j))(A:(match zero with|[t]=>t|ts=>.agg ts)=e z)(B:rs=r.map e)
  (k:WO S K os ((d,.xo n rs)::ε)):WO S K (⟨Y d,.mkx n zero x,W⟩::os) ε:=by
 replace k:=k.out;refine⟨?_⟩;subst B;unfold Eu at h;split at h
 next p=>cases h;rw[A',<-A]at k;simp[wpOps,PR.wp,AE.wp,w];exact⟨u,p.1,p.2,k⟩
 .cases h
theorem wF{n m:Nat}{x:AF}{ik:IntKind}{r:List Fp}(h:Eu j ([]:Fp)=Y r)(p:ε.ek d=X)(u:x.val ε=Y (.int ik j))(w:rs=r.map λl:Fp=>TV.list m (l.map (TV.int .i64)))
  (k:WO S K os ((d,.xo n rs)::ε)):WO S K (⟨Y d,.mkx n [.list m []] x,W⟩::os) ε:=qx h p u (e:=λl:Fp=>TV.list m (l.map (TV.int .i64))) rfl w k
theorem qw{x:AF}{ik:IntKind}(h:Eu j z=Y r)(u:ε.ek d=X)(w:x.val ε=Y (.int ik j))(A:(match zero with|[t]=>t|ts=>.agg ts)=e z)(B:rs=r.map e)
  (k:WO S K os ((d,.ow (.list n rs))::ε)):WO S K (⟨Y d,.mko n zero x,W⟩::os) ε:=by
 replace k:=k.out;refine⟨?_⟩;subst B;unfold Eu at h;split at h
 next p=>cases h;rw[A',<-A]at k;simp[wpOps,PR.wp,AE.wp,w];exact⟨u,p.1,p.2,k⟩
 .cases h
theorem wE{n m:Nat}{x:AF}{ik:IntKind}{r:List Fp}(h:Eu j ([]:Fp)=Y r)(p:ε.ek d=X)(u:x.val ε=Y (.int ik j))(w:rs=r.map λl:Fp=>TV.list m (l.map (TV.int .i64)))
  (k:WO S K os ((d,.ow (.list n rs))::ε)):WO S K (⟨Y d,.mko n [.list m []] x,W⟩::os) ε:=qw h p u (e:=λl:Fp=>TV.list m (l.map (TV.int .i64))) rfl w k
theorem ut:([]:List AO).all AO.Aar=X:=rfl
theorem ru{cs:List AO}(hf:∀a,(e a).flat=X)(h:cs.all AO.Aar=X):((⟨X,.list n (l.map e)⟩:AO)::cs).all AO.Aar=X:=by
 rw [List.all_cons,h,Bool.and_true];exact Rk hf l
theorem zF{hi:AF}{es rs:Fq}{ik:IntKind}(h:slc l 0 j=Y r)(u:ε.get s=.xo n es)(w:hi.val ε=Y (.int ik j))(he:es=l.map e)(A:rs=r.map e)(B:ε.ek d=X)(hd:d≠s)(k:WO S K os ((d,.xo n rs)::(s,.undef)::ε)):WO S K (⟨Y d,.cut n s hi,W⟩::os) ε:=by
 replace k:=k.out;refine⟨?_⟩;subst he A;obtain⟨⟨C,D⟩,p⟩:=dc h;subst p;simp only[wpOps,PR.wp,AE.wp,u,w];refine⟨⟨trivial,B,hd⟩,C.2,by rw[a6];exact D,?_⟩;have p:((l.take j.toNat).drop (0:Int).toNat).map e=(l.map e).take j.toNat:=V
 rw [p]at k;exact k
theorem oz{args:List AF}{ts es:Fq}(h:Aaa ε args=Y ts)(p:S f ts (.own t))(u:t=.list n es)(he:es=l.map e)(hf:∀a,(e a).flat=X)(k:WO S K os ((d,.ow t)::ε)):WO S K (⟨Y d,.AaH f args,W⟩::os) ε:=by
 replace k:=k.out;refine⟨?_⟩;subst u he;simp[wpOps,PR.wp,AE.wp,h,Ai];exact⟨_,⟨p,Rk hf l⟩,λ_=>k⟩
def bL{α:Type}(l:List α)(j:Int)(z:α):Option (List α):=if(0<=j/\j<=4096)/\l.length+j.toNat<=AX then Y (l++w! j.toNat z)else W
theorem wA{p:TV}{x:AF}{es rs:Fq}{ik:IntKind}(h:bL l j z=Y r)(A:ε.get s=.xo n es)(B:x.val ε=Y (.int ik j))(he:es=l.map e)(C:p=e z)(D:rs=r.map e)(E:ε.ek d=X)(hd:d≠s)(u:n=1)(F:p.cells=[p])(k:WO S K os ((d,.xo n rs)::(s,.undef)::ε)):WO S K (⟨Y d,.Abe n s p x,W⟩::os) ε:=by
 replace k:=k.out;refine⟨?_⟩;subst he D;unfold bL at h;split at h
 next w=>cases h;simp only[wpOps,PR.wp,AE.wp,A,B];refine⟨⟨⟨trivial,u⟩,F⟩,w.1,⟨by rw[a6];exact w.2,E,hd⟩,?_⟩;rw[y_,A',<-C]at k;exact k
 .cases h
variable{i:Nat}
theorem tC{args:List AF}{ts h:Fq}{cs cs':List AO}{e:EV}(p:(args[i]?).bind (·.place ε)=Y (s,0))(u:ε.get s=.bx cs)(w:ε.noX s W=X)(hd:d≠s)(A:Fg ε i args=Y ts)(B:S f ts (.bo cs cs' i h))(he:EV.ofs h=e)(k:WO S K os ((d,e)::(s,.bx cs')::ε)):WO S K (⟨Y d,.Aad f args i,W⟩::os) ε:=by
 replace k:=k.out;refine⟨?_⟩;subst he;simp only[wpOps,PR.wp,AE.wp,p,u,A,Ai];exact⟨⟨w,hd⟩,cs',h,B,λ_=>k⟩
def Wr{α:Type}(l:List α):Option Unit:=if l.isEmpty then W else Y ()
theorem km{u:Unit}{b:Bool}(h:Wr l=Y u)(k:b=X->l=[]):b=T:=by
 cases b with
 |false=>rfl|true=>rw[k rfl]at h;cases h
variable{g:Nat}
theorem AAc{h:Option Nat}{op:AE}{b q:Bool}(p:ε.get g=.tv (.bool q))(u:q=b)(k:WO S K (⟨h,op,W⟩::os) ε):WO S K (⟨h,op,Y (g,b)⟩::os) ε:=by
 replace k:=k.out;refine⟨?_⟩
 grind [wpOps,PR.wp]
theorem yM{d:Nat}{op:AE}{b q:Bool}(p:ε.get g=.tv (.bool q))(u:q=!b)(k:WO S K os ((d,.sk)::ε)):WO S K (⟨Y d,op,Y (g,b)⟩::os) ε:=by
 replace k:=k.out;refine⟨?_⟩;subst u;simp only[wpOps,PR.wp,p];exact⟨λh=>by cases b<;>simp at h,λ_=>k⟩
theorem AAd{d:Nat}{op:AE}{b:Bool}(h:ε.get g=.sk)(k:WO S K os ((d,.sk)::ε)):WO S K (⟨Y d,op,Y (g,b)⟩::os) ε:=by
 replace k:=k.out;refine⟨?_⟩;simp[wpOps,PR.wp,h];exact k
theorem dz(xs h:List PR)(ε:AB):wpOps S K (xs++h) ε=wpOps S (wpOps S K h) xs ε:=by
 induction xs generalizing ε with
 |nil=>rfl|cons x xs k=>
  simp only[x_,wpOps];congr 1;funext e;exact k e
theorem yL{ops:List PR}(n:Nat)(M:AB->AB->Prop)(h:WO S (M ε) (ops.take n) ε)(k:∀e,M ε e->WO S K (ops.drop n) e):WO S K ops ε:=by
 refine ⟨?_⟩;rw[<-x? n ops,dz];exact Qs S (λe he=>(k e he).out) _ ε h.out
variable{q:Q}{a b:PC}
theorem xx(h:WP S a ⟨λe=>(∀s,(e.get s).WF)->WP S b q e,q.exit,q.ret⟩ ε):WP S (.seq a b) q ε:=⟨PC.gt S a _ ε h.out _ (λ_ he k=>(he k).out) (λ_ _ h=>h) (λ_ h=>h)⟩
theorem uT{live:I2}{env':AB}(k:ε.ei live=env')(h:q.normal env'):WP S (.skip live) q ε:=by subst k;exact⟨h⟩
theorem uS{live:I2}{env':AB}(k:ε.ei live=env')(h:q.exit i env'):WP S (.exit i live) q ε:=by subst k;exact⟨h⟩
theorem XZ{x:AF}{c:Bool}(k:x.val ε=Y (.bool c))(p:c=X->WP S a q ε)(hf:c=T->WP S b q ε):WP S (.cond x a b) q ε:=by
 refine ⟨?_⟩;simp[PC.wp,k];exact⟨λh=>(p h).out,λh=>(hf h).out⟩
theorem SX{x:AF}{c:Bool}(k:x.val ε=Y (.bool c))(h:c=X)(p:WP S a q ε):WP S (.cond x a b) q ε:=by grind[XZ]
theorem SW{x:AF}{c:Bool}(k:x.val ε=Y (.bool c))(h:c=T)(p:WP S b q ε):WP S (.cond x a b) q ε:=by grind[XZ]
theorem Ya(h:WP S a ⟨q.normal,λj e=>if j=i then q.normal e else q.exit j e,q.ret⟩ ε):WP S (.block i a) q ε:=⟨h.out⟩
theorem bm{x y:Prop}(h:x):if i=i then x else y:=by rw[Ne rfl];exact h
theorem rd{i j:Nat}{x y:Prop}(k:i≠j)(h:y):if i=j then x else y:=by rw[QQ k];exact h
theorem xw(M:AB->Prop)(k:WP S a ⟨M,q.exit,q.ret⟩ ε)(p:∀e,M e->q.normal e):WP S a q ε:=⟨PC.gt S a _ ε k.out q p (λ_ _ h=>h) (λ_ h=>h)⟩
section loops
variable{σ ρ:Type}{live:I2}{c:PC}{i0:Nat}
variable{ζ:AB->Prop}
theorem qJ{f:Int->σ->Option (B2 σ ρ)}{b:Int}(I:Int->σ->AB)(J:σ->AB)(R:ρ->AB->Prop)
  (p:∀i s r,i<b->f i s=Y r->(∀k,((I i s).get k).WF)->c.wp S ⟨λe=>∃s',r=.next s'/\e.ei live=I (i+1) s',λj e=>j=i0/\∃s',r=.brk s'/\e=J s',λe=>∃v,r=.ret v/\R v e⟩ (I i s))
  (u:∀i s,¬i<b->c.wp S ⟨λ_=>False,λj e=>j=i0/\e=J s,λ_=>False⟩ (I i s))
  (hX:∀e,((∀s,(e.get s).WF)->c.wp S {q with normal:=λC=>ζ (C.ei live)} e)->ζ e)(F:∀s,q.exit i0 (J s)\/True):
  ∀(n:Nat)(i:Int)(s:σ),n=(b-i).toNat->∀o,tc f n i s=Y o->(∀s',o=.inl s'->q.exit i0 (J s'))->(∀v e,o=.inr v->R v e->q.ret e)->ζ (I i s):=by
 intro n
 induction n with
 |zero=>
  intro i s D o ho w A;refine hX _ λB=>?_;refine PC.gt S c _ _ (u i s U) _ (λ_ h=>h.elim) (λj e he=>?_) (λ_ h=>h.elim);obtain⟨rfl,rfl⟩:=he;simp[tc]at ho;exact w s ho.symm
 |succ n E=>
  intro i s D o ho w A;simp[tc]at ho;refine hX _ λB=>?_;cases hf:f i s with
  |none=>rw[hf]at ho;cases ho
  |some r=>
   rw [hf]at ho;refine PC.gt S c _ _ (p i s r U hf B) _ (λe he=>?_) (λj e he=>?_) (λe he=>?_)
   .obtain⟨s',rfl,he⟩:=he;show ζ (e.ei live);rw[he];exact E (i+1) s' U o ho w A
   .obtain⟨rfl,s',rfl,rfl⟩:=he;simp at ho;exact w s' ho.symm
   .obtain⟨v,rfl,he⟩:=he;simp at ho;exact A v e ho.symm he
variable{s0:σ}{o:σ ⊕ ρ}
theorem iD{f:Int->σ->Option (B2 σ ρ)}{lo b:Int}(ho:eE f lo b s0=Y o)(I:Int->σ->AB)(J:σ->AB)(R:ρ->AB->Prop)(w:ε.ei live=I lo s0)
  (p:∀i s r,i<b->f i s=Y r->(∀k,((I i s).get k).WF)->WP S c ⟨λe=>∃s',r=.next s'/\e.ei live=I (i+1) s',λj e=>j=i0/\∃s',r=.brk s'/\e=J s',λe=>∃v,r=.ret v/\R v e⟩ (I i s))
  (u:∀i s,¬i<b->WP S c ⟨λ_=>False,λj e=>j=i0/\e=J s,λ_=>False⟩ (I i s))
  (A:∀s',o=.inl s'->q.normal (J s'))(B:∀v e,o=.inr v->R v e->q.ret e):WP S (.block i0 (.loop live c)) q ε:=by
 refine Ya ⟨?_⟩;intro ζ hX;rw[w];refine qJ (q:=⟨q.normal,λj e=>if j=i0 then q.normal e else q.exit j e,q.ret⟩) I J R (λi s r C D E=>(p i s r C D E).out) (λi s h=>(u i s h).out) hX (λ_=>.inr trivial) _ lo s0 rfl o ho ?_ B;intro s' F;exact bm (A s' F)
theorem fW{f:Int->σ->Option σ}:∀(n:Nat)(i:Int)(s o:σ),Aaf f n i s=Y o->tc (λi s=>(f i s).map (B2.next (ρ:=Empty))) n i s=Y (.inl o)
 |0,_,_,_,h=>by simp[Aaf]at h;subst h;rfl|n+1,i,s,o,h=>by
  simp [Aaf]at h;simp[tc];cases hf:f i s with
  |none=>rw[hf]at h;cases h
  |some s'=>rw[hf]at h;simp;exact fW n (i+1) s' o h
theorem tQ{f:Int->σ->Option σ}{lo b:Int}{s0 o:σ}(ho:gp f lo b s0=Y o)(I:Int->σ->AB)(J:σ->AB)(w:ε.ei live=I lo s0)
  (p:∀i s r,i<b->f i s=Y r->(∀k,((I i s).get k).WF)->WP S c ⟨λe=>e.ei live=I (i+1) r,λ_ _=>False,λ_=>False⟩ (I i s))
  (u:∀i s,¬i<b->WP S c ⟨λ_=>False,λj e=>j=i0/\e=J s,λ_=>False⟩ (I i s))
  (A:q.normal (J o)):WP S (.block i0 (.loop live c)) q ε:=by
 refine iD (f:=λi s=>(f i s).map (B2.next (ρ:=Empty))) (o:=.inl o) (fW _ _ _ _ ho) I J (λ_ _=>False) w ?_ u ?_ ?_
 .intro i s r hi hf B;simp at hf;obtain⟨s',hf,rfl⟩:=hf;exact⟨PC.gt S c _ _ (p i s s' hi hf B).out _ (λe he=>⟨s',rfl,he⟩) (λ_ _ h=>h.elim) (λ_ h=>h.elim)⟩
 .intro s' h;cases h;exact A
 .intro v;cases v
theorem tS{f:σ->Option (B2 σ ρ)}(I:σ->AB)(J:σ->AB)(R:ρ->AB->Prop)
  (h:∀s r,f s=Y r->(∀k,((I s).get k).WF)->c.wp S ⟨λe=>∃s',r=.next s'/\e.ei live=I s',λj e=>j=i0/\∃s',r=.brk s'/\e=J s',λe=>∃v,r=.ret v/\R v e⟩ (I s))
  (hX:∀e,((∀s,(e.get s).WF)->c.wp S {q with normal:=λw=>ζ (w.ei live)} e)->ζ e):
  ∀(n:Nat)(s:σ)(o:σ ⊕ ρ),SQ f n s=Y o->(∀s',o=.inl s'->q.exit i0 (J s'))->(∀v e,o=.inr v->R v e->q.ret e)->ζ (I s):=by
 intro n
 induction n with
 |zero=>intro s o ho;cases ho
 |succ n B=>
  intro s o ho p u;simp[SQ]at ho;refine hX _ λA=>?_;cases hf:f s with
  |none=>rw[hf]at ho;cases ho
  |some r=>
   rw [hf]at ho;refine PC.gt S c _ _ (h s r hf A) _ (λe he=>?_) (λj e he=>?_) (λe he=>?_)
   .obtain⟨s',rfl,he⟩:=he;show ζ (e.ei live);rw[he];exact B s' o ho p u
   .obtain⟨rfl,s',rfl,rfl⟩:=he;simp at ho;exact p s' ho.symm
   .obtain⟨v,rfl,he⟩:=he;simp at ho;exact u v e ho.symm he
theorem wo{f:σ->Option (B2 σ ρ)}(ho:FK f s0=Y o)(I:σ->AB)(J:σ->AB)(R:ρ->AB->Prop)(p:ε.ei live=I s0)
  (h:∀s r,f s=Y r->(∀k,((I s).get k).WF)->WP S c ⟨λe=>∃s',r=.next s'/\e.ei live=I s',λj e=>j=i0/\∃s',r=.brk s'/\e=J s',λe=>∃v,r=.ret v/\R v e⟩ (I s))
  (u:∀s',o=.inl s'->q.normal (J s'))(w:∀v e,o=.inr v->R v e->q.ret e):WP S (.block i0 (.loop live c)) q ε:=by
 obtain ⟨N,D⟩:=DX ho;refine Ya ⟨?_⟩;intro ζ hX;rw[p];refine tS (q:=⟨q.normal,λj e=>if j=i0 then q.normal e else q.exit j e,q.ret⟩) I J R (λs r A B=>(h s r A B).out) hX N s0 o (D N (R0 _)) ?_ w;intro s' C;exact bm (u s' C)
end loops
end
theorem dlt{a b:Int}(h:a<b):decide (a<b)=X:=decide_eq_true h
theorem AAb{a b:Int}(h:¬a<b):decide (a<b)=T:=decide_eq_false h
variable{t:TV}
theorem ap(h:EV.WF (.tv t)):t.WF:=h
theorem ze(h:EV.WF (.ow t)):t.WF:=h
variable{n:Nat}
theorem zf{es:Fq}(h:EV.WF (.xo n es)):TV.WF (.list n es):=h
theorem rD{row:Fq}(h:EV.WF (.tv (.pt row))):TV.ns row:=h
variable{ts:Fq}{i:Nat}
theorem iA(h:TV.ns ts)(hi:ts[i]?=Y t):t.WF:=by
 induction ts generalizing i with
 |nil=>simp at hi|cons x xs k=>
  cases i with
  |zero=>simp at hi;subst hi;exact h.1|succ i=>exact k h.2 h!
variable{α:Type}{e:α->TV}{l:List α}
theorem wn(h:TV.WF (.list n (l.map e))):(l.length:Int)<=9223372036854775807:=by
 have:=h.1
 grind [a6,KK]
theorem Vz{es:Fq}(h:TV.WF (.list n es))(he:es=l.map e):(l.length:Int)<=9223372036854775807:=by subst he;exact wn h
theorem tO{s:ByteArray}(h:TV.WF (.str s)):(s.size:Int)<=9223372036854775807:=by
 have:s.size<=KK:=h
 grind [KK]
theorem nB{n:Int}(h:TV.WF (.int .i64 n)):n<=9223372036854775807:=h.2
theorem dr(n:Int):AW n=if 9223372036854775808<=n % 18446744073709551616 then n % 18446744073709551616-18446744073709551616 else n % 18446744073709551616:=by
 have h:(2:Int)^ 64=18446744073709551616:=a_
 have k:(2:Int)^ (64-1)=9223372036854775808:=a_
 simp [AW,IntKind.wrap,IntKind.bits,IntKind.signed,Bool.true_and,pE,h,k,ge_iff_le]
theorem wj(n:Int):AW n<=9223372036854775807:=by grind[dr]
theorem Ao{n:Int}(h:-9223372036854775808<=n)(k:n<=9223372036854775807):AW n=n:=by grind[dr]
theorem zg{i b:Int}(hi:TV.WF (.int .i64 i))(h:i<b)(k:b<=9223372036854775807):IntKind.i64.wrap (i+1)=i+1:=by
 have p:(-9223372036854775808:Int)<=i:=hi.1
 grind [Ao]
end Go.Sf
