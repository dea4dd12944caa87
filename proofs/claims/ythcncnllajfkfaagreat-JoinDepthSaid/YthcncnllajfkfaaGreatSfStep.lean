/- Steps of the pure language with typed values: one rule an operation, one a piece of code, one a kind of loop. -/
import Derived.Test.YthcncnllajfkfaaGreatSfSem
set_option linter.all false
open Option renaming some->Y,none->W
open Bool renaming true->X,false->T
open List renaming replicate->w_,eq_nil_of_length_eq_zero->w!,cons_append->w?,set_append_right->x_,take_append_drop->x!,map_append->x?,getElem?_cons_succ->y_,map_cons->y!,flatMap_cons->y?,set_cons_succ->z_,getElem?_eq_some_iff->z!,mem_map->z?,map_replicate->A_
open Nat renaming ble->A',le_of_ble_eq_true->A!,beq->A?,blt->B_,add_mul->B',mul_le_mul_right->B!
namespace Go.Sf
abbrev AJ(n:Int):Int:=IntKind.i64.wrap n
def idx{α:Type}(l:List α)(j:Int):Option α:=if 0<=j then l[j.toNat]? else W
def slc{α:Type}(l:List α)(a b:Int):Option (List α):=if(0<=a/\a<=b)/\b<=l.length then Y ((l.take b.toNat).drop a.toNat)else W
def Aam(s:ByteArray)(a b:Int):Option ByteArray:=if 0<=a/\a<=b/\b<=s.size then Y (s.extract a.toNat b.toNat)else W
def AaB(s:ByteArray)(j:Int):a5:=if 0<=j then(s[j.toNat]?).map (λb=>(b.toNat:Int))else W
def AY{α:Type}(l m:List α):Option (List α):=if l.length+m.length<=AX then Y (l++m)else W
def quo(a b:Int):a5:=if b=0 then W else Y (a.tdiv b)
def DZ(a b:Int):a5:=if b=0 then W else Y (a.tmod b)
inductive B0(σ ρ:Type)where
 |next (s:σ)
 |brk (s:σ)
 |ret (r:ρ)
section loops
variable{σ ρ:Type}
def z1(f:Int->σ->Option (B0 σ ρ)):Nat->Int->σ->Option (σ ⊕ ρ)
 |0,_,s=>Y (.inl s)|n+1,i,s=>match f i s with
  |none=>W|some (.next s')=>z1 f n (i+1) s'|some (.brk s')=>Y (.inl s')|some (.ret r)=>Y (.inr r)
def jj(f:Int->σ->Option (B0 σ ρ))(a b:Int)(s:σ):Option (σ ⊕ ρ):=z1 f (b-a).toNat a s
def Aar(f:Int->σ->Option σ):Nat->Int->σ->Option σ
 |0,_,s=>Y s|n+1,i,s=>match f i s with
  |none=>W|some s'=>Aar f n (i+1) s'
def n8(f:Int->σ->Option σ)(a b:Int)(s:σ):Option σ:=Aar f (b-a).toNat a s
def TZ(f:σ->Option (B0 σ ρ)):Nat->σ->Option (σ ⊕ ρ)
 |0,_=>W|n+1,s=>match f s with
  |none=>W|some (.next s')=>TZ f n s'|some (.brk s')=>Y (.inl s')|some (.ret r)=>Y (.inr r)
end loops
class Ev where
 fuel:Option Nat
instance E6:Ev:=⟨W⟩
open Classical in
noncomputable def eY{α:Type}(g:Nat->Option α):Option α:=if h:∃v N,∀n,N<=n->g n=Y v then Y h.choose else W
noncomputable def KZ[e:Ev]{α:Type}(g:Nat->Option α):Option α:=match e.fuel with
 |none=>eY g|some n=>g n
variable{α:Type}
theorem Cy{g:Nat->Option α}{v:α}(h:KZ g=Y v):∃N,∀n,N<=n->g n=Y v:=by
 change eY g=Y v at h;unfold eY at h;split at h
 next k=>cases h;exact k.choose_spec
 .cases h
theorem D0{g:Nat->Option α}{v:α}(N:Nat)(h:∀n,N<=n->g n=Y v):KZ g=Y v:=by
 have k:∃v N,∀n,N<=n->g n=Y v:=⟨v,N,h⟩;show eY g=Y v;unfold eY;rw[dif_pos k];obtain⟨M,u⟩:=k.choose_spec;have p:=h (max N M) (Nat.le_max_left _ _)
 grind
noncomputable def C3[Ev]{σ ρ:Type}(f:σ->Option (B0 σ ρ))(s:σ):Option (σ ⊕ ρ):=KZ λn=>TZ f n s
def em{σ ρ β:Type}(o:Option (σ ⊕ ρ))(k:σ->Option β)(kr:ρ->Option β):Option β:=
 match o with
 |none=>W|some (.inl s)=>k s|some (.inr v)=>kr v
theorem Y5{σ ρ β:Type}{o:Option (σ ⊕ ρ)}{k:σ->Option β}{p:ρ->Option β}{b:β}(h:em o k p=Y b):∃x,o=Y x/\em (Y x) k p=Y b:=by
 cases o with
 |none=>cases h
 |some x=>exact⟨x,rfl,h⟩
theorem jx{σ ρ β:Type}{x:σ ⊕ ρ}{k:σ->Option β}{p:ρ->Option β}{b:β}{s:σ}(h:em (Y x) k p=Y b)(u:x=.inl s):k s=Y b:=by subst u;exact h
theorem jy{σ ρ β:Type}{x:σ ⊕ ρ}{k:σ->Option β}{p:ρ->Option β}{b:β}{v:ρ}(h:em (Y x) k p=Y b)(u:x=.inr v):p v=Y b:=by subst u;exact h
def BE{α:Type}(l:List α)(j:Int)(a:α):List α:=l.set j.toNat a
def He{α:Type}(j:Int)(a:α):Option (List α):=if 0<=j/\j<=4096 then Y (w_ j.toNat a)else W
def V5(a b:ByteArray):Option ByteArray:=if a.size+b.size<=AX then Y (a++b)else W
variable{β:Type}
theorem bind_some{x:Option α}{f:α->Option β}{b:β}(h:x.bind f=Y b):∃a,x=Y a/\f a=Y b:=Option.bind_eq_some_iff.1 h
theorem YW{c:Bool}{a b:α}{r:α}(k:c=X)(h:(if c=X then a else b)=r):a=r:=m?
theorem YV{c:Bool}{a b:α}{r:α}(k:c=T)(h:(if c=X then a else b)=r):b=r:=m?
structure WO(S:FuncId->Fq->A9->Prop)(K:AB->Prop)(os:List PR)(O:AB):Prop where
 of::out:wpOps S K os O
structure WP(S:FuncId->Fq->A9->Prop)(c:PC)(q:Q)(O:AB):Prop where
 of::out:c.wp S q O
section
variable{S:FuncId->Fq->A9->Prop}{K:AB->Prop}{os:List PR}{O:AB}{d:Nat}
variable{t:TV}
theorem aB{x:AH}(h:x.val O=Y t):x.ev O=.tv t\/x.ev O=.ow t:=by
 unfold AH.val EV.val at h;split at h<;>simp_all
def AE.Ab2:AE->Nat
 |.bin .i .quo _ _=>0|.bin .i .rem _ _=>0|.bin .s .add _ _=>0|.bin .w _ _ _=>0|.bin (.a _) _ _ _=>0|.bin ..=>1|o=>2110221010223200010221334134211003223343421200140120221211411133400441001102212411111 / 10^ o.ctorIdx % 10
theorem st(n:Nat){op:AE}{e:EV}{env':AB}(_:op.Ab2=n)(h:∀p,p e env'->op.wp S O (Y d) p)(k:WO S K os ((d,e)::env')):WO S K (⟨Y d,op,W⟩::os) O:=⟨h (λe O=>wpOps S K os (O.put (Y d) e)) k.out⟩
theorem sn{op:AE}{env':AB}(_:op.Ab2=2)(h:∀p,p EV.undef env'->op.wp S O W p)(k:WO S K os env'):WO S K (⟨W,op,W⟩::os) O:=⟨h (λ_ O=>wpOps S K os O) k.out⟩
variable{α:Type}{n:Nat}{e:α->TV}{l:List α}{j:Int}
theorem ABY{x i:AH}{es row:Fq}{ik:IntKind}{a:α}(h:idx l j=Y a)(p:x.val O=Y (.list n es))(hi:i.val O=Y (.int ik j))(he:es=l.map e)(hr:(e a).cells=row)
  (k:WO S K os ((d,.tv (.pt row))::O)):WO S K (⟨Y d,.iad x i n,W⟩::os) O:=by
 replace k:=k.out;refine⟨?_⟩;subst he hr;simp only[wpOps,PR.wp,AE.wp,p,hi];unfold idx at h;split at h
 next u=>exact⟨trivial,u,e a,by rw[List.getElem?_map,h];rfl,k⟩
 .cases h
theorem ACa{x:AH}{r:Fq}(h:BS O (x.ev O)=Y (t::r))(p:t.AaN=T)(k:WO S K os ((d,.tv t)::O)):WO S K (⟨Y d,.ld x,W⟩::os) O:=by
 replace k:=k.out;refine⟨?_⟩;simp[wpOps,PR.wp,AE.wp,h,Ay,Hy];exact⟨p,k⟩
def eO{α:Type}(n:Nat)(e:α->TV):Option (List α)->TV
 |none=>.nil|some l=>.list n (l.map e)
theorem ABZ{l:Option (List α)}{x:AH}{r:Fq}(h:BS O (x.ev O)=Y (eO n e l::r))(k:WO S K os ((d,.tv (eO n e l))::O)):WO S K (⟨Y d,.ld x,W⟩::os) O:=ACa h (by cases l<;>rfl) k
theorem tR{x:AH}{cs:Fq}(h:BS O (x.ev O)=Y cs)(p:A' n cs.length=X)(u:TV.agg (cs.take n)=t)(k:WO S K os ((d,.tv t)::O)):WO S K (⟨Y d,.lda x n,W⟩::os) O:=by
 replace k:=k.out;refine⟨?_⟩;subst u;simp[wpOps,PR.wp,AE.wp,h,Ay];exact⟨A! p,k⟩
variable{s:Nat}
theorem ABa{cs:List AR}(h:O.get s=.bx cs)(p:A' n (cs.map (·.t)).length=X)(u:TV.agg ((cs.map (·.t)).take n)=t)(k:WO S K os ((d,.tv t)::O)):WO S K (⟨Y d,.ldb s n,W⟩::os) O:=by
 replace k:=k.out;refine⟨?_⟩;subst u;simp only[wpOps,PR.wp,AE.wp,h];exact⟨A! p,k⟩
section bins
variable{x y:AH}{ik:IntKind}{a b:Int}
theorem Wf{h:BK}{op:BinOp}{u v t:TV}(p:x.val O=Y u)(w:y.val O=Y v)(A:NE h op u v=Y t)(k:WO S K os ((d,.tv t)::O)):WO S K (⟨Y d,.bin h op x y,W⟩::os) O:=by
 replace k:=k.out;refine⟨?_⟩;simp[wpOps,PR.wp,AE.wp,p,w,A,Ay];exact k
theorem ABj{q:Int}(h:quo a b=Y q)(p:x.val O=Y (.int ik a))(u:y.val O=Y (.int ik b))(k:WO S K os ((d,.tv (.int ik (ik.wrap q)))::O)):WO S K (⟨Y d,.bin .i .quo x y,W⟩::os) O:=by grind[Wf,quo,NE,intCmp,intArith,Option.some.inj]
theorem ABk{q:Int}(h:DZ a b=Y q)(p:x.val O=Y (.int ik a))(u:y.val O=Y (.int ik b))(k:WO S K os ((d,.tv (.int ik q))::O)):WO S K (⟨Y d,.bin .i .rem x y,W⟩::os) O:=by grind[Wf,DZ,NE,intCmp,intArith,Option.some.inj]
theorem ABV{op:BinOp}{h:IntKind}{r:Int}(hr:Gk ik op a b=Y r)(p:x.val O=Y (.int ik a))(u:y.val O=Y (.int h b))(A:ik=h\/op=.shl\/op=.shr)(k:WO S K os ((d,.tv (.int ik r))::O)):WO S K (⟨Y d,.bin .w op x y,W⟩::os) O:=by grind[Wf,NE]
theorem yV{u v t:ByteArray}(h:V5 u v=Y t)(p:x.val O=Y (.str u))(w:y.val O=Y (.str v))(k:WO S K os ((d,.tv (.str t))::O)):WO S K (⟨Y d,.bin .s .add x y,W⟩::os) O:=by grind[Wf,V5,NE,Option.some.inj]
theorem oi{n:QQ}{cs ds:Fq}{r:Bool}(p:x.val O=Y (.agg cs))(u:y.val O=Y (.agg ds))(w:cs.map TV.kd=n)(h:CJ cs ds=Y r)(k:WO S K os ((d,.tv (.bool r))::O)):WO S K (⟨Y d,.bin (.a n) .eql x y,W⟩::os) O:=by grind[Wf,NE]
theorem oj{n:QQ}{cs ds:Fq}{r:Bool}(p:x.val O=Y (.agg cs))(u:y.val O=Y (.agg ds))(w:cs.map TV.kd=n)(h:CJ cs ds=Y r)(k:WO S K os ((d,.tv (.bool (!r)))::O)):WO S K (⟨Y d,.bin (.a n) .neq x y,W⟩::os) O:=by grind[Wf,NE]
end bins
variable{t:TV}
theorem vX{c a b:AH}{q:Bool}(p:c.val O=Y (.bool q))(u:q=X)(h:a.val O=Y t)(k:WO S K os ((d,.tv t)::O)):WO S K (⟨Y d,.pick c a b,W⟩::os) O:=by
 replace k:=k.out;refine⟨?_⟩;subst u;simp[wpOps,PR.wp,AE.wp,p];rcases aB h with h|h<;>rw[h]<;>exact k
theorem vW{c a b:AH}{q:Bool}(p:c.val O=Y (.bool q))(u:q=T)(h:b.val O=Y t)(k:WO S K os ((d,.tv t)::O)):WO S K (⟨Y d,.pick c a b,W⟩::os) O:=by
 replace k:=k.out;refine⟨?_⟩;subst u;simp[wpOps,PR.wp,AE.wp,p];rcases aB h with h|h<;>rw[h]<;>exact k
variable{α:Type}{n:Nat}{e:α->TV}{l:List α}
theorem ABb{x:AH}{es:Fq}(h:x.val O=Y (.list n es))(he:es=l.map e)(k:WO S K os ((d,.tv (.int .i64 l.length))::O)):WO S K (⟨Y d,.len x,W⟩::os) O:=by
 replace k:=k.out;refine⟨?_⟩;subst he;simp[wpOps,PR.wp,AE.wp,h];exact k
variable{m:List α}
theorem gM{a b:Int}(h:slc l a b=Y m):((0<=a/\a<=b)/\b<=l.length)/\m=(l.take b.toNat).drop a.toNat:=by
 unfold slc at h
 grind
variable{ka kb:IntKind}
theorem ABl{x:AH}{lo hi:Option AH}{es:Fq}{a b:Int}(A:slc l a b=Y m)(h:x.val O=Y (.list n es))(he:es=l.map e)(p:H8 O 0 lo=Y (.int ka a))(u:H8 O l.length hi=Y (.int kb b))
  (k:WO S K os ((d,.tv (.list n (m.map e)))::O)):WO S K (⟨Y d,.slc n x lo hi,W⟩::os) O:=by
 replace k:=k.out;refine⟨?_⟩;subst he;obtain⟨⟨w,B⟩,C⟩:=gM A;subst C;simp only[wpOps,PR.wp,AE.wp,h,c9,p,u];refine⟨⟨trivial,w.1,w.2⟩,B,?_⟩;rw[List.map_drop,List.map_take]at k;exact k
theorem yX{x:AH}{lo hi:Option AH}{s t:ByteArray}{a b:Int}(p:Aam s a b=Y t)(h:x.val O=Y (.str s))(u:H8 O 0 lo=Y (.int ka a))(w:H8 O s.size hi=Y (.int kb b))
  (k:WO S K os ((d,.tv (.str t))::O)):WO S K (⟨Y d,.Aam x lo hi,W⟩::os) O:=by
 replace k:=k.out;refine⟨?_⟩;unfold Aam at p;split at p
 next A=>cases p;simp[wpOps,PR.wp,AE.wp,h,u,w];exact⟨A.1,A.2.1,A.2.2,k⟩
 .cases p
variable{zero:Fq}{parts:List (Nat×Nat×AH)}
theorem dA{ts:List (Nat×Nat×TV)}{cs:Fq}(h:Hg O parts=Y ts)(p:Fm zero ts=Y cs)(u:TV.agg cs=t)(k:WO S K os ((d,.tv t)::O)):WO S K (⟨Y d,.bld zero parts,W⟩::os) O:=by
 replace k:=k.out;refine⟨?_⟩;subst u;simp[wpOps,PR.wp,AE.wp,h,Ay,p];exact k
def Xn:Nat->List (Nat×Nat×TV)->Bool
 |_,[]=>X|k,(i,n,t)::r=>A? i k&&A? t.cells.length n&&Xn (k+n) r
def JX:List (Nat×Nat×TV)->Fq
 |[]=>[]|(_,_,t)::r=>t.cells++JX r
theorem Vv:∀(ds done k rest:Fq),k.length=ds.length->Qk (done++(k++rest)) done.length ds=done++(ds++rest)
 |[],done,k,rest,h=>by
  have:k=[]:=w! b?;subst this;rfl
 |d::ds,done,[],rest,h=>by simp at h|d::ds,done,m::k,rest,h=>by
  simp only[Qk];rw[w?,x_ _ _ (az _),Nat.sub_self,List.set_cons_zero];have:=Vv ds (done++[d]) k rest b?;simpa using this
theorem aH:∀(ts:List (Nat×Nat×TV))(done rest:Fq),Xn done.length ts=X->(JX ts).length=rest.length->Fm (done++rest) ts=Y (done++JX ts)
 |[],done,rest,_,h=>by
  have:rest=[]:=w! (by simpa[JX]using h.symm);subst this;rfl
 |(i,n,t)::r,done,rest,p,h=>by
  simp [Xn]at p;obtain⟨⟨rfl,k⟩,hr⟩:=p;simp[JX]at h;have u:n<=rest.length:=U
  simp only[Fm];rw[ac ⟨k,by rw[b6];omega⟩];have w:rest=rest.take n++rest.drop n:=(x! n rest).symm;rw[w,Vv t.cells done (rest.take n) (rest.drop n) h?,<-ci];rw[aH r (done++t.cells) (rest.drop n) (by rw[b6,k];exact hr) (by rw[List.length_drop];omega)];simp[JX]
theorem yR{ts:List (Nat×Nat×TV)}(h:Hg O parts=Y ts)(p:Xn 0 ts=X)(u:A? (JX ts).length zero.length=X)(w:TV.agg (JX ts)=t)(k:WO S K os ((d,.tv t)::O)):WO S K (⟨Y d,.bld zero parts,W⟩::os) O:=
 dA h (by have:=aH ts [] zero p (Nat.eq_of_beq_eq_true u);simpa using this) w k
variable{ts:Fq}
theorem tS{parts:List AH}(h:vals O parts=Y ts)(he:ts=l.map e)(p:∀a,(e a).cells.length=n)(k:WO S K os ((d,.ow (.list n (l.map e)))::O)):WO S K (⟨Y d,.lst n parts,W⟩::os) O:=by
 replace k:=k.out;refine⟨?_⟩;subst he;simp[wpOps,PR.wp,AE.wp,h,Ay];refine⟨λt u=>?_,k⟩
 grind
variable{s:Nat}{r:List α}
theorem tO{y:AH}{es p rs:Fq}(h:AY l m=Y r)(u:O.get s=.ow (.list n es))(w:y.val O=Y (.list n p))(he:es=l.map e)(hf:p=m.map e)(hr:rs=r.map e)
  (k:WO S K os ((d,.ow (.list n rs))::(s,.tv (.list n es))::O)):WO S K (⟨Y d,.app n (.s s) y,W⟩::os) O:=by
 replace k:=k.out;refine⟨?_⟩;subst hf hr;unfold AY at h;split at h
 next A=>cases h;simp only[wpOps,PR.wp,AE.wp,AH.ev,u,w,he,c9];rw[he]at k;refine⟨V,V,A,?_⟩;rw[x?]at k;exact k
 .cases h
variable{f:FuncId}
theorem yS{args:List AH}(ha:vals O args=Y ts)(h:S f ts (.sh t))(k:WO S K os ((d,.tv t)::O)):WO S K (⟨Y d,.call f args,W⟩::os) O:=by
 replace k:=k.out;refine⟨?_⟩;simp[wpOps,PR.wp,AE.wp,ha,Ay];exact⟨_,⟨h,rfl⟩,λ_=>k⟩
theorem yW{x i:AH}{s:ByteArray}{ik:IntKind}{j b:Int}(p:AaB s j=Y b)(h:x.val O=Y (.str s))(hi:i.val O=Y (.int ik j))(k:WO S K os ((d,.tv (.int .u8 b))::O)):WO S K (⟨Y d,.AaB x i,W⟩::os) O:=by
 replace k:=k.out;refine⟨?_⟩;unfold AaB at p;split at p
 next u=>rw[Option.map_eq_some_iff]at p;obtain⟨c,w,rfl⟩:=p;simp[wpOps,PR.wp,AE.wp,h,hi];exact⟨u,c,w,k⟩
 .cases p
theorem yU{mx:Bool}{x y:AH}{ik:IntKind}{a b:Int}(h:x.val O=Y (.int ik a))(p:y.val O=Y (.int ik b))(k:WO S K os ((d,.tv (.int ik (if mx then max a b else min a b)))::O)):WO S K (⟨Y d,.mm mx x y,W⟩::os) O:=by
 replace k:=k.out;refine⟨?_⟩;simp only[wpOps,PR.wp,AE.wp,h,p];exact⟨trivial,k⟩
theorem ABc{x y:AH}{ik:IntKind}{a b:Int}(h:x.val O=Y (.int ik a))(p:y.val O=Y (.int ik b))(k:WO S K os ((d,.tv (.int ik (max a b)))::O)):WO S K (⟨Y d,.mm X x y,W⟩::os) O:=yU h p k
theorem ABd{x y:AH}{ik:IntKind}{a b:Int}(h:x.val O=Y (.int ik a))(p:y.val O=Y (.int ik b))(k:WO S K os ((d,.tv (.int ik (min a b)))::O)):WO S K (⟨Y d,.mm T x y,W⟩::os) O:=yU h p k
variable{off:Nat}
theorem ACb{x v:AH}{cs cs':List AR}(h:x.place O=Y (s,off))(p:O.get s=.bx cs)(hv:v.ev O=.tv t)(u:t.cells.length=n)(hb:A' (off+n) cs.length=X)(w:cs.take off++t.cells.map (⟨T,·⟩)++cs.drop (off+n)=cs')
  (k:WO S K os ((s,.bx cs')::O)):WO S K (⟨W,.st n x v,W⟩::os) O:=by
 replace k:=k.out;refine⟨?_⟩;subst w;simp only[wpOps,PR.wp,AE.wp,h,p,hv];exact⟨u,A! hb,k⟩
theorem ABn{s off q:Nat}{x:AH}{cs cs':List AR}(h:x.place O=Y (s,off))(p:O.get s=.bx cs)(hv:O.get q=.ow t)(u:q≠s)(hb:B_ off cs.length=X)(w:cs.set off ⟨X,t⟩=cs')
  (k:WO S K os ((s,.bx cs')::(q,.tv t)::O)):WO S K (⟨W,.st 1 x (.s q),W⟩::os) O:=by
 replace k:=k.out;refine⟨?_⟩;subst w;simp only[wpOps,PR.wp,AE.wp,h,p,AH.ev,hv];exact⟨u,trivial,A! hb,k⟩
variable{v:AH}
theorem ABm{cs cs':List AR}(h:O.get s=.bx cs)(hv:v.ev O=.tv t)(p:t.cells.length=n)(hb:A' (0+n) cs.length=X)(u:cs.take 0++t.cells.map (⟨T,·⟩)++cs.drop (0+n)=cs')
  (k:WO S K os ((s,.bx cs')::O)):WO S K (⟨W,.stb n s v,W⟩::os) O:=by
 replace k:=k.out;refine⟨?_⟩;subst u;simp only[wpOps,PR.wp,AE.wp,h,hv];exact⟨p,A! hb,k⟩
theorem ABX{cs:List AR}{row:Fq}(h:O.get s=.bx cs)(hr:cs.map (·.t)=row)(k:WO S K os ((s,.tv (.pt row))::O)):WO S K (⟨W,.frz s,W⟩::os) O:=by
 replace k:=k.out;refine⟨?_⟩;subst hr;simp[wpOps,PR.wp,AE.wp,h];exact k
theorem vV{args:List AH}{cs:List AR}(ha:vals O args=Y ts)(h:S f ts (.oag cs))(p:TV.agg (cs.map λc=>c.rel.t)=t)(k:WO S K os ((d,.tv t)::O)):WO S K (⟨Y d,.call f args,W⟩::os) O:=by
 replace k:=k.out;refine⟨?_⟩;subst p;simp[wpOps,PR.wp,AE.wp,ha,Ay];exact⟨_,⟨h,rfl⟩,λ_=>k⟩
theorem tQ{x:AH}{es:Fq}(h:x.val O=Y (.list n es))(he:es=l.map e)(k:∀b:Bool,(b=X->l=[])->WO S K os ((d,.tv (.bool b))::O)):WO S K (⟨Y d,.isn x,W⟩::os) O:=by
 replace k:=λb hb=>(k b hb).out;refine⟨?_⟩;simp only[wpOps,PR.wp,AE.wp,h];intro b hb;refine k b λp=>?_;have:=hb p;rw[he]at this;simpa using this
theorem yT{x:AH}(h:x.val O=Y .nil)(k:WO S K os ((d,.tv (.bool X))::O)):WO S K (⟨Y d,.isn x,W⟩::os) O:=by
 replace k:=k.out;refine⟨?_⟩;simp[wpOps,PR.wp,AE.wp,h];exact k
theorem t8(h:AY [] l=Y r)(b:Bool)(hb:b=X->l=[]):(if b=X then Y []else(AY [] l).bind λx=>Y x)=Y r:=by grind[AY]
variable{j:Int}
theorem Hw{a:α}(h:idx l j=Y a):0<=j/\j<l.length/\l[j.toNat]?=Y a:=by
 unfold idx at h
 grind
theorem i7(p:∀a,(e a).cells.length=n):∀(l:List α)(j k:Nat)(a:α),l[j]?=Y a->k<n->((l.map e).flatMap TV.cells)[j*n+k]?=(e a).cells[k]?
 |[],j,k,a,h,_=>by simp at h|b::l,0,k,a,h,u=>by
  grind
 |b::l,j+1,k,a,h,u=>by
  rw [y_]at h;rw[y!,y?,List.getElem?_append_right (by rw[p,B'];omega),p,show(j+1)*n+k-n=j*n+k from j!];exact i7 p l j k a h u
theorem eC(p:∀a,(e a).cells.length=n)(t:TV):∀(l:List α)(j k:Nat)(a b:α),l[j]?=Y a->k<n->(e b).cells=(e a).cells.set k t->((l.set j b).map e).flatMap TV.cells=((l.map e).flatMap TV.cells).set (j*n+k) t
 |[],j,k,a,b,h,_,_=>by simp at h|c::l,0,k,a,b,h,u,hb=>by
  grind
 |c::l,j+1,k,a,b,h,u,hb=>by
  rw [y_]at h;rw[z_,y!,y!,y?,y?,x_ _ _ (by rw[p,B'];omega),p,show(j+1)*n+k-n=j*n+k from j!,eC p t l j k a b h u hb]
theorem qJ(h:∀a,(e a).cells.length=n)(l:List α):((l.map e).flatMap TV.cells).length=l.length*n:=by
 induction l with
 |nil=>simp|cons b l k=>rw[y!,y?,b6,k,h,cE,B'];omega
theorem VW(h:∀a,(e a).flat=X):∀(l:List α),TV.Aab (l.map e)=X
 |[]=>rfl|a::l=>by simp[TV.Aab,h a,VW h l]
theorem yY{x:AH}{q:Nat×Option Nat}{es:Fq}(h:x.z5 O=Y (q,n,es))(he:es=l.map e)(k:WO S K os ((d,.tv (.int .i64 l.length))::O)):WO S K (⟨Y d,.Abx x,W⟩::os) O:=by
 replace k:=k.out;refine⟨?_⟩;subst he;simp[wpOps,PR.wp,AE.wp,h,Ay];exact k
variable{qi:Option Nat}
theorem ABo{x i:AH}{q n:Nat}{es:Fq}{ik:IntKind}{a:α}(ha:idx l j=Y a)(h:x.z5 O=Y ((q,qi),n,es))(hi:i.val O=Y (.int ik j))(he:es=l.map e)(hr:(x.ev O).ref=Y q)
  (k:WO S K os ((d,.lp q qi (j.toNat*n))::O)):WO S K (⟨Y d,.xia x i n,W⟩::os) O:=by
 replace k:=k.out;refine⟨?_⟩;subst he;obtain⟨p,u,_⟩:=Hw ha;simp only[wpOps,PR.wp,AE.wp,h,hi,Ay,c9];exact⟨⟨hr,trivial⟩,p,u,k⟩
theorem tT{x:AH}{q c n i:Nat}{es row:Fq}{a:α}(h:x.ev O=.lp q qi c)(p:O.wi q qi=Y (n,es))(he:es=l.map e)(u:∀a,(e a).cells.length=n)(ha:idx l j=Y a)(w:c=j.toNat*n+i)(hi:B_ i n=X)(hr:(e a).cells=row)(A:row[i]?=Y t)
  (k:WO S K os ((d,.tv t)::O)):WO S K (⟨Y d,.xld x,W⟩::os) O:=by
 replace k:=k.out;refine⟨?_⟩;subst he w hr;have hf:=i7 u l j.toNat i a (Hw ha).2.2 (A! hi);simp[wpOps,PR.wp,AE.wp,h,p,hf,A,Ay];exact k
theorem tU{x v:AH}{q c n i:Nat}{env':AB}{es rs:Fq}{a b:α}(h:x.ev O=.lp q qi c)(F:O.wi q qi=Y (n,es))(hv:v.ev O=.tv t)(he:es=l.map e)(w:∀a,(e a).cells.length=n)(ha:idx l j=Y a)(G:c=j.toNat*n+i)(hi:B_ i n=X)(D:t.cells=[t])
  (hb:(e b).cells=(e a).cells.set i t)(hr:rs=(BE l j b).map e)(A:O.Aah q qi n rs=env')(k:WO S K os env'):WO S K (⟨W,.xst x v 1,W⟩::os) O:=by
 replace k:=k.out;refine⟨?_⟩;subst he G hr A;obtain⟨J,L,E⟩:=Hw ha;have B:i<n:=A! hi;have p:j.toNat<l.length:=(z!.1 E).1;simp only[wpOps,PR.wp,AE.wp,h,F,hv];have C:j.toNat*n+i<l.length*n:=calc j.toNat*n+i<j.toNat*n+n:=U
   _=(j.toNat+1)*n:=j!
   _<=l.length*n:=B! _ p
 refine ⟨⟨by rw[D];rfl,U⟩,?_,_,(eC w t l j.toNat i a b E B hb).trans (by rw[D,List.set_eq_take_append_cons_drop,ac (by rw[qJ w];exact C)];simp),V,λu H=>?_,k⟩
 .rw[c9]
  calc j.toNat*n+i<j.toNat*n+n:=U
   _=(j.toNat+1)*n:=j!
   _<=l.length*n:=B! _ p
 .obtain⟨I,_,rfl⟩:=z?.1 H;exact w I
theorem eA(k:∀a,(e a).cells.length=n):∀(l:List α)(j:Nat)(b:α),j<l.length->((l.set j b).map e).flatMap TV.cells=((l.map e).flatMap TV.cells).take (j*n)++(e b).cells++((l.map e).flatMap TV.cells).drop (j*n+n)
 |[],j,b,h=>by simp at h|c::l,0,b,h=>by
  grind
 |c::l,j+1,b,h=>by
  rw [z_,y!,y!,y?,y?,eA k l j b b?,show(j+1)*n=(e c).cells.length+j*n from by rw[k,B'];omega,Nat.add_assoc,List.take_length_add_append,List.drop_length_add_append,ci,ci,ci]
theorem tV{x v:AH}{q n:Nat}{env':AB}{es:Fq}{a b:α}(h:x.ev O=.lp q qi (j.toNat*n))(D:O.wi q qi=Y (n,es))(hv:v.ev O=.tv (e b))(he:es=l.map e)(w:∀a,(e a).cells.length=n)(ha:idx l j=Y a)(E:B_ 0 n=X)
  (A:O.Aah q qi n ((BE l j b).map e)=env')(k:WO S K os env'):WO S K (⟨W,.xst x v n,W⟩::os) O:=by
 replace k:=k.out;refine⟨?_⟩;subst he A;obtain⟨I,J,G⟩:=Hw ha;have B:0<n:=A! E;have p:j.toNat<l.length:=(z!.1 G).1;have C:j.toNat*n+n<=l.length*n:=calc j.toNat*n+n=(j.toNat+1)*n:=j!
   _<=l.length*n:=B! _ p
 simp only[wpOps,PR.wp,AE.wp,h,D,hv];refine⟨⟨w b,B⟩,by rw[c9];exact C,_,eA w l j.toNat b p,V,λu F=>?_,k⟩;obtain⟨H,_,rfl⟩:=z?.1 F;exact w H
theorem yP{y:AH}{es p rs:Fq}(h:AY l m=Y r)(u:O.get s=.xo n es)(w:y.val O=Y (.list n p))(he:es=l.map e)(hf:p=m.map e)(hr:rs=r.map e)(A:O.ij d=X)(hd:d≠s)
  (k:WO S K os ((d,.xo n rs)::(s,.undef)::O)):WO S K (⟨Y d,.Aba n s y,W⟩::os) O:=by
 replace k:=k.out;refine⟨?_⟩;subst he hf hr;unfold AY at h;split at h
 next B=>cases h;simp only[wpOps,PR.wp,AE.wp,u,w,c9];rw[x?]at k;exact⟨trivial,trivial,B,A,hd,k⟩
 .cases h
theorem rb{args:List AH}{ts es:Fq}(h:O.ij d=X)(ha:vals O args=Y ts)(p:S f ts (.own (.list n es)))(he:es=l.map e)(hf:∀a,(e a).flat=X)(k:WO S K os ((d,.xo n es)::O)):WO S K (⟨Y d,.AaL f args,W⟩::os) O:=by
 replace k:=k.out;refine⟨?_⟩;simp[wpOps,PR.wp,AE.wp,ha,Ay];exact⟨h,n,es,.inr ⟨p,by rw[he];exact VW hf l⟩,λ_=>k⟩
variable{rs:Fq}{z:α}
theorem ABf{x:AH}{ik:IntKind}(h:He j z=Y r)(u:O.ij d=X)(w:x.val O=Y (.int ik j))(A:(match zero with|[t]=>t|ts=>.agg ts)=e z)(hr:rs=r.map e)
  (k:WO S K os ((d,.xo n rs)::O)):WO S K (⟨Y d,.mkx n zero x,W⟩::os) O:=by
 replace k:=k.out;refine⟨?_⟩;subst hr;unfold He at h;split at h
 next p=>cases h;rw[A_,<-A]at k;simp[wpOps,PR.wp,AE.wp,w];exact⟨u,p.1,p.2,k⟩
 .cases h
theorem ABW{hi:AH}{es rs:Fq}{ik:IntKind}(h:slc l 0 j=Y r)(u:O.get s=.xo n es)(w:hi.val O=Y (.int ik j))(he:es=l.map e)(hr:rs=r.map e)(A:O.ij d=X)(hd:d≠s)(k:WO S K os ((d,.xo n rs)::(s,.undef)::O)):WO S K (⟨Y d,.cut n s hi,W⟩::os) O:=by
 replace k:=k.out;refine⟨?_⟩;subst he hr;obtain⟨⟨B,C⟩,p⟩:=gM h;subst p;simp only[wpOps,PR.wp,AE.wp,u,w];refine⟨⟨trivial,A,hd⟩,B.2,by rw[c9];exact C,?_⟩;have p:((l.take j.toNat).drop (0:Int).toNat).map e=(l.map e).take j.toNat:=V
 rw [p]at k;exact k
theorem rY{args:List AH}{ts es:Fq}(ha:Aax O args=Y ts)(h:S f ts (.own t))(p:t=.list n es)(he:es=l.map e)(hf:∀a,(e a).flat=X)(k:WO S K os ((d,.ow t)::O)):WO S K (⟨Y d,.AaQ f args,W⟩::os) O:=by
 replace k:=k.out;refine⟨?_⟩;subst p he;simp[wpOps,PR.wp,AE.wp,ha,Ay];exact⟨_,⟨h,VW hf l⟩,λ_=>k⟩
def dV{α:Type}(l:List α)(j:Int)(z:α):Option (List α):=if(0<=j/\j<=4096)/\l.length+j.toNat<=AX then Y (l++w_ j.toNat z)else W
theorem yQ{p:TV}{x:AH}{es rs:Fq}{ik:IntKind}(h:dV l j z=Y r)(w:O.get s=.xo n es)(A:x.val O=Y (.int ik j))(he:es=l.map e)(B:p=e z)(hr:rs=r.map e)(C:O.ij d=X)(hd:d≠s)(u:n=1)(D:p.cells=[p])(k:WO S K os ((d,.xo n rs)::(s,.undef)::O)):WO S K (⟨Y d,.Abo n s p x,W⟩::os) O:=by
 replace k:=k.out;refine⟨?_⟩;subst he hr;unfold dV at h;split at h
 next hb=>cases h;simp only[wpOps,PR.wp,AE.wp,w,A];refine⟨⟨⟨trivial,u⟩,D⟩,hb.1,⟨by rw[c9];exact hb.2,C,hd⟩,?_⟩;rw[x?,A_,<-B]at k;exact k
 .cases h
variable{i:Nat}
theorem vU{args:List AH}{ts h:Fq}{cs cs':List AR}{e:EV}(p:(args[i]?).bind (·.place O)=Y (s,0))(u:O.get s=.bx cs)(w:O.noX s W=X)(hd:d≠s)(ha:JQ O i args=Y ts)(A:S f ts (.bo cs cs' i h))(he:EV.ofs h=e)(k:WO S K os ((d,e)::(s,.bx cs')::O)):WO S K (⟨Y d,.AaA f args i,W⟩::os) O:=by
 replace k:=k.out;refine⟨?_⟩;subst he;simp only[wpOps,PR.wp,AE.wp,p,u,ha,Ay];exact⟨⟨w,hd⟩,cs',h,A,λ_=>k⟩
def XZ{α:Type}(l:List α):Option Unit:=if l.isEmpty then W else Y ()
theorem nN{u:Unit}{b:Bool}(h:XZ l=Y u)(hb:b=X->l=[]):b=T:=by
 cases b with
 |false=>rfl|true=>rw[hb rfl]at h;cases h
variable{g:Nat}
theorem ACN{h:Option Nat}{op:AE}{b q:Bool}(p:O.get g=.tv (.bool q))(u:q=b)(k:WO S K (⟨h,op,W⟩::os) O):WO S K (⟨h,op,Y (g,b)⟩::os) O:=by
 replace k:=k.out;refine⟨?_⟩
 grind [wpOps,PR.wp]
theorem AAo{d:Nat}{op:AE}{b q:Bool}(p:O.get g=.tv (.bool q))(u:q=!b)(k:WO S K os ((d,.sk)::O)):WO S K (⟨Y d,op,Y (g,b)⟩::os) O:=by
 replace k:=k.out;refine⟨?_⟩;subst u;simp only[wpOps,PR.wp,p];exact⟨λh=>by cases b<;>simp at h,λ_=>k⟩
theorem ACO{d:Nat}{op:AE}{b:Bool}(h:O.get g=.sk)(k:WO S K os ((d,.sk)::O)):WO S K (⟨Y d,op,Y (g,b)⟩::os) O:=by
 replace k:=k.out;refine⟨?_⟩;simp[wpOps,PR.wp,h];exact k
theorem gj(xs ys:List PR)(O:AB):wpOps S K (xs++ys) O=wpOps S (wpOps S K ys) xs O:=by
 induction xs generalizing O with
 |nil=>rfl|cons x xs h=>
  simp only[w?,wpOps];congr 1;funext e;exact h e
theorem AAn{ops:List PR}(n:Nat)(M:AB->AB->Prop)(h:WO S (M O) (ops.take n) O)(k:∀e,M O e->WO S K (ops.drop n) e):WO S K ops O:=by
 refine ⟨?_⟩;rw[<-x! n ops,gj];exact R2 S (λe he=>(k e he).out) _ O h.out
variable{q:Q}{a b:PC}
theorem AAX(h:WP S a ⟨λe=>(∀s,(e.get s).WF)->WP S b q e,q.exit,q.ret⟩ O):WP S (.seq a b) q O:=⟨PC.o4 S a _ O h.out _ (λ_ he k=>(he k).out) (λ_ _ h=>h) (λ_ h=>h)⟩
theorem wq{live:QQ}{env':AB}(k:O.fl live=env')(h:q.normal env'):WP S (.skip live) q O:=by subst k;exact⟨h⟩
theorem wo{live:QQ}{env':AB}(k:O.fl live=env')(h:q.exit i env'):WP S (.exit i live) q O:=by subst k;exact⟨h⟩
theorem YB{x:AH}{c:Bool}(k:x.val O=Y (.bool c))(p:c=X->WP S a q O)(hf:c=T->WP S b q O):WP S (.cond x a b) q O:=by
 refine ⟨?_⟩;simp[PC.wp,k];exact⟨λh=>(p h).out,λh=>(hf h).out⟩
theorem Tf{x:AH}{c:Bool}(k:x.val O=Y (.bool c))(h:c=X)(p:WP S a q O):WP S (.cond x a b) q O:=by grind[YB]
theorem Te{x:AH}{c:Bool}(k:x.val O=Y (.bool c))(h:c=T)(p:WP S b q O):WP S (.cond x a b) q O:=by grind[YB]
theorem ZH(h:WP S a ⟨q.normal,λj e=>if j=i then q.normal e else q.exit j e,q.ret⟩ O):WP S (.block i a) q O:=⟨h.out⟩
theorem dn{x y:Prop}(h:x):if i=i then x else y:=by rw[ac rfl];exact h
theorem uE{i j:Nat}{x y:Prop}(k:i≠j)(h:y):if i=j then x else y:=by rw[ae k];exact h
theorem AAW(M:AB->Prop)(k:WP S a ⟨M,q.exit,q.ret⟩ O)(p:∀e,M e->q.normal e):WP S a q O:=⟨PC.o4 S a _ O k.out q p (λ_ _ h=>h) (λ_ h=>h)⟩
section loops
variable{σ ρ:Type}{live:QQ}{c:PC}{i0:Nat}
variable{ζ:AB->Prop}
theorem se{f:Int->σ->Option (B0 σ ρ)}{b:Int}(I:Int->σ->AB)(J:σ->AB)(R:ρ->AB->Prop)
  (p:∀i s r,i<b->f i s=Y r->(∀k,((I i s).get k).WF)->c.wp S ⟨λe=>∃s',r=.next s'/\e.fl live=I (i+1) s',λj e=>j=i0/\∃s',r=.brk s'/\e=J s',λe=>∃v,r=.ret v/\R v e⟩ (I i s))
  (u:∀i s,¬i<b->c.wp S ⟨λ_=>False,λj e=>j=i0/\e=J s,λ_=>False⟩ (I i s))
  (hX:∀e,((∀s,(e.get s).WF)->c.wp S {q with normal:=λB=>ζ (B.fl live)} e)->ζ e)(E:∀s,q.exit i0 (J s)\/True):
  ∀(n:Nat)(i:Int)(s:σ),n=(b-i).toNat->∀o,z1 f n i s=Y o->(∀s',o=.inl s'->q.exit i0 (J s'))->(∀v e,o=.inr v->R v e->q.ret e)->ζ (I i s):=by
 intro n
 induction n with
 |zero=>
  intro i s C o ho w hr;refine hX _ λA=>?_;refine PC.o4 S c _ _ (u i s U) _ (λ_ h=>h.elim) (λj e he=>?_) (λ_ h=>h.elim);obtain⟨rfl,rfl⟩:=he;simp[z1]at ho;exact w s ho.symm
 |succ n D=>
  intro i s C o ho w hr;simp[z1]at ho;refine hX _ λA=>?_;cases hf:f i s with
  |none=>rw[hf]at ho;cases ho
  |some r=>
   rw [hf]at ho;refine PC.o4 S c _ _ (p i s r U hf A) _ (λe he=>?_) (λj e he=>?_) (λe he=>?_)
   .obtain⟨s',rfl,he⟩:=he;show ζ (e.fl live);rw[he];exact D (i+1) s' U o ho w hr
   .obtain⟨rfl,s',rfl,rfl⟩:=he;simp at ho;exact w s' ho.symm
   .obtain⟨v,rfl,he⟩:=he;simp at ho;exact hr v e ho.symm he
variable{s0:σ}{o:σ ⊕ ρ}
theorem kB{f:Int->σ->Option (B0 σ ρ)}{lo b:Int}(ho:jj f lo b s0=Y o)(I:Int->σ->AB)(J:σ->AB)(R:ρ->AB->Prop)(w:O.fl live=I lo s0)
  (p:∀i s r,i<b->f i s=Y r->(∀k,((I i s).get k).WF)->WP S c ⟨λe=>∃s',r=.next s'/\e.fl live=I (i+1) s',λj e=>j=i0/\∃s',r=.brk s'/\e=J s',λe=>∃v,r=.ret v/\R v e⟩ (I i s))
  (u:∀i s,¬i<b->WP S c ⟨λ_=>False,λj e=>j=i0/\e=J s,λ_=>False⟩ (I i s))
  (A:∀s',o=.inl s'->q.normal (J s'))(hr:∀v e,o=.inr v->R v e->q.ret e):WP S (.block i0 (.loop live c)) q O:=by
 refine ZH ⟨?_⟩;intro ζ hX;rw[w];refine se (q:=⟨q.normal,λj e=>if j=i0 then q.normal e else q.exit j e,q.ret⟩) I J R (λi s r B C D=>(p i s r B C D).out) (λi s h=>(u i s h).out) hX (λ_=>.inr trivial) _ lo s0 rfl o ho ?_ hr;intro s' E;exact dn (A s' E)
theorem jA{f:Int->σ->Option σ}:∀(n:Nat)(i:Int)(s o:σ),Aar f n i s=Y o->z1 (λi s=>(f i s).map (B0.next (ρ:=Empty))) n i s=Y (.inl o)
 |0,_,_,_,h=>by simp[Aar]at h;subst h;rfl|n+1,i,s,o,h=>by
  simp [Aar]at h;simp[z1];cases hf:f i s with
  |none=>rw[hf]at h;cases h
  |some s'=>rw[hf]at h;simp;exact jA n (i+1) s' o h
theorem vp{f:Int->σ->Option σ}{lo b:Int}{s0 o:σ}(ho:n8 f lo b s0=Y o)(I:Int->σ->AB)(J:σ->AB)(w:O.fl live=I lo s0)
  (p:∀i s r,i<b->f i s=Y r->(∀k,((I i s).get k).WF)->WP S c ⟨λe=>e.fl live=I (i+1) r,λ_ _=>False,λ_=>False⟩ (I i s))
  (u:∀i s,¬i<b->WP S c ⟨λ_=>False,λj e=>j=i0/\e=J s,λ_=>False⟩ (I i s))
  (A:q.normal (J o)):WP S (.block i0 (.loop live c)) q O:=by
 refine kB (f:=λi s=>(f i s).map (B0.next (ρ:=Empty))) (o:=.inl o) (jA _ _ _ _ ho) I J (λ_ _=>False) w ?_ u ?_ ?_
 .intro i s r hi hf B;simp at hf;obtain⟨s',hf,rfl⟩:=hf;exact⟨PC.o4 S c _ _ (p i s s' hi hf B).out _ (λe he=>⟨s',rfl,he⟩) (λ_ _ h=>h.elim) (λ_ h=>h.elim)⟩
 .intro s' h;cases h;exact A
 .intro v;cases v
theorem vr{f:σ->Option (B0 σ ρ)}(I:σ->AB)(J:σ->AB)(R:ρ->AB->Prop)
  (h:∀s r,f s=Y r->(∀k,((I s).get k).WF)->c.wp S ⟨λe=>∃s',r=.next s'/\e.fl live=I s',λj e=>j=i0/\∃s',r=.brk s'/\e=J s',λe=>∃v,r=.ret v/\R v e⟩ (I s))
  (hX:∀e,((∀s,(e.get s).WF)->c.wp S {q with normal:=λu=>ζ (u.fl live)} e)->ζ e):
  ∀(n:Nat)(s:σ)(o:σ ⊕ ρ),TZ f n s=Y o->(∀s',o=.inl s'->q.exit i0 (J s'))->(∀v e,o=.inr v->R v e->q.ret e)->ζ (I s):=by
 intro n
 induction n with
 |zero=>intro s o ho;cases ho
 |succ n A=>
  intro s o ho p hr;simp[TZ]at ho;refine hX _ λw=>?_;cases hf:f s with
  |none=>rw[hf]at ho;cases ho
  |some r=>
   rw [hf]at ho;refine PC.o4 S c _ _ (h s r hf w) _ (λe he=>?_) (λj e he=>?_) (λe he=>?_)
   .obtain⟨s',rfl,he⟩:=he;show ζ (e.fl live);rw[he];exact A s' o ho p hr
   .obtain⟨rfl,s',rfl,rfl⟩:=he;simp at ho;exact p s' ho.symm
   .obtain⟨v,rfl,he⟩:=he;simp at ho;exact hr v e ho.symm he
theorem y6{f:σ->Option (B0 σ ρ)}(ho:C3 f s0=Y o)(I:σ->AB)(J:σ->AB)(R:ρ->AB->Prop)(p:O.fl live=I s0)
  (h:∀s r,f s=Y r->(∀k,((I s).get k).WF)->WP S c ⟨λe=>∃s',r=.next s'/\e.fl live=I s',λj e=>j=i0/\∃s',r=.brk s'/\e=J s',λe=>∃v,r=.ret v/\R v e⟩ (I s))
  (u:∀s',o=.inl s'->q.normal (J s'))(hr:∀v e,o=.inr v->R v e->q.ret e):WP S (.block i0 (.loop live c)) q O:=by
 obtain ⟨N,C⟩:=Cy ho;refine ZH ⟨?_⟩;intro ζ hX;rw[p];refine vr (q:=⟨q.normal,λj e=>if j=i0 then q.normal e else q.exit j e,q.ret⟩) I J R (λs r w A=>(h s r w A).out) hX N s0 o (C N (az _)) ?_ hr;intro s' B;exact dn (u s' B)
end loops
end
theorem dlt{a b:Int}(h:a<b):decide (a<b)=X:=decide_eq_true h
theorem ACM{a b:Int}(h:¬a<b):decide (a<b)=T:=decide_eq_false h
variable{t:TV}
theorem dE(h:EV.WF (.tv t)):t.WF:=h
theorem ABp(h:EV.WF (.ow t)):t.WF:=h
variable{n:Nat}
theorem ABq{es:Fq}(h:EV.WF (.xo n es)):TV.WF (.list n es):=h
theorem tW{row:Fq}(h:EV.WF (.tv (.pt row))):TV.tc row:=h
variable{ts:Fq}{i:Nat}
theorem j8(h:TV.tc ts)(hi:ts[i]?=Y t):t.WF:=by
 induction ts generalizing i with
 |nil=>simp at hi|cons x xs k=>
  cases i with
  |zero=>simp at hi;subst hi;exact h.1|succ i=>exact k h.2 n_
variable{α:Type}{e:α->TV}{l:List α}
theorem yz(h:TV.WF (.list n (l.map e))):(l.length:Int)<=9223372036854775807:=by
 have:=h.1
 grind [c9,LH]
theorem Wh{es:Fq}(h:TV.WF (.list n es))(he:es=l.map e):(l.length:Int)<=9223372036854775807:=by subst he;exact yz h
theorem vn{s:ByteArray}(h:TV.WF (.str s)):(s.size:Int)<=9223372036854775807:=by
 have:s.size<=LH:=h
 grind [LH]
theorem pP{n:Int}(h:TV.WF (.int .i64 n)):n<=9223372036854775807:=h.2
theorem gX(n:Int):AJ n=if 9223372036854775808<=n % 18446744073709551616 then n % 18446744073709551616-18446744073709551616 else n % 18446744073709551616:=by
 have h:(2:Int)^ 64=18446744073709551616:=a!
 have k:(2:Int)^ (64-1)=9223372036854775808:=a!
 simp [AJ,IntKind.wrap,IntKind.bits,IntKind.signed,Bool.true_and,tn,h,k,ge_iff_le]
theorem yx(n:Int):AJ n<=9223372036854775807:=by grind[gX]
theorem AT{n:Int}(h:-9223372036854775808<=n)(k:n<=9223372036854775807):AJ n=n:=by grind[gX]
theorem ABr{i b:Int}(hi:TV.WF (.int .i64 i))(h:i<b)(hb:b<=9223372036854775807):IntKind.i64.wrap (i+1)=i+1:=by
 have k:(-9223372036854775808:Int)<=i:=hi.1
 grind [AT]
end Go.Sf
