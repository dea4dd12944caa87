/- Steps of the pure language with typed values: one rule an operation, one a piece of code, one a kind of loop. -/
import Derived.Test.YtbmgmpeimdomoaaGreatSfSem
set_option linter.all false
open Option renaming some->Y,none->W
open Bool renaming true->X,false->T
open List renaming replicate->w_,eq_nil_of_length_eq_zero->w!,cons_append->w?,set_append_right->x_,take_append_drop->x!,map_append->x?,getElem?_cons_succ->y_,map_cons->y!,flatMap_cons->y?,set_cons_succ->z_,getElem?_eq_some_iff->z!,mem_map->z?,map_replicate->A_
open Nat renaming ble->A',le_of_ble_eq_true->A!,beq->A?,blt->B_,add_mul->B',mul_le_mul_right->B!
namespace Go.Sf
abbrev AZ(n:Int):Int:=IntKind.i64.wrap n
def idx{α:Type}(l:List α)(j:Int):Option α:=if 0<=j then l[j.toNat]? else W
def slc{α:Type}(l:List α)(a b:Int):Option (List α):=if(0<=a/\a<=b)/\b<=l.length then Y ((l.take b.toNat).drop a.toNat)else W
def Aaw(s:ByteArray)(a b:Int):Option ByteArray:=if 0<=a/\a<=b/\b<=s.size then Y (s.extract a.toNat b.toNat)else W
def Aau(s:ByteArray)(j:Int):K1:=if 0<=j then(s[j.toNat]?).map (λb=>(b.toNat:Int))else W
def Al{α:Type}(l m:List α):Option (List α):=if l.length+m.length<=AW then Y (l++m)else W
def quo(a b:Int):K1:=if b=0 then W else Y (a.tdiv b)
def KS(a b:Int):K1:=if b=0 then W else Y (a.tmod b)
inductive B3(σ ρ:Type)where
 |next (s:σ)
 |brk (s:σ)
 |ret (r:ρ)
section loops
variable{σ ρ:Type}
def sr(f:Int->σ->Option (B3 σ ρ)):Nat->Int->σ->Option (σ ⊕ ρ)
 |0,_,s=>Y (.inl s)|n+1,i,s=>match f i s with
  |none=>W|some (.next s')=>sr f n (i+1) s'|some (.brk s')=>Y (.inl s')|some (.ret r)=>Y (.inr r)
def eE(f:Int->σ->Option (B3 σ ρ))(a b:Int)(s:σ):Option (σ ⊕ ρ):=sr f (b-a).toNat a s
def Aaf(f:Int->σ->Option σ):Nat->Int->σ->Option σ
 |0,_,s=>Y s|n+1,i,s=>match f i s with
  |none=>W|some s'=>Aaf f n (i+1) s'
def gp(f:Int->σ->Option σ)(a b:Int)(s:σ):Option σ:=Aaf f (b-a).toNat a s
def Sl(f:σ->Option (B3 σ ρ)):Nat->σ->Option (σ ⊕ ρ)
 |0,_=>W|n+1,s=>match f s with
  |none=>W|some (.next s')=>Sl f n s'|some (.brk s')=>Y (.inl s')|some (.ret r)=>Y (.inr r)
end loops
class Ev where
 fuel:Option Nat
instance Hh:Ev:=⟨W⟩
open Classical in
noncomputable def du{α:Type}(g:Nat->Option α):Option α:=if h:∃v N,∀n,N<=n->g n=Y v then Y h.choose else W
noncomputable def L0[e:Ev]{α:Type}(g:Nat->Option α):Option α:=match e.fuel with
 |none=>du g|some n=>g n
variable{α:Type}
theorem De{g:Nat->Option α}{v:α}(h:L0 g=Y v):∃N,∀n,N<=n->g n=Y v:=by
 change du g=Y v at h;unfold du at h;split at h
 next k=>cases h;exact k.choose_spec
 .cases h
theorem Gp{g:Nat->Option α}{v:α}(N:Nat)(h:∀n,N<=n->g n=Y v):L0 g=Y v:=by
 have k:∃v N,∀n,N<=n->g n=Y v:=⟨v,N,h⟩;show du g=Y v;unfold du;rw[dif_pos k];obtain⟨M,u⟩:=k.choose_spec;have p:=h (max N M) (Nat.le_max_left _ _)
 grind
noncomputable def Fx[Ev]{σ ρ:Type}(f:σ->Option (B3 σ ρ))(s:σ):Option (σ ⊕ ρ):=L0 λn=>Sl f n s
def eb{σ ρ β:Type}(o:Option (σ ⊕ ρ))(k:σ->Option β)(kr:ρ->Option β):Option β:=
 match o with
 |none=>W|some (.inl s)=>k s|some (.inr v)=>kr v
theorem ZU{σ ρ β:Type}{o:Option (σ ⊕ ρ)}{k:σ->Option β}{p:ρ->Option β}{b:β}(h:eb o k p=Y b):∃x,o=Y x/\eb (Y x) k p=Y b:=by
 cases o with
 |none=>cases h
 |some x=>exact⟨x,rfl,h⟩
theorem jP{σ ρ β:Type}{x:σ ⊕ ρ}{k:σ->Option β}{p:ρ->Option β}{b:β}{s:σ}(h:eb (Y x) k p=Y b)(u:x=.inl s):k s=Y b:=by subst u;exact h
theorem jQ{σ ρ β:Type}{x:σ ⊕ ρ}{k:σ->Option β}{p:ρ->Option β}{b:β}{v:ρ}(h:eb (Y x) k p=Y b)(u:x=.inr v):p v=Y b:=by subst u;exact h
def BB{α:Type}(l:List α)(j:Int)(a:α):List α:=l.set j.toNat a
def FA{α:Type}(j:Int)(a:α):Option (List α):=if 0<=j/\j<=4096 then Y (w_ j.toNat a)else W
def Va(a b:ByteArray):Option ByteArray:=if a.size+b.size<=AW then Y (a++b)else W
variable{β:Type}
theorem bind_some{x:Option α}{f:α->Option β}{b:β}(h:x.bind f=Y b):∃a,x=Y a/\f a=Y b:=Option.bind_eq_some_iff.1 h
theorem Yu{c:Bool}{a b:α}{r:α}(k:c=X)(h:(if c=X then a else b)=r):a=r:=o!
theorem Yt{c:Bool}{a b:α}{r:α}(k:c=T)(h:(if c=X then a else b)=r):b=r:=o!
structure WO(S:FuncId->Fq->As->Prop)(K:AB->Prop)(os:List PR)(ε:AB):Prop where
 of::out:wpOps S K os ε
structure WP(S:FuncId->Fq->As->Prop)(c:PC)(q:Q)(ε:AB):Prop where
 of::out:c.wp S q ε
section
variable{S:FuncId->Fq->As->Prop}{K:AB->Prop}{os:List PR}{ε:AB}{d:Nat}
variable{t:TV}
theorem aP{x:AF}(h:x.val ε=Y t):x.ev ε=.tv t\/x.ev ε=.ow t:=by
 unfold AF.val EV.val at h;split at h<;>simp_all
def AE.AbY:AE->Nat
 |.bin .i .quo _ _=>0|.bin .i .rem _ _=>0|.bin .s .add _ _=>0|.bin .w _ _ _=>0|.bin (.a _) _ _ _=>0|.bin ..=>1|o=>4042110221010223200010221334134211003223343421200140120221211411133400441001102212411111 / 10^ o.ctorIdx % 10
theorem st(n:Nat){op:AE}{e:EV}{env':AB}(_:op.AbY=n)(h:∀p,p e env'->op.wp S ε (Y d) p)(k:WO S K os ((d,e)::env')):WO S K (⟨Y d,op,W⟩::os) ε:=⟨h (λe ε=>wpOps S K os (ε.put (Y d) e)) k.out⟩
theorem sn{op:AE}{env':AB}(_:op.AbY=2)(h:∀p,p EV.undef env'->op.wp S ε W p)(k:WO S K os env'):WO S K (⟨W,op,W⟩::os) ε:=⟨h (λ_ ε=>wpOps S K os ε) k.out⟩
variable{α:Type}{n:Nat}{e:α->TV}{l:List α}{j:Int}
theorem AAc{x i:AF}{es row:Fq}{ik:IntKind}{a:α}(h:idx l j=Y a)(p:x.val ε=Y (.list n es))(hi:i.val ε=Y (.int ik j))(he:es=l.map e)(u:(e a).cells=row)
  (k:WO S K os ((d,.tv (.pt row))::ε)):WO S K (⟨Y d,.iad x i n,W⟩::os) ε:=by
 replace k:=k.out;refine⟨?_⟩;subst he u;simp only[wpOps,PR.wp,AE.wp,p,hi];unfold idx at h;split at h
 next w=>exact⟨trivial,w,e a,by rw[List.getElem?_map,h];rfl,k⟩
 .cases h
theorem ABX{x:AF}{r:Fq}(h:A9 ε (x.ev ε)=Y (t::r))(p:t.Aax=T)(k:WO S K os ((d,.tv t)::ε)):WO S K (⟨Y d,.ld x,W⟩::os) ε:=by
 replace k:=k.out;refine⟨?_⟩;simp[wpOps,PR.wp,AE.wp,h,Aj,Fo];exact⟨p,k⟩
def eO{α:Type}(n:Nat)(e:α->TV):Option (List α)->TV
 |none=>.nil|some l=>.list n (l.map e)
theorem AAd{l:Option (List α)}{x:AF}{r:Fq}(h:A9 ε (x.ev ε)=Y (eO n e l::r))(k:WO S K os ((d,.tv (eO n e l))::ε)):WO S K (⟨Y d,.ld x,W⟩::os) ε:=ABX h (by cases l<;>rfl) k
theorem sb{x:AF}{cs:Fq}(h:A9 ε (x.ev ε)=Y cs)(p:A' n cs.length=X)(u:TV.agg (cs.take n)=t)(k:WO S K os ((d,.tv t)::ε)):WO S K (⟨Y d,.lda x n,W⟩::os) ε:=by
 replace k:=k.out;refine⟨?_⟩;subst u;simp[wpOps,PR.wp,AE.wp,h,Aj];exact⟨A! p,k⟩
variable{s:Nat}
theorem AAe{cs:List AO}(h:ε.get s=.bx cs)(p:A' n (cs.map (·.t)).length=X)(u:TV.agg ((cs.map (·.t)).take n)=t)(k:WO S K os ((d,.tv t)::ε)):WO S K (⟨Y d,.ldb s n,W⟩::os) ε:=by
 replace k:=k.out;refine⟨?_⟩;subst u;simp only[wpOps,PR.wp,AE.wp,h];exact⟨A! p,k⟩
section bins
variable{x y:AF}{ik:IntKind}{a b:Int}
theorem W4{h:BK}{op:BinOp}{u v t:TV}(p:x.val ε=Y u)(w:y.val ε=Y v)(A:Mb h op u v=Y t)(k:WO S K os ((d,.tv t)::ε)):WO S K (⟨Y d,.bin h op x y,W⟩::os) ε:=by
 replace k:=k.out;refine⟨?_⟩;simp[wpOps,PR.wp,AE.wp,p,w,A,Aj];exact k
theorem AAm{q:Int}(h:quo a b=Y q)(p:x.val ε=Y (.int ik a))(u:y.val ε=Y (.int ik b))(k:WO S K os ((d,.tv (.int ik (ik.wrap q)))::ε)):WO S K (⟨Y d,.bin .i .quo x y,W⟩::os) ε:=by grind[W4,quo,Mb,intCmp,intArith,Option.some.inj]
theorem AAn{q:Int}(h:KS a b=Y q)(p:x.val ε=Y (.int ik a))(u:y.val ε=Y (.int ik b))(k:WO S K os ((d,.tv (.int ik q))::ε)):WO S K (⟨Y d,.bin .i .rem x y,W⟩::os) ε:=by grind[W4,KS,Mb,intCmp,intArith,Option.some.inj]
theorem AAZ{op:BinOp}{h:IntKind}{r:Int}(p:NE ik op a b=Y r)(u:x.val ε=Y (.int ik a))(A:y.val ε=Y (.int h b))(B:ik=h\/op=.shl\/op=.shr)(k:WO S K os ((d,.tv (.int ik r))::ε)):WO S K (⟨Y d,.bin .w op x y,W⟩::os) ε:=by grind[W4,Mb]
theorem xX{u v t:ByteArray}(h:Va u v=Y t)(p:x.val ε=Y (.str u))(w:y.val ε=Y (.str v))(k:WO S K os ((d,.tv (.str t))::ε)):WO S K (⟨Y d,.bin .s .add x y,W⟩::os) ε:=by grind[W4,Va,Mb,Option.some.inj]
theorem np{n:I2}{cs ds:Fq}{r:Bool}(p:x.val ε=Y (.agg cs))(u:y.val ε=Y (.agg ds))(w:cs.map TV.kd=n)(h:CO cs ds=Y r)(k:WO S K os ((d,.tv (.bool r))::ε)):WO S K (⟨Y d,.bin (.a n) .eql x y,W⟩::os) ε:=by grind[W4,Mb]
theorem nq{n:I2}{cs ds:Fq}{r:Bool}(p:x.val ε=Y (.agg cs))(u:y.val ε=Y (.agg ds))(w:cs.map TV.kd=n)(h:CO cs ds=Y r)(k:WO S K os ((d,.tv (.bool (!r)))::ε)):WO S K (⟨Y d,.bin (.a n) .neq x y,W⟩::os) ε:=by grind[W4,Mb]
end bins
variable{t:TV}
theorem uq{c a b:AF}{q:Bool}(p:c.val ε=Y (.bool q))(u:q=X)(h:a.val ε=Y t)(k:WO S K os ((d,.tv t)::ε)):WO S K (⟨Y d,.pick c a b,W⟩::os) ε:=by
 replace k:=k.out;refine⟨?_⟩;subst u;simp[wpOps,PR.wp,AE.wp,p];rcases aP h with h|h<;>rw[h]<;>exact k
theorem uo{c a b:AF}{q:Bool}(p:c.val ε=Y (.bool q))(u:q=T)(h:b.val ε=Y t)(k:WO S K os ((d,.tv t)::ε)):WO S K (⟨Y d,.pick c a b,W⟩::os) ε:=by
 replace k:=k.out;refine⟨?_⟩;subst u;simp[wpOps,PR.wp,AE.wp,p];rcases aP h with h|h<;>rw[h]<;>exact k
variable{α:Type}{n:Nat}{e:α->TV}{l:List α}
theorem AAf{x:AF}{es:Fq}(h:x.val ε=Y (.list n es))(he:es=l.map e)(k:WO S K os ((d,.tv (.int .i64 l.length))::ε)):WO S K (⟨Y d,.len x,W⟩::os) ε:=by
 replace k:=k.out;refine⟨?_⟩;subst he;simp[wpOps,PR.wp,AE.wp,h];exact k
variable{m:List α}
theorem fU{a b:Int}(h:slc l a b=Y m):((0<=a/\a<=b)/\b<=l.length)/\m=(l.take b.toNat).drop a.toNat:=by
 unfold slc at h
 grind
variable{ka kb:IntKind}
theorem AAo{x:AF}{lo hi:Option AF}{es:Fq}{a b:Int}(A:slc l a b=Y m)(h:x.val ε=Y (.list n es))(he:es=l.map e)(p:Hz ε 0 lo=Y (.int ka a))(u:Hz ε l.length hi=Y (.int kb b))
  (k:WO S K os ((d,.tv (.list n (m.map e)))::ε)):WO S K (⟨Y d,.slc n x lo hi,W⟩::os) ε:=by
 replace k:=k.out;refine⟨?_⟩;subst he;obtain⟨⟨w,B⟩,C⟩:=fU A;subst C;simp only[wpOps,PR.wp,AE.wp,h,a6,p,u];refine⟨⟨trivial,w.1,w.2⟩,B,?_⟩;rw[List.map_drop,List.map_take]at k;exact k
theorem xZ{x:AF}{lo hi:Option AF}{s t:ByteArray}{a b:Int}(p:Aaw s a b=Y t)(h:x.val ε=Y (.str s))(u:Hz ε 0 lo=Y (.int ka a))(w:Hz ε s.size hi=Y (.int kb b))
  (k:WO S K os ((d,.tv (.str t))::ε)):WO S K (⟨Y d,.Aaw x lo hi,W⟩::os) ε:=by
 replace k:=k.out;refine⟨?_⟩;unfold Aaw at p;split at p
 next A=>cases p;simp[wpOps,PR.wp,AE.wp,h,u,w];exact⟨A.1,A.2.1,A.2.2,k⟩
 .cases p
variable{zero:Fq}{parts:List (Nat×Nat×AF)}
theorem cW{ts:List (Nat×Nat×TV)}{cs:Fq}(h:FG ε parts=Y ts)(p:FK zero ts=Y cs)(u:TV.agg cs=t)(k:WO S K os ((d,.tv t)::ε)):WO S K (⟨Y d,.bld zero parts,W⟩::os) ε:=by
 replace k:=k.out;refine⟨?_⟩;subst u;simp[wpOps,PR.wp,AE.wp,h,Aj,p];exact k
def YE:Nat->List (Nat×Nat×TV)->Bool
 |_,[]=>X|k,(i,n,t)::r=>A? i k&&A? t.cells.length n&&YE (k+n) r
def JO:List (Nat×Nat×TV)->Fq
 |[]=>[]|(_,_,t)::r=>t.cells++JO r
theorem VS:∀(ds done k rest:Fq),k.length=ds.length->Pv (done++(k++rest)) done.length ds=done++(ds++rest)
 |[],done,k,rest,h=>by
  have:k=[]:=w! c!;subst this;rfl
 |d::ds,done,[],rest,h=>by simp at h|d::ds,done,m::k,rest,h=>by
  simp only[Pv];rw[w?,x_ _ _ (R0 _),Nat.sub_self,List.set_cons_zero];have:=VS ds (done++[d]) k rest c!;simpa using this
theorem aU:∀(ts:List (Nat×Nat×TV))(done rest:Fq),YE done.length ts=X->(JO ts).length=rest.length->FK (done++rest) ts=Y (done++JO ts)
 |[],done,rest,_,h=>by
  have:rest=[]:=w! (by simpa[JO]using h.symm);subst this;rfl
 |(i,n,t)::r,done,rest,p,h=>by
  simp [YE]at p;obtain⟨⟨rfl,k⟩,A⟩:=p;simp[JO]at h;have u:n<=rest.length:=U
  simp only[FK];rw[Ne ⟨k,to⟩];have w:rest=rest.take n++rest.drop n:=(x! n rest).symm;rw[w,VS t.cells done (rest.take n) (rest.drop n) i_,<-ae];rw[aU r (done++t.cells) (rest.drop n) (by rw[aE,k];exact A) (by rw[List.length_drop];omega)];simp[JO]
theorem xR{ts:List (Nat×Nat×TV)}(h:FG ε parts=Y ts)(p:YE 0 ts=X)(u:A? (JO ts).length zero.length=X)(w:TV.agg (JO ts)=t)(k:WO S K os ((d,.tv t)::ε)):WO S K (⟨Y d,.bld zero parts,W⟩::os) ε:=
 cW h (by have:=aU ts [] zero p (Nat.eq_of_beq_eq_true u);simpa using this) w k
variable{ts:Fq}
theorem sc{parts:List AF}(h:vals ε parts=Y ts)(he:ts=l.map e)(p:∀a,(e a).cells.length=n)(k:WO S K os ((d,.ow (.list n (l.map e)))::ε)):WO S K (⟨Y d,.lst n parts,W⟩::os) ε:=by
 replace k:=k.out;refine⟨?_⟩;subst he;simp[wpOps,PR.wp,AE.wp,h,Aj];refine⟨λt u=>?_,k⟩
 grind
variable{s:Nat}{r:List α}
theorem sZ{y:AF}{es p rs:Fq}(h:Al l m=Y r)(u:ε.get s=.ow (.list n es))(w:y.val ε=Y (.list n p))(he:es=l.map e)(hf:p=m.map e)(A:rs=r.map e)
  (k:WO S K os ((d,.ow (.list n rs))::(s,.tv (.list n es))::ε)):WO S K (⟨Y d,.app n (.s s) y,W⟩::os) ε:=by
 replace k:=k.out;refine⟨?_⟩;subst hf A;unfold Al at h;split at h
 next B=>cases h;simp only[wpOps,PR.wp,AE.wp,AF.ev,u,w,he,a6];rw[he]at k;refine⟨V,V,B,?_⟩;rw[x?]at k;exact k
 .cases h
variable{f:FuncId}
theorem xS{args:List AF}(h:vals ε args=Y ts)(p:S f ts (.sh t))(k:WO S K os ((d,.tv t)::ε)):WO S K (⟨Y d,.call f args,W⟩::os) ε:=by
 replace k:=k.out;refine⟨?_⟩;simp[wpOps,PR.wp,AE.wp,h,Aj];exact⟨_,⟨p,rfl⟩,λ_=>k⟩
theorem xY{x i:AF}{s:ByteArray}{ik:IntKind}{j b:Int}(p:Aau s j=Y b)(h:x.val ε=Y (.str s))(hi:i.val ε=Y (.int ik j))(k:WO S K os ((d,.tv (.int .u8 b))::ε)):WO S K (⟨Y d,.Aau x i,W⟩::os) ε:=by
 replace k:=k.out;refine⟨?_⟩;unfold Aau at p;split at p
 next u=>rw[Option.map_eq_some_iff]at p;obtain⟨c,w,rfl⟩:=p;simp[wpOps,PR.wp,AE.wp,h,hi];exact⟨u,c,w,k⟩
 .cases p
theorem xW{mx:Bool}{x y:AF}{ik:IntKind}{a b:Int}(h:x.val ε=Y (.int ik a))(p:y.val ε=Y (.int ik b))(k:WO S K os ((d,.tv (.int ik (if mx then max a b else min a b)))::ε)):WO S K (⟨Y d,.mm mx x y,W⟩::os) ε:=by
 replace k:=k.out;refine⟨?_⟩;simp only[wpOps,PR.wp,AE.wp,h,p];exact⟨trivial,k⟩
theorem AAg{x y:AF}{ik:IntKind}{a b:Int}(h:x.val ε=Y (.int ik a))(p:y.val ε=Y (.int ik b))(k:WO S K os ((d,.tv (.int ik (max a b)))::ε)):WO S K (⟨Y d,.mm X x y,W⟩::os) ε:=xW h p k
theorem AAh{x y:AF}{ik:IntKind}{a b:Int}(h:x.val ε=Y (.int ik a))(p:y.val ε=Y (.int ik b))(k:WO S K os ((d,.tv (.int ik (min a b)))::ε)):WO S K (⟨Y d,.mm T x y,W⟩::os) ε:=xW h p k
variable{off:Nat}
theorem ABY{x v:AF}{cs cs':List AO}(h:x.place ε=Y (s,off))(p:ε.get s=.bx cs)(hv:v.ev ε=.tv t)(u:t.cells.length=n)(w:A' (off+n) cs.length=X)(A:cs.take off++t.cells.map (⟨T,·⟩)++cs.drop (off+n)=cs')
  (k:WO S K os ((s,.bx cs')::ε)):WO S K (⟨W,.st n x v,W⟩::os) ε:=by
 replace k:=k.out;refine⟨?_⟩;subst A;simp only[wpOps,PR.wp,AE.wp,h,p,hv];exact⟨u,A! w,k⟩
theorem AAq{s off q:Nat}{x:AF}{cs cs':List AO}(h:x.place ε=Y (s,off))(p:ε.get s=.bx cs)(hv:ε.get q=.ow t)(u:q≠s)(w:B_ off cs.length=X)(A:cs.set off ⟨X,t⟩=cs')
  (k:WO S K os ((s,.bx cs')::(q,.tv t)::ε)):WO S K (⟨W,.st 1 x (.s q),W⟩::os) ε:=by
 replace k:=k.out;refine⟨?_⟩;subst A;simp only[wpOps,PR.wp,AE.wp,h,p,AF.ev,hv];exact⟨u,trivial,A! w,k⟩
variable{v:AF}
theorem AAp{cs cs':List AO}(h:ε.get s=.bx cs)(hv:v.ev ε=.tv t)(p:t.cells.length=n)(u:A' (0+n) cs.length=X)(w:cs.take 0++t.cells.map (⟨T,·⟩)++cs.drop (0+n)=cs')
  (k:WO S K os ((s,.bx cs')::ε)):WO S K (⟨W,.stb n s v,W⟩::os) ε:=by
 replace k:=k.out;refine⟨?_⟩;subst w;simp only[wpOps,PR.wp,AE.wp,h,hv];exact⟨p,A! u,k⟩
theorem AAb{cs:List AO}{row:Fq}(h:ε.get s=.bx cs)(p:cs.map (·.t)=row)(k:WO S K os ((s,.tv (.pt row))::ε)):WO S K (⟨W,.frz s,W⟩::os) ε:=by
 replace k:=k.out;refine⟨?_⟩;subst p;simp[wpOps,PR.wp,AE.wp,h];exact k
theorem um{args:List AF}{cs:List AO}(h:vals ε args=Y ts)(p:S f ts (.oag cs))(u:TV.agg (cs.map λc=>c.rel.t)=t)(k:WO S K os ((d,.tv t)::ε)):WO S K (⟨Y d,.call f args,W⟩::os) ε:=by
 replace k:=k.out;refine⟨?_⟩;subst u;simp[wpOps,PR.wp,AE.wp,h,Aj];exact⟨_,⟨p,rfl⟩,λ_=>k⟩
theorem sa{x:AF}{es:Fq}(h:x.val ε=Y (.list n es))(he:es=l.map e)(k:∀b:Bool,(b=X->l=[])->WO S K os ((d,.tv (.bool b))::ε)):WO S K (⟨Y d,.isn x,W⟩::os) ε:=by
 replace k:=λb p=>(k b p).out;refine⟨?_⟩;simp only[wpOps,PR.wp,AE.wp,h];intro b p;refine k b λu=>?_;have:=p u;rw[he]at this;simpa using this
theorem xT{x:AF}(h:x.val ε=Y .nil)(k:WO S K os ((d,.tv (.bool X))::ε)):WO S K (⟨Y d,.isn x,W⟩::os) ε:=by
 replace k:=k.out;refine⟨?_⟩;simp[wpOps,PR.wp,AE.wp,h];exact k
theorem tL(h:Al [] l=Y r)(b:Bool)(k:b=X->l=[]):(if b=X then Y []else(Al [] l).bind λx=>Y x)=Y r:=by grind[Al]
variable{j:Int}
theorem Gn{a:α}(h:idx l j=Y a):0<=j/\j<l.length/\l[j.toNat]?=Y a:=by
 unfold idx at h
 grind
theorem Zm(p:∀a,(e a).cells.length=n):∀(l:List α)(j k:Nat)(a:α),l[j]?=Y a->k<n->((l.map e).flatMap TV.cells)[j*n+k]?=(e a).cells[k]?
 |[],j,k,a,h,_=>by simp at h|b::l,0,k,a,h,u=>by
  grind
 |b::l,j+1,k,a,h,u=>by
  rw [y_]at h;rw[y!,y?,List.getElem?_append_right (by rw[p,B'];omega),p,show(j+1)*n+k-n=j*n+k from l_];exact Zm p l j k a h u
theorem db(p:∀a,(e a).cells.length=n)(t:TV):∀(l:List α)(j k:Nat)(a b:α),l[j]?=Y a->k<n->(e b).cells=(e a).cells.set k t->((l.set j b).map e).flatMap TV.cells=((l.map e).flatMap TV.cells).set (j*n+k) t
 |[],j,k,a,b,h,_,_=>by simp at h|c::l,0,k,a,b,h,u,w=>by
  grind
 |c::l,j+1,k,a,b,h,u,w=>by
  rw [y_]at h;rw[z_,y!,y!,y?,y?,x_ _ _ (by rw[p,B'];omega),p,show(j+1)*n+k-n=j*n+k from l_,db p t l j k a b h u w]
theorem pK(h:∀a,(e a).cells.length=n)(l:List α):((l.map e).flatMap TV.cells).length=l.length*n:=by
 induction l with
 |nil=>simp|cons b l k=>rw[y!,y?,aE,k,h,a5,B'];omega
theorem R2(h:∀a,(e a).flat=X):∀(l:List α),TV.tg (l.map e)=X
 |[]=>rfl|a::l=>by simp[TV.tg,h a,R2 h l]
theorem xa{x:AF}{q:Nat×Option Nat}{es:Fq}(h:x.q0 ε=Y (q,n,es))(he:es=l.map e)(k:WO S K os ((d,.tv (.int .i64 l.length))::ε)):WO S K (⟨Y d,.Abs x,W⟩::os) ε:=by
 replace k:=k.out;refine⟨?_⟩;subst he;simp[wpOps,PR.wp,AE.wp,h,Aj];exact k
variable{qi:Option Nat}
theorem AAr{x i:AF}{q n:Nat}{es:Fq}{ik:IntKind}{a:α}(p:idx l j=Y a)(h:x.q0 ε=Y ((q,qi),n,es))(hi:i.val ε=Y (.int ik j))(he:es=l.map e)(u:(x.ev ε).pc=Y q)
  (k:WO S K os ((d,.lp q qi (j.toNat*n))::ε)):WO S K (⟨Y d,.xia x i n,W⟩::os) ε:=by
 replace k:=k.out;refine⟨?_⟩;subst he;obtain⟨w,A,_⟩:=Gn p;simp only[wpOps,PR.wp,AE.wp,h,hi,Aj,a6];exact⟨⟨u,trivial⟩,w,A,k⟩
theorem sf{x:AF}{q c n i:Nat}{es row:Fq}{a:α}(h:x.ev ε=.lp q qi c)(p:ε.ns q qi=Y (n,es))(he:es=l.map e)(u:∀a,(e a).cells.length=n)(w:idx l j=Y a)(A:c=j.toNat*n+i)(hi:B_ i n=X)(B:(e a).cells=row)(C:row[i]?=Y t)
  (k:WO S K os ((d,.tv t)::ε)):WO S K (⟨Y d,.xld x,W⟩::os) ε:=by
 replace k:=k.out;refine⟨?_⟩;subst he A B;have hf:=Zm u l j.toNat i a (Gn w).2.2 (A! hi);simp[wpOps,PR.wp,AE.wp,h,p,hf,C,Aj];exact k
theorem AAs{x i:AF}{q n:Nat}{es:Fq}{ik:IntKind}{a:α}(p:idx l j=Y a)(h:x.ev ε=.la q W)(u:ε.get q=.xo n es)(hi:i.val ε=Y (.int ik j))(he:es=l.map e)
  (k:WO S K os ((d,.lp q W (j.toNat*n))::ε)):WO S K (⟨Y d,.xin x i n,W⟩::os) ε:=by
 replace k:=k.out;refine⟨?_⟩;subst he;obtain⟨w,A,_⟩:=Gn p;simp only[wpOps,PR.wp,AE.wp,h,hi,u,a6];exact⟨trivial,w,A,k⟩
theorem sg{x:AF}{q c n i:Nat}{es row:Fq}{a:α}(h:x.ev ε=.lp q W c)(p:ε.get q=.xo n es)(he:es=l.map e)(u:∀a,(e a).cells.length=n)(w:idx l j=Y a)(A:c=j.toNat*n+i)(hi:B_ i n=X)(B:(e a).cells=row)(C:row[i]?=Y t)
  (k:WO S K os ((d,.tv t)::ε)):WO S K (⟨Y d,.xln x,W⟩::os) ε:=by
 replace k:=k.out;refine⟨?_⟩;subst he A B;have hf:=Zm u l j.toNat i a (Gn w).2.2 (A! hi);simp[wpOps,PR.wp,AE.wp,h,p,hf,C,Aj];exact k
theorem si{x v:AF}{q c n i:Nat}{env':AB}{es rs:Fq}{a b:α}(h:x.ev ε=.lp q qi c)(F:ε.ns q qi=Y (n,es))(hv:v.ev ε=.tv t)(he:es=l.map e)(w:∀a,(e a).cells.length=n)(G:idx l j=Y a)(H:c=j.toNat*n+i)(hi:B_ i n=X)(D:t.cells=[t])
  (I:(e b).cells=(e a).cells.set i t)(J:rs=(BB l j b).map e)(A:ε.tl q qi n rs=env')(k:WO S K os env'):WO S K (⟨W,.xst x v 1,W⟩::os) ε:=by
 replace k:=k.out;refine⟨?_⟩;subst he H J A;obtain⟨N,O,E⟩:=Gn G;have B:i<n:=A! hi;have p:j.toNat<l.length:=(z!.1 E).1;simp only[wpOps,PR.wp,AE.wp,h,F,hv];have C:j.toNat*n+i<l.length*n:=calc j.toNat*n+i<j.toNat*n+n:=U
   _=(j.toNat+1)*n:=l_
   _<=l.length*n:=B! _ p
 refine ⟨⟨by rw[D];rfl,U⟩,?_,_,(db w t l j.toNat i a b E B I).trans (by rw[D,List.set_eq_take_append_cons_drop,Ne (by rw[pK w];exact C)];simp),V,λu L=>?_,k⟩
 .rw[a6]
  calc j.toNat*n+i<j.toNat*n+n:=U
   _=(j.toNat+1)*n:=l_
   _<=l.length*n:=B! _ p
 .obtain⟨M,_,rfl⟩:=z?.1 L;exact w M
theorem da(k:∀a,(e a).cells.length=n):∀(l:List α)(j:Nat)(b:α),j<l.length->((l.set j b).map e).flatMap TV.cells=((l.map e).flatMap TV.cells).take (j*n)++(e b).cells++((l.map e).flatMap TV.cells).drop (j*n+n)
 |[],j,b,h=>by simp at h|c::l,0,b,h=>by
  grind
 |c::l,j+1,b,h=>by
  rw [z_,y!,y!,y?,y?,da k l j b c!,show(j+1)*n=(e c).cells.length+j*n from by rw[k,B'];omega,Nat.add_assoc,List.take_length_add_append,List.drop_length_add_append,ae,ae,ae]
theorem sj{x v:AF}{q n:Nat}{env':AB}{es:Fq}{a b:α}(h:x.ev ε=.lp q qi (j.toNat*n))(D:ε.ns q qi=Y (n,es))(hv:v.ev ε=.tv (e b))(he:es=l.map e)(w:∀a,(e a).cells.length=n)(E:idx l j=Y a)(F:B_ 0 n=X)
  (A:ε.tl q qi n ((BB l j b).map e)=env')(k:WO S K os env'):WO S K (⟨W,.xst x v n,W⟩::os) ε:=by
 replace k:=k.out;refine⟨?_⟩;subst he A;obtain⟨J,L,H⟩:=Gn E;have B:0<n:=A! F;have p:j.toNat<l.length:=(z!.1 H).1;have C:j.toNat*n+n<=l.length*n:=calc j.toNat*n+n=(j.toNat+1)*n:=l_
   _<=l.length*n:=B! _ p
 simp only[wpOps,PR.wp,AE.wp,h,D,hv];refine⟨⟨w b,B⟩,by rw[a6];exact C,_,da w l j.toNat b p,V,λu G=>?_,k⟩;obtain⟨I,_,rfl⟩:=z?.1 G;exact w I
theorem xP{y:AF}{es p rs:Fq}(h:Al l m=Y r)(u:ε.get s=.xo n es)(w:y.val ε=Y (.list n p))(he:es=l.map e)(hf:p=m.map e)(A:rs=r.map e)(B:ε.eo d=X)(hd:d≠s)
  (k:WO S K os ((d,.xo n rs)::(s,.undef)::ε)):WO S K (⟨Y d,.Aa5 n s y,W⟩::os) ε:=by
 replace k:=k.out;refine⟨?_⟩;subst he hf A;unfold Al at h;split at h
 next C=>cases h;simp only[wpOps,PR.wp,AE.wp,u,w,a6];rw[x?]at k;exact⟨trivial,trivial,C,B,hd,k⟩
 .cases h
theorem qj{args:List AF}{ts es:Fq}(h:ε.eo d=X)(p:vals ε args=Y ts)(u:S f ts (.own (.list n es)))(he:es=l.map e)(hf:∀a,(e a).flat=X)(k:WO S K os ((d,.xo n es)::ε)):WO S K (⟨Y d,.AaD f args,W⟩::os) ε:=by
 replace k:=k.out;refine⟨?_⟩;simp[wpOps,PR.wp,AE.wp,p,Aj];exact⟨h,n,es,.inr ⟨u,by rw[he];exact R2 hf l⟩,λ_=>k⟩
variable{rs:Fq}{z:α}
theorem se{x:AF}{ik:IntKind}(h:FA j z=Y r)(u:ε.eo d=X)(w:x.val ε=Y (.int ik j))(A:(match zero with|[t]=>t|ts=>.agg ts)=e z)(B:rs=r.map e)
  (k:WO S K os ((d,.xo n rs)::ε)):WO S K (⟨Y d,.mkx n zero x,W⟩::os) ε:=by
 replace k:=k.out;refine⟨?_⟩;subst B;unfold FA at h;split at h
 next p=>cases h;rw[A_,<-A]at k;simp[wpOps,PR.wp,AE.wp,w];exact⟨u,p.1,p.2,k⟩
 .cases h
theorem xV{n m:Nat}{x:AF}{ik:IntKind}{r:List Fp}(h:FA j ([]:Fp)=Y r)(p:ε.eo d=X)(u:x.val ε=Y (.int ik j))(w:rs=r.map λl:Fp=>TV.list m (l.map (TV.int .i64)))
  (k:WO S K os ((d,.xo n rs)::ε)):WO S K (⟨Y d,.mkx n [.list m []] x,W⟩::os) ε:=se h p u (e:=λl:Fp=>TV.list m (l.map (TV.int .i64))) rfl w k
theorem sd{x:AF}{ik:IntKind}(h:FA j z=Y r)(u:ε.eo d=X)(w:x.val ε=Y (.int ik j))(A:(match zero with|[t]=>t|ts=>.agg ts)=e z)(B:rs=r.map e)
  (k:WO S K os ((d,.ow (.list n rs))::ε)):WO S K (⟨Y d,.mko n zero x,W⟩::os) ε:=by
 replace k:=k.out;refine⟨?_⟩;subst B;unfold FA at h;split at h
 next p=>cases h;rw[A_,<-A]at k;simp[wpOps,PR.wp,AE.wp,w];exact⟨u,p.1,p.2,k⟩
 .cases h
theorem xU{n m:Nat}{x:AF}{ik:IntKind}{r:List Fp}(h:FA j ([]:Fp)=Y r)(p:ε.eo d=X)(u:x.val ε=Y (.int ik j))(w:rs=r.map λl:Fp=>TV.list m (l.map (TV.int .i64)))
  (k:WO S K os ((d,.ow (.list n rs))::ε)):WO S K (⟨Y d,.mko n [.list m []] x,W⟩::os) ε:=sd h p u (e:=λl:Fp=>TV.list m (l.map (TV.int .i64))) rfl w k
theorem wQ:([]:List AO).all AO.Aas=X:=rfl
theorem ti{cs:List AO}(hf:∀a,(e a).flat=X)(h:cs.all AO.Aas=X):((⟨X,.list n (l.map e)⟩:AO)::cs).all AO.Aas=X:=by
 rw [List.all_cons,h,Bool.and_true];exact R2 hf l
theorem AAa{hi:AF}{es rs:Fq}{ik:IntKind}(h:slc l 0 j=Y r)(u:ε.get s=.xo n es)(w:hi.val ε=Y (.int ik j))(he:es=l.map e)(A:rs=r.map e)(B:ε.eo d=X)(hd:d≠s)(k:WO S K os ((d,.xo n rs)::(s,.undef)::ε)):WO S K (⟨Y d,.cut n s hi,W⟩::os) ε:=by
 replace k:=k.out;refine⟨?_⟩;subst he A;obtain⟨⟨C,D⟩,p⟩:=fU h;subst p;simp only[wpOps,PR.wp,AE.wp,u,w];refine⟨⟨trivial,B,hd⟩,C.2,by rw[a6];exact D,?_⟩;have p:((l.take j.toNat).drop (0:Int).toNat).map e=(l.map e).take j.toNat:=V
 rw [p]at k;exact k
theorem qe{args:List AF}{ts es:Fq}(h:Aaa ε args=Y ts)(p:S f ts (.own t))(u:t=.list n es)(he:es=l.map e)(hf:∀a,(e a).flat=X)(k:WO S K os ((d,.ow t)::ε)):WO S K (⟨Y d,.AaJ f args,W⟩::os) ε:=by
 replace k:=k.out;refine⟨?_⟩;subst u he;simp[wpOps,PR.wp,AE.wp,h,Aj];exact⟨_,⟨p,R2 hf l⟩,λ_=>k⟩
def cw{α:Type}(l:List α)(j:Int)(z:α):Option (List α):=if(0<=j/\j<=4096)/\l.length+j.toNat<=AW then Y (l++w_ j.toNat z)else W
theorem xQ{p:TV}{x:AF}{es rs:Fq}{ik:IntKind}(h:cw l j z=Y r)(A:ε.get s=.xo n es)(B:x.val ε=Y (.int ik j))(he:es=l.map e)(C:p=e z)(D:rs=r.map e)(E:ε.eo d=X)(hd:d≠s)(u:n=1)(F:p.cells=[p])(k:WO S K os ((d,.xo n rs)::(s,.undef)::ε)):WO S K (⟨Y d,.Abf n s p x,W⟩::os) ε:=by
 replace k:=k.out;refine⟨?_⟩;subst he D;unfold cw at h;split at h
 next w=>cases h;simp only[wpOps,PR.wp,AE.wp,A,B];refine⟨⟨⟨trivial,u⟩,F⟩,w.1,⟨by rw[a6];exact w.2,E,hd⟩,?_⟩;rw[x?,A_,<-C]at k;exact k
 .cases h
variable{i:Nat}
theorem ul{args:List AF}{ts h:Fq}{cs cs':List AO}{e:EV}(p:(args[i]?).bind (·.place ε)=Y (s,0))(u:ε.get s=.bx cs)(w:ε.noX s W=X)(hd:d≠s)(A:F2 ε i args=Y ts)(B:S f ts (.bo cs cs' i h))(he:EV.ofs h=e)(k:WO S K os ((d,e)::(s,.bx cs')::ε)):WO S K (⟨Y d,.Aad f args i,W⟩::os) ε:=by
 replace k:=k.out;refine⟨?_⟩;subst he;simp only[wpOps,PR.wp,AE.wp,p,u,A,Aj];exact⟨⟨w,hd⟩,cs',h,B,λ_=>k⟩
def Xx{α:Type}(l:List α):Option Unit:=if l.isEmpty then W else Y ()
theorem mW{u:Unit}{b:Bool}(h:Xx l=Y u)(k:b=X->l=[]):b=T:=by
 cases b with
 |false=>rfl|true=>rw[k rfl]at h;cases h
variable{g:Nat}
theorem ABR{h:Option Nat}{op:AE}{b q:Bool}(p:ε.get g=.tv (.bool q))(u:q=b)(k:WO S K (⟨h,op,W⟩::os) ε):WO S K (⟨h,op,Y (g,b)⟩::os) ε:=by
 replace k:=k.out;refine⟨?_⟩
 grind [wpOps,PR.wp]
theorem zh{d:Nat}{op:AE}{b q:Bool}(p:ε.get g=.tv (.bool q))(u:q=!b)(k:WO S K os ((d,.sk)::ε)):WO S K (⟨Y d,op,Y (g,b)⟩::os) ε:=by
 replace k:=k.out;refine⟨?_⟩;subst u;simp only[wpOps,PR.wp,p];exact⟨λh=>by cases b<;>simp at h,λ_=>k⟩
theorem ABS{d:Nat}{op:AE}{b:Bool}(h:ε.get g=.sk)(k:WO S K os ((d,.sk)::ε)):WO S K (⟨Y d,op,Y (g,b)⟩::os) ε:=by
 replace k:=k.out;refine⟨?_⟩;simp[wpOps,PR.wp,h];exact k
theorem fo(xs h:List PR)(ε:AB):wpOps S K (xs++h) ε=wpOps S (wpOps S K h) xs ε:=by
 induction xs generalizing ε with
 |nil=>rfl|cons x xs k=>
  simp only[w?,wpOps];congr 1;funext e;exact k e
theorem zg{ops:List PR}(n:Nat)(M:AB->AB->Prop)(h:WO S (M ε) (ops.take n) ε)(k:∀e,M ε e->WO S K (ops.drop n) e):WO S K ops ε:=by
 refine ⟨?_⟩;rw[<-x! n ops,fo];exact Q5 S (λe he=>(k e he).out) _ ε h.out
variable{q:Q}{a b:PC}
theorem zR(h:WP S a ⟨λe=>(∀s,(e.get s).WF)->WP S b q e,q.exit,q.ret⟩ ε):WP S (.seq a b) q ε:=⟨PC.gE S a _ ε h.out _ (λ_ he k=>(he k).out) (λ_ _ h=>h) (λ_ h=>h)⟩
theorem vr{live:I2}{env':AB}(k:ε.ek live=env')(h:q.normal env'):WP S (.skip live) q ε:=by subst k;exact⟨h⟩
theorem vq{live:I2}{env':AB}(k:ε.ek live=env')(h:q.exit i env'):WP S (.exit i live) q ε:=by subst k;exact⟨h⟩
theorem YZ{x:AF}{c:Bool}(k:x.val ε=Y (.bool c))(p:c=X->WP S a q ε)(hf:c=T->WP S b q ε):WP S (.cond x a b) q ε:=by
 refine ⟨?_⟩;simp[PC.wp,k];exact⟨λh=>(p h).out,λh=>(hf h).out⟩
theorem Su{x:AF}{c:Bool}(k:x.val ε=Y (.bool c))(h:c=X)(p:WP S a q ε):WP S (.cond x a b) q ε:=by grind[YZ]
theorem St{x:AF}{c:Bool}(k:x.val ε=Y (.bool c))(h:c=T)(p:WP S b q ε):WP S (.cond x a b) q ε:=by grind[YZ]
theorem Zc(h:WP S a ⟨q.normal,λj e=>if j=i then q.normal e else q.exit j e,q.ret⟩ ε):WP S (.block i a) q ε:=⟨h.out⟩
theorem dT{x y:Prop}(h:x):if i=i then x else y:=by rw[Ne rfl];exact h
theorem tT{i j:Nat}{x y:Prop}(k:i≠j)(h:y):if i=j then x else y:=by rw[QQ k];exact h
theorem zQ(M:AB->Prop)(k:WP S a ⟨M,q.exit,q.ret⟩ ε)(p:∀e,M e->q.normal e):WP S a q ε:=⟨PC.gE S a _ ε k.out q p (λ_ _ h=>h) (λ_ h=>h)⟩
section loops
variable{σ ρ:Type}{live:I2}{c:PC}{i0:Nat}
variable{ζ:AB->Prop}
theorem rx{f:Int->σ->Option (B3 σ ρ)}{b:Int}(I:Int->σ->AB)(J:σ->AB)(R:ρ->AB->Prop)
  (p:∀i s r,i<b->f i s=Y r->(∀k,((I i s).get k).WF)->c.wp S ⟨λe=>∃s',r=.next s'/\e.ek live=I (i+1) s',λj e=>j=i0/\∃s',r=.brk s'/\e=J s',λe=>∃v,r=.ret v/\R v e⟩ (I i s))
  (u:∀i s,¬i<b->c.wp S ⟨λ_=>False,λj e=>j=i0/\e=J s,λ_=>False⟩ (I i s))
  (hX:∀e,((∀s,(e.get s).WF)->c.wp S {q with normal:=λC=>ζ (C.ek live)} e)->ζ e)(F:∀s,q.exit i0 (J s)\/True):
  ∀(n:Nat)(i:Int)(s:σ),n=(b-i).toNat->∀o,sr f n i s=Y o->(∀s',o=.inl s'->q.exit i0 (J s'))->(∀v e,o=.inr v->R v e->q.ret e)->ζ (I i s):=by
 intro n
 induction n with
 |zero=>
  intro i s D o ho w A;refine hX _ λB=>?_;refine PC.gE S c _ _ (u i s U) _ (λ_ h=>h.elim) (λj e he=>?_) (λ_ h=>h.elim);obtain⟨rfl,rfl⟩:=he;simp[sr]at ho;exact w s ho.symm
 |succ n E=>
  intro i s D o ho w A;simp[sr]at ho;refine hX _ λB=>?_;cases hf:f i s with
  |none=>rw[hf]at ho;cases ho
  |some r=>
   rw [hf]at ho;refine PC.gE S c _ _ (p i s r U hf B) _ (λe he=>?_) (λj e he=>?_) (λe he=>?_)
   .obtain⟨s',rfl,he⟩:=he;show ζ (e.ek live);rw[he];exact E (i+1) s' U o ho w A
   .obtain⟨rfl,s',rfl,rfl⟩:=he;simp at ho;exact w s' ho.symm
   .obtain⟨v,rfl,he⟩:=he;simp at ho;exact A v e ho.symm he
variable{s0:σ}{o:σ ⊕ ρ}
theorem ja{f:Int->σ->Option (B3 σ ρ)}{lo b:Int}(ho:eE f lo b s0=Y o)(I:Int->σ->AB)(J:σ->AB)(R:ρ->AB->Prop)(w:ε.ek live=I lo s0)
  (p:∀i s r,i<b->f i s=Y r->(∀k,((I i s).get k).WF)->WP S c ⟨λe=>∃s',r=.next s'/\e.ek live=I (i+1) s',λj e=>j=i0/\∃s',r=.brk s'/\e=J s',λe=>∃v,r=.ret v/\R v e⟩ (I i s))
  (u:∀i s,¬i<b->WP S c ⟨λ_=>False,λj e=>j=i0/\e=J s,λ_=>False⟩ (I i s))
  (A:∀s',o=.inl s'->q.normal (J s'))(B:∀v e,o=.inr v->R v e->q.ret e):WP S (.block i0 (.loop live c)) q ε:=by
 refine Zc ⟨?_⟩;intro ζ hX;rw[w];refine rx (q:=⟨q.normal,λj e=>if j=i0 then q.normal e else q.exit j e,q.ret⟩) I J R (λi s r C D E=>(p i s r C D E).out) (λi s h=>(u i s h).out) hX (λ_=>.inr trivial) _ lo s0 rfl o ho ?_ B;intro s' F;exact dT (A s' F)
theorem iL{f:Int->σ->Option σ}:∀(n:Nat)(i:Int)(s o:σ),Aaf f n i s=Y o->sr (λi s=>(f i s).map (B3.next (ρ:=Empty))) n i s=Y (.inl o)
 |0,_,_,_,h=>by simp[Aaf]at h;subst h;rfl|n+1,i,s,o,h=>by
  simp [Aaf]at h;simp[sr];cases hf:f i s with
  |none=>rw[hf]at h;cases h
  |some s'=>rw[hf]at h;simp;exact iL n (i+1) s' o h
theorem u7{f:Int->σ->Option σ}{lo b:Int}{s0 o:σ}(ho:gp f lo b s0=Y o)(I:Int->σ->AB)(J:σ->AB)(w:ε.ek live=I lo s0)
  (p:∀i s r,i<b->f i s=Y r->(∀k,((I i s).get k).WF)->WP S c ⟨λe=>e.ek live=I (i+1) r,λ_ _=>False,λ_=>False⟩ (I i s))
  (u:∀i s,¬i<b->WP S c ⟨λ_=>False,λj e=>j=i0/\e=J s,λ_=>False⟩ (I i s))
  (A:q.normal (J o)):WP S (.block i0 (.loop live c)) q ε:=by
 refine ja (f:=λi s=>(f i s).map (B3.next (ρ:=Empty))) (o:=.inl o) (iL _ _ _ _ ho) I J (λ_ _=>False) w ?_ u ?_ ?_
 .intro i s r hi hf B;simp at hf;obtain⟨s',hf,rfl⟩:=hf;exact⟨PC.gE S c _ _ (p i s s' hi hf B).out _ (λe he=>⟨s',rfl,he⟩) (λ_ _ h=>h.elim) (λ_ h=>h.elim)⟩
 .intro s' h;cases h;exact A
 .intro v;cases v
theorem vA{f:σ->Option (B3 σ ρ)}(I:σ->AB)(J:σ->AB)(R:ρ->AB->Prop)
  (h:∀s r,f s=Y r->(∀k,((I s).get k).WF)->c.wp S ⟨λe=>∃s',r=.next s'/\e.ek live=I s',λj e=>j=i0/\∃s',r=.brk s'/\e=J s',λe=>∃v,r=.ret v/\R v e⟩ (I s))
  (hX:∀e,((∀s,(e.get s).WF)->c.wp S {q with normal:=λw=>ζ (w.ek live)} e)->ζ e):
  ∀(n:Nat)(s:σ)(o:σ ⊕ ρ),Sl f n s=Y o->(∀s',o=.inl s'->q.exit i0 (J s'))->(∀v e,o=.inr v->R v e->q.ret e)->ζ (I s):=by
 intro n
 induction n with
 |zero=>intro s o ho;cases ho
 |succ n B=>
  intro s o ho p u;simp[Sl]at ho;refine hX _ λA=>?_;cases hf:f s with
  |none=>rw[hf]at ho;cases ho
  |some r=>
   rw [hf]at ho;refine PC.gE S c _ _ (h s r hf A) _ (λe he=>?_) (λj e he=>?_) (λe he=>?_)
   .obtain⟨s',rfl,he⟩:=he;show ζ (e.ek live);rw[he];exact B s' o ho p u
   .obtain⟨rfl,s',rfl,rfl⟩:=he;simp at ho;exact p s' ho.symm
   .obtain⟨v,rfl,he⟩:=he;simp at ho;exact u v e ho.symm he
theorem yF{f:σ->Option (B3 σ ρ)}(ho:Fx f s0=Y o)(I:σ->AB)(J:σ->AB)(R:ρ->AB->Prop)(p:ε.ek live=I s0)
  (h:∀s r,f s=Y r->(∀k,((I s).get k).WF)->WP S c ⟨λe=>∃s',r=.next s'/\e.ek live=I s',λj e=>j=i0/\∃s',r=.brk s'/\e=J s',λe=>∃v,r=.ret v/\R v e⟩ (I s))
  (u:∀s',o=.inl s'->q.normal (J s'))(w:∀v e,o=.inr v->R v e->q.ret e):WP S (.block i0 (.loop live c)) q ε:=by
 obtain ⟨N,D⟩:=De ho;refine Zc ⟨?_⟩;intro ζ hX;rw[p];refine vA (q:=⟨q.normal,λj e=>if j=i0 then q.normal e else q.exit j e,q.ret⟩) I J R (λs r A B=>(h s r A B).out) hX N s0 o (D N (R0 _)) ?_ w;intro s' C;exact dT (u s' C)
end loops
end
theorem dlt{a b:Int}(h:a<b):decide (a<b)=X:=decide_eq_true h
theorem ABQ{a b:Int}(h:¬a<b):decide (a<b)=T:=decide_eq_false h
variable{t:TV}
theorem cX(h:EV.WF (.tv t)):t.WF:=h
theorem AAu(h:EV.WF (.ow t)):t.WF:=h
variable{n:Nat}
theorem AAv{es:Fq}(h:EV.WF (.xo n es)):TV.WF (.list n es):=h
theorem sv{row:Fq}(h:EV.WF (.tv (.pt row))):TV.nm row:=h
variable{ts:Fq}{i:Nat}
theorem jX(h:TV.nm ts)(hi:ts[i]?=Y t):t.WF:=by
 induction ts generalizing i with
 |nil=>simp at hi|cons x xs k=>
  cases i with
  |zero=>simp at hi;subst hi;exact h.1|succ i=>exact k h.2 h?
variable{α:Type}{e:α->TV}{l:List α}
theorem yE(h:TV.WF (.list n (l.map e))):(l.length:Int)<=9223372036854775807:=by
 have:=h.1
 grind [a6,Kg]
theorem W6{es:Fq}(h:TV.WF (.list n es))(he:es=l.map e):(l.length:Int)<=9223372036854775807:=by subst he;exact yE h
theorem u0{s:ByteArray}(h:TV.WF (.str s)):(s.size:Int)<=9223372036854775807:=by
 have:s.size<=Kg:=h
 grind [Kg]
theorem oa{n:Int}(h:TV.WF (.int .i64 n)):n<=9223372036854775807:=h.2
theorem oZ(n:Int):AZ n=if 9223372036854775808<=n % 18446744073709551616 then n % 18446744073709551616-18446744073709551616 else n % 18446744073709551616:=by
 have h:(2:Int)^ 64=18446744073709551616:=a_
 have k:(2:Int)^ (64-1)=9223372036854775808:=a_
 simp [AZ,IntKind.wrap,IntKind.bits,IntKind.signed,Bool.true_and,o4,h,k,ge_iff_le]
theorem yC(n:Int):AZ n<=9223372036854775807:=by grind[oZ]
theorem Ap{n:Int}(h:-9223372036854775808<=n)(k:n<=9223372036854775807):AZ n=n:=by grind[oZ]
theorem AAw{i b:Int}(hi:TV.WF (.int .i64 i))(h:i<b)(k:b<=9223372036854775807):IntKind.i64.wrap (i+1)=i+1:=by
 have p:(-9223372036854775808:Int)<=i:=hi.1
 grind [Ap]
end Go.Sf
