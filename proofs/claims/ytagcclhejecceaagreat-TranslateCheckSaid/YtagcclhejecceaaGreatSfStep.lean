/- Steps of the pure language with typed values: one rule an operation, one a piece of code, one a kind of loop. -/
import Derived.Test.YtagcclhejecceaaGreatSfSem
set_option linter.all false
namespace Go.Sf
abbrev AY(n:Int):Int:=IntKind.i64.wrap n
def idx{α:Type}(l:List α)(j:Int):Option α:=if 0<=j then l[j.toNat]? else none
def xu{α:Type}(l:List α)(a b:Int):Option (List α):=if(0<=a/\a<=b)/\b<=l.length then some ((l.take b.toNat).drop a.toNat)else none
def xi(s:ByteArray)(a b:Int):Option ByteArray:=if 0<=a/\a<=b/\b<=s.size then some (s.extract a.toNat b.toNat)else none
def xc(s:ByteArray)(j:Int):QQ:=if 0<=j then(s[j.toNat]?).map (fun b=>(b.toNat:Int))else none
def Ai{α:Type}(l m:List α):Option (List α):=if l.length+m.length<=Aj then some (l++m)else none
def quo(a b:Int):QQ:=if b=0 then none else some (a.tdiv b)
def Qo(a b:Int):QQ:=if b=0 then none else some (a.tmod b)
inductive Bx(σ ρ:Type)where
 |next (s:σ)
 |brk (s:σ)
 |ret (r:ρ)
section loops
variable{σ ρ:Type}
def wo(f:Int->σ->Option (Bx σ ρ)):Nat->Int->σ->Option (σ ⊕ ρ)
 |0,_,s=>some (.inl s)|n+1,i,s=>match f i s with
  |none=>none|some (.next s')=>wo f n (i+1) s'|some (.brk s')=>some (.inl s')|some (.ret r)=>some (.inr r)
def jj(f:Int->σ->Option (Bx σ ρ))(a b:Int)(s:σ):Option (σ ⊕ ρ):=wo f (b-a).toNat a s
def wT(f:Int->σ->Option σ):Nat->Int->σ->Option σ
 |0,_,s=>some s|n+1,i,s=>match f i s with
  |none=>none|some s'=>wT f n (i+1) s'
def o4(f:Int->σ->Option σ)(a b:Int)(s:σ):Option σ:=wT f (b-a).toNat a s
def QX(f:σ->Option (Bx σ ρ)):Nat->σ->Option (σ ⊕ ρ)
 |0,_=>none|n+1,s=>match f s with
  |none=>none|some (.next s')=>QX f n s'|some (.brk s')=>some (.inl s')|some (.ret r)=>some (.inr r)
end loops
class Ev where
 fuel:Option Nat
instance GN:Ev:=⟨none⟩
open Classical in
noncomputable def ZY{α:Type}(g:Nat->Option α):Option α:=if h:∃v N,∀n,N<=n->g n=some v then some h.choose else none
noncomputable def KN[e:Ev]{α:Type}(g:Nat->Option α):Option α:=match e.fuel with
 |none=>ZY g|some n=>g n
variable{α:Type}
theorem DD{g:Nat->Option α}{v:α}(h:KN g=some v):∃N,∀n,N<=n->g n=some v:=by
 change ZY g=some v at h;unfold ZY at h;split at h
 .rename_i k;cases h;exact k.choose_spec
 .cases h
theorem Fa{g:Nat->Option α}{v:α}(N:Nat)(h:∀n,N<=n->g n=some v):KN g=some v:=by
 have k:∃v N,∀n,N<=n->g n=some v:=⟨v,N,h⟩;show ZY g=some v;unfold ZY;rw[dif_pos k];obtain⟨M,u⟩:=k.choose_spec;have p:=h (max N M) (Nat.le_max_left _ _)
 grind
noncomputable def Gf[Ev]{σ ρ:Type}(f:σ->Option (Bx σ ρ))(s:σ):Option (σ ⊕ ρ):=KN fun n=>QX f n s
def ek{σ ρ β:Type}(o:Option (σ ⊕ ρ))(k:σ->Option β)(kr:ρ->Option β):Option β:=
 match o with
 |none=>none|some (.inl s)=>k s|some (.inr v)=>kr v
theorem Wc{σ ρ β:Type}{o:Option (σ ⊕ ρ)}{k:σ->Option β}{p:ρ->Option β}{b:β}(h:ek o k p=some b):∃x,o=some x/\ek (some x) k p=some b:=by
 cases o with
 |none=>cases h
 |some x=>exact⟨x,rfl,h⟩
theorem cL{σ ρ β:Type}{x:σ ⊕ ρ}{k:σ->Option β}{p:ρ->Option β}{b:β}{s:σ}(h:ek (some x) k p=some b)(u:x=.inl s):k s=some b:=by subst u;exact h
theorem cM{σ ρ β:Type}{x:σ ⊕ ρ}{k:σ->Option β}{p:ρ->Option β}{b:β}{v:ρ}(h:ek (some x) k p=some b)(u:x=.inr v):p v=some b:=by subst u;exact h
def BF{α:Type}(l:List α)(j:Int)(a:α):List α:=l.set j.toNat a
def GO{α:Type}(j:Int)(a:α):Option (List α):=if 0<=j/\j<=4096 then some (List.replicate j.toNat a)else none
def S6(a b:ByteArray):Option ByteArray:=if a.size+b.size<=Aj then some (a++b)else none
variable{β:Type}
theorem bind_some{x:Option α}{f:α->Option β}{b:β}(h:x.bind f=some b):∃a,x=some a/\f a=some b:=Option.bind_eq_some_iff.1 h
theorem V5{c:Bool}{a b:α}{r:α}(k:c=true)(h:(if c=true then a else b)=r):a=r:=by grind
theorem V4{c:Bool}{a b:α}{r:α}(k:c=false)(h:(if c=true then a else b)=r):b=r:=by grind
structure WO(S:FuncId->Fq->Am->Prop)(K:AB->Prop)(os:List PR)(U:AB):Prop where
 of::out:wpOps S K os U
structure WP(S:FuncId->Fq->Am->Prop)(c:PC)(q:Q)(U:AB):Prop where
 of::out:c.wp S q U
section
variable{S:FuncId->Fq->Am->Prop}{K:AB->Prop}{os:List PR}{U:AB}{d:Nat}
variable{t:TV}
theorem XM{x:AF}(h:x.val U=some t):x.ev U=.tv t\/x.ev U=.ow t:=by
 unfold AF.val EV.val at h;split at h<;>simp_all
def AE.zR:AE->Nat
 |.bin .i .quo _ _=>0|.bin .i .rem _ _=>0|.bin .s .add _ _=>0|.bin .w _ _ _=>0|.bin (.a _) _ _ _=>0|.bin ..=>1|o=>4042110221010223200010221334134211003223343421200140120221211411133400441001102212411111 / 10^ o.ctorIdx % 10
theorem st(n:Nat){op:AE}{e:EV}{env':AB}(_:op.zR=n)(h:∀p,p e env'->op.wp S U (some d) p)(k:WO S K os ((d,e)::env')):WO S K (⟨some d,op,none⟩::os) U:=⟨h (fun e U=>wpOps S K os (U.put (some d) e)) k.out⟩
theorem sn{op:AE}{env':AB}(_:op.zR=2)(h:∀p,p EV.undef env'->op.wp S U none p)(k:WO S K os env'):WO S K (⟨none,op,none⟩::os) U:=⟨h (fun _ U=>wpOps S K os U) k.out⟩
variable{α:Type}{n:Nat}{e:α->TV}{l:List α}{j:Int}
theorem tT{x i:AF}{es row:Fq}{ik:IntKind}{a:α}(h:idx l j=some a)(p:x.val U=some (.list n es))(hi:i.val U=some (.int ik j))(he:es=l.map e)(u:(e a).cells=row)
  (k:WO S K os ((d,.tv (.pt row))::U)):WO S K (⟨some d,.yb x i n,none⟩::os) U:=by
 replace k:=k.out;refine⟨?_⟩;subst he u;simp only[wpOps,PR.wp,AE.wp,p,hi];unfold idx at h;split at h
 .rename_i w;exact⟨trivial,w,e a,by rw[List.getElem?_map,h];rfl,k⟩
 .cases h
theorem vC{x:AF}{r:Fq}(h:A1 U (x.ev U)=some (t::r))(p:t.xh=false)(k:WO S K os ((d,.tv t)::U)):WO S K (⟨some d,.ld x,none⟩::os) U:=by
 replace k:=k.out;refine⟨?_⟩;simp[wpOps,PR.wp,AE.wp,h,AX,Em];exact⟨p,k⟩
def eO{α:Type}(n:Nat)(e:α->TV):Option (List α)->TV
 |none=>.nil|some l=>.list n (l.map e)
theorem tU{l:Option (List α)}{x:AF}{r:Fq}(h:A1 U (x.ev U)=some (eO n e l::r))(k:WO S K os ((d,.tv (eO n e l))::U)):WO S K (⟨some d,.ld x,none⟩::os) U:=vC h (by cases l<;>rfl) k
theorem lQ{x:AF}{cs:Fq}(h:A1 U (x.ev U)=some cs)(p:Nat.ble n cs.length=true)(u:TV.agg (cs.take n)=t)(k:WO S K os ((d,.tv t)::U)):WO S K (⟨some d,.yt x n,none⟩::os) U:=by
 replace k:=k.out;refine⟨?_⟩;subst u;simp[wpOps,PR.wp,AE.wp,h,AX];exact⟨Nat.le_of_ble_eq_true p,k⟩
variable{s:Nat}
theorem tV{cs:List AN}(h:U.get s=.bx cs)(p:Nat.ble n (cs.map (·.t)).length=true)(u:TV.agg ((cs.map (·.t)).take n)=t)(k:WO S K os ((d,.tv t)::U)):WO S K (⟨some d,.zO s n,none⟩::os) U:=by
 replace k:=k.out;refine⟨?_⟩;subst u;simp only[wpOps,PR.wp,AE.wp,h];exact⟨Nat.le_of_ble_eq_true p,k⟩
section bins
variable{x y:AF}{ik:IntKind}{a b:Int}
theorem UQ{h:BK}{op:BinOp}{u v t:TV}(p:x.val U=some u)(w:y.val U=some v)(A:Kn h op u v=some t)(k:WO S K os ((d,.tv t)::U)):WO S K (⟨some d,.bin h op x y,none⟩::os) U:=by
 replace k:=k.out;refine⟨?_⟩;simp[wpOps,PR.wp,AE.wp,p,w,A,AX];exact k
theorem tf{q:Int}(h:quo a b=some q)(p:x.val U=some (.int ik a))(u:y.val U=some (.int ik b))(k:WO S K os ((d,.tv (.int ik (ik.wrap q)))::U)):WO S K (⟨some d,.bin .i .quo x y,none⟩::os) U:=by grind[UQ,quo,Kn,intCmp,intArith,Option.some.inj]
theorem th{q:Int}(h:Qo a b=some q)(p:x.val U=some (.int ik a))(u:y.val U=some (.int ik b))(k:WO S K os ((d,.tv (.int ik q))::U)):WO S K (⟨some d,.bin .i .rem x y,none⟩::os) U:=by grind[UQ,Qo,Kn,intCmp,intArith,Option.some.inj]
theorem tQ{op:BinOp}{h:IntKind}{r:Int}(p:LP ik op a b=some r)(u:x.val U=some (.int ik a))(A:y.val U=some (.int h b))(B:ik=h\/op=.shl\/op=.shr)(k:WO S K os ((d,.tv (.int ik r))::U)):WO S K (⟨some d,.bin .w op x y,none⟩::os) U:=by grind[UQ,Kn]
theorem qI{u v t:ByteArray}(h:S6 u v=some t)(p:x.val U=some (.str u))(w:y.val U=some (.str v))(k:WO S K os ((d,.tv (.str t))::U)):WO S K (⟨some d,.bin .s .add x y,none⟩::os) U:=by grind[UQ,S6,Kn,Option.some.inj]
theorem gB{n:Ne}{cs ds:Fq}{r:Bool}(p:x.val U=some (.agg cs))(u:y.val U=some (.agg ds))(w:cs.map TV.kd=n)(h:CA cs ds=some r)(k:WO S K os ((d,.tv (.bool r))::U)):WO S K (⟨some d,.bin (.a n) .eql x y,none⟩::os) U:=by grind[UQ,Kn]
theorem gC{n:Ne}{cs ds:Fq}{r:Bool}(p:x.val U=some (.agg cs))(u:y.val U=some (.agg ds))(w:cs.map TV.kd=n)(h:CA cs ds=some r)(k:WO S K os ((d,.tv (.bool (!r)))::U)):WO S K (⟨some d,.bin (.a n) .neq x y,none⟩::os) U:=by grind[UQ,Kn]
end bins
variable{t:TV}
theorem nD{c a b:AF}{q:Bool}(p:c.val U=some (.bool q))(u:q=true)(h:a.val U=some t)(k:WO S K os ((d,.tv t)::U)):WO S K (⟨some d,.pick c a b,none⟩::os) U:=by
 replace k:=k.out;refine⟨?_⟩;subst u;simp[wpOps,PR.wp,AE.wp,p];rcases XM h with h|h<;>rw[h]<;>exact k
theorem nC{c a b:AF}{q:Bool}(p:c.val U=some (.bool q))(u:q=false)(h:b.val U=some t)(k:WO S K os ((d,.tv t)::U)):WO S K (⟨some d,.pick c a b,none⟩::os) U:=by
 replace k:=k.out;refine⟨?_⟩;subst u;simp[wpOps,PR.wp,AE.wp,p];rcases XM h with h|h<;>rw[h]<;>exact k
variable{α:Type}{n:Nat}{e:α->TV}{l:List α}
theorem tW{x:AF}{es:Fq}(h:x.val U=some (.list n es))(he:es=l.map e)(k:WO S K os ((d,.tv (.int .i64 l.length))::U)):WO S K (⟨some d,.len x,none⟩::os) U:=by
 replace k:=k.out;refine⟨?_⟩;subst he;simp[wpOps,PR.wp,AE.wp,h];exact k
variable{m:List α}
theorem aA{a b:Int}(h:xu l a b=some m):((0<=a/\a<=b)/\b<=l.length)/\m=(l.take b.toNat).drop a.toNat:=by
 unfold xu at h
 grind
variable{ka kb:IntKind}
theorem ti{x:AF}{lo hi:Option AF}{es:Fq}{a b:Int}(A:xu l a b=some m)(h:x.val U=some (.list n es))(he:es=l.map e)(p:Gi U 0 lo=some (.int ka a))(u:Gi U l.length hi=some (.int kb b))
  (k:WO S K os ((d,.tv (.list n (m.map e)))::U)):WO S K (⟨some d,.xu n x lo hi,none⟩::os) U:=by
 replace k:=k.out;refine⟨?_⟩;subst he;obtain⟨⟨w,B⟩,C⟩:=aA A;subst C;simp only[wpOps,PR.wp,AE.wp,h,c7,p,u];refine⟨⟨trivial,w.1,w.2⟩,B,?_⟩;rw[List.map_drop,List.map_take]at k;exact k
theorem qK{x:AF}{lo hi:Option AF}{s t:ByteArray}{a b:Int}(p:xi s a b=some t)(h:x.val U=some (.str s))(u:Gi U 0 lo=some (.int ka a))(w:Gi U s.size hi=some (.int kb b))
  (k:WO S K os ((d,.tv (.str t))::U)):WO S K (⟨some d,.xi x lo hi,none⟩::os) U:=by
 replace k:=k.out;refine⟨?_⟩;unfold xi at p;split at p
 .rename_i A;cases p;simp[wpOps,PR.wp,AE.wp,h,u,w];exact⟨A.1,A.2.1,A.2.2,k⟩
 .cases p
variable{zero:Fq}{parts:List (Nat×Nat×AF)}
theorem Yg{ts:List (Nat×Nat×TV)}{cs:Fq}(h:EL U parts=some ts)(p:EP zero ts=some cs)(u:TV.agg cs=t)(k:WO S K os ((d,.tv t)::U)):WO S K (⟨some d,.yq zero parts,none⟩::os) U:=by
 replace k:=k.out;refine⟨?_⟩;subst u;simp[wpOps,PR.wp,AE.wp,h,AX,p];exact k
def VR:Nat->List (Nat×Nat×TV)->Bool
 |_,[]=>true|k,(i,n,t)::r=>Nat.beq i k&&Nat.beq t.cells.length n&&VR (k+n) r
def H5:List (Nat×Nat×TV)->Fq
 |[]=>[]|(_,_,t)::r=>t.cells++H5 r
theorem Sv:∀(ds done k rest:Fq),k.length=ds.length->N8 (done++(k++rest)) done.length ds=done++(ds++rest)
 |[],done,k,rest,h=>by
  have:k=[]:=List.eq_nil_of_length_eq_zero (by simpa using h);subst this;rfl
 |d::ds,done,[],rest,h=>by simp at h|d::ds,done,m::k,rest,h=>by
  simp only[N8];rw[List.cons_append,List.set_append_right _ _ (az _),Nat.sub_self,List.set_cons_zero];have:=Sv ds (done++[d]) k rest (by simpa using h);simpa using this
theorem XS:∀(ts:List (Nat×Nat×TV))(done rest:Fq),VR done.length ts=true->(H5 ts).length=rest.length->EP (done++rest) ts=some (done++H5 ts)
 |[],done,rest,_,h=>by
  have:rest=[]:=List.eq_nil_of_length_eq_zero (by simpa[H5]using h.symm);subst this;rfl
 |(i,n,t)::r,done,rest,p,h=>by
  simp [VR]at p;obtain⟨⟨rfl,k⟩,A⟩:=p;simp[H5]at h;have u:n<=rest.length:=by omega
  simp only[EP];rw[a6 ⟨k,by rw[bk];omega⟩];have w:rest=rest.take n++rest.drop n:=(List.take_append_drop n rest).symm;rw[w,Sv t.cells done (rest.take n) (rest.drop n) (by rw[bq];omega),<-c8];rw[XS r (done++t.cells) (rest.drop n) (by rw[bk,k];exact A) (by rw[List.length_drop];omega)];simp[H5]
theorem qB{ts:List (Nat×Nat×TV)}(h:EL U parts=some ts)(p:VR 0 ts=true)(u:Nat.beq (H5 ts).length zero.length=true)(w:TV.agg (H5 ts)=t)(k:WO S K os ((d,.tv t)::U)):WO S K (⟨some d,.yq zero parts,none⟩::os) U:=
 Yg h (by have:=XS ts [] zero p (Nat.eq_of_beq_eq_true u);simpa using this) w k
variable{ts:Fq}
theorem lR{parts:List AF}(h:vals U parts=some ts)(he:ts=l.map e)(p:∀a,(e a).cells.length=n)(k:WO S K os ((d,.ow (.list n (l.map e)))::U)):WO S K (⟨some d,.yI n parts,none⟩::os) U:=by
 replace k:=k.out;refine⟨?_⟩;subst he;simp[wpOps,PR.wp,AE.wp,h,AX];refine⟨fun t u=>?_,k⟩
 grind
variable{s:Nat}{r:List α}
theorem lO{y:AF}{es p rs:Fq}(h:Ai l m=some r)(u:U.get s=.ow (.list n es))(w:y.val U=some (.list n p))(he:es=l.map e)(hf:p=m.map e)(A:rs=r.map e)
  (k:WO S K os ((d,.ow (.list n rs))::(s,.tv (.list n es))::U)):WO S K (⟨some d,.app n (.s s) y,none⟩::os) U:=by
 replace k:=k.out;refine⟨?_⟩;subst hf A;unfold Ai at h;split at h
 .rename_i B;cases h;simp only[wpOps,PR.wp,AE.wp,AF.ev,u,w,he,c7];rw[he]at k;refine⟨by simp,by simp,B,?_⟩;rw[List.map_append]at k;exact k
 .cases h
variable{f:FuncId}
theorem qC{args:List AF}(h:vals U args=some ts)(p:S f ts (.sh t))(k:WO S K os ((d,.tv t)::U)):WO S K (⟨some d,.call f args,none⟩::os) U:=by
 replace k:=k.out;refine⟨?_⟩;simp[wpOps,PR.wp,AE.wp,h,AX];exact⟨_,⟨p,rfl⟩,fun _=>k⟩
theorem qJ{x i:AF}{s:ByteArray}{ik:IntKind}{j b:Int}(p:xc s j=some b)(h:x.val U=some (.str s))(hi:i.val U=some (.int ik j))(k:WO S K os ((d,.tv (.int .u8 b))::U)):WO S K (⟨some d,.xc x i,none⟩::os) U:=by
 replace k:=k.out;refine⟨?_⟩;unfold xc at p;split at p
 .rename_i u;rw[Option.map_eq_some_iff]at p;obtain⟨c,w,rfl⟩:=p;simp[wpOps,PR.wp,AE.wp,h,hi];exact⟨u,c,w,k⟩
 .cases p
theorem qH{mx:Bool}{x y:AF}{ik:IntKind}{a b:Int}(h:x.val U=some (.int ik a))(p:y.val U=some (.int ik b))(k:WO S K os ((d,.tv (.int ik (if mx then max a b else min a b)))::U)):WO S K (⟨some d,.mm mx x y,none⟩::os) U:=by
 replace k:=k.out;refine⟨?_⟩;simp only[wpOps,PR.wp,AE.wp,h,p];exact⟨trivial,k⟩
theorem tX{x y:AF}{ik:IntKind}{a b:Int}(h:x.val U=some (.int ik a))(p:y.val U=some (.int ik b))(k:WO S K os ((d,.tv (.int ik (max a b)))::U)):WO S K (⟨some d,.mm true x y,none⟩::os) U:=qH h p k
theorem tY{x y:AF}{ik:IntKind}{a b:Int}(h:x.val U=some (.int ik a))(p:y.val U=some (.int ik b))(k:WO S K os ((d,.tv (.int ik (min a b)))::U)):WO S K (⟨some d,.mm false x y,none⟩::os) U:=qH h p k
variable{off:Nat}
theorem vD{x v:AF}{cs cs':List AN}(h:x.place U=some (s,off))(p:U.get s=.bx cs)(hv:v.ev U=.tv t)(u:t.cells.length=n)(w:Nat.ble (off+n) cs.length=true)(A:cs.take off++t.cells.map (⟨false,·⟩)++cs.drop (off+n)=cs')
  (k:WO S K os ((s,.bx cs')::U)):WO S K (⟨none,.st n x v,none⟩::os) U:=by
 replace k:=k.out;refine⟨?_⟩;subst A;simp only[wpOps,PR.wp,AE.wp,h,p,hv];exact⟨u,Nat.le_of_ble_eq_true w,k⟩
theorem tq{s off q:Nat}{x:AF}{cs cs':List AN}(h:x.place U=some (s,off))(p:U.get s=.bx cs)(hv:U.get q=.ow t)(u:q≠s)(w:Nat.blt off cs.length=true)(A:cs.set off ⟨true,t⟩=cs')
  (k:WO S K os ((s,.bx cs')::(q,.tv t)::U)):WO S K (⟨none,.st 1 x (.s q),none⟩::os) U:=by
 replace k:=k.out;refine⟨?_⟩;subst A;simp only[wpOps,PR.wp,AE.wp,h,p,AF.ev,hv];exact⟨u,trivial,Nat.le_of_ble_eq_true w,k⟩
variable{v:AF}
theorem tj{cs cs':List AN}(h:U.get s=.bx cs)(hv:v.ev U=.tv t)(p:t.cells.length=n)(u:Nat.ble (0+n) cs.length=true)(w:cs.take 0++t.cells.map (⟨false,·⟩)++cs.drop (0+n)=cs')
  (k:WO S K os ((s,.bx cs')::U)):WO S K (⟨none,.yy n s v,none⟩::os) U:=by
 replace k:=k.out;refine⟨?_⟩;subst w;simp only[wpOps,PR.wp,AE.wp,h,hv];exact⟨p,Nat.le_of_ble_eq_true u,k⟩
theorem tS{cs:List AN}{row:Fq}(h:U.get s=.bx cs)(p:cs.map (·.t)=row)(k:WO S K os ((s,.tv (.pt row))::U)):WO S K (⟨none,.ze s,none⟩::os) U:=by
 replace k:=k.out;refine⟨?_⟩;subst p;simp[wpOps,PR.wp,AE.wp,h];exact k
theorem nB{args:List AF}{cs:List AN}(h:vals U args=some ts)(p:S f ts (.wQ cs))(u:TV.agg (cs.map fun c=>c.rel.t)=t)(k:WO S K os ((d,.tv t)::U)):WO S K (⟨some d,.call f args,none⟩::os) U:=by
 replace k:=k.out;refine⟨?_⟩;subst u;simp[wpOps,PR.wp,AE.wp,h,AX];exact⟨_,⟨p,rfl⟩,fun _=>k⟩
theorem lP{x:AF}{es:Fq}(h:x.val U=some (.list n es))(he:es=l.map e)(k:∀b:Bool,(b=true->l=[])->WO S K os ((d,.tv (.bool b))::U)):WO S K (⟨some d,.y9 x,none⟩::os) U:=by
 replace k:=fun b p=>(k b p).out;refine⟨?_⟩;simp only[wpOps,PR.wp,AE.wp,h];intro b p;refine k b fun u=>?_;have:=p u;rw[he]at this;simpa using this
theorem qE{x:AF}(h:x.val U=some .nil)(k:WO S K os ((d,.tv (.bool true))::U)):WO S K (⟨some d,.y9 x,none⟩::os) U:=by
 replace k:=k.out;refine⟨?_⟩;simp[wpOps,PR.wp,AE.wp,h];exact k
theorem lv(h:Ai [] l=some r)(b:Bool)(k:b=true->l=[]):(if b=true then some []else(Ai [] l).bind fun x=>some x)=some r:=by grind[Ai]
variable{j:Int}
theorem FZ{a:α}(h:idx l j=some a):0<=j/\j<l.length/\l[j.toNat]?=some a:=by
 unfold idx at h
 grind
theorem Ws(p:∀a,(e a).cells.length=n):∀(l:List α)(j k:Nat)(a:α),l[j]?=some a->k<n->((l.map e).flatMap TV.cells)[j*n+k]?=(e a).cells[k]?
 |[],j,k,a,h,_=>by simp at h|b::l,0,k,a,h,u=>by
  grind
 |b::l,j+1,k,a,h,u=>by
  rw [List.getElem?_cons_succ]at h;rw[List.map_cons,List.flatMap_cons,List.getElem?_append_right (by rw[p,Nat.add_mul];omega),p,show(j+1)*n+k-n=j*n+k from by rw[Nat.add_mul];omega];exact Ws p l j k a h u
theorem ZJ(p:∀a,(e a).cells.length=n)(t:TV):∀(l:List α)(j k:Nat)(a b:α),l[j]?=some a->k<n->(e b).cells=(e a).cells.set k t->((l.set j b).map e).flatMap TV.cells=((l.map e).flatMap TV.cells).set (j*n+k) t
 |[],j,k,a,b,h,_,_=>by simp at h|c::l,0,k,a,b,h,u,w=>by
  grind
 |c::l,j+1,k,a,b,h,u,w=>by
  rw [List.getElem?_cons_succ]at h;rw[List.set_cons_succ,List.map_cons,List.map_cons,List.flatMap_cons,List.flatMap_cons,List.set_append_right _ _ (by rw[p,Nat.add_mul];omega),p,show(j+1)*n+k-n=j*n+k from by rw[Nat.add_mul];omega,ZJ p t l j k a b h u w]
theorem iK(h:∀a,(e a).cells.length=n)(l:List α):((l.map e).flatMap TV.cells).length=l.length*n:=by
 induction l with
 |nil=>simp|cons b l k=>rw[List.map_cons,List.flatMap_cons,bk,k,h,cE,Nat.add_mul];omega
theorem Py(h:∀a,(e a).flat=true):∀(l:List α),TV.wv (l.map e)=true
 |[]=>rfl|a::l=>by simp[TV.wv,h a,Py h l]
theorem qL{x:AF}{q:Nat×Option Nat}{es:Fq}(h:x.wn U=some (q,n,es))(he:es=l.map e)(k:WO S K os ((d,.tv (.int .i64 l.length))::U)):WO S K (⟨some d,.yD x,none⟩::os) U:=by
 replace k:=k.out;refine⟨?_⟩;subst he;simp[wpOps,PR.wp,AE.wp,h,AX];exact k
variable{qi:Option Nat}
theorem tu{x i:AF}{q n:Nat}{es:Fq}{ik:IntKind}{a:α}(p:idx l j=some a)(h:x.wn U=some ((q,qi),n,es))(hi:i.val U=some (.int ik j))(he:es=l.map e)(u:(x.ev U).we=some q)
  (k:WO S K os ((d,.lp q qi (j.toNat*n))::U)):WO S K (⟨some d,.zy x i n,none⟩::os) U:=by
 replace k:=k.out;refine⟨?_⟩;subst he;obtain⟨w,A,_⟩:=FZ p;simp only[wpOps,PR.wp,AE.wp,h,hi,AX,c7];exact⟨⟨u,trivial⟩,w,A,k⟩
theorem lW{x:AF}{q c n i:Nat}{es row:Fq}{a:α}(h:x.ev U=.lp q qi c)(p:U.tl q qi=some (n,es))(he:es=l.map e)(u:∀a,(e a).cells.length=n)(w:idx l j=some a)(A:c=j.toNat*n+i)(hi:Nat.blt i n=true)(B:(e a).cells=row)(C:row[i]?=some t)
  (k:WO S K os ((d,.tv t)::U)):WO S K (⟨some d,.zD x,none⟩::os) U:=by
 replace k:=k.out;refine⟨?_⟩;subst he A B;have hf:=Ws u l j.toNat i a (FZ w).2.2 (Nat.le_of_ble_eq_true hi);simp[wpOps,PR.wp,AE.wp,h,p,hf,C,AX];exact k
theorem tw{x i:AF}{q n:Nat}{es:Fq}{ik:IntKind}{a:α}(p:idx l j=some a)(h:x.ev U=.la q none)(u:U.get q=.xo n es)(hi:i.val U=some (.int ik j))(he:es=l.map e)
  (k:WO S K os ((d,.lp q none (j.toNat*n))::U)):WO S K (⟨some d,.zv x i n,none⟩::os) U:=by
 replace k:=k.out;refine⟨?_⟩;subst he;obtain⟨w,A,_⟩:=FZ p;simp only[wpOps,PR.wp,AE.wp,h,hi,u,c7];exact⟨trivial,w,A,k⟩
theorem lY{x:AF}{q c n i:Nat}{es row:Fq}{a:α}(h:x.ev U=.lp q none c)(p:U.get q=.xo n es)(he:es=l.map e)(u:∀a,(e a).cells.length=n)(w:idx l j=some a)(A:c=j.toNat*n+i)(hi:Nat.blt i n=true)(B:(e a).cells=row)(C:row[i]?=some t)
  (k:WO S K os ((d,.tv t)::U)):WO S K (⟨some d,.y8 x,none⟩::os) U:=by
 replace k:=k.out;refine⟨?_⟩;subst he A B;have hf:=Ws u l j.toNat i a (FZ w).2.2 (Nat.le_of_ble_eq_true hi);simp[wpOps,PR.wp,AE.wp,h,p,hf,C,AX];exact k
theorem lZ{x v:AF}{q c n i:Nat}{env':AB}{es rs:Fq}{a b:α}(h:x.ev U=.lp q qi c)(F:U.tl q qi=some (n,es))(hv:v.ev U=.tv t)(he:es=l.map e)(w:∀a,(e a).cells.length=n)(G:idx l j=some a)(H:c=j.toNat*n+i)(hi:Nat.blt i n=true)(D:t.cells=[t])
  (I:(e b).cells=(e a).cells.set i t)(J:rs=(BF l j b).map e)(A:U.ww q qi n rs=env')(k:WO S K os env'):WO S K (⟨none,.yx x v 1,none⟩::os) U:=by
 replace k:=k.out;refine⟨?_⟩;subst he H J A;obtain⟨N,O,E⟩:=FZ G;have B:i<n:=Nat.le_of_ble_eq_true hi;have p:j.toNat<l.length:=(List.getElem?_eq_some_iff.1 E).1;simp only[wpOps,PR.wp,AE.wp,h,F,hv];have C:j.toNat*n+i<l.length*n:=calc j.toNat*n+i<j.toNat*n+n:=by omega
   _=(j.toNat+1)*n:=by rw[Nat.add_mul];omega
   _<=l.length*n:=Nat.mul_le_mul_right _ p
 refine ⟨⟨by rw[D];rfl,by omega⟩,?_,_,(ZJ w t l j.toNat i a b E B I).trans (by rw[D,List.set_eq_take_append_cons_drop,a6 (by rw[iK w];exact C)];simp),by simp,fun u L=>?_,k⟩
 .rw[c7]
  calc j.toNat*n+i<j.toNat*n+n:=by omega
   _=(j.toNat+1)*n:=by rw[Nat.add_mul];omega
   _<=l.length*n:=Nat.mul_le_mul_right _ p
 .obtain⟨M,_,rfl⟩:=List.mem_map.1 L;exact w M
theorem ZI(k:∀a,(e a).cells.length=n):∀(l:List α)(j:Nat)(b:α),j<l.length->((l.set j b).map e).flatMap TV.cells=((l.map e).flatMap TV.cells).take (j*n)++(e b).cells++((l.map e).flatMap TV.cells).drop (j*n+n)
 |[],j,b,h=>by simp at h|c::l,0,b,h=>by
  grind
 |c::l,j+1,b,h=>by
  rw [List.set_cons_succ,List.map_cons,List.map_cons,List.flatMap_cons,List.flatMap_cons,ZI k l j b (by simpa using h),show(j+1)*n=(e c).cells.length+j*n from by rw[k,Nat.add_mul];omega,Nat.add_assoc,List.take_length_add_append,List.drop_length_add_append,c8,c8,c8]
theorem lb{x v:AF}{q n:Nat}{env':AB}{es:Fq}{a b:α}(h:x.ev U=.lp q qi (j.toNat*n))(D:U.tl q qi=some (n,es))(hv:v.ev U=.tv (e b))(he:es=l.map e)(w:∀a,(e a).cells.length=n)(E:idx l j=some a)(F:Nat.blt 0 n=true)
  (A:U.ww q qi n ((BF l j b).map e)=env')(k:WO S K os env'):WO S K (⟨none,.yx x v n,none⟩::os) U:=by
 replace k:=k.out;refine⟨?_⟩;subst he A;obtain⟨J,L,H⟩:=FZ E;have B:0<n:=Nat.le_of_ble_eq_true F;have p:j.toNat<l.length:=(List.getElem?_eq_some_iff.1 H).1;have C:j.toNat*n+n<=l.length*n:=calc j.toNat*n+n=(j.toNat+1)*n:=by rw[Nat.add_mul];omega
   _<=l.length*n:=Nat.mul_le_mul_right _ p
 simp only[wpOps,PR.wp,AE.wp,h,D,hv];refine⟨⟨w b,B⟩,by rw[c7];exact C,_,ZI w l j.toNat b p,by simp,fun u G=>?_,k⟩;obtain⟨I,_,rfl⟩:=List.mem_map.1 G;exact w I
theorem p9{y:AF}{es p rs:Fq}(h:Ai l m=some r)(u:U.get s=.xo n es)(w:y.val U=some (.list n p))(he:es=l.map e)(hf:p=m.map e)(A:rs=r.map e)(B:U.f0 d=true)(hd:d≠s)
  (k:WO S K os ((d,.xo n rs)::(s,.undef)::U)):WO S K (⟨some d,.x4 n s y,none⟩::os) U:=by
 replace k:=k.out;refine⟨?_⟩;subst he hf A;unfold Ai at h;split at h
 .rename_i C;cases h;simp only[wpOps,PR.wp,AE.wp,u,w,c7];rw[List.map_append]at k;exact⟨trivial,trivial,C,B,hd,k⟩
 .cases h
theorem jc{args:List AF}{ts es:Fq}(h:U.f0 d=true)(p:vals U args=some ts)(u:S f ts (.own (.list n es)))(he:es=l.map e)(hf:∀a,(e a).flat=true)(k:WO S K os ((d,.xo n es)::U)):WO S K (⟨some d,.xz f args,none⟩::os) U:=by
 replace k:=k.out;refine⟨?_⟩;simp[wpOps,PR.wp,AE.wp,p,AX];exact⟨h,n,es,.inr ⟨u,by rw[he];exact Py hf l⟩,fun _=>k⟩
variable{rs:Fq}{z:α}
theorem lV{x:AF}{ik:IntKind}(h:GO j z=some r)(u:U.f0 d=true)(w:x.val U=some (.int ik j))(A:(match zero with|[t]=>t|ts=>.agg ts)=e z)(B:rs=r.map e)
  (k:WO S K os ((d,.xo n rs)::U)):WO S K (⟨some d,.yg n zero x,none⟩::os) U:=by
 replace k:=k.out;refine⟨?_⟩;subst B;unfold GO at h;split at h
 .rename_i p;cases h;rw[List.map_replicate,<-A]at k;simp[wpOps,PR.wp,AE.wp,w];exact⟨u,p.1,p.2,k⟩
 .cases h
theorem qG{n m:Nat}{x:AF}{ik:IntKind}{r:List Fp}(h:GO j ([]:Fp)=some r)(p:U.f0 d=true)(u:x.val U=some (.int ik j))(w:rs=r.map fun l:Fp=>TV.list m (l.map (TV.int .i64)))
  (k:WO S K os ((d,.xo n rs)::U)):WO S K (⟨some d,.yg n [.list m []] x,none⟩::os) U:=lV h p u (e:=fun l:Fp=>TV.list m (l.map (TV.int .i64))) rfl w k
theorem lU{x:AF}{ik:IntKind}(h:GO j z=some r)(u:U.f0 d=true)(w:x.val U=some (.int ik j))(A:(match zero with|[t]=>t|ts=>.agg ts)=e z)(B:rs=r.map e)
  (k:WO S K os ((d,.ow (.list n rs))::U)):WO S K (⟨some d,.yR n zero x,none⟩::os) U:=by
 replace k:=k.out;refine⟨?_⟩;subst B;unfold GO at h;split at h
 .rename_i p;cases h;rw[List.map_replicate,<-A]at k;simp[wpOps,PR.wp,AE.wp,w];exact⟨u,p.1,p.2,k⟩
 .cases h
theorem qF{n m:Nat}{x:AF}{ik:IntKind}{r:List Fp}(h:GO j ([]:Fp)=some r)(p:U.f0 d=true)(u:x.val U=some (.int ik j))(w:rs=r.map fun l:Fp=>TV.list m (l.map (TV.int .i64)))
  (k:WO S K os ((d,.ow (.list n rs))::U)):WO S K (⟨some d,.yR n [.list m []] x,none⟩::os) U:=lU h p u (e:=fun l:Fp=>TV.list m (l.map (TV.int .i64))) rfl w k
theorem ov:([]:List AN).all AN.xa=true:=rfl
theorem mH{cs:List AN}(hf:∀a,(e a).flat=true)(h:cs.all AN.xa=true):((⟨true,.list n (l.map e)⟩:AN)::cs).all AN.xa=true:=by
 rw [List.all_cons,h,Bool.and_true];exact Py hf l
theorem tR{hi:AF}{es rs:Fq}{ik:IntKind}(h:xu l 0 j=some r)(u:U.get s=.xo n es)(w:hi.val U=some (.int ik j))(he:es=l.map e)(A:rs=r.map e)(B:U.f0 d=true)(hd:d≠s)(k:WO S K os ((d,.xo n rs)::(s,.undef)::U)):WO S K (⟨some d,.cut n s hi,none⟩::os) U:=by
 replace k:=k.out;refine⟨?_⟩;subst he A;obtain⟨⟨C,D⟩,p⟩:=aA h;subst p;simp only[wpOps,PR.wp,AE.wp,u,w];refine⟨⟨trivial,B,hd⟩,C.2,by rw[c7];exact D,?_⟩;have p:((l.take j.toNat).drop (0:Int).toNat).map e=(l.map e).take j.toNat:=by simp
 rw [p]at k;exact k
theorem jY{args:List AF}{ts es:Fq}(h:wN U args=some ts)(p:S f ts (.own t))(u:t=.list n es)(he:es=l.map e)(hf:∀a,(e a).flat=true)(k:WO S K os ((d,.ow t)::U)):WO S K (⟨some d,.xD f args,none⟩::os) U:=by
 replace k:=k.out;refine⟨?_⟩;subst u he;simp[wpOps,PR.wp,AE.wp,h,AX];exact⟨_,⟨p,Py hf l⟩,fun _=>k⟩
def Yr{α:Type}(l:List α)(j:Int)(z:α):Option (List α):=if(0<=j/\j<=4096)/\l.length+j.toNat<=Aj then some (l++List.replicate j.toNat z)else none
theorem qA{p:TV}{x:AF}{es rs:Fq}{ik:IntKind}(h:Yr l j z=some r)(A:U.get s=.xo n es)(B:x.val U=some (.int ik j))(he:es=l.map e)(C:p=e z)(D:rs=r.map e)(E:U.f0 d=true)(hd:d≠s)(u:n=1)(F:p.cells=[p])(k:WO S K os ((d,.xo n rs)::(s,.undef)::U)):WO S K (⟨some d,.yj n s p x,none⟩::os) U:=by
 replace k:=k.out;refine⟨?_⟩;subst he D;unfold Yr at h;split at h
 .rename_i w;cases h;simp only[wpOps,PR.wp,AE.wp,A,B];refine⟨⟨⟨trivial,u⟩,F⟩,w.1,⟨by rw[c7];exact w.2,E,hd⟩,?_⟩;rw[List.map_append,List.map_replicate,<-C]at k;exact k
 .cases h
variable{i:Nat}
theorem nA{args:List AF}{ts h:Fq}{cs cs':List AN}{e:EV}(p:(args[i]?).bind (·.place U)=some (s,0))(u:U.get s=.bx cs)(w:U.yp s none=true)(hd:d≠s)(A:Hx U i args=some ts)(B:S f ts (.bo cs cs' i h))(he:EV.zf h=e)(k:WO S K os ((d,e)::(s,.bx cs')::U)):WO S K (⟨some d,.w6 f args i,none⟩::os) U:=by
 replace k:=k.out;refine⟨?_⟩;subst he;simp only[wpOps,PR.wp,AE.wp,p,u,A,AX];exact⟨⟨w,hd⟩,cs',h,B,fun _=>k⟩
def VC{α:Type}(l:List α):Option Unit:=if l.isEmpty then none else some ()
theorem fF{u:Unit}{b:Bool}(h:VC l=some u)(k:b=true->l=[]):b=false:=by
 cases b with
 |false=>rfl|true=>rw[k rfl]at h;cases h
variable{g:Nat}
theorem ux{h:Option Nat}{op:AE}{b q:Bool}(p:U.get g=.tv (.bool q))(u:q=b)(k:WO S K (⟨h,op,none⟩::os) U):WO S K (⟨h,op,some (g,b)⟩::os) U:=by
 replace k:=k.out;refine⟨?_⟩
 grind [wpOps,PR.wp]
theorem sV{d:Nat}{op:AE}{b q:Bool}(p:U.get g=.tv (.bool q))(u:q=!b)(k:WO S K os ((d,.sk)::U)):WO S K (⟨some d,op,some (g,b)⟩::os) U:=by
 replace k:=k.out;refine⟨?_⟩;subst u;simp only[wpOps,PR.wp,p];exact⟨fun h=>by cases b<;>simp at h,fun _=>k⟩
theorem uy{d:Nat}{op:AE}{b:Bool}(h:U.get g=.sk)(k:WO S K os ((d,.sk)::U)):WO S K (⟨some d,op,some (g,b)⟩::os) U:=by
 replace k:=k.out;refine⟨?_⟩;simp[wpOps,PR.wp,h];exact k
theorem aQ(xs h:List PR)(U:AB):wpOps S K (xs++h) U=wpOps S (wpOps S K h) xs U:=by
 induction xs generalizing U with
 |nil=>rfl|cons x xs k=>
  simp only[List.cons_append,wpOps];congr 1;funext e;exact k e
theorem sU{ops:List PR}(n:Nat)(M:AB->AB->Prop)(h:WO S (M U) (ops.take n) U)(k:∀e,M U e->WO S K (ops.drop n) e):WO S K ops U:=by
 refine ⟨?_⟩;rw[<-List.take_append_drop n ops,aQ];exact PF S (fun e he=>(k e he).out) _ U h.out
variable{q:Q}{a b:PC}
theorem sH(h:WP S a ⟨fun e=>(∀s,(e.get s).WF)->WP S b q e,q.exit,q.ret⟩ U):WP S (.seq a b) q U:=⟨PC.ns S a _ U h.out _ (fun _ he k=>(he k).out) (fun _ _ h=>h) (fun _ h=>h)⟩
theorem oM{live:Ne}{env':AB}(k:U.ff live=env')(h:q.normal env'):WP S (.skip live) q U:=by subst k;exact⟨h⟩
theorem oL{live:Ne}{env':AB}(k:U.ff live=env')(h:q.exit i env'):WP S (.exit i live) q U:=by subst k;exact⟨h⟩
theorem Vl{x:AF}{c:Bool}(k:x.val U=some (.bool c))(p:c=true->WP S a q U)(hf:c=false->WP S b q U):WP S (.cond x a b) q U:=by
 refine ⟨?_⟩;simp[PC.wp,k];exact⟨fun h=>(p h).out,fun h=>(hf h).out⟩
theorem Qc{x:AF}{c:Bool}(k:x.val U=some (.bool c))(h:c=true)(p:WP S a q U):WP S (.cond x a b) q U:=by grind[Vl]
theorem Qb{x:AF}{c:Bool}(k:x.val U=some (.bool c))(h:c=false)(p:WP S b q U):WP S (.cond x a b) q U:=by grind[Vl]
theorem Wi(h:WP S a ⟨q.normal,fun j e=>if j=i then q.normal e else q.exit j e,q.ret⟩ U):WP S (.block i a) q U:=⟨h.out⟩
theorem ZA{x y:Prop}(h:x):if i=i then x else y:=by rw[a6 rfl];exact h
theorem l5{i j:Nat}{x y:Prop}(k:i≠j)(h:y):if i=j then x else y:=by rw[ae k];exact h
theorem sG(M:AB->Prop)(k:WP S a ⟨M,q.exit,q.ret⟩ U)(p:∀e,M e->q.normal e):WP S a q U:=⟨PC.ns S a _ U k.out q p (fun _ _ h=>h) (fun _ h=>h)⟩
section loops
variable{σ ρ:Type}{live:Ne}{c:PC}{i0:Nat}
variable{X:AB->Prop}
theorem kX{f:Int->σ->Option (Bx σ ρ)}{b:Int}(I:Int->σ->AB)(J:σ->AB)(R:ρ->AB->Prop)
  (p:∀i s r,i<b->f i s=some r->(∀k,((I i s).get k).WF)->c.wp S ⟨fun e=>∃s',r=.next s'/\e.ff live=I (i+1) s',fun j e=>j=i0/\∃s',r=.brk s'/\e=J s',fun e=>∃v,r=.ret v/\R v e⟩ (I i s))
  (u:∀i s,¬i<b->c.wp S ⟨fun _=>False,fun j e=>j=i0/\e=J s,fun _=>False⟩ (I i s))
  (hX:∀e,((∀s,(e.get s).WF)->c.wp S {q with normal:=fun C=>X (C.ff live)} e)->X e)(F:∀s,q.exit i0 (J s)\/True):
  ∀(n:Nat)(i:Int)(s:σ),n=(b-i).toNat->∀o,wo f n i s=some o->(∀s',o=.inl s'->q.exit i0 (J s'))->(∀v e,o=.inr v->R v e->q.ret e)->X (I i s):=by
 intro n
 induction n with
 |zero=>
  intro i s D o ho w A;refine hX _ fun B=>?_;refine PC.ns S c _ _ (u i s (by omega)) _ (fun _ h=>h.elim) (fun j e he=>?_) (fun _ h=>h.elim);obtain⟨rfl,rfl⟩:=he;simp[wo]at ho;exact w s ho.symm
 |succ n E=>
  intro i s D o ho w A;simp[wo]at ho;refine hX _ fun B=>?_;cases hf:f i s with
  |none=>rw[hf]at ho;cases ho
  |some r=>
   rw [hf]at ho;refine PC.ns S c _ _ (p i s r (by omega) hf B) _ (fun e he=>?_) (fun j e he=>?_) (fun e he=>?_)
   .obtain⟨s',rfl,he⟩:=he;show X (e.ff live);rw[he];exact E (i+1) s' (by omega) o ho w A
   .obtain⟨rfl,s',rfl,rfl⟩:=he;simp at ho;exact w s' ho.symm
   .obtain⟨v,rfl,he⟩:=he;simp at ho;exact A v e ho.symm he
variable{s0:σ}{o:σ ⊕ ρ}
theorem cW{f:Int->σ->Option (Bx σ ρ)}{lo b:Int}(ho:jj f lo b s0=some o)(I:Int->σ->AB)(J:σ->AB)(R:ρ->AB->Prop)(w:U.ff live=I lo s0)
  (p:∀i s r,i<b->f i s=some r->(∀k,((I i s).get k).WF)->WP S c ⟨fun e=>∃s',r=.next s'/\e.ff live=I (i+1) s',fun j e=>j=i0/\∃s',r=.brk s'/\e=J s',fun e=>∃v,r=.ret v/\R v e⟩ (I i s))
  (u:∀i s,¬i<b->WP S c ⟨fun _=>False,fun j e=>j=i0/\e=J s,fun _=>False⟩ (I i s))
  (A:∀s',o=.inl s'->q.normal (J s'))(B:∀v e,o=.inr v->R v e->q.ret e):WP S (.block i0 (.loop live c)) q U:=by
 refine Wi ⟨?_⟩;intro X hX;rw[w];refine kX (q:=⟨q.normal,fun j e=>if j=i0 then q.normal e else q.exit j e,q.ret⟩) I J R (fun i s r C D E=>(p i s r C D E).out) (fun i s h=>(u i s h).out) hX (fun _=>.inr trivial) _ lo s0 rfl o ho ?_ B;intro s' F;exact ZA (A s' F)
theorem bU{f:Int->σ->Option σ}:∀(n:Nat)(i:Int)(s o:σ),wT f n i s=some o->wo (fun i s=>(f i s).map (Bx.next (ρ:=Empty))) n i s=some (.inl o)
 |0,_,_,_,h=>by simp[wT]at h;subst h;rfl|n+1,i,s,o,h=>by
  simp [wT]at h;simp[wo];cases hf:f i s with
  |none=>rw[hf]at h;cases h
  |some s'=>rw[hf]at h;simp;exact bU n (i+1) s' o h
theorem nN{f:Int->σ->Option σ}{lo b:Int}{s0 o:σ}(ho:o4 f lo b s0=some o)(I:Int->σ->AB)(J:σ->AB)(w:U.ff live=I lo s0)
  (p:∀i s r,i<b->f i s=some r->(∀k,((I i s).get k).WF)->WP S c ⟨fun e=>e.ff live=I (i+1) r,fun _ _=>False,fun _=>False⟩ (I i s))
  (u:∀i s,¬i<b->WP S c ⟨fun _=>False,fun j e=>j=i0/\e=J s,fun _=>False⟩ (I i s))
  (A:q.normal (J o)):WP S (.block i0 (.loop live c)) q U:=by
 refine cW (f:=fun i s=>(f i s).map (Bx.next (ρ:=Empty))) (o:=.inl o) (bU _ _ _ _ ho) I J (fun _ _=>False) w ?_ u ?_ ?_
 .intro i s r hi hf B;simp at hf;obtain⟨s',hf,rfl⟩:=hf;exact⟨PC.ns S c _ _ (p i s s' hi hf B).out _ (fun e he=>⟨s',rfl,he⟩) (fun _ _ h=>h.elim) (fun _ h=>h.elim)⟩
 .intro s' h;cases h;exact A
 .intro v;cases v
theorem nP{f:σ->Option (Bx σ ρ)}(I:σ->AB)(J:σ->AB)(R:ρ->AB->Prop)
  (h:∀s r,f s=some r->(∀k,((I s).get k).WF)->c.wp S ⟨fun e=>∃s',r=.next s'/\e.ff live=I s',fun j e=>j=i0/\∃s',r=.brk s'/\e=J s',fun e=>∃v,r=.ret v/\R v e⟩ (I s))
  (hX:∀e,((∀s,(e.get s).WF)->c.wp S {q with normal:=fun w=>X (w.ff live)} e)->X e):
  ∀(n:Nat)(s:σ)(o:σ ⊕ ρ),QX f n s=some o->(∀s',o=.inl s'->q.exit i0 (J s'))->(∀v e,o=.inr v->R v e->q.ret e)->X (I s):=by
 intro n
 induction n with
 |zero=>intro s o ho;cases ho
 |succ n B=>
  intro s o ho p u;simp[QX]at ho;refine hX _ fun A=>?_;cases hf:f s with
  |none=>rw[hf]at ho;cases ho
  |some r=>
   rw [hf]at ho;refine PC.ns S c _ _ (h s r hf A) _ (fun e he=>?_) (fun j e he=>?_) (fun e he=>?_)
   .obtain⟨s',rfl,he⟩:=he;show X (e.ff live);rw[he];exact B s' o ho p u
   .obtain⟨rfl,s',rfl,rfl⟩:=he;simp at ho;exact p s' ho.symm
   .obtain⟨v,rfl,he⟩:=he;simp at ho;exact u v e ho.symm he
theorem ql{f:σ->Option (Bx σ ρ)}(ho:Gf f s0=some o)(I:σ->AB)(J:σ->AB)(R:ρ->AB->Prop)(p:U.ff live=I s0)
  (h:∀s r,f s=some r->(∀k,((I s).get k).WF)->WP S c ⟨fun e=>∃s',r=.next s'/\e.ff live=I s',fun j e=>j=i0/\∃s',r=.brk s'/\e=J s',fun e=>∃v,r=.ret v/\R v e⟩ (I s))
  (u:∀s',o=.inl s'->q.normal (J s'))(w:∀v e,o=.inr v->R v e->q.ret e):WP S (.block i0 (.loop live c)) q U:=by
 obtain ⟨N,D⟩:=DD ho;refine Wi ⟨?_⟩;intro X hX;rw[p];refine nP (q:=⟨q.normal,fun j e=>if j=i0 then q.normal e else q.exit j e,q.ret⟩) I J R (fun s r A B=>(h s r A B).out) hX N s0 o (D N (az _)) ?_ w;intro s' C;exact ZA (u s' C)
end loops
end
theorem vL{a b:Int}(h:a<b):decide (a<b)=true:=decide_eq_true h
theorem uw{a b:Int}(h:¬a<b):decide (a<b)=false:=decide_eq_false h
variable{t:TV}
theorem Yh(h:EV.WF (.tv t)):t.WF:=h
theorem t1(h:EV.WF (.ow t)):t.WF:=h
variable{n:Nat}
theorem t2{es:Fq}(h:EV.WF (.xo n es)):TV.WF (.list n es):=h
theorem lg{row:Fq}(h:EV.WF (.tv (.pt row))):TV.tn row:=h
variable{ts:Fq}{i:Nat}
theorem cR(h:TV.tn ts)(hi:ts[i]?=some t):t.WF:=by
 induction ts generalizing i with
 |nil=>simp at hi|cons x xs k=>
  cases i with
  |zero=>simp at hi;subst hi;exact h.1|succ i=>exact k h.2 (by simpa using hi)
variable{α:Type}{e:α->TV}{l:List α}
theorem qk(h:TV.WF (.list n (l.map e))):(l.length:Int)<=9223372036854775807:=by
 have:=h.1
 grind [c7,Im]
theorem UT{es:Fq}(h:TV.WF (.list n es))(he:es=l.map e):(l.length:Int)<=9223372036854775807:=by subst he;exact qk h
theorem nM{s:ByteArray}(h:TV.WF (.str s)):(s.size:Int)<=9223372036854775807:=by
 have:s.size<=Im:=h
 grind [Im]
theorem gj{n:Int}(h:TV.WF (.int .i64 n)):n<=9223372036854775807:=h.2
theorem aK(n:Int):AY n=if 9223372036854775808<=n % 18446744073709551616 then n % 18446744073709551616-18446744073709551616 else n % 18446744073709551616:=by
 have h:(2:Int)^ 64=18446744073709551616:=by decide
 have k:(2:Int)^ (64-1)=9223372036854775808:=by decide
 simp [AY,IntKind.wrap,IntKind.bits,IntKind.signed,Bool.true_and,wq,h,k,ge_iff_le]
theorem qh(n:Int):AY n<=9223372036854775807:=by grind[aK]
theorem At{n:Int}(h:-9223372036854775808<=n)(k:n<=9223372036854775807):AY n=n:=by grind[aK]
theorem t6{i b:Int}(hi:TV.WF (.int .i64 i))(h:i<b)(k:b<=9223372036854775807):IntKind.i64.wrap (i+1)=i+1:=by
 have p:(-9223372036854775808:Int)<=i:=hi.1
 grind [At]
end Go.Sf
