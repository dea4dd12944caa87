/- Steps of the pure language with typed values: one rule an operation, one a piece of code, one a kind of loop. -/
import Derived.Test.YtpagkickoiafkaaGreatSfSem
set_option linter.all false
open Option renaming some->Y,none->W
open Bool renaming true->X,false->T
open List renaming replicate->v?,eq_nil_of_length_eq_zero->w_,cons_append->w!,set_append_right->w?,take_append_drop->x_,map_append->x!,getElem?_cons_succ->x?,map_cons->y_,flatMap_cons->y!,set_cons_succ->y?,getElem?_eq_some_iff->z_,mem_map->z!,map_replicate->z?
open Nat renaming ble->A_,le_of_ble_eq_true->A',beq->A!,blt->A?,add_mul->B_,mul_le_mul_right->B'
namespace Go.Sf
abbrev Ag(n:Int):Int:=IntKind.i64.wrap n
def idx{α:Type}(l:List α)(j:Int):Option α:=if 0<=j then l[j.toNat]? else W
def slc{α:Type}(l:List α)(a b:Int):Option (List α):=if(0<=a/\a<=b)/\b<=l.length then Y ((l.take b.toNat).drop a.toNat)else W
def Aag(s:ByteArray)(a b:Int):Option ByteArray:=if 0<=a/\a<=b/\b<=s.size then Y (s.extract a.toNat b.toNat)else W
def Aac(s:ByteArray)(j:Int):K1:=if 0<=j then(s[j.toNat]?).map (λb=>(b.toNat:Int))else W
def Al{α:Type}(l m:List α):Option (List α):=if l.length+m.length<=AY then Y (l++m)else W
def quo(a b:Int):K1:=if b=0 then W else Y (a.tdiv b)
def Jn(a b:Int):K1:=if b=0 then W else Y (a.tmod b)
inductive B3(σ ρ:Type)where
 |next (s:σ)
 |brk (s:σ)
 |ret (r:ρ)
section loops
variable{σ ρ:Type}
def FR(f:Int->σ->Option (B3 σ ρ)):Nat->Int->σ->Option (σ ⊕ ρ)
 |0,_,s=>Y (.inl s)|n+1,i,s=>match f i s with
  |none=>W|some (.next s')=>FR f n (i+1) s'|some (.brk s')=>Y (.inl s')|some (.ret r)=>Y (.inr r)
def Aj(f:Int->σ->Option (B3 σ ρ))(a b:Int)(s:σ):Option (σ ⊕ ρ):=FR f (b-a).toNat a s
def RE(f:Int->σ->Option σ):Nat->Int->σ->Option σ
 |0,_,s=>Y s|n+1,i,s=>match f i s with
  |none=>W|some s'=>RE f n (i+1) s'
def BB(f:Int->σ->Option σ)(a b:Int)(s:σ):Option σ:=RE f (b-a).toNat a s
def VT(f:σ->Option (B3 σ ρ)):Nat->σ->Option (σ ⊕ ρ)
 |0,_=>W|n+1,s=>match f s with
  |none=>W|some (.next s')=>VT f n s'|some (.brk s')=>Y (.inl s')|some (.ret r)=>Y (.inr r)
end loops
class Ev where
 fuel:Option Nat
instance ev0:Ev:=⟨W⟩
open Classical in
noncomputable def cP{α:Type}(g:Nat->Option α):Option α:=if h:∃v N,∀n,N<=n->g n=Y v then Y h.choose else W
noncomputable def KT[e:Ev]{α:Type}(g:Nat->Option α):Option α:=match e.fuel with
 |none=>cP g|some n=>g n
variable{α:Type}
theorem Cl{g:Nat->Option α}{v:α}(h:KT g=Y v):∃N,∀n,N<=n->g n=Y v:=by
 change cP g=Y v at h;unfold cP at h;split at h
 next k=>cases h;exact k.choose_spec
 .cases h
theorem EG{g:Nat->Option α}{v:α}(N:Nat)(h:∀n,N<=n->g n=Y v):KT g=Y v:=by
 have k:∃v N,∀n,N<=n->g n=Y v:=⟨v,N,h⟩;show cP g=Y v;unfold cP;rw[dif_pos k];obtain⟨M,u⟩:=k.choose_spec;have p:=h (max N M) (Nat.le_max_left _ _)
 grind
noncomputable def EI[Ev]{σ ρ:Type}(f:σ->Option (B3 σ ρ))(s:σ):Option (σ ⊕ ρ):=KT λn=>VT f n s
def AL{σ ρ β:Type}(o:Option (σ ⊕ ρ))(k:σ->Option β)(kr:ρ->Option β):Option β:=
 match o with
 |none=>W|some (.inl s)=>k s|some (.inr v)=>kr v
theorem YJ{σ ρ β:Type}{o:Option (σ ⊕ ρ)}{k:σ->Option β}{p:ρ->Option β}{b:β}(h:AL o k p=Y b):∃x,o=Y x/\AL (Y x) k p=Y b:=by
 cases o with
 |none=>cases h
 |some x=>exact⟨x,rfl,h⟩
theorem iC{σ ρ β:Type}{x:σ ⊕ ρ}{k:σ->Option β}{p:ρ->Option β}{b:β}{s:σ}(h:AL (Y x) k p=Y b)(u:x=.inl s):k s=Y b:=by subst u;exact h
theorem iD{σ ρ β:Type}{x:σ ⊕ ρ}{k:σ->Option β}{p:ρ->Option β}{b:β}{v:ρ}(h:AL (Y x) k p=Y b)(u:x=.inr v):p v=Y b:=by subst u;exact h
def BM{α:Type}(l:List α)(j:Int)(a:α):List α:=l.set j.toNat a
def GV{α:Type}(j:Int)(a:α):Option (List α):=if 0<=j/\j<=4096 then Y (v? j.toNat a)else W
def VO(a b:ByteArray):Option ByteArray:=if a.size+b.size<=AY then Y (a++b)else W
variable{β:Type}
theorem bind_some{x:Option α}{f:α->Option β}{b:β}(h:x.bind f=Y b):∃a,x=Y a/\f a=Y b:=Option.bind_eq_some_iff.1 h
theorem Xj{c:Bool}{a b:α}{r:α}(k:c=X)(h:(if c=X then a else b)=r):a=r:=m_
theorem Xi{c:Bool}{a b:α}{r:α}(k:c=T)(h:(if c=X then a else b)=r):b=r:=m_
structure WO(S:FuncId->Fq->At->Prop)(K:AB->Prop)(os:List PR)(O:AB):Prop where
 of::out:wpOps S K os O
structure WP(S:FuncId->Fq->At->Prop)(c:PC)(q:Q)(O:AB):Prop where
 of::out:c.wp S q O
section
variable{S:FuncId->Fq->At->Prop}{K:AB->Prop}{os:List PR}{O:AB}{d:Nat}
variable{t:TV}
theorem ZL{x:AF}(h:x.val O=Y t):x.ev O=.tv t\/x.ev O=.ow t:=by
 unfold AF.val EV.val at h;split at h<;>simp_all
def AE.AbG:AE->Nat
 |.bin .i .quo _ _=>0|.bin .i .rem _ _=>0|.bin .s .add _ _=>0|.bin .w _ _ _=>0|.bin (.a _) _ _ _=>0|.bin ..=>1|o=>4042110221010223200010221334134211003223343421200140120221211411133400441001102212411111 / 10^ o.ctorIdx % 10
theorem st(n:Nat){op:AE}{e:EV}{env':AB}(_:op.AbG=n)(h:∀p,p e env'->op.wp S O (Y d) p)(k:WO S K os ((d,e)::env')):WO S K (⟨Y d,op,W⟩::os) O:=⟨h (λe O=>wpOps S K os (O.put (Y d) e)) k.out⟩
theorem sn{op:AE}{env':AB}(_:op.AbG=2)(h:∀p,p EV.undef env'->op.wp S O W p)(k:WO S K os env'):WO S K (⟨W,op,W⟩::os) O:=⟨h (λ_ O=>wpOps S K os O) k.out⟩
variable{α:Type}{n:Nat}{e:α->TV}{l:List α}{j:Int}
theorem zU{x i:AF}{es row:Fq}{ik:IntKind}{a:α}(h:idx l j=Y a)(p:x.val O=Y (.list n es))(hi:i.val O=Y (.int ik j))(he:es=l.map e)(u:(e a).cells=row)
  (k:WO S K os ((d,.tv (.pt row))::O)):WO S K (⟨Y d,.iad x i n,W⟩::os) O:=by
 replace k:=k.out;refine⟨?_⟩;subst he u;simp only[wpOps,PR.wp,AE.wp,p,hi];unfold idx at h;split at h
 next w=>exact⟨trivial,w,e a,by rw[List.getElem?_map,h];rfl,k⟩
 .cases h
theorem AAz{x:AF}{r:Fq}(h:A7 O (x.ev O)=Y (t::r))(p:t.Aai=T)(k:WO S K os ((d,.tv t)::O)):WO S K (⟨Y d,.ld x,W⟩::os) O:=by
 replace k:=k.out;refine⟨?_⟩;simp[wpOps,PR.wp,AE.wp,h,Ai,E4];exact⟨p,k⟩
def eO{α:Type}(n:Nat)(e:α->TV):Option (List α)->TV
 |none=>.nil|some l=>.list n (l.map e)
theorem zV{l:Option (List α)}{x:AF}{r:Fq}(h:A7 O (x.ev O)=Y (eO n e l::r))(k:WO S K os ((d,.tv (eO n e l))::O)):WO S K (⟨Y d,.ld x,W⟩::os) O:=AAz h (by cases l<;>rfl) k
theorem rM{x:AF}{cs:Fq}(h:A7 O (x.ev O)=Y cs)(hn:A_ n cs.length=X)(p:TV.agg (cs.take n)=t)(k:WO S K os ((d,.tv t)::O)):WO S K (⟨Y d,.lda x n,W⟩::os) O:=by
 replace k:=k.out;refine⟨?_⟩;subst p;simp[wpOps,PR.wp,AE.wp,h,Ai];exact⟨A' hn,k⟩
variable{s:Nat}
theorem zW{cs:List AQ}(h:O.get s=.bx cs)(hn:A_ n (cs.map (·.t)).length=X)(p:TV.agg ((cs.map (·.t)).take n)=t)(k:WO S K os ((d,.tv t)::O)):WO S K (⟨Y d,.ldb s n,W⟩::os) O:=by
 replace k:=k.out;refine⟨?_⟩;subst p;simp only[wpOps,PR.wp,AE.wp,h];exact⟨A' hn,k⟩
section bins
variable{x y:AF}{ik:IntKind}{a b:Int}
theorem Vz{h:BK}{op:BinOp}{u v t:TV}(p:x.val O=Y u)(w:y.val O=Y v)(A:Ll h op u v=Y t)(k:WO S K os ((d,.tv t)::O)):WO S K (⟨Y d,.bin h op x y,W⟩::os) O:=by
 replace k:=k.out;refine⟨?_⟩;simp[wpOps,PR.wp,AE.wp,p,w,A,Ai];exact k
theorem zf{q:Int}(h:quo a b=Y q)(p:x.val O=Y (.int ik a))(u:y.val O=Y (.int ik b))(k:WO S K os ((d,.tv (.int ik (ik.wrap q)))::O)):WO S K (⟨Y d,.bin .i .quo x y,W⟩::os) O:=by grind[Vz,quo,Ll,intCmp,intArith,Option.some.inj]
theorem zg{q:Int}(h:Jn a b=Y q)(p:x.val O=Y (.int ik a))(u:y.val O=Y (.int ik b))(k:WO S K os ((d,.tv (.int ik q))::O)):WO S K (⟨Y d,.bin .i .rem x y,W⟩::os) O:=by grind[Vz,Jn,Ll,intCmp,intArith,Option.some.inj]
theorem zR{op:BinOp}{h:IntKind}{r:Int}(p:MN ik op a b=Y r)(u:x.val O=Y (.int ik a))(A:y.val O=Y (.int h b))(B:ik=h\/op=.shl\/op=.shr)(k:WO S K os ((d,.tv (.int ik r))::O)):WO S K (⟨Y d,.bin .w op x y,W⟩::os) O:=by grind[Vz,Ll]
theorem we{u v t:ByteArray}(h:VO u v=Y t)(p:x.val O=Y (.str u))(w:y.val O=Y (.str v))(k:WO S K os ((d,.tv (.str t))::O)):WO S K (⟨Y d,.bin .s .add x y,W⟩::os) O:=by grind[Vz,VO,Ll,Option.some.inj]
theorem ma{n:I2}{cs ds:Fq}{r:Bool}(p:x.val O=Y (.agg cs))(u:y.val O=Y (.agg ds))(hn:cs.map TV.kd=n)(h:B1 cs ds=Y r)(k:WO S K os ((d,.tv (.bool r))::O)):WO S K (⟨Y d,.bin (.a n) .eql x y,W⟩::os) O:=by grind[Vz,Ll]
theorem mb{n:I2}{cs ds:Fq}{r:Bool}(p:x.val O=Y (.agg cs))(u:y.val O=Y (.agg ds))(hn:cs.map TV.kd=n)(h:B1 cs ds=Y r)(k:WO S K os ((d,.tv (.bool (!r)))::O)):WO S K (⟨Y d,.bin (.a n) .neq x y,W⟩::os) O:=by grind[Vz,Ll]
end bins
variable{t:TV}
theorem tZ{c a b:AF}{q:Bool}(p:c.val O=Y (.bool q))(u:q=X)(h:a.val O=Y t)(k:WO S K os ((d,.tv t)::O)):WO S K (⟨Y d,.pick c a b,W⟩::os) O:=by
 replace k:=k.out;refine⟨?_⟩;subst u;simp[wpOps,PR.wp,AE.wp,p];rcases ZL h with h|h<;>rw[h]<;>exact k
theorem tY{c a b:AF}{q:Bool}(p:c.val O=Y (.bool q))(u:q=T)(h:b.val O=Y t)(k:WO S K os ((d,.tv t)::O)):WO S K (⟨Y d,.pick c a b,W⟩::os) O:=by
 replace k:=k.out;refine⟨?_⟩;subst u;simp[wpOps,PR.wp,AE.wp,p];rcases ZL h with h|h<;>rw[h]<;>exact k
variable{α:Type}{n:Nat}{e:α->TV}{l:List α}
theorem zX{x:AF}{es:Fq}(h:x.val O=Y (.list n es))(he:es=l.map e)(k:WO S K os ((d,.tv (.int .i64 l.length))::O)):WO S K (⟨Y d,.len x,W⟩::os) O:=by
 replace k:=k.out;refine⟨?_⟩;subst he;simp[wpOps,PR.wp,AE.wp,h];exact k
variable{m:List α}
theorem de{a b:Int}(h:slc l a b=Y m):((0<=a/\a<=b)/\b<=l.length)/\m=(l.take b.toNat).drop a.toNat:=by
 unfold slc at h
 grind
variable{ka kb:IntKind}
theorem zh{x:AF}{lo hi:Option AF}{es:Fq}{a b:Int}(A:slc l a b=Y m)(h:x.val O=Y (.list n es))(he:es=l.map e)(p:G6 O 0 lo=Y (.int ka a))(u:G6 O l.length hi=Y (.int kb b))
  (k:WO S K os ((d,.tv (.list n (m.map e)))::O)):WO S K (⟨Y d,.slc n x lo hi,W⟩::os) O:=by
 replace k:=k.out;refine⟨?_⟩;subst he;obtain⟨⟨w,B⟩,C⟩:=de A;subst C;simp only[wpOps,PR.wp,AE.wp,h,az,p,u];refine⟨⟨trivial,w.1,w.2⟩,B,?_⟩;rw[List.map_drop,List.map_take]at k;exact k
theorem wj{x:AF}{lo hi:Option AF}{s t:ByteArray}{a b:Int}(p:Aag s a b=Y t)(h:x.val O=Y (.str s))(u:G6 O 0 lo=Y (.int ka a))(w:G6 O s.size hi=Y (.int kb b))
  (k:WO S K os ((d,.tv (.str t))::O)):WO S K (⟨Y d,.Aag x lo hi,W⟩::os) O:=by
 replace k:=k.out;refine⟨?_⟩;unfold Aag at p;split at p
 next A=>cases p;simp[wpOps,PR.wp,AE.wp,h,u,w];exact⟨A.1,A.2.1,A.2.2,k⟩
 .cases p
variable{zero:Fq}{parts:List (Nat×Nat×AF)}
theorem bC{ts:List (Nat×Nat×TV)}{cs:Fq}(h:EX O parts=Y ts)(p:Eb zero ts=Y cs)(u:TV.agg cs=t)(k:WO S K os ((d,.tv t)::O)):WO S K (⟨Y d,.bld zero parts,W⟩::os) O:=by
 replace k:=k.out;refine⟨?_⟩;subst u;simp[wpOps,PR.wp,AE.wp,h,Ai,p];exact k
def Wu:Nat->List (Nat×Nat×TV)->Bool
 |_,[]=>X|k,(i,n,t)::r=>A! i k&&A! t.cells.length n&&Wu (k+n) r
def Ia:List (Nat×Nat×TV)->Fq
 |[]=>[]|(_,_,t)::r=>t.cells++Ia r
theorem VD:∀(ds done k rest:Fq),k.length=ds.length->PG (done++(k++rest)) done.length ds=done++(ds++rest)
 |[],done,k,rest,h=>by
  have:k=[]:=w_ c?;subst this;rfl
 |d::ds,done,[],rest,h=>by simp at h|d::ds,done,m::k,rest,h=>by
  simp only[PG];rw[w!,w? _ _ (aN _),Nat.sub_self,List.set_cons_zero];have:=VD ds (done++[d]) k rest c?;simpa using this
theorem ZS:∀(ts:List (Nat×Nat×TV))(done rest:Fq),Wu done.length ts=X->(Ia ts).length=rest.length->Eb (done++rest) ts=Y (done++Ia ts)
 |[],done,rest,_,h=>by
  have:rest=[]:=w_ (by simpa[Ia]using h.symm);subst this;rfl
 |(i,n,t)::r,done,rest,k,h=>by
  simp [Wu]at k;obtain⟨⟨rfl,hn⟩,w⟩:=k;simp[Ia]at h;have p:n<=rest.length:=U
  simp only[Eb];rw[QQ ⟨hn,l'⟩];have u:rest=rest.take n++rest.drop n:=(x_ n rest).symm;rw[u,VD t.cells done (rest.take n) (rest.drop n) v_,<-bk];rw[ZS r (done++t.cells) (rest.drop n) (by rw[a5,hn];exact w) (by rw[List.length_drop];omega)];simp[Ia]
theorem wY{ts:List (Nat×Nat×TV)}(h:EX O parts=Y ts)(p:Wu 0 ts=X)(u:A! (Ia ts).length zero.length=X)(w:TV.agg (Ia ts)=t)(k:WO S K os ((d,.tv t)::O)):WO S K (⟨Y d,.bld zero parts,W⟩::os) O:=
 bC h (by have:=ZS ts [] zero p (Nat.eq_of_beq_eq_true u);simpa using this) w k
variable{ts:Fq}
theorem rN{parts:List AF}(h:vals O parts=Y ts)(he:ts=l.map e)(hn:∀a,(e a).cells.length=n)(k:WO S K os ((d,.ow (.list n (l.map e)))::O)):WO S K (⟨Y d,.lst n parts,W⟩::os) O:=by
 replace k:=k.out;refine⟨?_⟩;subst he;simp[wpOps,PR.wp,AE.wp,h,Ai];refine⟨λt p=>?_,k⟩
 grind
variable{s:Nat}{r:List α}
theorem rK{y:AF}{es p rs:Fq}(h:Al l m=Y r)(u:O.get s=.ow (.list n es))(w:y.val O=Y (.list n p))(he:es=l.map e)(hf:p=m.map e)(A:rs=r.map e)
  (k:WO S K os ((d,.ow (.list n rs))::(s,.tv (.list n es))::O)):WO S K (⟨Y d,.app n (.s s) y,W⟩::os) O:=by
 replace k:=k.out;refine⟨?_⟩;subst hf A;unfold Al at h;split at h
 next B=>cases h;simp only[wpOps,PR.wp,AE.wp,AF.ev,u,w,he,az];rw[he]at k;refine⟨V,V,B,?_⟩;rw[x!]at k;exact k
 .cases h
variable{f:FuncId}
theorem wZ{args:List AF}(h:vals O args=Y ts)(p:S f ts (.sh t))(k:WO S K os ((d,.tv t)::O)):WO S K (⟨Y d,.call f args,W⟩::os) O:=by
 replace k:=k.out;refine⟨?_⟩;simp[wpOps,PR.wp,AE.wp,h,Ai];exact⟨_,⟨p,rfl⟩,λ_=>k⟩
theorem wg{x i:AF}{s:ByteArray}{ik:IntKind}{j b:Int}(p:Aac s j=Y b)(h:x.val O=Y (.str s))(hi:i.val O=Y (.int ik j))(k:WO S K os ((d,.tv (.int .u8 b))::O)):WO S K (⟨Y d,.Aac x i,W⟩::os) O:=by
 replace k:=k.out;refine⟨?_⟩;unfold Aac at p;split at p
 next u=>rw[Option.map_eq_some_iff]at p;obtain⟨c,w,rfl⟩:=p;simp[wpOps,PR.wp,AE.wp,h,hi];exact⟨u,c,w,k⟩
 .cases p
theorem wd{mx:Bool}{x y:AF}{ik:IntKind}{a b:Int}(h:x.val O=Y (.int ik a))(p:y.val O=Y (.int ik b))(k:WO S K os ((d,.tv (.int ik (if mx then max a b else min a b)))::O)):WO S K (⟨Y d,.mm mx x y,W⟩::os) O:=by
 replace k:=k.out;refine⟨?_⟩;simp only[wpOps,PR.wp,AE.wp,h,p];exact⟨trivial,k⟩
theorem zY{x y:AF}{ik:IntKind}{a b:Int}(h:x.val O=Y (.int ik a))(p:y.val O=Y (.int ik b))(k:WO S K os ((d,.tv (.int ik (max a b)))::O)):WO S K (⟨Y d,.mm X x y,W⟩::os) O:=wd h p k
theorem zZ{x y:AF}{ik:IntKind}{a b:Int}(h:x.val O=Y (.int ik a))(p:y.val O=Y (.int ik b))(k:WO S K os ((d,.tv (.int ik (min a b)))::O)):WO S K (⟨Y d,.mm T x y,W⟩::os) O:=wd h p k
variable{off:Nat}
theorem AA0{x v:AF}{cs cs':List AQ}(h:x.place O=Y (s,off))(p:O.get s=.bx cs)(hv:v.ev O=.tv t)(u:t.cells.length=n)(w:A_ (off+n) cs.length=X)(A:cs.take off++t.cells.map (⟨T,·⟩)++cs.drop (off+n)=cs')
  (k:WO S K os ((s,.bx cs')::O)):WO S K (⟨W,.st n x v,W⟩::os) O:=by
 replace k:=k.out;refine⟨?_⟩;subst A;simp only[wpOps,PR.wp,AE.wp,h,p,hv];exact⟨u,A' w,k⟩
theorem zj{s off q:Nat}{x:AF}{cs cs':List AQ}(h:x.place O=Y (s,off))(p:O.get s=.bx cs)(hv:O.get q=.ow t)(u:q≠s)(w:A? off cs.length=X)(A:cs.set off ⟨X,t⟩=cs')
  (k:WO S K os ((s,.bx cs')::(q,.tv t)::O)):WO S K (⟨W,.st 1 x (.s q),W⟩::os) O:=by
 replace k:=k.out;refine⟨?_⟩;subst A;simp only[wpOps,PR.wp,AE.wp,h,p,AF.ev,hv];exact⟨u,trivial,A' w,k⟩
variable{v:AF}
theorem zi{cs cs':List AQ}(h:O.get s=.bx cs)(hv:v.ev O=.tv t)(p:t.cells.length=n)(u:A_ (0+n) cs.length=X)(w:cs.take 0++t.cells.map (⟨T,·⟩)++cs.drop (0+n)=cs')
  (k:WO S K os ((s,.bx cs')::O)):WO S K (⟨W,.stb n s v,W⟩::os) O:=by
 replace k:=k.out;refine⟨?_⟩;subst w;simp only[wpOps,PR.wp,AE.wp,h,hv];exact⟨p,A' u,k⟩
theorem zT{cs:List AQ}{row:Fq}(h:O.get s=.bx cs)(p:cs.map (·.t)=row)(k:WO S K os ((s,.tv (.pt row))::O)):WO S K (⟨W,.frz s,W⟩::os) O:=by
 replace k:=k.out;refine⟨?_⟩;subst p;simp[wpOps,PR.wp,AE.wp,h];exact k
theorem tX{args:List AF}{cs:List AQ}(h:vals O args=Y ts)(p:S f ts (.vS cs))(u:TV.agg (cs.map λc=>c.rel.t)=t)(k:WO S K os ((d,.tv t)::O)):WO S K (⟨Y d,.call f args,W⟩::os) O:=by
 replace k:=k.out;refine⟨?_⟩;subst u;simp[wpOps,PR.wp,AE.wp,h,Ai];exact⟨_,⟨p,rfl⟩,λ_=>k⟩
theorem rL{x:AF}{es:Fq}(h:x.val O=Y (.list n es))(he:es=l.map e)(k:∀b:Bool,(b=X->l=[])->WO S K os ((d,.tv (.bool b))::O)):WO S K (⟨Y d,.isn x,W⟩::os) O:=by
 replace k:=λb p=>(k b p).out;refine⟨?_⟩;simp only[wpOps,PR.wp,AE.wp,h];intro b p;refine k b λu=>?_;have:=p u;rw[he]at this;simpa using this
theorem wa{x:AF}(h:x.val O=Y .nil)(k:WO S K os ((d,.tv (.bool X))::O)):WO S K (⟨Y d,.isn x,W⟩::os) O:=by
 replace k:=k.out;refine⟨?_⟩;simp[wpOps,PR.wp,AE.wp,h];exact k
theorem rr(h:Al [] l=Y r)(b:Bool)(k:b=X->l=[]):(if b=X then Y []else(Al [] l).bind λx=>Y x)=Y r:=by grind[Al]
variable{j:Int}
theorem F2{a:α}(h:idx l j=Y a):0<=j/\j<l.length/\l[j.toNat]?=Y a:=by
 unfold idx at h
 grind
theorem Ye(p:∀a,(e a).cells.length=n):∀(l:List α)(j k:Nat)(a:α),l[j]?=Y a->k<n->((l.map e).flatMap TV.cells)[j*n+k]?=(e a).cells[k]?
 |[],j,k,a,h,_=>by simp at h|b::l,0,k,a,h,u=>by
  grind
 |b::l,j+1,k,a,h,u=>by
  rw [x?]at h;rw[y_,y!,List.getElem?_append_right (by rw[p,B_];omega),p,show(j+1)*n+k-n=j*n+k from i9];exact Ye p l j k a h u
theorem bz(p:∀a,(e a).cells.length=n)(t:TV):∀(l:List α)(j k:Nat)(a b:α),l[j]?=Y a->k<n->(e b).cells=(e a).cells.set k t->((l.set j b).map e).flatMap TV.cells=((l.map e).flatMap TV.cells).set (j*n+k) t
 |[],j,k,a,b,h,_,_=>by simp at h|c::l,0,k,a,b,h,u,w=>by
  grind
 |c::l,j+1,k,a,b,h,u,w=>by
  rw [x?]at h;rw[y?,y_,y_,y!,y!,w? _ _ (by rw[p,B_];omega),p,show(j+1)*n+k-n=j*n+k from i9,bz p t l j k a b h u w]
theorem oE(h:∀a,(e a).cells.length=n)(l:List α):((l.map e).flatMap TV.cells).length=l.length*n:=by
 induction l with
 |nil=>simp|cons b l k=>rw[y_,y!,a5,k,h,ae,B_];omega
theorem Ro(h:∀a,(e a).flat=X):∀(l:List α),TV.q0 (l.map e)=X
 |[]=>rfl|a::l=>by simp[TV.q0,h a,Ro h l]
theorem wk{x:AF}{q:Nat×Option Nat}{es:Fq}(h:x.pq O=Y (q,n,es))(he:es=l.map e)(k:WO S K os ((d,.tv (.int .i64 l.length))::O)):WO S K (⟨Y d,.Abc x,W⟩::os) O:=by
 replace k:=k.out;refine⟨?_⟩;subst he;simp[wpOps,PR.wp,AE.wp,h,Ai];exact k
variable{qi:Option Nat}
theorem zk{x i:AF}{q n:Nat}{es:Fq}{ik:IntKind}{a:α}(p:idx l j=Y a)(h:x.pq O=Y ((q,qi),n,es))(hi:i.val O=Y (.int ik j))(he:es=l.map e)(u:(x.ev O).n8=Y q)
  (k:WO S K os ((d,.lp q qi (j.toNat*n))::O)):WO S K (⟨Y d,.xia x i n,W⟩::os) O:=by
 replace k:=k.out;refine⟨?_⟩;subst he;obtain⟨w,A,_⟩:=F2 p;simp only[wpOps,PR.wp,AE.wp,h,hi,Ai,az];exact⟨⟨u,trivial⟩,w,A,k⟩
theorem rR{x:AF}{q c n i:Nat}{es row:Fq}{a:α}(h:x.ev O=.lp q qi c)(p:O.ln q qi=Y (n,es))(he:es=l.map e)(u:∀a,(e a).cells.length=n)(w:idx l j=Y a)(A:c=j.toNat*n+i)(hi:A? i n=X)(B:(e a).cells=row)(C:row[i]?=Y t)
  (k:WO S K os ((d,.tv t)::O)):WO S K (⟨Y d,.xld x,W⟩::os) O:=by
 replace k:=k.out;refine⟨?_⟩;subst he A B;have hf:=Ye u l j.toNat i a (F2 w).2.2 (A' hi);simp[wpOps,PR.wp,AE.wp,h,p,hf,C,Ai];exact k
theorem zl{x i:AF}{q n:Nat}{es:Fq}{ik:IntKind}{a:α}(p:idx l j=Y a)(h:x.ev O=.la q W)(u:O.get q=.xo n es)(hi:i.val O=Y (.int ik j))(he:es=l.map e)
  (k:WO S K os ((d,.lp q W (j.toNat*n))::O)):WO S K (⟨Y d,.xin x i n,W⟩::os) O:=by
 replace k:=k.out;refine⟨?_⟩;subst he;obtain⟨w,A,_⟩:=F2 p;simp only[wpOps,PR.wp,AE.wp,h,hi,u,az];exact⟨trivial,w,A,k⟩
theorem rU{x:AF}{q c n i:Nat}{es row:Fq}{a:α}(h:x.ev O=.lp q W c)(p:O.get q=.xo n es)(he:es=l.map e)(u:∀a,(e a).cells.length=n)(w:idx l j=Y a)(A:c=j.toNat*n+i)(hi:A? i n=X)(B:(e a).cells=row)(C:row[i]?=Y t)
  (k:WO S K os ((d,.tv t)::O)):WO S K (⟨Y d,.xln x,W⟩::os) O:=by
 replace k:=k.out;refine⟨?_⟩;subst he A B;have hf:=Ye u l j.toNat i a (F2 w).2.2 (A' hi);simp[wpOps,PR.wp,AE.wp,h,p,hf,C,Ai];exact k
theorem rV{x v:AF}{q c n i:Nat}{env':AB}{es rs:Fq}{a b:α}(h:x.ev O=.lp q qi c)(F:O.ln q qi=Y (n,es))(hv:v.ev O=.tv t)(he:es=l.map e)(w:∀a,(e a).cells.length=n)(G:idx l j=Y a)(H:c=j.toNat*n+i)(hi:A? i n=X)(D:t.cells=[t])
  (I:(e b).cells=(e a).cells.set i t)(J:rs=(BM l j b).map e)(A:O.sc q qi n rs=env')(k:WO S K os env'):WO S K (⟨W,.xst x v 1,W⟩::os) O:=by
 replace k:=k.out;refine⟨?_⟩;subst he H J A;obtain⟨N,P,E⟩:=F2 G;have B:i<n:=A' hi;have p:j.toNat<l.length:=(z_.1 E).1;simp only[wpOps,PR.wp,AE.wp,h,F,hv];have C:j.toNat*n+i<l.length*n:=calc j.toNat*n+i<j.toNat*n+n:=U
   _=(j.toNat+1)*n:=i9
   _<=l.length*n:=B' _ p
 refine ⟨⟨by rw[D];rfl,U⟩,?_,_,(bz w t l j.toNat i a b E B I).trans (by rw[D,List.set_eq_take_append_cons_drop,QQ (by rw[oE w];exact C)];simp),V,λu L=>?_,k⟩
 .rw[az]
  calc j.toNat*n+i<j.toNat*n+n:=U
   _=(j.toNat+1)*n:=i9
   _<=l.length*n:=B' _ p
 .obtain⟨M,_,rfl⟩:=z!.1 L;exact w M
theorem bw(k:∀a,(e a).cells.length=n):∀(l:List α)(j:Nat)(b:α),j<l.length->((l.set j b).map e).flatMap TV.cells=((l.map e).flatMap TV.cells).take (j*n)++(e b).cells++((l.map e).flatMap TV.cells).drop (j*n+n)
 |[],j,b,h=>by simp at h|c::l,0,b,h=>by
  grind
 |c::l,j+1,b,h=>by
  rw [y?,y_,y_,y!,y!,bw k l j b c?,show(j+1)*n=(e c).cells.length+j*n from by rw[k,B_];omega,Nat.add_assoc,List.take_length_add_append,List.drop_length_add_append,bk,bk,bk]
theorem rW{x v:AF}{q n:Nat}{env':AB}{es:Fq}{a b:α}(h:x.ev O=.lp q qi (j.toNat*n))(D:O.ln q qi=Y (n,es))(hv:v.ev O=.tv (e b))(he:es=l.map e)(w:∀a,(e a).cells.length=n)(E:idx l j=Y a)(hn:A? 0 n=X)
  (A:O.sc q qi n ((BM l j b).map e)=env')(k:WO S K os env'):WO S K (⟨W,.xst x v n,W⟩::os) O:=by
 replace k:=k.out;refine⟨?_⟩;subst he A;obtain⟨I,J,G⟩:=F2 E;have B:0<n:=A' hn;have p:j.toNat<l.length:=(z_.1 G).1;have C:j.toNat*n+n<=l.length*n:=calc j.toNat*n+n=(j.toNat+1)*n:=i9
   _<=l.length*n:=B' _ p
 simp only[wpOps,PR.wp,AE.wp,h,D,hv];refine⟨⟨w b,B⟩,by rw[az];exact C,_,bw w l j.toNat b p,V,λu F=>?_,k⟩;obtain⟨H,_,rfl⟩:=z!.1 F;exact w H
theorem wW{y:AF}{es p rs:Fq}(h:Al l m=Y r)(u:O.get s=.xo n es)(w:y.val O=Y (.list n p))(he:es=l.map e)(hf:p=m.map e)(A:rs=r.map e)(hn:O.ew d=X)(hd:d≠s)
  (k:WO S K os ((d,.xo n rs)::(s,.undef)::O)):WO S K (⟨Y d,.AaN n s y,W⟩::os) O:=by
 replace k:=k.out;refine⟨?_⟩;subst he hf A;unfold Al at h;split at h
 next B=>cases h;simp only[wpOps,PR.wp,AE.wp,u,w,az];rw[x!]at k;exact⟨trivial,trivial,B,hn,hd,k⟩
 .cases h
theorem pQ{args:List AF}{ts es:Fq}(hn:O.ew d=X)(h:vals O args=Y ts)(p:S f ts (.own (.list n es)))(he:es=l.map e)(hf:∀a,(e a).flat=X)(k:WO S K os ((d,.xo n es)::O)):WO S K (⟨Y d,.Aal f args,W⟩::os) O:=by
 replace k:=k.out;refine⟨?_⟩;simp[wpOps,PR.wp,AE.wp,h,Ai];exact⟨hn,n,es,.inr ⟨p,by rw[he];exact Ro hf l⟩,λ_=>k⟩
variable{rs:Fq}{z:α}
theorem rQ{x:AF}{ik:IntKind}(h:GV j z=Y r)(hn:O.ew d=X)(u:x.val O=Y (.int ik j))(w:(match zero with|[t]=>t|ts=>.agg ts)=e z)(A:rs=r.map e)
  (k:WO S K os ((d,.xo n rs)::O)):WO S K (⟨Y d,.mkx n zero x,W⟩::os) O:=by
 replace k:=k.out;refine⟨?_⟩;subst A;unfold GV at h;split at h
 next p=>cases h;rw[z?,<-w]at k;simp[wpOps,PR.wp,AE.wp,u];exact⟨hn,p.1,p.2,k⟩
 .cases h
theorem wc{n m:Nat}{x:AF}{ik:IntKind}{r:List Fp}(h:GV j ([]:Fp)=Y r)(hn:O.ew d=X)(p:x.val O=Y (.int ik j))(u:rs=r.map λl:Fp=>TV.list m (l.map (TV.int .i64)))
  (k:WO S K os ((d,.xo n rs)::O)):WO S K (⟨Y d,.mkx n [.list m []] x,W⟩::os) O:=rQ h hn p (e:=λl:Fp=>TV.list m (l.map (TV.int .i64))) rfl u k
theorem rP{x:AF}{ik:IntKind}(h:GV j z=Y r)(hn:O.ew d=X)(u:x.val O=Y (.int ik j))(w:(match zero with|[t]=>t|ts=>.agg ts)=e z)(A:rs=r.map e)
  (k:WO S K os ((d,.ow (.list n rs))::O)):WO S K (⟨Y d,.mko n zero x,W⟩::os) O:=by
 replace k:=k.out;refine⟨?_⟩;subst A;unfold GV at h;split at h
 next p=>cases h;rw[z?,<-w]at k;simp[wpOps,PR.wp,AE.wp,u];exact⟨hn,p.1,p.2,k⟩
 .cases h
theorem wb{n m:Nat}{x:AF}{ik:IntKind}{r:List Fp}(h:GV j ([]:Fp)=Y r)(hn:O.ew d=X)(p:x.val O=Y (.int ik j))(u:rs=r.map λl:Fp=>TV.list m (l.map (TV.int .i64)))
  (k:WO S K os ((d,.ow (.list n rs))::O)):WO S K (⟨Y d,.mko n [.list m []] x,W⟩::os) O:=rP h hn p (e:=λl:Fp=>TV.list m (l.map (TV.int .i64))) rfl u k
theorem vV:([]:List AQ).all AQ.Aab=X:=rfl
theorem sP{cs:List AQ}(hf:∀a,(e a).flat=X)(h:cs.all AQ.Aab=X):((⟨X,.list n (l.map e)⟩:AQ)::cs).all AQ.Aab=X:=by
 rw [List.all_cons,h,Bool.and_true];exact Ro hf l
theorem zS{hi:AF}{es rs:Fq}{ik:IntKind}(h:slc l 0 j=Y r)(u:O.get s=.xo n es)(w:hi.val O=Y (.int ik j))(he:es=l.map e)(A:rs=r.map e)(hn:O.ew d=X)(hd:d≠s)(k:WO S K os ((d,.xo n rs)::(s,.undef)::O)):WO S K (⟨Y d,.cut n s hi,W⟩::os) O:=by
 replace k:=k.out;refine⟨?_⟩;subst he A;obtain⟨⟨B,C⟩,p⟩:=de h;subst p;simp only[wpOps,PR.wp,AE.wp,u,w];refine⟨⟨trivial,hn,hd⟩,B.2,by rw[az];exact C,?_⟩;have p:((l.take j.toNat).drop (0:Int).toNat).map e=(l.map e).take j.toNat:=V
 rw [p]at k;exact k
theorem pM{args:List AF}{ts es:Fq}(h:up O args=Y ts)(p:S f ts (.own t))(u:t=.list n es)(he:es=l.map e)(hf:∀a,(e a).flat=X)(k:WO S K os ((d,.ow t)::O)):WO S K (⟨Y d,.Aat f args,W⟩::os) O:=by
 replace k:=k.out;refine⟨?_⟩;subst u he;simp[wpOps,PR.wp,AE.wp,h,Ai];exact⟨_,⟨p,Ro hf l⟩,λ_=>k⟩
def bP{α:Type}(l:List α)(j:Int)(z:α):Option (List α):=if(0<=j/\j<=4096)/\l.length+j.toNat<=AY then Y (l++v? j.toNat z)else W
theorem wX{p:TV}{x:AF}{es rs:Fq}{ik:IntKind}(h:bP l j z=Y r)(A:O.get s=.xo n es)(B:x.val O=Y (.int ik j))(he:es=l.map e)(C:p=e z)(D:rs=r.map e)(hn:O.ew d=X)(hd:d≠s)(u:n=1)(E:p.cells=[p])(k:WO S K os ((d,.xo n rs)::(s,.undef)::O)):WO S K (⟨Y d,.AaX n s p x,W⟩::os) O:=by
 replace k:=k.out;refine⟨?_⟩;subst he D;unfold bP at h;split at h
 next w=>cases h;simp only[wpOps,PR.wp,AE.wp,A,B];refine⟨⟨⟨trivial,u⟩,E⟩,w.1,⟨by rw[az];exact w.2,hn,hd⟩,?_⟩;rw[x!,z?,<-C]at k;exact k
 .cases h
variable{i:Nat}
theorem tW{args:List AF}{ts h:Fq}{cs cs':List AQ}{e:EV}(p:(args[i]?).bind (·.place O)=Y (s,0))(u:O.get s=.bx cs)(hn:O.noX s W=X)(hd:d≠s)(w:FE O i args=Y ts)(A:S f ts (.bo cs cs' i h))(he:EV.ofs h=e)(k:WO S K os ((d,e)::(s,.bx cs')::O)):WO S K (⟨Y d,.wi f args i,W⟩::os) O:=by
 replace k:=k.out;refine⟨?_⟩;subst he;simp only[wpOps,PR.wp,AE.wp,p,u,w,Ai];exact⟨⟨hn,hd⟩,cs',h,A,λ_=>k⟩
def Yk{α:Type}(l:List α):Option Unit:=if l.isEmpty then W else Y ()
theorem lF{u:Unit}{b:Bool}(h:Yk l=Y u)(k:b=X->l=[]):b=T:=by
 cases b with
 |false=>rfl|true=>rw[k rfl]at h;cases h
variable{g:Nat}
theorem AAo{h:Option Nat}{op:AE}{b q:Bool}(p:O.get g=.tv (.bool q))(u:q=b)(k:WO S K (⟨h,op,W⟩::os) O):WO S K (⟨h,op,Y (g,b)⟩::os) O:=by
 replace k:=k.out;refine⟨?_⟩
 grind [wpOps,PR.wp]
theorem yj{d:Nat}{op:AE}{b q:Bool}(p:O.get g=.tv (.bool q))(u:q=!b)(k:WO S K os ((d,.sk)::O)):WO S K (⟨Y d,op,Y (g,b)⟩::os) O:=by
 replace k:=k.out;refine⟨?_⟩;subst u;simp only[wpOps,PR.wp,p];exact⟨λh=>by cases b<;>simp at h,λ_=>k⟩
theorem AAp{d:Nat}{op:AE}{b:Bool}(h:O.get g=.sk)(k:WO S K os ((d,.sk)::O)):WO S K (⟨Y d,op,Y (g,b)⟩::os) O:=by
 replace k:=k.out;refine⟨?_⟩;simp[wpOps,PR.wp,h];exact k
theorem d8(xs h:List PR)(O:AB):wpOps S K (xs++h) O=wpOps S (wpOps S K h) xs O:=by
 induction xs generalizing O with
 |nil=>rfl|cons x xs k=>
  simp only[w!,wpOps];congr 1;funext e;exact k e
theorem yi{ops:List PR}(n:Nat)(M:AB->AB->Prop)(h:WO S (M O) (ops.take n) O)(k:∀e,M O e->WO S K (ops.drop n) e):WO S K ops O:=by
 refine ⟨?_⟩;rw[<-x_ n ops,d8];exact Qq S (λe he=>(k e he).out) _ O h.out
variable{q:Q}{a b:PC}
theorem yX(h:WP S a ⟨λe=>(∀s,(e.get s).WF)->WP S b q e,q.exit,q.ret⟩ O):WP S (.seq a b) q O:=⟨PC.gF S a _ O h.out _ (λ_ he k=>(he k).out) (λ_ _ h=>h) (λ_ h=>h)⟩
theorem uq{live:I2}{env':AB}(k:O.em live=env')(h:q.normal env'):WP S (.skip live) q O:=by subst k;exact⟨h⟩
theorem uo{live:I2}{env':AB}(k:O.em live=env')(h:q.exit i env'):WP S (.exit i live) q O:=by subst k;exact⟨h⟩
theorem XK{x:AF}{c:Bool}(k:x.val O=Y (.bool c))(p:c=X->WP S a q O)(hf:c=T->WP S b q O):WP S (.cond x a b) q O:=by
 refine ⟨?_⟩;simp[PC.wp,k];exact⟨λh=>(p h).out,λh=>(hf h).out⟩
theorem SU{x:AF}{c:Bool}(k:x.val O=Y (.bool c))(h:c=X)(p:WP S a q O):WP S (.cond x a b) q O:=by grind[XK]
theorem ST{x:AF}{c:Bool}(k:x.val O=Y (.bool c))(h:c=T)(p:WP S b q O):WP S (.cond x a b) q O:=by grind[XK]
theorem YV(h:WP S a ⟨q.normal,λj e=>if j=i then q.normal e else q.exit j e,q.ret⟩ O):WP S (.block i a) q O:=⟨h.out⟩
theorem bj{x y:Prop}(h:x):if i=i then x else y:=by rw[QQ rfl];exact h
theorem rz{i j:Nat}{x y:Prop}(hn:i≠j)(h:y):if i=j then x else y:=by rw[aE hn];exact h
theorem yW(M:AB->Prop)(k:WP S a ⟨M,q.exit,q.ret⟩ O)(p:∀e,M e->q.normal e):WP S a q O:=⟨PC.gF S a _ O k.out q p (λ_ _ h=>h) (λ_ h=>h)⟩
section loops
variable{σ ρ:Type}{live:I2}{c:PC}{i0:Nat}
variable{ζ:AB->Prop}
theorem qa{f:Int->σ->Option (B3 σ ρ)}{b:Int}(I:Int->σ->AB)(J:σ->AB)(R:ρ->AB->Prop)
  (p:∀i s r,i<b->f i s=Y r->(∀k,((I i s).get k).WF)->c.wp S ⟨λe=>∃s',r=.next s'/\e.em live=I (i+1) s',λj e=>j=i0/\∃s',r=.brk s'/\e=J s',λe=>∃v,r=.ret v/\R v e⟩ (I i s))
  (u:∀i s,¬i<b->c.wp S ⟨λ_=>False,λj e=>j=i0/\e=J s,λ_=>False⟩ (I i s))
  (hX:∀e,((∀s,(e.get s).WF)->c.wp S {q with normal:=λC=>ζ (C.em live)} e)->ζ e)(E:∀s,q.exit i0 (J s)\/True):
  ∀(n:Nat)(i:Int)(s:σ),n=(b-i).toNat->∀o,FR f n i s=Y o->(∀s',o=.inl s'->q.exit i0 (J s'))->(∀v e,o=.inr v->R v e->q.ret e)->ζ (I i s):=by
 intro n
 induction n with
 |zero=>
  intro i s hn o ho w A;refine hX _ λB=>?_;refine PC.gF S c _ _ (u i s U) _ (λ_ h=>h.elim) (λj e he=>?_) (λ_ h=>h.elim);obtain⟨rfl,rfl⟩:=he;simp[FR]at ho;exact w s ho.symm
 |succ n D=>
  intro i s hn o ho w A;simp[FR]at ho;refine hX _ λB=>?_;cases hf:f i s with
  |none=>rw[hf]at ho;cases ho
  |some r=>
   rw [hf]at ho;refine PC.gF S c _ _ (p i s r U hf B) _ (λe he=>?_) (λj e he=>?_) (λe he=>?_)
   .obtain⟨s',rfl,he⟩:=he;show ζ (e.em live);rw[he];exact D (i+1) s' U o ho w A
   .obtain⟨rfl,s',rfl,rfl⟩:=he;simp at ho;exact w s' ho.symm
   .obtain⟨v,rfl,he⟩:=he;simp at ho;exact A v e ho.symm he
variable{s0:σ}{o:σ ⊕ ρ}
theorem iP{f:Int->σ->Option (B3 σ ρ)}{lo b:Int}(ho:Aj f lo b s0=Y o)(I:Int->σ->AB)(J:σ->AB)(R:ρ->AB->Prop)(w:O.em live=I lo s0)
  (p:∀i s r,i<b->f i s=Y r->(∀k,((I i s).get k).WF)->WP S c ⟨λe=>∃s',r=.next s'/\e.em live=I (i+1) s',λj e=>j=i0/\∃s',r=.brk s'/\e=J s',λe=>∃v,r=.ret v/\R v e⟩ (I i s))
  (u:∀i s,¬i<b->WP S c ⟨λ_=>False,λj e=>j=i0/\e=J s,λ_=>False⟩ (I i s))
  (A:∀s',o=.inl s'->q.normal (J s'))(B:∀v e,o=.inr v->R v e->q.ret e):WP S (.block i0 (.loop live c)) q O:=by
 refine YV ⟨?_⟩;intro ζ hX;rw[w];refine qa (q:=⟨q.normal,λj e=>if j=i0 then q.normal e else q.exit j e,q.ret⟩) I J R (λi s r C D E=>(p i s r C D E).out) (λi s h=>(u i s h).out) hX (λ_=>.inr trivial) _ lo s0 rfl o ho ?_ B;intro s' F;exact bj (A s' F)
theorem fh{f:Int->σ->Option σ}:∀(n:Nat)(i:Int)(s o:σ),RE f n i s=Y o->FR (λi s=>(f i s).map (B3.next (ρ:=Empty))) n i s=Y (.inl o)
 |0,_,_,_,h=>by simp[RE]at h;subst h;rfl|n+1,i,s,o,h=>by
  simp [RE]at h;simp[FR];cases hf:f i s with
  |none=>rw[hf]at h;cases h
  |some s'=>rw[hf]at h;simp;exact fh n (i+1) s' o h
theorem t8{f:Int->σ->Option σ}{lo b:Int}{s0 o:σ}(ho:BB f lo b s0=Y o)(I:Int->σ->AB)(J:σ->AB)(w:O.em live=I lo s0)
  (p:∀i s r,i<b->f i s=Y r->(∀k,((I i s).get k).WF)->WP S c ⟨λe=>e.em live=I (i+1) r,λ_ _=>False,λ_=>False⟩ (I i s))
  (u:∀i s,¬i<b->WP S c ⟨λ_=>False,λj e=>j=i0/\e=J s,λ_=>False⟩ (I i s))
  (A:q.normal (J o)):WP S (.block i0 (.loop live c)) q O:=by
 refine iP (f:=λi s=>(f i s).map (B3.next (ρ:=Empty))) (o:=.inl o) (fh _ _ _ _ ho) I J (λ_ _=>False) w ?_ u ?_ ?_
 .intro i s r hi hf B;simp at hf;obtain⟨s',hf,rfl⟩:=hf;exact⟨PC.gF S c _ _ (p i s s' hi hf B).out _ (λe he=>⟨s',rfl,he⟩) (λ_ _ h=>h.elim) (λ_ h=>h.elim)⟩
 .intro s' h;cases h;exact A
 .intro v;cases v
theorem uB{f:σ->Option (B3 σ ρ)}(I:σ->AB)(J:σ->AB)(R:ρ->AB->Prop)
  (h:∀s r,f s=Y r->(∀k,((I s).get k).WF)->c.wp S ⟨λe=>∃s',r=.next s'/\e.em live=I s',λj e=>j=i0/\∃s',r=.brk s'/\e=J s',λe=>∃v,r=.ret v/\R v e⟩ (I s))
  (hX:∀e,((∀s,(e.get s).WF)->c.wp S {q with normal:=λw=>ζ (w.em live)} e)->ζ e):
  ∀(n:Nat)(s:σ)(o:σ ⊕ ρ),VT f n s=Y o->(∀s',o=.inl s'->q.exit i0 (J s'))->(∀v e,o=.inr v->R v e->q.ret e)->ζ (I s):=by
 intro n
 induction n with
 |zero=>intro s o ho;cases ho
 |succ n B=>
  intro s o ho p u;simp[VT]at ho;refine hX _ λA=>?_;cases hf:f s with
  |none=>rw[hf]at ho;cases ho
  |some r=>
   rw [hf]at ho;refine PC.gF S c _ _ (h s r hf A) _ (λe he=>?_) (λj e he=>?_) (λe he=>?_)
   .obtain⟨s',rfl,he⟩:=he;show ζ (e.em live);rw[he];exact B s' o ho p u
   .obtain⟨rfl,s',rfl,rfl⟩:=he;simp at ho;exact p s' ho.symm
   .obtain⟨v,rfl,he⟩:=he;simp at ho;exact u v e ho.symm he
theorem xI{f:σ->Option (B3 σ ρ)}(ho:EI f s0=Y o)(I:σ->AB)(J:σ->AB)(R:ρ->AB->Prop)(p:O.em live=I s0)
  (h:∀s r,f s=Y r->(∀k,((I s).get k).WF)->WP S c ⟨λe=>∃s',r=.next s'/\e.em live=I s',λj e=>j=i0/\∃s',r=.brk s'/\e=J s',λe=>∃v,r=.ret v/\R v e⟩ (I s))
  (u:∀s',o=.inl s'->q.normal (J s'))(w:∀v e,o=.inr v->R v e->q.ret e):WP S (.block i0 (.loop live c)) q O:=by
 obtain ⟨N,D⟩:=Cl ho;refine YV ⟨?_⟩;intro ζ hX;rw[p];refine uB (q:=⟨q.normal,λj e=>if j=i0 then q.normal e else q.exit j e,q.ret⟩) I J R (λs r A B=>(h s r A B).out) hX N s0 o (D N (aN _)) ?_ w;intro s' C;exact bj (u s' C)
end loops
end
theorem dlt{a b:Int}(h:a<b):decide (a<b)=X:=decide_eq_true h
theorem AAn{a b:Int}(h:¬a<b):decide (a<b)=T:=decide_eq_false h
variable{t:TV}
theorem bE(h:EV.WF (.tv t)):t.WF:=h
theorem zq(h:EV.WF (.ow t)):t.WF:=h
variable{n:Nat}
theorem zr{es:Fq}(h:EV.WF (.xo n es)):TV.WF (.list n es):=h
theorem rZ{row:Fq}(h:EV.WF (.tv (.pt row))):TV.k7 row:=h
variable{ts:Fq}{i:Nat}
theorem iL(h:TV.k7 ts)(hi:ts[i]?=Y t):t.WF:=by
 induction ts generalizing i with
 |nil=>simp at hi|cons x xs k=>
  cases i with
  |zero=>simp at hi;subst hi;exact h.1|succ i=>exact k h.2 k!
variable{α:Type}{e:α->TV}{l:List α}
theorem xH(h:TV.WF (.list n (l.map e))):(l.length:Int)<=9223372036854775807:=by
 have:=h.1
 grind [az,J3]
theorem V1{es:Fq}(h:TV.WF (.list n es))(he:es=l.map e):(l.length:Int)<=9223372036854775807:=by subst he;exact xH h
theorem t7{s:ByteArray}(h:TV.WF (.str s)):(s.size:Int)<=9223372036854775807:=by
 have:s.size<=J3:=h
 grind [J3]
theorem nP{n:Int}(h:TV.WF (.int .i64 n)):n<=9223372036854775807:=h.2
theorem dt(n:Int):Ag n=if 9223372036854775808<=n % 18446744073709551616 then n % 18446744073709551616-18446744073709551616 else n % 18446744073709551616:=by
 have h:(2:Int)^ 64=18446744073709551616:=a_
 have k:(2:Int)^ (64-1)=9223372036854775808:=a_
 simp [Ag,IntKind.wrap,IntKind.bits,IntKind.signed,Bool.true_and,ml,h,k,ge_iff_le]
theorem xF(n:Int):Ag n<=9223372036854775807:=by grind[dt]
theorem Ar{n:Int}(h:-9223372036854775808<=n)(k:n<=9223372036854775807):Ag n=n:=by grind[dt]
theorem zu{i b:Int}(hi:TV.WF (.int .i64 i))(h:i<b)(k:b<=9223372036854775807):IntKind.i64.wrap (i+1)=i+1:=by
 have p:(-9223372036854775808:Int)<=i:=hi.1
 grind [Ar]
end Go.Sf
