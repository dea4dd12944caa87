/- Steps of the pure language with typed values: one rule an operation, one a piece of code, one a kind of loop. -/
import Derived.Test.YtbgedoajacpdbaaGreatDoorSfSem
set_option linter.all false
namespace Go.Sf
abbrev Ad(n:Int):Int:=IntKind.i64.wrap n
def idx{α:Type}(l:List α)(j:Int):Option α:=if 0<=j then l[j.toNat]? else none
def slc{α:Type}(l:List α)(a b:Int):Option (List α):=if(0<=a/\a<=b)/\b<=l.length then some ((l.take b.toNat).drop a.toNat)else none
def AaH(s:ByteArray)(a b:Int):Option ByteArray:=if 0<=a/\a<=b/\b<=s.size then some (s.extract a.toNat b.toNat)else none
def AaC(s:ByteArray)(j:Int):QQ:=if 0<=j then(s[j.toNat]?).map (fun b=>(b.toNat:Int))else none
def Ah{α:Type}(l m:List α):Option (List α):=if l.length+m.length<=Ae then some (l++m)else none
def quo(a b:Int):QQ:=if b=0 then none else some (a.tdiv b)
def Ut(a b:Int):QQ:=if b=0 then none else some (a.tmod b)
inductive Bk(σ ρ:Type)where
 |next (s:σ)
 |brk (s:σ)
 |ret (r:ρ)
section loops
variable{σ ρ:Type}
def Aac(f:Int->σ->Option (Bk σ ρ)):Nat->Int->σ->Option (σ ⊕ ρ)
 |0,_,s=>some (.inl s)|n+1,i,s=>match f i s with
  |none=>none|some (.next s')=>Aac f n (i+1) s'|some (.brk s')=>some (.inl s')|some (.ret r)=>some (.inr r)
def j4(f:Int->σ->Option (Bk σ ρ))(a b:Int)(s:σ):Option (σ ⊕ ρ):=Aac f (b-a).toNat a s
def Aau(f:Int->σ->Option σ):Nat->Int->σ->Option σ
 |0,_,s=>some s|n+1,i,s=>match f i s with
  |none=>none|some s'=>Aau f n (i+1) s'
def pr(f:Int->σ->Option σ)(a b:Int)(s:σ):Option σ:=Aau f (b-a).toNat a s
def Pn(f:σ->Option (Bk σ ρ)):Nat->σ->Option (σ ⊕ ρ)
 |0,_=>none|n+1,s=>match f s with
  |none=>none|some (.next s')=>Pn f n s'|some (.brk s')=>some (.inl s')|some (.ret r)=>some (.inr r)
end loops
class Ev where
 fuel:Option Nat
instance BG:Ev:=⟨none⟩
open Classical in
noncomputable def Xj{α:Type}(g:Nat->Option α):Option α:=if h:∃v N,∀n,N<=n->g n=some v then some h.choose else none
noncomputable def Ji[e:Ev]{α:Type}(g:Nat->Option α):Option α:=match e.fuel with
 |none=>Xj g|some n=>g n
variable{α:Type}
theorem Ck{g:Nat->Option α}{v:α}(h:Ji g=some v):∃N,∀n,N<=n->g n=some v:=by
 change Xj g=some v at h;unfold Xj at h;split at h
 .rename_i k;cases h;exact k.choose_spec
 .cases h
theorem EG{g:Nat->Option α}{v:α}(N:Nat)(h:∀n,N<=n->g n=some v):Ji g=some v:=by
 have k:∃v N,∀n,N<=n->g n=some v:=⟨v,N,h⟩;show Xj g=some v;unfold Xj;rw[dif_pos k];obtain⟨M,w⟩:=k.choose_spec;have u:=h (max N M) (Nat.le_max_left _ _)
 grind
noncomputable def EA[Ev]{σ ρ:Type}(f:σ->Option (Bk σ ρ))(s:σ):Option (σ ⊕ ρ):=Ji fun n=>Pn f n s
def ff{σ ρ β:Type}(o:Option (σ ⊕ ρ))(k:σ->Option β)(kr:ρ->Option β):Option β:=
 match o with
 |none=>none|some (.inl s)=>k s|some (.inr v)=>kr v
theorem Uy{σ ρ β:Type}{o:Option (σ ⊕ ρ)}{k:σ->Option β}{u:ρ->Option β}{b:β}(h:ff o k u=some b):∃x,o=some x/\ff (some x) k u=some b:=by
 cases o with
 |none=>cases h
 |some x=>exact⟨x,rfl,h⟩
theorem Z1{σ ρ β:Type}{x:σ ⊕ ρ}{k:σ->Option β}{u:ρ->Option β}{b:β}{s:σ}(h:ff (some x) k u=some b)(w:x=.inl s):k s=some b:=by subst w;exact h
theorem Z2{σ ρ β:Type}{x:σ ⊕ ρ}{k:σ->Option β}{u:ρ->Option β}{b:β}{v:ρ}(h:ff (some x) k u=some b)(w:x=.inr v):u v=some b:=by subst w;exact h
def BC{α:Type}(l:List α)(j:Int)(a:α):List α:=l.set j.toNat a
def GW{α:Type}(j:Int)(a:α):Option (List α):=if 0<=j/\j<=4096 then some (List.replicate j.toNat a)else none
def M2(a b:ByteArray):Option ByteArray:=if a.size+b.size<=Ae then some (a++b)else none
variable{β:Type}
theorem bind_some{x:Option α}{f:α->Option β}{b:β}(h:x.bind f=some b):∃a,x=some a/\f a=some b:=Option.bind_eq_some_iff.1 h
theorem UT{c:Bool}{a b:α}{r:α}(k:c=true)(h:(if c=true then a else b)=r):a=r:=by grind
theorem US{c:Bool}{a b:α}{r:α}(k:c=false)(h:(if c=true then a else b)=r):b=r:=by grind
structure WO(S:FuncId->Fq->Aq->Prop)(K:AB->Prop)(os:List PR)(O:AB):Prop where
 of::out:wpOps S K os O
structure WP(S:FuncId->Fq->Aq->Prop)(c:PC)(q:Q)(O:AB):Prop where
 of::out:c.wp S q O
section
variable{S:FuncId->Fq->Aq->Prop}{K:AB->Prop}{os:List PR}{O:AB}{d:Nat}
variable{t:TV}
theorem Rs{x:AF}(h:x.val O=some t):x.ev O=.tv t\/x.ev O=.ow t:=by
 unfold AF.val EV.val at h;split at h<;>simp_all
theorem N7{x:AF}(h:x.val O=some t)(k:WO S K os ((d,.tv t)::O)):WO S K (⟨some d,.mv x,none⟩::os) O:=by
 replace k:=k.out;refine⟨?_⟩;simp[wpOps,PR.wp,AE.wp];rcases Rs h with h|h<;>rw[h]<;>exact k
variable{s:Nat}
theorem uh(h:O.get s=.ow t)(k:WO S K os ((d,.ow t)::(s,.tv t)::O)):WO S K (⟨some d,.tk s,none⟩::os) O:=by
 replace k:=k.out;refine⟨?_⟩;simp[wpOps,PR.wp,AE.wp,h];exact k
theorem tO(h:O.get s=.tv t)(k:WO S K os ((d,.tv t)::O)):WO S K (⟨some d,.tk s,none⟩::os) O:=by
 replace k:=k.out;refine⟨?_⟩;simp[wpOps,PR.wp,AE.wp,h];exact k
variable{n:Nat}
theorem ou(k:WO S K os ((d,.ow (.list n []))::O)):WO S K (⟨some d,.Aby n,none⟩::os) O:=by
 replace k:=k.out;refine⟨?_⟩;simp[wpOps,PR.wp,AE.wp];exact k
theorem jI{x:AF}{j:Nat}{row:Fq}(h:x.ev O=.tv (.pt row))(k:WO S K os ((d,.tv (.pt (row.drop j)))::O)):WO S K (⟨some d,.fad x j,none⟩::os) O:=by
 replace k:=k.out;refine⟨?_⟩;simp[wpOps,PR.wp,AE.wp,h];exact k
theorem dj{x:AF}{j s off:Nat}{cs:List AQ}(h:x.ev O=.bp s off)(u:O.get s=.bx cs)(k:WO S K os ((d,.bp s (off+j))::O)):WO S K (⟨some d,.fad x j,none⟩::os) O:=by
 replace k:=k.out;refine⟨?_⟩;simp[wpOps,PR.wp,AE.wp,h,u];exact k
theorem dg{s j:Nat}{cs:List AQ}(h:O.get s=.bx cs)(k:WO S K os ((d,.bp s j)::O)):WO S K (⟨some d,.bad s j,none⟩::os) O:=by
 replace k:=k.out;refine⟨?_⟩;simp[wpOps,PR.wp,AE.wp,h];exact k
theorem jH{s j:Nat}{row:Fq}(h:O.get s=.tv (.pt row))(k:WO S K os ((d,.tv (.pt (row.drop j)))::O)):WO S K (⟨some d,.bad s j,none⟩::os) O:=by
 replace k:=k.out;refine⟨?_⟩;simp[wpOps,PR.wp,AE.wp,h];exact k
variable{α:Type}{e:α->TV}{l:List α}{j:Int}
theorem sZ{x i:AF}{es row:Fq}{ik:IntKind}{a:α}(u:x.val O=some (.list n es))(hi:i.val O=some (.int ik j))(he:es=l.map e)(h:idx l j=some a)(w:(e a).cells=row)
  (k:WO S K os ((d,.tv (.pt row))::O)):WO S K (⟨some d,.iad x i n,none⟩::os) O:=by
 replace k:=k.out;refine⟨?_⟩;subst he w;simp only[wpOps,PR.wp,AE.wp,u,hi];unfold idx at h;split at h
 .rename_i A;exact⟨trivial,A,e a,by rw[List.getElem?_map,h];rfl,k⟩
 .cases h
theorem sL{x i:AF}{n m h:Nat}{row:Fq}{ik:IntKind}(u:x.ev O=.tv (.pt row))(hi:i.val O=some (.int ik j))(w:0<=j)(A:j<m)(B:m*n<=row.length)(C:j.toNat*n=h)
  (k:WO S K os ((d,.tv (.pt (row.drop h)))::O)):WO S K (⟨some d,.aad x i n m,none⟩::os) O:=by
 replace k:=k.out;refine⟨?_⟩;subst C;simp[wpOps,PR.wp,AE.wp,u,hi];exact⟨w,A,B,k⟩
theorem oU{x:AF}{n m:Nat}{row u:Fq}{ik:IntKind}(w:x.ev O=.tv (.pt row))(h:(decide (0<=j)&&decide (j<m)&&Nat.ble (m*n) row.length)=true)(A:row.drop (j.toNat*n)=u)
  (k:WO S K os ((d,.tv (.pt u))::O)):WO S K (⟨some d,.aad x (.c (.int ik j)) n m,none⟩::os) O:=by
 simp only[tg,zzX]at h;subst A;exact sL w rfl h.1.1 h.1.2 (Nat.le_of_ble_eq_true h.2) rfl k
theorem oj{x:AF}{r:Fq}(h:A0 O (x.ev O)=some (t::r))(u:t.AaR=false)(k:WO S K os ((d,.tv t)::O)):WO S K (⟨some d,.ld x,none⟩::os) O:=by
 replace k:=k.out;refine⟨?_⟩;simp[wpOps,PR.wp,AE.wp,h,AV,Fk];exact⟨u,k⟩
def eO{α:Type}(n:Nat)(e:α->TV):Option (List α)->TV
 |none=>.nil|some l=>.list n (l.map e)
theorem sd{l:Option (List α)}{x:AF}{r:Fq}(h:A0 O (x.ev O)=some (eO n e l::r))(k:WO S K os ((d,.tv (eO n e l))::O)):WO S K (⟨some d,.ld x,none⟩::os) O:=oj h (by cases l<;>rfl) k
theorem Ws{x:AF}{cs:Fq}(h:A0 O (x.ev O)=some cs)(u:Nat.ble n cs.length=true)(w:TV.agg (cs.take n)=t)(k:WO S K os ((d,.tv t)::O)):WO S K (⟨some d,.lda x n,none⟩::os) O:=by
 replace k:=k.out;refine⟨?_⟩;subst w;simp[wpOps,PR.wp,AE.wp,h,AV];exact⟨Nat.le_of_ble_eq_true u,k⟩
theorem jK{cs:List AQ}(h:O.get s=.bx cs)(u:Nat.ble n (cs.map (·.t)).length=true)(w:TV.agg ((cs.map (·.t)).take n)=t)(k:WO S K os ((d,.tv t)::O)):WO S K (⟨some d,.ldb s n,none⟩::os) O:=by
 replace k:=k.out;refine⟨?_⟩;subst w;simp only[wpOps,PR.wp,AE.wp,h];exact⟨Nat.le_of_ble_eq_true u,k⟩
variable{off:Nat}
theorem sf{x:AF}{cs:List AQ}{es:Fq}(h:x.place O=some (s,off))(u:O.get s=.bx cs)(w:cs[off]?=some ⟨true,t⟩){cs':List AQ}(A:cs.set off ⟨false,t⟩=cs')(B:t=.list n es)
  (k:WO S K os ((d,.ow t)::(s,.bx cs')::O)):WO S K (⟨some d,.ldt x,none⟩::os) O:=by
 replace k:=k.out;refine⟨?_⟩;subst A B;simp[wpOps,PR.wp,AE.wp,h,u,w];exact k
section bins
variable{x y:AF}{ik:IntKind}{a b:Int}
theorem GP{h:BK}{op:BinOp}{u v t:TV}(w:x.val O=some u)(A:y.val O=some v)(B:D1 h op u v=some t)(k:WO S K os ((d,.tv t)::O)):WO S K (⟨some d,.bin h op x y,none⟩::os) O:=by
 replace k:=k.out;refine⟨?_⟩;simp[wpOps,PR.wp,AE.wp,w,A,B,AV];exact k
theorem sU(h:x.val O=some (.int ik a))(u:y.val O=some (.int ik b))(k:WO S K os ((d,.tv (.bool (decide (a=b))))::O)):WO S K (⟨some d,.bin .i .eql x y,none⟩::os) O:=by grind[GP,D1,intCmp]
theorem bN(h:x.val O=some (.int ik a))(u:y.val O=some (.int ik b))(k:WO S K os ((d,.tv (.bool (!decide (a=b))))::O)):WO S K (⟨some d,.bin .i .neq x y,none⟩::os) O:=by grind[GP,D1,intCmp]
theorem sn(h:x.val O=some (.int ik a))(u:y.val O=some (.int ik b))(k:WO S K os ((d,.tv (.bool (decide (a<b))))::O)):WO S K (⟨some d,.bin .i .lss x y,none⟩::os) O:=by grind[GP,D1,intCmp]
theorem sj(h:x.val O=some (.int ik a))(u:y.val O=some (.int ik b))(k:WO S K os ((d,.tv (.bool (decide (a<=b))))::O)):WO S K (⟨some d,.bin .i .leq x y,none⟩::os) O:=by grind[GP,D1,intCmp]
theorem sY(h:x.val O=some (.int ik a))(u:y.val O=some (.int ik b))(k:WO S K os ((d,.tv (.bool (decide (b<a))))::O)):WO S K (⟨some d,.bin .i .gtr x y,none⟩::os) O:=by grind[GP,D1,intCmp]
theorem sX(h:x.val O=some (.int ik a))(u:y.val O=some (.int ik b))(k:WO S K os ((d,.tv (.bool (decide (b<=a))))::O)):WO S K (⟨some d,.bin .i .geq x y,none⟩::os) O:=by grind[GP,D1,intCmp]
theorem sM(h:x.val O=some (.int ik a))(u:y.val O=some (.int ik b))(k:WO S K os ((d,.tv (.int ik (ik.wrap (a+b))))::O)):WO S K (⟨some d,.bin .i .add x y,none⟩::os) O:=by grind[GP,D1,intCmp,intArith]
theorem tN(h:x.val O=some (.int ik a))(u:y.val O=some (.int ik b))(k:WO S K os ((d,.tv (.int ik (ik.wrap (a-b))))::O)):WO S K (⟨some d,.bin .i .sub x y,none⟩::os) O:=by grind[GP,D1,intCmp,intArith]
theorem s9(h:x.val O=some (.int ik a))(u:y.val O=some (.int ik b))(k:WO S K os ((d,.tv (.int ik (ik.wrap (a*b))))::O)):WO S K (⟨some d,.bin .i .mul x y,none⟩::os) O:=by grind[GP,D1,intCmp,intArith]
theorem tH{q:Int}(h:x.val O=some (.int ik a))(u:y.val O=some (.int ik b))(w:quo a b=some q)(k:WO S K os ((d,.tv (.int ik (ik.wrap q)))::O)):WO S K (⟨some d,.bin .i .quo x y,none⟩::os) O:=by grind[GP,quo,D1,intCmp,intArith,Option.some.inj]
theorem tJ{q:Int}(h:x.val O=some (.int ik a))(u:y.val O=some (.int ik b))(w:Ut a b=some q)(k:WO S K os ((d,.tv (.int ik q))::O)):WO S K (⟨some d,.bin .i .rem x y,none⟩::os) O:=by grind[GP,Ut,D1,intCmp,intArith,Option.some.inj]
variable{ik':IntKind}
theorem sO{op:BinOp}{r:Int}(h:x.val O=some (.int ik a))(u:y.val O=some (.int ik' b))(A:ik=ik'\/op=.shl\/op=.shr)(B:Kg ik op a b=some r)(k:WO S K os ((d,.tv (.int ik r))::O)):WO S K (⟨some d,.bin .w op x y,none⟩::os) O:=by grind[GP,D1]
theorem oy{u v:ByteArray}(h:x.val O=some (.str u))(w:y.val O=some (.str v))(k:WO S K os ((d,.tv (.bool (u==v)))::O)):WO S K (⟨some d,.bin .s .eql x y,none⟩::os) O:=by grind[GP,D1]
theorem o5{u v:ByteArray}(h:x.val O=some (.str u))(w:y.val O=some (.str v))(k:WO S K os ((d,.tv (.bool (!(u==v))))::O)):WO S K (⟨some d,.bin .s .neq x y,none⟩::os) O:=by grind[GP,D1]
theorem ox{u v t:ByteArray}(w:x.val O=some (.str u))(A:y.val O=some (.str v))(h:M2 u v=some t)(k:WO S K os ((d,.tv (.str t))::O)):WO S K (⟨some d,.bin .s .add x y,none⟩::os) O:=by grind[GP,M2,D1,Option.some.inj]
theorem oX{u v:Bool}(h:x.val O=some (.bool u))(w:y.val O=some (.bool v))(k:WO S K os ((d,.tv (.bool (u==v)))::O)):WO S K (⟨some d,.bin .b .eql x y,none⟩::os) O:=by grind[GP,D1]
theorem oa{u v:Bool}(h:x.val O=some (.bool u))(w:y.val O=some (.bool v))(k:WO S K os ((d,.tv (.bool (!(u==v))))::O)):WO S K (⟨some d,.bin .b .neq x y,none⟩::os) O:=by grind[GP,D1]
theorem de{n:Ne}{cs ds:Fq}{r:Bool}(u:x.val O=some (.agg cs))(w:y.val O=some (.agg ds))(A:cs.map TV.kd=n)(h:Bz cs ds=some r)(k:WO S K os ((d,.tv (.bool r))::O)):WO S K (⟨some d,.bin (.a n) .eql x y,none⟩::os) O:=by grind[GP,D1]
theorem df{n:Ne}{cs ds:Fq}{r:Bool}(u:x.val O=some (.agg cs))(w:y.val O=some (.agg ds))(A:cs.map TV.kd=n)(h:Bz cs ds=some r)(k:WO S K os ((d,.tv (.bool (!r)))::O)):WO S K (⟨some d,.bin (.a n) .neq x y,none⟩::os) O:=by grind[GP,D1]
end bins
theorem tF{x:AF}{b:Bool}(h:x.val O=some (.bool b))(k:WO S K os ((d,.tv (.bool (!b)))::O)):WO S K (⟨some d,.not x,none⟩::os) O:=by
 replace k:=k.out;refine⟨?_⟩;simp[wpOps,PR.wp,AE.wp,h];exact k
theorem tD{x:AF}{ik:IntKind}{n:Int}(h:x.val O=some (.int ik n))(k:WO S K os ((d,.tv (.int ik (ik.wrap (-n))))::O)):WO S K (⟨some d,.neg x,none⟩::os) O:=by
 replace k:=k.out;refine⟨?_⟩;simp[wpOps,PR.wp,AE.wp,h];exact k
variable{t:TV}
theorem ll{c a b:AF}{q:Bool}(u:c.val O=some (.bool q))(w:q=true)(h:a.val O=some t)(k:WO S K os ((d,.tv t)::O)):WO S K (⟨some d,.pick c a b,none⟩::os) O:=by
 replace k:=k.out;refine⟨?_⟩;subst w;simp[wpOps,PR.wp,AE.wp,u];rcases Rs h with h|h<;>rw[h]<;>exact k
theorem lj{c a b:AF}{q:Bool}(u:c.val O=some (.bool q))(w:q=false)(h:b.val O=some t)(k:WO S K os ((d,.tv t)::O)):WO S K (⟨some d,.pick c a b,none⟩::os) O:=by
 replace k:=k.out;refine⟨?_⟩;subst w;simp[wpOps,PR.wp,AE.wp,u];rcases Rs h with h|h<;>rw[h]<;>exact k
variable{α:Type}{n:Nat}{e:α->TV}{l:List α}
theorem si{x:AF}{es:Fq}(h:x.val O=some (.list n es))(he:es=l.map e)(k:WO S K os ((d,.tv (.int .i64 l.length))::O)):WO S K (⟨some d,.len x,none⟩::os) O:=by
 replace k:=k.out;refine⟨?_⟩;subst he;simp[wpOps,PR.wp,AE.wp,h];exact k
theorem o0{x:AF}{s:ByteArray}(h:x.val O=some (.str s))(k:WO S K os ((d,.tv (.int .i64 s.size))::O)):WO S K (⟨some d,.AbK x,none⟩::os) O:=by
 replace k:=k.out;refine⟨?_⟩;simp[wpOps,PR.wp,AE.wp,h];exact k
variable{m:List α}
theorem YU{a b:Int}(h:slc l a b=some m):((0<=a/\a<=b)/\b<=l.length)/\m=(l.take b.toNat).drop a.toNat:=by
 unfold slc at h
 grind
variable{ka kb:IntKind}
theorem tK{x:AF}{lo hi:Option AF}{es:Fq}{a b:Int}(h:x.val O=some (.list n es))(he:es=l.map e)(u:Ez O 0 lo=some (.int ka a))(w:Ez O l.length hi=some (.int kb b))(B:slc l a b=some m)
  (k:WO S K os ((d,.tv (.list n (m.map e)))::O)):WO S K (⟨some d,.slc n x lo hi,none⟩::os) O:=by
 replace k:=k.out;refine⟨?_⟩;subst he;obtain⟨⟨A,C⟩,D⟩:=YU B;subst D;simp only[wpOps,PR.wp,AE.wp,h,ca,u,w];refine⟨⟨trivial,A.1,A.2⟩,C,?_⟩;rw[List.map_drop,List.map_take]at k;exact k
theorem o6{x:AF}{lo hi:Option AF}{s t:ByteArray}{a b:Int}(h:x.val O=some (.str s))(w:Ez O 0 lo=some (.int ka a))(A:Ez O s.size hi=some (.int kb b))(u:AaH s a b=some t)
  (k:WO S K os ((d,.tv (.str t))::O)):WO S K (⟨some d,.AaH x lo hi,none⟩::os) O:=by
 replace k:=k.out;refine⟨?_⟩;unfold AaH at u;split at u
 .rename_i B;cases u;simp[wpOps,PR.wp,AE.wp,h,w,A];exact⟨B.1,B.2.1,B.2.2,k⟩
 .cases u
variable{zero:Fq}{parts:List (Nat×Nat×AF)}
theorem Wr{ts:List (Nat×Nat×TV)}{cs:Fq}(h:F5 O parts=some ts)(u:Ec zero ts=some cs)(w:TV.agg cs=t)(k:WO S K os ((d,.tv t)::O)):WO S K (⟨some d,.bld zero parts,none⟩::os) O:=by
 replace k:=k.out;refine⟨?_⟩;subst w;simp[wpOps,PR.wp,AE.wp,h,AV,u];exact k
def Tj:Nat->List (Nat×Nat×TV)->Bool
 |_,[]=>true|k,(i,n,t)::r=>Nat.beq i k&&Nat.beq t.cells.length n&&Tj (k+n) r
def HZ:List (Nat×Nat×TV)->Fq
 |[]=>[]|(_,_,t)::r=>t.cells++HZ r
theorem SJ:∀(ds done k rest:Fq),k.length=ds.length->NF (done++(k++rest)) done.length ds=done++(ds++rest)
 |[],done,k,rest,h=>by
  have:k=[]:=List.eq_nil_of_length_eq_zero (by simpa using h);subst this;rfl
 |d::ds,done,[],rest,h=>by simp at h|d::ds,done,m::k,rest,h=>by
  simp only[NF];rw[List.cons_append,List.set_append_right _ _ (bk _),Nat.sub_self,List.set_cons_zero];have:=SJ ds (done++[d]) k rest (by simpa using h);simpa using this
theorem Ve:∀(ts:List (Nat×Nat×TV))(done rest:Fq),Tj done.length ts=true->(HZ ts).length=rest.length->Ec (done++rest) ts=some (done++HZ ts)
 |[],done,rest,_,h=>by
  have:rest=[]:=List.eq_nil_of_length_eq_zero (by simpa[HZ]using h.symm);subst this;rfl
 |(i,n,t)::r,done,rest,u,h=>by
  simp [Tj]at u;obtain⟨⟨rfl,k⟩,B⟩:=u;simp[HZ]at h;have w:n<=rest.length:=by omega
  simp only[Ec];rw[ae ⟨k,by rw[cE];omega⟩];have A:rest=rest.take n++rest.drop n:=(List.take_append_drop n rest).symm;rw[A,SJ t.cells done (rest.take n) (rest.drop n) (by rw[c7];omega),<-ci];rw[Ve r (done++t.cells) (rest.drop n) (by rw[cE,k];exact B) (by rw[List.length_drop];omega)];simp[HZ]
theorem oY{ts:List (Nat×Nat×TV)}(h:F5 O parts=some ts)(u:Tj 0 ts=true)(w:Nat.beq (HZ ts).length zero.length=true)(A:TV.agg (HZ ts)=t)(k:WO S K os ((d,.tv t)::O)):WO S K (⟨some d,.bld zero parts,none⟩::os) O:=
 Wr h (by have:=Ve ts [] zero u (Nat.eq_of_beq_eq_true w);simpa using this) A k
variable{ts:Fq}
theorem jL{parts:List AF}(h:vals O parts=some ts)(he:ts=l.map e)(u:∀a,(e a).cells.length=n)(k:WO S K os ((d,.ow (.list n (l.map e)))::O)):WO S K (⟨some d,.lst n parts,none⟩::os) O:=by
 replace k:=k.out;refine⟨?_⟩;subst he;simp[wpOps,PR.wp,AE.wp,h,AV];refine⟨fun t w=>?_,k⟩
 grind
variable{s:Nat}{r:List α}
theorem jG{y:AF}{es u rs:Fq}(w:O.get s=.ow (.list n es))(A:y.val O=some (.list n u))(he:es=l.map e)(hf:u=m.map e)(h:Ah l m=some r)(B:rs=r.map e)
  (k:WO S K os ((d,.ow (.list n rs))::(s,.tv (.list n es))::O)):WO S K (⟨some d,.app n (.s s) y,none⟩::os) O:=by
 replace k:=k.out;refine⟨?_⟩;subst hf B;unfold Ah at h;split at h
 .rename_i C;cases h;simp only[wpOps,PR.wp,AE.wp,AF.ev,w,A,he,ca];rw[he]at k;refine⟨by simp,by simp,C,?_⟩;rw[List.map_append]at k;exact k
 .cases h
variable{f:FuncId}
theorem di{args:List AF}(h:vals O args=some ts)(u:S f ts (.sh t))(k:WO S K os ((d,.tv t)::O)):WO S K (⟨some d,.call f args,none⟩::os) O:=by
 replace k:=k.out;refine⟨?_⟩;simp[wpOps,PR.wp,AE.wp,h,AV];exact⟨_,⟨u,rfl⟩,fun _=>k⟩
theorem lb{args:List AF}(h:vals O args=some ts)(u:S f ts (.own t))(k:WO S K os ((d,.ow t)::O)):WO S K (⟨some d,.call f args,none⟩::os) O:=by
 replace k:=k.out;refine⟨?_⟩;simp[wpOps,PR.wp,AE.wp,h,AV];exact⟨_,⟨u,rfl⟩,fun _=>k⟩
theorem lg{args:List AF}{ts es:Fq}(h:vals O args=some ts)(u:S f ts (.AaZ n es))(k:WO S K os ((d,.ow (.list n es))::O)):WO S K (⟨some d,.call f args,none⟩::os) O:=by
 replace k:=k.out;refine⟨?_⟩;simp[wpOps,PR.wp,AE.wp,h,AV];exact⟨_,⟨u,rfl⟩,fun _=>k⟩
theorem lc{args:List AF}{ts t:Fq}(h:vals O args=some ts)(u:S f ts (.tp t))(k:WO S K os ((d,.tp t)::O)):WO S K (⟨some d,.call f args,none⟩::os) O:=by
 replace k:=k.out;refine⟨?_⟩;simp[wpOps,PR.wp,AE.wp,h,AV];exact⟨_,⟨u,rfl⟩,fun _=>k⟩
variable{caps:Fq}
theorem lf{x:AF}{args:List AF}(h:x.val O=some (.clo f caps))(u:vals O args=some ts)(w:S f (ts++caps) (.sh t))(k:WO S K os ((d,.tv t)::O)):WO S K (⟨some d,.AaK x args,none⟩::os) O:=by
 replace k:=k.out;refine⟨?_⟩;simp[wpOps,PR.wp,AE.wp,h,u];exact⟨_,⟨w,rfl⟩,fun _=>k⟩
theorem gT{x:AF}{args:List AF}(h:x.val O=some (.clo f caps))(u:vals O args=some ts)(w:S f (ts++caps) (.own t))(k:WO S K os ((d,.ow t)::O)):WO S K (⟨some d,.AaK x args,none⟩::os) O:=by
 replace k:=k.out;refine⟨?_⟩;simp[wpOps,PR.wp,AE.wp,h,u];exact⟨_,⟨w,rfl⟩,fun _=>k⟩
theorem gU{x:AF}{args:List AF}{ts t:Fq}(h:x.val O=some (.clo f caps))(u:vals O args=some ts)(w:S f (ts++caps) (.tp t))(k:WO S K os ((d,.tp t)::O)):WO S K (⟨some d,.AaK x args,none⟩::os) O:=by
 replace k:=k.out;refine⟨?_⟩;simp[wpOps,PR.wp,AE.wp,h,u];exact⟨_,⟨w,rfl⟩,fun _=>k⟩
theorem sP{caps:List AF}(h:vals O caps=some ts)(k:WO S K os ((d,.tv (.clo f ts))::O)):WO S K (⟨some d,.clo f caps,none⟩::os) O:=by
 replace k:=k.out;refine⟨?_⟩;simp[wpOps,PR.wp,AE.wp,h,AV];exact k
variable{i:Nat}
theorem RK{x:AF}(h:x.ev O=.tp ts)(hi:ts[i]?=some t)(k:WO S K os ((d,.tv t)::O)):WO S K (⟨some d,.ext x i,none⟩::os) O:=by
 replace k:=k.out;refine⟨?_⟩;simp[wpOps,PR.wp,AE.wp,h,hi,AV];exact k
theorem tC{x:AF}(h:x.ev O=.tp ts)(k:WO S K os ((d,.tp ts)::O)):WO S K (⟨some d,.mv x,none⟩::os) O:=by
 replace k:=k.out;refine⟨?_⟩;simp[wpOps,PR.wp,AE.wp,h];exact k
theorem sT{ik ik':IntKind}{x:AF}{n:Int}(h:x.val O=some (.int ik' n))(k:WO S K os ((d,.tv (.int ik (ik.wrap n)))::O)):WO S K (⟨some d,.cvt ik x,none⟩::os) O:=by
 replace k:=k.out;refine⟨?_⟩;simp[wpOps,PR.wp,AE.wp,h];exact k
theorem oz{x i:AF}{s:ByteArray}{ik:IntKind}{j b:Int}(h:x.val O=some (.str s))(hi:i.val O=some (.int ik j))(u:AaC s j=some b)(k:WO S K os ((d,.tv (.int .u8 b))::O)):WO S K (⟨some d,.AaC x i,none⟩::os) O:=by
 replace k:=k.out;refine⟨?_⟩;unfold AaC at u;split at u
 .rename_i w;rw[Option.map_eq_some_iff]at u;obtain⟨c,A,rfl⟩:=u;simp[wpOps,PR.wp,AE.wp,h,hi];exact⟨w,c,A,k⟩
 .cases u
theorem dh{x:AF}{row:Fq}(h:x.val O=some t)(u:t.cells=row)(k:WO S K os ((d,.tv (.pt row))::O)):WO S K (⟨some d,.Abs x,none⟩::os) O:=by
 replace k:=k.out;refine⟨?_⟩;subst u;simp[wpOps,PR.wp,AE.wp,h];exact k
theorem oc{x:AF}{row:Fq}{cs:List AQ}(h:x.val O=some t)(u:O.jj d=true)(w:t.cells=row)(A:row.map (⟨false,·⟩)=cs)(k:WO S K os ((d,.bx cs)::O)):WO S K (⟨some d,.Abu x,none⟩::os) O:=by
 replace k:=k.out;refine⟨?_⟩;subst w A;simp[wpOps,PR.wp,AE.wp,h];exact⟨u,k⟩
theorem ot{mx:Bool}{x y:AF}{ik:IntKind}{a b:Int}(h:x.val O=some (.int ik a))(u:y.val O=some (.int ik b))(k:WO S K os ((d,.tv (.int ik (if mx then max a b else min a b)))::O)):WO S K (⟨some d,.mm mx x y,none⟩::os) O:=by
 replace k:=k.out;refine⟨?_⟩;simp only[wpOps,PR.wp,AE.wp,h,u];exact⟨trivial,k⟩
theorem sq{x y:AF}{ik:IntKind}{a b:Int}(h:x.val O=some (.int ik a))(u:y.val O=some (.int ik b))(k:WO S K os ((d,.tv (.int ik (max a b)))::O)):WO S K (⟨some d,.mm true x y,none⟩::os) O:=ot h u k
theorem sv{x y:AF}{ik:IntKind}{a b:Int}(h:x.val O=some (.int ik a))(u:y.val O=some (.int ik b))(k:WO S K os ((d,.tv (.int ik (min a b)))::O)):WO S K (⟨some d,.mm false x y,none⟩::os) O:=ot h u k
theorem sN{cs:List AQ}(h:O.jj d=true)(k:WO S K os ((d,.bx cs)::O)):WO S K (⟨some d,.alc cs,none⟩::os) O:=by
 replace k:=k.out;refine⟨?_⟩;simp[wpOps,PR.wp,AE.wp];exact⟨h,k⟩
variable{off:Nat}
theorem o7{x v:AF}{cs cs':List AQ}(h:x.place O=some (s,off))(u:O.get s=.bx cs)(hv:v.ev O=.tv t)(w:t.cells.length=n)(A:Nat.ble (off+n) cs.length=true)(B:cs.take off++t.cells.map (⟨false,·⟩)++cs.drop (off+n)=cs')
  (k:WO S K os ((s,.bx cs')::O)):WO S K (⟨none,.st n x v,none⟩::os) O:=by
 replace k:=k.out;refine⟨?_⟩;subst B;simp only[wpOps,PR.wp,AE.wp,h,u,hv];exact⟨w,Nat.le_of_ble_eq_true A,k⟩
theorem jO{s off q:Nat}{x:AF}{cs cs':List AQ}(h:x.place O=some (s,off))(u:O.get s=.bx cs)(hv:O.get q=.ow t)(w:q≠s)(A:Nat.blt off cs.length=true)(B:cs.set off ⟨true,t⟩=cs')
  (k:WO S K os ((s,.bx cs')::(q,.tv t)::O)):WO S K (⟨none,.st 1 x (.s q),none⟩::os) O:=by
 replace k:=k.out;refine⟨?_⟩;subst B;simp only[wpOps,PR.wp,AE.wp,h,u,AF.ev,hv];exact⟨w,trivial,Nat.le_of_ble_eq_true A,k⟩
variable{v:AF}
theorem jN{cs cs':List AQ}(h:O.get s=.bx cs)(hv:v.ev O=.tv t)(u:t.cells.length=n)(w:Nat.ble (0+n) cs.length=true)(A:cs.take 0++t.cells.map (⟨false,·⟩)++cs.drop (0+n)=cs')
  (k:WO S K os ((s,.bx cs')::O)):WO S K (⟨none,.stb n s v,none⟩::os) O:=by
 replace k:=k.out;refine⟨?_⟩;subst A;simp only[wpOps,PR.wp,AE.wp,h,hv];exact⟨u,Nat.le_of_ble_eq_true w,k⟩
theorem o8{s q:Nat}{cs cs':List AQ}(h:O.get s=.bx cs)(hv:O.get q=.ow t)(u:q≠s)(w:Nat.blt 0 cs.length=true)(A:cs.set 0 ⟨true,t⟩=cs')
  (k:WO S K os ((s,.bx cs')::(q,.tv t)::O)):WO S K (⟨none,.stb 1 s (.s q),none⟩::os) O:=by
 replace k:=k.out;refine⟨?_⟩;subst A;simp only[wpOps,PR.wp,AE.wp,h,AF.ev,hv];exact⟨u,trivial,Nat.le_of_ble_eq_true w,k⟩
theorem sW{cs:List AQ}{row:Fq}(h:O.get s=.bx cs)(u:cs.map (·.t)=row)(k:WO S K os ((s,.tv (.pt row))::O)):WO S K (⟨none,.frz s,none⟩::os) O:=by
 replace k:=k.out;refine⟨?_⟩;subst u;simp[wpOps,PR.wp,AE.wp,h];exact k
theorem oZ{u:List GC}{cs:List AQ}{env':AB}(w:(u.filterMap GC.src).Nodup)(hd:d∉u.filterMap GC.slot)(h:Hb O u=some cs)(he:N0 O (u.filterMap GC.slot) O=env')(k:WO S K os ((d,.oag cs)::env')):WO S K (⟨some d,.Aaz u,none⟩::os) O:=by
 replace k:=k.out;refine⟨?_⟩;subst he;simp only[wpOps,PR.wp,AE.wp,h];exact⟨⟨w,hd⟩,k⟩
theorem tM{n s q:Nat}{cs ds cs':List AQ}(u:O.get s=.bx cs)(w:O.get q=.oag ds)(h:q≠s)(A:ds.length=n)(B:Nat.ble (0+n) cs.length=true)(C:((ds.all fun c=>!c.t.AaR)||O.noX s none)=true)(D:cs.take 0++ds++cs.drop (0+n)=cs')
  (k:WO S K os ((s,.bx cs')::(q,.undef)::O)):WO S K (⟨none,.stx n s q,none⟩::os) O:=by
 replace k:=k.out;refine⟨?_⟩;subst D;simp only[wpOps,PR.wp,AE.wp,u,w];exact⟨h,⟨A,C⟩,Nat.le_of_ble_eq_true B,k⟩
theorem lV{args:List AF}{cs:List AQ}(h:vals O args=some ts)(u:S f ts (.oag cs))(k:WO S K os ((d,.oag cs)::O)):WO S K (⟨some d,.Aa1 f args,none⟩::os) O:=by
 replace k:=k.out;refine⟨?_⟩;simp[wpOps,PR.wp,AE.wp,h,AV];exact⟨cs,u,fun _=>k⟩
theorem lW{args:List AF}{cs:List AQ}(h:vals O args=some ts)(u:S f ts (.oag cs))(w:TV.agg (cs.map fun c=>c.rel.t)=t)(k:WO S K os ((d,.tv t)::O)):WO S K (⟨some d,.call f args,none⟩::os) O:=by
 replace k:=k.out;refine⟨?_⟩;subst w;simp[wpOps,PR.wp,AE.wp,h,AV];exact⟨_,⟨u,rfl⟩,fun _=>k⟩
theorem jJ{x:AF}{es:Fq}(h:x.val O=some (.list n es))(he:es=l.map e)(k:∀b:Bool,(b=true->l=[])->WO S K os ((d,.tv (.bool b))::O)):WO S K (⟨some d,.isn x,none⟩::os) O:=by
 replace k:=fun b u=>(k b u).out;refine⟨?_⟩;simp only[wpOps,PR.wp,AE.wp,h];intro b u;refine k b fun w=>?_;have:=u w;rw[he]at this;simpa using this
theorem sV{x:AF}{row u:Fq}{m:Nat}(h:x.val O=some (.pt row))(w:row.drop m=u)(k:WO S K os ((d,.tv (.pt u))::O)):WO S K (⟨some d,.fdv x m,none⟩::os) O:=by
 replace k:=k.out;refine⟨?_⟩;subst w;simp[wpOps,PR.wp,AE.wp,h];exact k
theorem sg{x:AF}{row:Fq}(h:x.val O=some (.pt row))(u:Nat.ble n row.length=true)(w:TV.agg (row.take n)=t)(k:WO S K os ((d,.tv t)::O)):WO S K (⟨some d,.ldv x n,none⟩::os) O:=by
 replace k:=k.out;refine⟨?_⟩;subst w;simp[wpOps,PR.wp,AE.wp,h];exact⟨Nat.le_of_ble_eq_true u,k⟩
theorem oi{x:AF}(h:x.val O=some .nil)(k:WO S K os ((d,.tv (.bool true))::O)):WO S K (⟨some d,.isn x,none⟩::os) O:=by
 replace k:=k.out;refine⟨?_⟩;simp[wpOps,PR.wp,AE.wp,h];exact k
theorem jx(h:Ah [] l=some r)(b:Bool)(k:b=true->l=[]):(if b=true then some []else(Ah [] l).bind fun x=>some x)=some r:=by grind[Ah]
variable{j:Int}
theorem GF{a:α}(h:idx l j=some a):0<=j/\j<l.length/\l[j.toNat]?=some a:=by
 unfold idx at h
 grind
theorem ZP(u:∀a,(e a).cells.length=n):∀(l:List α)(j k:Nat)(a:α),l[j]?=some a->k<n->((l.map e).flatMap TV.cells)[j*n+k]?=(e a).cells[k]?
 |[],j,k,a,h,_=>by simp at h|b::l,0,k,a,h,w=>by
  grind
 |b::l,j+1,k,a,h,w=>by
  rw [List.getElem?_cons_succ]at h;rw[List.map_cons,List.flatMap_cons,List.getElem?_append_right (by rw[u,Nat.add_mul];omega),u,show(j+1)*n+k-n=j*n+k from by rw[Nat.add_mul];omega];exact ZP u l j k a h w
theorem XW(u:∀a,(e a).cells.length=n)(t:TV):∀(l:List α)(j k:Nat)(a b:α),l[j]?=some a->k<n->(e b).cells=(e a).cells.set k t->((l.set j b).map e).flatMap TV.cells=((l.map e).flatMap TV.cells).set (j*n+k) t
 |[],j,k,a,b,h,_,_=>by simp at h|c::l,0,k,a,b,h,w,A=>by
  grind
 |c::l,j+1,k,a,b,h,w,A=>by
  rw [List.getElem?_cons_succ]at h;rw[List.set_cons_succ,List.map_cons,List.map_cons,List.flatMap_cons,List.flatMap_cons,List.set_append_right _ _ (by rw[u,Nat.add_mul];omega),u,show(j+1)*n+k-n=j*n+k from by rw[Nat.add_mul];omega,XW u t l j k a b h w A]
theorem fJ(h:∀a,(e a).cells.length=n)(l:List α):((l.map e).flatMap TV.cells).length=l.length*n:=by
 induction l with
 |nil=>simp|cons b l k=>rw[List.map_cons,List.flatMap_cons,cE,k,h,c8,Nat.add_mul];omega
theorem Rx(h:∀a,(e a).flat=true):∀(l:List α),TV.Aag (l.map e)=true
 |[]=>rfl|a::l=>by simp[TV.Aag,h a,Rx h l]
theorem li{x:AF}{k n:Nat}{cs:Fq}(h:x.val O=some (.agg cs))(w:Nat.ble (k+n) cs.length=true)(A:TV.agg ((cs.drop k).take n)=t)(u:WO S K os ((d,.tv t)::O)):WO S K (⟨some d,.AbE x k n true,none⟩::os) O:=by
 replace u:=u.out;refine⟨?_⟩;subst A;simp[wpOps,PR.wp,AE.wp,h];exact⟨Nat.le_of_ble_eq_true w,u⟩
theorem oh{x:AF}{k n:Nat}{cs r:Fq}(h:x.val O=some (.agg cs))(w:Nat.ble (k+n) cs.length=true)(A:cs.drop k=t::r)(u:WO S K os ((d,.tv t)::O)):WO S K (⟨some d,.AbE x k n false,none⟩::os) O:=by
 replace u:=u.out;refine⟨?_⟩;simp[wpOps,PR.wp,AE.wp,h,A,Fk,AV];exact⟨Nat.le_of_ble_eq_true w,u⟩
theorem tR{es:Fq}(h:O.get s=.xo n es)(k:WO S K os ((d,.la s none)::O)):WO S K (⟨some d,.xal s,none⟩::os) O:=by
 replace k:=k.out;refine⟨?_⟩;simp[wpOps,PR.wp,AE.wp,h];exact k
theorem o9{x:AF}{q:Nat×Option Nat}{es:Fq}(h:x.Aaa O=some (q,n,es))(he:es=l.map e)(k:WO S K os ((d,.tv (.int .i64 l.length))::O)):WO S K (⟨some d,.AbD x,none⟩::os) O:=by
 replace k:=k.out;refine⟨?_⟩;subst he;simp[wpOps,PR.wp,AE.wp,h,AV];exact k
variable{qi:Option Nat}
theorem tT{x i:AF}{q n:Nat}{es:Fq}{ik:IntKind}{a:α}(h:x.Aaa O=some ((q,qi),n,es))(hi:i.val O=some (.int ik j))(he:es=l.map e)(u:idx l j=some a)(w:(x.ev O).ref=some q)
  (k:WO S K os ((d,.lp q qi (j.toNat*n))::O)):WO S K (⟨some d,.xia x i n,none⟩::os) O:=by
 replace k:=k.out;refine⟨?_⟩;subst he;obtain⟨A,B,_⟩:=GF u;simp only[wpOps,PR.wp,AE.wp,h,hi,AV,ca];exact⟨⟨w,trivial⟩,A,B,k⟩
variable{p:Nat×Fq}
theorem tS{x:AF}{j q c:Nat}(h:x.ev O=.lp q qi c)(u:O.x7 q qi=some p)(k:WO S K os ((d,.lp q qi (c+j))::O)):WO S K (⟨some d,.xfa x j,none⟩::os) O:=by
 replace k:=k.out;refine⟨?_⟩;simp[wpOps,PR.wp,AE.wp,h,u];exact k
theorem jP{x:AF}{q c n i:Nat}{es row:Fq}{a:α}(h:x.ev O=.lp q qi c)(u:O.x7 q qi=some (n,es))(he:es=l.map e)(w:∀a,(e a).cells.length=n)(A:idx l j=some a)(B:c=j.toNat*n+i)(hi:Nat.blt i n=true)(C:(e a).cells=row)(D:row[i]?=some t)
  (k:WO S K os ((d,.tv t)::O)):WO S K (⟨some d,.xld x,none⟩::os) O:=by
 replace k:=k.out;refine⟨?_⟩;subst he B C;have hf:=ZP w l j.toNat i a (GF A).2.2 (Nat.le_of_ble_eq_true hi);simp[wpOps,PR.wp,AE.wp,h,u,hf,D,AV];exact k
theorem jQ{x v:AF}{q c n i:Nat}{env':AB}{es rs:Fq}{a b:α}(h:x.ev O=.lp q qi c)(G:O.x7 q qi=some (n,es))(hv:v.ev O=.tv t)(he:es=l.map e)(A:∀a,(e a).cells.length=n)(H:idx l j=some a)(I:c=j.toNat*n+i)(hi:Nat.blt i n=true)(E:t.cells=[t])
  (J:(e b).cells=(e a).cells.set i t)(L:rs=(BC l j b).map e)(B:O.Aaj q qi n rs=env')(k:WO S K os env'):WO S K (⟨none,.xst x v 1,none⟩::os) O:=by
 replace k:=k.out;refine⟨?_⟩;subst he I L B;obtain⟨P,Q,F⟩:=GF H;have C:i<n:=Nat.le_of_ble_eq_true hi;have w:j.toNat<l.length:=(List.getElem?_eq_some_iff.1 F).1;simp only[wpOps,PR.wp,AE.wp,h,G,hv];have D:j.toNat*n+i<l.length*n:=calc j.toNat*n+i<j.toNat*n+n:=by omega
   _=(j.toNat+1)*n:=by rw[Nat.add_mul];omega
   _<=l.length*n:=Nat.mul_le_mul_right _ w
 refine ⟨⟨by rw[E];rfl,by omega⟩,?_,_,(XW A t l j.toNat i a b F C J).trans (by rw[E,List.set_eq_take_append_cons_drop,ae (by rw[fJ A];exact D)];simp),by simp,fun u M=>?_,k⟩
 .rw[ca]
  calc j.toNat*n+i<j.toNat*n+n:=by omega
   _=(j.toNat+1)*n:=by rw[Nat.add_mul];omega
   _<=l.length*n:=Nat.mul_le_mul_right _ w
 .obtain⟨N,_,rfl⟩:=List.mem_map.1 M;exact A N
theorem XU(k:∀a,(e a).cells.length=n):∀(l:List α)(j:Nat)(b:α),j<l.length->((l.set j b).map e).flatMap TV.cells=((l.map e).flatMap TV.cells).take (j*n)++(e b).cells++((l.map e).flatMap TV.cells).drop (j*n+n)
 |[],j,b,h=>by simp at h|c::l,0,b,h=>by
  grind
 |c::l,j+1,b,h=>by
  rw [List.set_cons_succ,List.map_cons,List.map_cons,List.flatMap_cons,List.flatMap_cons,XU k l j b (by simpa using h),show(j+1)*n=(e c).cells.length+j*n from by rw[k,Nat.add_mul];omega,Nat.add_assoc,List.take_length_add_append,List.drop_length_add_append,ci,ci,ci]
theorem jR{x v:AF}{q n:Nat}{env':AB}{es:Fq}{a b:α}(h:x.ev O=.lp q qi (j.toNat*n))(E:O.x7 q qi=some (n,es))(hv:v.ev O=.tv (e b))(he:es=l.map e)(A:∀a,(e a).cells.length=n)(F:idx l j=some a)(G:Nat.blt 0 n=true)
  (B:O.Aaj q qi n ((BC l j b).map e)=env')(k:WO S K os env'):WO S K (⟨none,.xst x v n,none⟩::os) O:=by
 replace k:=k.out;refine⟨?_⟩;subst he B;obtain⟨L,M,I⟩:=GF F;have C:0<n:=Nat.le_of_ble_eq_true G;have w:j.toNat<l.length:=(List.getElem?_eq_some_iff.1 I).1;have D:j.toNat*n+n<=l.length*n:=calc j.toNat*n+n=(j.toNat+1)*n:=by rw[Nat.add_mul];omega
   _<=l.length*n:=Nat.mul_le_mul_right _ w
 simp only[wpOps,PR.wp,AE.wp,h,E,hv];refine⟨⟨A b,C⟩,by rw[ca];exact D,_,XU A l j.toNat b w,by simp,fun u H=>?_,k⟩;obtain⟨J,_,rfl⟩:=List.mem_map.1 H;exact A J
theorem tI{es:Fq}(h:O.get s=.xo n es)(hd:d≠s)(k:WO S K os ((d,.ow (.list n es))::(s,.undef)::O)):WO S K (⟨some d,.rel s,none⟩::os) O:=by
 replace k:=k.out;refine⟨?_⟩;simp[wpOps,PR.wp,AE.wp,h];exact⟨hd,k⟩
theorem ov(h:O.jj d=true)(k:WO S K os ((d,.xo n [])::O)):WO S K (⟨some d,.Abk n,none⟩::os) O:=by
 replace k:=k.out;refine⟨?_⟩;simp[wpOps,PR.wp,AE.wp];exact⟨h,k⟩
theorem oo(h:O.jj d=true)(k:WO S K os ((d,.xo n [])::O)):WO S K (⟨some d,.Abl n,none⟩::os) O:=by
 replace k:=k.out;refine⟨?_⟩;simp[wpOps,PR.wp,AE.wp];exact⟨h,k⟩
theorem tQ{es:Fq}(h:O.get s=.xo n es)(u:O.jj d=true)(hd:d≠s)(k:WO S K os ((d,.xo n es)::(s,.undef)::O)):WO S K (⟨some d,.tkx s,none⟩::os) O:=by
 replace k:=k.out;refine⟨?_⟩;simp[wpOps,PR.wp,AE.wp,h];exact⟨u,hd,k⟩
theorem oV{y:AF}{es u rs:Fq}(w:O.get s=.xo n es)(A:y.val O=some (.list n u))(he:es=l.map e)(hf:u=m.map e)(h:Ah l m=some r)(B:rs=r.map e)(C:O.jj d=true)(hd:d≠s)
  (k:WO S K os ((d,.xo n rs)::(s,.undef)::O)):WO S K (⟨some d,.Abh n s y,none⟩::os) O:=by
 replace k:=k.out;refine⟨?_⟩;subst he hf B;unfold Ah at h;split at h
 .rename_i D;cases h;simp only[wpOps,PR.wp,AE.wp,w,A,ca];rw[List.map_append]at k;exact⟨trivial,trivial,D,C,hd,k⟩
 .cases h
theorem lh{args:List AF}{ts es:Fq}(h:O.jj d=true)(u:vals O args=some ts)(w:S f ts (.AaZ n es))(k:WO S K os ((d,.xo n es)::O)):WO S K (⟨some d,.AaL f args,none⟩::os) O:=by
 replace k:=k.out;refine⟨?_⟩;simp[wpOps,PR.wp,AE.wp,u,AV];exact⟨h,n,es,.inl w,fun _=>k⟩
theorem gV{args:List AF}{ts es:Fq}(h:O.jj d=true)(u:vals O args=some ts)(w:S f ts (.own (.list n es)))(he:es=l.map e)(hf:∀a,(e a).flat=true)(k:WO S K os ((d,.xo n es)::O)):WO S K (⟨some d,.AaL f args,none⟩::os) O:=by
 replace k:=k.out;refine⟨?_⟩;simp[wpOps,PR.wp,AE.wp,u,AV];exact⟨h,n,es,.inr ⟨w,by rw[he];exact Rx hf l⟩,fun _=>k⟩
variable{rs:Fq}{z:α}
theorem sz{x:AF}{ik:IntKind}(w:O.jj d=true)(A:x.val O=some (.int ik j))(B:(match zero with|[t]=>t|ts=>.agg ts)=e z)(h:GW j z=some r)(C:rs=r.map e)
  (k:WO S K os ((d,.xo n rs)::O)):WO S K (⟨some d,.mkx n zero x,none⟩::os) O:=by
 replace k:=k.out;refine⟨?_⟩;subst C;unfold GW at h;split at h
 .rename_i u;cases h;rw[List.map_replicate,<-B]at k;simp[wpOps,PR.wp,AE.wp,A];exact⟨w,u.1,u.2,k⟩
 .cases h
theorem lZ{x:AF}{q:Nat}{env':AB}{es rs:Fq}{e:Int->TV}{l r:Fp}(h:x.Aaa O=some ((q,qi),1,es))(he:es=l.map e)(u:e=TV.int .i64)(A:S f [.list 1 (l.map (TV.int .i64))] (.turn r))(B:rs=r.map e)(w:O.Aaj q qi 1 rs=env')(k:WO S K os ((d,.tp [])::env')):WO S K (⟨some d,.AaS f x,none⟩::os) O:=by
 replace k:=k.out;refine⟨?_⟩;subst he B u w;simp only[wpOps,PR.wp,AE.wp,h,AV];exact⟨trivial,l,r,rfl,A,fun _=>k⟩
theorem lR{x:AF}{q:Nat}{es rs:Fq}{e:Int->TV}{l r:Fp}(h:x.Aaa O=some ((q,none),1,es))(he:es=l.map e)(u:e=TV.int .i64)(w:q≠d)(A:O.jj d=true)(B:S f [.list 1 (l.map (TV.int .i64))] (.cut r))(C:rs=r.map e)(k:WO S K os ((d,.xo 1 rs)::(q,.undef)::O)):WO S K (⟨some d,.AaW f x,none⟩::os) O:=by
 replace k:=k.out;refine⟨?_⟩;subst he C u;simp only[wpOps,PR.wp,AE.wp,h,AV];exact⟨⟨w,trivial⟩,trivial,A,l,r,rfl,B,fun _=>k⟩
theorem sa{x:AF}(h:x.ev O=.bp s off)(u:O.x7 s (some off)=some p)(k:WO S K os ((d,.la s (some off))::O)):WO S K (⟨some d,.lac x,none⟩::os) O:=by
 replace k:=k.out;refine⟨?_⟩;simp[wpOps,PR.wp,AE.wp,h,u];exact k
theorem sR{x:AF}{cs cs':List AQ}{es:Fq}(u:x.place O=some (s,off))(w:O.get s=.bx cs)(A:cs[off]?=some ⟨true,.xl n es⟩)(B:O.jj d=true)(h:cs.set off ⟨false,.undef⟩=cs')(k:WO S K os ((d,.xo n es)::(s,.bx cs')::O)):WO S K (⟨some d,.ctk x,none⟩::os) O:=by
 replace k:=k.out;refine⟨?_⟩;subst h;simp[wpOps,PR.wp,AE.wp,u,w,A];exact⟨B,k⟩
theorem sQ{x:AF}{q s off n:Nat}{cs cs':List AQ}{es:Fq}(u:x.place O=some (s,off))(w:O.get q=.xo n es)(A:O.get s=.bx cs)(B:O.noX s (some off)=true)(C:Nat.blt off cs.length=true)(h:cs.set off ⟨true,.xl n es⟩=cs')(k:WO S K os ((s,.bx cs')::(q,.undef)::O)):WO S K (⟨none,.cpt x q,none⟩::os) O:=by
 replace k:=k.out;refine⟨?_⟩;subst h;simp[wpOps,PR.wp,AE.wp,u,w,A];exact⟨B,Nat.le_of_ble_eq_true C,k⟩
theorem sS{hi:AF}{es rs:Fq}{ik:IntKind}(w:O.get s=.xo n es)(A:hi.val O=some (.int ik j))(he:es=l.map e)(h:slc l 0 j=some r)(B:rs=r.map e)(C:O.jj d=true)(hd:d≠s)(k:WO S K os ((d,.xo n rs)::(s,.undef)::O)):WO S K (⟨some d,.cut n s hi,none⟩::os) O:=by
 replace k:=k.out;refine⟨?_⟩;subst he B;obtain⟨⟨D,E⟩,u⟩:=YU h;subst u;simp only[wpOps,PR.wp,AE.wp,w,A];refine⟨⟨trivial,C,hd⟩,D.2,by rw[ca];exact E,?_⟩;have u:((l.take j.toNat).drop (0:Int).toNat).map e=(l.map e).take j.toNat:=by simp
 rw [u]at k;exact k
theorem lY{args:List AF}(h:Aas O args=some ts)(u:S f ts (.sh t))(w:t.flat=true)(k:WO S K os ((d,.tv t)::O)):WO S K (⟨some d,.AaI f args,none⟩::os) O:=by
 replace k:=k.out;refine⟨?_⟩;simp[wpOps,PR.wp,AE.wp,h,AV];exact⟨_,⟨u,w⟩,fun _=>k⟩
theorem gQ{args:List AF}{ts t:Fq}(h:Aas O args=some ts)(u:S f ts (.tp t))(w:TV.Aag t=true)(k:WO S K os ((d,.tp t)::O)):WO S K (⟨some d,.AaI f args,none⟩::os) O:=by
 replace k:=k.out;refine⟨?_⟩;simp[wpOps,PR.wp,AE.wp,h,AV];exact⟨_,⟨u,w⟩,fun _=>k⟩
theorem gP{args:List AF}{ts es:Fq}(h:Aas O args=some ts)(u:S f ts (.own t))(w:t=.list n es)(he:es=l.map e)(hf:∀a,(e a).flat=true)(k:WO S K os ((d,.ow t)::O)):WO S K (⟨some d,.AaI f args,none⟩::os) O:=by
 replace k:=k.out;refine⟨?_⟩;subst w he;simp[wpOps,PR.wp,AE.wp,h,AV];exact⟨_,⟨u,Rx hf l⟩,fun _=>k⟩
def TJ{α:Type}(l:List α)(j:Int)(z:α):Option (List α):=if(0<=j/\j<=4096)/\l.length+j.toNat<=Ae then some (l++List.replicate j.toNat z)else none
theorem oW{u:TV}{x:AF}{es rs:Fq}{ik:IntKind}(B:O.get s=.xo n es)(C:x.val O=some (.int ik j))(he:es=l.map e)(D:u=e z)(h:TJ l j z=some r)(E:rs=r.map e)(F:O.jj d=true)(hd:d≠s)(w:n=1)(G:u.cells=[u])(k:WO S K os ((d,.xo n rs)::(s,.undef)::O)):WO S K (⟨some d,.Abj n s u x,none⟩::os) O:=by
 replace k:=k.out;refine⟨?_⟩;subst he E;unfold TJ at h;split at h
 .rename_i A;cases h;simp only[wpOps,PR.wp,AE.wp,B,C];refine⟨⟨⟨trivial,w⟩,G⟩,A.1,⟨by rw[ca];exact A.2,F,hd⟩,?_⟩;rw[List.map_append,List.map_replicate,<-D]at k;exact k
 .cases h
theorem lU{args:List AF}{ts t:Fq}(h:vals O args=some ts)(u:S f ts (.ext t))(k:WO S K os ((d,.tp t)::O)):WO S K (⟨some d,.Aa3 f args,none⟩::os) O:=by
 replace k:=k.out;refine⟨?_⟩;simp[wpOps,PR.wp,AE.wp,h,AV];exact⟨_,u,k⟩
theorem od{u:List (Option AQ)}{x:AF}{cs:List AQ}(h:x.val O=some t)(w:DK u t.cells=some cs)(A:O.jj d=true)(k:WO S K os ((d,.bx cs)::O)):WO S K (⟨some d,.Abt u x,none⟩::os) O:=by
 replace k:=k.out;refine⟨?_⟩;simp[wpOps,PR.wp,AE.wp,h,w,AV];exact⟨A,k⟩
theorem lQ{args:List AF}{ts h:Fq}{cs cs':List AQ}{e:EV}(u:(args[i]?).bind (·.place O)=some (s,0))(w:O.get s=.bx cs)(A:O.noX s none=true)(hd:d≠s)(B:G5 O i args=some ts)(C:S f ts (.bo cs cs' i h))(he:EV.ofs h=e)(k:WO S K os ((d,e)::(s,.bx cs')::O)):WO S K (⟨some d,.AaE f args i,none⟩::os) O:=by
 replace k:=k.out;refine⟨?_⟩;subst he;simp only[wpOps,PR.wp,AE.wp,u,w,B,AV];exact⟨⟨A,hd⟩,cs',h,C,fun _=>k⟩
def TX{α:Type}(l:List α):Option Unit:=if l.isEmpty then none else some ()
theorem cc{u:Unit}{b:Bool}(h:TX l=some u)(k:b=true->l=[]):b=false:=by
 cases b with
 |false=>rfl|true=>rw[k rfl]at h;cases h
variable{g:Nat}
theorem uM{h:Option Nat}{op:AE}{b q:Bool}(u:O.get g=.tv (.bool q))(w:q=b)(k:WO S K (⟨h,op,none⟩::os) O):WO S K (⟨h,op,some (g,b)⟩::os) O:=by
 replace k:=k.out;refine⟨?_⟩
 grind [wpOps,PR.wp]
theorem rN{d:Nat}{op:AE}{b q:Bool}(u:O.get g=.tv (.bool q))(w:q=!b)(k:WO S K os ((d,.sk)::O)):WO S K (⟨some d,op,some (g,b)⟩::os) O:=by
 replace k:=k.out;refine⟨?_⟩;subst w;simp only[wpOps,PR.wp,u];exact⟨fun h=>by cases b<;>simp at h,fun _=>k⟩
theorem uN{d:Nat}{op:AE}{b:Bool}(h:O.get g=.sk)(k:WO S K os ((d,.sk)::O)):WO S K (⟨some d,op,some (g,b)⟩::os) O:=by
 replace k:=k.out;refine⟨?_⟩;simp[wpOps,PR.wp,h];exact k
theorem Yf(xs h:List PR)(O:AB):wpOps S K (xs++h) O=wpOps S (wpOps S K h) xs O:=by
 induction xs generalizing O with
 |nil=>rfl|cons x xs k=>
  simp only[List.cons_append,wpOps];congr 1;funext e;exact k e
theorem rM{ops:List PR}(n:Nat)(M:AB->AB->Prop)(h:WO S (M O) (ops.take n) O)(k:∀e,M O e->WO S K (ops.drop n) e):WO S K ops O:=by
 refine ⟨?_⟩;rw[<-List.take_append_drop n ops,Yf];exact OU S (fun e he=>(k e he).out) _ O h.out
variable{q:Q}{a b:PC}
theorem q9(h:WP S a ⟨fun e=>(∀s,(e.get s).WF)->WP S b q e,q.exit,q.ret⟩ O):WP S (.seq a b) q O:=⟨PC.pc S a _ O h.out _ (fun _ he k=>(he k).out) (fun _ _ h=>h) (fun _ h=>h)⟩
theorem mn{live:Ne}{env':AB}(k:O.hV live=env')(h:q.normal env'):WP S (.skip live) q O:=by subst k;exact⟨h⟩
theorem ml{live:Ne}{env':AB}(k:O.hV live=env')(h:q.exit i env'):WP S (.exit i live) q O:=by subst k;exact⟨h⟩
theorem T8{x:AF}{c:Bool}(k:x.val O=some (.bool c))(u:c=true->WP S a q O)(hf:c=false->WP S b q O):WP S (.cond x a b) q O:=by
 refine ⟨?_⟩;simp[PC.wp,k];exact⟨fun h=>(u h).out,fun h=>(hf h).out⟩
theorem Pp{x:AF}{c:Bool}(k:x.val O=some (.bool c))(h:c=true)(u:WP S a q O):WP S (.cond x a b) q O:=by grind[T8]
theorem Po{x:AF}{c:Bool}(k:x.val O=some (.bool c))(h:c=false)(u:WP S b q O):WP S (.cond x a b) q O:=by grind[T8]
theorem U2(h:WP S a ⟨q.normal,fun j e=>if j=i then q.normal e else q.exit j e,q.ret⟩ O):WP S (.block i a) q O:=⟨h.out⟩
theorem XN{x y:Prop}(h:x):if i=i then x else y:=by rw[ae rfl];exact h
theorem j7{i j:Nat}{x y:Prop}(k:i≠j)(h:y):if i=j then x else y:=by rw[az k];exact h
theorem q8(M:AB->Prop)(k:WP S a ⟨M,q.exit,q.ret⟩ O)(u:∀e,M e->q.normal e):WP S a q O:=⟨PC.pc S a _ O k.out q u (fun _ _ h=>h) (fun _ h=>h)⟩
section loops
variable{σ ρ:Type}{live:Ne}{c:PC}{i0:Nat}
variable{X:AB->Prop}
theorem iZ{f:Int->σ->Option (Bk σ ρ)}{b:Int}(I:Int->σ->AB)(J:σ->AB)(R:ρ->AB->Prop)
  (u:∀i s r,i<b->f i s=some r->(∀k,((I i s).get k).WF)->c.wp S ⟨fun e=>∃s',r=.next s'/\e.hV live=I (i+1) s',fun j e=>j=i0/\∃s',r=.brk s'/\e=J s',fun e=>∃v,r=.ret v/\R v e⟩ (I i s))
  (w:∀i s,¬i<b->c.wp S ⟨fun _=>False,fun j e=>j=i0/\e=J s,fun _=>False⟩ (I i s))
  (C:∀e,((∀s,(e.get s).WF)->c.wp S {q with normal:=fun E=>X (E.hV live)} e)->X e)(H:∀s,q.exit i0 (J s)\/True):
  ∀(n:Nat)(i:Int)(s:σ),n=(b-i).toNat->∀o,Aac f n i s=some o->(∀s',o=.inl s'->q.exit i0 (J s'))->(∀v e,o=.inr v->R v e->q.ret e)->X (I i s):=by
 intro n
 induction n with
 |zero=>
  intro i s F o ho A B;refine C _ fun D=>?_;refine PC.pc S c _ _ (w i s (by omega)) _ (fun _ h=>h.elim) (fun j e he=>?_) (fun _ h=>h.elim);obtain⟨rfl,rfl⟩:=he;simp[Aac]at ho;exact A s ho.symm
 |succ n G=>
  intro i s F o ho A B;simp[Aac]at ho;refine C _ fun D=>?_;cases hf:f i s with
  |none=>rw[hf]at ho;cases ho
  |some r=>
   rw [hf]at ho;refine PC.pc S c _ _ (u i s r (by omega) hf D) _ (fun e he=>?_) (fun j e he=>?_) (fun e he=>?_)
   .obtain⟨s',rfl,he⟩:=he;show X (e.hV live);rw[he];exact G (i+1) s' (by omega) o ho A B
   .obtain⟨rfl,s',rfl,rfl⟩:=he;simp at ho;exact A s' ho.symm
   .obtain⟨v,rfl,he⟩:=he;simp at ho;exact B v e ho.symm he
variable{s0:σ}{o:σ ⊕ ρ}
theorem aA{f:Int->σ->Option (Bk σ ρ)}{lo b:Int}(ho:j4 f lo b s0=some o)(I:Int->σ->AB)(J:σ->AB)(R:ρ->AB->Prop)(A:O.hV live=I lo s0)
  (u:∀i s r,i<b->f i s=some r->(∀k,((I i s).get k).WF)->WP S c ⟨fun e=>∃s',r=.next s'/\e.hV live=I (i+1) s',fun j e=>j=i0/\∃s',r=.brk s'/\e=J s',fun e=>∃v,r=.ret v/\R v e⟩ (I i s))
  (w:∀i s,¬i<b->WP S c ⟨fun _=>False,fun j e=>j=i0/\e=J s,fun _=>False⟩ (I i s))
  (B:∀s',o=.inl s'->q.normal (J s'))(C:∀v e,o=.inr v->R v e->q.ret e):WP S (.block i0 (.loop live c)) q O:=by
 refine U2 ⟨?_⟩;intro X G;rw[A];refine iZ (q:=⟨q.normal,fun j e=>if j=i0 then q.normal e else q.exit j e,q.ret⟩) I J R (fun i s r D E F=>(u i s r D E F).out) (fun i s h=>(w i s h).out) G (fun _=>.inr trivial) _ lo s0 rfl o ho ?_ C;intro s' H;exact XN (B s' H)
theorem ZQ{f:Int->σ->Option σ}:∀(n:Nat)(i:Int)(s o:σ),Aau f n i s=some o->Aac (fun i s=>(f i s).map (Bk.next (ρ:=Empty))) n i s=some (.inl o)
 |0,_,_,_,h=>by simp[Aau]at h;subst h;rfl|n+1,i,s,o,h=>by
  simp [Aau]at h;simp[Aac];cases hf:f i s with
  |none=>rw[hf]at h;cases h
  |some s'=>rw[hf]at h;simp;exact ZQ n (i+1) s' o h
theorem l4{f:Int->σ->Option σ}{lo b:Int}{s0 o:σ}(ho:pr f lo b s0=some o)(I:Int->σ->AB)(J:σ->AB)(A:O.hV live=I lo s0)
  (u:∀i s r,i<b->f i s=some r->(∀k,((I i s).get k).WF)->WP S c ⟨fun e=>e.hV live=I (i+1) r,fun _ _=>False,fun _=>False⟩ (I i s))
  (w:∀i s,¬i<b->WP S c ⟨fun _=>False,fun j e=>j=i0/\e=J s,fun _=>False⟩ (I i s))
  (B:q.normal (J o)):WP S (.block i0 (.loop live c)) q O:=by
 refine aA (f:=fun i s=>(f i s).map (Bk.next (ρ:=Empty))) (o:=.inl o) (ZQ _ _ _ _ ho) I J (fun _ _=>False) A ?_ w ?_ ?_
 .intro i s r hi hf C;simp at hf;obtain⟨s',hf,rfl⟩:=hf;exact⟨PC.pc S c _ _ (u i s s' hi hf C).out _ (fun e he=>⟨s',rfl,he⟩) (fun _ _ h=>h.elim) (fun _ h=>h.elim)⟩
 .intro s' h;cases h;exact B
 .intro v;cases v
theorem l6{f:σ->Option (Bk σ ρ)}(I:σ->AB)(J:σ->AB)(R:ρ->AB->Prop)
  (h:∀s r,f s=some r->(∀k,((I s).get k).WF)->c.wp S ⟨fun e=>∃s',r=.next s'/\e.hV live=I s',fun j e=>j=i0/\∃s',r=.brk s'/\e=J s',fun e=>∃v,r=.ret v/\R v e⟩ (I s))
  (A:∀e,((∀s,(e.get s).WF)->c.wp S {q with normal:=fun B=>X (B.hV live)} e)->X e):
  ∀(n:Nat)(s:σ)(o:σ ⊕ ρ),Pn f n s=some o->(∀s',o=.inl s'->q.exit i0 (J s'))->(∀v e,o=.inr v->R v e->q.ret e)->X (I s):=by
 intro n
 induction n with
 |zero=>intro s o ho;cases ho
 |succ n D=>
  intro s o ho u w;simp[Pn]at ho;refine A _ fun C=>?_;cases hf:f s with
  |none=>rw[hf]at ho;cases ho
  |some r=>
   rw [hf]at ho;refine PC.pc S c _ _ (h s r hf C) _ (fun e he=>?_) (fun j e he=>?_) (fun e he=>?_)
   .obtain⟨s',rfl,he⟩:=he;show X (e.hV live);rw[he];exact D s' o ho u w
   .obtain⟨rfl,s',rfl,rfl⟩:=he;simp at ho;exact u s' ho.symm
   .obtain⟨v,rfl,he⟩:=he;simp at ho;exact w v e ho.symm he
theorem pW{f:σ->Option (Bk σ ρ)}(ho:EA f s0=some o)(I:σ->AB)(J:σ->AB)(R:ρ->AB->Prop)(u:O.hV live=I s0)
  (h:∀s r,f s=some r->(∀k,((I s).get k).WF)->WP S c ⟨fun e=>∃s',r=.next s'/\e.hV live=I s',fun j e=>j=i0/\∃s',r=.brk s'/\e=J s',fun e=>∃v,r=.ret v/\R v e⟩ (I s))
  (w:∀s',o=.inl s'->q.normal (J s'))(A:∀v e,o=.inr v->R v e->q.ret e):WP S (.block i0 (.loop live c)) q O:=by
 obtain ⟨N,F⟩:=Ck ho;refine U2 ⟨?_⟩;intro X D;rw[u];refine l6 (q:=⟨q.normal,fun j e=>if j=i0 then q.normal e else q.exit j e,q.ret⟩) I J R (fun s r B C=>(h s r B C).out) D N s0 o (F N (bk _)) ?_ A;intro s' E;exact XN (w s' E)
end loops
end
theorem ur{a b:Int}(h:a<b):decide (a<b)=true:=decide_eq_true h
theorem uL{a b:Int}(h:¬a<b):decide (a<b)=false:=decide_eq_false h
variable{t:TV}
theorem Wt(h:EV.WF (.tv t)):t.WF:=h
theorem tU(h:EV.WF (.ow t)):t.WF:=h
variable{n:Nat}
theorem tV{es:Fq}(h:EV.WF (.xo n es)):TV.WF (.list n es):=h
theorem jX{row:Fq}(h:EV.WF (.tv (.pt row))):TV.x6 row:=h
variable{ts:Fq}{i:Nat}
theorem Z7(h:TV.x6 ts)(hi:ts[i]?=some t):t.WF:=by
 induction ts generalizing i with
 |nil=>simp at hi|cons x xs k=>
  cases i with
  |zero=>simp at hi;subst hi;exact h.1|succ i=>exact k h.2 (by simpa using hi)
variable{α:Type}{e:α->TV}{l:List α}
theorem pU(h:TV.WF (.list n (l.map e))):(l.length:Int)<=9223372036854775807:=by
 have:=h.1
 grind [ca,F9]
theorem Sz{es:Fq}(h:TV.WF (.list n es))(he:es=l.map e):(l.length:Int)<=9223372036854775807:=by subst he;exact pU h
theorem l3{s:ByteArray}(h:TV.WF (.str s)):(s.size:Int)<=9223372036854775807:=by
 have:s.size<=F9:=h
 grind [F9]
theorem eX{n:Int}(h:TV.WF (.int .i64 n)):n<=9223372036854775807:=h.2
theorem eW(n:Int):Ad n=if 9223372036854775808<=n % 18446744073709551616 then n % 18446744073709551616-18446744073709551616 else n % 18446744073709551616:=by
 have h:(2:Int)^ 64=18446744073709551616:=by decide
 have k:(2:Int)^ (64-1)=9223372036854775808:=by decide
 simp [Ad,IntKind.wrap,IntKind.bits,IntKind.signed,Bool.true_and,zzX,h,k,ge_iff_le]
theorem pR(n:Int):Ad n<=9223372036854775807:=by grind[eW]
theorem Am{n:Int}(h:-9223372036854775808<=n)(k:n<=9223372036854775807):Ad n=n:=by grind[eW]
theorem tW{i b:Int}(hi:TV.WF (.int .i64 i))(h:i<b)(k:b<=9223372036854775807):IntKind.i64.wrap (i+1)=i+1:=by
 have u:(-9223372036854775808:Int)<=i:=hi.1
 grind [Am]
end Go.Sf
