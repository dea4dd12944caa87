/- Steps of the pure language with typed values: one rule an operation, one a piece of code, one a kind of loop. -/
import Derived.Test.YtbmogdodchhhlaaGreatSfSem
set_option linter.all false
namespace Go.Sf
abbrev Az(n:Int):Int:=IntKind.i64.wrap n
def idx{α:Type}(l:List α)(j:Int):Option α:=if 0<=j then l[j.toNat]? else none
def tR{α:Type}(l:List α)(a b:Int):Option (List α):=if(0<=a/\a<=b)/\b<=l.length then some ((l.take b.toNat).drop a.toNat)else none
def tz(s:ByteArray)(a b:Int):Option ByteArray:=if 0<=a/\a<=b/\b<=s.size then some (s.extract a.toNat b.toNat)else none
def th(s:ByteArray)(j:Int):QQ:=if 0<=j then(s[j.toNat]?).map (fun b=>(b.toNat:Int))else none
def Ao{α:Type}(l m:List α):Option (List α):=if l.length+m.length<=CX then some (l++m)else none
def quo(a b:Int):QQ:=if b=0 then none else some (a.tdiv b)
def ZB(a b:Int):QQ:=if b=0 then none else some (a.tmod b)
inductive C9(σ ρ:Type)where
 |next (s:σ)
 |brk (s:σ)
 |ret (r:ρ)
section loops
variable{σ ρ:Type}
def tc(f:Int->σ->Option (C9 σ ρ)):Nat->Int->σ->Option (σ ⊕ ρ)
 |0,_,s=>some (.inl s)|n+1,i,s=>match f i s with
  |none=>none|some (.next s')=>tc f n (i+1) s'|some (.brk s')=>some (.inl s')|some (.ret r)=>some (.inr r)
def qo(f:Int->σ->Option (C9 σ ρ))(a b:Int)(s:σ):Option (σ ⊕ ρ):=tc f (b-a).toNat a s
def sT(f:Int->σ->Option σ):Nat->Int->σ->Option σ
 |0,_,s=>some s|n+1,i,s=>match f i s with
  |none=>none|some s'=>sT f n (i+1) s'
def ry(f:Int->σ->Option σ)(a b:Int)(s:σ):Option σ:=sT f (b-a).toNat a s
def Mb(f:σ->Option (C9 σ ρ)):Nat->σ->Option (σ ⊕ ρ)
 |0,_=>none|n+1,s=>match f s with
  |none=>none|some (.next s')=>Mb f n s'|some (.brk s')=>some (.inl s')|some (.ret r)=>some (.inr r)
end loops
class Ev where
 fuel:Option Nat
instance AW:Ev:=⟨none⟩
open Classical in
noncomputable def Ss{α:Type}(g:Nat->Option α):Option α:=if h:∃v N,∀n,N<=n->g n=some v then some h.choose else none
noncomputable def Ht[e:Ev]{α:Type}(g:Nat->Option α):Option α:=match e.fuel with
 |none=>Ss g|some n=>g n
variable{α:Type}
theorem CO{g:Nat->Option α}{v:α}(h:Ht g=some v):∃N,∀n,N<=n->g n=some v:=by
 change Ss g=some v at h;unfold Ss at h;split at h
 .rename_i k;cases h;exact k.choose_spec
 .cases h
theorem V1{g:Nat->Option α}{v:α}(N:Nat)(h:∀n,N<=n->g n=some v):Ht g=some v:=by
 have k:∃v N,∀n,N<=n->g n=some v:=⟨v,N,h⟩;show Ss g=some v;unfold Ss;rw[dif_pos k];obtain⟨M,w⟩:=k.choose_spec;have u:=h (max N M) (Nat.le_max_left _ _)
 grind
noncomputable def GO[Ev]{σ ρ:Type}(f:σ->Option (C9 σ ρ))(s:σ):Option (σ ⊕ ρ):=Ht fun n=>Mb f n s
def og{σ ρ β:Type}(o:Option (σ ⊕ ρ))(k:σ->Option β)(kr:ρ->Option β):Option β:=
 match o with
 |none=>none|some (.inl s)=>k s|some (.inr v)=>kr v
theorem QS{σ ρ β:Type}{o:Option (σ ⊕ ρ)}{k:σ->Option β}{u:ρ->Option β}{b:β}(h:og o k u=some b):∃x,o=some x/\og (some x) k u=some b:=by
 cases o with
 |none=>cases h
 |some x=>exact⟨x,rfl,h⟩
theorem UD{σ ρ β:Type}{x:σ ⊕ ρ}{k:σ->Option β}{u:ρ->Option β}{b:β}{s:σ}(h:og (some x) k u=some b)(w:x=.inl s):k s=some b:=by subst w;exact h
theorem UE{σ ρ β:Type}{x:σ ⊕ ρ}{k:σ->Option β}{u:ρ->Option β}{b:β}{v:ρ}(h:og (some x) k u=some b)(w:x=.inr v):u v=some b:=by subst w;exact h
def Bg{α:Type}(l:List α)(j:Int)(a:α):List α:=l.set j.toNat a
def Kf{α:Type}(j:Int)(a:α):Option (List α):=if 0<=j/\j<=4096 then some (List.replicate j.toNat a)else none
def OL(a b:ByteArray):Option ByteArray:=if a.size+b.size<=CX then some (a++b)else none
variable{β:Type}
theorem bind_some{x:Option α}{f:α->Option β}{b:β}(h:x.bind f=some b):∃a,x=some a/\f a=some b:=Option.bind_eq_some_iff.1 h
theorem P2{c:Bool}{a b:α}{r:α}(k:c=true)(h:(if c=true then a else b)=r):a=r:=by grind
theorem P1{c:Bool}{a b:α}{r:α}(k:c=false)(h:(if c=true then a else b)=r):b=r:=by grind
structure WO(S:FuncId->Fq->Ap->Prop)(K:AA->Prop)(os:List PR)(O:AA):Prop where
 of::out:wpOps S K os O
structure WP(S:FuncId->Fq->Ap->Prop)(c:PC)(q:Q)(O:AA):Prop where
 of::out:c.wp S q O
section
variable{S:FuncId->Fq->Ap->Prop}{K:AA->Prop}{os:List PR}{O:AA}{d:Nat}
variable{t:TV}
theorem Nw{x:AD}(h:x.val O=some t):x.ev O=.tv t\/x.ev O=.ow t:=by
 unfold AD.val EV.val at h;split at h<;>simp_all
theorem Kv{x:AD}(h:x.val O=some t)(k:WO S K os ((d,.tv t)::O)):WO S K (⟨some d,.mv x,none⟩::os) O:=by
 replace k:=k.out;refine⟨?_⟩;simp[wpOps,PR.wp,AC.wp];rcases Nw h with h|h<;>rw[h]<;>exact k
variable{s:Nat}
theorem jp(h:O.get s=.ow t)(k:WO S K os ((d,.ow t)::(s,.tv t)::O)):WO S K (⟨some d,.tk s,none⟩::os) O:=by
 replace k:=k.out;refine⟨?_⟩;simp[wpOps,PR.wp,AC.wp,h];exact k
theorem iI(h:O.get s=.tv t)(k:WO S K os ((d,.tv t)::O)):WO S K (⟨some d,.tk s,none⟩::os) O:=by
 replace k:=k.out;refine⟨?_⟩;simp[wpOps,PR.wp,AC.wp,h];exact k
variable{n:Nat}
theorem dE(k:WO S K os ((d,.ow (.list n []))::O)):WO S K (⟨some d,.uq n,none⟩::os) O:=by
 replace k:=k.out;refine⟨?_⟩;simp[wpOps,PR.wp,AC.wp];exact k
theorem ZE{x:AD}{j:Nat}{row:Fq}(h:x.ev O=.tv (.pt row))(k:WO S K os ((d,.tv (.pt (row.drop j)))::O)):WO S K (⟨some d,.td x j,none⟩::os) O:=by
 replace k:=k.out;refine⟨?_⟩;simp[wpOps,PR.wp,AC.wp,h];exact k
theorem WN{x:AD}{j s off:Nat}{cs:List AI}(h:x.ev O=.bp s off)(u:O.get s=.bx cs)(k:WO S K os ((d,.bp s (off+j))::O)):WO S K (⟨some d,.td x j,none⟩::os) O:=by
 replace k:=k.out;refine⟨?_⟩;simp[wpOps,PR.wp,AC.wp,h,u];exact k
theorem WK{s j:Nat}{cs:List AI}(h:O.get s=.bx cs)(k:WO S K os ((d,.bp s j)::O)):WO S K (⟨some d,.bad s j,none⟩::os) O:=by
 replace k:=k.out;refine⟨?_⟩;simp[wpOps,PR.wp,AC.wp,h];exact k
theorem ZD{s j:Nat}{row:Fq}(h:O.get s=.tv (.pt row))(k:WO S K os ((d,.tv (.pt (row.drop j)))::O)):WO S K (⟨some d,.bad s j,none⟩::os) O:=by
 replace k:=k.out;refine⟨?_⟩;simp[wpOps,PR.wp,AC.wp,h];exact k
variable{α:Type}{e:α->TV}{l:List α}{j:Int}
theorem gX{x i:AD}{es row:Fq}{ik:IntKind}{a:α}(u:x.val O=some (.list n es))(hi:i.val O=some (.int ik j))(he:es=l.map e)(h:idx l j=some a)(w:(e a).cells=row)
  (k:WO S K os ((d,.tv (.pt row))::O)):WO S K (⟨some d,.ur x i n,none⟩::os) O:=by
 replace k:=k.out;refine⟨?_⟩;subst he w;simp only[wpOps,PR.wp,AC.wp,u,hi];unfold idx at h;split at h
 .rename_i A;exact⟨trivial,A,e a,by rw[List.getElem?_map,h];rfl,k⟩
 .cases h
theorem gJ{x i:AD}{n m h:Nat}{row:Fq}{ik:IntKind}(u:x.ev O=.tv (.pt row))(hi:i.val O=some (.int ik j))(w:0<=j)(A:j<m)(B:m*n<=row.length)(C:j.toNat*n=h)
  (k:WO S K os ((d,.tv (.pt (row.drop h)))::O)):WO S K (⟨some d,.aad x i n m,none⟩::os) O:=by
 replace k:=k.out;refine⟨?_⟩;subst C;simp[wpOps,PR.wp,AC.wp,u,hi];exact⟨w,A,B,k⟩
theorem cf{x:AD}{n m:Nat}{row u:Fq}{ik:IntKind}(w:x.ev O=.tv (.pt row))(h:(decide (0<=j)&&decide (j<m)&&Nat.ble (m*n) row.length)=true)(A:row.drop (j.toNat*n)=u)
  (k:WO S K os ((d,.tv (.pt u))::O)):WO S K (⟨some d,.aad x (.c (.int ik j)) n m,none⟩::os) O:=by
 simp only[sc,tI]at h;subst A;exact gJ w rfl h.1.1 h.1.2 (Nat.le_of_ble_eq_true h.2) rfl k
theorem cy{x:AD}{r:Fq}(h:Ay O (x.ev O)=some (t::r))(u:t.tE=false)(k:WO S K os ((d,.tv t)::O)):WO S K (⟨some d,.ld x,none⟩::os) O:=by
 replace k:=k.out;refine⟨?_⟩;simp[wpOps,PR.wp,AC.wp,h,AR,ED];exact⟨u,k⟩
def eO{α:Type}(n:Nat)(e:α->TV):Option (List α)->TV
 |none=>.nil|some l=>.list n (l.map e)
theorem gc{l:Option (List α)}{x:AD}{r:Fq}(h:Ay O (x.ev O)=some (eO n e l::r))(k:WO S K os ((d,.tv (eO n e l))::O)):WO S K (⟨some d,.ld x,none⟩::os) O:=cy h (by cases l<;>rfl) k
theorem SB{x:AD}{cs:Fq}(h:Ay O (x.ev O)=some cs)(u:Nat.ble n cs.length=true)(w:TV.agg (cs.take n)=t)(k:WO S K os ((d,.tv t)::O)):WO S K (⟨some d,.uC x n,none⟩::os) O:=by
 replace k:=k.out;refine⟨?_⟩;subst w;simp[wpOps,PR.wp,AC.wp,h,AR];exact⟨Nat.le_of_ble_eq_true u,k⟩
theorem ZH{cs:List AI}(h:O.get s=.bx cs)(u:Nat.ble n (cs.map (·.t)).length=true)(w:TV.agg ((cs.map (·.t)).take n)=t)(k:WO S K os ((d,.tv t)::O)):WO S K (⟨some d,.vR s n,none⟩::os) O:=by
 replace k:=k.out;refine⟨?_⟩;subst w;simp only[wpOps,PR.wp,AC.wp,h];exact⟨Nat.le_of_ble_eq_true u,k⟩
variable{off:Nat}
theorem gh{x:AD}{cs:List AI}{es:Fq}(h:x.place O=some (s,off))(u:O.get s=.bx cs)(w:cs[off]?=some ⟨true,t⟩){cs':List AI}(A:cs.set off ⟨false,t⟩=cs')(B:t=.list n es)
  (k:WO S K os ((d,.ow t)::(s,.bx cs')::O)):WO S K (⟨some d,.ldt x,none⟩::os) O:=by
 replace k:=k.out;refine⟨?_⟩;subst A B;simp[wpOps,PR.wp,AC.wp,h,u,w];exact k
section bins
variable{x y:AD}{ik:IntKind}{a b:Int}
theorem El{h:BK}{op:BinOp}{u v t:TV}(w:x.val O=some u)(A:y.val O=some v)(B:C6 h op u v=some t)(k:WO S K os ((d,.tv t)::O)):WO S K (⟨some d,.bin h op x y,none⟩::os) O:=by
 replace k:=k.out;refine⟨?_⟩;simp[wpOps,PR.wp,AC.wp,w,A,B,AR];exact k
theorem gS(h:x.val O=some (.int ik a))(u:y.val O=some (.int ik b))(k:WO S K os ((d,.tv (.bool (decide (a=b))))::O)):WO S K (⟨some d,.bin .i .eql x y,none⟩::os) O:=by grind[El,C6,intCmp]
theorem VD(h:x.val O=some (.int ik a))(u:y.val O=some (.int ik b))(k:WO S K os ((d,.tv (.bool (!decide (a=b))))::O)):WO S K (⟨some d,.bin .i .neq x y,none⟩::os) O:=by grind[El,C6,intCmp]
theorem gl(h:x.val O=some (.int ik a))(u:y.val O=some (.int ik b))(k:WO S K os ((d,.tv (.bool (decide (a<b))))::O)):WO S K (⟨some d,.bin .i .lss x y,none⟩::os) O:=by grind[El,C6,intCmp]
theorem gk(h:x.val O=some (.int ik a))(u:y.val O=some (.int ik b))(k:WO S K os ((d,.tv (.bool (decide (a<=b))))::O)):WO S K (⟨some d,.bin .i .leq x y,none⟩::os) O:=by grind[El,C6,intCmp]
theorem gW(h:x.val O=some (.int ik a))(u:y.val O=some (.int ik b))(k:WO S K os ((d,.tv (.bool (decide (b<a))))::O)):WO S K (⟨some d,.bin .i .gtr x y,none⟩::os) O:=by grind[El,C6,intCmp]
theorem gV(h:x.val O=some (.int ik a))(u:y.val O=some (.int ik b))(k:WO S K os ((d,.tv (.bool (decide (b<=a))))::O)):WO S K (⟨some d,.bin .i .geq x y,none⟩::os) O:=by grind[El,C6,intCmp]
theorem gK(h:x.val O=some (.int ik a))(u:y.val O=some (.int ik b))(k:WO S K os ((d,.tv (.int ik (ik.wrap (a+b))))::O)):WO S K (⟨some d,.bin .i .add x y,none⟩::os) O:=by grind[El,C6,intCmp,intArith]
theorem iH(h:x.val O=some (.int ik a))(u:y.val O=some (.int ik b))(k:WO S K os ((d,.tv (.int ik (ik.wrap (a-b))))::O)):WO S K (⟨some d,.bin .i .sub x y,none⟩::os) O:=by grind[El,C6,intCmp,intArith]
theorem gx(h:x.val O=some (.int ik a))(u:y.val O=some (.int ik b))(k:WO S K os ((d,.tv (.int ik (ik.wrap (a*b))))::O)):WO S K (⟨some d,.bin .i .mul x y,none⟩::os) O:=by grind[El,C6,intCmp,intArith]
theorem iB{q:Int}(h:x.val O=some (.int ik a))(u:y.val O=some (.int ik b))(w:quo a b=some q)(k:WO S K os ((d,.tv (.int ik (ik.wrap q)))::O)):WO S K (⟨some d,.bin .i .quo x y,none⟩::os) O:=by grind[El,quo,C6,intCmp,intArith,Option.some.inj]
theorem iD{q:Int}(h:x.val O=some (.int ik a))(u:y.val O=some (.int ik b))(w:ZB a b=some q)(k:WO S K os ((d,.tv (.int ik q))::O)):WO S K (⟨some d,.bin .i .rem x y,none⟩::os) O:=by grind[El,ZB,C6,intCmp,intArith,Option.some.inj]
variable{ik':IntKind}
theorem gM{op:BinOp}{r:Int}(h:x.val O=some (.int ik a))(u:y.val O=some (.int ik' b))(A:ik=ik'\/op=.shl\/op=.shr)(B:Ke ik op a b=some r)(k:WO S K os ((d,.tv (.int ik r))::O)):WO S K (⟨some d,.bin .w op x y,none⟩::os) O:=by grind[El,C6]
theorem dH{u v:ByteArray}(h:x.val O=some (.str u))(w:y.val O=some (.str v))(k:WO S K os ((d,.tv (.bool (u==v)))::O)):WO S K (⟨some d,.bin .s .eql x y,none⟩::os) O:=by grind[El,C6]
theorem dK{u v:ByteArray}(h:x.val O=some (.str u))(w:y.val O=some (.str v))(k:WO S K os ((d,.tv (.bool (!(u==v))))::O)):WO S K (⟨some d,.bin .s .neq x y,none⟩::os) O:=by grind[El,C6]
theorem dG{u v t:ByteArray}(w:x.val O=some (.str u))(A:y.val O=some (.str v))(h:OL u v=some t)(k:WO S K os ((d,.tv (.str t))::O)):WO S K (⟨some d,.bin .s .add x y,none⟩::os) O:=by grind[El,OL,C6,Option.some.inj]
theorem cl{u v:Bool}(h:x.val O=some (.bool u))(w:y.val O=some (.bool v))(k:WO S K os ((d,.tv (.bool (u==v)))::O)):WO S K (⟨some d,.bin .b .eql x y,none⟩::os) O:=by grind[El,C6]
theorem cq{u v:Bool}(h:x.val O=some (.bool u))(w:y.val O=some (.bool v))(k:WO S K os ((d,.tv (.bool (!(u==v))))::O)):WO S K (⟨some d,.bin .b .neq x y,none⟩::os) O:=by grind[El,C6]
theorem WI{n:Ne}{cs ds:Fq}{r:Bool}(u:x.val O=some (.agg cs))(w:y.val O=some (.agg ds))(A:cs.map TV.kd=n)(h:BT cs ds=some r)(k:WO S K os ((d,.tv (.bool r))::O)):WO S K (⟨some d,.bin (.a n) .eql x y,none⟩::os) O:=by grind[El,C6]
theorem WJ{n:Ne}{cs ds:Fq}{r:Bool}(u:x.val O=some (.agg cs))(w:y.val O=some (.agg ds))(A:cs.map TV.kd=n)(h:BT cs ds=some r)(k:WO S K os ((d,.tv (.bool (!r)))::O)):WO S K (⟨some d,.bin (.a n) .neq x y,none⟩::os) O:=by grind[El,C6]
end bins
theorem hU{x:AD}{b:Bool}(h:x.val O=some (.bool b))(k:WO S K os ((d,.tv (.bool (!b)))::O)):WO S K (⟨some d,.not x,none⟩::os) O:=by
 replace k:=k.out;refine⟨?_⟩;simp[wpOps,PR.wp,AC.wp,h];exact k
theorem g9{x:AD}{ik:IntKind}{n:Int}(h:x.val O=some (.int ik n))(k:WO S K os ((d,.tv (.int ik (ik.wrap (-n))))::O)):WO S K (⟨some d,.neg x,none⟩::os) O:=by
 replace k:=k.out;refine⟨?_⟩;simp[wpOps,PR.wp,AC.wp,h];exact k
variable{t:TV}
theorem aQ{c a b:AD}{q:Bool}(u:c.val O=some (.bool q))(w:q=true)(h:a.val O=some t)(k:WO S K os ((d,.tv t)::O)):WO S K (⟨some d,.pick c a b,none⟩::os) O:=by
 replace k:=k.out;refine⟨?_⟩;subst w;simp[wpOps,PR.wp,AC.wp,u];rcases Nw h with h|h<;>rw[h]<;>exact k
theorem aP{c a b:AD}{q:Bool}(u:c.val O=some (.bool q))(w:q=false)(h:b.val O=some t)(k:WO S K os ((d,.tv t)::O)):WO S K (⟨some d,.pick c a b,none⟩::os) O:=by
 replace k:=k.out;refine⟨?_⟩;subst w;simp[wpOps,PR.wp,AC.wp,u];rcases Nw h with h|h<;>rw[h]<;>exact k
variable{α:Type}{n:Nat}{e:α->TV}{l:List α}
theorem gj{x:AD}{es:Fq}(h:x.val O=some (.list n es))(he:es=l.map e)(k:WO S K os ((d,.tv (.int .i64 l.length))::O)):WO S K (⟨some d,.len x,none⟩::os) O:=by
 replace k:=k.out;refine⟨?_⟩;subst he;simp[wpOps,PR.wp,AC.wp,h];exact k
theorem dJ{x:AD}{s:ByteArray}(h:x.val O=some (.str s))(k:WO S K os ((d,.tv (.int .i64 s.size))::O)):WO S K (⟨some d,.uN x,none⟩::os) O:=by
 replace k:=k.out;refine⟨?_⟩;simp[wpOps,PR.wp,AC.wp,h];exact k
variable{m:List α}
theorem TA{a b:Int}(h:tR l a b=some m):((0<=a/\a<=b)/\b<=l.length)/\m=(l.take b.toNat).drop a.toNat:=by
 unfold tR at h
 grind
variable{ka kb:IntKind}
theorem iE{x:AD}{lo hi:Option AD}{es:Fq}{a b:Int}(h:x.val O=some (.list n es))(he:es=l.map e)(u:Df O 0 lo=some (.int ka a))(w:Df O l.length hi=some (.int kb b))(B:tR l a b=some m)
  (k:WO S K os ((d,.tv (.list n (m.map e)))::O)):WO S K (⟨some d,.tR n x lo hi,none⟩::os) O:=by
 replace k:=k.out;refine⟨?_⟩;subst he;obtain⟨⟨A,C⟩,D⟩:=TA B;subst D;simp only[wpOps,PR.wp,AC.wp,h,f0,u,w];refine⟨⟨trivial,A.1,A.2⟩,C,?_⟩;rw[List.map_drop,List.map_take]at k;exact k
theorem dL{x:AD}{lo hi:Option AD}{s t:ByteArray}{a b:Int}(h:x.val O=some (.str s))(w:Df O 0 lo=some (.int ka a))(A:Df O s.size hi=some (.int kb b))(u:tz s a b=some t)
  (k:WO S K os ((d,.tv (.str t))::O)):WO S K (⟨some d,.tz x lo hi,none⟩::os) O:=by
 replace k:=k.out;refine⟨?_⟩;unfold tz at u;split at u
 .rename_i B;cases u;simp[wpOps,PR.wp,AC.wp,h,w,A];exact⟨B.1,B.2.1,B.2.2,k⟩
 .cases u
variable{zero:Fq}{parts:List (Nat×Nat×AD)}
theorem SA{ts:List (Nat×Nat×TV)}{cs:Fq}(h:EQ O parts=some ts)(u:DN zero ts=some cs)(w:TV.agg cs=t)(k:WO S K os ((d,.tv t)::O)):WO S K (⟨some d,.uy zero parts,none⟩::os) O:=by
 replace k:=k.out;refine⟨?_⟩;subst w;simp[wpOps,PR.wp,AC.wp,h,AR,u];exact k
def PS:Nat->List (Nat×Nat×TV)->Bool
 |_,[]=>true|k,(i,n,t)::r=>Nat.beq i k&&Nat.beq t.cells.length n&&PS (k+n) r
def FV:List (Nat×Nat×TV)->Fq
 |[]=>[]|(_,_,t)::r=>t.cells++FV r
theorem OD:∀(ds done k rest:Fq),k.length=ds.length->KP (done++(k++rest)) done.length ds=done++(ds++rest)
 |[],done,k,rest,h=>by
  have:k=[]:=List.eq_nil_of_length_eq_zero (by simpa using h);subst this;rfl
 |d::ds,done,[],rest,h=>by simp at h|d::ds,done,m::k,rest,h=>by
  simp only[KP];rw[List.cons_append,List.set_append_right _ _ (bk _),Nat.sub_self,List.set_cons_zero];have:=OD ds (done++[d]) k rest (by simpa using h);simpa using this
theorem RN:∀(ts:List (Nat×Nat×TV))(done rest:Fq),PS done.length ts=true->(FV ts).length=rest.length->DN (done++rest) ts=some (done++FV ts)
 |[],done,rest,_,h=>by
  have:rest=[]:=List.eq_nil_of_length_eq_zero (by simpa[FV]using h.symm);subst this;rfl
 |(i,n,t)::r,done,rest,u,h=>by
  simp [PS]at u;obtain⟨⟨rfl,k⟩,B⟩:=u;simp[FV]at h;have w:n<=rest.length:=by omega
  simp only[DN];rw[ae ⟨k,by rw[ca];omega⟩];have A:rest=rest.take n++rest.drop n:=(List.take_append_drop n rest).symm;rw[A,OD t.cells done (rest.take n) (rest.drop n) (by rw[ci];omega),<-fd];rw[RN r (done++t.cells) (rest.drop n) (by rw[ca,k];exact B) (by rw[List.length_drop];omega)];simp[FV]
theorem cm{ts:List (Nat×Nat×TV)}(h:EQ O parts=some ts)(u:PS 0 ts=true)(w:Nat.beq (FV ts).length zero.length=true)(A:TV.agg (FV ts)=t)(k:WO S K os ((d,.tv t)::O)):WO S K (⟨some d,.uy zero parts,none⟩::os) O:=
 SA h (by have:=RN ts [] zero u (Nat.eq_of_beq_eq_true w);simpa using this) A k
variable{ts:Fq}
theorem ZI{parts:List AD}(h:vals O parts=some ts)(he:ts=l.map e)(u:∀a,(e a).cells.length=n)(k:WO S K os ((d,.ow (.list n (l.map e)))::O)):WO S K (⟨some d,.uS n parts,none⟩::os) O:=by
 replace k:=k.out;refine⟨?_⟩;subst he;simp[wpOps,PR.wp,AC.wp,h,AR];refine⟨fun t w=>?_,k⟩
 grind
variable{s:Nat}{r:List α}
theorem ZC{y:AD}{es u rs:Fq}(w:O.get s=.ow (.list n es))(A:y.val O=some (.list n u))(he:es=l.map e)(hf:u=m.map e)(h:Ao l m=some r)(B:rs=r.map e)
  (k:WO S K os ((d,.ow (.list n rs))::(s,.tv (.list n es))::O)):WO S K (⟨some d,.app n (.s s) y,none⟩::os) O:=by
 replace k:=k.out;refine⟨?_⟩;subst hf B;unfold Ao at h;split at h
 .rename_i C;cases h;simp only[wpOps,PR.wp,AC.wp,AD.ev,w,A,he,f0];rw[he]at k;refine⟨by simp,by simp,C,?_⟩;rw[List.map_append]at k;exact k
 .cases h
variable{f:FuncId}
theorem WM{args:List AD}(h:vals O args=some ts)(u:S f ts (.sh t))(k:WO S K os ((d,.tv t)::O)):WO S K (⟨some d,.call f args,none⟩::os) O:=by
 replace k:=k.out;refine⟨?_⟩;simp[wpOps,PR.wp,AC.wp,h,AR];exact⟨_,⟨u,rfl⟩,fun _=>k⟩
theorem aJ{args:List AD}(h:vals O args=some ts)(u:S f ts (.own t))(k:WO S K os ((d,.ow t)::O)):WO S K (⟨some d,.call f args,none⟩::os) O:=by
 replace k:=k.out;refine⟨?_⟩;simp[wpOps,PR.wp,AC.wp,h,AR];exact⟨_,⟨u,rfl⟩,fun _=>k⟩
theorem aM{args:List AD}{ts es:Fq}(h:vals O args=some ts)(u:S f ts (.tL n es))(k:WO S K os ((d,.ow (.list n es))::O)):WO S K (⟨some d,.call f args,none⟩::os) O:=by
 replace k:=k.out;refine⟨?_⟩;simp[wpOps,PR.wp,AC.wp,h,AR];exact⟨_,⟨u,rfl⟩,fun _=>k⟩
theorem aK{args:List AD}{ts t:Fq}(h:vals O args=some ts)(u:S f ts (.tp t))(k:WO S K os ((d,.tp t)::O)):WO S K (⟨some d,.call f args,none⟩::os) O:=by
 replace k:=k.out;refine⟨?_⟩;simp[wpOps,PR.wp,AC.wp,h,AR];exact⟨_,⟨u,rfl⟩,fun _=>k⟩
variable{caps:Fq}
theorem aL{x:AD}{args:List AD}(h:x.val O=some (.sR f caps))(u:vals O args=some ts)(w:S f (ts++caps) (.sh t))(k:WO S K os ((d,.tv t)::O)):WO S K (⟨some d,.tq x args,none⟩::os) O:=by
 replace k:=k.out;refine⟨?_⟩;simp[wpOps,PR.wp,AC.wp,h,u];exact⟨_,⟨w,rfl⟩,fun _=>k⟩
theorem Xz{x:AD}{args:List AD}(h:x.val O=some (.sR f caps))(u:vals O args=some ts)(w:S f (ts++caps) (.own t))(k:WO S K os ((d,.ow t)::O)):WO S K (⟨some d,.tq x args,none⟩::os) O:=by
 replace k:=k.out;refine⟨?_⟩;simp[wpOps,PR.wp,AC.wp,h,u];exact⟨_,⟨w,rfl⟩,fun _=>k⟩
theorem X0{x:AD}{args:List AD}{ts t:Fq}(h:x.val O=some (.sR f caps))(u:vals O args=some ts)(w:S f (ts++caps) (.tp t))(k:WO S K os ((d,.tp t)::O)):WO S K (⟨some d,.tq x args,none⟩::os) O:=by
 replace k:=k.out;refine⟨?_⟩;simp[wpOps,PR.wp,AC.wp,h,u];exact⟨_,⟨w,rfl⟩,fun _=>k⟩
theorem gN{caps:List AD}(h:vals O caps=some ts)(k:WO S K os ((d,.tv (.sR f ts))::O)):WO S K (⟨some d,.sR f caps,none⟩::os) O:=by
 replace k:=k.out;refine⟨?_⟩;simp[wpOps,PR.wp,AC.wp,h,AR];exact k
variable{i:Nat}
theorem NW{x:AD}(h:x.ev O=.tp ts)(hi:ts[i]?=some t)(k:WO S K os ((d,.tv t)::O)):WO S K (⟨some d,.ext x i,none⟩::os) O:=by
 replace k:=k.out;refine⟨?_⟩;simp[wpOps,PR.wp,AC.wp,h,hi,AR];exact k
theorem g8{x:AD}(h:x.ev O=.tp ts)(k:WO S K os ((d,.tp ts)::O)):WO S K (⟨some d,.mv x,none⟩::os) O:=by
 replace k:=k.out;refine⟨?_⟩;simp[wpOps,PR.wp,AC.wp,h];exact k
theorem gR{ik ik':IntKind}{x:AD}{n:Int}(h:x.val O=some (.int ik' n))(k:WO S K os ((d,.tv (.int ik (ik.wrap n)))::O)):WO S K (⟨some d,.vp ik x,none⟩::os) O:=by
 replace k:=k.out;refine⟨?_⟩;simp[wpOps,PR.wp,AC.wp,h];exact k
theorem dI{x i:AD}{s:ByteArray}{ik:IntKind}{j b:Int}(h:x.val O=some (.str s))(hi:i.val O=some (.int ik j))(u:th s j=some b)(k:WO S K os ((d,.tv (.int .u8 b))::O)):WO S K (⟨some d,.th x i,none⟩::os) O:=by
 replace k:=k.out;refine⟨?_⟩;unfold th at u;split at u
 .rename_i w;rw[Option.map_eq_some_iff]at u;obtain⟨c,A,rfl⟩:=u;simp[wpOps,PR.wp,AC.wp,h,hi];exact⟨w,c,A,k⟩
 .cases u
theorem WL{x:AD}{row:Fq}(h:x.val O=some t)(u:t.cells=row)(k:WO S K os ((d,.tv (.pt row))::O)):WO S K (⟨some d,.uw x,none⟩::os) O:=by
 replace k:=k.out;refine⟨?_⟩;subst u;simp[wpOps,PR.wp,AC.wp,h];exact k
theorem ct{x:AD}{row:Fq}{cs:List AI}(h:x.val O=some t)(u:O.pc d=true)(w:t.cells=row)(A:row.map (⟨false,·⟩)=cs)(k:WO S K os ((d,.bx cs)::O)):WO S K (⟨some d,.uJ x,none⟩::os) O:=by
 replace k:=k.out;refine⟨?_⟩;subst w A;simp[wpOps,PR.wp,AC.wp,h];exact⟨u,k⟩
theorem dB{mx:Bool}{x y:AD}{ik:IntKind}{a b:Int}(h:x.val O=some (.int ik a))(u:y.val O=some (.int ik b))(k:WO S K os ((d,.tv (.int ik (if mx then max a b else min a b)))::O)):WO S K (⟨some d,.mm mx x y,none⟩::os) O:=by
 replace k:=k.out;refine⟨?_⟩;simp only[wpOps,PR.wp,AC.wp,h,u];exact⟨trivial,k⟩
theorem gm{x y:AD}{ik:IntKind}{a b:Int}(h:x.val O=some (.int ik a))(u:y.val O=some (.int ik b))(k:WO S K os ((d,.tv (.int ik (max a b)))::O)):WO S K (⟨some d,.mm true x y,none⟩::os) O:=dB h u k
theorem gp{x y:AD}{ik:IntKind}{a b:Int}(h:x.val O=some (.int ik a))(u:y.val O=some (.int ik b))(k:WO S K os ((d,.tv (.int ik (min a b)))::O)):WO S K (⟨some d,.mm false x y,none⟩::os) O:=dB h u k
theorem gL{cs:List AI}(h:O.pc d=true)(k:WO S K os ((d,.bx cs)::O)):WO S K (⟨some d,.uV cs,none⟩::os) O:=by
 replace k:=k.out;refine⟨?_⟩;simp[wpOps,PR.wp,AC.wp];exact⟨h,k⟩
variable{off:Nat}
theorem dM{x v:AD}{cs cs':List AI}(h:x.place O=some (s,off))(u:O.get s=.bx cs)(hv:v.ev O=.tv t)(w:t.cells.length=n)(A:Nat.ble (off+n) cs.length=true)(B:cs.take off++t.cells.map (⟨false,·⟩)++cs.drop (off+n)=cs')
  (k:WO S K os ((s,.bx cs')::O)):WO S K (⟨none,.st n x v,none⟩::os) O:=by
 replace k:=k.out;refine⟨?_⟩;subst B;simp only[wpOps,PR.wp,AC.wp,h,u,hv];exact⟨w,Nat.le_of_ble_eq_true A,k⟩
theorem ZL{s off q:Nat}{x:AD}{cs cs':List AI}(h:x.place O=some (s,off))(u:O.get s=.bx cs)(hv:O.get q=.ow t)(w:q≠s)(A:Nat.blt off cs.length=true)(B:cs.set off ⟨true,t⟩=cs')
  (k:WO S K os ((s,.bx cs')::(q,.tv t)::O)):WO S K (⟨none,.st 1 x (.s q),none⟩::os) O:=by
 replace k:=k.out;refine⟨?_⟩;subst B;simp only[wpOps,PR.wp,AC.wp,h,u,AD.ev,hv];exact⟨w,trivial,Nat.le_of_ble_eq_true A,k⟩
variable{v:AD}
theorem ZK{cs cs':List AI}(h:O.get s=.bx cs)(hv:v.ev O=.tv t)(u:t.cells.length=n)(w:Nat.ble (0+n) cs.length=true)(A:cs.take 0++t.cells.map (⟨false,·⟩)++cs.drop (0+n)=cs')
  (k:WO S K os ((s,.bx cs')::O)):WO S K (⟨none,.uz n s v,none⟩::os) O:=by
 replace k:=k.out;refine⟨?_⟩;subst A;simp only[wpOps,PR.wp,AC.wp,h,hv];exact⟨u,Nat.le_of_ble_eq_true w,k⟩
theorem dN{s q:Nat}{cs cs':List AI}(h:O.get s=.bx cs)(hv:O.get q=.ow t)(u:q≠s)(w:Nat.blt 0 cs.length=true)(A:cs.set 0 ⟨true,t⟩=cs')
  (k:WO S K os ((s,.bx cs')::(q,.tv t)::O)):WO S K (⟨none,.uz 1 s (.s q),none⟩::os) O:=by
 replace k:=k.out;refine⟨?_⟩;subst A;simp only[wpOps,PR.wp,AC.wp,h,AD.ev,hv];exact⟨u,trivial,Nat.le_of_ble_eq_true w,k⟩
theorem gU{cs:List AI}{row:Fq}(h:O.get s=.bx cs)(u:cs.map (·.t)=row)(k:WO S K os ((s,.tv (.pt row))::O)):WO S K (⟨none,.vo s,none⟩::os) O:=by
 replace k:=k.out;refine⟨?_⟩;subst u;simp[wpOps,PR.wp,AC.wp,h];exact k
theorem cp{u:List GC}{cs:List AI}{env':AA}(w:(u.filterMap GC.src).Nodup)(hd:d∉u.filterMap GC.slot)(h:FW O u=some cs)(he:Km O (u.filterMap GC.slot) O=env')(k:WO S K os ((d,.sO cs)::env')):WO S K (⟨some d,.sZ u,none⟩::os) O:=by
 replace k:=k.out;refine⟨?_⟩;subst he;simp only[wpOps,PR.wp,AC.wp,h];exact⟨⟨w,hd⟩,k⟩
theorem iG{n s q:Nat}{cs ds cs':List AI}(u:O.get s=.bx cs)(w:O.get q=.sO ds)(h:q≠s)(A:ds.length=n)(B:Nat.ble (0+n) cs.length=true)(C:((ds.all fun c=>!c.t.tE)||O.ua s none)=true)(D:cs.take 0++ds++cs.drop (0+n)=cs')
  (k:WO S K os ((s,.bx cs')::(q,.undef)::O)):WO S K (⟨none,.stx n s q,none⟩::os) O:=by
 replace k:=k.out;refine⟨?_⟩;subst D;simp only[wpOps,PR.wp,AC.wp,u,w];exact⟨h,⟨A,C⟩,Nat.le_of_ble_eq_true B,k⟩
theorem aF{args:List AD}{cs:List AI}(h:vals O args=some ts)(u:S f ts (.sO cs))(k:WO S K os ((d,.sO cs)::O)):WO S K (⟨some d,.tN f args,none⟩::os) O:=by
 replace k:=k.out;refine⟨?_⟩;simp[wpOps,PR.wp,AC.wp,h,AR];exact⟨cs,u,fun _=>k⟩
theorem aG{args:List AD}{cs:List AI}(h:vals O args=some ts)(u:S f ts (.sO cs))(w:TV.agg (cs.map fun c=>c.rel.t)=t)(k:WO S K os ((d,.tv t)::O)):WO S K (⟨some d,.call f args,none⟩::os) O:=by
 replace k:=k.out;refine⟨?_⟩;subst w;simp[wpOps,PR.wp,AC.wp,h,AR];exact⟨_,⟨u,rfl⟩,fun _=>k⟩
theorem ZG{x:AD}{es:Fq}(h:x.val O=some (.list n es))(he:es=l.map e)(k:∀b:Bool,(b=true->l=[])->WO S K os ((d,.tv (.bool b))::O)):WO S K (⟨some d,.vn x,none⟩::os) O:=by
 replace k:=fun b u=>(k b u).out;refine⟨?_⟩;simp only[wpOps,PR.wp,AC.wp,h];intro b u;refine k b fun w=>?_;have:=u w;rw[he]at this;simpa using this
theorem gT{x:AD}{row u:Fq}{m:Nat}(h:x.val O=some (.pt row))(w:row.drop m=u)(k:WO S K os ((d,.tv (.pt u))::O)):WO S K (⟨some d,.vK x m,none⟩::os) O:=by
 replace k:=k.out;refine⟨?_⟩;subst w;simp[wpOps,PR.wp,AC.wp,h];exact k
theorem gi{x:AD}{row:Fq}(h:x.val O=some (.pt row))(u:Nat.ble n row.length=true)(w:TV.agg (row.take n)=t)(k:WO S K os ((d,.tv t)::O)):WO S K (⟨some d,.vJ x n,none⟩::os) O:=by
 replace k:=k.out;refine⟨?_⟩;subst w;simp[wpOps,PR.wp,AC.wp,h];exact⟨Nat.le_of_ble_eq_true u,k⟩
theorem cx{x:AD}(h:x.val O=some .nil)(k:WO S K os ((d,.tv (.bool true))::O)):WO S K (⟨some d,.vn x,none⟩::os) O:=by
 replace k:=k.out;refine⟨?_⟩;simp[wpOps,PR.wp,AC.wp,h];exact k
theorem Zl(h:Ao [] l=some r)(b:Bool)(k:b=true->l=[]):(if b=true then some []else(Ao [] l).bind fun x=>some x)=some r:=by grind[Ao]
variable{j:Int}
theorem FX{a:α}(h:idx l j=some a):0<=j/\j<l.length/\l[j.toNat]?=some a:=by
 unfold idx at h
 grind
theorem Tv(u:∀a,(e a).cells.length=n):∀(l:List α)(j k:Nat)(a:α),l[j]?=some a->k<n->((l.map e).flatMap TV.cells)[j*n+k]?=(e a).cells[k]?
 |[],j,k,a,h,_=>by simp at h|b::l,0,k,a,h,w=>by
  grind
 |b::l,j+1,k,a,h,w=>by
  rw [List.getElem?_cons_succ]at h;rw[List.map_cons,List.flatMap_cons,List.getElem?_append_right (by rw[u,Nat.add_mul];omega),u,show(j+1)*n+k-n=j*n+k from by rw[Nat.add_mul];omega];exact Tv u l j k a h w
theorem Sb(u:∀a,(e a).cells.length=n)(t:TV):∀(l:List α)(j k:Nat)(a b:α),l[j]?=some a->k<n->(e b).cells=(e a).cells.set k t->((l.set j b).map e).flatMap TV.cells=((l.map e).flatMap TV.cells).set (j*n+k) t
 |[],j,k,a,b,h,_,_=>by simp at h|c::l,0,k,a,b,h,w,A=>by
  grind
 |c::l,j+1,k,a,b,h,w,A=>by
  rw [List.getElem?_cons_succ]at h;rw[List.set_cons_succ,List.map_cons,List.map_cons,List.flatMap_cons,List.flatMap_cons,List.set_append_right _ _ (by rw[u,Nat.add_mul];omega),u,show(j+1)*n+k-n=j*n+k from by rw[Nat.add_mul];omega,Sb u t l j k a b h w A]
theorem XQ(h:∀a,(e a).cells.length=n)(l:List α):((l.map e).flatMap TV.cells).length=l.length*n:=by
 induction l with
 |nil=>simp|cons b l k=>rw[List.map_cons,List.flatMap_cons,ca,k,h,ec,Nat.add_mul];omega
theorem Nz(h:∀a,(e a).flat=true):∀(l:List α),TV.sF (l.map e)=true
 |[]=>rfl|a::l=>by simp[TV.sF,h a,Nz h l]
theorem aO{x:AD}{k n:Nat}{cs:Fq}(h:x.val O=some (.agg cs))(w:Nat.ble (k+n) cs.length=true)(A:TV.agg ((cs.drop k).take n)=t)(u:WO S K os ((d,.tv t)::O)):WO S K (⟨some d,.ux x k n true,none⟩::os) O:=by
 replace u:=u.out;refine⟨?_⟩;subst A;simp[wpOps,PR.wp,AC.wp,h];exact⟨Nat.le_of_ble_eq_true w,u⟩
theorem cw{x:AD}{k n:Nat}{cs r:Fq}(h:x.val O=some (.agg cs))(w:Nat.ble (k+n) cs.length=true)(A:cs.drop k=t::r)(u:WO S K os ((d,.tv t)::O)):WO S K (⟨some d,.ux x k n false,none⟩::os) O:=by
 replace u:=u.out;refine⟨?_⟩;simp[wpOps,PR.wp,AC.wp,h,A,ED,AR];exact⟨Nat.le_of_ble_eq_true w,u⟩
theorem iK{es:Fq}(h:O.get s=.xo n es)(k:WO S K os ((d,.la s none)::O)):WO S K (⟨some d,.vG s,none⟩::os) O:=by
 replace k:=k.out;refine⟨?_⟩;simp[wpOps,PR.wp,AC.wp,h];exact k
theorem dO{x:AD}{q:Nat×Option Nat}{es:Fq}(h:x.sv O=some (q,n,es))(he:es=l.map e)(k:WO S K os ((d,.tv (.int .i64 l.length))::O)):WO S K (⟨some d,.uK x,none⟩::os) O:=by
 replace k:=k.out;refine⟨?_⟩;subst he;simp[wpOps,PR.wp,AC.wp,h,AR];exact k
variable{qi:Option Nat}
theorem iM{x i:AD}{q n:Nat}{es:Fq}{ik:IntKind}{a:α}(h:x.sv O=some ((q,qi),n,es))(hi:i.val O=some (.int ik j))(he:es=l.map e)(u:idx l j=some a)(w:(x.ev O).sE=some q)
  (k:WO S K os ((d,.lp q qi (j.toNat*n))::O)):WO S K (⟨some d,.vC x i n,none⟩::os) O:=by
 replace k:=k.out;refine⟨?_⟩;subst he;obtain⟨A,B,_⟩:=FX u;simp only[wpOps,PR.wp,AC.wp,h,hi,AR,f0];exact⟨⟨w,trivial⟩,A,B,k⟩
variable{p:Nat×Fq}
theorem iL{x:AD}{j q c:Nat}(h:x.ev O=.lp q qi c)(u:O.sf q qi=some p)(k:WO S K os ((d,.lp q qi (c+j))::O)):WO S K (⟨some d,.xfa x j,none⟩::os) O:=by
 replace k:=k.out;refine⟨?_⟩;simp[wpOps,PR.wp,AC.wp,h,u];exact k
theorem ZM{x:AD}{q c n i:Nat}{es row:Fq}{a:α}(h:x.ev O=.lp q qi c)(u:O.sf q qi=some (n,es))(he:es=l.map e)(w:∀a,(e a).cells.length=n)(A:idx l j=some a)(B:c=j.toNat*n+i)(hi:Nat.blt i n=true)(C:(e a).cells=row)(D:row[i]?=some t)
  (k:WO S K os ((d,.tv t)::O)):WO S K (⟨some d,.vL x,none⟩::os) O:=by
 replace k:=k.out;refine⟨?_⟩;subst he B C;have hf:=Tv w l j.toNat i a (FX A).2.2 (Nat.le_of_ble_eq_true hi);simp[wpOps,PR.wp,AC.wp,h,u,hf,D,AR];exact k
theorem ZN{x v:AD}{q c n i:Nat}{env':AA}{es rs:Fq}{a b:α}(h:x.ev O=.lp q qi c)(G:O.sf q qi=some (n,es))(hv:v.ev O=.tv t)(he:es=l.map e)(A:∀a,(e a).cells.length=n)(H:idx l j=some a)(I:c=j.toNat*n+i)(hi:Nat.blt i n=true)(E:t.cells=[t])
  (J:(e b).cells=(e a).cells.set i t)(L:rs=(Bg l j b).map e)(B:O.sI q qi n rs=env')(k:WO S K os env'):WO S K (⟨none,.uB x v 1,none⟩::os) O:=by
 replace k:=k.out;refine⟨?_⟩;subst he I L B;obtain⟨P,Q,F⟩:=FX H;have C:i<n:=Nat.le_of_ble_eq_true hi;have w:j.toNat<l.length:=(List.getElem?_eq_some_iff.1 F).1;simp only[wpOps,PR.wp,AC.wp,h,G,hv];have D:j.toNat*n+i<l.length*n:=calc j.toNat*n+i<j.toNat*n+n:=by omega
   _=(j.toNat+1)*n:=by rw[Nat.add_mul];omega
   _<=l.length*n:=Nat.mul_le_mul_right _ w
 refine ⟨⟨by rw[E];rfl,by omega⟩,?_,_,(Sb A t l j.toNat i a b F C J).trans (by rw[E,List.set_eq_take_append_cons_drop,ae (by rw[XQ A];exact D)];simp),by simp,fun u M=>?_,k⟩
 .rw[f0]
  calc j.toNat*n+i<j.toNat*n+n:=by omega
   _=(j.toNat+1)*n:=by rw[Nat.add_mul];omega
   _<=l.length*n:=Nat.mul_le_mul_right _ w
 .obtain⟨N,_,rfl⟩:=List.mem_map.1 M;exact A N
theorem Sa(k:∀a,(e a).cells.length=n):∀(l:List α)(j:Nat)(b:α),j<l.length->((l.set j b).map e).flatMap TV.cells=((l.map e).flatMap TV.cells).take (j*n)++(e b).cells++((l.map e).flatMap TV.cells).drop (j*n+n)
 |[],j,b,h=>by simp at h|c::l,0,b,h=>by
  grind
 |c::l,j+1,b,h=>by
  rw [List.set_cons_succ,List.map_cons,List.map_cons,List.flatMap_cons,List.flatMap_cons,Sa k l j b (by simpa using h),show(j+1)*n=(e c).cells.length+j*n from by rw[k,Nat.add_mul];omega,Nat.add_assoc,List.take_length_add_append,List.drop_length_add_append,fd,fd,fd]
theorem ZO{x v:AD}{q n:Nat}{env':AA}{es:Fq}{a b:α}(h:x.ev O=.lp q qi (j.toNat*n))(E:O.sf q qi=some (n,es))(hv:v.ev O=.tv (e b))(he:es=l.map e)(A:∀a,(e a).cells.length=n)(F:idx l j=some a)(G:Nat.blt 0 n=true)
  (B:O.sI q qi n ((Bg l j b).map e)=env')(k:WO S K os env'):WO S K (⟨none,.uB x v n,none⟩::os) O:=by
 replace k:=k.out;refine⟨?_⟩;subst he B;obtain⟨L,M,I⟩:=FX F;have C:0<n:=Nat.le_of_ble_eq_true G;have w:j.toNat<l.length:=(List.getElem?_eq_some_iff.1 I).1;have D:j.toNat*n+n<=l.length*n:=calc j.toNat*n+n=(j.toNat+1)*n:=by rw[Nat.add_mul];omega
   _<=l.length*n:=Nat.mul_le_mul_right _ w
 simp only[wpOps,PR.wp,AC.wp,h,E,hv];refine⟨⟨A b,C⟩,by rw[f0];exact D,_,Sa A l j.toNat b w,by simp,fun u H=>?_,k⟩;obtain⟨J,_,rfl⟩:=List.mem_map.1 H;exact A J
theorem iC{es:Fq}(h:O.get s=.xo n es)(hd:d≠s)(k:WO S K os ((d,.ow (.list n es))::(s,.undef)::O)):WO S K (⟨some d,.rel s,none⟩::os) O:=by
 replace k:=k.out;refine⟨?_⟩;simp[wpOps,PR.wp,AC.wp,h];exact⟨hd,k⟩
theorem dF(h:O.pc d=true)(k:WO S K os ((d,.xo n [])::O)):WO S K (⟨some d,.ud n,none⟩::os) O:=by
 replace k:=k.out;refine⟨?_⟩;simp[wpOps,PR.wp,AC.wp];exact⟨h,k⟩
theorem dA(h:O.pc d=true)(k:WO S K os ((d,.xo n [])::O)):WO S K (⟨some d,.ub n,none⟩::os) O:=by
 replace k:=k.out;refine⟨?_⟩;simp[wpOps,PR.wp,AC.wp];exact⟨h,k⟩
theorem iJ{es:Fq}(h:O.get s=.xo n es)(u:O.pc d=true)(hd:d≠s)(k:WO S K os ((d,.xo n es)::(s,.undef)::O)):WO S K (⟨some d,.uR s,none⟩::os) O:=by
 replace k:=k.out;refine⟨?_⟩;simp[wpOps,PR.wp,AC.wp,h];exact⟨u,hd,k⟩
theorem cg{y:AD}{es u rs:Fq}(w:O.get s=.xo n es)(A:y.val O=some (.list n u))(he:es=l.map e)(hf:u=m.map e)(h:Ao l m=some r)(B:rs=r.map e)(C:O.pc d=true)(hd:d≠s)
  (k:WO S K os ((d,.xo n rs)::(s,.undef)::O)):WO S K (⟨some d,.t6 n s y,none⟩::os) O:=by
 replace k:=k.out;refine⟨?_⟩;subst he hf B;unfold Ao at h;split at h
 .rename_i D;cases h;simp only[wpOps,PR.wp,AC.wp,w,A,f0];rw[List.map_append]at k;exact⟨trivial,trivial,D,C,hd,k⟩
 .cases h
theorem aN{args:List AD}{ts es:Fq}(h:O.pc d=true)(u:vals O args=some ts)(w:S f ts (.tL n es))(k:WO S K os ((d,.xo n es)::O)):WO S K (⟨some d,.tj f args,none⟩::os) O:=by
 replace k:=k.out;refine⟨?_⟩;simp[wpOps,PR.wp,AC.wp,u,AR];exact⟨h,n,es,.inl w,fun _=>k⟩
theorem X2{args:List AD}{ts es:Fq}(h:O.pc d=true)(u:vals O args=some ts)(w:S f ts (.own (.list n es)))(he:es=l.map e)(hf:∀a,(e a).flat=true)(k:WO S K os ((d,.xo n es)::O)):WO S K (⟨some d,.tj f args,none⟩::os) O:=by
 replace k:=k.out;refine⟨?_⟩;simp[wpOps,PR.wp,AC.wp,u,AR];exact⟨h,n,es,.inr ⟨w,by rw[he];exact Nz hf l⟩,fun _=>k⟩
variable{rs:Fq}{z:α}
theorem gu{x:AD}{ik:IntKind}(w:O.pc d=true)(A:x.val O=some (.int ik j))(B:(match zero with|[t]=>t|ts=>.agg ts)=e z)(h:Kf j z=some r)(C:rs=r.map e)
  (k:WO S K os ((d,.xo n rs)::O)):WO S K (⟨some d,.uv n zero x,none⟩::os) O:=by
 replace k:=k.out;refine⟨?_⟩;subst C;unfold Kf at h;split at h
 .rename_i u;cases h;rw[List.map_replicate,<-B]at k;simp[wpOps,PR.wp,AC.wp,A];exact⟨w,u.1,u.2,k⟩
 .cases h
theorem aI{x:AD}{q:Nat}{env':AA}{es rs:Fq}{e:Int->TV}{l r:Fp}(h:x.sv O=some ((q,qi),1,es))(he:es=l.map e)(u:e=TV.int .i64)(A:S f [.list 1 (l.map (TV.int .i64))] (.turn r))(B:rs=r.map e)(w:O.sI q qi 1 rs=env')(k:WO S K os ((d,.tp [])::env')):WO S K (⟨some d,.tD f x,none⟩::os) O:=by
 replace k:=k.out;refine⟨?_⟩;subst he B u w;simp only[wpOps,PR.wp,AC.wp,h,AR];exact⟨trivial,l,r,rfl,A,fun _=>k⟩
theorem aD{x:AD}{q:Nat}{es rs:Fq}{e:Int->TV}{l r:Fp}(h:x.sv O=some ((q,none),1,es))(he:es=l.map e)(u:e=TV.int .i64)(w:q≠d)(A:O.pc d=true)(B:S f [.list 1 (l.map (TV.int .i64))] (.cut r))(C:rs=r.map e)(k:WO S K os ((d,.xo 1 rs)::(q,.undef)::O)):WO S K (⟨some d,.tF f x,none⟩::os) O:=by
 replace k:=k.out;refine⟨?_⟩;subst he C u;simp only[wpOps,PR.wp,AC.wp,h,AR];exact⟨⟨w,trivial⟩,trivial,A,l,r,rfl,B,fun _=>k⟩
theorem gY{x:AD}(h:x.ev O=.bp s off)(u:O.sf s (some off)=some p)(k:WO S K os ((d,.la s (some off))::O)):WO S K (⟨some d,.lac x,none⟩::os) O:=by
 replace k:=k.out;refine⟨?_⟩;simp[wpOps,PR.wp,AC.wp,h,u];exact k
theorem gP{x:AD}{cs cs':List AI}{es:Fq}(u:x.place O=some (s,off))(w:O.get s=.bx cs)(A:cs[off]?=some ⟨true,.xl n es⟩)(B:O.pc d=true)(h:cs.set off ⟨false,.undef⟩=cs')(k:WO S K os ((d,.xo n es)::(s,.bx cs')::O)):WO S K (⟨some d,.vQ x,none⟩::os) O:=by
 replace k:=k.out;refine⟨?_⟩;subst h;simp[wpOps,PR.wp,AC.wp,u,w,A];exact⟨B,k⟩
theorem gO{x:AD}{q s off n:Nat}{cs cs':List AI}{es:Fq}(u:x.place O=some (s,off))(w:O.get q=.xo n es)(A:O.get s=.bx cs)(B:O.ua s (some off)=true)(C:Nat.blt off cs.length=true)(h:cs.set off ⟨true,.xl n es⟩=cs')(k:WO S K os ((s,.bx cs')::(q,.undef)::O)):WO S K (⟨none,.vk x q,none⟩::os) O:=by
 replace k:=k.out;refine⟨?_⟩;subst h;simp[wpOps,PR.wp,AC.wp,u,w,A];exact⟨B,Nat.le_of_ble_eq_true C,k⟩
theorem gQ{hi:AD}{es rs:Fq}{ik:IntKind}(w:O.get s=.xo n es)(A:hi.val O=some (.int ik j))(he:es=l.map e)(h:tR l 0 j=some r)(B:rs=r.map e)(C:O.pc d=true)(hd:d≠s)(k:WO S K os ((d,.xo n rs)::(s,.undef)::O)):WO S K (⟨some d,.cut n s hi,none⟩::os) O:=by
 replace k:=k.out;refine⟨?_⟩;subst he B;obtain⟨⟨D,E⟩,u⟩:=TA h;subst u;simp only[wpOps,PR.wp,AC.wp,w,A];refine⟨⟨trivial,C,hd⟩,D.2,by rw[f0];exact E,?_⟩;have u:((l.take j.toNat).drop (0:Int).toNat).map e=(l.map e).take j.toNat:=by simp
 rw [u]at k;exact k
theorem aH{args:List AD}(h:sP O args=some ts)(u:S f ts (.sh t))(w:t.flat=true)(k:WO S K os ((d,.tv t)::O)):WO S K (⟨some d,.ti f args,none⟩::os) O:=by
 replace k:=k.out;refine⟨?_⟩;simp[wpOps,PR.wp,AC.wp,h,AR];exact⟨_,⟨u,w⟩,fun _=>k⟩
theorem Xw{args:List AD}{ts t:Fq}(h:sP O args=some ts)(u:S f ts (.tp t))(w:TV.sF t=true)(k:WO S K os ((d,.tp t)::O)):WO S K (⟨some d,.ti f args,none⟩::os) O:=by
 replace k:=k.out;refine⟨?_⟩;simp[wpOps,PR.wp,AC.wp,h,AR];exact⟨_,⟨u,w⟩,fun _=>k⟩
theorem Xv{args:List AD}{ts es:Fq}(h:sP O args=some ts)(u:S f ts (.own t))(w:t=.list n es)(he:es=l.map e)(hf:∀a,(e a).flat=true)(k:WO S K os ((d,.ow t)::O)):WO S K (⟨some d,.ti f args,none⟩::os) O:=by
 replace k:=k.out;refine⟨?_⟩;subst w he;simp[wpOps,PR.wp,AC.wp,h,AR];exact⟨_,⟨u,Nz hf l⟩,fun _=>k⟩
def SQ{α:Type}(l:List α)(j:Int)(z:α):Option (List α):=if(0<=j/\j<=4096)/\l.length+j.toNat<=CX then some (l++List.replicate j.toNat z)else none
theorem cj{u:TV}{x:AD}{es rs:Fq}{ik:IntKind}(B:O.get s=.xo n es)(C:x.val O=some (.int ik j))(he:es=l.map e)(D:u=e z)(h:SQ l j z=some r)(E:rs=r.map e)(F:O.pc d=true)(hd:d≠s)(w:n=1)(G:u.cells=[u])(k:WO S K os ((d,.xo n rs)::(s,.undef)::O)):WO S K (⟨some d,.ue n s u x,none⟩::os) O:=by
 replace k:=k.out;refine⟨?_⟩;subst he E;unfold SQ at h;split at h
 .rename_i A;cases h;simp only[wpOps,PR.wp,AC.wp,B,C];refine⟨⟨⟨trivial,w⟩,G⟩,A.1,⟨by rw[f0];exact A.2,F,hd⟩,?_⟩;rw[List.map_append,List.map_replicate,<-D]at k;exact k
 .cases h
theorem aE{args:List AD}{ts t:Fq}(h:vals O args=some ts)(u:S f ts (.ext t))(k:WO S K os ((d,.tp t)::O)):WO S K (⟨some d,.tM f args,none⟩::os) O:=by
 replace k:=k.out;refine⟨?_⟩;simp[wpOps,PR.wp,AC.wp,h,AR];exact⟨_,u,k⟩
theorem cu{u:List (Option AI)}{x:AD}{cs:List AI}(h:x.val O=some t)(w:Cg u t.cells=some cs)(A:O.pc d=true)(k:WO S K os ((d,.bx cs)::O)):WO S K (⟨some d,.uc u x,none⟩::os) O:=by
 replace k:=k.out;refine⟨?_⟩;simp[wpOps,PR.wp,AC.wp,h,w,AR];exact⟨A,k⟩
theorem aC{args:List AD}{ts h:Fq}{cs cs':List AI}{e:EV}(u:(args[i]?).bind (·.place O)=some (s,0))(w:O.get s=.bx cs)(A:O.ua s none=true)(hd:d≠s)(B:FC O i args=some ts)(C:S f ts (.bo cs cs' i h))(he:EV.ofs h=e)(k:WO S K os ((d,e)::(s,.bx cs')::O)):WO S K (⟨some d,.tg f args i,none⟩::os) O:=by
 replace k:=k.out;refine⟨?_⟩;subst he;simp only[wpOps,PR.wp,AC.wp,u,w,B,AR];exact⟨⟨A,hd⟩,cs',h,C,fun _=>k⟩
def Uw{α:Type}(l:List α):Option Unit:=if l.isEmpty then none else some ()
theorem V0{u:Unit}{b:Bool}(h:Uw l=some u)(k:b=true->l=[]):b=false:=by
 cases b with
 |false=>rfl|true=>rw[k rfl]at h;cases h
variable{g:Nat}
theorem jP{h:Option Nat}{op:AC}{b q:Bool}(u:O.get g=.tv (.bool q))(w:q=b)(k:WO S K (⟨h,op,none⟩::os) O):WO S K (⟨h,op,some (g,b)⟩::os) O:=by
 replace k:=k.out;refine⟨?_⟩
 grind [wpOps,PR.wp]
theorem fY{d:Nat}{op:AC}{b q:Bool}(u:O.get g=.tv (.bool q))(w:q=!b)(k:WO S K os ((d,.sk)::O)):WO S K (⟨some d,op,some (g,b)⟩::os) O:=by
 replace k:=k.out;refine⟨?_⟩;subst w;simp only[wpOps,PR.wp,u];exact⟨fun h=>by cases b<;>simp at h,fun _=>k⟩
theorem jQ{d:Nat}{op:AC}{b:Bool}(h:O.get g=.sk)(k:WO S K os ((d,.sk)::O)):WO S K (⟨some d,op,some (g,b)⟩::os) O:=by
 replace k:=k.out;refine⟨?_⟩;simp[wpOps,PR.wp,h];exact k
theorem TL(xs h:List PR)(O:AA):wpOps S K (xs++h) O=wpOps S (wpOps S K h) xs O:=by
 induction xs generalizing O with
 |nil=>rfl|cons x xs k=>
  simp only[List.cons_append,wpOps];congr 1;funext e;exact k e
theorem fX{ops:List PR}(n:Nat)(M:AA->AA->Prop)(h:WO S (M O) (ops.take n) O)(k:∀e,M O e->WO S K (ops.drop n) e):WO S K ops O:=by
 refine ⟨?_⟩;rw[<-List.take_append_drop n ops,TL];exact LP S (fun e he=>(k e he).out) _ O h.out
variable{q:Q}{a b:PC}
theorem fK(h:WP S a ⟨fun e=>(∀s,(e.get s).WF)->WP S b q e,q.exit,q.ret⟩ O):WP S (.seq a b) q O:=⟨PC.rl S a _ O h.out _ (fun _ he k=>(he k).out) (fun _ _ h=>h) (fun _ h=>h)⟩
theorem bg{live:Ne}{env':AA}(k:O.po live=env')(h:q.normal env'):WP S (.skip live) q O:=by subst k;exact⟨h⟩
theorem bf{live:Ne}{env':AA}(k:O.po live=env')(h:q.exit i env'):WP S (.exit i live) q O:=by subst k;exact⟨h⟩
theorem Pk{x:AD}{c:Bool}(k:x.val O=some (.bool c))(u:c=true->WP S a q O)(hf:c=false->WP S b q O):WP S (.cond x a b) q O:=by
 refine ⟨?_⟩;simp[PC.wp,k];exact⟨fun h=>(u h).out,fun h=>(hf h).out⟩
theorem Mg{x:AD}{c:Bool}(k:x.val O=some (.bool c))(h:c=true)(u:WP S a q O):WP S (.cond x a b) q O:=by grind[Pk]
theorem Mf{x:AD}{c:Bool}(k:x.val O=some (.bool c))(h:c=false)(u:WP S b q O):WP S (.cond x a b) q O:=by grind[Pk]
theorem QX(h:WP S a ⟨q.normal,fun j e=>if j=i then q.normal e else q.exit j e,q.ret⟩ O):WP S (.block i a) q O:=⟨h.out⟩
theorem SY{x y:Prop}(h:x):if i=i then x else y:=by rw[ae rfl];exact h
theorem Zo{i j:Nat}{x y:Prop}(k:i≠j)(h:y):if i=j then x else y:=by rw[az k];exact h
theorem fJ(M:AA->Prop)(k:WP S a ⟨M,q.exit,q.ret⟩ O)(u:∀e,M e->q.normal e):WP S a q O:=⟨PC.rl S a _ O k.out q u (fun _ _ h=>h) (fun _ h=>h)⟩
section loops
variable{σ ρ:Type}{live:Ne}{c:PC}{i0:Nat}
variable{X:AA->Prop}
theorem Yp{f:Int->σ->Option (C9 σ ρ)}{b:Int}(I:Int->σ->AA)(J:σ->AA)(R:ρ->AA->Prop)
  (w:∀i s r,i<b->f i s=some r->(∀k,((I i s).get k).WF)->c.wp S ⟨fun e=>∃u,r=.next u/\e.po live=I (i+1) u,fun j e=>j=i0/\∃u,r=.brk u/\e=J u,fun e=>∃v,r=.ret v/\R v e⟩ (I i s))
  (A:∀i s,¬i<b->c.wp S ⟨fun _=>False,fun j e=>j=i0/\e=J s,fun _=>False⟩ (I i s))
  (D:∀e,((∀s,(e.get s).WF)->c.wp S {q with normal:=fun F=>X (F.po live)} e)->X e)(L:∀s,q.exit i0 (J s)\/True):
  ∀(n:Nat)(i:Int)(s:σ),n=(b-i).toNat->∀o,tc f n i s=some o->(∀u,o=.inl u->q.exit i0 (J u))->(∀v e,o=.inr v->R v e->q.ret e)->X (I i s):=by
 intro n
 induction n with
 |zero=>
  intro i s G o ho B C;refine D _ fun E=>?_;refine PC.rl S c _ _ (A i s (by omega)) _ (fun _ h=>h.elim) (fun j e he=>?_) (fun _ h=>h.elim);obtain⟨rfl,rfl⟩:=he;simp[tc]at ho;exact B s ho.symm
 |succ n H=>
  intro i s G o ho B C;simp[tc]at ho;refine D _ fun E=>?_;cases hf:f i s with
  |none=>rw[hf]at ho;cases ho
  |some r=>
   rw [hf]at ho;refine PC.rl S c _ _ (w i s r (by omega) hf E) _ (fun e he=>?_) (fun j e he=>?_) (fun e he=>?_)
   .obtain⟨u,rfl,he⟩:=he;show X (e.po live);rw[he];exact H (i+1) u (by omega) o ho B C
   .obtain⟨rfl,u,rfl,rfl⟩:=he;simp at ho;exact B u ho.symm
   .obtain⟨v,rfl,he⟩:=he;simp at ho;exact C v e ho.symm he
variable{s0:σ}{o:σ ⊕ ρ}
theorem UK{f:Int->σ->Option (C9 σ ρ)}{lo b:Int}(ho:qo f lo b s0=some o)(I:Int->σ->AA)(J:σ->AA)(R:ρ->AA->Prop)(B:O.po live=I lo s0)
  (w:∀i s r,i<b->f i s=some r->(∀k,((I i s).get k).WF)->WP S c ⟨fun e=>∃u,r=.next u/\e.po live=I (i+1) u,fun j e=>j=i0/\∃u,r=.brk u/\e=J u,fun e=>∃v,r=.ret v/\R v e⟩ (I i s))
  (A:∀i s,¬i<b->WP S c ⟨fun _=>False,fun j e=>j=i0/\e=J s,fun _=>False⟩ (I i s))
  (C:∀u,o=.inl u->q.normal (J u))(D:∀v e,o=.inr v->R v e->q.ret e):WP S (.block i0 (.loop live c)) q O:=by
 refine QX ⟨?_⟩;intro X H;rw[B];refine Yp (q:=⟨q.normal,fun j e=>if j=i0 then q.normal e else q.exit j e,q.ret⟩) I J R (fun i s r E F G=>(w i s r E F G).out) (fun i s h=>(A i s h).out) H (fun _=>.inr trivial) _ lo s0 rfl o ho ?_ D;intro u L;exact SY (C u L)
theorem Tw{f:Int->σ->Option σ}:∀(n:Nat)(i:Int)(s o:σ),sT f n i s=some o->tc (fun i s=>(f i s).map (C9.next (ρ:=Empty))) n i s=some (.inl o)
 |0,_,_,_,h=>by simp[sT]at h;subst h;rfl|n+1,i,s,o,h=>by
  simp [sT]at h;simp[tc];cases hf:f i s with
  |none=>rw[hf]at h;cases h
  |some k=>rw[hf]at h;simp;exact Tw n (i+1) k o h
theorem ah{f:Int->σ->Option σ}{lo b:Int}{s0 o:σ}(ho:ry f lo b s0=some o)(I:Int->σ->AA)(J:σ->AA)(B:O.po live=I lo s0)
  (u:∀i s r,i<b->f i s=some r->(∀k,((I i s).get k).WF)->WP S c ⟨fun e=>e.po live=I (i+1) r,fun _ _=>False,fun _=>False⟩ (I i s))
  (w:∀i s,¬i<b->WP S c ⟨fun _=>False,fun j e=>j=i0/\e=J s,fun _=>False⟩ (I i s))
  (C:q.normal (J o)):WP S (.block i0 (.loop live c)) q O:=by
 refine UK (f:=fun i s=>(f i s).map (C9.next (ρ:=Empty))) (o:=.inl o) (Tw _ _ _ _ ho) I J (fun _ _=>False) B ?_ w ?_ ?_
 .intro i s r hi hf D;simp at hf;obtain⟨A,hf,rfl⟩:=hf;exact⟨PC.rl S c _ _ (u i s A hi hf D).out _ (fun e he=>⟨A,rfl,he⟩) (fun _ _ h=>h.elim) (fun _ h=>h.elim)⟩
 .intro A h;cases h;exact C
 .intro v;cases v
theorem aj{f:σ->Option (C9 σ ρ)}(I:σ->AA)(J:σ->AA)(R:ρ->AA->Prop)
  (u:∀s r,f s=some r->(∀k,((I s).get k).WF)->c.wp S ⟨fun e=>∃h,r=.next h/\e.po live=I h,fun j e=>j=i0/\∃h,r=.brk h/\e=J h,fun e=>∃v,r=.ret v/\R v e⟩ (I s))
  (B:∀e,((∀s,(e.get s).WF)->c.wp S {q with normal:=fun C=>X (C.po live)} e)->X e):
  ∀(n:Nat)(s:σ)(o:σ ⊕ ρ),Mb f n s=some o->(∀h,o=.inl h->q.exit i0 (J h))->(∀v e,o=.inr v->R v e->q.ret e)->X (I s):=by
 intro n
 induction n with
 |zero=>intro s o ho;cases ho
 |succ n E=>
  intro s o ho w A;simp[Mb]at ho;refine B _ fun D=>?_;cases hf:f s with
  |none=>rw[hf]at ho;cases ho
  |some r=>
   rw [hf]at ho;refine PC.rl S c _ _ (u s r hf D) _ (fun e he=>?_) (fun j e he=>?_) (fun e he=>?_)
   .obtain⟨h,rfl,he⟩:=he;show X (e.po live);rw[he];exact E h o ho w A
   .obtain⟨rfl,h,rfl,rfl⟩:=he;simp at ho;exact w h ho.symm
   .obtain⟨v,rfl,he⟩:=he;simp at ho;exact A v e ho.symm he
theorem dk{f:σ->Option (C9 σ ρ)}(ho:GO f s0=some o)(I:σ->AA)(J:σ->AA)(R:ρ->AA->Prop)(w:O.po live=I s0)
  (u:∀s r,f s=some r->(∀k,((I s).get k).WF)->WP S c ⟨fun e=>∃h,r=.next h/\e.po live=I h,fun j e=>j=i0/\∃h,r=.brk h/\e=J h,fun e=>∃v,r=.ret v/\R v e⟩ (I s))
  (A:∀h,o=.inl h->q.normal (J h))(B:∀v e,o=.inr v->R v e->q.ret e):WP S (.block i0 (.loop live c)) q O:=by
 obtain ⟨N,G⟩:=CO ho;refine QX ⟨?_⟩;intro X E;rw[w];refine aj (q:=⟨q.normal,fun j e=>if j=i0 then q.normal e else q.exit j e,q.ret⟩) I J R (fun s r C D=>(u s r C D).out) E N s0 o (G N (bk _)) ?_ B;intro h F;exact SY (A h F)
end loops
end
theorem jy{a b:Int}(h:a<b):decide (a<b)=true:=decide_eq_true h
theorem jN{a b:Int}(h:¬a<b):decide (a<b)=false:=decide_eq_false h
variable{t:TV}
theorem SH(h:EV.WF (.tv t)):t.WF:=h
theorem iP(h:EV.WF (.ow t)):t.WF:=h
variable{n:Nat}
theorem iQ{es:Fq}(h:EV.WF (.xo n es)):TV.WF (.list n es):=h
theorem ZS{row:Fq}(h:EV.WF (.tv (.pt row))):TV.sq row:=h
variable{ts:Fq}{i:Nat}
theorem UI(h:TV.sq ts)(hi:ts[i]?=some t):t.WF:=by
 induction ts generalizing i with
 |nil=>simp at hi|cons x xs k=>
  cases i with
  |zero=>simp at hi;subst hi;exact h.1|succ i=>exact k h.2 (by simpa using hi)
variable{α:Type}{e:α->TV}{l:List α}
theorem dj(h:TV.WF (.list n (l.map e))):(l.length:Int)<=9223372036854775807:=by
 have:=h.1
 grind [f0,F9]
theorem Ok{es:Fq}(h:TV.WF (.list n es))(he:es=l.map e):(l.length:Int)<=9223372036854775807:=by subst he;exact dj h
theorem ac{s:ByteArray}(h:TV.WF (.str s)):(s.size:Int)<=9223372036854775807:=by
 have:s.size<=F9:=h
 grind [F9]
theorem Wu{n:Int}(h:TV.WF (.int .i64 n)):n<=9223372036854775807:=h.2
theorem TG(n:Int):Az n=if 9223372036854775808<=n % 18446744073709551616 then n % 18446744073709551616-18446744073709551616 else n % 18446744073709551616:=by
 have h:(2:Int)^ 64=18446744073709551616:=by decide
 have k:(2:Int)^ (64-1)=9223372036854775808:=by decide
 simp [Az,IntKind.wrap,IntKind.bits,IntKind.signed,Bool.true_and,tI,h,k,ge_iff_le]
theorem dh(n:Int):Az n<=9223372036854775807:=by grind[TG]
theorem QT{n:Int}(h:-9223372036854775808<=n)(k:n<=9223372036854775807):Az n=n:=by grind[TG]
theorem iR{i b:Int}(hi:TV.WF (.int .i64 i))(h:i<b)(k:b<=9223372036854775807):IntKind.i64.wrap (i+1)=i+1:=by
 have u:(-9223372036854775808:Int)<=i:=hi.1
 grind [QT]
end Go.Sf
