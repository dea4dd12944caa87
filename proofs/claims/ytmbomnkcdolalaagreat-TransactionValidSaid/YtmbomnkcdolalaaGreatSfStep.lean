/- Steps of the pure language with typed values: one rule an operation, one a piece of code, one a kind of loop. -/
import Derived.Test.YtmbomnkcdolalaaGreatSfSem
set_option linter.all false
namespace Go.Sf
abbrev Af(n:Int):Int:=IntKind.i64.wrap n
def idx{α:Type}(l:List α)(j:Int):Option α:=if 0<=j then l[j.toNat]? else none
def slc{α:Type}(l:List α)(a b:Int):Option (List α):=if(0<=a/\a<=b)/\b<=l.length then some ((l.take b.toNat).drop a.toNat)else none
def AaH(s:ByteArray)(a b:Int):Option ByteArray:=if 0<=a/\a<=b/\b<=s.size then some (s.extract a.toNat b.toNat)else none
def AaC(s:ByteArray)(j:Int):QQ:=if 0<=j then(s[j.toNat]?).map (fun b=>(b.toNat:Int))else none
def Ag{α:Type}(l m:List α):Option (List α):=if l.length+m.length<=Ad then some (l++m)else none
def quo(a b:Int):QQ:=if b=0 then none else some (a.tdiv b)
def g9(a b:Int):QQ:=if b=0 then none else some (a.tmod b)
inductive Bk(σ ρ:Type)where
 |next (s:σ)
 |brk (s:σ)
 |ret (r:ρ)
section loops
variable{σ ρ:Type}
def Aae(f:Int->σ->Option (Bk σ ρ)):Nat->Int->σ->Option (σ ⊕ ρ)
 |0,_,s=>some (.inl s)|n+1,i,s=>match f i s with
  |none=>none|some (.next s')=>Aae f n (i+1) s'|some (.brk s')=>some (.inl s')|some (.ret r)=>some (.inr r)
def j4(f:Int->σ->Option (Bk σ ρ))(a b:Int)(s:σ):Option (σ ⊕ ρ):=Aae f (b-a).toNat a s
def Aat(f:Int->σ->Option σ):Nat->Int->σ->Option σ
 |0,_,s=>some s|n+1,i,s=>match f i s with
  |none=>none|some s'=>Aat f n (i+1) s'
def sx(f:Int->σ->Option σ)(a b:Int)(s:σ):Option σ:=Aat f (b-a).toNat a s
def Pf(f:σ->Option (Bk σ ρ)):Nat->σ->Option (σ ⊕ ρ)
 |0,_=>none|n+1,s=>match f s with
  |none=>none|some (.next s')=>Pf f n s'|some (.brk s')=>some (.inl s')|some (.ret r)=>some (.inr r)
end loops
class Ev where
 fuel:Option Nat
instance BF:Ev:=⟨none⟩
open Classical in
noncomputable def XI{α:Type}(g:Nat->Option α):Option α:=if h:∃v N,∀n,N<=n->g n=some v then some h.choose else none
noncomputable def Je[e:Ev]{α:Type}(g:Nat->Option α):Option α:=match e.fuel with
 |none=>XI g|some n=>g n
variable{α:Type}
theorem Ck{g:Nat->Option α}{v:α}(h:Je g=some v):∃N,∀n,N<=n->g n=some v:=by
 change XI g=some v at h;unfold XI at h;split at h
 .rename_i k;cases h;exact k.choose_spec
 .cases h
theorem EB{g:Nat->Option α}{v:α}(N:Nat)(h:∀n,N<=n->g n=some v):Je g=some v:=by
 have k:∃v N,∀n,N<=n->g n=some v:=⟨v,N,h⟩;show XI g=some v;unfold XI;rw[dif_pos k];obtain⟨M,w⟩:=k.choose_spec;have u:=h (max N M) (Nat.le_max_left _ _)
 grind
noncomputable def EQ[Ev]{σ ρ:Type}(f:σ->Option (Bk σ ρ))(s:σ):Option (σ ⊕ ρ):=Je fun n=>Pf f n s
def fq{σ ρ β:Type}(o:Option (σ ⊕ ρ))(k:σ->Option β)(kr:ρ->Option β):Option β:=
 match o with
 |none=>none|some (.inl s)=>k s|some (.inr v)=>kr v
theorem Uh{σ ρ β:Type}{o:Option (σ ⊕ ρ)}{k:σ->Option β}{u:ρ->Option β}{b:β}(h:fq o k u=some b):∃x,o=some x/\fq (some x) k u=some b:=by
 cases o with
 |none=>cases h
 |some x=>exact⟨x,rfl,h⟩
theorem ZU{σ ρ β:Type}{x:σ ⊕ ρ}{k:σ->Option β}{u:ρ->Option β}{b:β}{s:σ}(h:fq (some x) k u=some b)(w:x=.inl s):k s=some b:=by subst w;exact h
theorem ZV{σ ρ β:Type}{x:σ ⊕ ρ}{k:σ->Option β}{u:ρ->Option β}{b:β}{v:ρ}(h:fq (some x) k u=some b)(w:x=.inr v):u v=some b:=by subst w;exact h
def BI{α:Type}(l:List α)(j:Int)(a:α):List α:=l.set j.toNat a
def IZ{α:Type}(j:Int)(a:α):Option (List α):=if 0<=j/\j<=4096 then some (List.replicate j.toNat a)else none
def SI(a b:ByteArray):Option ByteArray:=if a.size+b.size<=Ad then some (a++b)else none
variable{β:Type}
theorem bind_some{x:Option α}{f:α->Option β}{b:β}(h:x.bind f=some b):∃a,x=some a/\f a=some b:=Option.bind_eq_some_iff.1 h
theorem UE{c:Bool}{a b:α}{r:α}(k:c=true)(h:(if c=true then a else b)=r):a=r:=by grind
theorem UD{c:Bool}{a b:α}{r:α}(k:c=false)(h:(if c=true then a else b)=r):b=r:=by grind
structure WO(S:FuncId->Fq->Am->Prop)(K:AB->Prop)(os:List PR)(O:AB):Prop where
 of::out:wpOps S K os O
structure WP(S:FuncId->Fq->Am->Prop)(c:PC)(q:Q)(O:AB):Prop where
 of::out:c.wp S q O
section
variable{S:FuncId->Fq->Am->Prop}{K:AB->Prop}{os:List PR}{O:AB}{d:Nat}
variable{t:TV}
theorem Ri{x:AF}(h:x.val O=some t):x.ev O=.tv t\/x.ev O=.ow t:=by
 unfold AF.val EV.val at h;split at h<;>simp_all
theorem N1{x:AF}(h:x.val O=some t)(k:WO S K os ((d,.tv t)::O)):WO S K (⟨some d,.mv x,none⟩::os) O:=by
 replace k:=k.out;refine⟨?_⟩;simp only[wpOps,PR.wp,AE.wp];rcases Ri h with h|h<;>rw[h]<;>exact k
variable{s:Nat}
theorem tL(h:O.get s=.ow t)(k:WO S K os ((d,.ow t)::(s,.tv t)::O)):WO S K (⟨some d,.tk s,none⟩::os) O:=by
 replace k:=k.out;refine⟨?_⟩;simp only[wpOps,PR.wp,AE.wp,h];exact k
theorem rz(h:O.get s=.tv t)(k:WO S K os ((d,.tv t)::O)):WO S K (⟨some d,.tk s,none⟩::os) O:=by
 replace k:=k.out;refine⟨?_⟩;simp only[wpOps,PR.wp,AE.wp,h];exact k
variable{n:Nat}
theorem nY(k:WO S K os ((d,.ow (.list n []))::O)):WO S K (⟨some d,.Abx n,none⟩::os) O:=by
 replace k:=k.out;refine⟨?_⟩;simp only[wpOps,PR.wp,AE.wp];exact k
theorem iA{x:AF}{j:Nat}{row:Fq}(h:x.ev O=.tv (.pt row))(k:WO S K os ((d,.tv (.pt (row.drop j)))::O)):WO S K (⟨some d,.fad x j,none⟩::os) O:=by
 replace k:=k.out;refine⟨?_⟩;simp only[wpOps,PR.wp,AE.wp,h];exact k
theorem cw{x:AF}{j s off:Nat}{cs:List AO}(h:x.ev O=.bp s off)(u:O.get s=.bx cs)(k:WO S K os ((d,.bp s (off+j))::O)):WO S K (⟨some d,.fad x j,none⟩::os) O:=by
 replace k:=k.out;refine⟨?_⟩;simp only[wpOps,PR.wp,AE.wp,h,u];exact k
theorem ct{s j:Nat}{cs:List AO}(h:O.get s=.bx cs)(k:WO S K os ((d,.bp s j)::O)):WO S K (⟨some d,.bad s j,none⟩::os) O:=by
 replace k:=k.out;refine⟨?_⟩;simp only[wpOps,PR.wp,AE.wp,h];exact k
theorem hU{s j:Nat}{row:Fq}(h:O.get s=.tv (.pt row))(k:WO S K os ((d,.tv (.pt (row.drop j)))::O)):WO S K (⟨some d,.bad s j,none⟩::os) O:=by
 replace k:=k.out;refine⟨?_⟩;simp only[wpOps,PR.wp,AE.wp,h];exact k
variable{α:Type}{e:α->TV}{l:List α}{j:Int}
theorem rP{x i:AF}{es row:Fq}{ik:IntKind}{a:α}(u:x.val O=some (.list n es))(hi:i.val O=some (.int ik j))(he:es=l.map e)(h:idx l j=some a)(w:(e a).cells=row)
  (k:WO S K os ((d,.tv (.pt row))::O)):WO S K (⟨some d,.iad x i n,none⟩::os) O:=by
 replace k:=k.out;refine⟨?_⟩;subst he w;simp only[wpOps,PR.wp,AE.wp,u,hi];unfold idx at h;split at h
 .rename_i A;exact⟨trivial,A,e a,by rw[List.getElem?_map,h];rfl,k⟩
 .cases h
theorem rC{x i:AF}{n m h:Nat}{row:Fq}{ik:IntKind}(u:x.ev O=.tv (.pt row))(hi:i.val O=some (.int ik j))(w:0<=j)(A:j<m)(B:m*n<=row.length)(C:j.toNat*n=h)
  (k:WO S K os ((d,.tv (.pt (row.drop h)))::O)):WO S K (⟨some d,.aad x i n m,none⟩::os) O:=by
 replace k:=k.out;refine⟨?_⟩;subst C;simp only[wpOps,PR.wp,AE.wp,u,hi];exact⟨w,A,B,k⟩
theorem nJ{x:AF}{n m:Nat}{row u:Fq}{ik:IntKind}(w:x.ev O=.tv (.pt row))(h:(decide (0<=j)&&decide (j<m)&&Nat.ble (m*n) row.length)=true)(A:row.drop (j.toNat*n)=u)
  (k:WO S K os ((d,.tv (.pt u))::O)):WO S K (⟨some d,.aad x (.c (.int ik j)) n m,none⟩::os) O:=by
 simp only[pc,zzX]at h;subst A;exact rC w rfl h.1.1 h.1.2 (Nat.le_of_ble_eq_true h.2) rfl k
theorem tK{x:AF}{r:Fq}(h:A3 O (x.ev O)=some (t::r))(u:t.AaW=false)(k:WO S K os ((d,.tv t)::O)):WO S K (⟨some d,.ld x,none⟩::os) O:=by
 replace k:=k.out;refine⟨?_⟩;simp only[wpOps,PR.wp,AE.wp,h,AX,FX];exact⟨u,k⟩
theorem WX{x:AF}{cs:Fq}(h:A3 O (x.ev O)=some cs)(u:Nat.ble n cs.length=true)(w:TV.agg (cs.take n)=t)(k:WO S K os ((d,.tv t)::O)):WO S K (⟨some d,.lda x n,none⟩::os) O:=by
 replace k:=k.out;refine⟨?_⟩;subst w;simp only[wpOps,PR.wp,AE.wp,h,AX];exact⟨Nat.le_of_ble_eq_true u,k⟩
theorem iC{cs:List AO}(h:O.get s=.bx cs)(u:Nat.ble n (cs.map (·.t)).length=true)(w:TV.agg ((cs.map (·.t)).take n)=t)(k:WO S K os ((d,.tv t)::O)):WO S K (⟨some d,.ldb s n,none⟩::os) O:=by
 replace k:=k.out;refine⟨?_⟩;subst w;simp only[wpOps,PR.wp,AE.wp,h];exact⟨Nat.le_of_ble_eq_true u,k⟩
variable{off:Nat}
theorem rT{x:AF}{cs:List AO}{es:Fq}(h:x.place O=some (s,off))(u:O.get s=.bx cs)(w:cs[off]?=some ⟨true,t⟩){cs':List AO}(A:cs.set off ⟨false,t⟩=cs')(B:t=.list n es)
  (k:WO S K os ((d,.ow t)::(s,.bx cs')::O)):WO S K (⟨some d,.ldt x,none⟩::os) O:=by
 replace k:=k.out;refine⟨?_⟩;subst A B;simp only[wpOps,PR.wp,AE.wp,h,u,w];exact k
section bins
variable{x y:AF}{ik:IntKind}{a b:Int}
theorem GK{h:BK}{op:BinOp}{u v t:TV}(w:x.val O=some u)(A:y.val O=some v)(B:Dy h op u v=some t)(k:WO S K os ((d,.tv t)::O)):WO S K (⟨some d,.bin h op x y,none⟩::os) O:=by
 replace k:=k.out;refine⟨?_⟩;simp only[wpOps,PR.wp,AE.wp,w,A,B,AX];exact k
theorem rL(h:x.val O=some (.int ik a))(u:y.val O=some (.int ik b))(k:WO S K os ((d,.tv (.bool (decide (a=b))))::O)):WO S K (⟨some d,.bin .i .eql x y,none⟩::os) O:=by grind[GK,Dy,intCmp]
theorem aW(h:x.val O=some (.int ik a))(u:y.val O=some (.int ik b))(k:WO S K os ((d,.tv (.bool (!decide (a=b))))::O)):WO S K (⟨some d,.bin .i .neq x y,none⟩::os) O:=by grind[GK,Dy,intCmp]
theorem rW(h:x.val O=some (.int ik a))(u:y.val O=some (.int ik b))(k:WO S K os ((d,.tv (.bool (decide (a<b))))::O)):WO S K (⟨some d,.bin .i .lss x y,none⟩::os) O:=by grind[GK,Dy,intCmp]
theorem rV(h:x.val O=some (.int ik a))(u:y.val O=some (.int ik b))(k:WO S K os ((d,.tv (.bool (decide (a<=b))))::O)):WO S K (⟨some d,.bin .i .leq x y,none⟩::os) O:=by grind[GK,Dy,intCmp]
theorem rO(h:x.val O=some (.int ik a))(u:y.val O=some (.int ik b))(k:WO S K os ((d,.tv (.bool (decide (b<a))))::O)):WO S K (⟨some d,.bin .i .gtr x y,none⟩::os) O:=by grind[GK,Dy,intCmp]
theorem rN(h:x.val O=some (.int ik a))(u:y.val O=some (.int ik b))(k:WO S K os ((d,.tv (.bool (decide (b<=a))))::O)):WO S K (⟨some d,.bin .i .geq x y,none⟩::os) O:=by grind[GK,Dy,intCmp]
theorem rD(h:x.val O=some (.int ik a))(u:y.val O=some (.int ik b))(k:WO S K os ((d,.tv (.int ik (ik.wrap (a+b))))::O)):WO S K (⟨some d,.bin .i .add x y,none⟩::os) O:=by grind[GK,Dy,intCmp,intArith]
theorem ry(h:x.val O=some (.int ik a))(u:y.val O=some (.int ik b))(k:WO S K os ((d,.tv (.int ik (ik.wrap (a-b))))::O)):WO S K (⟨some d,.bin .i .sub x y,none⟩::os) O:=by grind[GK,Dy,intCmp,intArith]
theorem rf(h:x.val O=some (.int ik a))(u:y.val O=some (.int ik b))(k:WO S K os ((d,.tv (.int ik (ik.wrap (a*b))))::O)):WO S K (⟨some d,.bin .i .mul x y,none⟩::os) O:=by grind[GK,Dy,intCmp,intArith]
theorem rn{q:Int}(h:x.val O=some (.int ik a))(u:y.val O=some (.int ik b))(w:quo a b=some q)(k:WO S K os ((d,.tv (.int ik (ik.wrap q)))::O)):WO S K (⟨some d,.bin .i .quo x y,none⟩::os) O:=by grind[GK,quo,Dy,intCmp,intArith,Option.some.inj]
theorem rr{q:Int}(h:x.val O=some (.int ik a))(u:y.val O=some (.int ik b))(w:g9 a b=some q)(k:WO S K os ((d,.tv (.int ik q))::O)):WO S K (⟨some d,.bin .i .rem x y,none⟩::os) O:=by grind[GK,g9,Dy,intCmp,intArith,Option.some.inj]
variable{ik':IntKind}
theorem rF{op:BinOp}{r:Int}(h:x.val O=some (.int ik a))(u:y.val O=some (.int ik' b))(A:ik=ik'\/op=.shl\/op=.shr)(B:Kc ik op a b=some r)(k:WO S K os ((d,.tv (.int ik r))::O)):WO S K (⟨some d,.bin .w op x y,none⟩::os) O:=by grind[GK,Dy]
theorem nc{u v:ByteArray}(h:x.val O=some (.str u))(w:y.val O=some (.str v))(k:WO S K os ((d,.tv (.bool (u==v)))::O)):WO S K (⟨some d,.bin .s .eql x y,none⟩::os) O:=by grind[GK,Dy]
theorem ng{u v:ByteArray}(h:x.val O=some (.str u))(w:y.val O=some (.str v))(k:WO S K os ((d,.tv (.bool (!(u==v))))::O)):WO S K (⟨some d,.bin .s .neq x y,none⟩::os) O:=by grind[GK,Dy]
theorem na{u v t:ByteArray}(w:x.val O=some (.str u))(A:y.val O=some (.str v))(h:SI u v=some t)(k:WO S K os ((d,.tv (.str t))::O)):WO S K (⟨some d,.bin .s .add x y,none⟩::os) O:=by grind[GK,SI,Dy,Option.some.inj]
theorem nM{u v:Bool}(h:x.val O=some (.bool u))(w:y.val O=some (.bool v))(k:WO S K os ((d,.tv (.bool (u==v)))::O)):WO S K (⟨some d,.bin .b .eql x y,none⟩::os) O:=by grind[GK,Dy]
theorem nP{u v:Bool}(h:x.val O=some (.bool u))(w:y.val O=some (.bool v))(k:WO S K os ((d,.tv (.bool (!(u==v))))::O)):WO S K (⟨some d,.bin .b .neq x y,none⟩::os) O:=by grind[GK,Dy]
theorem cq{n:Ne}{cs ds:Fq}{r:Bool}(u:x.val O=some (.agg cs))(w:y.val O=some (.agg ds))(A:cs.map TV.kd=n)(h:Bz cs ds=some r)(k:WO S K os ((d,.tv (.bool r))::O)):WO S K (⟨some d,.bin (.a n) .eql x y,none⟩::os) O:=by grind[GK,Dy]
theorem cr{n:Ne}{cs ds:Fq}{r:Bool}(u:x.val O=some (.agg cs))(w:y.val O=some (.agg ds))(A:cs.map TV.kd=n)(h:Bz cs ds=some r)(k:WO S K os ((d,.tv (.bool (!r)))::O)):WO S K (⟨some d,.bin (.a n) .neq x y,none⟩::os) O:=by grind[GK,Dy]
end bins
theorem rl{x:AF}{b:Bool}(h:x.val O=some (.bool b))(k:WO S K os ((d,.tv (.bool (!b)))::O)):WO S K (⟨some d,.not x,none⟩::os) O:=by
 replace k:=k.out;refine⟨?_⟩;simp only[wpOps,PR.wp,AE.wp,h];exact k
theorem rj{x:AF}{ik:IntKind}{n:Int}(h:x.val O=some (.int ik n))(k:WO S K os ((d,.tv (.int ik (ik.wrap (-n))))::O)):WO S K (⟨some d,.neg x,none⟩::os) O:=by
 replace k:=k.out;refine⟨?_⟩;simp only[wpOps,PR.wp,AE.wp,h];exact k
variable{t:TV}
theorem kK{c a b:AF}{q:Bool}(u:c.val O=some (.bool q))(w:q=true)(h:a.val O=some t)(k:WO S K os ((d,.tv t)::O)):WO S K (⟨some d,.pick c a b,none⟩::os) O:=by
 replace k:=k.out;refine⟨?_⟩;subst w;simp only[wpOps,PR.wp,AE.wp,u,if_true];rcases Ri h with h|h<;>rw[h]<;>exact k
theorem kJ{c a b:AF}{q:Bool}(u:c.val O=some (.bool q))(w:q=false)(h:b.val O=some t)(k:WO S K os ((d,.tv t)::O)):WO S K (⟨some d,.pick c a b,none⟩::os) O:=by
 replace k:=k.out;refine⟨?_⟩;subst w;simp only[wpOps,PR.wp,AE.wp,u,Bool.false_eq_true,if_false];rcases Ri h with h|h<;>rw[h]<;>exact k
variable{α:Type}{n:Nat}{e:α->TV}{l:List α}
theorem rU{x:AF}{es:Fq}(h:x.val O=some (.list n es))(he:es=l.map e)(k:WO S K os ((d,.tv (.int .i64 l.length))::O)):WO S K (⟨some d,.len x,none⟩::os) O:=by
 replace k:=k.out;refine⟨?_⟩;subst he;simp only[wpOps,PR.wp,AE.wp,h,c8];exact k
theorem nf{x:AF}{s:ByteArray}(h:x.val O=some (.str s))(k:WO S K os ((d,.tv (.int .i64 s.size))::O)):WO S K (⟨some d,.AbJ x,none⟩::os) O:=by
 replace k:=k.out;refine⟨?_⟩;simp only[wpOps,PR.wp,AE.wp,h];exact k
variable{m:List α}
theorem X0{a b:Int}(h:slc l a b=some m):((0<=a/\a<=b)/\b<=l.length)/\m=(l.take b.toNat).drop a.toNat:=by
 unfold slc at h
 grind
variable{ka kb:IntKind}
theorem rt{x:AF}{lo hi:Option AF}{es:Fq}{a b:Int}(h:x.val O=some (.list n es))(he:es=l.map e)(u:Er O 0 lo=some (.int ka a))(w:Er O l.length hi=some (.int kb b))(B:slc l a b=some m)
  (k:WO S K os ((d,.tv (.list n (m.map e)))::O)):WO S K (⟨some d,.slc n x lo hi,none⟩::os) O:=by
 replace k:=k.out;refine⟨?_⟩;subst he;obtain⟨⟨A,C⟩,D⟩:=X0 B;subst D;simp only[wpOps,PR.wp,AE.wp,h,c8,u,w];refine⟨⟨trivial,A.1,A.2⟩,C,?_⟩;rw[List.map_drop,List.map_take]at k;exact k
theorem ni{x:AF}{lo hi:Option AF}{s t:ByteArray}{a b:Int}(h:x.val O=some (.str s))(w:Er O 0 lo=some (.int ka a))(A:Er O s.size hi=some (.int kb b))(u:AaH s a b=some t)
  (k:WO S K os ((d,.tv (.str t))::O)):WO S K (⟨some d,.AaH x lo hi,none⟩::os) O:=by
 replace k:=k.out;refine⟨?_⟩;unfold AaH at u;split at u
 .rename_i B;cases u;simp only[wpOps,PR.wp,AE.wp,h,w,A];exact⟨B.1,B.2.1,B.2.2,k⟩
 .cases u
variable{zero:Fq}{parts:List (Nat×Nat×AF)}
theorem WW{ts:List (Nat×Nat×TV)}{cs:Fq}(h:Fu O parts=some ts)(u:Ea zero ts=some cs)(w:TV.agg cs=t)(k:WO S K os ((d,.tv t)::O)):WO S K (⟨some d,.bld zero parts,none⟩::os) O:=by
 replace k:=k.out;refine⟨?_⟩;subst w;simp only[wpOps,PR.wp,AE.wp,h,AX,u];exact k
def TX:Nat->List (Nat×Nat×TV)->Bool
 |_,[]=>true|k,(i,n,t)::r=>Nat.beq i k&&Nat.beq t.cells.length n&&TX (k+n) r
def HQ:List (Nat×Nat×TV)->Fq
 |[]=>[]|(_,_,t)::r=>t.cells++HQ r
theorem SA:∀(ds done k rest:Fq),k.length=ds.length->M8 (done++(k++rest)) done.length ds=done++(ds++rest)
 |[],done,k,rest,h=>by
  have:k=[]:=List.eq_nil_of_length_eq_zero (by simpa using h);subst this;rfl
 |d::ds,done,[],rest,h=>by simp at h|d::ds,done,m::k,rest,h=>by
  simp only[M8];rw[List.cons_append,List.set_append_right _ _ (az _),Nat.sub_self,List.set_cons_zero];have:=SA ds (done++[d]) k rest (by simpa using h);simpa using this
theorem VP:∀(ts:List (Nat×Nat×TV))(done rest:Fq),TX done.length ts=true->(HQ ts).length=rest.length->Ea (done++rest) ts=some (done++HQ ts)
 |[],done,rest,_,h=>by
  have:rest=[]:=List.eq_nil_of_length_eq_zero (by simpa[HQ]using h.symm);subst this;rfl
 |(i,n,t)::r,done,rest,u,h=>by
  simp only[TX,pc,Nat.beq_eq]at u;obtain⟨⟨rfl,k⟩,B⟩:=u;simp only[HQ,bk]at h;have w:n<=rest.length:=by omega
  simp only[Ea];rw[a6 ⟨k,by rw[bk];omega⟩];have A:rest=rest.take n++rest.drop n:=(List.take_append_drop n rest).symm;rw[A,SA t.cells done (rest.take n) (rest.drop n) (by rw[cE];omega),<-ca];rw[VP r (done++t.cells) (rest.drop n) (by rw[bk,k];exact B) (by rw[List.length_drop];omega)];simp[HQ]
theorem nN{ts:List (Nat×Nat×TV)}(h:Fu O parts=some ts)(u:TX 0 ts=true)(w:Nat.beq (HQ ts).length zero.length=true)(A:TV.agg (HQ ts)=t)(k:WO S K os ((d,.tv t)::O)):WO S K (⟨some d,.bld zero parts,none⟩::os) O:=
 WW h (by have:=VP ts [] zero u (Nat.eq_of_beq_eq_true w);simpa using this) A k
variable{ts:Fq}
theorem iD{parts:List AF}(h:vals O parts=some ts)(he:ts=l.map e)(u:∀a,(e a).cells.length=n)(k:WO S K os ((d,.ow (.list n (l.map e)))::O)):WO S K (⟨some d,.lst n parts,none⟩::os) O:=by
 replace k:=k.out;refine⟨?_⟩;subst he;simp only[wpOps,PR.wp,AE.wp,h,AX];refine⟨fun t w=>?_,k⟩
 grind
variable{s:Nat}{r:List α}
theorem hO{y:AF}{es u rs:Fq}(w:O.get s=.ow (.list n es))(A:y.val O=some (.list n u))(he:es=l.map e)(hf:u=m.map e)(h:Ag l m=some r)(B:rs=r.map e)
  (k:WO S K os ((d,.ow (.list n rs))::(s,.tv (.list n es))::O)):WO S K (⟨some d,.app n (.s s) y,none⟩::os) O:=by
 replace k:=k.out;refine⟨?_⟩;subst hf B;unfold Ag at h;split at h
 .rename_i C;cases h;simp only[wpOps,PR.wp,AE.wp,AF.ev,w,A,he,c8];rw[he]at k;refine⟨by simp,by simp,C,?_⟩;rw[List.map_append]at k;exact k
 .cases h
variable{f:FuncId}
theorem cv{args:List AF}(h:vals O args=some ts)(u:S f ts (.sh t))(k:WO S K os ((d,.tv t)::O)):WO S K (⟨some d,.call f args,none⟩::os) O:=by
 replace k:=k.out;refine⟨?_⟩;simp only[wpOps,PR.wp,AE.wp,h,AX];exact⟨_,⟨u,rfl⟩,fun _=>k⟩
theorem kD{args:List AF}(h:vals O args=some ts)(u:S f ts (.own t))(k:WO S K os ((d,.ow t)::O)):WO S K (⟨some d,.call f args,none⟩::os) O:=by
 replace k:=k.out;refine⟨?_⟩;simp only[wpOps,PR.wp,AE.wp,h,AX];exact⟨_,⟨u,rfl⟩,fun _=>k⟩
theorem kG{args:List AF}{ts es:Fq}(h:vals O args=some ts)(u:S f ts (.Aa0 n es))(k:WO S K os ((d,.ow (.list n es))::O)):WO S K (⟨some d,.call f args,none⟩::os) O:=by
 replace k:=k.out;refine⟨?_⟩;simp only[wpOps,PR.wp,AE.wp,h,AX];exact⟨_,⟨u,rfl⟩,fun _=>k⟩
theorem kE{args:List AF}{ts t:Fq}(h:vals O args=some ts)(u:S f ts (.tp t))(k:WO S K os ((d,.tp t)::O)):WO S K (⟨some d,.call f args,none⟩::os) O:=by
 replace k:=k.out;refine⟨?_⟩;simp only[wpOps,PR.wp,AE.wp,h,AX];exact⟨_,⟨u,rfl⟩,fun _=>k⟩
variable{caps:Fq}
theorem kF{x:AF}{args:List AF}(h:x.val O=some (.clo f caps))(u:vals O args=some ts)(w:S f (ts++caps) (.sh t))(k:WO S K os ((d,.tv t)::O)):WO S K (⟨some d,.AaM x args,none⟩::os) O:=by
 replace k:=k.out;refine⟨?_⟩;simp only[wpOps,PR.wp,AE.wp,h,u];exact⟨_,⟨w,rfl⟩,fun _=>k⟩
theorem fO{x:AF}{args:List AF}(h:x.val O=some (.clo f caps))(u:vals O args=some ts)(w:S f (ts++caps) (.own t))(k:WO S K os ((d,.ow t)::O)):WO S K (⟨some d,.AaM x args,none⟩::os) O:=by
 replace k:=k.out;refine⟨?_⟩;simp only[wpOps,PR.wp,AE.wp,h,u];exact⟨_,⟨w,rfl⟩,fun _=>k⟩
theorem fP{x:AF}{args:List AF}{ts t:Fq}(h:x.val O=some (.clo f caps))(u:vals O args=some ts)(w:S f (ts++caps) (.tp t))(k:WO S K os ((d,.tp t)::O)):WO S K (⟨some d,.AaM x args,none⟩::os) O:=by
 replace k:=k.out;refine⟨?_⟩;simp only[wpOps,PR.wp,AE.wp,h,u];exact⟨_,⟨w,rfl⟩,fun _=>k⟩
theorem rG{caps:List AF}(h:vals O caps=some ts)(k:WO S K os ((d,.tv (.clo f ts))::O)):WO S K (⟨some d,.clo f caps,none⟩::os) O:=by
 replace k:=k.out;refine⟨?_⟩;simp only[wpOps,PR.wp,AE.wp,h,AX];exact k
variable{i:Nat}
theorem Qk{x:AF}(h:x.ev O=.tp ts)(hi:ts[i]?=some t)(k:WO S K os ((d,.tv t)::O)):WO S K (⟨some d,.ext x i,none⟩::os) O:=by
 replace k:=k.out;refine⟨?_⟩;simp only[wpOps,PR.wp,AE.wp,h,hi,AX];exact k
theorem ri{x:AF}(h:x.ev O=.tp ts)(k:WO S K os ((d,.tp ts)::O)):WO S K (⟨some d,.mv x,none⟩::os) O:=by
 replace k:=k.out;refine⟨?_⟩;simp only[wpOps,PR.wp,AE.wp,h];exact k
theorem rK{ik ik':IntKind}{x:AF}{n:Int}(h:x.val O=some (.int ik' n))(k:WO S K os ((d,.tv (.int ik (ik.wrap n)))::O)):WO S K (⟨some d,.cvt ik x,none⟩::os) O:=by
 replace k:=k.out;refine⟨?_⟩;simp only[wpOps,PR.wp,AE.wp,h];exact k
theorem nd{x i:AF}{s:ByteArray}{ik:IntKind}{j b:Int}(h:x.val O=some (.str s))(hi:i.val O=some (.int ik j))(u:AaC s j=some b)(k:WO S K os ((d,.tv (.int .u8 b))::O)):WO S K (⟨some d,.AaC x i,none⟩::os) O:=by
 replace k:=k.out;refine⟨?_⟩;unfold AaC at u;split at u
 .rename_i w;rw[Option.map_eq_some_iff]at u;obtain⟨c,A,rfl⟩:=u;simp only[wpOps,PR.wp,AE.wp,h,hi];exact⟨w,c,A,k⟩
 .cases u
theorem cu{x:AF}{row:Fq}(h:x.val O=some t)(u:t.cells=row)(k:WO S K os ((d,.tv (.pt row))::O)):WO S K (⟨some d,.Abt x,none⟩::os) O:=by
 replace k:=k.out;refine⟨?_⟩;subst u;simp only[wpOps,PR.wp,AE.wp,h];exact k
theorem nR{x:AF}{row:Fq}{cs:List AO}(h:x.val O=some t)(u:O.hV d=true)(w:t.cells=row)(A:row.map (⟨false,·⟩)=cs)(k:WO S K os ((d,.bx cs)::O)):WO S K (⟨some d,.AbC x,none⟩::os) O:=by
 replace k:=k.out;refine⟨?_⟩;subst w A;simp only[wpOps,PR.wp,AE.wp,h];exact⟨u,k⟩
theorem nX{mx:Bool}{x y:AF}{ik:IntKind}{a b:Int}(h:x.val O=some (.int ik a))(u:y.val O=some (.int ik b))(k:WO S K os ((d,.tv (.int ik (if mx then max a b else min a b)))::O)):WO S K (⟨some d,.mm mx x y,none⟩::os) O:=by
 replace k:=k.out;refine⟨?_⟩;simp only[wpOps,PR.wp,AE.wp,h,u];exact⟨trivial,k⟩
theorem rX{x y:AF}{ik:IntKind}{a b:Int}(h:x.val O=some (.int ik a))(u:y.val O=some (.int ik b))(k:WO S K os ((d,.tv (.int ik (max a b)))::O)):WO S K (⟨some d,.mm true x y,none⟩::os) O:=nX h u k
theorem rZ{x y:AF}{ik:IntKind}{a b:Int}(h:x.val O=some (.int ik a))(u:y.val O=some (.int ik b))(k:WO S K os ((d,.tv (.int ik (min a b)))::O)):WO S K (⟨some d,.mm false x y,none⟩::os) O:=nX h u k
theorem rE{cs:List AO}(h:O.hV d=true)(k:WO S K os ((d,.bx cs)::O)):WO S K (⟨some d,.alc cs,none⟩::os) O:=by
 replace k:=k.out;refine⟨?_⟩;simp only[wpOps,PR.wp,AE.wp];exact⟨h,k⟩
variable{off:Nat}
theorem nj{x v:AF}{cs cs':List AO}(h:x.place O=some (s,off))(u:O.get s=.bx cs)(hv:v.ev O=.tv t)(w:t.cells.length=n)(A:Nat.ble (off+n) cs.length=true)(B:cs.take off++t.cells.map (⟨false,·⟩)++cs.drop (off+n)=cs')
  (k:WO S K os ((s,.bx cs')::O)):WO S K (⟨none,.st n x v,none⟩::os) O:=by
 replace k:=k.out;refine⟨?_⟩;subst B;simp only[wpOps,PR.wp,AE.wp,h,u,hv];exact⟨w,Nat.le_of_ble_eq_true A,k⟩
theorem iG{s off q:Nat}{x:AF}{cs cs':List AO}(h:x.place O=some (s,off))(u:O.get s=.bx cs)(hv:O.get q=.ow t)(w:q≠s)(A:Nat.blt off cs.length=true)(B:cs.set off ⟨true,t⟩=cs')
  (k:WO S K os ((s,.bx cs')::(q,.tv t)::O)):WO S K (⟨none,.st 1 x (.s q),none⟩::os) O:=by
 replace k:=k.out;refine⟨?_⟩;subst B;simp only[wpOps,PR.wp,AE.wp,h,u,AF.ev,hv];exact⟨w,trivial,Nat.le_of_ble_eq_true A,k⟩
variable{v:AF}
theorem iF{cs cs':List AO}(h:O.get s=.bx cs)(hv:v.ev O=.tv t)(u:t.cells.length=n)(w:Nat.ble (0+n) cs.length=true)(A:cs.take 0++t.cells.map (⟨false,·⟩)++cs.drop (0+n)=cs')
  (k:WO S K os ((s,.bx cs')::O)):WO S K (⟨none,.stb n s v,none⟩::os) O:=by
 replace k:=k.out;refine⟨?_⟩;subst A;simp only[wpOps,PR.wp,AE.wp,h,hv];exact⟨u,Nat.le_of_ble_eq_true w,k⟩
theorem nk{s q:Nat}{cs cs':List AO}(h:O.get s=.bx cs)(hv:O.get q=.ow t)(u:q≠s)(w:Nat.blt 0 cs.length=true)(A:cs.set 0 ⟨true,t⟩=cs')
  (k:WO S K os ((s,.bx cs')::(q,.tv t)::O)):WO S K (⟨none,.stb 1 s (.s q),none⟩::os) O:=by
 replace k:=k.out;refine⟨?_⟩;subst A;simp only[wpOps,PR.wp,AE.wp,h,AF.ev,hv];exact⟨u,trivial,Nat.le_of_ble_eq_true w,k⟩
theorem rM{cs:List AO}{row:Fq}(h:O.get s=.bx cs)(u:cs.map (·.t)=row)(k:WO S K os ((s,.tv (.pt row))::O)):WO S K (⟨none,.frz s,none⟩::os) O:=by
 replace k:=k.out;refine⟨?_⟩;subst u;simp only[wpOps,PR.wp,AE.wp,h];exact k
theorem nO{u:List GC}{cs:List AO}{env':AB}(w:(u.filterMap GC.src).Nodup)(hd:d∉u.filterMap GC.slot)(h:HT O u=some cs)(he:Nu O (u.filterMap GC.slot) O=env')(k:WO S K os ((d,.oag cs)::env')):WO S K (⟨some d,.Aay u,none⟩::os) O:=by
 replace k:=k.out;refine⟨?_⟩;subst he;simp only[wpOps,PR.wp,AE.wp,h];exact⟨⟨w,hd⟩,k⟩
theorem rx{n s q:Nat}{cs ds cs':List AO}(u:O.get s=.bx cs)(w:O.get q=.oag ds)(h:q≠s)(A:ds.length=n)(B:Nat.ble (0+n) cs.length=true)(C:((ds.all fun c=>!c.t.AaW)||O.noX s none)=true)(D:cs.take 0++ds++cs.drop (0+n)=cs')
  (k:WO S K os ((s,.bx cs')::(q,.undef)::O)):WO S K (⟨none,.stx n s q,none⟩::os) O:=by
 replace k:=k.out;refine⟨?_⟩;subst D;simp only[wpOps,PR.wp,AE.wp,u,w];exact⟨h,⟨A,C⟩,Nat.le_of_ble_eq_true B,k⟩
theorem j9{args:List AF}{cs:List AO}(h:vals O args=some ts)(u:S f ts (.oag cs))(k:WO S K os ((d,.oag cs)::O)):WO S K (⟨some d,.Aa2 f args,none⟩::os) O:=by
 replace k:=k.out;refine⟨?_⟩;simp only[wpOps,PR.wp,AE.wp,h,AX];exact⟨cs,u,fun _=>k⟩
theorem kA{args:List AF}{cs:List AO}(h:vals O args=some ts)(u:S f ts (.oag cs))(w:TV.agg (cs.map fun c=>c.rel.t)=t)(k:WO S K os ((d,.tv t)::O)):WO S K (⟨some d,.call f args,none⟩::os) O:=by
 replace k:=k.out;refine⟨?_⟩;subst w;simp only[wpOps,PR.wp,AE.wp,h,AX];exact⟨_,⟨u,rfl⟩,fun _=>k⟩
theorem iB{x:AF}{es:Fq}(h:x.val O=some (.list n es))(he:es=l.map e)(k:∀b:Bool,(b=true->l=[])->WO S K os ((d,.tv (.bool b))::O)):WO S K (⟨some d,.isn x,none⟩::os) O:=by
 replace k:=fun b u=>(k b u).out;refine⟨?_⟩;simp only[wpOps,PR.wp,AE.wp,h];intro b u;refine k b fun w=>?_;have:=u w;rw[he]at this;simpa using this
theorem io(h:Ag [] l=some r)(b:Bool)(k:b=true->l=[]):(if b=true then some []else(Ag [] l).bind fun x=>some x)=some r:=by grind[Ag]
variable{j:Int}
theorem F9{a:α}(h:idx l j=some a):0<=j/\j<l.length/\l[j.toNat]?=some a:=by
 unfold idx at h
 grind
theorem Yw(u:∀a,(e a).cells.length=n):∀(l:List α)(j k:Nat)(a:α),l[j]?=some a->k<n->((l.map e).flatMap TV.cells)[j*n+k]?=(e a).cells[k]?
 |[],j,k,a,h,_=>by simp at h|b::l,0,k,a,h,w=>by
  grind
 |b::l,j+1,k,a,h,w=>by
  rw [List.getElem?_cons_succ]at h;rw[List.map_cons,List.flatMap_cons,List.getElem?_append_right (by rw[u,Nat.add_mul];omega),u,show(j+1)*n+k-n=j*n+k from by rw[Nat.add_mul];omega];exact Yw u l j k a h w
theorem W6(u:∀a,(e a).cells.length=n)(t:TV):∀(l:List α)(j k:Nat)(a b:α),l[j]?=some a->k<n->(e b).cells=(e a).cells.set k t->((l.set j b).map e).flatMap TV.cells=((l.map e).flatMap TV.cells).set (j*n+k) t
 |[],j,k,a,b,h,_,_=>by simp at h|c::l,0,k,a,b,h,w,A=>by
  grind
 |c::l,j+1,k,a,b,h,w,A=>by
  rw [List.getElem?_cons_succ]at h;rw[List.set_cons_succ,List.map_cons,List.map_cons,List.flatMap_cons,List.flatMap_cons,List.set_append_right _ _ (by rw[u,Nat.add_mul];omega),u,show(j+1)*n+k-n=j*n+k from by rw[Nat.add_mul];omega,W6 u t l j k a b h w A]
theorem eG(h:∀a,(e a).cells.length=n)(l:List α):((l.map e).flatMap TV.cells).length=l.length*n:=by
 induction l with
 |nil=>simp|cons b l k=>rw[List.map_cons,List.flatMap_cons,bk,k,h,c7,Nat.add_mul];omega
theorem Ro(h:∀a,(e a).flat=true):∀(l:List α),TV.Aah (l.map e)=true
 |[]=>rfl|a::l=>by simp only[List.map_cons,TV.Aah,h a,Ro h l,Bool.and_self]
theorem kI{x:AF}{k n:Nat}{cs:Fq}(h:x.val O=some (.agg cs))(w:Nat.ble (k+n) cs.length=true)(A:TV.agg ((cs.drop k).take n)=t)(u:WO S K os ((d,.tv t)::O)):WO S K (⟨some d,.AbF x k n true,none⟩::os) O:=by
 replace u:=u.out;refine⟨?_⟩;subst A;simp only[wpOps,PR.wp,AE.wp,h,if_true];exact⟨Nat.le_of_ble_eq_true w,u⟩
theorem nU{x:AF}{k n:Nat}{cs r:Fq}(h:x.val O=some (.agg cs))(w:Nat.ble (k+n) cs.length=true)(A:cs.drop k=t::r)(u:WO S K os ((d,.tv t)::O)):WO S K (⟨some d,.AbF x k n false,none⟩::os) O:=by
 replace u:=u.out;refine⟨?_⟩;simp only[wpOps,PR.wp,AE.wp,h,Bool.false_eq_true,if_false,A,FX,AX];exact⟨Nat.le_of_ble_eq_true w,u⟩
theorem r6{es:Fq}(h:O.get s=.xo n es)(k:WO S K os ((d,.la s none)::O)):WO S K (⟨some d,.xal s,none⟩::os) O:=by
 replace k:=k.out;refine⟨?_⟩;simp only[wpOps,PR.wp,AE.wp,h];exact k
theorem nm{x:AF}{q:Nat×Option Nat}{es:Fq}(h:x.Aaa O=some (q,n,es))(he:es=l.map e)(k:WO S K os ((d,.tv (.int .i64 l.length))::O)):WO S K (⟨some d,.AbE x,none⟩::os) O:=by
 replace k:=k.out;refine⟨?_⟩;subst he;simp only[wpOps,PR.wp,AE.wp,h,AX,c8];exact k
variable{qi:Option Nat}
theorem r8{x i:AF}{q n:Nat}{es:Fq}{ik:IntKind}{a:α}(h:x.Aaa O=some ((q,qi),n,es))(hi:i.val O=some (.int ik j))(he:es=l.map e)(u:idx l j=some a)(w:(x.ev O).ref=some q)
  (k:WO S K os ((d,.lp q qi (j.toNat*n))::O)):WO S K (⟨some d,.xia x i n,none⟩::os) O:=by
 replace k:=k.out;refine⟨?_⟩;subst he;obtain⟨A,B,_⟩:=F9 u;simp only[wpOps,PR.wp,AE.wp,h,hi,AX,c8];exact⟨⟨w,trivial⟩,A,B,k⟩
variable{p:Nat×Fq}
theorem r7{x:AF}{j q c:Nat}(h:x.ev O=.lp q qi c)(u:O.x5 q qi=some p)(k:WO S K os ((d,.lp q qi (c+j))::O)):WO S K (⟨some d,.xfa x j,none⟩::os) O:=by
 replace k:=k.out;refine⟨?_⟩;simp only[wpOps,PR.wp,AE.wp,h,u];exact k
theorem iH{x:AF}{q c n i:Nat}{es row:Fq}{a:α}(h:x.ev O=.lp q qi c)(u:O.x5 q qi=some (n,es))(he:es=l.map e)(w:∀a,(e a).cells.length=n)(A:idx l j=some a)(B:c=j.toNat*n+i)(hi:Nat.blt i n=true)(C:(e a).cells=row)(D:row[i]?=some t)
  (k:WO S K os ((d,.tv t)::O)):WO S K (⟨some d,.xld x,none⟩::os) O:=by
 replace k:=k.out;refine⟨?_⟩;subst he B C;have hf:=Yw w l j.toNat i a (F9 A).2.2 (Nat.le_of_ble_eq_true hi);simp only[wpOps,PR.wp,AE.wp,h,u,hf,D,AX];exact k
theorem iI{x v:AF}{q c n i:Nat}{env':AB}{es rs:Fq}{a b:α}(h:x.ev O=.lp q qi c)(G:O.x5 q qi=some (n,es))(hv:v.ev O=.tv t)(he:es=l.map e)(A:∀a,(e a).cells.length=n)(H:idx l j=some a)(I:c=j.toNat*n+i)(hi:Nat.blt i n=true)(E:t.cells=[t])
  (J:(e b).cells=(e a).cells.set i t)(L:rs=(BI l j b).map e)(B:O.Aaj q qi n rs=env')(k:WO S K os env'):WO S K (⟨none,.xst x v 1,none⟩::os) O:=by
 replace k:=k.out;refine⟨?_⟩;subst he I L B;obtain⟨P,Q,F⟩:=F9 H;have C:i<n:=Nat.le_of_ble_eq_true hi;have w:j.toNat<l.length:=(List.getElem?_eq_some_iff.1 F).1;simp only[wpOps,PR.wp,AE.wp,h,G,hv];have D:j.toNat*n+i<l.length*n:=calc j.toNat*n+i<j.toNat*n+n:=by omega
   _=(j.toNat+1)*n:=by rw[Nat.add_mul];omega
   _<=l.length*n:=Nat.mul_le_mul_right _ w
 refine ⟨⟨by rw[E];rfl,by omega⟩,?_,_,(W6 A t l j.toNat i a b F C J).trans (by rw[E,List.set_eq_take_append_cons_drop,a6 (by rw[eG A];exact D)];simp),by simp,fun u M=>?_,k⟩
 .rw[c8]
  calc j.toNat*n+i<j.toNat*n+n:=by omega
   _=(j.toNat+1)*n:=by rw[Nat.add_mul];omega
   _<=l.length*n:=Nat.mul_le_mul_right _ w
 .obtain⟨N,_,rfl⟩:=List.mem_map.1 M;exact A N
theorem W5(k:∀a,(e a).cells.length=n):∀(l:List α)(j:Nat)(b:α),j<l.length->((l.set j b).map e).flatMap TV.cells=((l.map e).flatMap TV.cells).take (j*n)++(e b).cells++((l.map e).flatMap TV.cells).drop (j*n+n)
 |[],j,b,h=>by simp at h|c::l,0,b,h=>by
  grind
 |c::l,j+1,b,h=>by
  rw [List.set_cons_succ,List.map_cons,List.map_cons,List.flatMap_cons,List.flatMap_cons,W5 k l j b (by simpa using h),show(j+1)*n=(e c).cells.length+j*n from by rw[k,Nat.add_mul];omega,Nat.add_assoc,List.take_length_add_append,List.drop_length_add_append,ca,ca,ca]
theorem iJ{x v:AF}{q n:Nat}{env':AB}{es:Fq}{a b:α}(h:x.ev O=.lp q qi (j.toNat*n))(E:O.x5 q qi=some (n,es))(hv:v.ev O=.tv (e b))(he:es=l.map e)(A:∀a,(e a).cells.length=n)(F:idx l j=some a)(G:Nat.blt 0 n=true)
  (B:O.Aaj q qi n ((BI l j b).map e)=env')(k:WO S K os env'):WO S K (⟨none,.xst x v n,none⟩::os) O:=by
 replace k:=k.out;refine⟨?_⟩;subst he B;obtain⟨L,M,I⟩:=F9 F;have C:0<n:=Nat.le_of_ble_eq_true G;have w:j.toNat<l.length:=(List.getElem?_eq_some_iff.1 I).1;have D:j.toNat*n+n<=l.length*n:=calc j.toNat*n+n=(j.toNat+1)*n:=by rw[Nat.add_mul];omega
   _<=l.length*n:=Nat.mul_le_mul_right _ w
 simp only[wpOps,PR.wp,AE.wp,h,E,hv];refine⟨⟨A b,C⟩,by rw[c8];exact D,_,W5 A l j.toNat b w,by simp,fun u H=>?_,k⟩;obtain⟨J,_,rfl⟩:=List.mem_map.1 H;exact A J
theorem rq{es:Fq}(h:O.get s=.xo n es)(hd:d≠s)(k:WO S K os ((d,.ow (.list n es))::(s,.undef)::O)):WO S K (⟨some d,.rel s,none⟩::os) O:=by
 replace k:=k.out;refine⟨?_⟩;simp only[wpOps,PR.wp,AE.wp,h];exact⟨hd,k⟩
theorem nZ(h:O.hV d=true)(k:WO S K os ((d,.xo n [])::O)):WO S K (⟨some d,.Abl n,none⟩::os) O:=by
 replace k:=k.out;refine⟨?_⟩;simp only[wpOps,PR.wp,AE.wp];exact⟨h,k⟩
theorem nW(h:O.hV d=true)(k:WO S K os ((d,.xo n [])::O)):WO S K (⟨some d,.Abj n,none⟩::os) O:=by
 replace k:=k.out;refine⟨?_⟩;simp only[wpOps,PR.wp,AE.wp];exact⟨h,k⟩
theorem r0{es:Fq}(h:O.get s=.xo n es)(u:O.hV d=true)(hd:d≠s)(k:WO S K os ((d,.xo n es)::(s,.undef)::O)):WO S K (⟨some d,.tkx s,none⟩::os) O:=by
 replace k:=k.out;refine⟨?_⟩;simp only[wpOps,PR.wp,AE.wp,h];exact⟨u,hd,k⟩
theorem nK{y:AF}{es u rs:Fq}(w:O.get s=.xo n es)(A:y.val O=some (.list n u))(he:es=l.map e)(hf:u=m.map e)(h:Ag l m=some r)(B:rs=r.map e)(C:O.hV d=true)(hd:d≠s)
  (k:WO S K os ((d,.xo n rs)::(s,.undef)::O)):WO S K (⟨some d,.Abe n s y,none⟩::os) O:=by
 replace k:=k.out;refine⟨?_⟩;subst he hf B;unfold Ag at h;split at h
 .rename_i D;cases h;simp only[wpOps,PR.wp,AE.wp,w,A,c8];rw[List.map_append]at k;exact⟨trivial,trivial,D,C,hd,k⟩
 .cases h
theorem kH{args:List AF}{ts es:Fq}(h:O.hV d=true)(u:vals O args=some ts)(w:S f ts (.Aa0 n es))(k:WO S K os ((d,.xo n es)::O)):WO S K (⟨some d,.AaL f args,none⟩::os) O:=by
 replace k:=k.out;refine⟨?_⟩;simp only[wpOps,PR.wp,AE.wp,u,AX];exact⟨h,n,es,.inl w,fun _=>k⟩
theorem fQ{args:List AF}{ts es:Fq}(h:O.hV d=true)(u:vals O args=some ts)(w:S f ts (.own (.list n es)))(he:es=l.map e)(hf:∀a,(e a).flat=true)(k:WO S K os ((d,.xo n es)::O)):WO S K (⟨some d,.AaL f args,none⟩::os) O:=by
 replace k:=k.out;refine⟨?_⟩;simp only[wpOps,PR.wp,AE.wp,u,AX];exact⟨h,n,es,.inr ⟨w,by rw[he];exact Ro hf l⟩,fun _=>k⟩
variable{rs:Fq}{z:α}
theorem rb{x:AF}{ik:IntKind}(w:O.hV d=true)(A:x.val O=some (.int ik j))(B:(match zero with|[t]=>t|ts=>.agg ts)=e z)(h:IZ j z=some r)(C:rs=r.map e)
  (k:WO S K os ((d,.xo n rs)::O)):WO S K (⟨some d,.mkx n zero x,none⟩::os) O:=by
 replace k:=k.out;refine⟨?_⟩;subst C;unfold IZ at h;split at h
 .rename_i u;cases h;rw[List.map_replicate,<-B]at k;simp only[wpOps,PR.wp,AE.wp,A];exact⟨w,u.1,u.2,k⟩
 .cases h
theorem kC{x:AF}{q:Nat}{env':AB}{es rs:Fq}{e:Int->TV}{l r:Fp}(h:x.Aaa O=some ((q,qi),1,es))(he:es=l.map e)(u:e=TV.int .i64)(A:S f [.list 1 (l.map (TV.int .i64))] (.turn r))(B:rs=r.map e)(w:O.Aaj q qi 1 rs=env')(k:WO S K os ((d,.tp [])::env')):WO S K (⟨some d,.AaU f x,none⟩::os) O:=by
 replace k:=k.out;refine⟨?_⟩;subst he B u w;simp only[wpOps,PR.wp,AE.wp,h,AX];exact⟨trivial,l,r,rfl,A,fun _=>k⟩
theorem j7{x:AF}{q:Nat}{es rs:Fq}{e:Int->TV}{l r:Fp}(h:x.Aaa O=some ((q,none),1,es))(he:es=l.map e)(u:e=TV.int .i64)(w:q≠d)(A:O.hV d=true)(B:S f [.list 1 (l.map (TV.int .i64))] (.cut r))(C:rs=r.map e)(k:WO S K os ((d,.xo 1 rs)::(q,.undef)::O)):WO S K (⟨some d,.AaV f x,none⟩::os) O:=by
 replace k:=k.out;refine⟨?_⟩;subst he C u;simp only[wpOps,PR.wp,AE.wp,h,AX];exact⟨⟨w,trivial⟩,trivial,A,l,r,rfl,B,fun _=>k⟩
theorem rQ{x:AF}(h:x.ev O=.bp s off)(u:O.x5 s (some off)=some p)(k:WO S K os ((d,.la s (some off))::O)):WO S K (⟨some d,.lac x,none⟩::os) O:=by
 replace k:=k.out;refine⟨?_⟩;simp only[wpOps,PR.wp,AE.wp,h,u];exact k
theorem rI{x:AF}{cs cs':List AO}{es:Fq}(u:x.place O=some (s,off))(w:O.get s=.bx cs)(A:cs[off]?=some ⟨true,.xl n es⟩)(B:O.hV d=true)(h:cs.set off ⟨false,.undef⟩=cs')(k:WO S K os ((d,.xo n es)::(s,.bx cs')::O)):WO S K (⟨some d,.ctk x,none⟩::os) O:=by
 replace k:=k.out;refine⟨?_⟩;subst h;simp only[wpOps,PR.wp,AE.wp,u,w,A];exact⟨B,k⟩
theorem rH{x:AF}{q s off n:Nat}{cs cs':List AO}{es:Fq}(u:x.place O=some (s,off))(w:O.get q=.xo n es)(A:O.get s=.bx cs)(B:O.noX s (some off)=true)(C:Nat.blt off cs.length=true)(h:cs.set off ⟨true,.xl n es⟩=cs')(k:WO S K os ((s,.bx cs')::(q,.undef)::O)):WO S K (⟨none,.cpt x q,none⟩::os) O:=by
 replace k:=k.out;refine⟨?_⟩;subst h;simp only[wpOps,PR.wp,AE.wp,u,w,A];exact⟨B,Nat.le_of_ble_eq_true C,k⟩
theorem rJ{hi:AF}{es rs:Fq}{ik:IntKind}(w:O.get s=.xo n es)(A:hi.val O=some (.int ik j))(he:es=l.map e)(h:slc l 0 j=some r)(B:rs=r.map e)(C:O.hV d=true)(hd:d≠s)(k:WO S K os ((d,.xo n rs)::(s,.undef)::O)):WO S K (⟨some d,.cut n s hi,none⟩::os) O:=by
 replace k:=k.out;refine⟨?_⟩;subst he B;obtain⟨⟨D,E⟩,u⟩:=X0 h;subst u;simp only[wpOps,PR.wp,AE.wp,w,A];refine⟨⟨trivial,C,hd⟩,D.2,by rw[c8];exact E,?_⟩;have u:((l.take j.toNat).drop (0:Int).toNat).map e=(l.map e).take j.toNat:=by simp
 rw [u]at k;exact k
theorem kB{args:List AF}(h:Aar O args=some ts)(u:S f ts (.sh t))(w:t.flat=true)(k:WO S K os ((d,.tv t)::O)):WO S K (⟨some d,.AaI f args,none⟩::os) O:=by
 replace k:=k.out;refine⟨?_⟩;simp only[wpOps,PR.wp,AE.wp,h,AX];exact⟨_,⟨u,w⟩,fun _=>k⟩
theorem fL{args:List AF}{ts t:Fq}(h:Aar O args=some ts)(u:S f ts (.tp t))(w:TV.Aah t=true)(k:WO S K os ((d,.tp t)::O)):WO S K (⟨some d,.AaI f args,none⟩::os) O:=by
 replace k:=k.out;refine⟨?_⟩;simp only[wpOps,PR.wp,AE.wp,h,AX];exact⟨_,⟨u,w⟩,fun _=>k⟩
theorem fK{args:List AF}{ts es:Fq}(h:Aar O args=some ts)(u:S f ts (.own t))(w:t=.list n es)(he:es=l.map e)(hf:∀a,(e a).flat=true)(k:WO S K os ((d,.ow t)::O)):WO S K (⟨some d,.AaI f args,none⟩::os) O:=by
 replace k:=k.out;refine⟨?_⟩;subst w he;simp only[wpOps,PR.wp,AE.wp,h,AX];exact⟨_,⟨u,Ro hf l⟩,fun _=>k⟩
def S7{α:Type}(l:List α)(j:Int)(z:α):Option (List α):=if(0<=j/\j<=4096)/\l.length+j.toNat<=Ad then some (l++List.replicate j.toNat z)else none
theorem nL{u:TV}{x:AF}{es rs:Fq}{ik:IntKind}(B:O.get s=.xo n es)(C:x.val O=some (.int ik j))(he:es=l.map e)(D:u=e z)(h:S7 l j z=some r)(E:rs=r.map e)(F:O.hV d=true)(hd:d≠s)(w:n=1)(G:u.cells=[u])(k:WO S K os ((d,.xo n rs)::(s,.undef)::O)):WO S K (⟨some d,.Abk n s u x,none⟩::os) O:=by
 replace k:=k.out;refine⟨?_⟩;subst he E;unfold S7 at h;split at h
 .rename_i A;cases h;simp only[wpOps,PR.wp,AE.wp,B,C];refine⟨⟨⟨trivial,w⟩,G⟩,A.1,⟨by rw[c8];exact A.2,F,hd⟩,?_⟩;rw[List.map_append,List.map_replicate,<-D]at k;exact k
 .cases h
theorem j8{args:List AF}{ts t:Fq}(h:vals O args=some ts)(u:S f ts (.ext t))(k:WO S K os ((d,.tp t)::O)):WO S K (⟨some d,.Aa3 f args,none⟩::os) O:=by
 replace k:=k.out;refine⟨?_⟩;simp only[wpOps,PR.wp,AE.wp,h,AX];exact⟨_,u,k⟩
theorem nS{u:List (Option AO)}{x:AF}{cs:List AO}(h:x.val O=some t)(w:DF u t.cells=some cs)(A:O.hV d=true)(k:WO S K os ((d,.bx cs)::O)):WO S K (⟨some d,.Abu u x,none⟩::os) O:=by
 replace k:=k.out;refine⟨?_⟩;simp only[wpOps,PR.wp,AE.wp,h,w,AX];exact⟨A,k⟩
theorem j6{args:List AF}{ts h:Fq}{cs cs':List AO}{e:EV}(u:(args[i]?).bind (·.place O)=some (s,0))(w:O.get s=.bx cs)(A:O.noX s none=true)(hd:d≠s)(B:Gw O i args=some ts)(C:S f ts (.bo cs cs' i h))(he:EV.ofs h=e)(k:WO S K os ((d,e)::(s,.bx cs')::O)):WO S K (⟨some d,.AaF f args i,none⟩::os) O:=by
 replace k:=k.out;refine⟨?_⟩;subst he;simp only[wpOps,PR.wp,AE.wp,u,w,B,AX];exact⟨⟨A,hd⟩,cs',h,C,fun _=>k⟩
def XM{α:Type}(l:List α):Option Unit:=if l.isEmpty then none else some ()
theorem bj{u:Unit}{b:Bool}(h:XM l=some u)(k:b=true->l=[]):b=false:=by
 cases b with
 |false=>rfl|true=>rw[k rfl]at h;cases h
variable{g:Nat}
theorem sg{h:Option Nat}{op:AE}{b q:Bool}(u:O.get g=.tv (.bool q))(w:q=b)(k:WO S K (⟨h,op,none⟩::os) O):WO S K (⟨h,op,some (g,b)⟩::os) O:=by
 replace k:=k.out;refine⟨?_⟩
 grind [wpOps,PR.wp]
theorem p8{d:Nat}{op:AE}{b q:Bool}(u:O.get g=.tv (.bool q))(w:q=!b)(k:WO S K os ((d,.sk)::O)):WO S K (⟨some d,op,some (g,b)⟩::os) O:=by
 replace k:=k.out;refine⟨?_⟩;subst w;simp only[wpOps,PR.wp,u];exact⟨fun h=>by cases b<;>simp at h,fun _=>k⟩
theorem si{d:Nat}{op:AE}{b:Bool}(h:O.get g=.sk)(k:WO S K os ((d,.sk)::O)):WO S K (⟨some d,op,some (g,b)⟩::os) O:=by
 replace k:=k.out;refine⟨?_⟩;simp only[wpOps,PR.wp,h];exact k
theorem YE(xs h:List PR)(O:AB):wpOps S K (xs++h) O=wpOps S (wpOps S K h) xs O:=by
 induction xs generalizing O with
 |nil=>rfl|cons x xs k=>
  simp only[List.cons_append,wpOps];congr 1;funext e;exact k e
theorem p7{ops:List PR}(n:Nat)(M:AB->AB->Prop)(h:WO S (M O) (ops.take n) O)(k:∀e,M O e->WO S K (ops.drop n) e):WO S K ops O:=by
 refine ⟨?_⟩;rw[<-List.take_append_drop n ops,YE];exact OO S (fun e he=>(k e he).out) _ O h.out
variable{q:Q}{a b:PC}
theorem pi(h:WP S a ⟨fun e=>(∀s,(e.get s).WF)->WP S b q e,q.exit,q.ret⟩ O):WP S (.seq a b) q O:=⟨PC.qo S a _ O h.out _ (fun _ he k=>(he k).out) (fun _ _ h=>h) (fun _ h=>h)⟩
theorem lh{live:Ne}{env':AB}(k:O.hT live=env')(h:q.normal env'):WP S (.skip live) q O:=by subst k;exact⟨h⟩
theorem lg{live:Ne}{env':AB}(k:O.hT live=env')(h:q.exit i env'):WP S (.exit i live) q O:=by subst k;exact⟨h⟩
theorem Ts{x:AF}{c:Bool}(k:x.val O=some (.bool c))(u:c=true->WP S a q O)(hf:c=false->WP S b q O):WP S (.cond x a b) q O:=by
 refine ⟨?_⟩;simp only[PC.wp,k];exact⟨fun h=>(u h).out,fun h=>(hf h).out⟩
theorem Ph{x:AF}{c:Bool}(k:x.val O=some (.bool c))(h:c=true)(u:WP S a q O):WP S (.cond x a b) q O:=by grind[Ts]
theorem Pg{x:AF}{c:Bool}(k:x.val O=some (.bool c))(h:c=false)(u:WP S b q O):WP S (.cond x a b) q O:=by grind[Ts]
theorem Ul(h:WP S a ⟨q.normal,fun j e=>if j=i then q.normal e else q.exit j e,q.ret⟩ O):WP S (.block i a) q O:=⟨h.out⟩
theorem Wt{x y:Prop}(h:x):if i=i then x else y:=by rw[a6 rfl];exact h
theorem iu{i j:Nat}{x y:Prop}(k:i≠j)(h:y):if i=j then x else y:=by rw[ae k];exact h
theorem ph(M:AB->Prop)(k:WP S a ⟨M,q.exit,q.ret⟩ O)(u:∀e,M e->q.normal e):WP S a q O:=⟨PC.qo S a _ O k.out q u (fun _ _ h=>h) (fun _ h=>h)⟩
section loops
variable{σ ρ:Type}{live:Ne}{c:PC}{i0:Nat}
variable{X:AB->Prop}
theorem gS{f:Int->σ->Option (Bk σ ρ)}{b:Int}(I:Int->σ->AB)(J:σ->AB)(R:ρ->AB->Prop)
  (u:∀i s r,i<b->f i s=some r->(∀k,((I i s).get k).WF)->c.wp S ⟨fun e=>∃s',r=.next s'/\e.hT live=I (i+1) s',fun j e=>j=i0/\∃s',r=.brk s'/\e=J s',fun e=>∃v,r=.ret v/\R v e⟩ (I i s))
  (w:∀i s,¬i<b->c.wp S ⟨fun _=>False,fun j e=>j=i0/\e=J s,fun _=>False⟩ (I i s))
  (C:∀e,((∀s,(e.get s).WF)->c.wp S {q with normal:=fun E=>X (E.hT live)} e)->X e)(H:∀s,q.exit i0 (J s)\/True):
  ∀(n:Nat)(i:Int)(s:σ),n=(b-i).toNat->∀o,Aae f n i s=some o->(∀s',o=.inl s'->q.exit i0 (J s'))->(∀v e,o=.inr v->R v e->q.ret e)->X (I i s):=by
 intro n
 induction n with
 |zero=>
  intro i s F o ho A B;refine C _ fun D=>?_;refine PC.qo S c _ _ (w i s (by omega)) _ (fun _ h=>h.elim) (fun j e he=>?_) (fun _ h=>h.elim);obtain⟨rfl,rfl⟩:=he;simp only[Aae,o4]at ho;exact A s ho.symm
 |succ n G=>
  intro i s F o ho A B;simp only[Aae]at ho;refine C _ fun D=>?_;cases hf:f i s with
  |none=>rw[hf]at ho;cases ho
  |some r=>
   rw [hf]at ho;refine PC.qo S c _ _ (u i s r (by omega) hf D) _ (fun e he=>?_) (fun j e he=>?_) (fun e he=>?_)
   .obtain⟨s',rfl,he⟩:=he;show X (e.hT live);rw[he];exact G (i+1) s' (by omega) o ho A B
   .obtain⟨rfl,s',rfl,rfl⟩:=he;simp only[o4]at ho;exact A s' ho.symm
   .obtain⟨v,rfl,he⟩:=he;simp only[o4]at ho;exact B v e ho.symm he
variable{s0:σ}{o:σ ⊕ ρ}
theorem Zd{f:Int->σ->Option (Bk σ ρ)}{lo b:Int}(ho:j4 f lo b s0=some o)(I:Int->σ->AB)(J:σ->AB)(R:ρ->AB->Prop)(A:O.hT live=I lo s0)
  (u:∀i s r,i<b->f i s=some r->(∀k,((I i s).get k).WF)->WP S c ⟨fun e=>∃s',r=.next s'/\e.hT live=I (i+1) s',fun j e=>j=i0/\∃s',r=.brk s'/\e=J s',fun e=>∃v,r=.ret v/\R v e⟩ (I i s))
  (w:∀i s,¬i<b->WP S c ⟨fun _=>False,fun j e=>j=i0/\e=J s,fun _=>False⟩ (I i s))
  (B:∀s',o=.inl s'->q.normal (J s'))(C:∀v e,o=.inr v->R v e->q.ret e):WP S (.block i0 (.loop live c)) q O:=by
 refine Ul ⟨?_⟩;intro X G;rw[A];refine gS (q:=⟨q.normal,fun j e=>if j=i0 then q.normal e else q.exit j e,q.ret⟩) I J R (fun i s r D E F=>(u i s r D E F).out) (fun i s h=>(w i s h).out) G (fun _=>.inr trivial) _ lo s0 rfl o ho ?_ C;intro s' H;exact Wt (B s' H)
theorem Yx{f:Int->σ->Option σ}:∀(n:Nat)(i:Int)(s o:σ),Aat f n i s=some o->Aae (fun i s=>(f i s).map (Bk.next (ρ:=Empty))) n i s=some (.inl o)
 |0,_,_,_,h=>by simp only[Aat,o4]at h;subst h;rfl|n+1,i,s,o,h=>by
  simp only[Aat]at h;simp only[Aae];cases hf:f i s with
  |none=>rw[hf]at h;cases h
  |some s'=>rw[hf]at h;simp only[Option.map];exact Yx n (i+1) s' o h
theorem kW{f:Int->σ->Option σ}{lo b:Int}{s0 o:σ}(ho:sx f lo b s0=some o)(I:Int->σ->AB)(J:σ->AB)(A:O.hT live=I lo s0)
  (u:∀i s r,i<b->f i s=some r->(∀k,((I i s).get k).WF)->WP S c ⟨fun e=>e.hT live=I (i+1) r,fun _ _=>False,fun _=>False⟩ (I i s))
  (w:∀i s,¬i<b->WP S c ⟨fun _=>False,fun j e=>j=i0/\e=J s,fun _=>False⟩ (I i s))
  (B:q.normal (J o)):WP S (.block i0 (.loop live c)) q O:=by
 refine Zd (f:=fun i s=>(f i s).map (Bk.next (ρ:=Empty))) (o:=.inl o) (Yx _ _ _ _ ho) I J (fun _ _=>False) A ?_ w ?_ ?_
 .intro i s r hi hf C;simp only[Option.map_eq_some_iff]at hf;obtain⟨s',hf,rfl⟩:=hf;exact⟨PC.qo S c _ _ (u i s s' hi hf C).out _ (fun e he=>⟨s',rfl,he⟩) (fun _ _ h=>h.elim) (fun _ h=>h.elim)⟩
 .intro s' h;cases h;exact B
 .intro v;cases v
theorem kY{f:σ->Option (Bk σ ρ)}(I:σ->AB)(J:σ->AB)(R:ρ->AB->Prop)
  (h:∀s r,f s=some r->(∀k,((I s).get k).WF)->c.wp S ⟨fun e=>∃s',r=.next s'/\e.hT live=I s',fun j e=>j=i0/\∃s',r=.brk s'/\e=J s',fun e=>∃v,r=.ret v/\R v e⟩ (I s))
  (A:∀e,((∀s,(e.get s).WF)->c.wp S {q with normal:=fun B=>X (B.hT live)} e)->X e):
  ∀(n:Nat)(s:σ)(o:σ ⊕ ρ),Pf f n s=some o->(∀s',o=.inl s'->q.exit i0 (J s'))->(∀v e,o=.inr v->R v e->q.ret e)->X (I s):=by
 intro n
 induction n with
 |zero=>intro s o ho;cases ho
 |succ n D=>
  intro s o ho u w;simp only[Pf]at ho;refine A _ fun C=>?_;cases hf:f s with
  |none=>rw[hf]at ho;cases ho
  |some r=>
   rw [hf]at ho;refine PC.qo S c _ _ (h s r hf C) _ (fun e he=>?_) (fun j e he=>?_) (fun e he=>?_)
   .obtain⟨s',rfl,he⟩:=he;show X (e.hT live);rw[he];exact D s' o ho u w
   .obtain⟨rfl,s',rfl,rfl⟩:=he;simp only[o4]at ho;exact u s' ho.symm
   .obtain⟨v,rfl,he⟩:=he;simp only[o4]at ho;exact w v e ho.symm he
theorem oJ{f:σ->Option (Bk σ ρ)}(ho:EQ f s0=some o)(I:σ->AB)(J:σ->AB)(R:ρ->AB->Prop)(u:O.hT live=I s0)
  (h:∀s r,f s=some r->(∀k,((I s).get k).WF)->WP S c ⟨fun e=>∃s',r=.next s'/\e.hT live=I s',fun j e=>j=i0/\∃s',r=.brk s'/\e=J s',fun e=>∃v,r=.ret v/\R v e⟩ (I s))
  (w:∀s',o=.inl s'->q.normal (J s'))(A:∀v e,o=.inr v->R v e->q.ret e):WP S (.block i0 (.loop live c)) q O:=by
 obtain ⟨N,F⟩:=Ck ho;refine Ul ⟨?_⟩;intro X D;rw[u];refine kY (q:=⟨q.normal,fun j e=>if j=i0 then q.normal e else q.exit j e,q.ret⟩) I J R (fun s r B C=>(h s r B C).out) D N s0 o (F N (az _)) ?_ A;intro s' E;exact Wt (w s' E)
end loops
end
theorem tU{a b:Int}(h:a<b):decide (a<b)=true:=decide_eq_true h
theorem sf{a b:Int}(h:¬a<b):decide (a<b)=false:=decide_eq_false h
variable{t:TV}
theorem WY(h:EV.WF (.tv t)):t.WF:=h
theorem r9(h:EV.WF (.ow t)):t.WF:=h
variable{n:Nat}
theorem sA{es:Fq}(h:EV.WF (.xo n es)):TV.WF (.list n es):=h
theorem iN{row:Fq}(h:EV.WF (.tv (.pt row))):TV.x9 row:=h
variable{ts:Fq}{i:Nat}
theorem Za(h:TV.x9 ts)(hi:ts[i]?=some t):t.WF:=by
 induction ts generalizing i with
 |nil=>simp at hi|cons x xs k=>
  cases i with
  |zero=>simp at hi;subst hi;exact h.1|succ i=>exact k h.2 (by simpa using hi)
variable{α:Type}{e:α->TV}{l:List α}
theorem oH(h:TV.WF (.list n (l.map e))):(l.length:Int)<=9223372036854775807:=by
 have:=h.1
 grind [c8,II]
theorem Sk{es:Fq}(h:TV.WF (.list n es))(he:es=l.map e):(l.length:Int)<=9223372036854775807:=by subst he;exact oH h
theorem kV{s:ByteArray}(h:TV.WF (.str s)):(s.size:Int)<=9223372036854775807:=by
 have:s.size<=II:=h
 grind [II]
theorem de{n:Int}(h:TV.WF (.int .i64 n)):n<=9223372036854775807:=h.2
theorem dc(n:Int):Af n=if 9223372036854775808<=n % 18446744073709551616 then n % 18446744073709551616-18446744073709551616 else n % 18446744073709551616:=by
 have h:(2:Int)^ 64=18446744073709551616:=by decide
 have k:(2:Int)^ (64-1)=9223372036854775808:=by decide
 simp only[Af,IntKind.wrap,IntKind.bits,IntKind.signed,Bool.true_and,zzX,h,k,ge_iff_le]
theorem oF(n:Int):Af n<=9223372036854775807:=by grind[dc]
theorem Ao{n:Int}(h:-9223372036854775808<=n)(k:n<=9223372036854775807):Af n=n:=by grind[dc]
theorem sB{i b:Int}(hi:TV.WF (.int .i64 i))(h:i<b)(k:b<=9223372036854775807):IntKind.i64.wrap (i+1)=i+1:=by
 have u:(-9223372036854775808:Int)<=i:=hi.1
 grind [Ao]
end Go.Sf
