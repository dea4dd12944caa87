/- Steps of the pure language with typed values: one rule an operation, one a piece of code, one a kind of loop. -/
import Derived.Test.YthgbaecihlidaaaGreatDoorSfSem
set_option linter.all false
namespace Go.Sf
abbrev AK(n:Int):Int:=IntKind.i64.wrap n
def idx{α:Type}(l:List α)(j:Int):Option α:=if 0<=j then l[j.toNat]? else none
def slc{α:Type}(l:List α)(a b:Int):Option (List α):=if(0<=a/\a<=b)/\b<=l.length then some ((l.take b.toNat).drop a.toNat)else none
def Aaq(s:ByteArray)(a b:Int):Option ByteArray:=if 0<=a/\a<=b/\b<=s.size then some (s.extract a.toNat b.toNat)else none
def AaB(s:ByteArray)(j:Int):a6:=if 0<=j then(s[j.toNat]?).map (fun b=>(b.toNat:Int))else none
def AZ{α:Type}(l m:List α):Option (List α):=if l.length+m.length<=At then some (l++m)else none
def quo(a b:Int):a6:=if b=0 then none else some (a.tdiv b)
def Cj(a b:Int):a6:=if b=0 then none else some (a.tmod b)
inductive Bu(σ ρ:Type)where
 |next (s:σ)
 |brk (s:σ)
 |ret (r:ρ)
section loops
variable{σ ρ:Type}
def Aaa(f:Int->σ->Option (Bu σ ρ)):Nat->Int->σ->Option (σ ⊕ ρ)
 |0,_,s=>some (.inl s)|n+1,i,s=>match f i s with
  |none=>none|some (.next s')=>Aaa f n (i+1) s'|some (.brk s')=>some (.inl s')|some (.ret r)=>some (.inr r)
def kq(f:Int->σ->Option (Bu σ ρ))(a b:Int)(s:σ):Option (σ ⊕ ρ):=Aaa f (b-a).toNat a s
def Aav(f:Int->σ->Option σ):Nat->Int->σ->Option σ
 |0,_,s=>some s|n+1,i,s=>match f i s with
  |none=>none|some s'=>Aav f n (i+1) s'
def pq(f:Int->σ->Option σ)(a b:Int)(s:σ):Option σ:=Aav f (b-a).toNat a s
def QE(f:σ->Option (Bu σ ρ)):Nat->σ->Option (σ ⊕ ρ)
 |0,_=>none|n+1,s=>match f s with
  |none=>none|some (.next s')=>QE f n s'|some (.brk s')=>some (.inl s')|some (.ret r)=>some (.inr r)
end loops
class Ev where
 fuel:Option Nat
instance Hb:Ev:=⟨none⟩
open Classical in
noncomputable def YI{α:Type}(g:Nat->Option α):Option α:=if h:∃v N,∀n,N<=n->g n=some v then some h.choose else none
noncomputable def Kw[e:Ev]{α:Type}(g:Nat->Option α):Option α:=match e.fuel with
 |none=>YI g|some n=>g n
variable{α:Type}
theorem DV{g:Nat->Option α}{v:α}(h:Kw g=some v):∃N,∀n,N<=n->g n=some v:=by
 change YI g=some v at h;unfold YI at h;split at h
 .rename_i k;cases h;exact k.choose_spec
 .cases h
theorem E0{g:Nat->Option α}{v:α}(N:Nat)(h:∀n,N<=n->g n=some v):Kw g=some v:=by
 have k:∃v N,∀n,N<=n->g n=some v:=⟨v,N,h⟩;show YI g=some v;unfold YI;rw[dif_pos k];obtain⟨M,w⟩:=k.choose_spec;have u:=h (max N M) (Nat.le_max_left _ _)
 grind
noncomputable def C7[Ev]{σ ρ:Type}(f:σ->Option (Bu σ ρ))(s:σ):Option (σ ⊕ ρ):=Kw fun n=>QE f n s
def fl{σ ρ β:Type}(o:Option (σ ⊕ ρ))(k:σ->Option β)(kr:ρ->Option β):Option β:=
 match o with
 |none=>none|some (.inl s)=>k s|some (.inr v)=>kr v
theorem VR{σ ρ β:Type}{o:Option (σ ⊕ ρ)}{k:σ->Option β}{u:ρ->Option β}{b:β}(h:fl o k u=some b):∃x,o=some x/\fl (some x) k u=some b:=by
 cases o with
 |none=>cases h
 |some x=>exact⟨x,rfl,h⟩
theorem ax{σ ρ β:Type}{x:σ ⊕ ρ}{k:σ->Option β}{u:ρ->Option β}{b:β}{s:σ}(h:fl (some x) k u=some b)(w:x=.inl s):k s=some b:=by subst w;exact h
theorem ay{σ ρ β:Type}{x:σ ⊕ ρ}{k:σ->Option β}{u:ρ->Option β}{b:β}{v:ρ}(h:fl (some x) k u=some b)(w:x=.inr v):u v=some b:=by subst w;exact h
def BN{α:Type}(l:List α)(j:Int)(a:α):List α:=l.set j.toNat a
def JH{α:Type}(j:Int)(a:α):Option (List α):=if 0<=j/\j<=4096 then some (List.replicate j.toNat a)else none
def NE(a b:ByteArray):Option ByteArray:=if a.size+b.size<=At then some (a++b)else none
variable{β:Type}
theorem bind_some{x:Option α}{f:α->Option β}{b:β}(h:x.bind f=some b):∃a,x=some a/\f a=some b:=Option.bind_eq_some_iff.1 h
theorem Us{c:Bool}{a b:α}{r:α}(k:c=true)(h:(if c=true then a else b)=r):a=r:=by grind
theorem Ur{c:Bool}{a b:α}{r:α}(k:c=false)(h:(if c=true then a else b)=r):b=r:=by grind
structure WO(S:FuncId->Fq->Az->Prop)(K:AB->Prop)(os:List PR)(O:AB):Prop where
 of::out:wpOps S K os O
structure WP(S:FuncId->Fq->Az->Prop)(c:PC)(q:Q)(O:AB):Prop where
 of::out:c.wp S q O
section
variable{S:FuncId->Fq->Az->Prop}{K:AB->Prop}{os:List PR}{O:AB}{d:Nat}
variable{t:TV}
theorem SG{x:AE}(h:x.val O=some t):x.ev O=.tv t\/x.ev O=.ow t:=by
 unfold AE.val EV.val at h;split at h<;>simp_all
theorem st{op:AC}{e:EV}{env':AB}(h:∀u,u e env'->op.wp S O (some d) u)(k:WO S K os ((d,e)::env')):WO S K (⟨some d,op,none⟩::os) O:=⟨h (fun e O=>wpOps S K os (O.put (some d) e)) k.out⟩
theorem OM{x:AE}(h:x.val O=some t)(k:WO S K os ((d,.tv t)::O)):WO S K (⟨some d,.mv x,none⟩::os) O:=by
 replace k:=k.out;refine⟨?_⟩;simp[wpOps,PR.wp,AC.wp];rcases SG h with h|h<;>rw[h]<;>exact k
variable{s:Nat}
theorem wy(h:O.get s=.ow t)(k:WO S K os ((d,.ow t)::(s,.tv t)::O)):WO S K (⟨some d,.tk s,none⟩::os) O:=by
 replace k:=k.out;refine⟨?_⟩;simp[wpOps,PR.wp,AC.wp,h];exact k
theorem vb(h:O.get s=.tv t)(k:WO S K os ((d,.tv t)::O)):WO S K (⟨some d,.tk s,none⟩::os) O:=by
 replace k:=k.out;refine⟨?_⟩;simp[wpOps,PR.wp,AC.wp,h];exact k
variable{n:Nat}
theorem rV(k:WO S K os ((d,.ow (.list n []))::O)):WO S K (⟨some d,.Abx n,none⟩::os) O:=by
 replace k:=k.out;refine⟨?_⟩;simp[wpOps,PR.wp,AC.wp];exact k
theorem ll{x:AE}{j:Nat}{row:Fq}(h:x.ev O=.tv (.pt row))(k:WO S K os ((d,.tv (.pt (row.drop j)))::O)):WO S K (⟨some d,.fad x j,none⟩::os) O:=by
 replace k:=k.out;refine⟨?_⟩;simp[wpOps,PR.wp,AC.wp,h];exact k
theorem fk{x:AE}{j s off:Nat}{cs:List AN}(h:x.ev O=.bp s off)(u:O.get s=.bx cs)(k:WO S K os ((d,.bp s (off+j))::O)):WO S K (⟨some d,.fad x j,none⟩::os) O:=by
 replace k:=k.out;refine⟨?_⟩;simp[wpOps,PR.wp,AC.wp,h,u];exact k
theorem fh{s j:Nat}{cs:List AN}(h:O.get s=.bx cs)(k:WO S K os ((d,.bp s j)::O)):WO S K (⟨some d,.bad s j,none⟩::os) O:=by
 replace k:=k.out;refine⟨?_⟩;simp[wpOps,PR.wp,AC.wp,h];exact k
theorem lj{s j:Nat}{row:Fq}(h:O.get s=.tv (.pt row))(k:WO S K os ((d,.tv (.pt (row.drop j)))::O)):WO S K (⟨some d,.bad s j,none⟩::os) O:=by
 replace k:=k.out;refine⟨?_⟩;simp[wpOps,PR.wp,AC.wp,h];exact k
variable{α:Type}{e:α->TV}{l:List α}{j:Int}
theorem uy{x i:AE}{es row:Fq}{ik:IntKind}{a:α}(u:x.val O=some (.list n es))(hi:i.val O=some (.int ik j))(he:es=l.map e)(h:idx l j=some a)(w:(e a).cells=row)
  (k:WO S K os ((d,.tv (.pt row))::O)):WO S K (⟨some d,.iad x i n,none⟩::os) O:=by
 replace k:=k.out;refine⟨?_⟩;subst he w;simp only[wpOps,PR.wp,AC.wp,u,hi];unfold idx at h;split at h
 .rename_i A;exact⟨trivial,A,e a,by rw[List.getElem?_map,h];rfl,k⟩
 .cases h
theorem uh{x i:AE}{n m h:Nat}{row:Fq}{ik:IntKind}(u:x.ev O=.tv (.pt row))(hi:i.val O=some (.int ik j))(w:0<=j)(A:j<m)(B:m*n<=row.length)(C:j.toNat*n=h)
  (k:WO S K os ((d,.tv (.pt (row.drop h)))::O)):WO S K (⟨some d,.aad x i n m,none⟩::os) O:=by
 replace k:=k.out;refine⟨?_⟩;subst C;simp[wpOps,PR.wp,AC.wp,u,hi];exact⟨w,A,B,k⟩
theorem rD{x:AE}{n m:Nat}{row u:Fq}{ik:IntKind}(w:x.ev O=.tv (.pt row))(h:(decide (0<=j)&&decide (j<m)&&Nat.ble (m*n) row.length)=true)(A:row.drop (j.toNat*n)=u)
  (k:WO S K os ((d,.tv (.pt u))::O)):WO S K (⟨some d,.aad x (.c (.int ik j)) n m,none⟩::os) O:=by
 simp only[tg,zzX]at h;subst A;exact uh w rfl h.1.1 h.1.2 (Nat.le_of_ble_eq_true h.2) rfl k
theorem rR{x:AE}{r:Fq}(h:BA O (x.ev O)=some (t::r))(u:t.AaS=false)(k:WO S K os ((d,.tv t)::O)):WO S K (⟨some d,.ld x,none⟩::os) O:=by
 replace k:=k.out;refine⟨?_⟩;simp[wpOps,PR.wp,AC.wp,h,AU,F5];exact⟨u,k⟩
def eO{α:Type}(n:Nat)(e:α->TV):Option (List α)->TV
 |none=>.nil|some l=>.list n (l.map e)
theorem u7{l:Option (List α)}{x:AE}{r:Fq}(h:BA O (x.ev O)=some (eO n e l::r))(k:WO S K os ((d,.tv (eO n e l))::O)):WO S K (⟨some d,.ld x,none⟩::os) O:=rR h (by cases l<;>rfl) k
theorem XR{x:AE}{cs:Fq}(h:BA O (x.ev O)=some cs)(u:Nat.ble n cs.length=true)(w:TV.agg (cs.take n)=t)(k:WO S K os ((d,.tv t)::O)):WO S K (⟨some d,.lda x n,none⟩::os) O:=by
 replace k:=k.out;refine⟨?_⟩;subst w;simp[wpOps,PR.wp,AC.wp,h,AU];exact⟨Nat.le_of_ble_eq_true u,k⟩
theorem ln{cs:List AN}(h:O.get s=.bx cs)(u:Nat.ble n (cs.map (·.t)).length=true)(w:TV.agg ((cs.map (·.t)).take n)=t)(k:WO S K os ((d,.tv t)::O)):WO S K (⟨some d,.ldb s n,none⟩::os) O:=by
 replace k:=k.out;refine⟨?_⟩;subst w;simp only[wpOps,PR.wp,AC.wp,h];exact⟨Nat.le_of_ble_eq_true u,k⟩
variable{off:Nat}
theorem vA{x:AE}{cs:List AN}{es:Fq}(h:x.place O=some (s,off))(u:O.get s=.bx cs)(w:cs[off]?=some ⟨true,t⟩){cs':List AN}(A:cs.set off ⟨false,t⟩=cs')(B:t=.list n es)
  (k:WO S K os ((d,.ow t)::(s,.bx cs')::O)):WO S K (⟨some d,.ldt x,none⟩::os) O:=by
 replace k:=k.out;refine⟨?_⟩;subst A B;simp[wpOps,PR.wp,AC.wp,h,u,w];exact k
section bins
variable{x y:AE}{ik:IntKind}{a b:Int}
theorem Gf{h:BK}{op:BinOp}{u v t:TV}(w:x.val O=some u)(A:y.val O=some v)(B:EC h op u v=some t)(k:WO S K os ((d,.tv t)::O)):WO S K (⟨some d,.bin h op x y,none⟩::os) O:=by
 replace k:=k.out;refine⟨?_⟩;simp[wpOps,PR.wp,AC.wp,w,A,B,AU];exact k
theorem ut(h:x.val O=some (.int ik a))(u:y.val O=some (.int ik b))(k:WO S K os ((d,.tv (.bool (decide (a=b))))::O)):WO S K (⟨some d,.bin .i .eql x y,none⟩::os) O:=by grind[Gf,EC,intCmp]
theorem cl(h:x.val O=some (.int ik a))(u:y.val O=some (.int ik b))(k:WO S K os ((d,.tv (.bool (!decide (a=b))))::O)):WO S K (⟨some d,.bin .i .neq x y,none⟩::os) O:=by grind[Gf,EC,intCmp]
theorem vE(h:x.val O=some (.int ik a))(u:y.val O=some (.int ik b))(k:WO S K os ((d,.tv (.bool (decide (a<b))))::O)):WO S K (⟨some d,.bin .i .lss x y,none⟩::os) O:=by grind[Gf,EC,intCmp]
theorem vD(h:x.val O=some (.int ik a))(u:y.val O=some (.int ik b))(k:WO S K os ((d,.tv (.bool (decide (a<=b))))::O)):WO S K (⟨some d,.bin .i .leq x y,none⟩::os) O:=by grind[Gf,EC,intCmp]
theorem ux(h:x.val O=some (.int ik a))(u:y.val O=some (.int ik b))(k:WO S K os ((d,.tv (.bool (decide (b<a))))::O)):WO S K (⟨some d,.bin .i .gtr x y,none⟩::os) O:=by grind[Gf,EC,intCmp]
theorem uw(h:x.val O=some (.int ik a))(u:y.val O=some (.int ik b))(k:WO S K os ((d,.tv (.bool (decide (b<=a))))::O)):WO S K (⟨some d,.bin .i .geq x y,none⟩::os) O:=by grind[Gf,EC,intCmp]
theorem ui(h:x.val O=some (.int ik a))(u:y.val O=some (.int ik b))(k:WO S K os ((d,.tv (.int ik (ik.wrap (a+b))))::O)):WO S K (⟨some d,.bin .i .add x y,none⟩::os) O:=by grind[Gf,EC,intCmp,intArith]
theorem va(h:x.val O=some (.int ik a))(u:y.val O=some (.int ik b))(k:WO S K os ((d,.tv (.int ik (ik.wrap (a-b))))::O)):WO S K (⟨some d,.bin .i .sub x y,none⟩::os) O:=by grind[Gf,EC,intCmp,intArith]
theorem vM(h:x.val O=some (.int ik a))(u:y.val O=some (.int ik b))(k:WO S K os ((d,.tv (.int ik (ik.wrap (a*b))))::O)):WO S K (⟨some d,.bin .i .mul x y,none⟩::os) O:=by grind[Gf,EC,intCmp,intArith]
theorem vU{q:Int}(h:x.val O=some (.int ik a))(u:y.val O=some (.int ik b))(w:quo a b=some q)(k:WO S K os ((d,.tv (.int ik (ik.wrap q)))::O)):WO S K (⟨some d,.bin .i .quo x y,none⟩::os) O:=by grind[Gf,quo,EC,intCmp,intArith,Option.some.inj]
theorem vW{q:Int}(h:x.val O=some (.int ik a))(u:y.val O=some (.int ik b))(w:Cj a b=some q)(k:WO S K os ((d,.tv (.int ik q))::O)):WO S K (⟨some d,.bin .i .rem x y,none⟩::os) O:=by grind[Gf,Cj,EC,intCmp,intArith,Option.some.inj]
variable{ik':IntKind}
theorem uk{op:BinOp}{r:Int}(h:x.val O=some (.int ik a))(u:y.val O=some (.int ik' b))(A:ik=ik'\/op=.shl\/op=.shr)(B:FU ik op a b=some r)(k:WO S K os ((d,.tv (.int ik r))::O)):WO S K (⟨some d,.bin .w op x y,none⟩::os) O:=by grind[Gf,EC]
theorem rY{u v:ByteArray}(h:x.val O=some (.str u))(w:y.val O=some (.str v))(k:WO S K os ((d,.tv (.bool (u==v)))::O)):WO S K (⟨some d,.bin .s .eql x y,none⟩::os) O:=by grind[Gf,EC]
theorem rb{u v:ByteArray}(h:x.val O=some (.str u))(w:y.val O=some (.str v))(k:WO S K os ((d,.tv (.bool (!(u==v))))::O)):WO S K (⟨some d,.bin .s .neq x y,none⟩::os) O:=by grind[Gf,EC]
theorem rX{u v t:ByteArray}(w:x.val O=some (.str u))(A:y.val O=some (.str v))(h:NE u v=some t)(k:WO S K os ((d,.tv (.str t))::O)):WO S K (⟨some d,.bin .s .add x y,none⟩::os) O:=by grind[Gf,NE,EC,Option.some.inj]
theorem rG{u v:Bool}(h:x.val O=some (.bool u))(w:y.val O=some (.bool v))(k:WO S K os ((d,.tv (.bool (u==v)))::O)):WO S K (⟨some d,.bin .b .eql x y,none⟩::os) O:=by grind[Gf,EC]
theorem rK{u v:Bool}(h:x.val O=some (.bool u))(w:y.val O=some (.bool v))(k:WO S K os ((d,.tv (.bool (!(u==v))))::O)):WO S K (⟨some d,.bin .b .neq x y,none⟩::os) O:=by grind[Gf,EC]
theorem fe{n:QQ}{cs ds:Fq}{r:Bool}(u:x.val O=some (.agg cs))(w:y.val O=some (.agg ds))(A:cs.map TV.kd=n)(h:B5 cs ds=some r)(k:WO S K os ((d,.tv (.bool r))::O)):WO S K (⟨some d,.bin (.a n) .eql x y,none⟩::os) O:=by grind[Gf,EC]
theorem fg{n:QQ}{cs ds:Fq}{r:Bool}(u:x.val O=some (.agg cs))(w:y.val O=some (.agg ds))(A:cs.map TV.kd=n)(h:B5 cs ds=some r)(k:WO S K os ((d,.tv (.bool (!r)))::O)):WO S K (⟨some d,.bin (.a n) .neq x y,none⟩::os) O:=by grind[Gf,EC]
end bins
theorem vS{x:AE}{b:Bool}(h:x.val O=some (.bool b))(k:WO S K os ((d,.tv (.bool (!b)))::O)):WO S K (⟨some d,.not x,none⟩::os) O:=by
 replace k:=k.out;refine⟨?_⟩;simp[wpOps,PR.wp,AC.wp,h];exact k
theorem vQ{x:AE}{ik:IntKind}{n:Int}(h:x.val O=some (.int ik n))(k:WO S K os ((d,.tv (.int ik (ik.wrap (-n))))::O)):WO S K (⟨some d,.neg x,none⟩::os) O:=by
 replace k:=k.out;refine⟨?_⟩;simp[wpOps,PR.wp,AC.wp,h];exact k
variable{t:TV}
theorem oQ{c a b:AE}{q:Bool}(u:c.val O=some (.bool q))(w:q=true)(h:a.val O=some t)(k:WO S K os ((d,.tv t)::O)):WO S K (⟨some d,.pick c a b,none⟩::os) O:=by
 replace k:=k.out;refine⟨?_⟩;subst w;simp[wpOps,PR.wp,AC.wp,u];rcases SG h with h|h<;>rw[h]<;>exact k
theorem oN{c a b:AE}{q:Bool}(u:c.val O=some (.bool q))(w:q=false)(h:b.val O=some t)(k:WO S K os ((d,.tv t)::O)):WO S K (⟨some d,.pick c a b,none⟩::os) O:=by
 replace k:=k.out;refine⟨?_⟩;subst w;simp[wpOps,PR.wp,AC.wp,u];rcases SG h with h|h<;>rw[h]<;>exact k
variable{α:Type}{n:Nat}{e:α->TV}{l:List α}
theorem vC{x:AE}{es:Fq}(h:x.val O=some (.list n es))(he:es=l.map e)(k:WO S K os ((d,.tv (.int .i64 l.length))::O)):WO S K (⟨some d,.len x,none⟩::os) O:=by
 replace k:=k.out;refine⟨?_⟩;subst he;simp[wpOps,PR.wp,AC.wp,h];exact k
theorem ra{x:AE}{s:ByteArray}(h:x.val O=some (.str s))(k:WO S K os ((d,.tv (.int .i64 s.size))::O)):WO S K (⟨some d,.AbI x,none⟩::os) O:=by
 replace k:=k.out;refine⟨?_⟩;simp[wpOps,PR.wp,AC.wp,h];exact k
variable{m:List α}
theorem Y4{a b:Int}(h:slc l a b=some m):((0<=a/\a<=b)/\b<=l.length)/\m=(l.take b.toNat).drop a.toNat:=by
 unfold slc at h
 grind
variable{ka kb:IntKind}
theorem vX{x:AE}{lo hi:Option AE}{es:Fq}{a b:Int}(h:x.val O=some (.list n es))(he:es=l.map e)(u:Ew O 0 lo=some (.int ka a))(w:Ew O l.length hi=some (.int kb b))(B:slc l a b=some m)
  (k:WO S K os ((d,.tv (.list n (m.map e)))::O)):WO S K (⟨some d,.slc n x lo hi,none⟩::os) O:=by
 replace k:=k.out;refine⟨?_⟩;subst he;obtain⟨⟨A,C⟩,D⟩:=Y4 B;subst D;simp only[wpOps,PR.wp,AC.wp,h,d3,u,w];refine⟨⟨trivial,A.1,A.2⟩,C,?_⟩;rw[List.map_drop,List.map_take]at k;exact k
theorem rc{x:AE}{lo hi:Option AE}{s t:ByteArray}{a b:Int}(h:x.val O=some (.str s))(w:Ew O 0 lo=some (.int ka a))(A:Ew O s.size hi=some (.int kb b))(u:Aaq s a b=some t)
  (k:WO S K os ((d,.tv (.str t))::O)):WO S K (⟨some d,.Aaq x lo hi,none⟩::os) O:=by
 replace k:=k.out;refine⟨?_⟩;unfold Aaq at u;split at u
 .rename_i B;cases u;simp[wpOps,PR.wp,AC.wp,h,w,A];exact⟨B.1,B.2.1,B.2.2,k⟩
 .cases u
variable{zero:Fq}{parts:List (Nat×Nat×AE)}
theorem XQ{ts:List (Nat×Nat×TV)}{cs:Fq}(h:GG O parts=some ts)(u:EZ zero ts=some cs)(w:TV.agg cs=t)(k:WO S K os ((d,.tv t)::O)):WO S K (⟨some d,.bld zero parts,none⟩::os) O:=by
 replace k:=k.out;refine⟨?_⟩;subst w;simp[wpOps,PR.wp,AC.wp,h,AU,u];exact k
def UG:Nat->List (Nat×Nat×TV)->Bool
 |_,[]=>true|k,(i,n,t)::r=>Nat.beq i k&&Nat.beq t.cells.length n&&UG (k+n) r
def Hc:List (Nat×Nat×TV)->Fq
 |[]=>[]|(_,_,t)::r=>t.cells++Hc r
theorem Sl:∀(ds done k rest:Fq),k.length=ds.length->NY (done++(k++rest)) done.length ds=done++(ds++rest)
 |[],done,k,rest,h=>by
  have:k=[]:=List.eq_nil_of_length_eq_zero (by simpa using h);subst this;rfl
 |d::ds,done,[],rest,h=>by simp at h|d::ds,done,m::k,rest,h=>by
  simp only[NY];rw[List.cons_append,List.set_append_right _ _ (bk _),Nat.sub_self,List.set_cons_zero];have:=Sl ds (done++[d]) k rest (by simpa using h);simpa using this
theorem WG:∀(ts:List (Nat×Nat×TV))(done rest:Fq),UG done.length ts=true->(Hc ts).length=rest.length->EZ (done++rest) ts=some (done++Hc ts)
 |[],done,rest,_,h=>by
  have:rest=[]:=List.eq_nil_of_length_eq_zero (by simpa[Hc]using h.symm);subst this;rfl
 |(i,n,t)::r,done,rest,u,h=>by
  simp [UG]at u;obtain⟨⟨rfl,k⟩,B⟩:=u;simp[Hc]at h;have w:n<=rest.length:=by omega
  simp only[EZ];rw[az ⟨k,by rw[cE];omega⟩];have A:rest=rest.take n++rest.drop n:=(List.take_append_drop n rest).symm;rw[A,Sl t.cells done (rest.take n) (rest.drop n) (by rw[ca];omega),<-d4];rw[WG r (done++t.cells) (rest.drop n) (by rw[cE,k];exact B) (by rw[List.length_drop];omega)];simp[Hc]
theorem rH{ts:List (Nat×Nat×TV)}(h:GG O parts=some ts)(u:UG 0 ts=true)(w:Nat.beq (Hc ts).length zero.length=true)(A:TV.agg (Hc ts)=t)(k:WO S K os ((d,.tv t)::O)):WO S K (⟨some d,.bld zero parts,none⟩::os) O:=
 XQ h (by have:=WG ts [] zero u (Nat.eq_of_beq_eq_true w);simpa using this) A k
theorem lq{parts:List AE}{ts:Fq}(h:vals O parts=some ts)(he:ts=l.map e)(u:∀a,(e a).cells.length=n)(k:WO S K os ((d,.ow (.list n (l.map e)))::O)):WO S K (⟨some d,.lst n parts,none⟩::os) O:=by
 replace k:=k.out;refine⟨?_⟩;subst he;simp[wpOps,PR.wp,AC.wp,h,AU];refine⟨fun t w=>?_,k⟩
 grind
variable{s:Nat}{r:List α}
theorem li{y:AE}{es u rs:Fq}(w:O.get s=.ow (.list n es))(A:y.val O=some (.list n u))(he:es=l.map e)(hf:u=m.map e)(h:AZ l m=some r)(B:rs=r.map e)
  (k:WO S K os ((d,.ow (.list n rs))::(s,.tv (.list n es))::O)):WO S K (⟨some d,.app n (.s s) y,none⟩::os) O:=by
 replace k:=k.out;refine⟨?_⟩;subst hf B;unfold AZ at h;split at h
 .rename_i C;cases h;simp only[wpOps,PR.wp,AC.wp,AE.ev,w,A,he,d3];rw[he]at k;refine⟨by simp,by simp,C,?_⟩;rw[List.map_append]at k;exact k
 .cases h
variable{f:FuncId}
theorem fj{args:List AE}{ts:Fq}(h:vals O args=some ts)(u:S f ts (.sh t))(k:WO S K os ((d,.tv t)::O)):WO S K (⟨some d,.call f args,none⟩::os) O:=by
 replace k:=k.out;refine⟨?_⟩;simp[wpOps,PR.wp,AC.wp,h,AU];exact⟨_,⟨u,rfl⟩,fun _=>k⟩
theorem oH{args:List AE}{ts:Fq}(h:vals O args=some ts)(u:S f ts (.own t))(k:WO S K os ((d,.ow t)::O)):WO S K (⟨some d,.call f args,none⟩::os) O:=by
 replace k:=k.out;refine⟨?_⟩;simp[wpOps,PR.wp,AC.wp,h,AU];exact⟨_,⟨u,rfl⟩,fun _=>k⟩
theorem oK{args:List AE}{ts es:Fq}(h:vals O args=some ts)(u:S f ts (.AaY n es))(k:WO S K os ((d,.ow (.list n es))::O)):WO S K (⟨some d,.call f args,none⟩::os) O:=by
 replace k:=k.out;refine⟨?_⟩;simp[wpOps,PR.wp,AC.wp,h,AU];exact⟨_,⟨u,rfl⟩,fun _=>k⟩
theorem oI{args:List AE}{ts t:Fq}(h:vals O args=some ts)(u:S f ts (.tp t))(k:WO S K os ((d,.tp t)::O)):WO S K (⟨some d,.call f args,none⟩::os) O:=by
 replace k:=k.out;refine⟨?_⟩;simp[wpOps,PR.wp,AC.wp,h,AU];exact⟨_,⟨u,rfl⟩,fun _=>k⟩
variable{caps:Fq}
theorem oJ{x:AE}{args:List AE}{ts:Fq}(h:x.val O=some (.clo f caps))(u:vals O args=some ts)(w:S f (ts++caps) (.sh t))(k:WO S K os ((d,.tv t)::O)):WO S K (⟨some d,.AaL x args,none⟩::os) O:=by
 replace k:=k.out;refine⟨?_⟩;simp[wpOps,PR.wp,AC.wp,h,u];exact⟨_,⟨w,rfl⟩,fun _=>k⟩
theorem jq{x:AE}{args:List AE}{ts:Fq}(h:x.val O=some (.clo f caps))(u:vals O args=some ts)(w:S f (ts++caps) (.own t))(k:WO S K os ((d,.ow t)::O)):WO S K (⟨some d,.AaL x args,none⟩::os) O:=by
 replace k:=k.out;refine⟨?_⟩;simp[wpOps,PR.wp,AC.wp,h,u];exact⟨_,⟨w,rfl⟩,fun _=>k⟩
theorem jr{x:AE}{args:List AE}{ts t:Fq}(h:x.val O=some (.clo f caps))(u:vals O args=some ts)(w:S f (ts++caps) (.tp t))(k:WO S K os ((d,.tp t)::O)):WO S K (⟨some d,.AaL x args,none⟩::os) O:=by
 replace k:=k.out;refine⟨?_⟩;simp[wpOps,PR.wp,AC.wp,h,u];exact⟨_,⟨w,rfl⟩,fun _=>k⟩
theorem ul{caps:List AE}{ts:Fq}(h:vals O caps=some ts)(k:WO S K os ((d,.tv (.clo f ts))::O)):WO S K (⟨some d,.clo f caps,none⟩::os) O:=by
 replace k:=k.out;refine⟨?_⟩;simp[wpOps,PR.wp,AC.wp,h,AU];exact k
variable{i:Nat}
theorem Ri{x:AE}{ts:Fq}(h:x.ev O=.tp ts)(hi:ts[i]?=some t)(k:WO S K os ((d,.tv t)::O)):WO S K (⟨some d,.ext x i,none⟩::os) O:=by
 replace k:=k.out;refine⟨?_⟩;simp[wpOps,PR.wp,AC.wp,h,hi,AU];exact k
theorem vP{x:AE}{ts:Fq}(h:x.ev O=.tp ts)(k:WO S K os ((d,.tp ts)::O)):WO S K (⟨some d,.mv x,none⟩::os) O:=by
 replace k:=k.out;refine⟨?_⟩;simp[wpOps,PR.wp,AC.wp,h];exact k
theorem ur{ik ik':IntKind}{x:AE}{n:Int}(h:x.val O=some (.int ik' n))(k:WO S K os ((d,.tv (.int ik (ik.wrap n)))::O)):WO S K (⟨some d,.cvt ik x,none⟩::os) O:=by
 replace k:=k.out;refine⟨?_⟩;simp[wpOps,PR.wp,AC.wp,h];exact k
theorem rZ{x i:AE}{s:ByteArray}{ik:IntKind}{j b:Int}(h:x.val O=some (.str s))(hi:i.val O=some (.int ik j))(u:AaB s j=some b)(k:WO S K os ((d,.tv (.int .u8 b))::O)):WO S K (⟨some d,.AaB x i,none⟩::os) O:=by
 replace k:=k.out;refine⟨?_⟩;unfold AaB at u;split at u
 .rename_i w;rw[Option.map_eq_some_iff]at u;obtain⟨c,A,rfl⟩:=u;simp[wpOps,PR.wp,AC.wp,h,hi];exact⟨w,c,A,k⟩
 .cases u
theorem fi{x:AE}{row:Fq}(h:x.val O=some t)(u:t.cells=row)(k:WO S K os ((d,.tv (.pt row))::O)):WO S K (⟨some d,.Abu x,none⟩::os) O:=by
 replace k:=k.out;refine⟨?_⟩;subst u;simp[wpOps,PR.wp,AC.wp,h];exact k
theorem rM{x:AE}{row:Fq}{cs:List AN}(h:x.val O=some t)(u:O.hT d=true)(w:t.cells=row)(A:row.map (⟨false,·⟩)=cs)(k:WO S K os ((d,.bx cs)::O)):WO S K (⟨some d,.Abz x,none⟩::os) O:=by
 replace k:=k.out;refine⟨?_⟩;subst w A;simp[wpOps,PR.wp,AC.wp,h];exact⟨u,k⟩
theorem rU{mx:Bool}{x y:AE}{ik:IntKind}{a b:Int}(h:x.val O=some (.int ik a))(u:y.val O=some (.int ik b))(k:WO S K os ((d,.tv (.int ik (if mx then max a b else min a b)))::O)):WO S K (⟨some d,.mm mx x y,none⟩::os) O:=by
 replace k:=k.out;refine⟨?_⟩;simp only[wpOps,PR.wp,AC.wp,h,u];exact⟨trivial,k⟩
theorem vF{x y:AE}{ik:IntKind}{a b:Int}(h:x.val O=some (.int ik a))(u:y.val O=some (.int ik b))(k:WO S K os ((d,.tv (.int ik (max a b)))::O)):WO S K (⟨some d,.mm true x y,none⟩::os) O:=rU h u k
theorem vH{x y:AE}{ik:IntKind}{a b:Int}(h:x.val O=some (.int ik a))(u:y.val O=some (.int ik b))(k:WO S K os ((d,.tv (.int ik (min a b)))::O)):WO S K (⟨some d,.mm false x y,none⟩::os) O:=rU h u k
theorem uj{cs:List AN}(h:O.hT d=true)(k:WO S K os ((d,.bx cs)::O)):WO S K (⟨some d,.alc cs,none⟩::os) O:=by
 replace k:=k.out;refine⟨?_⟩;simp[wpOps,PR.wp,AC.wp];exact⟨h,k⟩
variable{off:Nat}
theorem rd{x v:AE}{cs cs':List AN}(h:x.place O=some (s,off))(u:O.get s=.bx cs)(hv:v.ev O=.tv t)(w:t.cells.length=n)(A:Nat.ble (off+n) cs.length=true)(B:cs.take off++t.cells.map (⟨false,·⟩)++cs.drop (off+n)=cs')
  (k:WO S K os ((s,.bx cs')::O)):WO S K (⟨none,.st n x v,none⟩::os) O:=by
 replace k:=k.out;refine⟨?_⟩;subst B;simp only[wpOps,PR.wp,AC.wp,h,u,hv];exact⟨w,Nat.le_of_ble_eq_true A,k⟩
theorem lu{s off q:Nat}{x:AE}{cs cs':List AN}(h:x.place O=some (s,off))(u:O.get s=.bx cs)(hv:O.get q=.ow t)(w:q≠s)(A:Nat.blt off cs.length=true)(B:cs.set off ⟨true,t⟩=cs')
  (k:WO S K os ((s,.bx cs')::(q,.tv t)::O)):WO S K (⟨none,.st 1 x (.s q),none⟩::os) O:=by
 replace k:=k.out;refine⟨?_⟩;subst B;simp only[wpOps,PR.wp,AC.wp,h,u,AE.ev,hv];exact⟨w,trivial,Nat.le_of_ble_eq_true A,k⟩
variable{v:AE}
theorem ls{cs cs':List AN}(h:O.get s=.bx cs)(hv:v.ev O=.tv t)(u:t.cells.length=n)(w:Nat.ble (0+n) cs.length=true)(A:cs.take 0++t.cells.map (⟨false,·⟩)++cs.drop (0+n)=cs')
  (k:WO S K os ((s,.bx cs')::O)):WO S K (⟨none,.stb n s v,none⟩::os) O:=by
 replace k:=k.out;refine⟨?_⟩;subst A;simp only[wpOps,PR.wp,AC.wp,h,hv];exact⟨u,Nat.le_of_ble_eq_true w,k⟩
theorem rf{s q:Nat}{cs cs':List AN}(h:O.get s=.bx cs)(hv:O.get q=.ow t)(u:q≠s)(w:Nat.blt 0 cs.length=true)(A:cs.set 0 ⟨true,t⟩=cs')
  (k:WO S K os ((s,.bx cs')::(q,.tv t)::O)):WO S K (⟨none,.stb 1 s (.s q),none⟩::os) O:=by
 replace k:=k.out;refine⟨?_⟩;subst A;simp only[wpOps,PR.wp,AC.wp,h,AE.ev,hv];exact⟨u,trivial,Nat.le_of_ble_eq_true w,k⟩
theorem uv{cs:List AN}{row:Fq}(h:O.get s=.bx cs)(u:cs.map (·.t)=row)(k:WO S K os ((s,.tv (.pt row))::O)):WO S K (⟨none,.frz s,none⟩::os) O:=by
 replace k:=k.out;refine⟨?_⟩;subst u;simp[wpOps,PR.wp,AC.wp,h];exact k
theorem rJ{u:List GC}{cs:List AN}{env':AB}(w:(u.filterMap GC.src).Nodup)(hd:d∉u.filterMap GC.slot)(h:Hd O u=some cs)(he:OF O (u.filterMap GC.slot) O=env')(k:WO S K os ((d,.oag cs)::env')):WO S K (⟨some d,.AaA u,none⟩::os) O:=by
 replace k:=k.out;refine⟨?_⟩;subst he;simp only[wpOps,PR.wp,AC.wp,h];exact⟨⟨w,hd⟩,k⟩
theorem vZ{n s q:Nat}{cs ds cs':List AN}(u:O.get s=.bx cs)(w:O.get q=.oag ds)(h:q≠s)(A:ds.length=n)(B:Nat.ble (0+n) cs.length=true)(C:((ds.all fun c=>!c.t.AaS)||O.noX s none)=true)(D:cs.take 0++ds++cs.drop (0+n)=cs')
  (k:WO S K os ((s,.bx cs')::(q,.undef)::O)):WO S K (⟨none,.stx n s q,none⟩::os) O:=by
 replace k:=k.out;refine⟨?_⟩;subst D;simp only[wpOps,PR.wp,AC.wp,u,w];exact⟨h,⟨A,C⟩,Nat.le_of_ble_eq_true B,k⟩
theorem oD{args:List AE}{ts:Fq}{cs:List AN}(h:vals O args=some ts)(u:S f ts (.oag cs))(k:WO S K os ((d,.oag cs)::O)):WO S K (⟨some d,.Aa1 f args,none⟩::os) O:=by
 replace k:=k.out;refine⟨?_⟩;simp[wpOps,PR.wp,AC.wp,h,AU];exact⟨cs,u,fun _=>k⟩
theorem oE{args:List AE}{ts:Fq}{cs:List AN}(h:vals O args=some ts)(u:S f ts (.oag cs))(w:TV.agg (cs.map fun c=>c.rel.t)=t)(k:WO S K os ((d,.tv t)::O)):WO S K (⟨some d,.call f args,none⟩::os) O:=by
 replace k:=k.out;refine⟨?_⟩;subst w;simp[wpOps,PR.wp,AC.wp,h,AU];exact⟨_,⟨u,rfl⟩,fun _=>k⟩
theorem lm{x:AE}{es:Fq}(h:x.val O=some (.list n es))(he:es=l.map e)(k:∀b:Bool,(b=true->l=[])->WO S K os ((d,.tv (.bool b))::O)):WO S K (⟨some d,.isn x,none⟩::os) O:=by
 replace k:=fun b u=>(k b u).out;refine⟨?_⟩;simp only[wpOps,PR.wp,AC.wp,h];intro b u;refine k b fun w=>?_;have:=u w;rw[he]at this;simpa using this
theorem uu{x:AE}{row u:Fq}{m:Nat}(h:x.val O=some (.pt row))(w:row.drop m=u)(k:WO S K os ((d,.tv (.pt u))::O)):WO S K (⟨some d,.fdv x m,none⟩::os) O:=by
 replace k:=k.out;refine⟨?_⟩;subst w;simp[wpOps,PR.wp,AC.wp,h];exact k
theorem vB{x:AE}{row:Fq}(h:x.val O=some (.pt row))(u:Nat.ble n row.length=true)(w:TV.agg (row.take n)=t)(k:WO S K os ((d,.tv t)::O)):WO S K (⟨some d,.ldv x n,none⟩::os) O:=by
 replace k:=k.out;refine⟨?_⟩;subst w;simp[wpOps,PR.wp,AC.wp,h];exact⟨Nat.le_of_ble_eq_true u,k⟩
theorem rQ{x:AE}(h:x.val O=some .nil)(k:WO S K os ((d,.tv (.bool true))::O)):WO S K (⟨some d,.isn x,none⟩::os) O:=by
 replace k:=k.out;refine⟨?_⟩;simp[wpOps,PR.wp,AC.wp,h];exact k
theorem mU(h:AZ [] l=some r)(b:Bool)(k:b=true->l=[]):(if b=true then some []else(AZ [] l).bind fun x=>some x)=some r:=by grind[AZ]
variable{j:Int}
theorem GU{a:α}(h:idx l j=some a):0<=j/\j<l.length/\l[j.toNat]?=some a:=by
 unfold idx at h
 grind
theorem aA(u:∀a,(e a).cells.length=n):∀(l:List α)(j k:Nat)(a:α),l[j]?=some a->k<n->((l.map e).flatMap TV.cells)[j*n+k]?=(e a).cells[k]?
 |[],j,k,a,h,_=>by simp at h|b::l,0,k,a,h,w=>by
  grind
 |b::l,j+1,k,a,h,w=>by
  rw [List.getElem?_cons_succ]at h;rw[List.map_cons,List.flatMap_cons,List.getElem?_append_right (by rw[u,Nat.add_mul];omega),u,show(j+1)*n+k-n=j*n+k from by rw[Nat.add_mul];omega];exact aA u l j k a h w
theorem X5(u:∀a,(e a).cells.length=n)(t:TV):∀(l:List α)(j k:Nat)(a b:α),l[j]?=some a->k<n->(e b).cells=(e a).cells.set k t->((l.set j b).map e).flatMap TV.cells=((l.map e).flatMap TV.cells).set (j*n+k) t
 |[],j,k,a,b,h,_,_=>by simp at h|c::l,0,k,a,b,h,w,A=>by
  grind
 |c::l,j+1,k,a,b,h,w,A=>by
  rw [List.getElem?_cons_succ]at h;rw[List.set_cons_succ,List.map_cons,List.map_cons,List.flatMap_cons,List.flatMap_cons,List.set_append_right _ _ (by rw[u,Nat.add_mul];omega),u,show(j+1)*n+k-n=j*n+k from by rw[Nat.add_mul];omega,X5 u t l j k a b h w A]
theorem iR(h:∀a,(e a).cells.length=n)(l:List α):((l.map e).flatMap TV.cells).length=l.length*n:=by
 induction l with
 |nil=>simp|cons b l k=>rw[List.map_cons,List.flatMap_cons,cE,k,h,ci,Nat.add_mul];omega
theorem SK(h:∀a,(e a).flat=true):∀(l:List α),TV.Aac (l.map e)=true
 |[]=>rfl|a::l=>by simp[TV.Aac,h a,SK h l]
theorem oM{x:AE}{k n:Nat}{cs:Fq}(h:x.val O=some (.agg cs))(w:Nat.ble (k+n) cs.length=true)(A:TV.agg ((cs.drop k).take n)=t)(u:WO S K os ((d,.tv t)::O)):WO S K (⟨some d,.AbG x k n true,none⟩::os) O:=by
 replace u:=u.out;refine⟨?_⟩;subst A;simp[wpOps,PR.wp,AC.wp,h];exact⟨Nat.le_of_ble_eq_true w,u⟩
theorem rP{x:AE}{k n:Nat}{cs r:Fq}(h:x.val O=some (.agg cs))(w:Nat.ble (k+n) cs.length=true)(A:cs.drop k=t::r)(u:WO S K os ((d,.tv t)::O)):WO S K (⟨some d,.AbG x k n false,none⟩::os) O:=by
 replace u:=u.out;refine⟨?_⟩;simp[wpOps,PR.wp,AC.wp,h,A,F5,AU];exact⟨Nat.le_of_ble_eq_true w,u⟩
theorem vd{es:Fq}(h:O.get s=.xo n es)(k:WO S K os ((d,.la s none)::O)):WO S K (⟨some d,.xal s,none⟩::os) O:=by
 replace k:=k.out;refine⟨?_⟩;simp[wpOps,PR.wp,AC.wp,h];exact k
theorem rg{x:AE}{q:Nat×Option Nat}{es:Fq}(h:x.Aab O=some (q,n,es))(he:es=l.map e)(k:WO S K os ((d,.tv (.int .i64 l.length))::O)):WO S K (⟨some d,.AbF x,none⟩::os) O:=by
 replace k:=k.out;refine⟨?_⟩;subst he;simp[wpOps,PR.wp,AC.wp,h,AU];exact k
variable{qi:Option Nat}
theorem vf{x i:AE}{q n:Nat}{es:Fq}{ik:IntKind}{a:α}(h:x.Aab O=some ((q,qi),n,es))(hi:i.val O=some (.int ik j))(he:es=l.map e)(u:idx l j=some a)(w:(x.ev O).ref=some q)
  (k:WO S K os ((d,.lp q qi (j.toNat*n))::O)):WO S K (⟨some d,.xia x i n,none⟩::os) O:=by
 replace k:=k.out;refine⟨?_⟩;subst he;obtain⟨A,B,_⟩:=GU u;simp only[wpOps,PR.wp,AC.wp,h,hi,AU,d3];exact⟨⟨w,trivial⟩,A,B,k⟩
variable{p:Nat×Fq}
theorem ve{x:AE}{j q c:Nat}(h:x.ev O=.lp q qi c)(u:O.ws q qi=some p)(k:WO S K os ((d,.lp q qi (c+j))::O)):WO S K (⟨some d,.xfa x j,none⟩::os) O:=by
 replace k:=k.out;refine⟨?_⟩;simp[wpOps,PR.wp,AC.wp,h,u];exact k
theorem lv{x:AE}{q c n i:Nat}{es row:Fq}{a:α}(h:x.ev O=.lp q qi c)(u:O.ws q qi=some (n,es))(he:es=l.map e)(w:∀a,(e a).cells.length=n)(A:idx l j=some a)(B:c=j.toNat*n+i)(hi:Nat.blt i n=true)(C:(e a).cells=row)(D:row[i]?=some t)
  (k:WO S K os ((d,.tv t)::O)):WO S K (⟨some d,.xld x,none⟩::os) O:=by
 replace k:=k.out;refine⟨?_⟩;subst he B C;have hf:=aA w l j.toNat i a (GU A).2.2 (Nat.le_of_ble_eq_true hi);simp[wpOps,PR.wp,AC.wp,h,u,hf,D,AU];exact k
theorem lw{x v:AE}{q c n i:Nat}{env':AB}{es rs:Fq}{a b:α}(h:x.ev O=.lp q qi c)(G:O.ws q qi=some (n,es))(hv:v.ev O=.tv t)(he:es=l.map e)(A:∀a,(e a).cells.length=n)(H:idx l j=some a)(I:c=j.toNat*n+i)(hi:Nat.blt i n=true)(E:t.cells=[t])
  (J:(e b).cells=(e a).cells.set i t)(L:rs=(BN l j b).map e)(B:O.Aah q qi n rs=env')(k:WO S K os env'):WO S K (⟨none,.xst x v 1,none⟩::os) O:=by
 replace k:=k.out;refine⟨?_⟩;subst he I L B;obtain⟨P,Q,F⟩:=GU H;have C:i<n:=Nat.le_of_ble_eq_true hi;have w:j.toNat<l.length:=(List.getElem?_eq_some_iff.1 F).1;simp only[wpOps,PR.wp,AC.wp,h,G,hv];have D:j.toNat*n+i<l.length*n:=calc j.toNat*n+i<j.toNat*n+n:=by omega
   _=(j.toNat+1)*n:=by rw[Nat.add_mul];omega
   _<=l.length*n:=Nat.mul_le_mul_right _ w
 refine ⟨⟨by rw[E];rfl,by omega⟩,?_,_,(X5 A t l j.toNat i a b F C J).trans (by rw[E,List.set_eq_take_append_cons_drop,az (by rw[iR A];exact D)];simp),by simp,fun u M=>?_,k⟩
 .rw[d3]
  calc j.toNat*n+i<j.toNat*n+n:=by omega
   _=(j.toNat+1)*n:=by rw[Nat.add_mul];omega
   _<=l.length*n:=Nat.mul_le_mul_right _ w
 .obtain⟨N,_,rfl⟩:=List.mem_map.1 M;exact A N
theorem X4(k:∀a,(e a).cells.length=n):∀(l:List α)(j:Nat)(b:α),j<l.length->((l.set j b).map e).flatMap TV.cells=((l.map e).flatMap TV.cells).take (j*n)++(e b).cells++((l.map e).flatMap TV.cells).drop (j*n+n)
 |[],j,b,h=>by simp at h|c::l,0,b,h=>by
  grind
 |c::l,j+1,b,h=>by
  rw [List.set_cons_succ,List.map_cons,List.map_cons,List.flatMap_cons,List.flatMap_cons,X4 k l j b (by simpa using h),show(j+1)*n=(e c).cells.length+j*n from by rw[k,Nat.add_mul];omega,Nat.add_assoc,List.take_length_add_append,List.drop_length_add_append,d4,d4,d4]
theorem lz{x v:AE}{q n:Nat}{env':AB}{es:Fq}{a b:α}(h:x.ev O=.lp q qi (j.toNat*n))(E:O.ws q qi=some (n,es))(hv:v.ev O=.tv (e b))(he:es=l.map e)(A:∀a,(e a).cells.length=n)(F:idx l j=some a)(G:Nat.blt 0 n=true)
  (B:O.Aah q qi n ((BN l j b).map e)=env')(k:WO S K os env'):WO S K (⟨none,.xst x v n,none⟩::os) O:=by
 replace k:=k.out;refine⟨?_⟩;subst he B;obtain⟨L,M,I⟩:=GU F;have C:0<n:=Nat.le_of_ble_eq_true G;have w:j.toNat<l.length:=(List.getElem?_eq_some_iff.1 I).1;have D:j.toNat*n+n<=l.length*n:=calc j.toNat*n+n=(j.toNat+1)*n:=by rw[Nat.add_mul];omega
   _<=l.length*n:=Nat.mul_le_mul_right _ w
 simp only[wpOps,PR.wp,AC.wp,h,E,hv];refine⟨⟨A b,C⟩,by rw[d3];exact D,_,X4 A l j.toNat b w,by simp,fun u H=>?_,k⟩;obtain⟨J,_,rfl⟩:=List.mem_map.1 H;exact A J
theorem vV{es:Fq}(h:O.get s=.xo n es)(hd:d≠s)(k:WO S K os ((d,.ow (.list n es))::(s,.undef)::O)):WO S K (⟨some d,.rel s,none⟩::os) O:=by
 replace k:=k.out;refine⟨?_⟩;simp[wpOps,PR.wp,AC.wp,h];exact⟨hd,k⟩
theorem rW(h:O.hT d=true)(k:WO S K os ((d,.xo n [])::O)):WO S K (⟨some d,.Abi n,none⟩::os) O:=by
 replace k:=k.out;refine⟨?_⟩;simp[wpOps,PR.wp,AC.wp];exact⟨h,k⟩
theorem rT(h:O.hT d=true)(k:WO S K os ((d,.xo n [])::O)):WO S K (⟨some d,.Abj n,none⟩::os) O:=by
 replace k:=k.out;refine⟨?_⟩;simp[wpOps,PR.wp,AC.wp];exact⟨h,k⟩
theorem vc{es:Fq}(h:O.get s=.xo n es)(u:O.hT d=true)(hd:d≠s)(k:WO S K os ((d,.xo n es)::(s,.undef)::O)):WO S K (⟨some d,.tkx s,none⟩::os) O:=by
 replace k:=k.out;refine⟨?_⟩;simp[wpOps,PR.wp,AC.wp,h];exact⟨u,hd,k⟩
theorem rE{y:AE}{es u rs:Fq}(w:O.get s=.xo n es)(A:y.val O=some (.list n u))(he:es=l.map e)(hf:u=m.map e)(h:AZ l m=some r)(B:rs=r.map e)(C:O.hT d=true)(hd:d≠s)
  (k:WO S K os ((d,.xo n rs)::(s,.undef)::O)):WO S K (⟨some d,.Abg n s y,none⟩::os) O:=by
 replace k:=k.out;refine⟨?_⟩;subst he hf B;unfold AZ at h;split at h
 .rename_i D;cases h;simp only[wpOps,PR.wp,AC.wp,w,A,d3];rw[List.map_append]at k;exact⟨trivial,trivial,D,C,hd,k⟩
 .cases h
theorem oL{args:List AE}{ts es:Fq}(h:O.hT d=true)(u:vals O args=some ts)(w:S f ts (.AaY n es))(k:WO S K os ((d,.xo n es)::O)):WO S K (⟨some d,.AaJ f args,none⟩::os) O:=by
 replace k:=k.out;refine⟨?_⟩;simp[wpOps,PR.wp,AC.wp,u,AU];exact⟨h,n,es,.inl w,fun _=>k⟩
theorem jt{args:List AE}{ts es:Fq}(h:O.hT d=true)(u:vals O args=some ts)(w:S f ts (.own (.list n es)))(he:es=l.map e)(hf:∀a,(e a).flat=true)(k:WO S K os ((d,.xo n es)::O)):WO S K (⟨some d,.AaJ f args,none⟩::os) O:=by
 replace k:=k.out;refine⟨?_⟩;simp[wpOps,PR.wp,AC.wp,u,AU];exact⟨h,n,es,.inr ⟨w,by rw[he];exact SK hf l⟩,fun _=>k⟩
variable{rs:Fq}{z:α}
theorem vJ{x:AE}{ik:IntKind}(w:O.hT d=true)(A:x.val O=some (.int ik j))(B:(match zero with|[t]=>t|ts=>.agg ts)=e z)(h:JH j z=some r)(C:rs=r.map e)
  (k:WO S K os ((d,.xo n rs)::O)):WO S K (⟨some d,.mkx n zero x,none⟩::os) O:=by
 replace k:=k.out;refine⟨?_⟩;subst C;unfold JH at h;split at h
 .rename_i u;cases h;rw[List.map_replicate,<-B]at k;simp[wpOps,PR.wp,AC.wp,A];exact⟨w,u.1,u.2,k⟩
 .cases h
theorem oG{x:AE}{ys:List AE}{q:Nat}{env':AB}{es rs ts u:Fq}{e:Int->TV}{ev:EV}{l r:Fp}(h:x.Aab O=some ((q,qi),1,es))(he:es=l.map e)(w:e=TV.int .i64)(B:vals O ys=some ts)(C:S f (.list 1 (l.map (TV.int .i64))::ts) (.turn r u))(D:rs=r.map e)(E:EV.ofs u=ev)(A:O.Aah q qi 1 rs=env')(k:WO S K os ((d,ev)::env')):WO S K (⟨some d,.AaI f x ys,none⟩::os) O:=by
 replace k:=k.out;refine⟨?_⟩;subst he w D A E;simp only[wpOps,PR.wp,AC.wp,h,AU,B];exact⟨trivial,l,r,u,rfl,C,fun _=>k⟩
theorem oB{x:AE}{q:Nat}{es rs:Fq}{e:Int->TV}{l r:Fp}(h:x.Aab O=some ((q,none),1,es))(he:es=l.map e)(u:e=TV.int .i64)(w:q≠d)(A:O.hT d=true)(B:S f [.list 1 (l.map (TV.int .i64))] (.cut r))(C:rs=r.map e)(k:WO S K os ((d,.xo 1 rs)::(q,.undef)::O)):WO S K (⟨some d,.AaU f x,none⟩::os) O:=by
 replace k:=k.out;refine⟨?_⟩;subst he C u;simp only[wpOps,PR.wp,AC.wp,h,AU];exact⟨⟨w,trivial⟩,trivial,A,l,r,rfl,B,fun _=>k⟩
theorem uz{x:AE}(h:x.ev O=.bp s off)(u:O.ws s (some off)=some p)(k:WO S K os ((d,.la s (some off))::O)):WO S K (⟨some d,.lac x,none⟩::os) O:=by
 replace k:=k.out;refine⟨?_⟩;simp[wpOps,PR.wp,AC.wp,h,u];exact k
theorem uo{x:AE}{cs cs':List AN}{es:Fq}(u:x.place O=some (s,off))(w:O.get s=.bx cs)(A:cs[off]?=some ⟨true,.xl n es⟩)(B:O.hT d=true)(h:cs.set off ⟨false,.undef⟩=cs')(k:WO S K os ((d,.xo n es)::(s,.bx cs')::O)):WO S K (⟨some d,.ctk x,none⟩::os) O:=by
 replace k:=k.out;refine⟨?_⟩;subst h;simp[wpOps,PR.wp,AC.wp,u,w,A];exact⟨B,k⟩
theorem um{x:AE}{q s off n:Nat}{cs cs':List AN}{es:Fq}(u:x.place O=some (s,off))(w:O.get q=.xo n es)(A:O.get s=.bx cs)(B:O.noX s (some off)=true)(C:Nat.blt off cs.length=true)(h:cs.set off ⟨true,.xl n es⟩=cs')(k:WO S K os ((s,.bx cs')::(q,.undef)::O)):WO S K (⟨none,.cpt x q,none⟩::os) O:=by
 replace k:=k.out;refine⟨?_⟩;subst h;simp[wpOps,PR.wp,AC.wp,u,w,A];exact⟨B,Nat.le_of_ble_eq_true C,k⟩
theorem uq{hi:AE}{es rs:Fq}{ik:IntKind}(w:O.get s=.xo n es)(A:hi.val O=some (.int ik j))(he:es=l.map e)(h:slc l 0 j=some r)(B:rs=r.map e)(C:O.hT d=true)(hd:d≠s)(k:WO S K os ((d,.xo n rs)::(s,.undef)::O)):WO S K (⟨some d,.cut n s hi,none⟩::os) O:=by
 replace k:=k.out;refine⟨?_⟩;subst he B;obtain⟨⟨D,E⟩,u⟩:=Y4 h;subst u;simp only[wpOps,PR.wp,AC.wp,w,A];refine⟨⟨trivial,C,hd⟩,D.2,by rw[d3];exact E,?_⟩;have u:((l.take j.toNat).drop (0:Int).toNat).map e=(l.map e).take j.toNat:=by simp
 rw [u]at k;exact k
theorem oF{args:List AE}{ts:Fq}(h:Aau O args=some ts)(u:S f ts (.sh t))(w:t.flat=true)(k:WO S K os ((d,.tv t)::O)):WO S K (⟨some d,.AaE f args,none⟩::os) O:=by
 replace k:=k.out;refine⟨?_⟩;simp[wpOps,PR.wp,AC.wp,h,AU];exact⟨_,⟨u,w⟩,fun _=>k⟩
theorem jn{args:List AE}{ts t:Fq}(h:Aau O args=some ts)(u:S f ts (.tp t))(w:TV.Aac t=true)(k:WO S K os ((d,.tp t)::O)):WO S K (⟨some d,.AaE f args,none⟩::os) O:=by
 replace k:=k.out;refine⟨?_⟩;simp[wpOps,PR.wp,AC.wp,h,AU];exact⟨_,⟨u,w⟩,fun _=>k⟩
theorem jm{args:List AE}{ts es:Fq}(h:Aau O args=some ts)(u:S f ts (.own t))(w:t=.list n es)(he:es=l.map e)(hf:∀a,(e a).flat=true)(k:WO S K os ((d,.ow t)::O)):WO S K (⟨some d,.AaE f args,none⟩::os) O:=by
 replace k:=k.out;refine⟨?_⟩;subst w he;simp[wpOps,PR.wp,AC.wp,h,AU];exact⟨_,⟨u,SK hf l⟩,fun _=>k⟩
def Tm{α:Type}(l:List α)(j:Int)(z:α):Option (List α):=if(0<=j/\j<=4096)/\l.length+j.toNat<=At then some (l++List.replicate j.toNat z)else none
theorem rF{u:TV}{x:AE}{es rs:Fq}{ik:IntKind}(B:O.get s=.xo n es)(C:x.val O=some (.int ik j))(he:es=l.map e)(D:u=e z)(h:Tm l j z=some r)(E:rs=r.map e)(F:O.hT d=true)(hd:d≠s)(w:n=1)(G:u.cells=[u])(k:WO S K os ((d,.xo n rs)::(s,.undef)::O)):WO S K (⟨some d,.Abk n s u x,none⟩::os) O:=by
 replace k:=k.out;refine⟨?_⟩;subst he E;unfold Tm at h;split at h
 .rename_i A;cases h;simp only[wpOps,PR.wp,AC.wp,B,C];refine⟨⟨⟨trivial,w⟩,G⟩,A.1,⟨by rw[d3];exact A.2,F,hd⟩,?_⟩;rw[List.map_append,List.map_replicate,<-D]at k;exact k
 .cases h
theorem oC{args:List AE}{ts t:Fq}(h:vals O args=some ts)(u:S f ts (.ext t))(k:WO S K os ((d,.tp t)::O)):WO S K (⟨some d,.Aa0 f args,none⟩::os) O:=by
 replace k:=k.out;refine⟨?_⟩;simp[wpOps,PR.wp,AC.wp,h,AU];exact⟨_,u,k⟩
theorem rN{u:List (Option AN)}{x:AE}{cs:List AN}(h:x.val O=some t)(w:DO u t.cells=some cs)(A:O.hT d=true)(k:WO S K os ((d,.bx cs)::O)):WO S K (⟨some d,.AbB u x,none⟩::os) O:=by
 replace k:=k.out;refine⟨?_⟩;simp[wpOps,PR.wp,AC.wp,h,w,AU];exact⟨A,k⟩
theorem oA{args:List AE}{ts h:Fq}{cs cs':List AN}{e:EV}(u:(args[i]?).bind (·.place O)=some (s,0))(w:O.get s=.bx cs)(A:O.noX s none=true)(hd:d≠s)(B:G6 O i args=some ts)(C:S f ts (.bo cs cs' i h))(he:EV.ofs h=e)(k:WO S K os ((d,e)::(s,.bx cs')::O)):WO S K (⟨some d,.AaN f args i,none⟩::os) O:=by
 replace k:=k.out;refine⟨?_⟩;subst he;simp only[wpOps,PR.wp,AC.wp,u,w,B,AU];exact⟨⟨A,hd⟩,cs',h,C,fun _=>k⟩
def T3{α:Type}(l:List α):Option Unit:=if l.isEmpty then none else some ()
theorem eQ{u:Unit}{b:Bool}(h:T3 l=some u)(k:b=true->l=[]):b=false:=by
 cases b with
 |false=>rfl|true=>rw[k rfl]at h;cases h
variable{g:Nat}
theorem wd{h:Option Nat}{op:AC}{b q:Bool}(u:O.get g=.tv (.bool q))(w:q=b)(k:WO S K (⟨h,op,none⟩::os) O):WO S K (⟨h,op,some (g,b)⟩::os) O:=by
 replace k:=k.out;refine⟨?_⟩
 grind [wpOps,PR.wp]
theorem tq{d:Nat}{op:AC}{b q:Bool}(u:O.get g=.tv (.bool q))(w:q=!b)(k:WO S K os ((d,.sk)::O)):WO S K (⟨some d,op,some (g,b)⟩::os) O:=by
 replace k:=k.out;refine⟨?_⟩;subst w;simp only[wpOps,PR.wp,u];exact⟨fun h=>by cases b<;>simp at h,fun _=>k⟩
theorem we{d:Nat}{op:AC}{b:Bool}(h:O.get g=.sk)(k:WO S K os ((d,.sk)::O)):WO S K (⟨some d,op,some (g,b)⟩::os) O:=by
 replace k:=k.out;refine⟨?_⟩;simp[wpOps,PR.wp,h];exact k
theorem ZM(xs ys:List PR)(O:AB):wpOps S K (xs++ys) O=wpOps S (wpOps S K ys) xs O:=by
 induction xs generalizing O with
 |nil=>rfl|cons x xs h=>
  simp only[List.cons_append,wpOps];congr 1;funext e;exact h e
theorem tj{ops:List PR}(n:Nat)(M:AB->AB->Prop)(h:WO S (M O) (ops.take n) O)(k:∀e,M O e->WO S K (ops.drop n) e):WO S K ops O:=by
 refine ⟨?_⟩;rw[<-List.take_append_drop n ops,ZM];exact Oi S (fun e he=>(k e he).out) _ O h.out
variable{q:Q}{a b:PC}
theorem tW(h:WP S a ⟨fun e=>(∀s,(e.get s).WF)->WP S b q e,q.exit,q.ret⟩ O):WP S (.seq a b) q O:=⟨PC.o4 S a _ O h.out _ (fun _ he k=>(he k).out) (fun _ _ h=>h) (fun _ h=>h)⟩
theorem pX{live:QQ}{env':AB}(k:O.gn live=env')(h:q.normal env'):WP S (.skip live) q O:=by subst k;exact⟨h⟩
theorem pW{live:QQ}{env':AB}(k:O.gn live=env')(h:q.exit i env'):WP S (.exit i live) q O:=by subst k;exact⟨h⟩
theorem UX{x:AE}{c:Bool}(k:x.val O=some (.bool c))(u:c=true->WP S a q O)(hf:c=false->WP S b q O):WP S (.cond x a b) q O:=by
 refine ⟨?_⟩;simp[PC.wp,k];exact⟨fun h=>(u h).out,fun h=>(hf h).out⟩
theorem QH{x:AE}{c:Bool}(k:x.val O=some (.bool c))(h:c=true)(u:WP S a q O):WP S (.cond x a b) q O:=by grind[UX]
theorem QG{x:AE}{c:Bool}(k:x.val O=some (.bool c))(h:c=false)(u:WP S b q O):WP S (.cond x a b) q O:=by grind[UX]
theorem VX(h:WP S a ⟨q.normal,fun j e=>if j=i then q.normal e else q.exit j e,q.ret⟩ O):WP S (.block i a) q O:=⟨h.out⟩
theorem Xy{x y:Prop}(h:x):if i=i then x else y:=by rw[az rfl];exact h
theorem mZ{i j:Nat}{x y:Prop}(k:i≠j)(h:y):if i=j then x else y:=by rw[b6 k];exact h
theorem tV(M:AB->Prop)(k:WP S a ⟨M,q.exit,q.ret⟩ O)(u:∀e,M e->q.normal e):WP S a q O:=⟨PC.o4 S a _ O k.out q u (fun _ _ h=>h) (fun _ h=>h)⟩
section loops
variable{σ ρ:Type}{live:QQ}{c:PC}{i0:Nat}
variable{X:AB->Prop}
theorem kw{f:Int->σ->Option (Bu σ ρ)}{b:Int}(I:Int->σ->AB)(J:σ->AB)(R:ρ->AB->Prop)
  (u:∀i s r,i<b->f i s=some r->(∀k,((I i s).get k).WF)->c.wp S ⟨fun e=>∃s',r=.next s'/\e.gn live=I (i+1) s',fun j e=>j=i0/\∃s',r=.brk s'/\e=J s',fun e=>∃v,r=.ret v/\R v e⟩ (I i s))
  (w:∀i s,¬i<b->c.wp S ⟨fun _=>False,fun j e=>j=i0/\e=J s,fun _=>False⟩ (I i s))
  (C:∀e,((∀s,(e.get s).WF)->c.wp S {q with normal:=fun E=>X (E.gn live)} e)->X e)(H:∀s,q.exit i0 (J s)\/True):
  ∀(n:Nat)(i:Int)(s:σ),n=(b-i).toNat->∀o,Aaa f n i s=some o->(∀s',o=.inl s'->q.exit i0 (J s'))->(∀v e,o=.inr v->R v e->q.ret e)->X (I i s):=by
 intro n
 induction n with
 |zero=>
  intro i s F o ho A B;refine C _ fun D=>?_;refine PC.o4 S c _ _ (w i s (by omega)) _ (fun _ h=>h.elim) (fun j e he=>?_) (fun _ h=>h.elim);obtain⟨rfl,rfl⟩:=he;simp[Aaa]at ho;exact A s ho.symm
 |succ n G=>
  intro i s F o ho A B;simp[Aaa]at ho;refine C _ fun D=>?_;cases hf:f i s with
  |none=>rw[hf]at ho;cases ho
  |some r=>
   rw [hf]at ho;refine PC.o4 S c _ _ (u i s r (by omega) hf D) _ (fun e he=>?_) (fun j e he=>?_) (fun e he=>?_)
   .obtain⟨s',rfl,he⟩:=he;show X (e.gn live);rw[he];exact G (i+1) s' (by omega) o ho A B
   .obtain⟨rfl,s',rfl,rfl⟩:=he;simp at ho;exact A s' ho.symm
   .obtain⟨v,rfl,he⟩:=he;simp at ho;exact B v e ho.symm he
variable{s0:σ}{o:σ ⊕ ρ}
theorem bG{f:Int->σ->Option (Bu σ ρ)}{lo b:Int}(ho:kq f lo b s0=some o)(I:Int->σ->AB)(J:σ->AB)(R:ρ->AB->Prop)(A:O.gn live=I lo s0)
  (u:∀i s r,i<b->f i s=some r->(∀k,((I i s).get k).WF)->WP S c ⟨fun e=>∃s',r=.next s'/\e.gn live=I (i+1) s',fun j e=>j=i0/\∃s',r=.brk s'/\e=J s',fun e=>∃v,r=.ret v/\R v e⟩ (I i s))
  (w:∀i s,¬i<b->WP S c ⟨fun _=>False,fun j e=>j=i0/\e=J s,fun _=>False⟩ (I i s))
  (B:∀s',o=.inl s'->q.normal (J s'))(C:∀v e,o=.inr v->R v e->q.ret e):WP S (.block i0 (.loop live c)) q O:=by
 refine VX ⟨?_⟩;intro X G;rw[A];refine kw (q:=⟨q.normal,fun j e=>if j=i0 then q.normal e else q.exit j e,q.ret⟩) I J R (fun i s r D E F=>(u i s r D E F).out) (fun i s h=>(w i s h).out) G (fun _=>.inr trivial) _ lo s0 rfl o ho ?_ C;intro s' H;exact Xy (B s' H)
theorem aB{f:Int->σ->Option σ}:∀(n:Nat)(i:Int)(s o:σ),Aav f n i s=some o->Aaa (fun i s=>(f i s).map (Bu.next (ρ:=Empty))) n i s=some (.inl o)
 |0,_,_,_,h=>by simp[Aav]at h;subst h;rfl|n+1,i,s,o,h=>by
  simp [Aav]at h;simp[Aaa];cases hf:f i s with
  |none=>rw[hf]at h;cases h
  |some s'=>rw[hf]at h;simp;exact aB n (i+1) s' o h
theorem od{f:Int->σ->Option σ}{lo b:Int}{s0 o:σ}(ho:pq f lo b s0=some o)(I:Int->σ->AB)(J:σ->AB)(A:O.gn live=I lo s0)
  (u:∀i s r,i<b->f i s=some r->(∀k,((I i s).get k).WF)->WP S c ⟨fun e=>e.gn live=I (i+1) r,fun _ _=>False,fun _=>False⟩ (I i s))
  (w:∀i s,¬i<b->WP S c ⟨fun _=>False,fun j e=>j=i0/\e=J s,fun _=>False⟩ (I i s))
  (B:q.normal (J o)):WP S (.block i0 (.loop live c)) q O:=by
 refine bG (f:=fun i s=>(f i s).map (Bu.next (ρ:=Empty))) (o:=.inl o) (aB _ _ _ _ ho) I J (fun _ _=>False) A ?_ w ?_ ?_
 .intro i s r hi hf C;simp at hf;obtain⟨s',hf,rfl⟩:=hf;exact⟨PC.o4 S c _ _ (u i s s' hi hf C).out _ (fun e he=>⟨s',rfl,he⟩) (fun _ _ h=>h.elim) (fun _ h=>h.elim)⟩
 .intro s' h;cases h;exact B
 .intro v;cases v
theorem oh{f:σ->Option (Bu σ ρ)}(I:σ->AB)(J:σ->AB)(R:ρ->AB->Prop)
  (h:∀s r,f s=some r->(∀k,((I s).get k).WF)->c.wp S ⟨fun e=>∃s',r=.next s'/\e.gn live=I s',fun j e=>j=i0/\∃s',r=.brk s'/\e=J s',fun e=>∃v,r=.ret v/\R v e⟩ (I s))
  (A:∀e,((∀s,(e.get s).WF)->c.wp S {q with normal:=fun B=>X (B.gn live)} e)->X e):
  ∀(n:Nat)(s:σ)(o:σ ⊕ ρ),QE f n s=some o->(∀s',o=.inl s'->q.exit i0 (J s'))->(∀v e,o=.inr v->R v e->q.ret e)->X (I s):=by
 intro n
 induction n with
 |zero=>intro s o ho;cases ho
 |succ n D=>
  intro s o ho u w;simp[QE]at ho;refine A _ fun C=>?_;cases hf:f s with
  |none=>rw[hf]at ho;cases ho
  |some r=>
   rw [hf]at ho;refine PC.o4 S c _ _ (h s r hf C) _ (fun e he=>?_) (fun j e he=>?_) (fun e he=>?_)
   .obtain⟨s',rfl,he⟩:=he;show X (e.gn live);rw[he];exact D s' o ho u w
   .obtain⟨rfl,s',rfl,rfl⟩:=he;simp at ho;exact u s' ho.symm
   .obtain⟨v,rfl,he⟩:=he;simp at ho;exact w v e ho.symm he
theorem sK{f:σ->Option (Bu σ ρ)}(ho:C7 f s0=some o)(I:σ->AB)(J:σ->AB)(R:ρ->AB->Prop)(u:O.gn live=I s0)
  (h:∀s r,f s=some r->(∀k,((I s).get k).WF)->WP S c ⟨fun e=>∃s',r=.next s'/\e.gn live=I s',fun j e=>j=i0/\∃s',r=.brk s'/\e=J s',fun e=>∃v,r=.ret v/\R v e⟩ (I s))
  (w:∀s',o=.inl s'->q.normal (J s'))(A:∀v e,o=.inr v->R v e->q.ret e):WP S (.block i0 (.loop live c)) q O:=by
 obtain ⟨N,F⟩:=DV ho;refine VX ⟨?_⟩;intro X D;rw[u];refine oh (q:=⟨q.normal,fun j e=>if j=i0 then q.normal e else q.exit j e,q.ret⟩) I J R (fun s r B C=>(h s r B C).out) D N s0 o (F N (bk _)) ?_ A;intro s' E;exact Xy (w s' E)
end loops
end
theorem xA{a b:Int}(h:a<b):decide (a<b)=true:=decide_eq_true h
theorem wc{a b:Int}(h:¬a<b):decide (a<b)=false:=decide_eq_false h
variable{t:TV}
theorem XT(h:EV.WF (.tv t)):t.WF:=h
theorem vg(h:EV.WF (.ow t)):t.WF:=h
variable{n:Nat}
theorem vh{es:Fq}(h:EV.WF (.xo n es)):TV.WF (.list n es):=h
theorem l5{row:Fq}(h:EV.WF (.tv (.pt row))):TV.tn row:=h
variable{i:Nat}
theorem bC{ts:Fq}(h:TV.tn ts)(hi:ts[i]?=some t):t.WF:=by
 induction ts generalizing i with
 |nil=>simp at hi|cons x xs k=>
  cases i with
  |zero=>simp at hi;subst hi;exact h.1|succ i=>exact k h.2 (by simpa using hi)
variable{α:Type}{e:α->TV}{l:List α}
theorem sG(h:TV.WF (.list n (l.map e))):(l.length:Int)<=9223372036854775807:=by
 have:=h.1
 grind [d3,Gc]
theorem TP{es:Fq}(h:TV.WF (.list n es))(he:es=l.map e):(l.length:Int)<=9223372036854775807:=by subst he;exact sG h
theorem oc{s:ByteArray}(h:TV.WF (.str s)):(s.size:Int)<=9223372036854775807:=by
 have:s.size<=Gc:=h
 grind [Gc]
theorem gc{n:Int}(h:TV.WF (.int .i64 n)):n<=9223372036854775807:=h.2
theorem gZ(n:Int):AK n=if 9223372036854775808<=n % 18446744073709551616 then n % 18446744073709551616-18446744073709551616 else n % 18446744073709551616:=by
 have h:(2:Int)^ 64=18446744073709551616:=by decide
 have k:(2:Int)^ (64-1)=9223372036854775808:=by decide
 simp [AK,IntKind.wrap,IntKind.bits,IntKind.signed,Bool.true_and,zzX,h,k,ge_iff_le]
theorem sC(n:Int):AK n<=9223372036854775807:=by grind[gZ]
theorem AW{n:Int}(h:-9223372036854775808<=n)(k:n<=9223372036854775807):AK n=n:=by grind[gZ]
theorem vj{i b:Int}(hi:TV.WF (.int .i64 i))(h:i<b)(k:b<=9223372036854775807):IntKind.i64.wrap (i+1)=i+1:=by
 have u:(-9223372036854775808:Int)<=i:=hi.1
 grind [AW]
end Go.Sf
