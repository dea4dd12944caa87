/- The pure language: environments, operations, code, and what must hold before a piece of code so that a condition holds behind it. No memory. -/
import Derived.Test.YtagcclhejecceaaGreatSfRep
import Derived.WalkKit
set_option linter.all false
namespace Go.Sf
def Aj:Nat:=8589934592
def Im:Nat:=9223372036854775807
variable{n:Nat}
theorem Sj(h:n<=Aj):n<=Im:=by grind[Aj,Im]
mutual
def TV.WF:TV->Prop
 |.int k n=>k.min<=n/\n<=k.max|.str s=>s.size<=Im|.list _ es=>es.length<=Im/\TV.tn es|.agg cs=>TV.tn cs|.pt row=>TV.tn row|.w8 _ caps=>TV.tn caps|.xl _ es=>es.length<=Im/\TV.tn es|.xn es=>es.length<=Im/\TV.tn es|_=>True
def TV.tn:Fq->Prop
 |[]=>True|t::ts=>TV.WF t/\TV.tn ts
end
structure AN where
 own:Bool
 t:TV
def TV.xh:TV->Bool
 |.xl _ _=>true|.xn _=>true|_=>false
def AN.key(c:AN):TV×Bool:=(c.t,c.own&&c.t.xh)
def AN.rel(c:AN):AN:=
 match c with
 |⟨true,.xl n es⟩=>⟨true,.list n es⟩|⟨true,.xn es⟩=>⟨true,.list 1 es⟩|c=>c
def AN.yu(c:AN):TV:=
 match c with
 |⟨true,.xl n es⟩=>.list n es|c=>c.t
inductive NK where
 |hd
 |el (r:Nat)
 |rw(r:Nat)
 |rp (r c:Nat)
abbrev BT:=List ((Int×Int)×Int)
inductive MX where
 |mp (b:Nat) (kvs:BT)
 |tm (b:Nat) (kvs:BT) (ts:Fq)
 |mi (last:Option ((Int×Int)×Int)) (todo:BT)
def BT.WF(kvs:BT):Prop:=∀p∈kvs,(TV.int .i64 p.1.1).WF/\(TV.int .i64 p.1.2).WF/\(TV.int .i64 p.2).WF
def MX.WF:MX->Prop
 |.mp _ kvs=>BT.WF kvs|.tm _ kvs ts=>BT.WF kvs/\TV.tn ts|.mi last todo=>BT.WF last.toList/\BT.WF todo
def BT.look(k:Int×Int):BT->QQ
 |[]=>none|p::r=>if p.1=k then some p.2 else BT.look k r
def BT.set(k:Int×Int)(n:Int):BT->BT
 |[]=>[(k,n)]|p::r=>if p.1=k then(k,n)::r else p::BT.set k n r
def QT(k:Int×Int):TV:=.agg [.int .i64 k.1,.int .i64 k.2]
def TV.zc?:TV->Option (Int×Int)
 |.agg [.int .i64 a,.int .i64 b]=>some (a,b)|_=>none
inductive EV where
 |undef
 |tv (t:TV)
 |ow (t:TV)
 |bx (cs:List AN)
 |bp (s off:Nat)
 |tp (ts:Fq)
 |sk
 |xo (n:Nat) (es:Fq)
 |la (q:Nat) (i:Option Nat)
 |lp (q:Nat) (i:Option Nat) (c:Nat)
 |wQ (cs:List AN)
 |xn (es:Fq)
 |x1 (n:Nat) (fs:Fq)
 |nh (q i:Nat) (k:NK)
 |mx (m:MX)
def EV.WF:EV->Prop
 |.tv t=>t.WF|.ow t=>t.WF|.bx cs=>∀c∈cs,c.t.WF|.tp ts=>TV.tn ts|.xo n es=>(TV.list n es).WF|.wQ cs=>∀c∈cs,c.t.WF|.xn es=>(TV.list 1 es).WF|.x1 n fs=>(TV.list n fs).WF|.mx m=>m.WF|_=>True
abbrev AB:=List (Nat×EV)
def AB.get:AB->Nat->EV
 |[],_=>.undef|(k,e)::r,n=>if k=n then e else AB.get r n
def AB.ff(U:AB)(live:Ne):AB:=live.map fun s=>(s,U.get s)
def EV.we:EV->Option Nat
 |.bp s _=>some s|.la s _=>some s|.lp s _ _=>some s|.nh s _ _=>some s|_=>none
def EV.wL(d:Nat)(e:EV):Bool:=
 match e.we with
 |some s=>d !=s|none=>true
def AB.f0(s:Nat):AB->Bool
 |[]=>true|(_,e)::r=>e.wL s&&AB.f0 s r
def EV.yT(d:Nat)(k:Option Nat):EV->Bool
 |.la s (some i)=>d !=s||(match k with|some j=>i !=j|none=>false)
 |.lp s (some i) _=>d !=s||(match k with|some j=>i !=j|none=>false)
 |.nh s i _=>d !=s||(match k with|some j=>i !=j|none=>false)
 |_=>true
def AB.zB(s:Nat)(k:Option Nat):Ne->AB->Bool
 |_,[]=>true|z,(q,e)::r=>(z.contains q||e.yT s k)&&AB.zB s k (q::z) r
def AB.yp(s:Nat)(k:Option Nat)(U:AB):Bool:=AB.zB s k [] U
def AB.tl(U:AB)(q:Nat):Option Nat->Option (Nat×Fq)
 |none=>match U.get q with
  |.xo n es=>some (n,es)|_=>none
 |some k=>match U.get q with
  |.bx cs=>match cs[k]? with
   |some ⟨true,.xl n es⟩=>some (n,es)|_=>none
  |_=>none
def AB.ww(U:AB)(q:Nat)(i:Option Nat)(n:Nat)(es:Fq):AB:=
 match i with
 |none=>(q,.xo n es)::U|some k=>match U.get q with
  |.bx cs=>(q,.bx (cs.set k ⟨true,.xl n es⟩))::U|_=>U
def AB.nat(U:AB)(q k:Nat):Option Fq:=
 match U.get q with
 |.bx cs=>match cs[k]? with
  |some ⟨true,.xn es⟩=>some es|_=>none
 |_=>none
def AB.za(U:AB)(q k:Nat)(es:Fq):AB:=
 match U.get q with
 |.bx cs=>(q,.bx (cs.set k ⟨true,.xn es⟩))::U|_=>U
inductive AF where
 |s (n:Nat)
 |c (t:TV)
def AF.ev(U:AB):AF->EV
 |.s n=>U.get n|.c t=>.tv t
def EV.val:EV->Option TV
 |.tv t=>some t|.ow t=>some t|_=>none
def AF.val(U:AB)(x:AF):Option TV:=(x.ev U).val
def vals(U:AB):List AF->Option Fq
 |[]=>some []|x::xs=>match x.val U,vals U xs with
  |some t,some ts=>some (t::ts)|_,_=>none
def intCmp(op:BinOp)(a b:Int):K1:=
 match op with
 |.eql=>some (decide (a=b))|.neq=>some (!decide (a=b))|.lss=>some (decide (a<b))|.leq=>some (decide (a<=b))|.gtr=>some (decide (b<a))|.geq=>some (decide (b<=a))|_=>none
def intArith(op:BinOp)(a b:Int):QQ:=
 match op with
 |.add=>some (a+b)|.sub=>some (a-b)|.mul=>some (a*b)|.quo=>if b=0 then none else some (a.tdiv b)|_=>none
inductive GC where
 |z (c:AN)
 |v (x:AF) (k n:Nat)
 |w (q:Nat)
 |g (q k n:Nat)
def GC.cell(U:AB):GC->Option AN
 |.z c=>some c|.v x k n=>match x.val U with
  |some t=>match Nat.beq t.cells.length n,t.cells[k]? with
   |true,some c=>some ⟨false,c⟩|_,_=>none
  |none=>none
 |.w q=>match U.get q with
  |.ow t=>some ⟨true,t⟩|.xo n es=>some ⟨true,.xl n es⟩|_=>none
 |.g q k n=>match U.get q with
  |.wQ cs=>match Nat.beq cs.length n with
   |true=>cs[k]?|false=>none
  |_=>none
def FA(U:AB):List GC->Option (List AN)
 |[]=>some []|g::gs=>match g.cell U,FA U gs with
  |some c,some cs=>some (c::cs)|_,_=>none
def GC.src:GC->Option (Nat×Option Nat)
 |.w q=>some (q,none)|.g q k _=>some (q,some k)|_=>none
def GC.slot:GC->Option Nat
 |.w q=>some q|.g q _ _=>some q|_=>none
def GC.sl:GC->Ne
 |.v (.s q) _ _=>[q]|.w q=>[q]|.g q _ _=>[q]|_=>[]
def EV.gave:EV->EV
 |.ow t=>.tv t|_=>.undef
def Mm(e0:AB):Ne->AB->AB
 |[],U=>U|q::qs,U=>(q,(e0.get q).gave)::Mm e0 qs U
def CA:Fq->Fq->K1
 |[],[]=>some true|.int k a::cs,.int k' b::ds=>if k=k' then(match CA cs ds with|some r=>some (decide (a=b)&&r)|none=>none)else none
 |.str a::cs,.str b::ds=>(match CA cs ds with|some r=>some (decide (a=b)&&r)|none=>none)
 |.bool a::cs,.bool b::ds=>(match CA cs ds with|some r=>some (decide (a=b)&&r)|none=>none)
 |_,_=>none
inductive BK where
 |i|s|b|w
 |a (ks:Ne)
def TV.kd:TV->Nat
 |.int _ _=>0|.str _=>1|.bool _=>2|_=>3
def LP(k:IntKind)(op:BinOp)(a b:Int):QQ:=
 match op with
 |.and=>some (k.wrap (BitVec.ofInt k.bits a &&& BitVec.ofInt k.bits b).toNat)|.or=>some (k.wrap (BitVec.ofInt k.bits a|||BitVec.ofInt k.bits b).toNat)|.xor=>some (k.wrap (BitVec.ofInt k.bits a^^^ BitVec.ofInt k.bits b).toNat)|.andNot=>some (k.wrap (BitVec.ofInt k.bits a &&& ~~~ BitVec.ofInt k.bits b).toNat)|.shl=>if 0<=b then some (k.wrap (a*2^ (min b.toNat k.bits)))else none|.shr=>if 0<=b/\k.min<=a.fdiv (2^ (min b.toNat k.bits))/\a.fdiv (2^ (min b.toNat k.bits))<=k.max then some (a.fdiv (2^ (min b.toNat k.bits)))else none|_=>none
def Kn:BK->BinOp->TV->TV->Option TV
 |.i,op,.int k a,.int k' b=>
  if k=k' then
   match intCmp op a b with
   |some r=>some (.bool r)|none=>match intArith op a b with
    |some r=>some (.int k (k.wrap r))|none=>if op=.rem/\b≠0 then some (.int k (a.tmod b))else none
  else none
 |.w,op,.int k a,.int k' b=>if k=k'\/op=.shl\/op=.shr then(match LP k op a b with|some r=>some (.int k r)|none=>none)else none
 |.s,.eql,.str a,.str b=>some (.bool (a==b))|.s,.neq,.str a,.str b=>some (.bool (!(a==b)))|.s,.add,.str a,.str b=>if a.size+b.size<=Aj then some (.str (a++b))else none|.b,.eql,.bool a,.bool b=>some (.bool (a==b))|.b,.neq,.bool a,.bool b=>some (.bool (!(a==b)))|.a n,.eql,.agg cs,.agg ds=>if cs.map TV.kd=n then(match CA cs ds with|some b=>some (.bool b)|none=>none)else none
 |.a n,.neq,.agg cs,.agg ds=>if cs.map TV.kd=n then(match CA cs ds with|some b=>some (.bool !b)|none=>none)else none
 |_,_,_,_=>none
def Gi(U:AB)(d:Int):Option AF->Option TV
 |none=>some (.int .i64 d)|some o=>o.val U
def A1(U:AB):EV->Option Fq
 |.tv (.pt row)=>some row|.bx cs=>some (cs.map (·.t))|.bp s off=>match U.get s with
  |.bx cs=>some ((cs.drop off).map (·.t))|_=>none
 |_=>none
def AF.place(U:AB):AF->Option (Nat×Nat)
 |.s n=>match U.get n with
  |.bp q off=>some (q,off)|.bx _=>some (n,0)|_=>none
 |.c _=>none
def N8:Fq->Nat->Fq->Fq
 |cs,_,[]=>cs|cs,i,d::ds=>N8 (cs.set i d) (i+1) ds
def EP(cs:Fq):List (Nat×Nat×TV)->Option Fq
 |[]=>some cs|(i,n,t)::r=>if t.cells.length=n/\i+n<=cs.length then EP (N8 cs i t.cells) r else none
def EL(U:AB):List (Nat×Nat×AF)->Option (List (Nat×Nat×TV))
 |[]=>some []|(i,n,x)::r=>match x.val U,EL U r with
  |some t,some ts=>some ((i,n,t)::ts)|_,_=>none
inductive AE where
 |mv (x:AF)
 |tk (s:Nat)
 |yw (n:Nat)
 |w3 (x:AF) (k:Nat)
 |bad (s k:Nat)
 |yb (x i:AF) (n:Nat)
 |y4 (x i:AF) (n k:Nat)
 |ld (x:AF)
 |yt (x:AF) (n:Nat)
 |zL (x:AF)
 |bin (k:BK) (op:BinOp) (x y:AF)
 |not (x:AF)
 |neg (x:AF)
 |pick (c a b:AF)
 |len (x:AF)
 |yX (x:AF)
 |xu (n:Nat) (x:AF) (lo hi:Option AF)
 |xi (x:AF) (lo hi:Option AF)
 |yq (zero:Fq) (parts:List (Nat×Nat×AF))
 |yI (n:Nat) (parts:List AF)
 |app (n:Nat) (x y:AF)
 |call (f:FuncId) (args:List AF)
 |ye (x:AF) (args:List AF)
 |w8 (f:FuncId) (caps:List AF)
 |ext (x:AF) (i:Nat)
 |yA (k:IntKind) (x:AF)
 |xc (x i:AF)
 |yr (x:AF)
 |yK (x:AF)
 |mm (max:Bool) (x y:AF)
 |yY (cs:List AN)
 |st (n:Nat) (x v:AF)
 |yy (n s:Nat) (v:AF)
 |ze (s:Nat)
 |yG (x:AF) (k n:Nat) (agg:Bool)
 |zg (s:Nat)
 |yD (x:AF)
 |zy (x i:AF) (n:Nat)
 |xfa (x:AF) (k:Nat)
 |zD (x:AF)
 |yx (x v:AF) (k:Nat)
 |rel (s:Nat)
 |yd (n:Nat)
 |yW (s:Nat)
 |x4 (n s:Nat) (y:AF)
 |xz (f:FuncId) (args:List AF)
 |yg (n:Nat) (zero:Fq) (x:AF)
 |xk (f:FuncId) (x:AF) (ys:List AF)
 |xP (f:FuncId) (x:AF)
 |wP (gs:List GC)
 |stx (n:Nat) (s q:Nat)
 |xY (f:FuncId) (args:List AF)
 |xj (f:FuncId) (args:List AF)
 |y9 (x:AF)
 |zT (x:AF)
 |zb (x:AF)
 |zp (x:AF) (q:Nat)
 |cut (n s:Nat) (hi:AF)
 |xD (f:FuncId) (args:List AF)
 |yn (ps:List (Option AN)) (x:AF)
 |yj (n s:Nat) (z:TV) (x:AF)
 |w6 (f:FuncId) (args:List AF) (i:Nat)
 |xZ (f:FuncId) (args:List AF)
 |ym (n:Nat)
 |zO (s n:Nat)
 |yv (q:Nat)
 |xC (m q:Nat)
 |zu (x:AF)
 |yO (x i:AF)
 |zj (x:AF)
 |yP (x v:AF)
 |yH (q:Nat)
 |xF (f:FuncId) (args:List AF) (i:Nat)
 |ldg (s n:Nat)
 |zh (n:Nat) (ps:List (Option AN)) (x v:AF)
 |yQ
 |zI (s:Nat)
 |xw (f:FuncId) (args:List AF)
 |zK (s:Nat) (m x:AF)
 |zi (s:Nat) (m x v:AF)
 |wi (s:Nat) (m:AF)
 |zm (s:Nat)
 |zr (s:Nat)
 |zJ (x:AF) (k:Nat)
 |zN (x:AF) (n:Nat)
 |zv (x i:AF) (n:Nat)
 |y8 (x:AF)
 |yR (n:Nat) (zero:Fq) (x:AF)
structure PR where
 dst:Option Nat
 op:AE
 guard:Option (Nat×Bool)
inductive PC where
 |skip (live:Ne)
 |ret
 |exit (id:Nat) (live:Ne)
 |seq (a b:PC)
 |cond (c:AF) (a b:PC)
 |block (id:Nat) (c:PC)
 |loop (live:Ne) (c:PC)
 |region (ops:List PR) (live:Ne)
 |draw (D:Ne) (ops:List PR) (live:Ne)
 |zk (s:Nat) (c:PC)
 |bad
def Qe(U:AB):Ne->Bool
 |[]=>true|d::ds=>U.f0 d&&Qe U ds
inductive Am where
 |sh (t:TV)
 |own (t:TV)
 |tp (ts:Fq)
 |turn (zs:Fp) (us:Fq)
 |cut (zs:Fp)
 |x5 (n:Nat) (es:Fq)
 |wQ (cs:List AN)
 |bo (cs cs':List AN) (i:Nat) (ts:Fq)
 |ext (ts:Fq)
 |ag (cs:List AN) (i:Nat) (r:Am)
 |mpr (kvs:BT) (ts:Fq)
def Am.WF:Am->Prop
 |.sh t=>t.WF|.own t=>t.WF|.tp ts=>TV.tn ts|.turn zs us=>(TV.list 1 (zs.map (TV.int .i64))).WF/\TV.tn us|.cut zs=>(TV.list 1 (zs.map (TV.int .i64))).WF|.x5 n es=>(TV.list n es).WF|.wQ cs=>∀c∈cs,c.t.WF|.bo _ cs' _ ts=>(∀c∈cs',c.t.WF)/\TV.tn ts|.ext ts=>TV.tn ts|.ag _ _ r=>r.WF|.mpr kvs ts=>BT.WF kvs/\TV.tn ts
def Am.plain:Am->Bool
 |.turn ..=>false|.cut _=>false|.bo ..=>false|.ext _=>false|.ag ..=>false|.mpr ..=>false|_=>true
def Am.ev:Am->EV
 |.sh t=>.tv t|.own t=>.ow t|.tp ts=>.tp ts|.x5 n es=>.ow (.list n es)|.wQ cs=>.tv (.agg (cs.map fun c=>c.rel.t))|_=>.undef
def Am.yF:Am->EV
 |.wQ cs=>.wQ cs|r=>r.ev
mutual
def TV.flat:TV->Bool
 |.int _ _=>true|.bool _=>true|.str _=>true|.agg cs=>TV.wv cs|_=>false
def TV.wv:Fq->Bool
 |[]=>true|t::ts=>t.flat&&TV.wv ts
end
def AN.toX:AN->AN
 |⟨true,.list n es⟩=>⟨true,.xl n es⟩|c=>c
def AN.Xable(c:AN):Prop:=∃n es,c=⟨true,.list n es⟩/\TV.wv es=true
def EV.free:EV->Bool
 |.tv t=>t.flat|.undef=>true|.sk=>true|_=>false
def AF.wn(U:AB):AF->Option ((Nat×Option Nat)×Nat×Fq)
 |.s m=>match U.get m with
  |.xo n es=>some ((m,none),n,es)|.la q i=>match U.tl q i with
   |some p=>some ((q,i),p)|none=>none
  |_=>none
 |.c _=>none
def AF.yL(U:AB)(x:AF):Option TV:=
 match x.wn U with
 |some p=>some (.list p.2.1 p.2.2)|none=>match x.ev U with
  |.bx cs=>some (.pt (cs.map AN.yu))|.bp q off=>match U.get q with
   |.bx cs=>some (.pt ((cs.drop off).map AN.yu))|_=>none
  |e=>e.val
def wN(U:AB):List AF->Option Fq
 |[]=>some []|x::xs=>match x.yL U,wN U xs with
  |some t,some ts=>some (t::ts)|_,_=>none
def Am.xa:Am->Bool
 |.sh t=>t.flat|.tp ts=>TV.wv ts|.own (.list _ es)=>TV.wv es|_=>false
def AN.xa:AN->Bool
 |⟨true,.list _ es⟩=>TV.wv es|⟨false,t⟩=>t.flat|_=>false
def Hx(U:AB):Nat->List AF->Option Fq
 |_,[]=>some []|0,_::xs=>match vals U xs with
  |some ts=>some (.undef::ts)|none=>none
 |i+1,x::xs=>match x.val U,Hx U i xs with
  |some t,some ts=>some (t::ts)|_,_=>none
def EV.zf:Fq->EV
 |[t]=>.tv t|ts=>.tp ts
def EA:List (Option AN)->Fq->Option (List AN)
 |[],[]=>some []|none::ps,t::ts=>match EA ps ts with
  |some cs=>some (⟨false,t⟩::cs)|none=>none
 |some c::ps,.nil::ts=>match c,EA ps ts with
  |⟨true,.list n []⟩,some cs=>some (⟨true,.list n []⟩::cs)|⟨true,.xl n []⟩,some cs=>some (⟨true,.xl n []⟩::cs)|⟨true,.xn []⟩,some cs=>some (⟨true,.xn []⟩::cs)|_,_=>none
 |_,_=>none
section
variable(S:FuncId->Fq->Am->Prop)
def AX{α:Type}(o:Option α)(K:α->Prop):Prop:=
 match o with
 |some a=>K a|none=>False
def Em:Fq->Option TV
 |[]=>none|t::_=>some t
def strip:AB->Nat->AB
 |U,s=>(s,.undef)::U
def AE.wp(U:AB)(dst:Option Nat)(K:EV->AB->Prop):AE->Prop
 |.mv x=>match x.ev U with
  |.tv t=>K (.tv t) U|.ow t=>K (.tv t) U|.tp ts=>K (.tp ts) U|_=>False
 |.tk s=>match U.get s with
  |.ow t=>K (.ow t) ((s,.tv t)::U)|.tv t=>K (.tv t) U|_=>False
 |.yw n=>K (.ow (.list n [])) U|.w3 x k=>match x.ev U with
  |.tv (.pt row)=>K (.tv (.pt (row.drop k))) U|.bp s off=>match U.get s with
   |.bx _=>K (.bp s (off+k)) U|_=>False
  |_=>False
 |.bad s k=>match U.get s with
  |.bx _=>K (.bp s k) U|.tv (.pt row)=>K (.tv (.pt (row.drop k))) U|_=>False
 |.yb x i n=>match x.val U,i.val U with
  |some (.list m es),some (.int _ j)=>m=n/\0<=j/\∃e,es[j.toNat]?=some e/\K (.tv (.pt e.cells)) U|_,_=>False
 |.y4 x i n k=>match x.ev U,i.val U with
  |.tv (.pt row),some (.int _ j)=>0<=j/\j<k/\k*n<=row.length/\K (.tv (.pt (row.drop (j.toNat*n)))) U|_,_=>False
 |.ld x=>AX (A1 U (x.ev U)) fun cs=>AX (Em cs) fun t=>t.xh=false/\K (.tv t) U|.yt x n=>AX (A1 U (x.ev U)) fun cs=>n<=cs.length/\K (.tv (.agg (cs.take n))) U|.zO s n=>match U.get s with
  |.bx cs=>n<=(cs.map (·.t)).length/\K (.tv (.agg ((cs.map (·.t)).take n))) U|_=>False
 |.zL x=>match x.place U with
  |some (s,off)=>match U.get s with
   |.bx cs=>match cs[off]? with
    |some ⟨true,.list n es⟩=>K (.ow (.list n es)) ((s,.bx (cs.set off ⟨false,.list n es⟩))::U)|_=>False
   |_=>False
  |none=>False
 |.bin k op x y=>match x.val U,y.val U with
  |some a,some b=>AX (Kn k op a b) fun t=>K (.tv t) U|_,_=>False
 |.not x=>match x.val U with
  |some (.bool b)=>K (.tv (.bool !b)) U|_=>False
 |.neg x=>match x.val U with
  |some (.int k n)=>K (.tv (.int k (k.wrap (-n)))) U|_=>False
 |.pick c a b=>match c.val U with
  |some (.bool q)=>match(if q then a else b).ev U with
   |.tv t=>K (.tv t) U|.ow t=>K (.tv t) U|_=>False
  |_=>False
 |.len x=>match x.val U with
  |some (.list _ es)=>K (.tv (.int .i64 es.length)) U|_=>False
 |.yX x=>match x.val U with
  |some (.str s)=>K (.tv (.int .i64 s.size)) U|_=>False
 |.xu n x lo hi=>match x.val U with
  |some (.list m es)=>match Gi U 0 lo,Gi U es.length hi with
   |some (.int _ l),some (.int _ h)=>(m=n/\0<=l/\l<=h)/\h<=es.length/\K (.tv (.list n ((es.take h.toNat).drop l.toNat))) U|_,_=>False
  |_=>False
 |.xi x lo hi=>match x.val U with
  |some (.str s)=>match Gi U 0 lo,Gi U s.size hi with
   |some (.int _ l),some (.int _ h)=>0<=l/\l<=h/\h<=s.size/\K (.tv (.str (s.extract l.toNat h.toNat))) U|_,_=>False
  |_=>False
 |.yq zero parts=>AX (EL U parts) fun ts=>AX (EP zero ts) fun cs=>K (.tv (.agg cs)) U|.yI n parts=>AX (vals U parts) fun ts=>(∀t∈ts,t.cells.length=n)/\K (.ow (.list n ts)) U|.app n x y=>match x.ev U,y.val U with
  |.ow (.list m es),some (.list m' fs)=>m=n/\m'=n/\es.length+fs.length<=Aj/\
    K (.ow (.list n (es++fs))) (match x with|.s s=>(s,.tv (.list n es))::U|_=>U)
  |_,_=>False
 |.call f args=>AX (vals U args) fun ts=>∃r,(S f ts r/\r.plain=true)/\(r.WF->K r.ev U)|.ye x args=>match x.val U,vals U args with
  |some (.w8 f caps),some ts=>∃r,(S f (ts++caps) r/\r.plain=true)/\(r.WF->K r.ev U)|_,_=>False
 |.w8 f caps=>AX (vals U caps) fun ts=>K (.tv (.w8 f ts)) U|.ext x i=>match x.ev U with
  |.tp ts=>AX ts[i]? fun t=>K (.tv t) U|_=>False
 |.yA k x=>match x.val U with
  |some (.int _ n)=>K (.tv (.int k (k.wrap n))) U|_=>False
 |.xc x i=>match x.val U,i.val U with
  |some (.str s),some (.int _ j)=>0<=j/\∃b,s[j.toNat]?=some b/\K (.tv (.int .u8 b.toNat)) U|_,_=>False
 |.yr x=>match x.val U with
  |some t=>K (.tv (.pt t.cells)) U|_=>False
 |.yK x=>match x.val U,dst with
  |some t,some d=>U.f0 d=true/\K (.bx (t.cells.map (⟨false,·⟩))) U|_,_=>False
 |.mm mx x y=>match x.val U,y.val U with
  |some (.int k a),some (.int k' b)=>k=k'/\K (.tv (.int k (if mx then max a b else min a b))) U|_,_=>False
 |.yY cs=>match dst with
  |some d=>U.f0 d=true/\K (.bx cs) U|none=>False
 |.st n x v=>match x.place U with
  |some (s,off)=>match U.get s with
   |.bx cs=>match v.ev U with
    |.ow t=>match v with
     |.s q=>q≠s/\n=1/\off<cs.length/\K .undef ((s,.bx (cs.set off ⟨true,t⟩))::(q,.tv t)::U)|_=>False
    |.tv t=>t.cells.length=n/\off+n<=cs.length/\K .undef ((s,.bx (cs.take off++t.cells.map (⟨false,·⟩)++cs.drop (off+n)))::U)|_=>False
   |_=>False
  |none=>False
 |.yy n s v=>match U.get s with
  |.bx cs=>match v.ev U with
   |.ow t=>match v with
    |.s q=>q≠s/\n=1/\0<cs.length/\K .undef ((s,.bx (cs.set 0 ⟨true,t⟩))::(q,.tv t)::U)|_=>False
   |.tv t=>t.cells.length=n/\0+n<=cs.length/\K .undef ((s,.bx (cs.take 0++t.cells.map (⟨false,·⟩)++cs.drop (0+n)))::U)|_=>False
  |_=>False
 |.ze s=>match U.get s with
  |.bx cs=>K .undef ((s,.tv (.pt (cs.map (·.t))))::U)|_=>False
 |.yG x k n agg=>match x.val U with
  |some (.agg cs)=>k+n<=cs.length/\(if agg then K (.tv (.agg ((cs.drop k).take n))) U else AX (Em (cs.drop k)) fun t=>K (.tv t) U)|_=>False
 |.zg s=>match U.get s with
  |.xo _ _=>K (.la s none) U|_=>False
 |.yD x=>AX (x.wn U) fun p=>K (.tv (.int .i64 p.2.2.length)) U|.zy x i n=>AX (x.wn U) fun p=>match i.val U with
  |some (.int _ j)=>((x.ev U).we=some p.1.1/\p.2.1=n)/\0<=j/\j<p.2.2.length/\K (.lp p.1.1 p.1.2 (j.toNat*n)) U|_=>False
 |.xfa x k=>match x.ev U with
  |.lp q i c=>match U.tl q i with
   |some _=>K (.lp q i (c+k)) U|none=>False
  |_=>False
 |.zv x i n=>match x.ev U,i.val U with
  |.la q none,some (.int _ j)=>match U.get q with
   |.xo m es=>m=n/\0<=j/\j<es.length/\K (.lp q none (j.toNat*n)) U|_=>False
  |_,_=>False
 |.y8 x=>match x.ev U with
  |.lp q none c=>match U.get q with
   |.xo _ es=>AX (es.flatMap TV.cells)[c]? fun t=>K (.tv t) U|_=>False
  |_=>False
 |.zD x=>match x.ev U with
  |.lp q i c=>match U.tl q i with
   |some p=>AX (p.2.flatMap TV.cells)[c]? fun t=>K (.tv t) U|none=>False
  |_=>False
 |.yx x v k=>match x.ev U with
  |.lp q i c=>match U.tl q i,v.ev U with
   |some (n,es),.tv t=>(t.cells.length=k/\0<k)/\c+k<=es.length*n/\∃es',es'.flatMap TV.cells=(es.flatMap TV.cells).take c++t.cells++(es.flatMap TV.cells).drop (c+k)/\es'.length=es.length/\(∀e∈es',e.cells.length=n)/\K .undef (U.ww q i n es')|_,_=>False
  |_=>False
 |.rel s=>match dst,U.get s with
  |some d,.xo n es=>d≠s/\K (.ow (.list n es)) ((s,.undef)::U)|_,_=>False
 |.yd n=>match dst with
  |some d=>U.f0 d=true/\K (.xo n []) U|none=>False
 |.yW s=>match dst,U.get s with
  |some d,.xo n es=>U.f0 d=true/\d≠s/\K (.xo n es) ((s,.undef)::U)|_,_=>False
 |.x4 n s y=>match dst,U.get s,y.val U with
  |some d,.xo m es,some (.list m' fs)=>m=n/\m'=n/\es.length+fs.length<=Aj/\U.f0 d=true/\d≠s/\K (.xo n (es++fs)) ((s,.undef)::U)|_,_,_=>False
 |.xz f args=>match dst with
  |some d=>U.f0 d=true/\AX (vals U args) fun ts=>∃n es,(S f ts (.x5 n es)\/(S f ts (.own (.list n es))/\TV.wv es=true))/\((TV.list n es).WF->K (.xo n es) U)|none=>False
 |.yg n zero x=>match dst,x.val U with
  |some d,some (.int _ j)=>U.f0 d=true/\0<=j/\j<=4096/\K (.xo n (List.replicate j.toNat (match zero with|[t]=>t|ts=>.agg ts))) U
  |_,_=>False
 |.yR n zero x=>match dst,x.val U with
  |some d,some (.int _ j)=>U.f0 d=true/\0<=j/\j<=4096/\K (.ow (.list n (List.replicate j.toNat (match zero with|[t]=>t|ts=>.agg ts)))) U
  |_,_=>False
 |.wP gs=>match dst with
  |some d=>((gs.filterMap GC.src).Nodup/\d∉gs.filterMap GC.slot)/\AX (FA U gs) fun cs=>K (.wQ cs) (Mm U (gs.filterMap GC.slot) U)|none=>False
 |.stx n s q=>match U.get s,U.get q with
  |.bx cs,.wQ ds=>q≠s/\(ds.length=n/\((ds.all fun c=>!c.t.xh)||U.yp s none)=true)/\0+n<=cs.length/\K .undef ((s,.bx (cs.take 0++ds++cs.drop (0+n)))::(q,.undef)::U)|_,_=>False
 |.xY f args=>AX (wN U args) fun ts=>∃cs,(S f ts (.wQ cs)/\(vals U args=some ts\/cs.all AN.xa=true))/\((∀c∈cs,c.t.WF)->K (.wQ cs) U)|.xj f args=>AX (vals U args) fun ts=>∃cs,S f ts (.wQ cs)/\(∀c∈cs,c.Xable)/\((∀c∈cs,c.t.WF)->K (.wQ (cs.map AN.toX)) U)|.zJ x k=>match x.val U with
  |some (.pt row)=>K (.tv (.pt (row.drop k))) U|_=>False
 |.zN x n=>match x.val U with
  |some (.pt row)=>n<=row.length/\K (.tv (.agg (row.take n))) U|_=>False
 |.y9 x=>match x.val U with
  |some (.list _ es)=>∀b:Bool,(b=true->es=[])->K (.tv (.bool b)) U|some .nil=>K (.tv (.bool true)) U|_=>False
 |.xk f x ys=>AX (x.wn U) fun p=>p.2.1=1/\AX (vals U ys) fun ts=>∃(zs zs':Fp)(us:Fq),p.2.2=zs.map (TV.int .i64)/\S f (.list 1 p.2.2::ts) (.turn zs' us)/\((Am.turn zs' us).WF->K (EV.zf us) (U.ww p.1.1 p.1.2 1 (zs'.map (TV.int .i64))))|.xP f x=>match dst with
  |some d=>AX (x.wn U) fun p=>(p.1.1≠d/\p.1.2=none)/\p.2.1=1/\U.f0 d=true/\∃zs zs':Fp,p.2.2=zs.map (TV.int .i64)/\S f [.list 1 p.2.2] (.cut zs')/\((TV.list 1 (zs'.map (TV.int .i64))).WF->K (.xo 1 (zs'.map (TV.int .i64))) ((p.1.1,.undef)::U))|none=>False
 |.zT x=>match x.ev U with
  |.bp s off=>match U.tl s (some off)with
   |some _=>K (.la s (some off)) U|none=>False
  |_=>False
 |.zb x=>match dst,x.place U with
  |some d,some (s,off)=>match U.get s with
   |.bx cs=>match cs[off]? with
    |some ⟨true,.xl n es⟩=>U.f0 d=true/\K (.xo n es) ((s,.bx (cs.set off ⟨false,.undef⟩))::U)|some ⟨true,.xn es⟩=>U.f0 d=true/\K (.xn es) ((s,.bx (cs.set off ⟨false,.undef⟩))::U)|_=>False
   |_=>False
  |_,_=>False
 |.zp x q=>match x.place U,U.get q with
  |some (s,off),.xo n es=>match U.get s with
   |.bx cs=>U.yp s (some off)=true/\off<cs.length/\K .undef ((s,.bx (cs.set off ⟨true,.xl n es⟩))::(q,.undef)::U)|_=>False
  |some (s,off),.xn es=>match U.get s with
   |.bx cs=>U.yp s (some off)=true/\off<cs.length/\K .undef ((s,.bx (cs.set off ⟨true,.xn es⟩))::(q,.undef)::U)|_=>False
  |_,_=>False
 |.cut n s hi=>match dst,U.get s,hi.val U with
  |some d,.xo m es,some (.int _ h)=>(m=n/\U.f0 d=true/\d≠s)/\0<=h/\h<=es.length/\K (.xo n (es.take h.toNat)) ((s,.undef)::U)|_,_,_=>False
 |.yj n s z x=>match dst,U.get s,x.val U with
  |some d,.xo m es,some (.int _ j)=>((m=n/\n=1)/\z.cells=[z])/\(0<=j/\j<=4096)/\(es.length+j.toNat<=Aj/\U.f0 d=true/\d≠s)/\K (.xo n (es++List.replicate j.toNat z)) ((s,.undef)::U)|_,_,_=>False
 |.xD f args=>AX (wN U args) fun ts=>∃r,(S f ts r/\r.xa=true)/\(r.WF->K r.ev U)|.xZ f args=>AX (vals U args) fun ts=>∃us,S f ts (.ext us)/\K (.tp us) U|.yn ps x=>match x.val U,dst with
  |some t,some d=>AX (EA ps t.cells) fun cs=>U.f0 d=true/\K (.bx cs) U|_,_=>False
 |.ym n=>match dst with
  |some d=>U.f0 d=true/\K (.xo n []) U|none=>False
 |.w6 f args i=>match dst,(args[i]?).bind (·.place U)with
  |some d,some (s,0)=>match U.get s with
   |.bx cs=>(U.yp s none=true/\d≠s)/\AX (Hx U i args) fun ts=>∃cs' us,S f ts (.bo cs cs' i us)/\((∀c∈cs',c.t.WF)/\TV.tn us->K (EV.zf us) ((s,.bx cs')::U))|_=>False
  |_,_=>False
 |.yv q=>match dst,U.get q with
  |some d,.xo n fs=>(U.f0 d=true/\d≠q)/\K (.x1 n fs) ((q,.undef)::U)|_,_=>False
 |.xC m q=>match dst,U.get m,U.get q with
  |some d,.nh s off .hd,.x1 n fs=>match U.get s with
   |.bx cs=>AX (U.nat s off) fun es=>es.length+1<=Aj/\(U.f0 d=true/\d≠m/\d≠q/\m≠q)/\K (.xn (es++[.list n fs])) ((s,.bx (cs.set off ⟨false,.undef⟩))::(m,.undef)::(q,.undef)::U)|_=>False
  |_,_,_=>False
 |.zu x=>match x.ev U with
  |.bp s off=>AX (U.nat s off) fun _=>K (.nh s off .hd) U|_=>False
 |.yO x i=>match x.ev U,i.val U with
  |.nh s off .hd,some (.int _ j)=>AX (U.nat s off) fun es=>0<=j/\j<es.length/\K (.nh s off (.el j.toNat)) U|.nh s off (.rw r),some (.int _ j)=>AX (U.nat s off) fun es=>0<=j/\∃fs,es[r]?=some (.list 1 fs)/\j<fs.length/\K (.nh s off (.rp r j.toNat)) U|_,_=>False
 |.zj x=>match x.ev U with
  |.nh s off (.el r)=>AX (U.nat s off) fun es=>r<es.length/\K (.nh s off (.rw r)) U|_=>False
 |.yP x v=>match x.ev U,v.ev U with
  |.nh s off (.rp r c),.tv t=>AX (U.nat s off) fun es=>∃fs,es[r]?=some (.list 1 fs)/\c<fs.length/\t.cells=[t]/\t.flat=true/\K .undef (U.za s off (es.set r (.list 1 (fs.set c t))))|_,_=>False
 |.yH q=>match dst,U.get q with
  |some d,.wQ cs=>(U.f0 d=true/\d≠q)/\K (.bx cs) ((q,.undef)::U)|_,_=>False
 |.xF f args i=>match dst,args[i]? with
  |some d,some (.s q)=>match U.get q with
   |.wQ cs=>d≠q/\AX (Hx U i args) fun ts=>∃r,S f (ts.set i (.agg (cs.map fun _=>.undef))) (.ag cs i r)/\(r.WF->K r.yF ((q,.undef)::U))|_=>False
  |_,_=>False
 |.ldg s n=>match dst,U.get s with
  |some d,.bx cs=>cs.length=n/\d≠s/\K (.wQ cs) ((s,.bx (cs.map fun _=>⟨false,.undef⟩))::U)|_,_=>False
 |.zh n ps x v=>match x.place U,v.val U with
  |some (s,off),some t=>match U.get s with
   |.bx cs=>AX (EA ps t.cells) fun ds=>t.cells.length=n/\off+n<=cs.length/\U.yp s none=true/\K .undef ((s,.bx (cs.take off++ds++cs.drop (off+n)))::U)|_=>False
  |_,_=>False
 |.yQ=>∀b,K (.mx (.mp b [])) U|.zI s=>match U.get s with
  |.mx (.mp b _)=>K (.tv (.xJ b)) U|.mx (.tm b _ ts)=>K (.tp (.xJ b::ts)) U|.tp ts=>K (.tp ts) U|_=>False
 |.xw f args=>AX (vals U args) fun ts=>(∃us,S f ts (.tp us)/\(TV.tn us->K (.tp us) U))\/∃kvs us,S f ts (.mpr kvs us)/\(BT.WF kvs/\TV.tn us->∀b,K (.mx (.tm b kvs us)) U)|.zK s m x=>match U.get s,m.val U,x.val U with
  |.mx (.mp b kvs),some (.xJ b'),some t=>b=b'/\AX t.zc? fun k=>K (.tp [.int .i64 ((kvs.look k).getD 0),.bool (kvs.look k).isSome]) U|_,_,_=>False
 |.zi s m x v=>match U.get s,m.val U,x.val U with
  |.mx (.mp b kvs),some (.xJ b'),some t=>match v.val U with
   |some (.int .i64 n)=>b=b'/\AX t.zc? fun k=>K .undef ((s,.mx (.mp b (kvs.set k n)))::U)|_=>False
  |_,_,_=>False
 |.wi s m=>match dst,U.get s,m.val U with
  |some d,.mx (.tm b kvs _),some (.xJ b')=>(d≠s/\b=b')/\K (.mx (.mi none kvs)) ((s,.undef)::U)|_,_,_=>False
 |.zm s=>match dst,U.get s with
  |some d,.mx (.mi _ todo)=>d≠s/\(todo=[]->K (.tp [.bool false]) U)/\∀p todo',todo.Perm (p::todo')->K (.tp [.bool true,QT p.1,.int .i64 p.2]) ((s,.mx (.mi (some p) todo'))::U)|_,_=>False
 |.zr s=>match U.get s with
  |.mx (.mi (some p) _)=>K (.tp [QT p.1,.int .i64 p.2]) U|_=>False
def AB.put(U:AB)(dst:Option Nat)(e:EV):AB:=
 match dst with
 |some d=>(d,e)::U|none=>U
def PR.wp(U:AB)(K:AB->Prop)(o:PR):Prop:=
 match o.guard with
 |none=>o.op.wp S U o.dst fun e env'=>K (env'.put o.dst e)|some (g,b)=>match U.get g with
  |.tv (.bool q)=>(q=b->o.op.wp S U o.dst fun e env'=>K (env'.put o.dst e))/\(q=!b->K (U.put o.dst .sk))|.sk=>K (U.put o.dst .sk)|_=>False
def wpOps(K:AB->Prop):List PR->AB->Prop
 |[],U=>K U|o::os,U=>o.wp S U fun env'=>wpOps K os env'
structure Q where
 normal:AB->Prop
 exit:Nat->AB->Prop
 ret:AB->Prop
def PC.wp:PC->Q->AB->Prop
 |.skip live,q,U=>q.normal (U.ff live)|.ret,q,U=>q.ret U|.exit id live,q,U=>q.exit id (U.ff live)|.seq a b,q,U=>a.wp {q with normal:=fun e=>(∀s,(e.get s).WF)->b.wp q e} U
 |.cond c a b,q,U=>match c.val U with
  |some (.bool x)=>(x=true->a.wp q U)/\(x=false->b.wp q U)|_=>False
 |.block id c,q,U=>c.wp {q with exit:=fun i e=>if i=id then q.normal e else q.exit i e} U
 |.loop live c,q,U=>∀X:AB->Prop,(∀e,((∀s,(e.get s).WF)->c.wp {q with normal:=fun e'=>X (e'.ff live)} e)->X e)->X (U.ff live)
 |.region ops live,q,U=>wpOps S (fun e=>q.normal (e.ff live)) ops U|.draw D ops live,q,U=>Qe U D=true/\wpOps S (fun e=>q.normal (e.ff live)) ops U|.bad,_,_=>False|.zk s c,q,U=>match U.get s with
  |.bx cs=>c.wp q ((s,.bx (cs.map AN.rel))::U)|_=>False
end
inductive RV where
 |tmp (s:Nat)
 |cell (s:Nat) (agg:Option Nat)
def RV.get(U:AB):RV->Option TV
 |.tmp s=>(U.get s).val|.cell s none=>match A1 U (U.get s)with
  |some (t::_)=>some t|_=>none
 |.cell s (some n)=>match A1 U (U.get s)with
  |some cs=>if cs.length=n then some (.agg cs)else none|none=>none
def D5(U:AB):List RV->Option Fq
 |[]=>some []|x::xs=>match x.get U,D5 U xs with
  |some t,some ts=>some (t::ts)|_,_=>none
def BO(rs:List RV)(r:Am)(U:AB):Prop:=
 match r,rs with
 |.own t,[.tmp s]=>U.get s=.ow t|.own _,_=>False|.sh t,[x]=>x.get U=some t|.sh _,_=>False|.tp ts,rs=>rs.length≠1/\D5 U rs=some ts|.turn zs us,rs=>U.get 0=.xo 1 (zs.map (TV.int .i64))/\D5 U rs=some us|.cut _,_=>False|.x5 n es,[.tmp s]=>U.get s=.xo n es|.x5 _ _,_=>False|.wQ cs,[.cell s (some n)]=>U.get s=.bx cs/\cs.length=n|.wQ _,_=>False|.bo _ cs' i ts,rs=>U.get i=.bx cs'/\D5 U rs=some ts|.ext _,_=>False|.ag _ _ r,rs=>BO rs r U|.mpr kvs ts,.tmp s::rs=>rs≠[]/\(∃b o,U.get s=.tv (.xJ b)/\U.get o=.mx (.mp b kvs))/\D5 U rs=some ts|.mpr _ _,_=>False
end Go.Sf
namespace Go.Sf
def BY(w w':World)(F F':Nat->Nat->Prop):Prop:=
 ∀b o v,w.cell? ⟨b,o,none⟩=some v->¬F b o->w'.cell? ⟨b,o,none⟩=some v/\¬F' b o
section
variable{w w':World}{F F':Nat->Nat->Prop}
mutual
theorem B5(h:BY w w' F F'):∀(t:TV)(v:Value),Ah w F t v->Ah w' F' t v
 |.undef,_,a=>a|.int _ _,_,a=>a|.bool _,_,a=>a|.str _,_,a=>a|.nil,_,a=>a|.list n es,v,a=>by
  have:=Rc h n es
  grind [Ah]
 |.agg cs,v,a=>by
  have:=Ak h cs
  grind [Ah]
 |.pt row,v,a=>by
  have:=OG h row
  grind [Ah]
 |.w8 f c,v,a=>by
  have:=Ak h c
  grind [Ah]
 |.xl _ _,_,a=>a|.xn _,_,a=>a|.xJ _,_,a=>a
theorem Ak(h:BY w w' F F'):∀(ts:Fq)(vs:List Value),AQ w F ts vs->AQ w' F' ts vs
 |[],_,a=>a|t::ts,vs,a=>by
  simp [AQ]at a|-;obtain⟨v,r,c,d,e⟩:=a;exact⟨v,r,c,B5 h t v d,Ak h ts r e⟩
theorem OG(h:BY w w' F F'):∀(ts:Fq)(b o:Nat),C8 w F ts b o->C8 w' F' ts b o
 |[],_,_,_=>trivial|t::ts,b,o,d=>by
  simp [C8]at d|-;obtain⟨⟨v,a,c,e,f⟩,g⟩:=d;exact⟨⟨v,(h b o v a c).1,(h b o v a c).2,e,B5 h t v f⟩,OG h ts b (o+1) g⟩
theorem Rc(h:BY w w' F F')(n:Nat):∀(ts:Fq)(b o:Nat),Hs w F n ts b o->Hs w' F' n ts b o
 |[],_,_,_=>trivial|t::ts,b,o,a=>by
  simp [Hs]at a|-;exact⟨dn h t b o a.1,a.2.1,Rc h n ts b (o+n) a.2.2⟩
theorem dn(h:BY w w' F F'):∀(t:TV)(b o:Nat),Hr w F t b o->Hr w' F' t b o
 |.agg cs,b,o,c=>OG h cs b o c|.undef,b,o,c=>by
  simp [Hr]at c|-;obtain⟨v,d,e,g⟩:=c;exact⟨v,(h b o v d e).1,(h b o v d e).2,g⟩
 |.int _ _,b,o,c=>by
  simp [Hr]at c|-;obtain⟨v,d,e,g⟩:=c;exact⟨v,(h b o v d e).1,(h b o v d e).2,g⟩
 |.bool _,b,o,c=>by
  simp [Hr]at c|-;obtain⟨v,d,e,g⟩:=c;exact⟨v,(h b o v d e).1,(h b o v d e).2,g⟩
 |.str _,b,o,c=>by
  simp [Hr]at c|-;obtain⟨v,d,e,g⟩:=c;exact⟨v,(h b o v d e).1,(h b o v d e).2,g⟩
 |.nil,b,o,c=>by
  simp [Hr]at c|-;obtain⟨v,d,e,g⟩:=c;exact⟨v,(h b o v d e).1,(h b o v d e).2,g⟩
 |.list n es,b,o,c=>by
  simp [Hr]at c|-;obtain⟨v,d,e,j,a,cap,g,q,k,p⟩:=c;exact⟨v,(h b o v d e).1,(h b o v d e).2,j,a,cap,g,q,k,fun m i=>⟨(p m i).1,Rc h n es _ _ (p m i).2⟩⟩
 |.pt row,b,o,c=>by
  simp [Hr]at c|-;obtain⟨v,d,e,j,r,s,g,k⟩:=c;exact⟨v,(h b o v d e).1,(h b o v d e).2,j,r,s,g,OG h row _ _ k⟩
 |.w8 f l,b,o,c=>by
  simp [Hr]at c|-;obtain⟨v,d,e,j,vs,g,k⟩:=c;exact⟨v,(h b o v d e).1,(h b o v d e).2,j,vs,g,Ak h l _ k⟩
 |.xl _ _,b,o,c=>by
  simp [Hr]at c|-;obtain⟨v,d,e,g⟩:=c;exact⟨v,(h b o v d e).1,(h b o v d e).2,g⟩
 |.xn _,b,o,c=>by
  simp [Hr]at c|-;obtain⟨v,d,e,g⟩:=c;exact⟨v,(h b o v d e).1,(h b o v d e).2,g⟩
 |.xJ _,b,o,c=>by
  simp [Hr]at c|-;obtain⟨v,d,e,g⟩:=c;exact⟨v,(h b o v d e).1,(h b o v d e).2,g⟩
end
end
section
variable{w:World}{F:Nat->Nat->Prop}
theorem IA:∀(ts:Fq)(b o:Nat),C8 w F ts b o↔∀i t,ts[i]?=some t->∃v,w.cell? ⟨b,o+i,none⟩=some v/\¬F b (o+i)/\v.oneCell'=true/\Ah w F t v
 |[],_,_=>by simp[C8]|t::ts,b,o=>by
  simp [C8,IA ts b (o+1)];constructor
  .grind
  .intro h;refine⟨by simpa using h 0 t rfl,fun i u hi=>?_⟩;have:=h (i+1) u (by simpa using hi)
   grind
variable{ts:Fq}{b o:Nat}
theorem OF(h:C8 w F ts b o)(k:Nat):C8 w F (ts.drop k) b (o+k):=by
 rw [IA]at h|-
 grind
theorem aq(h:C8 w F ts b o)(k:Nat):C8 w F (ts.take k) b o:=by
 rw [IA]at h|-
 grind
variable{n:Nat}
theorem O6{e:TV}{es:Fq}:Hs w F n (e::es) b o↔C8 w F e.cells b o/\e.cells.length=n/\Hs w F n es b (o+n):=by grind[Hs,dm]
theorem QJ(n:Nat):∀(es:Fq)(b o:Nat),Hs w F n es b o↔∀i e,es[i]?=some e->C8 w F e.cells b (o+i*n)/\e.cells.length=n
 |[],_,_=>by simp[Hs]|e::es,b,o=>by
  rw [O6,QJ n es b (o+n)];constructor
  .rintro⟨c,d,f⟩ i u hi;cases i with
   |zero=>simp at hi;subst hi;simpa using⟨c,d⟩|succ i=>
    grind
  .intro h;have a:=h 0 e rfl;simp at a;refine⟨a.1,a.2,fun i u hi=>?_⟩;have:=h (i+1) u (by simpa using hi)
   grind
theorem BZ:∀(ts:Fq)(vs:List Value),AQ w F ts vs↔vs.length=ts.length/\∀(i:Nat)(t:TV)(v:Value),ts[i]?=some t->vs[i]?=some v->Ah w F t v
 |[],vs=>by simp[AQ]|t::ts,vs=>by
  simp [AQ];constructor
  .rintro⟨v,r,rfl,c,a⟩;rw[BZ ts r]at a
   grind
  .rintro⟨c,a⟩;cases vs with
   |nil=>simp at c|cons v r=>exact⟨v,r,rfl,a 0 t v rfl rfl,(BZ ts r).2 ⟨by simpa using c,fun i u x hi d=>a (i+1) u x (by simpa using hi) (by simpa using d)⟩⟩
theorem Ho{ts a:Fq}{vs xs:List Value}(c:AQ w F ts vs)(d:AQ w F a xs):AQ w F (ts++a) (vs++xs):=by
 induction ts generalizing vs with
 |nil=>simp[AQ]at c;subst c;simpa using d|cons t ts e=>
  grind [AQ]
theorem GA{t:TV}{v:Value}(h:Ah w F t v):AQ w F t.cells v.cells.toList/\∀x∈v.cells.toList,x.oneCell'=true:=by
 have one:∀{v:Value}{t:TV},v.cells=#[v]->v.oneCell'=true->Ah w F t v->t.cells=[t]->AQ w F t.cells v.cells.toList/\∀x∈v.cells.toList,x.oneCell'=true:=by
  intro v t j d e l;rw[j,l];exact⟨⟨v,[],rfl,e,rfl⟩,by simpa using d⟩
 cases t with
 |agg cs=>simp only[Ah]at h;obtain⟨vs,rfl,d,e⟩:=h;exact⟨d,fun x i=>List.all_eq_true.1 e x i⟩
 |undef=>have c:=h;simp[Ah]at h;cases v<;>first|exact one rfl rfl c rfl|(simp[Value.oneCell']at h)
 |xl n es=>have c:=h;simp[Ah]at h;cases v<;>first|exact one rfl rfl c rfl|(simp[Value.oneCell']at h)
 |xn es=>have c:=h;simp[Ah]at h;cases v<;>first|exact one rfl rfl c rfl|(simp[Value.oneCell']at h)
 |int k n=>have c:=h;simp[Ah]at h;subst h;exact one rfl rfl c rfl|bool b=>have c:=h;simp[Ah]at h;subst h;exact one rfl rfl c rfl|xJ b=>have c:=h;simp[Ah]at h;subst h;exact one rfl rfl c rfl|str s=>have c:=h;simp[Ah]at h;subst h;exact one rfl rfl c rfl|nil=>have c:=h;simp[Ah]at h;subst h;exact one rfl rfl c rfl|list n es=>have c:=h;simp[Ah]at h;obtain⟨a,cap,rfl,_⟩:=h;exact one rfl rfl c rfl
 |pt row=>have c:=h;simp[Ah]at h;obtain⟨b,o,rfl,_⟩:=h;exact one rfl rfl c rfl
 |w8 f g=>have c:=h;simp[Ah]at h;obtain⟨vs,rfl,_⟩:=h;exact one rfl rfl c rfl
end
end Go.Sf
namespace Go.Sf
section
variable(S:FuncId->Fq->Am->Prop)
theorem wp_skip(l:Ne)(q:Q)(U:AB):PC.wp S (.skip l) q U=q.normal (U.ff l):=rfl
theorem wp_ret(q:Q)(U:AB):PC.wp S .ret q U=q.ret U:=rfl
theorem wp_exit(id:Nat)(l:Ne)(q:Q)(U:AB):PC.wp S (.exit id l) q U=q.exit id (U.ff l):=rfl
theorem wp_seq(a b:PC)(q:Q)(U:AB):PC.wp S (.seq a b) q U=a.wp S {q with normal:=fun e=>(∀s,(e.get s).WF)->b.wp S q e} U:=rfl
theorem wp_block(id:Nat)(c:PC)(q:Q)(U:AB):PC.wp S (.block id c) q U=c.wp S {q with exit:=fun i e=>if i=id then q.normal e else q.exit i e} U:=rfl
theorem wp_region(ops:List PR)(a:Ne)(q:Q)(U:AB):PC.wp S (.region ops a) q U=wpOps S (fun e=>q.normal (e.ff a)) ops U:=rfl
theorem BW{α:Type}{o:Option α}{K K':α->Prop}(h:∀a,K a->K' a):AX o K->AX o K':=by
 cases o<;>simp[AX];exact h _
theorem AE.ns(U:AB)(dst:Option Nat){K K':EV->AB->Prop}(h:∀e env',K e env'->K' e env')(op:AE)(d:op.wp S U dst K):op.wp S U dst K':=by
 cases op<;>simp only[AE.wp]at d|-
 case ld=>exact BW (fun _=>BW (fun _ g=>⟨g.1,h _ _ g.2⟩)) d
 case yt=>exact BW (fun _ g=>⟨g.1,h _ _ g.2⟩) d
 case yq=>exact BW (fun _=>BW (fun _=>h _ _)) d
 case yI=>exact BW (fun _ g=>⟨g.1,h _ _ g.2⟩) d
 case call=>exact BW (fun _⟨r,i,f⟩=>⟨r,i,fun j=>h _ _ (f j)⟩) d
 case w8=>exact BW (fun _=>h _ _) d
 case mm=>split at d<;>first|exact d.elim|exact⟨d.1,h _ _ d.2⟩
 case yG x k n agg=>
  split at d
  .refine⟨d.1,?_⟩;have f:=d.2;cases agg
   .exact BW (fun _=>h _ _) f
   .exact h _ _ f
  .exact d.elim
 case yD=>exact BW (fun _=>h _ _) d
 case zy=>exact BW (fun p u=>by
  split at u
  .exact⟨u.1,u.2.1,u.2.2.1,h _ _ u.2.2.2⟩
  .exact u.elim) d
 case yx=>
  split at d
  .split at d
   .obtain⟨i,f,es',l,q,v,D⟩:=d;exact⟨i,f,es',l,q,v,h _ _ D⟩
   .exact d.elim
  .exact d.elim
 case ym=>split at d<;>first|exact d.elim|exact⟨d.1,h _ _ d.2⟩
 case yd=>split at d<;>first|exact d.elim|exact⟨d.1,h _ _ d.2⟩
 case yW=>split at d<;>first|exact d.elim|exact⟨d.1,d.2.1,h _ _ d.2.2⟩
 case x4=>split at d<;>first|exact d.elim|exact⟨d.1,d.2.1,d.2.2.1,d.2.2.2.1,d.2.2.2.2.1,h _ _ d.2.2.2.2.2⟩
 case xz=>
  split at d
  .exact⟨d.1,BW (fun ts⟨n,es,i,f⟩=>⟨n,es,i,fun j=>h _ _ (f j)⟩) d.2⟩
  .exact d.elim
 case wP=>
  split at d
  .exact⟨d.1,BW (fun _=>h _ _) d.2⟩
  .exact d.elim
 case stx=>split at d<;>first|exact d.elim|exact⟨d.1,d.2.1,d.2.2.1,h _ _ d.2.2.2⟩
 case xY=>exact BW (fun ts⟨cs,i,f⟩=>⟨cs,i,fun j=>h _ _ (f j)⟩) d
 case xj=>exact BW (fun ts⟨cs,i,l,f⟩=>⟨cs,i,l,fun j=>h _ _ (f j)⟩) d
 case xD=>exact BW (fun _⟨r,i,f⟩=>⟨r,i,fun j=>h _ _ (f j)⟩) d
 case yn=>
  split at d
  .exact BW (fun _ g=>⟨g.1,h _ _ g.2⟩) d
  .exact d.elim
 case xZ=>exact BW (fun ts⟨m,i,f⟩=>⟨m,i,h _ _ f⟩) d
 case yj=>
  split at d
  .exact⟨d.1,d.2.1,d.2.2.1,h _ _ d.2.2.2⟩
  .exact d.elim
 case w6=>
  split at d
  .split at d
   .exact⟨d.1,BW (fun ts⟨cs',m,i,f⟩=>⟨cs',m,i,fun j=>h _ _ (f j)⟩) d.2⟩
   .exact d.elim
  .exact d.elim
 case zu=>
  split at d
  .exact BW (fun _ g=>h _ _ g) d
  .exact d.elim
 case xC=>
  split at d
  .split at d
   .exact BW (fun _ g=>⟨g.1,g.2.1,h _ _ g.2.2⟩) d
   .exact d.elim
  .exact d.elim
 case yO=>
  split at d
  .exact BW (fun _ g=>⟨g.1,g.2.1,h _ _ g.2.2⟩) d
  .exact BW (fun _⟨i,y,f,l,q⟩=>⟨i,y,f,l,h _ _ q⟩) d
  .exact d.elim
 case zj=>
  split at d
  .exact BW (fun _ g=>⟨g.1,h _ _ g.2⟩) d
  .exact d.elim
 case yP=>
  split at d
  .exact BW (fun _⟨y,i,f,l,q,v⟩=>⟨y,i,f,l,q,h _ _ v⟩) d
  .exact d.elim
 case xF=>
  split at d
  .split at d
   .exact⟨d.1,BW (fun _⟨r,i,f⟩=>⟨r,i,fun j=>h _ _ (f j)⟩) d.2⟩
   .exact d.elim
  .exact d.elim
 case zm=>
  split at d
  .exact⟨d.1,fun e=>h _ _ (d.2.1 e),fun p t B=>h _ _ (d.2.2 p t B)⟩
  .exact d.elim
 case zr=>split at d<;>first|exact d.elim|exact h _ _ d
 case zh=>
  split at d
  .split at d
   .exact BW (fun _ g=>⟨g.1,g.2.1,g.2.2.1,h _ _ g.2.2.2⟩) d
   .exact d.elim
  .exact d.elim
 case yQ=>exact fun b=>h _ _ (d b)
 case zI=>split at d<;>first|exact d.elim|exact h _ _ d
 case xw=>
  refine BW (fun _ g=>?_) d;rcases g with⟨m,i,f⟩|⟨A,m,i,f⟩
  .exact .inl ⟨m,i,fun j=>h _ _ (f j)⟩
  .exact .inr ⟨A,m,i,fun j b=>h _ _ (f j b)⟩
 case wi=>split at d<;>first|exact d.elim|exact⟨d.1,h _ _ d.2⟩
 case zK=>split at d<;>first|exact d.elim|exact⟨d.1,BW (fun _ g=>h _ _ g) d.2⟩
 case zi=>
  split at d
  .split at d
   .exact⟨d.1,BW (fun _ g=>h _ _ g) d.2⟩
   .exact d.elim
  .exact d.elim
 case zJ=>split at d<;>first|exact d.elim|exact h _ _ d
 case zN=>split at d<;>first|exact d.elim|exact⟨d.1,h _ _ d.2⟩
 case y9=>
  split at d
  .exact fun b C=>h _ _ (d b C)
  .exact h _ _ d
  .exact d.elim
 case xk=>exact BW (fun p⟨i,f⟩=>⟨i,BW (fun ts⟨zs,s,m,a,b,c⟩=>⟨zs,s,m,a,b,fun j=>h _ _ (c j)⟩) f⟩) d
 case xP=>
  split at d
  .exact BW (fun p⟨z,i,v,zs,s,f,l,q⟩=>⟨z,i,v,zs,s,f,l,fun j=>h _ _ (q j)⟩) d
  .exact d.elim
 all_goals (repeat' split at d)<;>first|exact d.elim|exact h _ _ d|exact⟨d.1,h _ _ d.2⟩|exact⟨d.1,d.2.1,h _ _ d.2.2⟩|exact⟨d.1,d.2.1,d.2.2.1,h _ _ d.2.2.2⟩|exact BW (fun _=>h _ _) d|(obtain⟨r,i,f⟩:=d;exact⟨r,i,fun j=>h _ _ (f j)⟩)|(obtain⟨i,r,f,l⟩:=d;exact⟨i,r,f,h _ _ l⟩)|(obtain⟨z,i,r,f,l⟩:=d;exact⟨z,i,r,f,h _ _ l⟩)
variable{K K':AB->Prop}
theorem PR.ns(U:AB)(h:∀e,K e->K' e)(o:PR)(a:o.wp S U K):o.wp S U K':=by
 unfold PR.wp at a|-;split at a
 .grind[AE.ns]
 grind [AE.ns]
theorem PF(h:∀e,K e->K' e):∀(os:List PR)(U:AB),wpOps S K os U->wpOps S K' os U
 |[],_,a=>h _ a|o::os,U,a=>PR.ns S U (fun e=>PF h os e) o a
theorem PC.ns:∀(c:PC)(q:Q)(U:AB),c.wp S q U->∀(f:Q),(∀e,q.normal e->f.normal e)->(∀i e,q.exit i e->f.exit i e)->(∀e,q.ret e->f.ret e)->c.wp S f U
 |.skip _,_,_,d,_,h,_,_=>h _ d|.ret,_,_,d,_,_,_,h=>h _ d|.exit _ _,_,_,d,_,_,h,_=>h _ _ d|.seq a b,q,U,d,f,g,j,k=>by
  simp [PC.wp]at d|-;exact PC.ns a _ U d _ (fun e he m=>PC.ns b q e (he m) f g j k) j k
 |.cond c a b,q,U,d,f,g,j,k=>by
  simp [PC.wp]at d|-;split at d
  .exact⟨fun p=>PC.ns a q U (d.1 p) f g j k,fun p=>PC.ns b q U (d.2 p) f g j k⟩
  .exact d.elim
 |.block id c,q,U,d,f,g,j,k=>by
  simp [PC.wp]at d|-;exact PC.ns c _ U d _ g (fun i e=>by dsimp only;split<;>first|exact g e|exact j i e) k
 |.loop l c,q,U,d,f,g,j,k=>by
  simp [PC.wp]at d|-;exact fun X hX=>d X fun e he=>hX e fun m=>PC.ns c _ e (he m) _ (fun _ h=>h) j k
 |.region ops l,q,U,d,f,g,_,_=>by
  grind [PC.wp,PF]
 |.draw _ ops l,q,U,d,f,g,_,_=>by
  grind [PC.wp,PF]
 |.bad,_,_,d,_,_,_,_=>by
  simp [PC.wp]at d
 |.zk s c,q,U,d,f,g,j,k=>by
  simp [PC.wp]at d|-;split at d
  .exact PC.ns c q _ d f g j k
  .exact d.elim
theorem nO{σ:Type}{a:Ne}{c:PC}{q:Q}{U:AB}(I:σ->AB)(ok:σ->Prop)(μ:σ->Nat)(d:σ)(g:U.ff a=I d)(e:ok d)
  (step:∀s,ok s->(∀k,((I s).get k).WF)->c.wp S {q with normal:=fun f=>∃s',f.ff a=I s'/\ok s'/\μ s'<μ s} (I s)):PC.wp S (.loop a c) q U:=by
 intro X hX;rw[g];have key:∀n s,μ s=n->ok s->X (I s):=by
  intro n
  induction n using Nat.strongRecOn with
  |_ n l=>
   intro s j ho;refine hX _ fun i=>?_;refine PC.ns S c _ _ (step s ho i) _ (fun f he=>?_) (fun _ _ h=>h) (fun _ h=>h)
   grind
 exact key _ d rfl e
end
end Go.Sf
namespace Go.Sf
def aI:Nat:=0
def Rv(_:World):Prop:=True
theorem Rv.ff{w w':World}(_:Rv w)(_:∀b,b<aI->w'.heap[b]?=w.heap[b]?):Rv w':=trivial
theorem Rv.lt{w:World}(_:Rv w):aI<=w.heap.size:=Nat.zero_le _
end Go.Sf
