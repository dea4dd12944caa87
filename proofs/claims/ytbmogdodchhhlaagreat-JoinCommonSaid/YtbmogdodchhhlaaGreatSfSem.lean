/- The pure language: environments, operations, code, and what must hold before a piece of code so that a condition holds behind it. No memory. -/
import Derived.Test.YtbmogdodchhhlaaGreatSfRep
import Derived.WalkKit
set_option linter.all false
namespace Go.Sf
def CX:Nat:=8589934592
def F9:Nat:=9223372036854775807
variable{n:Nat}
theorem N7(h:n<=CX):n<=F9:=by grind[CX,F9]
mutual
def TV.WF:TV->Prop
 |.int k n=>k.min<=n/\n<=k.max|.str s=>s.size<=F9|.list _ es=>es.length<=F9/\TV.sq es|.agg cs=>TV.sq cs|.pt row=>TV.sq row|.sR _ caps=>TV.sq caps|.xl _ es=>es.length<=F9/\TV.sq es|.xn es=>es.length<=F9/\TV.sq es|_=>True
def TV.sq:Fq->Prop
 |[]=>True|t::ts=>TV.WF t/\TV.sq ts
end
structure AI where
 own:Bool
 t:TV
def TV.tE:TV->Bool
 |.xl _ _=>true|.xn _=>true|_=>false
def AI.key(c:AI):TV×Bool:=(c.t,c.own&&c.t.tE)
def AI.rel(c:AI):AI:=
 match c with
 |⟨true,.xl n es⟩=>⟨true,.list n es⟩|⟨true,.xn es⟩=>⟨true,.list 1 es⟩|c=>c
def AI.uD(c:AI):TV:=
 match c with
 |⟨true,.xl n es⟩=>.list n es|c=>c.t
inductive NK where
 |hd
 |el (r:Nat)
 |rw(r:Nat)
 |rp (r c:Nat)
abbrev Bi:=List ((Int×Int)×Int)
inductive MX where
 |mp (b:Nat) (kvs:Bi)
 |tm (b:Nat) (kvs:Bi) (ts:Fq)
 |mi (last:Option ((Int×Int)×Int)) (todo:Bi)
def Bi.WF(kvs:Bi):Prop:=∀p∈kvs,(TV.int .i64 p.1.1).WF/\(TV.int .i64 p.1.2).WF/\(TV.int .i64 p.2).WF
def MX.WF:MX->Prop
 |.mp _ kvs=>Bi.WF kvs|.tm _ kvs ts=>Bi.WF kvs/\TV.sq ts|.mi last todo=>Bi.WF last.toList/\Bi.WF todo
def Bi.look(k:Int×Int):Bi->QQ
 |[]=>none|p::r=>if p.1=k then some p.2 else Bi.look k r
def Bi.set(k:Int×Int)(n:Int):Bi->Bi
 |[]=>[(k,n)]|p::r=>if p.1=k then(k,n)::r else p::Bi.set k n r
def Lc(k:Int×Int):TV:=.agg [.int .i64 k.1,.int .i64 k.2]
def TV.uM?:TV->Option (Int×Int)
 |.agg [.int .i64 a,.int .i64 b]=>some (a,b)|_=>none
inductive EV where
 |undef
 |tv (t:TV)
 |ow (t:TV)
 |bx (cs:List AI)
 |bp (s off:Nat)
 |tp (ts:Fq)
 |sk
 |xo (n:Nat) (es:Fq)
 |la (q:Nat) (i:Option Nat)
 |lp (q:Nat) (i:Option Nat) (c:Nat)
 |sO (cs:List AI)
 |xn (es:Fq)
 |x1 (n:Nat) (fs:Fq)
 |nh (q i:Nat) (k:NK)
 |mx (m:MX)
def EV.WF:EV->Prop
 |.tv t=>t.WF|.ow t=>t.WF|.bx cs=>∀c∈cs,c.t.WF|.tp ts=>TV.sq ts|.xo n es=>(TV.list n es).WF|.sO cs=>∀c∈cs,c.t.WF|.xn es=>(TV.list 1 es).WF|.x1 n fs=>(TV.list n fs).WF|.mx m=>m.WF|_=>True
abbrev AA:=List (Nat×EV)
def AA.get:AA->Nat->EV
 |[],_=>.undef|(k,e)::r,n=>if k=n then e else AA.get r n
def AA.po(O:AA)(live:Ne):AA:=live.map fun s=>(s,O.get s)
def EV.sE:EV->Option Nat
 |.bp s _=>some s|.la s _=>some s|.lp s _ _=>some s|.nh s _ _=>some s|_=>none
def EV.sV(d:Nat)(e:EV):Bool:=
 match e.sE with
 |some s=>d !=s|none=>true
def AA.pc(s:Nat):AA->Bool
 |[]=>true|(_,e)::r=>e.sV s&&AA.pc s r
def EV.va(d:Nat)(k:Option Nat):EV->Bool
 |.la s (some i)=>d !=s||(match k with|some j=>i !=j|none=>false)
 |.lp s (some i) _=>d !=s||(match k with|some j=>i !=j|none=>false)
 |.nh s i _=>d !=s||(match k with|some j=>i !=j|none=>false)
 |_=>true
def AA.vz(s:Nat)(k:Option Nat):Ne->AA->Bool
 |_,[]=>true|z,(q,e)::r=>(z.contains q||e.va s k)&&AA.vz s k (q::z) r
def AA.ua(s:Nat)(k:Option Nat)(O:AA):Bool:=AA.vz s k [] O
def AA.sf(O:AA)(q:Nat):Option Nat->Option (Nat×Fq)
 |none=>match O.get q with
  |.xo n es=>some (n,es)|_=>none
 |some k=>match O.get q with
  |.bx cs=>match cs[k]? with
   |some ⟨true,.xl n es⟩=>some (n,es)|_=>none
  |_=>none
def AA.sI(O:AA)(q:Nat)(i:Option Nat)(n:Nat)(es:Fq):AA:=
 match i with
 |none=>(q,.xo n es)::O|some k=>match O.get q with
  |.bx cs=>(q,.bx (cs.set k ⟨true,.xl n es⟩))::O|_=>O
def AA.nat(O:AA)(q k:Nat):Option Fq:=
 match O.get q with
 |.bx cs=>match cs[k]? with
  |some ⟨true,.xn es⟩=>some es|_=>none
 |_=>none
def AA.vg(O:AA)(q k:Nat)(es:Fq):AA:=
 match O.get q with
 |.bx cs=>(q,.bx (cs.set k ⟨true,.xn es⟩))::O|_=>O
inductive AD where
 |s (n:Nat)
 |c (t:TV)
def AD.ev(O:AA):AD->EV
 |.s n=>O.get n|.c t=>.tv t
def EV.val:EV->Option TV
 |.tv t=>some t|.ow t=>some t|_=>none
def AD.val(O:AA)(x:AD):Option TV:=(x.ev O).val
def vals(O:AA):List AD->Option Fq
 |[]=>some []|x::xs=>match x.val O,vals O xs with
  |some t,some ts=>some (t::ts)|_,_=>none
def intCmp(op:BinOp)(a b:Int):K1:=
 match op with
 |.eql=>some (decide (a=b))|.neq=>some (!decide (a=b))|.lss=>some (decide (a<b))|.leq=>some (decide (a<=b))|.gtr=>some (decide (b<a))|.geq=>some (decide (b<=a))|_=>none
def intArith(op:BinOp)(a b:Int):QQ:=
 match op with
 |.add=>some (a+b)|.sub=>some (a-b)|.mul=>some (a*b)|.quo=>if b=0 then none else some (a.tdiv b)|_=>none
inductive GC where
 |z (c:AI)
 |v (x:AD) (k n:Nat)
 |w (q:Nat)
 |g (q k n:Nat)
def GC.cell(O:AA):GC->Option AI
 |.z c=>some c|.v x k n=>match x.val O with
  |some t=>match Nat.beq t.cells.length n,t.cells[k]? with
   |true,some c=>some ⟨false,c⟩|_,_=>none
  |none=>none
 |.w q=>match O.get q with
  |.ow t=>some ⟨true,t⟩|.xo n es=>some ⟨true,.xl n es⟩|_=>none
 |.g q k n=>match O.get q with
  |.sO cs=>match Nat.beq cs.length n with
   |true=>cs[k]?|false=>none
  |_=>none
def FW(O:AA):List GC->Option (List AI)
 |[]=>some []|g::gs=>match g.cell O,FW O gs with
  |some c,some cs=>some (c::cs)|_,_=>none
def GC.src:GC->Option (Nat×Option Nat)
 |.w q=>some (q,none)|.g q k _=>some (q,some k)|_=>none
def GC.slot:GC->Option Nat
 |.w q=>some q|.g q _ _=>some q|_=>none
def GC.sl:GC->Ne
 |.v (.s q) _ _=>[q]|.w q=>[q]|.g q _ _=>[q]|_=>[]
def EV.gave:EV->EV
 |.ow t=>.tv t|_=>.undef
def Km(e0:AA):Ne->AA->AA
 |[],O=>O|q::qs,O=>(q,(e0.get q).gave)::Km e0 qs O
def BT:Fq->Fq->K1
 |[],[]=>some true|.int k a::cs,.int k' b::ds=>if k=k' then(match BT cs ds with|some r=>some (decide (a=b)&&r)|none=>none)else none
 |.str a::cs,.str b::ds=>(match BT cs ds with|some r=>some (decide (a=b)&&r)|none=>none)
 |.bool a::cs,.bool b::ds=>(match BT cs ds with|some r=>some (decide (a=b)&&r)|none=>none)
 |_,_=>none
inductive BK where
 |i|s|b|w
 |a (ks:Ne)
def TV.kd:TV->Nat
 |.int _ _=>0|.str _=>1|.bool _=>2|_=>3
def Ke(k:IntKind)(op:BinOp)(a b:Int):QQ:=
 match op with
 |.and=>some (k.wrap (BitVec.ofInt k.bits a &&& BitVec.ofInt k.bits b).toNat)|.or=>some (k.wrap (BitVec.ofInt k.bits a|||BitVec.ofInt k.bits b).toNat)|.xor=>some (k.wrap (BitVec.ofInt k.bits a^^^ BitVec.ofInt k.bits b).toNat)|.andNot=>some (k.wrap (BitVec.ofInt k.bits a &&& ~~~ BitVec.ofInt k.bits b).toNat)|.shl=>if 0<=b then some (k.wrap (a*2^ (min b.toNat k.bits)))else none|.shr=>if 0<=b/\k.min<=a.fdiv (2^ (min b.toNat k.bits))/\a.fdiv (2^ (min b.toNat k.bits))<=k.max then some (a.fdiv (2^ (min b.toNat k.bits)))else none|_=>none
def C6:BK->BinOp->TV->TV->Option TV
 |.i,op,.int k a,.int k' b=>
  if k=k' then
   match intCmp op a b with
   |some r=>some (.bool r)|none=>match intArith op a b with
    |some r=>some (.int k (k.wrap r))|none=>if op=.rem/\b≠0 then some (.int k (a.tmod b))else none
  else none
 |.w,op,.int k a,.int k' b=>if k=k'\/op=.shl\/op=.shr then(match Ke k op a b with|some r=>some (.int k r)|none=>none)else none
 |.s,.eql,.str a,.str b=>some (.bool (a==b))|.s,.neq,.str a,.str b=>some (.bool (!(a==b)))|.s,.add,.str a,.str b=>if a.size+b.size<=CX then some (.str (a++b))else none|.b,.eql,.bool a,.bool b=>some (.bool (a==b))|.b,.neq,.bool a,.bool b=>some (.bool (!(a==b)))|.a n,.eql,.agg cs,.agg ds=>if cs.map TV.kd=n then(match BT cs ds with|some b=>some (.bool b)|none=>none)else none
 |.a n,.neq,.agg cs,.agg ds=>if cs.map TV.kd=n then(match BT cs ds with|some b=>some (.bool !b)|none=>none)else none
 |_,_,_,_=>none
def Df(O:AA)(d:Int):Option AD->Option TV
 |none=>some (.int .i64 d)|some o=>o.val O
def Ay(O:AA):EV->Option Fq
 |.tv (.pt row)=>some row|.bx cs=>some (cs.map (·.t))|.bp s off=>match O.get s with
  |.bx cs=>some ((cs.drop off).map (·.t))|_=>none
 |_=>none
def AD.place(O:AA):AD->Option (Nat×Nat)
 |.s n=>match O.get n with
  |.bp q off=>some (q,off)|.bx _=>some (n,0)|_=>none
 |.c _=>none
def KP:Fq->Nat->Fq->Fq
 |cs,_,[]=>cs|cs,i,d::ds=>KP (cs.set i d) (i+1) ds
def DN(cs:Fq):List (Nat×Nat×TV)->Option Fq
 |[]=>some cs|(i,n,t)::r=>if t.cells.length=n/\i+n<=cs.length then DN (KP cs i t.cells) r else none
def EQ(O:AA):List (Nat×Nat×AD)->Option (List (Nat×Nat×TV))
 |[]=>some []|(i,n,x)::r=>match x.val O,EQ O r with
  |some t,some ts=>some ((i,n,t)::ts)|_,_=>none
inductive AC where
 |mv (x:AD)
 |tk (s:Nat)
 |uq (n:Nat)
 |td (x:AD) (k:Nat)
 |bad (s k:Nat)
 |ur (x i:AD) (n:Nat)
 |aad (x i:AD) (n k:Nat)
 |ld (x:AD)
 |uC (x:AD) (n:Nat)
 |ldt (x:AD)
 |bin (k:BK) (op:BinOp) (x y:AD)
 |not (x:AD)
 |neg (x:AD)
 |pick (c a b:AD)
 |len (x:AD)
 |uN (x:AD)
 |tR (n:Nat) (x:AD) (lo hi:Option AD)
 |tz (x:AD) (lo hi:Option AD)
 |uy (zero:Fq) (parts:List (Nat×Nat×AD))
 |uS (n:Nat) (parts:List AD)
 |app (n:Nat) (x y:AD)
 |call (f:FuncId) (args:List AD)
 |tq (x:AD) (args:List AD)
 |sR (f:FuncId) (caps:List AD)
 |ext (x:AD) (i:Nat)
 |vp (k:IntKind) (x:AD)
 |th (x i:AD)
 |uw (x:AD)
 |uJ (x:AD)
 |mm (max:Bool) (x y:AD)
 |uV (cs:List AI)
 |st (n:Nat) (x v:AD)
 |uz (n s:Nat) (v:AD)
 |vo (s:Nat)
 |ux (x:AD) (k n:Nat) (agg:Bool)
 |vG (s:Nat)
 |uK (x:AD)
 |vC (x i:AD) (n:Nat)
 |xfa (x:AD) (k:Nat)
 |vL (x:AD)
 |uB (x v:AD) (k:Nat)
 |rel (s:Nat)
 |ud (n:Nat)
 |uR (s:Nat)
 |t6 (n s:Nat) (y:AD)
 |tj (f:FuncId) (args:List AD)
 |uv (n:Nat) (zero:Fq) (x:AD)
 |tD (f:FuncId) (x:AD)
 |tF (f:FuncId) (x:AD)
 |sZ (gs:List GC)
 |stx (n:Nat) (s q:Nat)
 |tN (f:FuncId) (args:List AD)
 |tw (f:FuncId) (args:List AD)
 |vn (x:AD)
 |lac (x:AD)
 |vQ (x:AD)
 |vk (x:AD) (q:Nat)
 |cut (n s:Nat) (hi:AD)
 |ti (f:FuncId) (args:List AD)
 |uc (ps:List (Option AI)) (x:AD)
 |ue (n s:Nat) (z:TV) (x:AD)
 |tg (f:FuncId) (args:List AD) (i:Nat)
 |tM (f:FuncId) (args:List AD)
 |ub (n:Nat)
 |vR (s n:Nat)
 |ut (q:Nat)
 |tK (m q:Nat)
 |vq (x:AD)
 |uQ (x i:AD)
 |vw (x:AD)
 |uU (x v:AD)
 |uL (q:Nat)
 |tG (f:FuncId) (args:List AD) (i:Nat)
 |vO (s n:Nat)
 |vj (n:Nat) (ps:List (Option AI)) (x v:AD)
 |uT
 |vh (s:Nat)
 |tB (f:FuncId) (args:List AD)
 |vI (s:Nat) (m x:AD)
 |vf (s:Nat) (m x v:AD)
 |su (s:Nat) (m:AD)
 |vB (s:Nat)
 |vu (s:Nat)
 |vK (x:AD) (k:Nat)
 |vJ (x:AD) (n:Nat)
structure PR where
 dst:Option Nat
 op:AC
 guard:Option (Nat×Bool)
inductive PC where
 |skip (live:Ne)
 |ret
 |exit (id:Nat) (live:Ne)
 |seq (a b:PC)
 |cond (c:AD) (a b:PC)
 |block (id:Nat) (c:PC)
 |loop (live:Ne) (c:PC)
 |region (ops:List PR) (live:Ne)
 |draw (D:Ne) (ops:List PR) (live:Ne)
 |vt (s:Nat) (c:PC)
 |bad
def Mh(O:AA):Ne->Bool
 |[]=>true|d::ds=>O.pc d&&Mh O ds
inductive Ap where
 |sh (t:TV)
 |own (t:TV)
 |tp (ts:Fq)
 |turn (zs:Fp)
 |cut (zs:Fp)
 |tL (n:Nat) (es:Fq)
 |sO (cs:List AI)
 |bo (cs cs':List AI) (i:Nat) (ts:Fq)
 |ext (ts:Fq)
 |ag (cs:List AI) (i:Nat) (r:Ap)
 |mpr (kvs:Bi) (ts:Fq)
def Ap.WF:Ap->Prop
 |.sh t=>t.WF|.own t=>t.WF|.tp ts=>TV.sq ts|.turn zs=>(TV.list 1 (zs.map (TV.int .i64))).WF|.cut zs=>(TV.list 1 (zs.map (TV.int .i64))).WF|.tL n es=>(TV.list n es).WF|.sO cs=>∀c∈cs,c.t.WF|.bo _ cs' _ ts=>(∀c∈cs',c.t.WF)/\TV.sq ts|.ext ts=>TV.sq ts|.ag _ _ r=>r.WF|.mpr kvs ts=>Bi.WF kvs/\TV.sq ts
def Ap.plain:Ap->Bool
 |.turn _=>false|.cut _=>false|.bo ..=>false|.ext _=>false|.ag ..=>false|.mpr ..=>false|_=>true
def Ap.ev:Ap->EV
 |.sh t=>.tv t|.own t=>.ow t|.tp ts=>.tp ts|.tL n es=>.ow (.list n es)|.sO cs=>.tv (.agg (cs.map fun c=>c.rel.t))|_=>.undef
def Ap.uI:Ap->EV
 |.sO cs=>.sO cs|r=>r.ev
mutual
def TV.flat:TV->Bool
 |.int _ _=>true|.bool _=>true|.str _=>true|.agg cs=>TV.sF cs|_=>false
def TV.sF:Fq->Bool
 |[]=>true|t::ts=>t.flat&&TV.sF ts
end
def AI.toX:AI->AI
 |⟨true,.list n es⟩=>⟨true,.xl n es⟩|c=>c
def AI.Xable(c:AI):Prop:=∃n es,c=⟨true,.list n es⟩/\TV.sF es=true
def EV.free:EV->Bool
 |.tv t=>t.flat|.undef=>true|.sk=>true|_=>false
def AD.sv(O:AA):AD->Option ((Nat×Option Nat)×Nat×Fq)
 |.s m=>match O.get m with
  |.xo n es=>some ((m,none),n,es)|.la q i=>match O.sf q i with
   |some p=>some ((q,i),p)|none=>none
  |_=>none
 |.c _=>none
def AD.uO(O:AA)(x:AD):Option TV:=
 match x.sv O with
 |some p=>some (.list p.2.1 p.2.2)|none=>match x.ev O with
  |.bx cs=>some (.pt (cs.map AI.uD))|.bp q off=>match O.get q with
   |.bx cs=>some (.pt ((cs.drop off).map AI.uD))|_=>none
  |e=>e.val
def sP(O:AA):List AD->Option Fq
 |[]=>some []|x::xs=>match x.uO O,sP O xs with
  |some t,some ts=>some (t::ts)|_,_=>none
def Ap.uF:Ap->Bool
 |.sh t=>t.flat|.tp ts=>TV.sF ts|.own (.list _ es)=>TV.sF es|_=>false
def FC(O:AA):Nat->List AD->Option Fq
 |_,[]=>some []|0,_::xs=>match vals O xs with
  |some ts=>some (.undef::ts)|none=>none
 |i+1,x::xs=>match x.val O,FC O i xs with
  |some t,some ts=>some (t::ts)|_,_=>none
def EV.ofs:Fq->EV
 |[t]=>.tv t|ts=>.tp ts
def Cg:List (Option AI)->Fq->Option (List AI)
 |[],[]=>some []|none::ps,t::ts=>match Cg ps ts with
  |some cs=>some (⟨false,t⟩::cs)|none=>none
 |some c::ps,.nil::ts=>match c,Cg ps ts with
  |⟨true,.list n []⟩,some cs=>some (⟨true,.list n []⟩::cs)|⟨true,.xl n []⟩,some cs=>some (⟨true,.xl n []⟩::cs)|⟨true,.xn []⟩,some cs=>some (⟨true,.xn []⟩::cs)|_,_=>none
 |_,_=>none
section
variable(S:FuncId->Fq->Ap->Prop)
def AR{α:Type}(o:Option α)(K:α->Prop):Prop:=
 match o with
 |some a=>K a|none=>False
def ED:Fq->Option TV
 |[]=>none|t::_=>some t
def strip:AA->Nat->AA
 |O,s=>(s,.undef)::O
def AC.wp(O:AA)(dst:Option Nat)(K:EV->AA->Prop):AC->Prop
 |.mv x=>match x.ev O with
  |.tv t=>K (.tv t) O|.ow t=>K (.tv t) O|.tp ts=>K (.tp ts) O|_=>False
 |.tk s=>match O.get s with
  |.ow t=>K (.ow t) ((s,.tv t)::O)|.tv t=>K (.tv t) O|_=>False
 |.uq n=>K (.ow (.list n [])) O|.td x k=>match x.ev O with
  |.tv (.pt row)=>K (.tv (.pt (row.drop k))) O|.bp s off=>match O.get s with
   |.bx _=>K (.bp s (off+k)) O|_=>False
  |_=>False
 |.bad s k=>match O.get s with
  |.bx _=>K (.bp s k) O|.tv (.pt row)=>K (.tv (.pt (row.drop k))) O|_=>False
 |.ur x i n=>match x.val O,i.val O with
  |some (.list m es),some (.int _ j)=>m=n/\0<=j/\∃e,es[j.toNat]?=some e/\K (.tv (.pt e.cells)) O|_,_=>False
 |.aad x i n k=>match x.ev O,i.val O with
  |.tv (.pt row),some (.int _ j)=>0<=j/\j<k/\k*n<=row.length/\K (.tv (.pt (row.drop (j.toNat*n)))) O|_,_=>False
 |.ld x=>AR (Ay O (x.ev O)) fun cs=>AR (ED cs) fun t=>t.tE=false/\K (.tv t) O|.uC x n=>AR (Ay O (x.ev O)) fun cs=>n<=cs.length/\K (.tv (.agg (cs.take n))) O|.vR s n=>match O.get s with
  |.bx cs=>n<=(cs.map (·.t)).length/\K (.tv (.agg ((cs.map (·.t)).take n))) O|_=>False
 |.ldt x=>match x.place O with
  |some (s,off)=>match O.get s with
   |.bx cs=>match cs[off]? with
    |some ⟨true,.list n es⟩=>K (.ow (.list n es)) ((s,.bx (cs.set off ⟨false,.list n es⟩))::O)|_=>False
   |_=>False
  |none=>False
 |.bin k op x y=>match x.val O,y.val O with
  |some a,some b=>AR (C6 k op a b) fun t=>K (.tv t) O|_,_=>False
 |.not x=>match x.val O with
  |some (.bool b)=>K (.tv (.bool !b)) O|_=>False
 |.neg x=>match x.val O with
  |some (.int k n)=>K (.tv (.int k (k.wrap (-n)))) O|_=>False
 |.pick c a b=>match c.val O with
  |some (.bool q)=>match(if q then a else b).ev O with
   |.tv t=>K (.tv t) O|.ow t=>K (.tv t) O|_=>False
  |_=>False
 |.len x=>match x.val O with
  |some (.list _ es)=>K (.tv (.int .i64 es.length)) O|_=>False
 |.uN x=>match x.val O with
  |some (.str s)=>K (.tv (.int .i64 s.size)) O|_=>False
 |.tR n x lo hi=>match x.val O with
  |some (.list m es)=>match Df O 0 lo,Df O es.length hi with
   |some (.int _ l),some (.int _ h)=>(m=n/\0<=l/\l<=h)/\h<=es.length/\K (.tv (.list n ((es.take h.toNat).drop l.toNat))) O|_,_=>False
  |_=>False
 |.tz x lo hi=>match x.val O with
  |some (.str s)=>match Df O 0 lo,Df O s.size hi with
   |some (.int _ l),some (.int _ h)=>0<=l/\l<=h/\h<=s.size/\K (.tv (.str (s.extract l.toNat h.toNat))) O|_,_=>False
  |_=>False
 |.uy zero parts=>AR (EQ O parts) fun ts=>AR (DN zero ts) fun cs=>K (.tv (.agg cs)) O|.uS n parts=>AR (vals O parts) fun ts=>(∀t∈ts,t.cells.length=n)/\K (.ow (.list n ts)) O|.app n x y=>match x.ev O,y.val O with
  |.ow (.list m es),some (.list m' fs)=>m=n/\m'=n/\es.length+fs.length<=CX/\
    K (.ow (.list n (es++fs))) (match x with|.s s=>(s,.tv (.list n es))::O|_=>O)
  |_,_=>False
 |.call f args=>AR (vals O args) fun ts=>∃r,(S f ts r/\r.plain=true)/\(r.WF->K r.ev O)|.tq x args=>match x.val O,vals O args with
  |some (.sR f caps),some ts=>∃r,(S f (ts++caps) r/\r.plain=true)/\(r.WF->K r.ev O)|_,_=>False
 |.sR f caps=>AR (vals O caps) fun ts=>K (.tv (.sR f ts)) O|.ext x i=>match x.ev O with
  |.tp ts=>AR ts[i]? fun t=>K (.tv t) O|_=>False
 |.vp k x=>match x.val O with
  |some (.int _ n)=>K (.tv (.int k (k.wrap n))) O|_=>False
 |.th x i=>match x.val O,i.val O with
  |some (.str s),some (.int _ j)=>0<=j/\∃b,s[j.toNat]?=some b/\K (.tv (.int .u8 b.toNat)) O|_,_=>False
 |.uw x=>match x.val O with
  |some t=>K (.tv (.pt t.cells)) O|_=>False
 |.uJ x=>match x.val O,dst with
  |some t,some d=>O.pc d=true/\K (.bx (t.cells.map (⟨false,·⟩))) O|_,_=>False
 |.mm mx x y=>match x.val O,y.val O with
  |some (.int k a),some (.int k' b)=>k=k'/\K (.tv (.int k (if mx then max a b else min a b))) O|_,_=>False
 |.uV cs=>match dst with
  |some d=>O.pc d=true/\K (.bx cs) O|none=>False
 |.st n x v=>match x.place O with
  |some (s,off)=>match O.get s with
   |.bx cs=>match v.ev O with
    |.ow t=>match v with
     |.s q=>q≠s/\n=1/\off<cs.length/\K .undef ((s,.bx (cs.set off ⟨true,t⟩))::(q,.tv t)::O)|_=>False
    |.tv t=>t.cells.length=n/\off+n<=cs.length/\K .undef ((s,.bx (cs.take off++t.cells.map (⟨false,·⟩)++cs.drop (off+n)))::O)|_=>False
   |_=>False
  |none=>False
 |.uz n s v=>match O.get s with
  |.bx cs=>match v.ev O with
   |.ow t=>match v with
    |.s q=>q≠s/\n=1/\0<cs.length/\K .undef ((s,.bx (cs.set 0 ⟨true,t⟩))::(q,.tv t)::O)|_=>False
   |.tv t=>t.cells.length=n/\0+n<=cs.length/\K .undef ((s,.bx (cs.take 0++t.cells.map (⟨false,·⟩)++cs.drop (0+n)))::O)|_=>False
  |_=>False
 |.vo s=>match O.get s with
  |.bx cs=>K .undef ((s,.tv (.pt (cs.map (·.t))))::O)|_=>False
 |.ux x k n agg=>match x.val O with
  |some (.agg cs)=>k+n<=cs.length/\(if agg then K (.tv (.agg ((cs.drop k).take n))) O else AR (ED (cs.drop k)) fun t=>K (.tv t) O)|_=>False
 |.vG s=>match O.get s with
  |.xo _ _=>K (.la s none) O|_=>False
 |.uK x=>AR (x.sv O) fun p=>K (.tv (.int .i64 p.2.2.length)) O|.vC x i n=>AR (x.sv O) fun p=>match i.val O with
  |some (.int _ j)=>((x.ev O).sE=some p.1.1/\p.2.1=n)/\0<=j/\j<p.2.2.length/\K (.lp p.1.1 p.1.2 (j.toNat*n)) O|_=>False
 |.xfa x k=>match x.ev O with
  |.lp q i c=>match O.sf q i with
   |some _=>K (.lp q i (c+k)) O|none=>False
  |_=>False
 |.vL x=>match x.ev O with
  |.lp q i c=>match O.sf q i with
   |some p=>AR (p.2.flatMap TV.cells)[c]? fun t=>K (.tv t) O|none=>False
  |_=>False
 |.uB x v k=>match x.ev O with
  |.lp q i c=>match O.sf q i,v.ev O with
   |some (n,es),.tv t=>(t.cells.length=k/\0<k)/\c+k<=es.length*n/\∃es',es'.flatMap TV.cells=(es.flatMap TV.cells).take c++t.cells++(es.flatMap TV.cells).drop (c+k)/\es'.length=es.length/\(∀e∈es',e.cells.length=n)/\K .undef (O.sI q i n es')|_,_=>False
  |_=>False
 |.rel s=>match dst,O.get s with
  |some d,.xo n es=>d≠s/\K (.ow (.list n es)) ((s,.undef)::O)|_,_=>False
 |.ud n=>match dst with
  |some d=>O.pc d=true/\K (.xo n []) O|none=>False
 |.uR s=>match dst,O.get s with
  |some d,.xo n es=>O.pc d=true/\d≠s/\K (.xo n es) ((s,.undef)::O)|_,_=>False
 |.t6 n s y=>match dst,O.get s,y.val O with
  |some d,.xo m es,some (.list m' fs)=>m=n/\m'=n/\es.length+fs.length<=CX/\O.pc d=true/\d≠s/\K (.xo n (es++fs)) ((s,.undef)::O)|_,_,_=>False
 |.tj f args=>match dst with
  |some d=>O.pc d=true/\AR (vals O args) fun ts=>∃n es,(S f ts (.tL n es)\/(S f ts (.own (.list n es))/\TV.sF es=true))/\((TV.list n es).WF->K (.xo n es) O)|none=>False
 |.uv n zero x=>match dst,x.val O with
  |some d,some (.int _ j)=>O.pc d=true/\0<=j/\j<=4096/\K (.xo n (List.replicate j.toNat (match zero with|[t]=>t|ts=>.agg ts))) O
  |_,_=>False
 |.sZ gs=>match dst with
  |some d=>((gs.filterMap GC.src).Nodup/\d∉gs.filterMap GC.slot)/\AR (FW O gs) fun cs=>K (.sO cs) (Km O (gs.filterMap GC.slot) O)|none=>False
 |.stx n s q=>match O.get s,O.get q with
  |.bx cs,.sO ds=>q≠s/\(ds.length=n/\((ds.all fun c=>!c.t.tE)||O.ua s none)=true)/\0+n<=cs.length/\K .undef ((s,.bx (cs.take 0++ds++cs.drop (0+n)))::(q,.undef)::O)|_,_=>False
 |.tN f args=>AR (vals O args) fun ts=>∃cs,S f ts (.sO cs)/\((∀c∈cs,c.t.WF)->K (.sO cs) O)|.tw f args=>AR (vals O args) fun ts=>∃cs,S f ts (.sO cs)/\(∀c∈cs,c.Xable)/\((∀c∈cs,c.t.WF)->K (.sO (cs.map AI.toX)) O)|.vK x k=>match x.val O with
  |some (.pt row)=>K (.tv (.pt (row.drop k))) O|_=>False
 |.vJ x n=>match x.val O with
  |some (.pt row)=>n<=row.length/\K (.tv (.agg (row.take n))) O|_=>False
 |.vn x=>match x.val O with
  |some (.list _ es)=>∀b:Bool,(b=true->es=[])->K (.tv (.bool b)) O|some .nil=>K (.tv (.bool true)) O|_=>False
 |.tD f x=>AR (x.sv O) fun p=>p.2.1=1/\∃zs zs':Fp,p.2.2=zs.map (TV.int .i64)/\S f [.list 1 p.2.2] (.turn zs')/\((TV.list 1 (zs'.map (TV.int .i64))).WF->K (.tp []) (O.sI p.1.1 p.1.2 1 (zs'.map (TV.int .i64))))|.tF f x=>match dst with
  |some d=>AR (x.sv O) fun p=>(p.1.1≠d/\p.1.2=none)/\p.2.1=1/\O.pc d=true/\∃zs zs':Fp,p.2.2=zs.map (TV.int .i64)/\S f [.list 1 p.2.2] (.cut zs')/\((TV.list 1 (zs'.map (TV.int .i64))).WF->K (.xo 1 (zs'.map (TV.int .i64))) ((p.1.1,.undef)::O))|none=>False
 |.lac x=>match x.ev O with
  |.bp s off=>match O.sf s (some off)with
   |some _=>K (.la s (some off)) O|none=>False
  |_=>False
 |.vQ x=>match dst,x.place O with
  |some d,some (s,off)=>match O.get s with
   |.bx cs=>match cs[off]? with
    |some ⟨true,.xl n es⟩=>O.pc d=true/\K (.xo n es) ((s,.bx (cs.set off ⟨false,.undef⟩))::O)|some ⟨true,.xn es⟩=>O.pc d=true/\K (.xn es) ((s,.bx (cs.set off ⟨false,.undef⟩))::O)|_=>False
   |_=>False
  |_,_=>False
 |.vk x q=>match x.place O,O.get q with
  |some (s,off),.xo n es=>match O.get s with
   |.bx cs=>O.ua s (some off)=true/\off<cs.length/\K .undef ((s,.bx (cs.set off ⟨true,.xl n es⟩))::(q,.undef)::O)|_=>False
  |some (s,off),.xn es=>match O.get s with
   |.bx cs=>O.ua s (some off)=true/\off<cs.length/\K .undef ((s,.bx (cs.set off ⟨true,.xn es⟩))::(q,.undef)::O)|_=>False
  |_,_=>False
 |.cut n s hi=>match dst,O.get s,hi.val O with
  |some d,.xo m es,some (.int _ h)=>(m=n/\O.pc d=true/\d≠s)/\0<=h/\h<=es.length/\K (.xo n (es.take h.toNat)) ((s,.undef)::O)|_,_,_=>False
 |.ue n s z x=>match dst,O.get s,x.val O with
  |some d,.xo m es,some (.int _ j)=>((m=n/\n=1)/\z.cells=[z])/\(0<=j/\j<=4096)/\(es.length+j.toNat<=CX/\O.pc d=true/\d≠s)/\K (.xo n (es++List.replicate j.toNat z)) ((s,.undef)::O)|_,_,_=>False
 |.ti f args=>AR (sP O args) fun ts=>∃r,(S f ts r/\r.uF=true)/\(r.WF->K r.ev O)|.tM f args=>AR (vals O args) fun ts=>∃us,S f ts (.ext us)/\K (.tp us) O|.uc ps x=>match x.val O,dst with
  |some t,some d=>AR (Cg ps t.cells) fun cs=>O.pc d=true/\K (.bx cs) O|_,_=>False
 |.ub n=>match dst with
  |some d=>O.pc d=true/\K (.xo n []) O|none=>False
 |.tg f args i=>match dst,(args[i]?).bind (·.place O)with
  |some d,some (s,0)=>match O.get s with
   |.bx cs=>(O.ua s none=true/\d≠s)/\AR (FC O i args) fun ts=>∃cs' us,S f ts (.bo cs cs' i us)/\((∀c∈cs',c.t.WF)/\TV.sq us->K (EV.ofs us) ((s,.bx cs')::O))|_=>False
  |_,_=>False
 |.ut q=>match dst,O.get q with
  |some d,.xo n fs=>(O.pc d=true/\d≠q)/\K (.x1 n fs) ((q,.undef)::O)|_,_=>False
 |.tK m q=>match dst,O.get m,O.get q with
  |some d,.nh s off .hd,.x1 n fs=>match O.get s with
   |.bx cs=>AR (O.nat s off) fun es=>es.length+1<=CX/\(O.pc d=true/\d≠m/\d≠q/\m≠q)/\K (.xn (es++[.list n fs])) ((s,.bx (cs.set off ⟨false,.undef⟩))::(m,.undef)::(q,.undef)::O)|_=>False
  |_,_,_=>False
 |.vq x=>match x.ev O with
  |.bp s off=>AR (O.nat s off) fun _=>K (.nh s off .hd) O|_=>False
 |.uQ x i=>match x.ev O,i.val O with
  |.nh s off .hd,some (.int _ j)=>AR (O.nat s off) fun es=>0<=j/\j<es.length/\K (.nh s off (.el j.toNat)) O|.nh s off (.rw r),some (.int _ j)=>AR (O.nat s off) fun es=>0<=j/\∃fs,es[r]?=some (.list 1 fs)/\j<fs.length/\K (.nh s off (.rp r j.toNat)) O|_,_=>False
 |.vw x=>match x.ev O with
  |.nh s off (.el r)=>AR (O.nat s off) fun es=>r<es.length/\K (.nh s off (.rw r)) O|_=>False
 |.uU x v=>match x.ev O,v.ev O with
  |.nh s off (.rp r c),.tv t=>AR (O.nat s off) fun es=>∃fs,es[r]?=some (.list 1 fs)/\c<fs.length/\t.cells=[t]/\t.flat=true/\K .undef (O.vg s off (es.set r (.list 1 (fs.set c t))))|_,_=>False
 |.uL q=>match dst,O.get q with
  |some d,.sO cs=>(O.pc d=true/\d≠q)/\K (.bx cs) ((q,.undef)::O)|_,_=>False
 |.tG f args i=>match dst,args[i]? with
  |some d,some (.s q)=>match O.get q with
   |.sO cs=>d≠q/\AR (FC O i args) fun ts=>∃r,S f (ts.set i (.agg (cs.map fun _=>.undef))) (.ag cs i r)/\(r.WF->K r.uI ((q,.undef)::O))|_=>False
  |_,_=>False
 |.vO s n=>match dst,O.get s with
  |some d,.bx cs=>cs.length=n/\d≠s/\K (.sO cs) ((s,.bx (cs.map fun _=>⟨false,.undef⟩))::O)|_,_=>False
 |.vj n ps x v=>match x.place O,v.val O with
  |some (s,off),some t=>match O.get s with
   |.bx cs=>AR (Cg ps t.cells) fun ds=>t.cells.length=n/\off+n<=cs.length/\O.ua s none=true/\K .undef ((s,.bx (cs.take off++ds++cs.drop (off+n)))::O)|_=>False
  |_,_=>False
 |.uT=>∀b,K (.mx (.mp b [])) O|.vh s=>match O.get s with
  |.mx (.mp b _)=>K (.tv (.tu b)) O|.mx (.tm b _ ts)=>K (.tp (.tu b::ts)) O|.tp ts=>K (.tp ts) O|_=>False
 |.tB f args=>AR (vals O args) fun ts=>(∃us,S f ts (.tp us)/\(TV.sq us->K (.tp us) O))\/∃kvs us,S f ts (.mpr kvs us)/\(Bi.WF kvs/\TV.sq us->∀b,K (.mx (.tm b kvs us)) O)|.vI s m x=>match O.get s,m.val O,x.val O with
  |.mx (.mp b kvs),some (.tu b'),some t=>b=b'/\AR t.uM? fun k=>K (.tp [.int .i64 ((kvs.look k).getD 0),.bool (kvs.look k).isSome]) O|_,_,_=>False
 |.vf s m x v=>match O.get s,m.val O,x.val O with
  |.mx (.mp b kvs),some (.tu b'),some t=>match v.val O with
   |some (.int .i64 n)=>b=b'/\AR t.uM? fun k=>K .undef ((s,.mx (.mp b (kvs.set k n)))::O)|_=>False
  |_,_,_=>False
 |.su s m=>match dst,O.get s,m.val O with
  |some d,.mx (.tm b kvs _),some (.tu b')=>(d≠s/\b=b')/\K (.mx (.mi none kvs)) ((s,.undef)::O)|_,_,_=>False
 |.vB s=>match dst,O.get s with
  |some d,.mx (.mi _ todo)=>d≠s/\(todo=[]->K (.tp [.bool false]) O)/\∀p todo',todo.Perm (p::todo')->K (.tp [.bool true,Lc p.1,.int .i64 p.2]) ((s,.mx (.mi (some p) todo'))::O)|_,_=>False
 |.vu s=>match O.get s with
  |.mx (.mi (some p) _)=>K (.tp [Lc p.1,.int .i64 p.2]) O|_=>False
def AA.put(O:AA)(dst:Option Nat)(e:EV):AA:=
 match dst with
 |some d=>(d,e)::O|none=>O
def PR.wp(O:AA)(K:AA->Prop)(o:PR):Prop:=
 match o.guard with
 |none=>o.op.wp S O o.dst fun e env'=>K (env'.put o.dst e)|some (g,b)=>match O.get g with
  |.tv (.bool q)=>(q=b->o.op.wp S O o.dst fun e env'=>K (env'.put o.dst e))/\(q=!b->K (O.put o.dst .sk))|.sk=>K (O.put o.dst .sk)|_=>False
def wpOps(K:AA->Prop):List PR->AA->Prop
 |[],O=>K O|o::os,O=>o.wp S O fun env'=>wpOps K os env'
structure Q where
 normal:AA->Prop
 exit:Nat->AA->Prop
 ret:AA->Prop
def PC.wp:PC->Q->AA->Prop
 |.skip live,q,O=>q.normal (O.po live)|.ret,q,O=>q.ret O|.exit id live,q,O=>q.exit id (O.po live)|.seq a b,q,O=>a.wp {q with normal:=fun e=>(∀s,(e.get s).WF)->b.wp q e} O
 |.cond c a b,q,O=>match c.val O with
  |some (.bool x)=>(x=true->a.wp q O)/\(x=false->b.wp q O)|_=>False
 |.block id c,q,O=>c.wp {q with exit:=fun i e=>if i=id then q.normal e else q.exit i e} O
 |.loop live c,q,O=>∀X:AA->Prop,(∀e,((∀s,(e.get s).WF)->c.wp {q with normal:=fun e'=>X (e'.po live)} e)->X e)->X (O.po live)
 |.region ops live,q,O=>wpOps S (fun e=>q.normal (e.po live)) ops O|.draw D ops live,q,O=>Mh O D=true/\wpOps S (fun e=>q.normal (e.po live)) ops O|.bad,_,_=>False|.vt s c,q,O=>match O.get s with
  |.bx cs=>c.wp q ((s,.bx (cs.map AI.rel))::O)|_=>False
end
inductive RV where
 |tmp (s:Nat)
 |cell (s:Nat) (agg:Option Nat)
def RV.get(O:AA):RV->Option TV
 |.tmp s=>(O.get s).val|.cell s none=>match Ay O (O.get s)with
  |some (t::_)=>some t|_=>none
 |.cell s (some n)=>match Ay O (O.get s)with
  |some cs=>if cs.length=n then some (.agg cs)else none|none=>none
def DF(O:AA):List RV->Option Fq
 |[]=>some []|x::xs=>match x.get O,DF O xs with
  |some t,some ts=>some (t::ts)|_,_=>none
def BR(rs:List RV)(r:Ap)(O:AA):Prop:=
 match r,rs with
 |.own t,[.tmp s]=>O.get s=.ow t|.own _,_=>False|.sh t,[x]=>x.get O=some t|.sh _,_=>False|.tp ts,rs=>rs.length≠1/\DF O rs=some ts|.turn _,_=>False|.cut _,_=>False|.tL n es,[.tmp s]=>O.get s=.xo n es|.tL _ _,_=>False|.sO cs,[.cell s (some n)]=>O.get s=.bx cs/\cs.length=n|.sO _,_=>False|.bo _ cs' i ts,rs=>O.get i=.bx cs'/\DF O rs=some ts|.ext _,_=>False|.ag _ _ r,rs=>BR rs r O|.mpr kvs ts,.tmp s::rs=>rs≠[]/\(∃b o,O.get s=.tv (.tu b)/\O.get o=.mx (.mp b kvs))/\DF O rs=some ts|.mpr _ _,_=>False
end Go.Sf
namespace Go.Sf
def BA(w w':World)(F F':Nat->Nat->Prop):Prop:=
 ∀b o v,w.cell? ⟨b,o,none⟩=some v->¬F b o->w'.cell? ⟨b,o,none⟩=some v/\¬F' b o
section
variable{w w':World}{F F':Nat->Nat->Prop}
mutual
theorem BZ(h:BA w w' F F'):∀(t:TV)(v:Value),AX w F t v->AX w' F' t v
 |.undef,_,a=>a|.int _ _,_,a=>a|.bool _,_,a=>a|.str _,_,a=>a|.nil,_,a=>a|.list n es,v,a=>by
  have:=NS h n es
  grind [AX]
 |.agg cs,v,a=>by
  have:=AY h cs
  grind [AX]
 |.pt row,v,a=>by
  have:=KW h row
  grind [AX]
 |.sR f c,v,a=>by
  have:=AY h c
  grind [AX]
 |.xl _ _,_,a=>a|.xn _,_,a=>a|.tu _,_,a=>a
theorem AY(h:BA w w' F F'):∀(ts:Fq)(vs:List Value),AN w F ts vs->AN w' F' ts vs
 |[],_,a=>a|t::ts,vs,a=>by
  simp [AN]at a|-;obtain⟨v,r,c,d,e⟩:=a;exact⟨v,r,c,BZ h t v d,AY h ts r e⟩
theorem KW(h:BA w w' F F'):∀(ts:Fq)(b o:Nat),CN w F ts b o->CN w' F' ts b o
 |[],_,_,_=>trivial|t::ts,b,o,d=>by
  simp [CN]at d|-;obtain⟨⟨v,a,c,e,f⟩,g⟩:=d;exact⟨⟨v,(h b o v a c).1,(h b o v a c).2,e,BZ h t v f⟩,KW h ts b (o+1) g⟩
theorem NS(h:BA w w' F F')(n:Nat):∀(ts:Fq)(b o:Nat),FN w F n ts b o->FN w' F' n ts b o
 |[],_,_,_=>trivial|t::ts,b,o,a=>by
  simp [FN]at a|-;exact⟨VA h t b o a.1,a.2.1,NS h n ts b (o+n) a.2.2⟩
theorem VA(h:BA w w' F F'):∀(t:TV)(b o:Nat),FM w F t b o->FM w' F' t b o
 |.agg cs,b,o,c=>KW h cs b o c|.undef,b,o,c=>by
  simp [FM]at c|-;obtain⟨v,d,e,g⟩:=c;exact⟨v,(h b o v d e).1,(h b o v d e).2,g⟩
 |.int _ _,b,o,c=>by
  simp [FM]at c|-;obtain⟨v,d,e,g⟩:=c;exact⟨v,(h b o v d e).1,(h b o v d e).2,g⟩
 |.bool _,b,o,c=>by
  simp [FM]at c|-;obtain⟨v,d,e,g⟩:=c;exact⟨v,(h b o v d e).1,(h b o v d e).2,g⟩
 |.str _,b,o,c=>by
  simp [FM]at c|-;obtain⟨v,d,e,g⟩:=c;exact⟨v,(h b o v d e).1,(h b o v d e).2,g⟩
 |.nil,b,o,c=>by
  simp [FM]at c|-;obtain⟨v,d,e,g⟩:=c;exact⟨v,(h b o v d e).1,(h b o v d e).2,g⟩
 |.list n es,b,o,c=>by
  simp [FM]at c|-;obtain⟨v,d,e,j,a,cap,g,q,k,p⟩:=c;exact⟨v,(h b o v d e).1,(h b o v d e).2,j,a,cap,g,q,k,fun m i=>⟨(p m i).1,NS h n es _ _ (p m i).2⟩⟩
 |.pt row,b,o,c=>by
  simp [FM]at c|-;obtain⟨v,d,e,j,r,s,g,k⟩:=c;exact⟨v,(h b o v d e).1,(h b o v d e).2,j,r,s,g,KW h row _ _ k⟩
 |.sR f l,b,o,c=>by
  simp [FM]at c|-;obtain⟨v,d,e,j,vs,g,k⟩:=c;exact⟨v,(h b o v d e).1,(h b o v d e).2,j,vs,g,AY h l _ k⟩
 |.xl _ _,b,o,c=>by
  simp [FM]at c|-;obtain⟨v,d,e,g⟩:=c;exact⟨v,(h b o v d e).1,(h b o v d e).2,g⟩
 |.xn _,b,o,c=>by
  simp [FM]at c|-;obtain⟨v,d,e,g⟩:=c;exact⟨v,(h b o v d e).1,(h b o v d e).2,g⟩
 |.tu _,b,o,c=>by
  simp [FM]at c|-;obtain⟨v,d,e,g⟩:=c;exact⟨v,(h b o v d e).1,(h b o v d e).2,g⟩
end
end
section
variable{w:World}{F:Nat->Nat->Prop}
theorem Fa:∀(ts:Fq)(b o:Nat),CN w F ts b o↔∀i t,ts[i]?=some t->∃v,w.cell? ⟨b,o+i,none⟩=some v/\¬F b (o+i)/\v.oneCell'=true/\AX w F t v
 |[],_,_=>by simp[CN]|t::ts,b,o=>by
  simp [CN,Fa ts b (o+1)];constructor
  .grind
  .intro h;refine⟨by simpa using h 0 t rfl,fun i u hi=>?_⟩;have:=h (i+1) u (by simpa using hi)
   grind
variable{ts:Fq}{b o:Nat}
theorem KV(h:CN w F ts b o)(k:Nat):CN w F (ts.drop k) b (o+k):=by
 rw [Fa]at h|-
 grind
theorem Tb(h:CN w F ts b o)(k:Nat):CN w F (ts.take k) b o:=by
 rw [Fa]at h|-
 grind
variable{n:Nat}
theorem LI{e:TV}{es:Fq}:FN w F n (e::es) b o↔CN w F e.cells b o/\e.cells.length=n/\FN w F n es b (o+n):=by grind[FN,U9]
theorem MH(n:Nat):∀(es:Fq)(b o:Nat),FN w F n es b o↔∀i e,es[i]?=some e->CN w F e.cells b (o+i*n)/\e.cells.length=n
 |[],_,_=>by simp[FN]|e::es,b,o=>by
  rw [LI,MH n es b (o+n)];constructor
  .rintro⟨c,d,f⟩ i u hi;cases i with
   |zero=>simp at hi;subst hi;simpa using⟨c,d⟩|succ i=>
    grind
  .intro h;have a:=h 0 e rfl;simp at a;refine⟨a.1,a.2,fun i u hi=>?_⟩;have:=h (i+1) u (by simpa using hi)
   grind
theorem A8:∀(ts:Fq)(vs:List Value),AN w F ts vs↔vs.length=ts.length/\∀(i:Nat)(t:TV)(v:Value),ts[i]?=some t->vs[i]?=some v->AX w F t v
 |[],vs=>by simp[AN]|t::ts,vs=>by
  simp [AN];constructor
  .rintro⟨v,r,rfl,c,a⟩;rw[A8 ts r]at a
   grind
  .rintro⟨c,a⟩;cases vs with
   |nil=>simp at c|cons v r=>exact⟨v,r,rfl,a 0 t v rfl rfl,(A8 ts r).2 ⟨by simpa using c,fun i u x hi d=>a (i+1) u x (by simpa using hi) (by simpa using d)⟩⟩
theorem FK{ts a:Fq}{vs xs:List Value}(c:AN w F ts vs)(d:AN w F a xs):AN w F (ts++a) (vs++xs):=by
 induction ts generalizing vs with
 |nil=>simp[AN]at c;subst c;simpa using d|cons t ts e=>
  grind [AN]
theorem EG{t:TV}{v:Value}(h:AX w F t v):AN w F t.cells v.cells.toList/\∀x∈v.cells.toList,x.oneCell'=true:=by
 have one:∀{v:Value}{t:TV},v.cells=#[v]->v.oneCell'=true->AX w F t v->t.cells=[t]->AN w F t.cells v.cells.toList/\∀x∈v.cells.toList,x.oneCell'=true:=by
  intro v t j d e l;rw[j,l];exact⟨⟨v,[],rfl,e,rfl⟩,by simpa using d⟩
 cases t with
 |agg cs=>simp only[AX]at h;obtain⟨vs,rfl,d,e⟩:=h;exact⟨d,fun x i=>List.all_eq_true.1 e x i⟩
 |undef=>have c:=h;simp[AX]at h;cases v<;>first|exact one rfl rfl c rfl|(simp[Value.oneCell']at h)
 |xl n es=>have c:=h;simp[AX]at h;cases v<;>first|exact one rfl rfl c rfl|(simp[Value.oneCell']at h)
 |xn es=>have c:=h;simp[AX]at h;cases v<;>first|exact one rfl rfl c rfl|(simp[Value.oneCell']at h)
 |int k n=>have c:=h;simp[AX]at h;subst h;exact one rfl rfl c rfl|bool b=>have c:=h;simp[AX]at h;subst h;exact one rfl rfl c rfl|tu b=>have c:=h;simp[AX]at h;subst h;exact one rfl rfl c rfl|str s=>have c:=h;simp[AX]at h;subst h;exact one rfl rfl c rfl|nil=>have c:=h;simp[AX]at h;subst h;exact one rfl rfl c rfl|list n es=>have c:=h;simp[AX]at h;obtain⟨a,cap,rfl,_⟩:=h;exact one rfl rfl c rfl
 |pt row=>have c:=h;simp[AX]at h;obtain⟨b,o,rfl,_⟩:=h;exact one rfl rfl c rfl
 |sR f g=>have c:=h;simp[AX]at h;obtain⟨vs,rfl,_⟩:=h;exact one rfl rfl c rfl
end
end Go.Sf
namespace Go.Sf
section
variable(S:FuncId->Fq->Ap->Prop)
theorem wp_skip(l:Ne)(q:Q)(O:AA):PC.wp S (.skip l) q O=q.normal (O.po l):=rfl
theorem wp_ret(q:Q)(O:AA):PC.wp S .ret q O=q.ret O:=rfl
theorem wp_exit(id:Nat)(l:Ne)(q:Q)(O:AA):PC.wp S (.exit id l) q O=q.exit id (O.po l):=rfl
theorem wp_seq(a b:PC)(q:Q)(O:AA):PC.wp S (.seq a b) q O=a.wp S {q with normal:=fun e=>(∀s,(e.get s).WF)->b.wp S q e} O:=rfl
theorem wp_block(id:Nat)(c:PC)(q:Q)(O:AA):PC.wp S (.block id c) q O=c.wp S {q with exit:=fun i e=>if i=id then q.normal e else q.exit i e} O:=rfl
theorem wp_region(ops:List PR)(a:Ne)(q:Q)(O:AA):PC.wp S (.region ops a) q O=wpOps S (fun e=>q.normal (e.po a)) ops O:=rfl
theorem A9{α:Type}{o:Option α}{K K':α->Prop}(h:∀a,K a->K' a):AR o K->AR o K':=by
 cases o<;>simp[AR];exact h _
theorem AC.rl(O:AA)(dst:Option Nat){K K':EV->AA->Prop}(h:∀e env',K e env'->K' e env')(op:AC)(a:op.wp S O dst K):op.wp S O dst K':=by
 cases op<;>simp only[AC.wp]at a|-
 case ld=>exact A9 (fun _=>A9 (fun _ d=>⟨d.1,h _ _ d.2⟩)) a
 case uC=>exact A9 (fun _ d=>⟨d.1,h _ _ d.2⟩) a
 case uy=>exact A9 (fun _=>A9 (fun _=>h _ _)) a
 case uS=>exact A9 (fun _ d=>⟨d.1,h _ _ d.2⟩) a
 case call=>exact A9 (fun _⟨r,f,c⟩=>⟨r,f,fun g=>h _ _ (c g)⟩) a
 case sR=>exact A9 (fun _=>h _ _) a
 case mm=>split at a<;>first|exact a.elim|exact⟨a.1,h _ _ a.2⟩
 case ux x k n agg=>
  split at a
  .refine⟨a.1,?_⟩;have c:=a.2;cases agg
   .exact A9 (fun _=>h _ _) c
   .exact h _ _ c
  .exact a.elim
 case uK=>exact A9 (fun _=>h _ _) a
 case vC=>exact A9 (fun p q=>by
  split at q
  .exact⟨q.1,q.2.1,q.2.2.1,h _ _ q.2.2.2⟩
  .exact q.elim) a
 case uB=>
  split at a
  .split at a
   .obtain⟨f,c,es',i,j,s,B⟩:=a;exact⟨f,c,es',i,j,s,h _ _ B⟩
   .exact a.elim
  .exact a.elim
 case ub=>split at a<;>first|exact a.elim|exact⟨a.1,h _ _ a.2⟩
 case ud=>split at a<;>first|exact a.elim|exact⟨a.1,h _ _ a.2⟩
 case uR=>split at a<;>first|exact a.elim|exact⟨a.1,a.2.1,h _ _ a.2.2⟩
 case t6=>split at a<;>first|exact a.elim|exact⟨a.1,a.2.1,a.2.2.1,a.2.2.2.1,a.2.2.2.2.1,h _ _ a.2.2.2.2.2⟩
 case tj=>
  split at a
  .exact⟨a.1,A9 (fun ts⟨n,es,f,c⟩=>⟨n,es,f,fun g=>h _ _ (c g)⟩) a.2⟩
  .exact a.elim
 case sZ=>
  split at a
  .exact⟨a.1,A9 (fun _=>h _ _) a.2⟩
  .exact a.elim
 case stx=>split at a<;>first|exact a.elim|exact⟨a.1,a.2.1,a.2.2.1,h _ _ a.2.2.2⟩
 case tN=>exact A9 (fun ts⟨cs,f,c⟩=>⟨cs,f,fun g=>h _ _ (c g)⟩) a
 case tw=>exact A9 (fun ts⟨cs,f,i,c⟩=>⟨cs,f,i,fun g=>h _ _ (c g)⟩) a
 case ti=>exact A9 (fun _⟨r,f,c⟩=>⟨r,f,fun g=>h _ _ (c g)⟩) a
 case uc=>
  split at a
  .exact A9 (fun _ d=>⟨d.1,h _ _ d.2⟩) a
  .exact a.elim
 case tM=>exact A9 (fun ts⟨l,f,c⟩=>⟨l,f,h _ _ c⟩) a
 case ue=>
  split at a
  .exact⟨a.1,a.2.1,a.2.2.1,h _ _ a.2.2.2⟩
  .exact a.elim
 case tg=>
  split at a
  .split at a
   .exact⟨a.1,A9 (fun ts⟨cs',l,f,c⟩=>⟨cs',l,f,fun g=>h _ _ (c g)⟩) a.2⟩
   .exact a.elim
  .exact a.elim
 case vq=>
  split at a
  .exact A9 (fun _ d=>h _ _ d) a
  .exact a.elim
 case tK=>
  split at a
  .split at a
   .exact A9 (fun _ d=>⟨d.1,d.2.1,h _ _ d.2.2⟩) a
   .exact a.elim
  .exact a.elim
 case uQ=>
  split at a
  .exact A9 (fun _ d=>⟨d.1,d.2.1,h _ _ d.2.2⟩) a
  .exact A9 (fun _⟨f,u,c,i,j⟩=>⟨f,u,c,i,h _ _ j⟩) a
  .exact a.elim
 case vw=>
  split at a
  .exact A9 (fun _ d=>⟨d.1,h _ _ d.2⟩) a
  .exact a.elim
 case uU=>
  split at a
  .exact A9 (fun _⟨u,f,c,i,j,s⟩=>⟨u,f,c,i,j,h _ _ s⟩) a
  .exact a.elim
 case tG=>
  split at a
  .split at a
   .exact⟨a.1,A9 (fun _⟨r,f,c⟩=>⟨r,f,fun g=>h _ _ (c g)⟩) a.2⟩
   .exact a.elim
  .exact a.elim
 case vB=>
  split at a
  .exact⟨a.1,fun e=>h _ _ (a.2.1 e),fun p t z=>h _ _ (a.2.2 p t z)⟩
  .exact a.elim
 case vu=>split at a<;>first|exact a.elim|exact h _ _ a
 case vj=>
  split at a
  .split at a
   .exact A9 (fun _ d=>⟨d.1,d.2.1,d.2.2.1,h _ _ d.2.2.2⟩) a
   .exact a.elim
  .exact a.elim
 case uT=>exact fun b=>h _ _ (a b)
 case vh=>split at a<;>first|exact a.elim|exact h _ _ a
 case tB=>
  refine A9 (fun _ d=>?_) a;rcases d with⟨l,f,c⟩|⟨y,l,f,c⟩
  .exact .inl ⟨l,f,fun g=>h _ _ (c g)⟩
  .exact .inr ⟨y,l,f,fun g b=>h _ _ (c g b)⟩
 case su=>split at a<;>first|exact a.elim|exact⟨a.1,h _ _ a.2⟩
 case vI=>split at a<;>first|exact a.elim|exact⟨a.1,A9 (fun _ d=>h _ _ d) a.2⟩
 case vf=>
  split at a
  .split at a
   .exact⟨a.1,A9 (fun _ d=>h _ _ d) a.2⟩
   .exact a.elim
  .exact a.elim
 case vK=>split at a<;>first|exact a.elim|exact h _ _ a
 case vJ=>split at a<;>first|exact a.elim|exact⟨a.1,h _ _ a.2⟩
 case vn=>
  split at a
  .exact fun b A=>h _ _ (a b A)
  .exact h _ _ a
  .exact a.elim
 case tD=>exact A9 (fun p⟨f,zs,m,c,i,j⟩=>⟨f,zs,m,c,i,fun g=>h _ _ (j g)⟩) a
 case tF=>
  split at a
  .exact A9 (fun p⟨v,f,s,zs,m,c,i,j⟩=>⟨v,f,s,zs,m,c,i,fun g=>h _ _ (j g)⟩) a
  .exact a.elim
 all_goals (repeat' split at a)<;>first|exact a.elim|exact h _ _ a|exact⟨a.1,h _ _ a.2⟩|exact⟨a.1,a.2.1,h _ _ a.2.2⟩|exact⟨a.1,a.2.1,a.2.2.1,h _ _ a.2.2.2⟩|exact A9 (fun _=>h _ _) a|(obtain⟨r,f,c⟩:=a;exact⟨r,f,fun g=>h _ _ (c g)⟩)|(obtain⟨f,r,c,i⟩:=a;exact⟨f,r,c,h _ _ i⟩)|(obtain⟨v,f,r,c,i⟩:=a;exact⟨v,f,r,c,h _ _ i⟩)
variable{K K':AA->Prop}
theorem PR.rl(O:AA)(h:∀e,K e->K' e)(o:PR)(a:o.wp S O K):o.wp S O K':=by
 unfold PR.wp at a|-;split at a
 .grind[AC.rl]
 grind [AC.rl]
theorem LP(h:∀e,K e->K' e):∀(os:List PR)(O:AA),wpOps S K os O->wpOps S K' os O
 |[],_,a=>h _ a|o::os,O,a=>PR.rl S O (fun e=>LP h os e) o a
theorem PC.rl:∀(c:PC)(q:Q)(O:AA),c.wp S q O->∀(f:Q),(∀e,q.normal e->f.normal e)->(∀i e,q.exit i e->f.exit i e)->(∀e,q.ret e->f.ret e)->c.wp S f O
 |.skip _,_,_,d,_,h,_,_=>h _ d|.ret,_,_,d,_,_,_,h=>h _ d|.exit _ _,_,_,d,_,_,h,_=>h _ _ d|.seq a b,q,O,d,f,g,j,k=>by
  simp [PC.wp]at d|-;exact PC.rl a _ O d _ (fun e he m=>PC.rl b q e (he m) f g j k) j k
 |.cond c a b,q,O,d,f,g,j,k=>by
  simp [PC.wp]at d|-;split at d
  .exact⟨fun p=>PC.rl a q O (d.1 p) f g j k,fun p=>PC.rl b q O (d.2 p) f g j k⟩
  .exact d.elim
 |.block id c,q,O,d,f,g,j,k=>by
  simp [PC.wp]at d|-;exact PC.rl c _ O d _ g (fun i e=>by dsimp only;split<;>first|exact g e|exact j i e) k
 |.loop l c,q,O,d,f,g,j,k=>by
  simp [PC.wp]at d|-;exact fun X r=>d X fun e he=>r e fun m=>PC.rl c _ e (he m) _ (fun _ h=>h) j k
 |.region ops l,q,O,d,f,g,_,_=>by
  grind [PC.wp,LP]
 |.draw _ ops l,q,O,d,f,g,_,_=>by
  grind [PC.wp,LP]
 |.bad,_,_,d,_,_,_,_=>by
  simp [PC.wp]at d
 |.vt s c,q,O,d,f,g,j,k=>by
  simp [PC.wp]at d|-;split at d
  .exact PC.rl c q _ d f g j k
  .exact d.elim
theorem ai{σ:Type}{a:Ne}{c:PC}{q:Q}{O:AA}(I:σ->AA)(ok:σ->Prop)(μ:σ->Nat)(d:σ)(i:O.po a=I d)(e:ok d)
  (step:∀s,ok s->(∀k,((I s).get k).WF)->c.wp S {q with normal:=fun g=>∃f,g.po a=I f/\ok f/\μ f<μ s} (I s)):PC.wp S (.loop a c) q O:=by
 intro X l;rw[i];have key:∀n s,μ s=n->ok s->X (I s):=by
  intro n
  induction n using Nat.strongRecOn with
  |_ n p=>
   intro s m ho;refine l _ fun j=>?_;refine PC.rl S c _ _ (step s ho j) _ (fun g he=>?_) (fun _ _ h=>h) (fun _ h=>h)
   grind
 exact key _ d rfl e
end
end Go.Sf
namespace Go.Sf
def VU:Nat:=0
def Nj(_:World):Prop:=True
theorem Nj.po{w w':World}(_:Nj w)(_:∀b,b<VU->w'.heap[b]?=w.heap[b]?):Nj w':=trivial
theorem Nj.lt{w:World}(_:Nj w):VU<=w.heap.size:=Nat.zero_le _
end Go.Sf
