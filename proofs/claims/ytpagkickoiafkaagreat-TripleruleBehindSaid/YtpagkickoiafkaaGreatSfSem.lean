/- The pure language: environments, operations, code, and what must hold before a piece of code so that a condition holds behind it. No memory. -/
import Derived.Test.YtpagkickoiafkaaGreatSfRep
set_option linter.all false
open Option renaming some->Y,none->W
open Bool renaming true->X,false->T
namespace Go.Sf
def CA:Nat:=8589934592
def FE:Nat:=9223372036854775807
variable{n:Nat}
theorem Ob(h:n<=CA):n<=FE:=by grind[CA,FE]
mutual
def TV.WF:TV->Prop
 |.int k n=>k.min<=n/\n<=k.max|.str s=>s.size<=FE|.list _ es=>es.length<=FE/\TV.jU es|.agg cs=>TV.jU cs|.pt row=>TV.jU row|.kL _ caps=>TV.jU caps|.xl _ es=>es.length<=FE/\TV.jU es|.xn es=>es.length<=FE/\TV.jU es|_=>True
def TV.jU:Fq->Prop
 |[]=>True|t::ts=>TV.WF t/\TV.jU ts
end
structure AI where
 own:Bool
 t:TV
def TV.kR:TV->Bool
 |.xl _ _=>X|.xn _=>X|_=>T
def AI.key(c:AI):TV×Bool:=(c.t,c.own&&c.t.kR)
def AI.rel(c:AI):AI:=
 match c with
 |⟨X,.xl n es⟩=>⟨X,.list n es⟩|⟨X,.xn es⟩=>⟨X,.list 1 es⟩|c=>c
def AI.mg(c:AI):TV:=
 match c with
 |⟨X,.xl n es⟩=>.list n es|c=>c.t
inductive NK where
 |hd
 |el (r:Nat)
 |rw(r:Nat)
 |rp (r c:Nat)
abbrev Be:=List ((Int×Int)×Int)
inductive MX where
 |mp (b:Nat) (kvs:Be)
 |tm (b:Nat) (kvs:Be) (ts:Fq)
 |mi (last:Option ((Int×Int)×Int)) (todo:Be)
def Be.WF(kvs:Be):Prop:=∀p∈kvs,(TV.int .i64 p.1.1).WF/\(TV.int .i64 p.1.2).WF/\(TV.int .i64 p.2).WF
def MX.WF:MX->Prop
 |.mp _ kvs=>Be.WF kvs|.tm _ kvs ts=>Be.WF kvs/\TV.jU ts|.mi last todo=>Be.WF last.toList/\Be.WF todo
def Be.look(k:Int×Int):Be->QQ
 |[]=>W|p::r=>if p.1=k then Y p.2 else Be.look k r
def Be.set(k:Int×Int)(n:Int):Be->Be
 |[]=>[(k,n)]|p::r=>if p.1=k then(k,n)::r else p::Be.set k n r
def LR(k:Int×Int):TV:=.agg [.int .i64 k.1,.int .i64 k.2]
def TV.nc?:TV->Option (Int×Int)
 |.agg [.int .i64 a,.int .i64 b]=>Y (a,b)|_=>W
inductive EV where
 |undef
 |tv (t:TV)
 |ow (t:TV)
 |bx (cs:List AI)
 |bp (s off:Nat)
 |tp (ts:Fq)
 |sk
 |xo (n:Nat) (es:Fq)
 |la (q:Nat) (i:Option Nat)
 |lp (q:Nat) (i:Option Nat) (c:Nat)
 |kC (cs:List AI)
 |xn (es:Fq)
 |x1 (n:Nat) (fs:Fq)
 |nh (q i:Nat) (k:NK)
 |mx (m:MX)
def EV.WF:EV->Prop
 |.tv t=>t.WF|.ow t=>t.WF|.bx cs=>∀c∈cs,c.t.WF|.tp ts=>TV.jU ts|.xo n es=>(TV.list n es).WF|.kC cs=>∀c∈cs,c.t.WF|.xn es=>(TV.list 1 es).WF|.x1 n fs=>(TV.list n fs).WF|.mx m=>m.WF|_=>True
abbrev AA:=List (Nat×EV)
def AA.get:AA->Nat->EV
 |[],_=>.undef|(k,e)::r,n=>if k=n then e else AA.get r n
def AA.jj(O:AA)(live:Ne):AA:=live.map λs=>(s,O.get s)
def EV.jZ:EV->Option Nat
 |.bp s _=>Y s|.la s _=>Y s|.lp s _ _=>Y s|.nh s _ _=>Y s|_=>W
def EV.kx(d:Nat)(e:EV):Bool:=
 match e.jZ with
 |some s=>d !=s|none=>X
def AA.je(s:Nat):AA->Bool
 |[]=>X|(_,e)::r=>e.kx s&&AA.je s r
def EV.mM(d:Nat)(k:Option Nat):EV->Bool
 |.la s (Y i)=>d !=s||(match k with|some j=>i !=j|none=>T)
 |.lp s (Y i) _=>d !=s||(match k with|some j=>i !=j|none=>T)
 |.nh s i _=>d !=s||(match k with|some j=>i !=j|none=>T)
 |_=>X
def AA.nq(s:Nat)(k:Option Nat):Ne->AA->Bool
 |_,[]=>X|z,(q,e)::r=>(z.contains q||e.mM s k)&&AA.nq s k (q::z) r
def AA.lV(s:Nat)(k:Option Nat)(O:AA):Bool:=AA.nq s k [] O
def AA.jT(O:AA)(q:Nat):Option Nat->Option (Nat×Fq)
 |none=>match O.get q with
  |.xo n es=>Y (n,es)|_=>W
 |some k=>match O.get q with
  |.bx cs=>match cs[k]? with
   |some ⟨X,.xl n es⟩=>Y (n,es)|_=>W
  |_=>W
def AA.kj(O:AA)(q:Nat)(i:Option Nat)(n:Nat)(es:Fq):AA:=
 match i with
 |none=>(q,.xo n es)::O|some k=>match O.get q with
  |.bx cs=>(q,.bx (cs.set k ⟨X,.xl n es⟩))::O|_=>O
def AA.nat(O:AA)(q k:Nat):Option Fq:=
 match O.get q with
 |.bx cs=>match cs[k]? with
  |some ⟨X,.xn es⟩=>Y es|_=>W
 |_=>W
def AA.m9(O:AA)(q k:Nat)(es:Fq):AA:=
 match O.get q with
 |.bx cs=>(q,.bx (cs.set k ⟨X,.xn es⟩))::O|_=>O
inductive AC where
 |s (n:Nat)
 |c (t:TV)
def AC.ev(O:AA):AC->EV
 |.s n=>O.get n|.c t=>.tv t
def EV.val:EV->Option TV
 |.tv t=>Y t|.ow t=>Y t|_=>W
def AC.val(O:AA)(x:AC):Option TV:=(x.ev O).val
def vals(O:AA):List AC->Option Fq
 |[]=>Y []|x::xs=>match x.val O,vals O xs with
  |some t,Y ts=>Y (t::ts)|_,_=>W
def intCmp(op:BinOp)(a b:Int):K1:=
 match op with
 |.eql=>Y (decide (a=b))|.neq=>Y (!decide (a=b))|.lss=>Y (decide (a<b))|.leq=>Y (decide (a<=b))|.gtr=>Y (decide (b<a))|.geq=>Y (decide (b<=a))|_=>W
def intArith(op:BinOp)(a b:Int):QQ:=
 match op with
 |.add=>Y (a+b)|.sub=>Y (a-b)|.mul=>Y (a*b)|.quo=>if b=0 then W else Y (a.tdiv b)|_=>W
inductive GC where
 |z (c:AI)
 |v (x:AC) (k n:Nat)
 |w (q:Nat)
 |g (q k n:Nat)
def GC.cell(O:AA):GC->Option AI
 |.z c=>Y c|.v x k n=>match x.val O with
  |some t=>match Nat.beq t.cells.length n,t.cells[k]? with
   |true,Y c=>Y ⟨T,c⟩|_,_=>W
  |none=>W
 |.w q=>match O.get q with
  |.ow t=>Y ⟨X,t⟩|.xo n es=>Y ⟨X,.xl n es⟩|_=>W
 |.g q k n=>match O.get q with
  |.kC cs=>match Nat.beq cs.length n with
   |true=>cs[k]?|false=>W
  |_=>W
def Cq(O:AA):List GC->Option (List AI)
 |[]=>Y []|g::gs=>match g.cell O,Cq O gs with
  |some c,Y cs=>Y (c::cs)|_,_=>W
def GC.src:GC->Option (Nat×Option Nat)
 |.w q=>Y (q,W)|.g q k _=>Y (q,Y k)|_=>W
def GC.slot:GC->Option Nat
 |.w q=>Y q|.g q _ _=>Y q|_=>W
def GC.sl:GC->Ne
 |.v (.s q) _ _=>[q]|.w q=>[q]|.g q _ _=>[q]|_=>[]
def EV.gave:EV->EV
 |.ow t=>.tv t|_=>.undef
def Hx(e0:AA):Ne->AA->AA
 |[],O=>O|q::qs,O=>(q,(e0.get q).gave)::Hx e0 qs O
def BL:Fq->Fq->K1
 |[],[]=>Y X|.int k a::cs,.int k' b::ds=>if k=k' then(match BL cs ds with|some r=>Y (decide (a=b)&&r)|none=>W)else W
 |.str a::cs,.str b::ds=>(match BL cs ds with|some r=>Y (decide (a=b)&&r)|none=>W)
 |.bool a::cs,.bool b::ds=>(match BL cs ds with|some r=>Y (decide (a=b)&&r)|none=>W)
 |_,_=>W
inductive BK where
 |i|s|b|w
 |a (ks:Ne)
def TV.kd:TV->Nat
 |.int _ _=>0|.str _=>1|.bool _=>2|_=>3
def JT(k:IntKind)(op:BinOp)(a b:Int):QQ:=
 match op with
 |.and=>Y (k.wrap (BitVec.ofInt k.bits a &&& BitVec.ofInt k.bits b).toNat)|.or=>Y (k.wrap (BitVec.ofInt k.bits a|||BitVec.ofInt k.bits b).toNat)|.xor=>Y (k.wrap (BitVec.ofInt k.bits a^^^ BitVec.ofInt k.bits b).toNat)|.andNot=>Y (k.wrap (BitVec.ofInt k.bits a &&& ~~~ BitVec.ofInt k.bits b).toNat)|.shl=>if 0<=b then Y (k.wrap (a*2^ (min b.toNat k.bits)))else W|.shr=>if 0<=b/\k.min<=a.fdiv (2^ (min b.toNat k.bits))/\a.fdiv (2^ (min b.toNat k.bits))<=k.max then Y (a.fdiv (2^ (min b.toNat k.bits)))else W|_=>W
def Gc:BK->BinOp->TV->TV->Option TV
 |.i,op,.int k a,.int k' b=>
  if k=k' then
   match intCmp op a b with
   |some r=>Y (.bool r)|none=>match intArith op a b with
    |some r=>Y (.int k (k.wrap r))|none=>if op=.rem/\b≠0 then Y (.int k (a.tmod b))else W
  else W
 |.w,op,.int k a,.int k' b=>if k=k'\/op=.shl\/op=.shr then(match JT k op a b with|some r=>Y (.int k r)|none=>W)else W
 |.s,.eql,.str a,.str b=>Y (.bool (a==b))|.s,.neq,.str a,.str b=>Y (.bool (!(a==b)))|.s,.add,.str a,.str b=>if a.size+b.size<=CA then Y (.str (a++b))else W|.b,.eql,.bool a,.bool b=>Y (.bool (a==b))|.b,.neq,.bool a,.bool b=>Y (.bool (!(a==b)))|.a n,.eql,.agg cs,.agg ds=>if cs.map TV.kd=n then(match BL cs ds with|some b=>Y (.bool b)|none=>W)else W
 |.a n,.neq,.agg cs,.agg ds=>if cs.map TV.kd=n then(match BL cs ds with|some b=>Y (.bool !b)|none=>W)else W
 |_,_,_,_=>W
def Dc(O:AA)(d:Int):Option AC->Option TV
 |none=>Y (.int .i64 d)|some o=>o.val O
def Ao(O:AA):EV->Option Fq
 |.tv (.pt row)=>Y row|.bx cs=>Y (cs.map (·.t))|.bp s off=>match O.get s with
  |.bx cs=>Y ((cs.drop off).map (·.t))|_=>W
 |_=>W
def AC.place(O:AA):AC->Option (Nat×Nat)
 |.s n=>match O.get n with
  |.bp q off=>Y (q,off)|.bx _=>Y (n,0)|_=>W
 |.c _=>W
def I7:Fq->Nat->Fq->Fq
 |cs,_,[]=>cs|cs,i,d::ds=>I7 (cs.set i d) (i+1) ds
def CX(cs:Fq):List (Nat×Nat×TV)->Option Fq
 |[]=>Y cs|(i,n,t)::r=>if t.cells.length=n/\i+n<=cs.length then CX (I7 cs i t.cells) r else W
def CS(O:AA):List (Nat×Nat×AC)->Option (List (Nat×Nat×TV))
 |[]=>Y []|(i,n,x)::r=>match x.val O,CS O r with
  |some t,Y ts=>Y ((i,n,t)::ts)|_,_=>W
inductive AB where
 |mv (x:AC)
 |tk (s:Nat)
 |mr (n:Nat)
 |kK (x:AC) (k:Nat)
 |bad (s k:Nat)
 |l4 (x i:AC) (n:Nat)
 |mZ (x i:AC) (n k:Nat)
 |ld (x:AC)
 |mn (x:AC) (n:Nat)
 |nK (x:AC)
 |bin (k:BK) (op:BinOp) (x y:AC)
 |not (x:AC)
 |neg (x:AC)
 |pick (c a b:AC)
 |len (x:AC)
 |mR (x:AC)
 |lx (n:Nat) (x:AC) (lo hi:Option AC)
 |k8 (x:AC) (lo hi:Option AC)
 |ma (zero:Fq) (parts:List (Nat×Nat×AC))
 |mE (n:Nat) (parts:List AC)
 |app (n:Nat) (x y:AC)
 |call (f:FuncId) (args:List AC)
 |l8 (x:AC) (args:List AC)
 |kL (f:FuncId) (caps:List AC)
 |ext (x:AC) (i:Nat)
 |mt (k:IntKind) (x:AC)
 |kQ (x i:AC)
 |mq (x:AC)
 |mG (x:AC)
 |mm (max:Bool) (x y:AC)
 |mP (cs:List AI)
 |st (n:Nat) (x v:AC)
 |mh (n s:Nat) (v:AC)
 |nk (s:Nat)
 |mF (x:AC) (k n:Nat) (agg:Bool)
 |nm (s:Nat)
 |mz (x:AC)
 |nB (x i:AC) (n:Nat)
 |xfa (x:AC) (k:Nat)
 |nv (x:AC)
 |mf (x v:AC) (k:Nat)
 |rel (s:Nat)
 |mc (n:Nat)
 |mO (s:Nat)
 |lL (n s:Nat) (y:AC)
 |kW (f:FuncId) (args:List AC)
 |lY (n:Nat) (zero:Fq) (x:AC)
 |kU (f:FuncId) (x:AC) (ys:List AC)
 |lu (f:FuncId) (x:AC)
 |ky (gs:List GC)
 |stx (n:Nat) (s q:Nat)
 |lH (f:FuncId) (args:List AC)
 |kS (f:FuncId) (args:List AC)
 |ni (x:AC)
 |nH (x:AC)
 |m8 (x:AC)
 |nA (x:AC) (q:Nat)
 |cut (n s:Nat) (hi:AC)
 |k9 (f:FuncId) (args:List AC)
 |ml (ps:List (Option AI)) (x:AC)
 |md (n s:Nat) (z:TV) (x:AC)
 |kD (f:FuncId) (args:List AC) (i:Nat)
 |lJ (f:FuncId) (args:List AC)
 |l9 (n:Nat)
 |nM (s n:Nat)
 |mj (q:Nat)
 |k7 (m q:Nat)
 |nD (x:AC)
 |mL (x i:AC)
 |ng (x:AC)
 |mK (x v:AC)
 |mH (q:Nat)
 |lc (f:FuncId) (args:List AC) (i:Nat)
 |ldg (s n:Nat)
 |nj (n:Nat) (ps:List (Option AI)) (x v:AC)
 |mJ
 |nG (s:Nat)
 |kX (f:FuncId) (args:List AC)
 |nN (s:Nat) (m x:AC)
 |nf (s:Nat) (m x v:AC)
 |j7 (s:Nat) (m:AC)
 |nC (s:Nat)
 |nE (s:Nat)
 |nI (x:AC) (k:Nat)
 |nP (x:AC) (n:Nat)
 |nJ (x i:AC) (n:Nat)
 |nu (x:AC)
 |nF (n:Nat) (zero:Fq) (x:AC)
structure PR where
 dst:Option Nat
 op:AB
 guard:Option (Nat×Bool)
inductive PC where
 |skip (live:Ne)
 |ret
 |exit (id:Nat) (live:Ne)
 |seq (a b:PC)
 |cond (c:AC) (a b:PC)
 |block (id:Nat) (c:PC)
 |loop (live:Ne) (c:PC)
 |region (ops:List PR) (live:Ne)
 |draw (D:Ne) (ops:List PR) (live:Ne)
 |nd (s:Nat) (c:PC)
 |bad
def L9(O:AA):Ne->Bool
 |[]=>X|d::ds=>O.je d&&L9 O ds
inductive AZ where
 |sh (t:TV)
 |own (t:TV)
 |tp (ts:Fq)
 |turn (zs:Fp) (us:Fq)
 |cut (zs:Fp)
 |lM (n:Nat) (es:Fq)
 |kC (cs:List AI)
 |bo (cs cs':List AI) (i:Nat) (ts:Fq)
 |ext (ts:Fq)
 |ag (cs:List AI) (i:Nat) (r:AZ)
 |mpr (kvs:Be) (ts:Fq)
def AZ.WF:AZ->Prop
 |.sh t=>t.WF|.own t=>t.WF|.tp ts=>TV.jU ts|.turn zs us=>(TV.list 1 (zs.map (TV.int .i64))).WF/\TV.jU us|.cut zs=>(TV.list 1 (zs.map (TV.int .i64))).WF|.lM n es=>(TV.list n es).WF|.kC cs=>∀c∈cs,c.t.WF|.bo _ cs' _ ts=>(∀c∈cs',c.t.WF)/\TV.jU ts|.ext ts=>TV.jU ts|.ag _ _ r=>r.WF|.mpr kvs ts=>Be.WF kvs/\TV.jU ts
def AZ.plain:AZ->Bool
 |.turn ..=>T|.cut _=>T|.bo ..=>T|.ext _=>T|.ag ..=>T|.mpr ..=>T|_=>X
def AZ.ev:AZ->EV
 |.sh t=>.tv t|.own t=>.ow t|.tp ts=>.tp ts|.lM n es=>.ow (.list n es)|.kC cs=>.tv (.agg (cs.map λc=>c.rel.t))|_=>.undef
def AZ.mB:AZ->EV
 |.kC cs=>.kC cs|r=>r.ev
mutual
def TV.flat:TV->Bool
 |.int _ _=>X|.bool _=>X|.str _=>X|.agg cs=>TV.ki cs|_=>T
def TV.ki:Fq->Bool
 |[]=>X|t::ts=>t.flat&&TV.ki ts
end
def AI.toX:AI->AI
 |⟨X,.list n es⟩=>⟨X,.xl n es⟩|c=>c
def AI.Xable(c:AI):Prop:=∃n es,c=⟨X,.list n es⟩/\TV.ki es=X
def EV.free:EV->Bool
 |.tv t=>t.flat|.undef=>X|.sk=>X|_=>T
def AC.kc(O:AA):AC->Option ((Nat×Option Nat)×Nat×Fq)
 |.s m=>match O.get m with
  |.xo n es=>Y ((m,W),n,es)|.la q i=>match O.jT q i with
   |some p=>Y ((q,i),p)|none=>W
  |_=>W
 |.c _=>W
def AC.mC(O:AA)(x:AC):Option TV:=
 match x.kc O with
 |some p=>Y (.list p.2.1 p.2.2)|none=>match x.ev O with
  |.bx cs=>Y (.pt (cs.map AI.mg))|.bp q off=>match O.get q with
   |.bx cs=>Y (.pt ((cs.drop off).map AI.mg))|_=>W
  |e=>e.val
def kz(O:AA):List AC->Option Fq
 |[]=>Y []|x::xs=>match x.mC O,kz O xs with
  |some t,Y ts=>Y (t::ts)|_,_=>W
def AZ.kN:AZ->Bool
 |.sh t=>t.flat|.tp ts=>TV.ki ts|.own (.list _ es)=>TV.ki es|_=>T
def AI.kN:AI->Bool
 |⟨X,.list _ es⟩=>TV.ki es|⟨T,t⟩=>t.flat|_=>T
def Ch(O:AA):Nat->List AC->Option Fq
 |_,[]=>Y []|0,_::xs=>match vals O xs with
  |some ts=>Y (.undef::ts)|none=>W
 |i+1,x::xs=>match x.val O,Ch O i xs with
  |some t,Y ts=>Y (t::ts)|_,_=>W
def EV.mQ:Fq->EV
 |[t]=>.tv t|ts=>.tp ts
def CP:List (Option AI)->Fq->Option (List AI)
 |[],[]=>Y []|none::ps,t::ts=>match CP ps ts with
  |some cs=>Y (⟨T,t⟩::cs)|none=>W
 |some c::ps,.nil::ts=>match c,CP ps ts with
  |⟨X,.list n []⟩,Y cs=>Y (⟨X,.list n []⟩::cs)|⟨X,.xl n []⟩,Y cs=>Y (⟨X,.xl n []⟩::cs)|⟨X,.xn []⟩,Y cs=>Y (⟨X,.xn []⟩::cs)|_,_=>W
 |_,_=>W
section
variable(S:FuncId->Fq->AZ->Prop)
def AS{α:Type}(o:Option α)(K:α->Prop):Prop:=
 match o with
 |some a=>K a|none=>False
def Cd:Fq->Option TV
 |[]=>W|t::_=>Y t
def strip:AA->Nat->AA
 |O,s=>(s,.undef)::O
def AB.wp(O:AA)(dst:Option Nat)(K:EV->AA->Prop):AB->Prop
 |.mv x=>match x.ev O with
  |.tv t=>K (.tv t) O|.ow t=>K (.tv t) O|.tp ts=>K (.tp ts) O|_=>False
 |.tk s=>match O.get s with
  |.ow t=>K (.ow t) ((s,.tv t)::O)|.tv t=>K (.tv t) O|_=>False
 |.mr n=>K (.ow (.list n [])) O|.kK x k=>match x.ev O with
  |.tv (.pt row)=>K (.tv (.pt (row.drop k))) O|.bp s off=>match O.get s with
   |.bx _=>K (.bp s (off+k)) O|_=>False
  |_=>False
 |.bad s k=>match O.get s with
  |.bx _=>K (.bp s k) O|.tv (.pt row)=>K (.tv (.pt (row.drop k))) O|_=>False
 |.l4 x i n=>match x.val O,i.val O with
  |some (.list m es),Y (.int _ j)=>m=n/\0<=j/\∃e,es[j.toNat]?=Y e/\K (.tv (.pt e.cells)) O|_,_=>False
 |.mZ x i n k=>match x.ev O,i.val O with
  |.tv (.pt row),Y (.int _ j)=>0<=j/\j<k/\k*n<=row.length/\K (.tv (.pt (row.drop (j.toNat*n)))) O|_,_=>False
 |.ld x=>AS (Ao O (x.ev O)) λcs=>AS (Cd cs) λt=>t.kR=T/\K (.tv t) O|.mn x n=>AS (Ao O (x.ev O)) λcs=>n<=cs.length/\K (.tv (.agg (cs.take n))) O|.nM s n=>match O.get s with
  |.bx cs=>n<=(cs.map (·.t)).length/\K (.tv (.agg ((cs.map (·.t)).take n))) O|_=>False
 |.nK x=>match x.place O with
  |some (s,off)=>match O.get s with
   |.bx cs=>match cs[off]? with
    |some ⟨X,.list n es⟩=>K (.ow (.list n es)) ((s,.bx (cs.set off ⟨T,.list n es⟩))::O)|_=>False
   |_=>False
  |none=>False
 |.bin k op x y=>match x.val O,y.val O with
  |some a,Y b=>AS (Gc k op a b) λt=>K (.tv t) O|_,_=>False
 |.not x=>match x.val O with
  |some (.bool b)=>K (.tv (.bool !b)) O|_=>False
 |.neg x=>match x.val O with
  |some (.int k n)=>K (.tv (.int k (k.wrap (-n)))) O|_=>False
 |.pick c a b=>match c.val O with
  |some (.bool q)=>match(if q then a else b).ev O with
   |.tv t=>K (.tv t) O|.ow t=>K (.tv t) O|_=>False
  |_=>False
 |.len x=>match x.val O with
  |some (.list _ es)=>K (.tv (.int .i64 es.length)) O|_=>False
 |.mR x=>match x.val O with
  |some (.str s)=>K (.tv (.int .i64 s.size)) O|_=>False
 |.lx n x lo hi=>match x.val O with
  |some (.list m es)=>match Dc O 0 lo,Dc O es.length hi with
   |some (.int _ l),Y (.int _ h)=>(m=n/\0<=l/\l<=h)/\h<=es.length/\K (.tv (.list n ((es.take h.toNat).drop l.toNat))) O|_,_=>False
  |_=>False
 |.k8 x lo hi=>match x.val O with
  |some (.str s)=>match Dc O 0 lo,Dc O s.size hi with
   |some (.int _ l),Y (.int _ h)=>0<=l/\l<=h/\h<=s.size/\K (.tv (.str (s.extract l.toNat h.toNat))) O|_,_=>False
  |_=>False
 |.ma zero parts=>AS (CS O parts) λts=>AS (CX zero ts) λcs=>K (.tv (.agg cs)) O|.mE n parts=>AS (vals O parts) λts=>(∀t∈ts,t.cells.length=n)/\K (.ow (.list n ts)) O|.app n x y=>match x.ev O,y.val O with
  |.ow (.list m es),Y (.list m' fs)=>m=n/\m'=n/\es.length+fs.length<=CA/\
    K (.ow (.list n (es++fs))) (match x with|.s s=>(s,.tv (.list n es))::O|_=>O)
  |_,_=>False
 |.call f args=>AS (vals O args) λts=>∃r,(S f ts r/\r.plain=X)/\(r.WF->K r.ev O)|.l8 x args=>match x.val O,vals O args with
  |some (.kL f caps),Y ts=>∃r,(S f (ts++caps) r/\r.plain=X)/\(r.WF->K r.ev O)|_,_=>False
 |.kL f caps=>AS (vals O caps) λts=>K (.tv (.kL f ts)) O|.ext x i=>match x.ev O with
  |.tp ts=>AS ts[i]? λt=>K (.tv t) O|_=>False
 |.mt k x=>match x.val O with
  |some (.int _ n)=>K (.tv (.int k (k.wrap n))) O|_=>False
 |.kQ x i=>match x.val O,i.val O with
  |some (.str s),Y (.int _ j)=>0<=j/\∃b,s[j.toNat]?=Y b/\K (.tv (.int .u8 b.toNat)) O|_,_=>False
 |.mq x=>match x.val O with
  |some t=>K (.tv (.pt t.cells)) O|_=>False
 |.mG x=>match x.val O,dst with
  |some t,Y d=>O.je d=X/\K (.bx (t.cells.map (⟨T,·⟩))) O|_,_=>False
 |.mm mx x y=>match x.val O,y.val O with
  |some (.int k a),Y (.int k' b)=>k=k'/\K (.tv (.int k (if mx then max a b else min a b))) O|_,_=>False
 |.mP cs=>match dst with
  |some d=>O.je d=X/\K (.bx cs) O|none=>False
 |.st n x v=>match x.place O with
  |some (s,off)=>match O.get s with
   |.bx cs=>match v.ev O with
    |.ow t=>match v with
     |.s q=>q≠s/\n=1/\off<cs.length/\K .undef ((s,.bx (cs.set off ⟨X,t⟩))::(q,.tv t)::O)|_=>False
    |.tv t=>t.cells.length=n/\off+n<=cs.length/\K .undef ((s,.bx (cs.take off++t.cells.map (⟨T,·⟩)++cs.drop (off+n)))::O)|_=>False
   |_=>False
  |none=>False
 |.mh n s v=>match O.get s with
  |.bx cs=>match v.ev O with
   |.ow t=>match v with
    |.s q=>q≠s/\n=1/\0<cs.length/\K .undef ((s,.bx (cs.set 0 ⟨X,t⟩))::(q,.tv t)::O)|_=>False
   |.tv t=>t.cells.length=n/\0+n<=cs.length/\K .undef ((s,.bx (cs.take 0++t.cells.map (⟨T,·⟩)++cs.drop (0+n)))::O)|_=>False
  |_=>False
 |.nk s=>match O.get s with
  |.bx cs=>K .undef ((s,.tv (.pt (cs.map (·.t))))::O)|_=>False
 |.mF x k n agg=>match x.val O with
  |some (.agg cs)=>k+n<=cs.length/\(if agg then K (.tv (.agg ((cs.drop k).take n))) O else AS (Cd (cs.drop k)) λt=>K (.tv t) O)|_=>False
 |.nm s=>match O.get s with
  |.xo _ _=>K (.la s W) O|_=>False
 |.mz x=>AS (x.kc O) λp=>K (.tv (.int .i64 p.2.2.length)) O|.nB x i n=>AS (x.kc O) λp=>match i.val O with
  |some (.int _ j)=>((x.ev O).jZ=Y p.1.1/\p.2.1=n)/\0<=j/\j<p.2.2.length/\K (.lp p.1.1 p.1.2 (j.toNat*n)) O|_=>False
 |.xfa x k=>match x.ev O with
  |.lp q i c=>match O.jT q i with
   |some _=>K (.lp q i (c+k)) O|none=>False
  |_=>False
 |.nJ x i n=>match x.ev O,i.val O with
  |.la q W,Y (.int _ j)=>match O.get q with
   |.xo m es=>m=n/\0<=j/\j<es.length/\K (.lp q W (j.toNat*n)) O|_=>False
  |_,_=>False
 |.nu x=>match x.ev O with
  |.lp q W c=>match O.get q with
   |.xo _ es=>AS (es.flatMap TV.cells)[c]? λt=>K (.tv t) O|_=>False
  |_=>False
 |.nv x=>match x.ev O with
  |.lp q i c=>match O.jT q i with
   |some p=>AS (p.2.flatMap TV.cells)[c]? λt=>K (.tv t) O|none=>False
  |_=>False
 |.mf x v k=>match x.ev O with
  |.lp q i c=>match O.jT q i,v.ev O with
   |some (n,es),.tv t=>(t.cells.length=k/\0<k)/\c+k<=es.length*n/\∃es',es'.flatMap TV.cells=(es.flatMap TV.cells).take c++t.cells++(es.flatMap TV.cells).drop (c+k)/\es'.length=es.length/\(∀e∈es',e.cells.length=n)/\K .undef (O.kj q i n es')|_,_=>False
  |_=>False
 |.rel s=>match dst,O.get s with
  |some d,.xo n es=>d≠s/\K (.ow (.list n es)) ((s,.undef)::O)|_,_=>False
 |.mc n=>match dst with
  |some d=>O.je d=X/\K (.xo n []) O|none=>False
 |.mO s=>match dst,O.get s with
  |some d,.xo n es=>O.je d=X/\d≠s/\K (.xo n es) ((s,.undef)::O)|_,_=>False
 |.lL n s y=>match dst,O.get s,y.val O with
  |some d,.xo m es,Y (.list m' fs)=>m=n/\m'=n/\es.length+fs.length<=CA/\O.je d=X/\d≠s/\K (.xo n (es++fs)) ((s,.undef)::O)|_,_,_=>False
 |.kW f args=>match dst with
  |some d=>O.je d=X/\AS (vals O args) λts=>∃n es,(S f ts (.lM n es)\/(S f ts (.own (.list n es))/\TV.ki es=X))/\((TV.list n es).WF->K (.xo n es) O)|none=>False
 |.lY n zero x=>match dst,x.val O with
  |some d,Y (.int _ j)=>O.je d=X/\0<=j/\j<=4096/\K (.xo n (List.replicate j.toNat (match zero with|[t]=>t|ts=>.agg ts))) O
  |_,_=>False
 |.nF n zero x=>match dst,x.val O with
  |some d,Y (.int _ j)=>O.je d=X/\0<=j/\j<=4096/\K (.ow (.list n (List.replicate j.toNat (match zero with|[t]=>t|ts=>.agg ts)))) O
  |_,_=>False
 |.ky gs=>match dst with
  |some d=>((gs.filterMap GC.src).Nodup/\d∉gs.filterMap GC.slot)/\AS (Cq O gs) λcs=>K (.kC cs) (Hx O (gs.filterMap GC.slot) O)|none=>False
 |.stx n s q=>match O.get s,O.get q with
  |.bx cs,.kC ds=>q≠s/\(ds.length=n/\((ds.all λc=>!c.t.kR)||O.lV s W)=X)/\0+n<=cs.length/\K .undef ((s,.bx (cs.take 0++ds++cs.drop (0+n)))::(q,.undef)::O)|_,_=>False
 |.lH f args=>AS (kz O args) λts=>∃cs,(S f ts (.kC cs)/\(vals O args=Y ts\/cs.all AI.kN=X))/\((∀c∈cs,c.t.WF)->K (.kC cs) O)|.kS f args=>AS (vals O args) λts=>∃cs,S f ts (.kC cs)/\(∀c∈cs,c.Xable)/\((∀c∈cs,c.t.WF)->K (.kC (cs.map AI.toX)) O)|.nI x k=>match x.val O with
  |some (.pt row)=>K (.tv (.pt (row.drop k))) O|_=>False
 |.nP x n=>match x.val O with
  |some (.pt row)=>n<=row.length/\K (.tv (.agg (row.take n))) O|_=>False
 |.ni x=>match x.val O with
  |some (.list _ es)=>∀b:Bool,(b=X->es=[])->K (.tv (.bool b)) O|some .nil=>K (.tv (.bool X)) O|_=>False
 |.kU f x ys=>AS (x.kc O) λp=>p.2.1=1/\AS (vals O ys) λts=>∃(zs zs':Fp)(us:Fq),p.2.2=zs.map (TV.int .i64)/\S f (.list 1 p.2.2::ts) (.turn zs' us)/\((AZ.turn zs' us).WF->K (EV.mQ us) (O.kj p.1.1 p.1.2 1 (zs'.map (TV.int .i64))))|.lu f x=>match dst with
  |some d=>AS (x.kc O) λp=>(p.1.1≠d/\p.1.2=W)/\p.2.1=1/\O.je d=X/\∃zs zs':Fp,p.2.2=zs.map (TV.int .i64)/\S f [.list 1 p.2.2] (.cut zs')/\((TV.list 1 (zs'.map (TV.int .i64))).WF->K (.xo 1 (zs'.map (TV.int .i64))) ((p.1.1,.undef)::O))|none=>False
 |.nH x=>match x.ev O with
  |.bp s off=>match O.jT s (Y off)with
   |some _=>K (.la s (Y off)) O|none=>False
  |_=>False
 |.m8 x=>match dst,x.place O with
  |some d,Y (s,off)=>match O.get s with
   |.bx cs=>match cs[off]? with
    |some ⟨X,.xl n es⟩=>O.je d=X/\K (.xo n es) ((s,.bx (cs.set off ⟨T,.undef⟩))::O)|some ⟨X,.xn es⟩=>O.je d=X/\K (.xn es) ((s,.bx (cs.set off ⟨T,.undef⟩))::O)|_=>False
   |_=>False
  |_,_=>False
 |.nA x q=>match x.place O,O.get q with
  |some (s,off),.xo n es=>match O.get s with
   |.bx cs=>O.lV s (Y off)=X/\off<cs.length/\K .undef ((s,.bx (cs.set off ⟨X,.xl n es⟩))::(q,.undef)::O)|_=>False
  |some (s,off),.xn es=>match O.get s with
   |.bx cs=>O.lV s (Y off)=X/\off<cs.length/\K .undef ((s,.bx (cs.set off ⟨X,.xn es⟩))::(q,.undef)::O)|_=>False
  |_,_=>False
 |.cut n s hi=>match dst,O.get s,hi.val O with
  |some d,.xo m es,Y (.int _ h)=>(m=n/\O.je d=X/\d≠s)/\0<=h/\h<=es.length/\K (.xo n (es.take h.toNat)) ((s,.undef)::O)|_,_,_=>False
 |.md n s z x=>match dst,O.get s,x.val O with
  |some d,.xo m es,Y (.int _ j)=>((m=n/\n=1)/\z.cells=[z])/\(0<=j/\j<=4096)/\(es.length+j.toNat<=CA/\O.je d=X/\d≠s)/\K (.xo n (es++List.replicate j.toNat z)) ((s,.undef)::O)|_,_,_=>False
 |.k9 f args=>AS (kz O args) λts=>∃r,(S f ts r/\r.kN=X)/\(r.WF->K r.ev O)|.lJ f args=>AS (vals O args) λts=>∃us,S f ts (.ext us)/\K (.tp us) O|.ml ps x=>match x.val O,dst with
  |some t,Y d=>AS (CP ps t.cells) λcs=>O.je d=X/\K (.bx cs) O|_,_=>False
 |.l9 n=>match dst with
  |some d=>O.je d=X/\K (.xo n []) O|none=>False
 |.kD f args i=>match dst,(args[i]?).bind (·.place O)with
  |some d,Y (s,0)=>match O.get s with
   |.bx cs=>(O.lV s W=X/\d≠s)/\AS (Ch O i args) λts=>∃cs' us,S f ts (.bo cs cs' i us)/\((∀c∈cs',c.t.WF)/\TV.jU us->K (EV.mQ us) ((s,.bx cs')::O))|_=>False
  |_,_=>False
 |.mj q=>match dst,O.get q with
  |some d,.xo n fs=>(O.je d=X/\d≠q)/\K (.x1 n fs) ((q,.undef)::O)|_,_=>False
 |.k7 m q=>match dst,O.get m,O.get q with
  |some d,.nh s off .hd,.x1 n fs=>match O.get s with
   |.bx cs=>AS (O.nat s off) λes=>es.length+1<=CA/\(O.je d=X/\d≠m/\d≠q/\m≠q)/\K (.xn (es++[.list n fs])) ((s,.bx (cs.set off ⟨T,.undef⟩))::(m,.undef)::(q,.undef)::O)|_=>False
  |_,_,_=>False
 |.nD x=>match x.ev O with
  |.bp s off=>AS (O.nat s off) λ_=>K (.nh s off .hd) O|_=>False
 |.mL x i=>match x.ev O,i.val O with
  |.nh s off .hd,Y (.int _ j)=>AS (O.nat s off) λes=>0<=j/\j<es.length/\K (.nh s off (.el j.toNat)) O|.nh s off (.rw r),Y (.int _ j)=>AS (O.nat s off) λes=>0<=j/\∃fs,es[r]?=Y (.list 1 fs)/\j<fs.length/\K (.nh s off (.rp r j.toNat)) O|_,_=>False
 |.ng x=>match x.ev O with
  |.nh s off (.el r)=>AS (O.nat s off) λes=>r<es.length/\K (.nh s off (.rw r)) O|_=>False
 |.mK x v=>match x.ev O,v.ev O with
  |.nh s off (.rp r c),.tv t=>AS (O.nat s off) λes=>∃fs,es[r]?=Y (.list 1 fs)/\c<fs.length/\t.cells=[t]/\t.flat=X/\K .undef (O.m9 s off (es.set r (.list 1 (fs.set c t))))|_,_=>False
 |.mH q=>match dst,O.get q with
  |some d,.kC cs=>(O.je d=X/\d≠q)/\K (.bx cs) ((q,.undef)::O)|_,_=>False
 |.lc f args i=>match dst,args[i]? with
  |some d,Y (.s q)=>match O.get q with
   |.kC cs=>d≠q/\AS (Ch O i args) λts=>∃r,S f (ts.set i (.agg (cs.map λ_=>.undef))) (.ag cs i r)/\(r.WF->K r.mB ((q,.undef)::O))|_=>False
  |_,_=>False
 |.ldg s n=>match dst,O.get s with
  |some d,.bx cs=>cs.length=n/\d≠s/\K (.kC cs) ((s,.bx (cs.map λ_=>⟨T,.undef⟩))::O)|_,_=>False
 |.nj n ps x v=>match x.place O,v.val O with
  |some (s,off),Y t=>match O.get s with
   |.bx cs=>AS (CP ps t.cells) λds=>t.cells.length=n/\off+n<=cs.length/\O.lV s W=X/\K .undef ((s,.bx (cs.take off++ds++cs.drop (off+n)))::O)|_=>False
  |_,_=>False
 |.mJ=>∀b,K (.mx (.mp b [])) O|.nG s=>match O.get s with
  |.mx (.mp b _)=>K (.tv (.lg b)) O|.mx (.tm b _ ts)=>K (.tp (.lg b::ts)) O|.tp ts=>K (.tp ts) O|_=>False
 |.kX f args=>AS (vals O args) λts=>(∃us,S f ts (.tp us)/\(TV.jU us->K (.tp us) O))\/∃kvs us,S f ts (.mpr kvs us)/\(Be.WF kvs/\TV.jU us->∀b,K (.mx (.tm b kvs us)) O)|.nN s m x=>match O.get s,m.val O,x.val O with
  |.mx (.mp b kvs),Y (.lg b'),Y t=>b=b'/\AS t.nc? λk=>K (.tp [.int .i64 ((kvs.look k).getD 0),.bool (kvs.look k).isSome]) O|_,_,_=>False
 |.nf s m x v=>match O.get s,m.val O,x.val O with
  |.mx (.mp b kvs),Y (.lg b'),Y t=>match v.val O with
   |some (.int .i64 n)=>b=b'/\AS t.nc? λk=>K .undef ((s,.mx (.mp b (kvs.set k n)))::O)|_=>False
  |_,_,_=>False
 |.j7 s m=>match dst,O.get s,m.val O with
  |some d,.mx (.tm b kvs _),Y (.lg b')=>(d≠s/\b=b')/\K (.mx (.mi W kvs)) ((s,.undef)::O)|_,_,_=>False
 |.nC s=>match dst,O.get s with
  |some d,.mx (.mi _ todo)=>d≠s/\(todo=[]->K (.tp [.bool T]) O)/\∀p todo',todo.Perm (p::todo')->K (.tp [.bool X,LR p.1,.int .i64 p.2]) ((s,.mx (.mi (Y p) todo'))::O)|_,_=>False
 |.nE s=>match O.get s with
  |.mx (.mi (Y p) _)=>K (.tp [LR p.1,.int .i64 p.2]) O|_=>False
def AA.put(O:AA)(dst:Option Nat)(e:EV):AA:=
 match dst with
 |some d=>(d,e)::O|none=>O
def PR.wp(O:AA)(K:AA->Prop)(o:PR):Prop:=
 match o.guard with
 |none=>o.op.wp S O o.dst λe env'=>K (env'.put o.dst e)|some (g,b)=>match O.get g with
  |.tv (.bool q)=>(q=b->o.op.wp S O o.dst λe env'=>K (env'.put o.dst e))/\(q=!b->K (O.put o.dst .sk))|.sk=>K (O.put o.dst .sk)|_=>False
def wpOps(K:AA->Prop):List PR->AA->Prop
 |[],O=>K O|o::os,O=>o.wp S O λenv'=>wpOps K os env'
structure Q where
 normal:AA->Prop
 exit:Nat->AA->Prop
 ret:AA->Prop
def PC.wp:PC->Q->AA->Prop
 |.skip live,q,O=>q.normal (O.jj live)|.ret,q,O=>q.ret O|.exit id live,q,O=>q.exit id (O.jj live)|.seq a b,q,O=>a.wp {q with normal:=λe=>(∀s,(e.get s).WF)->b.wp q e} O
 |.cond c a b,q,O=>match c.val O with
  |some (.bool x)=>(x=X->a.wp q O)/\(x=T->b.wp q O)|_=>False
 |.block id c,q,O=>c.wp {q with exit:=λi e=>if i=id then q.normal e else q.exit i e} O
 |.loop live c,q,O=>∀ζ:AA->Prop,(∀e,((∀s,(e.get s).WF)->c.wp {q with normal:=λe'=>ζ (e'.jj live)} e)->ζ e)->ζ (O.jj live)
 |.region ops live,q,O=>wpOps S (λe=>q.normal (e.jj live)) ops O|.draw D ops live,q,O=>L9 O D=X/\wpOps S (λe=>q.normal (e.jj live)) ops O|.bad,_,_=>False|.nd s c,q,O=>match O.get s with
  |.bx cs=>c.wp q ((s,.bx (cs.map AI.rel))::O)|_=>False
end
inductive RV where
 |tmp (s:Nat)
 |cell (s:Nat) (agg:Option Nat)
def RV.get(O:AA):RV->Option TV
 |.tmp s=>(O.get s).val|.cell s W=>match Ao O (O.get s)with
  |some (t::_)=>Y t|_=>W
 |.cell s (Y n)=>match Ao O (O.get s)with
  |some cs=>if cs.length=n then Y (.agg cs)else W|none=>W
def CM(O:AA):List RV->Option Fq
 |[]=>Y []|x::xs=>match x.get O,CM O xs with
  |some t,Y ts=>Y (t::ts)|_,_=>W
def Ax(rs:List RV)(r:AZ)(O:AA):Prop:=
 match r,rs with
 |.own t,[.tmp s]=>O.get s=.ow t|.own _,_=>False|.sh t,[x]=>x.get O=Y t|.sh _,_=>False|.tp ts,rs=>rs.length≠1/\CM O rs=Y ts|.turn zs us,rs=>O.get 0=.xo 1 (zs.map (TV.int .i64))/\CM O rs=Y us|.cut _,_=>False|.lM n es,[.tmp s]=>O.get s=.xo n es|.lM _ _,_=>False|.kC cs,[.cell s (Y n)]=>O.get s=.bx cs/\cs.length=n|.kC _,_=>False|.bo _ cs' i ts,rs=>O.get i=.bx cs'/\CM O rs=Y ts|.ext _,_=>False|.ag _ _ r,rs=>Ax rs r O|.mpr kvs ts,.tmp s::rs=>rs≠[]/\(∃b o,O.get s=.tv (.lg b)/\O.get o=.mx (.mp b kvs))/\CM O rs=Y ts|.mpr _ _,_=>False
end Go.Sf
namespace Go.Sf
def A3(w w':World)(F F':Nat->Nat->Prop):Prop:=
 ∀b o v,w.cell? ⟨b,o,W⟩=Y v->¬F b o->w'.cell? ⟨b,o,W⟩=Y v/\¬F' b o
section
variable{w w':World}{F F':Nat->Nat->Prop}
mutual
theorem BQ(h:A3 w w' F F'):∀(t:TV)(v:Value),AV w F t v->AV w' F' t v
 |.undef,_,a=>a|.int _ _,_,a=>a|.bool _,_,a=>a|.str _,_,a=>a|.nil,_,a=>a|.list n es,v,a=>by
  have:=NM h n es
  grind [AV]
 |.agg cs,v,a=>by
  have:=AY h cs
  grind [AV]
 |.pt row,v,a=>by
  have:=JI h row
  grind [AV]
 |.kL f c,v,a=>by
  have:=AY h c
  grind [AV]
 |.xl _ _,_,a=>a|.xn _,_,a=>a|.lg _,_,a=>a
theorem AY(h:A3 w w' F F'):∀(ts:Fq)(vs:List Value),AM w F ts vs->AM w' F' ts vs
 |[],_,a=>a|t::ts,vs,a=>by
  simp [AM]at a|-;obtain⟨v,r,c,d,e⟩:=a;exact⟨v,r,c,BQ h t v d,AY h ts r e⟩
theorem JI(h:A3 w w' F F'):∀(ts:Fq)(b o:Nat),Bv w F ts b o->Bv w' F' ts b o
 |[],_,_,_=>trivial|t::ts,b,o,d=>by
  simp [Bv]at d|-;obtain⟨⟨v,a,c,e,f⟩,g⟩:=d;exact⟨⟨v,(h b o v a c).1,(h b o v a c).2,e,BQ h t v f⟩,JI h ts b (o+1) g⟩
theorem NM(h:A3 w w' F F')(n:Nat):∀(ts:Fq)(b o:Nat),EB w F n ts b o->EB w' F' n ts b o
 |[],_,_,_=>trivial|t::ts,b,o,a=>by
  simp [EB]at a|-;exact⟨Um h t b o a.1,a.2.1,NM h n ts b (o+n) a.2.2⟩
theorem Um(h:A3 w w' F F'):∀(t:TV)(b o:Nat),EA w F t b o->EA w' F' t b o
 |.agg cs,b,o,c=>JI h cs b o c|.undef,b,o,c=>by
  simp [EA]at c|-;obtain⟨v,d,e,g⟩:=c;exact⟨v,(h b o v d e).1,(h b o v d e).2,g⟩
 |.int _ _,b,o,c=>by
  simp [EA]at c|-;obtain⟨v,d,e,g⟩:=c;exact⟨v,(h b o v d e).1,(h b o v d e).2,g⟩
 |.bool _,b,o,c=>by
  simp [EA]at c|-;obtain⟨v,d,e,g⟩:=c;exact⟨v,(h b o v d e).1,(h b o v d e).2,g⟩
 |.str _,b,o,c=>by
  simp [EA]at c|-;obtain⟨v,d,e,g⟩:=c;exact⟨v,(h b o v d e).1,(h b o v d e).2,g⟩
 |.nil,b,o,c=>by
  simp [EA]at c|-;obtain⟨v,d,e,g⟩:=c;exact⟨v,(h b o v d e).1,(h b o v d e).2,g⟩
 |.list n es,b,o,c=>by
  simp [EA]at c|-;obtain⟨v,d,e,j,a,cap,g,q,k,p⟩:=c;exact⟨v,(h b o v d e).1,(h b o v d e).2,j,a,cap,g,q,k,λm i=>⟨(p m i).1,NM h n es _ _ (p m i).2⟩⟩
 |.pt row,b,o,c=>by
  simp [EA]at c|-;obtain⟨v,d,e,j,r,s,g,k⟩:=c;exact⟨v,(h b o v d e).1,(h b o v d e).2,j,r,s,g,JI h row _ _ k⟩
 |.kL f l,b,o,c=>by
  simp [EA]at c|-;obtain⟨v,d,e,j,vs,g,k⟩:=c;exact⟨v,(h b o v d e).1,(h b o v d e).2,j,vs,g,AY h l _ k⟩
 |.xl _ _,b,o,c=>by
  simp [EA]at c|-;obtain⟨v,d,e,g⟩:=c;exact⟨v,(h b o v d e).1,(h b o v d e).2,g⟩
 |.xn _,b,o,c=>by
  simp [EA]at c|-;obtain⟨v,d,e,g⟩:=c;exact⟨v,(h b o v d e).1,(h b o v d e).2,g⟩
 |.lg _,b,o,c=>by
  simp [EA]at c|-;obtain⟨v,d,e,g⟩:=c;exact⟨v,(h b o v d e).1,(h b o v d e).2,g⟩
end
end
section
variable{w:World}{F:Nat->Nat->Prop}
theorem EO:∀(ts:Fq)(b o:Nat),Bv w F ts b o↔∀i t,ts[i]?=Y t->∃v,w.cell? ⟨b,o+i,W⟩=Y v/\¬F b (o+i)/\v.oneCell'=X/\AV w F t v
 |[],_,_=>by simp[Bv]|t::ts,b,o=>by
  simp [Bv,EO ts b (o+1)];constructor
  .grind
  .intro h;refine⟨by simpa using h 0 t rfl,λi u hi=>?_⟩;have:=h (i+1) u (by simpa using hi)
   grind
variable{ts:Fq}{b o:Nat}
theorem JH(h:Bv w F ts b o)(k:Nat):Bv w F (ts.drop k) b (o+k):=by
 rw [EO]at h|-
 grind
theorem TN(h:Bv w F ts b o)(k:Nat):Bv w F (ts.take k) b o:=by
 rw [EO]at h|-
 grind
variable{n:Nat}
theorem J9{e:TV}{es:Fq}:EB w F n (e::es) b o↔Bv w F e.cells b o/\e.cells.length=n/\EB w F n es b (o+n):=by grind[EB,Ul]
theorem LJ(n:Nat):∀(es:Fq)(b o:Nat),EB w F n es b o↔∀i e,es[i]?=Y e->Bv w F e.cells b (o+i*n)/\e.cells.length=n
 |[],_,_=>by simp[EB]|e::es,b,o=>by
  rw [J9,LJ n es b (o+n)];constructor
  .rintro⟨c,d,f⟩ i u hi;cases i with
   |zero=>simp at hi;subst hi;simpa using⟨c,d⟩|succ i=>
    grind
  .intro h;have a:=h 0 e rfl;simp at a;refine⟨a.1,a.2,λi u hi=>?_⟩;have:=h (i+1) u (by simpa using hi)
   grind
theorem A4:∀(ts:Fq)(vs:List Value),AM w F ts vs↔vs.length=ts.length/\∀(i:Nat)(t:TV)(v:Value),ts[i]?=Y t->vs[i]?=Y v->AV w F t v
 |[],vs=>by simp[AM]|t::ts,vs=>by
  simp [AM];constructor
  .rintro⟨v,r,rfl,c,a⟩;rw[A4 ts r]at a
   grind
  .rintro⟨c,a⟩;cases vs with
   |nil=>simp at c|cons v r=>exact⟨v,r,rfl,a 0 t v rfl rfl,(A4 ts r).2 ⟨by simpa using c,λi u x hi d=>a (i+1) u x (by simpa using hi) (by simpa using d)⟩⟩
theorem D9{ts a:Fq}{vs xs:List Value}(c:AM w F ts vs)(d:AM w F a xs):AM w F (ts++a) (vs++xs):=by
 induction ts generalizing vs with
 |nil=>simp[AM]at c;subst c;simpa using d|cons t ts e=>
  grind [AM]
theorem DH{t:TV}{v:Value}(h:AV w F t v):AM w F t.cells v.cells.toList/\∀x∈v.cells.toList,x.oneCell'=X:=by
 have one:∀{v:Value}{t:TV},v.cells=#[v]->v.oneCell'=X->AV w F t v->t.cells=[t]->AM w F t.cells v.cells.toList/\∀x∈v.cells.toList,x.oneCell'=X:=by
  intro v t j d e l;rw[j,l];exact⟨⟨v,[],rfl,e,rfl⟩,by simpa using d⟩
 cases t with
 |agg cs=>simp only[AV]at h;obtain⟨vs,rfl,d,e⟩:=h;exact⟨d,λx i=>List.all_eq_true.1 e x i⟩
 |undef=>have c:=h;simp[AV]at h;cases v<;>first|exact one rfl rfl c rfl|(simp[Value.oneCell']at h)
 |xl n es=>have c:=h;simp[AV]at h;cases v<;>first|exact one rfl rfl c rfl|(simp[Value.oneCell']at h)
 |xn es=>have c:=h;simp[AV]at h;cases v<;>first|exact one rfl rfl c rfl|(simp[Value.oneCell']at h)
 |int k n=>have c:=h;simp[AV]at h;subst h;exact one rfl rfl c rfl|bool b=>have c:=h;simp[AV]at h;subst h;exact one rfl rfl c rfl|lg b=>have c:=h;simp[AV]at h;subst h;exact one rfl rfl c rfl|str s=>have c:=h;simp[AV]at h;subst h;exact one rfl rfl c rfl|nil=>have c:=h;simp[AV]at h;subst h;exact one rfl rfl c rfl|list n es=>have c:=h;simp[AV]at h;obtain⟨a,cap,rfl,_⟩:=h;exact one rfl rfl c rfl
 |pt row=>have c:=h;simp[AV]at h;obtain⟨b,o,rfl,_⟩:=h;exact one rfl rfl c rfl
 |kL f g=>have c:=h;simp[AV]at h;obtain⟨vs,rfl,_⟩:=h;exact one rfl rfl c rfl
end
end Go.Sf
namespace Go.Sf
section
variable(S:FuncId->Fq->AZ->Prop)
theorem wp_skip(l:Ne)(q:Q)(O:AA):PC.wp S (.skip l) q O=q.normal (O.jj l):=rfl
theorem wp_ret(q:Q)(O:AA):PC.wp S .ret q O=q.ret O:=rfl
theorem wp_exit(id:Nat)(l:Ne)(q:Q)(O:AA):PC.wp S (.exit id l) q O=q.exit id (O.jj l):=rfl
theorem wp_seq(a b:PC)(q:Q)(O:AA):PC.wp S (.seq a b) q O=a.wp S {q with normal:=λe=>(∀s,(e.get s).WF)->b.wp S q e} O:=rfl
theorem wp_block(id:Nat)(c:PC)(q:Q)(O:AA):PC.wp S (.block id c) q O=c.wp S {q with exit:=λi e=>if i=id then q.normal e else q.exit i e} O:=rfl
theorem wp_region(ops:List PR)(a:Ne)(q:Q)(O:AA):PC.wp S (.region ops a) q O=wpOps S (λe=>q.normal (e.jj a)) ops O:=rfl
theorem A0{α:Type}{o:Option α}{K K':α->Prop}(h:∀a,K a->K' a):AS o K->AS o K':=by
 cases o<;>simp[AS];exact h _
theorem AB.jr(O:AA)(dst:Option Nat){K K':EV->AA->Prop}(h:∀e env',K e env'->K' e env')(op:AB)(d:op.wp S O dst K):op.wp S O dst K':=by
 cases op<;>simp only[AB.wp]at d|-
 case ld=>exact A0 (λ_=>A0 (λ_ g=>⟨g.1,h _ _ g.2⟩)) d
 case mn=>exact A0 (λ_ g=>⟨g.1,h _ _ g.2⟩) d
 case ma=>exact A0 (λ_=>A0 (λ_=>h _ _)) d
 case mE=>exact A0 (λ_ g=>⟨g.1,h _ _ g.2⟩) d
 case call=>exact A0 (λ_⟨r,i,f⟩=>⟨r,i,λj=>h _ _ (f j)⟩) d
 case kL=>exact A0 (λ_=>h _ _) d
 case mm=>split at d<;>first|exact d.elim|exact⟨d.1,h _ _ d.2⟩
 case mF x k n agg=>
  split at d
  .refine⟨d.1,?_⟩;have f:=d.2;cases agg
   .exact A0 (λ_=>h _ _) f
   .exact h _ _ f
  .exact d.elim
 case mz=>exact A0 (λ_=>h _ _) d
 case nB=>exact A0 (λp u=>by
  split at u
  .exact⟨u.1,u.2.1,u.2.2.1,h _ _ u.2.2.2⟩
  .exact u.elim) d
 case mf=>
  split at d
  .split at d
   .obtain⟨i,f,es',l,q,v,D⟩:=d;exact⟨i,f,es',l,q,v,h _ _ D⟩
   .exact d.elim
  .exact d.elim
 case l9=>split at d<;>first|exact d.elim|exact⟨d.1,h _ _ d.2⟩
 case mc=>split at d<;>first|exact d.elim|exact⟨d.1,h _ _ d.2⟩
 case mO=>split at d<;>first|exact d.elim|exact⟨d.1,d.2.1,h _ _ d.2.2⟩
 case lL=>split at d<;>first|exact d.elim|exact⟨d.1,d.2.1,d.2.2.1,d.2.2.2.1,d.2.2.2.2.1,h _ _ d.2.2.2.2.2⟩
 case kW=>
  split at d
  .exact⟨d.1,A0 (λts⟨n,es,i,f⟩=>⟨n,es,i,λj=>h _ _ (f j)⟩) d.2⟩
  .exact d.elim
 case ky=>
  split at d
  .exact⟨d.1,A0 (λ_=>h _ _) d.2⟩
  .exact d.elim
 case stx=>split at d<;>first|exact d.elim|exact⟨d.1,d.2.1,d.2.2.1,h _ _ d.2.2.2⟩
 case lH=>exact A0 (λts⟨cs,i,f⟩=>⟨cs,i,λj=>h _ _ (f j)⟩) d
 case kS=>exact A0 (λts⟨cs,i,l,f⟩=>⟨cs,i,l,λj=>h _ _ (f j)⟩) d
 case k9=>exact A0 (λ_⟨r,i,f⟩=>⟨r,i,λj=>h _ _ (f j)⟩) d
 case ml=>
  split at d
  .exact A0 (λ_ g=>⟨g.1,h _ _ g.2⟩) d
  .exact d.elim
 case lJ=>exact A0 (λts⟨m,i,f⟩=>⟨m,i,h _ _ f⟩) d
 case md=>
  split at d
  .exact⟨d.1,d.2.1,d.2.2.1,h _ _ d.2.2.2⟩
  .exact d.elim
 case kD=>
  split at d
  .split at d
   .exact⟨d.1,A0 (λts⟨cs',m,i,f⟩=>⟨cs',m,i,λj=>h _ _ (f j)⟩) d.2⟩
   .exact d.elim
  .exact d.elim
 case nD=>
  split at d
  .exact A0 (λ_ g=>h _ _ g) d
  .exact d.elim
 case k7=>
  split at d
  .split at d
   .exact A0 (λ_ g=>⟨g.1,g.2.1,h _ _ g.2.2⟩) d
   .exact d.elim
  .exact d.elim
 case mL=>
  split at d
  .exact A0 (λ_ g=>⟨g.1,g.2.1,h _ _ g.2.2⟩) d
  .exact A0 (λ_⟨i,y,f,l,q⟩=>⟨i,y,f,l,h _ _ q⟩) d
  .exact d.elim
 case ng=>
  split at d
  .exact A0 (λ_ g=>⟨g.1,h _ _ g.2⟩) d
  .exact d.elim
 case mK=>
  split at d
  .exact A0 (λ_⟨y,i,f,l,q,v⟩=>⟨y,i,f,l,q,h _ _ v⟩) d
  .exact d.elim
 case lc=>
  split at d
  .split at d
   .exact⟨d.1,A0 (λ_⟨r,i,f⟩=>⟨r,i,λj=>h _ _ (f j)⟩) d.2⟩
   .exact d.elim
  .exact d.elim
 case nC=>
  split at d
  .exact⟨d.1,λe=>h _ _ (d.2.1 e),λp t B=>h _ _ (d.2.2 p t B)⟩
  .exact d.elim
 case nE=>split at d<;>first|exact d.elim|exact h _ _ d
 case nj=>
  split at d
  .split at d
   .exact A0 (λ_ g=>⟨g.1,g.2.1,g.2.2.1,h _ _ g.2.2.2⟩) d
   .exact d.elim
  .exact d.elim
 case mJ=>exact λb=>h _ _ (d b)
 case nG=>split at d<;>first|exact d.elim|exact h _ _ d
 case kX=>
  refine A0 (λ_ g=>?_) d;rcases g with⟨m,i,f⟩|⟨A,m,i,f⟩
  .exact .inl ⟨m,i,λj=>h _ _ (f j)⟩
  .exact .inr ⟨A,m,i,λj b=>h _ _ (f j b)⟩
 case j7=>split at d<;>first|exact d.elim|exact⟨d.1,h _ _ d.2⟩
 case nN=>split at d<;>first|exact d.elim|exact⟨d.1,A0 (λ_ g=>h _ _ g) d.2⟩
 case nf=>
  split at d
  .split at d
   .exact⟨d.1,A0 (λ_ g=>h _ _ g) d.2⟩
   .exact d.elim
  .exact d.elim
 case nI=>split at d<;>first|exact d.elim|exact h _ _ d
 case nP=>split at d<;>first|exact d.elim|exact⟨d.1,h _ _ d.2⟩
 case ni=>
  split at d
  .exact λb C=>h _ _ (d b C)
  .exact h _ _ d
  .exact d.elim
 case kU=>exact A0 (λp⟨i,f⟩=>⟨i,A0 (λts⟨zs,s,m,a,b,c⟩=>⟨zs,s,m,a,b,λj=>h _ _ (c j)⟩) f⟩) d
 case lu=>
  split at d
  .exact A0 (λp⟨z,i,v,zs,s,f,l,q⟩=>⟨z,i,v,zs,s,f,l,λj=>h _ _ (q j)⟩) d
  .exact d.elim
 all_goals (repeat' split at d)<;>first|exact d.elim|exact h _ _ d|exact⟨d.1,h _ _ d.2⟩|exact⟨d.1,d.2.1,h _ _ d.2.2⟩|exact⟨d.1,d.2.1,d.2.2.1,h _ _ d.2.2.2⟩|exact A0 (λ_=>h _ _) d|(obtain⟨r,i,f⟩:=d;exact⟨r,i,λj=>h _ _ (f j)⟩)|(obtain⟨i,r,f,l⟩:=d;exact⟨i,r,f,h _ _ l⟩)|(obtain⟨z,i,r,f,l⟩:=d;exact⟨z,i,r,f,h _ _ l⟩)
variable{K K':AA->Prop}
theorem PR.jr(O:AA)(h:∀e,K e->K' e)(o:PR)(a:o.wp S O K):o.wp S O K':=by
 unfold PR.wp at a|-;split at a
 .grind[AB.jr]
 grind [AB.jr]
theorem KF(h:∀e,K e->K' e):∀(os:List PR)(O:AA),wpOps S K os O->wpOps S K' os O
 |[],_,a=>h _ a|o::os,O,a=>PR.jr S O (λe=>KF h os e) o a
theorem PC.jr:∀(c:PC)(q:Q)(O:AA),c.wp S q O->∀(f:Q),(∀e,q.normal e->f.normal e)->(∀i e,q.exit i e->f.exit i e)->(∀e,q.ret e->f.ret e)->c.wp S f O
 |.skip _,_,_,d,_,h,_,_=>h _ d|.ret,_,_,d,_,_,_,h=>h _ d|.exit _ _,_,_,d,_,_,h,_=>h _ _ d|.seq a b,q,O,d,f,g,j,k=>by
  simp [PC.wp]at d|-;exact PC.jr a _ O d _ (λe he m=>PC.jr b q e (he m) f g j k) j k
 |.cond c a b,q,O,d,f,g,j,k=>by
  simp [PC.wp]at d|-;split at d
  .exact⟨λp=>PC.jr a q O (d.1 p) f g j k,λp=>PC.jr b q O (d.2 p) f g j k⟩
  .exact d.elim
 |.block id c,q,O,d,f,g,j,k=>by
  simp [PC.wp]at d|-;exact PC.jr c _ O d _ g (λi e=>by dsimp only;split<;>first|exact g e|exact j i e) k
 |.loop l c,q,O,d,f,g,j,k=>by
  simp [PC.wp]at d|-;exact λζ hX=>d ζ λe he=>hX e λm=>PC.jr c _ e (he m) _ (λ_ h=>h) j k
 |.region ops l,q,O,d,f,g,_,_=>by
  grind [PC.wp,KF]
 |.draw _ ops l,q,O,d,f,g,_,_=>by
  grind [PC.wp,KF]
 |.bad,_,_,d,_,_,_,_=>by
  simp [PC.wp]at d
 |.nd s c,q,O,d,f,g,j,k=>by
  simp [PC.wp]at d|-;split at d
  .exact PC.jr c q _ d f g j k
  .exact d.elim
theorem ZM{σ:Type}{a:Ne}{c:PC}{q:Q}{O:AA}(I:σ->AA)(ok:σ->Prop)(μ:σ->Nat)(d:σ)(i:O.jj a=I d)(e:ok d)
  (step:∀s,ok s->(∀k,((I s).get k).WF)->c.wp S {q with normal:=λg=>∃f,g.jj a=I f/\ok f/\μ f<μ s} (I s)):PC.wp S (.loop a c) q O:=by
 intro ζ hX;rw[i];have key:∀n s,μ s=n->ok s->ζ (I s):=by
  intro n
  induction n using Nat.strongRecOn with
  |_ n m=>
   intro s l ho;refine hX _ λj=>?_;refine PC.jr S c _ _ (step s ho j) _ (λg he=>?_) (λ_ _ h=>h) (λ_ h=>h)
   grind
 exact key _ d rfl e
end
end Go.Sf
namespace Go.Sf
def S3:Nat:=0
def N8(_:World):Prop:=True
theorem N8.jj{w w':World}(_:N8 w)(_:∀b,b<S3->w'.heap[b]?=w.heap[b]?):N8 w':=trivial
theorem N8.lt{w:World}(_:N8 w):S3<=w.heap.size:=Nat.zero_le _
end Go.Sf
