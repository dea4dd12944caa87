/- The pure language: environments, operations, code, and what must hold before a piece of code so that a condition holds behind it. No memory. -/
import Derived.Test.YthhobbgaejimgaaGreatDoorSfRep
import Derived.WalkKit
import Derived.Lib.ItoaNum
set_option linter.all false
namespace Go.Sf
def Br:Nat:=8589934592
def Dy:Nat:=9223372036854775807
variable{n:Nat}
theorem Nw(h:n<=Br):n<=Dy:=by grind[Br,Dy]
mutual
def TV.WF:TV->Prop
 |.int k n=>k.min<=n/\n<=k.max|.str s=>s.size<=Dy|.list _ es=>es.length<=Dy/\TV.rI es|.agg cs=>TV.rI cs|.pt row=>TV.rI row|.sE _ caps=>TV.rI caps|.xl _ es=>es.length<=Dy/\TV.rI es|.xn es=>es.length<=Dy/\TV.rI es|_=>True
def TV.rI:Fq->Prop
 |[]=>True|t::ts=>TV.WF t/\TV.rI ts
end
structure AJ where
 own:Bool
 t:TV
def TV.sT:TV->Bool
 |.xl _ _=>true|.xn _=>true|_=>false
def AJ.key(c:AJ):TV×Bool:=(c.t,c.own&&c.t.sT)
def AJ.rel(c:AJ):AJ:=
 match c with
 |⟨true,.xl n es⟩=>⟨true,.list n es⟩|⟨true,.xn es⟩=>⟨true,.list 1 es⟩|c=>c
def AJ.t7(c:AJ):TV:=
 match c with
 |⟨true,.xl n es⟩=>.list n es|c=>c.t
inductive NK where
 |hd
 |el (r:Nat)
 |rw(r:Nat)
 |rp (r c:Nat)
abbrev Bb:=List ((Int×Int)×Int)
inductive MX where
 |mp (b:Nat) (kvs:Bb)
 |tm (b:Nat) (kvs:Bb) (ts:Fq)
 |mi (last:Option ((Int×Int)×Int)) (todo:Bb)
def Bb.WF(kvs:Bb):Prop:=∀p∈kvs,(TV.int .i64 p.1.1).WF/\(TV.int .i64 p.1.2).WF/\(TV.int .i64 p.2).WF
def MX.WF:MX->Prop
 |.mp _ kvs=>Bb.WF kvs|.tm _ kvs ts=>Bb.WF kvs/\TV.rI ts|.mi last todo=>Bb.WF last.toList/\Bb.WF todo
def Bb.look(k:Int×Int):Bb->QQ
 |[]=>none|p::r=>if p.1=k then some p.2 else Bb.look k r
def Bb.set(k:Int×Int)(n:Int):Bb->Bb
 |[]=>[(k,n)]|p::r=>if p.1=k then(k,n)::r else p::Bb.set k n r
def KW(k:Int×Int):TV:=.agg [.int .i64 k.1,.int .i64 k.2]
def TV.um?:TV->Option (Int×Int)
 |.agg [.int .i64 a,.int .i64 b]=>some (a,b)|_=>none
inductive EV where
 |undef
 |tv (t:TV)
 |ow (t:TV)
 |bx (cs:List AJ)
 |bp (s off:Nat)
 |tp (ts:Fq)
 |sk
 |xo (n:Nat) (es:Fq)
 |la (q:Nat) (i:Option Nat)
 |lp (q:Nat) (i:Option Nat) (c:Nat)
 |sq (cs:List AJ)
 |xn (es:Fq)
 |x1 (n:Nat) (fs:Fq)
 |nh (q i:Nat) (k:NK)
 |mx (m:MX)
def EV.WF:EV->Prop
 |.tv t=>t.WF|.ow t=>t.WF|.bx cs=>∀c∈cs,c.t.WF|.tp ts=>TV.rI ts|.xo n es=>(TV.list n es).WF|.sq cs=>∀c∈cs,c.t.WF|.xn es=>(TV.list 1 es).WF|.x1 n fs=>(TV.list n fs).WF|.mx m=>m.WF|_=>True
abbrev AA:=List (Nat×EV)
def AA.get:AA->Nat->EV
 |[],_=>.undef|(k,e)::r,n=>if k=n then e else AA.get r n
def AA.pr(O:AA)(live:Ne):AA:=live.map fun s=>(s,O.get s)
def EV.rS:EV->Option Nat
 |.bp s _=>some s|.la s _=>some s|.lp s _ _=>some s|.nh s _ _=>some s|_=>none
def EV.sz(d:Nat)(e:EV):Bool:=
 match e.rS with
 |some s=>d !=s|none=>true
def AA.l3(s:Nat):AA->Bool
 |[]=>true|(_,e)::r=>e.sz s&&AA.l3 s r
def EV.uA(d:Nat)(k:Option Nat):EV->Bool
 |.la s (some i)=>d !=s||(match k with|some j=>i !=j|none=>false)
 |.lp s (some i) _=>d !=s||(match k with|some j=>i !=j|none=>false)
 |.nh s i _=>d !=s||(match k with|some j=>i !=j|none=>false)
 |_=>true
def AA.uT(s:Nat)(k:Option Nat):Ne->AA->Bool
 |_,[]=>true|z,(q,e)::r=>(z.contains q||e.uA s k)&&AA.uT s k (q::z) r
def AA.tC(s:Nat)(k:Option Nat)(O:AA):Bool:=AA.uT s k [] O
def AA.rD(O:AA)(q:Nat):Option Nat->Option (Nat×Fq)
 |none=>match O.get q with
  |.xo n es=>some (n,es)|_=>none
 |some k=>match O.get q with
  |.bx cs=>match cs[k]? with
   |some ⟨true,.xl n es⟩=>some (n,es)|_=>none
  |_=>none
def AA.rZ(O:AA)(q:Nat)(i:Option Nat)(n:Nat)(es:Fq):AA:=
 match i with
 |none=>(q,.xo n es)::O|some k=>match O.get q with
  |.bx cs=>(q,.bx (cs.set k ⟨true,.xl n es⟩))::O|_=>O
def AA.nat(O:AA)(q k:Nat):Option Fq:=
 match O.get q with
 |.bx cs=>match cs[k]? with
  |some ⟨true,.xn es⟩=>some es|_=>none
 |_=>none
def AA.uI(O:AA)(q k:Nat)(es:Fq):AA:=
 match O.get q with
 |.bx cs=>(q,.bx (cs.set k ⟨true,.xn es⟩))::O|_=>O
inductive AD where
 |s (n:Nat)
 |c (t:TV)
def AD.ev(O:AA):AD->EV
 |.s n=>O.get n|.c t=>.tv t
def EV.val:EV->Option TV
 |.tv t=>some t|.ow t=>some t|_=>none
def AD.val(O:AA)(x:AD):Option TV:=(x.ev O).val
def vals(O:AA):List AD->Option Fq
 |[]=>some []|x::xs=>match x.val O,vals O xs with
  |some t,some ts=>some (t::ts)|_,_=>none
def intCmp(op:BinOp)(a b:Int):K1:=
 match op with
 |.eql=>some (decide (a=b))|.neq=>some (!decide (a=b))|.lss=>some (decide (a<b))|.leq=>some (decide (a<=b))|.gtr=>some (decide (b<a))|.geq=>some (decide (b<=a))|_=>none
def intArith(op:BinOp)(a b:Int):QQ:=
 match op with
 |.add=>some (a+b)|.sub=>some (a-b)|.mul=>some (a*b)|.quo=>if b=0 then none else some (a.tdiv b)|_=>none
inductive GC where
 |z (c:AJ)
 |v (x:AD) (k n:Nat)
 |w (q:Nat)
 |g (q k n:Nat)
def GC.cell(O:AA):GC->Option AJ
 |.z c=>some c|.v x k n=>match x.val O with
  |some t=>match Nat.beq t.cells.length n,t.cells[k]? with
   |true,some c=>some ⟨false,c⟩|_,_=>none
  |none=>none
 |.w q=>match O.get q with
  |.ow t=>some ⟨true,t⟩|.xo n es=>some ⟨true,.xl n es⟩|_=>none
 |.g q k n=>match O.get q with
  |.sq cs=>match Nat.beq cs.length n with
   |true=>cs[k]?|false=>none
  |_=>none
def FO(O:AA):List GC->Option (List AJ)
 |[]=>some []|g::gs=>match g.cell O,FO O gs with
  |some c,some cs=>some (c::cs)|_,_=>none
def GC.src:GC->Option (Nat×Option Nat)
 |.w q=>some (q,none)|.g q k _=>some (q,some k)|_=>none
def GC.slot:GC->Option Nat
 |.w q=>some q|.g q _ _=>some q|_=>none
def GC.sl:GC->Ne
 |.v (.s q) _ _=>[q]|.w q=>[q]|.g q _ _=>[q]|_=>[]
def EV.gave:EV->EV
 |.ow t=>.tv t|_=>.undef
def Jm(e0:AA):Ne->AA->AA
 |[],O=>O|q::qs,O=>(q,(e0.get q).gave)::Jm e0 qs O
def BX:Fq->Fq->K1
 |[],[]=>some true|.int k a::cs,.int k' b::ds=>if k=k' then(match BX cs ds with|some r=>some (decide (a=b)&&r)|none=>none)else none
 |.str a::cs,.str b::ds=>(match BX cs ds with|some r=>some (decide (a=b)&&r)|none=>none)
 |.bool a::cs,.bool b::ds=>(match BX cs ds with|some r=>some (decide (a=b)&&r)|none=>none)
 |_,_=>none
inductive BK where
 |i|s|b|w
 |a (ks:Ne)
def TV.kd:TV->Nat
 |.int _ _=>0|.str _=>1|.bool _=>2|_=>3
def Jd(k:IntKind)(op:BinOp)(a b:Int):QQ:=
 match op with
 |.and=>some (k.wrap (BitVec.ofInt k.bits a &&& BitVec.ofInt k.bits b).toNat)|.or=>some (k.wrap (BitVec.ofInt k.bits a|||BitVec.ofInt k.bits b).toNat)|.xor=>some (k.wrap (BitVec.ofInt k.bits a^^^ BitVec.ofInt k.bits b).toNat)|.andNot=>some (k.wrap (BitVec.ofInt k.bits a &&& ~~~ BitVec.ofInt k.bits b).toNat)|.shl=>if 0<=b then some (k.wrap (a*2^ (min b.toNat k.bits)))else none|.shr=>if 0<=b/\k.min<=a.fdiv (2^ (min b.toNat k.bits))/\a.fdiv (2^ (min b.toNat k.bits))<=k.max then some (a.fdiv (2^ (min b.toNat k.bits)))else none|_=>none
def C3:BK->BinOp->TV->TV->Option TV
 |.i,op,.int k a,.int k' b=>
  if k=k' then
   match intCmp op a b with
   |some r=>some (.bool r)|none=>match intArith op a b with
    |some r=>some (.int k (k.wrap r))|none=>if op=.rem/\b≠0 then some (.int k (a.tmod b))else none
  else none
 |.w,op,.int k a,.int k' b=>if k=k'\/op=.shl\/op=.shr then(match Jd k op a b with|some r=>some (.int k r)|none=>none)else none
 |.s,.eql,.str a,.str b=>some (.bool (a==b))|.s,.neq,.str a,.str b=>some (.bool (!(a==b)))|.s,.add,.str a,.str b=>if a.size+b.size<=Br then some (.str (a++b))else none|.b,.eql,.bool a,.bool b=>some (.bool (a==b))|.b,.neq,.bool a,.bool b=>some (.bool (!(a==b)))|.a n,.eql,.agg cs,.agg ds=>if cs.map TV.kd=n then(match BX cs ds with|some b=>some (.bool b)|none=>none)else none
 |.a n,.neq,.agg cs,.agg ds=>if cs.map TV.kd=n then(match BX cs ds with|some b=>some (.bool !b)|none=>none)else none
 |_,_,_,_=>none
def DW(O:AA)(d:Int):Option AD->Option TV
 |none=>some (.int .i64 d)|some o=>o.val O
def Ap(O:AA):EV->Option Fq
 |.tv (.pt row)=>some row|.bx cs=>some (cs.map (·.t))|.bp s off=>match O.get s with
  |.bx cs=>some ((cs.drop off).map (·.t))|_=>none
 |_=>none
def AD.place(O:AA):AD->Option (Nat×Nat)
 |.s n=>match O.get n with
  |.bp q off=>some (q,off)|.bx _=>some (n,0)|_=>none
 |.c _=>none
def JM:Fq->Nat->Fq->Fq
 |cs,_,[]=>cs|cs,i,d::ds=>JM (cs.set i d) (i+1) ds
def DH(cs:Fq):List (Nat×Nat×TV)->Option Fq
 |[]=>some cs|(i,n,t)::r=>if t.cells.length=n/\i+n<=cs.length then DH (JM cs i t.cells) r else none
def EO(O:AA):List (Nat×Nat×AD)->Option (List (Nat×Nat×TV))
 |[]=>some []|(i,n,x)::r=>match x.val O,EO O r with
  |some t,some ts=>some ((i,n,t)::ts)|_,_=>none
inductive AC where
 |mv (x:AD)
 |tk (s:Nat)
 |tW (n:Nat)
 |sG (x:AD) (k:Nat)
 |bad (s k:Nat)
 |tY (x i:AD) (n:Nat)
 |aad (x i:AD) (n k:Nat)
 |ld (x:AD)
 |tX (x:AD) (n:Nat)
 |ldt (x:AD)
 |bin (k:BK) (op:BinOp) (x y:AD)
 |not (x:AD)
 |neg (x:AD)
 |pick (c a b:AD)
 |len (x:AD)
 |uj (x:AD)
 |tw (n:Nat) (x:AD) (lo hi:Option AD)
 |rR (x:AD) (lo hi:Option AD)
 |tQ (zero:Fq) (parts:List (Nat×Nat×AD))
 |uc (n:Nat) (parts:List AD)
 |app (n:Nat) (x y:AD)
 |call (f:FuncId) (args:List AD)
 |sJ (x:AD) (args:List AD)
 |sE (f:FuncId) (caps:List AD)
 |ext (x:AD) (i:Nat)
 |uF (k:IntKind) (x:AD)
 |rP (x i:AD)
 |tS (x:AD)
 |tZ (x:AD)
 |mm (max:Bool) (x y:AD)
 |uv (cs:List AJ)
 |st (n:Nat) (x v:AD)
 |tV (n s:Nat) (v:AD)
 |uP (s:Nat)
 |uh (x:AD) (k n:Nat) (agg:Bool)
 |uZ (s:Nat)
 |ue (x:AD)
 |uX (x i:AD) (n:Nat)
 |xfa (x:AD) (k:Nat)
 |vc (x:AD)
 |t6 (x v:AD) (k:Nat)
 |rel (s:Nat)
 |tF (n:Nat)
 |uq (s:Nat)
 |tB (n s:Nat) (y:AD)
 |sI (f:FuncId) (args:List AD)
 |ui (n:Nat) (zero:Fq) (x:AD)
 |sS (f:FuncId) (x:AD)
 |sR (f:FuncId) (x:AD)
 |sF (gs:List GC)
 |stx (n:Nat) (s q:Nat)
 |s9 (f:FuncId) (args:List AD)
 |sP (f:FuncId) (args:List AD)
 |uM (x:AD)
 |lac (x:AD)
 |vf (x:AD)
 |uJ (x:AD) (q:Nat)
 |cut (n s:Nat) (hi:AD)
 |r9 (f:FuncId) (args:List AD)
 |tD (ps:List (Option AJ)) (x:AD)
 |tG (n s:Nat) (z:TV) (x:AD)
 |r7 (f:FuncId) (args:List AD) (i:Nat)
 |ta (f:FuncId) (args:List AD)
 |tE (n:Nat)
 |vn (s n:Nat)
 |tO (q:Nat)
 |s5 (m q:Nat)
 |uO (x:AD)
 |uo (x i:AD)
 |uQ (x:AD)
 |up (x v:AD)
 |ub (q:Nat)
 |sW (f:FuncId) (args:List AD) (i:Nat)
 |ve (s n:Nat)
 |uL (n:Nat) (ps:List (Option AJ)) (x v:AD)
 |ur
 |uH (s:Nat)
 |sV (f:FuncId) (args:List AD)
 |vb (s:Nat) (m x:AD)
 |uK (s:Nat) (m x v:AD)
 |rK (s:Nat) (m:AD)
 |u9 (s:Nat)
 |uR (s:Nat)
 |va (x:AD) (k:Nat)
 |vd (x:AD) (n:Nat)
structure PR where
 dst:Option Nat
 op:AC
 guard:Option (Nat×Bool)
inductive PC where
 |skip (live:Ne)
 |ret
 |exit (id:Nat) (live:Ne)
 |seq (a b:PC)
 |cond (c:AD) (a b:PC)
 |block (id:Nat) (c:PC)
 |loop (live:Ne) (c:PC)
 |region (ops:List PR) (live:Ne)
 |draw (D:Ne) (ops:List PR) (live:Ne)
 |uN (s:Nat) (c:PC)
 |bad
def Ll(O:AA):Ne->Bool
 |[]=>true|d::ds=>O.l3 d&&Ll O ds
inductive Af where
 |sh (t:TV)
 |own (t:TV)
 |tp (ts:Fq)
 |turn (zs:Fp)
 |cut (zs:Fp)
 |sZ (n:Nat) (es:Fq)
 |sq (cs:List AJ)
 |bo (cs cs':List AJ) (i:Nat) (ts:Fq)
 |ext (ts:Fq)
 |ag (cs:List AJ) (i:Nat) (r:Af)
 |mpr (kvs:Bb) (ts:Fq)
def Af.WF:Af->Prop
 |.sh t=>t.WF|.own t=>t.WF|.tp ts=>TV.rI ts|.turn zs=>(TV.list 1 (zs.map (TV.int .i64))).WF|.cut zs=>(TV.list 1 (zs.map (TV.int .i64))).WF|.sZ n es=>(TV.list n es).WF|.sq cs=>∀c∈cs,c.t.WF|.bo _ cs' _ ts=>(∀c∈cs',c.t.WF)/\TV.rI ts|.ext ts=>TV.rI ts|.ag _ _ r=>r.WF|.mpr kvs ts=>Bb.WF kvs/\TV.rI ts
def Af.plain:Af->Bool
 |.turn _=>false|.cut _=>false|.bo ..=>false|.ext _=>false|.ag ..=>false|.mpr ..=>false|_=>true
def Af.ev:Af->EV
 |.sh t=>.tv t|.own t=>.ow t|.tp ts=>.tp ts|.sZ n es=>.ow (.list n es)|.sq cs=>.tv (.agg (cs.map fun c=>c.rel.t))|_=>.undef
def Af.uf:Af->EV
 |.sq cs=>.sq cs|r=>r.ev
mutual
def TV.flat:TV->Bool
 |.int _ _=>true|.bool _=>true|.str _=>true|.agg cs=>TV.rV cs|_=>false
def TV.rV:Fq->Bool
 |[]=>true|t::ts=>t.flat&&TV.rV ts
end
def AJ.toX:AJ->AJ
 |⟨true,.list n es⟩=>⟨true,.xl n es⟩|c=>c
def AJ.Xable(c:AJ):Prop:=∃n es,c=⟨true,.list n es⟩/\TV.rV es=true
def EV.free:EV->Bool
 |.tv t=>t.flat|.undef=>true|.sk=>true|_=>false
def AD.rL(O:AA):AD->Option ((Nat×Option Nat)×Nat×Fq)
 |.s m=>match O.get m with
  |.xo n es=>some ((m,none),n,es)|.la q i=>match O.rD q i with
   |some p=>some ((q,i),p)|none=>none
  |_=>none
 |.c _=>none
def AD.uk(O:AA)(x:AD):Option TV:=
 match x.rL O with
 |some p=>some (.list p.2.1 p.2.2)|none=>match x.ev O with
  |.bx cs=>some (.pt (cs.map AJ.t7))|.bp q off=>match O.get q with
   |.bx cs=>some (.pt ((cs.drop off).map AJ.t7))|_=>none
  |e=>e.val
def sf(O:AA):List AD->Option Fq
 |[]=>some []|x::xs=>match x.uk O,sf O xs with
  |some t,some ts=>some (t::ts)|_,_=>none
def Af.t8:Af->Bool
 |.sh t=>t.flat|.tp ts=>TV.rV ts|.own (.list _ es)=>TV.rV es|_=>false
def E8(O:AA):Nat->List AD->Option Fq
 |_,[]=>some []|0,_::xs=>match vals O xs with
  |some ts=>some (.undef::ts)|none=>none
 |i+1,x::xs=>match x.val O,E8 O i xs with
  |some t,some ts=>some (t::ts)|_,_=>none
def EV.ofs:Fq->EV
 |[t]=>.tv t|ts=>.tp ts
def CZ:List (Option AJ)->Fq->Option (List AJ)
 |[],[]=>some []|none::ps,t::ts=>match CZ ps ts with
  |some cs=>some (⟨false,t⟩::cs)|none=>none
 |some c::ps,.nil::ts=>match c,CZ ps ts with
  |⟨true,.list n []⟩,some cs=>some (⟨true,.list n []⟩::cs)|⟨true,.xl n []⟩,some cs=>some (⟨true,.xl n []⟩::cs)|⟨true,.xn []⟩,some cs=>some (⟨true,.xn []⟩::cs)|_,_=>none
 |_,_=>none
section
variable(S:FuncId->Fq->Af->Prop)
def AQ{α:Type}(o:Option α)(K:α->Prop):Prop:=
 match o with
 |some a=>K a|none=>False
def EC:Fq->Option TV
 |[]=>none|t::_=>some t
def strip:AA->Nat->AA
 |O,s=>(s,.undef)::O
def AC.wp(O:AA)(dst:Option Nat)(K:EV->AA->Prop):AC->Prop
 |.mv x=>match x.ev O with
  |.tv t=>K (.tv t) O|.ow t=>K (.tv t) O|.tp ts=>K (.tp ts) O|_=>False
 |.tk s=>match O.get s with
  |.ow t=>K (.ow t) ((s,.tv t)::O)|.tv t=>K (.tv t) O|_=>False
 |.tW n=>K (.ow (.list n [])) O|.sG x k=>match x.ev O with
  |.tv (.pt row)=>K (.tv (.pt (row.drop k))) O|.bp s off=>match O.get s with
   |.bx _=>K (.bp s (off+k)) O|_=>False
  |_=>False
 |.bad s k=>match O.get s with
  |.bx _=>K (.bp s k) O|.tv (.pt row)=>K (.tv (.pt (row.drop k))) O|_=>False
 |.tY x i n=>match x.val O,i.val O with
  |some (.list m es),some (.int _ j)=>m=n/\0<=j/\∃e,es[j.toNat]?=some e/\K (.tv (.pt e.cells)) O|_,_=>False
 |.aad x i n k=>match x.ev O,i.val O with
  |.tv (.pt row),some (.int _ j)=>0<=j/\j<k/\k*n<=row.length/\K (.tv (.pt (row.drop (j.toNat*n)))) O|_,_=>False
 |.ld x=>AQ (Ap O (x.ev O)) fun cs=>AQ (EC cs) fun t=>t.sT=false/\K (.tv t) O|.tX x n=>AQ (Ap O (x.ev O)) fun cs=>n<=cs.length/\K (.tv (.agg (cs.take n))) O|.vn s n=>match O.get s with
  |.bx cs=>n<=(cs.map (·.t)).length/\K (.tv (.agg ((cs.map (·.t)).take n))) O|_=>False
 |.ldt x=>match x.place O with
  |some (s,off)=>match O.get s with
   |.bx cs=>match cs[off]? with
    |some ⟨true,.list n es⟩=>K (.ow (.list n es)) ((s,.bx (cs.set off ⟨false,.list n es⟩))::O)|_=>False
   |_=>False
  |none=>False
 |.bin k op x y=>match x.val O,y.val O with
  |some a,some b=>AQ (C3 k op a b) fun t=>K (.tv t) O|_,_=>False
 |.not x=>match x.val O with
  |some (.bool b)=>K (.tv (.bool !b)) O|_=>False
 |.neg x=>match x.val O with
  |some (.int k n)=>K (.tv (.int k (k.wrap (-n)))) O|_=>False
 |.pick c a b=>match c.val O with
  |some (.bool q)=>match(if q then a else b).ev O with
   |.tv t=>K (.tv t) O|.ow t=>K (.tv t) O|_=>False
  |_=>False
 |.len x=>match x.val O with
  |some (.list _ es)=>K (.tv (.int .i64 es.length)) O|_=>False
 |.uj x=>match x.val O with
  |some (.str s)=>K (.tv (.int .i64 s.size)) O|_=>False
 |.tw n x lo hi=>match x.val O with
  |some (.list m es)=>match DW O 0 lo,DW O es.length hi with
   |some (.int _ l),some (.int _ h)=>(m=n/\0<=l/\l<=h)/\h<=es.length/\K (.tv (.list n ((es.take h.toNat).drop l.toNat))) O|_,_=>False
  |_=>False
 |.rR x lo hi=>match x.val O with
  |some (.str s)=>match DW O 0 lo,DW O s.size hi with
   |some (.int _ l),some (.int _ h)=>0<=l/\l<=h/\h<=s.size/\K (.tv (.str (s.extract l.toNat h.toNat))) O|_,_=>False
  |_=>False
 |.tQ zero parts=>AQ (EO O parts) fun ts=>AQ (DH zero ts) fun cs=>K (.tv (.agg cs)) O|.uc n parts=>AQ (vals O parts) fun ts=>(∀t∈ts,t.cells.length=n)/\K (.ow (.list n ts)) O|.app n x y=>match x.ev O,y.val O with
  |.ow (.list m es),some (.list m' fs)=>m=n/\m'=n/\es.length+fs.length<=Br/\
    K (.ow (.list n (es++fs))) (match x with|.s s=>(s,.tv (.list n es))::O|_=>O)
  |_,_=>False
 |.call f args=>AQ (vals O args) fun ts=>∃r,(S f ts r/\r.plain=true)/\(r.WF->K r.ev O)|.sJ x args=>match x.val O,vals O args with
  |some (.sE f caps),some ts=>∃r,(S f (ts++caps) r/\r.plain=true)/\(r.WF->K r.ev O)|_,_=>False
 |.sE f caps=>AQ (vals O caps) fun ts=>K (.tv (.sE f ts)) O|.ext x i=>match x.ev O with
  |.tp ts=>AQ ts[i]? fun t=>K (.tv t) O|_=>False
 |.uF k x=>match x.val O with
  |some (.int _ n)=>K (.tv (.int k (k.wrap n))) O|_=>False
 |.rP x i=>match x.val O,i.val O with
  |some (.str s),some (.int _ j)=>0<=j/\∃b,s[j.toNat]?=some b/\K (.tv (.int .u8 b.toNat)) O|_,_=>False
 |.tS x=>match x.val O with
  |some t=>K (.tv (.pt t.cells)) O|_=>False
 |.tZ x=>match x.val O,dst with
  |some t,some d=>O.l3 d=true/\K (.bx (t.cells.map (⟨false,·⟩))) O|_,_=>False
 |.mm mx x y=>match x.val O,y.val O with
  |some (.int k a),some (.int k' b)=>k=k'/\K (.tv (.int k (if mx then max a b else min a b))) O|_,_=>False
 |.uv cs=>match dst with
  |some d=>O.l3 d=true/\K (.bx cs) O|none=>False
 |.st n x v=>match x.place O with
  |some (s,off)=>match O.get s with
   |.bx cs=>match v.ev O with
    |.ow t=>match v with
     |.s q=>q≠s/\n=1/\off<cs.length/\K .undef ((s,.bx (cs.set off ⟨true,t⟩))::(q,.tv t)::O)|_=>False
    |.tv t=>t.cells.length=n/\off+n<=cs.length/\K .undef ((s,.bx (cs.take off++t.cells.map (⟨false,·⟩)++cs.drop (off+n)))::O)|_=>False
   |_=>False
  |none=>False
 |.tV n s v=>match O.get s with
  |.bx cs=>match v.ev O with
   |.ow t=>match v with
    |.s q=>q≠s/\n=1/\0<cs.length/\K .undef ((s,.bx (cs.set 0 ⟨true,t⟩))::(q,.tv t)::O)|_=>False
   |.tv t=>t.cells.length=n/\0+n<=cs.length/\K .undef ((s,.bx (cs.take 0++t.cells.map (⟨false,·⟩)++cs.drop (0+n)))::O)|_=>False
  |_=>False
 |.uP s=>match O.get s with
  |.bx cs=>K .undef ((s,.tv (.pt (cs.map (·.t))))::O)|_=>False
 |.uh x k n agg=>match x.val O with
  |some (.agg cs)=>k+n<=cs.length/\(if agg then K (.tv (.agg ((cs.drop k).take n))) O else AQ (EC (cs.drop k)) fun t=>K (.tv t) O)|_=>False
 |.uZ s=>match O.get s with
  |.xo _ _=>K (.la s none) O|_=>False
 |.ue x=>AQ (x.rL O) fun p=>K (.tv (.int .i64 p.2.2.length)) O|.uX x i n=>AQ (x.rL O) fun p=>match i.val O with
  |some (.int _ j)=>((x.ev O).rS=some p.1.1/\p.2.1=n)/\0<=j/\j<p.2.2.length/\K (.lp p.1.1 p.1.2 (j.toNat*n)) O|_=>False
 |.xfa x k=>match x.ev O with
  |.lp q i c=>match O.rD q i with
   |some _=>K (.lp q i (c+k)) O|none=>False
  |_=>False
 |.vc x=>match x.ev O with
  |.lp q i c=>match O.rD q i with
   |some p=>AQ (p.2.flatMap TV.cells)[c]? fun t=>K (.tv t) O|none=>False
  |_=>False
 |.t6 x v k=>match x.ev O with
  |.lp q i c=>match O.rD q i,v.ev O with
   |some (n,es),.tv t=>(t.cells.length=k/\0<k)/\c+k<=es.length*n/\∃es',es'.flatMap TV.cells=(es.flatMap TV.cells).take c++t.cells++(es.flatMap TV.cells).drop (c+k)/\es'.length=es.length/\(∀e∈es',e.cells.length=n)/\K .undef (O.rZ q i n es')|_,_=>False
  |_=>False
 |.rel s=>match dst,O.get s with
  |some d,.xo n es=>d≠s/\K (.ow (.list n es)) ((s,.undef)::O)|_,_=>False
 |.tF n=>match dst with
  |some d=>O.l3 d=true/\K (.xo n []) O|none=>False
 |.uq s=>match dst,O.get s with
  |some d,.xo n es=>O.l3 d=true/\d≠s/\K (.xo n es) ((s,.undef)::O)|_,_=>False
 |.tB n s y=>match dst,O.get s,y.val O with
  |some d,.xo m es,some (.list m' fs)=>m=n/\m'=n/\es.length+fs.length<=Br/\O.l3 d=true/\d≠s/\K (.xo n (es++fs)) ((s,.undef)::O)|_,_,_=>False
 |.sI f args=>match dst with
  |some d=>O.l3 d=true/\AQ (vals O args) fun ts=>∃n es,(S f ts (.sZ n es)\/(S f ts (.own (.list n es))/\TV.rV es=true))/\((TV.list n es).WF->K (.xo n es) O)|none=>False
 |.ui n zero x=>match dst,x.val O with
  |some d,some (.int _ j)=>O.l3 d=true/\0<=j/\j<=4096/\K (.xo n (List.replicate j.toNat (match zero with|[t]=>t|ts=>.agg ts))) O
  |_,_=>False
 |.sF gs=>match dst with
  |some d=>((gs.filterMap GC.src).Nodup/\d∉gs.filterMap GC.slot)/\AQ (FO O gs) fun cs=>K (.sq cs) (Jm O (gs.filterMap GC.slot) O)|none=>False
 |.stx n s q=>match O.get s,O.get q with
  |.bx cs,.sq ds=>q≠s/\(ds.length=n/\((ds.all fun c=>!c.t.sT)||O.tC s none)=true)/\0+n<=cs.length/\K .undef ((s,.bx (cs.take 0++ds++cs.drop (0+n)))::(q,.undef)::O)|_,_=>False
 |.s9 f args=>AQ (vals O args) fun ts=>∃cs,S f ts (.sq cs)/\((∀c∈cs,c.t.WF)->K (.sq cs) O)|.sP f args=>AQ (vals O args) fun ts=>∃cs,S f ts (.sq cs)/\(∀c∈cs,c.Xable)/\((∀c∈cs,c.t.WF)->K (.sq (cs.map AJ.toX)) O)|.va x k=>match x.val O with
  |some (.pt row)=>K (.tv (.pt (row.drop k))) O|_=>False
 |.vd x n=>match x.val O with
  |some (.pt row)=>n<=row.length/\K (.tv (.agg (row.take n))) O|_=>False
 |.uM x=>match x.val O with
  |some (.list _ es)=>∀b:Bool,(b=true->es=[])->K (.tv (.bool b)) O|some .nil=>K (.tv (.bool true)) O|_=>False
 |.sS f x=>AQ (x.rL O) fun p=>p.2.1=1/\∃zs zs':Fp,p.2.2=zs.map (TV.int .i64)/\S f [.list 1 p.2.2] (.turn zs')/\((TV.list 1 (zs'.map (TV.int .i64))).WF->K (.tp []) (O.rZ p.1.1 p.1.2 1 (zs'.map (TV.int .i64))))|.sR f x=>match dst with
  |some d=>AQ (x.rL O) fun p=>(p.1.1≠d/\p.1.2=none)/\p.2.1=1/\O.l3 d=true/\∃zs zs':Fp,p.2.2=zs.map (TV.int .i64)/\S f [.list 1 p.2.2] (.cut zs')/\((TV.list 1 (zs'.map (TV.int .i64))).WF->K (.xo 1 (zs'.map (TV.int .i64))) ((p.1.1,.undef)::O))|none=>False
 |.lac x=>match x.ev O with
  |.bp s off=>match O.rD s (some off)with
   |some _=>K (.la s (some off)) O|none=>False
  |_=>False
 |.vf x=>match dst,x.place O with
  |some d,some (s,off)=>match O.get s with
   |.bx cs=>match cs[off]? with
    |some ⟨true,.xl n es⟩=>O.l3 d=true/\K (.xo n es) ((s,.bx (cs.set off ⟨false,.undef⟩))::O)|some ⟨true,.xn es⟩=>O.l3 d=true/\K (.xn es) ((s,.bx (cs.set off ⟨false,.undef⟩))::O)|_=>False
   |_=>False
  |_,_=>False
 |.uJ x q=>match x.place O,O.get q with
  |some (s,off),.xo n es=>match O.get s with
   |.bx cs=>O.tC s (some off)=true/\off<cs.length/\K .undef ((s,.bx (cs.set off ⟨true,.xl n es⟩))::(q,.undef)::O)|_=>False
  |some (s,off),.xn es=>match O.get s with
   |.bx cs=>O.tC s (some off)=true/\off<cs.length/\K .undef ((s,.bx (cs.set off ⟨true,.xn es⟩))::(q,.undef)::O)|_=>False
  |_,_=>False
 |.cut n s hi=>match dst,O.get s,hi.val O with
  |some d,.xo m es,some (.int _ h)=>(m=n/\O.l3 d=true/\d≠s)/\0<=h/\h<=es.length/\K (.xo n (es.take h.toNat)) ((s,.undef)::O)|_,_,_=>False
 |.tG n s z x=>match dst,O.get s,x.val O with
  |some d,.xo m es,some (.int _ j)=>((m=n/\n=1)/\z.cells=[z])/\(0<=j/\j<=4096)/\(es.length+j.toNat<=Br/\O.l3 d=true/\d≠s)/\K (.xo n (es++List.replicate j.toNat z)) ((s,.undef)::O)|_,_,_=>False
 |.r9 f args=>AQ (sf O args) fun ts=>∃r,(S f ts r/\r.t8=true)/\(r.WF->K r.ev O)|.ta f args=>AQ (vals O args) fun ts=>∃us,S f ts (.ext us)/\K (.tp us) O|.tD ps x=>match x.val O,dst with
  |some t,some d=>AQ (CZ ps t.cells) fun cs=>O.l3 d=true/\K (.bx cs) O|_,_=>False
 |.tE n=>match dst with
  |some d=>O.l3 d=true/\K (.xo n []) O|none=>False
 |.r7 f args i=>match dst,(args[i]?).bind (·.place O)with
  |some d,some (s,0)=>match O.get s with
   |.bx cs=>(O.tC s none=true/\d≠s)/\AQ (E8 O i args) fun ts=>∃cs' us,S f ts (.bo cs cs' i us)/\((∀c∈cs',c.t.WF)/\TV.rI us->K (EV.ofs us) ((s,.bx cs')::O))|_=>False
  |_,_=>False
 |.tO q=>match dst,O.get q with
  |some d,.xo n fs=>(O.l3 d=true/\d≠q)/\K (.x1 n fs) ((q,.undef)::O)|_,_=>False
 |.s5 m q=>match dst,O.get m,O.get q with
  |some d,.nh s off .hd,.x1 n fs=>match O.get s with
   |.bx cs=>AQ (O.nat s off) fun es=>es.length+1<=Br/\(O.l3 d=true/\d≠m/\d≠q/\m≠q)/\K (.xn (es++[.list n fs])) ((s,.bx (cs.set off ⟨false,.undef⟩))::(m,.undef)::(q,.undef)::O)|_=>False
  |_,_,_=>False
 |.uO x=>match x.ev O with
  |.bp s off=>AQ (O.nat s off) fun _=>K (.nh s off .hd) O|_=>False
 |.uo x i=>match x.ev O,i.val O with
  |.nh s off .hd,some (.int _ j)=>AQ (O.nat s off) fun es=>0<=j/\j<es.length/\K (.nh s off (.el j.toNat)) O|.nh s off (.rw r),some (.int _ j)=>AQ (O.nat s off) fun es=>0<=j/\∃fs,es[r]?=some (.list 1 fs)/\j<fs.length/\K (.nh s off (.rp r j.toNat)) O|_,_=>False
 |.uQ x=>match x.ev O with
  |.nh s off (.el r)=>AQ (O.nat s off) fun es=>r<es.length/\K (.nh s off (.rw r)) O|_=>False
 |.up x v=>match x.ev O,v.ev O with
  |.nh s off (.rp r c),.tv t=>AQ (O.nat s off) fun es=>∃fs,es[r]?=some (.list 1 fs)/\c<fs.length/\t.cells=[t]/\t.flat=true/\K .undef (O.uI s off (es.set r (.list 1 (fs.set c t))))|_,_=>False
 |.ub q=>match dst,O.get q with
  |some d,.sq cs=>(O.l3 d=true/\d≠q)/\K (.bx cs) ((q,.undef)::O)|_,_=>False
 |.sW f args i=>match dst,args[i]? with
  |some d,some (.s q)=>match O.get q with
   |.sq cs=>d≠q/\AQ (E8 O i args) fun ts=>∃r,S f (ts.set i (.agg (cs.map fun _=>.undef))) (.ag cs i r)/\(r.WF->K r.uf ((q,.undef)::O))|_=>False
  |_,_=>False
 |.ve s n=>match dst,O.get s with
  |some d,.bx cs=>cs.length=n/\d≠s/\K (.sq cs) ((s,.bx (cs.map fun _=>⟨false,.undef⟩))::O)|_,_=>False
 |.uL n ps x v=>match x.place O,v.val O with
  |some (s,off),some t=>match O.get s with
   |.bx cs=>AQ (CZ ps t.cells) fun ds=>t.cells.length=n/\off+n<=cs.length/\O.tC s none=true/\K .undef ((s,.bx (cs.take off++ds++cs.drop (off+n)))::O)|_=>False
  |_,_=>False
 |.ur=>∀b,K (.mx (.mp b [])) O|.uH s=>match O.get s with
  |.mx (.mp b _)=>K (.tv (.sK b)) O|.mx (.tm b _ ts)=>K (.tp (.sK b::ts)) O|.tp ts=>K (.tp ts) O|_=>False
 |.sV f args=>AQ (vals O args) fun ts=>(∃us,S f ts (.tp us)/\(TV.rI us->K (.tp us) O))\/∃kvs us,S f ts (.mpr kvs us)/\(Bb.WF kvs/\TV.rI us->∀b,K (.mx (.tm b kvs us)) O)|.vb s m x=>match O.get s,m.val O,x.val O with
  |.mx (.mp b kvs),some (.sK b'),some t=>b=b'/\AQ t.um? fun k=>K (.tp [.int .i64 ((kvs.look k).getD 0),.bool (kvs.look k).isSome]) O|_,_,_=>False
 |.uK s m x v=>match O.get s,m.val O,x.val O with
  |.mx (.mp b kvs),some (.sK b'),some t=>match v.val O with
   |some (.int .i64 n)=>b=b'/\AQ t.um? fun k=>K .undef ((s,.mx (.mp b (kvs.set k n)))::O)|_=>False
  |_,_,_=>False
 |.rK s m=>match dst,O.get s,m.val O with
  |some d,.mx (.tm b kvs _),some (.sK b')=>(d≠s/\b=b')/\K (.mx (.mi none kvs)) ((s,.undef)::O)|_,_,_=>False
 |.u9 s=>match dst,O.get s with
  |some d,.mx (.mi _ todo)=>d≠s/\(todo=[]->K (.tp [.bool false]) O)/\∀p todo',todo.Perm (p::todo')->K (.tp [.bool true,KW p.1,.int .i64 p.2]) ((s,.mx (.mi (some p) todo'))::O)|_,_=>False
 |.uR s=>match O.get s with
  |.mx (.mi (some p) _)=>K (.tp [KW p.1,.int .i64 p.2]) O|_=>False
def AA.put(O:AA)(dst:Option Nat)(e:EV):AA:=
 match dst with
 |some d=>(d,e)::O|none=>O
def PR.wp(O:AA)(K:AA->Prop)(o:PR):Prop:=
 match o.guard with
 |none=>o.op.wp S O o.dst fun e env'=>K (env'.put o.dst e)|some (g,b)=>match O.get g with
  |.tv (.bool q)=>(q=b->o.op.wp S O o.dst fun e env'=>K (env'.put o.dst e))/\(q=!b->K (O.put o.dst .sk))|.sk=>K (O.put o.dst .sk)|_=>False
def wpOps(K:AA->Prop):List PR->AA->Prop
 |[],O=>K O|o::os,O=>o.wp S O fun env'=>wpOps K os env'
structure Q where
 normal:AA->Prop
 exit:Nat->AA->Prop
 ret:AA->Prop
def PC.wp:PC->Q->AA->Prop
 |.skip live,q,O=>q.normal (O.pr live)|.ret,q,O=>q.ret O|.exit id live,q,O=>q.exit id (O.pr live)|.seq a b,q,O=>a.wp {q with normal:=fun e=>(∀s,(e.get s).WF)->b.wp q e} O
 |.cond c a b,q,O=>match c.val O with
  |some (.bool x)=>(x=true->a.wp q O)/\(x=false->b.wp q O)|_=>False
 |.block id c,q,O=>c.wp {q with exit:=fun i e=>if i=id then q.normal e else q.exit i e} O
 |.loop live c,q,O=>∀X:AA->Prop,(∀e,((∀s,(e.get s).WF)->c.wp {q with normal:=fun e'=>X (e'.pr live)} e)->X e)->X (O.pr live)
 |.region ops live,q,O=>wpOps S (fun e=>q.normal (e.pr live)) ops O|.draw D ops live,q,O=>Ll O D=true/\wpOps S (fun e=>q.normal (e.pr live)) ops O|.bad,_,_=>False|.uN s c,q,O=>match O.get s with
  |.bx cs=>c.wp q ((s,.bx (cs.map AJ.rel))::O)|_=>False
end
inductive RV where
 |tmp (s:Nat)
 |cell (s:Nat) (agg:Option Nat)
def RV.get(O:AA):RV->Option TV
 |.tmp s=>(O.get s).val|.cell s none=>match Ap O (O.get s)with
  |some (t::_)=>some t|_=>none
 |.cell s (some n)=>match Ap O (O.get s)with
  |some cs=>if cs.length=n then some (.agg cs)else none|none=>none
def C9(O:AA):List RV->Option Fq
 |[]=>some []|x::xs=>match x.get O,C9 O xs with
  |some t,some ts=>some (t::ts)|_,_=>none
def Bf(rs:List RV)(r:Af)(O:AA):Prop:=
 match r,rs with
 |.own t,[.tmp s]=>O.get s=.ow t|.own _,_=>False|.sh t,[x]=>x.get O=some t|.sh _,_=>False|.tp ts,rs=>rs.length≠1/\C9 O rs=some ts|.turn _,_=>False|.cut _,_=>False|.sZ n es,[.tmp s]=>O.get s=.xo n es|.sZ _ _,_=>False|.sq cs,[.cell s (some n)]=>O.get s=.bx cs/\cs.length=n|.sq _,_=>False|.bo _ cs' i ts,rs=>O.get i=.bx cs'/\C9 O rs=some ts|.ext _,_=>False|.ag _ _ r,rs=>Bf rs r O|.mpr kvs ts,.tmp s::rs=>rs≠[]/\(∃b o,O.get s=.tv (.sK b)/\O.get o=.mx (.mp b kvs))/\C9 O rs=some ts|.mpr _ _,_=>False
end Go.Sf
namespace Go.Sf
def A3(w w':World)(F F':Nat->Nat->Prop):Prop:=
 ∀b o v,w.cell? ⟨b,o,none⟩=some v->¬F b o->w'.cell? ⟨b,o,none⟩=some v/\¬F' b o
section
variable{w w':World}{F F':Nat->Nat->Prop}
mutual
theorem BP(h:A3 w w' F F'):∀(t:TV)(v:Value),AS w F t v->AS w' F' t v
 |.undef,_,a=>a|.int _ _,_,a=>a|.bool _,_,a=>a|.str _,_,a=>a|.nil,_,a=>a|.list n es,v,a=>by
  have:=M6 h n es
  grind [AS]
 |.agg cs,v,a=>by
  have:=AX h cs
  grind [AS]
 |.pt row,v,a=>by
  have:=JT h row
  grind [AS]
 |.sE f c,v,a=>by
  have:=AX h c
  grind [AS]
 |.xl _ _,_,a=>a|.xn _,_,a=>a|.sK _,_,a=>a
theorem AX(h:A3 w w' F F'):∀(ts:Fq)(vs:List Value),AI w F ts vs->AI w' F' ts vs
 |[],_,a=>a|t::ts,vs,a=>by
  simp [AI]at a|-;obtain⟨v,r,c,d,e⟩:=a;exact⟨v,r,c,BP h t v d,AX h ts r e⟩
theorem JT(h:A3 w w' F F'):∀(ts:Fq)(b o:Nat),CF w F ts b o->CF w' F' ts b o
 |[],_,_,_=>trivial|t::ts,b,o,d=>by
  simp [CF]at d|-;obtain⟨⟨v,a,c,e,f⟩,g⟩:=d;exact⟨⟨v,(h b o v a c).1,(h b o v a c).2,e,BP h t v f⟩,JT h ts b (o+1) g⟩
theorem M6(h:A3 w w' F F')(n:Nat):∀(ts:Fq)(b o:Nat),D3 w F n ts b o->D3 w' F' n ts b o
 |[],_,_,_=>trivial|t::ts,b,o,a=>by
  simp [D3]at a|-;exact⟨VU h t b o a.1,a.2.1,M6 h n ts b (o+n) a.2.2⟩
theorem VU(h:A3 w w' F F'):∀(t:TV)(b o:Nat),Ed w F t b o->Ed w' F' t b o
 |.agg cs,b,o,c=>JT h cs b o c|.undef,b,o,c=>by
  simp [Ed]at c|-;obtain⟨v,d,e,g⟩:=c;exact⟨v,(h b o v d e).1,(h b o v d e).2,g⟩
 |.int _ _,b,o,c=>by
  simp [Ed]at c|-;obtain⟨v,d,e,g⟩:=c;exact⟨v,(h b o v d e).1,(h b o v d e).2,g⟩
 |.bool _,b,o,c=>by
  simp [Ed]at c|-;obtain⟨v,d,e,g⟩:=c;exact⟨v,(h b o v d e).1,(h b o v d e).2,g⟩
 |.str _,b,o,c=>by
  simp [Ed]at c|-;obtain⟨v,d,e,g⟩:=c;exact⟨v,(h b o v d e).1,(h b o v d e).2,g⟩
 |.nil,b,o,c=>by
  simp [Ed]at c|-;obtain⟨v,d,e,g⟩:=c;exact⟨v,(h b o v d e).1,(h b o v d e).2,g⟩
 |.list n es,b,o,c=>by
  simp [Ed]at c|-;obtain⟨v,d,e,j,a,cap,g,q,k,p⟩:=c;exact⟨v,(h b o v d e).1,(h b o v d e).2,j,a,cap,g,q,k,fun m i=>⟨(p m i).1,M6 h n es _ _ (p m i).2⟩⟩
 |.pt row,b,o,c=>by
  simp [Ed]at c|-;obtain⟨v,d,e,j,r,s,g,k⟩:=c;exact⟨v,(h b o v d e).1,(h b o v d e).2,j,r,s,g,JT h row _ _ k⟩
 |.sE f l,b,o,c=>by
  simp [Ed]at c|-;obtain⟨v,d,e,j,vs,g,k⟩:=c;exact⟨v,(h b o v d e).1,(h b o v d e).2,j,vs,g,AX h l _ k⟩
 |.xl _ _,b,o,c=>by
  simp [Ed]at c|-;obtain⟨v,d,e,g⟩:=c;exact⟨v,(h b o v d e).1,(h b o v d e).2,g⟩
 |.xn _,b,o,c=>by
  simp [Ed]at c|-;obtain⟨v,d,e,g⟩:=c;exact⟨v,(h b o v d e).1,(h b o v d e).2,g⟩
 |.sK _,b,o,c=>by
  simp [Ed]at c|-;obtain⟨v,d,e,g⟩:=c;exact⟨v,(h b o v d e).1,(h b o v d e).2,g⟩
end
end
section
variable{w:World}{F:Nat->Nat->Prop}
theorem FV:∀(ts:Fq)(b o:Nat),CF w F ts b o↔∀i t,ts[i]?=some t->∃v,w.cell? ⟨b,o+i,none⟩=some v/\¬F b (o+i)/\v.oneCell'=true/\AS w F t v
 |[],_,_=>by simp[CF]|t::ts,b,o=>by
  simp [CF,FV ts b (o+1)];constructor
  .grind
  .intro h;refine⟨by simpa using h 0 t rfl,fun i u hi=>?_⟩;have:=h (i+1) u (by simpa using hi)
   grind
variable{ts:Fq}{b o:Nat}
theorem JS(h:CF w F ts b o)(k:Nat):CF w F (ts.drop k) b (o+k):=by
 rw [FV]at h|-
 grind
theorem Ta(h:CF w F ts b o)(k:Nat):CF w F (ts.take k) b o:=by
 rw [FV]at h|-
 grind
variable{n:Nat}
theorem J9{e:TV}{es:Fq}:D3 w F n (e::es) b o↔CF w F e.cells b o/\e.cells.length=n/\D3 w F n es b (o+n):=by grind[D3,VT]
theorem K6(n:Nat):∀(es:Fq)(b o:Nat),D3 w F n es b o↔∀i e,es[i]?=some e->CF w F e.cells b (o+i*n)/\e.cells.length=n
 |[],_,_=>by simp[D3]|e::es,b,o=>by
  rw [J9,K6 n es b (o+n)];constructor
  .rintro⟨c,d,f⟩ i u hi;cases i with
   |zero=>simp at hi;subst hi;simpa using⟨c,d⟩|succ i=>
    grind
  .intro h;have a:=h 0 e rfl;simp at a;refine⟨a.1,a.2,fun i u hi=>?_⟩;have:=h (i+1) u (by simpa using hi)
   grind
theorem A1:∀(ts:Fq)(vs:List Value),AI w F ts vs↔vs.length=ts.length/\∀(i:Nat)(t:TV)(v:Value),ts[i]?=some t->vs[i]?=some v->AS w F t v
 |[],vs=>by simp[AI]|t::ts,vs=>by
  simp [AI];constructor
  .rintro⟨v,r,rfl,c,a⟩;rw[A1 ts r]at a
   grind
  .rintro⟨c,a⟩;cases vs with
   |nil=>simp at c|cons v r=>exact⟨v,r,rfl,a 0 t v rfl rfl,(A1 ts r).2 ⟨by simpa using c,fun i u x hi d=>a (i+1) u x (by simpa using hi) (by simpa using d)⟩⟩
theorem FE{ts a:Fq}{vs xs:List Value}(c:AI w F ts vs)(d:AI w F a xs):AI w F (ts++a) (vs++xs):=by
 induction ts generalizing vs with
 |nil=>simp[AI]at c;subst c;simpa using d|cons t ts e=>
  grind [AI]
theorem EF{t:TV}{v:Value}(h:AS w F t v):AI w F t.cells v.cells.toList/\∀x∈v.cells.toList,x.oneCell'=true:=by
 have one:∀{v:Value}{t:TV},v.cells=#[v]->v.oneCell'=true->AS w F t v->t.cells=[t]->AI w F t.cells v.cells.toList/\∀x∈v.cells.toList,x.oneCell'=true:=by
  intro v t j d e l;rw[j,l];exact⟨⟨v,[],rfl,e,rfl⟩,by simpa using d⟩
 cases t with
 |agg cs=>simp only[AS]at h;obtain⟨vs,rfl,d,e⟩:=h;exact⟨d,fun x i=>List.all_eq_true.1 e x i⟩
 |undef=>have c:=h;simp[AS]at h;cases v<;>first|exact one rfl rfl c rfl|(simp[Value.oneCell']at h)
 |xl n es=>have c:=h;simp[AS]at h;cases v<;>first|exact one rfl rfl c rfl|(simp[Value.oneCell']at h)
 |xn es=>have c:=h;simp[AS]at h;cases v<;>first|exact one rfl rfl c rfl|(simp[Value.oneCell']at h)
 |int k n=>have c:=h;simp[AS]at h;subst h;exact one rfl rfl c rfl|bool b=>have c:=h;simp[AS]at h;subst h;exact one rfl rfl c rfl|sK b=>have c:=h;simp[AS]at h;subst h;exact one rfl rfl c rfl|str s=>have c:=h;simp[AS]at h;subst h;exact one rfl rfl c rfl|nil=>have c:=h;simp[AS]at h;subst h;exact one rfl rfl c rfl|list n es=>have c:=h;simp[AS]at h;obtain⟨a,cap,rfl,_⟩:=h;exact one rfl rfl c rfl
 |pt row=>have c:=h;simp[AS]at h;obtain⟨b,o,rfl,_⟩:=h;exact one rfl rfl c rfl
 |sE f g=>have c:=h;simp[AS]at h;obtain⟨vs,rfl,_⟩:=h;exact one rfl rfl c rfl
end
end Go.Sf
namespace Go.Sf
section
variable(S:FuncId->Fq->Af->Prop)
theorem wp_skip(l:Ne)(q:Q)(O:AA):PC.wp S (.skip l) q O=q.normal (O.pr l):=rfl
theorem wp_ret(q:Q)(O:AA):PC.wp S .ret q O=q.ret O:=rfl
theorem wp_exit(id:Nat)(l:Ne)(q:Q)(O:AA):PC.wp S (.exit id l) q O=q.exit id (O.pr l):=rfl
theorem wp_seq(a b:PC)(q:Q)(O:AA):PC.wp S (.seq a b) q O=a.wp S {q with normal:=fun e=>(∀s,(e.get s).WF)->b.wp S q e} O:=rfl
theorem wp_block(id:Nat)(c:PC)(q:Q)(O:AA):PC.wp S (.block id c) q O=c.wp S {q with exit:=fun i e=>if i=id then q.normal e else q.exit i e} O:=rfl
theorem wp_region(ops:List PR)(a:Ne)(q:Q)(O:AA):PC.wp S (.region ops a) q O=wpOps S (fun e=>q.normal (e.pr a)) ops O:=rfl
theorem A2{α:Type}{o:Option α}{K K':α->Prop}(h:∀a,K a->K' a):AQ o K->AQ o K':=by
 cases o<;>simp[AQ];exact h _
theorem AC.q9(O:AA)(dst:Option Nat){K K':EV->AA->Prop}(h:∀e env',K e env'->K' e env')(op:AC)(a:op.wp S O dst K):op.wp S O dst K':=by
 cases op<;>simp only[AC.wp]at a|-
 case ld=>exact A2 (fun _=>A2 (fun _ d=>⟨d.1,h _ _ d.2⟩)) a
 case tX=>exact A2 (fun _ d=>⟨d.1,h _ _ d.2⟩) a
 case tQ=>exact A2 (fun _=>A2 (fun _=>h _ _)) a
 case uc=>exact A2 (fun _ d=>⟨d.1,h _ _ d.2⟩) a
 case call=>exact A2 (fun _⟨r,f,c⟩=>⟨r,f,fun g=>h _ _ (c g)⟩) a
 case sE=>exact A2 (fun _=>h _ _) a
 case mm=>split at a<;>first|exact a.elim|exact⟨a.1,h _ _ a.2⟩
 case uh x k n agg=>
  split at a
  .refine⟨a.1,?_⟩;have c:=a.2;cases agg
   .exact A2 (fun _=>h _ _) c
   .exact h _ _ c
  .exact a.elim
 case ue=>exact A2 (fun _=>h _ _) a
 case uX=>exact A2 (fun p q=>by
  split at q
  .exact⟨q.1,q.2.1,q.2.2.1,h _ _ q.2.2.2⟩
  .exact q.elim) a
 case t6=>
  split at a
  .split at a
   .obtain⟨f,c,es',i,j,s,B⟩:=a;exact⟨f,c,es',i,j,s,h _ _ B⟩
   .exact a.elim
  .exact a.elim
 case tE=>split at a<;>first|exact a.elim|exact⟨a.1,h _ _ a.2⟩
 case tF=>split at a<;>first|exact a.elim|exact⟨a.1,h _ _ a.2⟩
 case uq=>split at a<;>first|exact a.elim|exact⟨a.1,a.2.1,h _ _ a.2.2⟩
 case tB=>split at a<;>first|exact a.elim|exact⟨a.1,a.2.1,a.2.2.1,a.2.2.2.1,a.2.2.2.2.1,h _ _ a.2.2.2.2.2⟩
 case sI=>
  split at a
  .exact⟨a.1,A2 (fun ts⟨n,es,f,c⟩=>⟨n,es,f,fun g=>h _ _ (c g)⟩) a.2⟩
  .exact a.elim
 case sF=>
  split at a
  .exact⟨a.1,A2 (fun _=>h _ _) a.2⟩
  .exact a.elim
 case stx=>split at a<;>first|exact a.elim|exact⟨a.1,a.2.1,a.2.2.1,h _ _ a.2.2.2⟩
 case s9=>exact A2 (fun ts⟨cs,f,c⟩=>⟨cs,f,fun g=>h _ _ (c g)⟩) a
 case sP=>exact A2 (fun ts⟨cs,f,i,c⟩=>⟨cs,f,i,fun g=>h _ _ (c g)⟩) a
 case r9=>exact A2 (fun _⟨r,f,c⟩=>⟨r,f,fun g=>h _ _ (c g)⟩) a
 case tD=>
  split at a
  .exact A2 (fun _ d=>⟨d.1,h _ _ d.2⟩) a
  .exact a.elim
 case ta=>exact A2 (fun ts⟨l,f,c⟩=>⟨l,f,h _ _ c⟩) a
 case tG=>
  split at a
  .exact⟨a.1,a.2.1,a.2.2.1,h _ _ a.2.2.2⟩
  .exact a.elim
 case r7=>
  split at a
  .split at a
   .exact⟨a.1,A2 (fun ts⟨cs',l,f,c⟩=>⟨cs',l,f,fun g=>h _ _ (c g)⟩) a.2⟩
   .exact a.elim
  .exact a.elim
 case uO=>
  split at a
  .exact A2 (fun _ d=>h _ _ d) a
  .exact a.elim
 case s5=>
  split at a
  .split at a
   .exact A2 (fun _ d=>⟨d.1,d.2.1,h _ _ d.2.2⟩) a
   .exact a.elim
  .exact a.elim
 case uo=>
  split at a
  .exact A2 (fun _ d=>⟨d.1,d.2.1,h _ _ d.2.2⟩) a
  .exact A2 (fun _⟨f,u,c,i,j⟩=>⟨f,u,c,i,h _ _ j⟩) a
  .exact a.elim
 case uQ=>
  split at a
  .exact A2 (fun _ d=>⟨d.1,h _ _ d.2⟩) a
  .exact a.elim
 case up=>
  split at a
  .exact A2 (fun _⟨u,f,c,i,j,s⟩=>⟨u,f,c,i,j,h _ _ s⟩) a
  .exact a.elim
 case sW=>
  split at a
  .split at a
   .exact⟨a.1,A2 (fun _⟨r,f,c⟩=>⟨r,f,fun g=>h _ _ (c g)⟩) a.2⟩
   .exact a.elim
  .exact a.elim
 case u9=>
  split at a
  .exact⟨a.1,fun e=>h _ _ (a.2.1 e),fun p t z=>h _ _ (a.2.2 p t z)⟩
  .exact a.elim
 case uR=>split at a<;>first|exact a.elim|exact h _ _ a
 case uL=>
  split at a
  .split at a
   .exact A2 (fun _ d=>⟨d.1,d.2.1,d.2.2.1,h _ _ d.2.2.2⟩) a
   .exact a.elim
  .exact a.elim
 case ur=>exact fun b=>h _ _ (a b)
 case uH=>split at a<;>first|exact a.elim|exact h _ _ a
 case sV=>
  refine A2 (fun _ d=>?_) a;rcases d with⟨l,f,c⟩|⟨y,l,f,c⟩
  .exact .inl ⟨l,f,fun g=>h _ _ (c g)⟩
  .exact .inr ⟨y,l,f,fun g b=>h _ _ (c g b)⟩
 case rK=>split at a<;>first|exact a.elim|exact⟨a.1,h _ _ a.2⟩
 case vb=>split at a<;>first|exact a.elim|exact⟨a.1,A2 (fun _ d=>h _ _ d) a.2⟩
 case uK=>
  split at a
  .split at a
   .exact⟨a.1,A2 (fun _ d=>h _ _ d) a.2⟩
   .exact a.elim
  .exact a.elim
 case va=>split at a<;>first|exact a.elim|exact h _ _ a
 case vd=>split at a<;>first|exact a.elim|exact⟨a.1,h _ _ a.2⟩
 case uM=>
  split at a
  .exact fun b A=>h _ _ (a b A)
  .exact h _ _ a
  .exact a.elim
 case sS=>exact A2 (fun p⟨f,zs,m,c,i,j⟩=>⟨f,zs,m,c,i,fun g=>h _ _ (j g)⟩) a
 case sR=>
  split at a
  .exact A2 (fun p⟨v,f,s,zs,m,c,i,j⟩=>⟨v,f,s,zs,m,c,i,fun g=>h _ _ (j g)⟩) a
  .exact a.elim
 all_goals (repeat' split at a)<;>first|exact a.elim|exact h _ _ a|exact⟨a.1,h _ _ a.2⟩|exact⟨a.1,a.2.1,h _ _ a.2.2⟩|exact⟨a.1,a.2.1,a.2.2.1,h _ _ a.2.2.2⟩|exact A2 (fun _=>h _ _) a|(obtain⟨r,f,c⟩:=a;exact⟨r,f,fun g=>h _ _ (c g)⟩)|(obtain⟨f,r,c,i⟩:=a;exact⟨f,r,c,h _ _ i⟩)|(obtain⟨v,f,r,c,i⟩:=a;exact⟨v,f,r,c,h _ _ i⟩)
variable{K K':AA->Prop}
theorem PR.q9(O:AA)(h:∀e,K e->K' e)(o:PR)(a:o.wp S O K):o.wp S O K':=by
 unfold PR.wp at a|-;split at a
 .grind[AC.q9]
 grind [AC.q9]
theorem KF(h:∀e,K e->K' e):∀(os:List PR)(O:AA),wpOps S K os O->wpOps S K' os O
 |[],_,a=>h _ a|o::os,O,a=>PR.q9 S O (fun e=>KF h os e) o a
theorem PC.q9:∀(c:PC)(q:Q)(O:AA),c.wp S q O->∀(f:Q),(∀e,q.normal e->f.normal e)->(∀i e,q.exit i e->f.exit i e)->(∀e,q.ret e->f.ret e)->c.wp S f O
 |.skip _,_,_,d,_,h,_,_=>h _ d|.ret,_,_,d,_,_,_,h=>h _ d|.exit _ _,_,_,d,_,_,h,_=>h _ _ d|.seq a b,q,O,d,f,g,j,k=>by
  simp [PC.wp]at d|-;exact PC.q9 a _ O d _ (fun e he m=>PC.q9 b q e (he m) f g j k) j k
 |.cond c a b,q,O,d,f,g,j,k=>by
  simp [PC.wp]at d|-;split at d
  .exact⟨fun p=>PC.q9 a q O (d.1 p) f g j k,fun p=>PC.q9 b q O (d.2 p) f g j k⟩
  .exact d.elim
 |.block id c,q,O,d,f,g,j,k=>by
  simp [PC.wp]at d|-;exact PC.q9 c _ O d _ g (fun i e=>by dsimp only;split<;>first|exact g e|exact j i e) k
 |.loop l c,q,O,d,f,g,j,k=>by
  simp [PC.wp]at d|-;exact fun X r=>d X fun e he=>r e fun m=>PC.q9 c _ e (he m) _ (fun _ h=>h) j k
 |.region ops l,q,O,d,f,g,_,_=>by
  grind [PC.wp,KF]
 |.draw _ ops l,q,O,d,f,g,_,_=>by
  grind [PC.wp,KF]
 |.bad,_,_,d,_,_,_,_=>by
  simp [PC.wp]at d
 |.uN s c,q,O,d,f,g,j,k=>by
  simp [PC.wp]at d|-;split at d
  .exact PC.q9 c q _ d f g j k
  .exact d.elim
theorem b9{σ:Type}{a:Ne}{c:PC}{q:Q}{O:AA}(I:σ->AA)(ok:σ->Prop)(μ:σ->Nat)(d:σ)(g:O.pr a=I d)(e:ok d)
  (step:∀s,ok s->(∀k,((I s).get k).WF)->c.wp S {q with normal:=fun f=>∃s',f.pr a=I s'/\ok s'/\μ s'<μ s} (I s)):PC.wp S (.loop a c) q O:=by
 intro X j;rw[g];have key:∀n s,μ s=n->ok s->X (I s):=by
  intro n
  induction n using Nat.strongRecOn with
  |_ n m=>
   intro s l ho;refine j _ fun i=>?_;refine PC.q9 S c _ _ (step s ho i) _ (fun f he=>?_) (fun _ _ h=>h) (fun _ h=>h)
   grind
 exact key _ d rfl e
end
end Go.Sf
namespace Go.Sf
def S7:Nat:=1
def IU(w:World):Prop:=(match w.heap[0]? with
 |some (Obj.cells cs _ _)=>some cs|_=>none)=some (Lib.pow10Tab.map fun z=>Value.int .u64 z).toArray
theorem IU.pr{w w':World}(h:IU w)(k:∀b,b<S7->w'.heap[b]?=w.heap[b]?):IU w':=by
 unfold IU;rw[k 0 (by decide)];exact h
theorem IU.lt{w:World}(h:IU w):S7<=w.heap.size:=by
 by_cases a:w.heap.size=0
 .unfold IU at h;rw[Array.getElem?_eq_none (by omega)]at h;cases h
 .unfold S7;omega
end Go.Sf
