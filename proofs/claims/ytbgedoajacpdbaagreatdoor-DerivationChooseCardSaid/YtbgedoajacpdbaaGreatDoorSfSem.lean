/- The pure language: environments, operations, code, and what must hold before a piece of code so that a condition holds behind it. No memory. -/
import Derived.Test.YtbgedoajacpdbaaGreatDoorSfRep
set_option linter.all false
namespace Go.Sf
def Ae:Nat:=8589934592
def F9:Nat:=9223372036854775807
variable{n:Nat}
theorem R9(h:n<=Ae):n<=F9:=by grind[Ae,F9]
mutual
def TV.WF:TV->Prop
 |.int k n=>k.min<=n/\n<=k.max|.str s=>s.size<=F9|.list _ es=>es.length<=F9/\TV.x6 es|.agg cs=>TV.x6 cs|.pt row=>TV.x6 row|.clo _ caps=>TV.x6 caps|.xl _ es=>es.length<=F9/\TV.x6 es|.xn es=>es.length<=F9/\TV.x6 es|_=>True
def TV.x6:Fq->Prop
 |[]=>True|t::ts=>TV.WF t/\TV.x6 ts
end
structure AQ where
 own:Bool
 t:TV
def TV.AaR:TV->Bool
 |.xl _ _=>true|.xn _=>true|_=>false
def AQ.key(c:AQ):TV×Bool:=(c.t,c.own&&c.t.AaR)
def AQ.rel(c:AQ):AQ:=
 match c with
 |⟨true,.xl n es⟩=>⟨true,.list n es⟩|⟨true,.xn es⟩=>⟨true,.list 1 es⟩|c=>c
def AQ.Abx(c:AQ):TV:=
 match c with
 |⟨true,.xl n es⟩=>.list n es|c=>c.t
inductive NK where
 |hd
 |el (r:Nat)
 |rw(r:Nat)
 |rp (r c:Nat)
abbrev BD:=List ((Int×Int)×Int)
inductive MX where
 |mp (b:Nat) (kvs:BD)
 |tm (b:Nat) (kvs:BD) (ts:Fq)
 |mi (last:Option ((Int×Int)×Int)) (todo:BD)
def BD.WF(kvs:BD):Prop:=∀p∈kvs,(TV.int .i64 p.1.1).WF/\(TV.int .i64 p.1.2).WF/\(TV.int .i64 p.2).WF
def MX.WF:MX->Prop
 |.mp _ kvs=>BD.WF kvs|.tm _ kvs ts=>BD.WF kvs/\TV.x6 ts|.mi last todo=>BD.WF last.toList/\BD.WF todo
def BD.look(k:Int×Int):BD->QQ
 |[]=>none|p::r=>if p.1=k then some p.2 else BD.look k r
def BD.set(k:Int×Int)(n:Int):BD->BD
 |[]=>[(k,n)]|p::r=>if p.1=k then(k,n)::r else p::BD.set k n r
def Oq(k:Int×Int):TV:=.agg [.int .i64 k.1,.int .i64 k.2]
def TV.AbJ?:TV->Option (Int×Int)
 |.agg [.int .i64 a,.int .i64 b]=>some (a,b)|_=>none
inductive EV where
 |undef
 |tv (t:TV)
 |ow (t:TV)
 |bx (cs:List AQ)
 |bp (s off:Nat)
 |tp (ts:Fq)
 |sk
 |xo (n:Nat) (es:Fq)
 |la (q:Nat) (i:Option Nat)
 |lp (q:Nat) (i:Option Nat) (c:Nat)
 |oag (cs:List AQ)
 |xn (es:Fq)
 |x1 (n:Nat) (fs:Fq)
 |nh (q i:Nat) (k:NK)
 |mx (m:MX)
def EV.WF:EV->Prop
 |.tv t=>t.WF|.ow t=>t.WF|.bx cs=>∀c∈cs,c.t.WF|.tp ts=>TV.x6 ts|.xo n es=>(TV.list n es).WF|.oag cs=>∀c∈cs,c.t.WF|.xn es=>(TV.list 1 es).WF|.x1 n fs=>(TV.list n fs).WF|.mx m=>m.WF|_=>True
abbrev AB:=List (Nat×EV)
def AB.get:AB->Nat->EV
 |[],_=>.undef|(k,e)::r,n=>if k=n then e else AB.get r n
def AB.hV(O:AB)(live:Ne):AB:=live.map fun s=>(s,O.get s)
def EV.ref:EV->Option Nat
 |.bp s _=>some s|.la s _=>some s|.lp s _ _=>some s|.nh s _ _=>some s|_=>none
def EV.noR(d:Nat)(e:EV):Bool:=
 match e.ref with
 |some s=>d !=s|none=>true
def AB.jj(s:Nat):AB->Bool
 |[]=>true|(_,e)::r=>e.noR s&&AB.jj s r
def EV.noC(d:Nat)(k:Option Nat):EV->Bool
 |.la s (some i)=>d !=s||(match k with|some j=>i !=j|none=>false)
 |.lp s (some i) _=>d !=s||(match k with|some j=>i !=j|none=>false)
 |.nh s i _=>d !=s||(match k with|some j=>i !=j|none=>false)
 |_=>true
def AB.AbZ(s:Nat)(k:Option Nat):Ne->AB->Bool
 |_,[]=>true|z,(q,e)::r=>(z.contains q||e.noC s k)&&AB.AbZ s k (q::z) r
def AB.noX(s:Nat)(k:Option Nat)(O:AB):Bool:=AB.AbZ s k [] O
def AB.x7(O:AB)(q:Nat):Option Nat->Option (Nat×Fq)
 |none=>match O.get q with
  |.xo n es=>some (n,es)|_=>none
 |some k=>match O.get q with
  |.bx cs=>match cs[k]? with
   |some ⟨true,.xl n es⟩=>some (n,es)|_=>none
  |_=>none
def AB.Aaj(O:AB)(q:Nat)(i:Option Nat)(n:Nat)(es:Fq):AB:=
 match i with
 |none=>(q,.xo n es)::O|some k=>match O.get q with
  |.bx cs=>(q,.bx (cs.set k ⟨true,.xl n es⟩))::O|_=>O
def AB.nat(O:AB)(q k:Nat):Option Fq:=
 match O.get q with
 |.bx cs=>match cs[k]? with
  |some ⟨true,.xn es⟩=>some es|_=>none
 |_=>none
def AB.AbV(O:AB)(q k:Nat)(es:Fq):AB:=
 match O.get q with
 |.bx cs=>(q,.bx (cs.set k ⟨true,.xn es⟩))::O|_=>O
inductive AF where
 |s (n:Nat)
 |c (t:TV)
def AF.ev(O:AB):AF->EV
 |.s n=>O.get n|.c t=>.tv t
def EV.val:EV->Option TV
 |.tv t=>some t|.ow t=>some t|_=>none
def AF.val(O:AB)(x:AF):Option TV:=(x.ev O).val
def vals(O:AB):List AF->Option Fq
 |[]=>some []|x::xs=>match x.val O,vals O xs with
  |some t,some ts=>some (t::ts)|_,_=>none
def intCmp(op:BinOp)(a b:Int):K1:=
 match op with
 |.eql=>some (decide (a=b))|.neq=>some (!decide (a=b))|.lss=>some (decide (a<b))|.leq=>some (decide (a<=b))|.gtr=>some (decide (b<a))|.geq=>some (decide (b<=a))|_=>none
def intArith(op:BinOp)(a b:Int):QQ:=
 match op with
 |.add=>some (a+b)|.sub=>some (a-b)|.mul=>some (a*b)|.quo=>if b=0 then none else some (a.tdiv b)|_=>none
inductive GC where
 |z (c:AQ)
 |v (x:AF) (k n:Nat)
 |w (q:Nat)
 |g (q k n:Nat)
def GC.cell(O:AB):GC->Option AQ
 |.z c=>some c|.v x k n=>match x.val O with
  |some t=>match Nat.beq t.cells.length n,t.cells[k]? with
   |true,some c=>some ⟨false,c⟩|_,_=>none
  |none=>none
 |.w q=>match O.get q with
  |.ow t=>some ⟨true,t⟩|.xo n es=>some ⟨true,.xl n es⟩|_=>none
 |.g q k n=>match O.get q with
  |.oag cs=>match Nat.beq cs.length n with
   |true=>cs[k]?|false=>none
  |_=>none
def Hb(O:AB):List GC->Option (List AQ)
 |[]=>some []|g::gs=>match g.cell O,Hb O gs with
  |some c,some cs=>some (c::cs)|_,_=>none
def GC.src:GC->Option (Nat×Option Nat)
 |.w q=>some (q,none)|.g q k _=>some (q,some k)|_=>none
def GC.slot:GC->Option Nat
 |.w q=>some q|.g q _ _=>some q|_=>none
def GC.sl:GC->Ne
 |.v (.s q) _ _=>[q]|.w q=>[q]|.g q _ _=>[q]|_=>[]
def EV.gave:EV->EV
 |.ow t=>.tv t|_=>.undef
def N0(e0:AB):Ne->AB->AB
 |[],O=>O|q::qs,O=>(q,(e0.get q).gave)::N0 e0 qs O
def Bz:Fq->Fq->K1
 |[],[]=>some true|.int k a::cs,.int k' b::ds=>if k=k' then(match Bz cs ds with|some r=>some (decide (a=b)&&r)|none=>none)else none
 |.str a::cs,.str b::ds=>(match Bz cs ds with|some r=>some (decide (a=b)&&r)|none=>none)
 |.bool a::cs,.bool b::ds=>(match Bz cs ds with|some r=>some (decide (a=b)&&r)|none=>none)
 |_,_=>none
inductive BK where
 |i|s|b|w
 |a (ks:Ne)
def TV.kd:TV->Nat
 |.int _ _=>0|.str _=>1|.bool _=>2|_=>3
def Kg(k:IntKind)(op:BinOp)(a b:Int):QQ:=
 match op with
 |.and=>some (k.wrap (BitVec.ofInt k.bits a &&& BitVec.ofInt k.bits b).toNat)|.or=>some (k.wrap (BitVec.ofInt k.bits a|||BitVec.ofInt k.bits b).toNat)|.xor=>some (k.wrap (BitVec.ofInt k.bits a^^^ BitVec.ofInt k.bits b).toNat)|.andNot=>some (k.wrap (BitVec.ofInt k.bits a &&& ~~~ BitVec.ofInt k.bits b).toNat)|.shl=>if 0<=b then some (k.wrap (a*2^ (min b.toNat k.bits)))else none|.shr=>if 0<=b/\k.min<=a.fdiv (2^ (min b.toNat k.bits))/\a.fdiv (2^ (min b.toNat k.bits))<=k.max then some (a.fdiv (2^ (min b.toNat k.bits)))else none|_=>none
def D1:BK->BinOp->TV->TV->Option TV
 |.i,op,.int k a,.int k' b=>
  if k=k' then
   match intCmp op a b with
   |some r=>some (.bool r)|none=>match intArith op a b with
    |some r=>some (.int k (k.wrap r))|none=>if op=.rem/\b≠0 then some (.int k (a.tmod b))else none
  else none
 |.w,op,.int k a,.int k' b=>if k=k'\/op=.shl\/op=.shr then(match Kg k op a b with|some r=>some (.int k r)|none=>none)else none
 |.s,.eql,.str a,.str b=>some (.bool (a==b))|.s,.neq,.str a,.str b=>some (.bool (!(a==b)))|.s,.add,.str a,.str b=>if a.size+b.size<=Ae then some (.str (a++b))else none|.b,.eql,.bool a,.bool b=>some (.bool (a==b))|.b,.neq,.bool a,.bool b=>some (.bool (!(a==b)))|.a n,.eql,.agg cs,.agg ds=>if cs.map TV.kd=n then(match Bz cs ds with|some b=>some (.bool b)|none=>none)else none
 |.a n,.neq,.agg cs,.agg ds=>if cs.map TV.kd=n then(match Bz cs ds with|some b=>some (.bool !b)|none=>none)else none
 |_,_,_,_=>none
def Ez(O:AB)(d:Int):Option AF->Option TV
 |none=>some (.int .i64 d)|some o=>o.val O
def A0(O:AB):EV->Option Fq
 |.tv (.pt row)=>some row|.bx cs=>some (cs.map (·.t))|.bp s off=>match O.get s with
  |.bx cs=>some ((cs.drop off).map (·.t))|_=>none
 |_=>none
def AF.place(O:AB):AF->Option (Nat×Nat)
 |.s n=>match O.get n with
  |.bp q off=>some (q,off)|.bx _=>some (n,0)|_=>none
 |.c _=>none
def NF:Fq->Nat->Fq->Fq
 |cs,_,[]=>cs|cs,i,d::ds=>NF (cs.set i d) (i+1) ds
def Ec(cs:Fq):List (Nat×Nat×TV)->Option Fq
 |[]=>some cs|(i,n,t)::r=>if t.cells.length=n/\i+n<=cs.length then Ec (NF cs i t.cells) r else none
def F5(O:AB):List (Nat×Nat×AF)->Option (List (Nat×Nat×TV))
 |[]=>some []|(i,n,x)::r=>match x.val O,F5 O r with
  |some t,some ts=>some ((i,n,t)::ts)|_,_=>none
inductive AE where
 |mv (x:AF)
 |tk (s:Nat)
 |Aby (n:Nat)
 |fad (x:AF) (k:Nat)
 |bad (s k:Nat)
 |iad (x i:AF) (n:Nat)
 |aad (x i:AF) (n k:Nat)
 |ld (x:AF)
 |lda (x:AF) (n:Nat)
 |ldt (x:AF)
 |bin (k:BK) (op:BinOp) (x y:AF)
 |not (x:AF)
 |neg (x:AF)
 |pick (c a b:AF)
 |len (x:AF)
 |AbK (x:AF)
 |slc (n:Nat) (x:AF) (lo hi:Option AF)
 |AaH (x:AF) (lo hi:Option AF)
 |bld (zero:Fq) (parts:List (Nat×Nat×AF))
 |lst (n:Nat) (parts:List AF)
 |app (n:Nat) (x y:AF)
 |call (f:FuncId) (args:List AF)
 |AaK (x:AF) (args:List AF)
 |clo (f:FuncId) (caps:List AF)
 |ext (x:AF) (i:Nat)
 |cvt (k:IntKind) (x:AF)
 |AaC (x i:AF)
 |Abs (x:AF)
 |Abu (x:AF)
 |mm (max:Bool) (x y:AF)
 |alc (cs:List AQ)
 |st (n:Nat) (x v:AF)
 |stb (n s:Nat) (v:AF)
 |frz (s:Nat)
 |AbE (x:AF) (k n:Nat) (agg:Bool)
 |xal (s:Nat)
 |AbD (x:AF)
 |xia (x i:AF) (n:Nat)
 |xfa (x:AF) (k:Nat)
 |xld (x:AF)
 |xst (x v:AF) (k:Nat)
 |rel (s:Nat)
 |Abk (n:Nat)
 |tkx (s:Nat)
 |Abh (n s:Nat) (y:AF)
 |AaL (f:FuncId) (args:List AF)
 |mkx (n:Nat) (zero:Fq) (x:AF)
 |AaS (f:FuncId) (x:AF)
 |AaW (f:FuncId) (x:AF)
 |Aaz (gs:List GC)
 |stx (n:Nat) (s q:Nat)
 |Aa1 (f:FuncId) (args:List AF)
 |AaN (f:FuncId) (args:List AF)
 |isn (x:AF)
 |lac (x:AF)
 |ctk (x:AF)
 |cpt (x:AF) (q:Nat)
 |cut (n s:Nat) (hi:AF)
 |AaI (f:FuncId) (args:List AF)
 |Abt (ps:List (Option AQ)) (x:AF)
 |Abj (n s:Nat) (z:TV) (x:AF)
 |AaE (f:FuncId) (args:List AF) (i:Nat)
 |Aa3 (f:FuncId) (args:List AF)
 |Abl (n:Nat)
 |ldb (s n:Nat)
 |Abv (q:Nat)
 |Aa0 (m q:Nat)
 |lan (x:AF)
 |nia (x i:AF)
 |nld (x:AF)
 |nst (x v:AF)
 |AbF (q:Nat)
 |AaT (f:FuncId) (args:List AF) (i:Nat)
 |ldg (s n:Nat)
 |stq (n:Nat) (ps:List (Option AQ)) (x v:AF)
 |mkm
 |mvm (s:Nat)
 |AaU (f:FuncId) (args:List AF)
 |mlk (s:Nat) (m x:AF)
 |mup (s:Nat) (m x v:AF)
 |mrg (s:Nat) (m:AF)
 |mnx (s:Nat)
 |men (s:Nat)
 |fdv (x:AF) (k:Nat)
 |ldv (x:AF) (n:Nat)
structure PR where
 dst:Option Nat
 op:AE
 guard:Option (Nat×Bool)
inductive PC where
 |skip (live:Ne)
 |ret
 |exit (id:Nat) (live:Ne)
 |seq (a b:PC)
 |cond (c:AF) (a b:PC)
 |block (id:Nat) (c:PC)
 |loop (live:Ne) (c:PC)
 |region (ops:List PR) (live:Ne)
 |draw (D:Ne) (ops:List PR) (live:Ne)
 |rls (s:Nat) (c:PC)
 |bad
def Pz(O:AB):Ne->Bool
 |[]=>true|d::ds=>O.jj d&&Pz O ds
inductive Aq where
 |sh (t:TV)
 |own (t:TV)
 |tp (ts:Fq)
 |turn (zs:Fp)
 |cut (zs:Fp)
 |AaZ (n:Nat) (es:Fq)
 |oag (cs:List AQ)
 |bo (cs cs':List AQ) (i:Nat) (ts:Fq)
 |ext (ts:Fq)
 |ag (cs:List AQ) (i:Nat) (r:Aq)
 |mpr (kvs:BD) (ts:Fq)
def Aq.WF:Aq->Prop
 |.sh t=>t.WF|.own t=>t.WF|.tp ts=>TV.x6 ts|.turn zs=>(TV.list 1 (zs.map (TV.int .i64))).WF|.cut zs=>(TV.list 1 (zs.map (TV.int .i64))).WF|.AaZ n es=>(TV.list n es).WF|.oag cs=>∀c∈cs,c.t.WF|.bo _ cs' _ ts=>(∀c∈cs',c.t.WF)/\TV.x6 ts|.ext ts=>TV.x6 ts|.ag _ _ r=>r.WF|.mpr kvs ts=>BD.WF kvs/\TV.x6 ts
def Aq.plain:Aq->Bool
 |.turn _=>false|.cut _=>false|.bo ..=>false|.ext _=>false|.ag ..=>false|.mpr ..=>false|_=>true
def Aq.ev:Aq->EV
 |.sh t=>.tv t|.own t=>.ow t|.tp ts=>.tp ts|.AaZ n es=>.ow (.list n es)|.oag cs=>.tv (.agg (cs.map fun c=>c.rel.t))|_=>.undef
def Aq.aev:Aq->EV
 |.oag cs=>.oag cs|r=>r.ev
mutual
def TV.flat:TV->Bool
 |.int _ _=>true|.bool _=>true|.str _=>true|.agg cs=>TV.Aag cs|_=>false
def TV.Aag:Fq->Bool
 |[]=>true|t::ts=>t.flat&&TV.Aag ts
end
def AQ.toX:AQ->AQ
 |⟨true,.list n es⟩=>⟨true,.xl n es⟩|c=>c
def AQ.Xable(c:AQ):Prop:=∃n es,c=⟨true,.list n es⟩/\TV.Aag es=true
def EV.free:EV->Bool
 |.tv t=>t.flat|.undef=>true|.sk=>true|_=>false
def AF.Aaa(O:AB):AF->Option ((Nat×Option Nat)×Nat×Fq)
 |.s m=>match O.get m with
  |.xo n es=>some ((m,none),n,es)|.la q i=>match O.x7 q i with
   |some p=>some ((q,i),p)|none=>none
  |_=>none
 |.c _=>none
def AF.AbH(O:AB)(x:AF):Option TV:=
 match x.Aaa O with
 |some p=>some (.list p.2.1 p.2.2)|none=>match x.ev O with
  |.bx cs=>some (.pt (cs.map AQ.Abx))|.bp q off=>match O.get q with
   |.bx cs=>some (.pt ((cs.drop off).map AQ.Abx))|_=>none
  |e=>e.val
def Aas(O:AB):List AF->Option Fq
 |[]=>some []|x::xs=>match x.AbH O,Aas O xs with
  |some t,some ts=>some (t::ts)|_,_=>none
def Aq.AbC:Aq->Bool
 |.sh t=>t.flat|.tp ts=>TV.Aag ts|.own (.list _ es)=>TV.Aag es|_=>false
def G5(O:AB):Nat->List AF->Option Fq
 |_,[]=>some []|0,_::xs=>match vals O xs with
  |some ts=>some (.undef::ts)|none=>none
 |i+1,x::xs=>match x.val O,G5 O i xs with
  |some t,some ts=>some (t::ts)|_,_=>none
def EV.ofs:Fq->EV
 |[t]=>.tv t|ts=>.tp ts
def DK:List (Option AQ)->Fq->Option (List AQ)
 |[],[]=>some []|none::ps,t::ts=>match DK ps ts with
  |some cs=>some (⟨false,t⟩::cs)|none=>none
 |some c::ps,.nil::ts=>match c,DK ps ts with
  |⟨true,.list n []⟩,some cs=>some (⟨true,.list n []⟩::cs)|⟨true,.xl n []⟩,some cs=>some (⟨true,.xl n []⟩::cs)|⟨true,.xn []⟩,some cs=>some (⟨true,.xn []⟩::cs)|_,_=>none
 |_,_=>none
section
variable(S:FuncId->Fq->Aq->Prop)
def AV{α:Type}(o:Option α)(K:α->Prop):Prop:=
 match o with
 |some a=>K a|none=>False
def Fk:Fq->Option TV
 |[]=>none|t::_=>some t
def strip:AB->Nat->AB
 |O,s=>(s,.undef)::O
def AE.wp(O:AB)(dst:Option Nat)(K:EV->AB->Prop):AE->Prop
 |.mv x=>match x.ev O with
  |.tv t=>K (.tv t) O|.ow t=>K (.tv t) O|.tp ts=>K (.tp ts) O|_=>False
 |.tk s=>match O.get s with
  |.ow t=>K (.ow t) ((s,.tv t)::O)|.tv t=>K (.tv t) O|_=>False
 |.Aby n=>K (.ow (.list n [])) O|.fad x k=>match x.ev O with
  |.tv (.pt row)=>K (.tv (.pt (row.drop k))) O|.bp s off=>match O.get s with
   |.bx _=>K (.bp s (off+k)) O|_=>False
  |_=>False
 |.bad s k=>match O.get s with
  |.bx _=>K (.bp s k) O|.tv (.pt row)=>K (.tv (.pt (row.drop k))) O|_=>False
 |.iad x i n=>match x.val O,i.val O with
  |some (.list m es),some (.int _ j)=>m=n/\0<=j/\∃e,es[j.toNat]?=some e/\K (.tv (.pt e.cells)) O|_,_=>False
 |.aad x i n k=>match x.ev O,i.val O with
  |.tv (.pt row),some (.int _ j)=>0<=j/\j<k/\k*n<=row.length/\K (.tv (.pt (row.drop (j.toNat*n)))) O|_,_=>False
 |.ld x=>AV (A0 O (x.ev O)) fun cs=>AV (Fk cs) fun t=>t.AaR=false/\K (.tv t) O|.lda x n=>AV (A0 O (x.ev O)) fun cs=>n<=cs.length/\K (.tv (.agg (cs.take n))) O|.ldb s n=>match O.get s with
  |.bx cs=>n<=(cs.map (·.t)).length/\K (.tv (.agg ((cs.map (·.t)).take n))) O|_=>False
 |.ldt x=>match x.place O with
  |some (s,off)=>match O.get s with
   |.bx cs=>match cs[off]? with
    |some ⟨true,.list n es⟩=>K (.ow (.list n es)) ((s,.bx (cs.set off ⟨false,.list n es⟩))::O)|_=>False
   |_=>False
  |none=>False
 |.bin k op x y=>match x.val O,y.val O with
  |some a,some b=>AV (D1 k op a b) fun t=>K (.tv t) O|_,_=>False
 |.not x=>match x.val O with
  |some (.bool b)=>K (.tv (.bool !b)) O|_=>False
 |.neg x=>match x.val O with
  |some (.int k n)=>K (.tv (.int k (k.wrap (-n)))) O|_=>False
 |.pick c a b=>match c.val O with
  |some (.bool q)=>match(if q then a else b).ev O with
   |.tv t=>K (.tv t) O|.ow t=>K (.tv t) O|_=>False
  |_=>False
 |.len x=>match x.val O with
  |some (.list _ es)=>K (.tv (.int .i64 es.length)) O|_=>False
 |.AbK x=>match x.val O with
  |some (.str s)=>K (.tv (.int .i64 s.size)) O|_=>False
 |.slc n x lo hi=>match x.val O with
  |some (.list m es)=>match Ez O 0 lo,Ez O es.length hi with
   |some (.int _ l),some (.int _ h)=>(m=n/\0<=l/\l<=h)/\h<=es.length/\K (.tv (.list n ((es.take h.toNat).drop l.toNat))) O|_,_=>False
  |_=>False
 |.AaH x lo hi=>match x.val O with
  |some (.str s)=>match Ez O 0 lo,Ez O s.size hi with
   |some (.int _ l),some (.int _ h)=>0<=l/\l<=h/\h<=s.size/\K (.tv (.str (s.extract l.toNat h.toNat))) O|_,_=>False
  |_=>False
 |.bld zero parts=>AV (F5 O parts) fun ts=>AV (Ec zero ts) fun cs=>K (.tv (.agg cs)) O|.lst n parts=>AV (vals O parts) fun ts=>(∀t∈ts,t.cells.length=n)/\K (.ow (.list n ts)) O|.app n x y=>match x.ev O,y.val O with
  |.ow (.list m es),some (.list m' fs)=>m=n/\m'=n/\es.length+fs.length<=Ae/\
    K (.ow (.list n (es++fs))) (match x with|.s s=>(s,.tv (.list n es))::O|_=>O)
  |_,_=>False
 |.call f args=>AV (vals O args) fun ts=>∃r,(S f ts r/\r.plain=true)/\(r.WF->K r.ev O)|.AaK x args=>match x.val O,vals O args with
  |some (.clo f caps),some ts=>∃r,(S f (ts++caps) r/\r.plain=true)/\(r.WF->K r.ev O)|_,_=>False
 |.clo f caps=>AV (vals O caps) fun ts=>K (.tv (.clo f ts)) O|.ext x i=>match x.ev O with
  |.tp ts=>AV ts[i]? fun t=>K (.tv t) O|_=>False
 |.cvt k x=>match x.val O with
  |some (.int _ n)=>K (.tv (.int k (k.wrap n))) O|_=>False
 |.AaC x i=>match x.val O,i.val O with
  |some (.str s),some (.int _ j)=>0<=j/\∃b,s[j.toNat]?=some b/\K (.tv (.int .u8 b.toNat)) O|_,_=>False
 |.Abs x=>match x.val O with
  |some t=>K (.tv (.pt t.cells)) O|_=>False
 |.Abu x=>match x.val O,dst with
  |some t,some d=>O.jj d=true/\K (.bx (t.cells.map (⟨false,·⟩))) O|_,_=>False
 |.mm mx x y=>match x.val O,y.val O with
  |some (.int k a),some (.int k' b)=>k=k'/\K (.tv (.int k (if mx then max a b else min a b))) O|_,_=>False
 |.alc cs=>match dst with
  |some d=>O.jj d=true/\K (.bx cs) O|none=>False
 |.st n x v=>match x.place O with
  |some (s,off)=>match O.get s with
   |.bx cs=>match v.ev O with
    |.ow t=>match v with
     |.s q=>q≠s/\n=1/\off<cs.length/\K .undef ((s,.bx (cs.set off ⟨true,t⟩))::(q,.tv t)::O)|_=>False
    |.tv t=>t.cells.length=n/\off+n<=cs.length/\K .undef ((s,.bx (cs.take off++t.cells.map (⟨false,·⟩)++cs.drop (off+n)))::O)|_=>False
   |_=>False
  |none=>False
 |.stb n s v=>match O.get s with
  |.bx cs=>match v.ev O with
   |.ow t=>match v with
    |.s q=>q≠s/\n=1/\0<cs.length/\K .undef ((s,.bx (cs.set 0 ⟨true,t⟩))::(q,.tv t)::O)|_=>False
   |.tv t=>t.cells.length=n/\0+n<=cs.length/\K .undef ((s,.bx (cs.take 0++t.cells.map (⟨false,·⟩)++cs.drop (0+n)))::O)|_=>False
  |_=>False
 |.frz s=>match O.get s with
  |.bx cs=>K .undef ((s,.tv (.pt (cs.map (·.t))))::O)|_=>False
 |.AbE x k n agg=>match x.val O with
  |some (.agg cs)=>k+n<=cs.length/\(if agg then K (.tv (.agg ((cs.drop k).take n))) O else AV (Fk (cs.drop k)) fun t=>K (.tv t) O)|_=>False
 |.xal s=>match O.get s with
  |.xo _ _=>K (.la s none) O|_=>False
 |.AbD x=>AV (x.Aaa O) fun p=>K (.tv (.int .i64 p.2.2.length)) O|.xia x i n=>AV (x.Aaa O) fun p=>match i.val O with
  |some (.int _ j)=>((x.ev O).ref=some p.1.1/\p.2.1=n)/\0<=j/\j<p.2.2.length/\K (.lp p.1.1 p.1.2 (j.toNat*n)) O|_=>False
 |.xfa x k=>match x.ev O with
  |.lp q i c=>match O.x7 q i with
   |some _=>K (.lp q i (c+k)) O|none=>False
  |_=>False
 |.xld x=>match x.ev O with
  |.lp q i c=>match O.x7 q i with
   |some p=>AV (p.2.flatMap TV.cells)[c]? fun t=>K (.tv t) O|none=>False
  |_=>False
 |.xst x v k=>match x.ev O with
  |.lp q i c=>match O.x7 q i,v.ev O with
   |some (n,es),.tv t=>(t.cells.length=k/\0<k)/\c+k<=es.length*n/\∃es',es'.flatMap TV.cells=(es.flatMap TV.cells).take c++t.cells++(es.flatMap TV.cells).drop (c+k)/\es'.length=es.length/\(∀e∈es',e.cells.length=n)/\K .undef (O.Aaj q i n es')|_,_=>False
  |_=>False
 |.rel s=>match dst,O.get s with
  |some d,.xo n es=>d≠s/\K (.ow (.list n es)) ((s,.undef)::O)|_,_=>False
 |.Abk n=>match dst with
  |some d=>O.jj d=true/\K (.xo n []) O|none=>False
 |.tkx s=>match dst,O.get s with
  |some d,.xo n es=>O.jj d=true/\d≠s/\K (.xo n es) ((s,.undef)::O)|_,_=>False
 |.Abh n s y=>match dst,O.get s,y.val O with
  |some d,.xo m es,some (.list m' fs)=>m=n/\m'=n/\es.length+fs.length<=Ae/\O.jj d=true/\d≠s/\K (.xo n (es++fs)) ((s,.undef)::O)|_,_,_=>False
 |.AaL f args=>match dst with
  |some d=>O.jj d=true/\AV (vals O args) fun ts=>∃n es,(S f ts (.AaZ n es)\/(S f ts (.own (.list n es))/\TV.Aag es=true))/\((TV.list n es).WF->K (.xo n es) O)|none=>False
 |.mkx n zero x=>match dst,x.val O with
  |some d,some (.int _ j)=>O.jj d=true/\0<=j/\j<=4096/\K (.xo n (List.replicate j.toNat (match zero with|[t]=>t|ts=>.agg ts))) O
  |_,_=>False
 |.Aaz gs=>match dst with
  |some d=>((gs.filterMap GC.src).Nodup/\d∉gs.filterMap GC.slot)/\AV (Hb O gs) fun cs=>K (.oag cs) (N0 O (gs.filterMap GC.slot) O)|none=>False
 |.stx n s q=>match O.get s,O.get q with
  |.bx cs,.oag ds=>q≠s/\(ds.length=n/\((ds.all fun c=>!c.t.AaR)||O.noX s none)=true)/\0+n<=cs.length/\K .undef ((s,.bx (cs.take 0++ds++cs.drop (0+n)))::(q,.undef)::O)|_,_=>False
 |.Aa1 f args=>AV (vals O args) fun ts=>∃cs,S f ts (.oag cs)/\((∀c∈cs,c.t.WF)->K (.oag cs) O)|.AaN f args=>AV (vals O args) fun ts=>∃cs,S f ts (.oag cs)/\(∀c∈cs,c.Xable)/\((∀c∈cs,c.t.WF)->K (.oag (cs.map AQ.toX)) O)|.fdv x k=>match x.val O with
  |some (.pt row)=>K (.tv (.pt (row.drop k))) O|_=>False
 |.ldv x n=>match x.val O with
  |some (.pt row)=>n<=row.length/\K (.tv (.agg (row.take n))) O|_=>False
 |.isn x=>match x.val O with
  |some (.list _ es)=>∀b:Bool,(b=true->es=[])->K (.tv (.bool b)) O|some .nil=>K (.tv (.bool true)) O|_=>False
 |.AaS f x=>AV (x.Aaa O) fun p=>p.2.1=1/\∃zs zs':Fp,p.2.2=zs.map (TV.int .i64)/\S f [.list 1 p.2.2] (.turn zs')/\((TV.list 1 (zs'.map (TV.int .i64))).WF->K (.tp []) (O.Aaj p.1.1 p.1.2 1 (zs'.map (TV.int .i64))))|.AaW f x=>match dst with
  |some d=>AV (x.Aaa O) fun p=>(p.1.1≠d/\p.1.2=none)/\p.2.1=1/\O.jj d=true/\∃zs zs':Fp,p.2.2=zs.map (TV.int .i64)/\S f [.list 1 p.2.2] (.cut zs')/\((TV.list 1 (zs'.map (TV.int .i64))).WF->K (.xo 1 (zs'.map (TV.int .i64))) ((p.1.1,.undef)::O))|none=>False
 |.lac x=>match x.ev O with
  |.bp s off=>match O.x7 s (some off)with
   |some _=>K (.la s (some off)) O|none=>False
  |_=>False
 |.ctk x=>match dst,x.place O with
  |some d,some (s,off)=>match O.get s with
   |.bx cs=>match cs[off]? with
    |some ⟨true,.xl n es⟩=>O.jj d=true/\K (.xo n es) ((s,.bx (cs.set off ⟨false,.undef⟩))::O)|some ⟨true,.xn es⟩=>O.jj d=true/\K (.xn es) ((s,.bx (cs.set off ⟨false,.undef⟩))::O)|_=>False
   |_=>False
  |_,_=>False
 |.cpt x q=>match x.place O,O.get q with
  |some (s,off),.xo n es=>match O.get s with
   |.bx cs=>O.noX s (some off)=true/\off<cs.length/\K .undef ((s,.bx (cs.set off ⟨true,.xl n es⟩))::(q,.undef)::O)|_=>False
  |some (s,off),.xn es=>match O.get s with
   |.bx cs=>O.noX s (some off)=true/\off<cs.length/\K .undef ((s,.bx (cs.set off ⟨true,.xn es⟩))::(q,.undef)::O)|_=>False
  |_,_=>False
 |.cut n s hi=>match dst,O.get s,hi.val O with
  |some d,.xo m es,some (.int _ h)=>(m=n/\O.jj d=true/\d≠s)/\0<=h/\h<=es.length/\K (.xo n (es.take h.toNat)) ((s,.undef)::O)|_,_,_=>False
 |.Abj n s z x=>match dst,O.get s,x.val O with
  |some d,.xo m es,some (.int _ j)=>((m=n/\n=1)/\z.cells=[z])/\(0<=j/\j<=4096)/\(es.length+j.toNat<=Ae/\O.jj d=true/\d≠s)/\K (.xo n (es++List.replicate j.toNat z)) ((s,.undef)::O)|_,_,_=>False
 |.AaI f args=>AV (Aas O args) fun ts=>∃r,(S f ts r/\r.AbC=true)/\(r.WF->K r.ev O)|.Aa3 f args=>AV (vals O args) fun ts=>∃us,S f ts (.ext us)/\K (.tp us) O|.Abt ps x=>match x.val O,dst with
  |some t,some d=>AV (DK ps t.cells) fun cs=>O.jj d=true/\K (.bx cs) O|_,_=>False
 |.Abl n=>match dst with
  |some d=>O.jj d=true/\K (.xo n []) O|none=>False
 |.AaE f args i=>match dst,(args[i]?).bind (·.place O)with
  |some d,some (s,0)=>match O.get s with
   |.bx cs=>(O.noX s none=true/\d≠s)/\AV (G5 O i args) fun ts=>∃cs' us,S f ts (.bo cs cs' i us)/\((∀c∈cs',c.t.WF)/\TV.x6 us->K (EV.ofs us) ((s,.bx cs')::O))|_=>False
  |_,_=>False
 |.Abv q=>match dst,O.get q with
  |some d,.xo n fs=>(O.jj d=true/\d≠q)/\K (.x1 n fs) ((q,.undef)::O)|_,_=>False
 |.Aa0 m q=>match dst,O.get m,O.get q with
  |some d,.nh s off .hd,.x1 n fs=>match O.get s with
   |.bx cs=>AV (O.nat s off) fun es=>es.length+1<=Ae/\(O.jj d=true/\d≠m/\d≠q/\m≠q)/\K (.xn (es++[.list n fs])) ((s,.bx (cs.set off ⟨false,.undef⟩))::(m,.undef)::(q,.undef)::O)|_=>False
  |_,_,_=>False
 |.lan x=>match x.ev O with
  |.bp s off=>AV (O.nat s off) fun _=>K (.nh s off .hd) O|_=>False
 |.nia x i=>match x.ev O,i.val O with
  |.nh s off .hd,some (.int _ j)=>AV (O.nat s off) fun es=>0<=j/\j<es.length/\K (.nh s off (.el j.toNat)) O|.nh s off (.rw r),some (.int _ j)=>AV (O.nat s off) fun es=>0<=j/\∃fs,es[r]?=some (.list 1 fs)/\j<fs.length/\K (.nh s off (.rp r j.toNat)) O|_,_=>False
 |.nld x=>match x.ev O with
  |.nh s off (.el r)=>AV (O.nat s off) fun es=>r<es.length/\K (.nh s off (.rw r)) O|_=>False
 |.nst x v=>match x.ev O,v.ev O with
  |.nh s off (.rp r c),.tv t=>AV (O.nat s off) fun es=>∃fs,es[r]?=some (.list 1 fs)/\c<fs.length/\t.cells=[t]/\t.flat=true/\K .undef (O.AbV s off (es.set r (.list 1 (fs.set c t))))|_,_=>False
 |.AbF q=>match dst,O.get q with
  |some d,.oag cs=>(O.jj d=true/\d≠q)/\K (.bx cs) ((q,.undef)::O)|_,_=>False
 |.AaT f args i=>match dst,args[i]? with
  |some d,some (.s q)=>match O.get q with
   |.oag cs=>d≠q/\AV (G5 O i args) fun ts=>∃r,S f (ts.set i (.agg (cs.map fun _=>.undef))) (.ag cs i r)/\(r.WF->K r.aev ((q,.undef)::O))|_=>False
  |_,_=>False
 |.ldg s n=>match dst,O.get s with
  |some d,.bx cs=>cs.length=n/\d≠s/\K (.oag cs) ((s,.bx (cs.map fun _=>⟨false,.undef⟩))::O)|_,_=>False
 |.stq n ps x v=>match x.place O,v.val O with
  |some (s,off),some t=>match O.get s with
   |.bx cs=>AV (DK ps t.cells) fun ds=>t.cells.length=n/\off+n<=cs.length/\O.noX s none=true/\K .undef ((s,.bx (cs.take off++ds++cs.drop (off+n)))::O)|_=>False
  |_,_=>False
 |.mkm=>∀b,K (.mx (.mp b [])) O|.mvm s=>match O.get s with
  |.mx (.mp b _)=>K (.tv (.AaJ b)) O|.mx (.tm b _ ts)=>K (.tp (.AaJ b::ts)) O|.tp ts=>K (.tp ts) O|_=>False
 |.AaU f args=>AV (vals O args) fun ts=>(∃us,S f ts (.tp us)/\(TV.x6 us->K (.tp us) O))\/∃kvs us,S f ts (.mpr kvs us)/\(BD.WF kvs/\TV.x6 us->∀b,K (.mx (.tm b kvs us)) O)|.mlk s m x=>match O.get s,m.val O,x.val O with
  |.mx (.mp b kvs),some (.AaJ b'),some t=>b=b'/\AV t.AbJ? fun k=>K (.tp [.int .i64 ((kvs.look k).getD 0),.bool (kvs.look k).isSome]) O|_,_,_=>False
 |.mup s m x v=>match O.get s,m.val O,x.val O with
  |.mx (.mp b kvs),some (.AaJ b'),some t=>match v.val O with
   |some (.int .i64 n)=>b=b'/\AV t.AbJ? fun k=>K .undef ((s,.mx (.mp b (kvs.set k n)))::O)|_=>False
  |_,_,_=>False
 |.mrg s m=>match dst,O.get s,m.val O with
  |some d,.mx (.tm b kvs _),some (.AaJ b')=>(d≠s/\b=b')/\K (.mx (.mi none kvs)) ((s,.undef)::O)|_,_,_=>False
 |.mnx s=>match dst,O.get s with
  |some d,.mx (.mi _ todo)=>d≠s/\(todo=[]->K (.tp [.bool false]) O)/\∀p todo',todo.Perm (p::todo')->K (.tp [.bool true,Oq p.1,.int .i64 p.2]) ((s,.mx (.mi (some p) todo'))::O)|_,_=>False
 |.men s=>match O.get s with
  |.mx (.mi (some p) _)=>K (.tp [Oq p.1,.int .i64 p.2]) O|_=>False
def AB.put(O:AB)(dst:Option Nat)(e:EV):AB:=
 match dst with
 |some d=>(d,e)::O|none=>O
def PR.wp(O:AB)(K:AB->Prop)(o:PR):Prop:=
 match o.guard with
 |none=>o.op.wp S O o.dst fun e env'=>K (env'.put o.dst e)|some (g,b)=>match O.get g with
  |.tv (.bool q)=>(q=b->o.op.wp S O o.dst fun e env'=>K (env'.put o.dst e))/\(q=!b->K (O.put o.dst .sk))|.sk=>K (O.put o.dst .sk)|_=>False
def wpOps(K:AB->Prop):List PR->AB->Prop
 |[],O=>K O|o::os,O=>o.wp S O fun env'=>wpOps K os env'
structure Q where
 normal:AB->Prop
 exit:Nat->AB->Prop
 ret:AB->Prop
def PC.wp:PC->Q->AB->Prop
 |.skip live,q,O=>q.normal (O.hV live)|.ret,q,O=>q.ret O|.exit id live,q,O=>q.exit id (O.hV live)|.seq a b,q,O=>a.wp {q with normal:=fun e=>(∀s,(e.get s).WF)->b.wp q e} O
 |.cond c a b,q,O=>match c.val O with
  |some (.bool x)=>(x=true->a.wp q O)/\(x=false->b.wp q O)|_=>False
 |.block id c,q,O=>c.wp {q with exit:=fun i e=>if i=id then q.normal e else q.exit i e} O
 |.loop live c,q,O=>∀X:AB->Prop,(∀e,((∀s,(e.get s).WF)->c.wp {q with normal:=fun e'=>X (e'.hV live)} e)->X e)->X (O.hV live)
 |.region ops live,q,O=>wpOps S (fun e=>q.normal (e.hV live)) ops O|.draw D ops live,q,O=>Pz O D=true/\wpOps S (fun e=>q.normal (e.hV live)) ops O|.bad,_,_=>False|.rls s c,q,O=>match O.get s with
  |.bx cs=>c.wp q ((s,.bx (cs.map AQ.rel))::O)|_=>False
end
inductive RV where
 |tmp (s:Nat)
 |cell (s:Nat) (agg:Option Nat)
def RV.get(O:AB):RV->Option TV
 |.tmp s=>(O.get s).val|.cell s none=>match A0 O (O.get s)with
  |some (t::_)=>some t|_=>none
 |.cell s (some n)=>match A0 O (O.get s)with
  |some cs=>if cs.length=n then some (.agg cs)else none|none=>none
def EI(O:AB):List RV->Option Fq
 |[]=>some []|x::xs=>match x.get O,EI O xs with
  |some t,some ts=>some (t::ts)|_,_=>none
def Bi(rs:List RV)(r:Aq)(O:AB):Prop:=
 match r,rs with
 |.own t,[.tmp s]=>O.get s=.ow t|.own _,_=>False|.sh t,[x]=>x.get O=some t|.sh _,_=>False|.tp ts,rs=>rs.length≠1/\EI O rs=some ts|.turn _,_=>False|.cut _,_=>False|.AaZ n es,[.tmp s]=>O.get s=.xo n es|.AaZ _ _,_=>False|.oag cs,[.cell s (some n)]=>O.get s=.bx cs/\cs.length=n|.oag _,_=>False|.bo _ cs' i ts,rs=>O.get i=.bx cs'/\EI O rs=some ts|.ext _,_=>False|.ag _ _ r,rs=>Bi rs r O|.mpr kvs ts,.tmp s::rs=>rs≠[]/\(∃b o,O.get s=.tv (.AaJ b)/\O.get o=.mx (.mp b kvs))/\EI O rs=some ts|.mpr _ _,_=>False
end Go.Sf
namespace Go.Sf
def BO(w w':World)(F F':Nat->Nat->Prop):Prop:=
 ∀b o v,w.cell? ⟨b,o,none⟩=some v->¬F b o->w'.cell? ⟨b,o,none⟩=some v/\¬F' b o
section
variable{w w':World}{F F':Nat->Nat->Prop}
mutual
theorem Bv(h:BO w w' F F'):∀(t:TV)(v:Value),AY w F t v->AY w' F' t v
 |.undef,_,a=>a|.int _ _,_,a=>a|.bool _,_,a=>a|.str _,_,a=>a|.nil,_,a=>a|.list n es,v,a=>by
  have:=RG h n es
  grind [AY]
 |.agg cs,v,a=>by
  have:=Ag h cs
  grind [AY]
 |.pt row,v,a=>by
  have:=NR h row
  grind [AY]
 |.clo f c,v,a=>by
  have:=Ag h c
  grind [AY]
 |.xl _ _,_,a=>a|.xn _,_,a=>a|.AaJ _,_,a=>a
theorem Ag(h:BO w w' F F'):∀(ts:Fq)(vs:List Value),AO w F ts vs->AO w' F' ts vs
 |[],_,a=>a|t::ts,vs,a=>by
  simp [AO]at a|-;obtain⟨v,r,c,d,e⟩:=a;exact⟨v,r,c,Bv h t v d,Ag h ts r e⟩
theorem NR(h:BO w w' F F'):∀(ts:Fq)(b o:Nat),Co w F ts b o->Co w' F' ts b o
 |[],_,_,_=>trivial|t::ts,b,o,d=>by
  simp [Co]at d|-;obtain⟨⟨v,a,c,e,f⟩,g⟩:=d;exact⟨⟨v,(h b o v a c).1,(h b o v a c).2,e,Bv h t v f⟩,NR h ts b (o+1) g⟩
theorem RG(h:BO w w' F F')(n:Nat):∀(ts:Fq)(b o:Nat),Ej w F n ts b o->Ej w' F' n ts b o
 |[],_,_,_=>trivial|t::ts,b,o,a=>by
  simp [Ej]at a|-;exact⟨bK h t b o a.1,a.2.1,RG h n ts b (o+n) a.2.2⟩
theorem bK(h:BO w w' F F'):∀(t:TV)(b o:Nat),GI w F t b o->GI w' F' t b o
 |.agg cs,b,o,c=>NR h cs b o c|.undef,b,o,c=>by
  simp [GI]at c|-;obtain⟨v,d,e,g⟩:=c;exact⟨v,(h b o v d e).1,(h b o v d e).2,g⟩
 |.int _ _,b,o,c=>by
  simp [GI]at c|-;obtain⟨v,d,e,g⟩:=c;exact⟨v,(h b o v d e).1,(h b o v d e).2,g⟩
 |.bool _,b,o,c=>by
  simp [GI]at c|-;obtain⟨v,d,e,g⟩:=c;exact⟨v,(h b o v d e).1,(h b o v d e).2,g⟩
 |.str _,b,o,c=>by
  simp [GI]at c|-;obtain⟨v,d,e,g⟩:=c;exact⟨v,(h b o v d e).1,(h b o v d e).2,g⟩
 |.nil,b,o,c=>by
  simp [GI]at c|-;obtain⟨v,d,e,g⟩:=c;exact⟨v,(h b o v d e).1,(h b o v d e).2,g⟩
 |.list n es,b,o,c=>by
  simp [GI]at c|-;obtain⟨v,d,e,j,a,cap,g,q,k,p⟩:=c;exact⟨v,(h b o v d e).1,(h b o v d e).2,j,a,cap,g,q,k,fun m i=>⟨(p m i).1,RG h n es _ _ (p m i).2⟩⟩
 |.pt row,b,o,c=>by
  simp [GI]at c|-;obtain⟨v,d,e,j,r,s,g,k⟩:=c;exact⟨v,(h b o v d e).1,(h b o v d e).2,j,r,s,g,NR h row _ _ k⟩
 |.clo f l,b,o,c=>by
  simp [GI]at c|-;obtain⟨v,d,e,j,vs,g,k⟩:=c;exact⟨v,(h b o v d e).1,(h b o v d e).2,j,vs,g,Ag h l _ k⟩
 |.xl _ _,b,o,c=>by
  simp [GI]at c|-;obtain⟨v,d,e,g⟩:=c;exact⟨v,(h b o v d e).1,(h b o v d e).2,g⟩
 |.xn _,b,o,c=>by
  simp [GI]at c|-;obtain⟨v,d,e,g⟩:=c;exact⟨v,(h b o v d e).1,(h b o v d e).2,g⟩
 |.AaJ _,b,o,c=>by
  simp [GI]at c|-;obtain⟨v,d,e,g⟩:=c;exact⟨v,(h b o v d e).1,(h b o v d e).2,g⟩
end
end
section
variable{w:World}{F:Nat->Nat->Prop}
theorem Hk:∀(ts:Fq)(b o:Nat),Co w F ts b o↔∀i t,ts[i]?=some t->∃v,w.cell? ⟨b,o+i,none⟩=some v/\¬F b (o+i)/\v.oneCell'=true/\AY w F t v
 |[],_,_=>by simp[Co]|t::ts,b,o=>by
  simp [Co,Hk ts b (o+1)];constructor
  .grind
  .intro h;refine⟨by simpa using h 0 t rfl,fun i u hi=>?_⟩;have:=h (i+1) u (by simpa using hi)
   grind
variable{ts:Fq}{b o:Nat}
theorem NQ(h:Co w F ts b o)(k:Nat):Co w F (ts.drop k) b (o+k):=by
 rw [Hk]at h|-
 grind
theorem Y3(h:Co w F ts b o)(k:Nat):Co w F (ts.take k) b o:=by
 rw [Hk]at h|-
 grind
variable{n:Nat}
theorem OO{e:TV}{es:Fq}:Ej w F n (e::es) b o↔Co w F e.cells b o/\e.cells.length=n/\Ej w F n es b (o+n):=by grind[Ej,bJ]
theorem PV(n:Nat):∀(es:Fq)(b o:Nat),Ej w F n es b o↔∀i e,es[i]?=some e->Co w F e.cells b (o+i*n)/\e.cells.length=n
 |[],_,_=>by simp[Ej]|e::es,b,o=>by
  rw [OO,PV n es b (o+n)];constructor
  .rintro⟨c,d,f⟩ i u hi;cases i with
   |zero=>simp at hi;subst hi;simpa using⟨c,d⟩|succ i=>
    grind
  .intro h;have a:=h 0 e rfl;simp at a;refine⟨a.1,a.2,fun i u hi=>?_⟩;have:=h (i+1) u (by simpa using hi)
   grind
theorem BM:∀(ts:Fq)(vs:List Value),AO w F ts vs↔vs.length=ts.length/\∀(i:Nat)(t:TV)(v:Value),ts[i]?=some t->vs[i]?=some v->AY w F t v
 |[],vs=>by simp[AO]|t::ts,vs=>by
  simp [AO];constructor
  .rintro⟨v,r,rfl,c,a⟩;rw[BM ts r]at a
   grind
  .rintro⟨c,a⟩;cases vs with
   |nil=>simp at c|cons v r=>exact⟨v,r,rfl,a 0 t v rfl rfl,(BM ts r).2 ⟨by simpa using c,fun i u x hi d=>a (i+1) u x (by simpa using hi) (by simpa using d)⟩⟩
theorem HH{ts a:Fq}{vs xs:List Value}(c:AO w F ts vs)(d:AO w F a xs):AO w F (ts++a) (vs++xs):=by
 induction ts generalizing vs with
 |nil=>simp[AO]at c;subst c;simpa using d|cons t ts e=>
  grind [AO]
theorem Fu{t:TV}{v:Value}(h:AY w F t v):AO w F t.cells v.cells.toList/\∀x∈v.cells.toList,x.oneCell'=true:=by
 have one:∀{v:Value}{t:TV},v.cells=#[v]->v.oneCell'=true->AY w F t v->t.cells=[t]->AO w F t.cells v.cells.toList/\∀x∈v.cells.toList,x.oneCell'=true:=by
  intro v t j d e l;rw[j,l];exact⟨⟨v,[],rfl,e,rfl⟩,by simpa using d⟩
 cases t with
 |agg cs=>simp only[AY]at h;obtain⟨vs,rfl,d,e⟩:=h;exact⟨d,fun x i=>List.all_eq_true.1 e x i⟩
 |undef=>have c:=h;simp[AY]at h;cases v<;>first|exact one rfl rfl c rfl|(simp[Value.oneCell']at h)
 |xl n es=>have c:=h;simp[AY]at h;cases v<;>first|exact one rfl rfl c rfl|(simp[Value.oneCell']at h)
 |xn es=>have c:=h;simp[AY]at h;cases v<;>first|exact one rfl rfl c rfl|(simp[Value.oneCell']at h)
 |int k n=>have c:=h;simp[AY]at h;subst h;exact one rfl rfl c rfl|bool b=>have c:=h;simp[AY]at h;subst h;exact one rfl rfl c rfl|AaJ b=>have c:=h;simp[AY]at h;subst h;exact one rfl rfl c rfl|str s=>have c:=h;simp[AY]at h;subst h;exact one rfl rfl c rfl|nil=>have c:=h;simp[AY]at h;subst h;exact one rfl rfl c rfl|list n es=>have c:=h;simp[AY]at h;obtain⟨a,cap,rfl,_⟩:=h;exact one rfl rfl c rfl
 |pt row=>have c:=h;simp[AY]at h;obtain⟨b,o,rfl,_⟩:=h;exact one rfl rfl c rfl
 |clo f g=>have c:=h;simp[AY]at h;obtain⟨vs,rfl,_⟩:=h;exact one rfl rfl c rfl
end
end Go.Sf
namespace Go.Sf
section
variable(S:FuncId->Fq->Aq->Prop)
theorem wp_skip(l:Ne)(q:Q)(O:AB):PC.wp S (.skip l) q O=q.normal (O.hV l):=rfl
theorem wp_ret(q:Q)(O:AB):PC.wp S .ret q O=q.ret O:=rfl
theorem wp_exit(id:Nat)(l:Ne)(q:Q)(O:AB):PC.wp S (.exit id l) q O=q.exit id (O.hV l):=rfl
theorem wp_seq(a b:PC)(q:Q)(O:AB):PC.wp S (.seq a b) q O=a.wp S {q with normal:=fun e=>(∀s,(e.get s).WF)->b.wp S q e} O:=rfl
theorem wp_block(id:Nat)(c:PC)(q:Q)(O:AB):PC.wp S (.block id c) q O=c.wp S {q with exit:=fun i e=>if i=id then q.normal e else q.exit i e} O:=rfl
theorem wp_region(ops:List PR)(a:Ne)(q:Q)(O:AB):PC.wp S (.region ops a) q O=wpOps S (fun e=>q.normal (e.hV a)) ops O:=rfl
theorem BN{α:Type}{o:Option α}{K K':α->Prop}(h:∀a,K a->K' a):AV o K->AV o K':=by
 cases o<;>simp[AV];exact h _
theorem AE.pc(O:AB)(dst:Option Nat){K K':EV->AB->Prop}(h:∀e env',K e env'->K' e env')(op:AE)(a:op.wp S O dst K):op.wp S O dst K':=by
 cases op<;>simp only[AE.wp]at a|-
 case ld=>exact BN (fun _=>BN (fun _ d=>⟨d.1,h _ _ d.2⟩)) a
 case lda=>exact BN (fun _ d=>⟨d.1,h _ _ d.2⟩) a
 case bld=>exact BN (fun _=>BN (fun _=>h _ _)) a
 case lst=>exact BN (fun _ d=>⟨d.1,h _ _ d.2⟩) a
 case call=>exact BN (fun _⟨r,f,c⟩=>⟨r,f,fun g=>h _ _ (c g)⟩) a
 case clo=>exact BN (fun _=>h _ _) a
 case mm=>split at a<;>first|exact a.elim|exact⟨a.1,h _ _ a.2⟩
 case AbE x k n agg=>
  split at a
  .refine⟨a.1,?_⟩;have c:=a.2;cases agg
   .exact BN (fun _=>h _ _) c
   .exact h _ _ c
  .exact a.elim
 case AbD=>exact BN (fun _=>h _ _) a
 case xia=>exact BN (fun p q=>by
  split at q
  .exact⟨q.1,q.2.1,q.2.2.1,h _ _ q.2.2.2⟩
  .exact q.elim) a
 case xst=>
  split at a
  .split at a
   .obtain⟨f,c,es',i,j,s,B⟩:=a;exact⟨f,c,es',i,j,s,h _ _ B⟩
   .exact a.elim
  .exact a.elim
 case Abl=>split at a<;>first|exact a.elim|exact⟨a.1,h _ _ a.2⟩
 case Abk=>split at a<;>first|exact a.elim|exact⟨a.1,h _ _ a.2⟩
 case tkx=>split at a<;>first|exact a.elim|exact⟨a.1,a.2.1,h _ _ a.2.2⟩
 case Abh=>split at a<;>first|exact a.elim|exact⟨a.1,a.2.1,a.2.2.1,a.2.2.2.1,a.2.2.2.2.1,h _ _ a.2.2.2.2.2⟩
 case AaL=>
  split at a
  .exact⟨a.1,BN (fun ts⟨n,es,f,c⟩=>⟨n,es,f,fun g=>h _ _ (c g)⟩) a.2⟩
  .exact a.elim
 case Aaz=>
  split at a
  .exact⟨a.1,BN (fun _=>h _ _) a.2⟩
  .exact a.elim
 case stx=>split at a<;>first|exact a.elim|exact⟨a.1,a.2.1,a.2.2.1,h _ _ a.2.2.2⟩
 case Aa1=>exact BN (fun ts⟨cs,f,c⟩=>⟨cs,f,fun g=>h _ _ (c g)⟩) a
 case AaN=>exact BN (fun ts⟨cs,f,i,c⟩=>⟨cs,f,i,fun g=>h _ _ (c g)⟩) a
 case AaI=>exact BN (fun _⟨r,f,c⟩=>⟨r,f,fun g=>h _ _ (c g)⟩) a
 case Abt=>
  split at a
  .exact BN (fun _ d=>⟨d.1,h _ _ d.2⟩) a
  .exact a.elim
 case Aa3=>exact BN (fun ts⟨l,f,c⟩=>⟨l,f,h _ _ c⟩) a
 case Abj=>
  split at a
  .exact⟨a.1,a.2.1,a.2.2.1,h _ _ a.2.2.2⟩
  .exact a.elim
 case AaE=>
  split at a
  .split at a
   .exact⟨a.1,BN (fun ts⟨cs',l,f,c⟩=>⟨cs',l,f,fun g=>h _ _ (c g)⟩) a.2⟩
   .exact a.elim
  .exact a.elim
 case lan=>
  split at a
  .exact BN (fun _ d=>h _ _ d) a
  .exact a.elim
 case Aa0=>
  split at a
  .split at a
   .exact BN (fun _ d=>⟨d.1,d.2.1,h _ _ d.2.2⟩) a
   .exact a.elim
  .exact a.elim
 case nia=>
  split at a
  .exact BN (fun _ d=>⟨d.1,d.2.1,h _ _ d.2.2⟩) a
  .exact BN (fun _⟨f,u,c,i,j⟩=>⟨f,u,c,i,h _ _ j⟩) a
  .exact a.elim
 case nld=>
  split at a
  .exact BN (fun _ d=>⟨d.1,h _ _ d.2⟩) a
  .exact a.elim
 case nst=>
  split at a
  .exact BN (fun _⟨u,f,c,i,j,s⟩=>⟨u,f,c,i,j,h _ _ s⟩) a
  .exact a.elim
 case AaT=>
  split at a
  .split at a
   .exact⟨a.1,BN (fun _⟨r,f,c⟩=>⟨r,f,fun g=>h _ _ (c g)⟩) a.2⟩
   .exact a.elim
  .exact a.elim
 case mnx=>
  split at a
  .exact⟨a.1,fun e=>h _ _ (a.2.1 e),fun p t z=>h _ _ (a.2.2 p t z)⟩
  .exact a.elim
 case men=>split at a<;>first|exact a.elim|exact h _ _ a
 case stq=>
  split at a
  .split at a
   .exact BN (fun _ d=>⟨d.1,d.2.1,d.2.2.1,h _ _ d.2.2.2⟩) a
   .exact a.elim
  .exact a.elim
 case mkm=>exact fun b=>h _ _ (a b)
 case mvm=>split at a<;>first|exact a.elim|exact h _ _ a
 case AaU=>
  refine BN (fun _ d=>?_) a;rcases d with⟨l,f,c⟩|⟨y,l,f,c⟩
  .exact .inl ⟨l,f,fun g=>h _ _ (c g)⟩
  .exact .inr ⟨y,l,f,fun g b=>h _ _ (c g b)⟩
 case mrg=>split at a<;>first|exact a.elim|exact⟨a.1,h _ _ a.2⟩
 case mlk=>split at a<;>first|exact a.elim|exact⟨a.1,BN (fun _ d=>h _ _ d) a.2⟩
 case mup=>
  split at a
  .split at a
   .exact⟨a.1,BN (fun _ d=>h _ _ d) a.2⟩
   .exact a.elim
  .exact a.elim
 case fdv=>split at a<;>first|exact a.elim|exact h _ _ a
 case ldv=>split at a<;>first|exact a.elim|exact⟨a.1,h _ _ a.2⟩
 case isn=>
  split at a
  .exact fun b A=>h _ _ (a b A)
  .exact h _ _ a
  .exact a.elim
 case AaS=>exact BN (fun p⟨f,zs,m,c,i,j⟩=>⟨f,zs,m,c,i,fun g=>h _ _ (j g)⟩) a
 case AaW=>
  split at a
  .exact BN (fun p⟨v,f,s,zs,m,c,i,j⟩=>⟨v,f,s,zs,m,c,i,fun g=>h _ _ (j g)⟩) a
  .exact a.elim
 all_goals (repeat' split at a)<;>first|exact a.elim|exact h _ _ a|exact⟨a.1,h _ _ a.2⟩|exact⟨a.1,a.2.1,h _ _ a.2.2⟩|exact⟨a.1,a.2.1,a.2.2.1,h _ _ a.2.2.2⟩|exact BN (fun _=>h _ _) a|(obtain⟨r,f,c⟩:=a;exact⟨r,f,fun g=>h _ _ (c g)⟩)|(obtain⟨f,r,c,i⟩:=a;exact⟨f,r,c,h _ _ i⟩)|(obtain⟨v,f,r,c,i⟩:=a;exact⟨v,f,r,c,h _ _ i⟩)
variable{K K':AB->Prop}
theorem PR.pc(O:AB)(h:∀e,K e->K' e)(o:PR)(a:o.wp S O K):o.wp S O K':=by
 unfold PR.wp at a|-;split at a
 .grind[AE.pc]
 grind [AE.pc]
theorem OU(h:∀e,K e->K' e):∀(os:List PR)(O:AB),wpOps S K os O->wpOps S K' os O
 |[],_,a=>h _ a|o::os,O,a=>PR.pc S O (fun e=>OU h os e) o a
theorem PC.pc:∀(c:PC)(q:Q)(O:AB),c.wp S q O->∀(f:Q),(∀e,q.normal e->f.normal e)->(∀i e,q.exit i e->f.exit i e)->(∀e,q.ret e->f.ret e)->c.wp S f O
 |.skip _,_,_,d,_,h,_,_=>h _ d|.ret,_,_,d,_,_,_,h=>h _ d|.exit _ _,_,_,d,_,_,h,_=>h _ _ d|.seq a b,q,O,d,f,g,j,k=>by
  simp [PC.wp]at d|-;exact PC.pc a _ O d _ (fun e he m=>PC.pc b q e (he m) f g j k) j k
 |.cond c a b,q,O,d,f,g,j,k=>by
  simp [PC.wp]at d|-;split at d
  .exact⟨fun p=>PC.pc a q O (d.1 p) f g j k,fun p=>PC.pc b q O (d.2 p) f g j k⟩
  .exact d.elim
 |.block id c,q,O,d,f,g,j,k=>by
  simp [PC.wp]at d|-;exact PC.pc c _ O d _ g (fun i e=>by dsimp only;split<;>first|exact g e|exact j i e) k
 |.loop l c,q,O,d,f,g,j,k=>by
  simp [PC.wp]at d|-;exact fun X r=>d X fun e he=>r e fun m=>PC.pc c _ e (he m) _ (fun _ h=>h) j k
 |.region ops l,q,O,d,f,g,_,_=>by
  grind [PC.wp,OU]
 |.draw _ ops l,q,O,d,f,g,_,_=>by
  grind [PC.wp,OU]
 |.bad,_,_,d,_,_,_,_=>by
  simp [PC.wp]at d
 |.rls s c,q,O,d,f,g,j,k=>by
  simp [PC.wp]at d|-;split at d
  .exact PC.pc c q _ d f g j k
  .exact d.elim
theorem l5{σ:Type}{a:Ne}{c:PC}{q:Q}{O:AB}(I:σ->AB)(ok:σ->Prop)(μ:σ->Nat)(d:σ)(g:O.hV a=I d)(e:ok d)
  (step:∀s,ok s->(∀k,((I s).get k).WF)->c.wp S {q with normal:=fun f=>∃s',f.hV a=I s'/\ok s'/\μ s'<μ s} (I s)):PC.wp S (.loop a c) q O:=by
 intro X j;rw[g];have key:∀n s,μ s=n->ok s->X (I s):=by
  intro n
  induction n using Nat.strongRecOn with
  |_ n m=>
   intro s l ho;refine j _ fun i=>?_;refine PC.pc S c _ _ (step s ho i) _ (fun f he=>?_) (fun _ _ h=>h) (fun _ h=>h)
   grind
 exact key _ d rfl e
end
end Go.Sf
