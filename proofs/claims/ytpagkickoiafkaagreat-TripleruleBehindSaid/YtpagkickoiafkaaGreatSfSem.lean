/- The pure language: environments, operations, code, and what must hold before a piece of code so that a condition holds behind it. No memory. -/
import Derived.Test.YtpagkickoiafkaaGreatSfRep
set_option linter.all false
open Option renaming some->Y,none->W
open Bool renaming true->X,false->T
namespace Go.Sf
def AY:Nat:=8589934592
def J3:Nat:=9223372036854775807
variable{n:Nat}
theorem U3(h:n<=AY):n<=J3:=by grind[AY,J3]
mutual
def TV.WF:TV->Prop
 |.int k n=>k.min<=n/\n<=k.max|.str s=>s.size<=J3|.list _ es=>es.length<=J3/\TV.k7 es|.agg cs=>TV.k7 cs|.pt row=>TV.k7 row|.z5 _ caps=>TV.k7 caps|.xl _ es=>es.length<=J3/\TV.k7 es|.xn es=>es.length<=J3/\TV.k7 es|_=>True
def TV.k7:Fq->Prop
 |[]=>True|t::ts=>TV.WF t/\TV.k7 ts
end
structure AQ where
 own:Bool
 t:TV
def TV.Aai:TV->Bool
 |.xl _ _=>X|.xn _=>X|_=>T
def AQ.key(c:AQ):TV×Bool:=(c.t,c.own&&c.t.Aai)
def AQ.rel(c:AQ):AQ:=
 match c with
 |⟨X,.xl n es⟩=>⟨X,.list n es⟩|⟨X,.xn es⟩=>⟨X,.list 1 es⟩|c=>c
def AQ.Aa5(c:AQ):TV:=
 match c with
 |⟨X,.xl n es⟩=>.list n es|c=>c.t
inductive NK where
 |hd
 |el (r:Nat)
 |rw(r:Nat)
 |rp (r c:Nat)
abbrev BZ:=List ((Int×Int)×Int)
inductive MX where
 |mp (b:Nat) (kvs:BZ)
 |tm (b:Nat) (kvs:BZ) (ts:Fq)
 |mi (last:Option ((Int×Int)×Int)) (todo:BZ)
def BZ.WF(kvs:BZ):Prop:=∀p∈kvs,(TV.int .i64 p.1.1).WF/\(TV.int .i64 p.1.2).WF/\(TV.int .i64 p.2).WF
def MX.WF:MX->Prop
 |.mp _ kvs=>BZ.WF kvs|.tm _ kvs ts=>BZ.WF kvs/\TV.k7 ts|.mi last todo=>BZ.WF last.toList/\BZ.WF todo
def BZ.look(k:Int×Int):BZ->K1
 |[]=>W|p::r=>if p.1=k then Y p.2 else BZ.look k r
def BZ.set(k:Int×Int)(n:Int):BZ->BZ
 |[]=>[(k,n)]|p::r=>if p.1=k then(k,n)::r else p::BZ.set k n r
def SK(k:Int×Int):TV:=.agg [.int .i64 k.1,.int .i64 k.2]
def TV.Abt?:TV->Option (Int×Int)
 |.agg [.int .i64 a,.int .i64 b]=>Y (a,b)|_=>W
inductive EV where
 |undef
 |tv (t:TV)
 |ow (t:TV)
 |bx (cs:List AQ)
 |bp (s off:Nat)
 |tp (ts:Fq)
 |sk
 |xo (n:Nat) (es:Fq)
 |la (q:Nat) (i:Option Nat)
 |lp (q:Nat) (i:Option Nat) (c:Nat)
 |vS (cs:List AQ)
 |xn (es:Fq)
 |x1 (n:Nat) (fs:Fq)
 |nh (q i:Nat) (k:NK)
 |mx (m:MX)
def EV.WF:EV->Prop
 |.tv t=>t.WF|.ow t=>t.WF|.bx cs=>∀c∈cs,c.t.WF|.tp ts=>TV.k7 ts|.xo n es=>(TV.list n es).WF|.vS cs=>∀c∈cs,c.t.WF|.xn es=>(TV.list 1 es).WF|.x1 n fs=>(TV.list n fs).WF|.mx m=>m.WF|_=>True
abbrev AB:=List (Nat×EV)
def AB.get:AB->Nat->EV
 |[],_=>.undef|(k,e)::r,n=>if k=n then e else AB.get r n
def AB.em(O:AB)(live:I2):AB:=live.map λs=>(s,O.get s)
def EV.n8:EV->Option Nat
 |.bp s _=>Y s|.la s _=>Y s|.lp s _ _=>Y s|.nh s _ _=>Y s|_=>W
def EV.tg(d:Nat)(e:EV):Bool:=
 match e.n8 with
 |some s=>d !=s|none=>X
def AB.ew(s:Nat):AB->Bool
 |[]=>X|(_,e)::r=>e.tg s&&AB.ew s r
def EV.noC(d:Nat)(k:Option Nat):EV->Bool
 |.la s (Y i)=>d !=s||(match k with|some j=>i !=j|none=>T)
 |.lp s (Y i) _=>d !=s||(match k with|some j=>i !=j|none=>T)
 |.nh s i _=>d !=s||(match k with|some j=>i !=j|none=>T)
 |_=>X
def AB.AbC(s:Nat)(k:Option Nat):I2->AB->Bool
 |_,[]=>X|z,(q,e)::r=>(z.contains q||e.noC s k)&&AB.AbC s k (q::z) r
def AB.noX(s:Nat)(k:Option Nat)(O:AB):Bool:=AB.AbC s k [] O
def AB.ln(O:AB)(q:Nat):Option Nat->Option (Nat×Fq)
 |none=>match O.get q with
  |.xo n es=>Y (n,es)|_=>W
 |some k=>match O.get q with
  |.bx cs=>match cs[k]? with
   |some ⟨X,.xl n es⟩=>Y (n,es)|_=>W
  |_=>W
def AB.sc(O:AB)(q:Nat)(i:Option Nat)(n:Nat)(es:Fq):AB:=
 match i with
 |none=>(q,.xo n es)::O|some k=>match O.get q with
  |.bx cs=>(q,.bx (cs.set k ⟨X,.xl n es⟩))::O|_=>O
def AB.nat(O:AB)(q k:Nat):Option Fq:=
 match O.get q with
 |.bx cs=>match cs[k]? with
  |some ⟨X,.xn es⟩=>Y es|_=>W
 |_=>W
def AB.Abv(O:AB)(q k:Nat)(es:Fq):AB:=
 match O.get q with
 |.bx cs=>(q,.bx (cs.set k ⟨X,.xn es⟩))::O|_=>O
inductive AF where
 |s (n:Nat)
 |c (t:TV)
def AF.ev(O:AB):AF->EV
 |.s n=>O.get n|.c t=>.tv t
def EV.val:EV->Option TV
 |.tv t=>Y t|.ow t=>Y t|_=>W
def AF.val(O:AB)(x:AF):Option TV:=(x.ev O).val
def vals(O:AB):List AF->Option Fq
 |[]=>Y []|x::xs=>match x.val O,vals O xs with
  |some t,Y ts=>Y (t::ts)|_,_=>W
def intCmp(op:BinOp)(a b:Int):I1:=
 match op with
 |.eql=>Y (decide (a=b))|.neq=>Y (!decide (a=b))|.lss=>Y (decide (a<b))|.leq=>Y (decide (a<=b))|.gtr=>Y (decide (b<a))|.geq=>Y (decide (b<=a))|_=>W
def intArith(op:BinOp)(a b:Int):K1:=
 match op with
 |.add=>Y (a+b)|.sub=>Y (a-b)|.mul=>Y (a*b)|.quo=>if b=0 then W else Y (a.tdiv b)|_=>W
inductive GC where
 |z (c:AQ)
 |v (x:AF) (k n:Nat)
 |w (q:Nat)
 |g (q k n:Nat)
def GC.cell(O:AB):GC->Option AQ
 |.z c=>Y c|.v x k n=>match x.val O with
  |some t=>match Nat.beq t.cells.length n,t.cells[k]? with
   |true,Y c=>Y ⟨T,c⟩|_,_=>W
  |none=>W
 |.w q=>match O.get q with
  |.ow t=>Y ⟨X,t⟩|.xo n es=>Y ⟨X,.xl n es⟩|_=>W
 |.g q k n=>match O.get q with
  |.vS cs=>match Nat.beq cs.length n with
   |true=>cs[k]?|false=>W
  |_=>W
def FT(O:AB):List GC->Option (List AQ)
 |[]=>Y []|g::gs=>match g.cell O,FT O gs with
  |some c,Y cs=>Y (c::cs)|_,_=>W
def GC.src:GC->Option (Nat×Option Nat)
 |.w q=>Y (q,W)|.g q k _=>Y (q,Y k)|_=>W
def GC.slot:GC->Option Nat
 |.w q=>Y q|.g q _ _=>Y q|_=>W
def GC.sl:GC->I2
 |.v (.s q) _ _=>[q]|.w q=>[q]|.g q _ _=>[q]|_=>[]
def EV.gave:EV->EV
 |.ow t=>.tv t|_=>.undef
def Np(e0:AB):I2->AB->AB
 |[],O=>O|q::qs,O=>(q,(e0.get q).gave)::Np e0 qs O
def B1:Fq->Fq->I1
 |[],[]=>Y X|.int k a::cs,.int k' b::ds=>if k=k' then(match B1 cs ds with|some r=>Y (decide (a=b)&&r)|none=>W)else W
 |.str a::cs,.str b::ds=>(match B1 cs ds with|some r=>Y (decide (a=b)&&r)|none=>W)
 |.bool a::cs,.bool b::ds=>(match B1 cs ds with|some r=>Y (decide (a=b)&&r)|none=>W)
 |_,_=>W
inductive BK where
 |i|s|b|w
 |a (ks:I2)
def TV.kd:TV->Nat
 |.int _ _=>0|.str _=>1|.bool _=>2|_=>3
def MN(k:IntKind)(op:BinOp)(a b:Int):K1:=
 match op with
 |.and=>Y (k.wrap (BitVec.ofInt k.bits a &&& BitVec.ofInt k.bits b).toNat)|.or=>Y (k.wrap (BitVec.ofInt k.bits a|||BitVec.ofInt k.bits b).toNat)|.xor=>Y (k.wrap (BitVec.ofInt k.bits a^^^ BitVec.ofInt k.bits b).toNat)|.andNot=>Y (k.wrap (BitVec.ofInt k.bits a &&& ~~~ BitVec.ofInt k.bits b).toNat)|.shl=>if 0<=b then Y (k.wrap (a*2^ (min b.toNat k.bits)))else W|.shr=>if 0<=b/\k.min<=a.fdiv (2^ (min b.toNat k.bits))/\a.fdiv (2^ (min b.toNat k.bits))<=k.max then Y (a.fdiv (2^ (min b.toNat k.bits)))else W|_=>W
def Ll:BK->BinOp->TV->TV->Option TV
 |.i,op,.int k a,.int k' b=>
  if k=k' then
   match intCmp op a b with
   |some r=>Y (.bool r)|none=>match intArith op a b with
    |some r=>Y (.int k (k.wrap r))|none=>if op=.rem/\b≠0 then Y (.int k (a.tmod b))else W
  else W
 |.w,op,.int k a,.int k' b=>if k=k'\/op=.shl\/op=.shr then(match MN k op a b with|some r=>Y (.int k r)|none=>W)else W
 |.s,.eql,.str a,.str b=>Y (.bool (a==b))|.s,.neq,.str a,.str b=>Y (.bool (!(a==b)))|.s,.add,.str a,.str b=>if a.size+b.size<=AY then Y (.str (a++b))else W|.b,.eql,.bool a,.bool b=>Y (.bool (a==b))|.b,.neq,.bool a,.bool b=>Y (.bool (!(a==b)))|.a n,.eql,.agg cs,.agg ds=>if cs.map TV.kd=n then(match B1 cs ds with|some b=>Y (.bool b)|none=>W)else W
 |.a n,.neq,.agg cs,.agg ds=>if cs.map TV.kd=n then(match B1 cs ds with|some b=>Y (.bool !b)|none=>W)else W
 |_,_,_,_=>W
def G6(O:AB)(d:Int):Option AF->Option TV
 |none=>Y (.int .i64 d)|some o=>o.val O
def A7(O:AB):EV->Option Fq
 |.tv (.pt row)=>Y row|.bx cs=>Y (cs.map (·.t))|.bp s off=>match O.get s with
  |.bx cs=>Y ((cs.drop off).map (·.t))|_=>W
 |_=>W
def AF.place(O:AB):AF->Option (Nat×Nat)
 |.s n=>match O.get n with
  |.bp q off=>Y (q,off)|.bx _=>Y (n,0)|_=>W
 |.c _=>W
def PG:Fq->Nat->Fq->Fq
 |cs,_,[]=>cs|cs,i,d::ds=>PG (cs.set i d) (i+1) ds
def Eb(cs:Fq):List (Nat×Nat×TV)->Option Fq
 |[]=>Y cs|(i,n,t)::r=>if t.cells.length=n/\i+n<=cs.length then Eb (PG cs i t.cells) r else W
def EX(O:AB):List (Nat×Nat×AF)->Option (List (Nat×Nat×TV))
 |[]=>Y []|(i,n,x)::r=>match x.val O,EX O r with
  |some t,Y ts=>Y ((i,n,t)::ts)|_,_=>W
inductive AE where
 |mv (x:AF)
 |tk (s:Nat)
 |Aa8 (n:Nat)
 |zt (x:AF) (k:Nat)
 |bad (s k:Nat)
 |iad (x i:AF) (n:Nat)
 |aad (x i:AF) (n k:Nat)
 |ld (x:AF)
 |lda (x:AF) (n:Nat)
 |ldt (x:AF)
 |bin (k:BK) (op:BinOp) (x y:AF)
 |not (x:AF)
 |neg (x:AF)
 |pick (c a b:AF)
 |len (x:AF)
 |Abk (x:AF)
 |slc (n:Nat) (x:AF) (lo hi:Option AF)
 |Aag (x:AF) (lo hi:Option AF)
 |bld (zero:Fq) (parts:List (Nat×Nat×AF))
 |lst (n:Nat) (parts:List AF)
 |app (n:Nat) (x y:AF)
 |call (f:FuncId) (args:List AF)
 |AaZ (x:AF) (args:List AF)
 |z5 (f:FuncId) (caps:List AF)
 |ext (x:AF) (i:Nat)
 |cvt (k:IntKind) (x:AF)
 |Aac (x i:AF)
 |Aa3 (x:AF)
 |Abd (x:AF)
 |mm (max:Bool) (x y:AF)
 |alc (cs:List AQ)
 |st (n:Nat) (x v:AF)
 |stb (n s:Nat) (v:AF)
 |frz (s:Nat)
 |Abe (x:AF) (k n:Nat) (agg:Bool)
 |xal (s:Nat)
 |Abc (x:AF)
 |xia (x i:AF) (n:Nat)
 |xfa (x:AF) (k:Nat)
 |xld (x:AF)
 |xst (x v:AF) (k:Nat)
 |rel (s:Nat)
 |AaY (n:Nat)
 |tkx (s:Nat)
 |AaN (n s:Nat) (y:AF)
 |Aal (f:FuncId) (args:List AF)
 |mkx (n:Nat) (zero:Fq) (x:AF)
 |Aaj (f:FuncId) (x:AF) (ys:List AF)
 |AaE (f:FuncId) (x:AF)
 |tl (gs:List GC)
 |stx (n:Nat) (s q:Nat)
 |AaM (f:FuncId) (args:List AF)
 |Aae (f:FuncId) (args:List AF)
 |isn (x:AF)
 |lac (x:AF)
 |ctk (x:AF)
 |cpt (x:AF) (q:Nat)
 |cut (n s:Nat) (hi:AF)
 |Aat (f:FuncId) (args:List AF)
 |Aa7 (ps:List (Option AQ)) (x:AF)
 |AaX (n s:Nat) (z:TV) (x:AF)
 |wi (f:FuncId) (args:List AF) (i:Nat)
 |AaL (f:FuncId) (args:List AF)
 |AaV (n:Nat)
 |ldb (s n:Nat)
 |Aa4 (q:Nat)
 |Aar (m q:Nat)
 |lan (x:AF)
 |nia (x i:AF)
 |nld (x:AF)
 |nst (x v:AF)
 |Abi (q:Nat)
 |Aas (f:FuncId) (args:List AF) (i:Nat)
 |ldg (s n:Nat)
 |stq (n:Nat) (ps:List (Option AQ)) (x v:AF)
 |mkm
 |mvm (s:Nat)
 |Aan (f:FuncId) (args:List AF)
 |mlk (s:Nat) (m x:AF)
 |mup (s:Nat) (m x v:AF)
 |pc (s:Nat) (m:AF)
 |mnx (s:Nat)
 |men (s:Nat)
 |fdv (x:AF) (k:Nat)
 |ldv (x:AF) (n:Nat)
 |xin (x i:AF) (n:Nat)
 |xln (x:AF)
 |mko (n:Nat) (zero:Fq) (x:AF)
structure PR where
 dst:Option Nat
 op:AE
 guard:Option (Nat×Bool)
inductive PC where
 |skip (live:I2)
 |ret
 |exit (id:Nat) (live:I2)
 |seq (a b:PC)
 |cond (c:AF) (a b:PC)
 |block (id:Nat) (c:PC)
 |loop (live:I2) (c:PC)
 |region (ops:List PR) (live:I2)
 |draw (D:I2) (ops:List PR) (live:I2)
 |rls (s:Nat) (c:PC)
 |bad
def SY(O:AB):I2->Bool
 |[]=>X|d::ds=>O.ew d&&SY O ds
inductive At where
 |sh (t:TV)
 |own (t:TV)
 |tp (ts:Fq)
 |turn (zs:Fp) (us:Fq)
 |cut (zs:Fp)
 |AaO (n:Nat) (es:Fq)
 |vS (cs:List AQ)
 |bo (cs cs':List AQ) (i:Nat) (ts:Fq)
 |ext (ts:Fq)
 |ag (cs:List AQ) (i:Nat) (r:At)
 |mpr (kvs:BZ) (ts:Fq)
def At.WF:At->Prop
 |.sh t=>t.WF|.own t=>t.WF|.tp ts=>TV.k7 ts|.turn zs us=>(TV.list 1 (zs.map (TV.int .i64))).WF/\TV.k7 us|.cut zs=>(TV.list 1 (zs.map (TV.int .i64))).WF|.AaO n es=>(TV.list n es).WF|.vS cs=>∀c∈cs,c.t.WF|.bo _ cs' _ ts=>(∀c∈cs',c.t.WF)/\TV.k7 ts|.ext ts=>TV.k7 ts|.ag _ _ r=>r.WF|.mpr kvs ts=>BZ.WF kvs/\TV.k7 ts
def At.plain:At->Bool
 |.turn ..=>T|.cut _=>T|.bo ..=>T|.ext _=>T|.ag ..=>T|.mpr ..=>T|_=>X
def At.ev:At->EV
 |.sh t=>.tv t|.own t=>.ow t|.tp ts=>.tp ts|.AaO n es=>.ow (.list n es)|.vS cs=>.tv (.agg (cs.map λc=>c.rel.t))|_=>.undef
def At.aev:At->EV
 |.vS cs=>.vS cs|r=>r.ev
mutual
def TV.flat:TV->Bool
 |.int _ _=>X|.bool _=>X|.str _=>X|.agg cs=>TV.q0 cs|_=>T
def TV.q0:Fq->Bool
 |[]=>X|t::ts=>t.flat&&TV.q0 ts
end
def AQ.toX:AQ->AQ
 |⟨X,.list n es⟩=>⟨X,.xl n es⟩|c=>c
def AQ.Xable(c:AQ):Prop:=∃n es,c=⟨X,.list n es⟩/\TV.q0 es=X
def EV.free:EV->Bool
 |.tv t=>t.flat|.undef=>X|.sk=>X|_=>T
def AF.pq(O:AB):AF->Option ((Nat×Option Nat)×Nat×Fq)
 |.s m=>match O.get m with
  |.xo n es=>Y ((m,W),n,es)|.la q i=>match O.ln q i with
   |some p=>Y ((q,i),p)|none=>W
  |_=>W
 |.c _=>W
def AF.Abf(O:AB)(x:AF):Option TV:=
 match x.pq O with
 |some p=>Y (.list p.2.1 p.2.2)|none=>match x.ev O with
  |.bx cs=>Y (.pt (cs.map AQ.Aa5))|.bp q off=>match O.get q with
   |.bx cs=>Y (.pt ((cs.drop off).map AQ.Aa5))|_=>W
  |e=>e.val
def up(O:AB):List AF->Option Fq
 |[]=>Y []|x::xs=>match x.Abf O,up O xs with
  |some t,Y ts=>Y (t::ts)|_,_=>W
def At.Aab:At->Bool
 |.sh t=>t.flat|.tp ts=>TV.q0 ts|.own (.list _ es)=>TV.q0 es|_=>T
def AQ.Aab:AQ->Bool
 |⟨X,.list _ es⟩=>TV.q0 es|⟨T,t⟩=>t.flat|_=>T
def FE(O:AB):Nat->List AF->Option Fq
 |_,[]=>Y []|0,_::xs=>match vals O xs with
  |some ts=>Y (.undef::ts)|none=>W
 |i+1,x::xs=>match x.val O,FE O i xs with
  |some t,Y ts=>Y (t::ts)|_,_=>W
def EV.ofs:Fq->EV
 |[t]=>.tv t|ts=>.tp ts
def EM:List (Option AQ)->Fq->Option (List AQ)
 |[],[]=>Y []|none::ps,t::ts=>match EM ps ts with
  |some cs=>Y (⟨T,t⟩::cs)|none=>W
 |some c::ps,.nil::ts=>match c,EM ps ts with
  |⟨X,.list n []⟩,Y cs=>Y (⟨X,.list n []⟩::cs)|⟨X,.xl n []⟩,Y cs=>Y (⟨X,.xl n []⟩::cs)|⟨X,.xn []⟩,Y cs=>Y (⟨X,.xn []⟩::cs)|_,_=>W
 |_,_=>W
section
variable(S:FuncId->Fq->At->Prop)
def Ai{α:Type}(o:Option α)(K:α->Prop):Prop:=
 match o with
 |some a=>K a|none=>False
def E4:Fq->Option TV
 |[]=>W|t::_=>Y t
def strip:AB->Nat->AB
 |O,s=>(s,.undef)::O
def AE.wp(O:AB)(dst:Option Nat)(K:EV->AB->Prop):AE->Prop
 |.mv x=>match x.ev O with
  |.tv t=>K (.tv t) O|.ow t=>K (.tv t) O|.tp ts=>K (.tp ts) O|_=>False
 |.tk s=>match O.get s with
  |.ow t=>K (.ow t) ((s,.tv t)::O)|.tv t=>K (.tv t) O|_=>False
 |.Aa8 n=>K (.ow (.list n [])) O|.zt x k=>match x.ev O with
  |.tv (.pt row)=>K (.tv (.pt (row.drop k))) O|.bp s off=>match O.get s with
   |.bx _=>K (.bp s (off+k)) O|_=>False
  |_=>False
 |.bad s k=>match O.get s with
  |.bx _=>K (.bp s k) O|.tv (.pt row)=>K (.tv (.pt (row.drop k))) O|_=>False
 |.iad x i n=>match x.val O,i.val O with
  |some (.list m es),Y (.int _ j)=>m=n/\0<=j/\∃e,es[j.toNat]?=Y e/\K (.tv (.pt e.cells)) O|_,_=>False
 |.aad x i n k=>match x.ev O,i.val O with
  |.tv (.pt row),Y (.int _ j)=>0<=j/\j<k/\k*n<=row.length/\K (.tv (.pt (row.drop (j.toNat*n)))) O|_,_=>False
 |.ld x=>Ai (A7 O (x.ev O)) λcs=>Ai (E4 cs) λt=>t.Aai=T/\K (.tv t) O|.lda x n=>Ai (A7 O (x.ev O)) λcs=>n<=cs.length/\K (.tv (.agg (cs.take n))) O|.ldb s n=>match O.get s with
  |.bx cs=>n<=(cs.map (·.t)).length/\K (.tv (.agg ((cs.map (·.t)).take n))) O|_=>False
 |.ldt x=>match x.place O with
  |some (s,off)=>match O.get s with
   |.bx cs=>match cs[off]? with
    |some ⟨X,.list n es⟩=>K (.ow (.list n es)) ((s,.bx (cs.set off ⟨T,.list n es⟩))::O)|_=>False
   |_=>False
  |none=>False
 |.bin k op x y=>match x.val O,y.val O with
  |some a,Y b=>Ai (Ll k op a b) λt=>K (.tv t) O|_,_=>False
 |.not x=>match x.val O with
  |some (.bool b)=>K (.tv (.bool !b)) O|_=>False
 |.neg x=>match x.val O with
  |some (.int k n)=>K (.tv (.int k (k.wrap (-n)))) O|_=>False
 |.pick c a b=>match c.val O with
  |some (.bool q)=>match(if q then a else b).ev O with
   |.tv t=>K (.tv t) O|.ow t=>K (.tv t) O|_=>False
  |_=>False
 |.len x=>match x.val O with
  |some (.list _ es)=>K (.tv (.int .i64 es.length)) O|_=>False
 |.Abk x=>match x.val O with
  |some (.str s)=>K (.tv (.int .i64 s.size)) O|_=>False
 |.slc n x lo hi=>match x.val O with
  |some (.list m es)=>match G6 O 0 lo,G6 O es.length hi with
   |some (.int _ l),Y (.int _ h)=>(m=n/\0<=l/\l<=h)/\h<=es.length/\K (.tv (.list n ((es.take h.toNat).drop l.toNat))) O|_,_=>False
  |_=>False
 |.Aag x lo hi=>match x.val O with
  |some (.str s)=>match G6 O 0 lo,G6 O s.size hi with
   |some (.int _ l),Y (.int _ h)=>0<=l/\l<=h/\h<=s.size/\K (.tv (.str (s.extract l.toNat h.toNat))) O|_,_=>False
  |_=>False
 |.bld zero parts=>Ai (EX O parts) λts=>Ai (Eb zero ts) λcs=>K (.tv (.agg cs)) O|.lst n parts=>Ai (vals O parts) λts=>(∀t∈ts,t.cells.length=n)/\K (.ow (.list n ts)) O|.app n x y=>match x.ev O,y.val O with
  |.ow (.list m es),Y (.list m' fs)=>m=n/\m'=n/\es.length+fs.length<=AY/\
    K (.ow (.list n (es++fs))) (match x with|.s s=>(s,.tv (.list n es))::O|_=>O)
  |_,_=>False
 |.call f args=>Ai (vals O args) λts=>∃r,(S f ts r/\r.plain=X)/\(r.WF->K r.ev O)|.AaZ x args=>match x.val O,vals O args with
  |some (.z5 f caps),Y ts=>∃r,(S f (ts++caps) r/\r.plain=X)/\(r.WF->K r.ev O)|_,_=>False
 |.z5 f caps=>Ai (vals O caps) λts=>K (.tv (.z5 f ts)) O|.ext x i=>match x.ev O with
  |.tp ts=>Ai ts[i]? λt=>K (.tv t) O|_=>False
 |.cvt k x=>match x.val O with
  |some (.int _ n)=>K (.tv (.int k (k.wrap n))) O|_=>False
 |.Aac x i=>match x.val O,i.val O with
  |some (.str s),Y (.int _ j)=>0<=j/\∃b,s[j.toNat]?=Y b/\K (.tv (.int .u8 b.toNat)) O|_,_=>False
 |.Aa3 x=>match x.val O with
  |some t=>K (.tv (.pt t.cells)) O|_=>False
 |.Abd x=>match x.val O,dst with
  |some t,Y d=>O.ew d=X/\K (.bx (t.cells.map (⟨T,·⟩))) O|_,_=>False
 |.mm mx x y=>match x.val O,y.val O with
  |some (.int k a),Y (.int k' b)=>k=k'/\K (.tv (.int k (if mx then max a b else min a b))) O|_,_=>False
 |.alc cs=>match dst with
  |some d=>O.ew d=X/\K (.bx cs) O|none=>False
 |.st n x v=>match x.place O with
  |some (s,off)=>match O.get s with
   |.bx cs=>match v.ev O with
    |.ow t=>match v with
     |.s q=>q≠s/\n=1/\off<cs.length/\K .undef ((s,.bx (cs.set off ⟨X,t⟩))::(q,.tv t)::O)|_=>False
    |.tv t=>t.cells.length=n/\off+n<=cs.length/\K .undef ((s,.bx (cs.take off++t.cells.map (⟨T,·⟩)++cs.drop (off+n)))::O)|_=>False
   |_=>False
  |none=>False
 |.stb n s v=>match O.get s with
  |.bx cs=>match v.ev O with
   |.ow t=>match v with
    |.s q=>q≠s/\n=1/\0<cs.length/\K .undef ((s,.bx (cs.set 0 ⟨X,t⟩))::(q,.tv t)::O)|_=>False
   |.tv t=>t.cells.length=n/\0+n<=cs.length/\K .undef ((s,.bx (cs.take 0++t.cells.map (⟨T,·⟩)++cs.drop (0+n)))::O)|_=>False
  |_=>False
 |.frz s=>match O.get s with
  |.bx cs=>K .undef ((s,.tv (.pt (cs.map (·.t))))::O)|_=>False
 |.Abe x k n agg=>match x.val O with
  |some (.agg cs)=>k+n<=cs.length/\(if agg then K (.tv (.agg ((cs.drop k).take n))) O else Ai (E4 (cs.drop k)) λt=>K (.tv t) O)|_=>False
 |.xal s=>match O.get s with
  |.xo _ _=>K (.la s W) O|_=>False
 |.Abc x=>Ai (x.pq O) λp=>K (.tv (.int .i64 p.2.2.length)) O|.xia x i n=>Ai (x.pq O) λp=>match i.val O with
  |some (.int _ j)=>((x.ev O).n8=Y p.1.1/\p.2.1=n)/\0<=j/\j<p.2.2.length/\K (.lp p.1.1 p.1.2 (j.toNat*n)) O|_=>False
 |.xfa x k=>match x.ev O with
  |.lp q i c=>match O.ln q i with
   |some _=>K (.lp q i (c+k)) O|none=>False
  |_=>False
 |.xin x i n=>match x.ev O,i.val O with
  |.la q W,Y (.int _ j)=>match O.get q with
   |.xo m es=>m=n/\0<=j/\j<es.length/\K (.lp q W (j.toNat*n)) O|_=>False
  |_,_=>False
 |.xln x=>match x.ev O with
  |.lp q W c=>match O.get q with
   |.xo _ es=>Ai (es.flatMap TV.cells)[c]? λt=>K (.tv t) O|_=>False
  |_=>False
 |.xld x=>match x.ev O with
  |.lp q i c=>match O.ln q i with
   |some p=>Ai (p.2.flatMap TV.cells)[c]? λt=>K (.tv t) O|none=>False
  |_=>False
 |.xst x v k=>match x.ev O with
  |.lp q i c=>match O.ln q i,v.ev O with
   |some (n,es),.tv t=>(t.cells.length=k/\0<k)/\c+k<=es.length*n/\∃es',es'.flatMap TV.cells=(es.flatMap TV.cells).take c++t.cells++(es.flatMap TV.cells).drop (c+k)/\es'.length=es.length/\(∀e∈es',e.cells.length=n)/\K .undef (O.sc q i n es')|_,_=>False
  |_=>False
 |.rel s=>match dst,O.get s with
  |some d,.xo n es=>d≠s/\K (.ow (.list n es)) ((s,.undef)::O)|_,_=>False
 |.AaY n=>match dst with
  |some d=>O.ew d=X/\K (.xo n []) O|none=>False
 |.tkx s=>match dst,O.get s with
  |some d,.xo n es=>O.ew d=X/\d≠s/\K (.xo n es) ((s,.undef)::O)|_,_=>False
 |.AaN n s y=>match dst,O.get s,y.val O with
  |some d,.xo m es,Y (.list m' fs)=>m=n/\m'=n/\es.length+fs.length<=AY/\O.ew d=X/\d≠s/\K (.xo n (es++fs)) ((s,.undef)::O)|_,_,_=>False
 |.Aal f args=>match dst with
  |some d=>O.ew d=X/\Ai (vals O args) λts=>∃n es,(S f ts (.AaO n es)\/(S f ts (.own (.list n es))/\TV.q0 es=X))/\((TV.list n es).WF->K (.xo n es) O)|none=>False
 |.mkx n zero x=>match dst,x.val O with
  |some d,Y (.int _ j)=>O.ew d=X/\0<=j/\j<=4096/\K (.xo n (List.replicate j.toNat (match zero with|[t]=>t|ts=>.agg ts))) O
  |_,_=>False
 |.mko n zero x=>match dst,x.val O with
  |some d,Y (.int _ j)=>O.ew d=X/\0<=j/\j<=4096/\K (.ow (.list n (List.replicate j.toNat (match zero with|[t]=>t|ts=>.agg ts)))) O
  |_,_=>False
 |.tl gs=>match dst with
  |some d=>((gs.filterMap GC.src).Nodup/\d∉gs.filterMap GC.slot)/\Ai (FT O gs) λcs=>K (.vS cs) (Np O (gs.filterMap GC.slot) O)|none=>False
 |.stx n s q=>match O.get s,O.get q with
  |.bx cs,.vS ds=>q≠s/\(ds.length=n/\((ds.all λc=>!c.t.Aai)||O.noX s W)=X)/\0+n<=cs.length/\K .undef ((s,.bx (cs.take 0++ds++cs.drop (0+n)))::(q,.undef)::O)|_,_=>False
 |.AaM f args=>Ai (up O args) λts=>∃cs,(S f ts (.vS cs)/\(vals O args=Y ts\/cs.all AQ.Aab=X))/\((∀c∈cs,c.t.WF)->K (.vS cs) O)|.Aae f args=>Ai (vals O args) λts=>∃cs,S f ts (.vS cs)/\(∀c∈cs,c.Xable)/\((∀c∈cs,c.t.WF)->K (.vS (cs.map AQ.toX)) O)|.fdv x k=>match x.val O with
  |some (.pt row)=>K (.tv (.pt (row.drop k))) O|_=>False
 |.ldv x n=>match x.val O with
  |some (.pt row)=>n<=row.length/\K (.tv (.agg (row.take n))) O|_=>False
 |.isn x=>match x.val O with
  |some (.list _ es)=>∀b:Bool,(b=X->es=[])->K (.tv (.bool b)) O|some .nil=>K (.tv (.bool X)) O|_=>False
 |.Aaj f x ys=>Ai (x.pq O) λp=>p.2.1=1/\Ai (vals O ys) λts=>∃(zs zs':Fp)(us:Fq),p.2.2=zs.map (TV.int .i64)/\S f (.list 1 p.2.2::ts) (.turn zs' us)/\((At.turn zs' us).WF->K (EV.ofs us) (O.sc p.1.1 p.1.2 1 (zs'.map (TV.int .i64))))|.AaE f x=>match dst with
  |some d=>Ai (x.pq O) λp=>(p.1.1≠d/\p.1.2=W)/\p.2.1=1/\O.ew d=X/\∃zs zs':Fp,p.2.2=zs.map (TV.int .i64)/\S f [.list 1 p.2.2] (.cut zs')/\((TV.list 1 (zs'.map (TV.int .i64))).WF->K (.xo 1 (zs'.map (TV.int .i64))) ((p.1.1,.undef)::O))|none=>False
 |.lac x=>match x.ev O with
  |.bp s off=>match O.ln s (Y off)with
   |some _=>K (.la s (Y off)) O|none=>False
  |_=>False
 |.ctk x=>match dst,x.place O with
  |some d,Y (s,off)=>match O.get s with
   |.bx cs=>match cs[off]? with
    |some ⟨X,.xl n es⟩=>O.ew d=X/\K (.xo n es) ((s,.bx (cs.set off ⟨T,.undef⟩))::O)|some ⟨X,.xn es⟩=>O.ew d=X/\K (.xn es) ((s,.bx (cs.set off ⟨T,.undef⟩))::O)|_=>False
   |_=>False
  |_,_=>False
 |.cpt x q=>match x.place O,O.get q with
  |some (s,off),.xo n es=>match O.get s with
   |.bx cs=>O.noX s (Y off)=X/\off<cs.length/\K .undef ((s,.bx (cs.set off ⟨X,.xl n es⟩))::(q,.undef)::O)|_=>False
  |some (s,off),.xn es=>match O.get s with
   |.bx cs=>O.noX s (Y off)=X/\off<cs.length/\K .undef ((s,.bx (cs.set off ⟨X,.xn es⟩))::(q,.undef)::O)|_=>False
  |_,_=>False
 |.cut n s hi=>match dst,O.get s,hi.val O with
  |some d,.xo m es,Y (.int _ h)=>(m=n/\O.ew d=X/\d≠s)/\0<=h/\h<=es.length/\K (.xo n (es.take h.toNat)) ((s,.undef)::O)|_,_,_=>False
 |.AaX n s z x=>match dst,O.get s,x.val O with
  |some d,.xo m es,Y (.int _ j)=>((m=n/\n=1)/\z.cells=[z])/\(0<=j/\j<=4096)/\(es.length+j.toNat<=AY/\O.ew d=X/\d≠s)/\K (.xo n (es++List.replicate j.toNat z)) ((s,.undef)::O)|_,_,_=>False
 |.Aat f args=>Ai (up O args) λts=>∃r,(S f ts r/\r.Aab=X)/\(r.WF->K r.ev O)|.AaL f args=>Ai (vals O args) λts=>∃us,S f ts (.ext us)/\K (.tp us) O|.Aa7 ps x=>match x.val O,dst with
  |some t,Y d=>Ai (EM ps t.cells) λcs=>O.ew d=X/\K (.bx cs) O|_,_=>False
 |.AaV n=>match dst with
  |some d=>O.ew d=X/\K (.xo n []) O|none=>False
 |.wi f args i=>match dst,(args[i]?).bind (·.place O)with
  |some d,Y (s,0)=>match O.get s with
   |.bx cs=>(O.noX s W=X/\d≠s)/\Ai (FE O i args) λts=>∃cs' us,S f ts (.bo cs cs' i us)/\((∀c∈cs',c.t.WF)/\TV.k7 us->K (EV.ofs us) ((s,.bx cs')::O))|_=>False
  |_,_=>False
 |.Aa4 q=>match dst,O.get q with
  |some d,.xo n fs=>(O.ew d=X/\d≠q)/\K (.x1 n fs) ((q,.undef)::O)|_,_=>False
 |.Aar m q=>match dst,O.get m,O.get q with
  |some d,.nh s off .hd,.x1 n fs=>match O.get s with
   |.bx cs=>Ai (O.nat s off) λes=>es.length+1<=AY/\(O.ew d=X/\d≠m/\d≠q/\m≠q)/\K (.xn (es++[.list n fs])) ((s,.bx (cs.set off ⟨T,.undef⟩))::(m,.undef)::(q,.undef)::O)|_=>False
  |_,_,_=>False
 |.lan x=>match x.ev O with
  |.bp s off=>Ai (O.nat s off) λ_=>K (.nh s off .hd) O|_=>False
 |.nia x i=>match x.ev O,i.val O with
  |.nh s off .hd,Y (.int _ j)=>Ai (O.nat s off) λes=>0<=j/\j<es.length/\K (.nh s off (.el j.toNat)) O|.nh s off (.rw r),Y (.int _ j)=>Ai (O.nat s off) λes=>0<=j/\∃fs,es[r]?=Y (.list 1 fs)/\j<fs.length/\K (.nh s off (.rp r j.toNat)) O|_,_=>False
 |.nld x=>match x.ev O with
  |.nh s off (.el r)=>Ai (O.nat s off) λes=>r<es.length/\K (.nh s off (.rw r)) O|_=>False
 |.nst x v=>match x.ev O,v.ev O with
  |.nh s off (.rp r c),.tv t=>Ai (O.nat s off) λes=>∃fs,es[r]?=Y (.list 1 fs)/\c<fs.length/\t.cells=[t]/\t.flat=X/\K .undef (O.Abv s off (es.set r (.list 1 (fs.set c t))))|_,_=>False
 |.Abi q=>match dst,O.get q with
  |some d,.vS cs=>(O.ew d=X/\d≠q)/\K (.bx cs) ((q,.undef)::O)|_,_=>False
 |.Aas f args i=>match dst,args[i]? with
  |some d,Y (.s q)=>match O.get q with
   |.vS cs=>d≠q/\Ai (FE O i args) λts=>∃r,S f (ts.set i (.agg (cs.map λ_=>.undef))) (.ag cs i r)/\(r.WF->K r.aev ((q,.undef)::O))|_=>False
  |_,_=>False
 |.ldg s n=>match dst,O.get s with
  |some d,.bx cs=>cs.length=n/\d≠s/\K (.vS cs) ((s,.bx (cs.map λ_=>⟨T,.undef⟩))::O)|_,_=>False
 |.stq n ps x v=>match x.place O,v.val O with
  |some (s,off),Y t=>match O.get s with
   |.bx cs=>Ai (EM ps t.cells) λds=>t.cells.length=n/\off+n<=cs.length/\O.noX s W=X/\K .undef ((s,.bx (cs.take off++ds++cs.drop (off+n)))::O)|_=>False
  |_,_=>False
 |.mkm=>∀b,K (.mx (.mp b [])) O|.mvm s=>match O.get s with
  |.mx (.mp b _)=>K (.tv (.Aau b)) O|.mx (.tm b _ ts)=>K (.tp (.Aau b::ts)) O|.tp ts=>K (.tp ts) O|_=>False
 |.Aan f args=>Ai (vals O args) λts=>(∃us,S f ts (.tp us)/\(TV.k7 us->K (.tp us) O))\/∃kvs us,S f ts (.mpr kvs us)/\(BZ.WF kvs/\TV.k7 us->∀b,K (.mx (.tm b kvs us)) O)|.mlk s m x=>match O.get s,m.val O,x.val O with
  |.mx (.mp b kvs),Y (.Aau b'),Y t=>b=b'/\Ai t.Abt? λk=>K (.tp [.int .i64 ((kvs.look k).getD 0),.bool (kvs.look k).isSome]) O|_,_,_=>False
 |.mup s m x v=>match O.get s,m.val O,x.val O with
  |.mx (.mp b kvs),Y (.Aau b'),Y t=>match v.val O with
   |some (.int .i64 n)=>b=b'/\Ai t.Abt? λk=>K .undef ((s,.mx (.mp b (kvs.set k n)))::O)|_=>False
  |_,_,_=>False
 |.pc s m=>match dst,O.get s,m.val O with
  |some d,.mx (.tm b kvs _),Y (.Aau b')=>(d≠s/\b=b')/\K (.mx (.mi W kvs)) ((s,.undef)::O)|_,_,_=>False
 |.mnx s=>match dst,O.get s with
  |some d,.mx (.mi _ todo)=>d≠s/\(todo=[]->K (.tp [.bool T]) O)/\∀p todo',todo.Perm (p::todo')->K (.tp [.bool X,SK p.1,.int .i64 p.2]) ((s,.mx (.mi (Y p) todo'))::O)|_,_=>False
 |.men s=>match O.get s with
  |.mx (.mi (Y p) _)=>K (.tp [SK p.1,.int .i64 p.2]) O|_=>False
def AB.put(O:AB)(dst:Option Nat)(e:EV):AB:=
 match dst with
 |some d=>(d,e)::O|none=>O
def PR.wp(O:AB)(K:AB->Prop)(o:PR):Prop:=
 match o.guard with
 |none=>o.op.wp S O o.dst λe env'=>K (env'.put o.dst e)|some (g,b)=>match O.get g with
  |.tv (.bool q)=>(q=b->o.op.wp S O o.dst λe env'=>K (env'.put o.dst e))/\(q=!b->K (O.put o.dst .sk))|.sk=>K (O.put o.dst .sk)|_=>False
def wpOps(K:AB->Prop):List PR->AB->Prop
 |[],O=>K O|o::os,O=>o.wp S O λenv'=>wpOps K os env'
structure Q where
 normal:AB->Prop
 exit:Nat->AB->Prop
 ret:AB->Prop
def PC.wp:PC->Q->AB->Prop
 |.skip live,q,O=>q.normal (O.em live)|.ret,q,O=>q.ret O|.exit id live,q,O=>q.exit id (O.em live)|.seq a b,q,O=>a.wp {q with normal:=λe=>(∀s,(e.get s).WF)->b.wp q e} O
 |.cond c a b,q,O=>match c.val O with
  |some (.bool x)=>(x=X->a.wp q O)/\(x=T->b.wp q O)|_=>False
 |.block id c,q,O=>c.wp {q with exit:=λi e=>if i=id then q.normal e else q.exit i e} O
 |.loop live c,q,O=>∀ζ:AB->Prop,(∀e,((∀s,(e.get s).WF)->c.wp {q with normal:=λe'=>ζ (e'.em live)} e)->ζ e)->ζ (O.em live)
 |.region ops live,q,O=>wpOps S (λe=>q.normal (e.em live)) ops O|.draw D ops live,q,O=>SY O D=X/\wpOps S (λe=>q.normal (e.em live)) ops O|.bad,_,_=>False|.rls s c,q,O=>match O.get s with
  |.bx cs=>c.wp q ((s,.bx (cs.map AQ.rel))::O)|_=>False
end
inductive RV where
 |tmp (s:Nat)
 |cell (s:Nat) (agg:Option Nat)
def RV.get(O:AB):RV->Option TV
 |.tmp s=>(O.get s).val|.cell s W=>match A7 O (O.get s)with
  |some (t::_)=>Y t|_=>W
 |.cell s (Y n)=>match A7 O (O.get s)with
  |some cs=>if cs.length=n then Y (.agg cs)else W|none=>W
def EH(O:AB):List RV->Option Fq
 |[]=>Y []|x::xs=>match x.get O,EH O xs with
  |some t,Y ts=>Y (t::ts)|_,_=>W
def BU(rs:List RV)(r:At)(O:AB):Prop:=
 match r,rs with
 |.own t,[.tmp s]=>O.get s=.ow t|.own _,_=>False|.sh t,[x]=>x.get O=Y t|.sh _,_=>False|.tp ts,rs=>rs.length≠1/\EH O rs=Y ts|.turn zs us,rs=>O.get 0=.xo 1 (zs.map (TV.int .i64))/\EH O rs=Y us|.cut _,_=>False|.AaO n es,[.tmp s]=>O.get s=.xo n es|.AaO _ _,_=>False|.vS cs,[.cell s (Y n)]=>O.get s=.bx cs/\cs.length=n|.vS _,_=>False|.bo _ cs' i ts,rs=>O.get i=.bx cs'/\EH O rs=Y ts|.ext _,_=>False|.ag _ _ r,rs=>BU rs r O|.mpr kvs ts,.tmp s::rs=>rs≠[]/\(∃b o,O.get s=.tv (.Aau b)/\O.get o=.mx (.mp b kvs))/\EH O rs=Y ts|.mpr _ _,_=>False
end Go.Sf
namespace Go.Sf
def Be(w w':World)(F F':Nat->Nat->Prop):Prop:=
 ∀b o v,w.cell? ⟨b,o,W⟩=Y v->¬F b o->w'.cell? ⟨b,o,W⟩=Y v/\¬F' b o
section
variable{w w':World}{F F':Nat->Nat->Prop}
mutual
theorem B8(h:Be w w' F F'):∀(t:TV)(v:Value),Ap w F t v->Ap w' F' t v
 |.undef,_,a=>a|.int _ _,_,a=>a|.bool _,_,a=>a|.str _,_,a=>a|.nil,_,a=>a|.list n es,v,a=>by
  have:=Tm h n es
  grind [Ap]
 |.agg cs,v,a=>by
  have:=As h cs
  grind [Ap]
 |.pt row,v,a=>by
  have:=PS h row
  grind [Ap]
 |.z5 f c,v,a=>by
  have:=As h c
  grind [Ap]
 |.xl _ _,_,a=>a|.xn _,_,a=>a|.Aau _,_,a=>a
theorem As(h:Be w w' F F'):∀(ts:Fq)(vs:List Value),AT w F ts vs->AT w' F' ts vs
 |[],_,a=>a|t::ts,vs,a=>by
  simp [AT]at a|-;obtain⟨v,r,c,d,e⟩:=a;exact⟨v,r,c,B8 h t v d,As h ts r e⟩
theorem PS(h:Be w w' F F'):∀(ts:Fq)(b o:Nat),DD w F ts b o->DD w' F' ts b o
 |[],_,_,_=>trivial|t::ts,b,o,d=>by
  simp [DD]at d|-;obtain⟨⟨v,a,c,e,f⟩,g⟩:=d;exact⟨⟨v,(h b o v a c).1,(h b o v a c).2,e,B8 h t v f⟩,PS h ts b (o+1) g⟩
theorem Tm(h:Be w w' F F')(n:Nat):∀(ts:Fq)(b o:Nat),II w F n ts b o->II w' F' n ts b o
 |[],_,_,_=>trivial|t::ts,b,o,a=>by
  simp [II]at a|-;exact⟨jk h t b o a.1,a.2.1,Tm h n ts b (o+n) a.2.2⟩
theorem jk(h:Be w w' F F'):∀(t:TV)(b o:Nat),IH w F t b o->IH w' F' t b o
 |.agg cs,b,o,c=>PS h cs b o c|.undef,b,o,c=>by
  simp [IH]at c|-;obtain⟨v,d,e,g⟩:=c;exact⟨v,(h b o v d e).1,(h b o v d e).2,g⟩
 |.int _ _,b,o,c=>by
  simp [IH]at c|-;obtain⟨v,d,e,g⟩:=c;exact⟨v,(h b o v d e).1,(h b o v d e).2,g⟩
 |.bool _,b,o,c=>by
  simp [IH]at c|-;obtain⟨v,d,e,g⟩:=c;exact⟨v,(h b o v d e).1,(h b o v d e).2,g⟩
 |.str _,b,o,c=>by
  simp [IH]at c|-;obtain⟨v,d,e,g⟩:=c;exact⟨v,(h b o v d e).1,(h b o v d e).2,g⟩
 |.nil,b,o,c=>by
  simp [IH]at c|-;obtain⟨v,d,e,g⟩:=c;exact⟨v,(h b o v d e).1,(h b o v d e).2,g⟩
 |.list n es,b,o,c=>by
  simp [IH]at c|-;obtain⟨v,d,e,j,a,cap,g,q,k,p⟩:=c;exact⟨v,(h b o v d e).1,(h b o v d e).2,j,a,cap,g,q,k,λm i=>⟨(p m i).1,Tm h n es _ _ (p m i).2⟩⟩
 |.pt row,b,o,c=>by
  simp [IH]at c|-;obtain⟨v,d,e,j,r,s,g,k⟩:=c;exact⟨v,(h b o v d e).1,(h b o v d e).2,j,r,s,g,PS h row _ _ k⟩
 |.z5 f l,b,o,c=>by
  simp [IH]at c|-;obtain⟨v,d,e,j,vs,g,k⟩:=c;exact⟨v,(h b o v d e).1,(h b o v d e).2,j,vs,g,As h l _ k⟩
 |.xl _ _,b,o,c=>by
  simp [IH]at c|-;obtain⟨v,d,e,g⟩:=c;exact⟨v,(h b o v d e).1,(h b o v d e).2,g⟩
 |.xn _,b,o,c=>by
  simp [IH]at c|-;obtain⟨v,d,e,g⟩:=c;exact⟨v,(h b o v d e).1,(h b o v d e).2,g⟩
 |.Aau _,b,o,c=>by
  simp [IH]at c|-;obtain⟨v,d,e,g⟩:=c;exact⟨v,(h b o v d e).1,(h b o v d e).2,g⟩
end
end
section
variable{w:World}{F:Nat->Nat->Prop}
theorem Im:∀(ts:Fq)(b o:Nat),DD w F ts b o↔∀i t,ts[i]?=Y t->∃v,w.cell? ⟨b,o+i,W⟩=Y v/\¬F b (o+i)/\v.oneCell'=X/\Ap w F t v
 |[],_,_=>by simp[DD]|t::ts,b,o=>by
  simp [DD,Im ts b (o+1)];constructor
  .grind
  .intro h;refine⟨by simpa using h 0 t rfl,λi u hi=>?_⟩;have:=h (i+1) u k!
   grind
variable{ts:Fq}{b o:Nat}
theorem PQ(h:DD w F ts b o)(k:Nat):DD w F (ts.drop k) b (o+k):=by
 rw [Im]at h|-
 grind
theorem ex(h:DD w F ts b o)(k:Nat):DD w F (ts.take k) b o:=by
 rw [Im]at h|-
 grind
variable{n:Nat}
theorem Qe{e:TV}{es:Fq}:II w F n (e::es) b o↔DD w F e.cells b o/\e.cells.length=n/\II w F n es b (o+n):=by grind[II,ji]
theorem R3(n:Nat):∀(es:Fq)(b o:Nat),II w F n es b o↔∀i e,es[i]?=Y e->DD w F e.cells b (o+i*n)/\e.cells.length=n
 |[],_,_=>by simp[II]|e::es,b,o=>by
  rw [Qe,R3 n es b (o+n)];constructor
  .rintro⟨c,d,f⟩ i u hi;cases i with
   |zero=>simp at hi;subst hi;simpa using⟨c,d⟩|succ i=>
    grind
  .intro h;have a:=h 0 e rfl;simp at a;refine⟨a.1,a.2,λi u hi=>?_⟩;have:=h (i+1) u k!
   grind
theorem Bf:∀(ts:Fq)(vs:List Value),AT w F ts vs↔vs.length=ts.length/\∀(i:Nat)(t:TV)(v:Value),ts[i]?=Y t->vs[i]?=Y v->Ap w F t v
 |[],vs=>by simp[AT]|t::ts,vs=>by
  simp [AT];constructor
  .rintro⟨v,r,rfl,c,a⟩;rw[Bf ts r]at a
   grind
  .rintro⟨c,a⟩;cases vs with
   |nil=>simp at c|cons v r=>exact⟨v,r,rfl,a 0 t v rfl rfl,(Bf ts r).2 ⟨by simpa using c,λi u x hi d=>a (i+1) u x k! b?⟩⟩
theorem ID{ts a:Fq}{vs xs:List Value}(c:AT w F ts vs)(d:AT w F a xs):AT w F (ts++a) (vs++xs):=by
 induction ts generalizing vs with
 |nil=>simp[AT]at c;subst c;simpa using d|cons t ts e=>
  grind [AT]
theorem GZ{t:TV}{v:Value}(h:Ap w F t v):AT w F t.cells v.cells.toList/\∀x∈v.cells.toList,x.oneCell'=X:=by
 have one:∀{v:Value}{t:TV},v.cells=#[v]->v.oneCell'=X->Ap w F t v->t.cells=[t]->AT w F t.cells v.cells.toList/\∀x∈v.cells.toList,x.oneCell'=X:=by
  intro v t j d e l;rw[j,l];exact⟨⟨v,[],rfl,e,rfl⟩,b?⟩
 cases t with
 |agg cs=>simp only[Ap]at h;obtain⟨vs,rfl,d,e⟩:=h;exact⟨d,λx i=>List.all_eq_true.1 e x i⟩
 |undef=>have c:=h;simp[Ap]at h;cases v<;>first|exact one rfl rfl c rfl|(simp[Value.oneCell']at h)
 |xl n es=>have c:=h;simp[Ap]at h;cases v<;>first|exact one rfl rfl c rfl|(simp[Value.oneCell']at h)
 |xn es=>have c:=h;simp[Ap]at h;cases v<;>first|exact one rfl rfl c rfl|(simp[Value.oneCell']at h)
 |int k n=>have c:=h;simp[Ap]at h;subst h;exact one rfl rfl c rfl|bool b=>have c:=h;simp[Ap]at h;subst h;exact one rfl rfl c rfl|Aau b=>have c:=h;simp[Ap]at h;subst h;exact one rfl rfl c rfl|str s=>have c:=h;simp[Ap]at h;subst h;exact one rfl rfl c rfl|nil=>have c:=h;simp[Ap]at h;subst h;exact one rfl rfl c rfl|list n es=>have c:=h;simp[Ap]at h;obtain⟨a,cap,rfl,_⟩:=h;exact one rfl rfl c rfl
 |pt row=>have c:=h;simp[Ap]at h;obtain⟨b,o,rfl,_⟩:=h;exact one rfl rfl c rfl
 |z5 f g=>have c:=h;simp[Ap]at h;obtain⟨vs,rfl,_⟩:=h;exact one rfl rfl c rfl
end
end Go.Sf
namespace Go.Sf
section
variable(S:FuncId->Fq->At->Prop)
theorem wp_skip(l:I2)(q:Q)(O:AB):PC.wp S (.skip l) q O=q.normal (O.em l):=rfl
theorem wp_ret(q:Q)(O:AB):PC.wp S .ret q O=q.ret O:=rfl
theorem wp_exit(id:Nat)(l:I2)(q:Q)(O:AB):PC.wp S (.exit id l) q O=q.exit id (O.em l):=rfl
theorem wp_seq(a b:PC)(q:Q)(O:AB):PC.wp S (.seq a b) q O=a.wp S {q with normal:=λe=>(∀s,(e.get s).WF)->b.wp S q e} O:=rfl
theorem wp_block(id:Nat)(c:PC)(q:Q)(O:AB):PC.wp S (.block id c) q O=c.wp S {q with exit:=λi e=>if i=id then q.normal e else q.exit i e} O:=rfl
theorem wp_region(ops:List PR)(a:I2)(q:Q)(O:AB):PC.wp S (.region ops a) q O=wpOps S (λe=>q.normal (e.em a)) ops O:=rfl
theorem Bb{α:Type}{o:Option α}{K K':α->Prop}(h:∀a,K a->K' a):Ai o K->Ai o K':=by
 cases o<;>simp[Ai];exact h _
theorem AE.gF(O:AB)(dst:Option Nat){K K':EV->AB->Prop}(h:∀e env',K e env'->K' e env')(op:AE)(d:op.wp S O dst K):op.wp S O dst K':=by
 cases op<;>simp only[AE.wp]at d|-
 case ld=>exact Bb (λ_=>Bb (λ_ g=>⟨g.1,h _ _ g.2⟩)) d
 case lda=>exact Bb (λ_ g=>⟨g.1,h _ _ g.2⟩) d
 case bld=>exact Bb (λ_=>Bb (λ_=>h _ _)) d
 case lst=>exact Bb (λ_ g=>⟨g.1,h _ _ g.2⟩) d
 case call=>exact Bb (λ_⟨r,i,f⟩=>⟨r,i,λj=>h _ _ (f j)⟩) d
 case z5=>exact Bb (λ_=>h _ _) d
 case mm=>split at d<;>first|exact d.elim|exact⟨d.1,h _ _ d.2⟩
 case Abe x k n agg=>
  split at d
  .refine⟨d.1,?_⟩;have f:=d.2;cases agg
   .exact Bb (λ_=>h _ _) f
   .exact h _ _ f
  .exact d.elim
 case Abc=>exact Bb (λ_=>h _ _) d
 case xia=>exact Bb (λp u=>by
  split at u
  .exact⟨u.1,u.2.1,u.2.2.1,h _ _ u.2.2.2⟩
  .exact u.elim) d
 case xst=>
  split at d
  .split at d
   .obtain⟨i,f,es',l,q,v,D⟩:=d;exact⟨i,f,es',l,q,v,h _ _ D⟩
   .exact d.elim
  .exact d.elim
 case AaV=>split at d<;>first|exact d.elim|exact⟨d.1,h _ _ d.2⟩
 case AaY=>split at d<;>first|exact d.elim|exact⟨d.1,h _ _ d.2⟩
 case tkx=>split at d<;>first|exact d.elim|exact⟨d.1,d.2.1,h _ _ d.2.2⟩
 case AaN=>split at d<;>first|exact d.elim|exact⟨d.1,d.2.1,d.2.2.1,d.2.2.2.1,d.2.2.2.2.1,h _ _ d.2.2.2.2.2⟩
 case Aal=>
  split at d
  .exact⟨d.1,Bb (λts⟨n,es,i,f⟩=>⟨n,es,i,λj=>h _ _ (f j)⟩) d.2⟩
  .exact d.elim
 case tl=>
  split at d
  .exact⟨d.1,Bb (λ_=>h _ _) d.2⟩
  .exact d.elim
 case stx=>split at d<;>first|exact d.elim|exact⟨d.1,d.2.1,d.2.2.1,h _ _ d.2.2.2⟩
 case AaM=>exact Bb (λts⟨cs,i,f⟩=>⟨cs,i,λj=>h _ _ (f j)⟩) d
 case Aae=>exact Bb (λts⟨cs,i,l,f⟩=>⟨cs,i,l,λj=>h _ _ (f j)⟩) d
 case Aat=>exact Bb (λ_⟨r,i,f⟩=>⟨r,i,λj=>h _ _ (f j)⟩) d
 case Aa7=>
  split at d
  .exact Bb (λ_ g=>⟨g.1,h _ _ g.2⟩) d
  .exact d.elim
 case AaL=>exact Bb (λts⟨m,i,f⟩=>⟨m,i,h _ _ f⟩) d
 case AaX=>
  split at d
  .exact⟨d.1,d.2.1,d.2.2.1,h _ _ d.2.2.2⟩
  .exact d.elim
 case wi=>
  split at d
  .split at d
   .exact⟨d.1,Bb (λts⟨cs',m,i,f⟩=>⟨cs',m,i,λj=>h _ _ (f j)⟩) d.2⟩
   .exact d.elim
  .exact d.elim
 case lan=>
  split at d
  .exact Bb (λ_ g=>h _ _ g) d
  .exact d.elim
 case Aar=>
  split at d
  .split at d
   .exact Bb (λ_ g=>⟨g.1,g.2.1,h _ _ g.2.2⟩) d
   .exact d.elim
  .exact d.elim
 case nia=>
  split at d
  .exact Bb (λ_ g=>⟨g.1,g.2.1,h _ _ g.2.2⟩) d
  .exact Bb (λ_⟨i,y,f,l,q⟩=>⟨i,y,f,l,h _ _ q⟩) d
  .exact d.elim
 case nld=>
  split at d
  .exact Bb (λ_ g=>⟨g.1,h _ _ g.2⟩) d
  .exact d.elim
 case nst=>
  split at d
  .exact Bb (λ_⟨y,i,f,l,q,v⟩=>⟨y,i,f,l,q,h _ _ v⟩) d
  .exact d.elim
 case Aas=>
  split at d
  .split at d
   .exact⟨d.1,Bb (λ_⟨r,i,f⟩=>⟨r,i,λj=>h _ _ (f j)⟩) d.2⟩
   .exact d.elim
  .exact d.elim
 case mnx=>
  split at d
  .exact⟨d.1,λe=>h _ _ (d.2.1 e),λp t B=>h _ _ (d.2.2 p t B)⟩
  .exact d.elim
 case men=>split at d<;>first|exact d.elim|exact h _ _ d
 case stq=>
  split at d
  .split at d
   .exact Bb (λ_ g=>⟨g.1,g.2.1,g.2.2.1,h _ _ g.2.2.2⟩) d
   .exact d.elim
  .exact d.elim
 case mkm=>exact λb=>h _ _ (d b)
 case mvm=>split at d<;>first|exact d.elim|exact h _ _ d
 case Aan=>
  refine Bb (λ_ g=>?_) d;rcases g with⟨m,i,f⟩|⟨A,m,i,f⟩
  .exact .inl ⟨m,i,λj=>h _ _ (f j)⟩
  .exact .inr ⟨A,m,i,λj b=>h _ _ (f j b)⟩
 case pc=>split at d<;>first|exact d.elim|exact⟨d.1,h _ _ d.2⟩
 case mlk=>split at d<;>first|exact d.elim|exact⟨d.1,Bb (λ_ g=>h _ _ g) d.2⟩
 case mup=>
  split at d
  .split at d
   .exact⟨d.1,Bb (λ_ g=>h _ _ g) d.2⟩
   .exact d.elim
  .exact d.elim
 case fdv=>split at d<;>first|exact d.elim|exact h _ _ d
 case ldv=>split at d<;>first|exact d.elim|exact⟨d.1,h _ _ d.2⟩
 case isn=>
  split at d
  .exact λb C=>h _ _ (d b C)
  .exact h _ _ d
  .exact d.elim
 case Aaj=>exact Bb (λp⟨i,f⟩=>⟨i,Bb (λts⟨zs,s,m,a,b,c⟩=>⟨zs,s,m,a,b,λj=>h _ _ (c j)⟩) f⟩) d
 case AaE=>
  split at d
  .exact Bb (λp⟨z,i,v,zs,s,f,l,q⟩=>⟨z,i,v,zs,s,f,l,λj=>h _ _ (q j)⟩) d
  .exact d.elim
 all_goals (repeat' split at d)<;>first|exact d.elim|exact h _ _ d|exact⟨d.1,h _ _ d.2⟩|exact⟨d.1,d.2.1,h _ _ d.2.2⟩|exact⟨d.1,d.2.1,d.2.2.1,h _ _ d.2.2.2⟩|exact Bb (λ_=>h _ _) d|(obtain⟨r,i,f⟩:=d;exact⟨r,i,λj=>h _ _ (f j)⟩)|(obtain⟨i,r,f,l⟩:=d;exact⟨i,r,f,h _ _ l⟩)|(obtain⟨z,i,r,f,l⟩:=d;exact⟨z,i,r,f,h _ _ l⟩)
variable{K K':AB->Prop}
theorem PR.gF(O:AB)(h:∀e,K e->K' e)(o:PR)(a:o.wp S O K):o.wp S O K':=by
 unfold PR.wp at a|-;split at a
 .grind[AE.gF]
 grind [AE.gF]
theorem Qq(h:∀e,K e->K' e):∀(os:List PR)(O:AB),wpOps S K os O->wpOps S K' os O
 |[],_,a=>h _ a|o::os,O,a=>PR.gF S O (λe=>Qq h os e) o a
theorem PC.gF:∀(c:PC)(q:Q)(O:AB),c.wp S q O->∀(f:Q),(∀e,q.normal e->f.normal e)->(∀i e,q.exit i e->f.exit i e)->(∀e,q.ret e->f.ret e)->c.wp S f O
 |.skip _,_,_,d,_,h,_,_=>h _ d|.ret,_,_,d,_,_,_,h=>h _ d|.exit _ _,_,_,d,_,_,h,_=>h _ _ d|.seq a b,q,O,d,f,g,j,k=>by
  simp [PC.wp]at d|-;exact PC.gF a _ O d _ (λe he m=>PC.gF b q e (he m) f g j k) j k
 |.cond c a b,q,O,d,f,g,j,k=>by
  simp [PC.wp]at d|-;split at d
  .exact⟨λp=>PC.gF a q O (d.1 p) f g j k,λp=>PC.gF b q O (d.2 p) f g j k⟩
  .exact d.elim
 |.block id c,q,O,d,f,g,j,k=>by
  simp [PC.wp]at d|-;exact PC.gF c _ O d _ g (λi e=>by dsimp only;split<;>first|exact g e|exact j i e) k
 |.loop l c,q,O,d,f,g,j,k=>by
  simp [PC.wp]at d|-;exact λζ hX=>d ζ λe he=>hX e λm=>PC.gF c _ e (he m) _ (λ_ h=>h) j k
 |.region ops l,q,O,d,f,g,_,_=>by
  grind [PC.wp,Qq]
 |.draw _ ops l,q,O,d,f,g,_,_=>by
  grind [PC.wp,Qq]
 |.bad,_,_,d,_,_,_,_=>by
  simp [PC.wp]at d
 |.rls s c,q,O,d,f,g,j,k=>by
  simp [PC.wp]at d|-;split at d
  .exact PC.gF c q _ d f g j k
  .exact d.elim
theorem uA{σ:Type}{a:I2}{c:PC}{q:Q}{O:AB}(I:σ->AB)(ok:σ->Prop)(μ:σ->Nat)(d:σ)(g:O.em a=I d)(e:ok d)
  (step:∀s,ok s->(∀k,((I s).get k).WF)->c.wp S {q with normal:=λf=>∃s',f.em a=I s'/\ok s'/\μ s'<μ s} (I s)):PC.wp S (.loop a c) q O:=by
 intro ζ hX;rw[g];have key:∀n s,μ s=n->ok s->ζ (I s):=by
  intro n
  induction n using Nat.strongRecOn with
  |_ n l=>
   intro s j ho;refine hX _ λi=>?_;refine PC.gF S c _ _ (step s ho i) _ (λf he=>?_) (λ_ _ h=>h) (λ_ h=>h)
   grind
 exact key _ d rfl e
end
end Go.Sf
namespace Go.Sf
def dm:Nat:=0
def UQ(_:World):Prop:=True
theorem UQ.em{w w':World}(_:UQ w)(_:∀b,b<dm->w'.heap[b]?=w.heap[b]?):UQ w':=trivial
theorem UQ.lt{w:World}(_:UQ w):dm<=w.heap.size:=Nat.zero_le _
end Go.Sf
