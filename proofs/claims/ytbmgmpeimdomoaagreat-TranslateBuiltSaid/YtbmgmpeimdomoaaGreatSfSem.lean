/- The pure language: environments, operations, code, and what must hold before a piece of code so that a condition holds behind it. No memory. -/
import Derived.Test.YtbmgmpeimdomoaaGreatSfRep
set_option linter.all false
open Option renaming some->Y,none->W
open Bool renaming true->X,false->T
namespace Go.Sf
def AX:Nat:=8589934592
def KK:Nat:=9223372036854775807
variable{n:Nat}
theorem Uj(h:n<=AX):n<=KK:=by grind[AX,KK]
mutual
def TV.WF:TV->Prop
 |.int k n=>k.min<=n/\n<=k.max|.str s=>s.size<=KK|.list _ es=>es.length<=KK/\TV.ns es|.agg cs=>TV.ns cs|.pt row=>TV.ns row|.clo _ caps=>TV.ns caps|.xl _ es=>es.length<=KK/\TV.ns es|.xn es=>es.length<=KK/\TV.ns es|_=>True
def TV.ns:Fq->Prop
 |[]=>True|t::ts=>TV.WF t/\TV.ns ts
end
structure AO where
 own:Bool
 t:TV
def TV.Aav:TV->Bool
 |.xl _ _=>X|.xn _=>X|_=>T
def AO.key(c:AO):TV×Bool:=(c.t,c.own&&c.t.Aav)
def AO.rel(c:AO):AO:=
 match c with
 |⟨X,.xl n es⟩=>⟨X,.list n es⟩|⟨X,.xn es⟩=>⟨X,.list 1 es⟩|c=>c
def AO.Abm(c:AO):TV:=
 match c with
 |⟨X,.xl n es⟩=>.list n es|c=>c.t
inductive NK where
 |hd
 |el (r:Nat)
 |rw(r:Nat)
 |rp (r c:Nat)
abbrev BW:=List ((Int×Int)×Int)
inductive MX where
 |mp (b:Nat) (kvs:BW)
 |tm (b:Nat) (kvs:BW) (ts:Fq)
 |mi (last:Option ((Int×Int)×Int)) (todo:BW)
def BW.WF(kvs:BW):Prop:=∀p∈kvs,(TV.int .i64 p.1.1).WF/\(TV.int .i64 p.1.2).WF/\(TV.int .i64 p.2).WF
def MX.WF:MX->Prop
 |.mp _ kvs=>BW.WF kvs|.tm _ kvs ts=>BW.WF kvs/\TV.ns ts|.mi last todo=>BW.WF last.toList/\BW.WF todo
def BW.look(k:Int×Int):BW->K1
 |[]=>W|p::r=>if p.1=k then Y p.2 else BW.look k r
def BW.set(k:Int×Int)(n:Int):BW->BW
 |[]=>[(k,n)]|p::r=>if p.1=k then(k,n)::r else p::BW.set k n r
def SL(k:Int×Int):TV:=.agg [.int .i64 k.1,.int .i64 k.2]
def TV.AbN?:TV->Option (Int×Int)
 |.agg [.int .i64 a,.int .i64 b]=>Y (a,b)|_=>W
inductive EV where
 |undef
 |tv (t:TV)
 |ow (t:TV)
 |bx (cs:List AO)
 |bp (s off:Nat)
 |tp (ts:Fq)
 |sk
 |xo (n:Nat) (es:Fq)
 |la (q:Nat) (i:Option Nat)
 |lp (q:Nat) (i:Option Nat) (c:Nat)
 |oag (cs:List AO)
 |xn (es:Fq)
 |x1 (n:Nat) (fs:Fq)
 |nh (q i:Nat) (k:NK)
 |mx (m:MX)
def EV.WF:EV->Prop
 |.tv t=>t.WF|.ow t=>t.WF|.bx cs=>∀c∈cs,c.t.WF|.tp ts=>TV.ns ts|.xo n es=>(TV.list n es).WF|.oag cs=>∀c∈cs,c.t.WF|.xn es=>(TV.list 1 es).WF|.x1 n fs=>(TV.list n fs).WF|.mx m=>m.WF|_=>True
abbrev AB:=List (Nat×EV)
def AB.get:AB->Nat->EV
 |[],_=>.undef|(k,e)::r,n=>if k=n then e else AB.get r n
def AB.ei(ε:AB)(live:I2):AB:=live.map λs=>(s,ε.get s)
def EV.pr:EV->Option Nat
 |.bp s _=>Y s|.la s _=>Y s|.lp s _ _=>Y s|.nh s _ _=>Y s|_=>W
def EV.x8(d:Nat)(e:EV):Bool:=
 match e.pr with
 |some s=>d !=s|none=>X
def AB.ek(s:Nat):AB->Bool
 |[]=>X|(_,e)::r=>e.x8 s&&AB.ek s r
def EV.noC(d:Nat)(k:Option Nat):EV->Bool
 |.la s (Y i)=>d !=s||(match k with|some j=>i !=j|none=>T)
 |.lp s (Y i) _=>d !=s||(match k with|some j=>i !=j|none=>T)
 |.nh s i _=>d !=s||(match k with|some j=>i !=j|none=>T)
 |_=>X
def AB.AbQ(s:Nat)(k:Option Nat):I2->AB->Bool
 |_,[]=>X|z,(q,e)::r=>(z.contains q||e.noC s k)&&AB.AbQ s k (q::z) r
def AB.noX(s:Nat)(k:Option Nat)(ε:AB):Bool:=AB.AbQ s k [] ε
def AB.o3(ε:AB)(q:Nat):Option Nat->Option (Nat×Fq)
 |none=>match ε.get q with
  |.xo n es=>Y (n,es)|_=>W
 |some k=>match ε.get q with
  |.bx cs=>match cs[k]? with
   |some ⟨X,.xl n es⟩=>Y (n,es)|_=>W
  |_=>W
def AB.t5(ε:AB)(q:Nat)(i:Option Nat)(n:Nat)(es:Fq):AB:=
 match i with
 |none=>(q,.xo n es)::ε|some k=>match ε.get q with
  |.bx cs=>(q,.bx (cs.set k ⟨X,.xl n es⟩))::ε|_=>ε
def AB.nat(ε:AB)(q k:Nat):Option Fq:=
 match ε.get q with
 |.bx cs=>match cs[k]? with
  |some ⟨X,.xn es⟩=>Y es|_=>W
 |_=>W
def AB.AbM(ε:AB)(q k:Nat)(es:Fq):AB:=
 match ε.get q with
 |.bx cs=>(q,.bx (cs.set k ⟨X,.xn es⟩))::ε|_=>ε
inductive AF where
 |s (n:Nat)
 |c (t:TV)
def AF.ev(ε:AB):AF->EV
 |.s n=>ε.get n|.c t=>.tv t
def EV.val:EV->Option TV
 |.tv t=>Y t|.ow t=>Y t|_=>W
def AF.val(ε:AB)(x:AF):Option TV:=(x.ev ε).val
def vals(ε:AB):List AF->Option Fq
 |[]=>Y []|x::xs=>match x.val ε,vals ε xs with
  |some t,Y ts=>Y (t::ts)|_,_=>W
def intCmp(op:BinOp)(a b:Int):I1:=
 match op with
 |.eql=>Y (decide (a=b))|.neq=>Y (!decide (a=b))|.lss=>Y (decide (a<b))|.leq=>Y (decide (a<=b))|.gtr=>Y (decide (b<a))|.geq=>Y (decide (b<=a))|_=>W
def intArith(op:BinOp)(a b:Int):K1:=
 match op with
 |.add=>Y (a+b)|.sub=>Y (a-b)|.mul=>Y (a*b)|.quo=>if b=0 then W else Y (a.tdiv b)|_=>W
inductive GC where
 |z (c:AO)
 |v (x:AF) (k n:Nat)
 |w (q:Nat)
 |g (q k n:Nat)
def GC.cell(ε:AB):GC->Option AO
 |.z c=>Y c|.v x k n=>match x.val ε with
  |some t=>match Nat.beq t.cells.length n,t.cells[k]? with
   |true,Y c=>Y ⟨T,c⟩|_,_=>W
  |none=>W
 |.w q=>match ε.get q with
  |.ow t=>Y ⟨X,t⟩|.xo n es=>Y ⟨X,.xl n es⟩|_=>W
 |.g q k n=>match ε.get q with
  |.oag cs=>match Nat.beq cs.length n with
   |true=>cs[k]?|false=>W
  |_=>W
def F7(ε:AB):List GC->Option (List AO)
 |[]=>Y []|g::gs=>match g.cell ε,F7 ε gs with
  |some c,Y cs=>Y (c::cs)|_,_=>W
def GC.src:GC->Option (Nat×Option Nat)
 |.w q=>Y (q,W)|.g q k _=>Y (q,Y k)|_=>W
def GC.slot:GC->Option Nat
 |.w q=>Y q|.g q _ _=>Y q|_=>W
def GC.sl:GC->I2
 |.v (.s q) _ _=>[q]|.w q=>[q]|.g q _ _=>[q]|_=>[]
def EV.gave:EV->EV
 |.ow t=>.tv t|_=>.undef
def OL(e0:AB):I2->AB->AB
 |[],ε=>ε|q::qs,ε=>(q,(e0.get q).gave)::OL e0 qs ε
def CJ:Fq->Fq->I1
 |[],[]=>Y X|.int k a::cs,.int k' b::ds=>if k=k' then(match CJ cs ds with|some r=>Y (decide (a=b)&&r)|none=>W)else W
 |.str a::cs,.str b::ds=>(match CJ cs ds with|some r=>Y (decide (a=b)&&r)|none=>W)
 |.bool a::cs,.bool b::ds=>(match CJ cs ds with|some r=>Y (decide (a=b)&&r)|none=>W)
 |_,_=>W
inductive BK where
 |i|s|b|w
 |a (ks:I2)
def TV.kd:TV->Nat
 |.int _ _=>0|.str _=>1|.bool _=>2|_=>3
def Mv(k:IntKind)(op:BinOp)(a b:Int):K1:=
 match op with
 |.and=>Y (k.wrap (BitVec.ofInt k.bits a &&& BitVec.ofInt k.bits b).toNat)|.or=>Y (k.wrap (BitVec.ofInt k.bits a|||BitVec.ofInt k.bits b).toNat)|.xor=>Y (k.wrap (BitVec.ofInt k.bits a^^^ BitVec.ofInt k.bits b).toNat)|.andNot=>Y (k.wrap (BitVec.ofInt k.bits a &&& ~~~ BitVec.ofInt k.bits b).toNat)|.shl=>if 0<=b then Y (k.wrap (a*2^ (min b.toNat k.bits)))else W|.shr=>if 0<=b/\k.min<=a.fdiv (2^ (min b.toNat k.bits))/\a.fdiv (2^ (min b.toNat k.bits))<=k.max then Y (a.fdiv (2^ (min b.toNat k.bits)))else W|_=>W
def ME:BK->BinOp->TV->TV->Option TV
 |.i,op,.int k a,.int k' b=>
  if k=k' then
   match intCmp op a b with
   |some r=>Y (.bool r)|none=>match intArith op a b with
    |some r=>Y (.int k (k.wrap r))|none=>if op=.rem/\b≠0 then Y (.int k (a.tmod b))else W
  else W
 |.w,op,.int k a,.int k' b=>if k=k'\/op=.shl\/op=.shr then(match Mv k op a b with|some r=>Y (.int k r)|none=>W)else W
 |.s,.eql,.str a,.str b=>Y (.bool (a==b))|.s,.neq,.str a,.str b=>Y (.bool (!(a==b)))|.s,.add,.str a,.str b=>if a.size+b.size<=AX then Y (.str (a++b))else W|.b,.eql,.bool a,.bool b=>Y (.bool (a==b))|.b,.neq,.bool a,.bool b=>Y (.bool (!(a==b)))|.a n,.eql,.agg cs,.agg ds=>if cs.map TV.kd=n then(match CJ cs ds with|some b=>Y (.bool b)|none=>W)else W
 |.a n,.neq,.agg cs,.agg ds=>if cs.map TV.kd=n then(match CJ cs ds with|some b=>Y (.bool !b)|none=>W)else W
 |_,_,_,_=>W
def Hf(ε:AB)(d:Int):Option AF->Option TV
 |none=>Y (.int .i64 d)|some o=>o.val ε
def A7(ε:AB):EV->Option Fq
 |.tv (.pt row)=>Y row|.bx cs=>Y (cs.map (·.t))|.bp s off=>match ε.get s with
  |.bx cs=>Y ((cs.drop off).map (·.t))|_=>W
 |_=>W
def AF.place(ε:AB):AF->Option (Nat×Nat)
 |.s n=>match ε.get n with
  |.bp q off=>Y (q,off)|.bx _=>Y (n,0)|_=>W
 |.c _=>W
def Pj:Fq->Nat->Fq->Fq
 |cs,_,[]=>cs|cs,i,d::ds=>Pj (cs.set i d) (i+1) ds
def E8(cs:Fq):List (Nat×Nat×TV)->Option Fq
 |[]=>Y cs|(i,n,t)::r=>if t.cells.length=n/\i+n<=cs.length then E8 (Pj cs i t.cells) r else W
def E4(ε:AB):List (Nat×Nat×AF)->Option (List (Nat×Nat×TV))
 |[]=>Y []|(i,n,x)::r=>match x.val ε,E4 ε r with
  |some t,Y ts=>Y ((i,n,t)::ts)|_,_=>W
inductive AE where
 |mv (x:AF)
 |tk (s:Nat)
 |Abo (n:Nat)
 |fad (x:AF) (k:Nat)
 |bad (s k:Nat)
 |iad (x i:AF) (n:Nat)
 |aad (x i:AF) (n k:Nat)
 |ld (x:AF)
 |lda (x:AF) (n:Nat)
 |ldt (x:AF)
 |bin (k:BK) (op:BinOp) (x y:AF)
 |not (x:AF)
 |neg (x:AF)
 |pick (c a b:AF)
 |len (x:AF)
 |AbB (x:AF)
 |slc (n:Nat) (x:AF) (lo hi:Option AF)
 |Aau (x:AF) (lo hi:Option AF)
 |bld (zero:Fq) (parts:List (Nat×Nat×AF))
 |lst (n:Nat) (parts:List AF)
 |app (n:Nat) (x y:AF)
 |call (f:FuncId) (args:List AF)
 |Abi (x:AF) (args:List AF)
 |clo (f:FuncId) (caps:List AF)
 |ext (x:AF) (i:Nat)
 |cvt (k:IntKind) (x:AF)
 |Aas (x i:AF)
 |Abp (x:AF)
 |Abv (x:AF)
 |mm (max:Bool) (x y:AF)
 |alc (cs:List AO)
 |st (n:Nat) (x v:AF)
 |stb (n s:Nat) (v:AF)
 |frz (s:Nat)
 |AbA (x:AF) (k n:Nat) (agg:Bool)
 |xal (s:Nat)
 |Abu (x:AF)
 |xia (x i:AF) (n:Nat)
 |xfa (x:AF) (k:Nat)
 |xld (x:AF)
 |xst (x v:AF) (k:Nat)
 |rel (s:Nat)
 |Abd (n:Nat)
 |tkx (s:Nat)
 |Aa7 (n s:Nat) (y:AF)
 |AaB (f:FuncId) (args:List AF)
 |mkx (n:Nat) (zero:Fq) (x:AF)
 |Aay (f:FuncId) (x:AF) (ys:List AF)
 |AaR (f:FuncId) (x:AF)
 |x9 (gs:List GC)
 |stx (n:Nat) (s q:Nat)
 |Aa3 (f:FuncId) (args:List AF)
 |Aax (f:FuncId) (args:List AF)
 |isn (x:AF)
 |lac (x:AF)
 |ctk (x:AF)
 |cpt (x:AF) (q:Nat)
 |cut (n s:Nat) (hi:AF)
 |AaH (f:FuncId) (args:List AF)
 |Abj (ps:List (Option AO)) (x:AF)
 |Abe (n s:Nat) (z:TV) (x:AF)
 |Aad (f:FuncId) (args:List AF) (i:Nat)
 |Aa2 (f:FuncId) (args:List AF)
 |Abg (n:Nat)
 |ldb (s n:Nat)
 |Abn (q:Nat)
 |AaG (m q:Nat)
 |lan (x:AF)
 |nia (x i:AF)
 |nld (x:AF)
 |nst (x v:AF)
 |Abx (q:Nat)
 |AaI (f:FuncId) (args:List AF) (i:Nat)
 |ldg (s n:Nat)
 |stq (n:Nat) (ps:List (Option AO)) (x v:AF)
 |mkm
 |mvm (s:Nat)
 |AaA (f:FuncId) (args:List AF)
 |mlk (s:Nat) (m x:AF)
 |mup (s:Nat) (m x v:AF)
 |r0 (s:Nat) (m:AF)
 |mnx (s:Nat)
 |men (s:Nat)
 |fdv (x:AF) (k:Nat)
 |ldv (x:AF) (n:Nat)
 |xin (x i:AF) (n:Nat)
 |xln (x:AF)
 |mko (n:Nat) (zero:Fq) (x:AF)
structure PR where
 dst:Option Nat
 op:AE
 guard:Option (Nat×Bool)
inductive PC where
 |skip (live:I2)
 |ret
 |exit (id:Nat) (live:I2)
 |seq (a b:PC)
 |cond (c:AF) (a b:PC)
 |block (id:Nat) (c:PC)
 |loop (live:I2) (c:PC)
 |region (ops:List PR) (live:I2)
 |draw (D:I2) (ops:List PR) (live:I2)
 |rls (s:Nat) (c:PC)
 |bad
def Sd(ε:AB):I2->Bool
 |[]=>X|d::ds=>ε.ek d&&Sd ε ds
inductive As where
 |sh (t:TV)
 |own (t:TV)
 |tp (ts:Fq)
 |turn (zs:Fp) (us:Fq)
 |cut (zs:Fp)
 |Aa5 (n:Nat) (es:Fq)
 |oag (cs:List AO)
 |bo (cs cs':List AO) (i:Nat) (ts:Fq)
 |ext (ts:Fq)
 |ag (cs:List AO) (i:Nat) (r:As)
 |mpr (kvs:BW) (ts:Fq)
def As.WF:As->Prop
 |.sh t=>t.WF|.own t=>t.WF|.tp ts=>TV.ns ts|.turn zs us=>(TV.list 1 (zs.map (TV.int .i64))).WF/\TV.ns us|.cut zs=>(TV.list 1 (zs.map (TV.int .i64))).WF|.Aa5 n es=>(TV.list n es).WF|.oag cs=>∀c∈cs,c.t.WF|.bo _ cs' _ ts=>(∀c∈cs',c.t.WF)/\TV.ns ts|.ext ts=>TV.ns ts|.ag _ _ r=>r.WF|.mpr kvs ts=>BW.WF kvs/\TV.ns ts
def As.plain:As->Bool
 |.turn ..=>T|.cut _=>T|.bo ..=>T|.ext _=>T|.ag ..=>T|.mpr ..=>T|_=>X
def As.ev:As->EV
 |.sh t=>.tv t|.own t=>.ow t|.tp ts=>.tp ts|.Aa5 n es=>.ow (.list n es)|.oag cs=>.tv (.agg (cs.map λc=>c.rel.t))|_=>.undef
def As.aev:As->EV
 |.oag cs=>.oag cs|r=>r.ev
mutual
def TV.flat:TV->Bool
 |.int _ _=>X|.bool _=>X|.str _=>X|.agg cs=>TV.t1 cs|_=>T
def TV.t1:Fq->Bool
 |[]=>X|t::ts=>t.flat&&TV.t1 ts
end
def AO.toX:AO->AO
 |⟨X,.list n es⟩=>⟨X,.xl n es⟩|c=>c
def AO.Xable(c:AO):Prop:=∃n es,c=⟨X,.list n es⟩/\TV.t1 es=X
def EV.free:EV->Bool
 |.tv t=>t.flat|.undef=>X|.sk=>X|_=>T
def AF.tg(ε:AB):AF->Option ((Nat×Option Nat)×Nat×Fq)
 |.s m=>match ε.get m with
  |.xo n es=>Y ((m,W),n,es)|.la q i=>match ε.o3 q i with
   |some p=>Y ((q,i),p)|none=>W
  |_=>W
 |.c _=>W
def AF.Abw(ε:AB)(x:AF):Option TV:=
 match x.tg ε with
 |some p=>Y (.list p.2.1 p.2.2)|none=>match x.ev ε with
  |.bx cs=>Y (.pt (cs.map AO.Abm))|.bp q off=>match ε.get q with
   |.bx cs=>Y (.pt ((cs.drop off).map AO.Abm))|_=>W
  |e=>e.val
def Aaa(ε:AB):List AF->Option Fq
 |[]=>Y []|x::xs=>match x.Abw ε,Aaa ε xs with
  |some t,Y ts=>Y (t::ts)|_,_=>W
def As.Aar:As->Bool
 |.sh t=>t.flat|.tp ts=>TV.t1 ts|.own (.list _ es)=>TV.t1 es|_=>T
def AO.Aar:AO->Bool
 |⟨X,.list _ es⟩=>TV.t1 es|⟨T,t⟩=>t.flat|_=>T
def Fg(ε:AB):Nat->List AF->Option Fq
 |_,[]=>Y []|0,_::xs=>match vals ε xs with
  |some ts=>Y (.undef::ts)|none=>W
 |i+1,x::xs=>match x.val ε,Fg ε i xs with
  |some t,Y ts=>Y (t::ts)|_,_=>W
def EV.ofs:Fq->EV
 |[t]=>.tv t|ts=>.tp ts
def Eh:List (Option AO)->Fq->Option (List AO)
 |[],[]=>Y []|none::ps,t::ts=>match Eh ps ts with
  |some cs=>Y (⟨T,t⟩::cs)|none=>W
 |some c::ps,.nil::ts=>match c,Eh ps ts with
  |⟨X,.list n []⟩,Y cs=>Y (⟨X,.list n []⟩::cs)|⟨X,.xl n []⟩,Y cs=>Y (⟨X,.xl n []⟩::cs)|⟨X,.xn []⟩,Y cs=>Y (⟨X,.xn []⟩::cs)|_,_=>W
 |_,_=>W
section
variable(S:FuncId->Fq->As->Prop)
def Ai{α:Type}(o:Option α)(K:α->Prop):Prop:=
 match o with
 |some a=>K a|none=>False
def FW:Fq->Option TV
 |[]=>W|t::_=>Y t
def strip:AB->Nat->AB
 |ε,s=>(s,.undef)::ε
def AE.wp(ε:AB)(dst:Option Nat)(K:EV->AB->Prop):AE->Prop
 |.mv x=>match x.ev ε with
  |.tv t=>K (.tv t) ε|.ow t=>K (.tv t) ε|.tp ts=>K (.tp ts) ε|_=>False
 |.tk s=>match ε.get s with
  |.ow t=>K (.ow t) ((s,.tv t)::ε)|.tv t=>K (.tv t) ε|_=>False
 |.Abo n=>K (.ow (.list n [])) ε|.fad x k=>match x.ev ε with
  |.tv (.pt row)=>K (.tv (.pt (row.drop k))) ε|.bp s off=>match ε.get s with
   |.bx _=>K (.bp s (off+k)) ε|_=>False
  |_=>False
 |.bad s k=>match ε.get s with
  |.bx _=>K (.bp s k) ε|.tv (.pt row)=>K (.tv (.pt (row.drop k))) ε|_=>False
 |.iad x i n=>match x.val ε,i.val ε with
  |some (.list m es),Y (.int _ j)=>m=n/\0<=j/\∃e,es[j.toNat]?=Y e/\K (.tv (.pt e.cells)) ε|_,_=>False
 |.aad x i n k=>match x.ev ε,i.val ε with
  |.tv (.pt row),Y (.int _ j)=>0<=j/\j<k/\k*n<=row.length/\K (.tv (.pt (row.drop (j.toNat*n)))) ε|_,_=>False
 |.ld x=>Ai (A7 ε (x.ev ε)) λcs=>Ai (FW cs) λt=>t.Aav=T/\K (.tv t) ε|.lda x n=>Ai (A7 ε (x.ev ε)) λcs=>n<=cs.length/\K (.tv (.agg (cs.take n))) ε|.ldb s n=>match ε.get s with
  |.bx cs=>n<=(cs.map (·.t)).length/\K (.tv (.agg ((cs.map (·.t)).take n))) ε|_=>False
 |.ldt x=>match x.place ε with
  |some (s,off)=>match ε.get s with
   |.bx cs=>match cs[off]? with
    |some ⟨X,.list n es⟩=>K (.ow (.list n es)) ((s,.bx (cs.set off ⟨T,.list n es⟩))::ε)|_=>False
   |_=>False
  |none=>False
 |.bin k op x y=>match x.val ε,y.val ε with
  |some a,Y b=>Ai (ME k op a b) λt=>K (.tv t) ε|_,_=>False
 |.not x=>match x.val ε with
  |some (.bool b)=>K (.tv (.bool !b)) ε|_=>False
 |.neg x=>match x.val ε with
  |some (.int k n)=>K (.tv (.int k (k.wrap (-n)))) ε|_=>False
 |.pick c a b=>match c.val ε with
  |some (.bool q)=>match(if q then a else b).ev ε with
   |.tv t=>K (.tv t) ε|.ow t=>K (.tv t) ε|_=>False
  |_=>False
 |.len x=>match x.val ε with
  |some (.list _ es)=>K (.tv (.int .i64 es.length)) ε|_=>False
 |.AbB x=>match x.val ε with
  |some (.str s)=>K (.tv (.int .i64 s.size)) ε|_=>False
 |.slc n x lo hi=>match x.val ε with
  |some (.list m es)=>match Hf ε 0 lo,Hf ε es.length hi with
   |some (.int _ l),Y (.int _ h)=>(m=n/\0<=l/\l<=h)/\h<=es.length/\K (.tv (.list n ((es.take h.toNat).drop l.toNat))) ε|_,_=>False
  |_=>False
 |.Aau x lo hi=>match x.val ε with
  |some (.str s)=>match Hf ε 0 lo,Hf ε s.size hi with
   |some (.int _ l),Y (.int _ h)=>0<=l/\l<=h/\h<=s.size/\K (.tv (.str (s.extract l.toNat h.toNat))) ε|_,_=>False
  |_=>False
 |.bld zero parts=>Ai (E4 ε parts) λts=>Ai (E8 zero ts) λcs=>K (.tv (.agg cs)) ε|.lst n parts=>Ai (vals ε parts) λts=>(∀t∈ts,t.cells.length=n)/\K (.ow (.list n ts)) ε|.app n x y=>match x.ev ε,y.val ε with
  |.ow (.list m es),Y (.list m' fs)=>m=n/\m'=n/\es.length+fs.length<=AX/\
    K (.ow (.list n (es++fs))) (match x with|.s s=>(s,.tv (.list n es))::ε|_=>ε)
  |_,_=>False
 |.call f args=>Ai (vals ε args) λts=>∃r,(S f ts r/\r.plain=X)/\(r.WF->K r.ev ε)|.Abi x args=>match x.val ε,vals ε args with
  |some (.clo f caps),Y ts=>∃r,(S f (ts++caps) r/\r.plain=X)/\(r.WF->K r.ev ε)|_,_=>False
 |.clo f caps=>Ai (vals ε caps) λts=>K (.tv (.clo f ts)) ε|.ext x i=>match x.ev ε with
  |.tp ts=>Ai ts[i]? λt=>K (.tv t) ε|_=>False
 |.cvt k x=>match x.val ε with
  |some (.int _ n)=>K (.tv (.int k (k.wrap n))) ε|_=>False
 |.Aas x i=>match x.val ε,i.val ε with
  |some (.str s),Y (.int _ j)=>0<=j/\∃b,s[j.toNat]?=Y b/\K (.tv (.int .u8 b.toNat)) ε|_,_=>False
 |.Abp x=>match x.val ε with
  |some t=>K (.tv (.pt t.cells)) ε|_=>False
 |.Abv x=>match x.val ε,dst with
  |some t,Y d=>ε.ek d=X/\K (.bx (t.cells.map (⟨T,·⟩))) ε|_,_=>False
 |.mm mx x y=>match x.val ε,y.val ε with
  |some (.int k a),Y (.int k' b)=>k=k'/\K (.tv (.int k (if mx then max a b else min a b))) ε|_,_=>False
 |.alc cs=>match dst with
  |some d=>ε.ek d=X/\K (.bx cs) ε|none=>False
 |.st n x v=>match x.place ε with
  |some (s,off)=>match ε.get s with
   |.bx cs=>match v.ev ε with
    |.ow t=>match v with
     |.s q=>q≠s/\n=1/\off<cs.length/\K .undef ((s,.bx (cs.set off ⟨X,t⟩))::(q,.tv t)::ε)|_=>False
    |.tv t=>t.cells.length=n/\off+n<=cs.length/\K .undef ((s,.bx (cs.take off++t.cells.map (⟨T,·⟩)++cs.drop (off+n)))::ε)|_=>False
   |_=>False
  |none=>False
 |.stb n s v=>match ε.get s with
  |.bx cs=>match v.ev ε with
   |.ow t=>match v with
    |.s q=>q≠s/\n=1/\0<cs.length/\K .undef ((s,.bx (cs.set 0 ⟨X,t⟩))::(q,.tv t)::ε)|_=>False
   |.tv t=>t.cells.length=n/\0+n<=cs.length/\K .undef ((s,.bx (cs.take 0++t.cells.map (⟨T,·⟩)++cs.drop (0+n)))::ε)|_=>False
  |_=>False
 |.frz s=>match ε.get s with
  |.bx cs=>K .undef ((s,.tv (.pt (cs.map (·.t))))::ε)|_=>False
 |.AbA x k n agg=>match x.val ε with
  |some (.agg cs)=>k+n<=cs.length/\(if agg then K (.tv (.agg ((cs.drop k).take n))) ε else Ai (FW (cs.drop k)) λt=>K (.tv t) ε)|_=>False
 |.xal s=>match ε.get s with
  |.xo _ _=>K (.la s W) ε|_=>False
 |.Abu x=>Ai (x.tg ε) λp=>K (.tv (.int .i64 p.2.2.length)) ε|.xia x i n=>Ai (x.tg ε) λp=>match i.val ε with
  |some (.int _ j)=>((x.ev ε).pr=Y p.1.1/\p.2.1=n)/\0<=j/\j<p.2.2.length/\K (.lp p.1.1 p.1.2 (j.toNat*n)) ε|_=>False
 |.xfa x k=>match x.ev ε with
  |.lp q i c=>match ε.o3 q i with
   |some _=>K (.lp q i (c+k)) ε|none=>False
  |_=>False
 |.xin x i n=>match x.ev ε,i.val ε with
  |.la q W,Y (.int _ j)=>match ε.get q with
   |.xo m es=>m=n/\0<=j/\j<es.length/\K (.lp q W (j.toNat*n)) ε|_=>False
  |_,_=>False
 |.xln x=>match x.ev ε with
  |.lp q W c=>match ε.get q with
   |.xo _ es=>Ai (es.flatMap TV.cells)[c]? λt=>K (.tv t) ε|_=>False
  |_=>False
 |.xld x=>match x.ev ε with
  |.lp q i c=>match ε.o3 q i with
   |some p=>Ai (p.2.flatMap TV.cells)[c]? λt=>K (.tv t) ε|none=>False
  |_=>False
 |.xst x v k=>match x.ev ε with
  |.lp q i c=>match ε.o3 q i,v.ev ε with
   |some (n,es),.tv t=>(t.cells.length=k/\0<k)/\c+k<=es.length*n/\∃es',es'.flatMap TV.cells=(es.flatMap TV.cells).take c++t.cells++(es.flatMap TV.cells).drop (c+k)/\es'.length=es.length/\(∀e∈es',e.cells.length=n)/\K .undef (ε.t5 q i n es')|_,_=>False
  |_=>False
 |.rel s=>match dst,ε.get s with
  |some d,.xo n es=>d≠s/\K (.ow (.list n es)) ((s,.undef)::ε)|_,_=>False
 |.Abd n=>match dst with
  |some d=>ε.ek d=X/\K (.xo n []) ε|none=>False
 |.tkx s=>match dst,ε.get s with
  |some d,.xo n es=>ε.ek d=X/\d≠s/\K (.xo n es) ((s,.undef)::ε)|_,_=>False
 |.Aa7 n s y=>match dst,ε.get s,y.val ε with
  |some d,.xo m es,Y (.list m' fs)=>m=n/\m'=n/\es.length+fs.length<=AX/\ε.ek d=X/\d≠s/\K (.xo n (es++fs)) ((s,.undef)::ε)|_,_,_=>False
 |.AaB f args=>match dst with
  |some d=>ε.ek d=X/\Ai (vals ε args) λts=>∃n es,(S f ts (.Aa5 n es)\/(S f ts (.own (.list n es))/\TV.t1 es=X))/\((TV.list n es).WF->K (.xo n es) ε)|none=>False
 |.mkx n zero x=>match dst,x.val ε with
  |some d,Y (.int _ j)=>ε.ek d=X/\0<=j/\j<=4096/\K (.xo n (List.replicate j.toNat (match zero with|[t]=>t|ts=>.agg ts))) ε
  |_,_=>False
 |.mko n zero x=>match dst,x.val ε with
  |some d,Y (.int _ j)=>ε.ek d=X/\0<=j/\j<=4096/\K (.ow (.list n (List.replicate j.toNat (match zero with|[t]=>t|ts=>.agg ts)))) ε
  |_,_=>False
 |.x9 gs=>match dst with
  |some d=>((gs.filterMap GC.src).Nodup/\d∉gs.filterMap GC.slot)/\Ai (F7 ε gs) λcs=>K (.oag cs) (OL ε (gs.filterMap GC.slot) ε)|none=>False
 |.stx n s q=>match ε.get s,ε.get q with
  |.bx cs,.oag ds=>q≠s/\(ds.length=n/\((ds.all λc=>!c.t.Aav)||ε.noX s W)=X)/\0+n<=cs.length/\K .undef ((s,.bx (cs.take 0++ds++cs.drop (0+n)))::(q,.undef)::ε)|_,_=>False
 |.Aa3 f args=>Ai (Aaa ε args) λts=>∃cs,(S f ts (.oag cs)/\(vals ε args=Y ts\/cs.all AO.Aar=X))/\((∀c∈cs,c.t.WF)->K (.oag cs) ε)|.Aax f args=>Ai (vals ε args) λts=>∃cs,S f ts (.oag cs)/\(∀c∈cs,c.Xable)/\((∀c∈cs,c.t.WF)->K (.oag (cs.map AO.toX)) ε)|.fdv x k=>match x.val ε with
  |some (.pt row)=>K (.tv (.pt (row.drop k))) ε|_=>False
 |.ldv x n=>match x.val ε with
  |some (.pt row)=>n<=row.length/\K (.tv (.agg (row.take n))) ε|_=>False
 |.isn x=>match x.val ε with
  |some (.list _ es)=>∀b:Bool,(b=X->es=[])->K (.tv (.bool b)) ε|some .nil=>K (.tv (.bool X)) ε|_=>False
 |.Aay f x ys=>Ai (x.tg ε) λp=>p.2.1=1/\Ai (vals ε ys) λts=>∃(zs zs':Fp)(us:Fq),p.2.2=zs.map (TV.int .i64)/\S f (.list 1 p.2.2::ts) (.turn zs' us)/\((As.turn zs' us).WF->K (EV.ofs us) (ε.t5 p.1.1 p.1.2 1 (zs'.map (TV.int .i64))))|.AaR f x=>match dst with
  |some d=>Ai (x.tg ε) λp=>(p.1.1≠d/\p.1.2=W)/\p.2.1=1/\ε.ek d=X/\∃zs zs':Fp,p.2.2=zs.map (TV.int .i64)/\S f [.list 1 p.2.2] (.cut zs')/\((TV.list 1 (zs'.map (TV.int .i64))).WF->K (.xo 1 (zs'.map (TV.int .i64))) ((p.1.1,.undef)::ε))|none=>False
 |.lac x=>match x.ev ε with
  |.bp s off=>match ε.o3 s (Y off)with
   |some _=>K (.la s (Y off)) ε|none=>False
  |_=>False
 |.ctk x=>match dst,x.place ε with
  |some d,Y (s,off)=>match ε.get s with
   |.bx cs=>match cs[off]? with
    |some ⟨X,.xl n es⟩=>ε.ek d=X/\K (.xo n es) ((s,.bx (cs.set off ⟨T,.undef⟩))::ε)|some ⟨X,.xn es⟩=>ε.ek d=X/\K (.xn es) ((s,.bx (cs.set off ⟨T,.undef⟩))::ε)|_=>False
   |_=>False
  |_,_=>False
 |.cpt x q=>match x.place ε,ε.get q with
  |some (s,off),.xo n es=>match ε.get s with
   |.bx cs=>ε.noX s (Y off)=X/\off<cs.length/\K .undef ((s,.bx (cs.set off ⟨X,.xl n es⟩))::(q,.undef)::ε)|_=>False
  |some (s,off),.xn es=>match ε.get s with
   |.bx cs=>ε.noX s (Y off)=X/\off<cs.length/\K .undef ((s,.bx (cs.set off ⟨X,.xn es⟩))::(q,.undef)::ε)|_=>False
  |_,_=>False
 |.cut n s hi=>match dst,ε.get s,hi.val ε with
  |some d,.xo m es,Y (.int _ h)=>(m=n/\ε.ek d=X/\d≠s)/\0<=h/\h<=es.length/\K (.xo n (es.take h.toNat)) ((s,.undef)::ε)|_,_,_=>False
 |.Abe n s z x=>match dst,ε.get s,x.val ε with
  |some d,.xo m es,Y (.int _ j)=>((m=n/\n=1)/\z.cells=[z])/\(0<=j/\j<=4096)/\(es.length+j.toNat<=AX/\ε.ek d=X/\d≠s)/\K (.xo n (es++List.replicate j.toNat z)) ((s,.undef)::ε)|_,_,_=>False
 |.AaH f args=>Ai (Aaa ε args) λts=>∃r,(S f ts r/\r.Aar=X)/\(r.WF->K r.ev ε)|.Aa2 f args=>Ai (vals ε args) λts=>∃us,S f ts (.ext us)/\K (.tp us) ε|.Abj ps x=>match x.val ε,dst with
  |some t,Y d=>Ai (Eh ps t.cells) λcs=>ε.ek d=X/\K (.bx cs) ε|_,_=>False
 |.Abg n=>match dst with
  |some d=>ε.ek d=X/\K (.xo n []) ε|none=>False
 |.Aad f args i=>match dst,(args[i]?).bind (·.place ε)with
  |some d,Y (s,0)=>match ε.get s with
   |.bx cs=>(ε.noX s W=X/\d≠s)/\Ai (Fg ε i args) λts=>∃cs' us,S f ts (.bo cs cs' i us)/\((∀c∈cs',c.t.WF)/\TV.ns us->K (EV.ofs us) ((s,.bx cs')::ε))|_=>False
  |_,_=>False
 |.Abn q=>match dst,ε.get q with
  |some d,.xo n fs=>(ε.ek d=X/\d≠q)/\K (.x1 n fs) ((q,.undef)::ε)|_,_=>False
 |.AaG m q=>match dst,ε.get m,ε.get q with
  |some d,.nh s off .hd,.x1 n fs=>match ε.get s with
   |.bx cs=>Ai (ε.nat s off) λes=>es.length+1<=AX/\(ε.ek d=X/\d≠m/\d≠q/\m≠q)/\K (.xn (es++[.list n fs])) ((s,.bx (cs.set off ⟨T,.undef⟩))::(m,.undef)::(q,.undef)::ε)|_=>False
  |_,_,_=>False
 |.lan x=>match x.ev ε with
  |.bp s off=>Ai (ε.nat s off) λ_=>K (.nh s off .hd) ε|_=>False
 |.nia x i=>match x.ev ε,i.val ε with
  |.nh s off .hd,Y (.int _ j)=>Ai (ε.nat s off) λes=>0<=j/\j<es.length/\K (.nh s off (.el j.toNat)) ε|.nh s off (.rw r),Y (.int _ j)=>Ai (ε.nat s off) λes=>0<=j/\∃fs,es[r]?=Y (.list 1 fs)/\j<fs.length/\K (.nh s off (.rp r j.toNat)) ε|_,_=>False
 |.nld x=>match x.ev ε with
  |.nh s off (.el r)=>Ai (ε.nat s off) λes=>r<es.length/\K (.nh s off (.rw r)) ε|_=>False
 |.nst x v=>match x.ev ε,v.ev ε with
  |.nh s off (.rp r c),.tv t=>Ai (ε.nat s off) λes=>∃fs,es[r]?=Y (.list 1 fs)/\c<fs.length/\t.cells=[t]/\t.flat=X/\K .undef (ε.AbM s off (es.set r (.list 1 (fs.set c t))))|_,_=>False
 |.Abx q=>match dst,ε.get q with
  |some d,.oag cs=>(ε.ek d=X/\d≠q)/\K (.bx cs) ((q,.undef)::ε)|_,_=>False
 |.AaI f args i=>match dst,args[i]? with
  |some d,Y (.s q)=>match ε.get q with
   |.oag cs=>d≠q/\Ai (Fg ε i args) λts=>∃r,S f (ts.set i (.agg (cs.map λ_=>.undef))) (.ag cs i r)/\(r.WF->K r.aev ((q,.undef)::ε))|_=>False
  |_,_=>False
 |.ldg s n=>match dst,ε.get s with
  |some d,.bx cs=>cs.length=n/\d≠s/\K (.oag cs) ((s,.bx (cs.map λ_=>⟨T,.undef⟩))::ε)|_,_=>False
 |.stq n ps x v=>match x.place ε,v.val ε with
  |some (s,off),Y t=>match ε.get s with
   |.bx cs=>Ai (Eh ps t.cells) λds=>t.cells.length=n/\off+n<=cs.length/\ε.noX s W=X/\K .undef ((s,.bx (cs.take off++ds++cs.drop (off+n)))::ε)|_=>False
  |_,_=>False
 |.mkm=>∀b,K (.mx (.mp b [])) ε|.mvm s=>match ε.get s with
  |.mx (.mp b _)=>K (.tv (.AaK b)) ε|.mx (.tm b _ ts)=>K (.tp (.AaK b::ts)) ε|.tp ts=>K (.tp ts) ε|_=>False
 |.AaA f args=>Ai (vals ε args) λts=>(∃us,S f ts (.tp us)/\(TV.ns us->K (.tp us) ε))\/∃kvs us,S f ts (.mpr kvs us)/\(BW.WF kvs/\TV.ns us->∀b,K (.mx (.tm b kvs us)) ε)|.mlk s m x=>match ε.get s,m.val ε,x.val ε with
  |.mx (.mp b kvs),Y (.AaK b'),Y t=>b=b'/\Ai t.AbN? λk=>K (.tp [.int .i64 ((kvs.look k).getD 0),.bool (kvs.look k).isSome]) ε|_,_,_=>False
 |.mup s m x v=>match ε.get s,m.val ε,x.val ε with
  |.mx (.mp b kvs),Y (.AaK b'),Y t=>match v.val ε with
   |some (.int .i64 n)=>b=b'/\Ai t.AbN? λk=>K .undef ((s,.mx (.mp b (kvs.set k n)))::ε)|_=>False
  |_,_,_=>False
 |.r0 s m=>match dst,ε.get s,m.val ε with
  |some d,.mx (.tm b kvs _),Y (.AaK b')=>(d≠s/\b=b')/\K (.mx (.mi W kvs)) ((s,.undef)::ε)|_,_,_=>False
 |.mnx s=>match dst,ε.get s with
  |some d,.mx (.mi _ todo)=>d≠s/\(todo=[]->K (.tp [.bool T]) ε)/\∀p todo',todo.Perm (p::todo')->K (.tp [.bool X,SL p.1,.int .i64 p.2]) ((s,.mx (.mi (Y p) todo'))::ε)|_,_=>False
 |.men s=>match ε.get s with
  |.mx (.mi (Y p) _)=>K (.tp [SL p.1,.int .i64 p.2]) ε|_=>False
def AB.put(ε:AB)(dst:Option Nat)(e:EV):AB:=
 match dst with
 |some d=>(d,e)::ε|none=>ε
def PR.wp(ε:AB)(K:AB->Prop)(o:PR):Prop:=
 match o.guard with
 |none=>o.op.wp S ε o.dst λe env'=>K (env'.put o.dst e)|some (g,b)=>match ε.get g with
  |.tv (.bool q)=>(q=b->o.op.wp S ε o.dst λe env'=>K (env'.put o.dst e))/\(q=!b->K (ε.put o.dst .sk))|.sk=>K (ε.put o.dst .sk)|_=>False
def wpOps(K:AB->Prop):List PR->AB->Prop
 |[],ε=>K ε|o::os,ε=>o.wp S ε λenv'=>wpOps K os env'
structure Q where
 normal:AB->Prop
 exit:Nat->AB->Prop
 ret:AB->Prop
def PC.wp:PC->Q->AB->Prop
 |.skip live,q,ε=>q.normal (ε.ei live)|.ret,q,ε=>q.ret ε|.exit id live,q,ε=>q.exit id (ε.ei live)|.seq a b,q,ε=>a.wp {q with normal:=λe=>(∀s,(e.get s).WF)->b.wp q e} ε
 |.cond c a b,q,ε=>match c.val ε with
  |some (.bool x)=>(x=X->a.wp q ε)/\(x=T->b.wp q ε)|_=>False
 |.block id c,q,ε=>c.wp {q with exit:=λi e=>if i=id then q.normal e else q.exit i e} ε
 |.loop live c,q,ε=>∀ζ:AB->Prop,(∀e,((∀s,(e.get s).WF)->c.wp {q with normal:=λe'=>ζ (e'.ei live)} e)->ζ e)->ζ (ε.ei live)
 |.region ops live,q,ε=>wpOps S (λe=>q.normal (e.ei live)) ops ε|.draw D ops live,q,ε=>Sd ε D=X/\wpOps S (λe=>q.normal (e.ei live)) ops ε|.bad,_,_=>False|.rls s c,q,ε=>match ε.get s with
  |.bx cs=>c.wp q ((s,.bx (cs.map AO.rel))::ε)|_=>False
end
inductive RV where
 |tmp (s:Nat)
 |cell (s:Nat) (agg:Option Nat)
def RV.get(ε:AB):RV->Option TV
 |.tmp s=>(ε.get s).val|.cell s W=>match A7 ε (ε.get s)with
  |some (t::_)=>Y t|_=>W
 |.cell s (Y n)=>match A7 ε (ε.get s)with
  |some cs=>if cs.length=n then Y (.agg cs)else W|none=>W
def Ee(ε:AB):List RV->Option Fq
 |[]=>Y []|x::xs=>match x.get ε,Ee ε xs with
  |some t,Y ts=>Y (t::ts)|_,_=>W
def BQ(rs:List RV)(r:As)(ε:AB):Prop:=
 match r,rs with
 |.own t,[.tmp s]=>ε.get s=.ow t|.own _,_=>False|.sh t,[x]=>x.get ε=Y t|.sh _,_=>False|.tp ts,rs=>rs.length≠1/\Ee ε rs=Y ts|.turn zs us,rs=>ε.get 0=.xo 1 (zs.map (TV.int .i64))/\Ee ε rs=Y us|.cut _,_=>False|.Aa5 n es,[.tmp s]=>ε.get s=.xo n es|.Aa5 _ _,_=>False|.oag cs,[.cell s (Y n)]=>ε.get s=.bx cs/\cs.length=n|.oag _,_=>False|.bo _ cs' i ts,rs=>ε.get i=.bx cs'/\Ee ε rs=Y ts|.ext _,_=>False|.ag _ _ r,rs=>BQ rs r ε|.mpr kvs ts,.tmp s::rs=>rs≠[]/\(∃b o,ε.get s=.tv (.AaK b)/\ε.get o=.mx (.mp b kvs))/\Ee ε rs=Y ts|.mpr _ _,_=>False
end Go.Sf
namespace Go.Sf
def Bf(w w':World)(F F':Nat->Nat->Prop):Prop:=
 ∀b o v,w.cell? ⟨b,o,W⟩=Y v->¬F b o->w'.cell? ⟨b,o,W⟩=Y v/\¬F' b o
section
variable{w w':World}{F F':Nat->Nat->Prop}
mutual
theorem CH(h:Bf w w' F F'):∀(t:TV)(v:Value),Aq w F t v->Aq w' F' t v
 |.undef,_,a=>a|.int _ _,_,a=>a|.bool _,_,a=>a|.str _,_,a=>a|.nil,_,a=>a|.list n es,v,a=>by
  have:=Tf h n es
  grind [Aq]
 |.agg cs,v,a=>by
  have:=Ar h cs
  grind [Aq]
 |.pt row,v,a=>by
  have:=Pq h row
  grind [Aq]
 |.clo f c,v,a=>by
  have:=Ar h c
  grind [Aq]
 |.xl _ _,_,a=>a|.xn _,_,a=>a|.AaK _,_,a=>a
theorem Ar(h:Bf w w' F F'):∀(ts:Fq)(vs:List Value),AR w F ts vs->AR w' F' ts vs
 |[],_,a=>a|t::ts,vs,a=>by
  simp [AR]at a|-;obtain⟨v,r,c,d,e⟩:=a;exact⟨v,r,c,CH h t v d,Ar h ts r e⟩
theorem Pq(h:Bf w w' F F'):∀(ts:Fq)(b o:Nat),DR w F ts b o->DR w' F' ts b o
 |[],_,_,_=>trivial|t::ts,b,o,d=>by
  simp [DR]at d|-;obtain⟨⟨v,a,c,e,f⟩,g⟩:=d;exact⟨⟨v,(h b o v a c).1,(h b o v a c).2,e,CH h t v f⟩,Pq h ts b (o+1) g⟩
theorem Tf(h:Bf w w' F F')(n:Nat):∀(ts:Fq)(b o:Nat),Iq w F n ts b o->Iq w' F' n ts b o
 |[],_,_,_=>trivial|t::ts,b,o,a=>by
  simp [Iq]at a|-;exact⟨jX h t b o a.1,a.2.1,Tf h n ts b (o+n) a.2.2⟩
theorem jX(h:Bf w w' F F'):∀(t:TV)(b o:Nat),Ip w F t b o->Ip w' F' t b o
 |.agg cs,b,o,c=>Pq h cs b o c|.undef,b,o,c=>by
  simp [Ip]at c|-;obtain⟨v,d,e,g⟩:=c;exact⟨v,(h b o v d e).1,(h b o v d e).2,g⟩
 |.int _ _,b,o,c=>by
  simp [Ip]at c|-;obtain⟨v,d,e,g⟩:=c;exact⟨v,(h b o v d e).1,(h b o v d e).2,g⟩
 |.bool _,b,o,c=>by
  simp [Ip]at c|-;obtain⟨v,d,e,g⟩:=c;exact⟨v,(h b o v d e).1,(h b o v d e).2,g⟩
 |.str _,b,o,c=>by
  simp [Ip]at c|-;obtain⟨v,d,e,g⟩:=c;exact⟨v,(h b o v d e).1,(h b o v d e).2,g⟩
 |.nil,b,o,c=>by
  simp [Ip]at c|-;obtain⟨v,d,e,g⟩:=c;exact⟨v,(h b o v d e).1,(h b o v d e).2,g⟩
 |.list n es,b,o,c=>by
  simp [Ip]at c|-;obtain⟨v,d,e,j,a,cap,g,q,k,p⟩:=c;exact⟨v,(h b o v d e).1,(h b o v d e).2,j,a,cap,g,q,k,λm i=>⟨(p m i).1,Tf h n es _ _ (p m i).2⟩⟩
 |.pt row,b,o,c=>by
  simp [Ip]at c|-;obtain⟨v,d,e,j,r,s,g,k⟩:=c;exact⟨v,(h b o v d e).1,(h b o v d e).2,j,r,s,g,Pq h row _ _ k⟩
 |.clo f l,b,o,c=>by
  simp [Ip]at c|-;obtain⟨v,d,e,j,vs,g,k⟩:=c;exact⟨v,(h b o v d e).1,(h b o v d e).2,j,vs,g,Ar h l _ k⟩
 |.xl _ _,b,o,c=>by
  simp [Ip]at c|-;obtain⟨v,d,e,g⟩:=c;exact⟨v,(h b o v d e).1,(h b o v d e).2,g⟩
 |.xn _,b,o,c=>by
  simp [Ip]at c|-;obtain⟨v,d,e,g⟩:=c;exact⟨v,(h b o v d e).1,(h b o v d e).2,g⟩
 |.AaK _,b,o,c=>by
  simp [Ip]at c|-;obtain⟨v,d,e,g⟩:=c;exact⟨v,(h b o v d e).1,(h b o v d e).2,g⟩
end
end
section
variable{w:World}{F:Nat->Nat->Prop}
theorem JB:∀(ts:Fq)(b o:Nat),DR w F ts b o↔∀i t,ts[i]?=Y t->∃v,w.cell? ⟨b,o+i,W⟩=Y v/\¬F b (o+i)/\v.oneCell'=X/\Aq w F t v
 |[],_,_=>by simp[DR]|t::ts,b,o=>by
  simp [DR,JB ts b (o+1)];constructor
  .grind
  .intro h;refine⟨by simpa using h 0 t rfl,λi u hi=>?_⟩;have:=h (i+1) u h!
   grind
variable{ts:Fq}{b o:Nat}
theorem Pp(h:DR w F ts b o)(k:Nat):DR w F (ts.drop k) b (o+k):=by
 rw [JB]at h|-
 grind
theorem eZ(h:DR w F ts b o)(k:Nat):DR w F (ts.take k) b o:=by
 rw [JB]at h|-
 grind
variable{n:Nat}
theorem Qm{e:TV}{es:Fq}:Iq w F n (e::es) b o↔DR w F e.cells b o/\e.cells.length=n/\Iq w F n es b (o+n):=by grind[Iq,jW]
theorem R5(n:Nat):∀(es:Fq)(b o:Nat),Iq w F n es b o↔∀i e,es[i]?=Y e->DR w F e.cells b (o+i*n)/\e.cells.length=n
 |[],_,_=>by simp[Iq]|e::es,b,o=>by
  rw [Qm,R5 n es b (o+n)];constructor
  .rintro⟨c,d,f⟩ i u hi;cases i with
   |zero=>simp at hi;subst hi;simpa using⟨c,d⟩|succ i=>
    grind
  .intro h;have a:=h 0 e rfl;simp at a;refine⟨a.1,a.2,λi u hi=>?_⟩;have:=h (i+1) u h!
   grind
theorem Bh:∀(ts:Fq)(vs:List Value),AR w F ts vs↔vs.length=ts.length/\∀(i:Nat)(t:TV)(v:Value),ts[i]?=Y t->vs[i]?=Y v->Aq w F t v
 |[],vs=>by simp[AR]|t::ts,vs=>by
  simp [AR];constructor
  .rintro⟨v,r,rfl,c,a⟩;rw[Bh ts r]at a
   grind
  .rintro⟨c,a⟩;cases vs with
   |nil=>simp at c|cons v r=>exact⟨v,r,rfl,a 0 t v rfl rfl,(Bh ts r).2 ⟨by simpa using c,λi u x hi d=>a (i+1) u x h! b?⟩⟩
theorem Ik{ts a:Fq}{vs xs:List Value}(c:AR w F ts vs)(d:AR w F a xs):AR w F (ts++a) (vs++xs):=by
 induction ts generalizing vs with
 |nil=>simp[AR]at c;subst c;simpa using d|cons t ts e=>
  grind [AR]
theorem G4{t:TV}{v:Value}(h:Aq w F t v):AR w F t.cells v.cells.toList/\∀x∈v.cells.toList,x.oneCell'=X:=by
 have one:∀{v:Value}{t:TV},v.cells=#[v]->v.oneCell'=X->Aq w F t v->t.cells=[t]->AR w F t.cells v.cells.toList/\∀x∈v.cells.toList,x.oneCell'=X:=by
  intro v t j d e l;rw[j,l];exact⟨⟨v,[],rfl,e,rfl⟩,b?⟩
 cases t with
 |agg cs=>simp only[Aq]at h;obtain⟨vs,rfl,d,e⟩:=h;exact⟨d,λx i=>List.all_eq_true.1 e x i⟩
 |undef=>have c:=h;simp[Aq]at h;cases v<;>first|exact one rfl rfl c rfl|(simp[Value.oneCell']at h)
 |xl n es=>have c:=h;simp[Aq]at h;cases v<;>first|exact one rfl rfl c rfl|(simp[Value.oneCell']at h)
 |xn es=>have c:=h;simp[Aq]at h;cases v<;>first|exact one rfl rfl c rfl|(simp[Value.oneCell']at h)
 |int k n=>have c:=h;simp[Aq]at h;subst h;exact one rfl rfl c rfl|bool b=>have c:=h;simp[Aq]at h;subst h;exact one rfl rfl c rfl|AaK b=>have c:=h;simp[Aq]at h;subst h;exact one rfl rfl c rfl|str s=>have c:=h;simp[Aq]at h;subst h;exact one rfl rfl c rfl|nil=>have c:=h;simp[Aq]at h;subst h;exact one rfl rfl c rfl|list n es=>have c:=h;simp[Aq]at h;obtain⟨a,cap,rfl,_⟩:=h;exact one rfl rfl c rfl
 |pt row=>have c:=h;simp[Aq]at h;obtain⟨b,o,rfl,_⟩:=h;exact one rfl rfl c rfl
 |clo f g=>have c:=h;simp[Aq]at h;obtain⟨vs,rfl,_⟩:=h;exact one rfl rfl c rfl
end
end Go.Sf
namespace Go.Sf
section
variable(S:FuncId->Fq->As->Prop)
theorem wp_skip(l:I2)(q:Q)(ε:AB):PC.wp S (.skip l) q ε=q.normal (ε.ei l):=rfl
theorem wp_ret(q:Q)(ε:AB):PC.wp S .ret q ε=q.ret ε:=rfl
theorem wp_exit(id:Nat)(l:I2)(q:Q)(ε:AB):PC.wp S (.exit id l) q ε=q.exit id (ε.ei l):=rfl
theorem wp_seq(a b:PC)(q:Q)(ε:AB):PC.wp S (.seq a b) q ε=a.wp S {q with normal:=λe=>(∀s,(e.get s).WF)->b.wp S q e} ε:=rfl
theorem wp_block(id:Nat)(c:PC)(q:Q)(ε:AB):PC.wp S (.block id c) q ε=c.wp S {q with exit:=λi e=>if i=id then q.normal e else q.exit i e} ε:=rfl
theorem wp_region(ops:List PR)(a:I2)(q:Q)(ε:AB):PC.wp S (.region ops a) q ε=wpOps S (λe=>q.normal (e.ei a)) ops ε:=rfl
theorem Bb{α:Type}{o:Option α}{K K':α->Prop}(h:∀a,K a->K' a):Ai o K->Ai o K':=by
 cases o<;>simp[Ai];exact h _
theorem AE.gt(ε:AB)(dst:Option Nat){K K':EV->AB->Prop}(h:∀e env',K e env'->K' e env')(op:AE)(d:op.wp S ε dst K):op.wp S ε dst K':=by
 cases op<;>simp only[AE.wp]at d|-
 case ld=>exact Bb (λ_=>Bb (λ_ g=>⟨g.1,h _ _ g.2⟩)) d
 case lda=>exact Bb (λ_ g=>⟨g.1,h _ _ g.2⟩) d
 case bld=>exact Bb (λ_=>Bb (λ_=>h _ _)) d
 case lst=>exact Bb (λ_ g=>⟨g.1,h _ _ g.2⟩) d
 case call=>exact Bb (λ_⟨r,i,f⟩=>⟨r,i,λj=>h _ _ (f j)⟩) d
 case clo=>exact Bb (λ_=>h _ _) d
 case mm=>split at d<;>first|exact d.elim|exact⟨d.1,h _ _ d.2⟩
 case AbA x k n agg=>
  split at d
  .refine⟨d.1,?_⟩;have f:=d.2;cases agg
   .exact Bb (λ_=>h _ _) f
   .exact h _ _ f
  .exact d.elim
 case Abu=>exact Bb (λ_=>h _ _) d
 case xia=>exact Bb (λp u=>by
  split at u
  .exact⟨u.1,u.2.1,u.2.2.1,h _ _ u.2.2.2⟩
  .exact u.elim) d
 case xst=>
  split at d
  .split at d
   .obtain⟨i,f,es',l,q,v,D⟩:=d;exact⟨i,f,es',l,q,v,h _ _ D⟩
   .exact d.elim
  .exact d.elim
 case Abg=>split at d<;>first|exact d.elim|exact⟨d.1,h _ _ d.2⟩
 case Abd=>split at d<;>first|exact d.elim|exact⟨d.1,h _ _ d.2⟩
 case tkx=>split at d<;>first|exact d.elim|exact⟨d.1,d.2.1,h _ _ d.2.2⟩
 case Aa7=>split at d<;>first|exact d.elim|exact⟨d.1,d.2.1,d.2.2.1,d.2.2.2.1,d.2.2.2.2.1,h _ _ d.2.2.2.2.2⟩
 case AaB=>
  split at d
  .exact⟨d.1,Bb (λts⟨n,es,i,f⟩=>⟨n,es,i,λj=>h _ _ (f j)⟩) d.2⟩
  .exact d.elim
 case x9=>
  split at d
  .exact⟨d.1,Bb (λ_=>h _ _) d.2⟩
  .exact d.elim
 case stx=>split at d<;>first|exact d.elim|exact⟨d.1,d.2.1,d.2.2.1,h _ _ d.2.2.2⟩
 case Aa3=>exact Bb (λts⟨cs,i,f⟩=>⟨cs,i,λj=>h _ _ (f j)⟩) d
 case Aax=>exact Bb (λts⟨cs,i,l,f⟩=>⟨cs,i,l,λj=>h _ _ (f j)⟩) d
 case AaH=>exact Bb (λ_⟨r,i,f⟩=>⟨r,i,λj=>h _ _ (f j)⟩) d
 case Abj=>
  split at d
  .exact Bb (λ_ g=>⟨g.1,h _ _ g.2⟩) d
  .exact d.elim
 case Aa2=>exact Bb (λts⟨m,i,f⟩=>⟨m,i,h _ _ f⟩) d
 case Abe=>
  split at d
  .exact⟨d.1,d.2.1,d.2.2.1,h _ _ d.2.2.2⟩
  .exact d.elim
 case Aad=>
  split at d
  .split at d
   .exact⟨d.1,Bb (λts⟨cs',m,i,f⟩=>⟨cs',m,i,λj=>h _ _ (f j)⟩) d.2⟩
   .exact d.elim
  .exact d.elim
 case lan=>
  split at d
  .exact Bb (λ_ g=>h _ _ g) d
  .exact d.elim
 case AaG=>
  split at d
  .split at d
   .exact Bb (λ_ g=>⟨g.1,g.2.1,h _ _ g.2.2⟩) d
   .exact d.elim
  .exact d.elim
 case nia=>
  split at d
  .exact Bb (λ_ g=>⟨g.1,g.2.1,h _ _ g.2.2⟩) d
  .exact Bb (λ_⟨i,y,f,l,q⟩=>⟨i,y,f,l,h _ _ q⟩) d
  .exact d.elim
 case nld=>
  split at d
  .exact Bb (λ_ g=>⟨g.1,h _ _ g.2⟩) d
  .exact d.elim
 case nst=>
  split at d
  .exact Bb (λ_⟨y,i,f,l,q,v⟩=>⟨y,i,f,l,q,h _ _ v⟩) d
  .exact d.elim
 case AaI=>
  split at d
  .split at d
   .exact⟨d.1,Bb (λ_⟨r,i,f⟩=>⟨r,i,λj=>h _ _ (f j)⟩) d.2⟩
   .exact d.elim
  .exact d.elim
 case mnx=>
  split at d
  .exact⟨d.1,λe=>h _ _ (d.2.1 e),λp t B=>h _ _ (d.2.2 p t B)⟩
  .exact d.elim
 case men=>split at d<;>first|exact d.elim|exact h _ _ d
 case stq=>
  split at d
  .split at d
   .exact Bb (λ_ g=>⟨g.1,g.2.1,g.2.2.1,h _ _ g.2.2.2⟩) d
   .exact d.elim
  .exact d.elim
 case mkm=>exact λb=>h _ _ (d b)
 case mvm=>split at d<;>first|exact d.elim|exact h _ _ d
 case AaA=>
  refine Bb (λ_ g=>?_) d;rcases g with⟨m,i,f⟩|⟨A,m,i,f⟩
  .exact .inl ⟨m,i,λj=>h _ _ (f j)⟩
  .exact .inr ⟨A,m,i,λj b=>h _ _ (f j b)⟩
 case r0=>split at d<;>first|exact d.elim|exact⟨d.1,h _ _ d.2⟩
 case mlk=>split at d<;>first|exact d.elim|exact⟨d.1,Bb (λ_ g=>h _ _ g) d.2⟩
 case mup=>
  split at d
  .split at d
   .exact⟨d.1,Bb (λ_ g=>h _ _ g) d.2⟩
   .exact d.elim
  .exact d.elim
 case fdv=>split at d<;>first|exact d.elim|exact h _ _ d
 case ldv=>split at d<;>first|exact d.elim|exact⟨d.1,h _ _ d.2⟩
 case isn=>
  split at d
  .exact λb C=>h _ _ (d b C)
  .exact h _ _ d
  .exact d.elim
 case Aay=>exact Bb (λp⟨i,f⟩=>⟨i,Bb (λts⟨zs,s,m,a,b,c⟩=>⟨zs,s,m,a,b,λj=>h _ _ (c j)⟩) f⟩) d
 case AaR=>
  split at d
  .exact Bb (λp⟨z,i,v,zs,s,f,l,q⟩=>⟨z,i,v,zs,s,f,l,λj=>h _ _ (q j)⟩) d
  .exact d.elim
 all_goals (repeat' split at d)<;>first|exact d.elim|exact h _ _ d|exact⟨d.1,h _ _ d.2⟩|exact⟨d.1,d.2.1,h _ _ d.2.2⟩|exact⟨d.1,d.2.1,d.2.2.1,h _ _ d.2.2.2⟩|exact Bb (λ_=>h _ _) d|(obtain⟨r,i,f⟩:=d;exact⟨r,i,λj=>h _ _ (f j)⟩)|(obtain⟨i,r,f,l⟩:=d;exact⟨i,r,f,h _ _ l⟩)|(obtain⟨z,i,r,f,l⟩:=d;exact⟨z,i,r,f,h _ _ l⟩)
variable{K K':AB->Prop}
theorem PR.gt(ε:AB)(h:∀e,K e->K' e)(o:PR)(a:o.wp S ε K):o.wp S ε K':=by
 unfold PR.wp at a|-;split at a
 .grind[AE.gt]
 grind [AE.gt]
theorem Qs(h:∀e,K e->K' e):∀(os:List PR)(ε:AB),wpOps S K os ε->wpOps S K' os ε
 |[],_,a=>h _ a|o::os,ε,a=>PR.gt S ε (λe=>Qs h os e) o a
theorem PC.gt:∀(c:PC)(q:Q)(ε:AB),c.wp S q ε->∀(f:Q),(∀e,q.normal e->f.normal e)->(∀i e,q.exit i e->f.exit i e)->(∀e,q.ret e->f.ret e)->c.wp S f ε
 |.skip _,_,_,d,_,h,_,_=>h _ d|.ret,_,_,d,_,_,_,h=>h _ d|.exit _ _,_,_,d,_,_,h,_=>h _ _ d|.seq a b,q,ε,d,f,g,j,k=>by
  simp [PC.wp]at d|-;exact PC.gt a _ ε d _ (λe he m=>PC.gt b q e (he m) f g j k) j k
 |.cond c a b,q,ε,d,f,g,j,k=>by
  simp [PC.wp]at d|-;split at d
  .exact⟨λp=>PC.gt a q ε (d.1 p) f g j k,λp=>PC.gt b q ε (d.2 p) f g j k⟩
  .exact d.elim
 |.block id c,q,ε,d,f,g,j,k=>by
  simp [PC.wp]at d|-;exact PC.gt c _ ε d _ g (λi e=>by dsimp only;split<;>first|exact g e|exact j i e) k
 |.loop l c,q,ε,d,f,g,j,k=>by
  simp [PC.wp]at d|-;exact λζ hX=>d ζ λe he=>hX e λm=>PC.gt c _ e (he m) _ (λ_ h=>h) j k
 |.region ops l,q,ε,d,f,g,_,_=>by
  grind [PC.wp,Qs]
 |.draw _ ops l,q,ε,d,f,g,_,_=>by
  grind [PC.wp,Qs]
 |.bad,_,_,d,_,_,_,_=>by
  simp [PC.wp]at d
 |.rls s c,q,ε,d,f,g,j,k=>by
  simp [PC.wp]at d|-;split at d
  .exact PC.gt c q _ d f g j k
  .exact d.elim
theorem tR{σ:Type}{a:I2}{c:PC}{q:Q}{ε:AB}(I:σ->AB)(ok:σ->Prop)(μ:σ->Nat)(d:σ)(g:ε.ei a=I d)(e:ok d)
  (step:∀s,ok s->(∀k,((I s).get k).WF)->c.wp S {q with normal:=λf=>∃s',f.ei a=I s'/\ok s'/\μ s'<μ s} (I s)):PC.wp S (.loop a c) q ε:=by
 intro ζ hX;rw[g];have key:∀n s,μ s=n->ok s->ζ (I s):=by
  intro n
  induction n using Nat.strongRecOn with
  |_ n l=>
   intro s j ho;refine hX _ λi=>?_;refine PC.gt S c _ _ (step s ho i) _ (λf he=>?_) (λ_ _ h=>h) (λ_ h=>h)
   grind
 exact key _ d rfl e
end
end Go.Sf
namespace Go.Sf
def dk:Nat:=0
def Tz(_:World):Prop:=True
theorem Tz.ei{w w':World}(_:Tz w)(_:∀b,b<dk->w'.heap[b]?=w.heap[b]?):Tz w':=trivial
theorem Tz.lt{w:World}(_:Tz w):dk<=w.heap.size:=Nat.zero_le _
end Go.Sf
