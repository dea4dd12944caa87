/- The pure language: environments, operations, code, and what must hold before a piece of code so that a condition holds behind it. No memory. -/
import Derived.Test.YtfcfkigfmofniaaGreatSfRep
import Derived.WalkKit
set_option linter.all false
namespace Go.Sf
def AU:Nat:=8589934592
def Ji:Nat:=9223372036854775807
variable{n:Nat}
theorem UF(h:n<=AU):n<=Ji:=by grind[AU,Ji]
mutual
def TV.WF:TV->Prop
 |.int k n=>k.min<=n/\n<=k.max|.str s=>s.size<=Ji|.list _ es=>es.length<=Ji/\TV.tg es|.agg cs=>TV.tg cs|.pt row=>TV.tg row|.zc _ caps=>TV.tg caps|.xl _ es=>es.length<=Ji/\TV.tg es|.xn es=>es.length<=Ji/\TV.tg es|_=>True
def TV.tg:Fq->Prop
 |[]=>True|t::ts=>TV.WF t/\TV.tg ts
end
structure AR where
 own:Bool
 t:TV
def TV.zt:TV->Bool
 |.xl _ _=>true|.xn _=>true|_=>false
def AR.key(c:AR):TV×Bool:=(c.t,c.own&&c.t.zt)
def AR.rel(c:AR):AR:=
 match c with
 |⟨true,.xl n es⟩=>⟨true,.list n es⟩|⟨true,.xn es⟩=>⟨true,.list 1 es⟩|c=>c
def AR.Aam(c:AR):TV:=
 match c with
 |⟨true,.xl n es⟩=>.list n es|c=>c.t
inductive NK where
 |hd
 |el (r:Nat)
 |rw(r:Nat)
 |rp (r c:Nat)
abbrev BM:=List ((Int×Int)×Int)
inductive MX where
 |mp (b:Nat) (kvs:BM)
 |tm (b:Nat) (kvs:BM) (ts:Fq)
 |mi (last:Option ((Int×Int)×Int)) (todo:BM)
def BM.WF(kvs:BM):Prop:=∀p∈kvs,(TV.int .i64 p.1.1).WF/\(TV.int .i64 p.1.2).WF/\(TV.int .i64 p.2).WF
def MX.WF:MX->Prop
 |.mp _ kvs=>BM.WF kvs|.tm _ kvs ts=>BM.WF kvs/\TV.tg ts|.mi last todo=>BM.WF last.toList/\BM.WF todo
def BM.look(k:Int×Int):BM->a5
 |[]=>none|p::r=>if p.1=k then some p.2 else BM.look k r
def BM.set(k:Int×Int)(n:Int):BM->BM
 |[]=>[(k,n)]|p::r=>if p.1=k then(k,n)::r else p::BM.set k n r
def RT(k:Int×Int):TV:=.agg [.int .i64 k.1,.int .i64 k.2]
def TV.AaJ?:TV->Option (Int×Int)
 |.agg [.int .i64 a,.int .i64 b]=>some (a,b)|_=>none
inductive EV where
 |undef
 |tv (t:TV)
 |ow (t:TV)
 |bx (cs:List AR)
 |bp (s off:Nat)
 |tp (ts:Fq)
 |sk
 |xo (n:Nat) (es:Fq)
 |la (q:Nat) (i:Option Nat)
 |lp (q:Nat) (i:Option Nat) (c:Nat)
 |yr (cs:List AR)
 |xn (es:Fq)
 |x1 (n:Nat) (fs:Fq)
 |nh (q i:Nat) (k:NK)
 |mx (m:MX)
def EV.WF:EV->Prop
 |.tv t=>t.WF|.ow t=>t.WF|.bx cs=>∀c∈cs,c.t.WF|.tp ts=>TV.tg ts|.xo n es=>(TV.list n es).WF|.yr cs=>∀c∈cs,c.t.WF|.xn es=>(TV.list 1 es).WF|.x1 n fs=>(TV.list n fs).WF|.mx m=>m.WF|_=>True
abbrev AB:=List (Nat×EV)
def AB.get:AB->Nat->EV
 |[],_=>.undef|(k,e)::r,n=>if k=n then e else AB.get r n
def AB.fm(O:AB)(live:QQ):AB:=live.map fun s=>(s,O.get s)
def EV.yc:EV->Option Nat
 |.bp s _=>some s|.la s _=>some s|.lp s _ _=>some s|.nh s _ _=>some s|_=>none
def EV.yz(d:Nat)(e:EV):Bool:=
 match e.yc with
 |some s=>d !=s|none=>true
def AB.gt(s:Nat):AB->Bool
 |[]=>true|(_,e)::r=>e.yz s&&AB.gt s r
def EV.noC(d:Nat)(k:Option Nat):EV->Bool
 |.la s (some i)=>d !=s||(match k with|some j=>i !=j|none=>false)
 |.lp s (some i) _=>d !=s||(match k with|some j=>i !=j|none=>false)
 |.nh s i _=>d !=s||(match k with|some j=>i !=j|none=>false)
 |_=>true
def AB.AaM(s:Nat)(k:Option Nat):QQ->AB->Bool
 |_,[]=>true|z,(q,e)::r=>(z.contains q||e.noC s k)&&AB.AaM s k (q::z) r
def AB.noX(s:Nat)(k:Option Nat)(O:AB):Bool:=AB.AaM s k [] O
def AB.x4(O:AB)(q:Nat):Option Nat->Option (Nat×Fq)
 |none=>match O.get q with
  |.xo n es=>some (n,es)|_=>none
 |some k=>match O.get q with
  |.bx cs=>match cs[k]? with
   |some ⟨true,.xl n es⟩=>some (n,es)|_=>none
  |_=>none
def AB.ym(O:AB)(q:Nat)(i:Option Nat)(n:Nat)(es:Fq):AB:=
 match i with
 |none=>(q,.xo n es)::O|some k=>match O.get q with
  |.bx cs=>(q,.bx (cs.set k ⟨true,.xl n es⟩))::O|_=>O
def AB.nat(O:AB)(q k:Nat):Option Fq:=
 match O.get q with
 |.bx cs=>match cs[k]? with
  |some ⟨true,.xn es⟩=>some es|_=>none
 |_=>none
def AB.AaL(O:AB)(q k:Nat)(es:Fq):AB:=
 match O.get q with
 |.bx cs=>(q,.bx (cs.set k ⟨true,.xn es⟩))::O|_=>O
inductive AE where
 |s (n:Nat)
 |c (t:TV)
def AE.ev(O:AB):AE->EV
 |.s n=>O.get n|.c t=>.tv t
def EV.val:EV->Option TV
 |.tv t=>some t|.ow t=>some t|_=>none
def AE.val(O:AB)(x:AE):Option TV:=(x.ev O).val
def vals(O:AB):List AE->Option Fq
 |[]=>some []|x::xs=>match x.val O,vals O xs with
  |some t,some ts=>some (t::ts)|_,_=>none
def intCmp(op:BinOp)(a b:Int):K1:=
 match op with
 |.eql=>some (decide (a=b))|.neq=>some (!decide (a=b))|.lss=>some (decide (a<b))|.leq=>some (decide (a<=b))|.gtr=>some (decide (b<a))|.geq=>some (decide (b<=a))|_=>none
def intArith(op:BinOp)(a b:Int):a5:=
 match op with
 |.add=>some (a+b)|.sub=>some (a-b)|.mul=>some (a*b)|.quo=>if b=0 then none else some (a.tdiv b)|_=>none
inductive GC where
 |z (c:AR)
 |v (x:AE) (k n:Nat)
 |w (q:Nat)
 |g (q k n:Nat)
def GC.cell(O:AB):GC->Option AR
 |.z c=>some c|.v x k n=>match x.val O with
  |some t=>match Nat.beq t.cells.length n,t.cells[k]? with
   |true,some c=>some ⟨false,c⟩|_,_=>none
  |none=>none
 |.w q=>match O.get q with
  |.ow t=>some ⟨true,t⟩|.xo n es=>some ⟨true,.xl n es⟩|_=>none
 |.g q k n=>match O.get q with
  |.yr cs=>match Nat.beq cs.length n with
   |true=>cs[k]?|false=>none
  |_=>none
def I9(O:AB):List GC->Option (List AR)
 |[]=>some []|g::gs=>match g.cell O,I9 O gs with
  |some c,some cs=>some (c::cs)|_,_=>none
def GC.src:GC->Option (Nat×Option Nat)
 |.w q=>some (q,none)|.g q k _=>some (q,some k)|_=>none
def GC.slot:GC->Option Nat
 |.w q=>some q|.g q _ _=>some q|_=>none
def GC.sl:GC->QQ
 |.v (.s q) _ _=>[q]|.w q=>[q]|.g q _ _=>[q]|_=>[]
def EV.gave:EV->EV
 |.ow t=>.tv t|_=>.undef
def Qb(e0:AB):QQ->AB->AB
 |[],O=>O|q::qs,O=>(q,(e0.get q).gave)::Qb e0 qs O
def B1:Fq->Fq->K1
 |[],[]=>some true|.int k a::cs,.int k' b::ds=>if k=k' then(match B1 cs ds with|some r=>some (decide (a=b)&&r)|none=>none)else none
 |.str a::cs,.str b::ds=>(match B1 cs ds with|some r=>some (decide (a=b)&&r)|none=>none)
 |.bool a::cs,.bool b::ds=>(match B1 cs ds with|some r=>some (decide (a=b)&&r)|none=>none)
 |_,_=>none
inductive BK where
 |i|s|b|w
 |a (ks:QQ)
def TV.kd:TV->Nat
 |.int _ _=>0|.str _=>1|.bool _=>2|_=>3
def FX(k:IntKind)(op:BinOp)(a b:Int):a5:=
 match op with
 |.and=>some (k.wrap (BitVec.ofInt k.bits a &&& BitVec.ofInt k.bits b).toNat)|.or=>some (k.wrap (BitVec.ofInt k.bits a|||BitVec.ofInt k.bits b).toNat)|.xor=>some (k.wrap (BitVec.ofInt k.bits a^^^ BitVec.ofInt k.bits b).toNat)|.andNot=>some (k.wrap (BitVec.ofInt k.bits a &&& ~~~ BitVec.ofInt k.bits b).toNat)|.shl=>if 0<=b then some (k.wrap (a*2^ (min b.toNat k.bits)))else none|.shr=>if 0<=b/\k.min<=a.fdiv (2^ (min b.toNat k.bits))/\a.fdiv (2^ (min b.toNat k.bits))<=k.max then some (a.fdiv (2^ (min b.toNat k.bits)))else none|_=>none
def LV:BK->BinOp->TV->TV->Option TV
 |.i,op,.int k a,.int k' b=>
  if k=k' then
   match intCmp op a b with
   |some r=>some (.bool r)|none=>match intArith op a b with
    |some r=>some (.int k (k.wrap r))|none=>if op=.rem/\b≠0 then some (.int k (a.tmod b))else none
  else none
 |.w,op,.int k a,.int k' b=>if k=k'\/op=.shl\/op=.shr then(match FX k op a b with|some r=>some (.int k r)|none=>none)else none
 |.s,.eql,.str a,.str b=>some (.bool (a==b))|.s,.neq,.str a,.str b=>some (.bool (!(a==b)))|.s,.add,.str a,.str b=>if a.size+b.size<=AU then some (.str (a++b))else none|.b,.eql,.bool a,.bool b=>some (.bool (a==b))|.b,.neq,.bool a,.bool b=>some (.bool (!(a==b)))|.a n,.eql,.agg cs,.agg ds=>if cs.map TV.kd=n then(match B1 cs ds with|some b=>some (.bool b)|none=>none)else none
 |.a n,.neq,.agg cs,.agg ds=>if cs.map TV.kd=n then(match B1 cs ds with|some b=>some (.bool !b)|none=>none)else none
 |_,_,_,_=>none
def Gh(O:AB)(d:Int):Option AE->Option TV
 |none=>some (.int .i64 d)|some o=>o.val O
def A3(O:AB):EV->Option Fq
 |.tv (.pt row)=>some row|.bx cs=>some (cs.map (·.t))|.bp s off=>match O.get s with
  |.bx cs=>some ((cs.drop off).map (·.t))|_=>none
 |_=>none
def AE.place(O:AB):AE->Option (Nat×Nat)
 |.s n=>match O.get n with
  |.bp q off=>some (q,off)|.bx _=>some (n,0)|_=>none
 |.c _=>none
def O1:Fq->Nat->Fq->Fq
 |cs,_,[]=>cs|cs,i,d::ds=>O1 (cs.set i d) (i+1) ds
def Ed(cs:Fq):List (Nat×Nat×TV)->Option Fq
 |[]=>some cs|(i,n,t)::r=>if t.cells.length=n/\i+n<=cs.length then Ed (O1 cs i t.cells) r else none
def GP(O:AB):List (Nat×Nat×AE)->Option (List (Nat×Nat×TV))
 |[]=>some []|(i,n,x)::r=>match x.val O,GP O r with
  |some t,some ts=>some ((i,n,t)::ts)|_,_=>none
inductive AD where
 |mv (x:AE)
 |tk (s:Nat)
 |Aat (n:Nat)
 |y5 (x:AE) (k:Nat)
 |bad (s k:Nat)
 |iad (x i:AE) (n:Nat)
 |zr (x i:AE) (n k:Nat)
 |ld (x:AE)
 |lda (x:AE) (n:Nat)
 |ldt (x:AE)
 |bin (k:BK) (op:BinOp) (x y:AE)
 |not (x:AE)
 |neg (x:AE)
 |pick (c a b:AE)
 |len (x:AE)
 |AaA (x:AE)
 |y9 (n:Nat) (x:AE) (lo hi:Option AE)
 |yu (x:AE) (lo hi:Option AE)
 |z7 (zero:Fq) (parts:List (Nat×Nat×AE))
 |lst (n:Nat) (parts:List AE)
 |app (n:Nat) (x y:AE)
 |call (f:FuncId) (args:List AE)
 |Aaj (x:AE) (args:List AE)
 |zc (f:FuncId) (caps:List AE)
 |ext (x:AE) (i:Nat)
 |y8 (k:IntKind) (x:AE)
 |za (x i:AE)
 |Aak (x:AE)
 |Aau (x:AE)
 |mm (max:Bool) (x y:AE)
 |alc (cs:List AR)
 |st (n:Nat) (x v:AE)
 |stb (n s:Nat) (v:AE)
 |frz (s:Nat)
 |AaE (x:AE) (k n:Nat) (agg:Bool)
 |xal (s:Nat)
 |Aas (x:AE)
 |xia (x i:AE) (n:Nat)
 |xfa (x:AE) (k:Nat)
 |xld (x:AE)
 |xst (x v:AE) (k:Nat)
 |rel (s:Nat)
 |Aaf (n:Nat)
 |tkx (s:Nat)
 |zY (n s:Nat) (y:AE)
 |zl (f:FuncId) (args:List AE)
 |z8 (n:Nat) (zero:Fq) (x:AE)
 |zj (f:FuncId) (x:AE) (ys:List AE)
 |zO (f:FuncId) (x:AE)
 |yt (gs:List GC)
 |stx (n:Nat) (s q:Nat)
 |zV (f:FuncId) (args:List AE)
 |zi (f:FuncId) (args:List AE)
 |isn (x:AE)
 |lac (x:AE)
 |ctk (x:AE)
 |cpt (x:AE) (q:Nat)
 |cut (n s:Nat) (hi:AE)
 |zx (f:FuncId) (args:List AE)
 |Aal (ps:List (Option AR)) (x:AE)
 |Aae (n s:Nat) (z:TV) (x:AE)
 |y6 (f:FuncId) (args:List AE) (i:Nat)
 |zW (f:FuncId) (args:List AE)
 |Aac (n:Nat)
 |ldb (s n:Nat)
 |Aan (q:Nat)
 |zu (m q:Nat)
 |lan (x:AE)
 |nia (x i:AE)
 |nld (x:AE)
 |nst (x v:AE)
 |Aay (q:Nat)
 |zv (f:FuncId) (args:List AE) (i:Nat)
 |ldg (s n:Nat)
 |stq (n:Nat) (ps:List (Option AR)) (x v:AE)
 |mkm
 |mvm (s:Nat)
 |zm (f:FuncId) (args:List AE)
 |mlk (s:Nat) (m x:AE)
 |mup (s:Nat) (m x v:AE)
 |x7 (s:Nat) (m:AE)
 |mnx (s:Nat)
 |men (s:Nat)
 |fdv (x:AE) (k:Nat)
 |ldv (x:AE) (n:Nat)
structure PR where
 dst:Option Nat
 op:AD
 guard:Option (Nat×Bool)
inductive PC where
 |skip (live:QQ)
 |ret
 |exit (id:Nat) (live:QQ)
 |seq (a b:PC)
 |cond (c:AE) (a b:PC)
 |block (id:Nat) (c:PC)
 |loop (live:QQ) (c:PC)
 |region (ops:List PR) (live:QQ)
 |draw (D:QQ) (ops:List PR) (live:QQ)
 |rls (s:Nat) (c:PC)
 |bad
def Rl(O:AB):QQ->Bool
 |[]=>true|d::ds=>O.gt d&&Rl O ds
inductive Al where
 |sh (t:TV)
 |own (t:TV)
 |tp (ts:Fq)
 |turn (zs:Fp) (us:Fq)
 |cut (zs:Fp)
 |zX (n:Nat) (es:Fq)
 |yr (cs:List AR)
 |bo (cs cs':List AR) (i:Nat) (ts:Fq)
 |ext (ts:Fq)
 |ag (cs:List AR) (i:Nat) (r:Al)
 |mpr (kvs:BM) (ts:Fq)
def Al.WF:Al->Prop
 |.sh t=>t.WF|.own t=>t.WF|.tp ts=>TV.tg ts|.turn zs us=>(TV.list 1 (zs.map (TV.int .i64))).WF/\TV.tg us|.cut zs=>(TV.list 1 (zs.map (TV.int .i64))).WF|.zX n es=>(TV.list n es).WF|.yr cs=>∀c∈cs,c.t.WF|.bo _ cs' _ ts=>(∀c∈cs',c.t.WF)/\TV.tg ts|.ext ts=>TV.tg ts|.ag _ _ r=>r.WF|.mpr kvs ts=>BM.WF kvs/\TV.tg ts
def Al.plain:Al->Bool
 |.turn ..=>false|.cut _=>false|.bo ..=>false|.ext _=>false|.ag ..=>false|.mpr ..=>false|_=>true
def Al.ev:Al->EV
 |.sh t=>.tv t|.own t=>.ow t|.tp ts=>.tp ts|.zX n es=>.ow (.list n es)|.yr cs=>.tv (.agg (cs.map fun c=>c.rel.t))|_=>.undef
def Al.aev:Al->EV
 |.yr cs=>.yr cs|r=>r.ev
mutual
def TV.flat:TV->Bool
 |.int _ _=>true|.bool _=>true|.str _=>true|.agg cs=>TV.ye cs|_=>false
def TV.ye:Fq->Bool
 |[]=>true|t::ts=>t.flat&&TV.ye ts
end
def AR.toX:AR->AR
 |⟨true,.list n es⟩=>⟨true,.xl n es⟩|c=>c
def AR.Xable(c:AR):Prop:=∃n es,c=⟨true,.list n es⟩/\TV.ye es=true
def EV.free:EV->Bool
 |.tv t=>t.flat|.undef=>true|.sk=>true|_=>false
def AE.ya(O:AB):AE->Option ((Nat×Option Nat)×Nat×Fq)
 |.s m=>match O.get m with
  |.xo n es=>some ((m,none),n,es)|.la q i=>match O.x4 q i with
   |some p=>some ((q,i),p)|none=>none
  |_=>none
 |.c _=>none
def AE.Aaz(O:AB)(x:AE):Option TV:=
 match x.ya O with
 |some p=>some (.list p.2.1 p.2.2)|none=>match x.ev O with
  |.bx cs=>some (.pt (cs.map AR.Aam))|.bp q off=>match O.get q with
   |.bx cs=>some (.pt ((cs.drop off).map AR.Aam))|_=>none
  |e=>e.val
def yZ(O:AB):List AE->Option Fq
 |[]=>some []|x::xs=>match x.Aaz O,yZ O xs with
  |some t,some ts=>some (t::ts)|_,_=>none
def Al.Aaq:Al->Bool
 |.sh t=>t.flat|.tp ts=>TV.ye ts|.own (.list _ es)=>TV.ye es|_=>false
def H6(O:AB):Nat->List AE->Option Fq
 |_,[]=>some []|0,_::xs=>match vals O xs with
  |some ts=>some (.undef::ts)|none=>none
 |i+1,x::xs=>match x.val O,H6 O i xs with
  |some t,some ts=>some (t::ts)|_,_=>none
def EV.ofs:Fq->EV
 |[t]=>.tv t|ts=>.tp ts
def D2:List (Option AR)->Fq->Option (List AR)
 |[],[]=>some []|none::ps,t::ts=>match D2 ps ts with
  |some cs=>some (⟨false,t⟩::cs)|none=>none
 |some c::ps,.nil::ts=>match c,D2 ps ts with
  |⟨true,.list n []⟩,some cs=>some (⟨true,.list n []⟩::cs)|⟨true,.xl n []⟩,some cs=>some (⟨true,.xl n []⟩::cs)|⟨true,.xn []⟩,some cs=>some (⟨true,.xn []⟩::cs)|_,_=>none
 |_,_=>none
section
variable(S:FuncId->Fq->Al->Prop)
def Ad{α:Type}(o:Option α)(K:α->Prop):Prop:=
 match o with
 |some a=>K a|none=>False
def Gc:Fq->Option TV
 |[]=>none|t::_=>some t
def strip:AB->Nat->AB
 |O,s=>(s,.undef)::O
def AD.wp(O:AB)(dst:Option Nat)(K:EV->AB->Prop):AD->Prop
 |.mv x=>match x.ev O with
  |.tv t=>K (.tv t) O|.ow t=>K (.tv t) O|.tp ts=>K (.tp ts) O|_=>False
 |.tk s=>match O.get s with
  |.ow t=>K (.ow t) ((s,.tv t)::O)|.tv t=>K (.tv t) O|_=>False
 |.Aat n=>K (.ow (.list n [])) O|.y5 x k=>match x.ev O with
  |.tv (.pt row)=>K (.tv (.pt (row.drop k))) O|.bp s off=>match O.get s with
   |.bx _=>K (.bp s (off+k)) O|_=>False
  |_=>False
 |.bad s k=>match O.get s with
  |.bx _=>K (.bp s k) O|.tv (.pt row)=>K (.tv (.pt (row.drop k))) O|_=>False
 |.iad x i n=>match x.val O,i.val O with
  |some (.list m es),some (.int _ j)=>m=n/\0<=j/\∃e,es[j.toNat]?=some e/\K (.tv (.pt e.cells)) O|_,_=>False
 |.zr x i n k=>match x.ev O,i.val O with
  |.tv (.pt row),some (.int _ j)=>0<=j/\j<k/\k*n<=row.length/\K (.tv (.pt (row.drop (j.toNat*n)))) O|_,_=>False
 |.ld x=>Ad (A3 O (x.ev O)) fun cs=>Ad (Gc cs) fun t=>t.zt=false/\K (.tv t) O|.lda x n=>Ad (A3 O (x.ev O)) fun cs=>n<=cs.length/\K (.tv (.agg (cs.take n))) O|.ldb s n=>match O.get s with
  |.bx cs=>n<=(cs.map (·.t)).length/\K (.tv (.agg ((cs.map (·.t)).take n))) O|_=>False
 |.ldt x=>match x.place O with
  |some (s,off)=>match O.get s with
   |.bx cs=>match cs[off]? with
    |some ⟨true,.list n es⟩=>K (.ow (.list n es)) ((s,.bx (cs.set off ⟨false,.list n es⟩))::O)|_=>False
   |_=>False
  |none=>False
 |.bin k op x y=>match x.val O,y.val O with
  |some a,some b=>Ad (LV k op a b) fun t=>K (.tv t) O|_,_=>False
 |.not x=>match x.val O with
  |some (.bool b)=>K (.tv (.bool !b)) O|_=>False
 |.neg x=>match x.val O with
  |some (.int k n)=>K (.tv (.int k (k.wrap (-n)))) O|_=>False
 |.pick c a b=>match c.val O with
  |some (.bool q)=>match(if q then a else b).ev O with
   |.tv t=>K (.tv t) O|.ow t=>K (.tv t) O|_=>False
  |_=>False
 |.len x=>match x.val O with
  |some (.list _ es)=>K (.tv (.int .i64 es.length)) O|_=>False
 |.AaA x=>match x.val O with
  |some (.str s)=>K (.tv (.int .i64 s.size)) O|_=>False
 |.y9 n x lo hi=>match x.val O with
  |some (.list m es)=>match Gh O 0 lo,Gh O es.length hi with
   |some (.int _ l),some (.int _ h)=>(m=n/\0<=l/\l<=h)/\h<=es.length/\K (.tv (.list n ((es.take h.toNat).drop l.toNat))) O|_,_=>False
  |_=>False
 |.yu x lo hi=>match x.val O with
  |some (.str s)=>match Gh O 0 lo,Gh O s.size hi with
   |some (.int _ l),some (.int _ h)=>0<=l/\l<=h/\h<=s.size/\K (.tv (.str (s.extract l.toNat h.toNat))) O|_,_=>False
  |_=>False
 |.z7 zero parts=>Ad (GP O parts) fun ts=>Ad (Ed zero ts) fun cs=>K (.tv (.agg cs)) O|.lst n parts=>Ad (vals O parts) fun ts=>(∀t∈ts,t.cells.length=n)/\K (.ow (.list n ts)) O|.app n x y=>match x.ev O,y.val O with
  |.ow (.list m es),some (.list m' fs)=>m=n/\m'=n/\es.length+fs.length<=AU/\
    K (.ow (.list n (es++fs))) (match x with|.s s=>(s,.tv (.list n es))::O|_=>O)
  |_,_=>False
 |.call f args=>Ad (vals O args) fun ts=>∃r,(S f ts r/\r.plain=true)/\(r.WF->K r.ev O)|.Aaj x args=>match x.val O,vals O args with
  |some (.zc f caps),some ts=>∃r,(S f (ts++caps) r/\r.plain=true)/\(r.WF->K r.ev O)|_,_=>False
 |.zc f caps=>Ad (vals O caps) fun ts=>K (.tv (.zc f ts)) O|.ext x i=>match x.ev O with
  |.tp ts=>Ad ts[i]? fun t=>K (.tv t) O|_=>False
 |.y8 k x=>match x.val O with
  |some (.int _ n)=>K (.tv (.int k (k.wrap n))) O|_=>False
 |.za x i=>match x.val O,i.val O with
  |some (.str s),some (.int _ j)=>0<=j/\∃b,s[j.toNat]?=some b/\K (.tv (.int .u8 b.toNat)) O|_,_=>False
 |.Aak x=>match x.val O with
  |some t=>K (.tv (.pt t.cells)) O|_=>False
 |.Aau x=>match x.val O,dst with
  |some t,some d=>O.gt d=true/\K (.bx (t.cells.map (⟨false,·⟩))) O|_,_=>False
 |.mm mx x y=>match x.val O,y.val O with
  |some (.int k a),some (.int k' b)=>k=k'/\K (.tv (.int k (if mx then max a b else min a b))) O|_,_=>False
 |.alc cs=>match dst with
  |some d=>O.gt d=true/\K (.bx cs) O|none=>False
 |.st n x v=>match x.place O with
  |some (s,off)=>match O.get s with
   |.bx cs=>match v.ev O with
    |.ow t=>match v with
     |.s q=>q≠s/\n=1/\off<cs.length/\K .undef ((s,.bx (cs.set off ⟨true,t⟩))::(q,.tv t)::O)|_=>False
    |.tv t=>t.cells.length=n/\off+n<=cs.length/\K .undef ((s,.bx (cs.take off++t.cells.map (⟨false,·⟩)++cs.drop (off+n)))::O)|_=>False
   |_=>False
  |none=>False
 |.stb n s v=>match O.get s with
  |.bx cs=>match v.ev O with
   |.ow t=>match v with
    |.s q=>q≠s/\n=1/\0<cs.length/\K .undef ((s,.bx (cs.set 0 ⟨true,t⟩))::(q,.tv t)::O)|_=>False
   |.tv t=>t.cells.length=n/\0+n<=cs.length/\K .undef ((s,.bx (cs.take 0++t.cells.map (⟨false,·⟩)++cs.drop (0+n)))::O)|_=>False
  |_=>False
 |.frz s=>match O.get s with
  |.bx cs=>K .undef ((s,.tv (.pt (cs.map (·.t))))::O)|_=>False
 |.AaE x k n agg=>match x.val O with
  |some (.agg cs)=>k+n<=cs.length/\(if agg then K (.tv (.agg ((cs.drop k).take n))) O else Ad (Gc (cs.drop k)) fun t=>K (.tv t) O)|_=>False
 |.xal s=>match O.get s with
  |.xo _ _=>K (.la s none) O|_=>False
 |.Aas x=>Ad (x.ya O) fun p=>K (.tv (.int .i64 p.2.2.length)) O|.xia x i n=>Ad (x.ya O) fun p=>match i.val O with
  |some (.int _ j)=>((x.ev O).yc=some p.1.1/\p.2.1=n)/\0<=j/\j<p.2.2.length/\K (.lp p.1.1 p.1.2 (j.toNat*n)) O|_=>False
 |.xfa x k=>match x.ev O with
  |.lp q i c=>match O.x4 q i with
   |some _=>K (.lp q i (c+k)) O|none=>False
  |_=>False
 |.xld x=>match x.ev O with
  |.lp q i c=>match O.x4 q i with
   |some p=>Ad (p.2.flatMap TV.cells)[c]? fun t=>K (.tv t) O|none=>False
  |_=>False
 |.xst x v k=>match x.ev O with
  |.lp q i c=>match O.x4 q i,v.ev O with
   |some (n,es),.tv t=>(t.cells.length=k/\0<k)/\c+k<=es.length*n/\∃es',es'.flatMap TV.cells=(es.flatMap TV.cells).take c++t.cells++(es.flatMap TV.cells).drop (c+k)/\es'.length=es.length/\(∀e∈es',e.cells.length=n)/\K .undef (O.ym q i n es')|_,_=>False
  |_=>False
 |.rel s=>match dst,O.get s with
  |some d,.xo n es=>d≠s/\K (.ow (.list n es)) ((s,.undef)::O)|_,_=>False
 |.Aaf n=>match dst with
  |some d=>O.gt d=true/\K (.xo n []) O|none=>False
 |.tkx s=>match dst,O.get s with
  |some d,.xo n es=>O.gt d=true/\d≠s/\K (.xo n es) ((s,.undef)::O)|_,_=>False
 |.zY n s y=>match dst,O.get s,y.val O with
  |some d,.xo m es,some (.list m' fs)=>m=n/\m'=n/\es.length+fs.length<=AU/\O.gt d=true/\d≠s/\K (.xo n (es++fs)) ((s,.undef)::O)|_,_,_=>False
 |.zl f args=>match dst with
  |some d=>O.gt d=true/\Ad (vals O args) fun ts=>∃n es,(S f ts (.zX n es)\/(S f ts (.own (.list n es))/\TV.ye es=true))/\((TV.list n es).WF->K (.xo n es) O)|none=>False
 |.z8 n zero x=>match dst,x.val O with
  |some d,some (.int _ j)=>O.gt d=true/\0<=j/\j<=4096/\K (.xo n (List.replicate j.toNat (match zero with|[t]=>t|ts=>.agg ts))) O
  |_,_=>False
 |.yt gs=>match dst with
  |some d=>((gs.filterMap GC.src).Nodup/\d∉gs.filterMap GC.slot)/\Ad (I9 O gs) fun cs=>K (.yr cs) (Qb O (gs.filterMap GC.slot) O)|none=>False
 |.stx n s q=>match O.get s,O.get q with
  |.bx cs,.yr ds=>q≠s/\(ds.length=n/\((ds.all fun c=>!c.t.zt)||O.noX s none)=true)/\0+n<=cs.length/\K .undef ((s,.bx (cs.take 0++ds++cs.drop (0+n)))::(q,.undef)::O)|_,_=>False
 |.zV f args=>Ad (vals O args) fun ts=>∃cs,S f ts (.yr cs)/\((∀c∈cs,c.t.WF)->K (.yr cs) O)|.zi f args=>Ad (vals O args) fun ts=>∃cs,S f ts (.yr cs)/\(∀c∈cs,c.Xable)/\((∀c∈cs,c.t.WF)->K (.yr (cs.map AR.toX)) O)|.fdv x k=>match x.val O with
  |some (.pt row)=>K (.tv (.pt (row.drop k))) O|_=>False
 |.ldv x n=>match x.val O with
  |some (.pt row)=>n<=row.length/\K (.tv (.agg (row.take n))) O|_=>False
 |.isn x=>match x.val O with
  |some (.list _ es)=>∀b:Bool,(b=true->es=[])->K (.tv (.bool b)) O|some .nil=>K (.tv (.bool true)) O|_=>False
 |.zj f x ys=>Ad (x.ya O) fun p=>p.2.1=1/\Ad (vals O ys) fun ts=>∃(zs zs':Fp)(us:Fq),p.2.2=zs.map (TV.int .i64)/\S f (.list 1 p.2.2::ts) (.turn zs' us)/\((Al.turn zs' us).WF->K (EV.ofs us) (O.ym p.1.1 p.1.2 1 (zs'.map (TV.int .i64))))|.zO f x=>match dst with
  |some d=>Ad (x.ya O) fun p=>(p.1.1≠d/\p.1.2=none)/\p.2.1=1/\O.gt d=true/\∃zs zs':Fp,p.2.2=zs.map (TV.int .i64)/\S f [.list 1 p.2.2] (.cut zs')/\((TV.list 1 (zs'.map (TV.int .i64))).WF->K (.xo 1 (zs'.map (TV.int .i64))) ((p.1.1,.undef)::O))|none=>False
 |.lac x=>match x.ev O with
  |.bp s off=>match O.x4 s (some off)with
   |some _=>K (.la s (some off)) O|none=>False
  |_=>False
 |.ctk x=>match dst,x.place O with
  |some d,some (s,off)=>match O.get s with
   |.bx cs=>match cs[off]? with
    |some ⟨true,.xl n es⟩=>O.gt d=true/\K (.xo n es) ((s,.bx (cs.set off ⟨false,.undef⟩))::O)|some ⟨true,.xn es⟩=>O.gt d=true/\K (.xn es) ((s,.bx (cs.set off ⟨false,.undef⟩))::O)|_=>False
   |_=>False
  |_,_=>False
 |.cpt x q=>match x.place O,O.get q with
  |some (s,off),.xo n es=>match O.get s with
   |.bx cs=>O.noX s (some off)=true/\off<cs.length/\K .undef ((s,.bx (cs.set off ⟨true,.xl n es⟩))::(q,.undef)::O)|_=>False
  |some (s,off),.xn es=>match O.get s with
   |.bx cs=>O.noX s (some off)=true/\off<cs.length/\K .undef ((s,.bx (cs.set off ⟨true,.xn es⟩))::(q,.undef)::O)|_=>False
  |_,_=>False
 |.cut n s hi=>match dst,O.get s,hi.val O with
  |some d,.xo m es,some (.int _ h)=>(m=n/\O.gt d=true/\d≠s)/\0<=h/\h<=es.length/\K (.xo n (es.take h.toNat)) ((s,.undef)::O)|_,_,_=>False
 |.Aae n s z x=>match dst,O.get s,x.val O with
  |some d,.xo m es,some (.int _ j)=>((m=n/\n=1)/\z.cells=[z])/\(0<=j/\j<=4096)/\(es.length+j.toNat<=AU/\O.gt d=true/\d≠s)/\K (.xo n (es++List.replicate j.toNat z)) ((s,.undef)::O)|_,_,_=>False
 |.zx f args=>Ad (yZ O args) fun ts=>∃r,(S f ts r/\r.Aaq=true)/\(r.WF->K r.ev O)|.zW f args=>Ad (vals O args) fun ts=>∃us,S f ts (.ext us)/\K (.tp us) O|.Aal ps x=>match x.val O,dst with
  |some t,some d=>Ad (D2 ps t.cells) fun cs=>O.gt d=true/\K (.bx cs) O|_,_=>False
 |.Aac n=>match dst with
  |some d=>O.gt d=true/\K (.xo n []) O|none=>False
 |.y6 f args i=>match dst,(args[i]?).bind (·.place O)with
  |some d,some (s,0)=>match O.get s with
   |.bx cs=>(O.noX s none=true/\d≠s)/\Ad (H6 O i args) fun ts=>∃cs' us,S f ts (.bo cs cs' i us)/\((∀c∈cs',c.t.WF)/\TV.tg us->K (EV.ofs us) ((s,.bx cs')::O))|_=>False
  |_,_=>False
 |.Aan q=>match dst,O.get q with
  |some d,.xo n fs=>(O.gt d=true/\d≠q)/\K (.x1 n fs) ((q,.undef)::O)|_,_=>False
 |.zu m q=>match dst,O.get m,O.get q with
  |some d,.nh s off .hd,.x1 n fs=>match O.get s with
   |.bx cs=>Ad (O.nat s off) fun es=>es.length+1<=AU/\(O.gt d=true/\d≠m/\d≠q/\m≠q)/\K (.xn (es++[.list n fs])) ((s,.bx (cs.set off ⟨false,.undef⟩))::(m,.undef)::(q,.undef)::O)|_=>False
  |_,_,_=>False
 |.lan x=>match x.ev O with
  |.bp s off=>Ad (O.nat s off) fun _=>K (.nh s off .hd) O|_=>False
 |.nia x i=>match x.ev O,i.val O with
  |.nh s off .hd,some (.int _ j)=>Ad (O.nat s off) fun es=>0<=j/\j<es.length/\K (.nh s off (.el j.toNat)) O|.nh s off (.rw r),some (.int _ j)=>Ad (O.nat s off) fun es=>0<=j/\∃fs,es[r]?=some (.list 1 fs)/\j<fs.length/\K (.nh s off (.rp r j.toNat)) O|_,_=>False
 |.nld x=>match x.ev O with
  |.nh s off (.el r)=>Ad (O.nat s off) fun es=>r<es.length/\K (.nh s off (.rw r)) O|_=>False
 |.nst x v=>match x.ev O,v.ev O with
  |.nh s off (.rp r c),.tv t=>Ad (O.nat s off) fun es=>∃fs,es[r]?=some (.list 1 fs)/\c<fs.length/\t.cells=[t]/\t.flat=true/\K .undef (O.AaL s off (es.set r (.list 1 (fs.set c t))))|_,_=>False
 |.Aay q=>match dst,O.get q with
  |some d,.yr cs=>(O.gt d=true/\d≠q)/\K (.bx cs) ((q,.undef)::O)|_,_=>False
 |.zv f args i=>match dst,args[i]? with
  |some d,some (.s q)=>match O.get q with
   |.yr cs=>d≠q/\Ad (H6 O i args) fun ts=>∃r,S f (ts.set i (.agg (cs.map fun _=>.undef))) (.ag cs i r)/\(r.WF->K r.aev ((q,.undef)::O))|_=>False
  |_,_=>False
 |.ldg s n=>match dst,O.get s with
  |some d,.bx cs=>cs.length=n/\d≠s/\K (.yr cs) ((s,.bx (cs.map fun _=>⟨false,.undef⟩))::O)|_,_=>False
 |.stq n ps x v=>match x.place O,v.val O with
  |some (s,off),some t=>match O.get s with
   |.bx cs=>Ad (D2 ps t.cells) fun ds=>t.cells.length=n/\off+n<=cs.length/\O.noX s none=true/\K .undef ((s,.bx (cs.take off++ds++cs.drop (off+n)))::O)|_=>False
  |_,_=>False
 |.mkm=>∀b,K (.mx (.mp b [])) O|.mvm s=>match O.get s with
  |.mx (.mp b _)=>K (.tv (.zE b)) O|.mx (.tm b _ ts)=>K (.tp (.zE b::ts)) O|.tp ts=>K (.tp ts) O|_=>False
 |.zm f args=>Ad (vals O args) fun ts=>(∃us,S f ts (.tp us)/\(TV.tg us->K (.tp us) O))\/∃kvs us,S f ts (.mpr kvs us)/\(BM.WF kvs/\TV.tg us->∀b,K (.mx (.tm b kvs us)) O)|.mlk s m x=>match O.get s,m.val O,x.val O with
  |.mx (.mp b kvs),some (.zE b'),some t=>b=b'/\Ad t.AaJ? fun k=>K (.tp [.int .i64 ((kvs.look k).getD 0),.bool (kvs.look k).isSome]) O|_,_,_=>False
 |.mup s m x v=>match O.get s,m.val O,x.val O with
  |.mx (.mp b kvs),some (.zE b'),some t=>match v.val O with
   |some (.int .i64 n)=>b=b'/\Ad t.AaJ? fun k=>K .undef ((s,.mx (.mp b (kvs.set k n)))::O)|_=>False
  |_,_,_=>False
 |.x7 s m=>match dst,O.get s,m.val O with
  |some d,.mx (.tm b kvs _),some (.zE b')=>(d≠s/\b=b')/\K (.mx (.mi none kvs)) ((s,.undef)::O)|_,_,_=>False
 |.mnx s=>match dst,O.get s with
  |some d,.mx (.mi _ todo)=>d≠s/\(todo=[]->K (.tp [.bool false]) O)/\∀p todo',todo.Perm (p::todo')->K (.tp [.bool true,RT p.1,.int .i64 p.2]) ((s,.mx (.mi (some p) todo'))::O)|_,_=>False
 |.men s=>match O.get s with
  |.mx (.mi (some p) _)=>K (.tp [RT p.1,.int .i64 p.2]) O|_=>False
def AB.put(O:AB)(dst:Option Nat)(e:EV):AB:=
 match dst with
 |some d=>(d,e)::O|none=>O
def PR.wp(O:AB)(K:AB->Prop)(o:PR):Prop:=
 match o.guard with
 |none=>o.op.wp S O o.dst fun e env'=>K (env'.put o.dst e)|some (g,b)=>match O.get g with
  |.tv (.bool q)=>(q=b->o.op.wp S O o.dst fun e env'=>K (env'.put o.dst e))/\(q=!b->K (O.put o.dst .sk))|.sk=>K (O.put o.dst .sk)|_=>False
def wpOps(K:AB->Prop):List PR->AB->Prop
 |[],O=>K O|o::os,O=>o.wp S O fun env'=>wpOps K os env'
structure Q where
 normal:AB->Prop
 exit:Nat->AB->Prop
 ret:AB->Prop
def PC.wp:PC->Q->AB->Prop
 |.skip live,q,O=>q.normal (O.fm live)|.ret,q,O=>q.ret O|.exit id live,q,O=>q.exit id (O.fm live)|.seq a b,q,O=>a.wp {q with normal:=fun e=>(∀s,(e.get s).WF)->b.wp q e} O
 |.cond c a b,q,O=>match c.val O with
  |some (.bool x)=>(x=true->a.wp q O)/\(x=false->b.wp q O)|_=>False
 |.block id c,q,O=>c.wp {q with exit:=fun i e=>if i=id then q.normal e else q.exit i e} O
 |.loop live c,q,O=>∀X:AB->Prop,(∀e,((∀s,(e.get s).WF)->c.wp {q with normal:=fun e'=>X (e'.fm live)} e)->X e)->X (O.fm live)
 |.region ops live,q,O=>wpOps S (fun e=>q.normal (e.fm live)) ops O|.draw D ops live,q,O=>Rl O D=true/\wpOps S (fun e=>q.normal (e.fm live)) ops O|.bad,_,_=>False|.rls s c,q,O=>match O.get s with
  |.bx cs=>c.wp q ((s,.bx (cs.map AR.rel))::O)|_=>False
end
inductive RV where
 |tmp (s:Nat)
 |cell (s:Nat) (agg:Option Nat)
def RV.get(O:AB):RV->Option TV
 |.tmp s=>(O.get s).val|.cell s none=>match A3 O (O.get s)with
  |some (t::_)=>some t|_=>none
 |.cell s (some n)=>match A3 O (O.get s)with
  |some cs=>if cs.length=n then some (.agg cs)else none|none=>none
def Dz(O:AB):List RV->Option Fq
 |[]=>some []|x::xs=>match x.get O,Dz O xs with
  |some t,some ts=>some (t::ts)|_,_=>none
def BE(rs:List RV)(r:Al)(O:AB):Prop:=
 match r,rs with
 |.own t,[.tmp s]=>O.get s=.ow t|.own _,_=>False|.sh t,[x]=>x.get O=some t|.sh _,_=>False|.tp ts,rs=>rs.length≠1/\Dz O rs=some ts|.turn zs us,rs=>O.get 0=.xo 1 (zs.map (TV.int .i64))/\Dz O rs=some us|.cut _,_=>False|.zX n es,[.tmp s]=>O.get s=.xo n es|.zX _ _,_=>False|.yr cs,[.cell s (some n)]=>O.get s=.bx cs/\cs.length=n|.yr _,_=>False|.bo _ cs' i ts,rs=>O.get i=.bx cs'/\Dz O rs=some ts|.ext _,_=>False|.ag _ _ r,rs=>BE rs r O|.mpr kvs ts,.tmp s::rs=>rs≠[]/\(∃b o,O.get s=.tv (.zE b)/\O.get o=.mx (.mp b kvs))/\Dz O rs=some ts|.mpr _ _,_=>False
end Go.Sf
namespace Go.Sf
def BS(w w':World)(F F':Nat->Nat->Prop):Prop:=
 ∀b o v,w.cell? ⟨b,o,none⟩=some v->¬F b o->w'.cell? ⟨b,o,none⟩=some v/\¬F' b o
section
variable{w w':World}{F F':Nat->Nat->Prop}
mutual
theorem By(h:BS w w' F F'):∀(t:TV)(v:Value),Af w F t v->Af w' F' t v
 |.undef,_,a=>a|.int _ _,_,a=>a|.bool _,_,a=>a|.str _,_,a=>a|.nil,_,a=>a|.list n es,v,a=>by
  have:=Sr h n es
  grind [Af]
 |.agg cs,v,a=>by
  have:=Aj h cs
  grind [Af]
 |.pt row,v,a=>by
  have:=PD h row
  grind [Af]
 |.zc f c,v,a=>by
  have:=Aj h c
  grind [Af]
 |.xl _ _,_,a=>a|.xn _,_,a=>a|.zE _,_,a=>a
theorem Aj(h:BS w w' F F'):∀(ts:Fq)(vs:List Value),AP w F ts vs->AP w' F' ts vs
 |[],_,a=>a|t::ts,vs,a=>by
  simp [AP]at a|-;obtain⟨v,r,c,d,e⟩:=a;exact⟨v,r,c,By h t v d,Aj h ts r e⟩
theorem PD(h:BS w w' F F'):∀(ts:Fq)(b o:Nat),C0 w F ts b o->C0 w' F' ts b o
 |[],_,_,_=>trivial|t::ts,b,o,d=>by
  simp [C0]at d|-;obtain⟨⟨v,a,c,e,f⟩,g⟩:=d;exact⟨⟨v,(h b o v a c).1,(h b o v a c).2,e,By h t v f⟩,PD h ts b (o+1) g⟩
theorem Sr(h:BS w w' F F')(n:Nat):∀(ts:Fq)(b o:Nat),Hw w F n ts b o->Hw w' F' n ts b o
 |[],_,_,_=>trivial|t::ts,b,o,a=>by
  simp [Hw]at a|-;exact⟨fQ h t b o a.1,a.2.1,Sr h n ts b (o+n) a.2.2⟩
theorem fQ(h:BS w w' F F'):∀(t:TV)(b o:Nat),Hv w F t b o->Hv w' F' t b o
 |.agg cs,b,o,c=>PD h cs b o c|.undef,b,o,c=>by
  simp [Hv]at c|-;obtain⟨v,d,e,g⟩:=c;exact⟨v,(h b o v d e).1,(h b o v d e).2,g⟩
 |.int _ _,b,o,c=>by
  simp [Hv]at c|-;obtain⟨v,d,e,g⟩:=c;exact⟨v,(h b o v d e).1,(h b o v d e).2,g⟩
 |.bool _,b,o,c=>by
  simp [Hv]at c|-;obtain⟨v,d,e,g⟩:=c;exact⟨v,(h b o v d e).1,(h b o v d e).2,g⟩
 |.str _,b,o,c=>by
  simp [Hv]at c|-;obtain⟨v,d,e,g⟩:=c;exact⟨v,(h b o v d e).1,(h b o v d e).2,g⟩
 |.nil,b,o,c=>by
  simp [Hv]at c|-;obtain⟨v,d,e,g⟩:=c;exact⟨v,(h b o v d e).1,(h b o v d e).2,g⟩
 |.list n es,b,o,c=>by
  simp [Hv]at c|-;obtain⟨v,d,e,j,a,cap,g,q,k,p⟩:=c;exact⟨v,(h b o v d e).1,(h b o v d e).2,j,a,cap,g,q,k,fun m i=>⟨(p m i).1,Sr h n es _ _ (p m i).2⟩⟩
 |.pt row,b,o,c=>by
  simp [Hv]at c|-;obtain⟨v,d,e,j,r,s,g,k⟩:=c;exact⟨v,(h b o v d e).1,(h b o v d e).2,j,r,s,g,PD h row _ _ k⟩
 |.zc f l,b,o,c=>by
  simp [Hv]at c|-;obtain⟨v,d,e,j,vs,g,k⟩:=c;exact⟨v,(h b o v d e).1,(h b o v d e).2,j,vs,g,Aj h l _ k⟩
 |.xl _ _,b,o,c=>by
  simp [Hv]at c|-;obtain⟨v,d,e,g⟩:=c;exact⟨v,(h b o v d e).1,(h b o v d e).2,g⟩
 |.xn _,b,o,c=>by
  simp [Hv]at c|-;obtain⟨v,d,e,g⟩:=c;exact⟨v,(h b o v d e).1,(h b o v d e).2,g⟩
 |.zE _,b,o,c=>by
  simp [Hv]at c|-;obtain⟨v,d,e,g⟩:=c;exact⟨v,(h b o v d e).1,(h b o v d e).2,g⟩
end
end
section
variable{w:World}{F:Nat->Nat->Prop}
theorem IL:∀(ts:Fq)(b o:Nat),C0 w F ts b o↔∀i t,ts[i]?=some t->∃v,w.cell? ⟨b,o+i,none⟩=some v/\¬F b (o+i)/\v.oneCell'=true/\Af w F t v
 |[],_,_=>by simp[C0]|t::ts,b,o=>by
  simp [C0,IL ts b (o+1)];constructor
  .grind
  .intro h;refine⟨by simpa using h 0 t rfl,fun i u hi=>?_⟩;have:=h (i+1) u (by simpa using hi)
   grind
variable{ts:Fq}{b o:Nat}
theorem PB(h:C0 w F ts b o)(k:Nat):C0 w F (ts.drop k) b (o+k):=by
 rw [IL]at h|-
 grind
theorem cD(h:C0 w F ts b o)(k:Nat):C0 w F (ts.take k) b o:=by
 rw [IL]at h|-
 grind
variable{n:Nat}
theorem QC{e:TV}{es:Fq}:Hw w F n (e::es) b o↔C0 w F e.cells b o/\e.cells.length=n/\Hw w F n es b (o+n):=by grind[Hw,fP]
theorem RD(n:Nat):∀(es:Fq)(b o:Nat),Hw w F n es b o↔∀i e,es[i]?=some e->C0 w F e.cells b (o+i*n)/\e.cells.length=n
 |[],_,_=>by simp[Hw]|e::es,b,o=>by
  rw [QC,RD n es b (o+n)];constructor
  .rintro⟨c,d,f⟩ i u hi;cases i with
   |zero=>simp at hi;subst hi;simpa using⟨c,d⟩|succ i=>
    grind
  .intro h;have a:=h 0 e rfl;simp at a;refine⟨a.1,a.2,fun i u hi=>?_⟩;have:=h (i+1) u (by simpa using hi)
   grind
theorem BQ:∀(ts:Fq)(vs:List Value),AP w F ts vs↔vs.length=ts.length/\∀(i:Nat)(t:TV)(v:Value),ts[i]?=some t->vs[i]?=some v->Af w F t v
 |[],vs=>by simp[AP]|t::ts,vs=>by
  simp [AP];constructor
  .rintro⟨v,r,rfl,c,a⟩;rw[BQ ts r]at a
   grind
  .rintro⟨c,a⟩;cases vs with
   |nil=>simp at c|cons v r=>exact⟨v,r,rfl,a 0 t v rfl rfl,(BQ ts r).2 ⟨by simpa using c,fun i u x hi d=>a (i+1) u x (by simpa using hi) (by simpa using d)⟩⟩
theorem Hs{ts a:Fq}{vs xs:List Value}(c:AP w F ts vs)(d:AP w F a xs):AP w F (ts++a) (vs++xs):=by
 induction ts generalizing vs with
 |nil=>simp[AP]at c;subst c;simpa using d|cons t ts e=>
  grind [AP]
theorem GD{t:TV}{v:Value}(h:Af w F t v):AP w F t.cells v.cells.toList/\∀x∈v.cells.toList,x.oneCell'=true:=by
 have one:∀{v:Value}{t:TV},v.cells=#[v]->v.oneCell'=true->Af w F t v->t.cells=[t]->AP w F t.cells v.cells.toList/\∀x∈v.cells.toList,x.oneCell'=true:=by
  intro v t j d e l;rw[j,l];exact⟨⟨v,[],rfl,e,rfl⟩,by simpa using d⟩
 cases t with
 |agg cs=>simp only[Af]at h;obtain⟨vs,rfl,d,e⟩:=h;exact⟨d,fun x i=>List.all_eq_true.1 e x i⟩
 |undef=>have c:=h;simp[Af]at h;cases v<;>first|exact one rfl rfl c rfl|(simp[Value.oneCell']at h)
 |xl n es=>have c:=h;simp[Af]at h;cases v<;>first|exact one rfl rfl c rfl|(simp[Value.oneCell']at h)
 |xn es=>have c:=h;simp[Af]at h;cases v<;>first|exact one rfl rfl c rfl|(simp[Value.oneCell']at h)
 |int k n=>have c:=h;simp[Af]at h;subst h;exact one rfl rfl c rfl|bool b=>have c:=h;simp[Af]at h;subst h;exact one rfl rfl c rfl|zE b=>have c:=h;simp[Af]at h;subst h;exact one rfl rfl c rfl|str s=>have c:=h;simp[Af]at h;subst h;exact one rfl rfl c rfl|nil=>have c:=h;simp[Af]at h;subst h;exact one rfl rfl c rfl|list n es=>have c:=h;simp[Af]at h;obtain⟨a,cap,rfl,_⟩:=h;exact one rfl rfl c rfl
 |pt row=>have c:=h;simp[Af]at h;obtain⟨b,o,rfl,_⟩:=h;exact one rfl rfl c rfl
 |zc f g=>have c:=h;simp[Af]at h;obtain⟨vs,rfl,_⟩:=h;exact one rfl rfl c rfl
end
end Go.Sf
namespace Go.Sf
section
variable(S:FuncId->Fq->Al->Prop)
theorem wp_skip(l:QQ)(q:Q)(O:AB):PC.wp S (.skip l) q O=q.normal (O.fm l):=rfl
theorem wp_ret(q:Q)(O:AB):PC.wp S .ret q O=q.ret O:=rfl
theorem wp_exit(id:Nat)(l:QQ)(q:Q)(O:AB):PC.wp S (.exit id l) q O=q.exit id (O.fm l):=rfl
theorem wp_seq(a b:PC)(q:Q)(O:AB):PC.wp S (.seq a b) q O=a.wp S {q with normal:=fun e=>(∀s,(e.get s).WF)->b.wp S q e} O:=rfl
theorem wp_block(id:Nat)(c:PC)(q:Q)(O:AB):PC.wp S (.block id c) q O=c.wp S {q with exit:=fun i e=>if i=id then q.normal e else q.exit i e} O:=rfl
theorem wp_region(ops:List PR)(a:QQ)(q:Q)(O:AB):PC.wp S (.region ops a) q O=wpOps S (fun e=>q.normal (e.fm a)) ops O:=rfl
theorem BL{α:Type}{o:Option α}{K K':α->Prop}(h:∀a,K a->K' a):Ad o K->Ad o K':=by
 cases o<;>simp[Ad];exact h _
theorem AD.og(O:AB)(dst:Option Nat){K K':EV->AB->Prop}(h:∀e env',K e env'->K' e env')(op:AD)(d:op.wp S O dst K):op.wp S O dst K':=by
 cases op<;>simp only[AD.wp]at d|-
 case ld=>exact BL (fun _=>BL (fun _ g=>⟨g.1,h _ _ g.2⟩)) d
 case lda=>exact BL (fun _ g=>⟨g.1,h _ _ g.2⟩) d
 case z7=>exact BL (fun _=>BL (fun _=>h _ _)) d
 case lst=>exact BL (fun _ g=>⟨g.1,h _ _ g.2⟩) d
 case call=>exact BL (fun _⟨r,i,f⟩=>⟨r,i,fun j=>h _ _ (f j)⟩) d
 case zc=>exact BL (fun _=>h _ _) d
 case mm=>split at d<;>first|exact d.elim|exact⟨d.1,h _ _ d.2⟩
 case AaE x k n agg=>
  split at d
  .refine⟨d.1,?_⟩;have f:=d.2;cases agg
   .exact BL (fun _=>h _ _) f
   .exact h _ _ f
  .exact d.elim
 case Aas=>exact BL (fun _=>h _ _) d
 case xia=>exact BL (fun p u=>by
  split at u
  .exact⟨u.1,u.2.1,u.2.2.1,h _ _ u.2.2.2⟩
  .exact u.elim) d
 case xst=>
  split at d
  .split at d
   .obtain⟨i,f,es',l,q,v,D⟩:=d;exact⟨i,f,es',l,q,v,h _ _ D⟩
   .exact d.elim
  .exact d.elim
 case Aac=>split at d<;>first|exact d.elim|exact⟨d.1,h _ _ d.2⟩
 case Aaf=>split at d<;>first|exact d.elim|exact⟨d.1,h _ _ d.2⟩
 case tkx=>split at d<;>first|exact d.elim|exact⟨d.1,d.2.1,h _ _ d.2.2⟩
 case zY=>split at d<;>first|exact d.elim|exact⟨d.1,d.2.1,d.2.2.1,d.2.2.2.1,d.2.2.2.2.1,h _ _ d.2.2.2.2.2⟩
 case zl=>
  split at d
  .exact⟨d.1,BL (fun ts⟨n,es,i,f⟩=>⟨n,es,i,fun j=>h _ _ (f j)⟩) d.2⟩
  .exact d.elim
 case yt=>
  split at d
  .exact⟨d.1,BL (fun _=>h _ _) d.2⟩
  .exact d.elim
 case stx=>split at d<;>first|exact d.elim|exact⟨d.1,d.2.1,d.2.2.1,h _ _ d.2.2.2⟩
 case zV=>exact BL (fun ts⟨cs,i,f⟩=>⟨cs,i,fun j=>h _ _ (f j)⟩) d
 case zi=>exact BL (fun ts⟨cs,i,l,f⟩=>⟨cs,i,l,fun j=>h _ _ (f j)⟩) d
 case zx=>exact BL (fun _⟨r,i,f⟩=>⟨r,i,fun j=>h _ _ (f j)⟩) d
 case Aal=>
  split at d
  .exact BL (fun _ g=>⟨g.1,h _ _ g.2⟩) d
  .exact d.elim
 case zW=>exact BL (fun ts⟨m,i,f⟩=>⟨m,i,h _ _ f⟩) d
 case Aae=>
  split at d
  .exact⟨d.1,d.2.1,d.2.2.1,h _ _ d.2.2.2⟩
  .exact d.elim
 case y6=>
  split at d
  .split at d
   .exact⟨d.1,BL (fun ts⟨cs',m,i,f⟩=>⟨cs',m,i,fun j=>h _ _ (f j)⟩) d.2⟩
   .exact d.elim
  .exact d.elim
 case lan=>
  split at d
  .exact BL (fun _ g=>h _ _ g) d
  .exact d.elim
 case zu=>
  split at d
  .split at d
   .exact BL (fun _ g=>⟨g.1,g.2.1,h _ _ g.2.2⟩) d
   .exact d.elim
  .exact d.elim
 case nia=>
  split at d
  .exact BL (fun _ g=>⟨g.1,g.2.1,h _ _ g.2.2⟩) d
  .exact BL (fun _⟨i,y,f,l,q⟩=>⟨i,y,f,l,h _ _ q⟩) d
  .exact d.elim
 case nld=>
  split at d
  .exact BL (fun _ g=>⟨g.1,h _ _ g.2⟩) d
  .exact d.elim
 case nst=>
  split at d
  .exact BL (fun _⟨y,i,f,l,q,v⟩=>⟨y,i,f,l,q,h _ _ v⟩) d
  .exact d.elim
 case zv=>
  split at d
  .split at d
   .exact⟨d.1,BL (fun _⟨r,i,f⟩=>⟨r,i,fun j=>h _ _ (f j)⟩) d.2⟩
   .exact d.elim
  .exact d.elim
 case mnx=>
  split at d
  .exact⟨d.1,fun e=>h _ _ (d.2.1 e),fun p t B=>h _ _ (d.2.2 p t B)⟩
  .exact d.elim
 case men=>split at d<;>first|exact d.elim|exact h _ _ d
 case stq=>
  split at d
  .split at d
   .exact BL (fun _ g=>⟨g.1,g.2.1,g.2.2.1,h _ _ g.2.2.2⟩) d
   .exact d.elim
  .exact d.elim
 case mkm=>exact fun b=>h _ _ (d b)
 case mvm=>split at d<;>first|exact d.elim|exact h _ _ d
 case zm=>
  refine BL (fun _ g=>?_) d;rcases g with⟨m,i,f⟩|⟨A,m,i,f⟩
  .exact .inl ⟨m,i,fun j=>h _ _ (f j)⟩
  .exact .inr ⟨A,m,i,fun j b=>h _ _ (f j b)⟩
 case x7=>split at d<;>first|exact d.elim|exact⟨d.1,h _ _ d.2⟩
 case mlk=>split at d<;>first|exact d.elim|exact⟨d.1,BL (fun _ g=>h _ _ g) d.2⟩
 case mup=>
  split at d
  .split at d
   .exact⟨d.1,BL (fun _ g=>h _ _ g) d.2⟩
   .exact d.elim
  .exact d.elim
 case fdv=>split at d<;>first|exact d.elim|exact h _ _ d
 case ldv=>split at d<;>first|exact d.elim|exact⟨d.1,h _ _ d.2⟩
 case isn=>
  split at d
  .exact fun b C=>h _ _ (d b C)
  .exact h _ _ d
  .exact d.elim
 case zj=>exact BL (fun p⟨i,f⟩=>⟨i,BL (fun ts⟨zs,s,m,a,b,c⟩=>⟨zs,s,m,a,b,fun j=>h _ _ (c j)⟩) f⟩) d
 case zO=>
  split at d
  .exact BL (fun p⟨z,i,v,zs,s,f,l,q⟩=>⟨z,i,v,zs,s,f,l,fun j=>h _ _ (q j)⟩) d
  .exact d.elim
 all_goals (repeat' split at d)<;>first|exact d.elim|exact h _ _ d|exact⟨d.1,h _ _ d.2⟩|exact⟨d.1,d.2.1,h _ _ d.2.2⟩|exact⟨d.1,d.2.1,d.2.2.1,h _ _ d.2.2.2⟩|exact BL (fun _=>h _ _) d|(obtain⟨r,i,f⟩:=d;exact⟨r,i,fun j=>h _ _ (f j)⟩)|(obtain⟨i,r,f,l⟩:=d;exact⟨i,r,f,h _ _ l⟩)|(obtain⟨z,i,r,f,l⟩:=d;exact⟨z,i,r,f,h _ _ l⟩)
variable{K K':AB->Prop}
theorem PR.og(O:AB)(h:∀e,K e->K' e)(o:PR)(a:o.wp S O K):o.wp S O K':=by
 unfold PR.wp at a|-;split at a
 .grind[AD.og]
 grind [AD.og]
theorem QI(h:∀e,K e->K' e):∀(os:List PR)(O:AB),wpOps S K os O->wpOps S K' os O
 |[],_,a=>h _ a|o::os,O,a=>PR.og S O (fun e=>QI h os e) o a
theorem PC.og:∀(c:PC)(q:Q)(O:AB),c.wp S q O->∀(f:Q),(∀e,q.normal e->f.normal e)->(∀i e,q.exit i e->f.exit i e)->(∀e,q.ret e->f.ret e)->c.wp S f O
 |.skip _,_,_,d,_,h,_,_=>h _ d|.ret,_,_,d,_,_,_,h=>h _ d|.exit _ _,_,_,d,_,_,h,_=>h _ _ d|.seq a b,q,O,d,f,g,j,k=>by
  simp [PC.wp]at d|-;exact PC.og a _ O d _ (fun e he m=>PC.og b q e (he m) f g j k) j k
 |.cond c a b,q,O,d,f,g,j,k=>by
  simp [PC.wp]at d|-;split at d
  .exact⟨fun p=>PC.og a q O (d.1 p) f g j k,fun p=>PC.og b q O (d.2 p) f g j k⟩
  .exact d.elim
 |.block id c,q,O,d,f,g,j,k=>by
  simp [PC.wp]at d|-;exact PC.og c _ O d _ g (fun i e=>by dsimp only;split<;>first|exact g e|exact j i e) k
 |.loop l c,q,O,d,f,g,j,k=>by
  simp [PC.wp]at d|-;exact fun X hX=>d X fun e he=>hX e fun m=>PC.og c _ e (he m) _ (fun _ h=>h) j k
 |.region ops l,q,O,d,f,g,_,_=>by
  grind [PC.wp,QI]
 |.draw _ ops l,q,O,d,f,g,_,_=>by
  grind [PC.wp,QI]
 |.bad,_,_,d,_,_,_,_=>by
  simp [PC.wp]at d
 |.rls s c,q,O,d,f,g,j,k=>by
  simp [PC.wp]at d|-;split at d
  .exact PC.og c q _ d f g j k
  .exact d.elim
theorem p7{σ:Type}{a:QQ}{c:PC}{q:Q}{O:AB}(I:σ->AB)(ok:σ->Prop)(μ:σ->Nat)(d:σ)(g:O.fm a=I d)(e:ok d)
  (step:∀s,ok s->(∀k,((I s).get k).WF)->c.wp S {q with normal:=fun f=>∃s',f.fm a=I s'/\ok s'/\μ s'<μ s} (I s)):PC.wp S (.loop a c) q O:=by
 intro X hX;rw[g];have key:∀n s,μ s=n->ok s->X (I s):=by
  intro n
  induction n using Nat.strongRecOn with
  |_ n l=>
   intro s j ho;refine hX _ fun i=>?_;refine PC.og S c _ _ (step s ho i) _ (fun f he=>?_) (fun _ _ h=>h) (fun _ h=>h)
   grind
 exact key _ d rfl e
end
end Go.Sf
namespace Go.Sf
def bU:Nat:=0
def Ti(_:World):Prop:=True
theorem Ti.fm{w w':World}(_:Ti w)(_:∀b,b<bU->w'.heap[b]?=w.heap[b]?):Ti w':=trivial
theorem Ti.lt{w:World}(_:Ti w):bU<=w.heap.size:=Nat.zero_le _
end Go.Sf
