/- The pure language: environments, operations, code, and what must hold before a piece of code so that a condition holds behind it. No memory. -/
import Derived.Test.YthcncnllajfkfaaGreatSfRep
set_option linter.all false
open Option renaming some->Y,none->W
open Bool renaming true->X,false->T
namespace Go.Sf
def AX:Nat:=8589934592
def LH:Nat:=9223372036854775807
variable{n:Nat}
theorem Vk(h:n<=AX):n<=LH:=by grind[AX,LH]
mutual
def TV.WF:TV->Prop
 |.int k n=>k.min<=n/\n<=k.max|.str s=>s.size<=LH|.list _ es=>es.length<=LH/\TV.tc es|.agg cs=>TV.tc cs|.pt row=>TV.tc row|.clo _ caps=>TV.tc caps|.xl _ es=>es.length<=LH/\TV.tc es|.xn es=>es.length<=LH/\TV.tc es|_=>True
def TV.tc:Fq->Prop
 |[]=>True|t::ts=>TV.WF t/\TV.tc ts
end
structure AR where
 own:Bool
 t:TV
def TV.AaN:TV->Bool
 |.xl _ _=>X|.xn _=>X|_=>T
def AR.key(c:AR):TV×Bool:=(c.t,c.own&&c.t.AaN)
def AR.rel(c:AR):AR:=
 match c with
 |⟨X,.xl n es⟩=>⟨X,.list n es⟩|⟨X,.xn es⟩=>⟨X,.list 1 es⟩|c=>c
def AR.Abq(c:AR):TV:=
 match c with
 |⟨X,.xl n es⟩=>.list n es|c=>c.t
inductive NK where
 |hd
 |el (r:Nat)
 |rw(r:Nat)
 |rp (r c:Nat)
abbrev Bk:=List ((Int×Int)×Int)
inductive MX where
 |mp (b:Nat) (kvs:Bk)
 |tm (b:Nat) (kvs:Bk) (ts:Fq)
 |mi (last:Option ((Int×Int)×Int)) (todo:Bk)
def Bk.WF(kvs:Bk):Prop:=∀p∈kvs,(TV.int .i64 p.1.1).WF/\(TV.int .i64 p.1.2).WF/\(TV.int .i64 p.2).WF
def MX.WF:MX->Prop
 |.mp _ kvs=>Bk.WF kvs|.tm _ kvs ts=>Bk.WF kvs/\TV.tc ts|.mi last todo=>Bk.WF last.toList/\Bk.WF todo
def Bk.look(k:Int×Int):Bk->a5
 |[]=>W|p::r=>if p.1=k then Y p.2 else Bk.look k r
def Bk.set(k:Int×Int)(n:Int):Bk->Bk
 |[]=>[(k,n)]|p::r=>if p.1=k then(k,n)::r else p::Bk.set k n r
def TW(k:Int×Int):TV:=.agg [.int .i64 k.1,.int .i64 k.2]
def TV.AbQ?:TV->Option (Int×Int)
 |.agg [.int .i64 a,.int .i64 b]=>Y (a,b)|_=>W
inductive EV where
 |undef
 |tv (t:TV)
 |ow (t:TV)
 |bx (cs:List AR)
 |bp (s off:Nat)
 |tp (ts:Fq)
 |sk
 |xo (n:Nat) (es:Fq)
 |la (q:Nat) (i:Option Nat)
 |lp (q:Nat) (i:Option Nat) (c:Nat)
 |oag (cs:List AR)
 |xn (es:Fq)
 |x1 (n:Nat) (fs:Fq)
 |nh (q i:Nat) (k:NK)
 |mx (m:MX)
def EV.WF:EV->Prop
 |.tv t=>t.WF|.ow t=>t.WF|.bx cs=>∀c∈cs,c.t.WF|.tp ts=>TV.tc ts|.xo n es=>(TV.list n es).WF|.oag cs=>∀c∈cs,c.t.WF|.xn es=>(TV.list 1 es).WF|.x1 n fs=>(TV.list n fs).WF|.mx m=>m.WF|_=>True
abbrev AB:=List (Nat×EV)
def AB.get:AB->Nat->EV
 |[],_=>.undef|(k,e)::r,n=>if k=n then e else AB.get r n
def AB.fl(O:AB)(live:QQ):AB:=live.map λs=>(s,O.get s)
def EV.ref:EV->Option Nat
 |.bp s _=>Y s|.la s _=>Y s|.lp s _ _=>Y s|.nh s _ _=>Y s|_=>W
def EV.noR(d:Nat)(e:EV):Bool:=
 match e.ref with
 |some s=>d !=s|none=>X
def AB.ij(s:Nat):AB->Bool
 |[]=>X|(_,e)::r=>e.noR s&&AB.ij s r
def EV.noC(d:Nat)(k:Option Nat):EV->Bool
 |.la s (Y i)=>d !=s||(match k with|some j=>i !=j|none=>T)
 |.lp s (Y i) _=>d !=s||(match k with|some j=>i !=j|none=>T)
 |.nh s i _=>d !=s||(match k with|some j=>i !=j|none=>T)
 |_=>X
def AB.AbX(s:Nat)(k:Option Nat):QQ->AB->Bool
 |_,[]=>X|z,(q,e)::r=>(z.contains q||e.noC s k)&&AB.AbX s k (q::z) r
def AB.noX(s:Nat)(k:Option Nat)(O:AB):Bool:=AB.AbX s k [] O
def AB.wi(O:AB)(q:Nat):Option Nat->Option (Nat×Fq)
 |none=>match O.get q with
  |.xo n es=>Y (n,es)|_=>W
 |some k=>match O.get q with
  |.bx cs=>match cs[k]? with
   |some ⟨X,.xl n es⟩=>Y (n,es)|_=>W
  |_=>W
def AB.Aah(O:AB)(q:Nat)(i:Option Nat)(n:Nat)(es:Fq):AB:=
 match i with
 |none=>(q,.xo n es)::O|some k=>match O.get q with
  |.bx cs=>(q,.bx (cs.set k ⟨X,.xl n es⟩))::O|_=>O
def AB.nat(O:AB)(q k:Nat):Option Fq:=
 match O.get q with
 |.bx cs=>match cs[k]? with
  |some ⟨X,.xn es⟩=>Y es|_=>W
 |_=>W
def AB.AbS(O:AB)(q k:Nat)(es:Fq):AB:=
 match O.get q with
 |.bx cs=>(q,.bx (cs.set k ⟨X,.xn es⟩))::O|_=>O
inductive AH where
 |s (n:Nat)
 |c (t:TV)
def AH.ev(O:AB):AH->EV
 |.s n=>O.get n|.c t=>.tv t
def EV.val:EV->Option TV
 |.tv t=>Y t|.ow t=>Y t|_=>W
def AH.val(O:AB)(x:AH):Option TV:=(x.ev O).val
def vals(O:AB):List AH->Option Fq
 |[]=>Y []|x::xs=>match x.val O,vals O xs with
  |some t,Y ts=>Y (t::ts)|_,_=>W
def intCmp(op:BinOp)(a b:Int):K1:=
 match op with
 |.eql=>Y (decide (a=b))|.neq=>Y (!decide (a=b))|.lss=>Y (decide (a<b))|.leq=>Y (decide (a<=b))|.gtr=>Y (decide (b<a))|.geq=>Y (decide (b<=a))|_=>W
def intArith(op:BinOp)(a b:Int):a5:=
 match op with
 |.add=>Y (a+b)|.sub=>Y (a-b)|.mul=>Y (a*b)|.quo=>if b=0 then W else Y (a.tdiv b)|_=>W
inductive GC where
 |z (c:AR)
 |v (x:AH) (k n:Nat)
 |w (q:Nat)
 |g (q k n:Nat)
def GC.cell(O:AB):GC->Option AR
 |.z c=>Y c|.v x k n=>match x.val O with
  |some t=>match Nat.beq t.cells.length n,t.cells[k]? with
   |true,Y c=>Y ⟨T,c⟩|_,_=>W
  |none=>W
 |.w q=>match O.get q with
  |.ow t=>Y ⟨X,t⟩|.xo n es=>Y ⟨X,.xl n es⟩|_=>W
 |.g q k n=>match O.get q with
  |.oag cs=>match Nat.beq cs.length n with
   |true=>cs[k]?|false=>W
  |_=>W
def KY(O:AB):List GC->Option (List AR)
 |[]=>Y []|g::gs=>match g.cell O,KY O gs with
  |some c,Y cs=>Y (c::cs)|_,_=>W
def GC.src:GC->Option (Nat×Option Nat)
 |.w q=>Y (q,W)|.g q k _=>Y (q,Y k)|_=>W
def GC.slot:GC->Option Nat
 |.w q=>Y q|.g q _ _=>Y q|_=>W
def GC.sl:GC->QQ
 |.v (.s q) _ _=>[q]|.w q=>[q]|.g q _ _=>[q]|_=>[]
def EV.gave:EV->EV
 |.ow t=>.tv t|_=>.undef
def SQ(e0:AB):QQ->AB->AB
 |[],O=>O|q::qs,O=>(q,(e0.get q).gave)::SQ e0 qs O
def CJ:Fq->Fq->K1
 |[],[]=>Y X|.int k a::cs,.int k' b::ds=>if k=k' then(match CJ cs ds with|some r=>Y (decide (a=b)&&r)|none=>W)else W
 |.str a::cs,.str b::ds=>(match CJ cs ds with|some r=>Y (decide (a=b)&&r)|none=>W)
 |.bool a::cs,.bool b::ds=>(match CJ cs ds with|some r=>Y (decide (a=b)&&r)|none=>W)
 |_,_=>W
inductive BK where
 |i|s|b|w
 |a (ks:QQ)
def TV.kd:TV->Nat
 |.int _ _=>0|.str _=>1|.bool _=>2|_=>3
def Gk(k:IntKind)(op:BinOp)(a b:Int):a5:=
 match op with
 |.and=>Y (k.wrap (BitVec.ofInt k.bits a &&& BitVec.ofInt k.bits b).toNat)|.or=>Y (k.wrap (BitVec.ofInt k.bits a|||BitVec.ofInt k.bits b).toNat)|.xor=>Y (k.wrap (BitVec.ofInt k.bits a^^^ BitVec.ofInt k.bits b).toNat)|.andNot=>Y (k.wrap (BitVec.ofInt k.bits a &&& ~~~ BitVec.ofInt k.bits b).toNat)|.shl=>if 0<=b then Y (k.wrap (a*2^ (min b.toNat k.bits)))else W|.shr=>if 0<=b/\k.min<=a.fdiv (2^ (min b.toNat k.bits))/\a.fdiv (2^ (min b.toNat k.bits))<=k.max then Y (a.fdiv (2^ (min b.toNat k.bits)))else W|_=>W
def NE:BK->BinOp->TV->TV->Option TV
 |.i,op,.int k a,.int k' b=>
  if k=k' then
   match intCmp op a b with
   |some r=>Y (.bool r)|none=>match intArith op a b with
    |some r=>Y (.int k (k.wrap r))|none=>if op=.rem/\b≠0 then Y (.int k (a.tmod b))else W
  else W
 |.w,op,.int k a,.int k' b=>if k=k'\/op=.shl\/op=.shr then(match Gk k op a b with|some r=>Y (.int k r)|none=>W)else W
 |.s,.eql,.str a,.str b=>Y (.bool (a==b))|.s,.neq,.str a,.str b=>Y (.bool (!(a==b)))|.s,.add,.str a,.str b=>if a.size+b.size<=AX then Y (.str (a++b))else W|.b,.eql,.bool a,.bool b=>Y (.bool (a==b))|.b,.neq,.bool a,.bool b=>Y (.bool (!(a==b)))|.a n,.eql,.agg cs,.agg ds=>if cs.map TV.kd=n then(match CJ cs ds with|some b=>Y (.bool b)|none=>W)else W
 |.a n,.neq,.agg cs,.agg ds=>if cs.map TV.kd=n then(match CJ cs ds with|some b=>Y (.bool !b)|none=>W)else W
 |_,_,_,_=>W
def H8(O:AB)(d:Int):Option AH->Option TV
 |none=>Y (.int .i64 d)|some o=>o.val O
def BS(O:AB):EV->Option Fq
 |.tv (.pt row)=>Y row|.bx cs=>Y (cs.map (·.t))|.bp s off=>match O.get s with
  |.bx cs=>Y ((cs.drop off).map (·.t))|_=>W
 |_=>W
def AH.place(O:AB):AH->Option (Nat×Nat)
 |.s n=>match O.get n with
  |.bp q off=>Y (q,off)|.bx _=>Y (n,0)|_=>W
 |.c _=>W
def Qk:Fq->Nat->Fq->Fq
 |cs,_,[]=>cs|cs,i,d::ds=>Qk (cs.set i d) (i+1) ds
def Fm(cs:Fq):List (Nat×Nat×TV)->Option Fq
 |[]=>Y cs|(i,n,t)::r=>if t.cells.length=n/\i+n<=cs.length then Fm (Qk cs i t.cells) r else W
def Hg(O:AB):List (Nat×Nat×AH)->Option (List (Nat×Nat×TV))
 |[]=>Y []|(i,n,x)::r=>match x.val O,Hg O r with
  |some t,Y ts=>Y ((i,n,t)::ts)|_,_=>W
inductive AE where
 |mv (x:AH)
 |tk (s:Nat)
 |Abz (n:Nat)
 |fad (x:AH) (k:Nat)
 |bad (s k:Nat)
 |iad (x i:AH) (n:Nat)
 |aad (x i:AH) (n k:Nat)
 |ld (x:AH)
 |lda (x:AH) (n:Nat)
 |ldt (x:AH)
 |bin (k:BK) (op:BinOp) (x y:AH)
 |not (x:AH)
 |neg (x:AH)
 |pick (c a b:AH)
 |len (x:AH)
 |AbL (x:AH)
 |slc (n:Nat) (x:AH) (lo hi:Option AH)
 |Aam (x:AH) (lo hi:Option AH)
 |bld (zero:Fq) (parts:List (Nat×Nat×AH))
 |lst (n:Nat) (parts:List AH)
 |app (n:Nat) (x y:AH)
 |call (f:FuncId) (args:List AH)
 |Abm (x:AH) (args:List AH)
 |clo (f:FuncId) (caps:List AH)
 |ext (x:AH) (i:Nat)
 |cvt (k:IntKind) (x:AH)
 |AaB (x i:AH)
 |Abr (x:AH)
 |AbB (x:AH)
 |mm (max:Bool) (x y:AH)
 |alc (cs:List AR)
 |st (n:Nat) (x v:AH)
 |stb (n s:Nat) (v:AH)
 |frz (s:Nat)
 |AbA (x:AH) (k n:Nat) (agg:Bool)
 |xal (s:Nat)
 |Abx (x:AH)
 |xia (x i:AH) (n:Nat)
 |xfa (x:AH) (k:Nat)
 |xld (x:AH)
 |xst (x v:AH) (k:Nat)
 |rel (s:Nat)
 |Abk (n:Nat)
 |tkx (s:Nat)
 |Aba (n s:Nat) (y:AH)
 |AaL (f:FuncId) (args:List AH)
 |mkx (n:Nat) (zero:Fq) (x:AH)
 |AaG (f:FuncId) (x:AH) (ys:List AH)
 |Aa2 (f:FuncId) (x:AH)
 |Aao (gs:List GC)
 |stx (n:Nat) (s q:Nat)
 |Aa7 (f:FuncId) (args:List AH)
 |AaE (f:FuncId) (args:List AH)
 |isn (x:AH)
 |lac (x:AH)
 |ctk (x:AH)
 |cpt (x:AH) (q:Nat)
 |cut (n s:Nat) (hi:AH)
 |AaQ (f:FuncId) (args:List AH)
 |Abh (ps:List (Option AR)) (x:AH)
 |Abo (n s:Nat) (z:TV) (x:AH)
 |AaA (f:FuncId) (args:List AH) (i:Nat)
 |Aa8 (f:FuncId) (args:List AH)
 |Abl (n:Nat)
 |ldb (s n:Nat)
 |Abs (q:Nat)
 |AaO (m q:Nat)
 |lan (x:AH)
 |nia (x i:AH)
 |nld (x:AH)
 |nst (x v:AH)
 |AbG (q:Nat)
 |AaP (f:FuncId) (args:List AH) (i:Nat)
 |ldg (s n:Nat)
 |stq (n:Nat) (ps:List (Option AR)) (x v:AH)
 |mkm
 |mvm (s:Nat)
 |AaI (f:FuncId) (args:List AH)
 |mlk (s:Nat) (m x:AH)
 |mup (s:Nat) (m x v:AH)
 |x6 (s:Nat) (m:AH)
 |mnx (s:Nat)
 |men (s:Nat)
 |fdv (x:AH) (k:Nat)
 |ldv (x:AH) (n:Nat)
structure PR where
 dst:Option Nat
 op:AE
 guard:Option (Nat×Bool)
inductive PC where
 |skip (live:QQ)
 |ret
 |exit (id:Nat) (live:QQ)
 |seq (a b:PC)
 |cond (c:AH) (a b:PC)
 |block (id:Nat) (c:PC)
 |loop (live:QQ) (c:PC)
 |region (ops:List PR) (live:QQ)
 |draw (D:QQ) (ops:List PR) (live:QQ)
 |rls (s:Nat) (c:PC)
 |bad
def Th(O:AB):QQ->Bool
 |[]=>X|d::ds=>O.ij d&&Th O ds
inductive A9 where
 |sh (t:TV)
 |own (t:TV)
 |tp (ts:Fq)
 |turn (zs:Fp) (us:Fq)
 |cut (zs:Fp)
 |Aa9 (n:Nat) (es:Fq)
 |oag (cs:List AR)
 |bo (cs cs':List AR) (i:Nat) (ts:Fq)
 |ext (ts:Fq)
 |ag (cs:List AR) (i:Nat) (r:A9)
 |mpr (kvs:Bk) (ts:Fq)
def A9.WF:A9->Prop
 |.sh t=>t.WF|.own t=>t.WF|.tp ts=>TV.tc ts|.turn zs us=>(TV.list 1 (zs.map (TV.int .i64))).WF/\TV.tc us|.cut zs=>(TV.list 1 (zs.map (TV.int .i64))).WF|.Aa9 n es=>(TV.list n es).WF|.oag cs=>∀c∈cs,c.t.WF|.bo _ cs' _ ts=>(∀c∈cs',c.t.WF)/\TV.tc ts|.ext ts=>TV.tc ts|.ag _ _ r=>r.WF|.mpr kvs ts=>Bk.WF kvs/\TV.tc ts
def A9.plain:A9->Bool
 |.turn ..=>T|.cut _=>T|.bo ..=>T|.ext _=>T|.ag ..=>T|.mpr ..=>T|_=>X
def A9.ev:A9->EV
 |.sh t=>.tv t|.own t=>.ow t|.tp ts=>.tp ts|.Aa9 n es=>.ow (.list n es)|.oag cs=>.tv (.agg (cs.map λc=>c.rel.t))|_=>.undef
def A9.aev:A9->EV
 |.oag cs=>.oag cs|r=>r.ev
mutual
def TV.flat:TV->Bool
 |.int _ _=>X|.bool _=>X|.str _=>X|.agg cs=>TV.Aab cs|_=>T
def TV.Aab:Fq->Bool
 |[]=>X|t::ts=>t.flat&&TV.Aab ts
end
def AR.toX:AR->AR
 |⟨X,.list n es⟩=>⟨X,.xl n es⟩|c=>c
def AR.Xable(c:AR):Prop:=∃n es,c=⟨X,.list n es⟩/\TV.Aab es=X
def EV.free:EV->Bool
 |.tv t=>t.flat|.undef=>X|.sk=>X|_=>T
def AH.z5(O:AB):AH->Option ((Nat×Option Nat)×Nat×Fq)
 |.s m=>match O.get m with
  |.xo n es=>Y ((m,W),n,es)|.la q i=>match O.wi q i with
   |some p=>Y ((q,i),p)|none=>W
  |_=>W
 |.c _=>W
def AH.AbC(O:AB)(x:AH):Option TV:=
 match x.z5 O with
 |some p=>Y (.list p.2.1 p.2.2)|none=>match x.ev O with
  |.bx cs=>Y (.pt (cs.map AR.Abq))|.bp q off=>match O.get q with
   |.bx cs=>Y (.pt ((cs.drop off).map AR.Abq))|_=>W
  |e=>e.val
def Aax(O:AB):List AH->Option Fq
 |[]=>Y []|x::xs=>match x.AbC O,Aax O xs with
  |some t,Y ts=>Y (t::ts)|_,_=>W
def A9.Abu:A9->Bool
 |.sh t=>t.flat|.tp ts=>TV.Aab ts|.own (.list _ es)=>TV.Aab es|_=>T
def JQ(O:AB):Nat->List AH->Option Fq
 |_,[]=>Y []|0,_::xs=>match vals O xs with
  |some ts=>Y (.undef::ts)|none=>W
 |i+1,x::xs=>match x.val O,JQ O i xs with
  |some t,Y ts=>Y (t::ts)|_,_=>W
def EV.ofs:Fq->EV
 |[t]=>.tv t|ts=>.tp ts
def Ew:List (Option AR)->Fq->Option (List AR)
 |[],[]=>Y []|none::ps,t::ts=>match Ew ps ts with
  |some cs=>Y (⟨T,t⟩::cs)|none=>W
 |some c::ps,.nil::ts=>match c,Ew ps ts with
  |⟨X,.list n []⟩,Y cs=>Y (⟨X,.list n []⟩::cs)|⟨X,.xl n []⟩,Y cs=>Y (⟨X,.xl n []⟩::cs)|⟨X,.xn []⟩,Y cs=>Y (⟨X,.xn []⟩::cs)|_,_=>W
 |_,_=>W
section
variable(S:FuncId->Fq->A9->Prop)
def Ay{α:Type}(o:Option α)(K:α->Prop):Prop:=
 match o with
 |some a=>K a|none=>False
def Hy:Fq->Option TV
 |[]=>W|t::_=>Y t
def strip:AB->Nat->AB
 |O,s=>(s,.undef)::O
def AE.wp(O:AB)(dst:Option Nat)(K:EV->AB->Prop):AE->Prop
 |.mv x=>match x.ev O with
  |.tv t=>K (.tv t) O|.ow t=>K (.tv t) O|.tp ts=>K (.tp ts) O|_=>False
 |.tk s=>match O.get s with
  |.ow t=>K (.ow t) ((s,.tv t)::O)|.tv t=>K (.tv t) O|_=>False
 |.Abz n=>K (.ow (.list n [])) O|.fad x k=>match x.ev O with
  |.tv (.pt row)=>K (.tv (.pt (row.drop k))) O|.bp s off=>match O.get s with
   |.bx _=>K (.bp s (off+k)) O|_=>False
  |_=>False
 |.bad s k=>match O.get s with
  |.bx _=>K (.bp s k) O|.tv (.pt row)=>K (.tv (.pt (row.drop k))) O|_=>False
 |.iad x i n=>match x.val O,i.val O with
  |some (.list m es),Y (.int _ j)=>m=n/\0<=j/\∃e,es[j.toNat]?=Y e/\K (.tv (.pt e.cells)) O|_,_=>False
 |.aad x i n k=>match x.ev O,i.val O with
  |.tv (.pt row),Y (.int _ j)=>0<=j/\j<k/\k*n<=row.length/\K (.tv (.pt (row.drop (j.toNat*n)))) O|_,_=>False
 |.ld x=>Ay (BS O (x.ev O)) λcs=>Ay (Hy cs) λt=>t.AaN=T/\K (.tv t) O|.lda x n=>Ay (BS O (x.ev O)) λcs=>n<=cs.length/\K (.tv (.agg (cs.take n))) O|.ldb s n=>match O.get s with
  |.bx cs=>n<=(cs.map (·.t)).length/\K (.tv (.agg ((cs.map (·.t)).take n))) O|_=>False
 |.ldt x=>match x.place O with
  |some (s,off)=>match O.get s with
   |.bx cs=>match cs[off]? with
    |some ⟨X,.list n es⟩=>K (.ow (.list n es)) ((s,.bx (cs.set off ⟨T,.list n es⟩))::O)|_=>False
   |_=>False
  |none=>False
 |.bin k op x y=>match x.val O,y.val O with
  |some a,Y b=>Ay (NE k op a b) λt=>K (.tv t) O|_,_=>False
 |.not x=>match x.val O with
  |some (.bool b)=>K (.tv (.bool !b)) O|_=>False
 |.neg x=>match x.val O with
  |some (.int k n)=>K (.tv (.int k (k.wrap (-n)))) O|_=>False
 |.pick c a b=>match c.val O with
  |some (.bool q)=>match(if q then a else b).ev O with
   |.tv t=>K (.tv t) O|.ow t=>K (.tv t) O|_=>False
  |_=>False
 |.len x=>match x.val O with
  |some (.list _ es)=>K (.tv (.int .i64 es.length)) O|_=>False
 |.AbL x=>match x.val O with
  |some (.str s)=>K (.tv (.int .i64 s.size)) O|_=>False
 |.slc n x lo hi=>match x.val O with
  |some (.list m es)=>match H8 O 0 lo,H8 O es.length hi with
   |some (.int _ l),Y (.int _ h)=>(m=n/\0<=l/\l<=h)/\h<=es.length/\K (.tv (.list n ((es.take h.toNat).drop l.toNat))) O|_,_=>False
  |_=>False
 |.Aam x lo hi=>match x.val O with
  |some (.str s)=>match H8 O 0 lo,H8 O s.size hi with
   |some (.int _ l),Y (.int _ h)=>0<=l/\l<=h/\h<=s.size/\K (.tv (.str (s.extract l.toNat h.toNat))) O|_,_=>False
  |_=>False
 |.bld zero parts=>Ay (Hg O parts) λts=>Ay (Fm zero ts) λcs=>K (.tv (.agg cs)) O|.lst n parts=>Ay (vals O parts) λts=>(∀t∈ts,t.cells.length=n)/\K (.ow (.list n ts)) O|.app n x y=>match x.ev O,y.val O with
  |.ow (.list m es),Y (.list m' fs)=>m=n/\m'=n/\es.length+fs.length<=AX/\
    K (.ow (.list n (es++fs))) (match x with|.s s=>(s,.tv (.list n es))::O|_=>O)
  |_,_=>False
 |.call f args=>Ay (vals O args) λts=>∃r,(S f ts r/\r.plain=X)/\(r.WF->K r.ev O)|.Abm x args=>match x.val O,vals O args with
  |some (.clo f caps),Y ts=>∃r,(S f (ts++caps) r/\r.plain=X)/\(r.WF->K r.ev O)|_,_=>False
 |.clo f caps=>Ay (vals O caps) λts=>K (.tv (.clo f ts)) O|.ext x i=>match x.ev O with
  |.tp ts=>Ay ts[i]? λt=>K (.tv t) O|_=>False
 |.cvt k x=>match x.val O with
  |some (.int _ n)=>K (.tv (.int k (k.wrap n))) O|_=>False
 |.AaB x i=>match x.val O,i.val O with
  |some (.str s),Y (.int _ j)=>0<=j/\∃b,s[j.toNat]?=Y b/\K (.tv (.int .u8 b.toNat)) O|_,_=>False
 |.Abr x=>match x.val O with
  |some t=>K (.tv (.pt t.cells)) O|_=>False
 |.AbB x=>match x.val O,dst with
  |some t,Y d=>O.ij d=X/\K (.bx (t.cells.map (⟨T,·⟩))) O|_,_=>False
 |.mm mx x y=>match x.val O,y.val O with
  |some (.int k a),Y (.int k' b)=>k=k'/\K (.tv (.int k (if mx then max a b else min a b))) O|_,_=>False
 |.alc cs=>match dst with
  |some d=>O.ij d=X/\K (.bx cs) O|none=>False
 |.st n x v=>match x.place O with
  |some (s,off)=>match O.get s with
   |.bx cs=>match v.ev O with
    |.ow t=>match v with
     |.s q=>q≠s/\n=1/\off<cs.length/\K .undef ((s,.bx (cs.set off ⟨X,t⟩))::(q,.tv t)::O)|_=>False
    |.tv t=>t.cells.length=n/\off+n<=cs.length/\K .undef ((s,.bx (cs.take off++t.cells.map (⟨T,·⟩)++cs.drop (off+n)))::O)|_=>False
   |_=>False
  |none=>False
 |.stb n s v=>match O.get s with
  |.bx cs=>match v.ev O with
   |.ow t=>match v with
    |.s q=>q≠s/\n=1/\0<cs.length/\K .undef ((s,.bx (cs.set 0 ⟨X,t⟩))::(q,.tv t)::O)|_=>False
   |.tv t=>t.cells.length=n/\0+n<=cs.length/\K .undef ((s,.bx (cs.take 0++t.cells.map (⟨T,·⟩)++cs.drop (0+n)))::O)|_=>False
  |_=>False
 |.frz s=>match O.get s with
  |.bx cs=>K .undef ((s,.tv (.pt (cs.map (·.t))))::O)|_=>False
 |.AbA x k n agg=>match x.val O with
  |some (.agg cs)=>k+n<=cs.length/\(if agg then K (.tv (.agg ((cs.drop k).take n))) O else Ay (Hy (cs.drop k)) λt=>K (.tv t) O)|_=>False
 |.xal s=>match O.get s with
  |.xo _ _=>K (.la s W) O|_=>False
 |.Abx x=>Ay (x.z5 O) λp=>K (.tv (.int .i64 p.2.2.length)) O|.xia x i n=>Ay (x.z5 O) λp=>match i.val O with
  |some (.int _ j)=>((x.ev O).ref=Y p.1.1/\p.2.1=n)/\0<=j/\j<p.2.2.length/\K (.lp p.1.1 p.1.2 (j.toNat*n)) O|_=>False
 |.xfa x k=>match x.ev O with
  |.lp q i c=>match O.wi q i with
   |some _=>K (.lp q i (c+k)) O|none=>False
  |_=>False
 |.xld x=>match x.ev O with
  |.lp q i c=>match O.wi q i with
   |some p=>Ay (p.2.flatMap TV.cells)[c]? λt=>K (.tv t) O|none=>False
  |_=>False
 |.xst x v k=>match x.ev O with
  |.lp q i c=>match O.wi q i,v.ev O with
   |some (n,es),.tv t=>(t.cells.length=k/\0<k)/\c+k<=es.length*n/\∃es',es'.flatMap TV.cells=(es.flatMap TV.cells).take c++t.cells++(es.flatMap TV.cells).drop (c+k)/\es'.length=es.length/\(∀e∈es',e.cells.length=n)/\K .undef (O.Aah q i n es')|_,_=>False
  |_=>False
 |.rel s=>match dst,O.get s with
  |some d,.xo n es=>d≠s/\K (.ow (.list n es)) ((s,.undef)::O)|_,_=>False
 |.Abk n=>match dst with
  |some d=>O.ij d=X/\K (.xo n []) O|none=>False
 |.tkx s=>match dst,O.get s with
  |some d,.xo n es=>O.ij d=X/\d≠s/\K (.xo n es) ((s,.undef)::O)|_,_=>False
 |.Aba n s y=>match dst,O.get s,y.val O with
  |some d,.xo m es,Y (.list m' fs)=>m=n/\m'=n/\es.length+fs.length<=AX/\O.ij d=X/\d≠s/\K (.xo n (es++fs)) ((s,.undef)::O)|_,_,_=>False
 |.AaL f args=>match dst with
  |some d=>O.ij d=X/\Ay (vals O args) λts=>∃n es,(S f ts (.Aa9 n es)\/(S f ts (.own (.list n es))/\TV.Aab es=X))/\((TV.list n es).WF->K (.xo n es) O)|none=>False
 |.mkx n zero x=>match dst,x.val O with
  |some d,Y (.int _ j)=>O.ij d=X/\0<=j/\j<=4096/\K (.xo n (List.replicate j.toNat (match zero with|[t]=>t|ts=>.agg ts))) O
  |_,_=>False
 |.Aao gs=>match dst with
  |some d=>((gs.filterMap GC.src).Nodup/\d∉gs.filterMap GC.slot)/\Ay (KY O gs) λcs=>K (.oag cs) (SQ O (gs.filterMap GC.slot) O)|none=>False
 |.stx n s q=>match O.get s,O.get q with
  |.bx cs,.oag ds=>q≠s/\(ds.length=n/\((ds.all λc=>!c.t.AaN)||O.noX s W)=X)/\0+n<=cs.length/\K .undef ((s,.bx (cs.take 0++ds++cs.drop (0+n)))::(q,.undef)::O)|_,_=>False
 |.Aa7 f args=>Ay (vals O args) λts=>∃cs,S f ts (.oag cs)/\((∀c∈cs,c.t.WF)->K (.oag cs) O)|.AaE f args=>Ay (vals O args) λts=>∃cs,S f ts (.oag cs)/\(∀c∈cs,c.Xable)/\((∀c∈cs,c.t.WF)->K (.oag (cs.map AR.toX)) O)|.fdv x k=>match x.val O with
  |some (.pt row)=>K (.tv (.pt (row.drop k))) O|_=>False
 |.ldv x n=>match x.val O with
  |some (.pt row)=>n<=row.length/\K (.tv (.agg (row.take n))) O|_=>False
 |.isn x=>match x.val O with
  |some (.list _ es)=>∀b:Bool,(b=X->es=[])->K (.tv (.bool b)) O|some .nil=>K (.tv (.bool X)) O|_=>False
 |.AaG f x ys=>Ay (x.z5 O) λp=>p.2.1=1/\Ay (vals O ys) λts=>∃(zs zs':Fp)(us:Fq),p.2.2=zs.map (TV.int .i64)/\S f (.list 1 p.2.2::ts) (.turn zs' us)/\((A9.turn zs' us).WF->K (EV.ofs us) (O.Aah p.1.1 p.1.2 1 (zs'.map (TV.int .i64))))|.Aa2 f x=>match dst with
  |some d=>Ay (x.z5 O) λp=>(p.1.1≠d/\p.1.2=W)/\p.2.1=1/\O.ij d=X/\∃zs zs':Fp,p.2.2=zs.map (TV.int .i64)/\S f [.list 1 p.2.2] (.cut zs')/\((TV.list 1 (zs'.map (TV.int .i64))).WF->K (.xo 1 (zs'.map (TV.int .i64))) ((p.1.1,.undef)::O))|none=>False
 |.lac x=>match x.ev O with
  |.bp s off=>match O.wi s (Y off)with
   |some _=>K (.la s (Y off)) O|none=>False
  |_=>False
 |.ctk x=>match dst,x.place O with
  |some d,Y (s,off)=>match O.get s with
   |.bx cs=>match cs[off]? with
    |some ⟨X,.xl n es⟩=>O.ij d=X/\K (.xo n es) ((s,.bx (cs.set off ⟨T,.undef⟩))::O)|some ⟨X,.xn es⟩=>O.ij d=X/\K (.xn es) ((s,.bx (cs.set off ⟨T,.undef⟩))::O)|_=>False
   |_=>False
  |_,_=>False
 |.cpt x q=>match x.place O,O.get q with
  |some (s,off),.xo n es=>match O.get s with
   |.bx cs=>O.noX s (Y off)=X/\off<cs.length/\K .undef ((s,.bx (cs.set off ⟨X,.xl n es⟩))::(q,.undef)::O)|_=>False
  |some (s,off),.xn es=>match O.get s with
   |.bx cs=>O.noX s (Y off)=X/\off<cs.length/\K .undef ((s,.bx (cs.set off ⟨X,.xn es⟩))::(q,.undef)::O)|_=>False
  |_,_=>False
 |.cut n s hi=>match dst,O.get s,hi.val O with
  |some d,.xo m es,Y (.int _ h)=>(m=n/\O.ij d=X/\d≠s)/\0<=h/\h<=es.length/\K (.xo n (es.take h.toNat)) ((s,.undef)::O)|_,_,_=>False
 |.Abo n s z x=>match dst,O.get s,x.val O with
  |some d,.xo m es,Y (.int _ j)=>((m=n/\n=1)/\z.cells=[z])/\(0<=j/\j<=4096)/\(es.length+j.toNat<=AX/\O.ij d=X/\d≠s)/\K (.xo n (es++List.replicate j.toNat z)) ((s,.undef)::O)|_,_,_=>False
 |.AaQ f args=>Ay (Aax O args) λts=>∃r,(S f ts r/\r.Abu=X)/\(r.WF->K r.ev O)|.Aa8 f args=>Ay (vals O args) λts=>∃us,S f ts (.ext us)/\K (.tp us) O|.Abh ps x=>match x.val O,dst with
  |some t,Y d=>Ay (Ew ps t.cells) λcs=>O.ij d=X/\K (.bx cs) O|_,_=>False
 |.Abl n=>match dst with
  |some d=>O.ij d=X/\K (.xo n []) O|none=>False
 |.AaA f args i=>match dst,(args[i]?).bind (·.place O)with
  |some d,Y (s,0)=>match O.get s with
   |.bx cs=>(O.noX s W=X/\d≠s)/\Ay (JQ O i args) λts=>∃cs' us,S f ts (.bo cs cs' i us)/\((∀c∈cs',c.t.WF)/\TV.tc us->K (EV.ofs us) ((s,.bx cs')::O))|_=>False
  |_,_=>False
 |.Abs q=>match dst,O.get q with
  |some d,.xo n fs=>(O.ij d=X/\d≠q)/\K (.x1 n fs) ((q,.undef)::O)|_,_=>False
 |.AaO m q=>match dst,O.get m,O.get q with
  |some d,.nh s off .hd,.x1 n fs=>match O.get s with
   |.bx cs=>Ay (O.nat s off) λes=>es.length+1<=AX/\(O.ij d=X/\d≠m/\d≠q/\m≠q)/\K (.xn (es++[.list n fs])) ((s,.bx (cs.set off ⟨T,.undef⟩))::(m,.undef)::(q,.undef)::O)|_=>False
  |_,_,_=>False
 |.lan x=>match x.ev O with
  |.bp s off=>Ay (O.nat s off) λ_=>K (.nh s off .hd) O|_=>False
 |.nia x i=>match x.ev O,i.val O with
  |.nh s off .hd,Y (.int _ j)=>Ay (O.nat s off) λes=>0<=j/\j<es.length/\K (.nh s off (.el j.toNat)) O|.nh s off (.rw r),Y (.int _ j)=>Ay (O.nat s off) λes=>0<=j/\∃fs,es[r]?=Y (.list 1 fs)/\j<fs.length/\K (.nh s off (.rp r j.toNat)) O|_,_=>False
 |.nld x=>match x.ev O with
  |.nh s off (.el r)=>Ay (O.nat s off) λes=>r<es.length/\K (.nh s off (.rw r)) O|_=>False
 |.nst x v=>match x.ev O,v.ev O with
  |.nh s off (.rp r c),.tv t=>Ay (O.nat s off) λes=>∃fs,es[r]?=Y (.list 1 fs)/\c<fs.length/\t.cells=[t]/\t.flat=X/\K .undef (O.AbS s off (es.set r (.list 1 (fs.set c t))))|_,_=>False
 |.AbG q=>match dst,O.get q with
  |some d,.oag cs=>(O.ij d=X/\d≠q)/\K (.bx cs) ((q,.undef)::O)|_,_=>False
 |.AaP f args i=>match dst,args[i]? with
  |some d,Y (.s q)=>match O.get q with
   |.oag cs=>d≠q/\Ay (JQ O i args) λts=>∃r,S f (ts.set i (.agg (cs.map λ_=>.undef))) (.ag cs i r)/\(r.WF->K r.aev ((q,.undef)::O))|_=>False
  |_,_=>False
 |.ldg s n=>match dst,O.get s with
  |some d,.bx cs=>cs.length=n/\d≠s/\K (.oag cs) ((s,.bx (cs.map λ_=>⟨T,.undef⟩))::O)|_,_=>False
 |.stq n ps x v=>match x.place O,v.val O with
  |some (s,off),Y t=>match O.get s with
   |.bx cs=>Ay (Ew ps t.cells) λds=>t.cells.length=n/\off+n<=cs.length/\O.noX s W=X/\K .undef ((s,.bx (cs.take off++ds++cs.drop (off+n)))::O)|_=>False
  |_,_=>False
 |.mkm=>∀b,K (.mx (.mp b [])) O|.mvm s=>match O.get s with
  |.mx (.mp b _)=>K (.tv (.AaV b)) O|.mx (.tm b _ ts)=>K (.tp (.AaV b::ts)) O|.tp ts=>K (.tp ts) O|_=>False
 |.AaI f args=>Ay (vals O args) λts=>(∃us,S f ts (.tp us)/\(TV.tc us->K (.tp us) O))\/∃kvs us,S f ts (.mpr kvs us)/\(Bk.WF kvs/\TV.tc us->∀b,K (.mx (.tm b kvs us)) O)|.mlk s m x=>match O.get s,m.val O,x.val O with
  |.mx (.mp b kvs),Y (.AaV b'),Y t=>b=b'/\Ay t.AbQ? λk=>K (.tp [.int .i64 ((kvs.look k).getD 0),.bool (kvs.look k).isSome]) O|_,_,_=>False
 |.mup s m x v=>match O.get s,m.val O,x.val O with
  |.mx (.mp b kvs),Y (.AaV b'),Y t=>match v.val O with
   |some (.int .i64 n)=>b=b'/\Ay t.AbQ? λk=>K .undef ((s,.mx (.mp b (kvs.set k n)))::O)|_=>False
  |_,_,_=>False
 |.x6 s m=>match dst,O.get s,m.val O with
  |some d,.mx (.tm b kvs _),Y (.AaV b')=>(d≠s/\b=b')/\K (.mx (.mi W kvs)) ((s,.undef)::O)|_,_,_=>False
 |.mnx s=>match dst,O.get s with
  |some d,.mx (.mi _ todo)=>d≠s/\(todo=[]->K (.tp [.bool T]) O)/\∀p todo',todo.Perm (p::todo')->K (.tp [.bool X,TW p.1,.int .i64 p.2]) ((s,.mx (.mi (Y p) todo'))::O)|_,_=>False
 |.men s=>match O.get s with
  |.mx (.mi (Y p) _)=>K (.tp [TW p.1,.int .i64 p.2]) O|_=>False
def AB.put(O:AB)(dst:Option Nat)(e:EV):AB:=
 match dst with
 |some d=>(d,e)::O|none=>O
def PR.wp(O:AB)(K:AB->Prop)(o:PR):Prop:=
 match o.guard with
 |none=>o.op.wp S O o.dst λe env'=>K (env'.put o.dst e)|some (g,b)=>match O.get g with
  |.tv (.bool q)=>(q=b->o.op.wp S O o.dst λe env'=>K (env'.put o.dst e))/\(q=!b->K (O.put o.dst .sk))|.sk=>K (O.put o.dst .sk)|_=>False
def wpOps(K:AB->Prop):List PR->AB->Prop
 |[],O=>K O|o::os,O=>o.wp S O λenv'=>wpOps K os env'
structure Q where
 normal:AB->Prop
 exit:Nat->AB->Prop
 ret:AB->Prop
def PC.wp:PC->Q->AB->Prop
 |.skip live,q,O=>q.normal (O.fl live)|.ret,q,O=>q.ret O|.exit id live,q,O=>q.exit id (O.fl live)|.seq a b,q,O=>a.wp {q with normal:=λe=>(∀s,(e.get s).WF)->b.wp q e} O
 |.cond c a b,q,O=>match c.val O with
  |some (.bool x)=>(x=X->a.wp q O)/\(x=T->b.wp q O)|_=>False
 |.block id c,q,O=>c.wp {q with exit:=λi e=>if i=id then q.normal e else q.exit i e} O
 |.loop live c,q,O=>∀ζ:AB->Prop,(∀e,((∀s,(e.get s).WF)->c.wp {q with normal:=λe'=>ζ (e'.fl live)} e)->ζ e)->ζ (O.fl live)
 |.region ops live,q,O=>wpOps S (λe=>q.normal (e.fl live)) ops O|.draw D ops live,q,O=>Th O D=X/\wpOps S (λe=>q.normal (e.fl live)) ops O|.bad,_,_=>False|.rls s c,q,O=>match O.get s with
  |.bx cs=>c.wp q ((s,.bx (cs.map AR.rel))::O)|_=>False
end
inductive RV where
 |tmp (s:Nat)
 |cell (s:Nat) (agg:Option Nat)
def RV.get(O:AB):RV->Option TV
 |.tmp s=>(O.get s).val|.cell s W=>match BS O (O.get s)with
  |some (t::_)=>Y t|_=>W
 |.cell s (Y n)=>match BS O (O.get s)with
  |some cs=>if cs.length=n then Y (.agg cs)else W|none=>W
def Er(O:AB):List RV->Option Fq
 |[]=>Y []|x::xs=>match x.get O,Er O xs with
  |some t,Y ts=>Y (t::ts)|_,_=>W
def Bb(rs:List RV)(r:A9)(O:AB):Prop:=
 match r,rs with
 |.own t,[.tmp s]=>O.get s=.ow t|.own _,_=>False|.sh t,[x]=>x.get O=Y t|.sh _,_=>False|.tp ts,rs=>rs.length≠1/\Er O rs=Y ts|.turn zs us,rs=>O.get 0=.xo 1 (zs.map (TV.int .i64))/\Er O rs=Y us|.cut _,_=>False|.Aa9 n es,[.tmp s]=>O.get s=.xo n es|.Aa9 _ _,_=>False|.oag cs,[.cell s (Y n)]=>O.get s=.bx cs/\cs.length=n|.oag _,_=>False|.bo _ cs' i ts,rs=>O.get i=.bx cs'/\Er O rs=Y ts|.ext _,_=>False|.ag _ _ r,rs=>Bb rs r O|.mpr kvs ts,.tmp s::rs=>rs≠[]/\(∃b o,O.get s=.tv (.AaV b)/\O.get o=.mx (.mp b kvs))/\Er O rs=Y ts|.mpr _ _,_=>False
end Go.Sf
namespace Go.Sf
def Bt(w w':World)(F F':Nat->Nat->Prop):Prop:=
 ∀b o v,w.cell? ⟨b,o,W⟩=Y v->¬F b o->w'.cell? ⟨b,o,W⟩=Y v/\¬F' b o
section
variable{w w':World}{F F':Nat->Nat->Prop}
mutual
theorem CR(h:Bt w w' F F'):∀(t:TV)(v:Value),A1 w F t v->A1 w' F' t v
 |.undef,_,hr=>hr|.int _ _,_,hr=>hr|.bool _,_,hr=>hr|.str _,_,hr=>hr|.nil,_,hr=>hr|.list n es,v,hr=>by
  have:=Uk h n es
  grind [A1]
 |.agg cs,v,hr=>by
  have:=A7 h cs
  grind [A1]
 |.pt row,v,hr=>by
  have:=Qv h row
  grind [A1]
 |.clo f a,v,hr=>by
  have:=A7 h a
  grind [A1]
 |.xl _ _,_,hr=>hr|.xn _,_,hr=>hr|.AaV _,_,hr=>hr
theorem A7(h:Bt w w' F F'):∀(ts:Fq)(vs:List Value),AQ w F ts vs->AQ w' F' ts vs
 |[],_,hr=>hr|t::ts,vs,hr=>by
  simp [AQ]at hr|-;obtain⟨v,r,a,c,d⟩:=hr;exact⟨v,r,a,CR h t v c,A7 h ts r d⟩
theorem Qv(h:Bt w w' F F'):∀(ts:Fq)(b o:Nat),Df w F ts b o->Df w' F' ts b o
 |[],_,_,_=>trivial|t::ts,b,o,hr=>by
  simp [Df]at hr|-;obtain⟨⟨v,a,c,d,e⟩,f⟩:=hr;exact⟨⟨v,(h b o v a c).1,(h b o v a c).2,d,CR h t v e⟩,Qv h ts b (o+1) f⟩
theorem Uk(h:Bt w w' F F')(n:Nat):∀(ts:Fq)(b o:Nat),JK w F n ts b o->JK w' F' n ts b o
 |[],_,_,_=>trivial|t::ts,b,o,hr=>by
  simp [JK]at hr|-;exact⟨lf h t b o hr.1,hr.2.1,Uk h n ts b (o+n) hr.2.2⟩
theorem lf(h:Bt w w' F F'):∀(t:TV)(b o:Nat),JJ w F t b o->JJ w' F' t b o
 |.agg cs,b,o,hr=>Qv h cs b o hr|.undef,b,o,hr=>by
  simp [JJ]at hr|-;obtain⟨v,c,d,e⟩:=hr;exact⟨v,(h b o v c d).1,(h b o v c d).2,e⟩
 |.int _ _,b,o,hr=>by
  simp [JJ]at hr|-;obtain⟨v,c,d,e⟩:=hr;exact⟨v,(h b o v c d).1,(h b o v c d).2,e⟩
 |.bool _,b,o,hr=>by
  simp [JJ]at hr|-;obtain⟨v,c,d,e⟩:=hr;exact⟨v,(h b o v c d).1,(h b o v c d).2,e⟩
 |.str _,b,o,hr=>by
  simp [JJ]at hr|-;obtain⟨v,c,d,e⟩:=hr;exact⟨v,(h b o v c d).1,(h b o v c d).2,e⟩
 |.nil,b,o,hr=>by
  simp [JJ]at hr|-;obtain⟨v,c,d,e⟩:=hr;exact⟨v,(h b o v c d).1,(h b o v c d).2,e⟩
 |.list n es,b,o,hr=>by
  simp [JJ]at hr|-;obtain⟨v,c,d,i,a,cap,e,p,j,m⟩:=hr;exact⟨v,(h b o v c d).1,(h b o v c d).2,i,a,cap,e,p,j,λl g=>⟨(m l g).1,Uk h n es _ _ (m l g).2⟩⟩
 |.pt row,b,o,hr=>by
  simp [JJ]at hr|-;obtain⟨v,c,d,i,q,r,e,j⟩:=hr;exact⟨v,(h b o v c d).1,(h b o v c d).2,i,q,r,e,Qv h row _ _ j⟩
 |.clo f k,b,o,hr=>by
  simp [JJ]at hr|-;obtain⟨v,c,d,i,vs,e,j⟩:=hr;exact⟨v,(h b o v c d).1,(h b o v c d).2,i,vs,e,A7 h k _ j⟩
 |.xl _ _,b,o,hr=>by
  simp [JJ]at hr|-;obtain⟨v,c,d,e⟩:=hr;exact⟨v,(h b o v c d).1,(h b o v c d).2,e⟩
 |.xn _,b,o,hr=>by
  simp [JJ]at hr|-;obtain⟨v,c,d,e⟩:=hr;exact⟨v,(h b o v c d).1,(h b o v c d).2,e⟩
 |.AaV _,b,o,hr=>by
  simp [JJ]at hr|-;obtain⟨v,c,d,e⟩:=hr;exact⟨v,(h b o v c d).1,(h b o v c d).2,e⟩
end
end
section
variable{w:World}{F:Nat->Nat->Prop}
theorem Jk:∀(ts:Fq)(b o:Nat),Df w F ts b o↔∀i t,ts[i]?=Y t->∃v,w.cell? ⟨b,o+i,W⟩=Y v/\¬F b (o+i)/\v.oneCell'=X/\A1 w F t v
 |[],_,_=>by simp[Df]|t::ts,b,o=>by
  simp [Df,Jk ts b (o+1)];constructor
  .grind
  .intro h;refine⟨by simpa using h 0 t rfl,λi u hi=>?_⟩;have:=h (i+1) u n_
   grind
variable{ts:Fq}{b o:Nat}
theorem Qu(h:Df w F ts b o)(k:Nat):Df w F (ts.drop k) b (o+k):=by
 rw [Jk]at h|-
 grind
theorem iJ(h:Df w F ts b o)(k:Nat):Df w F (ts.take k) b o:=by
 rw [Jk]at h|-
 grind
variable{n:Nat}
theorem Ru{e:TV}{es:Fq}:JK w F n (e::es) b o↔Df w F e.cells b o/\e.cells.length=n/\JK w F n es b (o+n):=by grind[JK,lc]
theorem TD(n:Nat):∀(es:Fq)(b o:Nat),JK w F n es b o↔∀i e,es[i]?=Y e->Df w F e.cells b (o+i*n)/\e.cells.length=n
 |[],_,_=>by simp[JK]|e::es,b,o=>by
  rw [Ru,TD n es b (o+n)];constructor
  .rintro⟨c,d,f⟩ i u hi;cases i with
   |zero=>simp at hi;subst hi;simpa using⟨c,d⟩|succ i=>
    grind
  .intro h;have a:=h 0 e rfl;simp at a;refine⟨a.1,a.2,λi u hi=>?_⟩;have:=h (i+1) u n_
   grind
theorem Bs:∀(ts:Fq)(vs:List Value),AQ w F ts vs↔vs.length=ts.length/\∀(i:Nat)(t:TV)(v:Value),ts[i]?=Y t->vs[i]?=Y v->A1 w F t v
 |[],vs=>by simp[AQ]|t::ts,vs=>by
  simp [AQ];constructor
  .rintro⟨v,r,rfl,c,a⟩;rw[Bs ts r]at a
   grind
  .rintro⟨c,a⟩;cases vs with
   |nil=>simp at c|cons v r=>exact⟨v,r,rfl,a 0 t v rfl rfl,(Bs ts r).2 ⟨r!,λi u x hi d=>a (i+1) u x n_ c?⟩⟩
theorem JF{ts a:Fq}{vs xs:List Value}(c:AQ w F ts vs)(d:AQ w F a xs):AQ w F (ts++a) (vs++xs):=by
 induction ts generalizing vs with
 |nil=>simp[AQ]at c;subst c;simpa using d|cons t ts e=>
  grind [AQ]
theorem HO{t:TV}{v:Value}(h:A1 w F t v):AQ w F t.cells v.cells.toList/\∀x∈v.cells.toList,x.oneCell'=X:=by
 have one:∀{v:Value}{t:TV},v.cells=#[v]->v.oneCell'=X->A1 w F t v->t.cells=[t]->AQ w F t.cells v.cells.toList/\∀x∈v.cells.toList,x.oneCell'=X:=by
  intro v t j d e l;rw[j,l];exact⟨⟨v,[],rfl,e,rfl⟩,c?⟩
 cases t with
 |agg cs=>simp only[A1]at h;obtain⟨vs,rfl,d,e⟩:=h;exact⟨d,λx i=>List.all_eq_true.1 e x i⟩
 |undef=>have c:=h;simp[A1]at h;cases v<;>first|exact one rfl rfl c rfl|(simp[Value.oneCell']at h)
 |xl n es=>have c:=h;simp[A1]at h;cases v<;>first|exact one rfl rfl c rfl|(simp[Value.oneCell']at h)
 |xn es=>have c:=h;simp[A1]at h;cases v<;>first|exact one rfl rfl c rfl|(simp[Value.oneCell']at h)
 |int k n=>have c:=h;simp[A1]at h;subst h;exact one rfl rfl c rfl|bool b=>have c:=h;simp[A1]at h;subst h;exact one rfl rfl c rfl|AaV b=>have c:=h;simp[A1]at h;subst h;exact one rfl rfl c rfl|str s=>have c:=h;simp[A1]at h;subst h;exact one rfl rfl c rfl|nil=>have c:=h;simp[A1]at h;subst h;exact one rfl rfl c rfl|list n es=>have c:=h;simp[A1]at h;obtain⟨a,cap,rfl,_⟩:=h;exact one rfl rfl c rfl
 |pt row=>have c:=h;simp[A1]at h;obtain⟨b,o,rfl,_⟩:=h;exact one rfl rfl c rfl
 |clo f g=>have c:=h;simp[A1]at h;obtain⟨vs,rfl,_⟩:=h;exact one rfl rfl c rfl
end
end Go.Sf
namespace Go.Sf
section
variable(S:FuncId->Fq->A9->Prop)
theorem wp_skip(l:QQ)(q:Q)(O:AB):PC.wp S (.skip l) q O=q.normal (O.fl l):=rfl
theorem wp_ret(q:Q)(O:AB):PC.wp S .ret q O=q.ret O:=rfl
theorem wp_exit(id:Nat)(l:QQ)(q:Q)(O:AB):PC.wp S (.exit id l) q O=q.exit id (O.fl l):=rfl
theorem wp_seq(a b:PC)(q:Q)(O:AB):PC.wp S (.seq a b) q O=a.wp S {q with normal:=λe=>(∀s,(e.get s).WF)->b.wp S q e} O:=rfl
theorem wp_block(id:Nat)(c:PC)(q:Q)(O:AB):PC.wp S (.block id c) q O=c.wp S {q with exit:=λi e=>if i=id then q.normal e else q.exit i e} O:=rfl
theorem wp_region(ops:List PR)(a:QQ)(q:Q)(O:AB):PC.wp S (.region ops a) q O=wpOps S (λe=>q.normal (e.fl a)) ops O:=rfl
theorem Bp{α:Type}{o:Option α}{K K':α->Prop}(h:∀a,K a->K' a):Ay o K->Ay o K':=by
 cases o<;>simp[Ay];exact h _
theorem AE.o4(O:AB)(dst:Option Nat){K K':EV->AB->Prop}(h:∀e env',K e env'->K' e env')(op:AE)(d:op.wp S O dst K):op.wp S O dst K':=by
 cases op<;>simp only[AE.wp]at d|-
 case ld=>exact Bp (λ_=>Bp (λ_ g=>⟨g.1,h _ _ g.2⟩)) d
 case lda=>exact Bp (λ_ g=>⟨g.1,h _ _ g.2⟩) d
 case bld=>exact Bp (λ_=>Bp (λ_=>h _ _)) d
 case lst=>exact Bp (λ_ g=>⟨g.1,h _ _ g.2⟩) d
 case call=>exact Bp (λ_⟨r,i,f⟩=>⟨r,i,λj=>h _ _ (f j)⟩) d
 case clo=>exact Bp (λ_=>h _ _) d
 case mm=>split at d<;>first|exact d.elim|exact⟨d.1,h _ _ d.2⟩
 case AbA x k n agg=>
  split at d
  .refine⟨d.1,?_⟩;have f:=d.2;cases agg
   .exact Bp (λ_=>h _ _) f
   .exact h _ _ f
  .exact d.elim
 case Abx=>exact Bp (λ_=>h _ _) d
 case xia=>exact Bp (λp u=>by
  split at u
  .exact⟨u.1,u.2.1,u.2.2.1,h _ _ u.2.2.2⟩
  .exact u.elim) d
 case xst=>
  split at d
  .split at d
   .obtain⟨i,f,es',l,q,v,C⟩:=d;exact⟨i,f,es',l,q,v,h _ _ C⟩
   .exact d.elim
  .exact d.elim
 case Abl=>split at d<;>first|exact d.elim|exact⟨d.1,h _ _ d.2⟩
 case Abk=>split at d<;>first|exact d.elim|exact⟨d.1,h _ _ d.2⟩
 case tkx=>split at d<;>first|exact d.elim|exact⟨d.1,d.2.1,h _ _ d.2.2⟩
 case Aba=>split at d<;>first|exact d.elim|exact⟨d.1,d.2.1,d.2.2.1,d.2.2.2.1,d.2.2.2.2.1,h _ _ d.2.2.2.2.2⟩
 case AaL=>
  split at d
  .exact⟨d.1,Bp (λts⟨n,es,i,f⟩=>⟨n,es,i,λj=>h _ _ (f j)⟩) d.2⟩
  .exact d.elim
 case Aao=>
  split at d
  .exact⟨d.1,Bp (λ_=>h _ _) d.2⟩
  .exact d.elim
 case stx=>split at d<;>first|exact d.elim|exact⟨d.1,d.2.1,d.2.2.1,h _ _ d.2.2.2⟩
 case Aa7=>exact Bp (λts⟨cs,i,f⟩=>⟨cs,i,λj=>h _ _ (f j)⟩) d
 case AaE=>exact Bp (λts⟨cs,i,l,f⟩=>⟨cs,i,l,λj=>h _ _ (f j)⟩) d
 case AaQ=>exact Bp (λ_⟨r,i,f⟩=>⟨r,i,λj=>h _ _ (f j)⟩) d
 case Abh=>
  split at d
  .exact Bp (λ_ g=>⟨g.1,h _ _ g.2⟩) d
  .exact d.elim
 case Aa8=>exact Bp (λts⟨m,i,f⟩=>⟨m,i,h _ _ f⟩) d
 case Abo=>
  split at d
  .exact⟨d.1,d.2.1,d.2.2.1,h _ _ d.2.2.2⟩
  .exact d.elim
 case AaA=>
  split at d
  .split at d
   .exact⟨d.1,Bp (λts⟨cs',m,i,f⟩=>⟨cs',m,i,λj=>h _ _ (f j)⟩) d.2⟩
   .exact d.elim
  .exact d.elim
 case lan=>
  split at d
  .exact Bp (λ_ g=>h _ _ g) d
  .exact d.elim
 case AaO=>
  split at d
  .split at d
   .exact Bp (λ_ g=>⟨g.1,g.2.1,h _ _ g.2.2⟩) d
   .exact d.elim
  .exact d.elim
 case nia=>
  split at d
  .exact Bp (λ_ g=>⟨g.1,g.2.1,h _ _ g.2.2⟩) d
  .exact Bp (λ_⟨i,y,f,l,q⟩=>⟨i,y,f,l,h _ _ q⟩) d
  .exact d.elim
 case nld=>
  split at d
  .exact Bp (λ_ g=>⟨g.1,h _ _ g.2⟩) d
  .exact d.elim
 case nst=>
  split at d
  .exact Bp (λ_⟨y,i,f,l,q,v⟩=>⟨y,i,f,l,q,h _ _ v⟩) d
  .exact d.elim
 case AaP=>
  split at d
  .split at d
   .exact⟨d.1,Bp (λ_⟨r,i,f⟩=>⟨r,i,λj=>h _ _ (f j)⟩) d.2⟩
   .exact d.elim
  .exact d.elim
 case mnx=>
  split at d
  .exact⟨d.1,λe=>h _ _ (d.2.1 e),λp t B=>h _ _ (d.2.2 p t B)⟩
  .exact d.elim
 case men=>split at d<;>first|exact d.elim|exact h _ _ d
 case stq=>
  split at d
  .split at d
   .exact Bp (λ_ g=>⟨g.1,g.2.1,g.2.2.1,h _ _ g.2.2.2⟩) d
   .exact d.elim
  .exact d.elim
 case mkm=>exact λb=>h _ _ (d b)
 case mvm=>split at d<;>first|exact d.elim|exact h _ _ d
 case AaI=>
  refine Bp (λ_ g=>?_) d;rcases g with⟨m,i,f⟩|⟨A,m,i,f⟩
  .exact .inl ⟨m,i,λj=>h _ _ (f j)⟩
  .exact .inr ⟨A,m,i,λj b=>h _ _ (f j b)⟩
 case x6=>split at d<;>first|exact d.elim|exact⟨d.1,h _ _ d.2⟩
 case mlk=>split at d<;>first|exact d.elim|exact⟨d.1,Bp (λ_ g=>h _ _ g) d.2⟩
 case mup=>
  split at d
  .split at d
   .exact⟨d.1,Bp (λ_ g=>h _ _ g) d.2⟩
   .exact d.elim
  .exact d.elim
 case fdv=>split at d<;>first|exact d.elim|exact h _ _ d
 case ldv=>split at d<;>first|exact d.elim|exact⟨d.1,h _ _ d.2⟩
 case isn=>
  split at d
  .exact λb hb=>h _ _ (d b hb)
  .exact h _ _ d
  .exact d.elim
 case AaG=>exact Bp (λp⟨i,f⟩=>⟨i,Bp (λts⟨zs,s,m,a,b,c⟩=>⟨zs,s,m,a,b,λj=>h _ _ (c j)⟩) f⟩) d
 case Aa2=>
  split at d
  .exact Bp (λp⟨z,i,v,zs,s,f,l,q⟩=>⟨z,i,v,zs,s,f,l,λj=>h _ _ (q j)⟩) d
  .exact d.elim
 all_goals (repeat' split at d)<;>first|exact d.elim|exact h _ _ d|exact⟨d.1,h _ _ d.2⟩|exact⟨d.1,d.2.1,h _ _ d.2.2⟩|exact⟨d.1,d.2.1,d.2.2.1,h _ _ d.2.2.2⟩|exact Bp (λ_=>h _ _) d|(obtain⟨r,i,f⟩:=d;exact⟨r,i,λj=>h _ _ (f j)⟩)|(obtain⟨i,r,f,l⟩:=d;exact⟨i,r,f,h _ _ l⟩)|(obtain⟨z,i,r,f,l⟩:=d;exact⟨z,i,r,f,h _ _ l⟩)
variable{K K':AB->Prop}
theorem PR.o4(O:AB)(h:∀e,K e->K' e)(o:PR)(a:o.wp S O K):o.wp S O K':=by
 unfold PR.wp at a|-;split at a
 .grind[AE.o4]
 grind [AE.o4]
theorem R2(h:∀e,K e->K' e):∀(os:List PR)(O:AB),wpOps S K os O->wpOps S K' os O
 |[],_,a=>h _ a|o::os,O,a=>PR.o4 S O (λe=>R2 h os e) o a
theorem PC.o4:∀(c:PC)(q:Q)(O:AB),c.wp S q O->∀(f:Q),(∀e,q.normal e->f.normal e)->(∀i e,q.exit i e->f.exit i e)->(∀e,q.ret e->f.ret e)->c.wp S f O
 |.skip _,_,_,d,_,h,_,_=>h _ d|.ret,_,_,d,_,_,_,h=>h _ d|.exit _ _,_,_,d,_,_,h,_=>h _ _ d|.seq a b,q,O,d,f,g,j,k=>by
  simp [PC.wp]at d|-;exact PC.o4 a _ O d _ (λe he m=>PC.o4 b q e (he m) f g j k) j k
 |.cond c a b,q,O,d,f,g,j,k=>by
  simp [PC.wp]at d|-;split at d
  .exact⟨λp=>PC.o4 a q O (d.1 p) f g j k,λp=>PC.o4 b q O (d.2 p) f g j k⟩
  .exact d.elim
 |.block id c,q,O,d,f,g,j,k=>by
  simp [PC.wp]at d|-;exact PC.o4 c _ O d _ g (λi e=>by dsimp only;split<;>first|exact g e|exact j i e) k
 |.loop l c,q,O,d,f,g,j,k=>by
  simp [PC.wp]at d|-;exact λζ hX=>d ζ λe he=>hX e λm=>PC.o4 c _ e (he m) _ (λ_ h=>h) j k
 |.region ops l,q,O,d,f,g,_,_=>by
  grind [PC.wp,R2]
 |.draw _ ops l,q,O,d,f,g,_,_=>by
  grind [PC.wp,R2]
 |.bad,_,_,d,_,_,_,_=>by
  simp [PC.wp]at d
 |.rls s c,q,O,d,f,g,j,k=>by
  simp [PC.wp]at d|-;split at d
  .exact PC.o4 c q _ d f g j k
  .exact d.elim
theorem vq{σ:Type}{a:QQ}{c:PC}{q:Q}{O:AB}(I:σ->AB)(ok:σ->Prop)(μ:σ->Nat)(d:σ)(g:O.fl a=I d)(e:ok d)
  (step:∀s,ok s->(∀k,((I s).get k).WF)->c.wp S {q with normal:=λf=>∃s',f.fl a=I s'/\ok s'/\μ s'<μ s} (I s)):PC.wp S (.loop a c) q O:=by
 intro ζ hX;rw[g];have key:∀n s,μ s=n->ok s->ζ (I s):=by
  intro n
  induction n using Nat.strongRecOn with
  |_ n l=>
   intro s j ho;refine hX _ λi=>?_;refine PC.o4 S c _ _ (step s ho i) _ (λf he=>?_) (λ_ _ h=>h) (λ_ h=>h)
   grind
 exact key _ d rfl e
end
end Go.Sf
namespace Go.Sf
def gU:Nat:=0
def VD(_:World):Prop:=True
theorem VD.fl{w w':World}(_:VD w)(_:∀b,b<gU->w'.heap[b]?=w.heap[b]?):VD w':=trivial
theorem VD.lt{w:World}(_:VD w):gU<=w.heap.size:=Nat.zero_le _
end Go.Sf
