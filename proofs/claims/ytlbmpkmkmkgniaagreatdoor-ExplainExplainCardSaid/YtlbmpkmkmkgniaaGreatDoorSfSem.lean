/- The pure language: environments, operations, code, and what must hold before a piece of code so that a condition holds behind it. No memory. -/
import Derived.Test.YtlbmpkmkmkgniaaGreatDoorSfRep
set_option linter.all false
namespace Go.Sf
def BM:Nat:=8589934592
def I0:Nat:=9223372036854775807
variable {n:Nat}
theorem Tx (h:n<=BM):n<=I0:=by unfold BM at h; unfold I0; omega
mutual
def TV.WF:TV->Prop
 | .int k n=>k.min<=n∧n<=k.max
 | .str s=>s.size<=I0
 | .list _ es=>es.length<=I0∧TV.WFs es
 | .agg cs=>TV.WFs cs
 | .pt row=>TV.WFs row
 | .clo _ caps=>TV.WFs caps
 | .xl _ es=>es.length<=I0∧TV.WFs es
 | _=>True
def TV.WFs:QQ->Prop
 | []=>True
 | t::ts=>TV.WF t∧TV.WFs ts
end
structure At where
 own:Bool
 t:TV
def TV.isXl:TV->Bool
 | .xl _ _=>true
 | _=>false
def At.key (c:At):TV × Bool:=(c.t,c.own&&c.t.isXl)
def At.rel (c:At):At:=
 match c with
 | ⟨true,.xl n es⟩=>⟨true,.list n es⟩
 | c=>c
def At.lent (c:At):TV:=
 match c with
 | ⟨true,.xl n es⟩=>.list n es
 | c=>c.t
inductive EV where
 | undef
 | tv (t:TV)
 | ow (t:TV)
 | bx (cs:List At)
 | bp (s off:Nat)
 | tp (ts:QQ)
 | sk
 | xo (n:Nat) (es:QQ)
 | la (q:Nat) (i:Option Nat)
 | lp (q:Nat) (i:Option Nat) (c:Nat)
 | oag (cs:List At)
def EV.WF:EV->Prop
 | .tv t=>t.WF
 | .ow t=>t.WF
 | .bx cs=>∀ c∈cs,c.t.WF
 | .tp ts=>TV.WFs ts
 | .xo n es=>(TV.list n es).WF
 | .oag cs=>∀ c∈cs,c.t.WF
 | _=>True
abbrev AD:=List (Nat × EV)
def AD.get:AD->Nat->EV
 | [],_=>.undef
 | (k,e)::r,n=>if k=n then e else AD.get r n
def AD.keep (O:AD) (live:ci):AD:=live.map fun s=>(s,O.get s)
def EV.ref:EV->Option Nat
 | .bp s _=>some s
 | .la s _=>some s
 | .lp s _ _=>some s
 | _=>none
def EV.noR (d:Nat) (e:EV):Bool:=
 match e.ref with
 | some s=>d != s
 | none=>true
def AD.noRef (s:Nat):AD->Bool
 | []=>true
 | (_,e)::r=>e.noR s&&AD.noRef s r
def EV.noC (d:Nat) (k:Option Nat):EV->Bool
 | .la s (some i)=>d != s||(match k with | some j=>i != j | none=>false)
 | .lp s (some i) _=>d != s||(match k with | some j=>i != j | none=>false)
 | _=>true
def AD.noX (s:Nat) (k:Option Nat):AD->Bool
 | []=>true
 | (_,e)::r=>e.noC s k&&AD.noX s k r
def AD.xat (O:AD) (q:Nat):Option Nat->Option (Nat × QQ)
 | none=>match O.get q with
  | .xo n es=>some (n,es)
  | _=>none
 | some k=>match O.get q with
  | .bx cs=>match cs[k]? with
   | some ⟨true,.xl n es⟩=>some (n,es)
   | _=>none
  | _=>none
def AD.xput (O:AD) (q:Nat) (i:Option Nat) (n:Nat) (es:QQ):AD:=
 match i with
 | none=>(q,.xo n es)::O
 | some k=>match O.get q with
  | .bx cs=>(q,.bx (cs.set k ⟨true,.xl n es⟩))::O
  | _=>O
inductive AL where
 | s (n:Nat)
 | c (t:TV)
def AL.ev (O:AD):AL->EV
 | .s n=>O.get n
 | .c t=>.tv t
def EV.val:EV->Option TV
 | .tv t=>some t
 | .ow t=>some t
 | _=>none
def AL.val (O:AD) (x:AL):Option TV:=(x.ev O).val
def vals (O:AD):List AL->Option QQ
 | []=>some []
 | x::xs=>match x.val O,vals O xs with
  | some t,some ts=>some (t::ts)
  | _,_=>none
def intCmp (op:BinOp) (a b:Int):ca:=
 match op with
 | .eql=>some (decide (a=b))
 | .neq=>some (!decide (a=b))
 | .lss=>some (decide (a<b))
 | .leq=>some (decide (a<=b))
 | .gtr=>some (decide (b<a))
 | .geq=>some (decide (b<=a))
 | _=>none
def intArith (op:BinOp) (a b:Int):dD:=
 match op with
 | .add=>some (a+b)
 | .sub=>some (a - b)
 | .mul=>some (a*b)
 | .quo=>if b=0 then none else some (a.tdiv b)
 | _=>none
inductive GC where
 | z (c:At)
 | v (x:AL) (k n:Nat)
 | w (q:Nat)
 | g (q k n:Nat)
def GC.cell (O:AD):GC->Option At
 | .z c=>some c
 | .v x k n=>match x.val O with
  | some t=>match Nat.beq t.cells.length n,t.cells[k]? with
   | true,some c=>some ⟨false,c⟩
   | _,_=>none
  | none=>none
 | .w q=>match O.get q with
  | .ow t=>some ⟨true,t⟩
  | .xo n es=>some ⟨true,.xl n es⟩
  | _=>none
 | .g q k n=>match O.get q with
  | .oag cs=>match Nat.beq cs.length n with
   | true=>cs[k]?
   | false=>none
  | _=>none
def JO (O:AD):List GC->Option (List At)
 | []=>some []
 | g::gs=>match g.cell O,JO O gs with
  | some c,some cs=>some (c::cs)
  | _,_=>none
def GC.src:GC->Option (Nat × Option Nat)
 | .w q=>some (q,none)
 | .g q k _=>some (q,some k)
 | _=>none
def GC.slot:GC->Option Nat
 | .w q=>some q
 | .g q _ _=>some q
 | _=>none
def GC.sl:GC->ci
 | .v (.s q) _ _=>[q]
 | .w q=>[q]
 | .g q _ _=>[q]
 | _=>[]
def EV.gave:EV->EV
 | .ow t=>.tv t
 | _=>.undef
def OI (e0:AD):ci->AD->AD
 | [],O=>O
 | q::qs,O=>(q,(e0.get q).gave)::OI e0 qs O
def CY:QQ->QQ->ca
 | [],[]=>some true
 | .int k a::cs,.int k' b::ds=>if k=k' then (match CY cs ds with | some r=>some (decide (a=b)&&r) | none=>none) else none
 | .str a::cs,.str b::ds=>(match CY cs ds with | some r=>some (decide (a=b)&&r) | none=>none)
 | .bool a::cs,.bool b::ds=>(match CY cs ds with | some r=>some (decide (a=b)&&r) | none=>none)
 | _,_=>none
inductive BK where
 | i | s | b | w
 | a (ks:ci)
def TV.kd:TV->Nat
 | .int _ _=>0
 | .str _=>1
 | .bool _=>2
 | _=>3
def Lu (k:IntKind) (op:BinOp) (a b:Int):dD:=
 match op with
 | .and=>some (k.wrap (BitVec.ofInt k.bits a &&& BitVec.ofInt k.bits b).toNat)
 | .or=>some (k.wrap (BitVec.ofInt k.bits a ||| BitVec.ofInt k.bits b).toNat)
 | .xor=>some (k.wrap (BitVec.ofInt k.bits a ^^^ BitVec.ofInt k.bits b).toNat)
 | .andNot=>some (k.wrap (BitVec.ofInt k.bits a &&& ~~~ BitVec.ofInt k.bits b).toNat)
 | .shl=>if 0<=b then some (k.wrap (a*2 ^ (min b.toNat k.bits))) else none
 | .shr=>if 0<=b∧k.min<=a.fdiv (2 ^ (min b.toNat k.bits))∧a.fdiv (2 ^ (min b.toNat k.bits))<=k.max then some (a.fdiv (2 ^ (min b.toNat k.bits))) else none
 | _=>none
def F5:BK->BinOp->TV->TV->Option TV
 | .i,op,.int k a,.int k' b=>
  if k=k' then
   match intCmp op a b with
   | some r=>some (.bool r)
   | none=>match intArith op a b with
    | some r=>some (.int k (k.wrap r))
    | none=>if op=.rem∧b≠0 then some (.int k (a.tmod b)) else none
  else none
 | .w,op,.int k a,.int k' b=>if k=k'∨op=.shl∨op=.shr then (match Lu k op a b with | some r=>some (.int k r) | none=>none) else none
 | .s,.eql,.str a,.str b=>some (.bool (a==b))
 | .s,.neq,.str a,.str b=>some (.bool (!(a==b)))
 | .s,.add,.str a,.str b=>if a.size+b.size<=BM then some (.str (a++b)) else none
 | .b,.eql,.bool a,.bool b=>some (.bool (a==b))
 | .b,.neq,.bool a,.bool b=>some (.bool (!(a==b)))
 | .a n,.eql,.agg cs,.agg ds=>if cs.map TV.kd=n then (match CY cs ds with | some b=>some (.bool b) | none=>none) else none
 | .a n,.neq,.agg cs,.agg ds=>if cs.map TV.kd=n then (match CY cs ds with | some b=>some (.bool !b) | none=>none) else none
 | _,_,_,_=>none
def HP (O:AD) (d:Int):Option AL->Option TV
 | none=>some (.int .i64 d)
 | some o=>o.val O
def BZ (O:AD):EV->Option QQ
 | .tv (.pt row)=>some row
 | .bx cs=>some (cs.map (·.t))
 | .bp s off=>match O.get s with
  | .bx cs=>some ((cs.drop off).map (·.t))
  | _=>none
 | _=>none
def AL.place (O:AD):AL->Option (Nat × Nat)
 | .s n=>match O.get n with
  | .bp q off=>some (q,off)
  | .bx _=>some (n,0)
  | _=>none
 | .c _=>none
def Nq:QQ->Nat->QQ->QQ
 | cs,_,[]=>cs
 | cs,i,d::ds=>Nq (cs.set i d) (i+1) ds
def IE (cs:QQ):List (Nat × Nat × TV)->Option QQ
 | []=>some cs
 | (i,n,t)::r=>if t.cells.length=n∧i+n<=cs.length then IE (Nq cs i t.cells) r else none
def It (O:AD):List (Nat × Nat × AL)->Option (List (Nat × Nat × TV))
 | []=>some []
 | (i,n,x)::r=>match x.val O,It O r with
  | some t,some ts=>some ((i,n,t)::ts)
  | _,_=>none
inductive AJ where
 | mv (x:AL)
 | tk (s:Nat)
 | nilo (n:Nat)
 | fad (x:AL) (k:Nat)
 | bad (s k:Nat)
 | iad (x i:AL) (n:Nat)
 | aad (x i:AL) (n k:Nat)
 | ld (x:AL)
 | lda (x:AL) (n:Nat)
 | ldt (x:AL)
 | bin (k:BK) (op:BinOp) (x y:AL)
 | not (x:AL)
 | neg (x:AL)
 | pick (c a b:AL)
 | len (x:AL)
 | slen (x:AL)
 | slc (n:Nat) (x:AL) (lo hi:Option AL)
 | sslc (x:AL) (lo hi:Option AL)
 | bld (zero:QQ) (parts:List (Nat × Nat × AL))
 | lst (n:Nat) (parts:List AL)
 | app (n:Nat) (x y:AL)
 | call (f:FuncId) (args:List AL)
 | callv (x:AL) (args:List AL)
 | clo (f:FuncId) (caps:List AL)
 | ext (x:AL) (i:Nat)
 | cvt (k:IntKind) (x:AL)
 | sidx (x i:AL)
 | boxs (x:AL)
 | boxo (x:AL)
 | mm (max:Bool) (x y:AL)
 | alc (cs:List At)
 | st (n:Nat) (x v:AL)
 | stb (n s:Nat) (v:AL)
 | frz (s:Nat)
 | fldv (x:AL) (k n:Nat) (agg:Bool)
 | xal (s:Nat)
 | xlen (x:AL)
 | xia (x i:AL) (n:Nat)
 | xfa (x:AL) (k:Nat)
 | xld (x:AL)
 | xst (x v:AL)
 | rel (s:Nat)
 | nilx (n:Nat)
 | tkx (s:Nat)
 | appx (n s:Nat) (y:AL)
 | callx (f:FuncId) (args:List AL)
 | mkx (n:Nat) (zero:QQ) (x:AL)
 | callm (f:FuncId) (x:AL)
 | callc (f:FuncId) (x:AL)
 | bldg (gs:List GC)
 | stx (n:Nat) (s q:Nat)
 | callg (f:FuncId) (args:List AL)
 | isn (x:AL)
 | lac (x:AL)
 | ctk (x:AL)
 | cpt (x:AL) (q:Nat)
 | cut (n s:Nat) (hi:AL)
 | calll (f:FuncId) (args:List AL)
 | boxp (ps:List (Option At)) (x:AL)
 | appz (n s:Nat) (z:TV) (x:AL)
 | callb (f:FuncId) (args:List AL) (i:Nat)
 | callf (f:FuncId) (args:List AL)
 | lstz (n:Nat)
 | ldb (s n:Nat)
structure PR where
 dst:Option Nat
 op:AJ
 guard:Option (Nat × Bool)
inductive PC where
 | skip (live:ci)
 | ret
 | exit (id:Nat) (live:ci)
 | seq (a b:PC)
 | cond (c:AL) (a b:PC)
 | block (id:Nat) (c:PC)
 | loop (live:ci) (c:PC)
 | region (ops:List PR) (live:ci)
 | draw (D:ci) (ops:List PR) (live:ci)
 | rls (s:Nat) (c:PC)
 | bad
def Pt (O:AD):ci->Bool
 | []=>true
 | d::ds=>O.noRef d&&Pt O ds
inductive CS where
 | sh (t:TV)
 | own (t:TV)
 | tp (ts:QQ)
 | turn (zs:Ne)
 | cut (zs:Ne)
 | xown (n:Nat) (es:QQ)
 | oag (cs:List At)
 | bo (cs cs':List At) (i:Nat) (ts:QQ)
 | ext (ts:QQ)
def CS.WF:CS->Prop
 | .sh t=>t.WF
 | .own t=>t.WF
 | .tp ts=>TV.WFs ts
 | .turn zs=>(TV.list 1 (zs.map (TV.int .i64))).WF
 | .cut zs=>(TV.list 1 (zs.map (TV.int .i64))).WF
 | .xown n es=>(TV.list n es).WF
 | .oag cs=>∀ c∈cs,c.t.WF
 | .bo _ cs' _ ts=>(∀ c∈cs',c.t.WF)∧TV.WFs ts
 | .ext ts=>TV.WFs ts
def CS.plain:CS->Bool
 | .turn _=>false
 | .cut _=>false
 | .bo ..=>false
 | .ext _=>false
 | _=>true
def CS.ev:CS->EV
 | .sh t=>.tv t
 | .own t=>.ow t
 | .tp ts=>.tp ts
 | .xown n es=>.ow (.list n es)
 | .oag cs=>.tv (.agg (cs.map (·.t)))
 | _=>.undef
mutual
def TV.flat:TV->Bool
 | .int _ _=>true
 | .bool _=>true
 | .str _=>true
 | .agg cs=>TV.flats cs
 | _=>false
def TV.flats:QQ->Bool
 | []=>true
 | t::ts=>t.flat&&TV.flats ts
end
def EV.free:EV->Bool
 | .tv t=>t.flat
 | .undef=>true
 | .sk=>true
 | _=>false
def AL.xlist (O:AD):AL->Option ((Nat × Option Nat) × Nat × QQ)
 | .s m=>match O.get m with
  | .xo n es=>some ((m,none),n,es)
  | .la q i=>match O.xat q i with
   | some p=>some ((q,i),p)
   | none=>none
  | _=>none
 | .c _=>none
def AL.lval (O:AD) (x:AL):Option TV:=
 match x.xlist O with
 | some p=>some (.list p.2.1 p.2.2)
 | none=>match x.ev O with
  | .bx cs=>some (.pt (cs.map At.lent))
  | .bp q off=>match O.get q with
   | .bx cs=>some (.pt ((cs.drop off).map At.lent))
   | _=>none
  | e=>e.val
def lvals (O:AD):List AL->Option QQ
 | []=>some []
 | x::xs=>match x.lval O,lvals O xs with
  | some t,some ts=>some (t::ts)
  | _,_=>none
def CS.lends:CS->Bool
 | .sh t=>t.flat
 | .tp ts=>TV.flats ts
 | .own (.list _ es)=>TV.flats es
 | _=>false
def OU (O:AD):Nat->List AL->Option QQ
 | _,[]=>some []
 | 0,_::xs=>match vals O xs with
  | some ts=>some (.undef::ts)
  | none=>none
 | i+1,x::xs=>match x.val O,OU O i xs with
  | some t,some ts=>some (t::ts)
  | _,_=>none
def EV.ofs:QQ->EV
 | [t]=>.tv t
 | ts=>.tp ts
def HQ:List (Option At)->QQ->Option (List At)
 | [],[]=>some []
 | none::ps,t::ts=>match HQ ps ts with
  | some cs=>some (⟨false,t⟩::cs)
  | none=>none
 | some c::ps,.nil::ts=>match c,HQ ps ts with
  | ⟨true,.list n []⟩,some cs=>some (⟨true,.list n []⟩::cs)
  | ⟨true,.xl n []⟩,some cs=>some (⟨true,.xl n []⟩::cs)
  | _,_=>none
 | _,_=>none
section
variable (S:FuncId->QQ->CS->Prop)
def BB {α:Type} (o:Option α) (K:α->Prop):Prop:=
 match o with
 | some a=>K a
 | none=>False
def IG:QQ->Option TV
 | []=>none
 | t::_=>some t
def strip:AD->Nat->AD
 | O,s=>(s,.undef)::O
def AJ.wp (O:AD) (dst:Option Nat) (K:EV->AD->Prop):AJ->Prop
 | .mv x=>match x.ev O with
  | .tv t=>K (.tv t) O
  | .ow t=>K (.tv t) O
  | .tp ts=>K (.tp ts) O
  | _=>False
 | .tk s=>match O.get s with
  | .ow t=>K (.ow t) ((s,.tv t)::O)
  | .tv t=>K (.tv t) O
  | _=>False
 | .nilo n=>K (.ow (.list n [])) O
 | .fad x k=>match x.ev O with
  | .tv (.pt row)=>K (.tv (.pt (row.drop k))) O
  | .bp s off=>match O.get s with
   | .bx _=>K (.bp s (off+k)) O
   | _=>False
  | _=>False
 | .bad s k=>match O.get s with
  | .bx _=>K (.bp s k) O
  | .tv (.pt row)=>K (.tv (.pt (row.drop k))) O
  | _=>False
 | .iad x i n=>match x.val O,i.val O with
  | some (.list m es),some (.int _ j)=>m=n∧0<=j∧∃ e,es[j.toNat]?=some e∧K (.tv (.pt e.cells)) O
  | _,_=>False
 | .aad x i n k=>match x.ev O,i.val O with
  | .tv (.pt row),some (.int _ j)=>0<=j∧j<k∧k*n<=row.length∧K (.tv (.pt (row.drop (j.toNat*n)))) O
  | _,_=>False
 | .ld x=>BB (BZ O (x.ev O)) fun cs=>BB (IG cs) fun t=>t.isXl=false∧K (.tv t) O
 | .lda x n=>BB (BZ O (x.ev O)) fun cs=>n<=cs.length∧K (.tv (.agg (cs.take n))) O
 | .ldb s n=>match O.get s with
  | .bx cs=>n<=(cs.map (·.t)).length∧K (.tv (.agg ((cs.map (·.t)).take n))) O
  | _=>False
 | .ldt x=>match x.place O with
  | some (s,off)=>match O.get s with
   | .bx cs=>match cs[off]? with
    | some ⟨true,.list n es⟩=>K (.ow (.list n es)) ((s,.bx (cs.set off ⟨false,.list n es⟩))::O)
    | _=>False
   | _=>False
  | none=>False
 | .bin k op x y=>match x.val O,y.val O with
  | some a,some b=>BB (F5 k op a b) fun t=>K (.tv t) O
  | _,_=>False
 | .not x=>match x.val O with
  | some (.bool b)=>K (.tv (.bool !b)) O
  | _=>False
 | .neg x=>match x.val O with
  | some (.int k n)=>K (.tv (.int k (k.wrap (-n)))) O
  | _=>False
 | .pick c a b=>match c.val O with
  | some (.bool q)=>match (if q then a else b).ev O with
   | .tv t=>K (.tv t) O
   | .ow t=>K (.tv t) O
   | _=>False
  | _=>False
 | .len x=>match x.val O with
  | some (.list _ es)=>K (.tv (.int .i64 es.length)) O
  | _=>False
 | .slen x=>match x.val O with
  | some (.str s)=>K (.tv (.int .i64 s.size)) O
  | _=>False
 | .slc n x lo hi=>match x.val O with
  | some (.list m es)=>match HP O 0 lo,HP O es.length hi with
   | some (.int _ l),some (.int _ h)=>(m=n∧0<=l∧l<=h)∧h<=es.length∧K (.tv (.list n ((es.take h.toNat).drop l.toNat))) O
   | _,_=>False
  | _=>False
 | .sslc x lo hi=>match x.val O with
  | some (.str s)=>match HP O 0 lo,HP O s.size hi with
   | some (.int _ l),some (.int _ h)=>0<=l∧l<=h∧h<=s.size∧K (.tv (.str (s.extract l.toNat h.toNat))) O
   | _,_=>False
  | _=>False
 | .bld zero parts=>BB (It O parts) fun ts=>BB (IE zero ts) fun cs=>K (.tv (.agg cs)) O
 | .lst n parts=>BB (vals O parts) fun ts=>(∀ t∈ts,t.cells.length=n)∧K (.ow (.list n ts)) O
 | .app n x y=>match x.ev O,y.val O with
  | .ow (.list m es),some (.list m' fs)=>m=n∧m'=n∧es.length+fs.length<=BM ∧
    K (.ow (.list n (es++fs))) (match x with | .s s=>(s,.tv (.list n es))::O | _=>O)
  | _,_=>False
 | .call f args=>BB (vals O args) fun ts=>∃ r,(S f ts r∧r.plain=true)∧(r.WF->K r.ev O)
 | .callv x args=>match x.val O,vals O args with
  | some (.clo f caps),some ts=>∃ r,(S f (ts++caps) r∧r.plain=true)∧(r.WF->K r.ev O)
  | _,_=>False
 | .clo f caps=>BB (vals O caps) fun ts=>K (.tv (.clo f ts)) O
 | .ext x i=>match x.ev O with
  | .tp ts=>BB ts[i]? fun t=>K (.tv t) O
  | _=>False
 | .cvt k x=>match x.val O with
  | some (.int _ n)=>K (.tv (.int k (k.wrap n))) O
  | _=>False
 | .sidx x i=>match x.val O,i.val O with
  | some (.str s),some (.int _ j)=>0<=j∧∃ b,s[j.toNat]?=some b∧K (.tv (.int .u8 b.toNat)) O
  | _,_=>False
 | .boxs x=>match x.val O with
  | some t=>K (.tv (.pt t.cells)) O
  | _=>False
 | .boxo x=>match x.val O,dst with
  | some t,some d=>O.noRef d=true∧K (.bx (t.cells.map (⟨false,·⟩))) O
  | _,_=>False
 | .mm mx x y=>match x.val O,y.val O with
  | some (.int k a),some (.int k' b)=>k=k'∧K (.tv (.int k (if mx then max a b else min a b))) O
  | _,_=>False
 | .alc cs=>match dst with
  | some d=>O.noRef d=true∧K (.bx cs) O
  | none=>False
 | .st n x v=>match x.place O with
  | some (s,off)=>match O.get s with
   | .bx cs=>match v.ev O with
    | .ow t=>match v with
     | .s q=>q≠s∧n=1∧off<cs.length∧K .undef ((s,.bx (cs.set off ⟨true,t⟩))::(q,.tv t)::O)
     | _=>False
    | .tv t=>t.cells.length=n∧off+n<=cs.length∧K .undef ((s,.bx (cs.take off++t.cells.map (⟨false,·⟩)++cs.drop (off+n)))::O)
    | _=>False
   | _=>False
  | none=>False
 | .stb n s v=>match O.get s with
  | .bx cs=>match v.ev O with
   | .ow t=>match v with
    | .s q=>q≠s∧n=1∧0<cs.length∧K .undef ((s,.bx (cs.set 0 ⟨true,t⟩))::(q,.tv t)::O)
    | _=>False
   | .tv t=>t.cells.length=n∧0+n<=cs.length∧K .undef ((s,.bx (cs.take 0++t.cells.map (⟨false,·⟩)++cs.drop (0+n)))::O)
   | _=>False
  | _=>False
 | .frz s=>match O.get s with
  | .bx cs=>K .undef ((s,.tv (.pt (cs.map (·.t))))::O)
  | _=>False
 | .fldv x k n agg=>match x.val O with
  | some (.agg cs)=>k+n<=cs.length∧(if agg then K (.tv (.agg ((cs.drop k).take n))) O else BB (IG (cs.drop k)) fun t=>K (.tv t) O)
  | _=>False
 | .xal s=>match O.get s with
  | .xo _ _=>K (.la s none) O
  | _=>False
 | .xlen x=>BB (x.xlist O) fun p=>K (.tv (.int .i64 p.2.2.length)) O
 | .xia x i n=>BB (x.xlist O) fun p=>match i.val O with
  | some (.int _ j)=>((x.ev O).ref=some p.1.1∧p.2.1=n)∧0<=j∧j<p.2.2.length∧K (.lp p.1.1 p.1.2 (j.toNat*n)) O
  | _=>False
 | .xfa x k=>match x.ev O with
  | .lp q i c=>match O.xat q i with
   | some _=>K (.lp q i (c+k)) O
   | none=>False
  | _=>False
 | .xld x=>match x.ev O with
  | .lp q i c=>match O.xat q i with
   | some p=>BB (p.2.flatMap TV.cells)[c]? fun t=>K (.tv t) O
   | none=>False
  | _=>False
 | .xst x v=>match x.ev O with
  | .lp q i c=>match O.xat q i,v.ev O with
   | some (n,es),.tv t=>t.cells=[t]∧c<es.length*n∧∃ es',es'.flatMap TV.cells=(es.flatMap TV.cells).set c t∧es'.length=es.length∧(∀ e∈es',e.cells.length=n)∧K .undef (O.xput q i n es')
   | _,_=>False
  | _=>False
 | .rel s=>match dst,O.get s with
  | some d,.xo n es=>d≠s∧K (.ow (.list n es)) ((s,.undef)::O)
  | _,_=>False
 | .nilx n=>match dst with
  | some d=>O.noRef d=true∧K (.xo n []) O
  | none=>False
 | .tkx s=>match dst,O.get s with
  | some d,.xo n es=>O.noRef d=true∧d≠s∧K (.xo n es) ((s,.undef)::O)
  | _,_=>False
 | .appx n s y=>match dst,O.get s,y.val O with
  | some d,.xo m es,some (.list m' fs)=>m=n∧m'=n∧es.length+fs.length<=BM∧O.noRef d=true∧d≠s∧K (.xo n (es++fs)) ((s,.undef)::O)
  | _,_,_=>False
 | .callx f args=>match dst with
  | some d=>O.noRef d=true∧BB (vals O args) fun ts=>∃ n es,(S f ts (.xown n es)∨(S f ts (.own (.list n es))∧TV.flats es=true))∧((TV.list n es).WF->K (.xo n es) O)
  | none=>False
 | .mkx n zero x=>match dst,x.val O with
  | some d,some (.int _ j)=>O.noRef d=true∧0<=j∧j<=4096∧K (.xo n (List.replicate j.toNat (match zero with | [t]=>t | ts=>.agg ts))) O
  | _,_=>False
 | .bldg gs=>match dst with
  | some d=>((gs.filterMap GC.src).Nodup∧d ∉ gs.filterMap GC.slot)∧BB (JO O gs) fun cs=>K (.oag cs) (OI O (gs.filterMap GC.slot) O)
  | none=>False
 | .stx n s q=>match O.get s,O.get q with
  | .bx cs,.oag ds=>q≠s∧(ds.length=n∧((ds.all fun c=>!c.t.isXl)||O.noX s none)=true)∧0+n<=cs.length∧K .undef ((s,.bx (cs.take 0++ds++cs.drop (0+n)))::(q,.undef)::O)
  | _,_=>False
 | .callg f args=>BB (vals O args) fun ts=>∃ cs,S f ts (.oag cs)∧((∀ c∈cs,c.t.WF)->K (.oag cs) O)
 | .isn x=>match x.val O with
  | some (.list _ es)=>∀ b:Bool,(b=true->es=[])->K (.tv (.bool b)) O
  | _=>False
 | .callm f x=>BB (x.xlist O) fun p=>p.2.1=1∧∃ zs zs':Ne,p.2.2=zs.map (TV.int .i64)∧S f [.list 1 p.2.2] (.turn zs')∧((TV.list 1 (zs'.map (TV.int .i64))).WF->K (.tp []) (O.xput p.1.1 p.1.2 1 (zs'.map (TV.int .i64))))
 | .callc f x=>match dst with
  | some d=>BB (x.xlist O) fun p=>(p.1.1≠d∧p.1.2=none)∧p.2.1=1∧O.noRef d=true∧∃ zs zs':Ne,p.2.2=zs.map (TV.int .i64)∧S f [.list 1 p.2.2] (.cut zs')∧((TV.list 1 (zs'.map (TV.int .i64))).WF->K (.xo 1 (zs'.map (TV.int .i64))) ((p.1.1,.undef)::O))
  | none=>False
 | .lac x=>match x.ev O with
  | .bp s off=>match O.xat s (some off) with
   | some _=>K (.la s (some off)) O
   | none=>False
  | _=>False
 | .ctk x=>match dst,x.place O with
  | some d,some (s,off)=>match O.get s with
   | .bx cs=>match cs[off]? with
    | some ⟨true,.xl n es⟩=>O.noRef d=true∧K (.xo n es) ((s,.bx (cs.set off ⟨false,.undef⟩))::O)
    | _=>False
   | _=>False
  | _,_=>False
 | .cpt x q=>match x.place O,O.get q with
  | some (s,off),.xo n es=>match O.get s with
   | .bx cs=>O.noX s (some off)=true∧off<cs.length∧K .undef ((s,.bx (cs.set off ⟨true,.xl n es⟩))::(q,.undef)::O)
   | _=>False
  | _,_=>False
 | .cut n s hi=>match dst,O.get s,hi.val O with
  | some d,.xo m es,some (.int _ h)=>(m=n∧O.noRef d=true∧d≠s)∧0<=h∧h<=es.length∧K (.xo n (es.take h.toNat)) ((s,.undef)::O)
  | _,_,_=>False
 | .appz n s z x=>match dst,O.get s,x.val O with
  | some d,.xo m es,some (.int _ j)=>((m=n∧n=1)∧z.cells=[z])∧(0<=j∧j<=4096)∧(es.length+j.toNat<=BM∧O.noRef d=true∧d≠s)∧K (.xo n (es++List.replicate j.toNat z)) ((s,.undef)::O)
  | _,_,_=>False
 | .calll f args=>BB (lvals O args) fun ts=>∃ r,(S f ts r∧r.lends=true)∧(r.WF->K r.ev O)
 | .callf f args=>BB (vals O args) fun ts=>∃ us,S f ts (.ext us)∧K (.tp us) O
 | .boxp ps x=>match x.val O,dst with
  | some t,some d=>BB (HQ ps t.cells) fun cs=>O.noRef d=true∧K (.bx cs) O
  | _,_=>False
 | .lstz n=>match dst with
  | some d=>O.noRef d=true∧K (.xo n []) O
  | none=>False
 | .callb f args i=>match dst,(args[i]?).bind (·.place O) with
  | some d,some (s,0)=>match O.get s with
   | .bx cs=>(O.noX s none=true∧d≠s)∧BB (OU O i args) fun ts=>∃ cs' us,S f ts (.bo cs cs' i us)∧((∀ c∈cs',c.t.WF)∧TV.WFs us->K (EV.ofs us) ((s,.bx cs')::O))
   | _=>False
  | _,_=>False
def AD.put (O:AD) (dst:Option Nat) (e:EV):AD:=
 match dst with
 | some d=>(d,e)::O
 | none=>O
def PR.wp (O:AD) (K:AD->Prop) (o:PR):Prop:=
 match o.guard with
 | none=>o.op.wp S O o.dst fun e env'=>K (env'.put o.dst e)
 | some (g,b)=>match O.get g with
  | .tv (.bool q)=>(q=b->o.op.wp S O o.dst fun e env'=>K (env'.put o.dst e))∧(q=!b->K (O.put o.dst .sk))
  | .sk=>K (O.put o.dst .sk)
  | _=>False
def wpOps (K:AD->Prop):List PR->AD->Prop
 | [],O=>K O
 | o::os,O=>o.wp S O fun env'=>wpOps K os env'
structure Q where
 normal:AD->Prop
 exit:Nat->AD->Prop
 ret:AD->Prop
def PC.wp:PC->Q->AD->Prop
 | .skip live,q,O=>q.normal (O.keep live)
 | .ret,q,O=>q.ret O
 | .exit id live,q,O=>q.exit id (O.keep live)
 | .seq a b,q,O=>a.wp { q with normal:=fun e=>(∀ s,(e.get s).WF)->b.wp q e } O
 | .cond c a b,q,O=>match c.val O with
  | some (.bool x)=>(x=true->a.wp q O)∧(x=false->b.wp q O)
  | _=>False
 | .block id c,q,O=>c.wp { q with exit:=fun i e=>if i=id then q.normal e else q.exit i e } O
 | .loop live c,q,O=>∀ X:AD->Prop,(∀ e,((∀ s,(e.get s).WF)->c.wp { q with normal:=fun e'=>X (e'.keep live) } e)->X e)->X (O.keep live)
 | .region ops live,q,O=>wpOps S (fun e=>q.normal (e.keep live)) ops O
 | .draw D ops live,q,O=>Pt O D=true∧wpOps S (fun e=>q.normal (e.keep live)) ops O
 | .bad,_,_=>False
 | .rls s c,q,O=>match O.get s with
  | .bx cs=>c.wp q ((s,.bx (cs.map At.rel))::O)
  | _=>False
end
inductive RV where
 | tmp (s:Nat)
 | cell (s:Nat) (agg:Option Nat)
def RV.get (O:AD):RV->Option TV
 | .tmp s=>(O.get s).val
 | .cell s none=>match BZ O (O.get s) with
  | some (t::_)=>some t
  | _=>none
 | .cell s (some n)=>match BZ O (O.get s) with
  | some cs=>if cs.length=n then some (.agg cs) else none
  | none=>none
def KD (O:AD):List RV->Option QQ
 | []=>some []
 | x::xs=>match x.get O,KD O xs with
  | some t,some ts=>some (t::ts)
  | _,_=>none
def FA (rs:List RV) (r:CS) (O:AD):Prop:=
 match r,rs with
 | .own t,[.tmp s]=>O.get s=.ow t
 | .own _,_=>False
 | .sh t,[x]=>x.get O=some t
 | .sh _,_=>False
 | .tp ts,rs=>rs.length≠1∧KD O rs=some ts
 | .turn _,_=>False
 | .cut _,_=>False
 | .xown n es,[.tmp s]=>O.get s=.xo n es
 | .xown _ _,_=>False
 | .oag cs,[.cell s (some n)]=>O.get s=.bx cs∧cs.length=n
 | .oag _,_=>False
 | .bo _ cs' i ts,rs=>O.get i=.bx cs'∧KD O rs=some ts
 | .ext _,_=>False
end Go.Sf
namespace Go.Sf
def D0 (w w':World) (F F':Nat->Nat->Prop):Prop:=
 ∀ b o v,w.cell? ⟨b,o,none⟩=some v->¬ F b o->w'.cell? ⟨b,o,none⟩=some v∧¬ F' b o
section
variable {w w':World} {F F':Nat->Nat->Prop}
mutual
theorem DH (h:D0 w w' F F'):∀ (t:TV) (v:Value),A7 w F t v->A7 w' F' t v
 | .undef,_,c=>c
 | .int _ _,_,c=>c
 | .bool _,_,c=>c
 | .str _,_,c=>c
 | .nil,_,c=>c
 | .list n es,v,c=>by
  simp only [A7] at c ⊢;obtain ⟨a,cap,d,l,e,j⟩:=c;exact ⟨a,cap,d,l,e,fun k g=>⟨(j k g).1,Qo h n es _ _ (j k g).2⟩⟩
 | .agg cs,v,c=>by
  simp only [A7] at c ⊢;obtain ⟨vs,d,e,j⟩:=c;exact ⟨vs,d,BS h cs _ e,j⟩
 | .pt row,v,c=>by
  simp only [A7] at c ⊢;obtain ⟨b,o,d,e⟩:=c;exact ⟨b,o,d,Nx h row _ _ e⟩
 | .clo f i,v,c=>by
  simp only [A7] at c ⊢;obtain ⟨vs,d,e⟩:=c;exact ⟨vs,d,BS h i _ e⟩
 | .xl _ _,_,c=>c
theorem BS (h:D0 w w' F F'):∀ (ts:QQ) (vs:List Value),AS w F ts vs->AS w' F' ts vs
 | [],_,a=>a
 | t::ts,vs,a=>by
  simp only [AS] at a ⊢;obtain ⟨v,r,c,d,e⟩:=a;exact ⟨v,r,c,DH h t v d,BS h ts r e⟩
theorem Nx (h:D0 w w' F F'):∀ (ts:QQ) (b o:Nat),EN w F ts b o->EN w' F' ts b o
 | [],_,_,_=>trivial
 | t::ts,b,o,d=>by
  simp only [EN] at d ⊢;obtain ⟨⟨v,a,c,e,f⟩,g⟩:=d;exact ⟨⟨v,(h b o v a c).1,(h b o v a c).2,e,DH h t v f⟩,Nx h ts b (o+1) g⟩
theorem Qo (h:D0 w w' F F') (n:Nat):∀ (ts:QQ) (b o:Nat),IN w F n ts b o->IN w' F' n ts b o
 | [],_,_,_=>trivial
 | t::ts,b,o,a=>by
  simp only [IN] at a ⊢;exact ⟨ZY h t b o a.1,a.2.1,Qo h n ts b (o+n) a.2.2⟩
theorem ZY (h:D0 w w' F F'):∀ (t:TV) (b o:Nat),Jo w F t b o->Jo w' F' t b o
 | .agg cs,b,o,c=>Nx h cs b o c
 | .undef,b,o,c=>by
  simp only [Jo] at c ⊢;obtain ⟨v,d,e,g⟩:=c;exact ⟨v,(h b o v d e).1,(h b o v d e).2,g⟩
 | .int _ _,b,o,c=>by
  simp only [Jo] at c ⊢;obtain ⟨v,d,e,g⟩:=c;exact ⟨v,(h b o v d e).1,(h b o v d e).2,g⟩
 | .bool _,b,o,c=>by
  simp only [Jo] at c ⊢;obtain ⟨v,d,e,g⟩:=c;exact ⟨v,(h b o v d e).1,(h b o v d e).2,g⟩
 | .str _,b,o,c=>by
  simp only [Jo] at c ⊢;obtain ⟨v,d,e,g⟩:=c;exact ⟨v,(h b o v d e).1,(h b o v d e).2,g⟩
 | .nil,b,o,c=>by
  simp only [Jo] at c ⊢;obtain ⟨v,d,e,g⟩:=c;exact ⟨v,(h b o v d e).1,(h b o v d e).2,g⟩
 | .list n es,b,o,c=>by
  simp only [Jo] at c ⊢;obtain ⟨v,d,e,j,a,cap,g,q,k,p⟩:=c;exact ⟨v,(h b o v d e).1,(h b o v d e).2,j,a,cap,g,q,k,fun m i=>⟨(p m i).1,Qo h n es _ _ (p m i).2⟩⟩
 | .pt row,b,o,c=>by
  simp only [Jo] at c ⊢;obtain ⟨v,d,e,j,r,s,g,k⟩:=c;exact ⟨v,(h b o v d e).1,(h b o v d e).2,j,r,s,g,Nx h row _ _ k⟩
 | .clo f l,b,o,c=>by
  simp only [Jo] at c ⊢;obtain ⟨v,d,e,j,vs,g,k⟩:=c;exact ⟨v,(h b o v d e).1,(h b o v d e).2,j,vs,g,BS h l _ k⟩
 | .xl _ _,b,o,c=>by
  simp only [Jo] at c ⊢;obtain ⟨v,d,e,g⟩:=c;exact ⟨v,(h b o v d e).1,(h b o v d e).2,g⟩
end
end
section
variable {w:World} {F:Nat->Nat->Prop}
theorem GU:∀ (ts:QQ) (b o:Nat),EN w F ts b o↔∀ i t,ts[i]?=some t->∃ v,w.cell? ⟨b,o+i,none⟩=some v∧¬ F b (o+i)∧v.oneCell'=true∧A7 w F t v
 | [],_,_=>by simp [EN]
 | t::ts,b,o=>by
  simp only [EN,GU ts b (o+1)];constructor
  ·rintro ⟨a,c⟩ i u hi;cases i with
   | zero=>simp at hi; subst hi; exact a
   | succ i=>have:=c i u (by simpa using hi); rwa [show o+1+i=o+(i+1) from by omega] at this
  ·intro h;refine ⟨by simpa using h 0 t rfl,fun i u hi=>?_⟩;have:=h (i+1) u (by simpa using hi)
   rwa [show o+(i+1)=o+1+i from by omega] at this
variable {ts:QQ} {b o:Nat}
theorem Nw (h:EN w F ts b o) (k:Nat):EN w F (ts.drop k) b (o+k):=by
 rw [GU] at h ⊢;intro i t hi;rw [List.getElem?_drop] at hi;have:=h (k+i) t hi
 rwa [show o+k+i=o+(k+i) from by omega]
theorem Xw (h:EN w F ts b o) (k:Nat):EN w F (ts.take k) b o:=by
 rw [GU] at h ⊢;intro i t hi;rw [List.getElem?_take] at hi;split at hi
 ·exact h i t hi
 ·simp at hi
variable {n:Nat}
theorem OZ {e:TV} {es:QQ}:IN w F n (e::es) b o↔EN w F e.cells b o∧e.cells.length=n∧IN w F n es b (o+n):=by
 simp only [IN,ZX]
theorem PZ (n:Nat):∀ (es:QQ) (b o:Nat),IN w F n es b o↔∀ i e,es[i]?=some e->EN w F e.cells b (o+i*n)∧e.cells.length=n
 | [],_,_=>by simp [IN]
 | e::es,b,o=>by
  rw [OZ,PZ n es b (o+n)];constructor
  ·rintro ⟨c,d,f⟩ i u hi;cases i with
   | zero=>simp at hi; subst hi; simpa using ⟨c,d⟩
   | succ i=>
    have:=f i u (by simpa using hi)
    rwa [show o+n+i*n=o+(i+1)*n from by rw [Nat.add_mul]; omega] at this
  ·intro h;have a:=h 0 e rfl;simp at a;refine ⟨a.1,a.2,fun i u hi=>?_⟩;have:=h (i+1) u (by simpa using hi)
   rwa [show o+(i+1)*n=o+n+i*n from by rw [Nat.add_mul]; omega] at this
theorem CP:∀ (ts:QQ) (vs:List Value),AS w F ts vs↔vs.length=ts.length∧∀ (i:Nat) (t:TV) (v:Value),ts[i]?=some t->vs[i]?=some v->A7 w F t v
 | [],vs=>by simp [AS]
 | t::ts,vs=>by
  simp only [AS];constructor
  ·rintro ⟨v,r,rfl,d,a⟩;rw [CP ts r] at a;refine ⟨by simp [a.1],fun i u x hi c=>?_⟩;cases i with
   | zero=>simp at hi c; subst hi c; exact d
   | succ i=>exact a.2 i u x (by simpa using hi) (by simpa using c)
  ·rintro ⟨d,a⟩;cases vs with
   | nil=>simp at d
   | cons v r=>exact ⟨v,r,rfl,a 0 t v rfl rfl,(CP ts r).2 ⟨by simpa using d,fun i u x hi c=>a (i+1) u x (by simpa using hi) (by simpa using c)⟩⟩
theorem Kf {ts c:QQ} {vs xs:List Value} (a:AS w F ts vs) (d:AS w F c xs):AS w F (ts++c) (vs++xs):=by
 induction ts generalizing vs with
 | nil=>simp only [AS] at a; subst a; simpa using d
 | cons t ts g=>
  simp only [AS] at a;obtain ⟨v,r,rfl,e,f⟩:=a;exact ⟨v,r++xs,rfl,e,g f⟩
theorem JW {t:TV} {v:Value} (h:A7 w F t v):AS w F t.cells v.cells.toList∧∀ x∈v.cells.toList,x.oneCell'=true:=by
 have one:∀ {v:Value} {t:TV},v.cells=#[v]->v.oneCell'=true->A7 w F t v->t.cells=[t]->AS w F t.cells v.cells.toList∧∀ x∈v.cells.toList,x.oneCell'=true:=by
  intro v t j d e l;rw [j,l];exact ⟨⟨v,[],rfl,e,rfl⟩,by simpa using d⟩
 cases t with
 | agg cs=>simp only [A7] at h; obtain ⟨vs,rfl,d,e⟩:=h; exact ⟨d,fun x i=>List.all_eq_true.1 e x i⟩
 | undef=>have c:=h; simp only [A7] at h; cases v <;> first | exact one rfl rfl c rfl | (simp [Value.oneCell'] at h)
 | xl n es=>have c:=h; simp only [A7] at h; cases v <;> first | exact one rfl rfl c rfl | (simp [Value.oneCell'] at h)
 | int k n=>have c:=h; simp only [A7] at h; subst h; exact one rfl rfl c rfl
 | bool b=>have c:=h; simp only [A7] at h; subst h; exact one rfl rfl c rfl
 | str s=>have c:=h; simp only [A7] at h; subst h; exact one rfl rfl c rfl
 | nil=>have c:=h; simp only [A7] at h; subst h; exact one rfl rfl c rfl
 | list n es=>have c:=h; simp only [A7] at h; obtain ⟨a,cap,rfl,_⟩:=h; exact one rfl rfl c rfl
 | pt row=>have c:=h; simp only [A7] at h; obtain ⟨b,o,rfl,_⟩:=h; exact one rfl rfl c rfl
 | clo f g=>have c:=h; simp only [A7] at h; obtain ⟨vs,rfl,_⟩:=h; exact one rfl rfl c rfl
end
end Go.Sf
namespace Go.Sf
section
variable (S:FuncId->QQ->CS->Prop)
theorem wp_skip (l:ci) (q:Q) (O:AD):PC.wp S (.skip l) q O=q.normal (O.keep l):=rfl
theorem wp_ret (q:Q) (O:AD):PC.wp S .ret q O=q.ret O:=rfl
theorem wp_exit (id:Nat) (l:ci) (q:Q) (O:AD):PC.wp S (.exit id l) q O=q.exit id (O.keep l):=rfl
theorem wp_seq (a b:PC) (q:Q) (O:AD):PC.wp S (.seq a b) q O=a.wp S { q with normal:=fun e=>(∀ s,(e.get s).WF)->b.wp S q e } O:=rfl
theorem wp_block (id:Nat) (c:PC) (q:Q) (O:AD):PC.wp S (.block id c) q O=c.wp S { q with exit:=fun i e=>if i=id then q.normal e else q.exit i e } O:=rfl
theorem wp_region (ops:List PR) (a:ci) (q:Q) (O:AD):PC.wp S (.region ops a) q O=wpOps S (fun e=>q.normal (e.keep a)) ops O:=rfl
theorem DW {α:Type} {o:Option α} {K K':α->Prop} (h:∀ a,K a->K' a):BB o K->BB o K':=by
 cases o <;> simp [BB]; exact h _
theorem AJ.wp_mono (O:AD) (dst:Option Nat) {K K':EV->AD->Prop} (h:∀ e env',K e env'->K' e env') (op:AJ) (a:op.wp S O dst K):op.wp S O dst K':=by
 cases op <;> simp only [AJ.wp] at a ⊢
 case ld=>exact DW (fun _=>DW (fun _ g=>⟨g.1,h _ _ g.2⟩)) a
 case lda=>exact DW (fun _ g=>⟨g.1,h _ _ g.2⟩) a
 case bld=>exact DW (fun _=>DW (fun _=>h _ _)) a
 case lst=>exact DW (fun _ g=>⟨g.1,h _ _ g.2⟩) a
 case call=>exact DW (fun _ ⟨r,d,c⟩=>⟨r,d,fun f=>h _ _ (c f)⟩) a
 case clo=>exact DW (fun _=>h _ _) a
 case mm=>split at a <;> first | exact a.elim | exact ⟨a.1,h _ _ a.2⟩
 case fldv x k n agg=>
  split at a
  ·refine ⟨a.1,?_⟩;have c:=a.2;cases agg
   ·exact DW (fun _=>h _ _) c
   ·exact h _ _ c
  ·exact a.elim
 case xlen=>exact DW (fun _=>h _ _) a
 case xia=>exact DW (fun p l=>by
  split at l
  ·exact ⟨l.1,l.2.1,l.2.2.1,h _ _ l.2.2.2⟩
  ·exact l.elim) a
 case xst=>
  split at a
  ·split at a
   ·obtain ⟨d,c,es',i,m,t,v⟩:=a;exact ⟨d,c,es',i,m,t,h _ _ v⟩
   ·exact a.elim
  ·exact a.elim
 case lstz=>split at a <;> first | exact a.elim | exact ⟨a.1,h _ _ a.2⟩
 case nilx=>split at a <;> first | exact a.elim | exact ⟨a.1,h _ _ a.2⟩
 case tkx=>split at a <;> first | exact a.elim | exact ⟨a.1,a.2.1,h _ _ a.2.2⟩
 case appx=>split at a <;> first | exact a.elim | exact ⟨a.1,a.2.1,a.2.2.1,a.2.2.2.1,a.2.2.2.2.1,h _ _ a.2.2.2.2.2⟩
 case callx=>
  split at a
  ·exact ⟨a.1,DW (fun ts ⟨n,es,d,c⟩=>⟨n,es,d,fun f=>h _ _ (c f)⟩) a.2⟩
  ·exact a.elim
 case bldg=>
  split at a
  ·exact ⟨a.1,DW (fun _=>h _ _) a.2⟩
  ·exact a.elim
 case stx=>split at a <;> first | exact a.elim | exact ⟨a.1,a.2.1,a.2.2.1,h _ _ a.2.2.2⟩
 case callg=>exact DW (fun ts ⟨cs,d,c⟩=>⟨cs,d,fun f=>h _ _ (c f)⟩) a
 case calll=>exact DW (fun _ ⟨r,d,c⟩=>⟨r,d,fun f=>h _ _ (c f)⟩) a
 case boxp=>
  split at a
  ·exact DW (fun _ g=>⟨g.1,h _ _ g.2⟩) a
  ·exact a.elim
 case callf=>exact DW (fun ts ⟨q,d,c⟩=>⟨q,d,h _ _ c⟩) a
 case appz=>
  split at a
  ·exact ⟨a.1,a.2.1,a.2.2.1,h _ _ a.2.2.2⟩
  ·exact a.elim
 case callb=>
  split at a
  ·split at a
   ·exact ⟨a.1,DW (fun ts ⟨cs',q,d,c⟩=>⟨cs',q,d,fun f=>h _ _ (c f)⟩) a.2⟩
   ·exact a.elim
  ·exact a.elim
 case isn=>
  split at a
  ·exact fun b u=>h _ _ (a b u)
  ·exact a.elim
 case callm=>exact DW (fun p ⟨d,zs,j,c,i,m⟩=>⟨d,zs,j,c,i,fun f=>h _ _ (m f)⟩) a
 case callc=>
  split at a
  ·exact DW (fun p ⟨s,d,t,zs,j,c,i,m⟩=>⟨s,d,t,zs,j,c,i,fun f=>h _ _ (m f)⟩) a
  ·exact a.elim
 all_goals (repeat' split at a) <;> first | exact a.elim | exact h _ _ a | exact ⟨a.1,h _ _ a.2⟩ | exact ⟨a.1,a.2.1,h _ _ a.2.2⟩ | exact ⟨a.1,a.2.1,a.2.2.1,h _ _ a.2.2.2⟩ | exact DW (fun _=>h _ _) a | (obtain ⟨r,d,c⟩:=a; exact ⟨r,d,fun f=>h _ _ (c f)⟩) | (obtain ⟨d,r,c,i⟩:=a; exact ⟨d,r,c,h _ _ i⟩) | (obtain ⟨s,d,r,c,i⟩:=a; exact ⟨s,d,r,c,h _ _ i⟩)
variable {K K':AD->Prop}
theorem PR.wp_mono (O:AD) (h:∀ e,K e->K' e) (o:PR) (a:o.wp S O K):o.wp S O K':=by
 unfold PR.wp at a ⊢;split at a
 ·exact AJ.wp_mono S O _ (fun _ _=>h _) _ a
 ·split at a
  ·exact ⟨fun c=>AJ.wp_mono S O _ (fun _ _=>h _) _ (a.1 c),fun c=>h _ (a.2 c)⟩
  ·exact h _ a
  ·exact a.elim
theorem Ob (h:∀ e,K e->K' e):∀ (os:List PR) (O:AD),wpOps S K os O->wpOps S K' os O
 | [],_,a=>h _ a
 | o::os,O,a=>PR.wp_mono S O (fun e=>Ob h os e) o a
theorem PC.wp_mono:∀ (c:PC) (q:Q) (O:AD),c.wp S q O->∀ (f:Q),(∀ e,q.normal e->f.normal e)->(∀ i e,q.exit i e->f.exit i e)->(∀ e,q.ret e->f.ret e)->c.wp S f O
 | .skip _,_,_,d,_,h,_,_=>h _ d
 | .ret,_,_,d,_,_,_,h=>h _ d
 | .exit _ _,_,_,d,_,_,h,_=>h _ _ d
 | .seq a b,q,O,d,f,g,j,k=>by
  simp only [PC.wp] at d ⊢;exact PC.wp_mono a _ O d _ (fun e m p=>PC.wp_mono b q e (m p) f g j k) j k
 | .cond c a b,q,O,d,f,g,j,k=>by
  simp only [PC.wp] at d ⊢;split at d
  ·exact ⟨fun r=>PC.wp_mono a q O (d.1 r) f g j k,fun r=>PC.wp_mono b q O (d.2 r) f g j k⟩
  ·exact d.elim
 | .block id c,q,O,d,f,g,j,k=>by
  simp only [PC.wp] at d ⊢;exact PC.wp_mono c _ O d _ g (fun i e=>by dsimp only; split <;> first | exact g e | exact j i e) k
 | .loop l c,q,O,d,f,g,j,k=>by
  simp only [PC.wp] at d ⊢;exact fun X t=>d X fun e m=>t e fun p=>PC.wp_mono c _ e (m p) _ (fun _ h=>h) j k
 | .region ops l,q,O,d,f,g,_,_=>by
  simp only [PC.wp] at d ⊢;exact Ob S (fun _=>g _) ops O d
 | .draw _ ops l,q,O,d,f,g,_,_=>by
  simp only [PC.wp] at d ⊢;exact ⟨d.1,Ob S (fun _=>g _) ops O d.2⟩
 | .bad,_,_,d,_,_,_,_=>by
  simp only [PC.wp] at d
 | .rls s c,q,O,d,f,g,j,k=>by
  simp only [PC.wp] at d ⊢;split at d
  ·exact PC.wp_mono c q _ d f g j k
  ·exact d.elim
end
end Go.Sf
