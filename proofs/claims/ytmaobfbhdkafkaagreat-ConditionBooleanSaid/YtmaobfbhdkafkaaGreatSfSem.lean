/- The pure language: environments, operations, code, and what must hold before a piece of code so that a condition holds behind it. No memory. -/
import Derived.Test.YtmaobfbhdkafkaaGreatSfRep
namespace Go.Sf
def BF:Nat:=8589934592
def J4:Nat:=9223372036854775807
theorem SC {n:Nat} (h:n<=BF):n<=J4:=by unfold BF at h; unfold J4; omega
mutual
def TV.WF:TV->Prop
 | .int k n=>k.min<=n∧n<=k.max
 | .str s=>s.size<=J4
 | .list _ es=>es.length<=J4∧TV.WFs es
 | .agg cs=>TV.WFs cs
 | .pt row=>TV.WFs row
 | .clo _ caps=>TV.WFs caps
 | .xl _ es=>es.length<=J4∧TV.WFs es
 | _=>True
def TV.WFs:List TV->Prop
 | []=>True
 | t::ts=>TV.WF t∧TV.WFs ts
end
structure AT where
 own:Bool
 t:TV
def TV.isXl:TV->Bool
 | .xl _ _=>true
 | _=>false
def AT.key (c:AT):TV × Bool:=(c.t,c.own&&c.t.isXl)
def AT.rel (c:AT):AT:=
 match c with
 | ⟨true,.xl n es⟩=>⟨true,.list n es⟩
 | c=>c
def AT.lent (c:AT):TV:=
 match c with
 | ⟨true,.xl n es⟩=>.list n es
 | c=>c.t
inductive EV where
 | undef
 | tv (t:TV)
 | ow (t:TV)
 | bx (cs:List AT)
 | bp (s off:Nat)
 | tp (ts:List TV)
 | sk
 | xo (n:Nat) (es:List TV)
 | la (q:Nat) (i:Option Nat)
 | lp (q:Nat) (i:Option Nat) (c:Nat)
 | oag (cs:List AT)
def EV.WF:EV->Prop
 | .tv t=>t.WF
 | .ow t=>t.WF
 | .bx cs=>∀ c∈cs,c.t.WF
 | .tp ts=>TV.WFs ts
 | .xo n es=>(TV.list n es).WF
 | .oag cs=>∀ c∈cs,c.t.WF
 | _=>True
abbrev AC:=List (Nat × EV)
def AC.get:AC->Nat->EV
 | [],_=>.undef
 | (k,e)::r,n=>if k=n then e else AC.get r n
def AC.keep (env:AC) (live:List Nat):AC:=live.map fun s=>(s,env.get s)
def EV.ref:EV->Option Nat
 | .bp s _=>some s
 | .la s _=>some s
 | .lp s _ _=>some s
 | _=>none
def EV.noR (d:Nat) (e:EV):Bool:=
 match e.ref with
 | some s=>d != s
 | none=>true
def AC.noRef (s:Nat):AC->Bool
 | []=>true
 | (_,e)::r=>e.noR s&&AC.noRef s r
def EV.noC (d:Nat) (k:Option Nat):EV->Bool
 | .la s (some i)=>d != s||(match k with | some j=>i != j | none=>false)
 | .lp s (some i) _=>d != s||(match k with | some j=>i != j | none=>false)
 | _=>true
def AC.noX (s:Nat) (k:Option Nat):AC->Bool
 | []=>true
 | (_,e)::r=>e.noC s k&&AC.noX s k r
def AC.xat (env:AC) (q:Nat):Option Nat->Option (Nat × List TV)
 | none=>match env.get q with
  | .xo n es=>some (n,es)
  | _=>none
 | some k=>match env.get q with
  | .bx cs=>match cs[k]? with
   | some ⟨true,.xl n es⟩=>some (n,es)
   | _=>none
  | _=>none
def AC.xput (env:AC) (q:Nat) (i:Option Nat) (n:Nat) (es:List TV):AC:=
 match i with
 | none=>(q,.xo n es)::env
 | some k=>match env.get q with
  | .bx cs=>(q,.bx (cs.set k ⟨true,.xl n es⟩))::env
  | _=>env
inductive AE where
 | s (n:Nat)
 | c (t:TV)
def AE.ev (env:AC):AE->EV
 | .s n=>env.get n
 | .c t=>.tv t
def EV.val:EV->Option TV
 | .tv t=>some t
 | .ow t=>some t
 | _=>none
def AE.val (env:AC) (x:AE):Option TV:=(x.ev env).val
def vals (env:AC):List AE->Option (List TV)
 | []=>some []
 | x::xs=>match x.val env,vals env xs with
  | some t,some ts=>some (t::ts)
  | _,_=>none
def intCmp (op:BinOp) (a b:Int):Option Bool:=
 match op with
 | .eql=>some (decide (a=b))
 | .neq=>some (!decide (a=b))
 | .lss=>some (decide (a<b))
 | .leq=>some (decide (a<=b))
 | .gtr=>some (decide (b<a))
 | .geq=>some (decide (b<=a))
 | _=>none
def intArith (op:BinOp) (a b:Int):Option Int:=
 match op with
 | .add=>some (a+b)
 | .sub=>some (a - b)
 | .mul=>some (a*b)
 | .quo=>if b=0 then none else some (a.tdiv b)
 | _=>none
inductive GC where
 | z (c:AT)
 | v (x:AE) (k n:Nat)
 | w (q:Nat)
 | g (q k n:Nat)
def GC.cell (env:AC):GC->Option AT
 | .z c=>some c
 | .v x k n=>match x.val env with
  | some t=>match Nat.beq t.cells.length n,t.cells[k]? with
   | true,some c=>some ⟨false,c⟩
   | _,_=>none
  | none=>none
 | .w q=>match env.get q with
  | .ow t=>some ⟨true,t⟩
  | .xo n es=>some ⟨true,.xl n es⟩
  | _=>none
 | .g q k n=>match env.get q with
  | .oag cs=>match Nat.beq cs.length n with
   | true=>cs[k]?
   | false=>none
  | _=>none
def IV (env:AC):List GC->Option (List AT)
 | []=>some []
 | g::gs=>match g.cell env,IV env gs with
  | some c,some cs=>some (c::cs)
  | _,_=>none
def GC.src:GC->Option (Nat × Option Nat)
 | .w q=>some (q,none)
 | .g q k _=>some (q,some k)
 | _=>none
def GC.slot:GC->Option Nat
 | .w q=>some q
 | .g q _ _=>some q
 | _=>none
def GC.sl:GC->List Nat
 | .v (.s q) _ _=>[q]
 | .w q=>[q]
 | .g q _ _=>[q]
 | _=>[]
def EV.gave:EV->EV
 | .ow t=>.tv t
 | _=>.undef
def M6 (e0:AC):List Nat->AC->AC
 | [],env=>env
 | q::qs,env=>(q,(e0.get q).gave)::M6 e0 qs env
def B7:List TV->List TV->Option Bool
 | [],[]=>some true
 | .int k a::cs,.int k' b::ds=>if k=k' then (match B7 cs ds with | some r=>some (decide (a=b)&&r) | none=>none) else none
 | .str a::cs,.str b::ds=>(match B7 cs ds with | some r=>some (decide (a=b)&&r) | none=>none)
 | .bool a::cs,.bool b::ds=>(match B7 cs ds with | some r=>some (decide (a=b)&&r) | none=>none)
 | _,_=>none
inductive BK where
 | i | s | b | w
 | a (ks:List Nat)
def TV.kd:TV->Nat
 | .int _ _=>0
 | .str _=>1
 | .bool _=>2
 | _=>3
def Kw (k:IntKind) (op:BinOp) (a b:Int):Option Int:=
 match op with
 | .and=>some (k.wrap (BitVec.ofInt k.bits a &&& BitVec.ofInt k.bits b).toNat)
 | .or=>some (k.wrap (BitVec.ofInt k.bits a ||| BitVec.ofInt k.bits b).toNat)
 | .xor=>some (k.wrap (BitVec.ofInt k.bits a ^^^ BitVec.ofInt k.bits b).toNat)
 | .andNot=>some (k.wrap (BitVec.ofInt k.bits a &&& ~~~ BitVec.ofInt k.bits b).toNat)
 | .shl=>if 0<=b then some (k.wrap (a*2 ^ (min b.toNat k.bits))) else none
 | .shr=>if 0<=b∧k.min<=a.fdiv (2 ^ (min b.toNat k.bits))∧a.fdiv (2 ^ (min b.toNat k.bits))<=k.max then some (a.fdiv (2 ^ (min b.toNat k.bits))) else none
 | _=>none
def EX:BK->BinOp->TV->TV->Option TV
 | .i,op,.int k a,.int k' b=>
  if k=k' then
   match intCmp op a b with
   | some r=>some (.bool r)
   | none=>match intArith op a b with
    | some r=>some (.int k (k.wrap r))
    | none=>if op=.rem∧b≠0 then some (.int k (a.tmod b)) else none
  else none
 | .w,op,.int k a,.int k' b=>if k=k'∨op=.shl∨op=.shr then (match Kw k op a b with | some r=>some (.int k r) | none=>none) else none
 | .s,.eql,.str a,.str b=>some (.bool (a==b))
 | .s,.neq,.str a,.str b=>some (.bool (!(a==b)))
 | .s,.add,.str a,.str b=>if a.size+b.size<=BF then some (.str (a++b)) else none
 | .b,.eql,.bool a,.bool b=>some (.bool (a==b))
 | .b,.neq,.bool a,.bool b=>some (.bool (!(a==b)))
 | .a n,.eql,.agg cs,.agg ds=>if cs.map TV.kd=n then (match B7 cs ds with | some b=>some (.bool b) | none=>none) else none
 | .a n,.neq,.agg cs,.agg ds=>if cs.map TV.kd=n then (match B7 cs ds with | some b=>some (.bool !b) | none=>none) else none
 | _,_,_,_=>none
def F1 (env:AC) (d:Int):Option AE->Option TV
 | none=>some (.int .i64 d)
 | some o=>o.val env
def BJ (env:AC):EV->Option (List TV)
 | .tv (.pt row)=>some row
 | .bx cs=>some (cs.map (·.t))
 | .bp s off=>match env.get s with
  | .bx cs=>some ((cs.drop off).map (·.t))
  | _=>none
 | _=>none
def AE.place (env:AC):AE->Option (Nat × Nat)
 | .s n=>match env.get n with
  | .bp q off=>some (q,off)
  | .bx _=>some (n,0)
  | _=>none
 | .c _=>none
def Mf:List TV->Nat->List TV->List TV
 | cs,_,[]=>cs
 | cs,i,d::ds=>Mf (cs.set i d) (i+1) ds
def G5 (cs:List TV):List (Nat × Nat × TV)->Option (List TV)
 | []=>some cs
 | (i,n,t)::r=>if t.cells.length=n∧i+n<=cs.length then G5 (Mf cs i t.cells) r else none
def Hz (env:AC):List (Nat × Nat × AE)->Option (List (Nat × Nat × TV))
 | []=>some []
 | (i,n,x)::r=>match x.val env,Hz env r with
  | some t,some ts=>some ((i,n,t)::ts)
  | _,_=>none
inductive AD where
 | mv (x:AE)
 | tk (s:Nat)
 | nilo (n:Nat)
 | fad (x:AE) (k:Nat)
 | bad (s k:Nat)
 | iad (x i:AE) (n:Nat)
 | aad (x i:AE) (n k:Nat)
 | ld (x:AE)
 | lda (x:AE) (n:Nat)
 | ldt (x:AE)
 | bin (k:BK) (op:BinOp) (x y:AE)
 | not (x:AE)
 | neg (x:AE)
 | pick (c a b:AE)
 | len (x:AE)
 | slen (x:AE)
 | slc (n:Nat) (x:AE) (lo hi:Option AE)
 | sslc (x:AE) (lo hi:Option AE)
 | bld (zero:List TV) (parts:List (Nat × Nat × AE))
 | lst (n:Nat) (parts:List AE)
 | app (n:Nat) (x y:AE)
 | call (f:FuncId) (args:List AE)
 | callv (x:AE) (args:List AE)
 | clo (f:FuncId) (caps:List AE)
 | ext (x:AE) (i:Nat)
 | cvt (k:IntKind) (x:AE)
 | sidx (x i:AE)
 | boxs (x:AE)
 | boxo (x:AE)
 | mm (max:Bool) (x y:AE)
 | alc (cs:List AT)
 | st (n:Nat) (x v:AE)
 | stb (n s:Nat) (v:AE)
 | frz (s:Nat)
 | fldv (x:AE) (k n:Nat) (agg:Bool)
 | xal (s:Nat)
 | xlen (x:AE)
 | xia (x i:AE) (n:Nat)
 | xfa (x:AE) (k:Nat)
 | xld (x:AE)
 | xst (x v:AE)
 | rel (s:Nat)
 | nilx (n:Nat)
 | tkx (s:Nat)
 | appx (n s:Nat) (y:AE)
 | callx (f:FuncId) (args:List AE)
 | mkx (n:Nat) (zero:List TV) (x:AE)
 | callm (f:FuncId) (x:AE)
 | callc (f:FuncId) (x:AE)
 | bldg (gs:List GC)
 | stx (n:Nat) (s q:Nat)
 | callg (f:FuncId) (args:List AE)
 | isn (x:AE)
 | lac (x:AE)
 | ctk (x:AE)
 | cpt (x:AE) (q:Nat)
 | cut (n s:Nat) (hi:AE)
 | calll (f:FuncId) (args:List AE)
 | boxp (ps:List (Option AT)) (x:AE)
 | appz (n s:Nat) (z:TV) (x:AE)
 | callb (f:FuncId) (args:List AE) (i:Nat)
 | callf (f:FuncId) (args:List AE)
 | lstz (n:Nat)
structure PR where
 dst:Option Nat
 op:AD
 guard:Option (Nat × Bool)
inductive PC where
 | skip (live:List Nat)
 | ret
 | exit (id:Nat) (live:List Nat)
 | seq (a b:PC)
 | cond (c:AE) (a b:PC)
 | block (id:Nat) (c:PC)
 | loop (live:List Nat) (c:PC)
 | region (ops:List PR) (live:List Nat)
 | draw (D:List Nat) (ops:List PR) (live:List Nat)
 | rls (s:Nat) (c:PC)
 | bad
def Of (env:AC):List Nat->Bool
 | []=>true
 | d::ds=>env.noRef d&&Of env ds
inductive B5 where
 | sh (t:TV)
 | own (t:TV)
 | tp (ts:List TV)
 | turn (zs:List Int)
 | cut (zs:List Int)
 | xown (n:Nat) (es:List TV)
 | oag (cs:List AT)
 | bo (cs cs':List AT) (i:Nat) (ts:List TV)
 | ext (ts:List TV)
def B5.WF:B5->Prop
 | .sh t=>t.WF
 | .own t=>t.WF
 | .tp ts=>TV.WFs ts
 | .turn zs=>(TV.list 1 (zs.map (TV.int .i64))).WF
 | .cut zs=>(TV.list 1 (zs.map (TV.int .i64))).WF
 | .xown n es=>(TV.list n es).WF
 | .oag cs=>∀ c∈cs,c.t.WF
 | .bo _ cs' _ ts=>(∀ c∈cs',c.t.WF)∧TV.WFs ts
 | .ext ts=>TV.WFs ts
def B5.plain:B5->Bool
 | .turn _=>false
 | .cut _=>false
 | .bo ..=>false
 | .ext _=>false
 | _=>true
def B5.ev:B5->EV
 | .sh t=>.tv t
 | .own t=>.ow t
 | .tp ts=>.tp ts
 | .xown n es=>.ow (.list n es)
 | .oag cs=>.tv (.agg (cs.map (·.t)))
 | _=>.undef
mutual
def TV.flat:TV->Bool
 | .int _ _=>true
 | .bool _=>true
 | .str _=>true
 | .agg cs=>TV.flats cs
 | _=>false
def TV.flats:List TV->Bool
 | []=>true
 | t::ts=>t.flat&&TV.flats ts
end
def EV.free:EV->Bool
 | .tv t=>t.flat
 | .undef=>true
 | .sk=>true
 | _=>false
def AE.xlist (env:AC):AE->Option ((Nat × Option Nat) × Nat × List TV)
 | .s m=>match env.get m with
  | .xo n es=>some ((m,none),n,es)
  | .la q i=>match env.xat q i with
   | some p=>some ((q,i),p)
   | none=>none
  | _=>none
 | .c _=>none
def AE.lval (env:AC) (x:AE):Option TV:=
 match x.xlist env with
 | some p=>some (.list p.2.1 p.2.2)
 | none=>match x.ev env with
  | .bx cs=>some (.pt (cs.map AT.lent))
  | .bp q off=>match env.get q with
   | .bx cs=>some (.pt ((cs.drop off).map AT.lent))
   | _=>none
  | e=>e.val
def lvals (env:AC):List AE->Option (List TV)
 | []=>some []
 | x::xs=>match x.lval env,lvals env xs with
  | some t,some ts=>some (t::ts)
  | _,_=>none
def B5.lends:B5->Bool
 | .sh t=>t.flat
 | .tp ts=>TV.flats ts
 | .own (.list _ es)=>TV.flats es
 | _=>false
def NM (env:AC):Nat->List AE->Option (List TV)
 | _,[]=>some []
 | 0,_::xs=>match vals env xs with
  | some ts=>some (.undef::ts)
  | none=>none
 | i+1,x::xs=>match x.val env,NM env i xs with
  | some t,some ts=>some (t::ts)
  | _,_=>none
def EV.ofs:List TV->EV
 | [t]=>.tv t
 | ts=>.tp ts
def F2:List (Option AT)->List TV->Option (List AT)
 | [],[]=>some []
 | none::ps,t::ts=>match F2 ps ts with
  | some cs=>some (⟨false,t⟩::cs)
  | none=>none
 | some c::ps,.nil::ts=>match c,F2 ps ts with
  | ⟨true,.list n []⟩,some cs=>some (⟨true,.list n []⟩::cs)
  | ⟨true,.xl n []⟩,some cs=>some (⟨true,.xl n []⟩::cs)
  | _,_=>none
 | _,_=>none
section
variable (S:FuncId->List TV->B5->Prop)
def A0 {α:Type} (o:Option α) (K:α->Prop):Prop:=
 match o with
 | some a=>K a
 | none=>False
def G6:List TV->Option TV
 | []=>none
 | t::_=>some t
def strip:AC->Nat->AC
 | env,s=>(s,.undef)::env
def AD.wp (env:AC) (dst:Option Nat) (K:EV->AC->Prop):AD->Prop
 | .mv x=>match x.ev env with
  | .tv t=>K (.tv t) env
  | .ow t=>K (.tv t) env
  | .tp ts=>K (.tp ts) env
  | _=>False
 | .tk s=>match env.get s with
  | .ow t=>K (.ow t) ((s,.tv t)::env)
  | .tv t=>K (.tv t) env
  | _=>False
 | .nilo n=>K (.ow (.list n [])) env
 | .fad x k=>match x.ev env with
  | .tv (.pt row)=>K (.tv (.pt (row.drop k))) env
  | .bp s off=>match env.get s with
   | .bx _=>K (.bp s (off+k)) env
   | _=>False
  | _=>False
 | .bad s k=>match env.get s with
  | .bx _=>K (.bp s k) env
  | .tv (.pt row)=>K (.tv (.pt (row.drop k))) env
  | _=>False
 | .iad x i n=>match x.val env,i.val env with
  | some (.list m es),some (.int _ j)=>m=n∧0<=j∧∃ e,es[j.toNat]?=some e∧K (.tv (.pt e.cells)) env
  | _,_=>False
 | .aad x i n k=>match x.ev env,i.val env with
  | .tv (.pt row),some (.int _ j)=>0<=j∧j<k∧k*n<=row.length∧K (.tv (.pt (row.drop (j.toNat*n)))) env
  | _,_=>False
 | .ld x=>A0 (BJ env (x.ev env)) fun cs=>A0 (G6 cs) fun t=>t.isXl=false∧K (.tv t) env
 | .lda x n=>A0 (BJ env (x.ev env)) fun cs=>n<=cs.length∧K (.tv (.agg (cs.take n))) env
 | .ldt x=>match x.place env with
  | some (s,off)=>match env.get s with
   | .bx cs=>match cs[off]? with
    | some ⟨true,.list n es⟩=>K (.ow (.list n es)) ((s,.bx (cs.set off ⟨false,.list n es⟩))::env)
    | _=>False
   | _=>False
  | none=>False
 | .bin k op x y=>match x.val env,y.val env with
  | some a,some b=>A0 (EX k op a b) fun t=>K (.tv t) env
  | _,_=>False
 | .not x=>match x.val env with
  | some (.bool b)=>K (.tv (.bool !b)) env
  | _=>False
 | .neg x=>match x.val env with
  | some (.int k n)=>K (.tv (.int k (k.wrap (-n)))) env
  | _=>False
 | .pick c a b=>match c.val env with
  | some (.bool q)=>match (if q then a else b).ev env with
   | .tv t=>K (.tv t) env
   | .ow t=>K (.tv t) env
   | _=>False
  | _=>False
 | .len x=>match x.val env with
  | some (.list _ es)=>K (.tv (.int .i64 es.length)) env
  | _=>False
 | .slen x=>match x.val env with
  | some (.str s)=>K (.tv (.int .i64 s.size)) env
  | _=>False
 | .slc n x lo hi=>match x.val env with
  | some (.list m es)=>match F1 env 0 lo,F1 env es.length hi with
   | some (.int _ l),some (.int _ h)=>(m=n∧0<=l∧l<=h)∧h<=es.length∧K (.tv (.list n ((es.take h.toNat).drop l.toNat))) env
   | _,_=>False
  | _=>False
 | .sslc x lo hi=>match x.val env with
  | some (.str s)=>match F1 env 0 lo,F1 env s.size hi with
   | some (.int _ l),some (.int _ h)=>0<=l∧l<=h∧h<=s.size∧K (.tv (.str (s.extract l.toNat h.toNat))) env
   | _,_=>False
  | _=>False
 | .bld zero parts=>A0 (Hz env parts) fun ts=>A0 (G5 zero ts) fun cs=>K (.tv (.agg cs)) env
 | .lst n parts=>A0 (vals env parts) fun ts=>(∀ t∈ts,t.cells.length=n)∧K (.ow (.list n ts)) env
 | .app n x y=>match x.ev env,y.val env with
  | .ow (.list m es),some (.list m' fs)=>m=n∧m'=n∧es.length+fs.length<=BF ∧
    K (.ow (.list n (es++fs))) (match x with | .s s=>(s,.tv (.list n es))::env | _=>env)
  | _,_=>False
 | .call f args=>A0 (vals env args) fun ts=>∃ r,(S f ts r∧r.plain=true)∧(r.WF->K r.ev env)
 | .callv x args=>match x.val env,vals env args with
  | some (.clo f caps),some ts=>∃ r,(S f (ts++caps) r∧r.plain=true)∧(r.WF->K r.ev env)
  | _,_=>False
 | .clo f caps=>A0 (vals env caps) fun ts=>K (.tv (.clo f ts)) env
 | .ext x i=>match x.ev env with
  | .tp ts=>A0 ts[i]? fun t=>K (.tv t) env
  | _=>False
 | .cvt k x=>match x.val env with
  | some (.int _ n)=>K (.tv (.int k (k.wrap n))) env
  | _=>False
 | .sidx x i=>match x.val env,i.val env with
  | some (.str s),some (.int _ j)=>0<=j∧∃ b,s[j.toNat]?=some b∧K (.tv (.int .u8 b.toNat)) env
  | _,_=>False
 | .boxs x=>match x.val env with
  | some t=>K (.tv (.pt t.cells)) env
  | _=>False
 | .boxo x=>match x.val env,dst with
  | some t,some d=>env.noRef d=true∧K (.bx (t.cells.map (⟨false,·⟩))) env
  | _,_=>False
 | .mm mx x y=>match x.val env,y.val env with
  | some (.int k a),some (.int k' b)=>k=k'∧K (.tv (.int k (if mx then max a b else min a b))) env
  | _,_=>False
 | .alc cs=>match dst with
  | some d=>env.noRef d=true∧K (.bx cs) env
  | none=>False
 | .st n x v=>match x.place env with
  | some (s,off)=>match env.get s with
   | .bx cs=>match v.ev env with
    | .ow t=>match v with
     | .s q=>q≠s∧n=1∧off<cs.length∧K .undef ((s,.bx (cs.set off ⟨true,t⟩))::(q,.tv t)::env)
     | _=>False
    | .tv t=>t.cells.length=n∧off+n<=cs.length∧K .undef ((s,.bx (cs.take off++t.cells.map (⟨false,·⟩)++cs.drop (off+n)))::env)
    | _=>False
   | _=>False
  | none=>False
 | .stb n s v=>match env.get s with
  | .bx cs=>match v.ev env with
   | .ow t=>match v with
    | .s q=>q≠s∧n=1∧0<cs.length∧K .undef ((s,.bx (cs.set 0 ⟨true,t⟩))::(q,.tv t)::env)
    | _=>False
   | .tv t=>t.cells.length=n∧0+n<=cs.length∧K .undef ((s,.bx (cs.take 0++t.cells.map (⟨false,·⟩)++cs.drop (0+n)))::env)
   | _=>False
  | _=>False
 | .frz s=>match env.get s with
  | .bx cs=>K .undef ((s,.tv (.pt (cs.map (·.t))))::env)
  | _=>False
 | .fldv x k n agg=>match x.val env with
  | some (.agg cs)=>k+n<=cs.length∧(if agg then K (.tv (.agg ((cs.drop k).take n))) env else A0 (G6 (cs.drop k)) fun t=>K (.tv t) env)
  | _=>False
 | .xal s=>match env.get s with
  | .xo _ _=>K (.la s none) env
  | _=>False
 | .xlen x=>A0 (x.xlist env) fun p=>K (.tv (.int .i64 p.2.2.length)) env
 | .xia x i n=>A0 (x.xlist env) fun p=>match i.val env with
  | some (.int _ j)=>((x.ev env).ref=some p.1.1∧p.2.1=n)∧0<=j∧j<p.2.2.length∧K (.lp p.1.1 p.1.2 (j.toNat*n)) env
  | _=>False
 | .xfa x k=>match x.ev env with
  | .lp q i c=>match env.xat q i with
   | some _=>K (.lp q i (c+k)) env
   | none=>False
  | _=>False
 | .xld x=>match x.ev env with
  | .lp q i c=>match env.xat q i with
   | some p=>A0 (p.2.flatMap TV.cells)[c]? fun t=>K (.tv t) env
   | none=>False
  | _=>False
 | .xst x v=>match x.ev env with
  | .lp q i c=>match env.xat q i,v.ev env with
   | some (n,es),.tv t=>t.cells=[t]∧c<es.length*n∧∃ es',es'.flatMap TV.cells=(es.flatMap TV.cells).set c t∧es'.length=es.length∧(∀ e∈es',e.cells.length=n)∧K .undef (env.xput q i n es')
   | _,_=>False
  | _=>False
 | .rel s=>match dst,env.get s with
  | some d,.xo n es=>d≠s∧K (.ow (.list n es)) ((s,.undef)::env)
  | _,_=>False
 | .nilx n=>match dst with
  | some d=>env.noRef d=true∧K (.xo n []) env
  | none=>False
 | .tkx s=>match dst,env.get s with
  | some d,.xo n es=>env.noRef d=true∧d≠s∧K (.xo n es) ((s,.undef)::env)
  | _,_=>False
 | .appx n s y=>match dst,env.get s,y.val env with
  | some d,.xo m es,some (.list m' fs)=>m=n∧m'=n∧es.length+fs.length<=BF∧env.noRef d=true∧d≠s∧K (.xo n (es++fs)) ((s,.undef)::env)
  | _,_,_=>False
 | .callx f args=>match dst with
  | some d=>env.noRef d=true∧A0 (vals env args) fun ts=>∃ n es,(S f ts (.xown n es)∨(S f ts (.own (.list n es))∧TV.flats es=true))∧((TV.list n es).WF->K (.xo n es) env)
  | none=>False
 | .mkx n zero x=>match dst,x.val env with
  | some d,some (.int _ j)=>env.noRef d=true∧0<=j∧j<=4096∧K (.xo n (List.replicate j.toNat (match zero with | [t]=>t | ts=>.agg ts))) env
  | _,_=>False
 | .bldg gs=>match dst with
  | some d=>((gs.filterMap GC.src).Nodup∧d ∉ gs.filterMap GC.slot)∧A0 (IV env gs) fun cs=>K (.oag cs) (M6 env (gs.filterMap GC.slot) env)
  | none=>False
 | .stx n s q=>match env.get s,env.get q with
  | .bx cs,.oag ds=>q≠s∧(ds.length=n∧((ds.all fun c=>!c.t.isXl)||env.noX s none)=true)∧0+n<=cs.length∧K .undef ((s,.bx (cs.take 0++ds++cs.drop (0+n)))::(q,.undef)::env)
  | _,_=>False
 | .callg f args=>A0 (vals env args) fun ts=>∃ cs,S f ts (.oag cs)∧((∀ c∈cs,c.t.WF)->K (.oag cs) env)
 | .isn x=>match x.val env with
  | some (.list _ es)=>∀ b:Bool,(b=true->es=[])->K (.tv (.bool b)) env
  | _=>False
 | .callm f x=>A0 (x.xlist env) fun p=>p.2.1=1∧∃ zs zs':List Int,p.2.2=zs.map (TV.int .i64)∧S f [.list 1 p.2.2] (.turn zs')∧((TV.list 1 (zs'.map (TV.int .i64))).WF->K (.tp []) (env.xput p.1.1 p.1.2 1 (zs'.map (TV.int .i64))))
 | .callc f x=>match dst with
  | some d=>A0 (x.xlist env) fun p=>(p.1.1≠d∧p.1.2=none)∧p.2.1=1∧env.noRef d=true∧∃ zs zs':List Int,p.2.2=zs.map (TV.int .i64)∧S f [.list 1 p.2.2] (.cut zs')∧((TV.list 1 (zs'.map (TV.int .i64))).WF->K (.xo 1 (zs'.map (TV.int .i64))) ((p.1.1,.undef)::env))
  | none=>False
 | .lac x=>match x.ev env with
  | .bp s off=>match env.xat s (some off) with
   | some _=>K (.la s (some off)) env
   | none=>False
  | _=>False
 | .ctk x=>match dst,x.place env with
  | some d,some (s,off)=>match env.get s with
   | .bx cs=>match cs[off]? with
    | some ⟨true,.xl n es⟩=>env.noRef d=true∧K (.xo n es) ((s,.bx (cs.set off ⟨false,.undef⟩))::env)
    | _=>False
   | _=>False
  | _,_=>False
 | .cpt x q=>match x.place env,env.get q with
  | some (s,off),.xo n es=>match env.get s with
   | .bx cs=>env.noX s (some off)=true∧off<cs.length∧K .undef ((s,.bx (cs.set off ⟨true,.xl n es⟩))::(q,.undef)::env)
   | _=>False
  | _,_=>False
 | .cut n s hi=>match dst,env.get s,hi.val env with
  | some d,.xo m es,some (.int _ h)=>(m=n∧env.noRef d=true∧d≠s)∧0<=h∧h<=es.length∧K (.xo n (es.take h.toNat)) ((s,.undef)::env)
  | _,_,_=>False
 | .appz n s z x=>match dst,env.get s,x.val env with
  | some d,.xo m es,some (.int _ j)=>((m=n∧n=1)∧z.cells=[z])∧(0<=j∧j<=4096)∧(es.length+j.toNat<=BF∧env.noRef d=true∧d≠s)∧K (.xo n (es++List.replicate j.toNat z)) ((s,.undef)::env)
  | _,_,_=>False
 | .calll f args=>A0 (lvals env args) fun ts=>∃ r,(S f ts r∧r.lends=true)∧(r.WF->K r.ev env)
 | .callf f args=>A0 (vals env args) fun ts=>∃ us,S f ts (.ext us)∧K (.tp us) env
 | .boxp ps x=>match x.val env,dst with
  | some t,some d=>A0 (F2 ps t.cells) fun cs=>env.noRef d=true∧K (.bx cs) env
  | _,_=>False
 | .lstz n=>match dst with
  | some d=>env.noRef d=true∧K (.xo n []) env
  | none=>False
 | .callb f args i=>match dst,(args[i]?).bind (·.place env) with
  | some d,some (s,0)=>match env.get s with
   | .bx cs=>(env.noX s none=true∧d≠s)∧A0 (NM env i args) fun ts=>∃ cs' us,S f ts (.bo cs cs' i us)∧((∀ c∈cs',c.t.WF)∧TV.WFs us->K (EV.ofs us) ((s,.bx cs')::env))
   | _=>False
  | _,_=>False
def AC.put (env:AC) (dst:Option Nat) (e:EV):AC:=
 match dst with
 | some d=>(d,e)::env
 | none=>env
def PR.wp (env:AC) (K:AC->Prop) (o:PR):Prop:=
 match o.guard with
 | none=>o.op.wp S env o.dst fun e env'=>K (env'.put o.dst e)
 | some (g,b)=>match env.get g with
  | .tv (.bool q)=>(q=b->o.op.wp S env o.dst fun e env'=>K (env'.put o.dst e))∧(q=!b->K (env.put o.dst .sk))
  | .sk=>K (env.put o.dst .sk)
  | _=>False
def wpOps (K:AC->Prop):List PR->AC->Prop
 | [],env=>K env
 | o::os,env=>o.wp S env fun env'=>wpOps K os env'
structure Q where
 normal:AC->Prop
 exit:Nat->AC->Prop
 ret:AC->Prop
def PC.wp:PC->Q->AC->Prop
 | .skip live,q,env=>q.normal (env.keep live)
 | .ret,q,env=>q.ret env
 | .exit id live,q,env=>q.exit id (env.keep live)
 | .seq a b,q,env=>a.wp { q with normal:=fun e=>(∀ s,(e.get s).WF)->b.wp q e } env
 | .cond c a b,q,env=>match c.val env with
  | some (.bool x)=>(x=true->a.wp q env)∧(x=false->b.wp q env)
  | _=>False
 | .block id c,q,env=>c.wp { q with exit:=fun i e=>if i=id then q.normal e else q.exit i e } env
 | .loop live c,q,env=>∀ X:AC->Prop,(∀ e,((∀ s,(e.get s).WF)->c.wp { q with normal:=fun e'=>X (e'.keep live) } e)->X e)->X (env.keep live)
 | .region ops live,q,env=>wpOps S (fun e=>q.normal (e.keep live)) ops env
 | .draw D ops live,q,env=>Of env D=true∧wpOps S (fun e=>q.normal (e.keep live)) ops env
 | .bad,_,_=>False
 | .rls s c,q,env=>match env.get s with
  | .bx cs=>c.wp q ((s,.bx (cs.map AT.rel))::env)
  | _=>False
end
inductive RV where
 | tmp (s:Nat)
 | cell (s:Nat) (agg:Option Nat)
def RV.get (env:AC):RV->Option TV
 | .tmp s=>(env.get s).val
 | .cell s none=>match BJ env (env.get s) with
  | some (t::_)=>some t
  | _=>none
 | .cell s (some n)=>match BJ env (env.get s) with
  | some cs=>if cs.length=n then some (.agg cs) else none
  | none=>none
def JC (env:AC):List RV->Option (List TV)
 | []=>some []
 | x::xs=>match x.get env,JC env xs with
  | some t,some ts=>some (t::ts)
  | _,_=>none
def D5 (rs:List RV) (r:B5) (env:AC):Prop:=
 match r,rs with
 | .own t,[.tmp s]=>env.get s=.ow t
 | .own _,_=>False
 | .sh t,[x]=>x.get env=some t
 | .sh _,_=>False
 | .tp ts,rs=>rs.length≠1∧JC env rs=some ts
 | .turn _,_=>False
 | .cut _,_=>False
 | .xown n es,[.tmp s]=>env.get s=.xo n es
 | .xown _ _,_=>False
 | .oag cs,[.cell s (some n)]=>env.get s=.bx cs∧cs.length=n
 | .oag _,_=>False
 | .bo _ cs' i ts,rs=>env.get i=.bx cs'∧JC env rs=some ts
 | .ext _,_=>False
end Go.Sf
