/- The pure language: environments, operations, code, and what must hold before a piece of code so that a condition holds behind it. No memory. -/
import Derived.Test.YtlbmpkmkmkgniaaGreatDoorSfRep
namespace Go.Sf
def B9:Nat:=8589934592
def H5:Nat:=9223372036854775807
theorem Rl {n:Nat} (h:n<=B9):n<=H5:=by unfold B9 at h; unfold H5; omega
mutual
def TV.WF:TV->Prop
 | .int k n=>k.min<=n∧n<=k.max
 | .str s=>s.size<=H5
 | .list _ es=>es.length<=H5∧TV.WFs es
 | .agg cs=>TV.WFs cs
 | .pt row=>TV.WFs row
 | .clo _ caps=>TV.WFs caps
 | .xl _ es=>es.length<=H5∧TV.WFs es
 | _=>True
def TV.WFs:List TV->Prop
 | []=>True
 | t::ts=>TV.WF t∧TV.WFs ts
end
structure AU where
 own:Bool
 t:TV
def TV.isXl:TV->Bool
 | .xl _ _=>true
 | _=>false
def AU.key (c:AU):TV × Bool:=(c.t,c.own&&c.t.isXl)
def AU.rel (c:AU):AU:=
 match c with
 | ⟨true,.xl n es⟩=>⟨true,.list n es⟩
 | c=>c
def AU.lent (c:AU):TV:=
 match c with
 | ⟨true,.xl n es⟩=>.list n es
 | c=>c.t
inductive EV where
 | undef
 | tv (t:TV)
 | ow (t:TV)
 | bx (cs:List AU)
 | bp (s off:Nat)
 | tp (ts:List TV)
 | sk
 | xo (n:Nat) (es:List TV)
 | la (q:Nat) (i:Option Nat)
 | lp (q:Nat) (i:Option Nat) (c:Nat)
 | oag (cs:List AU)
def EV.WF:EV->Prop
 | .tv t=>t.WF
 | .ow t=>t.WF
 | .bx cs=>∀ c∈cs,c.t.WF
 | .tp ts=>TV.WFs ts
 | .xo n es=>(TV.list n es).WF
 | .oag cs=>∀ c∈cs,c.t.WF
 | _=>True
abbrev AC:=List (Nat × EV)
def AC.get:AC->Nat->EV
 | [],_=>.undef
 | (k,e)::r,n=>if k=n then e else AC.get r n
def AC.keep (env:AC) (live:List Nat):AC:=live.map fun s=>(s,env.get s)
def EV.ref:EV->Option Nat
 | .bp s _=>some s
 | .la s _=>some s
 | .lp s _ _=>some s
 | _=>none
def EV.noR (d:Nat) (e:EV):Bool:=
 match e.ref with
 | some s=>d != s
 | none=>true
def AC.noRef (s:Nat):AC->Bool
 | []=>true
 | (_,e)::r=>e.noR s&&AC.noRef s r
def EV.noC (d:Nat) (k:Option Nat):EV->Bool
 | .la s (some i)=>d != s||(match k with | some j=>i != j | none=>false)
 | .lp s (some i) _=>d != s||(match k with | some j=>i != j | none=>false)
 | _=>true
def AC.noX (s:Nat) (k:Option Nat):AC->Bool
 | []=>true
 | (_,e)::r=>e.noC s k&&AC.noX s k r
def AC.xat (env:AC) (q:Nat):Option Nat->Option (Nat × List TV)
 | none=>match env.get q with
  | .xo n es=>some (n,es)
  | _=>none
 | some k=>match env.get q with
  | .bx cs=>match cs[k]? with
   | some ⟨true,.xl n es⟩=>some (n,es)
   | _=>none
  | _=>none
def AC.xput (env:AC) (q:Nat) (i:Option Nat) (n:Nat) (es:List TV):AC:=
 match i with
 | none=>(q,.xo n es)::env
 | some k=>match env.get q with
  | .bx cs=>(q,.bx (cs.set k ⟨true,.xl n es⟩))::env
  | _=>env
inductive AJ where
 | s (n:Nat)
 | c (t:TV)
def AJ.ev (env:AC):AJ->EV
 | .s n=>env.get n
 | .c t=>.tv t
def EV.val:EV->Option TV
 | .tv t=>some t
 | .ow t=>some t
 | _=>none
def AJ.val (env:AC) (x:AJ):Option TV:=(x.ev env).val
def vals (env:AC):List AJ->Option (List TV)
 | []=>some []
 | x::xs=>match x.val env,vals env xs with
  | some t,some ts=>some (t::ts)
  | _,_=>none
def intCmp (op:BinOp) (a b:Int):Option Bool:=
 match op with
 | .eql=>some (decide (a=b))
 | .neq=>some (!decide (a=b))
 | .lss=>some (decide (a<b))
 | .leq=>some (decide (a<=b))
 | .gtr=>some (decide (b<a))
 | .geq=>some (decide (b<=a))
 | _=>none
def intArith (op:BinOp) (a b:Int):Option Int:=
 match op with
 | .add=>some (a+b)
 | .sub=>some (a - b)
 | .mul=>some (a*b)
 | .quo=>if b=0 then none else some (a.tdiv b)
 | _=>none
inductive GC where
 | z (c:AU)
 | v (x:AJ) (k n:Nat)
 | w (q:Nat)
 | g (q k n:Nat)
def GC.cell (env:AC):GC->Option AU
 | .z c=>some c
 | .v x k n=>match x.val env with
  | some t=>match Nat.beq t.cells.length n,t.cells[k]? with
   | true,some c=>some ⟨false,c⟩
   | _,_=>none
  | none=>none
 | .w q=>match env.get q with
  | .ow t=>some ⟨true,t⟩
  | .xo n es=>some ⟨true,.xl n es⟩
  | _=>none
 | .g q k n=>match env.get q with
  | .oag cs=>match Nat.beq cs.length n with
   | true=>cs[k]?
   | false=>none
  | _=>none
def IQ (env:AC):List GC->Option (List AU)
 | []=>some []
 | g::gs=>match g.cell env,IQ env gs with
  | some c,some cs=>some (c::cs)
  | _,_=>none
def GC.src:GC->Option (Nat × Option Nat)
 | .w q=>some (q,none)
 | .g q k _=>some (q,some k)
 | _=>none
def GC.slot:GC->Option Nat
 | .w q=>some q
 | .g q _ _=>some q
 | _=>none
def GC.sl:GC->List Nat
 | .v (.s q) _ _=>[q]
 | .w q=>[q]
 | .g q _ _=>[q]
 | _=>[]
def EV.gave:EV->EV
 | .ow t=>.tv t
 | _=>.undef
def MZ (e0:AC):List Nat->AC->AC
 | [],env=>env
 | q::qs,env=>(q,(e0.get q).gave)::MZ e0 qs env
def CN:List TV->List TV->Option Bool
 | [],[]=>some true
 | .int k a::cs,.int k' b::ds=>if k=k' then (match CN cs ds with | some r=>some (decide (a=b)&&r) | none=>none) else none
 | .str a::cs,.str b::ds=>(match CN cs ds with | some r=>some (decide (a=b)&&r) | none=>none)
 | .bool a::cs,.bool b::ds=>(match CN cs ds with | some r=>some (decide (a=b)&&r) | none=>none)
 | _,_=>none
inductive BK where
 | i | s | b | w
 | a (ks:List Nat)
def TV.kd:TV->Nat
 | .int _ _=>0
 | .str _=>1
 | .bool _=>2
 | _=>3
def KW (k:IntKind) (op:BinOp) (a b:Int):Option Int:=
 match op with
 | .and=>some (k.wrap (BitVec.ofInt k.bits a &&& BitVec.ofInt k.bits b).toNat)
 | .or=>some (k.wrap (BitVec.ofInt k.bits a ||| BitVec.ofInt k.bits b).toNat)
 | .xor=>some (k.wrap (BitVec.ofInt k.bits a ^^^ BitVec.ofInt k.bits b).toNat)
 | .andNot=>some (k.wrap (BitVec.ofInt k.bits a &&& ~~~ BitVec.ofInt k.bits b).toNat)
 | .shl=>if 0<=b then some (k.wrap (a*2 ^ (min b.toNat k.bits))) else none
 | .shr=>if 0<=b∧k.min<=a.fdiv (2 ^ (min b.toNat k.bits))∧a.fdiv (2 ^ (min b.toNat k.bits))<=k.max then some (a.fdiv (2 ^ (min b.toNat k.bits))) else none
 | _=>none
def FD:BK->BinOp->TV->TV->Option TV
 | .i,op,.int k a,.int k' b=>
  if k=k' then
   match intCmp op a b with
   | some r=>some (.bool r)
   | none=>match intArith op a b with
    | some r=>some (.int k (k.wrap r))
    | none=>if op=.rem∧b≠0 then some (.int k (a.tmod b)) else none
  else none
 | .w,op,.int k a,.int k' b=>if k=k'∨op=.shl∨op=.shr then (match KW k op a b with | some r=>some (.int k r) | none=>none) else none
 | .s,.eql,.str a,.str b=>some (.bool (a==b))
 | .s,.neq,.str a,.str b=>some (.bool (!(a==b)))
 | .s,.add,.str a,.str b=>if a.size+b.size<=B9 then some (.str (a++b)) else none
 | .b,.eql,.bool a,.bool b=>some (.bool (a==b))
 | .b,.neq,.bool a,.bool b=>some (.bool (!(a==b)))
 | .a n,.eql,.agg cs,.agg ds=>if cs.map TV.kd=n then (match CN cs ds with | some b=>some (.bool b) | none=>none) else none
 | .a n,.neq,.agg cs,.agg ds=>if cs.map TV.kd=n then (match CN cs ds with | some b=>some (.bool !b) | none=>none) else none
 | _,_,_,_=>none
def GH (env:AC) (d:Int):Option AJ->Option TV
 | none=>some (.int .i64 d)
 | some o=>o.val env
def BO (env:AC):EV->Option (List TV)
 | .tv (.pt row)=>some row
 | .bx cs=>some (cs.map (·.t))
 | .bp s off=>match env.get s with
  | .bx cs=>some ((cs.drop off).map (·.t))
  | _=>none
 | _=>none
def AJ.place (env:AC):AJ->Option (Nat × Nat)
 | .s n=>match env.get n with
  | .bp q off=>some (q,off)
  | .bx _=>some (n,0)
  | _=>none
 | .c _=>none
def MC:List TV->Nat->List TV->List TV
 | cs,_,[]=>cs
 | cs,i,d::ds=>MC (cs.set i d) (i+1) ds
def HL (cs:List TV):List (Nat × Nat × TV)->Option (List TV)
 | []=>some cs
 | (i,n,t)::r=>if t.cells.length=n∧i+n<=cs.length then HL (MC cs i t.cells) r else none
def Hy (env:AC):List (Nat × Nat × AJ)->Option (List (Nat × Nat × TV))
 | []=>some []
 | (i,n,x)::r=>match x.val env,Hy env r with
  | some t,some ts=>some ((i,n,t)::ts)
  | _,_=>none
inductive AH where
 | mv (x:AJ)
 | tk (s:Nat)
 | nilo (n:Nat)
 | fad (x:AJ) (k:Nat)
 | bad (s k:Nat)
 | iad (x i:AJ) (n:Nat)
 | aad (x i:AJ) (n k:Nat)
 | ld (x:AJ)
 | lda (x:AJ) (n:Nat)
 | ldt (x:AJ)
 | bin (k:BK) (op:BinOp) (x y:AJ)
 | not (x:AJ)
 | neg (x:AJ)
 | pick (c a b:AJ)
 | len (x:AJ)
 | slen (x:AJ)
 | slc (n:Nat) (x:AJ) (lo hi:Option AJ)
 | sslc (x:AJ) (lo hi:Option AJ)
 | bld (zero:List TV) (parts:List (Nat × Nat × AJ))
 | lst (n:Nat) (parts:List AJ)
 | app (n:Nat) (x y:AJ)
 | call (f:FuncId) (args:List AJ)
 | callv (x:AJ) (args:List AJ)
 | clo (f:FuncId) (caps:List AJ)
 | ext (x:AJ) (i:Nat)
 | cvt (k:IntKind) (x:AJ)
 | sidx (x i:AJ)
 | boxs (x:AJ)
 | boxo (x:AJ)
 | mm (max:Bool) (x y:AJ)
 | alc (cs:List AU)
 | st (n:Nat) (x v:AJ)
 | stb (n s:Nat) (v:AJ)
 | frz (s:Nat)
 | fldv (x:AJ) (k n:Nat) (agg:Bool)
 | xal (s:Nat)
 | xlen (x:AJ)
 | xia (x i:AJ) (n:Nat)
 | xfa (x:AJ) (k:Nat)
 | xld (x:AJ)
 | xst (x v:AJ)
 | rel (s:Nat)
 | nilx (n:Nat)
 | tkx (s:Nat)
 | appx (n s:Nat) (y:AJ)
 | callx (f:FuncId) (args:List AJ)
 | mkx (n:Nat) (zero:List TV) (x:AJ)
 | callm (f:FuncId) (x:AJ)
 | callc (f:FuncId) (x:AJ)
 | bldg (gs:List GC)
 | stx (n:Nat) (s q:Nat)
 | callg (f:FuncId) (args:List AJ)
 | isn (x:AJ)
 | lac (x:AJ)
 | ctk (x:AJ)
 | cpt (x:AJ) (q:Nat)
 | cut (n s:Nat) (hi:AJ)
 | calll (f:FuncId) (args:List AJ)
 | boxp (ps:List (Option AU)) (x:AJ)
 | appz (n s:Nat) (z:TV) (x:AJ)
 | callb (f:FuncId) (args:List AJ) (i:Nat)
 | callf (f:FuncId) (args:List AJ)
 | lstz (n:Nat)
 | ldb (s n:Nat)
structure PR where
 dst:Option Nat
 op:AH
 guard:Option (Nat × Bool)
inductive PC where
 | skip (live:List Nat)
 | ret
 | exit (id:Nat) (live:List Nat)
 | seq (a b:PC)
 | cond (c:AJ) (a b:PC)
 | block (id:Nat) (c:PC)
 | loop (live:List Nat) (c:PC)
 | region (ops:List PR) (live:List Nat)
 | draw (D:List Nat) (ops:List PR) (live:List Nat)
 | rls (s:Nat) (c:PC)
 | bad
def N7 (env:AC):List Nat->Bool
 | []=>true
 | d::ds=>env.noRef d&&N7 env ds
inductive CH where
 | sh (t:TV)
 | own (t:TV)
 | tp (ts:List TV)
 | turn (zs:List Int)
 | cut (zs:List Int)
 | xown (n:Nat) (es:List TV)
 | oag (cs:List AU)
 | bo (cs cs':List AU) (i:Nat) (ts:List TV)
 | ext (ts:List TV)
def CH.WF:CH->Prop
 | .sh t=>t.WF
 | .own t=>t.WF
 | .tp ts=>TV.WFs ts
 | .turn zs=>(TV.list 1 (zs.map (TV.int .i64))).WF
 | .cut zs=>(TV.list 1 (zs.map (TV.int .i64))).WF
 | .xown n es=>(TV.list n es).WF
 | .oag cs=>∀ c∈cs,c.t.WF
 | .bo _ cs' _ ts=>(∀ c∈cs',c.t.WF)∧TV.WFs ts
 | .ext ts=>TV.WFs ts
def CH.plain:CH->Bool
 | .turn _=>false
 | .cut _=>false
 | .bo ..=>false
 | .ext _=>false
 | _=>true
def CH.ev:CH->EV
 | .sh t=>.tv t
 | .own t=>.ow t
 | .tp ts=>.tp ts
 | .xown n es=>.ow (.list n es)
 | .oag cs=>.tv (.agg (cs.map (·.t)))
 | _=>.undef
mutual
def TV.flat:TV->Bool
 | .int _ _=>true
 | .bool _=>true
 | .str _=>true
 | .agg cs=>TV.flats cs
 | _=>false
def TV.flats:List TV->Bool
 | []=>true
 | t::ts=>t.flat&&TV.flats ts
end
def EV.free:EV->Bool
 | .tv t=>t.flat
 | .undef=>true
 | .sk=>true
 | _=>false
def AJ.xlist (env:AC):AJ->Option ((Nat × Option Nat) × Nat × List TV)
 | .s m=>match env.get m with
  | .xo n es=>some ((m,none),n,es)
  | .la q i=>match env.xat q i with
   | some p=>some ((q,i),p)
   | none=>none
  | _=>none
 | .c _=>none
def AJ.lval (env:AC) (x:AJ):Option TV:=
 match x.xlist env with
 | some p=>some (.list p.2.1 p.2.2)
 | none=>match x.ev env with
  | .bx cs=>some (.pt (cs.map AU.lent))
  | .bp q off=>match env.get q with
   | .bx cs=>some (.pt ((cs.drop off).map AU.lent))
   | _=>none
  | e=>e.val
def lvals (env:AC):List AJ->Option (List TV)
 | []=>some []
 | x::xs=>match x.lval env,lvals env xs with
  | some t,some ts=>some (t::ts)
  | _,_=>none
def CH.lends:CH->Bool
 | .sh t=>t.flat
 | .tp ts=>TV.flats ts
 | .own (.list _ es)=>TV.flats es
 | _=>false
def Mj (env:AC):Nat->List AJ->Option (List TV)
 | _,[]=>some []
 | 0,_::xs=>match vals env xs with
  | some ts=>some (.undef::ts)
  | none=>none
 | i+1,x::xs=>match x.val env,Mj env i xs with
  | some t,some ts=>some (t::ts)
  | _,_=>none
def EV.ofs:List TV->EV
 | [t]=>.tv t
 | ts=>.tp ts
def GI:List (Option AU)->List TV->Option (List AU)
 | [],[]=>some []
 | none::ps,t::ts=>match GI ps ts with
  | some cs=>some (⟨false,t⟩::cs)
  | none=>none
 | some c::ps,.nil::ts=>match c,GI ps ts with
  | ⟨true,.list n []⟩,some cs=>some (⟨true,.list n []⟩::cs)
  | ⟨true,.xl n []⟩,some cs=>some (⟨true,.xl n []⟩::cs)
  | _,_=>none
 | _,_=>none
section
variable (S:FuncId->List TV->CH->Prop)
def A6 {α:Type} (o:Option α) (K:α->Prop):Prop:=
 match o with
 | some a=>K a
 | none=>False
def HM:List TV->Option TV
 | []=>none
 | t::_=>some t
def strip:AC->Nat->AC
 | env,s=>(s,.undef)::env
def AH.wp (env:AC) (dst:Option Nat) (K:EV->AC->Prop):AH->Prop
 | .mv x=>match x.ev env with
  | .tv t=>K (.tv t) env
  | .ow t=>K (.tv t) env
  | .tp ts=>K (.tp ts) env
  | _=>False
 | .tk s=>match env.get s with
  | .ow t=>K (.ow t) ((s,.tv t)::env)
  | .tv t=>K (.tv t) env
  | _=>False
 | .nilo n=>K (.ow (.list n [])) env
 | .fad x k=>match x.ev env with
  | .tv (.pt row)=>K (.tv (.pt (row.drop k))) env
  | .bp s off=>match env.get s with
   | .bx _=>K (.bp s (off+k)) env
   | _=>False
  | _=>False
 | .bad s k=>match env.get s with
  | .bx _=>K (.bp s k) env
  | .tv (.pt row)=>K (.tv (.pt (row.drop k))) env
  | _=>False
 | .iad x i n=>match x.val env,i.val env with
  | some (.list m es),some (.int _ j)=>m=n∧0<=j∧∃ e,es[j.toNat]?=some e∧K (.tv (.pt e.cells)) env
  | _,_=>False
 | .aad x i n k=>match x.ev env,i.val env with
  | .tv (.pt row),some (.int _ j)=>0<=j∧j<k∧k*n<=row.length∧K (.tv (.pt (row.drop (j.toNat*n)))) env
  | _,_=>False
 | .ld x=>A6 (BO env (x.ev env)) fun cs=>A6 (HM cs) fun t=>t.isXl=false∧K (.tv t) env
 | .lda x n=>A6 (BO env (x.ev env)) fun cs=>n<=cs.length∧K (.tv (.agg (cs.take n))) env
 | .ldb s n=>match env.get s with
  | .bx cs=>n<=(cs.map (·.t)).length∧K (.tv (.agg ((cs.map (·.t)).take n))) env
  | _=>False
 | .ldt x=>match x.place env with
  | some (s,off)=>match env.get s with
   | .bx cs=>match cs[off]? with
    | some ⟨true,.list n es⟩=>K (.ow (.list n es)) ((s,.bx (cs.set off ⟨false,.list n es⟩))::env)
    | _=>False
   | _=>False
  | none=>False
 | .bin k op x y=>match x.val env,y.val env with
  | some a,some b=>A6 (FD k op a b) fun t=>K (.tv t) env
  | _,_=>False
 | .not x=>match x.val env with
  | some (.bool b)=>K (.tv (.bool !b)) env
  | _=>False
 | .neg x=>match x.val env with
  | some (.int k n)=>K (.tv (.int k (k.wrap (-n)))) env
  | _=>False
 | .pick c a b=>match c.val env with
  | some (.bool q)=>match (if q then a else b).ev env with
   | .tv t=>K (.tv t) env
   | .ow t=>K (.tv t) env
   | _=>False
  | _=>False
 | .len x=>match x.val env with
  | some (.list _ es)=>K (.tv (.int .i64 es.length)) env
  | _=>False
 | .slen x=>match x.val env with
  | some (.str s)=>K (.tv (.int .i64 s.size)) env
  | _=>False
 | .slc n x lo hi=>match x.val env with
  | some (.list m es)=>match GH env 0 lo,GH env es.length hi with
   | some (.int _ l),some (.int _ h)=>(m=n∧0<=l∧l<=h)∧h<=es.length∧K (.tv (.list n ((es.take h.toNat).drop l.toNat))) env
   | _,_=>False
  | _=>False
 | .sslc x lo hi=>match x.val env with
  | some (.str s)=>match GH env 0 lo,GH env s.size hi with
   | some (.int _ l),some (.int _ h)=>0<=l∧l<=h∧h<=s.size∧K (.tv (.str (s.extract l.toNat h.toNat))) env
   | _,_=>False
  | _=>False
 | .bld zero parts=>A6 (Hy env parts) fun ts=>A6 (HL zero ts) fun cs=>K (.tv (.agg cs)) env
 | .lst n parts=>A6 (vals env parts) fun ts=>(∀ t∈ts,t.cells.length=n)∧K (.ow (.list n ts)) env
 | .app n x y=>match x.ev env,y.val env with
  | .ow (.list m es),some (.list m' fs)=>m=n∧m'=n∧es.length+fs.length<=B9 ∧
    K (.ow (.list n (es++fs))) (match x with | .s s=>(s,.tv (.list n es))::env | _=>env)
  | _,_=>False
 | .call f args=>A6 (vals env args) fun ts=>∃ r,(S f ts r∧r.plain=true)∧(r.WF->K r.ev env)
 | .callv x args=>match x.val env,vals env args with
  | some (.clo f caps),some ts=>∃ r,(S f (ts++caps) r∧r.plain=true)∧(r.WF->K r.ev env)
  | _,_=>False
 | .clo f caps=>A6 (vals env caps) fun ts=>K (.tv (.clo f ts)) env
 | .ext x i=>match x.ev env with
  | .tp ts=>A6 ts[i]? fun t=>K (.tv t) env
  | _=>False
 | .cvt k x=>match x.val env with
  | some (.int _ n)=>K (.tv (.int k (k.wrap n))) env
  | _=>False
 | .sidx x i=>match x.val env,i.val env with
  | some (.str s),some (.int _ j)=>0<=j∧∃ b,s[j.toNat]?=some b∧K (.tv (.int .u8 b.toNat)) env
  | _,_=>False
 | .boxs x=>match x.val env with
  | some t=>K (.tv (.pt t.cells)) env
  | _=>False
 | .boxo x=>match x.val env,dst with
  | some t,some d=>env.noRef d=true∧K (.bx (t.cells.map (⟨false,·⟩))) env
  | _,_=>False
 | .mm mx x y=>match x.val env,y.val env with
  | some (.int k a),some (.int k' b)=>k=k'∧K (.tv (.int k (if mx then max a b else min a b))) env
  | _,_=>False
 | .alc cs=>match dst with
  | some d=>env.noRef d=true∧K (.bx cs) env
  | none=>False
 | .st n x v=>match x.place env with
  | some (s,off)=>match env.get s with
   | .bx cs=>match v.ev env with
    | .ow t=>match v with
     | .s q=>q≠s∧n=1∧off<cs.length∧K .undef ((s,.bx (cs.set off ⟨true,t⟩))::(q,.tv t)::env)
     | _=>False
    | .tv t=>t.cells.length=n∧off+n<=cs.length∧K .undef ((s,.bx (cs.take off++t.cells.map (⟨false,·⟩)++cs.drop (off+n)))::env)
    | _=>False
   | _=>False
  | none=>False
 | .stb n s v=>match env.get s with
  | .bx cs=>match v.ev env with
   | .ow t=>match v with
    | .s q=>q≠s∧n=1∧0<cs.length∧K .undef ((s,.bx (cs.set 0 ⟨true,t⟩))::(q,.tv t)::env)
    | _=>False
   | .tv t=>t.cells.length=n∧0+n<=cs.length∧K .undef ((s,.bx (cs.take 0++t.cells.map (⟨false,·⟩)++cs.drop (0+n)))::env)
   | _=>False
  | _=>False
 | .frz s=>match env.get s with
  | .bx cs=>K .undef ((s,.tv (.pt (cs.map (·.t))))::env)
  | _=>False
 | .fldv x k n agg=>match x.val env with
  | some (.agg cs)=>k+n<=cs.length∧(if agg then K (.tv (.agg ((cs.drop k).take n))) env else A6 (HM (cs.drop k)) fun t=>K (.tv t) env)
  | _=>False
 | .xal s=>match env.get s with
  | .xo _ _=>K (.la s none) env
  | _=>False
 | .xlen x=>A6 (x.xlist env) fun p=>K (.tv (.int .i64 p.2.2.length)) env
 | .xia x i n=>A6 (x.xlist env) fun p=>match i.val env with
  | some (.int _ j)=>((x.ev env).ref=some p.1.1∧p.2.1=n)∧0<=j∧j<p.2.2.length∧K (.lp p.1.1 p.1.2 (j.toNat*n)) env
  | _=>False
 | .xfa x k=>match x.ev env with
  | .lp q i c=>match env.xat q i with
   | some _=>K (.lp q i (c+k)) env
   | none=>False
  | _=>False
 | .xld x=>match x.ev env with
  | .lp q i c=>match env.xat q i with
   | some p=>A6 (p.2.flatMap TV.cells)[c]? fun t=>K (.tv t) env
   | none=>False
  | _=>False
 | .xst x v=>match x.ev env with
  | .lp q i c=>match env.xat q i,v.ev env with
   | some (n,es),.tv t=>t.cells=[t]∧c<es.length*n∧∃ es',es'.flatMap TV.cells=(es.flatMap TV.cells).set c t∧es'.length=es.length∧(∀ e∈es',e.cells.length=n)∧K .undef (env.xput q i n es')
   | _,_=>False
  | _=>False
 | .rel s=>match dst,env.get s with
  | some d,.xo n es=>d≠s∧K (.ow (.list n es)) ((s,.undef)::env)
  | _,_=>False
 | .nilx n=>match dst with
  | some d=>env.noRef d=true∧K (.xo n []) env
  | none=>False
 | .tkx s=>match dst,env.get s with
  | some d,.xo n es=>env.noRef d=true∧d≠s∧K (.xo n es) ((s,.undef)::env)
  | _,_=>False
 | .appx n s y=>match dst,env.get s,y.val env with
  | some d,.xo m es,some (.list m' fs)=>m=n∧m'=n∧es.length+fs.length<=B9∧env.noRef d=true∧d≠s∧K (.xo n (es++fs)) ((s,.undef)::env)
  | _,_,_=>False
 | .callx f args=>match dst with
  | some d=>env.noRef d=true∧A6 (vals env args) fun ts=>∃ n es,(S f ts (.xown n es)∨(S f ts (.own (.list n es))∧TV.flats es=true))∧((TV.list n es).WF->K (.xo n es) env)
  | none=>False
 | .mkx n zero x=>match dst,x.val env with
  | some d,some (.int _ j)=>env.noRef d=true∧0<=j∧j<=4096∧K (.xo n (List.replicate j.toNat (match zero with | [t]=>t | ts=>.agg ts))) env
  | _,_=>False
 | .bldg gs=>match dst with
  | some d=>((gs.filterMap GC.src).Nodup∧d ∉ gs.filterMap GC.slot)∧A6 (IQ env gs) fun cs=>K (.oag cs) (MZ env (gs.filterMap GC.slot) env)
  | none=>False
 | .stx n s q=>match env.get s,env.get q with
  | .bx cs,.oag ds=>q≠s∧(ds.length=n∧((ds.all fun c=>!c.t.isXl)||env.noX s none)=true)∧0+n<=cs.length∧K .undef ((s,.bx (cs.take 0++ds++cs.drop (0+n)))::(q,.undef)::env)
  | _,_=>False
 | .callg f args=>A6 (vals env args) fun ts=>∃ cs,S f ts (.oag cs)∧((∀ c∈cs,c.t.WF)->K (.oag cs) env)
 | .isn x=>match x.val env with
  | some (.list _ es)=>∀ b:Bool,(b=true->es=[])->K (.tv (.bool b)) env
  | _=>False
 | .callm f x=>A6 (x.xlist env) fun p=>p.2.1=1∧∃ zs zs':List Int,p.2.2=zs.map (TV.int .i64)∧S f [.list 1 p.2.2] (.turn zs')∧((TV.list 1 (zs'.map (TV.int .i64))).WF->K (.tp []) (env.xput p.1.1 p.1.2 1 (zs'.map (TV.int .i64))))
 | .callc f x=>match dst with
  | some d=>A6 (x.xlist env) fun p=>(p.1.1≠d∧p.1.2=none)∧p.2.1=1∧env.noRef d=true∧∃ zs zs':List Int,p.2.2=zs.map (TV.int .i64)∧S f [.list 1 p.2.2] (.cut zs')∧((TV.list 1 (zs'.map (TV.int .i64))).WF->K (.xo 1 (zs'.map (TV.int .i64))) ((p.1.1,.undef)::env))
  | none=>False
 | .lac x=>match x.ev env with
  | .bp s off=>match env.xat s (some off) with
   | some _=>K (.la s (some off)) env
   | none=>False
  | _=>False
 | .ctk x=>match dst,x.place env with
  | some d,some (s,off)=>match env.get s with
   | .bx cs=>match cs[off]? with
    | some ⟨true,.xl n es⟩=>env.noRef d=true∧K (.xo n es) ((s,.bx (cs.set off ⟨false,.undef⟩))::env)
    | _=>False
   | _=>False
  | _,_=>False
 | .cpt x q=>match x.place env,env.get q with
  | some (s,off),.xo n es=>match env.get s with
   | .bx cs=>env.noX s (some off)=true∧off<cs.length∧K .undef ((s,.bx (cs.set off ⟨true,.xl n es⟩))::(q,.undef)::env)
   | _=>False
  | _,_=>False
 | .cut n s hi=>match dst,env.get s,hi.val env with
  | some d,.xo m es,some (.int _ h)=>(m=n∧env.noRef d=true∧d≠s)∧0<=h∧h<=es.length∧K (.xo n (es.take h.toNat)) ((s,.undef)::env)
  | _,_,_=>False
 | .appz n s z x=>match dst,env.get s,x.val env with
  | some d,.xo m es,some (.int _ j)=>((m=n∧n=1)∧z.cells=[z])∧(0<=j∧j<=4096)∧(es.length+j.toNat<=B9∧env.noRef d=true∧d≠s)∧K (.xo n (es++List.replicate j.toNat z)) ((s,.undef)::env)
  | _,_,_=>False
 | .calll f args=>A6 (lvals env args) fun ts=>∃ r,(S f ts r∧r.lends=true)∧(r.WF->K r.ev env)
 | .callf f args=>A6 (vals env args) fun ts=>∃ us,S f ts (.ext us)∧K (.tp us) env
 | .boxp ps x=>match x.val env,dst with
  | some t,some d=>A6 (GI ps t.cells) fun cs=>env.noRef d=true∧K (.bx cs) env
  | _,_=>False
 | .lstz n=>match dst with
  | some d=>env.noRef d=true∧K (.xo n []) env
  | none=>False
 | .callb f args i=>match dst,(args[i]?).bind (·.place env) with
  | some d,some (s,0)=>match env.get s with
   | .bx cs=>(env.noX s none=true∧d≠s)∧A6 (Mj env i args) fun ts=>∃ cs' us,S f ts (.bo cs cs' i us)∧((∀ c∈cs',c.t.WF)∧TV.WFs us->K (EV.ofs us) ((s,.bx cs')::env))
   | _=>False
  | _,_=>False
def AC.put (env:AC) (dst:Option Nat) (e:EV):AC:=
 match dst with
 | some d=>(d,e)::env
 | none=>env
def PR.wp (env:AC) (K:AC->Prop) (o:PR):Prop:=
 match o.guard with
 | none=>o.op.wp S env o.dst fun e env'=>K (env'.put o.dst e)
 | some (g,b)=>match env.get g with
  | .tv (.bool q)=>(q=b->o.op.wp S env o.dst fun e env'=>K (env'.put o.dst e))∧(q=!b->K (env.put o.dst .sk))
  | .sk=>K (env.put o.dst .sk)
  | _=>False
def wpOps (K:AC->Prop):List PR->AC->Prop
 | [],env=>K env
 | o::os,env=>o.wp S env fun env'=>wpOps K os env'
structure Q where
 normal:AC->Prop
 exit:Nat->AC->Prop
 ret:AC->Prop
def PC.wp:PC->Q->AC->Prop
 | .skip live,q,env=>q.normal (env.keep live)
 | .ret,q,env=>q.ret env
 | .exit id live,q,env=>q.exit id (env.keep live)
 | .seq a b,q,env=>a.wp { q with normal:=fun e=>(∀ s,(e.get s).WF)->b.wp q e } env
 | .cond c a b,q,env=>match c.val env with
  | some (.bool x)=>(x=true->a.wp q env)∧(x=false->b.wp q env)
  | _=>False
 | .block id c,q,env=>c.wp { q with exit:=fun i e=>if i=id then q.normal e else q.exit i e } env
 | .loop live c,q,env=>∀ X:AC->Prop,(∀ e,((∀ s,(e.get s).WF)->c.wp { q with normal:=fun e'=>X (e'.keep live) } e)->X e)->X (env.keep live)
 | .region ops live,q,env=>wpOps S (fun e=>q.normal (e.keep live)) ops env
 | .draw D ops live,q,env=>N7 env D=true∧wpOps S (fun e=>q.normal (e.keep live)) ops env
 | .bad,_,_=>False
 | .rls s c,q,env=>match env.get s with
  | .bx cs=>c.wp q ((s,.bx (cs.map AU.rel))::env)
  | _=>False
end
inductive RV where
 | tmp (s:Nat)
 | cell (s:Nat) (agg:Option Nat)
def RV.get (env:AC):RV->Option TV
 | .tmp s=>(env.get s).val
 | .cell s none=>match BO env (env.get s) with
  | some (t::_)=>some t
  | _=>none
 | .cell s (some n)=>match BO env (env.get s) with
  | some cs=>if cs.length=n then some (.agg cs) else none
  | none=>none
def I7 (env:AC):List RV->Option (List TV)
 | []=>some []
 | x::xs=>match x.get env,I7 env xs with
  | some t,some ts=>some (t::ts)
  | _,_=>none
def EK (rs:List RV) (r:CH) (env:AC):Prop:=
 match r,rs with
 | .own t,[.tmp s]=>env.get s=.ow t
 | .own _,_=>False
 | .sh t,[x]=>x.get env=some t
 | .sh _,_=>False
 | .tp ts,rs=>rs.length≠1∧I7 env rs=some ts
 | .turn _,_=>False
 | .cut _,_=>False
 | .xown n es,[.tmp s]=>env.get s=.xo n es
 | .xown _ _,_=>False
 | .oag cs,[.cell s (some n)]=>env.get s=.bx cs∧cs.length=n
 | .oag _,_=>False
 | .bo _ cs' i ts,rs=>env.get i=.bx cs'∧I7 env rs=some ts
 | .ext _,_=>False
end Go.Sf
namespace Go.Sf
def DK (w w':World) (F F':Nat->Nat->Prop):Prop:=
 ∀ b o v,w.cell? ⟨b,o,none⟩=some v->¬ F b o->w'.cell? ⟨b,o,none⟩=some v∧¬ F' b o
section
variable {w w':World} {F F':Nat->Nat->Prop}
mutual
theorem C1 (h:DK w w' F F'):∀ (t:TV) (v:Value),A1 w F t v->A1 w' F' t v
 | .undef,_,hr=>hr
 | .int _ _,_,hr=>hr
 | .bool _,_,hr=>hr
 | .str _,_,hr=>hr
 | .nil,_,hr=>hr
 | .list n es,v,hr=>by
  simp only [A1] at hr ⊢
  obtain ⟨a,cap,h1,h0,h2,h3⟩:=hr
  exact ⟨a,cap,h1,h0,h2,fun ad had=>⟨(h3 ad had).1,Oq h n es _ _ (h3 ad had).2⟩⟩
 | .agg cs,v,hr=>by
  simp only [A1] at hr ⊢
  obtain ⟨vs,h1,h2,h3⟩:=hr
  exact ⟨vs,h1,BI h cs _ h2,h3⟩
 | .pt row,v,hr=>by
  simp only [A1] at hr ⊢
  obtain ⟨b,o,h1,h2⟩:=hr
  exact ⟨b,o,h1,MI h row _ _ h2⟩
 | .clo f caps,v,hr=>by
  simp only [A1] at hr ⊢
  obtain ⟨vs,h1,h2⟩:=hr
  exact ⟨vs,h1,BI h caps _ h2⟩
 | .xl _ _,_,hr=>hr
theorem BI (h:DK w w' F F'):∀ (ts:List TV) (vs:List Value),AQ w F ts vs->AQ w' F' ts vs
 | [],_,hr=>hr
 | t::ts,vs,hr=>by
  simp only [AQ] at hr ⊢
  obtain ⟨v,r,h1,h2,h3⟩:=hr
  exact ⟨v,r,h1,C1 h t v h2,BI h ts r h3⟩
theorem MI (h:DK w w' F F'):∀ (ts:List TV) (b o:Nat),D7 w F ts b o->D7 w' F' ts b o
 | [],_,_,_=>trivial
 | t::ts,b,o,hr=>by
  simp only [D7] at hr ⊢
  obtain ⟨⟨v,h1,h2,h0,h3⟩,h4⟩:=hr
  exact ⟨⟨v,(h b o v h1 h2).1,(h b o v h1 h2).2,h0,C1 h t v h3⟩,MI h ts b (o+1) h4⟩
theorem Oq (h:DK w w' F F') (n:Nat):∀ (ts:List TV) (b o:Nat),HU w F n ts b o->HU w' F' n ts b o
 | [],_,_,_=>trivial
 | t::ts,b,o,hr=>by
  simp only [HU] at hr ⊢
  exact ⟨W7 h t b o hr.1,hr.2.1,Oq h n ts b (o+n) hr.2.2⟩
theorem W7 (h:DK w w' F F'):∀ (t:TV) (b o:Nat),Iq w F t b o->Iq w' F' t b o
 | .agg cs,b,o,hr=>MI h cs b o hr
 | .undef,b,o,hr=>by
  simp only [Iq] at hr ⊢
  obtain ⟨v,h1,h2,h3⟩:=hr
  exact ⟨v,(h b o v h1 h2).1,(h b o v h1 h2).2,h3⟩
 | .int _ _,b,o,hr=>by
  simp only [Iq] at hr ⊢
  obtain ⟨v,h1,h2,h3⟩:=hr
  exact ⟨v,(h b o v h1 h2).1,(h b o v h1 h2).2,h3⟩
 | .bool _,b,o,hr=>by
  simp only [Iq] at hr ⊢
  obtain ⟨v,h1,h2,h3⟩:=hr
  exact ⟨v,(h b o v h1 h2).1,(h b o v h1 h2).2,h3⟩
 | .str _,b,o,hr=>by
  simp only [Iq] at hr ⊢
  obtain ⟨v,h1,h2,h3⟩:=hr
  exact ⟨v,(h b o v h1 h2).1,(h b o v h1 h2).2,h3⟩
 | .nil,b,o,hr=>by
  simp only [Iq] at hr ⊢
  obtain ⟨v,h1,h2,h3⟩:=hr
  exact ⟨v,(h b o v h1 h2).1,(h b o v h1 h2).2,h3⟩
 | .list n es,b,o,hr=>by
  simp only [Iq] at hr ⊢
  obtain ⟨v,h1,h2,hc,a,cap,h3,h0,h4,h5⟩:=hr
  exact ⟨v,(h b o v h1 h2).1,(h b o v h1 h2).2,hc,a,cap,h3,h0,h4,fun ad had=>⟨(h5 ad had).1,Oq h n es _ _ (h5 ad had).2⟩⟩
 | .pt row,b,o,hr=>by
  simp only [Iq] at hr ⊢
  obtain ⟨v,h1,h2,hc,b',o',h3,h4⟩:=hr
  exact ⟨v,(h b o v h1 h2).1,(h b o v h1 h2).2,hc,b',o',h3,MI h row _ _ h4⟩
 | .clo f caps,b,o,hr=>by
  simp only [Iq] at hr ⊢
  obtain ⟨v,h1,h2,hc,vs,h3,h4⟩:=hr
  exact ⟨v,(h b o v h1 h2).1,(h b o v h1 h2).2,hc,vs,h3,BI h caps _ h4⟩
 | .xl _ _,b,o,hr=>by
  simp only [Iq] at hr ⊢
  obtain ⟨v,h1,h2,h3⟩:=hr
  exact ⟨v,(h b o v h1 h2).1,(h b o v h1 h2).2,h3⟩
end
end
section
variable {w:World} {F:Nat->Nat->Prop}
theorem FW:∀ (ts:List TV) (b o:Nat),D7 w F ts b o↔∀ i t,ts[i]?=some t->∃ v,w.cell? ⟨b,o+i,none⟩=some v∧¬ F b (o+i)∧v.oneCell'=true∧A1 w F t v
 | [],_,_=>by simp [D7]
 | t::ts,b,o=>by
  simp only [D7,FW ts b (o+1)]
  constructor
  ·rintro ⟨h1,h2⟩ i u hi
   cases i with
   | zero=>simp at hi; subst hi; exact h1
   | succ i=>have:=h2 i u (by simpa using hi); rwa [show o+1+i=o+(i+1) from by omega] at this
  ·intro h
   refine ⟨by simpa using h 0 t rfl,fun i u hi=>?_⟩
   have:=h (i+1) u (by simpa using hi)
   rwa [show o+(i+1)=o+1+i from by omega] at this
theorem MH {ts:List TV} {b o:Nat} (h:D7 w F ts b o) (k:Nat):D7 w F (ts.drop k) b (o+k):=by
 rw [FW] at h ⊢
 intro i t hi
 rw [List.getElem?_drop] at hi
 have:=h (k+i) t hi
 rwa [show o+k+i=o+(k+i) from by omega]
theorem VY {ts:List TV} {b o:Nat} (h:D7 w F ts b o) (k:Nat):D7 w F (ts.take k) b o:=by
 rw [FW] at h ⊢
 intro i t hi
 rw [List.getElem?_take] at hi
 split at hi
 ·exact h i t hi
 ·simp at hi
theorem Ms {n:Nat} {e:TV} {es:List TV} {b o:Nat}:HU w F n (e::es) b o↔D7 w F e.cells b o∧e.cells.length=n∧HU w F n es b (o+n):=by
 simp only [HU,W6]
theorem Ns (n:Nat):∀ (es:List TV) (b o:Nat),HU w F n es b o↔∀ i e,es[i]?=some e->D7 w F e.cells b (o+i*n)∧e.cells.length=n
 | [],_,_=>by simp [HU]
 | e::es,b,o=>by
  rw [Ms,Ns n es b (o+n)]
  constructor
  ·rintro ⟨h1,h2,h3⟩ i u hi
   cases i with
   | zero=>simp at hi; subst hi; simpa using ⟨h1,h2⟩
   | succ i=>
    have:=h3 i u (by simpa using hi)
    rwa [show o+n+i*n=o+(i+1)*n from by rw [Nat.add_mul]; omega] at this
  ·intro h
   have h0:=h 0 e rfl
   simp at h0
   refine ⟨h0.1,h0.2,fun i u hi=>?_⟩
   have:=h (i+1) u (by simpa using hi)
   rwa [show o+(i+1)*n=o+n+i*n from by rw [Nat.add_mul]; omega] at this
theorem CD:∀ (ts:List TV) (vs:List Value),AQ w F ts vs↔vs.length=ts.length∧∀ (i:Nat) (t:TV) (v:Value),ts[i]?=some t->vs[i]?=some v->A1 w F t v
 | [],vs=>by simp [AQ]
 | t::ts,vs=>by
  simp only [AQ]
  constructor
  ·rintro ⟨v,r,rfl,h1,h2⟩
   rw [CD ts r] at h2
   refine ⟨by simp [h2.1],fun i u x hi hx=>?_⟩
   cases i with
   | zero=>simp at hi hx; subst hi hx; exact h1
   | succ i=>exact h2.2 i u x (by simpa using hi) (by simpa using hx)
  ·rintro ⟨h1,h2⟩
   cases vs with
   | nil=>simp at h1
   | cons v r=>exact ⟨v,r,rfl,h2 0 t v rfl rfl,(CD ts r).2 ⟨by simpa using h1,fun i u x hi hx=>h2 (i+1) u x (by simpa using hi) (by simpa using hx)⟩⟩
theorem JZ {ts us:List TV} {vs xs:List Value} (h1:AQ w F ts vs) (h2:AQ w F us xs):AQ w F (ts++us) (vs++xs):=by
 induction ts generalizing vs with
 | nil=>simp only [AQ] at h1; subst h1; simpa using h2
 | cons t ts ih=>
  simp only [AQ] at h1
  obtain ⟨v,r,rfl,h3,h4⟩:=h1
  exact ⟨v,r++xs,rfl,h3,ih h4⟩
theorem IY {t:TV} {v:Value} (h:A1 w F t v):AQ w F t.cells v.cells.toList∧∀ x∈v.cells.toList,x.oneCell'=true:=by
 have one:∀ {v:Value} {t:TV},v.cells=#[v]->v.oneCell'=true->A1 w F t v->t.cells=[t]->AQ w F t.cells v.cells.toList∧∀ x∈v.cells.toList,x.oneCell'=true:=by
  intro v t h1 h2 h3 h4
  rw [h1,h4]
  exact ⟨⟨v,[],rfl,h3,rfl⟩,by simpa using h2⟩
 cases t with
 | agg cs=>simp only [A1] at h; obtain ⟨vs,rfl,h2,h3⟩:=h; exact ⟨h2,fun x hx=>List.all_eq_true.1 h3 x hx⟩
 | undef=>have h':=h; simp only [A1] at h; cases v <;> first | exact one rfl rfl h' rfl | (simp [Value.oneCell'] at h)
 | xl n es=>have h':=h; simp only [A1] at h; cases v <;> first | exact one rfl rfl h' rfl | (simp [Value.oneCell'] at h)
 | int k n=>have h':=h; simp only [A1] at h; subst h; exact one rfl rfl h' rfl
 | bool b=>have h':=h; simp only [A1] at h; subst h; exact one rfl rfl h' rfl
 | str s=>have h':=h; simp only [A1] at h; subst h; exact one rfl rfl h' rfl
 | nil=>have h':=h; simp only [A1] at h; subst h; exact one rfl rfl h' rfl
 | list n es=>have h':=h; simp only [A1] at h; obtain ⟨a,cap,rfl,_⟩:=h; exact one rfl rfl h' rfl
 | pt row=>have h':=h; simp only [A1] at h; obtain ⟨b,o,rfl,_⟩:=h; exact one rfl rfl h' rfl
 | clo f caps=>have h':=h; simp only [A1] at h; obtain ⟨vs,rfl,_⟩:=h; exact one rfl rfl h' rfl
end
end Go.Sf
namespace Go.Sf
section
variable (S:FuncId->List TV->CH->Prop)
theorem wp_skip (l:List Nat) (q:Q) (env:AC):PC.wp S (.skip l) q env=q.normal (env.keep l):=rfl
theorem wp_ret (q:Q) (env:AC):PC.wp S .ret q env=q.ret env:=rfl
theorem wp_exit (id:Nat) (l:List Nat) (q:Q) (env:AC):PC.wp S (.exit id l) q env=q.exit id (env.keep l):=rfl
theorem wp_seq (a b:PC) (q:Q) (env:AC):PC.wp S (.seq a b) q env=a.wp S { q with normal:=fun e=>(∀ s,(e.get s).WF)->b.wp S q e } env:=rfl
theorem wp_block (id:Nat) (c:PC) (q:Q) (env:AC):PC.wp S (.block id c) q env=c.wp S { q with exit:=fun i e=>if i=id then q.normal e else q.exit i e } env:=rfl
theorem wp_region (ops:List PR) (live:List Nat) (q:Q) (env:AC):PC.wp S (.region ops live) q env=wpOps S (fun e=>q.normal (e.keep live)) ops env:=rfl
theorem DI {α:Type} {o:Option α} {K K':α->Prop} (h:∀ a,K a->K' a):A6 o K->A6 o K':=by
 cases o <;> simp [A6]; exact h _
theorem AH.wp_mono (env:AC) (dst:Option Nat) {K K':EV->AC->Prop} (h:∀ e env',K e env'->K' e env') (op:AH) (hk:op.wp S env dst K):op.wp S env dst K':=by
 cases op <;> simp only [AH.wp] at hk ⊢
 case ld=>exact DI (fun _=>DI (fun _ hx=>⟨hx.1,h _ _ hx.2⟩)) hk
 case lda=>exact DI (fun _ hx=>⟨hx.1,h _ _ hx.2⟩) hk
 case bld=>exact DI (fun _=>DI (fun _=>h _ _)) hk
 case lst=>exact DI (fun _ hx=>⟨hx.1,h _ _ hx.2⟩) hk
 case call=>exact DI (fun _ ⟨r,h1,h2⟩=>⟨r,h1,fun hw=>h _ _ (h2 hw)⟩) hk
 case clo=>exact DI (fun _=>h _ _) hk
 case mm=>split at hk <;> first | exact hk.elim | exact ⟨hk.1,h _ _ hk.2⟩
 case fldv x k n agg=>
  split at hk
  ·refine ⟨hk.1,?_⟩
   have h2:=hk.2
   cases agg
   ·exact DI (fun _=>h _ _) h2
   ·exact h _ _ h2
  ·exact hk.elim
 case xlen=>exact DI (fun _=>h _ _) hk
 case xia=>exact DI (fun p hp=>by
  split at hp
  ·exact ⟨hp.1,hp.2.1,hp.2.2.1,h _ _ hp.2.2.2⟩
  ·exact hp.elim) hk
 case xst=>
  split at hk
  ·split at hk
   ·obtain ⟨h1,h2,es',h3,h4,h5,h7⟩:=hk
    exact ⟨h1,h2,es',h3,h4,h5,h _ _ h7⟩
   ·exact hk.elim
  ·exact hk.elim
 case lstz=>split at hk <;> first | exact hk.elim | exact ⟨hk.1,h _ _ hk.2⟩
 case nilx=>split at hk <;> first | exact hk.elim | exact ⟨hk.1,h _ _ hk.2⟩
 case tkx=>split at hk <;> first | exact hk.elim | exact ⟨hk.1,hk.2.1,h _ _ hk.2.2⟩
 case appx=>split at hk <;> first | exact hk.elim | exact ⟨hk.1,hk.2.1,hk.2.2.1,hk.2.2.2.1,hk.2.2.2.2.1,h _ _ hk.2.2.2.2.2⟩
 case callx=>
  split at hk
  ·exact ⟨hk.1,DI (fun ts ⟨n,es,h1,h2⟩=>⟨n,es,h1,fun hw=>h _ _ (h2 hw)⟩) hk.2⟩
  ·exact hk.elim
 case bldg=>
  split at hk
  ·exact ⟨hk.1,DI (fun _=>h _ _) hk.2⟩
  ·exact hk.elim
 case stx=>split at hk <;> first | exact hk.elim | exact ⟨hk.1,hk.2.1,hk.2.2.1,h _ _ hk.2.2.2⟩
 case callg=>exact DI (fun ts ⟨cs,h1,h2⟩=>⟨cs,h1,fun hw=>h _ _ (h2 hw)⟩) hk
 case calll=>exact DI (fun _ ⟨r,h1,h2⟩=>⟨r,h1,fun hw=>h _ _ (h2 hw)⟩) hk
 case boxp=>
  split at hk
  ·exact DI (fun _ hx=>⟨hx.1,h _ _ hx.2⟩) hk
  ·exact hk.elim
 case callf=>exact DI (fun ts ⟨us,h1,h2⟩=>⟨us,h1,h _ _ h2⟩) hk
 case appz=>
  split at hk
  ·exact ⟨hk.1,hk.2.1,hk.2.2.1,h _ _ hk.2.2.2⟩
  ·exact hk.elim
 case callb=>
  split at hk
  ·split at hk
   ·exact ⟨hk.1,DI (fun ts ⟨cs',us,h1,h2⟩=>⟨cs',us,h1,fun hw=>h _ _ (h2 hw)⟩) hk.2⟩
   ·exact hk.elim
  ·exact hk.elim
 case isn=>
  split at hk
  ·exact fun b hb=>h _ _ (hk b hb)
  ·exact hk.elim
 case callm=>exact DI (fun p ⟨h1,zs,zs',h2,h3,h4⟩=>⟨h1,zs,zs',h2,h3,fun hw=>h _ _ (h4 hw)⟩) hk
 case callc=>
  split at hk
  ·exact DI (fun p ⟨h0,h1,h5,zs,zs',h2,h3,h4⟩=>⟨h0,h1,h5,zs,zs',h2,h3,fun hw=>h _ _ (h4 hw)⟩) hk
  ·exact hk.elim
 all_goals (repeat' split at hk) <;> first | exact hk.elim | exact h _ _ hk | exact ⟨hk.1,h _ _ hk.2⟩ | exact ⟨hk.1,hk.2.1,h _ _ hk.2.2⟩ | exact ⟨hk.1,hk.2.1,hk.2.2.1,h _ _ hk.2.2.2⟩ | exact DI (fun _=>h _ _) hk | (obtain ⟨r,h1,h2⟩:=hk; exact ⟨r,h1,fun hw=>h _ _ (h2 hw)⟩) | (obtain ⟨h1,r,h2,h3⟩:=hk; exact ⟨h1,r,h2,h _ _ h3⟩) | (obtain ⟨h0,h1,r,h2,h3⟩:=hk; exact ⟨h0,h1,r,h2,h _ _ h3⟩)
theorem PR.wp_mono (env:AC) {K K':AC->Prop} (h:∀ e,K e->K' e) (o:PR) (hk:o.wp S env K):o.wp S env K':=by
 unfold PR.wp at hk ⊢
 split at hk
 ·exact AH.wp_mono S env _ (fun _ _=>h _) _ hk
 ·split at hk
  ·exact ⟨fun hq=>AH.wp_mono S env _ (fun _ _=>h _) _ (hk.1 hq),fun hq=>h _ (hk.2 hq)⟩
  ·exact h _ hk
  ·exact hk.elim
theorem Mu {K K':AC->Prop} (h:∀ e,K e->K' e):∀ (os:List PR) (env:AC),wpOps S K os env->wpOps S K' os env
 | [],_,hk=>h _ hk
 | o::os,env,hk=>PR.wp_mono S env (fun e=>Mu h os e) o hk
theorem PC.wp_mono:∀ (c:PC) (q:Q) (env:AC),c.wp S q env->∀ (q':Q),(∀ e,q.normal e->q'.normal e)->(∀ i e,q.exit i e->q'.exit i e)->(∀ e,q.ret e->q'.ret e)->c.wp S q' env
 | .skip _,_,_,hk,_,h,_,_=>h _ hk
 | .ret,_,_,hk,_,_,_,h=>h _ hk
 | .exit _ _,_,_,hk,_,_,h,_=>h _ _ hk
 | .seq a b,q,env,hk,q',h1,h2,h3=>by
  simp only [PC.wp] at hk ⊢
  exact PC.wp_mono a _ env hk _ (fun e he hw=>PC.wp_mono b q e (he hw) q' h1 h2 h3) h2 h3
 | .cond c a b,q,env,hk,q',h1,h2,h3=>by
  simp only [PC.wp] at hk ⊢
  split at hk
  ·exact ⟨fun hx=>PC.wp_mono a q env (hk.1 hx) q' h1 h2 h3,fun hx=>PC.wp_mono b q env (hk.2 hx) q' h1 h2 h3⟩
  ·exact hk.elim
 | .block id c,q,env,hk,q',h1,h2,h3=>by
  simp only [PC.wp] at hk ⊢
  exact PC.wp_mono c _ env hk _ h1 (fun i e=>by dsimp only; split <;> first | exact h1 e | exact h2 i e) h3
 | .loop live c,q,env,hk,q',h1,h2,h3=>by
  simp only [PC.wp] at hk ⊢
  exact fun X hX=>hk X fun e he=>hX e fun hw=>PC.wp_mono c _ e (he hw) _ (fun _ h=>h) h2 h3
 | .region ops live,q,env,hk,q',h1,_,_=>by
  simp only [PC.wp] at hk ⊢
  exact Mu S (fun _=>h1 _) ops env hk
 | .draw _ ops live,q,env,hk,q',h1,_,_=>by
  simp only [PC.wp] at hk ⊢
  exact ⟨hk.1,Mu S (fun _=>h1 _) ops env hk.2⟩
 | .bad,_,_,hk,_,_,_,_=>by
  simp only [PC.wp] at hk
 | .rls s c,q,env,hk,q',h1,h2,h3=>by
  simp only [PC.wp] at hk ⊢
  split at hk
  ·exact PC.wp_mono c q _ hk q' h1 h2 h3
  ·exact hk.elim
end
end Go.Sf
