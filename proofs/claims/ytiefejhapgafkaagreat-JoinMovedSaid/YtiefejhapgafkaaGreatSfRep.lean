/- Tree values for Go's data, and what it means that memory holds one. No program. -/
import Derived.WalkKit
import Derived.ProofKit
import Derived.Laws.AppendOwn
import Derived.Laws.StructEq
import Derived.Laws.Tables
import Derived.Great.BuildSlice
set_option linter.all false
open Option renaming some->Y,none->W
open Bool renaming true->X,false->T
open Nat renaming le_refl->x!,zero_le->x?,le_trans->y_,lt_of_lt_of_le->y!,lt_or_ge->y?,add_mul->z_,zero_add->z!,min_eq_left->z?,add_sub_cancel_left->A_,sub_self->A',add_zero->A!,mul_le_mul_left->A?,mul_le_mul_right->B_
open List renaming length_append->B',length_take->B!,length_cons->B?,append_assoc->C_,replicate->C',all_eq_true->C!,flatMap_cons->C?,getElem?_eq_getElem->D_,mem_cons->D',mem_of_getElem?->D!,getElem?_map->D?,getElem?_drop->E_,mem_map->E',mem_of_mem_drop->E!,getElem?_take->E?,mem_of_mem_take->F_,map_take->F!,getElem?_toArray->F?,getElem?_append_right->G_,eq_nil_of_length_eq_zero->G!,mem_or_eq_of_mem_set->G?,length_replicate->H_,take_left->H',getElem?_append_left->H!,getElem?_take_of_lt->H?,mem_append->I_,isEmpty_iff->I',getElem_mem->I!,getElem?_set->I?,length_singleton->J_,getElem?_eq_some_iff->J',getElem?_of_mem->J!
open Array renaming getD_eq_getD_getElem?->J?,length_toList->K_,foldl_toList->K',toList_zipIdx->K!,range->K?,getElem?_toList->L_
open Option renaming map_eq_some_iff->L',map_map->L!
open Bool renaming and_assoc->L?,false_eq_true->M_,eq_iff_iff->M'
namespace Go.Sf
section
variable{p:Prop}
theorem U(h:p:=by omega):p:=h
theorem V(h:p:=by simp):p:=h
def an(h:p:=by simp;omega):p:=h
def a_(h:p:=by simp;unfold AX;omega):p:=h
def a!(h:p:=by decide):p:=h
def a?(h:p:=by kernel_rfl):p:=h
def b_(h:p:=by unfold AX;omega):p:=h
def b!(h:p:=by simp only;omega):p:=h
def b?(h:p:=by simpa using h):p:=h
def c_(h:p:=by decide +kernel):p:=h
def c!(h:p:=by cases h):p:=h
def c?(h:p:=by simpa using o):p:=h
def d_(h:p:=by simp[e]):p:=h
def d!(h:p:=by simpa using z):p:=h
def d?(h:p:=by simpa using u):p:=h
def e_(h:p:=by rw[AU (by omega) (by omega)];omega):p:=h
def e!(h:p:=by rw[bk];omega):p:=h
def e?(h:p:=by simpa using d):p:=h
def f_(h:p:=by simp[AH.sl]):p:=h
def f?(h:p:=by rw[Bool.eq_false_iff];simp;omega):p:=h
def g_(h:p:=by simp[AF.slots]):p:=h
def g!(h:p:=by rw[hb];rfl):p:=h
theorem g?(h:p:=by rw[FP];exact h.defers):p:=h
def h_(h:p:=by simp at i1;omega):p:=h
def h!(h:p:=by simp[AF.r0]):p:=h
def h?(h:p:=by simpa using e):p:=h
def i9(h:p:=by simp;try omega):p:=h
def i_(h:p:=by rw[decide_eq_decide];omega):p:=h
def i!(h:p:=by cases h;assumption):p:=h
def i?(h:p:=by rw[Nat.add_mul];omega):p:=h
def j_(h:p:=by simp only[IntKind.min,IntKind.signed,IntKind.bits,if_true];omega):p:=h
def j!(h:p:=by simp[hv]):p:=h
def j?(h:p:=by rw[B g x _ l (by simp) (by simp)];exact b):p:=h
def k_(h:p:=by simp[Value.oneCell']):p:=h
def k!(h:p:=by simpa using j):p:=h
def k?(h:p:=by simpa using i1):p:=h
def l_(h:p:=by simp[h]):p:=h
def l'(h:p:=by simpa using E):p:=h
def l!(h:p:=by simp[u]):p:=h
def l?(h:p:=by have:=(C.ln _ _ _ _ _ _ _ (e▸m) h4).2;cases this):p:=h
def m_(h:p:=by simpa using hv.1):p:=h
def m?(h:p:=by simpa using y):p:=h
def n_(h:p:=by grind):p:=h
def n!(h:p:=by rw[c9,Ay];exact i1):p:=h
def n?(h:p:=by simpa using hi):p:=h
def o1(h:p:=by have:=h.len;omega):p:=h
def o2(h:p:=by simp[o]):p:=h
def o_(h:p:=by simpa using B):p:=h
def o!(h:p:=by simpa using F):p:=h
def o?(h:p:=by simp[EG,hf,hb,hname]):p:=h
def p_(h:p:=by simpa using A):p:=h
def p!(h:p:=by cases he):p:=h
def p?(h:p:=by cases e):p:=h
def q_(h:p:=by simp[z]):p:=h
def q!(h:p:=by have:=e.1;omega):p:=h
def q?(h:p:=by have:=ha.term.high;omega):p:=h
def r_(h:p:=by show 0+p.dl.length=p.dl.length;omega):p:=h
def r!(h:p:=by rw[(E l.1 l.2 rfl).1,e];simp[AH.sl]):p:=h
def r?(h:p:=by simp[AK]):p:=h
def s_(h:p:=by simpa using I):p:=h
def s?(h:p:=by rw[e];rfl):p:=h
def t_(h:p:=by rfl):p:=h
def t!(h:p:=by have:=ha.len;have:=hi.vars;omega):p:=h
def t?(h:p:=by simp only[IntKind.max_i64];omega):p:=h
def u_(h:p:=by rw[DW];omega):p:=h
def u'(h:p:=by simp[y]):p:=h
def u!(h:p:=by rw[c9];unfold reachBytes;omega):p:=h
theorem u?(h:p:=by simpa using this.1):p:=h
def v5(h:p:=by simp[BA.aev,BA.ev]):p:=h
def v6(h:p:=by simpa using g):p:=h
def v_(h:p:=by simpa using G):p:=h
def v!(h:p:=by simpa using m):p:=h
def v?(h:p:=by simp[TV.cells,TV.Sms,TV.Sm]):p:=h
def w_(h:p:=by simpa using f):p:=h
def w!(h:p:=by simp[f]):p:=h
def w?(h:p:=by simpa using H):p:=h
end
abbrev Fp:=List Int
abbrev K1:=Option Bool
abbrev QQ:=List Nat
abbrev a5:=Option Int
abbrev a6:=List Bool
def ac{c:Prop}{h:Decidable c}(hc:c){α:Sort _}{t e:α}:ite c t e=t:=if_pos hc
def ae{c:Prop}{h:Decidable c}(hc:¬c){α:Sort _}{t e:α}:ite c t e=e:=if_neg hc
def az(n:Nat):n<=n:=x! n
theorem b6{α:Type _}{a b:List α}:(a++b).length=a.length+b.length:=B'
theorem bk{α:Type _}{i:Nat}{l:List α}:(l.take i).length=min i l.length:=B!
theorem cE{α:Type _}{a:α}{l:List α}:(a::l).length=l.length+1:=B?
theorem c9{α β:Type _}{l:List α}(f:α->β):(l.map f).length=l.length:=List.length_map f
theorem ci{α:Type _}(a b c:List α):a++b++c=a++(b++c):=C_ a b c
def mo(a b:Bool):((a && b)=X)=(a=X/\b=X):=Bool.and_eq_true a b
theorem p0{α:Type _}(a b:α):(Y a=Y b)=(a=b):=Option.some.injEq a b
def qo{p:Prop}[Decidable p]:(decide p=X)=p:=decide_eq_true_eq
inductive TV where
 |undef
 |int (k:IntKind) (n:Int)
 |bool (b:Bool)
 |str (s:ByteArray)
 |nil
 |list (n:Nat) (es:List TV)
 |agg (cs:List TV)
 |pt (row:List TV)
 |clo (f:FuncId) (caps:List TV)
 |xl (n:Nat) (es:List TV)
 |xn (es:List TV)
 |AaQ (b:Nat)
abbrev Fq:=List TV
def TV.cells:TV->List TV
 |.agg cs=>cs|t=>[t]
section
variable(w:World)(Fb:Nat->Nat->Prop)
mutual
def A3:TV->Value->Prop
 |.undef,v=>v.oneCell'=X|.int k n,v=>v=.int k n|.bool b,v=>v=.bool b|.str s,v=>v=.string s|.nil,v=>v=.slice W 0 0|.list n es,v=>∃a cap,v=.slice a es.length cap/\es.length<=cap/\(a=W->es=[])/\∀ad,a=Y ad->(es=[]\/ad.spot=W)/\JX n es ad.block ad.off|.agg cs,v=>∃vs,v=.agg vs/\AR cs vs.toList/\vs.toList.all Value.oneCell'=X|.pt row,v=>∃b o,v=.pointer (Y ⟨b,o,W⟩)/\Dn row b o|.clo f caps,v=>∃vs,v=.func (.func f) #[] vs/\AR caps vs.toList|.xl _ _,v=>v.oneCell'=X|.xn _,v=>v.oneCell'=X|.AaQ b,v=>v=.map (Y b)
def AR:List TV->List Value->Prop
 |[],vs=>vs=[]|t::ts,vs=>∃v r,vs=v::r/\A3 t v/\AR ts r
def Dn:List TV->Nat->Nat->Prop
 |[],_,_=>True|t::ts,b,o=>(∃v,w.cell? ⟨b,o,W⟩=Y v/\¬Fb b o/\v.oneCell'=X/\A3 t v)/\Dn ts b (o+1)
def JX(n:Nat):List TV->Nat->Nat->Prop
 |[],_,_=>True|e::es,b,o=>JW e b o/\e.cells.length=n/\JX n es b (o+n)
def JW:TV->Nat->Nat->Prop
 |.agg cs,b,o=>Dn cs b o|.undef,b,o=>∃v,w.cell? ⟨b,o,W⟩=Y v/\¬Fb b o/\v.oneCell'=X/\v.oneCell'=X|.int k n,b,o=>∃v,w.cell? ⟨b,o,W⟩=Y v/\¬Fb b o/\v.oneCell'=X/\v=.int k n|.bool x,b,o=>∃v,w.cell? ⟨b,o,W⟩=Y v/\¬Fb b o/\v.oneCell'=X/\v=.bool x|.str s,b,o=>∃v,w.cell? ⟨b,o,W⟩=Y v/\¬Fb b o/\v.oneCell'=X/\v=.string s|.nil,b,o=>∃v,w.cell? ⟨b,o,W⟩=Y v/\¬Fb b o/\v.oneCell'=X/\v=.slice W 0 0|.list n es,b,o=>∃v,w.cell? ⟨b,o,W⟩=Y v/\¬Fb b o/\v.oneCell'=X/\∃a cap,v=.slice a es.length cap/\es.length<=cap/\(a=W->es=[])/\∀ad,a=Y ad->(es=[]\/ad.spot=W)/\JX n es ad.block ad.off|.pt row,b,o=>∃v,w.cell? ⟨b,o,W⟩=Y v/\¬Fb b o/\v.oneCell'=X/\∃b' o',v=.pointer (Y ⟨b',o',W⟩)/\Dn row b' o'|.clo f caps,b,o=>∃v,w.cell? ⟨b,o,W⟩=Y v/\¬Fb b o/\v.oneCell'=X/\∃vs,v=.func (.func f) #[] vs/\AR caps vs.toList|.xl _ _,b,o=>∃v,w.cell? ⟨b,o,W⟩=Y v/\¬Fb b o/\v.oneCell'=X/\v.oneCell'=X|.xn _,b,o=>∃v,w.cell? ⟨b,o,W⟩=Y v/\¬Fb b o/\v.oneCell'=X/\v.oneCell'=X|.AaQ g,b,o=>∃v,w.cell? ⟨b,o,W⟩=Y v/\¬Fb b o/\v.oneCell'=X/\v=.map (Y g)
end
end
theorem mB{w:World}{Fb:Nat->Nat->Prop}{t:TV}{b o:Nat}:JW w Fb t b o↔Dn w Fb t.cells b o:=by
 cases t<;>simp[JW,Dn,A3,TV.cells]
end Go.Sf
namespace Go.Sf
def AX:Nat:=8589934592
def LY:Nat:=9223372036854775807
variable{n:Nat}
def Vq(h:n<=AX):n<=LY:=by grind[AX,LY]
mutual
def TV.WF:TV->Prop
 |.int k n=>k.min<=n/\n<=k.max|.str s=>s.size<=LY|.list _ es=>es.length<=LY/\TV.pq es|.agg cs=>TV.pq cs|.pt row=>TV.pq row|.clo _ caps=>TV.pq caps|.xl _ es=>es.length<=LY/\TV.pq es|.xn es=>es.length<=LY/\TV.pq es|_=>True
def TV.pq:List TV->Prop
 |[]=>True|t::ts=>TV.WF t/\TV.pq ts
end
structure AS where
 own:Bool
 t:TV
def TV.AaI:TV->Bool
 |.xl _ _=>X|.xn _=>X|_=>T
def AS.key(c:AS):TV×Bool:=(c.t,c.own&&c.t.AaI)
def AS.rel(c:AS):AS:=
 match c with
 |⟨X,.xl n es⟩=>⟨X,.list n es⟩|⟨X,.xn es⟩=>⟨X,.list 1 es⟩|c=>c
def AS.Abl(c:AS):TV:=
 match c with
 |⟨X,.xl n es⟩=>.list n es|c=>c.t
inductive NK where
 |hd
 |el (r:Nat)
 |rw(r:Nat)
 |rp (r c:Nat)
abbrev Bj:=List ((Int×Int)×Int)
inductive MX where
 |mp (b:Nat) (kvs:Bj)
 |tm (b:Nat) (kvs:Bj) (ts:List TV)
 |mi (last:Option ((Int×Int)×Int)) (todo:Bj)
def Bj.WF(kvs:Bj):Prop:=∀p∈kvs,(TV.int .i64 p.1.1).WF/\(TV.int .i64 p.1.2).WF/\(TV.int .i64 p.2).WF
def MX.WF:MX->Prop
 |.mp _ kvs=>Bj.WF kvs|.tm _ kvs ts=>Bj.WF kvs/\TV.pq ts|.mi last todo=>Bj.WF last.toList/\Bj.WF todo
def Bj.look(k:Int×Int):Bj->Option Int
 |[]=>W|p::r=>if p.1=k then Y p.2 else Bj.look k r
def Bj.set(k:Int×Int)(n:Int):Bj->Bj
 |[]=>[(k,n)]|p::r=>if p.1=k then(k,n)::r else p::Bj.set k n r
def TX(k:Int×Int):TV:=.agg [.int .i64 k.1,.int .i64 k.2]
def TV.AbM?:TV->Option (Int×Int)
 |.agg [.int .i64 a,.int .i64 b]=>Y (a,b)|_=>W
inductive EV where
 |undef
 |tv (t:TV)
 |ow (t:TV)
 |bx (cs:List AS)
 |bp (s off:Nat)
 |tp (ts:List TV)
 |sk
 |xo (n:Nat) (es:List TV)
 |la (q:Nat) (i:Option Nat)
 |lp (q:Nat) (i:Option Nat) (c:Nat)
 |oag (cs:List AS)
 |xn (es:List TV)
 |x1 (n:Nat) (fs:List TV)
 |nh (q i:Nat) (k:NK)
 |mx (m:MX)
def EV.WF:EV->Prop
 |.tv t=>t.WF|.ow t=>t.WF|.bx cs=>∀c∈cs,c.t.WF|.tp ts=>TV.pq ts|.xo n es=>(TV.list n es).WF|.oag cs=>∀c∈cs,c.t.WF|.xn es=>(TV.list 1 es).WF|.x1 n fs=>(TV.list n fs).WF|.mx m=>m.WF|_=>True
abbrev AB:=List (Nat×EV)
def AB.get:AB->Nat->EV
 |[],_=>.undef|(k,e)::r,n=>if k=n then e else AB.get r n
def AB.fd(O:AB)(live:List Nat):AB:=live.map λs=>(s,O.get s)
def EV.x6:EV->Option Nat
 |.bp s _=>Y s|.la s _=>Y s|.lp s _ _=>Y s|.nh s _ _=>Y s|_=>W
def EV.noR(d:Nat)(e:EV):Bool:=
 match e.x6 with
 |some s=>d !=s|none=>X
def AB.gt(s:Nat):AB->Bool
 |[]=>X|(_,e)::r=>e.noR s&&AB.gt s r
def EV.noC(d:Nat)(k:Option Nat):EV->Bool
 |.la s (Y i)=>d !=s||(match k with|some j=>i !=j|none=>T)
 |.lp s (Y i) _=>d !=s||(match k with|some j=>i !=j|none=>T)
 |.nh s i _=>d !=s||(match k with|some j=>i !=j|none=>T)
 |_=>X
def AB.AbS(s:Nat)(k:Option Nat):List Nat->AB->Bool
 |_,[]=>X|z,(q,e)::r=>(z.contains q||e.noC s k)&&AB.AbS s k (q::z) r
def AB.noX(s:Nat)(k:Option Nat)(O:AB):Bool:=AB.AbS s k [] O
def AB.so(O:AB)(q:Nat):Option Nat->Option (Nat×List TV)
 |none=>match O.get q with
  |.xo n es=>Y (n,es)|_=>W
 |some k=>match O.get q with
  |.bx cs=>match cs[k]? with
   |some ⟨X,.xl n es⟩=>Y (n,es)|_=>W
  |_=>W
def AB.Aad(O:AB)(q:Nat)(i:Option Nat)(n:Nat)(es:List TV):AB:=
 match i with
 |none=>(q,.xo n es)::O|some k=>match O.get q with
  |.bx cs=>(q,.bx (cs.set k ⟨X,.xl n es⟩))::O|_=>O
def AB.nat(O:AB)(q k:Nat):Option (List TV):=
 match O.get q with
 |.bx cs=>match cs[k]? with
  |some ⟨X,.xn es⟩=>Y es|_=>W
 |_=>W
def AB.AbL(O:AB)(q k:Nat)(es:List TV):AB:=
 match O.get q with
 |.bx cs=>(q,.bx (cs.set k ⟨X,.xn es⟩))::O|_=>O
inductive AH where
 |s (n:Nat)
 |c (t:TV)
def AH.ev(O:AB):AH->EV
 |.s n=>O.get n|.c t=>.tv t
def EV.val:EV->Option TV
 |.tv t=>Y t|.ow t=>Y t|_=>W
def AH.val(O:AB)(x:AH):Option TV:=(x.ev O).val
def vals(O:AB):List AH->Option (List TV)
 |[]=>Y []|x::xs=>match x.val O,vals O xs with
  |some t,Y ts=>Y (t::ts)|_,_=>W
def intCmp(op:BinOp)(a b:Int):Option Bool:=
 match op with
 |.eql=>Y (decide (a=b))|.neq=>Y (!decide (a=b))|.lss=>Y (decide (a<b))|.leq=>Y (decide (a<=b))|.gtr=>Y (decide (b<a))|.geq=>Y (decide (b<=a))|_=>W
def intArith(op:BinOp)(a b:Int):Option Int:=
 match op with
 |.add=>Y (a+b)|.sub=>Y (a-b)|.mul=>Y (a*b)|.quo=>if b=0 then W else Y (a.tdiv b)|_=>W
inductive GC where
 |z (c:AS)
 |v (x:AH) (k n:Nat)
 |w (q:Nat)
 |g (q k n:Nat)
def GC.cell(O:AB):GC->Option AS
 |.z c=>Y c|.v x k n=>match x.val O with
  |some t=>match Nat.beq t.cells.length n,t.cells[k]? with
   |true,Y c=>Y ⟨T,c⟩|_,_=>W
  |none=>W
 |.w q=>match O.get q with
  |.ow t=>Y ⟨X,t⟩|.xo n es=>Y ⟨X,.xl n es⟩|_=>W
 |.g q k n=>match O.get q with
  |.oag cs=>match Nat.beq cs.length n with
   |true=>cs[k]?|false=>W
  |_=>W
def Kr(O:AB):List GC->Option (List AS)
 |[]=>Y []|g::gs=>match g.cell O,Kr O gs with
  |some c,Y cs=>Y (c::cs)|_,_=>W
def GC.src:GC->Option (Nat×Option Nat)
 |.w q=>Y (q,W)|.g q k _=>Y (q,Y k)|_=>W
def GC.slot:GC->Option Nat
 |.w q=>Y q|.g q _ _=>Y q|_=>W
def GC.sl:GC->List Nat
 |.v (.s q) _ _=>[q]|.w q=>[q]|.g q _ _=>[q]|_=>[]
def EV.gave:EV->EV
 |.ow t=>.tv t|_=>.undef
def SQ(e0:AB):List Nat->AB->AB
 |[],O=>O|q::qs,O=>(q,(e0.get q).gave)::SQ e0 qs O
def CN:List TV->List TV->Option Bool
 |[],[]=>Y X|.int k a::cs,.int k' b::ds=>if k=k' then(match CN cs ds with|some r=>Y (decide (a=b)&&r)|none=>W)else W
 |.str a::cs,.str b::ds=>(match CN cs ds with|some r=>Y (decide (a=b)&&r)|none=>W)
 |.bool a::cs,.bool b::ds=>(match CN cs ds with|some r=>Y (decide (a=b)&&r)|none=>W)
 |_,_=>W
inductive BK where
 |i|s|b|w
 |a (ks:List Nat)
def TV.kd:TV->Nat
 |.int _ _=>0|.str _=>1|.bool _=>2|_=>3
def Gy(k:IntKind)(op:BinOp)(a b:Int):Option Int:=
 match op with
 |.and=>Y (k.wrap (BitVec.ofInt k.bits a &&& BitVec.ofInt k.bits b).toNat)|.or=>Y (k.wrap (BitVec.ofInt k.bits a|||BitVec.ofInt k.bits b).toNat)|.xor=>Y (k.wrap (BitVec.ofInt k.bits a^^^ BitVec.ofInt k.bits b).toNat)|.andNot=>Y (k.wrap (BitVec.ofInt k.bits a &&& ~~~ BitVec.ofInt k.bits b).toNat)|.shl=>if 0<=b then Y (k.wrap (a*2^ (min b.toNat k.bits)))else W|.shr=>if 0<=b/\k.min<=a.fdiv (2^ (min b.toNat k.bits))/\a.fdiv (2^ (min b.toNat k.bits))<=k.max then Y (a.fdiv (2^ (min b.toNat k.bits)))else W|_=>W
def NN:BK->BinOp->TV->TV->Option TV
 |.i,op,.int k a,.int k' b=>
  if k=k' then
   match intCmp op a b with
   |some r=>Y (.bool r)|none=>match intArith op a b with
    |some r=>Y (.int k (k.wrap r))|none=>if op=.rem/\b≠0 then Y (.int k (a.tmod b))else W
  else W
 |.w,op,.int k a,.int k' b=>if k=k'\/op=.shl\/op=.shr then(match Gy k op a b with|some r=>Y (.int k r)|none=>W)else W
 |.s,.eql,.str a,.str b=>Y (.bool (a==b))|.s,.neq,.str a,.str b=>Y (.bool (!(a==b)))|.s,.add,.str a,.str b=>if a.size+b.size<=AX then Y (.str (a++b))else W|.b,.eql,.bool a,.bool b=>Y (.bool (a==b))|.b,.neq,.bool a,.bool b=>Y (.bool (!(a==b)))|.a n,.eql,.agg cs,.agg ds=>if cs.map TV.kd=n then(match CN cs ds with|some b=>Y (.bool b)|none=>W)else W
 |.a n,.neq,.agg cs,.agg ds=>if cs.map TV.kd=n then(match CN cs ds with|some b=>Y (.bool !b)|none=>W)else W
 |_,_,_,_=>W
def IP(O:AB)(d:Int):Option AH->Option TV
 |none=>Y (.int .i64 d)|some o=>o.val O
def BT(O:AB):EV->Option (List TV)
 |.tv (.pt row)=>Y row|.bx cs=>Y (cs.map (·.t))|.bp s off=>match O.get s with
  |.bx cs=>Y ((cs.drop off).map (·.t))|_=>W
 |_=>W
def AH.place(O:AB):AH->Option (Nat×Nat)
 |.s n=>match O.get n with
  |.bp q off=>Y (q,off)|.bx _=>Y (n,0)|_=>W
 |.c _=>W
def Qf:List TV->Nat->List TV->List TV
 |cs,_,[]=>cs|cs,i,d::ds=>Qf (cs.set i d) (i+1) ds
def F1(cs:List TV):List (Nat×Nat×TV)->Option (List TV)
 |[]=>Y cs|(i,n,t)::r=>if t.cells.length=n/\i+n<=cs.length then F1 (Qf cs i t.cells) r else W
def Hw(O:AB):List (Nat×Nat×AH)->Option (List (Nat×Nat×TV))
 |[]=>Y []|(i,n,x)::r=>match x.val O,Hw O r with
  |some t,Y ts=>Y ((i,n,t)::ts)|_,_=>W
inductive AF where
 |mv (x:AH)
 |tk (s:Nat)
 |Abu (n:Nat)
 |fad (x:AH) (k:Nat)
 |bad (s k:Nat)
 |iad (x i:AH) (n:Nat)
 |aad (x i:AH) (n k:Nat)
 |ld (x:AH)
 |lda (x:AH) (n:Nat)
 |ldt (x:AH)
 |bin (k:BK) (op:BinOp) (x y:AH)
 |not (x:AH)
 |neg (x:AH)
 |pick (c a b:AH)
 |len (x:AH)
 |AbG (x:AH)
 |slc (n:Nat) (x:AH) (lo hi:Option AH)
 |Aai (x:AH) (lo hi:Option AH)
 |bld (zero:List TV) (parts:List (Nat×Nat×AH))
 |lst (n:Nat) (parts:List AH)
 |app (n:Nat) (x y:AH)
 |call (f:FuncId) (args:List AH)
 |Abc (x:AH) (args:List AH)
 |clo (f:FuncId) (caps:List AH)
 |ext (x:AH) (i:Nat)
 |cvt (k:IntKind) (x:AH)
 |Aav (x i:AH)
 |Abn (x:AH)
 |Aby (x:AH)
 |mm (max:Bool) (x y:AH)
 |alc (cs:List AS)
 |st (n:Nat) (x v:AH)
 |stb (n s:Nat) (v:AH)
 |frz (s:Nat)
 |Abs (x:AH) (k n:Nat) (agg:Bool)
 |xal (s:Nat)
 |Abt (x:AH)
 |xia (x i:AH) (n:Nat)
 |xfa (x:AH) (k:Nat)
 |xld (x:AH)
 |xst (x v:AH) (k:Nat)
 |rel (s:Nat)
 |Abh (n:Nat)
 |tkx (s:Nat)
 |Aa4 (n s:Nat) (y:AH)
 |AaE (f:FuncId) (args:List AH)
 |mkx (n:Nat) (zero:List TV) (x:AH)
 |AaB (f:FuncId) (x:AH) (ys:List AH)
 |AaY (f:FuncId) (x:AH)
 |Aaj (gs:List GC)
 |stx (n:Nat) (s q:Nat)
 |Aa2 (f:FuncId) (args:List AH)
 |Aaz (f:FuncId) (args:List AH)
 |isn (x:AH)
 |lac (x:AH)
 |ctk (x:AH)
 |cpt (x:AH) (q:Nat)
 |cut (n s:Nat) (hi:AH)
 |AaM (f:FuncId) (args:List AH)
 |Abi (ps:List (Option AS)) (x:AH)
 |Abd (n s:Nat) (z:TV) (x:AH)
 |Aas (f:FuncId) (args:List AH) (i:Nat)
 |Aa3 (f:FuncId) (args:List AH)
 |Abk (n:Nat)
 |ldb (s n:Nat)
 |Abm (q:Nat)
 |AaJ (m q:Nat)
 |lan (x:AH)
 |nia (x i:AH)
 |nld (x:AH)
 |nst (x v:AH)
 |Abw (q:Nat)
 |AaL (f:FuncId) (args:List AH) (i:Nat)
 |ldg (s n:Nat)
 |stq (n:Nat) (ps:List (Option AS)) (x v:AH)
 |mkm
 |mvm (s:Nat)
 |AaF (f:FuncId) (args:List AH)
 |mlk (s:Nat) (m x:AH)
 |mup (s:Nat) (m x v:AH)
 |tg (s:Nat) (m:AH)
 |mnx (s:Nat)
 |men (s:Nat)
 |fdv (x:AH) (k:Nat)
 |ldv (x:AH) (n:Nat)
structure PR where
 dst:Option Nat
 op:AF
 guard:Option (Nat×Bool)
inductive PC where
 |skip (live:List Nat)
 |ret
 |exit (id:Nat) (live:List Nat)
 |seq (a b:PC)
 |cond (c:AH) (a b:PC)
 |block (id:Nat) (c:PC)
 |loop (live:List Nat) (c:PC)
 |region (ops:List PR) (live:List Nat)
 |draw (D:List Nat) (ops:List PR) (live:List Nat)
 |rls (s:Nat) (c:PC)
 |bad
def Tg(O:AB):List Nat->Bool
 |[]=>X|d::ds=>O.gt d&&Tg O ds
inductive BA where
 |sh (t:TV)
 |own (t:TV)
 |tp (ts:List TV)
 |turn (zs:List Int) (us:List TV)
 |cut (zs:List Int)
 |Aa5 (n:Nat) (es:List TV)
 |oag (cs:List AS)
 |bo (cs cs':List AS) (i:Nat) (ts:List TV)
 |ext (ts:List TV)
 |ag (cs:List AS) (i:Nat) (r:BA)
 |mpr (kvs:Bj) (ts:List TV)
def BA.WF:BA->Prop
 |.sh t=>t.WF|.own t=>t.WF|.tp ts=>TV.pq ts|.turn zs us=>(TV.list 1 (zs.map (TV.int .i64))).WF/\TV.pq us|.cut zs=>(TV.list 1 (zs.map (TV.int .i64))).WF|.Aa5 n es=>(TV.list n es).WF|.oag cs=>∀c∈cs,c.t.WF|.bo _ cs' _ ts=>(∀c∈cs',c.t.WF)/\TV.pq ts|.ext ts=>TV.pq ts|.ag _ _ r=>r.WF|.mpr kvs ts=>Bj.WF kvs/\TV.pq ts
def BA.plain:BA->Bool
 |.turn ..=>T|.cut _=>T|.bo ..=>T|.ext _=>T|.ag ..=>T|.mpr ..=>T|_=>X
def BA.ev:BA->EV
 |.sh t=>.tv t|.own t=>.ow t|.tp ts=>.tp ts|.Aa5 n es=>.ow (.list n es)|.oag cs=>.tv (.agg (cs.map λc=>c.rel.t))|_=>.undef
def BA.aev:BA->EV
 |.oag cs=>.oag cs|r=>r.ev
mutual
def TV.flat:TV->Bool
 |.int _ _=>X|.bool _=>X|.str _=>X|.agg cs=>TV.zt cs|_=>T
def TV.zt:List TV->Bool
 |[]=>X|t::ts=>t.flat&&TV.zt ts
end
def AS.toX:AS->AS
 |⟨X,.list n es⟩=>⟨X,.xl n es⟩|c=>c
def AS.Xable(c:AS):Prop:=∃n es,c=⟨X,.list n es⟩/\TV.zt es=X
def EV.free:EV->Bool
 |.tv t=>t.flat|.undef=>X|.sk=>X|_=>T
def AH.x5(O:AB):AH->Option ((Nat×Option Nat)×Nat×List TV)
 |.s m=>match O.get m with
  |.xo n es=>Y ((m,W),n,es)|.la q i=>match O.so q i with
   |some p=>Y ((q,i),p)|none=>W
  |_=>W
 |.c _=>W
def AH.Abz(O:AB)(x:AH):Option TV:=
 match x.x5 O with
 |some p=>Y (.list p.2.1 p.2.2)|none=>match x.ev O with
  |.bx cs=>Y (.pt (cs.map AS.Abl))|.bp q off=>match O.get q with
   |.bx cs=>Y (.pt ((cs.drop off).map AS.Abl))|_=>W
  |e=>e.val
def Aau(O:AB):List AH->Option (List TV)
 |[]=>Y []|x::xs=>match x.Abz O,Aau O xs with
  |some t,Y ts=>Y (t::ts)|_,_=>W
def BA.Abq:BA->Bool
 |.sh t=>t.flat|.tp ts=>TV.zt ts|.own (.list _ es)=>TV.zt es|_=>T
def Jd(O:AB):Nat->List AH->Option (List TV)
 |_,[]=>Y []|0,_::xs=>match vals O xs with
  |some ts=>Y (.undef::ts)|none=>W
 |i+1,x::xs=>match x.val O,Jd O i xs with
  |some t,Y ts=>Y (t::ts)|_,_=>W
def EV.ofs:List TV->EV
 |[t]=>.tv t|ts=>.tp ts
def E2:List (Option AS)->List TV->Option (List AS)
 |[],[]=>Y []|none::ps,t::ts=>match E2 ps ts with
  |some cs=>Y (⟨T,t⟩::cs)|none=>W
 |some c::ps,.nil::ts=>match c,E2 ps ts with
  |⟨X,.list n []⟩,Y cs=>Y (⟨X,.list n []⟩::cs)|⟨X,.xl n []⟩,Y cs=>Y (⟨X,.xl n []⟩::cs)|⟨X,.xn []⟩,Y cs=>Y (⟨X,.xn []⟩::cs)|_,_=>W
 |_,_=>W
section
variable(S:FuncId->List TV->BA->Prop)
def A0{α:Type}(o:Option α)(K:α->Prop):Prop:=
 match o with
 |some a=>K a|none=>False
def IJ:List TV->Option TV
 |[]=>W|t::_=>Y t
def strip:AB->Nat->AB
 |O,s=>(s,.undef)::O
def AF.wp(O:AB)(dst:Option Nat)(K:EV->AB->Prop):AF->Prop
 |.mv x=>match x.ev O with
  |.tv t=>K (.tv t) O|.ow t=>K (.tv t) O|.tp ts=>K (.tp ts) O|_=>False
 |.tk s=>match O.get s with
  |.ow t=>K (.ow t) ((s,.tv t)::O)|.tv t=>K (.tv t) O|_=>False
 |.Abu n=>K (.ow (.list n [])) O|.fad x k=>match x.ev O with
  |.tv (.pt row)=>K (.tv (.pt (row.drop k))) O|.bp s off=>match O.get s with
   |.bx _=>K (.bp s (off+k)) O|_=>False
  |_=>False
 |.bad s k=>match O.get s with
  |.bx _=>K (.bp s k) O|.tv (.pt row)=>K (.tv (.pt (row.drop k))) O|_=>False
 |.iad x i n=>match x.val O,i.val O with
  |some (.list m es),Y (.int _ j)=>m=n/\0<=j/\∃e,es[j.toNat]?=Y e/\K (.tv (.pt e.cells)) O|_,_=>False
 |.aad x i n k=>match x.ev O,i.val O with
  |.tv (.pt row),Y (.int _ j)=>0<=j/\j<k/\k*n<=row.length/\K (.tv (.pt (row.drop (j.toNat*n)))) O|_,_=>False
 |.ld x=>A0 (BT O (x.ev O)) λcs=>A0 (IJ cs) λt=>t.AaI=T/\K (.tv t) O|.lda x n=>A0 (BT O (x.ev O)) λcs=>n<=cs.length/\K (.tv (.agg (cs.take n))) O|.ldb s n=>match O.get s with
  |.bx cs=>n<=(cs.map (·.t)).length/\K (.tv (.agg ((cs.map (·.t)).take n))) O|_=>False
 |.ldt x=>match x.place O with
  |some (s,off)=>match O.get s with
   |.bx cs=>match cs[off]? with
    |some ⟨X,.list n es⟩=>K (.ow (.list n es)) ((s,.bx (cs.set off ⟨T,.list n es⟩))::O)|_=>False
   |_=>False
  |none=>False
 |.bin k op x y=>match x.val O,y.val O with
  |some a,Y b=>A0 (NN k op a b) λt=>K (.tv t) O|_,_=>False
 |.not x=>match x.val O with
  |some (.bool b)=>K (.tv (.bool !b)) O|_=>False
 |.neg x=>match x.val O with
  |some (.int k n)=>K (.tv (.int k (k.wrap (-n)))) O|_=>False
 |.pick c a b=>match c.val O with
  |some (.bool q)=>match(if q then a else b).ev O with
   |.tv t=>K (.tv t) O|.ow t=>K (.tv t) O|_=>False
  |_=>False
 |.len x=>match x.val O with
  |some (.list _ es)=>K (.tv (.int .i64 es.length)) O|_=>False
 |.AbG x=>match x.val O with
  |some (.str s)=>K (.tv (.int .i64 s.size)) O|_=>False
 |.slc n x lo hi=>match x.val O with
  |some (.list m es)=>match IP O 0 lo,IP O es.length hi with
   |some (.int _ l),Y (.int _ h)=>(m=n/\0<=l/\l<=h)/\h<=es.length/\K (.tv (.list n ((es.take h.toNat).drop l.toNat))) O|_,_=>False
  |_=>False
 |.Aai x lo hi=>match x.val O with
  |some (.str s)=>match IP O 0 lo,IP O s.size hi with
   |some (.int _ l),Y (.int _ h)=>0<=l/\l<=h/\h<=s.size/\K (.tv (.str (s.extract l.toNat h.toNat))) O|_,_=>False
  |_=>False
 |.bld zero parts=>A0 (Hw O parts) λts=>A0 (F1 zero ts) λcs=>K (.tv (.agg cs)) O|.lst n parts=>A0 (vals O parts) λts=>(∀t∈ts,t.cells.length=n)/\K (.ow (.list n ts)) O|.app n x y=>match x.ev O,y.val O with
  |.ow (.list m es),Y (.list m' fs)=>m=n/\m'=n/\es.length+fs.length<=AX/\
    K (.ow (.list n (es++fs))) (match x with|.s s=>(s,.tv (.list n es))::O|_=>O)
  |_,_=>False
 |.call f args=>A0 (vals O args) λts=>∃r,(S f ts r/\r.plain=X)/\(r.WF->K r.ev O)|.Abc x args=>match x.val O,vals O args with
  |some (.clo f caps),Y ts=>∃r,(S f (ts++caps) r/\r.plain=X)/\(r.WF->K r.ev O)|_,_=>False
 |.clo f caps=>A0 (vals O caps) λts=>K (.tv (.clo f ts)) O|.ext x i=>match x.ev O with
  |.tp ts=>A0 ts[i]? λt=>K (.tv t) O|_=>False
 |.cvt k x=>match x.val O with
  |some (.int _ n)=>K (.tv (.int k (k.wrap n))) O|_=>False
 |.Aav x i=>match x.val O,i.val O with
  |some (.str s),Y (.int _ j)=>0<=j/\∃b,s[j.toNat]?=Y b/\K (.tv (.int .u8 b.toNat)) O|_,_=>False
 |.Abn x=>match x.val O with
  |some t=>K (.tv (.pt t.cells)) O|_=>False
 |.Aby x=>match x.val O,dst with
  |some t,Y d=>O.gt d=X/\K (.bx (t.cells.map (⟨T,·⟩))) O|_,_=>False
 |.mm mx x y=>match x.val O,y.val O with
  |some (.int k a),Y (.int k' b)=>k=k'/\K (.tv (.int k (if mx then max a b else min a b))) O|_,_=>False
 |.alc cs=>match dst with
  |some d=>O.gt d=X/\K (.bx cs) O|none=>False
 |.st n x v=>match x.place O with
  |some (s,off)=>match O.get s with
   |.bx cs=>match v.ev O with
    |.ow t=>match v with
     |.s q=>q≠s/\n=1/\off<cs.length/\K .undef ((s,.bx (cs.set off ⟨X,t⟩))::(q,.tv t)::O)|_=>False
    |.tv t=>t.cells.length=n/\off+n<=cs.length/\K .undef ((s,.bx (cs.take off++t.cells.map (⟨T,·⟩)++cs.drop (off+n)))::O)|_=>False
   |_=>False
  |none=>False
 |.stb n s v=>match O.get s with
  |.bx cs=>match v.ev O with
   |.ow t=>match v with
    |.s q=>q≠s/\n=1/\0<cs.length/\K .undef ((s,.bx (cs.set 0 ⟨X,t⟩))::(q,.tv t)::O)|_=>False
   |.tv t=>t.cells.length=n/\0+n<=cs.length/\K .undef ((s,.bx (cs.take 0++t.cells.map (⟨T,·⟩)++cs.drop (0+n)))::O)|_=>False
  |_=>False
 |.frz s=>match O.get s with
  |.bx cs=>K .undef ((s,.tv (.pt (cs.map (·.t))))::O)|_=>False
 |.Abs x k n agg=>match x.val O with
  |some (.agg cs)=>k+n<=cs.length/\(if agg then K (.tv (.agg ((cs.drop k).take n))) O else A0 (IJ (cs.drop k)) λt=>K (.tv t) O)|_=>False
 |.xal s=>match O.get s with
  |.xo _ _=>K (.la s W) O|_=>False
 |.Abt x=>A0 (x.x5 O) λp=>K (.tv (.int .i64 p.2.2.length)) O|.xia x i n=>A0 (x.x5 O) λp=>match i.val O with
  |some (.int _ j)=>((x.ev O).x6=Y p.1.1/\p.2.1=n)/\0<=j/\j<p.2.2.length/\K (.lp p.1.1 p.1.2 (j.toNat*n)) O|_=>False
 |.xfa x k=>match x.ev O with
  |.lp q i c=>match O.so q i with
   |some _=>K (.lp q i (c+k)) O|none=>False
  |_=>False
 |.xld x=>match x.ev O with
  |.lp q i c=>match O.so q i with
   |some p=>A0 (p.2.flatMap TV.cells)[c]? λt=>K (.tv t) O|none=>False
  |_=>False
 |.xst x v k=>match x.ev O with
  |.lp q i c=>match O.so q i,v.ev O with
   |some (n,es),.tv t=>(t.cells.length=k/\0<k)/\c+k<=es.length*n/\∃es',es'.flatMap TV.cells=(es.flatMap TV.cells).take c++t.cells++(es.flatMap TV.cells).drop (c+k)/\es'.length=es.length/\(∀e∈es',e.cells.length=n)/\K .undef (O.Aad q i n es')|_,_=>False
  |_=>False
 |.rel s=>match dst,O.get s with
  |some d,.xo n es=>d≠s/\K (.ow (.list n es)) ((s,.undef)::O)|_,_=>False
 |.Abh n=>match dst with
  |some d=>O.gt d=X/\K (.xo n []) O|none=>False
 |.tkx s=>match dst,O.get s with
  |some d,.xo n es=>O.gt d=X/\d≠s/\K (.xo n es) ((s,.undef)::O)|_,_=>False
 |.Aa4 n s y=>match dst,O.get s,y.val O with
  |some d,.xo m es,Y (.list m' fs)=>m=n/\m'=n/\es.length+fs.length<=AX/\O.gt d=X/\d≠s/\K (.xo n (es++fs)) ((s,.undef)::O)|_,_,_=>False
 |.AaE f args=>match dst with
  |some d=>O.gt d=X/\A0 (vals O args) λts=>∃n es,(S f ts (.Aa5 n es)\/(S f ts (.own (.list n es))/\TV.zt es=X))/\((TV.list n es).WF->K (.xo n es) O)|none=>False
 |.mkx n zero x=>match dst,x.val O with
  |some d,Y (.int _ j)=>O.gt d=X/\0<=j/\j<=4096/\K (.xo n (C' j.toNat (match zero with|[t]=>t|ts=>.agg ts))) O
  |_,_=>False
 |.Aaj gs=>match dst with
  |some d=>((gs.filterMap GC.src).Nodup/\d∉gs.filterMap GC.slot)/\A0 (Kr O gs) λcs=>K (.oag cs) (SQ O (gs.filterMap GC.slot) O)|none=>False
 |.stx n s q=>match O.get s,O.get q with
  |.bx cs,.oag ds=>q≠s/\(ds.length=n/\((ds.all λc=>!c.t.AaI)||O.noX s W)=X)/\0+n<=cs.length/\K .undef ((s,.bx (cs.take 0++ds++cs.drop (0+n)))::(q,.undef)::O)|_,_=>False
 |.Aa2 f args=>A0 (vals O args) λts=>∃cs,S f ts (.oag cs)/\((∀c∈cs,c.t.WF)->K (.oag cs) O)|.Aaz f args=>A0 (vals O args) λts=>∃cs,S f ts (.oag cs)/\(∀c∈cs,c.Xable)/\((∀c∈cs,c.t.WF)->K (.oag (cs.map AS.toX)) O)|.fdv x k=>match x.val O with
  |some (.pt row)=>K (.tv (.pt (row.drop k))) O|_=>False
 |.ldv x n=>match x.val O with
  |some (.pt row)=>n<=row.length/\K (.tv (.agg (row.take n))) O|_=>False
 |.isn x=>match x.val O with
  |some (.list _ es)=>∀b:Bool,(b=X->es=[])->K (.tv (.bool b)) O|some .nil=>K (.tv (.bool X)) O|_=>False
 |.AaB f x ys=>A0 (x.x5 O) λp=>p.2.1=1/\A0 (vals O ys) λts=>∃(zs zs':List Int)(us:List TV),p.2.2=zs.map (TV.int .i64)/\S f (.list 1 p.2.2::ts) (.turn zs' us)/\((BA.turn zs' us).WF->K (EV.ofs us) (O.Aad p.1.1 p.1.2 1 (zs'.map (TV.int .i64))))|.AaY f x=>match dst with
  |some d=>A0 (x.x5 O) λp=>(p.1.1≠d/\p.1.2=W)/\p.2.1=1/\O.gt d=X/\∃zs zs':List Int,p.2.2=zs.map (TV.int .i64)/\S f [.list 1 p.2.2] (.cut zs')/\((TV.list 1 (zs'.map (TV.int .i64))).WF->K (.xo 1 (zs'.map (TV.int .i64))) ((p.1.1,.undef)::O))|none=>False
 |.lac x=>match x.ev O with
  |.bp s off=>match O.so s (Y off)with
   |some _=>K (.la s (Y off)) O|none=>False
  |_=>False
 |.ctk x=>match dst,x.place O with
  |some d,Y (s,off)=>match O.get s with
   |.bx cs=>match cs[off]? with
    |some ⟨X,.xl n es⟩=>O.gt d=X/\K (.xo n es) ((s,.bx (cs.set off ⟨T,.undef⟩))::O)|some ⟨X,.xn es⟩=>O.gt d=X/\K (.xn es) ((s,.bx (cs.set off ⟨T,.undef⟩))::O)|_=>False
   |_=>False
  |_,_=>False
 |.cpt x q=>match x.place O,O.get q with
  |some (s,off),.xo n es=>match O.get s with
   |.bx cs=>O.noX s (Y off)=X/\off<cs.length/\K .undef ((s,.bx (cs.set off ⟨X,.xl n es⟩))::(q,.undef)::O)|_=>False
  |some (s,off),.xn es=>match O.get s with
   |.bx cs=>O.noX s (Y off)=X/\off<cs.length/\K .undef ((s,.bx (cs.set off ⟨X,.xn es⟩))::(q,.undef)::O)|_=>False
  |_,_=>False
 |.cut n s hi=>match dst,O.get s,hi.val O with
  |some d,.xo m es,Y (.int _ h)=>(m=n/\O.gt d=X/\d≠s)/\0<=h/\h<=es.length/\K (.xo n (es.take h.toNat)) ((s,.undef)::O)|_,_,_=>False
 |.Abd n s z x=>match dst,O.get s,x.val O with
  |some d,.xo m es,Y (.int _ j)=>((m=n/\n=1)/\z.cells=[z])/\(0<=j/\j<=4096)/\(es.length+j.toNat<=AX/\O.gt d=X/\d≠s)/\K (.xo n (es++C' j.toNat z)) ((s,.undef)::O)|_,_,_=>False
 |.AaM f args=>A0 (Aau O args) λts=>∃r,(S f ts r/\r.Abq=X)/\(r.WF->K r.ev O)|.Aa3 f args=>A0 (vals O args) λts=>∃us,S f ts (.ext us)/\K (.tp us) O|.Abi ps x=>match x.val O,dst with
  |some t,Y d=>A0 (E2 ps t.cells) λcs=>O.gt d=X/\K (.bx cs) O|_,_=>False
 |.Abk n=>match dst with
  |some d=>O.gt d=X/\K (.xo n []) O|none=>False
 |.Aas f args i=>match dst,(args[i]?).bind (·.place O)with
  |some d,Y (s,0)=>match O.get s with
   |.bx cs=>(O.noX s W=X/\d≠s)/\A0 (Jd O i args) λts=>∃cs' us,S f ts (.bo cs cs' i us)/\((∀c∈cs',c.t.WF)/\TV.pq us->K (EV.ofs us) ((s,.bx cs')::O))|_=>False
  |_,_=>False
 |.Abm q=>match dst,O.get q with
  |some d,.xo n fs=>(O.gt d=X/\d≠q)/\K (.x1 n fs) ((q,.undef)::O)|_,_=>False
 |.AaJ m q=>match dst,O.get m,O.get q with
  |some d,.nh s off .hd,.x1 n fs=>match O.get s with
   |.bx cs=>A0 (O.nat s off) λes=>es.length+1<=AX/\(O.gt d=X/\d≠m/\d≠q/\m≠q)/\K (.xn (es++[.list n fs])) ((s,.bx (cs.set off ⟨T,.undef⟩))::(m,.undef)::(q,.undef)::O)|_=>False
  |_,_,_=>False
 |.lan x=>match x.ev O with
  |.bp s off=>A0 (O.nat s off) λ_=>K (.nh s off .hd) O|_=>False
 |.nia x i=>match x.ev O,i.val O with
  |.nh s off .hd,Y (.int _ j)=>A0 (O.nat s off) λes=>0<=j/\j<es.length/\K (.nh s off (.el j.toNat)) O|.nh s off (.rw r),Y (.int _ j)=>A0 (O.nat s off) λes=>0<=j/\∃fs,es[r]?=Y (.list 1 fs)/\j<fs.length/\K (.nh s off (.rp r j.toNat)) O|_,_=>False
 |.nld x=>match x.ev O with
  |.nh s off (.el r)=>A0 (O.nat s off) λes=>r<es.length/\K (.nh s off (.rw r)) O|_=>False
 |.nst x v=>match x.ev O,v.ev O with
  |.nh s off (.rp r c),.tv t=>A0 (O.nat s off) λes=>∃fs,es[r]?=Y (.list 1 fs)/\c<fs.length/\t.cells=[t]/\t.flat=X/\K .undef (O.AbL s off (es.set r (.list 1 (fs.set c t))))|_,_=>False
 |.Abw q=>match dst,O.get q with
  |some d,.oag cs=>(O.gt d=X/\d≠q)/\K (.bx cs) ((q,.undef)::O)|_,_=>False
 |.AaL f args i=>match dst,args[i]? with
  |some d,Y (.s q)=>match O.get q with
   |.oag cs=>d≠q/\A0 (Jd O i args) λts=>∃r,S f (ts.set i (.agg (cs.map λ_=>.undef))) (.ag cs i r)/\(r.WF->K r.aev ((q,.undef)::O))|_=>False
  |_,_=>False
 |.ldg s n=>match dst,O.get s with
  |some d,.bx cs=>cs.length=n/\d≠s/\K (.oag cs) ((s,.bx (cs.map λ_=>⟨T,.undef⟩))::O)|_,_=>False
 |.stq n ps x v=>match x.place O,v.val O with
  |some (s,off),Y t=>match O.get s with
   |.bx cs=>A0 (E2 ps t.cells) λds=>t.cells.length=n/\off+n<=cs.length/\O.noX s W=X/\K .undef ((s,.bx (cs.take off++ds++cs.drop (off+n)))::O)|_=>False
  |_,_=>False
 |.mkm=>∀b,K (.mx (.mp b [])) O|.mvm s=>match O.get s with
  |.mx (.mp b _)=>K (.tv (.AaQ b)) O|.mx (.tm b _ ts)=>K (.tp (.AaQ b::ts)) O|.tp ts=>K (.tp ts) O|_=>False
 |.AaF f args=>A0 (vals O args) λts=>(∃us,S f ts (.tp us)/\(TV.pq us->K (.tp us) O))\/∃kvs us,S f ts (.mpr kvs us)/\(Bj.WF kvs/\TV.pq us->∀b,K (.mx (.tm b kvs us)) O)|.mlk s m x=>match O.get s,m.val O,x.val O with
  |.mx (.mp b kvs),Y (.AaQ b'),Y t=>b=b'/\A0 t.AbM? λk=>K (.tp [.int .i64 ((kvs.look k).getD 0),.bool (kvs.look k).isSome]) O|_,_,_=>False
 |.mup s m x v=>match O.get s,m.val O,x.val O with
  |.mx (.mp b kvs),Y (.AaQ b'),Y t=>match v.val O with
   |some (.int .i64 n)=>b=b'/\A0 t.AbM? λk=>K .undef ((s,.mx (.mp b (kvs.set k n)))::O)|_=>False
  |_,_,_=>False
 |.tg s m=>match dst,O.get s,m.val O with
  |some d,.mx (.tm b kvs _),Y (.AaQ b')=>(d≠s/\b=b')/\K (.mx (.mi W kvs)) ((s,.undef)::O)|_,_,_=>False
 |.mnx s=>match dst,O.get s with
  |some d,.mx (.mi _ todo)=>d≠s/\(todo=[]->K (.tp [.bool T]) O)/\∀p todo',todo.Perm (p::todo')->K (.tp [.bool X,TX p.1,.int .i64 p.2]) ((s,.mx (.mi (Y p) todo'))::O)|_,_=>False
 |.men s=>match O.get s with
  |.mx (.mi (Y p) _)=>K (.tp [TX p.1,.int .i64 p.2]) O|_=>False
def AB.put(O:AB)(dst:Option Nat)(e:EV):AB:=
 match dst with
 |some d=>(d,e)::O|none=>O
def PR.wp(O:AB)(K:AB->Prop)(o:PR):Prop:=
 match o.guard with
 |none=>o.op.wp S O o.dst λe env'=>K (env'.put o.dst e)|some (g,b)=>match O.get g with
  |.tv (.bool q)=>(q=b->o.op.wp S O o.dst λe env'=>K (env'.put o.dst e))/\(q=!b->K (O.put o.dst .sk))|.sk=>K (O.put o.dst .sk)|_=>False
def wpOps(K:AB->Prop):List PR->AB->Prop
 |[],O=>K O|o::os,O=>o.wp S O λenv'=>wpOps K os env'
structure Q where
 normal:AB->Prop
 exit:Nat->AB->Prop
 ret:AB->Prop
def PC.wp:PC->Q->AB->Prop
 |.skip live,q,O=>q.normal (O.fd live)|.ret,q,O=>q.ret O|.exit id live,q,O=>q.exit id (O.fd live)|.seq a b,q,O=>a.wp {q with normal:=λe=>(∀s,(e.get s).WF)->b.wp q e} O
 |.cond c a b,q,O=>match c.val O with
  |some (.bool x)=>(x=X->a.wp q O)/\(x=T->b.wp q O)|_=>False
 |.block id c,q,O=>c.wp {q with exit:=λi e=>if i=id then q.normal e else q.exit i e} O
 |.loop live c,q,O=>∀ζ:AB->Prop,(∀e,((∀s,(e.get s).WF)->c.wp {q with normal:=λe'=>ζ (e'.fd live)} e)->ζ e)->ζ (O.fd live)
 |.region ops live,q,O=>wpOps S (λe=>q.normal (e.fd live)) ops O|.draw D ops live,q,O=>Tg O D=X/\wpOps S (λe=>q.normal (e.fd live)) ops O|.bad,_,_=>False|.rls s c,q,O=>match O.get s with
  |.bx cs=>c.wp q ((s,.bx (cs.map AS.rel))::O)|_=>False
end
inductive RV where
 |tmp (s:Nat)
 |cell (s:Nat) (agg:Option Nat)
def RV.get(O:AB):RV->Option TV
 |.tmp s=>(O.get s).val|.cell s W=>match BT O (O.get s)with
  |some (t::_)=>Y t|_=>W
 |.cell s (Y n)=>match BT O (O.get s)with
  |some cs=>if cs.length=n then Y (.agg cs)else W|none=>W
def Ey(O:AB):List RV->Option (List TV)
 |[]=>Y []|x::xs=>match x.get O,Ey O xs with
  |some t,Y ts=>Y (t::ts)|_,_=>W
def Bf(rs:List RV)(r:BA)(O:AB):Prop:=
 match r,rs with
 |.own t,[.tmp s]=>O.get s=.ow t|.own _,_=>False|.sh t,[x]=>x.get O=Y t|.sh _,_=>False|.tp ts,rs=>rs.length≠1/\Ey O rs=Y ts|.turn zs us,rs=>O.get 0=.xo 1 (zs.map (TV.int .i64))/\Ey O rs=Y us|.cut _,_=>False|.Aa5 n es,[.tmp s]=>O.get s=.xo n es|.Aa5 _ _,_=>False|.oag cs,[.cell s (Y n)]=>O.get s=.bx cs/\cs.length=n|.oag _,_=>False|.bo _ cs' i ts,rs=>O.get i=.bx cs'/\Ey O rs=Y ts|.ext _,_=>False|.ag _ _ r,rs=>Bf rs r O|.mpr kvs ts,.tmp s::rs=>rs≠[]/\(∃b o,O.get s=.tv (.AaQ b)/\O.get o=.mx (.mp b kvs))/\Ey O rs=Y ts|.mpr _ _,_=>False
end Go.Sf
namespace Go.Sf
def Bw(w w':World)(F F':Nat->Nat->Prop):Prop:=
 ∀b o v,w.cell? ⟨b,o,W⟩=Y v->¬F b o->w'.cell? ⟨b,o,W⟩=Y v/\¬F' b o
section
variable{w w':World}{F F':Nat->Nat->Prop}
mutual
theorem CY(h:Bw w w' F F'):∀(t:TV)(v:Value),A3 w F t v->A3 w' F' t v
 |.undef,_,hr=>hr|.int _ _,_,hr=>hr|.bool _,_,hr=>hr|.str _,_,hr=>hr|.nil,_,hr=>hr|.list n es,v,hr=>by
  have:=Ur h n es
  grind [A3]
 |.agg cs,v,hr=>by
  have:=A6 h cs
  grind [A3]
 |.pt row,v,hr=>by
  have:=Qq h row
  grind [A3]
 |.clo f g,v,hr=>by
  have:=A6 h g
  grind [A3]
 |.xl _ _,_,hr=>hr|.xn _,_,hr=>hr|.AaQ _,_,hr=>hr
theorem A6(h:Bw w w' F F'):∀(ts:List TV)(vs:List Value),AR w F ts vs->AR w' F' ts vs
 |[],_,hr=>hr|t::ts,vs,hr=>by
  simp [AR]at hr|-;obtain⟨v,r,g,l,m⟩:=hr;exact⟨v,r,g,CY h t v l,A6 h ts r m⟩
theorem Qq(h:Bw w w' F F'):∀(ts:List TV)(b o:Nat),Dn w F ts b o->Dn w' F' ts b o
 |[],_,_,_=>trivial|t::ts,b,o,hr=>by
  simp [Dn]at hr|-;obtain⟨⟨v,g,l,m,u⟩,A⟩:=hr;exact⟨⟨v,(h b o v g l).1,(h b o v g l).2,m,CY h t v u⟩,Qq h ts b (o+1) A⟩
theorem Ur(h:Bw w w' F F')(n:Nat):∀(ts:List TV)(b o:Nat),JX w F n ts b o->JX w' F' n ts b o
 |[],_,_,_=>trivial|t::ts,b,o,hr=>by
  simp [JX]at hr|-;exact⟨mC h t b o hr.1,hr.2.1,Ur h n ts b (o+n) hr.2.2⟩
theorem mC(h:Bw w w' F F'):∀(t:TV)(b o:Nat),JW w F t b o->JW w' F' t b o
 |.agg cs,b,o,hr=>Qq h cs b o hr|.undef,b,o,hr=>by
  simp [JW]at hr|-;obtain⟨v,g,l,m⟩:=hr;exact⟨v,(h b o v g l).1,(h b o v g l).2,m⟩
 |.int _ _,b,o,hr=>by
  simp [JW]at hr|-;obtain⟨v,g,l,m⟩:=hr;exact⟨v,(h b o v g l).1,(h b o v g l).2,m⟩
 |.bool _,b,o,hr=>by
  simp [JW]at hr|-;obtain⟨v,g,l,m⟩:=hr;exact⟨v,(h b o v g l).1,(h b o v g l).2,m⟩
 |.str _,b,o,hr=>by
  simp [JW]at hr|-;obtain⟨v,g,l,m⟩:=hr;exact⟨v,(h b o v g l).1,(h b o v g l).2,m⟩
 |.nil,b,o,hr=>by
  simp [JW]at hr|-;obtain⟨v,g,l,m⟩:=hr;exact⟨v,(h b o v g l).1,(h b o v g l).2,m⟩
 |.list n es,b,o,hr=>by
  simp [JW]at hr|-;obtain⟨v,g,l,A,a,cap,m,H,B,E⟩:=hr;exact⟨v,(h b o v g l).1,(h b o v g l).2,A,a,cap,m,H,B,λD u=>⟨(E D u).1,Ur h n es _ _ (E D u).2⟩⟩
 |.pt row,b,o,hr=>by
  simp [JW]at hr|-;obtain⟨v,g,l,A,I,J,m,B⟩:=hr;exact⟨v,(h b o v g l).1,(h b o v g l).2,A,I,J,m,Qq h row _ _ B⟩
 |.clo f C,b,o,hr=>by
  simp [JW]at hr|-;obtain⟨v,g,l,A,vs,m,B⟩:=hr;exact⟨v,(h b o v g l).1,(h b o v g l).2,A,vs,m,A6 h C _ B⟩
 |.xl _ _,b,o,hr=>by
  simp [JW]at hr|-;obtain⟨v,g,l,m⟩:=hr;exact⟨v,(h b o v g l).1,(h b o v g l).2,m⟩
 |.xn _,b,o,hr=>by
  simp [JW]at hr|-;obtain⟨v,g,l,m⟩:=hr;exact⟨v,(h b o v g l).1,(h b o v g l).2,m⟩
 |.AaQ _,b,o,hr=>by
  simp [JW]at hr|-;obtain⟨v,g,l,m⟩:=hr;exact⟨v,(h b o v g l).1,(h b o v g l).2,m⟩
end
end
section
variable{w:World}{F:Nat->Nat->Prop}
theorem Jy:∀(ts:List TV)(b o:Nat),Dn w F ts b o↔∀i t,ts[i]?=Y t->∃v,w.cell? ⟨b,o+i,W⟩=Y v/\¬F b (o+i)/\v.oneCell'=X/\A3 w F t v
 |[],_,_=>by simp[Dn]|t::ts,b,o=>by
  simp [Dn,Jy ts b (o+1)];constructor
  .grind
  .intro h;refine⟨by simpa using h 0 t rfl,λi u hi=>?_⟩;have:=h (i+1) u n?
   grind
variable{ts:List TV}
def Qp{b o:Nat}(h:Dn w F ts b o)(k:Nat):Dn w F (ts.drop k) b (o+k):=by
 rw [Jy]at h|-
 grind
def iY{b o:Nat}(h:Dn w F ts b o)(k:Nat):Dn w F (ts.take k) b o:=by
 rw [Jy]at h|-
 grind
variable{n:Nat}
theorem Rr{e:TV}{es:List TV}{b o:Nat}:JX w F n (e::es) b o↔Dn w F e.cells b o/\e.cells.length=n/\JX w F n es b (o+n):=by grind[JX,mB]
def TF(n:Nat):∀(es:List TV)(b o:Nat),JX w F n es b o↔∀i e,es[i]?=Y e->Dn w F e.cells b (o+i*n)/\e.cells.length=n
 |[],_,_=>by simp[JX]|e::es,b,o=>by
  rw [Rr,TF n es b (o+n)];constructor
  .rintro⟨l,m,A⟩ i u hi;cases i with
   |zero=>simp at hi;subst hi;simpa using⟨l,m⟩|succ i=>
    grind
  .intro h;have g:=h 0 e rfl;simp at g;refine⟨g.1,g.2,λi u hi=>?_⟩;have:=h (i+1) u n?
   grind
theorem Bt:∀(ts:List TV)(vs:List Value),AR w F ts vs↔vs.length=ts.length/\∀(i:Nat)(t:TV)(v:Value),ts[i]?=Y t->vs[i]?=Y v->A3 w F t v
 |[],vs=>by simp[AR]|t::ts,vs=>by
  simp [AR];constructor
  .rintro⟨v,r,rfl,h,g⟩;rw[Bt ts r]at g
   grind
  .rintro⟨h,g⟩;cases vs with
   |nil=>simp at h|cons v r=>exact⟨v,r,rfl,g 0 t v rfl rfl,(Bt ts r).2 ⟨b?,λi u x hi l=>g (i+1) u x n? (by simpa using l)⟩⟩
theorem JS{ts g:List TV}{vs xs:List Value}(h:AR w F ts vs)(l:AR w F g xs):AR w F (ts++g) (vs++xs):=by
 induction ts generalizing vs with
 |nil=>simp[AR]at h;subst h;simpa using l|cons t ts m=>
  grind [AR]
variable{v:Value}
def Hi{t:TV}(h:A3 w F t v):AR w F t.cells v.cells.toList/\∀x∈v.cells.toList,x.oneCell'=X:=by
 have one:∀{v:Value}{t:TV},v.cells=#[v]->v.oneCell'=X->A3 w F t v->t.cells=[t]->AR w F t.cells v.cells.toList/\∀x∈v.cells.toList,x.oneCell'=X:=by
  intro v t B l m C;rw[B,C];exact⟨⟨v,[],rfl,m,rfl⟩,by simpa using l⟩
 cases t with
 |agg cs=>simp only[A3]at h;obtain⟨vs,rfl,l,m⟩:=h;exact⟨l,λx A=>C!.1 m x A⟩
 |undef=>have g:=h;simp[A3]at h;cases v<;>first|exact one rfl rfl g rfl|(simp[Value.oneCell']at h)
 |xl n es=>have g:=h;simp[A3]at h;cases v<;>first|exact one rfl rfl g rfl|(simp[Value.oneCell']at h)
 |xn es=>have g:=h;simp[A3]at h;cases v<;>first|exact one rfl rfl g rfl|(simp[Value.oneCell']at h)
 |int k n=>have g:=h;simp[A3]at h;subst h;exact one rfl rfl g rfl|bool b=>have g:=h;simp[A3]at h;subst h;exact one rfl rfl g rfl|AaQ b=>have g:=h;simp[A3]at h;subst h;exact one rfl rfl g rfl|str s=>have g:=h;simp[A3]at h;subst h;exact one rfl rfl g rfl|nil=>have g:=h;simp[A3]at h;subst h;exact one rfl rfl g rfl|list n es=>have g:=h;simp[A3]at h;obtain⟨a,cap,rfl,_⟩:=h;exact one rfl rfl g rfl
 |pt row=>have g:=h;simp[A3]at h;obtain⟨b,o,rfl,_⟩:=h;exact one rfl rfl g rfl
 |clo f u=>have g:=h;simp[A3]at h;obtain⟨vs,rfl,_⟩:=h;exact one rfl rfl g rfl
end
end Go.Sf
namespace Go.Sf
section
variable(S:FuncId->List TV->BA->Prop)
def wp_skip(l:List Nat)(q:Q)(O:AB):PC.wp S (.skip l) q O=q.normal (O.fd l):=rfl
def wp_ret(q:Q)(O:AB):PC.wp S .ret q O=q.ret O:=rfl
def wp_exit(id:Nat)(l:List Nat)(q:Q)(O:AB):PC.wp S (.exit id l) q O=q.exit id (O.fd l):=rfl
def wp_seq(a b:PC)(q:Q)(O:AB):PC.wp S (.seq a b) q O=a.wp S {q with normal:=λe=>(∀s,(e.get s).WF)->b.wp S q e} O:=rfl
def wp_block(id:Nat)(c:PC)(q:Q)(O:AB):PC.wp S (.block id c) q O=c.wp S {q with exit:=λi e=>if i=id then q.normal e else q.exit i e} O:=rfl
def wp_region(ops:List PR)(live:List Nat)(q:Q)(O:AB):PC.wp S (.region ops live) q O=wpOps S (λe=>q.normal (e.fd live)) ops O:=rfl
def Bp{α:Type}{o:Option α}{K g:α->Prop}(h:∀a,K a->g a):A0 o K->A0 o g:=by
 cases o<;>simp[A0];exact h _
theorem AF.ls(O:AB)(dst:Option Nat){K N:EV->AB->Prop}(h:∀e env',K e env'->N e env')(op:AF)(g:op.wp S O dst K):op.wp S O dst N:=by
 cases op<;>simp only[AF.wp]at g|-
 case ld=>exact Bp (λ_=>Bp (λ_ m=>⟨m.1,h _ _ m.2⟩)) g
 case lda=>exact Bp (λ_ m=>⟨m.1,h _ _ m.2⟩) g
 case bld=>exact Bp (λ_=>Bp (λ_=>h _ _)) g
 case lst=>exact Bp (λ_ m=>⟨m.1,h _ _ m.2⟩) g
 case call=>exact Bp (λ_⟨r,u,l⟩=>⟨r,u,λA=>h _ _ (l A)⟩) g
 case clo=>exact Bp (λ_=>h _ _) g
 case mm=>split at g<;>first|exact g.elim|exact⟨g.1,h _ _ g.2⟩
 case Abs x k n agg=>
  split at g
  .refine⟨g.1,?_⟩;have l:=g.2;cases agg
   .exact Bp (λ_=>h _ _) l
   .exact h _ _ l
  .exact g.elim
 case Abt=>exact Bp (λ_=>h _ _) g
 case xia=>exact Bp (λp H=>by
  split at H
  .exact⟨H.1,H.2.1,H.2.2.1,h _ _ H.2.2.2⟩
  .exact H.elim) g
 case xst=>
  split at g
  .split at g
   .obtain⟨u,l,es',B,D,I,ε⟩:=g;exact⟨u,l,es',B,D,I,h _ _ ε⟩
   .exact g.elim
  .exact g.elim
 case Abk=>split at g<;>first|exact g.elim|exact⟨g.1,h _ _ g.2⟩
 case Abh=>split at g<;>first|exact g.elim|exact⟨g.1,h _ _ g.2⟩
 case tkx=>split at g<;>first|exact g.elim|exact⟨g.1,g.2.1,h _ _ g.2.2⟩
 case Aa4=>split at g<;>first|exact g.elim|exact⟨g.1,g.2.1,g.2.2.1,g.2.2.2.1,g.2.2.2.2.1,h _ _ g.2.2.2.2.2⟩
 case AaE=>
  split at g
  .exact⟨g.1,Bp (λts⟨n,es,u,l⟩=>⟨n,es,u,λA=>h _ _ (l A)⟩) g.2⟩
  .exact g.elim
 case Aaj=>
  split at g
  .exact⟨g.1,Bp (λ_=>h _ _) g.2⟩
  .exact g.elim
 case stx=>split at g<;>first|exact g.elim|exact⟨g.1,g.2.1,g.2.2.1,h _ _ g.2.2.2⟩
 case Aa2=>exact Bp (λts⟨cs,u,l⟩=>⟨cs,u,λA=>h _ _ (l A)⟩) g
 case Aaz=>exact Bp (λts⟨cs,u,B,l⟩=>⟨cs,u,B,λA=>h _ _ (l A)⟩) g
 case AaM=>exact Bp (λ_⟨r,u,l⟩=>⟨r,u,λA=>h _ _ (l A)⟩) g
 case Abi=>
  split at g
  .exact Bp (λ_ m=>⟨m.1,h _ _ m.2⟩) g
  .exact g.elim
 case Aa3=>exact Bp (λts⟨C,u,l⟩=>⟨C,u,h _ _ l⟩) g
 case Abd=>
  split at g
  .exact⟨g.1,g.2.1,g.2.2.1,h _ _ g.2.2.2⟩
  .exact g.elim
 case Aas=>
  split at g
  .split at g
   .exact⟨g.1,Bp (λts⟨cs',C,u,l⟩=>⟨cs',C,u,λA=>h _ _ (l A)⟩) g.2⟩
   .exact g.elim
  .exact g.elim
 case lan=>
  split at g
  .exact Bp (λ_ m=>h _ _ m) g
  .exact g.elim
 case AaJ=>
  split at g
  .split at g
   .exact Bp (λ_ m=>⟨m.1,m.2.1,h _ _ m.2.2⟩) g
   .exact g.elim
  .exact g.elim
 case nia=>
  split at g
  .exact Bp (λ_ m=>⟨m.1,m.2.1,h _ _ m.2.2⟩) g
  .exact Bp (λ_⟨u,J,l,B,D⟩=>⟨u,J,l,B,h _ _ D⟩) g
  .exact g.elim
 case nld=>
  split at g
  .exact Bp (λ_ m=>⟨m.1,h _ _ m.2⟩) g
  .exact g.elim
 case nst=>
  split at g
  .exact Bp (λ_⟨J,u,l,B,D,I⟩=>⟨J,u,l,B,D,h _ _ I⟩) g
  .exact g.elim
 case AaL=>
  split at g
  .split at g
   .exact⟨g.1,Bp (λ_⟨r,u,l⟩=>⟨r,u,λA=>h _ _ (l A)⟩) g.2⟩
   .exact g.elim
  .exact g.elim
 case mnx=>
  split at g
  .exact⟨g.1,λe=>h _ _ (g.2.1 e),λp t R=>h _ _ (g.2.2 p t R)⟩
  .exact g.elim
 case men=>split at g<;>first|exact g.elim|exact h _ _ g
 case stq=>
  split at g
  .split at g
   .exact Bp (λ_ m=>⟨m.1,m.2.1,m.2.2.1,h _ _ m.2.2.2⟩) g
   .exact g.elim
  .exact g.elim
 case mkm=>exact λb=>h _ _ (g b)
 case mvm=>split at g<;>first|exact g.elim|exact h _ _ g
 case AaF=>
  refine Bp (λ_ m=>?_) g;rcases m with⟨C,u,l⟩|⟨M,C,u,l⟩
  .exact .inl ⟨C,u,λA=>h _ _ (l A)⟩
  .exact .inr ⟨M,C,u,λA b=>h _ _ (l A b)⟩
 case tg=>split at g<;>first|exact g.elim|exact⟨g.1,h _ _ g.2⟩
 case mlk=>split at g<;>first|exact g.elim|exact⟨g.1,Bp (λ_ m=>h _ _ m) g.2⟩
 case mup=>
  split at g
  .split at g
   .exact⟨g.1,Bp (λ_ m=>h _ _ m) g.2⟩
   .exact g.elim
  .exact g.elim
 case fdv=>split at g<;>first|exact g.elim|exact h _ _ g
 case ldv=>split at g<;>first|exact g.elim|exact⟨g.1,h _ _ g.2⟩
 case isn=>
  split at g
  .exact λb hb=>h _ _ (g b hb)
  .exact h _ _ g
  .exact g.elim
 case AaB=>exact Bp (λp⟨u,l⟩=>⟨u,Bp (λts⟨zs,E,C,a,b,c⟩=>⟨zs,E,C,a,b,λA=>h _ _ (c A)⟩) l⟩) g
 case AaY=>
  split at g
  .exact Bp (λp⟨L,u,I,zs,E,l,B,D⟩=>⟨L,u,I,zs,E,l,B,λA=>h _ _ (D A)⟩) g
  .exact g.elim
 all_goals (repeat' split at g)<;>first|exact g.elim|exact h _ _ g|exact⟨g.1,h _ _ g.2⟩|exact⟨g.1,g.2.1,h _ _ g.2.2⟩|exact⟨g.1,g.2.1,g.2.2.1,h _ _ g.2.2.2⟩|exact Bp (λ_=>h _ _) g|(obtain⟨r,u,l⟩:=g;exact⟨r,u,λA=>h _ _ (l A)⟩)|(obtain⟨u,r,l,B⟩:=g;exact⟨u,r,l,h _ _ B⟩)|(obtain⟨L,u,r,l,B⟩:=g;exact⟨L,u,r,l,h _ _ B⟩)
def PR.ls(O:AB){K g:AB->Prop}(h:∀e,K e->g e)(o:PR)(l:o.wp S O K):o.wp S O g:=by
 unfold PR.wp at l|-;split at l
 .grind[AF.ls]
 grind [AF.ls]
theorem R0{K l:AB->Prop}(h:∀e,K e->l e):∀(os:List PR)(O:AB),wpOps S K os O->wpOps S l os O
 |[],_,g=>h _ g|o::os,O,g=>PR.ls S O (λe=>R0 h os e) o g
def PC.ls:∀(c:PC)(q:Q)(O:AB),c.wp S q O->∀(l:Q),(∀e,q.normal e->l.normal e)->(∀i e,q.exit i e->l.exit i e)->(∀e,q.ret e->l.ret e)->c.wp S l O
 |.skip _,_,_,g,_,h,_,_=>h _ g|.ret,_,_,g,_,_,_,h=>h _ g|.exit _ _,_,_,g,_,_,h,_=>h _ _ g|.seq a b,q,O,g,l,m,u,A=>by
  simp [PC.wp]at g|-;exact PC.ls a _ O g _ (λe he B=>PC.ls b q e (he B) l m u A) u A
 |.cond c a b,q,O,g,l,m,u,A=>by
  simp [PC.wp]at g|-;split at g
  .exact⟨λC=>PC.ls a q O (g.1 C) l m u A,λC=>PC.ls b q O (g.2 C) l m u A⟩
  .exact g.elim
 |.block id c,q,O,g,l,m,u,A=>by
  simp [PC.wp]at g|-;exact PC.ls c _ O g _ m (λi e=>by dsimp only;split<;>first|exact m e|exact u i e) A
 |.loop live c,q,O,g,l,m,u,A=>by
  simp [PC.wp]at g|-;exact λζ hX=>g ζ λe he=>hX e λB=>PC.ls c _ e (he B) _ (λ_ h=>h) u A
 |.region ops live,q,O,g,l,m,_,_=>by
  grind [PC.wp,R0]
 |.draw _ ops live,q,O,g,l,m,_,_=>by
  grind [PC.wp,R0]
 |.bad,_,_,g,_,_,_,_=>by
  simp [PC.wp]at g
 |.rls s c,q,O,g,l,m,u,A=>by
  simp [PC.wp]at g|-;split at g
  .exact PC.ls c q _ g l m u A
  .exact g.elim
variable{live:List Nat}
def wW{σ:Type}{c:PC}{q:Q}{O:AB}(I:σ->AB)(ok:σ->Prop)(μ:σ->Nat)(g:σ)(u:O.fd live=I g)(l:ok g)
  (step:∀s,ok s->(∀k,((I s).get k).WF)->c.wp S {q with normal:=λm=>∃s',m.fd live=I s'/\ok s'/\μ s'<μ s} (I s)):PC.wp S (.loop live c) q O:=by
 intro ζ hX;rw[u];have key:∀n s,μ s=n->ok s->ζ (I s):=by
  intro n
  induction n using Nat.strongRecOn with
  |_ n C=>
   intro s B ho;refine hX _ λA=>?_;refine PC.ls S c _ _ (step s ho A) _ (λm he=>?_) (λ_ _ h=>h) (λ_ h=>h)
   grind
 exact key _ g rfl l
end
end Go.Sf
namespace Go.Sf
def gq:Nat:=0
def VL(_:World):Prop:=True
def VL.fd{w w':World}(_:VL w)(_:∀b,b<gq->w'.heap[b]?=w.heap[b]?):VL w':=trivial
theorem VL.lt{w:World}(_:VL w):gq<=w.heap.size:=x? _
end Go.Sf
namespace Go.Sf
open Go.RowKit (Below)
def Gv(w:World)(size:Nat)(v:Value)(n:Nat)(xs:List Value)(z:Option (Nat×Nat)):Prop:=
 xs.length=n*size/\
 ((v=.slice W 0 0/\n=0/\z=W)\/
 ∃g cap cur e,v=.slice (Y ⟨g,0,W⟩) n cap/\w.heap[g]?=Y (.cells cur e (0,0))/\n<=cap/\cap<=maxLen/\cur.size=cap*size/\cur.toList.take (n*size)=xs/\z=Y (g,n*size))
def LK(w:World)(size:Nat)(v:Value)(n:Nat)(xs:List Value)(z:Option (Nat×Nat)):Prop:=
 ∃z0,Gv w size v n xs z0/\z=z0.map λp=>(p.1,0)
def CI(w:World)(F:Nat->Nat->Prop)(z:Option (Nat×Nat)):TV->Value->Prop
 |.list n es,v=>∃xs,Gv w n v es.length xs z/\AR w F (es.flatMap TV.cells) xs/\(∀e∈es,e.cells.length=n)/\∀x∈xs,x.oneCell'=X|_,_=>False
abbrev JJ:=Nat->Nat->Option (Nat×Nat)
def SD(w:World)(F:Nat->Nat->Prop)(z:Option (Nat×Nat))(n:Nat)(es:List TV)(v:Value):Prop:=
 ∃xs,LK w n v es.length xs z/\AR w F (es.flatMap TV.cells) xs/\(∀e∈es,e.cells.length=n)/\∀x∈xs,x.oneCell'=X
def GI(w:World)(F:Nat->Nat->Prop)(ρ:JJ)(z:Option (Nat×Nat))(es:List TV)(v:Value):Prop:=
 ∃xs,LK w 1 v es.length xs z/\(∀x∈xs,x.oneCell'=X)/\∀(j:Nat)(e:TV),es[j]?=Y e->∃g x n fs,z=Y (g,0)/\xs[j]?=Y x/\e=.list n fs/\SD w F (ρ g j) n fs x
def E0(w:World)(F:Nat->Nat->Prop)(ρ:JJ)(z:Option (Nat×Nat)):TV->Value->Prop
 |.xl n es,v=>∃xs,LK w n v es.length xs z/\AR w F (es.flatMap TV.cells) xs/\(∀e∈es,e.cells.length=n)/\∀x∈xs,x.oneCell'=X|.xn es,v=>GI w F ρ z es v|t,v=>CI w F z t v
variable{ρ:JJ}{v:Value}
theorem CI.c{w:World}{F:Nat->Nat->Prop}{z:Option (Nat×Nat)}{t:TV}(h:CI w F z t v):E0 w F ρ z t v:=by
 cases t<;>first|exact h|(simp[CI]at h)
def BW(w:World)(F:Nat->Nat->Prop)(ρ:JJ)(z:Option (Nat×Nat))(c:AS)(v:Value):Prop:=
 match c with
 |⟨X,t⟩=>E0 w F ρ z t v|⟨T,t⟩=>A3 w F t v/\v.oneCell'=X
abbrev Bh:=Nat->Option Nat->Option (Nat×Nat)
def tn(a:Act)(G:Bh):JJ:=λg j=>G (a.tmps.size+g) (Y j)
def AW(base:Nat)(F0:Nat->Nat->Prop)(G:Bh)(b o:Nat):Prop:=(b<base/\F0 b o)\/∃s i lo,G s i=Y (b,lo)/\lo<=o
def slot(a:Act)(s:Nat):Value:=a.tmps.getD s undef
def XV(a:Act)(w:World)(q:Nat)(i:Option Nat)(v:Value):Prop:=
 match i with
 |none=>v=slot a q|some k=>∃b c θ,slot a q=.pointer (Y ⟨b,0,W⟩)/\w.heap[b]?=Y (.cells c θ (0,0))/\c[k]?=Y v
def NK.at(w:World)(x:Value):NK->Value->Prop
 |.hd,v=>v=x|.el j,v=>∃g len cap,x=.slice (Y ⟨g,0,W⟩) len cap/\v=.pointer (Y ⟨g,j,W⟩)|.rw j,v=>∃g len cap,x=.slice (Y ⟨g,0,W⟩) len cap/\w.cell? ⟨g,j,W⟩=Y v|.rp j p,v=>∃g len cap,x=.slice (Y ⟨g,0,W⟩) len cap/\∃r len' cap',w.cell? ⟨g,j,W⟩=Y (.slice (Y ⟨r,0,W⟩) len' cap')/\v=.pointer (Y ⟨r,p,W⟩)
def NH(a:Act)(w:World)(q i:Nat)(k:NK)(v:Value):Prop:=
 ∃b c θ x,slot a q=.pointer (Y ⟨b,0,W⟩)/\w.heap[b]?=Y (.cells c θ (0,0))/\c[i]?=Y x/\k.at w x v
def FJ(k:Int×Int):Value:=.agg #[.int .i64 k.1,.int .i64 k.2]
def YA(w:World)(b:Nat)(kvs:Bj):Prop:=
 ∃es clock,w.heap[b]?=Y (.map es clock)/\es.toList.map (λe=>(e.key,e.val))=kvs.map (λp=>(FJ p.1,Value.int .i64 p.2))/\es.toList.Pairwise (λx y=>x.born<y.born)/\∀e∈es.toList,e.born<clock
def mr(w:World)(r b:Nat)(last:Option ((Int×Int)×Int))(todo:Bj):Prop:=
 ∃(es:Array MapEntry)(clock since c0:Nat)(seen:Array Nat),w.heap[b]?=Y (.map es clock)/\w.heap[r]?=Y (.mapIter (Y b) since seen c0)/\es.toList.Pairwise (λx y=>x.born<y.born)/\(∀e∈es.toList,e.born<since)/\since<=c0/\since<=clock/\
  (∀p,last=Y p->∃(seen':Array Nat)(e:MapEntry),seen=seen'.push e.born/\e∈es.toList/\c0=clock/\e.key=FJ p.1/\e.val=.int .i64 p.2)/\
  ((es.toList.filter λe=>!seen.contains e.born).map (λe=>(e.key,e.val))).Perm (todo.map (λp=>(FJ p.1,Value.int .i64 p.2)))
def WN(w:World)(F:Nat->Nat->Prop)(z z2:Option (Nat×Nat)):MX->Value->Prop
 |.mp b kvs,v=>v=.map (Y b)/\z=Y (b,0)/\YA w b kvs|.tm b kvs ts,v=>∃vs,v=.tuple (Value.map (Y b)::vs).toArray/\z=Y (b,0)/\YA w b kvs/\AR w F ts vs|.mi last todo,v=>∃r b,v=.pointer (Y ⟨r,0,W⟩)/\z=Y (r,0)/\z2=Y (b,0)/\mr w r b last todo
def AN(a:Act)(w:World)(F:Nat->Nat->Prop)(G:Bh)(O:AB)(s:Nat):EV->Value->Prop
 |.undef,_=>True|.sk,v=>v=undef|.tv t,v=>A3 w F t v|.ow t,v=>CI w F (G s W) t v|.bx cs,v=>∃b c θ,v=.pointer (Y ⟨b,0,W⟩)/\w.heap[b]?=Y (.cells c θ (0,0))/\c.size=cs.length/\G s W=Y (b,0)/\∀(i:Nat)(d:AS),cs[i]?=Y d->∃x,c[i]?=Y x/\BW w F (tn a G) (G s (Y i)) d x|.bp q off,v=>(∃cs,O.get q=.bx cs)->∃b,slot a q=.pointer (Y ⟨b,0,W⟩)/\v=.pointer (Y ⟨b,off,W⟩)|.tp ts,v=>∃vs,v=.tuple vs/\AR w F ts vs.toList|.xo n es,v=>∃xs,LK w n v es.length xs (G s W)/\AR w F (es.flatMap TV.cells) xs/\(∀e∈es,e.cells.length=n)/\∀x∈xs,x.oneCell'=X|.oag cs,v=>∃vs,v=.agg vs/\vs.size=cs.length/\∀(i:Nat)(d:AS),cs[i]?=Y d->∃x,vs[i]?=Y x/\BW w F (tn a G) (G s (Y i)) d x|.la q i,v=>(∃p,O.so q i=Y p)->XV a w q i v|.lp q i c,v=>(∃p,O.so q i=Y p)->∃g len cap,XV a w q i (.slice (Y ⟨g,0,W⟩) len cap)/\v=.pointer (Y ⟨g,c,W⟩)|.xn es,v=>GI w F (tn a G) (G s W) es v|.x1 n fs,v=>∃g cap x,v=.slice (Y ⟨g,0,W⟩) 1 cap/\1<=cap/\w.cell? ⟨g,0,W⟩=Y x/\¬F g 0/\x.oneCell'=X/\SD w F (G s W) n fs x|.nh q i k,v=>(∃es,O.nat q i=Y es)->NH a w q i k v|.mx m,v=>WN w F (G s W) (G s (Y 0)) m v
def ZQ(w:World)(E:Nat->Nat->Prop):Prop:=VL w/\∀b o,E b o->gq<=b
structure W0 extends World where
 E:Nat->Nat->Prop
def E0.own{w:World}{F:Nat->Nat->Prop}{z:Option (Nat×Nat)}{t:TV}(h:E0 w F ρ z t v)(g:t.AaI=T):CI w F z t v:=by
 cases t<;>first|exact h|(simp[TV.AaI]at g)
structure IA(F0:Nat->Nat->Prop)(w0:W0)(w:World):Prop where
 os:w.os=w0.os
 tape:w.tape=w0.tape
 output:w.output=w0.output
 size:w0.heap.size<=w.heap.size
 block:∀k,k<w0.heap.size->(∀o,¬w0.E k o)->w.heap[k]?=w0.heap[k]?
 cell:∀b o u,¬w0.E b o->w0.cell? ⟨b,o,W⟩=Y u->w.cell? ⟨b,o,W⟩=Y u
 free:∀b o o',w0.E b o->¬F0 b o'
 tab:ZQ w0.toWorld w0.E
theorem IA.trans{F0:Nat->Nat->Prop}{w0:W0}{w w':World}(h:IA F0 w0 w)(l:w'.os=w.os)(m:w'.tape=w.tape)(A:w'.output=w.output)(B:w.heap.size<=w'.heap.size)(C:∀k,k<w0.heap.size->(∀o,¬w0.E k o)->w'.heap[k]?=w.heap[k]?)(D:∀b o u,b<w0.heap.size->¬w0.E b o->w.cell? ⟨b,o,W⟩=Y u->w'.cell? ⟨b,o,W⟩=Y u):IA F0 w0 w':=
 ⟨l.trans h.os,m.trans h.tape,A.trans h.output,y_ h.size B,λb hb he=>(C b hb he).trans (h.block b hb he),λb o u he g=>D b o u (World.block_lt_of_cell? _ ⟨b,o,W⟩ g) he (h.cell b o u he g),h.free,h.tab⟩
def IA.now{F0:Nat->Nat->Prop}{w0:W0}{w:World}(h:IA F0 w0 w):VL w:=
 h.tab.1.fd λb hb=>h.block b (y! hb h.tab.1.lt) λo e=>absurd (h.tab.2 b o e) U
theorem IA.but{F0:Nat->Nat->Prop}{w0:W0}{w w':World}(h:IA F0 w0 w)(g:w'.os=w.os)(l:w'.tape=w.tape)(m:w'.output=w.output)(A:w.heap.size<=w'.heap.size){Z:Nat->Prop}(B:∀b,Z b->w0.heap.size<=b\/∀o,w0.E b o)(C:∀k,k<w0.heap.size->¬Z k->w'.heap[k]?=w.heap[k]?):IA F0 w0 w':=
 h.trans g l m A (λk D he=>C k D λz=>(B k z).elim (λe=>U) (λe=>he 0 (e 0))) (λb o u hb he H=>by
  grind [World.cell?_of_block])
def IA.go{F0:Nat->Nat->Prop}{w0:W0}{w w':World}(h:IA F0 w0 w)(k:Below w.heap.size w w'):IA F0 w0 w':=
 h.trans k.os k.tape k.output k.size (λb hb _=>k.block b (y! hb h.size)) (λb o u hb _ g=>by rw[k.cell (p:=⟨b,o,W⟩) (y! hb h.size)];exact g)
structure AO(F0:Nat->Nat->Prop)(w0:W0)(O:AB)(a:Act)(w:World)(G:Bh):Prop where
 ln:∀s i s' i' b lo lo',G s i=Y (b,lo)->G s' i'=Y (b,lo')->s=s'/\i=i'
 lt:∀s i b lo,G s i=Y (b,lo)->b<w.heap.size/\(w0.heap.size<=b\/∀o,lo<=o->w0.E b o)
 below:IA F0 w0 w
 defers:a.defers=[]
 dom:∀s,a.tmps.size<=s->O.get s=.undef
 slots:∀s,s<a.tmps.size->AN a w (AW w0.heap.size F0 G) G O s (O.get s) (slot a s)
 wf:∀s,(O.get s).WF
variable{s:Nat}{i:Option Nat}
def AO.low{F0:Nat->Nat->Prop}{w0:W0}{O:AB}{a:Act}{w:World}{G:Bh}(h:AO F0 w0 O a w G){b lo:Nat}(e:G s i=Y (b,lo)):gq<=b:=
 (h.lt _ _ _ _ e).2.elim (λk=>y_ h.below.tab.1.lt k) λk=>h.below.tab.2 b lo (k lo (x! _))
def CE(F0:Nat->Nat->Prop)(w0:W0)(O:AB)(a:Act)(w:World):Prop:=∃G,AO F0 w0 O a w G
theorem AB.d7(k:Nat)(e:EV)(O:AB)(n:Nat):AB.get ((k,e)::O) n=if k=n then e else O.get n:=rfl
def AB.get_map_keep(O:AB):∀(live:List Nat)(n:Nat),AB.get (live.map λs=>(s,O.get s)) n=if n∈live then O.get n else .undef
 |[],n=>by simp[AB.get]|s::live,n=>by
  simp [AB.get,AB.get_map_keep O live n]
  grind
theorem AB.Aaw(O:AB)(live:List Nat)(n:Nat):(O.fd live).get n=if n∈live then O.get n else .undef:=AB.get_map_keep O live n
variable{q:Nat}
theorem AB.Aal{O env':AB}(h:env'.get q=O.get q):env'.so q i=O.so q i:=by
 cases i<;>simp[AB.so,h]
theorem AB.AaH{O:AB}(h:O.get q=.undef):O.so q i=W:=by
 cases i<;>simp[AB.so,h]
variable{live:List Nat}
def AB.xat_keep{O:AB}(h:∃p,(O.fd live).so q i=Y p):∃p,O.so q i=Y p:=by grind[AB.Aal,AB.Aaw,AB.AaH]
variable{k n:Nat}
theorem AB.pr{O:AB}{es:List TV}(h:O.so q (Y k)=Y (n,es)):∃cs,O.get q=.bx cs/\cs[k]?=Y ⟨X,.xl n es⟩:=by grind[AB.so,p0]
theorem AB.tl{O:AB}{es:List TV}(h:O.so q W=Y (n,es)):O.get q=.xo n es:=by grind[AB.so,p0]
theorem AB.Aar{O env':AB}{i:Nat}(h:env'.get q=O.get q):env'.nat q i=O.nat q i:=by
 simp [AB.nat,h]
theorem AB.nat_undef{O:AB}{i:Nat}(h:O.get q=.undef):O.nat q i=W:=by
 simp [AB.nat,h]
def AB.nat_keep{O:AB}{i:Nat}(h:∃p,(O.fd live).nat q i=Y p):∃p,O.nat q i=Y p:=by grind[AB.Aar,AB.Aaw,AB.nat_undef]
theorem AB.rr{O:AB}{es:List TV}(h:O.nat q k=Y es):∃cs,O.get q=.bx cs/\cs[k]?=Y ⟨X,.xn es⟩:=by grind[AB.nat,p0]
theorem AW.mono{base:Nat}{F0:Nat->Nat->Prop}{G l:Bh}(h:∀s i b lo,l s i=Y (b,lo)->∃s' g lo',G s' g=Y (b,lo')/\lo'<=lo){b o:Nat}(hf:AW base F0 l b o):AW base F0 G b o:=by
 rcases hf with hf|⟨s,i,lo,A,B⟩
 .exact .inl hf
 .obtain⟨s',g,lo',m,u⟩:=h s i b lo A;exact .inr ⟨s',g,lo',m,y_ u B⟩
def CE.fd{F0:Nat->Nat->Prop}{w0:W0}{O:AB}{a:Act}{w:World}(h:CE F0 w0 O a w)(live:List Nat):CE F0 w0 (O.fd live) a w:=by
 obtain ⟨G,l⟩:=h;refine⟨G,l.ln,l.lt,l.below,l.defers,λs A=>?_,λs A=>?_,λs=>?_⟩
 .rw[AB.Aaw,l.dom s A];split<;>rfl
 .have:=l.slots s A;rw[AB.Aaw];split
  .cases he:O.get s with
   |bp q off=>
    rw [he]at this;simp only[AN]at this|-;rintro⟨cs,g⟩;rw[AB.Aaw]at g;split at g
    .exact this ⟨cs,g⟩
    .cases g
   |undef=>trivial|sk=>rw[he]at this;exact this|tv t=>rw[he]at this;exact this|ow t=>rw[he]at this;exact this|bx cs=>rw[he]at this;exact this|tp ts=>rw[he]at this;exact this|xo n es=>rw[he]at this;exact this|oag cs=>rw[he]at this;exact this|xn es=>rw[he]at this;exact this|x1 n B=>rw[he]at this;exact this|mx m=>rw[he]at this;exact this|nh q i k=>
    rw [he]at this;simp only[AN]at this|-;exact λu=>this (AB.nat_keep u)
   |la q i=>
    rw [he]at this;simp only[AN]at this|-;exact λu=>this (AB.xat_keep u)
   |lp q i c=>
    rw [he]at this;simp only[AN]at this|-;exact λu=>this (AB.xat_keep u)
  .trivial
 .rw[AB.Aaw];split
  .exact l.wf s
  .trivial
section own
variable{w w':World}{F F':Nat->Nat->Prop}{z:Option (Nat×Nat)}
variable{size:Nat}{v:Value}{n:Nat}
theorem Gv.kept{xs:List Value}(h:Gv w size v n xs z)(u:∀b lo,z=Y (b,lo)->w'.heap[b]?=w.heap[b]?):Gv w' size v n xs z:=by
 refine ⟨h.1,?_⟩;rcases h.2 with l|⟨g,cap,m,e,A,B,C,D,E,H,I⟩
 .exact .inl l
 grind
theorem LK.kept{xs:List Value}(h:LK w size v n xs z)(l:∀b lo,z=Y (b,lo)->w'.heap[b]?=w.heap[b]?):LK w' size v n xs z:=by
 obtain ⟨u,A,g⟩:=h;exact⟨u,A.kept (λb lo m=>l b 0 (by rw[g,m];rfl)),g⟩
theorem CI.kept{t:TV}(ha:Bw w w' F F')(h:CI w F z t v)(g:∀b lo,z=Y (b,lo)->w'.heap[b]?=w.heap[b]?):CI w' F' z t v:=by
 cases t<;>simp[CI]at h|-;obtain⟨xs,l,m,u⟩:=h;exact⟨xs,l.kept g,A6 ha _ _ m,u⟩
theorem SD.kept{es:List TV}(ha:Bw w w' F F')(h:SD w F z n es v)(g:∀b lo,z=Y (b,lo)->w'.heap[b]?=w.heap[b]?):SD w' F' z n es v:=by
 obtain ⟨xs,l,m,u⟩:=h;exact⟨xs,l.kept g,A6 ha _ _ m,u⟩
def BY(w w':World)(ρ:JJ):Prop:=∀g j b lo,ρ g j=Y (b,lo)->w'.heap[b]?=w.heap[b]?
variable{ρ:JJ}
theorem BY.rfl'{w:World}:BY w w ρ:=λ_ _ _ _ _=>rfl
theorem GI.kept{es:List TV}(ha:Bw w w' F F')(h:GI w F ρ z es v)(l:∀b lo,z=Y (b,lo)->w'.heap[b]?=w.heap[b]?)(hr:BY w w' ρ):GI w' F' ρ z es v:=by
 obtain ⟨xs,u,A,B⟩:=h;refine⟨xs,u.kept l,A,λj e m=>?_⟩;obtain⟨g,x,n,C,D,E,H,I⟩:=B j e m;exact⟨g,x,n,C,D,E,H,I.kept ha (λb lo hb=>hr g j b lo hb)⟩
def YD(w w':World)(ρ:JJ)(z:Option (Nat×Nat)):Prop:=∀g lo j b lo',z=Y (g,lo)->ρ g j=Y (b,lo')->w'.heap[b]?=w.heap[b]?
def BY.spot{w w':World}{z:Option (Nat×Nat)}(h:BY w w' ρ):YD w w' ρ z:=λg _ j b lo' _ hr=>h g j b lo' hr
def GI.Abo{es:List TV}(ha:Bw w w' F F')(h:GI w F ρ z es v)(m:∀b lo,z=Y (b,lo)->w'.heap[b]?=w.heap[b]?)(hr:YD w w' ρ z):GI w' F' ρ z es v:=by
 obtain ⟨xs,A,B,C⟩:=h;refine⟨xs,A.kept m,B,λj e u=>?_⟩;obtain⟨g,x,n,D,l,E,H,I⟩:=C j e u;exact⟨g,x,n,D,l,E,H,I.kept ha (λb lo hb=>hr g 0 j b lo l hb)⟩
variable{ρ':JJ}
theorem GI.tn{es:List TV}(h:GI w F ρ z es v)(hr:∀g lo j,z=Y (g,lo)->ρ' g j=ρ g j):GI w F ρ' z es v:=by
 obtain ⟨xs,l,m,A⟩:=h;refine⟨xs,l,m,λj e u=>?_⟩
 grind
variable{c:AS}
theorem BW.tn(h:BW w F ρ z c v)(hr:∀g lo j,z=Y (g,lo)->ρ' g j=ρ g j):BW w F ρ' z c v:=by
 obtain ⟨_|_,t⟩:=c
 .exact h
 .cases t<;>first|exact h|exact GI.tn h hr
theorem E0.kept{t:TV}(ha:Bw w w' F F')(h:E0 w F ρ z t v)(g:∀b lo,z=Y (b,lo)->w'.heap[b]?=w.heap[b]?)(hr:BY w w' ρ):E0 w' F' ρ z t v:=by
 cases t<;>simp[E0]at h|- <;>first|exact CI.kept ha h g|exact GI.kept ha h g hr|skip
 obtain ⟨xs,l,m,u⟩:=h;exact⟨xs,l.kept g,A6 ha _ _ m,u⟩
theorem BW.kept(ha:Bw w w' F F')(h:BW w F ρ z c v)(g:∀b lo,z=Y (b,lo)->w'.heap[b]?=w.heap[b]?)(hr:BY w w' ρ):BW w' F' ρ z c v:=by
 obtain ⟨_|_,t⟩:=c
 .exact⟨CY ha _ _ h.1,h.2⟩
 .exact E0.kept ha h g hr
def BW.Abo(ha:Bw w w' F F')(h:BW w F ρ z c v)(g:∀b lo,z=Y (b,lo)->w'.heap[b]?=w.heap[b]?)(hr:YD w w' ρ z):BW w' F' ρ z c v:=by
 obtain ⟨_|_,t⟩:=c
 .exact⟨CY ha _ _ h.1,h.2⟩
 .replace h:E0 w F ρ z t v:=h;show E0 w' F' ρ z t v;cases t<;>simp[E0]at h|- <;>first|exact CI.kept ha h g|exact GI.Abo ha h g hr|skip
  obtain ⟨xs,l,m,u⟩:=h;exact⟨xs,l.kept g,A6 ha _ _ m,u⟩
end own
variable{v:Value}
theorem WN.kept{w w':World}{F F':Nat->Nat->Prop}{z z2:Option (Nat×Nat)}{m:MX}(ha:Bw w w' F F')(h:WN w F z z2 m v)(A:∀b lo,z=Y (b,lo)->w'.heap[b]?=w.heap[b]?)(B:∀b lo,z2=Y (b,lo)->w'.heap[b]?=w.heap[b]?):WN w' F' z z2 m v:=by
 cases m with
 |mp b D=>
  obtain ⟨u,g,l⟩:=h;exact⟨u,g,by unfold YA;rw[A _ _ g];exact l⟩
 |tm b D ts=>
  obtain ⟨vs,u,g,l,C⟩:=h;exact⟨vs,u,g,by unfold YA;rw[A _ _ g];exact l,A6 ha _ _ C⟩
 |mi last E=>
  obtain ⟨r,b,u,g,l,C⟩:=h;exact⟨r,b,u,g,l,by unfold mr;rw[A _ _ g,B _ _ l];exact C⟩
variable{s:Nat}{e:EV}
def AN.kept'{a a':Act}{w w':World}{F F':Nat->Nat->Prop}{G N:Bh}{O env':AB}
  (ha:Bw w w' F F')(A:∀i,N s i=G s i)(B:∀i b lo,G s i=Y (b,lo)->w'.heap[b]?=w.heap[b]?)
  (R:∀i g lo j,G s i=Y (g,lo)->tn a' N g j=tn a G g j)(hr:∀i,YD w w' (tn a G) (G s i))
  (ε:∀q i k,e=.nh q i k->(∃p,env'.nat q i=Y p)->(∃p,O.nat q i=Y p)/\∀v,NH a w q i k v->NH a' w' q i k v)
  (κ:∀q off,e=.bp q off->(∃cs,env'.get q=.bx cs)->(∃cs,O.get q=.bx cs)/\slot a' q=slot a q)
  (I:∀q i,(e=.la q i\/∃c,e=.lp q i c)->(∃p,env'.so q i=Y p)->(∃p,O.so q i=Y p)/\∀v,XV a w q i v->XV a' w' q i v)
  (h:AN a w F G O s e v):AN a' w' F' N env' s e v:=by
 cases e with
 |undef=>trivial|sk=>exact h|tv t=>exact CY ha t v h|ow t=>
  simp [AN]at h|-;rw[A];exact h.kept ha (λb lo=>B _ b lo)
 |bx cs=>
  simp only[AN]at h|-;obtain⟨b,c,θ,l,C,E,M,L⟩:=h;refine⟨b,c,θ,l,by rw[B _ _ _ M];exact C,E,by rw[A];exact M,λi d hd=>?_⟩;obtain⟨x,η,u⟩:=L i d hd;exact⟨x,η,by rw[A];exact(u.Abo ha (λb lo=>B _ b lo) (hr _)).tn (λg lo j J=>R _ g lo j J)⟩
 |bp q off=>
  simp only[AN]at h|-;intro D;obtain⟨u,H⟩:=κ q off rfl D;rw[H];exact h u
 |tp ts=>
  simp [AN]at h|-;obtain⟨vs,l,C⟩:=h;exact⟨vs,l,A6 ha _ _ C⟩
 |xo n es=>
  simp [AN]at h|-;obtain⟨xs,l,C,E⟩:=h;rw[A];exact⟨xs,l.kept (λb lo=>B _ b lo),A6 ha _ _ C,E⟩
 |oag cs=>
  simp [AN]at h|-;obtain⟨vs,l,E,L⟩:=h;refine⟨vs,l,E,λi d hd=>?_⟩;obtain⟨x,η,u⟩:=L i d hd;exact⟨x,η,by rw[A];exact(u.Abo ha (λb lo=>B _ b lo) (hr _)).tn (λg lo j J=>R _ g lo j J)⟩
 |xn es=>
  simp [AN]at h|-;rw[A];exact(h.Abo ha (λb lo=>B _ b lo) (hr _)).tn (λg lo j J=>R _ g lo j J)
 |x1 n δ=>
  simp only[AN]at h|-;obtain⟨g,cap,x,l,C,E,M,L,ζ⟩:=h;rw[A];have:=ha g 0 x E M;exact⟨g,cap,x,l,C,this.1,this.2,L,ζ.kept ha (λb lo=>B _ b lo)⟩
 |mx m=>
  simp [AN]at h|-;rw[A,A];exact h.kept ha (λb lo=>B _ b lo) (λb lo=>B _ b lo)
 |nh q i k=>
  simp only[AN]at h|-;intro D;obtain⟨u,H⟩:=ε q i k rfl D;exact H _ (h u)
 |la q i=>
  simp only[AN]at h|-;intro D;obtain⟨u,H⟩:=I q i (.inl rfl) D;exact H _ (h u)
 |lp q i c=>
  simp only[AN]at h|-;intro D;obtain⟨u,H⟩:=I q i (.inr ⟨c,rfl⟩) D;obtain⟨g,len,cap,l,C⟩:=h u;exact⟨g,len,cap,H _ l,C⟩
theorem AN.kept{a a':Act}{w w':World}{F F':Nat->Nat->Prop}{G l:Bh}{O env':AB}
  (ha:Bw w w' F F')(B:∀i,l s i=G s i)(C:∀i b lo,G s i=Y (b,lo)->w'.heap[b]?=w.heap[b]?)
  (D:tn a' l=tn a G)(hr:BY w w' (tn a G))
  (m:∀q i k,e=.nh q i k->(∃p,env'.nat q i=Y p)->(∃p,O.nat q i=Y p)/\∀v,NH a w q i k v->NH a' w' q i k v)
  (u:∀q off,e=.bp q off->(∃cs,env'.get q=.bx cs)->(∃cs,O.get q=.bx cs)/\slot a' q=slot a q)
  (A:∀q i,(e=.la q i\/∃c,e=.lp q i c)->(∃p,env'.so q i=Y p)->(∃p,O.so q i=Y p)/\∀v,XV a w q i v->XV a' w' q i v)
  (h:AN a w F G O s e v):AN a' w' F' l env' s e v:=
 AN.kept' ha B C (λ_ g _ j _=>by rw[D]) (λ_=>BY.spot hr) m u A h
variable{q:Nat}{i:Option Nat}
theorem AO.xv{F0:Nat->Nat->Prop}{w0:W0}{O:AB}{a a':Act}{w w':World}{G:Bh}(h:AO F0 w0 O a w G)(C:∃p,O.so q i=Y p)(A:slot a' q=slot a q)(hb:∀b,G q W=Y (b,0)->w'.heap[b]?=w.heap[b]?):∀v,XV a w q i v->XV a' w' q i v:=by
 intro v hv;cases i with
 |none=>exact hv.trans A.symm|some k=>
  obtain ⟨⟨n,es⟩,D⟩:=C;obtain⟨cs,l,_⟩:=AB.pr D;obtain⟨b,c,θ,B,E,H⟩:=hv;have g:q<a.tmps.size:=by
   rcases y? q a.tmps.size with u|u
   .exact u
   .rw[h.dom q u]at l;cases l
  have hr:=h.slots q g;rw[l]at hr;obtain⟨J,c',L,m,M,_,I,_⟩:=hr;rw[B]at m;simp at m;subst m;exact⟨b,c,θ,by rw[A,B],by rw[hb b I];exact E,H⟩
theorem NK.at.kept{w w':World}{x:Value}{k:NK}(h:k.at w x v)(A:∀g len cap,x=.slice (Y ⟨g,0,W⟩) len cap->w'.heap[g]?=w.heap[g]?):k.at w' x v:=by
 have u:∀g len cap,x=.slice (Y ⟨g,0,W⟩) len cap->∀j,w'.cell? ⟨g,j,W⟩=w.cell? ⟨g,j,W⟩:=λg len cap e j=>World.cell?_of_block (w:=w) (w':=w') (a:=⟨g,j,W⟩) (A g len cap e);cases k with
 |hd=>exact h|el j=>exact h|rw j=>obtain⟨g,len,cap,e,h⟩:=h;exact⟨g,len,cap,e,by rw[u _ _ _ e];exact h⟩
 |rp j p=>obtain⟨g,len,cap,e,r,l,m,h,B⟩:=h;exact⟨g,len,cap,e,r,l,m,by rw[u _ _ _ e];exact h,B⟩
theorem NH.kept{a a':Act}{w w':World}{q i:Nat}{k:NK}(h:NH a w q i k v)(A:slot a' q=slot a q)(hb:∀b,slot a q=.pointer (Y ⟨b,0,W⟩)->w'.heap[b]?=w.heap[b]?)
  (B:∀b c θ g len cap,slot a q=.pointer (Y ⟨b,0,W⟩)->w.heap[b]?=Y (.cells c θ (0,0))->c[i]?=Y (.slice (Y ⟨g,0,W⟩) len cap)->w'.heap[g]?=w.heap[g]?):NH a' w' q i k v:=by
 obtain ⟨b,c,θ,x,l,m,u,C⟩:=h;exact⟨b,c,θ,x,by rw[A];exact l,by rw[hb b l];exact m,u,C.kept λg len cap e=>B b c θ g len cap l m (by rw[u,e])⟩
variable{ρ:JJ}
theorem GI.nil_or{w:World}{F:Nat->Nat->Prop}{z:Option (Nat×Nat)}{es:List TV}{g len cap:Nat}(h:GI w F ρ z es (.slice (Y ⟨g,0,W⟩) len cap)):z=Y (g,0):=by
 obtain ⟨xs,⟨A,m,B⟩,_⟩:=h;rcases m.2 with⟨e,_⟩|⟨C,l,u,e,D,_,_,_,_,_,E⟩
 .cases e
 grind
def AO.lts{F0:Nat->Nat->Prop}{w0:W0}{O:AB}{a:Act}{w:World}{G:Bh}(h:AO F0 w0 O a w G)(l:O.get q≠.undef):q<a.tmps.size:=by
 rcases y? q a.tmps.size with g|g
 .exact g
 .exact absurd (h.dom q g) l
theorem AO.nh{F0:Nat->Nat->Prop}{w0:W0}{O:AB}{a a':Act}{w w':World}{G:Bh}(h:AO F0 w0 O a w G){q i:Nat}{k:NK}(B:∃p,O.nat q i=Y p)(C:slot a' q=slot a q)(hb:∀j b,(j=W\/j=Y i)->G q j=Y (b,0)->w'.heap[b]?=w.heap[b]?):∀v,NH a w q i k v->NH a' w' q i k v:=by
 intro v hv;obtain⟨es,J⟩:=B;obtain⟨cs,u,L⟩:=AB.rr J;have hr:=h.slots q (h.lts (by rw[u];simp));rw[u]at hr;obtain⟨R,c',ε,l,A,_,κ,M⟩:=hr;refine hv.kept C (λb D=>?_) (λb c θ g len cap E H I=>?_)
 .grind
 .rw[E]at l;simp at l;subst l;rw[H]at A;cases A;obtain⟨x,m,N⟩:=M i _ L;rw[I]at m;simp at m;subst m;exact hb (Y i) g (.inr rfl) (GI.nil_or N)
theorem AO.AbE{F0:Nat->Nat->Prop}{w0:W0}{O:AB}{a:Act}{w:World}{G:Bh}(h:AO F0 w0 O a w G)(A:s<a.tmps.size){b lo g j l lo':Nat}(m:G s i=Y (b,lo))(u:tn a G g j=Y (l,lo')):l≠b:=by
 rintro rfl;have:=(h.ln _ _ _ _ _ _ _ m u).1;omega
theorem ON{a a':Act}{G g:Bh}(h:a'.tmps.size=a.tmps.size)(l:∀s,a.tmps.size<=s->g s=G s):tn a' g=tn a G:=by grind[tn]
theorem C7(a:Act)(d:Nat)(v:Value)(h:d<a.tmps.size):slot (a.put (Y d) v) d=v:=by
 simp [slot,Act.put,J?,h]
theorem AZ(a:Act)(d s:Nat)(v:Value)(h:d≠s):slot (a.put (Y d) v) s=slot a s:=by
 simp [slot,Act.put,J?,Array.getElem?_setIfInBounds,h]
theorem Bx(a:Act)(d:Option Nat)(v:Value):(a.put d v).tmps.size=a.tmps.size:=by
 cases d<;>simp[Act.put]
def FP(a:Act)(d:Option Nat)(v:Value):(a.put d v).defers=a.defers:=by
 cases d<;>simp[Act.put]
def SC(a:Act)(d:Nat)(a':Act):Prop:=∃v,a'=a.put (Y d) v
structure Mb(N:Nat)(p:Option (Nat×Value))(a:Act):Prop where
 size:a.tmps.size=N
 pin:∀i v,p=Y (i,v)->slot a i=v
theorem Mb.put{N:Nat}{p:Option (Nat×Value)}{a a':Act}{d:Nat}(h:Mb N p a)(hd:∀i v,p=Y (i,v)->Y d≠Y i)(k:SC a d a'):Mb N p a':=by
 obtain ⟨v,rfl⟩:=k;exact⟨by rw[Bx];exact h.size,λi u g=>by rw[AZ _ _ _ _ (λe=>hd i u g (by rw[e]))];exact h.pin i u g⟩
theorem RY(w:World)(F:Nat->Nat->Prop):Bw w w F F:=λ_ _ _ g h=>⟨g,h⟩
def AO.rem{F0:Nat->Nat->Prop}{w0:W0}{O env':AB}{a:Act}{w:World}{G:Bh}(h:AO F0 w0 O a w G)(s:Nat){t:TV}(C:s<a.tmps.size)(hr:A3 w (AW w0.heap.size F0 G) t (slot a s))(B:t.WF)
  (u:∀n,env'.get n=O.get n\/(n=s/\env'.get n=.tv t)):AO F0 w0 env' a w G:=by
 refine ⟨h.ln,h.lt,h.below,h.defers,λq A=>?_,λq A=>?_,λq=>?_⟩
 .rcases u q with e|⟨rfl,_⟩
  .rw[e];exact h.dom q A
  .omega
 .rcases u q with e|⟨rfl,e⟩
  .rw[e];refine AN.kept (RY _ _) (λ_=>rfl) (λ_ _ _ _=>rfl) rfl BY.rfl' (λr i k hr⟨p,l⟩=>?_) (λr off hr⟨cs,m⟩=>?_) (λr i hr⟨p,l⟩=>?_) (h.slots q A)
   .rcases u r with g|⟨_,g⟩
    .rw[AB.Aar g]at l;exact⟨⟨p,l⟩,λ_ hv=>hv⟩
    .simp only[AB.nat,g]at l;cases l
   .rcases u r with g|⟨_,g⟩
    .rw[g]at m;exact⟨⟨cs,m⟩,rfl⟩
    .rw[g]at m;cases m
   .rcases u r with g|⟨_,g⟩
    .rw[AB.Aal g]at l;exact⟨⟨p,l⟩,λ_ hv=>hv⟩
    .cases i<;>simp[AB.so,g]at l<;>cases l
  .rw[e];exact hr
 .rcases u q with e|⟨_,e⟩
  .rw[e];exact h.wf q
  .rw[e];exact B
end Go.Sf
namespace Go.Sf
open Go.RowKit (Below)
def AB.z5(d:Nat):∀(O:AB),O.gt d=X->∀s,(O.get s).x6≠Y d
 |[],_,s=>by simp[AB.get,EV.x6]|(k,e)::r,g,s=>by
  simp [AB.gt]at g;rw[AB.d7];split
  .grind[EV.noR]
  .exact AB.z5 d r g.2 s
def AB.AaW(d:Nat)(O:AB)(h:O.gt d=X)(s:Nat):(∀i,O.get s≠.la d i)/\∀i c,O.get s≠.lp d i c:=
 ⟨λi e=>AB.z5 d O h s s?,λi c e=>AB.z5 d O h s s?⟩
def AB.AaO(d:Nat)(O:AB)(h:O.gt d=X)(s off:Nat):O.get s≠.bp d off:=
 λe=>AB.z5 d O h s s?
variable{e:EV}{i:Option Nat}{p:Nat×List TV}
theorem AB.AaV{O:AB}{d:Nat}(h:AB.so ((d,e)::O) d i=Y p):(∃cs,e=.bx cs)\/(∃n es,e=.xo n es):=by
 obtain ⟨n,es⟩:=p;cases i with
 |none=>have:=AB.tl h;rw[AB.d7,if_pos rfl]at this;exact .inr ⟨n,es,this⟩|some k=>obtain⟨cs,g,_⟩:=AB.pr h;rw[AB.d7,if_pos rfl]at g;exact .inl ⟨cs,g⟩
theorem AB.sc{O:AB}{d q:Nat}(g:∀cs,e≠.bx cs)(l:∀n es,e≠.xo n es)(h:AB.so ((d,e)::O) q i=Y p):d≠q/\O.so q i=Y p:=by grind[AB.AaV,AB.Aal,AB.d7]
theorem AB.Aag{O:AB}{d q:Nat}(h:d≠q):AB.so ((d,e)::O) q i=O.so q i:=by grind[AB.Aal,AB.d7]
variable{s:Nat}
theorem AB.noXs_iff{k:Option Nat}:∀{O:AB}{z:List Nat},AB.AbS s k z O=X↔∀p,p∉z->(O.get p).noC s k=X
 |[],z=>by simp[AB.AbS,AB.get,EV.noC]|(q,e)::r,z=>by
  simp [AB.AbS,qo,AB.noXs_iff (O:=r)]
  grind [AB.d7]
theorem AB.Aa9{k:Option Nat}{O:AB}:O.noX s k=X↔∀p,(O.get p).noC s k=X:=
 AB.noXs_iff.trans ⟨λh p=>h p V,λh p _=>h p⟩
variable{k:Nat}
def AB.noX_all{O:AB}(g:O.noX s W=X):O.noX s (Y k)=X:=by
 rw [AB.Aa9]at g|-;intro p;have h:=g p;generalize O.get p=e at h|-;cases e<;>try rfl
 .rename_i q i;cases i with
  |none=>rfl|some i=>simp[EV.noC]at h;simp[EV.noC,h]
 .rename_i q i c;cases i with
  |none=>rfl|some i=>simp[EV.noC]at h;simp[EV.noC,h]
 next q i c=>simp[EV.noC]at h;simp[EV.noC,h]
def AB.noX_ref{O:AB}(g:O.gt s=X):O.noX s W=X:=by
 rw [AB.Aa9];intro p;have h:=AB.z5 s O g p;generalize O.get p=e at h|-;cases e<;>try rfl
 .rename_i q i;cases i with
  |none=>rfl|some i=>simp[EV.noC,bne_iff_ne];exact λe=>h s?
 .rename_i q i c;cases i with
  |none=>rfl|some i=>simp[EV.noC,bne_iff_ne];exact λe=>h s?
 next q i c=>simp[EV.noC,bne_iff_ne];exact λe=>h s?
theorem AB.noX_nh{k:Option Nat}{O:AB}(g:O.noX s k=X)(p j:Nat)(h:k=W\/k=Y j)(c:NK):O.get p≠.nh s j c:=by grind[AB.Aa9,EV.noC]
def AB.Abf(d:Nat)(O:AB)(h:O.gt d=X)(s:Nat):∀i c,O.get s≠.nh d i c:=
 λi c e=>AB.z5 d O h s s?
theorem AB.AaG{O:AB}{d i:Nat}{p:List TV}(h:AB.nat ((d,e)::O) d i=Y p):∃cs,e=.bx cs:=by grind[AB.rr,AB.d7]
theorem AB.x7{O:AB}{d q i:Nat}{p:List TV}(g:∀cs,e≠.bx cs)(h:AB.nat ((d,e)::O) q i=Y p):d≠q/\O.nat q i=Y p:=by grind[AB.AaG,AB.Aar,AB.d7]
theorem AB.Aah{O:AB}{d q i:Nat}(h:d≠q):AB.nat ((d,e)::O) q i=O.nat q i:=by grind[AB.Aar,AB.d7]
theorem AB.noX_spec{k:Option Nat}{O:AB}(g:O.noX s k=X)(p j:Nat)(h:k=W\/k=Y j):O.get p≠.la s (Y j)/\∀c,O.get p≠.lp s (Y j) c:=by grind[AB.Aa9,EV.noC]
def K9(G:Bh)(d:Nat)(zd:Option Nat->Option (Nat×Nat)):Bh:=λs=>if s=d then zd else G s
theorem CP(G:Bh)(d:Nat)(g:Option Nat->Option (Nat×Nat)):K9 G d g d=g:=by simp[K9]
theorem Bb(G:Bh)(d s:Nat)(g:Option Nat->Option (Nat×Nat))(h:s≠d):K9 G d g s=G s:=by simp[K9,h]
section
variable{F0:Nat->Nat->Prop}{w0:W0}{O:AB}{a:Act}{w:World}{G:Bh}
def MB{w':World}(hb:Below w.heap.size w w')(d:Nat)(u:Option Nat->Option (Nat×Nat))(C:∀i b lo,u i=Y (b,lo)->w.heap.size<=b):
  Bw w w' (AW w0.heap.size F0 G) (AW w0.heap.size F0 (K9 G d u)):=by
 intro b o v A hf;have m:b<w.heap.size:=World.block_lt_of_cell? w ⟨b,o,W⟩ A;refine⟨by rw[hb.cell (p:=⟨b,o,W⟩) m];exact A,λl=>hf ?_⟩;rcases l with h|⟨s,i,lo,g,D⟩
 .exact .inl h
 .by_cases B:s=d
  .subst B;rw[CP]at g;have:=C i b lo g;omega
  .rw[Bb _ _ _ _ B]at g;exact .inr ⟨s,i,lo,g,D⟩
def AO.Aa0{w':World}(h:AO F0 w0 O a w G)(hb:Below w.heap.size w w'):BY w w' (tn a G):=by
 intro g j b lo hr;exact hb.block b (h.lt _ _ _ _ hr).1
def AO.quiet{w':World}(h:AO F0 w0 O a w G)(hb:Below w.heap.size w w')(d:Nat)(hd:d<a.tmps.size)(e:EV)(v:Value)
  (H:Option Nat->Option (Nat×Nat))(N:∀i b lo,H i=Y (b,lo)->w.heap.size<=b/\b<w'.heap.size)(R:∀i J b lo lo',H i=Y (b,lo)->H J=Y (b,lo')->i=J)
  (I:(∃cs,e=.bx cs)\/(∃n es,e=.xo n es)->O.gt d=X)
  (M:AN (a.put (Y d) v) w' (AW w0.heap.size F0 (K9 G d H)) (K9 G d H) ((d,e)::O) d e v)(ε:e.WF):
  AO F0 w0 ((d,e)::O) (a.put (Y d) v) w' (K9 G d H):=by
 have κ:=MB (F0:=F0) (w0:=w0) (G:=G) hb d H (λi b lo h=>(N i b lo h).1);refine⟨?_,?_,h.below.go hb,g?,?_,?_,?_⟩
 .intro s i s' J b lo lo' m E;by_cases l:s=d<;>by_cases C:s'=d
  .subst l;subst C;rw[CP]at m E;exact⟨rfl,R i J b lo lo' m E⟩
  .subst l;rw[CP]at m;rw[Bb _ _ _ _ C]at E;have:=(N i b lo m).1;have:=(h.lt s' J b lo' E).1;omega
  .subst C;rw[CP]at E;rw[Bb _ _ _ _ l]at m;have:=(N J b lo' E).1;have:=(h.lt s i b lo m).1;omega
  .rw[Bb _ _ _ _ l]at m;rw[Bb _ _ _ _ C]at E;exact h.ln s i s' J b lo lo' m E
 .intro s i b lo m;by_cases l:s=d
  .subst l;rw[CP]at m;have:=N i b lo m;exact⟨this.2,.inl (y_ h.below.size this.1)⟩
  .rw[Bb _ _ _ _ l]at m;have:=h.lt s i b lo m;exact⟨y! this.1 hb.size,this.2⟩
 .intro s l;rw[Bx]at l;rw[AB.d7,if_neg U];exact h.dom s l
 .intro s l;rw[Bx]at l;rw[AB.d7];by_cases D:d=s
  .subst D;rw[if_pos rfl,C7 _ _ _ hd];exact M
  .rw[if_neg D,AZ _ _ _ _ D];refine AN.kept κ (λi=>by rw[Bb _ _ _ _ (λe=>D e.symm)]) (λi b lo ζ=>hb.block b (h.lt s i b lo ζ).1) (ON (Bx _ _ _) (λs l=>Bb _ _ _ _ U)) (h.Aa0 hb) (λq i k A⟨p,B⟩=>?_) (λq off A⟨cs,u⟩=>?_) (λq i A⟨p,B⟩=>?_) (h.slots s l)
   .by_cases g:d=q
    .subst g;exact absurd A (AB.Abf d O (I (.inl (AB.AaG B))) s i k)
    .rw[AB.Aah g]at B;exact⟨⟨p,B⟩,h.nh ⟨p,B⟩ (AZ _ _ _ _ g) (λj b _ L=>hb.block b (h.lt _ _ _ _ L).1)⟩
   .rw[AB.d7]at u;by_cases g:d=q
    .subst g;rw[if_pos rfl]at u;exact absurd A (AB.AaO d O (I (.inl ⟨cs,u⟩)) s off)
    .rw[if_neg g]at u;exact⟨⟨cs,u⟩,AZ _ _ _ _ g⟩
   .by_cases g:d=q
    .subst g;have η:=AB.AaW d O (I (AB.AaV B)) s;rcases A with A|⟨c,A⟩
     .exact absurd A (η.1 i)
     .exact absurd A (η.2 i c)
    .rw[AB.Aag g]at B;exact⟨⟨p,B⟩,h.xv ⟨p,B⟩ (AZ _ _ _ _ g) (λb L=>hb.block b (h.lt _ _ _ _ L).1)⟩
 .intro s;rw[AB.d7];split
  .exact ε
  .exact h.wf s
theorem AO.tv{w':World}(h:AO F0 w0 O a w G)(hb:Below w.heap.size w w')(d:Nat)(hd:d<a.tmps.size)(t:TV)(v:Value)
  (g:A3 w' (AW w0.heap.size F0 (K9 G d λ_=>W)) t v)(l:t.WF):
  CE F0 w0 ((d,.tv t)::O) (a.put (Y d) v) w':=
 ⟨_,h.quiet hb d hd (.tv t) v (λ_=>W) V V V g l⟩
def AO.tv_same(h:AO F0 w0 O a w G)(d:Nat)(hd:d<a.tmps.size)(t:TV)(v:Value)
  (g:A3 w (AW w0.heap.size F0 G) t v)(l:t.WF):
  CE F0 w0 ((d,.tv t)::O) (a.put (Y d) v) w:=
 h.tv (Below.refl _ _) d hd t v (CY (MB (Below.refl _ _) d _ V) t v g) l
theorem AO.ow{w':World}(h:AO F0 w0 O a w G)(hb:Below w.heap.size w w')(d:Nat)(hd:d<a.tmps.size)(t:TV)(v:Value)(z:Option (Nat×Nat))
  (A:∀b lo,z=Y (b,lo)->w.heap.size<=b/\b<w'.heap.size)
  (g:CI w' (AW w0.heap.size F0 (K9 G d λi=>if i=W then z else W)) z t v)(l:t.WF):
  CE F0 w0 ((d,.ow t)::O) (a.put (Y d) v) w':=by
 refine ⟨_,h.quiet hb d hd (.ow t) v (λi=>if i=W then z else W) (λi b lo hi=>?_) (λi B b lo lo' m u=>?_) V ?_ l⟩
 .split at hi
  .exact A b lo hi
  .cases hi
 .split at m
  .split at u
   .simp_all
   .cases u
  .cases m
 .simp[AN,CP];exact g
end
section reads
variable{w:World}{F:Nat->Nat->Prop}
theorem XD(n:Nat):∀(es:List TV)(b o:Nat),(∀e∈es,e.cells.length=n)->Dn w F (es.flatMap TV.cells) b o->JX w F n es b o
 |[],_,_,_,_=>trivial|e::es,b,o,g,h=>by
  rw [Rr];have he:e.cells.length=n:=g e V;rw[C?]at h;refine⟨by have:=iY h e.cells.length;simpa using this,he,XD n es b (o+n) (λx l=>g x (by simp[l])) ?_⟩;have:=Qp h e.cells.length
  grind
def Qd(n:Nat):∀(es:List TV),(∀e∈es,e.cells.length=n)->(es.flatMap TV.cells).length=es.length*n
 |[],_=>by simp|e::es,g=>by
  rw [C?,B',Qd n es (λx h=>g x l_),g e V,B?,z_,Nat.one_mul,Nat.add_comm]
variable{ts:List TV}
theorem TG{xs:List Value}{b o:Nat}(h:AR w F ts xs)(l:∀x∈xs,x.oneCell'=X)(m:∀(i:Nat)(x:Value),xs[i]?=Y x->w.cell? ⟨b,o+i,W⟩=Y x/\¬F b (o+i)):Dn w F ts b o:=by
 rw [Jy];rw[Bt]at h;intro i t hi;have g:i<ts.length:=by
  grind
 have u:xs[i]?=Y xs[i]:=D_ U
 grind
variable{size:Nat}{v:Value}{n:Nat}
theorem Gv.cell{xs:List Value}{z:Option (Nat×Nat)}{g cap:Nat}(h:Gv w size v n xs z)(hv:v=.slice (Y ⟨g,0,W⟩) n cap):∀(j:Nat)(u:Value),xs[j]?=Y u->w.cell? ⟨g,j,W⟩=Y u:=by
 intro j u D;rcases h.2 with⟨rfl,_⟩|⟨B,A,l,e,rfl,C,_,_,_,m,_⟩
 .cases hv
 .simp only[Value.slice.injEq,p0,Addr.mk.injEq]at hv;obtain⟨⟨rfl,_⟩,_⟩:=hv;rw[cell_of_row w B j l e (0,0) C]
  grind
theorem CI.rep{z:Option (Nat×Nat)}{t:TV}(h:CI w F z t v)(C:∀b lo o,z=Y (b,lo)->o<lo->¬F b o):A3 w F t v:=by
 cases t<;>simp[CI]at h;rename_i n es;obtain⟨xs,A,E,H,I⟩:=h;simp[A3];rcases A.2 with⟨rfl,R,B⟩|⟨g,cap,J,e,rfl,ε,m,L,M,u,B⟩
 .grind
 .refine⟨Y ⟨g,0,W⟩,cap,rfl,m,V,λN l=>?_⟩;simp at l;subst l;refine⟨.inr rfl,XD n es g 0 H (TG E I λi x D=>?_)⟩;rw[z!];refine⟨A.cell rfl i x D,C g _ i B ?_⟩
  grind
variable{ρ:JJ}
theorem E0.rep{z:Option (Nat×Nat)}{t:TV}(h:E0 w F ρ z t v)(l:∀b lo o,z=Y (b,lo)->o<lo->¬F b o):A3 w F t v:=by
 cases t<;>first|exact CI.rep h l|skip
 all_goals
  obtain ⟨xs,⟨A,m,_⟩,_⟩:=h;simp[A3];rcases m.2 with⟨rfl,_⟩|⟨g,cap,u,e,rfl,_⟩<;>rfl
end reads
end Go.Sf
namespace Go.Sf
open Go.RowKit (Below)
def N4:Value->Bool
 |.slice W 0 0=>X|_=>T
variable{v:Value}
theorem LA(h:N4 v=X):v=.slice W 0 0:=by grind[N4]
def qx(f:FuncId):Value->Bool
 |.func (.func g) first caps=>f==g&&first.size==0&&caps.size==0
 |_=>T
variable{f:FuncId}
def uu(h:qx f v=X):v=.func (.func f) #[] #[]:=by
 unfold qx at h
 grind
def lP(k:IntKind)(n:Int):Value->Bool
 |.int k' m=>k==k'&&n==m|_=>T
def qy{k:IntKind}{n:Int}(h:lP k n v=X):v=.int k n:=by
 unfold lP at h
 grind
def eZ(b:Bool):Value->Bool
 |.bool c=>b==c|_=>T
def nx{b:Bool}(h:eZ b v=X):v=.bool b:=by
 unfold eZ at h
 grind
def lQ(s:ByteArray):Value->Bool
 |.string r=>s.data==r.data|_=>T
def q8{s:ByteArray}(h:lQ s v=X):v=.string s:=by
 unfold lQ at h
 grind [ByteArray.ext]
def km:Value->Option (List Value)
 |.agg vs=>Y vs.toList|_=>W
def qK{l:List Value}(h:km v=Y l):v=.agg l.toArray:=by
 unfold km at h;split at h
 .simp at h;subst h;simp
 .cases h
mutual
def Eo:TV->Value->Bool
 |.int k n,v=>lP k n v&&decide (k.min<=n/\n<=k.max)|.bool b,v=>eZ b v|.str s,v=>lQ s v&&decide (s.size<=LY)|.list _ es,v=>es.isEmpty&&N4 v|.agg ts,v=>match km v with|some vs=>LZ ts vs&&vs.all Value.oneCell'|none=>T
 |.clo f cs,v=>cs.isEmpty&&qx f v|.nil,v=>N4 v|.undef,v=>v.oneCell'|_,_=>T
def LZ:List TV->List Value->Bool
 |[],vs=>vs.isEmpty|t::ts,vs=>match vs with|v::vs=>Eo t v&&LZ ts vs|[]=>T
end
mutual
theorem IZ(w:World)(F:Nat->Nat->Prop):∀(t:TV)(v:Value),Eo t v=X->A3 w F t v/\t.WF
 |.undef,v,h=>by
  simp [Eo]at h;exact⟨by simpa[A3]using h,trivial⟩
 |.xl _ _,v,h=>by simp[Eo]at h|.nil,v,h=>by
  simp [Eo]at h;exact⟨LA h,trivial⟩
 |.pt _,v,h=>by simp[Eo]at h|.int k n,v,h=>by
  simp [Eo,qo]at h;exact⟨qy h.1,h.2⟩
 |.bool b,v,h=>by
  simp [Eo]at h;exact⟨nx h,trivial⟩
 |.str s,v,h=>by
  simp [Eo,qo]at h;exact⟨q8 h.1,h.2⟩
 |.list n es,v,h=>by
  simp [Eo]at h
  grind [TV.WF,TV.pq,A3,LA]
 |.agg ts,v,h=>by
  simp [Eo]at h;split at h
  next vs hv=>rw[mo]at h;have:=SU w F ts vs h.1;refine⟨?_,by simpa[TV.WF]using this.2⟩;simp only[A3];exact⟨_,qK hv,u?,by simpa using h.2⟩
  .cases h
 |.clo f cs,v,h=>by
  simp [Eo]at h;obtain⟨rfl,h⟩:=h;refine⟨?_,by simp[TV.WF,TV.pq]⟩;simp[A3];exact⟨#[],uu h,rfl⟩
theorem SU(w:World)(F:Nat->Nat->Prop):∀(ts:List TV)(vs:List Value),LZ ts vs=X->AR w F ts vs/\TV.pq ts
 |[],vs,h=>by simp[LZ]at h;subst h;exact⟨rfl,trivial⟩|t::ts,vs,h=>by
  cases vs with
  |nil=>simp[LZ]at h|cons v vs=>
   simp [LZ]at h;have g:=IZ w F t v h.1;have l:=SU w F ts vs h.2;exact⟨⟨v,vs,rfl,g.1,l.1⟩,g.2,l.2⟩
end
def AK(x:Operand):AH->Bool
 |.s m=>match x with|.tmp n=>n==m|_=>T
 |.c t=>match x with|.const v=>Eo t v|.func f=>Eo t (.func (.func f) #[] #[])|_=>T
section
variable{F0:Nat->Nat->Prop}{w0:W0}{O:AB}{a:Act}{w:World}{G:Bh}
variable{s:Nat}{i:Option Nat}
theorem QI(h:AO F0 w0 O a w G):∀b lo o,G s i=Y (b,lo)->o<lo->¬AW w0.heap.size F0 G b o:=by
 intro b lo o l ho hf;rcases hf with⟨m,g⟩|⟨s',A,lo',u,B⟩
 .exact(h.lt _ _ _ _ l).2.elim (λe=>U) (λe=>h.below.free _ _ _ (e _ (x! _)) g)
 .obtain⟨rfl,rfl⟩:=h.ln _ _ _ _ _ _ _ u l
  grind
variable{n:Nat}{e:EV}
theorem Bz(h:AO F0 w0 O a w G)(he:O.get n=e)(g:e≠.undef):n<a.tmps.size:=by
 rcases y? n a.tmps.size with l|m
 .exact l
 .exact absurd ((h.dom n m).symm.trans he).symm g
theorem At(h:AO F0 w0 O a w G)(he:O.get n=e)(g:e≠.undef):AN a w (AW w0.heap.size F0 G) G O n e (slot a n):=by
 have:=h.slots n (Bz h he g)
 rwa [he]at this
def p6(g:AO F0 w0 O a w G){x:AH}{row:List TV}(h:x.val O=Y (.pt row)):x.ev O=.tv (.pt row):=by
 cases x with
 |c t=>simpa[AH.val,AH.ev,EV.val]using h|s n=>
  simp [AH.val,AH.ev]at h|-;cases he:O.get n with
  |tv t=>rw[he]at h;simpa[EV.val]using h|ow t=>
   rw [he]at h;have m:t=.pt row:=by simpa[EV.val]using h
   subst m;by_cases l:n<a.tmps.size
   .have:=g.slots n l;rw[he]at this;simp[AN,CI]at this
   .rw[g.dom n (Nat.le_of_not_lt l)]at he;cases he
  |_=>rw[he]at h;simp[EV.val]at h
variable{x:Operand}{y:AH}
theorem BF(h:AO F0 w0 O a w G)(l:AK x y=X){t:TV}(hv:y.val O=Y t):A3 w (AW w0.heap.size F0 G) t (a.eval x)/\t.WF:=by
 cases y with
 |s m=>
  cases x<;>simp[AK]at l;subst l;rename_i n;simp[AH.val,AH.ev]at hv;have u:=h.wf n;cases he:O.get n with
  |tv A=>
   rw [he]at hv u;simp[EV.val]at hv;subst hv;exact⟨At h he V,u⟩
  |ow A=>
   rw [he]at hv u;simp[EV.val]at hv;subst hv;exact⟨CI.rep (At h he V) (λb lo o B ho=>QI h b lo o B ho),u⟩
  |undef=>rw[he]at hv;simp[EV.val]at hv|sk=>rw[he]at hv;simp[EV.val]at hv|xo n es=>rw[he]at hv;simp[EV.val]at hv|la q i=>rw[he]at hv;simp[EV.val]at hv|oag cs=>rw[he]at hv;simp[EV.val]at hv|xn es=>rw[he]at hv;simp[EV.val]at hv|x1 n C=>rw[he]at hv;simp[EV.val]at hv|mx m=>rw[he]at hv;simp[EV.val]at hv|nh q i k=>rw[he]at hv;simp[EV.val]at hv|lp q i c=>rw[he]at hv;simp[EV.val]at hv|bx cs=>rw[he]at hv;simp[EV.val]at hv|bp q off=>rw[he]at hv;simp[EV.val]at hv|tp ts=>rw[he]at hv;simp[EV.val]at hv
 |c A=>
  simp [AH.val,AH.ev,EV.val]at hv;subst hv;cases x with
  |const v=>exact IZ w _ _ _ l|func f=>exact IZ w _ _ _ l|tmp n=>simp[AK]at l|global g=>simp[AK]at l
def Yw(h:AO F0 w0 O a w G)(g:AK x y=X){t:TV}(hv:y.ev O=.tv t):A3 w (AW w0.heap.size F0 G) t (a.eval x)/\t.WF:=by grind[BF,AH.val,EV.val]
def Br:List Operand->List AH->Bool
 |[],[]=>X|x::xs,y::ys=>AK x y&&Br xs ys|_,_=>T
def Gh(h:AO F0 w0 O a w G):∀{xs:List Operand}{ys:List AH},Br xs ys=X->∀{ts:List TV},vals O ys=Y ts->AR w (AW w0.heap.size F0 G) ts (xs.map a.eval)/\TV.pq ts
 |[],[],_,ts,hv=>by simp[vals]at hv;subst hv;exact⟨rfl,trivial⟩|[],_::_,g,_,_=>by simp[Br]at g|_::_,[],g,_,_=>by simp[Br]at g|x::xs,y::ys,g,ts,hv=>by
  simp [Br]at g;simp[vals]at hv;split at hv
  next t A B l=>simp at hv;subst hv;have m:=BF h g.1 B;have u:=Gh h g.2 l;exact⟨⟨_,_,rfl,m.1,u.1⟩,m.2,u.2⟩
  .cases hv
end
def Nt(k:IntKind)(n:Int):k.min<=k.wrap n/\k.wrap n<=k.max:=by
 cases k<;>simp only[IntKind.min,IntKind.max,IntKind.wrap,IntKind.signed,IntKind.bits,Bool.true_and,Bool.false_and]<;>simp<;>(try split)<;>omega
end Go.Sf
namespace Go.Sf
open Go.RowKit (Below)
def DI(P:Program)(t:TypeId):Option Nat:=(P.info? t).map (·.size)
def CO(P:Program)(t:TypeId):Option Bool:=
 match P.underlying t with
 |some (.struct _)|some (.array _ _)=>Y X|some _=>Y T|none=>W
def KZ(P:Program)(t:TypeId):Option Nat:=
 match P.underlying t with
 |some (.slice e)=>DI P e|_=>W
def Q1(P:Program)(t:TypeId)(f:Nat):Option Nat:=
 match P.underlying t with
 |some (.struct fs)=>match fs[f]? with
  |some x=>match DI P x.type with
   |some 0=>W|some _=>Y x.offset|none=>W
  |none=>W
 |_=>W
section
variable{P:Program}{w:World}
variable{t:TypeId}{n:Nat}
def CW(h:DI P t=Y n):(sizeOf t).run P w=.ok n w:=by
 simp only[DI,L']at h;obtain⟨i,hi,rfl⟩:=h;simp[sizeOf,typeInfo,hi]
def C4{b:Bool}(h:CO P t=Y b):(isAgg t).run P w=.ok b w:=by
 unfold CO at h;unfold isAgg underlying;simp only[Sem.run_bind,run_program,Result.andThen_ok];cases g:P.underlying t with
 |none=>rw[g]at h;simp at h|some d=>
  rw [g]at h;cases d<;>simp_all
def WA{f k b o:Nat}(h:Q1 P t f=Y k):
  (Instr.fieldAt t (.pointer (Y ⟨b,o,W⟩)) f).run P w=.ok (.pointer (Y ⟨b,o+k,W⟩)) w:=by
 unfold Q1 at h;split at h
 .rename_i B l;split at h
  .rename_i x m;split at h
   .cases h
   next n u A=>simp only[p0]at h;subst h;have g:¬(n=0):=λe=>u (by rw[e]);simp[Instr.fieldAt,run_underlying l,m,Instr.sureAddr,fieldPlace,CW A,g,Addr.add_lit]
   .cases h
  .cases h
 .cases h
variable{ts:List TV}
theorem Uv{F:Nat->Nat->Prop}{b o:Nat}(h:Dn w F ts b o):∃vs:List Value,AR w F ts vs/\(∀x∈vs,x.oneCell'=X)/\∀(j:Nat)(v:Value),vs[j]?=Y v->w.cell? ((⟨b,o,W⟩:Addr).add j)=Y v:=by
 induction ts generalizing o with
 |nil=>exact⟨[],rfl,V,V⟩|cons t ts H=>
  simp only[Dn]at h;obtain⟨⟨v,l,I,m,A⟩,B⟩:=h;obtain⟨vs,C,D,E⟩:=H B;refine⟨v::vs,⟨v,vs,rfl,A,C⟩,by simp only[D',forall_eq_or_imp];exact⟨m,D⟩,λj u g=>?_⟩;rw[Addr.add_lit];cases j with
  |zero=>simp at g;subst g;exact l|succ j=>
   have:=E j u v6;rw[Addr.add_lit]at this
   grind
def BX{F:Nat->Nat->Prop}{vs:List Value}(h:AR w F ts vs):vs.length=ts.length:=((Bt ts vs).1 h).1
variable{v:Value}
def mF{F:Nat->Nat->Prop}{es:List TV}{k:IntKind}{j:Int}(l:KZ P t=Y n)(h:A3 w F (.list n es) v)(J:0<=j){e:TV}(he:es[j.toNat]?=Y e):
  ∃p,(Instr.indexAt t v (.int k j)).run P w=.ok p w/\A3 w F (.pt e.cells) p:=by
 simp only[A3]at h;obtain⟨a,cap,rfl,_,E,H⟩:=h;have g:j.toNat<es.length:=by
  grind
 cases a with
 |none=>have:=E rfl;subst this;simp at g|some A=>
  obtain ⟨m,u⟩:=H A rfl;obtain⟨b,o,I⟩:=A;simp only at m u;have m:I=W:=m.resolve_left (λe=>by subst e;simp at g);subst m;unfold KZ at l;split at l
  .rename_i el B;rw[TF]at u;have C:=u j.toNat e he;have D:0<=j/\j<(es.length:Int):=U
   refine ⟨.pointer (Y ⟨b,o+j.toNat*n,W⟩),?_,?_⟩
   .simp[Instr.indexAt,asIntOf,run_underlying B,D,CW l,Addr.add_lit]
   .simp only[A3];exact⟨b,_,rfl,C.1⟩
  .cases l
end
end Go.Sf
namespace Go.Sf
open Go.RowKit (Below)
def BI(P:Program)(F0:Nat->Nat->Prop)(w0:W0)(a:Act)(w:World)(o:Oper)(d:Nat)(K:EV->AB->Prop):Prop:=
 ∃v w',(execOp a.eval o).run P w=.ok (.value v) w'/\∃e env',K e env'/\CE F0 w0 ((d,e)::env') (a.put (Y d) v) w'
theorem CC:∀{l:List TV},TV.pq l↔∀t∈l,t.WF
 |[]=>by simp[TV.pq]|t::l=>by simp[TV.pq,CC (l:=l)]
theorem JC{t:TV}(h:t.WF):TV.pq t.cells:=by
 cases t with
 |agg cs=>exact h|_=>exact⟨h,trivial⟩
section
variable{P:Program}{S:FuncId->List TV->BA->Prop}{F0:Nat->Nat->Prop}{w0:W0}{O:AB}{a:Act}{w:World}{G:Bh}{d:Nat}{o:Oper}{K:EV->AB->Prop}
variable{v:Value}
theorem C2(h:AO F0 w0 O a w G)(hd:d<a.tmps.size){t:TV}(g:(execOp a.eval o).run P w=.ok (.value v) w)
  (hr:A3 w (AW w0.heap.size F0 G) t v)(l:t.WF)(m:K (.tv t) O):BI P F0 w0 a w o d K:=
 ⟨v,w,g,_,_,m,h.tv_same d hd t v hr l⟩
variable{x:Operand}{y:AH}
def kJ(A:AO F0 w0 O a w G)(hd:d<a.tmps.size)(g:o.op=.move x\/o.op=.assign x)(l:AK x y=X)(h:(AF.mv y).wp S O (Y d) K):BI P F0 w0 a w o d K:=by
 simp [AF.wp]at h;have hv:(∃t,y.val O=Y t/\K (.tv t) O)\/∃ts,y.ev O=.tp ts/\K (.tp ts) O:=by
  unfold AH.val;split at h<;>first|exact h.elim|(rename_i t he;exact .inl ⟨t,by rw[he];rfl,h⟩)|(rename_i t he;exact .inr ⟨t,he,h⟩)
 have m:(execOp a.eval o).run P w=.ok (.value (a.eval x)) w:=by rcases g with g|g<;>simp[execOp,g]
 rcases hv with⟨t,hv,E⟩|⟨ts,hv,E⟩
 .have:=BF A l hv
  grind [C2]
 .cases y with
  |c t=>simp[AH.ev]at hv|s n=>
   have I:x=.tmp n:=by
    cases x<;>simp[AK]at l;rw[l]
   subst I;simp[AH.ev]at hv;have hr:=At A hv V;have D:=A.wf n;rw[hv]at D;refine⟨_,w,m,_,_,E,⟨_,A.quiet (Below.refl _ _) d hd (.tp ts) _ (λ_=>W) V V V ?_ D⟩⟩;simp[AN]at hr|-;obtain⟨vs,L,M⟩:=hr;refine⟨vs,L,A6 (λb o u H hf=>⟨H,λC=>hf ?_⟩) _ _ M⟩;rcases C with B|⟨s,i,lo,B,N⟩
   .exact .inl B
   .by_cases J:s=d
    .grind[CP]
    .rw[Bb _ _ _ _ J]at B;exact .inr ⟨s,i,lo,B,N⟩
def pj(l:AO F0 w0 O a w G)(hd:d<a.tmps.size){c x x':Operand}{c' y y':AH}(m:o.op=.pick c x x')(A:AK c c'=X)(D:AK x y=X)(E:AK x' y'=X)
  (h:(AF.pick c' y y').wp S O (Y d) K):BI P F0 w0 a w o d K:=by
 simp [AF.wp]at h;split at h
 .rename_i q B;have g:=(BF l A B).1;simp[A3]at g;have u:AK (if q then x else x') (if q then y else y')=X:=by cases q<;>assumption
  have hv:∃t,(if q then y else y').val O=Y t/\K (.tv t) O:=by
   unfold AH.val;split at h<;>first|exact h.elim|(rename_i t he;exact⟨t,by rw[he];rfl,h⟩)
  obtain ⟨t,hv,C⟩:=hv;have:=BF l u hv;refine C2 l hd (v:=a.eval (if q then x else x')) ?_ this.1 this.2 C;cases q<;>simp[execOp,m,g,asBool]
 .exact h.elim
variable{t:TypeId}
def s9(m:AO F0 w0 O a w G)(hd:d<a.tmps.size)(g:o.op=.unOp .not t x)(l:AK x y=X)(h:(AF.not y).wp S O (Y d) K):BI P F0 w0 a w o d K:=by
 simp [AF.wp]at h;split at h
 next b hv=>have:=(BF m l hv).1;simp[A3]at this;exact C2 m hd (v:=.bool !b) (t:=.bool !b) (by simp[execOp,g,this,Op.unary]) rfl trivial h
 .exact h.elim
def sz(m:AO F0 w0 O a w G)(hd:d<a.tmps.size)(g:o.op=.unOp .neg t x)(l:AK x y=X)(h:(AF.neg y).wp S O (Y d) K):BI P F0 w0 a w o d K:=by
 simp [AF.wp]at h;split at h
 next k n hv=>have:=(BF m l hv).1;simp[A3]at this;exact C2 m hd (v:=.int k (k.wrap (-n))) (t:=.int k (k.wrap (-n))) (by simp[execOp,g,this,Op.unary,Op.intArith]) rfl (Nt k _) h
 .exact h.elim
def sT(m:AO F0 w0 O a w G)(hd:d<a.tmps.size){s t:TypeId}{k u:IntKind}(g:o.op=.convert s t x)(A:P.underlying s=Y (.int u))(B:P.underlying t=Y (.int k))(l:AK x y=X)(h:(AF.cvt k y).wp S O (Y d) K):BI P F0 w0 a w o d K:=by
 simp [AF.wp]at h;split at h
 next C n hv=>have:=(BF m l hv).1;simp[A3]at this;refine C2 m hd (v:=.int k (k.wrap n)) (t:=.int k (k.wrap n)) ?_ rfl (Nt k _) h;simp[execOp,g,this,convert,run_underlying A,run_underlying B,Conv.intToInt]
 .exact h.elim
variable{f:FuncId}
def sP(m:AO F0 w0 O a w G)(hd:d<a.tmps.size){xs:Array Operand}{ys:List AH}(g:o.op=.makeFunc (.func f) #[] xs)(l:Br xs.toList ys=X)(h:(AF.clo f ys).wp S O (Y d) K):BI P F0 w0 a w o d K:=by
 simp [AF.wp]at h;cases hv:vals O ys with
 |none=>rw[hv]at h;exact h.elim|some ts=>
  rw [hv]at h;have:=Gh m l hv;refine C2 m hd (v:=.func (.func f) #[] (xs.map a.eval)) (by simp[execOp,g,Instr.makeFunc]) ?_ (by simpa[TV.WF]using this.2) h;simp only[A3];exact⟨_,rfl,u?⟩
def sU(l:AO F0 w0 O a w G)(hd:d<a.tmps.size){s i:Nat}(m:o.op=.extract (.tmp s) i)(h:(AF.ext (.s s) i).wp S O (Y d) K):BI P F0 w0 a w o d K:=by
 simp [AF.wp,AH.ev]at h;split at h
 .rename_i ts hv;cases g:ts[i]? with
  |none=>rw[g]at h;exact h.elim|some t=>
   rw [g]at h;have hr:=At l hv V;have A:=l.wf s;rw[hv]at A;simp[AN]at hr;obtain⟨vs,E,B⟩:=hr;rw[Bt]at B;have C:i<ts.length:=by
    grind
   have D:vs.toList[i]?=Y (vs.toList[i]' U):=D_ U;have u:vs[i]?=Y (vs.toList[i]' U):=V
   refine C2 l hd (v:=vs.toList[i]' U) ?_ (B.2 i t _ g D) ?_ h
   .simp[execOp,m,show a.eval (.tmp s)=slot a s from rfl,E,Instr.extract,u]
   .exact CC.1 A t (D! g)
 .exact h.elim
def se(m:AO F0 w0 O a w G)(hd:d<a.tmps.size){t e:TypeId}(g:o.op=.call {callee:=.builtin .len,args:=#[x],argTypes:=#[t]})(l:AK x y=X)
  (he:P.underlying t=Y (.slice e))(h:(AF.len y).wp S O (Y d) K):BI P F0 w0 a w o d K:=by
 simp only[AF.wp]at h;split at h
 next n es hv=>have:=BF m l hv;simp only[A3,TV.WF,LY]at this;obtain⟨⟨A,cap,u,_⟩,B⟩:=this;refine C2 m hd (v:=.int .i64 es.length) (t:=.int .i64 es.length) ?_ rfl ⟨j_,t?⟩ h;simp[execOp,g,resolve,invoke,builtin,Builtin.len_,run_underlying he,u,goInt]
 .exact h.elim
def pu(m:AO F0 w0 O a w G)(hd:d<a.tmps.size)(g:o.op=.call {callee:=.builtin .len,args:=#[x],argTypes:=#[t]})(l:AK x y=X)
  (he:P.underlying t=Y .string)(h:(AF.AbG y).wp S O (Y d) K):BI P F0 w0 a w o d K:=by
 simp only[AF.wp]at h;split at h
 next s hv=>have:=BF m l hv;simp only[A3,TV.WF,LY]at this;refine C2 m hd (v:=.int .i64 s.size) (t:=.int .i64 s.size) ?_ rfl ⟨j_,t?⟩ h;simp[execOp,g,resolve,invoke,builtin,Builtin.len_,run_underlying he,this.1,goInt]
 .exact h.elim
end
end Go.Sf
namespace Go.Sf
open Go.RowKit (Below)
section
variable{P:Program}{S:FuncId->List TV->BA->Prop}{F0:Nat->Nat->Prop}{w0:W0}{O:AB}{a:Act}{w:World}{G:Bh}{d:Nat}{o:Oper}{K:EV->AB->Prop}
variable{s:Nat}{i:Option Nat}{ρ:JJ}{c:AS}
theorem XP(g:AO F0 w0 O a w G){x:Value}(h:BW w (AW w0.heap.size F0 G) ρ (G s i) c x):A3 w (AW w0.heap.size F0 G) c.t x:=by
 obtain ⟨_|_,t⟩:=c
 .exact h.1
 .exact E0.rep h (λb lo o l ho=>QI g b lo o l ho)
theorem Wg{F:Nat->Nat->Prop}{z:Option (Nat×Nat)}{t:TV}{x:Value}(h:CI w F z t x):x.oneCell'=X:=by
 cases t<;>simp[CI]at h;obtain⟨xs,l,_⟩:=h;rcases l.2 with⟨rfl,_⟩|⟨g,cap,m,e,rfl,_⟩<;>rfl
def rG{F:Nat->Nat->Prop}{z:Option (Nat×Nat)}{es:List TV}{x:Value}(h:GI w F ρ z es x):x.oneCell'=X:=by
 obtain ⟨xs,⟨u,l,_⟩,_⟩:=h;rcases l.2 with⟨rfl,_⟩|⟨g,cap,m,e,rfl,_⟩<;>rfl
def QH{F:Nat->Nat->Prop}{z:Option (Nat×Nat)}{t:TV}{x:Value}(h:E0 w F ρ z t x):x.oneCell'=X:=by
 by_cases l:∃es,t=.xn es
 .obtain⟨es,rfl⟩:=l;exact rG h
 by_cases m:∃n es,t=.xl n es
 .obtain⟨n,es,rfl⟩:=m;simp[E0,LK]at h;obtain⟨xs,⟨B,u,_⟩,_⟩:=h;rcases u.2 with⟨rfl,_⟩|⟨g,cap,A,e,rfl,_⟩<;>rfl
 .refine Wg (w:=w) (F:=F) (z:=z) (t:=t) ?_;cases t<;>first|exact h|exact absurd ⟨_,_,rfl⟩ m|exact absurd ⟨_,rfl⟩ l
theorem Hz{F:Nat->Nat->Prop}{z:Option (Nat×Nat)}{x:Value}(h:BW w F ρ z c x):x.oneCell'=X:=by
 obtain ⟨_|_,t⟩:=c
 .exact h.2
 .exact QH h
variable{x:Operand}{y:AH}
def Sp(C:AO F0 w0 O a w G)(D:AK x y=X){cs:List TV}(g:BT O (y.ev O)=Y cs):
  ∃b o vs,a.eval x=.pointer (Y ⟨b,o,W⟩)/\AR w (AW w0.heap.size F0 G) cs vs/\TV.pq cs/\(∀x∈vs,x.oneCell'=X)/\∀(j:Nat)(v:Value),vs[j]?=Y v->w.cell? ((⟨b,o,W⟩:Addr).add j)=Y v:=by
 have box:∀(s off:Nat)(ds:List AS),O.get s=.bx ds->∃b vs,slot a s=.pointer (Y ⟨b,0,W⟩)/\AR w (AW w0.heap.size F0 G) ((ds.drop off).map (·.t)) vs/\TV.pq ((ds.drop off).map (·.t))/\(∀x∈vs,x.oneCell'=X)/\∀(j:Nat)(v:Value),vs[j]?=Y v->w.cell? ((⟨b,off,W⟩:Addr).add j)=Y v:=by
  intro s off ds M;have hr:=At C M V;have I:=C.wf s;rw[M]at I;simp only[AN]at hr;obtain⟨b,c,θ,l,u,E,B,A⟩:=hr;refine⟨b,c.toList.drop off,l,?_,?_,?_,?_⟩
  .rw[Bt];refine⟨by simp[E],λi t v H hv=>?_⟩;simp[D?,E_]at H hv;obtain⟨cell,h,rfl⟩:=H;obtain⟨x,N,hr⟩:=A (off+i) cell h;have:x=v:=by
    grind
   subst this;exact XP C hr
  .rw[CC];intro t H;simp only[E']at H;obtain⟨cell,h,rfl⟩:=H;exact I cell (E! h)
  .intro x N;obtain⟨i,hi,rfl⟩:=List.getElem_of_mem N;rw[List.getElem_drop];have ε:off+i<c.size:=by simp at hi;omega
   have κ:ds[off+i]?=Y (ds[off+i]' U):=D_ U
   grind [Array.getElem?_eq_getElem,Hz]
  .intro j v hv;rw[E_]at hv;rw[Addr.add_lit,cell_of_row w b (off+j) c θ (0,0) u];simpa using hv
 cases y with
 |c t=>
  simp [AH.ev]at g;cases t<;>simp[BT]at g;subst g;have:=BF C D (t:=.pt _) rfl;simp[A3,TV.WF]at this;obtain⟨⟨b,o,l,u⟩,E⟩:=this;obtain⟨vs,B,J,A⟩:=Uv u;exact⟨b,o,vs,l,B,E,J,A⟩
 |s n=>
  cases x<;>simp[AK]at D;subst D;rename_i n;simp[AH.ev]at g;cases he:O.get n with
  |tv t=>
   rw [he]at g;cases t<;>simp[BT]at g;subst g;have hr:=At C he V;have I:=C.wf n;rw[he]at I;simp[AN,A3]at hr;obtain⟨b,o,l,u⟩:=hr;obtain⟨vs,B,J,A⟩:=Uv u;exact⟨b,o,vs,l,B,by simpa[EV.WF,TV.WF]using I,J,A⟩
  |bx ds=>
   rw [he]at g;simp[BT]at g;subst g;obtain⟨b,vs,l,u,E,L,B⟩:=box n 0 ds he;exact⟨b,0,vs,l,d?,l',L,B⟩
  |bp q off=>
   rw [he]at g;simp only[BT]at g;split at g
   next ds R=>simp only[p0]at g;subst g;obtain⟨b,vs,l,u,E,L,B⟩:=box q off ds R;have hr:=At C he V;simp only[AN]at hr;obtain⟨η,A,J⟩:=hr ⟨ds,R⟩;rw[l]at A;simp at A;subst A;exact⟨b,off,vs,J,u,E,L,B⟩
   .cases g
  |undef=>rw[he]at g;simp[BT]at g|sk=>rw[he]at g;simp[BT]at g|xo n es=>rw[he]at g;simp[BT]at g|la q i=>rw[he]at g;simp[BT]at g|oag cs=>rw[he]at g;simp[BT]at g|xn es=>rw[he]at g;simp[BT]at g|x1 n ζ=>rw[he]at g;simp[BT]at g|mx m=>rw[he]at g;simp[BT]at g|nh q i k=>rw[he]at g;simp[BT]at g|lp q i c=>rw[he]at g;simp[BT]at g|ow t=>rw[he]at g;simp[BT]at g|tp ts=>rw[he]at g;simp[BT]at g
variable{t:TypeId}
def wL(A:AO F0 w0 O a w G)(hd:d<a.tmps.size)(g:o.op=.load t x)(l:AK x y=X)(D:CO P t=Y T)(h:(AF.ld y).wp S O (Y d) K):BI P F0 w0 a w o d K:=by
 simp [AF.wp]at h;cases m:BT O (y.ev O)with
 |none=>rw[m]at h;exact h.elim|some cs=>
  rw [m]at h;simp[A0]at h;obtain⟨b,off,vs,E,C,H,_,I⟩:=Sp A l m;cases cs with
  |nil=>simp[IJ]at h|cons u r=>
   simp [IJ]at h;replace h:=h.2;simp[AR]at C;obtain⟨v,L,rfl,J,M⟩:=C;have B:=I 0 v rfl;rw[Addr.add_zero']at B;refine C2 A hd (v:=v) ?_ J H.1 h;simp[execOp,g,E,Instr.loadAt,Instr.sureAddr,loadVar,C4 D,B]
variable{n:Nat}
def Xx(A:AO F0 w0 O a w G)(hd:d<a.tmps.size)(l:o.op=.load t x)(m:AK x y=X)(B:CO P t=Y X)(C:DI P t=Y n)(h:(AF.lda y n).wp S O (Y d) K):BI P F0 w0 a w o d K:=by
 simp [AF.wp]at h;cases u:BT O (y.ev O)with
 |none=>rw[u]at h;exact h.elim|some cs=>
  rw [u]at h;simp[A0]at h;obtain⟨b,off,vs,D,E,L,H,I⟩:=Sp A m u;have J:=BX E;have g:=run_loadCells_list (P:=P) w ⟨b,off,W⟩ (vs.take n) (λj v hv=>I j v (by rw[E?]at hv;split at hv<;>simp_all));rw[B!,z? U]at g;refine C2 A hd (v:=.agg (vs.take n).toArray) (t:=.agg (cs.take n)) ?_ ?_ ?_ h.2
  .simp[execOp,l,D,Instr.loadAt,Instr.sureAddr,loadVar,C4 B,CW C,g]
  .grind[A3,C!,F_,Bt]
  grind [TV.WF,CC,F_]
variable{j:AH}
def sV(l:AO F0 w0 O a w G)(hd:d<a.tmps.size){x i:Operand}(u:o.op=.indexAddr t x i)(A:AK x y=X)(g:AK i j=X)(C:KZ P t=Y n)(h:(AF.iad y j n).wp S O (Y d) K):BI P F0 w0 a w o d K:=by
 simp [AF.wp]at h;split at h
 .rename_i m es k M D E;obtain⟨rfl,I,e,he,J⟩:=h;have H:=BF l A D;have B:=BF l g E;simp[A3]at B;obtain⟨p,hr,L⟩:=mF (P:=P) (k:=k) C H.1 I he;refine C2 l hd (v:=p) (by simp[execOp,u,B.1,hr]) L ?_ J
  grind [TV.WF,CC,D!,JC]
 .exact h.elim
def pk(l:AO F0 w0 O a w G)(hd:d<a.tmps.size){x i:Operand}(m:o.op=.index t x i)(u:AK x y=X)(g:AK i j=X)(C:P.underlying t=Y .string)(h:(AF.Aav y j).wp S O (Y d) K):BI P F0 w0 a w o d K:=by
 simp [AF.wp]at h;split at h
 .rename_i s k J D E;obtain⟨H,b,hb,I⟩:=h;have A:=BF l u D;have B:=BF l g E;simp[A3]at A B;refine C2 l hd (v:=.int .u8 b.toNat) (t:=.int .u8 b.toNat) ?_ rfl ⟨by simp[IntKind.min,IntKind.signed],?_⟩ I
  .simp[execOp,m,A.1,B.1,Instr.index,asIntOf,run_underlying C,H,hb]
  .have:=b.toNat_lt;simp[IntKind.max,IntKind.signed,IntKind.bits];omega
 .exact h.elim
def Za{f k:Nat}(g:o.op=.fieldAddr t x f)(l:Q1 P t f=Y k):∀b off,a.eval x=.pointer (Y ⟨b,off,W⟩)->(execOp a.eval o).run P w=.ok (.value (.pointer (Y ⟨b,off+k,W⟩))) w:=by
 intro b off h;simp[execOp,g,h,WA l]
def R6(g:o.op=.move x\/o.op=.assign x\/o.op=.nilCheck x):∀b off,a.eval x=.pointer (Y ⟨b,off,W⟩)->(execOp a.eval o).run P w=.ok (.value (.pointer (Y ⟨b,off+0,W⟩))) w:=by
 intro b off h;rcases g with g|g|g<;>simp[execOp,g,h]
variable{k:Nat}
def Sj(m:AO F0 w0 O a w G)(hd:d<a.tmps.size)(g:∀b off,a.eval x=.pointer (Y ⟨b,off,W⟩)->(execOp a.eval o).run P w=.ok (.value (.pointer (Y ⟨b,off+k,W⟩))) w)(l:AK x y=X)(h:(AF.fad y k).wp S O (Y d) K):BI P F0 w0 a w o d K:=by
 simp [AF.wp]at h;split at h
 .rename_i row he;have A:=Yw m l he;simp[A3,TV.WF]at A;obtain⟨⟨b,off,C,D⟩,H⟩:=A;refine C2 m hd (v:=.pointer (Y ⟨b,off+k,W⟩)) (t:=.pt (row.drop k)) (g _ _ C) ?_ ?_ h
  .simp only[A3];exact⟨b,_,rfl,Qp D k⟩
  grind [TV.WF,CC,E!]
 .rename_i q off he;cases y with
  |c t=>simp[AH.ev]at he|s n=>
   cases x<;>simp[AK]at l;subst l;rename_i n;simp[AH.ev]at he;have hr:=At m he V;simp only[AN]at hr;split at h
   .rename_i u B;obtain⟨b,I,E⟩:=hr ⟨u,B⟩;refine⟨.pointer (Y ⟨b,off+k,W⟩),w,g _ _ E,_,_,h,_,m.quiet (Below.refl _ _) d hd (.bp q (off+k)) _ (λ_=>W) V V V ?_ trivial⟩
    grind [AN,AB.d7,AZ]
   .exact h.elim
 .exact h.elim
def Si(l:AO F0 w0 O a w G)(hd:d<a.tmps.size)(g:∀b off,a.eval (.tmp s)=.pointer (Y ⟨b,off,W⟩)->(execOp a.eval o).run P w=.ok (.value (.pointer (Y ⟨b,off+k,W⟩))) w)(h:(AF.bad s k).wp S O (Y d) K):BI P F0 w0 a w o d K:=by
 simp [AF.wp]at h;split at h
 .rename_i cs he;have hr:=At l he V;simp only[AN]at hr;obtain⟨b,c,θ,m,_⟩:=hr;refine⟨.pointer (Y ⟨b,0+k,W⟩),w,g _ _ m,_,_,h,_,l.quiet (Below.refl _ _) d hd (.bp s k) _ (λ_=>W) V V V ?_ trivial⟩
  grind [AN,AB.d7,AZ]
 .rename_i row he;have m:=Yw l (x:=.tmp s) (y:=.s s) r? he;simp[A3,TV.WF]at m;obtain⟨⟨b,off,u,A⟩,B⟩:=m;refine C2 l hd (v:=.pointer (Y ⟨b,off+k,W⟩)) (t:=.pt (row.drop k)) (g _ _ u) ?_ ?_ h
  .simp only[A3];exact⟨b,_,rfl,Qp A k⟩
  grind [TV.WF,CC,E!]
 .exact h.elim
def sK(m:AO F0 w0 O a w G)(hd:d<a.tmps.size){x i:Operand}{t e:TypeId}(u:o.op=.indexAddr t x i)(A:AK x y=X)(g:AK i j=X)(B:P.underlying t=Y (.array k e))(H:DI P e=Y n)
  (h:(AF.aad y j n k).wp S O (Y d) K):BI P F0 w0 a w o d K:=by
 simp [AF.wp]at h;split at h
 .rename_i row κ l I C;obtain⟨L,M,η,N⟩:=h;have D:=(BF m g C).1;simp[A3]at D;have J:∃b off,a.eval x=.pointer (Y ⟨b,off,W⟩)/\Dn w (AW w0.heap.size F0 G) row b off/\TV.pq row:=by
   have:=Yw m A I
   grind [A3,TV.WF]
  obtain ⟨b,off,R,ε,E⟩:=J;have C:0<=l/\l<(k:Int):=⟨L,M⟩;refine C2 m hd (v:=.pointer (Y ⟨b,off+l.toNat*n,W⟩)) (t:=.pt (row.drop (l.toNat*n))) ?_ ?_ ?_ N
  .simp[execOp,u,D,R,Instr.indexAt,asIntOf,run_underlying B,C,Instr.sureAddr,CW H,Addr.add_lit]
  .simp only[A3];exact⟨b,_,rfl,Qp ε _⟩
  .simp[TV.WF];rw[CC]at E|-;exact λt B=>E t (E! B)
 .exact h.elim
def lZ(P:Program)(t:TypeId)(j:Operand)(k:Nat):Bool:=
 match j,P.underlying t with
 |.const (.int _ i),Y (.array m e)=>decide (0<=i)&&decide (i<(m:Int))&&(match DI P e with
  |some n=>i.toNat*n==k|none=>T)
 |_,_=>T
def uR{P:Program}{o:Oper}{a:Act}{w:World}{j:Operand}(u:o.op=.indexAddr t (.tmp s) j)(g:lZ P t j k=X)(b off:Nat)(h:a.eval (.tmp s)=.pointer (Y ⟨b,off,W⟩)):(execOp a.eval o).run P w=.ok (.value (.pointer (Y ⟨b,off+k,W⟩))) w:=by
 unfold lZ at g;split at g
 .rename_i A i m e B;simp[qo]at g;obtain⟨⟨H,I⟩,l⟩:=g;split at l
  next n C=>simp at l;subst l;have D:0<=i/\i<(m:Int):=⟨H,I⟩;have E:a.eval (.const (.int A i))=.int A i:=rfl;simp[execOp,u,h,E,Instr.indexAt,asIntOf,run_underlying B,D,Instr.sureAddr,CW C,Addr.add_lit]
  .cases l
 .cases g
def VZ(g:TypeId->Option (List Nat))(P:Program):List Field->Nat->Option (List Nat)
 |[],_=>Y []|f::fs,off=>match g f.type with
  |some ks=>if(f.name≠ "_" /\f.offset=off)/\DI P f.type=Y ks.length then(match VZ g P fs (off+ks.length)with|some r=>Y (ks ++ r)|none=>W)else W
  |none=>W
def Rf(P:Program):Nat->TypeId->Option (List Nat)
 |0,_=>W|k+1,t=>match P.underlying t with
  |some (.int _)=>Y [0]|some .string=>Y [1]|some .bool=>Y [2]|some (.struct fs)=>if P.stoodInHeld t then W else VZ (Rf P k) P fs.toList 0|_=>W
def Pc(P:Program):BK->TypeId->Bool
 |.i,_=>X|.s,_=>X|.w,_=>X|.b,t=>match P.underlying t with|some .bool=>X|_=>T
 |.a n,t=>CO P t==Y X&&!P.eqGuardType P.depth t&&Rf P 8 t==Y n
def TV.Aaa:TV->Value
 |.int k n=>.int k n|.str s=>.string s|.bool b=>.bool b|_=>Go.undef
def TV.AaK:TV->Bool
 |.int _ _=>X|.str _=>X|.bool _=>X|_=>T
def TR:∀{cs ds:List TV}{r:Bool},CN cs ds=Y r->cs.length=ds.length/\(∀t∈cs,t.AaK=X)/\(∀t∈ds,t.AaK=X)
 |[],[],_,_=>by simp|[],_::_,_,h=>by simp[CN]at h|c::cs,[],_,h=>by cases c<;>simp[CN]at h
 |c::cs,d::ds,r,h=>by
  have key:∀l,CN cs ds=Y l->c.AaK=X->d.AaK=X->(c::cs).length=(d::ds).length/\(∀t∈c::cs,t.AaK=X)/\(∀t∈d::ds,t.AaK=X):=by
   intro l g m u;obtain⟨A,B,C⟩:=TR g
   grind
  cases c<;>cases d<;>simp only[CN,reduceCtorEq]at h
  .split at h
   .split at h
    next q g=>exact key q g rfl rfl
    .cases h
   .cases h
  .split at h
   next q g=>exact key q g rfl rfl
   .cases h
  .split at h
   next q g=>exact key q g rfl rfl
   .cases h
variable{v:Value}
def r7{F:Nat->Nat->Prop}{t:TV}(g:t.AaK=X)(h:A3 w F t v):v=t.Aaa:=by
 cases t<;>simp[TV.AaK]at g<;>exact h
def TZ{F:Nat->Nat->Prop}:∀{cs:List TV}{xs:List Value},(∀t∈cs,t.AaK=X)->AR w F cs xs->xs=cs.map TV.Aaa
 |[],_,_,h=>h|c::cs,xs,g,h=>by
  simp [AR]at h;obtain⟨v,r,rfl,m,u⟩:=h;rw[r7 (g c V) m,TZ (λt l=>g t (by simp[l])) u];rfl
def PS:∀(m:Nat){cs ds:List TV}{r:Bool},CN cs ds=Y r->∃g l,CN (cs.take m) (ds.take m)=Y g/\CN (cs.drop m) (ds.drop m)=Y l/\r=(g&&l)
 |0,cs,ds,r,h=>⟨X,r,by simp[CN],b?,V⟩|m+1,[],[],r,h=>by
  grind
 |m+1,[],_::_,_,h=>by simp[CN]at h|m+1,c::cs,[],_,h=>by cases c<;>simp[CN]at h
 |m+1,c::cs,d::ds,r,h=>by
  cases c<;>cases d<;>simp only[CN,reduceCtorEq]at h
  .split at h
   .rename_i D;split at h
    .rename_i q u;obtain⟨g,l,A,B,C⟩:=PS m u
     grind [p0,CN,L?]
    .cases h
   .cases h
  .split at h
   .rename_i q u;obtain⟨g,l,A,B,C⟩:=PS m u
    grind [p0,CN,L?]
   .cases h
  .split at h
   .rename_i q u;obtain⟨g,l,A,B,C⟩:=PS m u
    grind [p0,CN,L?]
   .cases h
def Oj(P:Program)(t:TypeId)(vs:List Value):Value:=if CO P t=Y X then .agg vs.toArray else vs.headD Go.undef
def Sw:∀{cs ds:List TV}{r:Bool},CN cs ds=Y r->ds.map TV.kd=cs.map TV.kd
 |[],[],_,_=>rfl|[],_::_,_,h=>by simp[CN]at h|c::cs,[],_,h=>by cases c<;>simp[CN]at h
 |c::cs,d::ds,r,h=>by
  cases c<;>cases d<;>simp only[CN,reduceCtorEq]at h
  .split at h
   .split at h
    next q g=>simp[Sw g,TV.kd]
    .cases h
   .cases h
  .split at h
   next q g=>simp[Sw g,TV.kd]
   .cases h
  .split at h
   next q g=>simp[Sw g,TV.kd]
   .cases h
def aH(k:Nat)(κ:∀(t:TypeId)(n:List Nat),Rf P k t=Y n->∀d,k<=d->∀(cs ds:List TV)(r:Bool),cs.map TV.kd=n->CN cs ds=Y r->(Op.equalIn d t (Oj P t (cs.map TV.Aaa)) (Oj P t (ds.map TV.Aaa))).run P w=.ok r w):
  ∀(H:List Field)(off:Nat)(n:List Nat),VZ (Rf P k) P H off=Y n->∀d,k<=d->∀(g m:List Value)(cs ds:List TV)(r:Bool),g.length=off->m.length=off->cs.map TV.kd=n->CN cs ds=Y r ->
   (Op.eqFields d (g++cs.map TV.Aaa).toArray (m++ds.map TV.Aaa).toArray H).run P w=.ok r w
 |[],off,n,hf,d,hd,g,m,cs,ds,r,Z,h2,E,h=>by
  simp [VZ]at hf;subst hf;have:cs=[]:=List.map_eq_nil_iff.1 E;subst this;cases ds<;>simp[CN]at h;subst h;simp[Op.eqFields]
 |f::H,off,n,hf,d,hd,g,m,cs,ds,r,Z,h2,E,h=>by
  simp [VZ]at hf;split at hf
  .rename_i l u;split at hf
   .rename_i hc;split at hf
    .rename_i rest D;simp at hf;subst hf;obtain⟨⟨hn,ho⟩,R⟩:=hc;have hcl:cs.length=l.length+rest.length:=by
      have:=congrArg List.length E;simpa using this
     obtain ⟨δ,r2,e1,e2,rfl⟩:=PS l.length h;have ζ:=(TR h).1;have hdl:ds.length=l.length+rest.length:=U
     have M:(cs.take l.length).map TV.kd=l:=by rw[F!,E,List.take_left'];rfl
     have N:(cs.drop l.length).map TV.kd=rest:=by rw[List.map_drop,E,List.drop_left'];rfl
     have hi:=κ f.type l u d hd (cs.take l.length) (ds.take l.length) δ M e1;have C:=aH k κ H (off+l.length) rest D d hd (g++(cs.take l.length).map TV.Aaa) (m++(ds.take l.length).map TV.Aaa) (cs.drop l.length) (ds.drop l.length) r2 an an N e2;have A:∀(g:List Value)(cs:List TV),g++(cs.take l.length).map TV.Aaa++(cs.drop l.length).map TV.Aaa=g++cs.map TV.Aaa:=by
      intro g cs;rw[C_,<-List.map_append,List.take_append_drop]
     rw [A,A]at C;have B:∀(g:List Value)(cs:List TV),g.length=off->l.length<=cs.length->(0<l.length\/CO P f.type=Y X)->(∃b,CO P f.type=Y b)->(part f.type (g++cs.map TV.Aaa).toArray f.offset).run P w=.ok (Oj P f.type ((cs.take l.length).map TV.Aaa)) w:=by
      intro g cs η J L hb;obtain⟨b,hb⟩:=hb;cases b with
      |true=>
       simp only[part,Sem.run_bind,C4 hb,Result.andThen_ok,if_true,CW R,Sem.run_pure,Oj,hb];congr 2;rw[List.extract_toArray,List.extract_eq_take_drop,ho,<-η,List.drop_left,A_,<-F!]
      |false=>
       have h0:0<l.length:=by
        rcases L with h|h
        .exact h
        .rw[hb]at h;cases h
       cases cs with
       |nil=>exact absurd (y! h0 J) V|cons c cs=>
        obtain ⟨m',ε⟩:∃m',l.length=m'+1:=⟨l.length-1,U⟩;have:((g++(c::cs).map TV.Aaa).toArray)[f.offset]?=Y c.Aaa:=by
         rw [F?,ho,<-η,G_ (x! _),A'];rfl
        simp only[part,Sem.run_bind,C4 hb,Result.andThen_ok,M_,if_false,this,Sem.run_pure,Oj,hb,ε];simp
     have hb:(∃b,CO P f.type=Y b)/\(0<l.length\/CO P f.type=Y X):=by
      cases k with
      |zero=>simp[Rf]at u|succ k=>
       simp [Rf]at u;unfold CO;split at u<;>rename_i I
       .simp at u;subst u;rw[I];exact⟨⟨_,rfl⟩,.inl V⟩
       .simp at u;subst u;rw[I];exact⟨⟨_,rfl⟩,.inl V⟩
       .simp at u;subst u;rw[I];exact⟨⟨_,rfl⟩,.inl V⟩
       .rw[I];exact⟨⟨_,rfl⟩,.inr rfl⟩
       .cases u
     have p1:=B g cs Z U hb.2 hb.1;have p2:=B m ds h2 U hb.2 hb.1;simp only[Op.eqFields,Sem.run_bind,Sem.run_ite,if_pos hn,p1,p2,hi,Result.andThen_ok];cases δ with
     |true=>simpa using C|false=>simp
    .cases hf
   .cases hf
  .cases hf
theorem nE(a b:ByteArray):(a.toList==b.toList)=decide (a=b):=by
 rw [M',beq_iff_eq,qo];refine⟨λh=>?_,λh=>by rw[h]⟩;rw[ByteArray.toList_eq,ByteArray.toList_eq]at h;cases a;cases b;simpa using h
def jN:∀(k:Nat)(t:TypeId)(n:List Nat),Rf P k t=Y n->∀d,k<=d->∀(cs ds:List TV)(r:Bool),cs.map TV.kd=n->CN cs ds=Y r->(Op.equalIn d t (Oj P t (cs.map TV.Aaa)) (Oj P t (ds.map TV.Aaa))).run P w=.ok r w
 |0,_,_,h,_,_,_,_,_,_,_=>by simp[Rf]at h|k+1,t,n,hf,d,hd,cs,ds,r,I,h=>by
  obtain ⟨d,rfl⟩:∃L,d=L+1:=⟨d-1,U⟩;have E:=Sw h;simp[Rf]at hf;have one:∀x,n=[x]->CO P t=Y T->∃c e,cs=[c]/\ds=[e]/\c.kd=x/\e.kd=x/\Oj P t (cs.map TV.Aaa)=c.Aaa/\Oj P t (ds.map TV.Aaa)=e.Aaa:=by
   intro x M ε;rw[M]at I
   match cs,ds,I,E with
   |[c],[e],C,D=>
    grind [List.cons.injEq,Oj]
   |[],_,C,_=>simp at C|[c],[],_,D=>simp at D|[c],_::_::_,_,D=>simp at D|_::_::_,_,C,_=>simp at C
  split at hf<;>rename_i g
  .simp at hf;obtain⟨c,e,rfl,rfl,m,u,A,B⟩:=one 0 hf.symm (by simp[CO,g]);rw[A,B];cases c<;>first|(simp[TV.kd]at m;done)|skip
   cases e<;>first|(simp[TV.kd]at u;done)|skip
   simp only[CN]at h;split at h
   next N=>subst N;simp at h;simp[TV.Aaa];rw[run_equalIn_int (P:=P) w d t _ _ _ _ g,<-h];congr 1
   .cases h
  .simp at hf;obtain⟨c,e,rfl,rfl,m,u,A,B⟩:=one 1 hf.symm (by simp[CO,g]);rw[A,B];cases c<;>first|(simp[TV.kd]at m;done)|skip
   cases e<;>first|(simp[TV.kd]at u;done)|skip
   simp [CN]at h;simp[TV.Aaa];rw[run_equalIn_string (P:=P) w d t _ _ g,<-h]
   grind [nE]
  .simp at hf;obtain⟨c,e,rfl,rfl,m,u,A,B⟩:=one 2 hf.symm (by simp[CO,g]);rw[A,B];cases c<;>first|(simp[TV.kd]at m;done)|skip
   cases e<;>first|(simp[TV.kd]at u;done)|skip
   simp [CN]at h;simp[TV.Aaa];rw[run_equalIn_bool' (P:=P) w d t _ _ g,<-h];congr 1
  .split at hf
   .cases hf
   .rename_i J R;have H:CO P t=Y X:=by simp[CO,g]
    have l:P.fieldsOf t=J:=by simp[Program.fieldsOf,g]
    simp [Oj,H];rw[run_equalIn_struct w d t _ _ (by rw[l];exact g) (by simpa using R),l];exact aH k (jN k) J.toList 0 n hf d U [] [] cs ds r rfl rfl I h
  .cases hf
variable{vx vy:Value}
def Xr{op:BinOp}{x y:Operand}{cs ds:List TV}{q:Bool}{n:List Nat}(H:cs.map TV.kd=n){F:Nat->Nat->Prop}(B:Pc P (.a n) t=X)(g:A3 w F (.agg cs) vx)(h:A3 w F (.agg ds) vy)(C:CN cs ds=Y q):
  ∃xs ys,vx=.agg xs/\vy=.agg ys/\(eqGuard op t x y (.agg xs) (.agg ys)).run P w=.ok () w/\(Op.equalIn 10000 t (.agg xs) (.agg ys)).run P w=.ok q w:=by
 simp [A3]at g h;obtain⟨xs,rfl,g,_⟩:=g;obtain⟨ys,rfl,h,_⟩:=h;simp only[Pc,mo,Bool.not_eq_true']at B;obtain⟨⟨D,I⟩,E⟩:=B;obtain⟨J,u,A⟩:=TR C;refine⟨xs,ys,rfl,rfl,run_eqGuard_agg w op t x y xs ys I,?_⟩;simp at D E;have l:=TZ u g;have m:=TZ A h;have:=jN (P:=P) (w:=w) 8 t n E 10000 U cs ds q H C;simp[Oj,D,<-l,<-m]at this;simpa using this
def wC{op:BinOp}{x y:Operand}{k l:IntKind}{a b r:Int}{F:Nat->Nat->Prop}(m:k=l\/op=.shl\/op=.shr)(hb:Gy k op a b=Y r):
  ∃v,(do eqGuard op t x y (.int k a) (.int l b);binOp op t (.int k a) (.int l b):Sem Value).run P w=.ok v w/\A3 w F (.int k r) v/\(TV.int k r).WF:=by
 have g:∀(op:BinOp)(q:Value),k=l->(op=.and\/op=.or\/op=.xor\/op=.andNot)->(Op.intBits op k a b).run P w=.ok q w->(do eqGuard op t x y (.int k a) (.int l b);binOp op t (.int k a) (.int l b):Sem Value).run P w=.ok q w:=by
  intro op q e ho h;subst e;rcases ho with rfl|rfl|rfl|rfl<;>simpa[eqGuard,binOp]using h
 cases op<;>simp only[Gy]at hb<;>try(cases hb;done)
 case and=>cases hb;exact⟨_,g _ _ v! V rfl,rfl,Nt _ _⟩
 case or=>cases hb;exact⟨_,g _ _ v! V rfl,rfl,Nt _ _⟩
 case xor=>cases hb;exact⟨_,g _ _ v! V rfl,rfl,Nt _ _⟩
 case andNot=>cases hb;exact⟨_,g _ _ v! V rfl,rfl,Nt _ _⟩
 case shl=>
  split at hb
  next u=>cases hb;exact⟨_,by simp[eqGuard,binOp,Op.shift,Int.not_lt.2 u],rfl,Nt _ _⟩
  .cases hb
 case shr=>
  split at hb
  next u=>cases hb;exact⟨_,by simp[eqGuard,binOp,Op.shift,Int.not_lt.2 u.1],rfl,u.2⟩
  .cases hb
def wB{k:BK}{op:BinOp}{x y:Operand}{E ty r:TV}{F:Nat->Nat->Prop}(N:Pc P k t=X)(hb:NN k op E ty=Y r)(g:A3 w F E vx)(l:A3 w F ty vy)(H:E.WF)(R:ty.WF):
  ∃v,(do eqGuard op t x y vx vy;binOp op t vx vy:Sem Value).run P w=.ok v w/\A3 w F r v/\r.WF:=by
 unfold NN at hb;split at hb
 .rename_i k a ε b;simp[A3]at g l;subst g;subst l;split at hb
  .rename_i m;subst m;rw[Sem.run_bind,eqGuard_at_int,Sem.run_pure,Result.andThen_ok];have B:op=.quo\/op=.rem\/(op≠.quo/\op≠.rem):=by cases op<;>simp
   rcases B with rfl|rfl|⟨u,hr⟩
   .by_cases A:b=0
    .simp[intCmp,intArith,A]at hb
    .simp[intCmp,intArith,A]at hb;subst hb;exact⟨_,by simp[binOp,Op.intDiv,A],rfl,Nt _ _⟩
   .by_cases A:b=0
    .simp[intCmp,intArith,A]at hb
    .simp[intCmp,intArith,A]at hb;subst hb;refine⟨_,by simp[binOp,Op.intDiv,A],rfl,?_⟩;simp[TV.WF]at H|-;have C:a.tmod b<=max a 0/\min a 0<=a.tmod b:=by
      have D:=Int.natAbs_tmod a b;have δ:=Nat.mod_le a.natAbs b.natAbs;rcases Int.le_total 0 a with h|h
      .grind[Int.tmod_nonneg]
      .have Z:=Int.tmod_nonneg (a:=-a) b U
       grind [Int.neg_tmod]
     have h4:k.min<=0:=by cases k<;>decide
     have h5:0<=k.max:=by cases k<;>decide
     omega
   .cases op<;>simp[intCmp,intArith]at hb u hr<;>subst hb<;>(refine⟨_,?_,rfl,?_⟩)<;>first|(simp[binOp,Op.intCmp,Op.intArith];done)|exact trivial|exact Nt _ _|skip
    all_goals (simp[binOp,Op.intCmp];rw[M'];simp)
  .cases hb
 .rename_i op k a ε b;simp[A3]at g l;subst g;subst l;split at hb
  .rename_i m;split at hb
   next ζ u=>simp at hb;subst hb;exact wC m u
   .cases hb
  .cases hb
 .simp[A3]at g l;subst g;subst l;simp at hb;subst hb;exact⟨_,by simp[eqGuard,binOp,Op.stringOp,beq_toListBytes],rfl,trivial⟩
 .simp[A3]at g l;subst g;subst l;simp at hb;subst hb;exact⟨_,by simp[eqGuard,binOp,Op.stringOp,beq_toListBytes],rfl,trivial⟩
 .simp[A3]at g l;subst g;subst l;rename_i κ η;split at hb
  .rename_i I;simp at hb;subst hb;have L:¬(((κ.size+η.size:Nat):Int)>IntKind.i64.max):=by
    have hm:IntKind.i64.max=9223372036854775807:=a!
    grind [AX]
   refine ⟨_,by simp only[eqGuard,binOp,Op.stringOp];rw[if_neg L];simp,rfl,by simp[TV.WF];exact Vq I⟩
  .cases hb
 .simp[A3]at g l;subst g;subst l;simp at hb;subst hb;have M:P.underlying t=Y .bool:=by
   grind [Pc]
  exact ⟨_,by simp[eqGuard_at_bool,binOp,Op.equal,Op.maxDepth,run_equalIn_bool' (P:=P) w _ t _ _ M],rfl,trivial⟩
 .simp[A3]at g l;subst g;subst l;simp at hb;subst hb;have M:P.underlying t=Y .bool:=by
   grind [Pc]
  exact ⟨_,by simp[eqGuard_at_bool,binOp,Op.equal,Op.maxDepth,run_equalIn_bool' (P:=P) w _ t _ _ M],rfl,trivial⟩
 .rename_i cs ds;split at hb
  .rename_i J;split at hb
   next q u=>simp at hb;subst hb;obtain⟨xs,ys,rfl,rfl,C,D⟩:=Xr (op:=.eql) (x:=x) (y:=y) J N g l u;exact⟨_,by simp[C,run_eql_struct,D],rfl,trivial⟩
   .cases hb
  .cases hb
 .rename_i cs ds;split at hb
  .rename_i J;split at hb
   next q u=>simp at hb;subst hb;obtain⟨xs,ys,rfl,rfl,C,D⟩:=Xr (op:=.neq) (x:=x) (y:=y) J N g l u;exact⟨_,by simp[C,run_neq_struct,D],rfl,trivial⟩
   .cases hb
  .cases hb
 .cases hb
variable{y':AH}
def sN{S:FuncId->List TV->BA->Prop}{F0:Nat->Nat->Prop}{w0:W0}{O:AB}{a:Act}{G:Bh}{d:Nat}{o:Oper}{K:EV->AB->Prop}(g:AO F0 w0 O a w G)(hd:d<a.tmps.size){x x':Operand}{k:BK}{op:BinOp}{t A:TypeId}
  (l:o.op=.binOp op t x x' A)(B:Pc P k t=X)(C:AK x y=X)(D:AK x' y'=X)(h:(AF.bin k op y y').wp S O (Y d) K):BI P F0 w0 a w o d K:=by
 simp [AF.wp]at h;split at h
 .rename_i E ty H I;cases hb:NN k op E ty with
  |none=>rw[hb]at h;exact h.elim|some r=>
   rw [hb]at h;have m:=BF g C H;have u:=BF g D I;obtain⟨v,hr,J,L⟩:=wB (x:=x) (y:=x') B hb m.1 u.1 m.2 u.2;refine C2 g hd (v:=v) ?_ J L h;simp only[execOp,l,Sem.run_bind]at hr|-;rw[hr];rfl
 .exact h.elim
end
end Go.Sf
namespace Go.Sf
open Go.RowKit (Below)
def Pe:Option Operand->Option AH->Bool
 |none,W=>X|some x,Y y=>AK x y|_,_=>T
section
variable{P:Program}{S:FuncId->List TV->BA->Prop}{F0:Nat->Nat->Prop}{w0:W0}{O:AB}{a:Act}{w:World}{G:Bh}{d:Nat}{o:Oper}{K:EV->AB->Prop}
def WS(h:AO F0 w0 O a w G){x:Option Operand}{y:Option AH}(g:Pe x y=X){k:IntKind}{q l:Int}(hv:IP O q y=Y (.int k l)):
  (x=W/\l=q)\/∃v m,x=Y v/\a.eval v=.int m l:=by
 cases y with
 |none=>
  cases x<;>simp[Pe]at g;simp[IP]at hv;exact .inl ⟨rfl,hv.2.symm⟩
 |some y=>
  cases x<;>simp[Pe]at g;rename_i v;have:=(BF h g (t:=.int k l) hv).1;simp[A3]at this;exact .inr ⟨v,k,rfl,this⟩
def Uy{isS:Bool}{len cap:Nat}{lo hi:Option Value}{l h:Int}(A:0<=l)(B:l<=h)(C:h<=len)(D:len<=cap)
  (g:(lo=W/\l=0)\/∃k,lo=Y (.int k l))(m:(hi=W/\h=len)\/∃k,hi=Y (.int k h)):
  (Instr.sliceBounds isS len cap lo hi W).run P w=.ok (l.toNat,h.toNat,cap) w:=by
 rcases g with⟨rfl,rfl⟩|⟨k,rfl⟩<;>rcases m with⟨rfl,rfl⟩|⟨u,rfl⟩
 .simp[Instr.sliceBounds]
 .simp[Instr.sliceBounds,run_sliceBound (P:=P) w u h cap _ U U]
 .simp[Instr.sliceBounds,run_sliceBound (P:=P) w k l len _ U U]
 .simp[Instr.sliceBounds,run_sliceBound (P:=P) w u h cap _ U U,run_sliceBound (P:=P) w k l h.toNat _ U U]
variable{x:Operand}{y:AH}{lo' hi':Option AH}{t:TypeId}{n:Nat}
def tB(I:AO F0 w0 O a w G)(hd:d<a.tmps.size){lo hi:Option Operand}(J:o.op=.slice t x lo hi W)(L:AK x y=X)(κ:Pe lo lo'=X)(hh:Pe hi hi'=X)
  (D:KZ P t=Y n)(h:(AF.slc n y lo' hi').wp S O (Y d) K):BI P F0 w0 a w o d K:=by
 simp [AF.wp]at h;split at h
 .rename_i m es hv;split at h
  .rename_i k1 l k2 hb ζ δ;obtain⟨⟨hm,h0,h1⟩,h2,hK⟩:=h;subst hm;have M:=BF I L hv;simp[A3]at M;obtain⟨⟨B,cap,h4,h5,R,h7⟩,ε⟩:=M;have b1:=WS I κ ζ;have b2:=WS I hh δ;unfold KZ at D;split at D
   .rename_i e Z;have H:=Uy (P:=P) (w:=w) (isS:=X) (lo:=lo.map a.eval) (hi:=hi.map a.eval) h0 h1 h2 h5
     (by rcases b1 with⟨rfl,rfl⟩|⟨v,k',rfl,hv⟩<;>simp[*]) (by rcases b2 with⟨rfl,rfl⟩|⟨v,k',rfl,hv⟩<;>simp[*])
    refine C2 I hd (v:=.slice (if cap=l.toNat then B else B.map (·.add (l.toNat*m))) (hb.toNat-l.toNat) (cap-l.toNat)) (t:=.list m ((es.take hb.toNat).drop l.toNat)) ?_ ?_ ?_ hK
    .simp[execOp,J,Instr.sliceAt,Instr.slice,run_underlying Z,h4,H,CW D]
    .simp only[A3];refine⟨if cap=l.toNat then B else B.map (·.add (l.toNat*m)),cap-l.toNat,an,an,λha=>?_,λη g=>?_⟩
     .have u:es=[]\/l.toNat=hb.toNat:=by
       split at ha
       .exact .inl (R ha)
       .cases B with
        |none=>exact .inl (R rfl)|some B=>simp at ha
      rcases u with rfl|u
      .simp
      .apply G!;simp;omega
     .by_cases N:cap=l.toNat
      .have A:(es.take hb.toNat).drop l.toNat=[]:=by apply G!;simp;omega
       rw [if_pos N]at g;rw[A];exact⟨.inl rfl,trivial⟩
      .rw[if_neg N]at g;cases B with
       |none=>simp at g|some B=>
        simp at g;subst g;obtain⟨E,C⟩:=h7 B rfl;obtain⟨b,off,sp⟩:=B;simp only at E C;by_cases u:es=[]
        .have A:(es.take hb.toNat).drop l.toNat=[]:=by rw[u];simp
         rw [A];exact⟨.inl rfl,trivial⟩
        have E:sp=W:=E.resolve_left u;subst E;rw[Addr.add_lit];refine⟨.inr rfl,?_⟩;rw[TF]at C|-;intro i e' he;rw[E_,E?]at he;split at he
        .have:=C (l.toNat+i) e' he
         rwa [show off+l.toNat*m+i*m=off+(l.toNat+i)*m from i?]
        .cases he
    .simp only[TV.WF]at ε|-;refine⟨an,?_⟩;have E:=CC.1 ε.2;exact CC.2 λt D=>E t (F_ (E! D))
   .cases D
  .exact h.elim
 .exact h.elim
def pv(m:AO F0 w0 O a w G)(hd:d<a.tmps.size){lo hi:Option Operand}(u:o.op=.slice t x lo hi W)(A:AK x y=X)(C:Pe lo lo'=X)(hh:Pe hi hi'=X)
  (D:P.underlying t=Y .string)(h:(AF.Aai y lo' hi').wp S O (Y d) K):BI P F0 w0 a w o d K:=by
 simp [AF.wp]at h;split at h
 .rename_i s hv;split at h
  .rename_i κ l η hb E H;obtain⟨L,M,N,R⟩:=h;have B:=BF m A hv;simp[A3]at B;have I:=WS m C E;have J:=WS m hh H;have g:=Uy (P:=P) (w:=w) (isS:=T) (lo:=lo.map a.eval) (hi:=hi.map a.eval) L M N (x! _)
     (by rcases I with⟨rfl,rfl⟩|⟨v,ε,rfl,hv⟩<;>simp[*]) (by rcases J with⟨rfl,rfl⟩|⟨v,ε,rfl,hv⟩<;>simp[*])
   refine C2 m hd (v:=.string (s.extract l.toNat hb.toNat)) (t:=.str (s.extract l.toNat hb.toNat)) ?_ rfl ?_ R
   .simp[execOp,u,Instr.sliceAt,Instr.slice,run_underlying D,B.1,g]
   .have:=B.2;simp[TV.WF]at this|-;omega
  .exact h.elim
 .exact h.elim
variable{y':AH}
def kI(l:AO F0 w0 O a w G)(hd:d<a.tmps.size){x x':Operand}{mx:Bool}{ts:Array TypeId}
  (g:o.op=.call {callee:=.builtin (match mx with|true=>.max|false=>.min),args:=#[x,x'],argTypes:=ts})
  (A:AK x y=X)(B:AK x' y'=X)(h:(AF.mm mx y y').wp S O (Y d) K):BI P F0 w0 a w o d K:=by
 simp [AF.wp]at h;split at h
 .rename_i k p H q C D;obtain⟨rfl,E⟩:=h;have m:=BF l A C;have u:=BF l B D;simp[A3,TV.WF]at m u;refine C2 l hd (v:=.int k (if mx then max p q else min p q)) (t:=.int k (if mx then max p q else min p q)) ?_ rfl ?_ E
  .cases mx
   .simp[execOp,g,resolve,invoke,builtin,m.1,u.1,Builtin.min_,Builtin.min2];rw[Int.min_def];split<;>split<;>omega
   .simp[execOp,g,resolve,invoke,builtin,m.1,u.1,Builtin.max_,Builtin.max2];rw[Int.max_def];split<;>split<;>omega
  .simp[TV.WF];split<;>omega
 .exact h.elim
def pX(g:AO F0 w0 O a w G)(hd:d<a.tmps.size)(l:o.op=.box t x)(m:AK x y=X)(h:(AF.Abn y).wp S O (Y d) K):BI P F0 w0 a w o d K:=by
 simp [AF.wp]at h;split at h
 .rename_i u hv;have D:=BF g m hv;have hb:Below w.heap.size w (w.alloc (.cells (a.eval x).cells t)):=(Below.refl _ _).alloc (x! _) _;refine⟨.pointer (Y ⟨w.heap.size,0,W⟩),w.alloc (.cells (a.eval x).cells t),by simp[execOp,l,Instr.box,newVar,newRow],_,_,h,g.tv hb d hd (.pt u.cells) _ ?_ ?_⟩
  .simp only[A3];refine⟨_,_,rfl,?_⟩;have A:=MB (F0:=F0) (w0:=w0) (G:=G) hb d (λ_=>W) V
   .have C:=Hi D.1;refine TG (A6 A _ _ C.1) C.2 λi v hi=>?_;have E:(w.alloc (.cells (a.eval x).cells t)).cell? ⟨w.heap.size,0+i,W⟩=Y v:=by
     rw [World.cell?_alloc_new,z!];simpa using hi
    refine ⟨E,?_⟩;rintro(⟨B,_⟩|⟨s,j,lo,B,_⟩)
    .have:=g.below.size;omega
    .by_cases H:s=d
     .grind[CP]
     .rw[Bb _ _ _ _ H]at B;have:=(g.lt _ _ _ _ B).1;omega
  grind [TV.WF,JC]
 .exact h.elim
end
end Go.Sf
namespace Go.Sf
open Go.RowKit (Below)
def Xl:List Value->Nat->List Value->List Value
 |cs,_,[]=>cs|cs,i,d::ds=>Xl (cs.set i d) (i+1) ds
def Sz(off:Nat):∀(l:List Value)(k:Nat)(cells:Array Value),((l.zipIdx k).foldl (λcs(x:Value×Nat)=>cs.setIfInBounds (off+x.2) x.1) cells).toList=Xl cells.toList (off+k) l
 |[],_,_=>rfl|v::l,k,cells=>by
  simp [Xl];rw[Sz off l (k+1)]
  grind
section
variable{w:World}{F:Nat->Nat->Prop}
variable{v:Value}
def mA{cs:List TV}{xs:List Value}(h:AR w F cs xs)(i:Nat){t:TV}(g:A3 w F t v):AR w F (cs.set i t) (xs.set i v):=by
 rw [Bt]at h|-
 grind
def Y8:∀{ds:List TV}{ys:List Value}{cs:List TV}{xs:List Value}(i:Nat),AR w F cs xs->AR w F ds ys->AR w F (Qf cs i ds) (Xl xs i ys)
 |[],ys,cs,xs,i,h,hd=>by simp[AR]at hd;subst hd;exact h|d::ds,ys,cs,xs,i,h,hd=>by
  simp [AR]at hd;obtain⟨v,r,rfl,g,l⟩:=hd;exact Y8 (i+1) (mA h i g) l
theorem ji:∀(ys xs:List Value)(i:Nat),(∀x∈xs,x.oneCell'=X)->(∀y∈ys,y.oneCell'=X)->∀x∈Xl xs i ys,x.oneCell'=X
 |[],_,_,h,_=>h|y::ys,xs,i,h,l=>by
  refine ji ys (xs.set i y) (i+1) (λx m=>?_) (λz g=>l z (by simp[g]))
  grind
def XW{place:Nat->Option (Nat×Nat)}:∀{ps:List (Nat×Value)}{ts:List (Nat×Nat×TV)}{cs cs':List TV}{xs:Array Value},AR w F cs xs.toList->ps.length=ts.length ->
  (∀(j:Nat)(p:Nat×Value)(t:Nat×Nat×TV),ps[j]?=Y p->ts[j]?=Y t->place p.1=Y (t.1,t.2.1)/\A3 w F t.2.2 p.2)->F1 cs ts=Y cs'->(∀x∈xs.toList,x.oneCell'=X) ->
  ∃xs',Instr.fill place xs ps=Y xs'/\AR w F cs' xs'.toList/\∀x∈xs'.toList,x.oneCell'=X
 |[],ts,cs,cs',xs,h,g,A,hf,ho=>by
  have:ts=[]:=G! g.symm;subst this;simp[F1]at hf;subst hf;exact⟨xs,rfl,h,ho⟩
 |(i,v)::ps,[],_,_,_,_,g,_,_,_=>by simp at g|(i,v)::ps,(off,n,t)::ts,cs,cs',xs,h,g,A,hf,ho=>by
  simp only[F1]at hf;split at hf
  .rename_i L;obtain⟨C,u⟩:=A 0 _ _ rfl rfl;simp only at C u;have B:=(Hi u).1;have D:=(Hi u).2;have M:v.cells.size=n:=by have:=BX B;rw[K_]at this;omega
   have E:=BX h;rw[K_]at E;have H:AR w F (Qf cs off t.cells) ((v.cells.zipIdx.foldl (λcs(x:Value×Nat)=>cs.setIfInBounds (off+x.2) x.1) xs)).toList:=by
    have I:=Y8 off h B;rw[<-K',K!,Sz,A!];exact I
   obtain ⟨xs',N,J⟩:=XW H v6 (λj p t l m=>A (j+1) p t (by simpa using l) v!) hf (by
    rw [<-K',K!,Sz,A!]
    grind [ji])
   refine ⟨xs',?_,J⟩;simp[Instr.fill,C]
   grind
  .cases hf
end
def O5(place:Nat->Option (Nat×Nat)):List (Nat×Operand)->List (Nat×Nat×AH)->Bool
 |[],[]=>X|(i,x)::ps,(off,n,y)::qs=>place i==Y (off,n)&&AK x y&&O5 place ps qs|_,_=>T
def lb(P:Program)(t:TypeId)(zero:List TV)(ps:List (Nat×Operand))(qs:List (Nat×Nat×AH)):Bool:=
 match P.info? t,P.underlying t with
 |some it,Y (.array _ e)=>
  match it.zero,P.info? e with
  |some z,Y ie=>LZ zero z.cells.toList&&z.cells.toList.all Value.oneCell'&&O5 (λi=>Y (i*ie.size,ie.size)) ps qs|_,_=>T
 |some it,Y (.struct fields)=>
  match it.zero,fields.toList.mapM (λf=>(P.info? f.type).map λi=>(f.offset,i.size))with
  |some z,Y places=>LZ zero z.cells.toList&&z.cells.toList.all Value.oneCell'&&O5 (places.toArray[·]?) ps qs|_,_=>T
 |_,_=>T
section
variable{P:Program}{S:FuncId->List TV->BA->Prop}{F0:Nat->Nat->Prop}{w0:W0}{O:AB}{a:Act}{w:World}{G:Bh}{d:Nat}{o:Oper}{K:EV->AB->Prop}
def bM(u:AO F0 w0 O a w G){place:Nat->Option (Nat×Nat)}:∀{ps:List (Nat×Operand)}{l:List (Nat×Nat×AH)}{ts:List (Nat×Nat×TV)},O5 place ps l=X->Hw O l=Y ts ->
  ps.length=ts.length/\(∀(j:Nat)(p:Nat×Value)(t:Nat×Nat×TV),(ps.map λ(i,x)=>(i,a.eval x))[j]?=Y p->ts[j]?=Y t->place p.1=Y (t.1,t.2.1)/\A3 w (AW w0.heap.size F0 G) t.2.2 p.2)/\∀t∈ts,t.2.2.WF
 |[],[],ts,_,h=>by simp[Hw]at h;subst h;simp|[],_::_,_,h,_=>by simp[O5]at h|_::_,[],_,h,_=>by simp[O5]at h|(i,x)::ps,(off,n,y)::l,ts,g,h=>by
  simp [O5]at g;simp[Hw]at h;split at h
  .rename_i t A B m;simp at h;subst h;obtain⟨D,E,H⟩:=bM u g.2 m;have C:=BF u g.1.2 B
   grind
  .cases h
def kU:∀{ds cs:List TV}(i:Nat),TV.pq cs->TV.pq ds->TV.pq (Qf cs i ds)
 |[],_,_,h,_=>h|d::ds,cs,i,h,hd=>by
  refine kU (i+1) ?_ hd.2
  grind [CC,G?]
theorem hU:∀{ts:List (Nat×Nat×TV)}{cs cs':List TV},TV.pq cs->(∀t∈ts,t.2.2.WF)->F1 cs ts=Y cs'->TV.pq cs'
 |[],cs,cs',h,_,hf=>by simp[F1]at hf;subst hf;exact h|(i,n,t)::ts,cs,cs',h,g,hf=>by
  simp only[F1]at hf;split at hf
  .exact hU (kU i h (JC (g (i,n,t) V))) (λu l=>g u (by simp[l])) hf
  .cases hf
variable{t:TypeId}{ps:Array (Nat×Operand)}
def sO(D:AO F0 w0 O a w G)(hd:d<a.tmps.size){zero:List TV}{m:List (Nat×Nat×AH)}(u:o.op=.build t ps)(A:lb P t zero ps.toList m=X)(h:(AF.bld zero m).wp S O (Y d) K):BI P F0 w0 a w o d K:=by
 simp [AF.wp]at h;cases g:Hw O m with
 |none=>rw[g]at h;exact h.elim|some ts=>
  rw [g]at h;simp[A0]at h;cases l:F1 zero ts with
  |none=>rw[l]at h;exact h.elim|some cs=>
   rw [l]at h;simp only at h;have key:∀(place:Nat->Option (Nat×Nat))(z:Array Value),LZ zero z.toList=X->z.toList.all Value.oneCell'=X->O5 place ps.toList m=X->∃xs',Instr.fill place z (ps.map λ(i,x)=>(i,a.eval x)).toList=Y xs'/\AR w (AW w0.heap.size F0 G) cs xs'.toList/\TV.pq cs/\xs'.toList.all Value.oneCell'=X:=by
    intro place z L B M;obtain⟨C,H,I⟩:=bM D M g;have E:=SU w (AW w0.heap.size F0 G) zero z.toList L;have N:(ps.map λ(i,x)=>(i,a.eval x)).toList=ps.toList.map λ(i,x)=>(i,a.eval x):=V
    rw [N];obtain⟨xs',R,ε,κ⟩:=XW E.1 (by simpa using C) H l (λx J=>C!.1 B x J)
    grind [hU,C!]
   have built:∃xs',P.built t (ps.map λ(i,x)=>(i,a.eval x)).toList=Y xs'/\AR w (AW w0.heap.size F0 G) cs xs'.toList/\TV.pq cs/\xs'.toList.all Value.oneCell'=X:=by
    unfold lb at A;unfold Program.built
    grind
   obtain ⟨xs',C,H,I,E⟩:=built;refine C2 D hd (v:=.agg xs') (t:=.agg cs) ?_ ?_ (by simpa[TV.WF]using I) h
   .simp[execOp,u,run_build w t _ xs' C]
   grind [A3]
variable{x:Operand}{n:Nat}
def bj(l:AO F0 w0 O a w G)(hd:d<a.tmps.size)(g:o.op=.move x\/o.op=.assign x)(m:∃v,x=.const v/\N4 v=X)(h:(AF.Abu n).wp S O (Y d) K):BI P F0 w0 a w o d K:=by
 simp [AF.wp]at h;obtain⟨v,rfl,hv⟩:=m;refine⟨.slice W 0 0,w,?_,_,_,h,l.ow (Below.refl _ _) d hd (.list n []) _ W V ?_ ⟨V,trivial⟩⟩
 .rcases g with g|g<;>simp[execOp,g,Act.eval,LA hv]
 .simp only[CI];exact⟨[],⟨V,.inl ⟨rfl,rfl,rfl⟩⟩,rfl,V,V⟩
end
end Go.Sf
namespace Go.Sf
open Go.RowKit (Below)
def mG(g:List TV)(x t:TV)(r:List TV):(g++x::r).set g.length t=g++t::r:=n_
def V0:∀(ds g rest:List TV),ds.length<=rest.length->Qf (g++rest) g.length ds=g++ds++rest.drop ds.length
 |[],g,rest,_=>by simp[Qf]|d::ds,g,[],h=>by simp at h|d::ds,g,x::rest,h=>by
  simp [Qf,mG];have:=V0 ds (g++[d]) rest b?
  grind
def Mq(n:Nat):Nat->List TV->List (Nat×Nat×TV)
 |_,[]=>[]|k,t::ts=>(k*n,n,t)::Mq n (k+1) ts
def aM(n:Nat):∀(ts g:List TV)(k:Nat),(∀t∈ts,t.cells.length=n)->g.length=k*n ->
  F1 (g++C' (ts.length*n) .undef) (Mq n k ts)=Y (g++ts.flatMap TV.cells)
 |[],g,k,_,_=>by simp[Mq,F1]|t::ts,g,k,h,u=>by
  have m:t.cells.length=n:=h t V;simp only[Mq,F1];rw[if_pos ⟨m,by simp[B',H_,B?,z_];omega⟩];rw[<-u,V0 t.cells g _ (by simp[H_,B?,z_];omega)];have hr:(C' ((t::ts).length*n) TV.undef).drop t.cells.length=C' (ts.length*n) TV.undef:=by
   grind [B?,z_]
  rw [hr];have:=aM n ts (g++t.cells) (k+1) (λx l=>h x (by simp[l])) (by simp[B',z_];omega)
  grind
def Ui:Nat->List (Nat×Operand)->List AH->Bool
 |_,[],[]=>X|k,(i,x)::ps,y::ys=>i==k&&AK x y&&Ui (k+1) ps ys|_,_,_=>T
section
variable{P:Program}{S:FuncId->List TV->BA->Prop}{F0:Nat->Nat->Prop}{w0:W0}{O:AB}{a:Act}{w:World}{G:Bh}{d:Nat}{o:Oper}{K:EV->AB->Prop}
def je(m:AO F0 w0 O a w G)(n:Nat):∀{k:Nat}{ps:List (Nat×Operand)}{ys:List AH}{ts:List TV},Ui k ps ys=X->vals O ys=Y ts ->
  ps.length=ts.length/\(∀(j:Nat)(p:Nat×Value)(t:Nat×Nat×TV),(ps.map λ(i,x)=>(i,a.eval x))[j]?=Y p->(Mq n k ts)[j]?=Y t->(Y (p.1*n,n):Option (Nat×Nat))=Y (t.1,t.2.1)/\A3 w (AW w0.heap.size F0 G) t.2.2 p.2)/\TV.pq ts
 |_,[],[],ts,_,h=>by simp[vals]at h;subst h;simp[TV.pq]|_,[],_::_,_,h,_=>by simp[Ui]at h|_,_::_,[],_,h,_=>by simp[Ui]at h|k,(i,x)::ps,y::ys,ts,g,h=>by
  simp [Ui]at g;simp[vals]at h;split at h
  .rename_i t A B l;simp at h;subst h;obtain⟨D,J,E⟩:=je m n g.2 l;have C:=BF m g.1.2 B;refine⟨by simp[D],λj p u H I=>?_,C.2,E⟩
   grind [Mq]
  .cases h
def S6(n:Nat):∀(k:Nat)(ts:List TV),(Mq n k ts).length=ts.length
 |_,[]=>rfl|k,t::ts=>by simp[Mq,S6 n (k+1) ts]
variable{n:Nat}{ts:List TV}
def vF{F:Nat->Nat->Prop}{cells:Array Value}{e:TypeId}(h:AR (w.alloc (.cells cells e)) F (ts.flatMap TV.cells) cells.toList)(ho:∀x∈cells.toList,x.oneCell'=X)(l:∀t∈ts,t.cells.length=n)(m:ts.length<=maxLen):
  CI (w.alloc (.cells cells e)) F (Y (w.heap.size,ts.length*n)) (.list n ts) (.slice (Y ⟨w.heap.size,0,W⟩) ts.length ts.length):=by
 have g:=BX h;rw[Qd n ts l]at g;simp[CI];refine⟨cells.toList,⟨g,.inr ⟨w.heap.size,ts.length,cells,e,rfl,heap_alloc_new w _,x! _,m,v6,?_,rfl⟩⟩,h,l,ho⟩;rw[<-g,List.take_length]
variable{ps:Array (Nat×Operand)}
def sf(δ:AO F0 w0 O a w G)(hd:d<a.tmps.size){t e:TypeId}{B:TypeInfo}{z:Value}{len n:Nat}{ys:List AH}(N:o.op=.buildSlice t len ps)(Z:P.underlying t=Y (.slice e))(C:P.info? e=Y B)(hz:B.zero=Y z)
  (hn:B.size=n)(D:0<n)(hone:z.cells.toList.all Value.oneCell'=X)(hzs:0<z.cells.size)(E:len=ps.size)(hsm:len*n<=2^ 24)(R:Ui 0 ps.toList ys=X)(h:(AF.lst n ys).wp S O (Y d) K):BI P F0 w0 a w o d K:=by
 simp [AF.wp]at h;cases l:vals O ys with
 |none=>rw[l]at h;exact h.elim|some ts=>
  rw [l]at h;simp[A0]at h;obtain⟨hc,hK⟩:=h;obtain⟨h1,h2,h3⟩:=je δ n R l;have ε:len=ts.length:=by rw[E,<-h1];simp
  have κ:(TV.list n ts).WF:=⟨by simp[LY];have:len*1<=len*n:=A? _ D;omega,h3⟩;have η:ts.length<=maxLen:=by simp[maxLen];have:len*1<=len*n:=A? _ D;omega
  have g:∃cells:Array Value,(Instr.buildSlice t len (ps.map λ(i,x)=>(i,a.eval x))).run P w=.ok (.slice (Y ⟨w.heap.size,0,W⟩) len len) (w.alloc (.cells cells e))/\AR w (AW w0.heap.size F0 G) (ts.flatMap TV.cells) cells.toList/\∀x∈cells.toList,x.oneCell'=X:=by
   by_cases h0:len=0
   .have ζ:ps=#[]:=by apply Array.eq_empty_of_size_eq_zero;omega
    have I:ts=[]:=by apply G!;omega
    subst ζ;subst I;subst h0;refine⟨#[],?_,rfl,V⟩;simp[Instr.buildSlice,run_underlying Z,sizeOf,typeInfo,C,Instr.fill,newRow]
    grind
   .have m:AR w (AW w0.heap.size F0 G) (C' (ts.length*n) .undef) ((K? (len*B.size)).map (z.cells[· % z.cells.size]!)).toList:=by
     grind [Bt,p0,A3,L',Nat.mod_lt,C!]
    have J:=aM n ts [] 0 hc V;simp at J;have u:∀x∈((K? (len*B.size)).map (z.cells[· % z.cells.size]!)).toList,x.oneCell'=X:=by
     grind [Nat.mod_lt,C!]
    obtain ⟨xs',h6,h7,h8⟩:=XW (place:=λi=>Y (i*n,n)) m (by rw[S6];simpa using h1) h2 J u;refine⟨xs',run_buildSlice w t e len _ xs' B z Z C hz (by rw[hn];omega) ?_ ?_,h7,h8⟩
    .grind[Nat.mul_eq_zero]
    .rw[hn]at h6|-;simpa using h6
  obtain ⟨cells,L,M,A⟩:=g;have hb:Below w.heap.size w (w.alloc (.cells cells e)):=(Below.refl _ _).alloc (x! _) _;refine⟨.slice (Y ⟨w.heap.size,0,W⟩) len len,_,by simp[execOp,N,L],_,_,hK,δ.ow hb d hd (.list n ts) _ (Y (w.heap.size,ts.length*n)) (λb lo H=>?_) ?_ κ⟩
  .simp at H;obtain⟨rfl,_⟩:=H;exact⟨x! _,V⟩
  .rw[ε];exact vF (A6 (MB hb d _ (λi b lo h=>by
    grind)) _ _ M) A hc η
theorem AO.strip(h:AO F0 w0 O a w G)(s:Nat):AO F0 w0 (strip O s) a w G:=by
 refine ⟨h.ln,h.lt,h.below,h.defers,λq l=>?_,λq l=>?_,λq=>?_⟩
 .simp only[Go.Sf.strip,AB.d7];split
  .rfl
  .exact h.dom q l
 .have:=h.slots q l;simp[Go.Sf.strip,AB.d7];split
  .trivial
  .refine AN.kept (RY _ _) (λ_=>rfl) (λ_ _ _ _=>rfl) rfl BY.rfl' (λr i k hr⟨p,m⟩=>⟨⟨p,(AB.x7 V m).2⟩,λ_ hv=>hv⟩) (λr off hr⟨cs,g⟩=>?_) (λr i hr⟨p,m⟩=>⟨⟨p,(AB.sc V V m).2⟩,λ_ hv=>hv⟩) this
   .rw[AB.d7]at g;split at g
    .cases g
    .exact⟨⟨cs,g⟩,rfl⟩
 .simp[Go.Sf.strip,AB.d7];split
  .trivial
  .exact h.wf q
variable{s:Nat}
def AO.move(h:AO F0 w0 O a w G){t:TV}(N:O.get s=.ow t)(hd:d<a.tmps.size):
  ∃m,AO F0 w0 ((d,.ow t)::Go.Sf.strip O s) (a.put (Y d) (slot a s)) w m/\Bw w w (AW w0.heap.size F0 G) (AW w0.heap.size F0 m):=by
 have B:=At h N V;simp[AN]at B;have L:=h.wf s;rw[N]at L
 let zs:Option (Nat×Nat):=G s W
 let m:Bh:=K9 (K9 G s (λ_=>W)) d (λi=>if i=W then zs else W)
 have D:∀q i b lo,m q i=Y (b,lo)->(q=d/\i=W/\G s W=Y (b,lo))\/(q≠d/\q≠s/\G q i=Y (b,lo)):=by
  intro q i b lo u;by_cases l:q=d
  .grind[CP]
  .simp[m,Bb _ _ _ _ l]at u;by_cases η:q=s
   .grind[CP]
   .rw[Bb _ _ _ _ η]at u
    grind
 have E:∀q i b lo,m q i=Y (b,lo)->∃ζ δ lo',G ζ δ=Y (b,lo')/\lo'<=lo:=by
  grind
 have H:Bw w w (AW w0.heap.size F0 G) (AW w0.heap.size F0 m):=λb o v Z hf=>⟨Z,λR=>hf (AW.mono E R)⟩;refine⟨m,⟨?_,?_,h.below,g?,?_,?_,?_⟩,H⟩
 .intro q i ζ δ b lo lo' A C;rcases D _ _ _ _ A with⟨rfl,rfl,J⟩|⟨n1,n2,J⟩<;>rcases D _ _ _ _ C with⟨rfl,rfl,M⟩|⟨m1,m2,M⟩
  .exact⟨rfl,rfl⟩
  .exact absurd (h.ln _ _ _ _ _ _ _ J M).1.symm m2
  .exact absurd (h.ln _ _ _ _ _ _ _ J M).1 n2
  .exact h.ln _ _ _ _ _ _ _ J M
 .intro q i b lo A;rcases D _ _ _ _ A with⟨_,_,J⟩|⟨_,_,J⟩<;>exact h.lt _ _ _ _ J
 .intro q u;rw[Bx]at u;rw[AB.d7,if_neg U];exact(h.strip s).dom q u
 .intro q u;rw[Bx]at u;rw[AB.d7];by_cases l:d=q
  .subst l;rw[if_pos rfl,C7 _ _ _ hd];simp[AN,m,CP];exact B.kept H (λ_ _ _=>rfl)
  .rw[if_neg l,AZ _ _ _ _ l];simp[Go.Sf.strip,AB.d7];split
   .trivial
   .rename_i κ;refine AN.kept H (λi=>?_) (λ_ _ _ _=>rfl) (ON (Bx _ _ _) (λq u=>by
     have hss:=Bz h N V
     grind [Bb])) BY.rfl' (λr i k hr⟨p,ε⟩=>?_) (λr off hr⟨cs,g⟩=>?_) (λr i hr⟨p,ε⟩=>?_) (h.slots q u)
    .simp[m];rw[Bb _ _ _ _ (λe=>l e.symm),Bb _ _ _ _ (λe=>κ e.symm)]
    .have A:=AB.x7 V ε;have C:=AB.x7 V A.2;exact⟨⟨p,C.2⟩,h.nh ⟨p,C.2⟩ (AZ _ _ _ _ A.1) (λ_ _ _ _=>rfl)⟩
    .rw[AB.d7]at g;by_cases I:d=r
     .rw[if_pos I]at g;cases g
     .rw[if_neg I]at g;simp[AB.d7]at g;split at g
      .cases g
      .exact⟨⟨cs,g⟩,AZ _ _ _ _ I⟩
    .have A:=AB.sc V V ε;have C:=AB.sc V V A.2;exact⟨⟨p,C.2⟩,h.xv ⟨p,C.2⟩ (AZ _ _ _ _ A.1) (λ_ _=>rfl)⟩
 .intro q;rw[AB.d7];split
  .exact L
  .exact(h.strip s).wf q
def sJ(a:Act)(d s:Nat)(v:Value)(h:d<a.tmps.size):slot (a.put (Y d) v) s=if d=s then v else slot a s:=by grind[C7,AZ]
def AO.move'(h:AO F0 w0 O a w G){t:TV}(g:O.get s=.ow t)(hd:d<a.tmps.size):
  CE F0 w0 ((d,.ow t)::(s,.tv t)::O) (a.put (Y d) (slot a s)) w:=by
 obtain ⟨u,A,m⟩:=h.move g hd;have hv:=BF h (x:=.tmp s) (y:=.s s) r? (t:=t) (by simp[AH.val,AH.ev,g,EV.val]);have l:=Bz h g V;refine⟨u,A.rem s (t:=t) (by rw[Bx];exact l) ?_ hv.2 λn=>?_⟩
 .have:slot (a.put (Y d) (slot a s)) s=slot a s:=by rw[sJ _ _ _ _ hd];split<;>rfl
  rw [this];exact CY m _ _ hv.1
 .simp[Go.Sf.strip,AB.d7];split
  .exact .inl rfl
  .split
   next e=>exact .inr ⟨e.symm,rfl⟩
   .exact .inl rfl
def kL(m:AO F0 w0 O a w G)(hd:d<a.tmps.size)(g:o.op=.move (.tmp s)\/o.op=.assign (.tmp s))(h:(AF.tk s).wp S O (Y d) K):BI P F0 w0 a w o d K:=by
 simp [AF.wp]at h;have l:(execOp a.eval o).run P w=.ok (.value (slot a s)) w:=by
  rcases g with g|g<;>simp[execOp,g]<;>rfl
 split at h
 next t u=>exact⟨_,_,l,_,_,h,m.move' u hd⟩
 next t u=>have:=BF m (x:=.tmp s) (y:=.s s) r? (t:=t) (by simp[AH.val,AH.ev,u,EV.val]);exact C2 m hd l this.1 this.2 h
 .exact h.elim
end
end Go.Sf
namespace Go.Sf
open Go.RowKit (Below)
structure J9(w w':World)(z z':Option (Nat×Nat)):Prop where
 os:w'.os=w.os
 tape:w'.tape=w.tape
 output:w'.output=w.output
 size:w.heap.size<=w'.heap.size
 other:∀k,k<w.heap.size->(∀lo,z≠Y (k,lo))->w'.heap[k]?=w.heap[k]?
 cell:∀b o v,w.cell? ⟨b,o,W⟩=Y v->(∀lo,z=Y (b,lo)->o<lo)->w'.cell? ⟨b,o,W⟩=Y v
 AbD:∀b lo,z'=Y (b,lo)->b<w'.heap.size/\(w.heap.size<=b\/∃lo',z=Y (b,lo')/\lo'<=lo)
def J9.refl(w:World)(z:Option (Nat×Nat))(g:∀b lo,z=Y (b,lo)->b<w.heap.size):J9 w w z z:=
 ⟨rfl,rfl,rfl,x! _,λ_ _ _=>rfl,λ_ _ _ h _=>h,λb lo h=>⟨g b lo h,.inr ⟨lo,h,x! _⟩⟩⟩
section
variable{P:Program}{w:World}
def Xs(t ty e I:TypeId)(i:TypeInfo)(J:P.underlying t=Y (.slice e))(hi:P.info? e=Y i)
  (g l A:Nat)(B:Array Value)(L:w.heap[g]?=Y (.cells B I (0,0)))
  (a:Addr)(m c:Nat)(h:List Value)(M:h.length=m*i.size)(C:∀(j:Nat)(u:Value),h[j]?=Y u->w.cell? (a.add j)=Y u)(N:∀u∈h,u.oneCell'=X)
  (D:l+m<=A)(E:l*i.size+h.length<=B.size):
  (Builtin.append_ #[t,t] ty #[.slice (Y ⟨g,0,W⟩) l A,.slice (Y a) m c]).run P w=
   .ok (.slice (Y ⟨g,0,W⟩) (l+m) A) (w.setRow g (B.toList.take (l*i.size)++h++B.toList.drop (l*i.size+h.length)).toArray):=by
 have hf:=run_firstCells_some (P:=P) w i.size m a m c h M C;have H:=run_storeCells_at P g (l*i.size) I h 0 B w L l' N;simp at H;simp[Builtin.append_,run_underlying J,sizeOf,typeInfo,hi,Builtin.lenOf,D,hf,Addr.add_lit,H]
def RL(t ty e:TypeId)(i:TypeInfo)(z:Value)(n:Nat)(ht:P.underlying t=Y (.slice e))(hi:P.info? e=Y i)(hz:i.zero=Y z)
  (A:i.size=n)(hby:i.bytes<=4096)(hzs:z.cells.size=n)(hn:0<n)
  (v:Value)(len:Nat)(xs:List Value)(zo:Option (Nat×Nat))(B:Gv w n v len xs zo)
  (ad:Option Addr)(m c:Nat)(l:List Value)(η:l.length=m*n)(had:ad=W->m=0)(hmc:m<=c)(ζ:∀a,ad=Y a->∀(j:Nat)(u:Value),l[j]?=Y u->w.cell? (a.add j)=Y u)(h1:∀u∈l,u.oneCell'=X)
  (L:len+m<=AX):
  ∃v' w' z',(Builtin.append_ #[t,t] ty #[v,.slice ad m c]).run P w=.ok v' w'/\Gv w' n v' (len+m) (xs++l) z'/\J9 w w' zo z':=by
 have H:(xs++l).length=(len+m)*n:=by rw[B',B.1,η,z_]
 have I:(len+m)*i.bytes<=140737488355328:=by
  calc (len+m)*i.bytes<=AX*4096:=Nat.mul_le_mul L hby
   _<=140737488355328:=a!
 have hml:len+m<=maxLen:=by simp[maxLen,AX]at *;omega
 have R:∀b lo,zo=Y (b,lo)->b<w.heap.size:=by
  intro b lo hb;rcases B.2 with⟨_,_,h⟩|⟨g,cap,D,κ,_,hg,_,_,_,_,h⟩
  .rw[h]at hb;cases hb
  grind
 by_cases hm:m=0
 .subst hm;have hnn:l=[]:=G! (by simpa using η);subst hnn;refine⟨v,w,zo,?_,o_,J9.refl w zo R⟩;have hfc:(Builtin.firstCells n 0 (.slice ad 0 c)).run P w=.ok #[] w:=by
   cases ad<;>simp[Builtin.firstCells,loadCells,loadCellsFrom]
  rcases B.2 with⟨rfl,rfl,_⟩|⟨g,cap,D,κ,rfl,hg,N,_,_,_,_⟩
  .simp[Builtin.append_,run_underlying ht,sizeOf,typeInfo,hi,A,Builtin.lenOf,hfc]
  .simp[Builtin.append_,run_underlying ht,sizeOf,typeInfo,hi,A,Builtin.lenOf,N,hfc,storeCells]
 .cases ad with
  |none=>exact absurd (had rfl) hm|some a=>
   have C:=ζ a rfl;have M:∀(old:Nat),old<len+m ->
     Gv (w.drew.alloc (.cells (xs.toArray++l.toArray++Builtin.zeroCells z.cells (grownCap w (len+m) old e-(len+m))) e)) n
      (.slice (Y ⟨w.heap.size,0,W⟩) (len+m) (grownCap w (len+m) old e)) (len+m) (xs++l) (Y (w.heap.size,(len+m)*n))/\
     J9 w (w.drew.alloc (.cells (xs.toArray++l.toArray++Builtin.zeroCells z.cells (grownCap w (len+m) old e-(len+m))) e)) zo (Y (w.heap.size,(len+m)*n)):=by
    intro old ho;have hge:=grownCap_ge w (len+m) old e;have δ:grownCap w (len+m) old e<=maxLen:=grownCap_le_maxLen w (len+m) old e hml;refine⟨⟨H,.inr ⟨w.heap.size,_,_,e,rfl,heap_alloc_new w.drew _,hge,δ,?_,?_,rfl⟩⟩,⟨rfl,rfl,rfl,V,λk hk _=>Below.heap_alloc w.drew _ k hk,λb o v N _=>?_,λb lo hb=>?_⟩⟩
    .simp[Array.size_append,List.size_toArray,size_zeroCells,hzs,B.1,η,<-z_];congr 1;omega
    .simp;rw[<-C_,<-H];exact H'
    .have hb:b<w.heap.size:=World.block_lt_of_cell? w ⟨b,o,W⟩ N;rw[World.cell?_alloc_lt _ _ (a:=⟨b,o,W⟩) (by simpa using hb)];simpa using N
    .simp at hb;rw[<-hb.1];exact⟨V,.inl (x! _)⟩
   rcases B.2 with⟨rfl,rfl,rfl⟩|⟨g,cap,D,κ,rfl,hg,hnc,δ,hcs,htake,rfl⟩
   .have hx:xs=[]:=G! (by simpa using B.1);subst hx;have hr:=run_append_nil (P:=P) w t ty e i z ht hi hz a m c l (by rw[A];exact η) C U (by simp[AX]at L;omega) (by have hb:=I;simp at hb;omega);have J:=M 0 U;simp only[z!,List.nil_append,Array.empty_append]at J hr|-;exact⟨_,_,_,hr,J.1,J.2⟩
   .by_cases E:len+m<=cap
    .have ε:len*i.size+l.length<=D.size:=by rw[η,hcs,A,<-z_];exact B_ _ E
     have hr:=Xs (P:=P) t ty e κ i ht hi g len cap D hg a m c l (by rw[A];exact η) C h1 E ε;rw[A]at hr ε;refine⟨_,_,Y (g,(len+m)*n),hr,⟨H,.inr ⟨g,cap,_,κ,rfl,setRow_heap w g D _ κ _ hg,E,δ,?_,?_,rfl⟩⟩,⟨rfl,rfl,rfl,V,λk _ hk=>setRow_other w g k _ (λe=>hk (len*n) (by rw[e])),λb o u N hlo=>?_,λb lo hb=>?_⟩⟩
     .simp;omega
     .rw[htake,<-H];exact H'
     .by_cases hbg:b=g
      .subst hbg;have ho:=hlo (len*n) rfl;rw[cell_of_row _ b o _ κ (0,0) (setRow_heap w b D _ κ _ hg)];rw[cell_of_row w b o D κ (0,0) hg]at N;have hoc:o<D.size:=U
       rw [F?,C_,H! an,H? ho];simpa using N
      .rw[World.cell?_of_block (w:=w) (a:=⟨b,o,W⟩) (setRow_other w g b _ (λe=>hbg e))];exact N
     .simp at hb;obtain⟨rfl,rfl⟩:=hb;refine⟨by simpa using R g (len*n) rfl,.inr ⟨len*n,rfl,B_ _ U⟩⟩
    .have Z:∀(j:Nat)(u:Value),xs[j]?=Y u->w.cell? ((⟨g,0,W⟩:Addr).add j)=Y u:=λj u hu=>by
      rw [Addr.add_lit,z!];exact B.cell rfl j u hu
     have hr:=run_append_grow (P:=P) w t ty e i z ht hi hz ⟨g,0,W⟩ len cap xs (by rw[A];exact B.1) Z a m c l (by rw[A];exact η) C U (by simp[AX]at L;omega) (growslice_fits U I);have J:=M cap U;exact⟨_,_,_,hr,J.1,J.2⟩
end
end Go.Sf
namespace Go.Sf
open Go.RowKit (Below)
section
variable{P:Program}{S:FuncId->List TV->BA->Prop}{F0:Nat->Nat->Prop}{w0:W0}{O:AB}{a:Act}{w:World}{G:Bh}{d:Nat}{o:Oper}{K:EV->AB->Prop}
variable{s:Nat}{v:Value}
def AO.app(h:AO F0 w0 O a w G)(hss:s<a.tmps.size){w':World}{z':Option (Nat×Nat)}(hf:J9 w w' (G s W) z')(hd:d<a.tmps.size){t:TV}(ht:t.WF)
  (κ:∀F',Bw w w' (AW w0.heap.size F0 G) F'->(∀b o,F' b o->(b<w0.heap.size/\F0 b o)\/(∃q i lo,G q i=Y (b,lo)/\lo<=o)\/∃lo,z'=Y (b,lo)/\lo<=o)->CI w' F' z' t v):
  ∃H,AO F0 w0 ((d,.ow t)::Go.Sf.strip O s) (a.put (Y d) v) w' H/\Bw w w' (AW w0.heap.size F0 G) (AW w0.heap.size F0 H):=by
 let H:Bh:=K9 (K9 G s (λ_=>W)) d (λi=>if i=W then z' else W)
 have E:∀q i b lo,H q i=Y (b,lo)->(q=d/\i=W/\z'=Y (b,lo))\/(q≠d/\q≠s/\G q i=Y (b,lo)):=by
  intro q i b lo J;by_cases D:q=d
  .grind[CP]
  .simp[H,Bb _ _ _ _ D]at J;by_cases I:q=s
   .grind[CP]
   .rw[Bb _ _ _ _ I]at J
    grind
 have δ:∀q i b lo,q≠s->G q i=Y (b,lo)->∀lo',G s W≠Y (b,lo'):=λq i b lo I m lo' C=>I (h.ln _ _ _ _ _ _ _ m C).1;have M:Bw w w' (AW w0.heap.size F0 G) (AW w0.heap.size F0 H):=by
  intro b o u hc η;have l:∀lo,G s W=Y (b,lo)->o<lo:=λlo l=>by
   rcases y? o lo with h|h
   .exact h
   .exact absurd (.inr ⟨s,W,lo,l,h⟩) η
  refine ⟨hf.cell b o u hc l,?_⟩;rintro(m|⟨q,i,lo,m,C⟩)
  .exact η (.inl m)
  .rcases E _ _ _ _ m with⟨_,_,A⟩|⟨_,_,A⟩
   .have hb:=World.block_lt_of_cell? w ⟨b,o,W⟩ hc;rcases(hf.AbD b lo A).2 with R|⟨lo',R,h4⟩
    .simp only at hb;omega
    grind
   .exact η (.inr ⟨q,i,lo,A,C⟩)
 have L:IA F0 w0 w':=h.below.trans hf.os hf.tape hf.output hf.size (λk hk he=>hf.other k (y! hk h.below.size) (λlo l=>(h.lt _ _ _ _ l).2.elim (λe=>U) (λe=>he lo (e lo (x! _))))) (λb o u hb he hu=>hf.cell b o u hu (λlo l=>(h.lt _ _ _ _ l).2.elim (λe=>U) (λe=>Nat.lt_of_not_le λhle=>he (e o hle))));refine⟨H,⟨?_,?_,L,g?,?_,?_,?_⟩,M⟩
 .intro q i q' i' b lo lo' m C;have Z:∀q i lo lo',z'=Y (b,lo)->q≠s->G q i=Y (b,lo')->False:=by
   intro q i lo lo' A I ε;rcases(hf.AbD b lo A).2 with R|⟨lo2,R,_⟩
   .have:=(h.lt _ _ _ _ ε).1;omega
   grind
  rcases E _ _ _ _ m with⟨rfl,rfl,A⟩|⟨n1,n2,A⟩<;>rcases E _ _ _ _ C with⟨rfl,rfl,ε⟩|⟨m1,m2,ε⟩
  .exact⟨rfl,rfl⟩
  .exact(Z _ _ _ _ A m2 ε).elim
  .exact(Z _ _ _ _ ε n2 A).elim
  .exact h.ln _ _ _ _ _ _ _ A ε
 .intro q i b lo m;rcases E _ _ _ _ m with⟨_,_,A⟩|⟨_,_,A⟩
  .have:=hf.AbD b lo A;refine⟨this.1,?_⟩;rcases this.2 with R|⟨lo',R,h4⟩
   .exact .inl (y_ h.below.size R)
   .exact(h.lt _ _ _ _ R).2.imp id (λe o ho=>e o (y_ h4 ho))
  .have:=h.lt _ _ _ _ A;exact⟨y! this.1 hf.size,this.2⟩
 .intro q J;rw[Bx]at J;rw[AB.d7,if_neg U];exact(h.strip s).dom q J
 .intro q J;rw[Bx]at J;rw[AB.d7];by_cases D:d=q
  .subst D;rw[if_pos rfl,C7 _ _ _ hd];simp[AN,H,CP];refine κ _ M λb o η=>?_;rcases η with m|⟨q,i,lo,m,C⟩
   .exact .inl m
   .rcases E _ _ _ _ m with⟨_,_,A⟩|⟨_,_,A⟩
    .exact .inr (.inr ⟨lo,A,C⟩)
    .exact .inr (.inl ⟨q,i,lo,A,C⟩)
  .rw[if_neg D,AZ _ _ _ _ D];simp[Go.Sf.strip,AB.d7];split
   .trivial
   .rename_i ζ;refine AN.kept M (λi=>?_) (λi b lo hb=>hf.other b (h.lt _ _ _ _ hb).1 (δ q i b lo (λe=>ζ e.symm) hb)) (ON (Bx _ _ _) (λq J=>by
     simp [H];rw[Bb _ _ _ _ U,Bb _ _ _ _ U])) (λg j b lo hr=>by
     exact hf.other b (h.lt _ _ _ _ hr).1 (δ _ _ b lo U hr)) (λr i k hr⟨p,hp⟩=>?_) (λr off hr⟨cs,B⟩=>?_) (λr i hr⟨p,hp⟩=>?_) (h.slots q J)
    .simp[H];rw[Bb _ _ _ _ (λe=>D e.symm),Bb _ _ _ _ (λe=>ζ e.symm)]
    .have m:=AB.x7 V hp;have C:=AB.x7 V m.2;exact⟨⟨p,C.2⟩,h.nh ⟨p,C.2⟩ (AZ _ _ _ _ m.1) (λ_ b _ hb=>hf.other b (h.lt _ _ _ _ hb).1 (λlo l=>C.1 (h.ln _ _ _ _ _ _ _ l hb).1))⟩
    .rw[AB.d7]at B;by_cases N:d=r
     .rw[if_pos N]at B;cases B
     .rw[if_neg N]at B;simp[AB.d7]at B;split at B
      .cases B
      .exact⟨⟨cs,B⟩,AZ _ _ _ _ N⟩
    .have m:=AB.sc V V hp;have C:=AB.sc V V m.2;exact⟨⟨p,C.2⟩,h.xv ⟨p,C.2⟩ (AZ _ _ _ _ m.1) (λb hb=>hf.other b (h.lt _ _ _ _ hb).1 (λlo l=>C.1 (h.ln _ _ _ _ _ _ _ l hb).1))⟩
 .intro q;rw[AB.d7];split
  .exact ht
  .exact(h.strip s).wf q
def AO.app'(h:AO F0 w0 O a w G){u:TV}(A:O.get s=.ow u){w':World}{z':Option (Nat×Nat)}(hf:J9 w w' (G s W) z')(hd:d<a.tmps.size){t:TV}(D:t.WF)
  (g:∀F',Bw w w' (AW w0.heap.size F0 G) F'->(∀b o,F' b o->(b<w0.heap.size/\F0 b o)\/(∃q i lo,G q i=Y (b,lo)/\lo<=o)\/∃lo,z'=Y (b,lo)/\lo<=o)->CI w' F' z' t v):
  CE F0 w0 ((d,.ow t)::(s,.tv u)::O) (a.put (Y d) v) w':=by
 obtain ⟨E,B,C⟩:=h.app (Bz h A V) hf hd D g;have hv:=BF h (x:=.tmp s) (y:=.s s) r? (t:=u) (by simp[AH.val,AH.ev,A,EV.val]);have l:=Bz h A V;by_cases m:d=s
 .subst m;refine⟨E,B.rem d (t:=t) (by rw[Bx];exact l) ?_ D λn=>?_⟩
  .exact(BF B (x:=.tmp d) (y:=.s d) r? (t:=t) (by simp[AH.val,AH.ev,AB.d7,EV.val])).1
  .simp[Go.Sf.strip,AB.d7];split
   .exact .inl rfl
   .exact .inl rfl
 .refine⟨E,B.rem s (t:=u) (by rw[Bx];exact l) ?_ hv.2 λn=>?_⟩
  .rw[AZ _ _ _ _ m];exact CY C _ _ hv.1
  .simp[Go.Sf.strip,AB.d7];split
   .exact .inl rfl
   .split
    next e=>exact .inr ⟨e.symm,rfl⟩
    .exact .inl rfl
def Lw{l m:List TV}:TV.pq (l++m)↔TV.pq l/\TV.pq m:=by grind[CC]
variable{x:Operand}{y:AH}{n:Nat}
def sM(R:AO F0 w0 O a w G)(hd:d<a.tmps.size){t e:TypeId}{i:TypeInfo}{z:Value}(ε:o.op=.call {callee:=.builtin .append,args:=#[.tmp s,x],argTypes:=#[t,t]})
  (ht:P.underlying t=Y (.slice e))(hi:P.info? e=Y i)(hz:i.zero=Y z)(C:i.size=n)(κ:i.bytes<=4096)(η:z.cells.size=n)(hn:0<n)
  (ζ:AK x y=X)(h:(AF.app n (.s s) y).wp S O (Y d) K):BI P F0 w0 a w o d K:=by
 simp [AF.wp,AH.ev]at h;split at h
 .rename_i m es m' H δ hy;obtain⟨hm1,hm2,M,hK⟩:=h;subst hm2;subst hm1;have B:=At R δ V;have D:=R.wf s;rw[δ]at D;simp[AN,CI]at B;obtain⟨xs,h1,h2,h3,h4⟩:=B;have hv:=BF R ζ hy;simp[A3]at hv;obtain⟨⟨ad,cap,h5,h6,h7,h8⟩,h9⟩:=hv;have E:∃g:List Value,AR w (AW w0.heap.size F0 G) (H.flatMap TV.cells) g/\(∀x∈g,x.oneCell'=X)/\(∀f∈H,f.cells.length=m)/\∀b,ad=Y b->∀(j:Nat)(u:Value),g[j]?=Y u->w.cell? (b.add j)=Y u:=by
   cases ad with
   |none=>
    have:=h7 rfl;subst this;exact⟨[],rfl,V,V,V⟩
   |some b=>
    obtain ⟨A,h11⟩:=h8 b rfl;obtain⟨bb,off,sp⟩:=b;simp only at A h11;by_cases L:H=[]
    .subst L;exact⟨[],rfl,V,V,V⟩
    have A:sp=W:=A.resolve_left L;subst A;have hrow:∀(l:List TV)(off:Nat),JX w (AW w0.heap.size F0 G) m l bb off->Dn w (AW w0.heap.size F0 G) (l.flatMap TV.cells) bb off/\∀f∈l,f.cells.length=m:=by
     intro l
     induction l with
     |nil=>intro off _;exact⟨trivial,V⟩|cons f l ih=>
      grind [Rr,Jy]
    grind [Uv,p0]
  obtain ⟨g,n1,n2,n3,n4⟩:=E;have Z:g.length=H.length*m:=by rw[BX n1,Qd m H n3]
  obtain ⟨v',w',z',N,r1,r2⟩:=RL (P:=P) t o.type e i z m ht hi hz C κ η hn (slot a s) es.length xs (G s W) h1 ad H.length cap g Z (λe=>by rw[h7 e];rfl) h6 n4 n2 M;refine⟨v',w',?_,_,_,hK,R.app' δ r2 hd ?_ λF' I hF'=>?_⟩
  .simp[execOp,ε,resolve,invoke,builtin,show a.eval (.tmp s)=slot a s from rfl,h5,N]
  .simp only[EV.WF,TV.WF]at D h9|-;exact⟨by rw[B'];exact Vq U,Lw.2 ⟨D.2,h9.2⟩⟩
  .simp only[CI];refine⟨xs++g,by rw[B'];exact r1,?_,?_,?_⟩
   .rw[List.flatMap_append];exact JS (A6 I _ _ h2) (A6 I _ _ n1)
   .intro e he;rcases I_.1 he with he|he
    .exact h3 e he
    .exact n3 e he
   .intro x J;rcases I_.1 J with J|J
    .exact h4 x J
    .exact n2 x J
 .exact h.elim
end
end Go.Sf
namespace Go.Sf
open Go.RowKit (Below)
def ny:TV->Bool
 |.list _ es=>es.isEmpty|.xl _ es=>es.isEmpty|.xn es=>es.isEmpty|_=>T
def Vt(c:AS)(v:Value):Bool:=if c.own then ny c.t&&N4 v else Eo c.t v&&v.oneCell'
def QG:List AS->List Value->Bool
 |[],vs=>vs.isEmpty|c::cs,vs=>match vs with|v::vs=>Vt c v&&QG cs vs|[]=>T
section
variable{w:World}{F:Nat->Nat->Prop}
variable{ρ:JJ}{c:AS}{v:Value}
def W9(h:Vt c v=X):BW w F ρ W c v/\c.t.WF:=by
 obtain ⟨_|_,t⟩:=c
 .simp[Vt]at h;have g:=IZ w F t v h.1;exact⟨⟨g.1,h.2⟩,g.2⟩
 .simp[Vt]at h;cases t<;>simp only[ny,M_,false_and]at h
  next n es=>rw[I']at h;obtain⟨rfl,h⟩:=h;refine⟨?_,V,trivial⟩;simp only[BW,E0,CI];exact⟨[],⟨V,.inl ⟨LA h,rfl,rfl⟩⟩,rfl,V,V⟩
  next n es=>rw[I']at h;obtain⟨rfl,h⟩:=h;refine⟨?_,V,trivial⟩;simp only[BW,E0];exact⟨[],⟨W,⟨V,.inl ⟨LA h,rfl,rfl⟩⟩,rfl⟩,rfl,V,V⟩
  next es=>rw[I']at h;obtain⟨rfl,h⟩:=h;refine⟨?_,V,trivial⟩;simp[BW,E0];exact⟨[],⟨W,⟨V,.inl ⟨LA h,rfl,rfl⟩⟩,rfl⟩,V,V⟩
def Pd{ρ:JJ}:∀{cs:List AS}{vs:List Value},QG cs vs=X->vs.length=cs.length/\(∀(i:Nat)(c:AS),cs[i]?=Y c->∃x,vs[i]?=Y x/\BW w F ρ W c x)/\∀c∈cs,c.t.WF
 |[],vs,h=>by simp[QG]at h;subst h;simp|c::cs,[],h=>by simp[QG]at h|c::cs,v::vs,h=>by
  simp [QG]at h;obtain⟨m,u,A⟩:=Pd (cs:=cs) (vs:=vs) h.2;have l:=W9 (w:=w) (F:=F) (ρ:=ρ) h.1;refine⟨by simp[m],λi c' g=>?_,λc' g=>?_⟩
  .cases i with
   |zero=>simp at g;subst g;exact⟨v,rfl,l.1⟩|succ i=>exact u i c' v6
  .rcases D'.1 g with rfl|g
   .exact l.2
   .exact A c' g
end
def WC(O:AB):Option Nat->AB
 |some q=>Go.Sf.strip O q|none=>O
theorem Rz(O:AB)(q:Option Nat)(p:Nat):(WC O q).get p=.undef\/((WC O q).get p=O.get p/\Y p≠q):=by
 cases q with
 |none=>exact .inr ⟨rfl,V⟩|some g=>
  simp [WC,Go.Sf.strip,AB.d7]
  grind
section
variable{P:Program}{S:FuncId->List TV->BA->Prop}{F0:Nat->Nat->Prop}{w0:W0}{O:AB}{a:Act}{w:World}{G:Bh}{d:Nat}{o:Oper}{K:EV->AB->Prop}
variable{θ:TypeId}
def AO.box(h:AO F0 w0 O a w G)(hd:d<a.tmps.size)(m:O.gt d=X){cs:List AS}{c:Array Value}(B:c.size=cs.length)
  (C:∀F',Bw w (w.alloc (.cells c θ)) (AW w0.heap.size F0 G) F'->∀(i:Nat)(x:AS),cs[i]?=Y x->∃v,c[i]?=Y v/\BW (w.alloc (.cells c θ)) F' (tn a G) W x v)(D:∀x∈cs,x.t.WF):
  CE F0 w0 ((d,.bx cs)::O) (a.put (Y d) (.pointer (Y ⟨w.heap.size,0,W⟩))) (w.alloc (.cells c θ)):=by
 have hb:Below w.heap.size w (w.alloc (.cells c θ)):=(Below.refl _ _).alloc (x! _) _;have A:∀(i:Option Nat)b lo,(if i=W then Y (w.heap.size,0)else W)=Y (b,lo)->w.heap.size<=b/\b<(w.alloc (.cells c θ)).heap.size:=by
  intro i b lo hi;split at hi
  .simp at hi;rw[<-hi.1];exact⟨x! _,V⟩
  .cases hi
 have u:=MB (F0:=F0) (w0:=w0) (G:=G) hb d (λi=>if i=W then Y (w.heap.size,0)else W) (λi b lo hi=>(A i b lo hi).1);refine⟨_,h.quiet hb d hd (.bx cs) _ (λi=>if i=W then Y (w.heap.size,0)else W) A (λi H b lo lo' g l=>?_) (λ_=>m) ?_ D⟩
 .split at g
  .split at l
   .simp_all
   .cases l
  .cases g
 .simp only[AN];refine⟨_,c,θ,rfl,heap_alloc_new w _,B,by rw[CP];simp,λi x E=>?_⟩;obtain⟨v,g,l⟩:=C _ u i x E;refine⟨v,g,?_⟩;rw[CP,ON (Bx _ _ _) (λs I=>Bb _ _ _ _ U)];simpa using l
variable{x:Operand}{y:AH}{t:TypeId}
def pV(C:AO F0 w0 O a w G)(hd:d<a.tmps.size)(m:o.op=.box t x)(A:AK x y=X)(h:(AF.Aby y).wp S O (Y d) K):BI P F0 w0 a w o d K:=by
 simp [AF.wp]at h;split at h
 .rename_i u N hv g;simp at g;subst g;obtain⟨B,M⟩:=h;have H:=BF C A hv;have D:=Hi H.1;have I:=BX D.1;refine⟨_,_,by simp[execOp,m,Instr.box,newVar,newRow],_,_,M,C.box hd B (c:=(a.eval x).cells) (θ:=t) s_ (λF' E i c l=>?_) (λc l=>?_)⟩
  .rw[D?]at l;simp at l;obtain⟨R,ε,rfl⟩:=l;have J:i<u.cells.length:=by
    grind
   have L:(a.eval x).cells.toList[i]?=Y ((a.eval x).cells.toList[i]' U):=D_ U;refine⟨(a.eval x).cells.toList[i]' U,by rw[<-L_];exact L,?_,D.2 _ (I! _)⟩
   grind [CY,Bt]
  grind [CC,JC]
 .exact h.elim
def sL(u:AO F0 w0 O a w G)(hd:d<a.tmps.size){i:TypeInfo}{z:Value}{cs:List AS}(l:o.op=.alloc t)(hi:P.info? t=Y i)(A:i.zero=Y z)(g:QG cs z.cells.toList=X)(h:(AF.alc cs).wp S O (Y d) K):BI P F0 w0 a w o d K:=by
 simp [AF.wp]at h;obtain⟨m,C⟩:=h;refine⟨_,_,?_,_,_,C,u.box hd m (c:=z.cells) (θ:=t) (by have:=(Pd (w:=w) (F:=λ_ _=>False) (ρ:=λ_ _=>W) g).1;simpa using this) (λF' _ i c B=>?_) (Pd (w:=w) (F:=λ_ _=>False) (ρ:=λ_ _=>W) g).2.2⟩
 .simp[execOp,l,Instr.alloc,zeroValue,typeInfo,hi,A,newVar,newRow]
 .obtain⟨x,D,E⟩:=(Pd g).2.1 i c B;exact⟨x,by simpa using D,E⟩
variable{s off:Nat}
def IT(l:AO F0 w0 O a w G)(h:AK x y=X)(g:y.place O=Y (s,off)){cs:List AS}(m:O.get s=.bx cs):
  ∃b,slot a s=.pointer (Y ⟨b,0,W⟩)/\a.eval x=.pointer (Y ⟨b,off,W⟩):=by
 cases y with
 |c t=>simp[AH.place]at g|s n=>
  cases x<;>simp[AK]at h;subst h;rename_i n;simp[AH.place]at g;have hr:=At l m V;simp only[AN]at hr;obtain⟨b,c,θ,A,_⟩:=hr;split at g
  next q u he=>simp at g;obtain⟨rfl,rfl⟩:=g;have hr:=At l he V;simp only[AN]at hr;obtain⟨B,C,D⟩:=hr ⟨cs,m⟩;exact⟨B,C,D⟩
  next cs' he=>simp at g;obtain⟨rfl,rfl⟩:=g;exact⟨b,A,A⟩
  .cases g
variable{b:Nat}
def AO.AbJ(h:AO F0 w0 O a w G){cs cs':List AS}(hs:O.get s=.bx cs)(R:slot a s=.pointer (Y ⟨b,0,W⟩)){c c':Array Value}(D:w.heap[b]?=Y (.cells c θ (0,0)))
  {q:Option Nat}(hqs:q≠Y s)(hqlt:∀p,q=Y p->p<a.tmps.size){zs:Option Nat->Option (Nat×Nat)}(hzb:zs W=Y (b,0))
  (hz:∀i m lo,i≠W->zs i=Y (m,lo)->G s i=Y (m,lo)\/∃q',q=Y q'/\∃j,G q' j=Y (m,lo))
  (hzu:∀i κ m lo lo',zs i=Y (m,lo)->zs κ=Y (m,lo')->i=κ)
  (hl:c'.size=cs'.length)(hcs:∀F' w',Bw w w' (AW w0.heap.size F0 G) F'->(∀k,k≠b->w'.heap[k]?=w.heap[k]?)->BY w w' (tn a G)->∀(i:Nat)(x:AS),cs'[i]?=Y x->∃v,c'[i]?=Y v/\BW w' F' (tn a G) (zs (Y i)) x v)
  (hw:∀x∈cs',x.t.WF)(hxx:∀(k:Nat)(t:TV),t.AaI=X->cs'[k]?=Y ⟨X,t⟩->(O.noX s (Y k)=X\/(cs[k]?=Y ⟨X,t⟩/\c'[k]?=c[k]?))):
  ∃η,AO F0 w0 ((s,.bx cs')::WC O q) a (w.setRow b c') η/\Bw w (w.setRow b c') (AW w0.heap.size F0 G) (AW w0.heap.size F0 η):=by
 have hx:∀(k n:Nat)(es:List TV),cs'[k]?=Y ⟨X,.xl n es⟩->(O.noX s (Y k)=X\/((∃p,O.so s (Y k)=Y p)/\c'[k]?=c[k]?)):=λk n es hk=>
  (hxx k _ rfl hk).imp id λ⟨A,J⟩=>⟨⟨(n,es),by simp[AB.so,hs,A]⟩,J⟩
 have hxn:∀(k:Nat)(es:List TV),cs'[k]?=Y ⟨X,.xn es⟩->(O.noX s (Y k)=X\/((∃p,O.nat s k=Y p)/\c'[k]?=c[k]?)):=λk es hk=>
  (hxx k _ rfl hk).imp id λ⟨A,J⟩=>⟨⟨es,by simp[AB.nat,hs,A]⟩,J⟩
 have hsz:s<a.tmps.size:=Bz h hs V;have M:G s W=Y (b,0):=by
  have:=At h hs V
  grind [AN,p0]
 let η:Bh:=λp=>if p=s then zs else if Y p=q then(λ_=>W)else G p
 have H:η s=zs:=by simp[η]
 have u:∀p i m lo,η p i=Y (m,lo)->∃ζ κ,G ζ κ=Y (m,lo)/\(ζ=p\/Y ζ=q)/\(p≠s->ζ=p/\κ=i):=by
  intro p i m lo hp;by_cases B:p=s
  .subst B;rw[H]at hp;by_cases hi:i=W
   .grind
   grind
  grind
 have hqout:∀p i m lo,η p i=Y (m,lo)->Y p≠q:=by
  grind
 have l:∀k,k≠b->(w.setRow b c').heap[k]?=w.heap[k]?:=λk hk=>setRow_other w b k _ hk;have hag:Bw w (w.setRow b c') (AW w0.heap.size F0 G) (AW w0.heap.size F0 η):=by
  intro m o v hc hF;have hbb:m≠b:=λe=>hF (.inr ⟨s,W,0,by rw[e];exact M,x? _⟩);refine⟨by rw[World.cell?_of_block (w:=w) (a:=⟨m,o,W⟩) (l m hbb)];exact hc,λhF'=>hF ?_⟩;rcases hF' with A|⟨p,i,lo,A,J⟩
  .exact .inl A
  .obtain⟨ζ,κ,h3,_⟩:=u p i m lo A;exact .inr ⟨ζ,κ,lo,h3,J⟩
 have hbelow:IA F0 w0 (w.setRow b c'):=h.below.but rfl rfl rfl V (Z:=λk=>k=b) (λk hk=>by rw[hk];exact(h.lt _ _ _ _ M).2.imp id (λe o=>e o (x? _))) (λk _ hk=>l k hk);have hrs:BY w (w.setRow b c') (tn a G):=λg j m lo hr=>l m (h.AbE hsz M hr);have hrho:tn a η=tn a G:=ON rfl λp hp=>by
  grind
 refine ⟨η,⟨?_,?_,hbelow,h.defers,?_,?_,?_⟩,hag⟩
 .intro p i ζ κ m lo lo' A J;by_cases B:p=s<;>by_cases L:ζ=s
  .subst B;subst L;rw[H]at A J;exact⟨rfl,hzu i κ m lo lo' A J⟩
  .obtain⟨r,j,N,I,_⟩:=u p i m lo A;obtain⟨r',j',e3,_,e4⟩:=u ζ κ m lo' J;obtain⟨rfl,rfl⟩:=e4 L;obtain⟨rfl,_⟩:=h.ln _ _ _ _ _ _ _ N e3;rcases I with I|I
   .exact absurd (I.trans B) L
   .exact absurd I (hqout _ _ _ _ J)
  .obtain⟨r,j,N,I,_⟩:=u ζ κ m lo' J;obtain⟨r',j',e3,_,e4⟩:=u p i m lo A;obtain⟨rfl,rfl⟩:=e4 B;obtain⟨rfl,_⟩:=h.ln _ _ _ _ _ _ _ N e3;rcases I with I|I
   .exact absurd (I.trans L) B
   .exact absurd I (hqout _ _ _ _ A)
  .obtain⟨r,j,N,_,I⟩:=u p i m lo A;obtain⟨r',j',e3,_,e4⟩:=u ζ κ m lo' J;obtain⟨rfl,rfl⟩:=I B;obtain⟨rfl,rfl⟩:=e4 L;exact h.ln _ _ _ _ _ _ _ N e3
 .intro p i m lo A;obtain⟨r,j,N,_⟩:=u p i m lo A;have:=h.lt _ _ _ _ N;exact⟨u?,this.2⟩
 .intro p hp;rw[AB.d7,if_neg U];cases q with
  |none=>exact h.dom p hp|some q'=>exact(h.strip q').dom p hp
 .intro p hp;rw[AB.d7];by_cases B:s=p
  .subst B;rw[if_pos rfl];simp only[AN];refine⟨b,c',θ,R,setRow_heap w b c c' θ (0,0) D,hl,by rw[H];exact hzb,λi x hx=>?_⟩;obtain⟨v,A,J⟩:=hcs _ _ hag l hrs i x hx;exact⟨v,A,by rw[H,hrho];exact J⟩
  .rw[if_neg B];have hcase:=Rz O q p;rcases hcase with he|⟨he,hpq⟩<;>rw[he]
   .trivial
   .have hGp:∀i,η p i=G p i:=λi=>by simp[η];rw[if_neg (λe=>B e.symm),if_neg hpq]
    refine AN.kept hag hGp (λi m lo δ=>l m (λe=>B (h.ln _ _ _ _ _ _ _ M (e▸δ)).1)) hrho hrs (λr i k hr⟨pp,ε⟩=>?_) (λr off hr⟨cs'',C⟩=>⟨?_,rfl⟩) (λr i hr⟨pp,ε⟩=>?_) (h.slots p hp)
    .by_cases E:s=r
     .subst E;obtain⟨cs'',A,J⟩:=AB.rr ε;rw[AB.d7,if_pos rfl]at A;simp[EV.bx.injEq]at A;subst A;rcases hxn i pp J with h3|⟨h3,h4⟩
      .exact absurd hr (AB.noX_nh h3 p i (.inr rfl) k)
      .refine⟨h3,λv hv=>?_⟩;obtain⟨m,c0,T0,x0,N,I,e3,e4⟩:=hv;rw[R]at N;simp at N;subst N;rw[D]at I;cases I;obtain⟨es0,hes0⟩:=h3;obtain⟨cs0,f1,f2⟩:=AB.rr hes0;have hr0:=h.slots s hsz;rw[f1]at hr0;simp only[AN]at hr0;obtain⟨b2,c2,T2,g1,g2,_,_,g5⟩:=hr0;rw[R]at g1;simp at g1;subst g1;rw[D]at g2;cases g2;obtain⟨x1,k1,k2⟩:=g5 i _ f2;rw[e3]at k1;simp at k1;subst k1;refine⟨_,_,_,x0,R,setRow_heap w _ _ c' _ (0,0) D,h4.trans e3,e4.kept λg len cap e=>?_⟩;subst e;have hgz:=GI.nil_or k2;exact l g (λe=>by
        have:=(h.ln _ _ _ _ _ _ _ M (e▸hgz)).2;cases this)
     .rw[AB.Aah E]at ε;have hp2:O.nat r i=Y pp:=by
       grind [Rz,AB.nat_undef,AB.Aar]
      exact ⟨⟨pp,hp2⟩,h.nh ⟨pp,hp2⟩ rfl (λj m _ δ=>l m (λe=>E (h.ln _ _ _ _ _ _ _ M (e▸δ)).1))⟩
    .rw[AB.d7]at C;split at C
     next E=>subst E;exact⟨cs,hs⟩
     .rcases Rz O q r with he|⟨he,_⟩<;>rw[he]at C
      .cases C
      .exact⟨_,C⟩
    .by_cases E:s=r
     .subst E;obtain⟨n,es⟩:=pp;cases i with
      |none=>have:=AB.tl ε;rw[AB.d7,if_pos rfl]at this;cases this
      |some k=>
       obtain ⟨cs'',A,J⟩:=AB.pr ε;rw[AB.d7,if_pos rfl]at A;simp[EV.bx.injEq]at A;subst A;rcases hx k n es J with h3|⟨h3,h4⟩
       .have h5:=AB.noX_spec h3 p k (.inr rfl);rcases hr with hr|⟨c,hr⟩
        .exact absurd hr h5.1
        .exact absurd hr (h5.2 c)
       .refine⟨h3,λv hv=>?_⟩;obtain⟨m,c0,T0,N,I,e3⟩:=hv;rw[R]at N;simp at N;subst N;rw[D]at I;cases I;exact⟨_,_,_,R,setRow_heap w _ _ c' _ (0,0) D,h4.trans e3⟩
     .rw[AB.Aag E]at ε;have hp2:O.so r i=Y pp:=by
       grind [Rz,AB.AaH,AB.Aal]
      exact ⟨⟨pp,hp2⟩,h.xv ⟨pp,hp2⟩ rfl (λm δ=>l m (λe=>E (h.ln _ _ _ _ _ _ _ M (e▸δ)).1))⟩
 .intro p;rw[AB.d7];split
  .exact hw
  .cases q with
   |none=>exact h.wf p|some q'=>exact(h.strip q').wf p
end
end Go.Sf
namespace Go.Sf
open Go.RowKit (Below)
def Iu(P:Program)(F0:Nat->Nat->Prop)(w0:W0)(a:Act)(w:World)(o:Oper)(K:EV->AB->Prop):Prop:=
 ∃w',(execOp a.eval o).run P w=.ok .skip w'/\∃env',K .undef env'/\CE F0 w0 env' a w'
section
variable{P:Program}{S:FuncId->List TV->BA->Prop}{F0:Nat->Nat->Prop}{w0:W0}{O:AB}{a:Act}{w:World}{G:Bh}{d:Nat}{o:Oper}{K:EV->AB->Prop}
variable{s b:Nat}{θ:TypeId}
def AO.rebox_n(h:AO F0 w0 O a w G){cs cs':List AS}(D:O.get s=.bx cs)(m:slot a s=.pointer (Y ⟨b,0,W⟩)){c c':Array Value}(l:w.heap[b]?=Y (.cells c θ (0,0)))
  {zs:Option Nat->Option (Nat×Nat)}(u:zs W=Y (b,0))
  (E:∀i g lo,i≠W->zs i=Y (g,lo)->G s i=Y (g,lo))
  (A:∀i C g lo lo',zs i=Y (g,lo)->zs C=Y (g,lo')->i=C)
  (H:c'.size=cs'.length)(B:∀F' w',Bw w w' (AW w0.heap.size F0 G) F'->(∀k,k≠b->w'.heap[k]?=w.heap[k]?)->BY w w' (tn a G)->∀(i:Nat)(x:AS),cs'[i]?=Y x->∃v,c'[i]?=Y v/\BW w' F' (tn a G) (zs (Y i)) x v)
  (I:∀x∈cs',x.t.WF)(J:∀(k:Nat)(t:TV),t.AaI=X->cs'[k]?=Y ⟨X,t⟩->(O.noX s (Y k)=X\/(cs[k]?=Y ⟨X,t⟩/\c'[k]?=c[k]?))):
  CE F0 w0 ((s,.bx cs')::O) a (w.setRow b c'):=by
 obtain ⟨N,R,_⟩:=h.AbJ D m l (q:=W) V V u (λi g lo L M=>.inl (E i g lo L M)) A H B I J;exact⟨N,R⟩
variable{q:Nat}
def AO.rebox_q(h:AO F0 w0 O a w G){cs cs':List AS}(L:O.get s=.bx cs)(A:slot a s=.pointer (Y ⟨b,0,W⟩)){c c':Array Value}(m:w.heap[b]?=Y (.cells c θ (0,0)))
  {u:TV}(g:O.get q=.ow u)(B:q≠s){zs:Option Nat->Option (Nat×Nat)}(C:zs W=Y (b,0))
  (M:∀i l lo,i≠W->zs i=Y (l,lo)->G s i=Y (l,lo)\/∃I,Y q=Y I/\∃j,G I j=Y (l,lo))
  (D:∀i J l lo lo',zs i=Y (l,lo)->zs J=Y (l,lo')->i=J)
  (N:c'.size=cs'.length)(E:∀F' w',Bw w w' (AW w0.heap.size F0 G) F'->(∀k,k≠b->w'.heap[k]?=w.heap[k]?)->BY w w' (tn a G)->∀(i:Nat)(x:AS),cs'[i]?=Y x->∃v,c'[i]?=Y v/\BW w' F' (tn a G) (zs (Y i)) x v)
  (R:∀x∈cs',x.t.WF)(ε:∀(k:Nat)(t:TV),t.AaI=X->cs'[k]?=Y ⟨X,t⟩->(O.noX s (Y k)=X\/(cs[k]?=Y ⟨X,t⟩/\c'[k]?=c[k]?))):
  CE F0 w0 ((s,.bx cs')::(q,.tv u)::O) a (w.setRow b c'):=by
 obtain ⟨η,ζ,H⟩:=h.AbJ L A m (q:=Y q) o_ (λp κ=>by cases κ;exact Bz h g V) C M D N E R ε;have hv:=BF h (x:=.tmp q) (y:=.s q) r? (t:=u) (by simp[AH.val,AH.ev,g,EV.val]);refine⟨η,ζ.rem q (t:=u) (Bz h g V) (CY H _ _ hv.1) hv.2 λn=>?_⟩;simp[WC,Go.Sf.strip,AB.d7];split
 .exact .inl rfl
 .split
  next e=>exact .inr ⟨e.symm,rfl⟩
  .exact .inl rfl
variable{t:TypeId}{n:Nat}
def kK(C:AO F0 w0 O a w G){x v:Operand}{x' v':AH}(hop:o.op=.store t x v)(hx:AK x x'=X)(hv:AK v v'=X)(hn:DI P t=Y n)(h:(AF.st n x' v').wp S O W K):Iu P F0 w0 a w o K:=by
 simp only[AF.wp]at h;split at h
 .rename_i s off hp;split at h
  .rename_i cs hs;obtain⟨b,Z,hadr⟩:=IT C hx hp hs;have hr:=At C hs V;simp only[AN]at hr;obtain⟨L,c,θ,h1,h2,h3,h4,h5⟩:=hr;rw[Z]at h1;simp at h1;subst h1;have hw:=C.wf s;rw[hs]at hw;have hst:∀(vs:List Value),vs.length=n->(a.eval v).cells.toList=vs->off+n<=c.size->(∀y∈vs,y.oneCell'=X)->(execOp a.eval o).run P w=.ok .skip (w.setRow b (c.toList.take off++vs++c.toList.drop (off+n)).toArray):=by
    intro vs hl ζ hle ho;have N:=run_storeCells_at P b off θ vs 0 c w h2 U ho;simp at N;have hsz:(a.eval v).cells.size=n:=by rw[<-K_,ζ,hl]
    rw [hl]at N;simp[execOp,hop,hadr,Instr.storeAt,Instr.sureAddr,storeVar,CW hn,hsz,ζ,N]
   split at h
   ·
    rename_i u H;cases v' with
    |c t=>exact h.elim|s q=>
     simp only at h;obtain⟨ε,hn1,η,hK⟩:=h;subst hn1;cases v<;>simp[AK]at hv;subst hv;rename_i q;simp[AH.ev]at H;have E:=At C H V;simp[AN]at E;have hqw:=C.wf q;rw[H]at hqw;have R:=Wg E;have δ:(a.eval (.tmp q)).cells.toList=[slot a q]:=by
      have:a.eval (.tmp q)=slot a q:=rfl;rw[this];cases hsq:slot a q<;>rw[hsq]at R<;>first|rfl|simp[Value.oneCell']at R
     refine ⟨_,hst [slot a q] rfl δ U (by simpa using R),_,hK,?_⟩
     let zs:Option Nat->Option (Nat×Nat):=λi=>match i with|none=>Y (b,0)|some j=>if j=off then G q W else G s (Y j)
     refine C.rebox_q hs Z h2 H (λe=>ε e) (zs:=zs) rfl ?_ ?_ ?_ ?_ ?_ ?_
     .intro i L lo hi κ;cases i with
      |none=>exact absurd rfl hi|some j=>
       simp [zs]at κ;split at κ
       .exact .inr ⟨q,rfl,W,κ⟩
       .exact .inl κ
     .intro i i' L lo lo' g A;have zn:∀j L lo lo',zs (Y j)=Y (L,lo)->zs W=Y (L,lo')->False:=by
       intro j L lo lo' g A;simp[zs]at A;obtain⟨rfl,_⟩:=A;simp[zs]at g;split at g
       .exact ε (C.ln _ _ _ _ _ _ _ g h4).1
       .have:=(C.ln _ _ _ _ _ _ _ g h4).2;cases this
      cases i with
      |none=>cases i' with
       |none=>rfl|some j=>exact(zn j _ _ _ A g).elim
      |some j=>cases i' with
       |none=>exact(zn j _ _ _ g A).elim|some j'=>
        simp [zs]at g A;split at g<;>split at A
        next e3 e4=>rw[e3,e4]
        .exact absurd (C.ln _ _ _ _ _ _ _ g A).1 ε
        .exact absurd (C.ln _ _ _ _ _ _ _ A g).1 ε
        .exact(C.ln _ _ _ _ _ _ _ g A).2
     .simp;omega
     .intro F' w' I D M i y l;rw[I?]at l;by_cases hi:off=i
      .subst hi;rw[if_pos rfl,if_pos η]at l;simp at l;subst l;refine⟨slot a q,?_,?_⟩
       .rw[F?,C_,G_ an];simp;rw[z? U,A'];rfl
       .simp[BW,zs];exact E.c.kept I (λk lo m=>D k (λe=>ε (C.ln _ _ _ _ _ _ _ (e▸m) h4).1)) M
      .rw[if_neg hi]at l;obtain⟨vv,g,A⟩:=h5 i y l;refine⟨vv,?_,?_⟩
       .rw[F?];rcases y? i off with B|hge
        .rw[C_,H! an,H? B];simpa using g
        .rw[G_ an];simp only[B',B!,K_,J_];rw[z? U,E_,show off+1+(i-(off+1))=i from U];simpa using g
       .have hi':¬i=off:=λe=>hi e.symm;simp[zs];rw[if_neg hi'];exact A.kept I (λk lo m=>D k (λe=>l?)) M
     .intro y l;rcases G? l with l|rfl
      .exact hw y l
      .exact hqw
     .intro k tx htx m;rw[I?]at m;by_cases hi:off=k
      .rw[if_pos hi]at m;rw[if_pos U]at m;simp[AS.mk.injEq]at m;subst m;cases u<;>first|(simp[CI]at E;done)|(simp[TV.AaI]at htx;done)
      .rw[if_neg hi]at m;refine .inr ⟨m,?_⟩;have hkc:k<c.size:=by
        have:=(J'.1 m).1;omega
       rw [F?];rcases y? k off with B|hge
       .rw[C_,H! an,H? B,L_]
       .rw[G_ an];simp only[B',B!,K_,J_];rw[z? U,E_,show off+1+(k-(off+1))=k from U,L_]
   ·
    rename_i u H;obtain⟨hun,η,hK⟩:=h;have hvv:=Yw C hv H;have ζ:=Hi hvv.1;have J:=BX ζ.1;refine⟨_,hst _ U rfl U ζ.2,_,hK,?_⟩
    let zs:Option Nat->Option (Nat×Nat):=λi=>match i with|none=>Y (b,0)|some j=>if off<=j/\j<off+n then W else G s (Y j)
    refine C.rebox_n hs Z h2 (zs:=zs) rfl ?_ ?_ ?_ ?_ ?_ ?_
    .intro i L lo hi κ;cases i with
     |none=>exact absurd rfl hi|some j=>
      simp only[zs]at κ;split at κ
      .cases κ
      .exact κ
    .intro i i' L lo lo' g A;have zn:∀j L lo lo',zs (Y j)=Y (L,lo)->zs W=Y (L,lo')->False:=by
      intro j L lo lo' g A;simp[zs]at A;obtain⟨rfl,_⟩:=A;simp only[zs]at g;split at g
      .cases g
      .have:=(C.ln _ _ _ _ _ _ _ g h4).2;cases this
     cases i with
     |none=>cases i' with
      |none=>rfl|some j=>exact(zn j _ _ _ A g).elim
     |some j=>cases i' with
      |none=>exact(zn j _ _ _ g A).elim|some j'=>
       simp only[zs]at g A;split at g<;>split at A
       .cases g
       .cases g
       .cases A
       .exact(C.ln _ _ _ _ _ _ _ g A).2
    .simp at J|-;omega
    .intro F' w' I D M i y l;rw[F?];rcases y? i off with B|hge
     .rw[C_,H! an,H? B]at l;obtain⟨vv,g,A⟩:=h5 i y l;refine⟨vv,?_,?_⟩
      .rw[C_,H! an,H? B];simpa using g
      .simp[zs];rw[if_neg U];exact A.kept I (λk lo m=>D k (λe=>l?)) M
     .rcases y? i (off+n)with B|hge2
      .rw[C_,G_ an,H! an]at l;simp[D?]at l;rw[z? U]at l;obtain⟨tt,htt,rfl⟩:=l;have hx':(a.eval v).cells.toList[i-off]?=Y ((a.eval v).cells.toList[i-off]' U):=D_ U;refine⟨(a.eval v).cells.toList[i-off]' U,?_,?_⟩
       .rw[C_,G_ an,H! (by simp at J|-;omega)];simp only[B!,K_];rw[z? U];exact hx'
       .exact⟨CY I _ _ (((Bt _ _).1 ζ.1).2 _ tt _ htt hx'),ζ.2 _ (I! _)⟩
      .rw[G_ an]at l;simp[E_]at l;rw[z? U,show off+n+(i-(off+u.cells.length))=i from U]at l;obtain⟨vv,g,A⟩:=h5 i y l;refine⟨vv,?_,?_⟩
       .rw[G_ (by simp at J|-;omega)];simp[E_]at J|-;rw[z? U,show off+n+(i-(off+(a.eval v).cells.size))=i from U];simpa using g
       .simp[zs];rw[if_neg U];exact A.kept I (λk lo m=>D k (λe=>l?)) M
    .intro y l;rcases I_.1 l with l|l
     .rcases I_.1 l with l|l
      .exact hw y (F_ l)
      .simp at l;obtain⟨tt,htt,rfl⟩:=l;exact CC.1 (JC hvv.2) tt htt
     .exact hw y (E! l)
    .intro k tx htx m;have hlen:(cs.take off++u.cells.map (λt=>(⟨T,t⟩:AS))++cs.drop (off+n)).length=cs.length:=by
      simp;omega
     have hkl:k<cs.length:=by rw[<-hlen];exact(J'.1 m).1
     rw [F?];rcases y? k off with B|hge
     .rw[C_,H! an,H? B]at m;refine .inr ⟨m,?_⟩;rw[C_,H! an,H? B,L_]
     .rcases y? k (off+n)with B|hge2
      .rw[C_,G_ an,H! an,D?]at m;simp[AS.mk.injEq,exists_false]at m
      .rw[G_ an]at m;simp[E_]at m;rw[z? U,show off+n+(k-(off+u.cells.length))=k from U]at m;refine .inr ⟨m,?_⟩;rw[G_ (by simp at J|-;omega)];simp only[B',B!,K_,E_]at J|-;rw[z? U,show off+n+(k-(off+(a.eval v).cells.size))=k from U,L_]
   .exact h.elim
  .exact h.elim
 .exact h.elim
def AO.frz(h:AO F0 w0 O a w G){cs:List AS}(I:O.get s=.bx cs):CE F0 w0 ((s,.tv (.pt (cs.map (·.t))))::O) a w:=by
 have Z:s<a.tmps.size:=Bz h I V;have hr:=At h I V;have hw:=h.wf s;rw[I]at hw;simp only[AN]at hr;obtain⟨b,c,θ,h1,h2,h3,κ,h5⟩:=hr
 let D:Bh:=K9 G s (λ_=>W)
 have l:∀p i B lo,D p i=Y (B,lo)->p≠s/\G p i=Y (B,lo):=by
  intro p i B lo m;by_cases g:p=s
  .grind[CP]
  .simp[D,Bb _ _ _ _ g]at m;exact⟨g,m⟩
 have E:Bw w w (AW w0.heap.size F0 G) (AW w0.heap.size F0 D):=λB o v η ζ=>⟨η,λJ=>ζ (AW.mono (λp i δ lo m=>⟨p,i,lo,(l _ _ _ _ m).2,x! _⟩) J)⟩;refine⟨D,λp i p' i' B lo lo' C L=>h.ln _ _ _ _ _ _ _ (l _ _ _ _ C).2 (l _ _ _ _ L).2,λp i B lo C=>h.lt _ _ _ _ (l _ _ _ _ C).2,h.below,h.defers,λp m=>?_,λp m=>?_,λp=>?_⟩
 .rw[AB.d7,if_neg U];exact h.dom p m
 .rw[AB.d7];by_cases g:s=p
  .subst g;rw[if_pos rfl,h1];simp only[AN,A3];refine⟨b,0,rfl,?_⟩;rw[Jy];intro i t N;rw[D?]at N;simp at N;obtain⟨cell,A,rfl⟩:=N;obtain⟨x,hx,H⟩:=h5 i cell A;refine⟨x,?_,?_,Hz H,CY E _ _ (XP h H)⟩
   .rw[z!,cell_of_row w b i c θ (0,0) h2];exact hx
   .rintro(⟨C,R⟩|⟨p,j,lo,C,_⟩)
    .exact(h.lt _ _ _ _ κ).2.elim (λe=>U) (λe=>h.below.free _ 0 _ (e 0 (x? 0)) R)
    .obtain⟨L,e3⟩:=l _ _ _ _ C;exact L (h.ln _ _ _ _ _ _ _ e3 κ).1
  .rw[if_neg g];refine AN.kept E (λi=>by simp[D];rw[Bb _ _ _ _ (λe=>g e.symm)]) (λ_ _ _ _=>rfl) (ON rfl λq hq=>by simp[D];rw[Bb _ _ _ _ U]) BY.rfl' (λr i k hr⟨M,u⟩=>⟨⟨M,(AB.x7 V u).2⟩,λ_ hv=>hv⟩) (λr off hr⟨cs',ε⟩=>?_) (λr i hr⟨M,u⟩=>⟨⟨M,(AB.sc V V u).2⟩,λ_ hv=>hv⟩) (h.slots p m)
   grind [AB.d7]
 .rw[AB.d7];split
  .grind[EV.WF,TV.WF,CC]
  .exact h.wf p
theorem Xq{w:World}{F F':Nat->Nat->Prop}{z:Option (Nat×Nat)}{l:List TV}{x:Value}(h:SD w F z n l x)(ha:Bw w w F F')(m:∀b lo o,z=Y (b,lo)->¬F' b o):A3 w F' (.list n l) x:=by
 obtain ⟨ys,⟨A,B,C⟩,D,E,H⟩:=h;have g:CI w F' A (.list n l) x:=⟨ys,B,A6 ha _ _ D,E,H⟩;exact g.rep λb lo o u _=>m b 0 o (by rw[C,u];rfl)
def AO.rls(h:AO F0 w0 O a w G){cs:List AS}(hs:O.get s=.bx cs):CE F0 w0 ((s,.bx (cs.map AS.rel))::O) a w:=by
 classical
 have hsz:s<a.tmps.size:=Bz h hs V;have hr:=At h hs V;have hw:=h.wf s;rw[hs]at hw;simp only[AN]at hr;obtain⟨b,c,θ,h1,h2,h3,h4,h5⟩:=hr
 let zs:Option Nat->Option (Nat×Nat):=λi=>match i with
  |none=>G s W|some k=>match cs[k]? with
   |some ⟨X,.xl n es⟩=>(G s (Y k)).map λp=>(p.1,es.length*n)|some ⟨X,.xn es⟩=>(G s (Y k)).map λp=>(p.1,es.length*1)|_=>G s (Y k)
 let Q:Nat->Prop:=λp=>a.tmps.size<=p/\∃k lo,G s (Y k)=Y (p-a.tmps.size,lo)
 let E:Bh:=λp=>if p=s then zs else if Q p then λ_=>W else G p
 have ζ:E s=zs:=by simp[E]
 have J:∀p i H lo,E p i=Y (H,lo)->∃D,G p i=Y (H,D)/\D<=lo:=by
  intro p i H lo m;by_cases C:p=s
  .subst C;rw[ζ]at m;cases i with
   |none=>exact⟨lo,m,x! _⟩|some k=>
    simp [zs]at m;split at m
    next n es hk=>obtain⟨x,_,xs,⟨z0,_,M⟩,_⟩:=h5 k _ hk;simp only[M,L!,L',Function.comp,Prod.mk.injEq]at m;obtain⟨p,m,u,A⟩:=m;exact⟨0,by rw[M,m,<-u];rfl,x? _⟩
    next es hk=>obtain⟨x,_,xs,⟨z0,_,M⟩,_⟩:=h5 k _ hk;simp only[M,L!,L',Function.comp,Prod.mk.injEq]at m;obtain⟨p,m,u,A⟩:=m;exact⟨0,by rw[M,m,<-u];rfl,x? _⟩
    .exact⟨lo,m,x! _⟩
  .simp[E,if_neg C]at m;split at m
   .cases m
   .exact⟨lo,m,x! _⟩
 have N:Bw w w (AW w0.heap.size F0 G) (AW w0.heap.size F0 E):=λH o v hc hF=>⟨hc,λhF'=>hF (AW.mono (λp i b'' lo m=>by
  obtain ⟨D,u,A⟩:=J _ _ _ _ m;exact⟨p,i,D,u,A⟩) hF')⟩
 have hrow:∀k g j H lo o,G s (Y k)=Y (g,0)->tn a G g j=Y (H,lo)->¬AW w0.heap.size F0 E H o:=by
  intro k g j H lo o M hρ;rintro(⟨u,A⟩|⟨p,i,lo',u,A⟩)
  .exact(h.lt _ _ _ _ hρ).2.elim (λe=>U) (λe=>h.below.free _ lo _ (e lo (x! _)) A)
  .obtain⟨D,e3,_⟩:=J _ _ _ _ u;obtain⟨rfl,_⟩:=h.ln _ _ _ _ _ _ _ hρ e3;simp[E]at u;rw[if_neg U,if_pos ⟨U,k,0,by rw[A_];exact M⟩]at u;cases u
 have hrel:∀{k:Nat}{d:AS}{x:Value},cs[k]?=Y d->BW w (AW w0.heap.size F0 G) (tn a G) (G s (Y k)) d x->BW w (AW w0.heap.size F0 E) (tn a E) (zs (Y k)) d.rel x:=by
  intro k d x hk hd;have R:zs (Y k)=match d with
   |⟨X,.xl n es⟩=>(G s (Y k)).map λp=>(p.1,es.length*n)|⟨X,.xn es⟩=>(G s (Y k)).map λp=>(p.1,es.length*1)|_=>G s (Y k):=by
   simp only[zs,hk];obtain⟨o,t⟩:=d;cases o<;>cases t<;>rfl
  generalize hzz:zs (Y k)=z' at R;unfold AS.rel;split
  .rename_i n es;subst R;obtain⟨xs,⟨z0,Z,k2⟩,k3,k4,k5⟩:=hd;refine⟨xs,?_,A6 N _ _ k3,k4,k5⟩;have:(G s (Y k)).map (λp=>(p.1,es.length*n))=z0:=by
    rw [k2];rcases Z.2 with⟨_,_,e⟩|⟨g,cap,cur,e,_,_,_,_,_,_,e⟩
    .rw[e];rfl
    .rw[e];rfl
   show Gv w n x es.length xs ((G s (Y k)).map λp=>(p.1,es.length*n));rw[this];exact Z
  .rename_i es;subst R;obtain⟨xs,⟨z0,Z,k2⟩,k3,k4⟩:=hd;have hlen:xs.length=es.length:=by have:=Z.1;omega
   have hone:∀e∈es,e.cells.length=1:=by
    intro e he;obtain⟨j,hj⟩:=J! he;obtain⟨g,x,n,fs,_,_,rfl,_⟩:=k4 j e hj;rfl
   have hfm:∀(l:List TV),(∀e∈l,∃n fs,e=TV.list n fs)->l.flatMap TV.cells=l:=by
    intro l
    induction l with
    |nil=>intro _;rfl|cons e l ih=>
     intro hl;obtain⟨n,fs,rfl⟩:=hl e V;rw[C?,ih (λe he=>hl e (by simp[he]))];rfl
   refine ⟨xs,?_,?_,hone,k3⟩
   .have:(G s (Y k)).map (λp=>(p.1,es.length*1))=z0:=by
     rw [k2];rcases Z.2 with⟨_,_,e⟩|⟨g,cap,cur,e,_,_,_,_,_,_,e⟩
     .rw[e];rfl
     .rw[e];rfl
    show Gv w 1 x es.length xs ((G s (Y k)).map λp=>(p.1,es.length*1));rw[this];exact Z
   .rw[hfm es λe he=>by
     obtain ⟨j,hj⟩:=J! he;obtain⟨g,x,n,fs,_,_,rfl,_⟩:=k4 j e hj;exact⟨_,_,rfl⟩]
    rw [Bt];refine⟨hlen,λj e y hj hy=>?_⟩;obtain⟨g,x,n,fs,u,A,rfl,e4⟩:=k4 j e hj;rw[hy]at A;cases A;exact Xq e4 N λH lo o hb=>hrow k g j H lo o u hb
  .rename_i hne κ;have:z'=G s (Y k):=by
    rw [R];split
    .exact absurd rfl (hne _ _)
    .exact absurd rfl (κ _)
    .rfl
   rw [this];have hd2:=hd.kept N (λ_ _ _=>rfl) BY.rfl';obtain⟨o,t⟩:=d;cases o
   .exact hd2
   .cases t<;>first|exact hd2|exact absurd rfl (κ _)
 refine ⟨E,λp i p' i' H lo lo' u A=>?_,λp i H lo u=>?_,h.below,h.defers,λp m=>?_,λp m=>?_,λp=>?_⟩
 .obtain⟨_,f1,_⟩:=J _ _ _ _ u;obtain⟨_,f2,_⟩:=J _ _ _ _ A;exact h.ln _ _ _ _ _ _ _ f1 f2
 .obtain⟨D,f1,f2⟩:=J _ _ _ _ u;exact⟨(h.lt _ _ _ _ f1).1,(h.lt _ _ _ _ f1).2.imp id λk o ho=>k o (y_ f2 ho)⟩
 .rw[AB.d7,if_neg U];exact h.dom p m
 .rw[AB.d7];by_cases C:s=p
  .subst C;rw[if_pos rfl,h1];simp only[AN];refine⟨b,c,θ,rfl,h2,by simpa using h3,by rw[ζ];exact h4,λi d hd=>?_⟩;rw[D?]at hd;simp at hd;obtain⟨η,ε,rfl⟩:=hd;obtain⟨x,hx,hc⟩:=h5 i η ε;refine⟨x,hx,?_⟩;rw[ζ];exact hrel ε hc
  .rw[if_neg C];have hGp:∀i,E p i=G p i:=λi=>by
    simp [E];rw[if_neg (λe=>C e.symm),if_neg (λe=>q!)]
   refine AN.kept' N hGp (λ_ _ _ _=>rfl) (λi g lo j M=>?_) (λ_=>BY.spot BY.rfl') (λr i k hr⟨δ,B⟩=>?_) (λr off hr⟨cs',I⟩=>?_) (λr i hr⟨δ,B⟩=>?_) (h.slots p m)
   .simp[tn,E];rw[if_neg U,if_neg];rintro⟨_,k,lo',e⟩;rw[A_]at e;exact C (h.ln _ _ _ _ _ _ _ e M).1
   .by_cases L:s=r
    .subst L;exfalso;obtain⟨cs',u,A⟩:=AB.rr B;rw[AB.d7,if_pos rfl]at u;cases u;rw[D?]at A;simp at A;obtain⟨η,_,e3⟩:=A;obtain⟨o,t⟩:=η;cases o<;>cases t<;>simp[AS.rel]at e3
    .rw[AB.Aah L]at B;exact⟨⟨δ,B⟩,λv hv=>hv⟩
   .rw[AB.d7]at I;split at I
    next e=>subst e;exact⟨⟨cs,hs⟩,rfl⟩
    .exact⟨⟨cs',I⟩,rfl⟩
   .by_cases L:s=r
    .subst L;exfalso;cases i with
     |none=>simp[AB.so,AB.d7]at B|some k=>
      obtain ⟨cs',u,A⟩:=AB.pr (n:=δ.1) (es:=δ.2) B;rw[AB.d7,if_pos rfl]at u;cases u;rw[D?]at A;simp at A;obtain⟨η,_,e3⟩:=A;obtain⟨o,t⟩:=η;cases o<;>cases t<;>simp[AS.rel]at e3
    .have:O.so r i=Y δ:=by
      rw [<-B];exact(AB.Aal (by rw[AB.d7,if_neg L])).symm
     exact ⟨⟨δ,this⟩,λv hv=>hv⟩
 .rw[AB.d7];split
  .intro d hd;obtain⟨η,ε,rfl⟩:=E'.1 hd;have:=hw η ε;obtain⟨o,t⟩:=η;cases o<;>cases t<;>exact this
  .exact h.wf p
end
end Go.Sf
namespace Go.Sf
open Go.RowKit (Below)
section
variable{P:Program}{S:FuncId->List TV->BA->Prop}{F0:Nat->Nat->Prop}{w0:W0}{O:AB}{a:Act}{w:World}{G:Bh}{d:Nat}{o:Oper}{K:EV->AB->Prop}
variable{s off b:Nat}{e:EV}
def AO.AaZ(h:AO F0 w0 O a w G){cs:List AS}(ζ:O.get s=.bx cs){t:TV}(Z:cs[off]?=Y ⟨X,t⟩)(hd:d<a.tmps.size)(hsl:slot a s=.pointer (Y ⟨b,0,W⟩)){x:Value}(hx:w.cell? ⟨b,off,W⟩=Y x){t':TV}(A:(e=.ow t/\t'=t/\t.AaI=T)\/(∃n es,t=.xl n es/\e=.xo n es/\t'=.undef/\O.gt d=X)\/∃es,t=.xn es/\e=.xn es/\t'=.undef/\O.gt d=X):
  CE F0 w0 ((d,e)::(s,.bx (cs.set off ⟨T,t'⟩))::O) (a.put (Y d) x) w:=by
 have hr:=At h ζ V;have hw:=h.wf s;rw[ζ]at hw;simp only[AN]at hr;obtain⟨R,c,θ,η,N,h3,h4,h5⟩:=hr;rw[hsl]at η;simp at η;subst η;obtain⟨x',hx',g⟩:=h5 off _ Z;have M:x'=x:=by
  rw [cell_of_row w b off c θ (0,0) N]at hx
  grind
 subst M;simp[BW]at g
 let J:Bh:=λp i=>if p=d then(if i=W then G s (Y off)else W)else if p=s/\i=Y off then W else G p i
 have ε:∀p i R lo,J p i=Y (R,lo)->(p=d/\i=W/\G s (Y off)=Y (R,lo))\/(p≠d/\¬(p=s/\i=Y off)/\G p i=Y (R,lo)):=by
  grind
 have B:Bw w w (AW w0.heap.size F0 G) (AW w0.heap.size F0 J):=λR o v Z hF=>⟨Z,λhF'=>hF (AW.mono (λp i b'' lo δ=>by
  grind) hF')⟩
 have D:tn (a.put (Y d) x') J=tn a G:=ON (Bx _ _ _) λq hq=>by
  have hsz:s<a.tmps.size:=Bz h ζ V
  grind
 refine ⟨J,?_,?_,h.below,g?,?_,?_,?_⟩
 .intro p i p' i' R lo lo' I e2;rcases ε _ _ _ _ I with⟨rfl,rfl,f1⟩|⟨n1,n2,f1⟩<;>rcases ε _ _ _ _ e2 with⟨rfl,rfl,f2⟩|⟨m1,m2,f2⟩
  .exact⟨rfl,rfl⟩
  .exact absurd ((h.ln _ _ _ _ _ _ _ f1 f2).imp Eq.symm Eq.symm) m2
  .exact absurd (h.ln _ _ _ _ _ _ _ f1 f2) n2
  .exact h.ln _ _ _ _ _ _ _ f1 f2
 .intro p i R lo I;rcases ε _ _ _ _ I with⟨_,_,I⟩|⟨_,_,I⟩<;>exact h.lt _ _ _ _ I
 .intro p δ;rw[Bx]at δ;have hsz:s<a.tmps.size:=Bz h ζ V;rw[AB.d7,if_neg U,AB.d7,if_neg U];exact h.dom p δ
 .intro p δ;rw[Bx]at δ;rw[AB.d7];by_cases E:d=p
  .subst E;rw[if_pos rfl,C7 _ _ _ hd];rcases A with⟨rfl,rfl,hxl⟩|⟨n,es,rfl,rfl,rfl,_⟩|⟨es,rfl,rfl,rfl,_⟩
   .simp[AN,J];exact(g.own hxl).kept B (λ_ _ _=>rfl)
   .have:=g.kept B (λ_ _ _=>rfl) BY.rfl';simp[E0]at this;simp[AN,J];exact this
   .have:=g.kept B (λ_ _ _=>rfl) BY.rfl';simp[E0]at this;simp[AN];rw[D];simp[J];exact this
  .rw[if_neg E,AZ _ _ _ _ E,AB.d7];by_cases κ:s=p
   .subst κ;rw[if_pos rfl];have hsd:¬s=d:=λe=>E e.symm;simp only[AN];refine⟨b,c,θ,hsl,N,by simpa using h3,by simp only[J];rw[if_neg hsd,if_neg V];exact h4,λi y C=>?_⟩;rw[I?]at C;by_cases hi:off=i
    .subst hi;rw[if_pos rfl]at C;split at C
     .simp at C;subst C;refine⟨x',hx',?_,QH g⟩;rcases A with⟨rfl,rfl,hxl⟩|⟨n,es,rfl,rfl,rfl,_⟩|⟨es,rfl,rfl,rfl,_⟩
      .exact CY B _ _ (E0.rep g (λb lo o hz ho=>QI h b lo o hz ho))
      .exact QH g
      .exact QH g
     .cases C
    .rw[if_neg hi]at C;obtain⟨v,I,e2⟩:=h5 i y C;refine⟨v,I,?_⟩;simp[J];rw[if_neg hsd,if_neg (by rintro⟨_,e⟩;exact hi (by simpa using e.symm)),D];exact e2.kept B (λ_ _ _=>rfl) BY.rfl'
   .rw[if_neg κ];refine AN.kept B (λi=>by simp[J];rw[if_neg (λe=>E e.symm),if_neg (λe=>κ e.1.symm)]) (λ_ _ _ _=>rfl) D BY.rfl' (λr i k hr⟨pp,m⟩=>?_) (λr off' hr⟨cs',u⟩=>?_) (λr i hr⟨pp,m⟩=>?_) (h.slots p δ)
    .by_cases l:d=r
     .subst l;obtain⟨cs',I⟩:=AB.AaG m;rcases A with⟨rfl,_⟩|⟨n,es,_,rfl,_⟩|⟨es,_,rfl,_⟩<;>cases I
     .rw[AB.Aah l]at m;have H:∃p,O.nat r i=Y p:=by
       grind [AB.rr,AB.d7,AB.nat,AB.Aah]
      exact ⟨H,h.nh H (AZ _ _ _ _ l) (λ_ _ _ _=>rfl)⟩
    .rw[AB.d7]at u;by_cases l:d=r
     .rw[if_pos l]at u;rcases A with⟨rfl,_⟩|⟨n,es,_,rfl,_⟩|⟨es,_,rfl,_⟩<;>cases u
     .rw[if_neg l,AB.d7]at u;refine⟨?_,AZ _ _ _ _ l⟩;split at u
      next L=>subst L;exact⟨cs,ζ⟩
      .exact⟨_,u⟩
    .by_cases l:d=r
     .subst l;rcases A with⟨rfl,_⟩|⟨n,es,_,rfl,_,hno⟩|⟨es,_,rfl,_⟩
      .exact absurd rfl (AB.sc V V m).1
      rotate_left
      .exact absurd rfl (AB.sc V V m).1
      .have M:=AB.AaW d O hno p;rcases hr with hr|⟨c,hr⟩
       .exact absurd hr (M.1 i)
       .exact absurd hr (M.2 i c)
     .rw[AB.Aag l]at m;have H:∃p,O.so r i=Y p:=by
       by_cases L:s=r
       .subst L;obtain⟨n,es⟩:=pp;cases i with
        |none=>have:=AB.tl m;rw[AB.d7,if_pos rfl]at this;cases this
        |some k=>
         obtain ⟨cs'',η,N⟩:=AB.pr m;rw[AB.d7,if_pos rfl]at η;simp[EV.bx.injEq]at η;subst η;rw[I?]at N;split at N
         .split at N<;>simp at N
         .exact⟨(n,es),by simp[AB.so,ζ,N]⟩
       .rw[AB.Aag L]at m;exact⟨pp,m⟩
      exact ⟨H,h.xv H (AZ _ _ _ _ l) (λ_ _=>rfl)⟩
 .intro p;rw[AB.d7];split
  .have:=hw _ (D! Z);rcases A with⟨rfl,_⟩|⟨n,es,rfl,rfl,_⟩|⟨es,rfl,rfl,_⟩
   .exact this
   .exact this
   .exact this
  .rw[AB.d7];split
   .intro y C;rcases G? C with C|rfl
    .exact hw y C
    .rcases A with⟨_,rfl,_⟩|⟨n,es,_,_,rfl,_⟩|⟨es,_,_,rfl,_⟩
     .exact(hw ⟨X,_⟩ (D! Z):_)
     .trivial
     .trivial
   .exact h.wf p
variable{x:Operand}{t:TypeId}
def sd(u:AO F0 w0 O a w G)(hd:d<a.tmps.size){x':AH}(A:o.op=.load t x)(E:AK x x'=X)(H:CO P t=Y T)(h:(AF.ldt x').wp S O (Y d) K):BI P F0 w0 a w o d K:=by
 simp [AF.wp]at h;split at h
 .rename_i s off I;split at h
  .rename_i cs B;split at h
   .rename_i n es D;obtain⟨b,l,m⟩:=IT u E I B;have hr:=At u B V;simp only[AN]at hr;obtain⟨N,c,θ,C,J,R,ε,L⟩:=hr;rw[l]at C;simp at C;subst C;obtain⟨y,M,_⟩:=L off _ D;have g:w.cell? ⟨b,off,W⟩=Y y:=by rw[cell_of_row w b off c θ (0,0) J];exact M
    exact ⟨y,w,by simp[execOp,A,m,Instr.loadAt,Instr.sureAddr,loadVar,C4 H,g],_,_,h,u.AaZ B D hd l g (.inl ⟨rfl,rfl,rfl⟩)⟩
   .exact h.elim
  .exact h.elim
 .exact h.elim
end
abbrev D0:=Nat->Option Nat->Option (Nat×Nat)
def D0.tn(Z:D0):JJ:=λg j=>Z (g+1) (Y j)
def ZF(Z:D0)(b o:Nat):Prop:=∃q i lo,Z q i=Y (b,lo)/\lo<=o
def KX(Z:D0):Prop:=∀q i q' i' b lo lo',Z q i=Y (b,lo)->Z q' i'=Y (b,lo')->q=q'/\i=i'
def X2(w:World)(F:Nat->Nat->Prop)(Z:D0)(cs:List AS)(v:Value):Prop:=
 ∃vs:Array Value,v=.agg vs/\vs.size=cs.length/\∀(i:Nat)(d:AS),cs[i]?=Y d->∃x,vs[i]?=Y x/\BW w F Z.tn (Z 0 (Y i)) d x/\x.oneCell'=X
def dT(w:World)(F N:Nat->Nat->Prop)(cs:List AS)(v:Value):Prop:=
 ∃Z:D0,X2 w (λb o=>F b o\/ZF Z b o) Z cs v/\KX Z/\Z 0 W=W/\∀q i b lo,Z q i=Y (b,lo)->b<w.heap.size/\N b lo
def JY(w':World)(F:Nat->Nat->Prop)(base:Nat):BA->Value->Prop
 |.sh t,v=>A3 w' F t v|.own t,v=>∃z,CI w' (λb o=>F b o\/∃lo,z=Y (b,lo)/\lo<=o) z t v/\∀b lo,z=Y (b,lo)->base<=b/\b<w'.heap.size|.tp ts,v=>∃vs,v=.tuple vs/\AR w' F ts vs.toList|.Aa5 n es,v=>∃z xs,Gv w' n v es.length xs z/\AR w' (λb o=>F b o\/∃lo,z=Y (b,lo)) (es.flatMap TV.cells) xs/\(∀e∈es,e.cells.length=n)/\(∀x∈xs,x.oneCell'=X)/\∀b lo,z=Y (b,lo)->base<=b/\b<w'.heap.size|.oag cs,v=>dT w' F (λb _=>base<=b) cs v|.mpr kvs ts,v=>∃(b:Nat)(vs:List Value),v=.tuple (Value.map (Y b)::vs).toArray/\base<=b/\b<w'.heap.size/\YA w' b kvs/\AR w' F ts vs|_,_=>False
def EG(P:Program)(f:FuncId):Bool:=
 match P.funcs[f]? with
 |some fn=>fn.name != "runtime.NumGoroutine" && fn.body.isSome
 |none=>T
def YE(P:Program)(f:FuncId)(args:List TV)(r:BA):Prop:=
 TV.pq args->EG P f=X/\∀(F0:Nat->Nat->Prop)(w:World)(vs:Array Value),AR w F0 args vs.toList->VL w ->
  r.WF/\Calls P f vs w λe w'=>∃v,e=.returned v/\Below w.heap.size w w'/\JY w' (λb o=>b<w.heap.size/\F0 b o) w.heap.size r v
def SB(z:Option (Nat×Nat))(w w':World):Prop:=
 w'.os=w.os/\w'.tape=w.tape/\w'.output=w.output/\w.heap.size<=w'.heap.size/\∀k,k<w.heap.size->(∀lo,z≠Y (k,lo))->w'.heap[k]?=w.heap[k]?
def RW(w:World)(F:Nat->Nat->Prop):List TV->Value->Prop
 |[t],v=>A3 w F t v|us,v=>∃vs,v=.tuple vs/\AR w F us vs.toList
def ACH(P:Program)(f:FuncId)(args:List TV)(zs':List Int)(us:List TV):Prop:=
 ∃(zs:List Int)(ts:List TV),args=.list 1 (zs.map (TV.int .i64))::ts/\EG P f=X/\TV.zt us=X/\
  ∀(F0:Nat->Nat->Prop)(w:World)(v:Value)(vs:List Value)(z:Option (Nat×Nat)),(TV.list 1 (zs.map (TV.int .i64))).WF->TV.pq ts->LK w 1 v zs.length (zs.map (Value.int .i64)) z->AR w F0 ts vs->(∀b lo o,z=Y (b,lo)->lo<=o->F0 b o)->(∀b lo,z=Y (b,lo)->b<w.heap.size/\gq<=b)->VL w ->
   Calls P f (v::vs).toArray w λe w'=>(zs'.length=zs.length/\(BA.turn zs' us).WF)/\(∃r,e=.returned r/\RW w' (λ_ _=>False) us r)/\LK w' 1 v zs.length (zs'.map (Value.int .i64)) z/\SB z w w'
def ACE(P:Program)(f:FuncId)(args:List TV)(zs':List Int):Prop:=
 ∃zs:List Int,args=[.list 1 (zs.map (TV.int .i64))]/\EG P f=X/\((TV.list 1 (zs.map (TV.int .i64))).WF->(TV.list 1 (zs'.map (TV.int .i64))).WF)/\
  ∀(w:World)(v:Value)(z:Option (Nat×Nat)),LK w 1 v zs.length (zs.map (Value.int .i64)) z ->
   Calls P f #[v] w λe w'=>∃v',e=.returned v'/\LK w' 1 v' zs'.length (zs'.map (Value.int .i64)) z/\SB z w w'
def PB(w:World)(F:Nat->Nat->Prop)(Z:D0)(cs:List AS)(v:Value):Prop:=
 ∃b c θ,v=.pointer (Y ⟨b,0,W⟩)/\w.heap[b]?=Y (.cells c θ (0,0))/\c.size=cs.length/\Z 0 W=Y (b,0)/\∀(i:Nat)(d:AS),cs[i]?=Y d->∃x,c[i]?=Y x/\BW w F Z.tn (Z 0 (Y i)) d x
structure Ho(Z:D0)(w w':World):Prop where
 os:w'.os=w.os
 tape:w'.tape=w.tape
 output:w'.output=w.output
 size:w.heap.size<=w'.heap.size
 block:∀k,k<w.heap.size->(∀q i lo,Z q i≠Y (k,lo))->w'.heap[k]?=w.heap[k]?
 cell:∀b o u,¬ZF Z b o->w.cell? ⟨b,o,W⟩=Y u->w'.cell? ⟨b,o,W⟩=Y u
def ACF(P:Program)(f:FuncId)(args us:List TV):Prop:=
 TV.pq args->(TV.zt us=X/\TV.pq us)/\∀(w:World)(vs:Array Value),AR w (λ_ _=>False) args vs.toList->∃r:Array Value,(callFunc f vs).run P w=.ok (.value (.tuple r)) w/\AR w (λ_ _=>False) us r.toList
def ACD(P:Program)(f:FuncId)(args:List TV)(cs cs':List AS)(i:Nat)(us:List TV):Prop:=
 TV.pq args->(∀c∈cs,c.t.WF)->EG P f=X/\∀(F0:Nat->Nat->Prop)(w:World)(vs:Array Value)(v:Value)(Z:D0),
  AR w (λb o=>F0 b o\/ZF Z b o) args vs.toList->vs[i]?=Y v->PB w (λb o=>F0 b o\/ZF Z b o) Z cs v ->
  KX Z->(∀q i b lo,Z q i=Y (b,lo)->b<w.heap.size)->(∀b o o',ZF Z b o->¬F0 b o')->ZQ w (ZF Z) ->
  ((∀c∈cs',c.t.WF)/\TV.pq us)/\Calls P f vs w λe w'=>∃r Z',e=.returned r/\Ho Z w w'/\PB w' (λb o=>(b<w.heap.size/\F0 b o)\/ZF Z' b o) Z' cs' v/\
   KX Z'/\(∀q i b lo,Z' q i=Y (b,lo)->b<w'.heap.size/\(w.heap.size<=b\/∃p j lo',Z p j=Y (b,lo')/\lo'<=lo))/\
   RW w' (λb o=>(b<w.heap.size/\F0 b o)\/ZF Z' b o) us r
def cp(w':World)(F N:Nat->Nat->Prop):BA->Value->Prop
 |.sh t,v=>A3 w' F t v|.tp ts,v=>∃vs,v=.tuple vs/\AR w' F ts vs.toList|.oag cs,v=>dT w' F N cs v|_,_=>False
def AgS(P:Program)(f:FuncId)(args:List TV)(cs:List AS)(i:Nat)(r:BA):Prop:=
 TV.pq args->(∀c∈cs,c.t.WF)->EG P f=X/\∀(F0:Nat->Nat->Prop)(w:World)(vs:Array Value)(v:Value)(Z:D0),
  AR w (λb o=>F0 b o\/ZF Z b o) args vs.toList->vs[i]?=Y v->X2 w (λb o=>F0 b o\/ZF Z b o) Z cs v ->
  KX Z->(∀q i b lo,Z q i=Y (b,lo)->b<w.heap.size)->(∀b o o',ZF Z b o->¬F0 b o')->ZQ w (ZF Z) ->
  r.WF/\Calls P f vs w λe w'=>∃v',e=.returned v'/\Ho Z w w'/\cp w' (λb o=>b<w.heap.size/\F0 b o) (λb lo=>w.heap.size<=b\/∃p j lo',Z p j=Y (b,lo')/\lo'<=lo) r v'
def AV(P:Program)(f:FuncId)(args:List TV)(r:BA):Prop:=
 match r with
 |.turn zs us=>ACH P f args zs us|.cut zs=>ACE P f args zs|.bo cs cs' i us=>ACD P f args cs cs' i us|.ext us=>ACF P f args us|.ag cs i r=>AgS P f args cs i r|r=>YE P f args r
variable{f:FuncId}{r:BA}
def AV.to0{P:Program}{args:List TV}(h:AV P f args r)(g:r.plain=X):YE P f args r:=by
 cases r<;>first|exact h|cases g
def AV.of0{P:Program}{args:List TV}(h:YE P f args r)(g:r.plain=X):AV P f args r:=by
 cases r<;>first|exact h|cases g
section
variable{P:Program}{F0:Nat->Nat->Prop}{w0:W0}{O:AB}{a:Act}{w:World}{G:Bh}{d:Nat}{o:Oper}{K:EV->AB->Prop}
variable{ρ:JJ}{c:AS}
def iG{F F':Nat->Nat->Prop}{z:Option (Nat×Nat)}{x:Value}(h:BW w F ρ z c x)(ha:Bw w w F F')(C:∀b lo o,z=Y (b,lo)->¬F' b o)(ζ:∀g lo j b lo' o,z=Y (g,lo)->ρ g j=Y (b,lo')->¬F' b o):A3 w F' c.rel.t x:=by
 obtain ⟨_|_,t⟩:=c
 .exact CY ha _ _ h.1
 .by_cases E:∃n es,t=.xl n es
  .obtain⟨n,es,rfl⟩:=E;exact Xq (h:SD w F z n es x) ha C
  .by_cases H:∃es,t=.xn es
   .obtain⟨es,rfl⟩:=H;obtain⟨xs,⟨M,J,N⟩,R,ε⟩:=(h:GI w F ρ z es x);have I:xs.length=es.length:=by have:=J.1;omega
    have m:∀e∈es,e.cells.length=1:=by
     intro e he;obtain⟨j,κ⟩:=J! he;obtain⟨g,x,n,A,_,_,rfl,_⟩:=ε j e κ;rfl
    have B:∀(l:List TV),(∀e∈l,∃n A,e=TV.list n A)->l.flatMap TV.cells=l:=by
     intro l
     induction l with
     |nil=>intro _;rfl|cons e l η=>
      intro D;obtain⟨n,A,rfl⟩:=D e V;rw[C?,η (λe he=>D e (by simp[he]))];rfl
    have u:CI w F' M (.list 1 es) x:=by
     refine ⟨xs,J,?_,m,R⟩;rw[B es λe he=>by
      grind [J!]]
     grind [Bt,Xq]
    exact u.rep λb lo o hb _=>C b 0 o (by rw[N,hb];rfl)
   .have L:E0 w F ρ z t x:=h;have hr:(AS.mk X t).rel=⟨X,t⟩:=by
     cases t<;>first|rfl|exact absurd ⟨_,_,rfl⟩ E|exact absurd ⟨_,rfl⟩ H
    rw [hr];have δ:=L.kept ha (λ_ _ _=>rfl) BY.rfl'
    grind [E0.rep]
variable{r:BA}{v:Value}
def AO.called(h:AO F0 w0 O a w G)(hd:d<a.tmps.size){w':World}(hb:Below w.heap.size w w')(M:r.plain=X)(hr:JY w' (λb o=>b<w.heap.size/\AW w0.heap.size F0 G b o) w.heap.size r v)(H:r.WF):
  CE F0 w0 ((d,r.ev)::O) (a.put (Y d) v) w':=by
 have old:∀(N:Option Nat->Option (Nat×Nat))b o,AW w0.heap.size F0 (K9 G d N) b o->(b<w.heap.size/\AW w0.heap.size F0 G b o)\/∃i lo,N i=Y (b,lo)/\lo<=o:=by
  intro N b o hf;rcases hf with m|⟨s,i,lo,m,C⟩
  .exact .inl ⟨y! m.1 h.below.size,.inl m⟩
  .by_cases κ:s=d
   .subst κ;rw[CP]at m;exact .inr ⟨i,lo,m,C⟩
   .rw[Bb _ _ _ _ κ]at m;exact .inl ⟨(h.lt _ _ _ _ m).1,.inr ⟨s,i,lo,m,C⟩⟩
 cases r with
 |sh t=>
  refine h.tv hb d hd t v (CY (λb o u A hf=>⟨A,λl=>?_⟩) t v hr) H;rcases old _ _ _ l with m|⟨i,lo,m,_⟩
  .exact hf m
  .cases m
 |own t=>
  obtain ⟨z,m,C⟩:=hr;refine h.ow hb d hd t v z C (m.kept (λb o u A hf=>⟨A,λl=>hf ?_⟩) (λ_ _ _=>rfl)) H;rcases old _ _ _ l with B|⟨i,lo,B,L⟩
  .exact .inl B
  .split at B
   .exact .inr ⟨lo,B,L⟩
   .cases B
 |tp ts=>
  obtain ⟨vs,m,C⟩:=hr;refine⟨_,h.quiet hb d hd (.tp ts) v (λ_=>W) V V V ?_ H⟩;simp[AN];refine⟨vs,m,A6 (λb o u A hf=>⟨A,λl=>?_⟩) _ _ C⟩;rcases old _ _ _ l with B|⟨i,lo,B,_⟩
  .exact hf B
  .cases B
 |Aa5 n es=>
  obtain ⟨z,xs,m,C,B,L,δ⟩:=hr;refine h.ow hb d hd (.list n es) v z δ ?_ H;simp[CI];refine⟨xs,m,A6 (λb o u A hf=>⟨A,λl=>hf ?_⟩) _ _ C,B,L⟩;rcases old _ _ _ l with D|⟨i,lo,D,h7⟩
  .exact .inl D
  .split at D
   .exact .inr ⟨lo,D⟩
   .cases D
 |oag cs=>
  obtain ⟨Z,⟨vs,rfl,m,C⟩,B,_,L⟩:=hr;have E:AR w' (λb o=>b<w.heap.size/\AW w0.heap.size F0 G b o) (cs.map λc=>c.rel.t) vs.toList/\∀x∈vs.toList,x.oneCell'=X:=by
   refine ⟨?_,?_⟩
   .rw[Bt];refine⟨by simp[m],λi t x I J=>?_⟩;rw[D?]at I;simp at I;obtain⟨c,A,rfl⟩:=I;obtain⟨y,η,ε,_⟩:=C i c A;rw[L_,η]at J;simp at J;subst J;refine iG ε (λb o u A hf=>⟨A,λl=>hf (.inl l)⟩) (λb lo o ζ hf=>?_) (λg lo j b lo' o ζ hr hf=>?_)
    .grind
    .have:=(L _ _ b lo' hr).2;omega
   .intro x J;obtain⟨i,hi⟩:=J! J;have R:i<cs.length:=by
     grind
    obtain ⟨y,η,_,h1y⟩:=C i _ (D_ R)
    grind
  refine h.tv hb d hd (.agg (cs.map λc=>c.rel.t)) _ ?_ (by
   simp [TV.WF];rw[CC];intro t I;obtain⟨c,A,rfl⟩:=E'.1 I;have:=H c A;obtain⟨o',t'⟩:=c;cases o'<;>cases t'<;>exact this)
  simp only[A3];refine⟨vs,rfl,A6 (λb o u A hf=>⟨A,λl=>hf ?_⟩) _ _ E.1,C!.2 E.2⟩;rcases old _ _ _ l with D|⟨i,lo,D,_⟩
  .exact D
  .cases D
 |turn zs=>exact hr.elim|cut zs=>exact hr.elim|bo _ _ _ _=>exact hr.elim|ext _=>exact hr.elim|ag _ _ _=>exact hr.elim|mpr _ _=>cases M
variable{f:FuncId}
def FM(g:EG P f=X)(vs:Array Value):(callFunc f vs).run P w=.ok (.enter f vs) w:=by
 unfold EG at g;cases hf:P.funcs[f]? with
 |none=>rw[hf]at g;cases g
 |some l=>
  rw [hf]at g;simp[bne_iff_ne]at g;have h:¬l.body=W:=by
   grind
  simp [callFunc,hf,g.1,h]
variable{ts:List TV}{Q:Exit->Act->World->Prop}
def ZT(B:AO F0 w0 O a w G)(hd:d<a.tmps.size)(g:o.dst=Y d){vs:Array Value}(h:(execOp a.eval o).run P w=(callFunc f vs).run P w)(m:AV P f ts r/\r.plain=X)(u:TV.pq ts)(l:AR w (AW w0.heap.size F0 G) ts vs.toList)(D:r.WF->K r.ev O)
  {next:Act->World->Prop}(E:∀e env' a' w',K e env'->SC a d a'->CE F0 w0 ((d,e)::env') a' w'->next a' w'):o.wp P a w next Q:=by
 obtain ⟨H,A⟩:=m.1.to0 m.2 u;obtain⟨C,A⟩:=A _ w vs l B.below.now;unfold Oper.wp;rw[h,FM H vs,Oper.upon_enter];refine A.mono ?_;rintro e w' ⟨v,rfl,hb,hr⟩;simp[g];exact E _ _ _ _ (D C) ⟨_,rfl⟩ (B.called hd hb m.2 hr C)
variable{ats:Array TypeId}
def pY(A:AO F0 w0 O a w G)(hd:d<a.tmps.size)(l:o.dst=Y d){xs:Array Operand}{ys:List AH}(m:o.op=.call {callee:=.value (.func f),args:=xs,argTypes:=ats})(u:Br xs.toList ys=X)(h:(AF.call f ys).wp (AV P) O (Y d) K)
  {next:Act->World->Prop}(B:∀e env' a' w',K e env'->SC a d a'->CE F0 w0 ((d,e)::env') a' w'->next a' w'):o.wp P a w next Q:=by
 simp [AF.wp]at h;cases g:vals O ys with
 |none=>rw[g]at h;exact h.elim|some ts=>
  rw [g]at h;simp[A0]at h;obtain⟨r,C,D⟩:=h;have:=Gh A u g;refine ZT A hd l (vs:=xs.map a.eval) ?_ C this.2 u? D B;simp[execOp,m,resolve,Act.eval,Deferred.ofValue,invoke]
variable{x:Operand}{y:AH}
def mW(l:AO F0 w0 O a w G)(hd:d<a.tmps.size)(g:o.dst=Y d){xs:Array Operand}{ys:List AH}(m:o.op=.call {callee:=.value x,args:=xs,argTypes:=ats})(E:AK x y=X)(u:Br xs.toList ys=X)(h:(AF.Abc y ys).wp (AV P) O (Y d) K)
  {next:Act->World->Prop}(H:∀e env' a' w',K e env'->SC a d a'->CE F0 w0 ((d,e)::env') a' w'->next a' w'):o.wp P a w next Q:=by
 simp [AF.wp]at h;split at h
 .rename_i f B ts hf A;obtain⟨r,I,J⟩:=h;have C:=BF l E hf;have D:=Gh l u A;simp[A3,TV.WF]at C;obtain⟨⟨cs,L,M⟩,N⟩:=C;refine ZT l hd g (vs:=xs.map a.eval++cs) ?_ I (Lw.2 ⟨D.2,N⟩) ?_ J H
  .simp[execOp,m,resolve,L,Deferred.ofValue,invoke]
  .rw[Array.toList_append];exact JS (by simpa using D.1) M
 .exact h.elim
end
end Go.Sf
