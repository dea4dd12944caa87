/- The pure text of a function, out of its code: which operation stands for which is told by numbers. -/
import Derived.Test.YtagcclhejecceaaGreatSfK
set_option linter.all false
set_option maxRecDepth 100000
namespace Go.Sf
open Go
def cV:Value->TV
 |.int k n=>.int k n|.bool b=>.bool b|.string s=>.str s|.func (.func f) _ _=>.w8 f []|_=>.undef
def oP:Operand->AF
 |.tmp n=>.s n|.const v=>.c (cV v)|.func f=>.c (.w8 f [])|.global _=>.c .undef
def tP:Operand->Nat
 |.tmp n=>n|_=>0
def a0:List Operand->Operand
 |x::_=>x|[]=>.global 0
def a1:List Operand->Operand
 |_::x::_=>x|_=>.global 0
def Qi:List Operand->List AF
 |[]=>[]|x::r=>oP x::Qi r
def k9:List (Nat×Operand)->List AF
 |[]=>[]|x::r=>oP x.2::k9 r
def oI:List (Nat×Nat)->List (Nat×Operand)->List (Nat×Nat×AF)
 |p::r,x::s=>(p.1,p.2,oP x.2)::oI r s|_,_=>[]
def oO:Option Operand->Option AF
 |none=>none|some x=>some (oP x)
def kw(m n:Nat)(y:Operand):AE:=match m with
 |1=>.mv (oP y)|2=>.tk (tP y)|20=>.zg (tP y)|24=>.rel (tP y)|25=>.yW (tP y)|64=>.yw n|65=>.w3 (oP y) n|66=>.bad (tP y) n|_=>.yd n
def uD(m n:Nat)(y:Operand):AE:=match m with
 |3=>.ld (oP y)|4=>.zL (oP y)|23=>.zD (oP y)|29=>.zT (oP y)|30=>.zb (oP y)|35=>.zu (oP y)|37=>.zj (oP y)|68=>.yt (oP y) n|88=>.zO (tP y) n|89=>.zN (oP y) n|_=>.ldg (tP y) n
def uE(m n:Nat)(y u:Operand):AE:=match m with
 |31=>.zp (oP y) (tP u)|38=>.yP (oP y) (oP u)|74=>.st n (oP y) (oP u)|75=>.yy n (tP y) (oP u)|77=>.yx (oP y) (oP u) n|_=>.stx n (tP y) (tP u)
def uC(m n:Nat)(y j:Operand):AE:=match m with
 |36=>.yO (oP y) (oP j)|66=>.bad (tP y) n|67=>.yb (oP y) (oP j) n|_=>.zy (oP y) (oP j) n
def kv(m n:Nat)(c:Callee)(l:List Operand):AE:=match c with
 |.value g=>(match m with
  |15=>.ye (oP g) (Qi l)|_=>(match g with
   |.func f=>(match m with
    |14=>.call f (Qi l)|26=>.xz f (Qi l)|27=>.xY f (Qi l)|32=>.xD f (Qi l)|39=>.xj f (Qi l)|40=>.xZ f (Qi l)|41=>.xk f (oP (a0 l)) (Qi l.tail)|42=>.xP f (oP (a0 l))|87=>.xF f (Qi l) n|_=>.w6 f (Qi l) n)
   |_=>.yQ))
 |.builtin _=>(match m with
  |11=>.len (oP (a0 l))|12=>.yX (oP (a0 l))|21=>.yD (oP (a0 l))|33=>.xC (tP (a0 l)) (tP (a1 l))|72=>.app n (oP (a0 l)) (oP (a1 l))|44=>.mm true (oP (a0 l)) (oP (a1 l))|45=>.mm false (oP (a0 l)) (oP (a1 l))|_=>.x4 n (tP (a0 l)) (oP (a1 l)))
 |_=>.yQ
def oT(m:Nat)(op:BinOp)(p q:Operand):AE:=match m with
 |5=>.bin .i op (oP p) (oP q)|6=>.bin .s op (oP p) (oP q)|7=>.bin .b op (oP p) (oP q)|_=>.y9 (oP p)
def uF(m:Nat)(y:Operand):AE:=match m with
 |8=>.not (oP y)|_=>.neg (oP y)
structure bA where
 b:Nat->Fq×List (Nat×Nat)
 c:Nat->List AN
def oU(H:bA)(m n:Nat):Op->AE
 |.move y=>kw m n y|.assign y=>kw m n y|.nilCheck y=>kw m n y|.pick c a b=>.pick (oP c) (oP a) (oP b)|.alloc _=>.yY (H.c n)|.box _ y=>(match m with|19=>.yr (oP y)|_=>.yH (tP y))
 |.build _ q=>.yq (H.b n).1 (oI (H.b n).2 q.toList)|.buildSlice _ _ q=>(match m with
  |34=>(match k9 q.toList with|[.s x]=>.yv x|_=>.yQ)
  |86=>.ym n|_=>.yI n (k9 q.toList))
 |.load _ y=>uD m n y|.store _ y u=>uE m n y u|.binOp op _ p q _=>oT m op p q|.unOp _ _ y=>uF m y|.makeFunc (.func g) _ xs=>.w8 g (Qi xs.toList)|.slice _ y l h _=>(match m with
  |13=>.xi (oP y) (oO l) (oO h)|69=>.xu n (oP y) (oO l) (oO h)|_=>(match h with|some h=>.cut n (tP y) (oP h)|none=>.yQ))
 |.fieldAddr _ y _=>(match m with
  |90=>.zJ (oP y) n|65=>.w3 (oP y) n|66=>.bad (tP y) n|_=>.xfa (oP y) n)
 |.indexAddr _ y j=>uC m n y j|.index _ y j=>.xc (oP y) (oP j)|.extract y j=>.ext (oP y) j|.call c=>kv m n c.callee c.args.toList|_=>.yQ
def cr:List Oper->Nat->Nat
 |[],_=>0|o::_,0=>(match o.dst with|some d=>d|none=>0)
 |_::r,j+1=>cr r j
def uB(all:List Oper):Option (Nat×Bool)->Option (Nat×Bool)
 |none=>none|some (j,b)=>some (cr all j,b)
structure DS where
 s:Nat
 l:Ne
 x:List AE
def iB(H:bA)(all:List Oper):List Oper->DS->List PR×DS
 |[],d=>(match d.s % 256 with
  |61=>([⟨none,.ze (d.s / 256 % 256),none⟩],⟨d.s / 65536,d.l,d.x⟩)|_=>([],d))
 |o::os,⟨s,l,x⟩=>
  match s / 128 % 2,(match o.dst with|some d=>d|none=>0)with
  |f,d0=>
  match (match s % 128 with
   |63=>(match x with|p::x=>(p,DS.mk (s / 256) (match f with|0=>l|_=>l++[d0]) x)|[]=>(AE.yQ,DS.mk 0 l x))
   |m=>(match m / 64 with
    |0=>(oU H m 0 o.op,DS.mk (s / 256) (match f with|0=>l|_=>l++[d0]) x)
    |_=>(oU H m (s / 256 % 256) o.op,DS.mk (s / 65536) (match f with|0=>l|_=>l++[d0]) x)))with
  |(p,d)=>match iB H all os d with
   |(rs,d')=>(⟨o.dst,p,uB all o.guard⟩::rs,d')
def YT:Nat->Nat->Ne×Nat
 |0,s=>([],s)|n+1,s=>match YT n (s / 256)with|(r,s')=>(s % 256::r,s')
def RB(d:DS):DS:=match d.s % 256 with
 |255=>⟨d.s / 256,d.l,d.x⟩|n=>match YT n (d.s / 256)with|(r,s)=>⟨s,r,d.x⟩
def Y5:List Oper->Ne
 |[]=>[]|o::r=>(match o.dst with|some d=>d::Y5 r|none=>Y5 r)
def iC(H:bA)(ops:List Oper)(w:Bool)(d:DS):PC×DS:=match iB H ops ops d with
 |(rs,d)=>match(match d.s % 256 with|60=>RB ⟨d.s / 256,d.l,d.x⟩|_=>d)with
  |d=>(match w with
   |true=>(match d.s % 256 with
    |59=>(match YT (d.s / 256 % 256) (d.s / 65536)with|(r,s)=>(PC.draw (r++Y5 ops) rs d.l,⟨s,d.l,d.x⟩))
    |_=>(PC.draw (Y5 ops) rs d.l,d))
   |false=>(PC.region rs d.l,d))
def dC(H:bA):Code->DS->PC×Bool×DS
 |.skip,d=>match RB d with|d=>(.skip d.l,true,d)
 |.ret,d=>(.ret,false,d)|.exit i,d=>match RB d with|d=>(.exit i d.l,false,d)
 |.seq a b,d=>match dC H a d with|(p,_,d)=>match dC H b d with|(q,t,d)=>(.seq p q,t,d)
 |.cond c a b,d=>match dC H a d with
  |(p,t,e)=>match dC H b ⟨e.s,d.l,e.x⟩with
   |(q,u,g)=>(.cond (oP c) p q,t||u,match u with|true=>g|false=>⟨g.s,e.l,g.x⟩)
 |.block i c,d=>match dC H c d with|(p,_,d)=>(.block i p,true,RB d)
 |.loop c,d=>match RB d with|d=>match dC H c d with|(p,_,e)=>(.loop d.l p,false,e)
 |.region _ ops w,d=>(match d.s % 256 with
  |62=>(match iC H ops.toList w ⟨d.s / 65536,d.l,d.x⟩with|(c,e)=>(PC.zk (d.s / 256 % 256) c,true,e))
  |_=>(match iC H ops.toList w d with|(c,e)=>(c,true,e)))
 |_,d=>(.bad,false,d)
def sy(T:Nat):Nat->Nat->Nat->Nat
 |0,c,r=>r*256+c|n+1,c,r=>match T / 65536^ c % 65536 with
  |0=>r*256+c|p=>sy T n (p % 256) (sy T n (p / 256) r)
def xp(T:Nat):Nat->Nat->Nat
 |0,_=>0|n+1,s=>match s with
  |0=>0|s=>sy T 40 (s % 256) (xp T n (s / 256))
def xq(T s:Nat):Nat:=xp T 400 s
def PC.of(H:bA)(b:Option Code)(s:Nat)(x:List AE):PC:=match b with
 |some c=>(dC H c (RB ⟨s,[],x⟩)).1|none=>.bad
end Go.Sf
