/- The pure text of a function, out of its code: which operation stands for which is told by numbers. -/
import Derived.Test.YtpagkickoiafkaaGreatSfK
set_option linter.all false
set_option maxRecDepth 100000
namespace Go.Sf
open Go
def cV:Value->TV
 |.int k n=>.int k n|.bool b=>.bool b|.string s=>.str s|.func (.func f) _ _=>.kL f []|_=>.undef
def oP:Operand->AC
 |.tmp n=>.s n|.const v=>.c (cV v)|.func f=>.c (.kL f [])|.global _=>.c .undef
def tP:Operand->Nat
 |.tmp n=>n|_=>0
def a0:List Operand->Operand
 |x::_=>x|[]=>.global 0
def a1:List Operand->Operand
 |_::x::_=>x|_=>.global 0
def MI:List Operand->List AC
 |[]=>[]|x::r=>oP x::MI r
def YN:List (Nat×Operand)->List AC
 |[]=>[]|x::r=>oP x.2::YN r
def Z2:List (Nat×Nat)->List (Nat×Operand)->List (Nat×Nat×AC)
 |p::r,x::s=>(p.1,p.2,oP x.2)::Z2 r s|_,_=>[]
def oO:Option Operand->Option AC
 |none=>none|some x=>some (oP x)
def YG(m n:Nat)(y:Operand):AB:=match m with
 |1=>.mv (oP y)|2=>.tk (tP y)|20=>.nm (tP y)|24=>.rel (tP y)|25=>.mO (tP y)|64=>.mr n|65=>.kK (oP y) n|66=>.bad (tP y) n|_=>.mc n
def ei(m n:Nat)(y:Operand):AB:=match m with
 |3=>.ld (oP y)|4=>.nK (oP y)|23=>.nv (oP y)|29=>.nH (oP y)|30=>.m8 (oP y)|35=>.nD (oP y)|37=>.ng (oP y)|68=>.mn (oP y) n|88=>.nM (tP y) n|89=>.nP (oP y) n|_=>.ldg (tP y) n
def ej(m n:Nat)(y u:Operand):AB:=match m with
 |31=>.nA (oP y) (tP u)|38=>.mK (oP y) (oP u)|74=>.st n (oP y) (oP u)|75=>.mh n (tP y) (oP u)|77=>.mf (oP y) (oP u) n|_=>.stx n (tP y) (tP u)
def eh(m n:Nat)(y j:Operand):AB:=match m with
 |36=>.mL (oP y) (oP j)|66=>.bad (tP y) n|67=>.l4 (oP y) (oP j) n|_=>.nB (oP y) (oP j) n
def YF(m n:Nat)(c:Callee)(l:List Operand):AB:=match c with
 |.value g=>(match m with
  |15=>.l8 (oP g) (MI l)|_=>(match g with
   |.func f=>(match m with
    |14=>.call f (MI l)|26=>.kW f (MI l)|27=>.lH f (MI l)|32=>.k9 f (MI l)|39=>.kS f (MI l)|40=>.lJ f (MI l)|41=>.kU f (oP (a0 l)) (MI l.tail)|42=>.lu f (oP (a0 l))|87=>.lc f (MI l) n|_=>.kD f (MI l) n)
   |_=>.mJ))
 |.builtin _=>(match m with
  |11=>.len (oP (a0 l))|12=>.mR (oP (a0 l))|21=>.mz (oP (a0 l))|33=>.k7 (tP (a0 l)) (tP (a1 l))|72=>.app n (oP (a0 l)) (oP (a1 l))|44=>.mm true (oP (a0 l)) (oP (a1 l))|45=>.mm false (oP (a0 l)) (oP (a1 l))|_=>.lL n (tP (a0 l)) (oP (a1 l)))
 |_=>.mJ
def aB(m:Nat)(op:BinOp)(p q:Operand):AB:=match m with
 |5=>.bin .i op (oP p) (oP q)|6=>.bin .s op (oP p) (oP q)|7=>.bin .b op (oP p) (oP q)|_=>.ni (oP p)
def ek(m:Nat)(y:Operand):AB:=match m with
 |8=>.not (oP y)|_=>.neg (oP y)
structure TT where
 b:Nat->Fq×List (Nat×Nat)
 c:Nat->List AI
def aC(H:TT)(m n:Nat):Op->AB
 |.move y=>YG m n y|.assign y=>YG m n y|.nilCheck y=>YG m n y|.pick c a b=>.pick (oP c) (oP a) (oP b)|.alloc _=>.mP (H.c n)|.box _ y=>(match m with|19=>.mq (oP y)|_=>.mH (tP y))
 |.build _ q=>.ma (H.b n).1 (Z2 (H.b n).2 q.toList)|.buildSlice _ _ q=>(match m with
  |34=>(match YN q.toList with|[.s x]=>.mj x|_=>.mJ)
  |86=>.l9 n|_=>.mE n (YN q.toList))
 |.load _ y=>ei m n y|.store _ y u=>ej m n y u|.binOp op _ p q _=>aB m op p q|.unOp _ _ y=>ek m y|.makeFunc (.func g) _ xs=>.kL g (MI xs.toList)|.slice _ y l h _=>(match m with
  |13=>.k8 (oP y) (oO l) (oO h)|69=>.lx n (oP y) (oO l) (oO h)|_=>(match h with|some h=>.cut n (tP y) (oP h)|none=>.mJ))
 |.fieldAddr _ y _=>(match m with
  |90=>.nI (oP y) n|65=>.kK (oP y) n|66=>.bad (tP y) n|_=>.xfa (oP y) n)
 |.indexAddr _ y j=>eh m n y j|.index _ y j=>.kQ (oP y) (oP j)|.extract y j=>.ext (oP y) j|.call c=>YF m n c.callee c.args.toList|_=>.mJ
def UI:List Oper->Nat->Nat
 |[],_=>0|o::_,0=>(match o.dst with|some d=>d|none=>0)
 |_::r,j+1=>UI r j
def eg(all:List Oper):Option (Nat×Bool)->Option (Nat×Bool)
 |none=>none|some (j,b)=>some (UI all j,b)
structure DS where
 s:Nat
 l:Ne
 x:List AB
def Wb(H:TT)(all:List Oper):List Oper->DS->List PR×DS
 |[],d=>(match d.s % 256 with
  |61=>([⟨none,.nk (d.s / 256 % 256),none⟩],⟨d.s / 65536,d.l,d.x⟩)|_=>([],d))
 |o::os,⟨s,l,x⟩=>
  match s / 128 % 2,(match o.dst with|some d=>d|none=>0)with
  |f,d0=>
  match (match s % 128 with
   |63=>(match x with|p::x=>(p,DS.mk (s / 256) (match f with|0=>l|_=>l++[d0]) x)|[]=>(AB.mJ,DS.mk 0 l x))
   |m=>(match m / 64 with
    |0=>(aC H m 0 o.op,DS.mk (s / 256) (match f with|0=>l|_=>l++[d0]) x)
    |_=>(aC H m (s / 256 % 256) o.op,DS.mk (s / 65536) (match f with|0=>l|_=>l++[d0]) x)))with
  |(p,d)=>match Wb H all os d with
   |(rs,d')=>(⟨o.dst,p,eg all o.guard⟩::rs,d')
def Rw:Nat->Nat->Ne×Nat
 |0,s=>([],s)|n+1,s=>match Rw n (s / 256)with|(r,s')=>(s % 256::r,s')
def Me(d:DS):DS:=match d.s % 256 with
 |255=>⟨d.s / 256,d.l,d.x⟩|n=>match Rw n (d.s / 256)with|(r,s)=>⟨s,r,d.x⟩
def SL:List Oper->Ne
 |[]=>[]|o::r=>(match o.dst with|some d=>d::SL r|none=>SL r)
def Wc(H:TT)(ops:List Oper)(w:Bool)(d:DS):PC×DS:=match Wb H ops ops d with
 |(rs,d)=>match(match d.s % 256 with|60=>Me ⟨d.s / 256,d.l,d.x⟩|_=>d)with
  |d=>(match w with
   |true=>(match d.s % 256 with
    |59=>(match Rw (d.s / 256 % 256) (d.s / 65536)with|(r,s)=>(PC.draw (r++SL ops) rs d.l,⟨s,d.l,d.x⟩))
    |_=>(PC.draw (SL ops) rs d.l,d))
   |false=>(PC.region rs d.l,d))
def dC(H:TT):Code->DS->PC×Bool×DS
 |.skip,d=>match Me d with|d=>(.skip d.l,true,d)
 |.ret,d=>(.ret,false,d)|.exit i,d=>match Me d with|d=>(.exit i d.l,false,d)
 |.seq a b,d=>match dC H a d with|(p,_,d)=>match dC H b d with|(q,t,d)=>(.seq p q,t,d)
 |.cond c a b,d=>match dC H a d with
  |(p,t,e)=>match dC H b ⟨e.s,d.l,e.x⟩with
   |(q,u,g)=>(.cond (oP c) p q,t||u,match u with|true=>g|false=>⟨g.s,e.l,g.x⟩)
 |.block i c,d=>match dC H c d with|(p,_,d)=>(.block i p,true,Me d)
 |.loop c,d=>match Me d with|d=>match dC H c d with|(p,_,e)=>(.loop d.l p,false,e)
 |.region _ ops w,d=>(match d.s % 256 with
  |62=>(match Wc H ops.toList w ⟨d.s / 65536,d.l,d.x⟩with|(c,e)=>(PC.nd (d.s / 256 % 256) c,true,e))
  |_=>(match Wc H ops.toList w d with|(c,e)=>(c,true,e)))
 |_,d=>(.bad,false,d)
def sy(θ:Nat):Nat->Nat->Nat->Nat
 |0,c,r=>r*256+c|n+1,c,r=>match θ / 65536^ c % 65536 with
  |0=>r*256+c|p=>sy θ n (p % 256) (sy θ n (p / 256) r)
def xp(θ:Nat):Nat->Nat->Nat
 |0,_=>0|n+1,s=>match s with
  |0=>0|s=>sy θ 40 (s % 256) (xp θ n (s / 256))
def xq(θ s:Nat):Nat:=xp θ 400 s
def PC.of(H:TT)(b:Option Code)(s:Nat)(x:List AB):PC:=match b with
 |some c=>(dC H c (Me ⟨s,[],x⟩)).1|none=>.bad
end Go.Sf
