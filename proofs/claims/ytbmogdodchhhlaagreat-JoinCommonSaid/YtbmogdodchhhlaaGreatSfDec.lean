/- The pure text of a function, out of its code: which operation stands for which is told by numbers. -/
import Derived.Test.YtbmogdodchhhlaaGreatSfK
set_option linter.all false
set_option maxRecDepth 100000
namespace Go.Sf
open Go
def cV:Value->TV
 |.int k n=>.int k n|.bool b=>.bool b|.string s=>.str s|.func (.func f) _ _=>.sR f []|_=>.undef
def oP:Operand->AD
 |.tmp n=>.s n|.const v=>.c (cV v)|.func f=>.c (.sR f [])|.global _=>.c .undef
def tP:Operand->Nat
 |.tmp n=>n|_=>0
def a0:List Operand->Operand
 |x::_=>x|[]=>.global 0
def a1:List Operand->Operand
 |_::x::_=>x|_=>.global 0
def Nd:List Operand->List AD
 |[]=>[]|x::r=>oP x::Nd r
def Y8:List (Nat×Operand)->List AD
 |[]=>[]|x::r=>oP x.2::Y8 r
def bd:List (Nat×Nat)->List (Nat×Operand)->List (Nat×Nat×AD)
 |p::r,x::s=>(p.1,p.2,oP x.2)::bd r s|_,_=>[]
def oO:Option Operand->Option AD
 |none=>none|some x=>some (oP x)
def Y1(m n:Nat)(y:Operand):AC:=match m with
 |1=>.mv (oP y)|2=>.tk (tP y)|20=>.vG (tP y)|24=>.rel (tP y)|25=>.uR (tP y)|64=>.uq n|65=>.td (oP y) n|66=>.bad (tP y) n|_=>.ud n
def iZ(m n:Nat)(y:Operand):AC:=match m with
 |3=>.ld (oP y)|4=>.ldt (oP y)|23=>.vL (oP y)|29=>.lac (oP y)|30=>.vQ (oP y)|35=>.vq (oP y)|37=>.vw (oP y)|68=>.uC (oP y) n|88=>.vR (tP y) n|89=>.vJ (oP y) n|_=>.vO (tP y) n
def ia(m n:Nat)(y u:Operand):AC:=match m with
 |31=>.vk (oP y) (tP u)|38=>.uU (oP y) (oP u)|74=>.st n (oP y) (oP u)|75=>.uz n (tP y) (oP u)|77=>.uB (oP y) (oP u) n|_=>.stx n (tP y) (tP u)
def iY(m n:Nat)(y j:Operand):AC:=match m with
 |36=>.uQ (oP y) (oP j)|66=>.bad (tP y) n|67=>.ur (oP y) (oP j) n|_=>.vC (oP y) (oP j) n
def Y0(m n:Nat)(c:Callee)(l:List Operand):AC:=match c with
 |.value g=>(match m with
  |15=>.tq (oP g) (Nd l)|_=>(match g with
   |.func f=>(match m with
    |14=>.call f (Nd l)|26=>.tj f (Nd l)|27=>.tN f (Nd l)|32=>.ti f (Nd l)|39=>.tw f (Nd l)|40=>.tM f (Nd l)|41=>.tD f (oP (a0 l))|42=>.tF f (oP (a0 l))|87=>.tG f (Nd l) n|_=>.tg f (Nd l) n)
   |_=>.uT))
 |.builtin _=>(match m with
  |11=>.len (oP (a0 l))|12=>.uN (oP (a0 l))|21=>.uK (oP (a0 l))|33=>.tK (tP (a0 l)) (tP (a1 l))|72=>.app n (oP (a0 l)) (oP (a1 l))|44=>.mm true (oP (a0 l)) (oP (a1 l))|45=>.mm false (oP (a0 l)) (oP (a1 l))|_=>.t6 n (tP (a0 l)) (oP (a1 l)))
 |_=>.uT
def bm(m:Nat)(op:BinOp)(p q:Operand):AC:=match m with
 |5=>.bin .i op (oP p) (oP q)|6=>.bin .s op (oP p) (oP q)|7=>.bin .b op (oP p) (oP q)|_=>.vn (oP p)
def ib(m:Nat)(y:Operand):AC:=match m with
 |8=>.not (oP y)|_=>.neg (oP y)
structure Tk where
 b:Nat->Fq×List (Nat×Nat)
 c:Nat->List AI
def bn(H:Tk)(m n:Nat):Op->AC
 |.move y=>Y1 m n y|.assign y=>Y1 m n y|.nilCheck y=>Y1 m n y|.pick c a b=>.pick (oP c) (oP a) (oP b)|.alloc _=>.uV (H.c n)|.box _ y=>(match m with|19=>.uw (oP y)|_=>.uL (tP y))
 |.build _ q=>.uy (H.b n).1 (bd (H.b n).2 q.toList)|.buildSlice _ _ q=>(match m with
  |34=>(match Y8 q.toList with|[.s x]=>.ut x|_=>.uT)
  |86=>.ub n|_=>.uS n (Y8 q.toList))
 |.load _ y=>iZ m n y|.store _ y u=>ia m n y u|.binOp op _ p q _=>bm m op p q|.unOp _ _ y=>ib m y|.makeFunc (.func g) _ xs=>.sR g (Nd xs.toList)|.slice _ y l h _=>(match m with
  |13=>.tz (oP y) (oO l) (oO h)|69=>.tR n (oP y) (oO l) (oO h)|_=>(match h with|some h=>.cut n (tP y) (oP h)|none=>.uT))
 |.fieldAddr _ y _=>(match m with
  |90=>.vK (oP y) n|65=>.td (oP y) n|66=>.bad (tP y) n|_=>.xfa (oP y) n)
 |.indexAddr _ y j=>iY m n y j|.index _ y j=>.th (oP y) (oP j)|.extract y j=>.ext (oP y) j|.call c=>Y0 m n c.callee c.args.toList|_=>.uT
def UY:List Oper->Nat->Nat
 |[],_=>0|o::_,0=>(match o.dst with|some d=>d|none=>0)
 |_::r,j+1=>UY r j
def iX(all:List Oper):Option (Nat×Bool)->Option (Nat×Bool)
 |none=>none|some (j,b)=>some (UY all j,b)
structure DS where
 s:Nat
 l:Ne
 x:List AC
def XJ(H:Tk)(all:List Oper):List Oper->DS->List PR×DS
 |[],d=>(match d.s % 256 with
  |61=>([⟨none,.vo (d.s / 256 % 256),none⟩],⟨d.s / 65536,d.l,d.x⟩)|_=>([],d))
 |o::os,⟨s,l,x⟩=>
  match s / 128 % 2,(match o.dst with|some d=>d|none=>0)with
  |f,d0=>
  match (match s % 128 with
   |63=>(match x with|p::x=>(p,DS.mk (s / 256) (match f with|0=>l|_=>l++[d0]) x)|[]=>(AC.uT,DS.mk 0 l x))
   |m=>(match m / 64 with
    |0=>(bn H m 0 o.op,DS.mk (s / 256) (match f with|0=>l|_=>l++[d0]) x)
    |_=>(bn H m (s / 256 % 256) o.op,DS.mk (s / 65536) (match f with|0=>l|_=>l++[d0]) x)))with
  |(p,d)=>match XJ H all os d with
   |(rs,d')=>(⟨o.dst,p,iX all o.guard⟩::rs,d')
def Rz:Nat->Nat->Ne×Nat
 |0,s=>([],s)|n+1,s=>match Rz n (s / 256)with|(r,s')=>(s % 256::r,s')
def M4(d:DS):DS:=match d.s % 256 with
 |255=>⟨d.s / 256,d.l,d.x⟩|n=>match Rz n (d.s / 256)with|(r,s)=>⟨s,r,d.x⟩
def SV:List Oper->Ne
 |[]=>[]|o::r=>(match o.dst with|some d=>d::SV r|none=>SV r)
def XK(H:Tk)(ops:List Oper)(w:Bool)(d:DS):PC×DS:=match XJ H ops ops d with
 |(rs,d)=>match(match d.s % 256 with|60=>M4 ⟨d.s / 256,d.l,d.x⟩|_=>d)with
  |d=>(match w with
   |true=>(match d.s % 256 with
    |59=>(match Rz (d.s / 256 % 256) (d.s / 65536)with|(r,s)=>(PC.draw (r++SV ops) rs d.l,⟨s,d.l,d.x⟩))
    |_=>(PC.draw (SV ops) rs d.l,d))
   |false=>(PC.region rs d.l,d))
def dC(H:Tk):Code->DS->PC×Bool×DS
 |.skip,d=>match M4 d with|d=>(.skip d.l,true,d)
 |.ret,d=>(.ret,false,d)|.exit i,d=>match M4 d with|d=>(.exit i d.l,false,d)
 |.seq a b,d=>match dC H a d with|(p,_,d)=>match dC H b d with|(q,t,d)=>(.seq p q,t,d)
 |.cond c a b,d=>match dC H a d with
  |(p,t,e)=>match dC H b ⟨e.s,d.l,e.x⟩with
   |(q,u,g)=>(.cond (oP c) p q,t||u,match u with|true=>g|false=>⟨g.s,e.l,g.x⟩)
 |.block i c,d=>match dC H c d with|(p,_,d)=>(.block i p,true,M4 d)
 |.loop c,d=>match M4 d with|d=>match dC H c d with|(p,_,e)=>(.loop d.l p,false,e)
 |.region _ ops w,d=>(match d.s % 256 with
  |62=>(match XK H ops.toList w ⟨d.s / 65536,d.l,d.x⟩with|(c,e)=>(PC.vt (d.s / 256 % 256) c,true,e))
  |_=>(match XK H ops.toList w d with|(c,e)=>(c,true,e)))
 |_,d=>(.bad,false,d)
def sy(T:Nat):Nat->Nat->Nat->Nat
 |0,c,r=>r*256+c|n+1,c,r=>match T / 65536^ c % 65536 with
  |0=>r*256+c|p=>sy T n (p % 256) (sy T n (p / 256) r)
def xp(T:Nat):Nat->Nat->Nat
 |0,_=>0|n+1,s=>match s with
  |0=>0|s=>sy T 40 (s % 256) (xp T n (s / 256))
def xq(T s:Nat):Nat:=xp T 400 s
def PC.of(H:Tk)(b:Option Code)(s:Nat)(x:List AC):PC:=match b with
 |some c=>(dC H c (M4 ⟨s,[],x⟩)).1|none=>.bad
end Go.Sf
