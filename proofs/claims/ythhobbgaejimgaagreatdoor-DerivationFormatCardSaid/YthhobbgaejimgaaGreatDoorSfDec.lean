/- The pure text of a function, out of its code: which operation stands for which is told by numbers. -/
import Derived.Test.YthhobbgaejimgaaGreatDoorSfK
set_option linter.all false
set_option maxRecDepth 100000
namespace Go.Sf
open Go
def cV:Value->TV
 |.int k n=>.int k n|.bool b=>.bool b|.string s=>.str s|.func (.func f) _ _=>.sE f []|_=>.undef
def oP:Operand->AD
 |.tmp n=>.s n|.const v=>.c (cV v)|.func f=>.c (.sE f [])|.global _=>.c .undef
def tP:Operand->Nat
 |.tmp n=>n|_=>0
def a0:List Operand->Operand
 |x::_=>x|[]=>.global 0
def a1:List Operand->Operand
 |_::x::_=>x|_=>.global 0
def NG:List Operand->List AD
 |[]=>[]|x::r=>oP x::NG r
def Zn:List (Nat×Operand)->List AD
 |[]=>[]|x::r=>oP x.2::Zn r
def c7:List (Nat×Nat)->List (Nat×Operand)->List (Nat×Nat×AD)
 |p::r,x::s=>(p.1,p.2,oP x.2)::c7 r s|_,_=>[]
def oO:Option Operand->Option AD
 |none=>none|some x=>some (oP x)
def Zd(m n:Nat)(y:Operand):AC:=match m with
 |1=>.mv (oP y)|2=>.tk (tP y)|20=>.uZ (tP y)|24=>.rel (tP y)|25=>.uq (tP y)|64=>.tW n|65=>.sG (oP y) n|66=>.bad (tP y) n|_=>.tF n
def jg(m n:Nat)(y:Operand):AC:=match m with
 |3=>.ld (oP y)|4=>.ldt (oP y)|23=>.vc (oP y)|29=>.lac (oP y)|30=>.vf (oP y)|35=>.uO (oP y)|37=>.uQ (oP y)|68=>.tX (oP y) n|88=>.vn (tP y) n|89=>.vd (oP y) n|_=>.ve (tP y) n
def jh(m n:Nat)(y u:Operand):AC:=match m with
 |31=>.uJ (oP y) (tP u)|38=>.up (oP y) (oP u)|74=>.st n (oP y) (oP u)|75=>.tV n (tP y) (oP u)|77=>.t6 (oP y) (oP u) n|_=>.stx n (tP y) (tP u)
def jf(m n:Nat)(y j:Operand):AC:=match m with
 |36=>.uo (oP y) (oP j)|66=>.bad (tP y) n|67=>.tY (oP y) (oP j) n|_=>.uX (oP y) (oP j) n
def Zc(m n:Nat)(c:Callee)(l:List Operand):AC:=match c with
 |.value g=>(match m with
  |15=>.sJ (oP g) (NG l)|_=>(match g with
   |.func f=>(match m with
    |14=>.call f (NG l)|26=>.sI f (NG l)|27=>.s9 f (NG l)|32=>.r9 f (NG l)|39=>.sP f (NG l)|40=>.ta f (NG l)|41=>.sS f (oP (a0 l))|42=>.sR f (oP (a0 l))|87=>.sW f (NG l) n|_=>.r7 f (NG l) n)
   |_=>.ur))
 |.builtin _=>(match m with
  |11=>.len (oP (a0 l))|12=>.uj (oP (a0 l))|21=>.ue (oP (a0 l))|33=>.s5 (tP (a0 l)) (tP (a1 l))|72=>.app n (oP (a0 l)) (oP (a1 l))|44=>.mm true (oP (a0 l)) (oP (a1 l))|45=>.mm false (oP (a0 l)) (oP (a1 l))|_=>.tB n (tP (a0 l)) (oP (a1 l)))
 |_=>.ur
def dJ(m:Nat)(op:BinOp)(p q:Operand):AC:=match m with
 |5=>.bin .i op (oP p) (oP q)|6=>.bin .s op (oP p) (oP q)|7=>.bin .b op (oP p) (oP q)|_=>.uM (oP p)
def ji(m:Nat)(y:Operand):AC:=match m with
 |8=>.not (oP y)|_=>.neg (oP y)
structure Ti where
 b:Nat->Fq×List (Nat×Nat)
 c:Nat->List AJ
def dK(H:Ti)(m n:Nat):Op->AC
 |.move y=>Zd m n y|.assign y=>Zd m n y|.nilCheck y=>Zd m n y|.pick c a b=>.pick (oP c) (oP a) (oP b)|.alloc _=>.uv (H.c n)|.box _ y=>(match m with|19=>.tS (oP y)|_=>.ub (tP y))
 |.build _ q=>.tQ (H.b n).1 (c7 (H.b n).2 q.toList)|.buildSlice _ _ q=>(match m with
  |34=>(match Zn q.toList with|[.s x]=>.tO x|_=>.ur)
  |86=>.tE n|_=>.uc n (Zn q.toList))
 |.load _ y=>jg m n y|.store _ y u=>jh m n y u|.binOp op _ p q _=>dJ m op p q|.unOp _ _ y=>ji m y|.makeFunc (.func g) _ xs=>.sE g (NG xs.toList)|.slice _ y l h _=>(match m with
  |13=>.rR (oP y) (oO l) (oO h)|69=>.tw n (oP y) (oO l) (oO h)|_=>(match h with|some h=>.cut n (tP y) (oP h)|none=>.ur))
 |.fieldAddr _ y _=>(match m with
  |90=>.va (oP y) n|65=>.sG (oP y) n|66=>.bad (tP y) n|_=>.xfa (oP y) n)
 |.indexAddr _ y j=>jf m n y j|.index _ y j=>.rP (oP y) (oP j)|.extract y j=>.ext (oP y) j|.call c=>Zc m n c.callee c.args.toList|_=>.ur
def Un:List Oper->Nat->Nat
 |[],_=>0|o::_,0=>(match o.dst with|some d=>d|none=>0)
 |_::r,j+1=>Un r j
def je(all:List Oper):Option (Nat×Bool)->Option (Nat×Bool)
 |none=>none|some (j,b)=>some (Un all j,b)
structure DS where
 s:Nat
 l:Ne
 x:List AC
def Xp(H:Ti)(all:List Oper):List Oper->DS->List PR×DS
 |[],d=>(match d.s % 256 with
  |61=>([⟨none,.uP (d.s / 256 % 256),none⟩],⟨d.s / 65536,d.l,d.x⟩)|_=>([],d))
 |o::os,⟨s,l,x⟩=>
  match s / 128 % 2,(match o.dst with|some d=>d|none=>0)with
  |f,d0=>
  match (match s % 128 with
   |63=>(match x with|p::x=>(p,DS.mk (s / 256) (match f with|0=>l|_=>l++[d0]) x)|[]=>(AC.ur,DS.mk 0 l x))
   |m=>(match m / 64 with
    |0=>(dK H m 0 o.op,DS.mk (s / 256) (match f with|0=>l|_=>l++[d0]) x)
    |_=>(dK H m (s / 256 % 256) o.op,DS.mk (s / 65536) (match f with|0=>l|_=>l++[d0]) x)))with
  |(p,d)=>match Xp H all os d with
   |(rs,d')=>(⟨o.dst,p,je all o.guard⟩::rs,d')
def RR:Nat->Nat->Ne×Nat
 |0,s=>([],s)|n+1,s=>match RR n (s / 256)with|(r,s')=>(s % 256::r,s')
def MB(d:DS):DS:=match d.s % 256 with
 |255=>⟨d.s / 256,d.l,d.x⟩|n=>match RR n (d.s / 256)with|(r,s)=>⟨s,r,d.x⟩
def R5:List Oper->Ne
 |[]=>[]|o::r=>(match o.dst with|some d=>d::R5 r|none=>R5 r)
def Xq(H:Ti)(ops:List Oper)(w:Bool)(d:DS):PC×DS:=match Xp H ops ops d with
 |(rs,d)=>match(match d.s % 256 with|60=>MB ⟨d.s / 256,d.l,d.x⟩|_=>d)with
  |d=>(match w with
   |true=>(match d.s % 256 with
    |59=>(match RR (d.s / 256 % 256) (d.s / 65536)with|(r,s)=>(PC.draw (r++R5 ops) rs d.l,⟨s,d.l,d.x⟩))
    |_=>(PC.draw (R5 ops) rs d.l,d))
   |false=>(PC.region rs d.l,d))
def dC(H:Ti):Code->DS->PC×Bool×DS
 |.skip,d=>match MB d with|d=>(.skip d.l,true,d)
 |.ret,d=>(.ret,false,d)|.exit i,d=>match MB d with|d=>(.exit i d.l,false,d)
 |.seq a b,d=>match dC H a d with|(p,_,d)=>match dC H b d with|(q,t,d)=>(.seq p q,t,d)
 |.cond c a b,d=>match dC H a d with
  |(p,t,e)=>match dC H b ⟨e.s,d.l,e.x⟩with
   |(q,u,g)=>(.cond (oP c) p q,t||u,match u with|true=>g|false=>⟨g.s,e.l,g.x⟩)
 |.block i c,d=>match dC H c d with|(p,_,d)=>(.block i p,true,MB d)
 |.loop c,d=>match MB d with|d=>match dC H c d with|(p,_,e)=>(.loop d.l p,false,e)
 |.region _ ops w,d=>(match d.s % 256 with
  |62=>(match Xq H ops.toList w ⟨d.s / 65536,d.l,d.x⟩with|(c,e)=>(PC.uN (d.s / 256 % 256) c,true,e))
  |_=>(match Xq H ops.toList w d with|(c,e)=>(c,true,e)))
 |_,d=>(.bad,false,d)
def sy(T:Nat):Nat->Nat->Nat->Nat
 |0,c,r=>r*256+c|n+1,c,r=>match T / 65536^ c % 65536 with
  |0=>r*256+c|p=>sy T n (p % 256) (sy T n (p / 256) r)
def xp(T:Nat):Nat->Nat->Nat
 |0,_=>0|n+1,s=>match s with
  |0=>0|s=>sy T 40 (s % 256) (xp T n (s / 256))
def xq(T s:Nat):Nat:=xp T 400 s
def PC.of(H:Ti)(b:Option Code)(s:Nat)(x:List AC):PC:=match b with
 |some c=>(dC H c (MB ⟨s,[],x⟩)).1|none=>.bad
end Go.Sf
