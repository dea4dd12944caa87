/- The pure text of a function, out of its code: which operation stands for which is told by numbers. -/
import Derived.Test.YthhobbgaejimgaaGreatDoorSfK
set_option linter.all false
set_option maxRecDepth 100000
namespace Go.Sf
open Go
def cV:Value->TV
 |.int k n=>.int k n|.bool b=>.bool b|.string s=>.str s|.func (.func f) _ _=>.r6 f []|_=>.undef
def oP:Operand->AD
 |.tmp n=>.s n|.const v=>.c (cV v)|.func f=>.c (.r6 f [])|.global _=>.c .undef
def tP:Operand->Nat
 |.tmp n=>n|_=>0
def a0:List Operand->Operand
 |x::_=>x|[]=>.global 0
def a1:List Operand->Operand
 |_::x::_=>x|_=>.global 0
def Ms:List Operand->List AD
 |[]=>[]|x::r=>oP x::Ms r
def ZI:List (Nat×Operand)->List AD
 |[]=>[]|x::r=>oP x.2::ZI r
def cW:List (Nat×Nat)->List (Nat×Operand)->List (Nat×Nat×AD)
 |p::r,x::s=>(p.1,p.2,oP x.2)::cW r s|_,_=>[]
def oO:Option Operand->Option AD
 |none=>none|some x=>some (oP x)
def Y9(m n:Nat)(y:Operand):AC:=match m with
 |1=>.mv (oP y)|2=>.tk (tP y)|20=>.uD (tP y)|24=>.rel (tP y)|25=>.tW (tP y)|64=>.tE n|65=>.r9 (oP y) n|66=>.bad (tP y) n|_=>.tf n
def jf(m n:Nat)(y:Operand):AC:=match m with
 |3=>.ld (oP y)|4=>.ldt (oP y)|23=>.uM (oP y)|29=>.lac (oP y)|30=>.uT (oP y)|35=>.ux (oP y)|37=>.uw (oP y)|68=>.tD (oP y) n|88=>.uQ (tP y) n|89=>.uL (oP y) n|_=>.uO (tP y) n
def jg(m n:Nat)(y u:Operand):AC:=match m with
 |31=>.ur (oP y) (tP u)|38=>.tX (oP y) (oP u)|74=>.st n (oP y) (oP u)|75=>.tC n (tP y) (oP u)|77=>.tF (oP y) (oP u) n|_=>.stx n (tP y) (tP u)
def je(m n:Nat)(y j:Operand):AC:=match m with
 |36=>.tY (oP y) (oP j)|66=>.bad (tP y) n|67=>.tH (oP y) (oP j) n|_=>.uE (oP y) (oP j) n
def Y8(m n:Nat)(c:Callee)(l:List Operand):AC:=match c with
 |.value g=>(match m with
  |15=>.sj (oP g) (Ms l)|_=>(match g with
   |.func f=>(match m with
    |14=>.call f (Ms l)|26=>.sf f (Ms l)|27=>.sI f (Ms l)|32=>.rK f (Ms l)|39=>.sn f (Ms l)|40=>.sG f (Ms l)|41=>.sw f (oP (a0 l))|42=>.sr f (oP (a0 l))|87=>.sx f (Ms l) n|_=>.rJ f (Ms l) n)
   |_=>.tZ))
 |.builtin _=>(match m with
  |11=>.len (oP (a0 l))|12=>.tS (oP (a0 l))|21=>.tQ (oP (a0 l))|33=>.sE (tP (a0 l)) (tP (a1 l))|72=>.app n (oP (a0 l)) (oP (a1 l))|44=>.mm true (oP (a0 l)) (oP (a1 l))|45=>.mm false (oP (a0 l)) (oP (a1 l))|_=>.sW n (tP (a0 l)) (oP (a1 l)))
 |_=>.tZ
def cm(m:Nat)(op:BinOp)(p q:Operand):AC:=match m with
 |5=>.bin .i op (oP p) (oP q)|6=>.bin .s op (oP p) (oP q)|7=>.bin .b op (oP p) (oP q)|_=>.um (oP p)
def jh(m:Nat)(y:Operand):AC:=match m with
 |8=>.not (oP y)|_=>.neg (oP y)
structure TT where
 b:Nat->D2×List (Nat×Nat)
 c:Nat->List AJ
def cp(H:TT)(m n:Nat):Op->AC
 |.move y=>Y9 m n y|.assign y=>Y9 m n y|.nilCheck y=>Y9 m n y|.pick c a b=>.pick (oP c) (oP a) (oP b)|.alloc _=>.ud (H.c n)|.box _ y=>(match m with|19=>.tz (oP y)|_=>.tO (tP y))
 |.build _ q=>.tn (H.b n).1 (cW (H.b n).2 q.toList)|.buildSlice _ _ q=>(match m with
  |34=>(match ZI q.toList with|[.s x]=>.tA x|_=>.tZ)
  |86=>.tc n|_=>.uc n (ZI q.toList))
 |.load _ y=>jf m n y|.store _ y u=>jg m n y u|.binOp op _ p q _=>cm m op p q|.unOp _ _ y=>jh m y|.makeFunc (.func g) _ xs=>.r6 g (Ms xs.toList)|.slice _ y l h _=>(match m with
  |13=>.rB (oP y) (oO l) (oO h)|69=>.sM n (oP y) (oO l) (oO h)|_=>(match h with|some h=>.cut n (tP y) (oP h)|none=>.tZ))
 |.fieldAddr _ y _=>(match m with
  |90=>.uN (oP y) n|65=>.r9 (oP y) n|66=>.bad (tP y) n|_=>.xfa (oP y) n)
 |.indexAddr _ y j=>je m n y j|.index _ y j=>.rx (oP y) (oP j)|.extract y j=>.ext (oP y) j|.call c=>Y8 m n c.callee c.args.toList|_=>.tZ
def UX:List Oper->Nat->Nat
 |[],_=>0|o::_,0=>(match o.dst with|some d=>d|none=>0)
 |_::r,j+1=>UX r j
def jc(all:List Oper):Option (Nat×Bool)->Option (Nat×Bool)
 |none=>none|some (j,b)=>some (UX all j,b)
structure DS where
 s:Nat
 l:Fq
 x:List AC
def XR(H:TT)(all:List Oper):List Oper->DS->List PR×DS
 |[],d=>(match d.s % 256 with
  |61=>([⟨none,.uu (d.s / 256 % 256),none⟩],⟨d.s / 65536,d.l,d.x⟩)|_=>([],d))
 |o::os,⟨s,l,x⟩=>
  match s / 128 % 2,(match o.dst with|some d=>d|none=>0)with
  |f,d0=>
  match (match s % 128 with
   |63=>(match x with|p::x=>(p,DS.mk (s / 256) (match f with|0=>l|_=>l++[d0]) x)|[]=>(AC.tZ,DS.mk 0 l x))
   |m=>(match m / 64 with
    |0=>(cp H m 0 o.op,DS.mk (s / 256) (match f with|0=>l|_=>l++[d0]) x)
    |_=>(cp H m (s / 256 % 256) o.op,DS.mk (s / 65536) (match f with|0=>l|_=>l++[d0]) x)))with
  |(p,d)=>match XR H all os d with
   |(rs,d')=>(⟨o.dst,p,jc all o.guard⟩::rs,d')
def RX:Nat->Nat->Fq×Nat
 |0,s=>([],s)|n+1,s=>match RX n (s / 256)with|(r,s')=>(s % 256::r,s')
def MA(d:DS):DS:=match d.s % 256 with
 |255=>⟨d.s / 256,d.l,d.x⟩|n=>match RX n (d.s / 256)with|(r,s)=>⟨s,r,d.x⟩
def R3:List Oper->Fq
 |[]=>[]|o::r=>(match o.dst with|some d=>d::R3 r|none=>R3 r)
def XS(H:TT)(ops:List Oper)(w:Bool)(d:DS):PC×DS:=match XR H ops ops d with
 |(rs,d)=>match(match d.s % 256 with|60=>MA ⟨d.s / 256,d.l,d.x⟩|_=>d)with
  |d=>(match w with
   |true=>(match d.s % 256 with
    |59=>(match RX (d.s / 256 % 256) (d.s / 65536)with|(r,s)=>(PC.draw (r++R3 ops) rs d.l,⟨s,d.l,d.x⟩))
    |_=>(PC.draw (R3 ops) rs d.l,d))
   |false=>(PC.region rs d.l,d))
def dC(H:TT):Code->DS->PC×Bool×DS
 |.skip,d=>match MA d with|d=>(.skip d.l,true,d)
 |.ret,d=>(.ret,false,d)|.exit i,d=>match MA d with|d=>(.exit i d.l,false,d)
 |.seq a b,d=>match dC H a d with|(p,_,d)=>match dC H b d with|(q,t,d)=>(.seq p q,t,d)
 |.cond c a b,d=>match dC H a d with
  |(p,t,e)=>match dC H b ⟨e.s,d.l,e.x⟩with
   |(q,u,g)=>(.cond (oP c) p q,t||u,match u with|true=>g|false=>⟨g.s,e.l,g.x⟩)
 |.block i c,d=>match dC H c d with|(p,_,d)=>(.block i p,true,MA d)
 |.loop c,d=>match MA d with|d=>match dC H c d with|(p,_,e)=>(.loop d.l p,false,e)
 |.region _ ops w,d=>(match d.s % 256 with
  |62=>(match XS H ops.toList w ⟨d.s / 65536,d.l,d.x⟩with|(c,e)=>(PC.uy (d.s / 256 % 256) c,true,e))
  |_=>(match XS H ops.toList w d with|(c,e)=>(c,true,e)))
 |_,d=>(.bad,false,d)
def sy(T:Nat):Nat->Nat->Nat->Nat
 |0,c,r=>r*256+c|n+1,c,r=>match T / 65536^ c % 65536 with
  |0=>r*256+c|p=>sy T n (p % 256) (sy T n (p / 256) r)
def xp(T:Nat):Nat->Nat->Nat
 |0,_=>0|n+1,s=>match s with
  |0=>0|s=>sy T 40 (s % 256) (xp T n (s / 256))
def xq(T s:Nat):Nat:=xp T 400 s
def PC.of(H:TT)(b:Option Code)(s:Nat)(x:List AC):PC:=match b with
 |some c=>(dC H c (MA ⟨s,[],x⟩)).1|none=>.bad
end Go.Sf
