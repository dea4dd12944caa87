/- The pure text of a function, out of its code: which operation stands for which is told by numbers. -/
import Derived.Test.YtpagkickoiafkaaGreatSfK
set_option linter.all false
set_option maxRecDepth 100000
namespace Go.Sf
open Go
def cV:Value->TV
 |.int k n=>.int k n|.bool b=>.bool b|.string s=>.str s|.func (.func f) _ _=>.z5 f []|_=>.undef
def oP:Operand->AF
 |.tmp n=>.s n|.const v=>.c (cV v)|.func f=>.c (.z5 f [])|.global _=>.c .undef
def tP:Operand->Nat
 |.tmp n=>n|_=>0
def a0:List Operand->Operand
 |x::_=>x|[]=>.global 0
def a1:List Operand->Operand
 |_::x::_=>x|_=>.global 0
def Sh:List Operand->List AF
 |[]=>[]|x::r=>oP x::Sh r
def q8:List (Nat×Operand)->List AF
 |[]=>[]|x::r=>oP x.2::q8 r
def ul:List (Nat×Nat)->List (Nat×Operand)->List (Nat×Nat×AF)
 |p::r,x::s=>(p.1,p.2,oP x.2)::ul r s|_,_=>[]
def oO:Option Operand->Option AF
 |none=>none|some x=>some (oP x)
def qw(m n:Nat)(y:Operand):AE:=match m with
 |1=>.mv (oP y)|2=>.tk (tP y)|20=>.xal (tP y)|24=>.rel (tP y)|25=>.tkx (tP y)|64=>.Aa8 n|65=>.zt (oP y) n|66=>.bad (tP y) n|_=>.AaY n
def z7(m n:Nat)(y:Operand):AE:=match m with
 |3=>.ld (oP y)|4=>.ldt (oP y)|23=>.xld (oP y)|29=>.lac (oP y)|30=>.ctk (oP y)|35=>.lan (oP y)|37=>.nld (oP y)|68=>.lda (oP y) n|88=>.ldb (tP y) n|89=>.ldv (oP y) n|_=>.ldg (tP y) n
def z8(m n:Nat)(y u:Operand):AE:=match m with
 |31=>.cpt (oP y) (tP u)|38=>.nst (oP y) (oP u)|74=>.st n (oP y) (oP u)|75=>.stb n (tP y) (oP u)|77=>.xst (oP y) (oP u) n|_=>.stx n (tP y) (tP u)
def z6(m n:Nat)(y j:Operand):AE:=match m with
 |36=>.nia (oP y) (oP j)|66=>.bad (tP y) n|67=>.iad (oP y) (oP j) n|_=>.xia (oP y) (oP j) n
def qv(m n:Nat)(c:Callee)(l:List Operand):AE:=match c with
 |.value g=>(match m with
  |15=>.AaZ (oP g) (Sh l)|_=>(match g with
   |.func f=>(match m with
    |14=>.call f (Sh l)|26=>.Aal f (Sh l)|27=>.AaM f (Sh l)|32=>.Aat f (Sh l)|39=>.Aae f (Sh l)|40=>.AaL f (Sh l)|41=>.Aaj f (oP (a0 l)) (Sh l.tail)|42=>.AaE f (oP (a0 l))|87=>.Aas f (Sh l) n|_=>.wi f (Sh l) n)
   |_=>.mkm))
 |.builtin _=>(match m with
  |11=>.len (oP (a0 l))|12=>.Abk (oP (a0 l))|21=>.Abc (oP (a0 l))|33=>.Aar (tP (a0 l)) (tP (a1 l))|72=>.app n (oP (a0 l)) (oP (a1 l))|44=>.mm true (oP (a0 l)) (oP (a1 l))|45=>.mm false (oP (a0 l)) (oP (a1 l))|_=>.AaN n (tP (a0 l)) (oP (a1 l)))
 |_=>.mkm
def uw(m:Nat)(op:BinOp)(p q:Operand):AE:=match m with
 |5=>.bin .i op (oP p) (oP q)|6=>.bin .s op (oP p) (oP q)|7=>.bin .b op (oP p) (oP q)|_=>.isn (oP p)
def dUn(m:Nat)(y:Operand):AE:=match m with
 |8=>.not (oP y)|_=>.neg (oP y)
structure fD where
 b:Nat->Fq×List (Nat×Nat)
 c:Nat->List AQ
def ux(H:fD)(m n:Nat):Op->AE
 |.move y=>qw m n y|.assign y=>qw m n y|.nilCheck y=>qw m n y|.pick c a b=>.pick (oP c) (oP a) (oP b)|.alloc _=>.alc (H.c n)|.box _ y=>(match m with|19=>.Aa3 (oP y)|_=>.Abi (tP y))
 |.build _ q=>.bld (H.b n).1 (ul (H.b n).2 q.toList)|.buildSlice _ _ q=>(match m with
  |34=>(match q8 q.toList with|[.s x]=>.Aa4 x|_=>.mkm)
  |86=>.AaV n|_=>.lst n (q8 q.toList))
 |.load _ y=>z7 m n y|.store _ y u=>z8 m n y u|.binOp op _ p q _=>uw m op p q|.unOp _ _ y=>dUn m y|.makeFunc (.func g) _ xs=>.z5 g (Sh xs.toList)|.slice _ y l h _=>(match m with
  |13=>.Aag (oP y) (oO l) (oO h)|69=>.slc n (oP y) (oO l) (oO h)|_=>(match h with|some h=>.cut n (tP y) (oP h)|none=>.mkm))
 |.fieldAddr _ y _=>(match m with
  |90=>.fdv (oP y) n|65=>.zt (oP y) n|66=>.bad (tP y) n|_=>.xfa (oP y) n)
 |.indexAddr _ y j=>z6 m n y j|.index _ y j=>.Aac (oP y) (oP j)|.extract y j=>.ext (oP y) j|.call c=>qv m n c.callee c.args.toList|_=>.mkm
def iv:List Oper->Nat->Nat
 |[],_=>0|o::_,0=>(match o.dst with|some d=>d|none=>0)
 |_::r,j+1=>iv r j
def zy(all:List Oper):Option (Nat×Bool)->Option (Nat×Bool)
 |none=>none|some (j,b)=>some (iv all j,b)
structure DS where
 s:Nat
 l:I2
 x:List AE
def nk(H:fD)(all:List Oper):List Oper->DS->List PR×DS
 |[],d=>(match d.s % 256 with
  |61=>([⟨none,.frz (d.s / 256 % 256),none⟩],⟨d.s / 65536,d.l,d.x⟩)|_=>([],d))
 |o::os,⟨s,l,x⟩=>
  match s / 128 % 2,(match o.dst with|some d=>d|none=>0)with
  |f,d0=>
  match (match s % 128 with
   |63=>(match x with|p::x=>(p,DS.mk (s / 256) (match f with|0=>l|_=>l++[d0]) x)|[]=>(AE.mkm,DS.mk 0 l x))
   |m=>(match m / 64 with
    |0=>(ux H m 0 o.op,DS.mk (s / 256) (match f with|0=>l|_=>l++[d0]) x)
    |_=>(ux H m (s / 256 % 256) o.op,DS.mk (s / 65536) (match f with|0=>l|_=>l++[d0]) x)))with
  |(p,d)=>match nk H all os d with
   |(rs,d')=>(⟨o.dst,p,zy all o.guard⟩::rs,d')
def ak:Nat->Nat->I2×Nat
 |0,s=>([],s)|n+1,s=>match ak n (s / 256)with|(r,s')=>(s % 256::r,s')
def TH(d:DS):DS:=match d.s % 256 with
 |255=>⟨d.s / 256,d.l,d.x⟩|n=>match ak n (d.s / 256)with|(r,s)=>⟨s,r,d.x⟩
def bf:List Oper->I2
 |[]=>[]|o::r=>(match o.dst with|some d=>d::bf r|none=>bf r)
def np(H:fD)(ops:List Oper)(w:Bool)(d:DS):PC×DS:=match nk H ops ops d with
 |(rs,d)=>match(match d.s % 256 with|60=>TH ⟨d.s / 256,d.l,d.x⟩|_=>d)with
  |d=>(match w with
   |true=>(match d.s % 256 with
    |59=>(match ak (d.s / 256 % 256) (d.s / 65536)with|(r,s)=>(PC.draw (r++bf ops) rs d.l,⟨s,d.l,d.x⟩))
    |_=>(PC.draw (bf ops) rs d.l,d))
   |false=>(PC.region rs d.l,d))
def dC(H:fD):Code->DS->PC×Bool×DS
 |.skip,d=>match TH d with|d=>(.skip d.l,true,d)
 |.ret,d=>(.ret,false,d)|.exit i,d=>match TH d with|d=>(.exit i d.l,false,d)
 |.seq a b,d=>match dC H a d with|(p,_,d)=>match dC H b d with|(q,t,d)=>(.seq p q,t,d)
 |.cond c a b,d=>match dC H a d with
  |(p,t,e)=>match dC H b ⟨e.s,d.l,e.x⟩with
   |(q,u,g)=>(.cond (oP c) p q,t||u,match u with|true=>g|false=>⟨g.s,e.l,g.x⟩)
 |.block i c,d=>match dC H c d with|(p,_,d)=>(.block i p,true,TH d)
 |.loop c,d=>match TH d with|d=>match dC H c d with|(p,_,e)=>(.loop d.l p,false,e)
 |.region _ ops w,d=>(match d.s % 256 with
  |62=>(match np H ops.toList w ⟨d.s / 65536,d.l,d.x⟩with|(c,e)=>(PC.rls (d.s / 256 % 256) c,true,e))
  |_=>(match np H ops.toList w d with|(c,e)=>(c,true,e)))
 |_,d=>(.bad,false,d)
def sy(θ:Nat):Nat->Nat->Nat->Nat
 |0,c,r=>r*256+c|n+1,c,r=>match θ / 65536^ c % 65536 with
  |0=>r*256+c|p=>sy θ n (p % 256) (sy θ n (p / 256) r)
def xp(θ:Nat):Nat->Nat->Nat
 |0,_=>0|n+1,s=>match s with
  |0=>0|s=>sy θ 40 (s % 256) (xp θ n (s / 256))
def xq(θ s:Nat):Nat:=xp θ 400 s
def PC.of(H:fD)(b:Option Code)(s:Nat)(x:List AE):PC:=match b with
 |some c=>(dC H c (TH ⟨s,[],x⟩)).1|none=>.bad
end Go.Sf
