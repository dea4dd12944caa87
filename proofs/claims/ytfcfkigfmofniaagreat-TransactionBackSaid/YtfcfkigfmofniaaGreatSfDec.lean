/- The pure text of a function, out of its code: which operation stands for which is told by numbers. -/
import Derived.Test.YtfcfkigfmofniaaGreatSfK
set_option linter.all false
set_option maxRecDepth 100000
namespace Go.Sf
open Go
def cV:Value->TV
 |.int k n=>.int k n|.bool b=>.bool b|.string s=>.str s|.func (.func f) _ _=>.zv f []|_=>.undef
def oP:Operand->AE
 |.tmp n=>.s n|.const v=>.c (cV v)|.func f=>.c (.zv f [])|.global _=>.c .undef
def tP:Operand->Nat
 |.tmp n=>n|_=>0
def a0:List Operand->Operand
 |x::_=>x|[]=>.global 0
def a1:List Operand->Operand
 |_::x::_=>x|_=>.global 0
def R0:List Operand->List AE
 |[]=>[]|x::r=>oP x::R0 r
def nj:List (Nat×Operand)->List AE
 |[]=>[]|x::r=>oP x.2::nj r
def rC:List (Nat×Nat)->List (Nat×Operand)->List (Nat×Nat×AE)
 |p::r,x::s=>(p.1,p.2,oP x.2)::rC r s|_,_=>[]
def oO:Option Operand->Option AE
 |none=>none|some x=>some (oP x)
def na(m n:Nat)(y:Operand):AD:=match m with
 |1=>.mv (oP y)|2=>.tk (tP y)|20=>.xal (tP y)|24=>.rel (tP y)|25=>.tkx (tP y)|64=>.AaG n|65=>.zj (oP y) n|66=>.bad (tP y) n|_=>.Aau n
def wz(m n:Nat)(y:Operand):AD:=match m with
 |3=>.ld (oP y)|4=>.ldt (oP y)|23=>.xld (oP y)|29=>.lac (oP y)|30=>.ctk (oP y)|35=>.lan (oP y)|37=>.nld (oP y)|68=>.lda (oP y) n|88=>.ldb (tP y) n|89=>.ldv (oP y) n|_=>.ldg (tP y) n
def w2(m n:Nat)(y u:Operand):AD:=match m with
 |31=>.cpt (oP y) (tP u)|38=>.nst (oP y) (oP u)|74=>.st n (oP y) (oP u)|75=>.stb n (tP y) (oP u)|77=>.xst (oP y) (oP u) n|_=>.stx n (tP y) (tP u)
def wy(m n:Nat)(y j:Operand):AD:=match m with
 |36=>.nia (oP y) (oP j)|66=>.bad (tP y) n|67=>.iad (oP y) (oP j) n|_=>.xia (oP y) (oP j) n
def nZ(m n:Nat)(c:Callee)(l:List Operand):AD:=match c with
 |.value g=>(match m with
  |15=>.Aas (oP g) (R0 l)|_=>(match g with
   |.func f=>(match m with
    |14=>.call f (R0 l)|26=>.zH f (R0 l)|27=>.Aag f (R0 l)|32=>.zR f (R0 l)|39=>.zy f (R0 l)|40=>.Aaf f (R0 l)|41=>.zC f (oP (a0 l)) (R0 l.tail)|42=>.z8 f (oP (a0 l))|87=>.zT f (R0 l) n|_=>.zi f (R0 l) n)
   |_=>.mkm))
 |.builtin _=>(match m with
  |11=>.len (oP (a0 l))|12=>.AaO (oP (a0 l))|21=>.AaH (oP (a0 l))|33=>.zL (tP (a0 l)) (tP (a1 l))|72=>.app n (oP (a0 l)) (oP (a1 l))|44=>.mm true (oP (a0 l)) (oP (a1 l))|45=>.mm false (oP (a0 l)) (oP (a1 l))|_=>.Aah n (tP (a0 l)) (oP (a1 l)))
 |_=>.mkm
def rK(m:Nat)(op:BinOp)(p q:Operand):AD:=match m with
 |5=>.bin .i op (oP p) (oP q)|6=>.bin .s op (oP p) (oP q)|7=>.bin .b op (oP p) (oP q)|_=>.isn (oP p)
def w3(m:Nat)(y:Operand):AD:=match m with
 |8=>.not (oP y)|_=>.neg (oP y)
structure ce where
 b:Nat->Fq×List (Nat×Nat)
 c:Nat->List AR
def rL(H:ce)(m n:Nat):Op->AD
 |.move y=>na m n y|.assign y=>na m n y|.nilCheck y=>na m n y|.pick c a b=>.pick (oP c) (oP a) (oP b)|.alloc _=>.alc (H.c n)|.box _ y=>(match m with|19=>.Aaz (oP y)|_=>.AaI (tP y))
 |.build _ q=>.bld (H.b n).1 (rC (H.b n).2 q.toList)|.buildSlice _ _ q=>(match m with
  |34=>(match nj q.toList with|[.s x]=>.AaA x|_=>.mkm)
  |86=>.Aav n|_=>.lst n (nj q.toList))
 |.load _ y=>wz m n y|.store _ y u=>w2 m n y u|.binOp op _ p q _=>rK m op p q|.unOp _ _ y=>w3 m y|.makeFunc (.func g) _ xs=>.zv g (R0 xs.toList)|.slice _ y l h _=>(match m with
  |13=>.y6 (oP y) (oO l) (oO h)|69=>.zq n (oP y) (oO l) (oO h)|_=>(match h with|some h=>.cut n (tP y) (oP h)|none=>.mkm))
 |.fieldAddr _ y _=>(match m with
  |90=>.fdv (oP y) n|65=>.zj (oP y) n|66=>.bad (tP y) n|_=>.xfa (oP y) n)
 |.indexAddr _ y j=>wy m n y j|.index _ y j=>.zr (oP y) (oP j)|.extract y j=>.ext (oP y) j|.call c=>nZ m n c.callee c.args.toList|_=>.mkm
def eY:List Oper->Nat->Nat
 |[],_=>0|o::_,0=>(match o.dst with|some d=>d|none=>0)
 |_::r,j+1=>eY r j
def wx(all:List Oper):Option (Nat×Bool)->Option (Nat×Bool)
 |none=>none|some (j,b)=>some (eY all j,b)
structure DS where
 s:Nat
 l:QQ
 x:List AD
def kY(H:ce)(all:List Oper):List Oper->DS->List PR×DS
 |[],d=>(match d.s % 256 with
  |61=>([⟨none,.frz (d.s / 256 % 256),none⟩],⟨d.s / 65536,d.l,d.x⟩)|_=>([],d))
 |o::os,⟨s,l,x⟩=>
  match s / 128 % 2,(match o.dst with|some d=>d|none=>0)with
  |f,d0=>
  match (match s % 128 with
   |63=>(match x with|p::x=>(p,DS.mk (s / 256) (match f with|0=>l|_=>l++[d0]) x)|[]=>(AD.mkm,DS.mk 0 l x))
   |m=>(match m / 64 with
    |0=>(rL H m 0 o.op,DS.mk (s / 256) (match f with|0=>l|_=>l++[d0]) x)
    |_=>(rL H m (s / 256 % 256) o.op,DS.mk (s / 65536) (match f with|0=>l|_=>l++[d0]) x)))with
  |(p,d)=>match kY H all os d with
   |(rs,d')=>(⟨o.dst,p,wx all o.guard⟩::rs,d')
def ZO:Nat->Nat->QQ×Nat
 |0,s=>([],s)|n+1,s=>match ZO n (s / 256)with|(r,s')=>(s % 256::r,s')
def SO(d:DS):DS:=match d.s % 256 with
 |255=>⟨d.s / 256,d.l,d.x⟩|n=>match ZO n (d.s / 256)with|(r,s)=>⟨s,r,d.x⟩
def Z2:List Oper->QQ
 |[]=>[]|o::r=>(match o.dst with|some d=>d::Z2 r|none=>Z2 r)
def kZ(H:ce)(ops:List Oper)(w:Bool)(d:DS):PC×DS:=match kY H ops ops d with
 |(rs,d)=>match(match d.s % 256 with|60=>SO ⟨d.s / 256,d.l,d.x⟩|_=>d)with
  |d=>(match w with
   |true=>(match d.s % 256 with
    |59=>(match ZO (d.s / 256 % 256) (d.s / 65536)with|(r,s)=>(PC.draw (r++Z2 ops) rs d.l,⟨s,d.l,d.x⟩))
    |_=>(PC.draw (Z2 ops) rs d.l,d))
   |false=>(PC.region rs d.l,d))
def dC(H:ce):Code->DS->PC×Bool×DS
 |.skip,d=>match SO d with|d=>(.skip d.l,true,d)
 |.ret,d=>(.ret,false,d)|.exit i,d=>match SO d with|d=>(.exit i d.l,false,d)
 |.seq a b,d=>match dC H a d with|(p,_,d)=>match dC H b d with|(q,t,d)=>(.seq p q,t,d)
 |.cond c a b,d=>match dC H a d with
  |(p,t,e)=>match dC H b ⟨e.s,d.l,e.x⟩with
   |(q,u,g)=>(.cond (oP c) p q,t||u,match u with|true=>g|false=>⟨g.s,e.l,g.x⟩)
 |.block i c,d=>match dC H c d with|(p,_,d)=>(.block i p,true,SO d)
 |.loop c,d=>match SO d with|d=>match dC H c d with|(p,_,e)=>(.loop d.l p,false,e)
 |.region _ ops w,d=>(match d.s % 256 with
  |62=>(match kZ H ops.toList w ⟨d.s / 65536,d.l,d.x⟩with|(c,e)=>(PC.rls (d.s / 256 % 256) c,true,e))
  |_=>(match kZ H ops.toList w d with|(c,e)=>(c,true,e)))
 |_,d=>(.bad,false,d)
def sy(θ:Nat):Nat->Nat->Nat->Nat
 |0,c,r=>r*256+c|n+1,c,r=>match θ / 65536^ c % 65536 with
  |0=>r*256+c|p=>sy θ n (p % 256) (sy θ n (p / 256) r)
def xp(θ:Nat):Nat->Nat->Nat
 |0,_=>0|n+1,s=>match s with
  |0=>0|s=>sy θ 40 (s % 256) (xp θ n (s / 256))
def xq(θ s:Nat):Nat:=xp θ 400 s
def PC.of(H:ce)(b:Option Code)(s:Nat)(x:List AD):PC:=match b with
 |some c=>(dC H c (SO ⟨s,[],x⟩)).1|none=>.bad
end Go.Sf
