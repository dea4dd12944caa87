/- The pure text of a function, out of its code: which operation stands for which is told by numbers. -/
import Derived.Test.YtfcfkigfmofniaaGreatSfK
set_option linter.all false
set_option maxRecDepth 100000
namespace Go.Sf
open Go
def cV:Value->TV
 |.int k n=>.int k n|.bool b=>.bool b|.string s=>.str s|.func (.func f) _ _=>.zc f []|_=>.undef
def oP:Operand->AE
 |.tmp n=>.s n|.const v=>.c (cV v)|.func f=>.c (.zc f [])|.global _=>.c .undef
def tP:Operand->Nat
 |.tmp n=>n|_=>0
def a0:List Operand->Operand
 |x::_=>x|[]=>.global 0
def a1:List Operand->Operand
 |_::x::_=>x|_=>.global 0
def Ru:List Operand->List AE
 |[]=>[]|x::r=>oP x::Ru r
def nT:List (Nat×Operand)->List AE
 |[]=>[]|x::r=>oP x.2::nT r
def qn:List (Nat×Nat)->List (Nat×Operand)->List (Nat×Nat×AE)
 |p::r,x::s=>(p.1,p.2,oP x.2)::qn r s|_,_=>[]
def oO:Option Operand->Option AE
 |none=>none|some x=>some (oP x)
def nO(m n:Nat)(y:Operand):AD:=match m with
 |1=>.mv (oP y)|2=>.tk (tP y)|20=>.xal (tP y)|24=>.rel (tP y)|25=>.tkx (tP y)|64=>.Aat n|65=>.y5 (oP y) n|66=>.bad (tP y) n|_=>.Aaf n
def wj(m n:Nat)(y:Operand):AD:=match m with
 |3=>.ld (oP y)|4=>.ldt (oP y)|23=>.xld (oP y)|29=>.lac (oP y)|30=>.ctk (oP y)|35=>.lan (oP y)|37=>.nld (oP y)|68=>.lda (oP y) n|88=>.ldb (tP y) n|89=>.ldv (oP y) n|_=>.ldg (tP y) n
def wk(m n:Nat)(y u:Operand):AD:=match m with
 |31=>.cpt (oP y) (tP u)|38=>.nst (oP y) (oP u)|74=>.st n (oP y) (oP u)|75=>.stb n (tP y) (oP u)|77=>.xst (oP y) (oP u) n|_=>.stx n (tP y) (tP u)
def wg(m n:Nat)(y j:Operand):AD:=match m with
 |36=>.nia (oP y) (oP j)|66=>.bad (tP y) n|67=>.iad (oP y) (oP j) n|_=>.xia (oP y) (oP j) n
def nN(m n:Nat)(c:Callee)(l:List Operand):AD:=match c with
 |.value g=>(match m with
  |15=>.Aaj (oP g) (Ru l)|_=>(match g with
   |.func f=>(match m with
    |14=>.call f (Ru l)|26=>.zl f (Ru l)|27=>.zV f (Ru l)|32=>.zx f (Ru l)|39=>.zi f (Ru l)|40=>.zW f (Ru l)|41=>.zj f (oP (a0 l)) (Ru l.tail)|42=>.zO f (oP (a0 l))|87=>.zv f (Ru l) n|_=>.y6 f (Ru l) n)
   |_=>.mkm))
 |.builtin _=>(match m with
  |11=>.len (oP (a0 l))|12=>.AaA (oP (a0 l))|21=>.Aas (oP (a0 l))|33=>.zu (tP (a0 l)) (tP (a1 l))|72=>.app n (oP (a0 l)) (oP (a1 l))|44=>.mm true (oP (a0 l)) (oP (a1 l))|45=>.mm false (oP (a0 l)) (oP (a1 l))|_=>.zY n (tP (a0 l)) (oP (a1 l)))
 |_=>.mkm
def qx(m:Nat)(op:BinOp)(p q:Operand):AD:=match m with
 |5=>.bin .i op (oP p) (oP q)|6=>.bin .s op (oP p) (oP q)|7=>.bin .b op (oP p) (oP q)|_=>.isn (oP p)
def wl(m:Nat)(y:Operand):AD:=match m with
 |8=>.not (oP y)|_=>.neg (oP y)
structure cM where
 b:Nat->Fq×List (Nat×Nat)
 c:Nat->List AR
def qy(H:cM)(m n:Nat):Op->AD
 |.move y=>nO m n y|.assign y=>nO m n y|.nilCheck y=>nO m n y|.pick c a b=>.pick (oP c) (oP a) (oP b)|.alloc _=>.alc (H.c n)|.box _ y=>(match m with|19=>.Aak (oP y)|_=>.Aay (tP y))
 |.build _ q=>.z7 (H.b n).1 (qn (H.b n).2 q.toList)|.buildSlice _ _ q=>(match m with
  |34=>(match nT q.toList with|[.s x]=>.Aan x|_=>.mkm)
  |86=>.Aac n|_=>.lst n (nT q.toList))
 |.load _ y=>wj m n y|.store _ y u=>wk m n y u|.binOp op _ p q _=>qx m op p q|.unOp _ _ y=>wl m y|.makeFunc (.func g) _ xs=>.zc g (Ru xs.toList)|.slice _ y l h _=>(match m with
  |13=>.yu (oP y) (oO l) (oO h)|69=>.y9 n (oP y) (oO l) (oO h)|_=>(match h with|some h=>.cut n (tP y) (oP h)|none=>.mkm))
 |.fieldAddr _ y _=>(match m with
  |90=>.fdv (oP y) n|65=>.y5 (oP y) n|66=>.bad (tP y) n|_=>.xfa (oP y) n)
 |.indexAddr _ y j=>wg m n y j|.index _ y j=>.za (oP y) (oP j)|.extract y j=>.ext (oP y) j|.call c=>nN m n c.callee c.args.toList|_=>.mkm
def eC:List Oper->Nat->Nat
 |[],_=>0|o::_,0=>(match o.dst with|some d=>d|none=>0)
 |_::r,j+1=>eC r j
def we(all:List Oper):Option (Nat×Bool)->Option (Nat×Bool)
 |none=>none|some (j,b)=>some (eC all j,b)
structure DS where
 s:Nat
 l:QQ
 x:List AD
def kJ(H:cM)(all:List Oper):List Oper->DS->List PR×DS
 |[],d=>(match d.s % 256 with
  |61=>([⟨none,.frz (d.s / 256 % 256),none⟩],⟨d.s / 65536,d.l,d.x⟩)|_=>([],d))
 |o::os,⟨s,l,x⟩=>
  match s / 128 % 2,(match o.dst with|some d=>d|none=>0)with
  |f,d0=>
  match (match s % 128 with
   |63=>(match x with|p::x=>(p,DS.mk (s / 256) (match f with|0=>l|_=>l++[d0]) x)|[]=>(AD.mkm,DS.mk 0 l x))
   |m=>(match m / 64 with
    |0=>(qy H m 0 o.op,DS.mk (s / 256) (match f with|0=>l|_=>l++[d0]) x)
    |_=>(qy H m (s / 256 % 256) o.op,DS.mk (s / 65536) (match f with|0=>l|_=>l++[d0]) x)))with
  |(p,d)=>match kJ H all os d with
   |(rs,d')=>(⟨o.dst,p,we all o.guard⟩::rs,d')
def Y9:Nat->Nat->QQ×Nat
 |0,s=>([],s)|n+1,s=>match Y9 n (s / 256)with|(r,s')=>(s % 256::r,s')
def SM(d:DS):DS:=match d.s % 256 with
 |255=>⟨d.s / 256,d.l,d.x⟩|n=>match Y9 n (d.s / 256)with|(r,s)=>⟨s,r,d.x⟩
def Zo:List Oper->QQ
 |[]=>[]|o::r=>(match o.dst with|some d=>d::Zo r|none=>Zo r)
def kK(H:cM)(ops:List Oper)(w:Bool)(d:DS):PC×DS:=match kJ H ops ops d with
 |(rs,d)=>match(match d.s % 256 with|60=>SM ⟨d.s / 256,d.l,d.x⟩|_=>d)with
  |d=>(match w with
   |true=>(match d.s % 256 with
    |59=>(match Y9 (d.s / 256 % 256) (d.s / 65536)with|(r,s)=>(PC.draw (r++Zo ops) rs d.l,⟨s,d.l,d.x⟩))
    |_=>(PC.draw (Zo ops) rs d.l,d))
   |false=>(PC.region rs d.l,d))
def dC(H:cM):Code->DS->PC×Bool×DS
 |.skip,d=>match SM d with|d=>(.skip d.l,true,d)
 |.ret,d=>(.ret,false,d)|.exit i,d=>match SM d with|d=>(.exit i d.l,false,d)
 |.seq a b,d=>match dC H a d with|(p,_,d)=>match dC H b d with|(q,t,d)=>(.seq p q,t,d)
 |.cond c a b,d=>match dC H a d with
  |(p,t,e)=>match dC H b ⟨e.s,d.l,e.x⟩with
   |(q,u,g)=>(.cond (oP c) p q,t||u,match u with|true=>g|false=>⟨g.s,e.l,g.x⟩)
 |.block i c,d=>match dC H c d with|(p,_,d)=>(.block i p,true,SM d)
 |.loop c,d=>match SM d with|d=>match dC H c d with|(p,_,e)=>(.loop d.l p,false,e)
 |.region _ ops w,d=>(match d.s % 256 with
  |62=>(match kK H ops.toList w ⟨d.s / 65536,d.l,d.x⟩with|(c,e)=>(PC.rls (d.s / 256 % 256) c,true,e))
  |_=>(match kK H ops.toList w d with|(c,e)=>(c,true,e)))
 |_,d=>(.bad,false,d)
def sy(T:Nat):Nat->Nat->Nat->Nat
 |0,c,r=>r*256+c|n+1,c,r=>match T / 65536^ c % 65536 with
  |0=>r*256+c|p=>sy T n (p % 256) (sy T n (p / 256) r)
def xp(T:Nat):Nat->Nat->Nat
 |0,_=>0|n+1,s=>match s with
  |0=>0|s=>sy T 40 (s % 256) (xp T n (s / 256))
def xq(T s:Nat):Nat:=xp T 400 s
def PC.of(H:cM)(b:Option Code)(s:Nat)(x:List AD):PC:=match b with
 |some c=>(dC H c (SM ⟨s,[],x⟩)).1|none=>.bad
end Go.Sf
