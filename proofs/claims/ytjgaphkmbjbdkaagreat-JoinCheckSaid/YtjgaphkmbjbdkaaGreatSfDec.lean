/- The pure text of a function, out of its code: which operation stands for which is told by numbers. -/
import Derived.Test.YtjgaphkmbjbdkaaGreatSfK
set_option linter.all false
set_option maxRecDepth 100000
namespace Go.Sf
open Go
def cV:Value->TV
 |.int k n=>.int k n|.bool b=>.bool b|.string s=>.str s|.func (.func f) _ _=>.clo f []|_=>.undef
def oP:Operand->AG
 |.tmp n=>.s n|.const v=>.c (cV v)|.func f=>.c (.clo f [])|.global _=>.c .undef
def tP:Operand->Nat
 |.tmp n=>n|_=>0
def a0:List Operand->Operand
 |x::_=>x|[]=>.global 0
def a1:List Operand->Operand
 |_::x::_=>x|_=>.global 0
def Rp:List Operand->List AG
 |[]=>[]|x::r=>oP x::Rp r
def nG:List (Nat×Operand)->List AG
 |[]=>[]|x::r=>oP x.2::nG r
def qN:List (Nat×Nat)->List (Nat×Operand)->List (Nat×Nat×AG)
 |p::r,x::s=>(p.1,p.2,oP x.2)::qN r s|_,_=>[]
def oO:Option Operand->Option AG
 |none=>none|some x=>some (oP x)
def nC(m n:Nat)(y:Operand):AE:=match m with
 |1=>.mv (oP y)|2=>.tk (tP y)|20=>.xal (tP y)|24=>.rel (tP y)|25=>.tkx (tP y)|64=>.Abd n|65=>.fad (oP y) n|66=>.bad (tP y) n|_=>.Aba n
def wF(m n:Nat)(y:Operand):AE:=match m with
 |3=>.ld (oP y)|4=>.ldt (oP y)|23=>.xld (oP y)|29=>.lac (oP y)|30=>.ctk (oP y)|35=>.lan (oP y)|37=>.nld (oP y)|68=>.lda (oP y) n|88=>.ldb (tP y) n|89=>.ldv (oP y) n|_=>.ldg (tP y) n
def wG(m n:Nat)(y u:Operand):AE:=match m with
 |31=>.cpt (oP y) (tP u)|38=>.nst (oP y) (oP u)|74=>.st n (oP y) (oP u)|75=>.stb n (tP y) (oP u)|77=>.xst (oP y) (oP u) n|_=>.stx n (tP y) (tP u)
def wE(m n:Nat)(y j:Operand):AE:=match m with
 |36=>.nia (oP y) (oP j)|66=>.bad (tP y) n|67=>.iad (oP y) (oP j) n|_=>.xia (oP y) (oP j) n
def nB(m n:Nat)(c:Callee)(l:List Operand):AE:=match c with
 |.value g=>(match m with
  |15=>.Abb (oP g) (Rp l)|_=>(match g with
   |.func f=>(match m with
    |14=>.call f (Rp l)|26=>.Aas f (Rp l)|27=>.AaU f (Rp l)|32=>.AaC f (Rp l)|39=>.Aao f (Rp l)|40=>.AaT f (Rp l)|41=>.Aar f (oP (a0 l)) (Rp l.tail)|42=>.AaK f (oP (a0 l))|87=>.AaB f (Rp l) n|_=>.Aaj f (Rp l) n)
   |_=>.mkm))
 |.builtin _=>(match m with
  |11=>.len (oP (a0 l))|12=>.Abr (oP (a0 l))|21=>.Abj (oP (a0 l))|33=>.Aax (tP (a0 l)) (tP (a1 l))|72=>.app n (oP (a0 l)) (oP (a1 l))|44=>.mm true (oP (a0 l)) (oP (a1 l))|45=>.mm false (oP (a0 l)) (oP (a1 l))|_=>.AaW n (tP (a0 l)) (oP (a1 l)))
 |_=>.mkm
def qT(m:Nat)(op:BinOp)(p q:Operand):AE:=match m with
 |5=>.bin .i op (oP p) (oP q)|6=>.bin .s op (oP p) (oP q)|7=>.bin .b op (oP p) (oP q)|_=>.isn (oP p)
def wH(m:Nat)(y:Operand):AE:=match m with
 |8=>.not (oP y)|_=>.neg (oP y)
structure cT where
 b:Nat->Fq×List (Nat×Nat)
 c:Nat->List AS
def qU(H:cT)(m n:Nat):Op->AE
 |.move y=>nC m n y|.assign y=>nC m n y|.nilCheck y=>nC m n y|.pick c a b=>.pick (oP c) (oP a) (oP b)|.alloc _=>.alc (H.c n)|.box _ y=>(match m with|19=>.Abe (oP y)|_=>.Abn (tP y))
 |.build _ q=>.bld (H.b n).1 (qN (H.b n).2 q.toList)|.buildSlice _ _ q=>(match m with
  |34=>(match nG q.toList with|[.s x]=>.Abf x|_=>.mkm)
  |86=>.Aa6 n|_=>.lst n (nG q.toList))
 |.load _ y=>wF m n y|.store _ y u=>wG m n y u|.binOp op _ p q _=>qT m op p q|.unOp _ _ y=>wH m y|.makeFunc (.func g) _ xs=>.clo g (Rp xs.toList)|.slice _ y l h _=>(match m with
  |13=>.Aan (oP y) (oO l) (oO h)|69=>.slc n (oP y) (oO l) (oO h)|_=>(match h with|some h=>.cut n (tP y) (oP h)|none=>.mkm))
 |.fieldAddr _ y _=>(match m with
  |90=>.fdv (oP y) n|65=>.fad (oP y) n|66=>.bad (tP y) n|_=>.xfa (oP y) n)
 |.indexAddr _ y j=>wE m n y j|.index _ y j=>.Aal (oP y) (oP j)|.extract y j=>.ext (oP y) j|.call c=>nB m n c.callee c.args.toList|_=>.mkm
def eY:List Oper->Nat->Nat
 |[],_=>0|o::_,0=>(match o.dst with|some d=>d|none=>0)
 |_::r,j+1=>eY r j
def wD(all:List Oper):Option (Nat×Bool)->Option (Nat×Bool)
 |none=>none|some (j,b)=>some (eY all j,b)
structure DS where
 s:Nat
 l:Ne
 x:List AE
def kJ(H:cT)(all:List Oper):List Oper->DS->List PR×DS
 |[],d=>(match d.s % 256 with
  |61=>([⟨none,.frz (d.s / 256 % 256),none⟩],⟨d.s / 65536,d.l,d.x⟩)|_=>([],d))
 |o::os,⟨s,l,x⟩=>
  match s / 128 % 2,(match o.dst with|some d=>d|none=>0)with
  |f,d0=>
  match (match s % 128 with
   |63=>(match x with|p::x=>(p,DS.mk (s / 256) (match f with|0=>l|_=>l++[d0]) x)|[]=>(AE.mkm,DS.mk 0 l x))
   |m=>(match m / 64 with
    |0=>(qU H m 0 o.op,DS.mk (s / 256) (match f with|0=>l|_=>l++[d0]) x)
    |_=>(qU H m (s / 256 % 256) o.op,DS.mk (s / 65536) (match f with|0=>l|_=>l++[d0]) x)))with
  |(p,d)=>match kJ H all os d with
   |(rs,d')=>(⟨o.dst,p,wD all o.guard⟩::rs,d')
def Y9:Nat->Nat->Ne×Nat
 |0,s=>([],s)|n+1,s=>match Y9 n (s / 256)with|(r,s')=>(s % 256::r,s')
def SE(d:DS):DS:=match d.s % 256 with
 |255=>⟨d.s / 256,d.l,d.x⟩|n=>match Y9 n (d.s / 256)with|(r,s)=>⟨s,r,d.x⟩
def Zm:List Oper->Ne
 |[]=>[]|o::r=>(match o.dst with|some d=>d::Zm r|none=>Zm r)
def kK(H:cT)(ops:List Oper)(w:Bool)(d:DS):PC×DS:=match kJ H ops ops d with
 |(rs,d)=>match(match d.s % 256 with|60=>SE ⟨d.s / 256,d.l,d.x⟩|_=>d)with
  |d=>(match w with
   |true=>(match d.s % 256 with
    |59=>(match Y9 (d.s / 256 % 256) (d.s / 65536)with|(r,s)=>(PC.draw (r++Zm ops) rs d.l,⟨s,d.l,d.x⟩))
    |_=>(PC.draw (Zm ops) rs d.l,d))
   |false=>(PC.region rs d.l,d))
def dC(H:cT):Code->DS->PC×Bool×DS
 |.skip,d=>match SE d with|d=>(.skip d.l,true,d)
 |.ret,d=>(.ret,false,d)|.exit i,d=>match SE d with|d=>(.exit i d.l,false,d)
 |.seq a b,d=>match dC H a d with|(p,_,d)=>match dC H b d with|(q,t,d)=>(.seq p q,t,d)
 |.cond c a b,d=>match dC H a d with
  |(p,t,e)=>match dC H b ⟨e.s,d.l,e.x⟩with
   |(q,u,g)=>(.cond (oP c) p q,t||u,match u with|true=>g|false=>⟨g.s,e.l,g.x⟩)
 |.block i c,d=>match dC H c d with|(p,_,d)=>(.block i p,true,SE d)
 |.loop c,d=>match SE d with|d=>match dC H c d with|(p,_,e)=>(.loop d.l p,false,e)
 |.region _ ops w,d=>(match d.s % 256 with
  |62=>(match kK H ops.toList w ⟨d.s / 65536,d.l,d.x⟩with|(c,e)=>(PC.rls (d.s / 256 % 256) c,true,e))
  |_=>(match kK H ops.toList w d with|(c,e)=>(c,true,e)))
 |_,d=>(.bad,false,d)
def sy(T:Nat):Nat->Nat->Nat->Nat
 |0,c,r=>r*256+c|n+1,c,r=>match T / 65536^ c % 65536 with
  |0=>r*256+c|p=>sy T n (p % 256) (sy T n (p / 256) r)
def xp(T:Nat):Nat->Nat->Nat
 |0,_=>0|n+1,s=>match s with
  |0=>0|s=>sy T 40 (s % 256) (xp T n (s / 256))
def xq(T s:Nat):Nat:=xp T 400 s
def PC.of(H:cT)(b:Option Code)(s:Nat)(x:List AE):PC:=match b with
 |some c=>(dC H c (SE ⟨s,[],x⟩)).1|none=>.bad
end Go.Sf
