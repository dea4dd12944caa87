/- The functions of the program as Lean functions. -/
import Derived.Test.YtmbomnkcdolalaaGreatTypes
import Derived.Test.YtmbomnkcdolalaaGreatSfText
import Derived.Test.YtmbomnkcdolalaaGreatSfF
set_option linter.all false
set_option maxRecDepth 100000
namespace Go.Sf.Sc
open Go Go.Sf
noncomputable section
abbrev IF:Ax:=Ax.mk (f0.mk (⟨#[]⟩:ByteArray) (ec.mk (d4.mk [] []) [] 0 []) (ec.mk (d4.mk [] []) [] 0 []) (BH.mk [] []) (d6.mk [] []) false (d7.mk 0 [] (d6.mk [] []) (ec.mk (d4.mk [] []) [] 0 []))) (AO.mk (d6.mk [] []) []) (AH.mk (d4.mk [] []) []) (AH.mk (d4.mk [] []) []) (d6.mk [] []) (d6.mk [] [])
abbrev CC:AI:=AI.mk (AR.mk (AH.mk (d4.mk [] []) []) []) []
abbrev DG:A6:=A6.mk 0 (AO.mk (d6.mk [] []) []) []
abbrev Xt:AR:=AR.mk (AH.mk (d4.mk [] []) []) []
def Ki(c:Int):K1:=
 some (((decide (97<=c))&&(decide (c<=122)))||((decide (65<=c))&&(decide (c<=90))))
def Gu[Ev](a:ByteArray)(e:Int->K1):QQ:=
 gp (Ep (ρ:=Int) (fun(s0:Int)=>
 (if(decide (s0<(a.size:Int)))then((AaC a s0).bind fun b=>
 (e b).bind fun c=>
 some (c))else some false).bind fun d=>
 if d then
 some (.next (Aj (s0+1)))
 else
 some (.brk s0)) 0) (fun s0=>
 some s0) (fun v0=>some v0)
def J1(c:Int):K1:=
 some ((decide (48<=c))&&(decide (c<=57)))
def M9(c:Int):K1:=
 (Ki c).bind fun a=>
 (if a then some true else((J1 c).bind fun b=>
 some (b))).bind fun d=>
 some (d||(decide (c=95)))
def K3(c:Int):K1:=
 some (((decide (32<=c))&&(decide (c<=126)))&&(!decide (c=34)))
def GD[Ev](a:ByteArray):Option (Int×Int):=
 (AaJ a 1 a.size).bind fun e=>
 (Gu e K3).bind fun b=>
 (if(decide ((Aj (1+b))=(a.size:Int)))then some true else((AaC a (Aj (1+b))).bind fun c=>
 some (!decide (c=34)))).bind fun d=>
 if d then
 some (0,2)
 else
 if (decide (60<b))then
 some (0,3)
 else
 some (Aj (b+2),0)
def slices_Index_string(a:List ByteArray)(c:ByteArray):QQ:=
 gp (kq (ρ:=Int) (fun(i0:Int)(_:Unit)=>
 (idx a i0).bind fun b=>
 if (c==b)then
 some (.ret i0)
 else
 some (.next ())) 0 (a.length:Int) ()) (fun _=>
 some (-1)) (fun v0=>some v0)
def slices_Contains_string(a:List ByteArray)(b:ByteArray):K1:=
 (slices_Index_string a b).bind fun c=>
 some (decide (0<=c))
def M8(a:ByteArray):K1:=
 (if(decide (2<=(a.size:Int)))then((AaJ a 0 2).bind fun d=>
 (slices_Contains_string [(⟨#[45,62]⟩:ByteArray),(⟨#[60,61]⟩:ByteArray),(⟨#[62,61]⟩:ByteArray),(⟨#[61,61]⟩:ByteArray),(⟨#[33,61]⟩:ByteArray)] d).bind fun b=>
 some (b))else some false).bind fun c=>
 some c
def strings_IndexByte(s:ByteArray)(c:Int):QQ:=some (Go.Lib.indexByte s.data.toList c.toNat.toUInt8)
def IA[Ev](a:ByteArray):Option (Int×Int×Int):=
 (AaC a 0).bind fun b=>
 (Ki b).bind fun f=>
 if f then
 (Gu a M9).bind fun c=>
 if (decide (20<c))then
 some (0,0,3)
 else
 some (1,c,0)
 else
 (J1 b).bind fun g=>
 if g then
 (Gu a J1).bind fun d=>
 if (decide (9<d))then
 some (0,0,3)
 else
 some (2,d,0)
 else
 if (decide (b=34))then
 (GD a).bind fun e=>
 some (3,e.1,e.2)
 else
 (M8 a).bind fun h=>
 if h then
 some (4,2,0)
 else
 (strings_IndexByte (⟨#[123,125,40,41,91,93,44,59,58,61,43,45,42,60,62,33,38,124,46,63]⟩:ByteArray) b).bind fun i=>
 if (decide (0<=i))then
 some (4,1,0)
 else
 some (0,0,2)
def IU[Ev](t:Ee):Option (ByteArray×Bool):=
 (if(decide (t.mo=3))then
 (Th (⟨#[34]⟩:ByteArray) t.AbU).bind fun b=>
 (Th b (⟨#[34]⟩:ByteArray)).bind fun c=>
 some c
 else
 some t.AbU).bind fun w1=>
 if (w1==(⟨#[]⟩:ByteArray))then
 some ((⟨#[]⟩:ByteArray),false)
 else
 (IA w1).bind fun a=>
 some (w1,((decide (a.2.2=0))&&(decide (a.1=t.mo)))&&(decide (a.2.1=(w1.size:Int))))
def DQ[Ev](a:ByteArray):K1:=
 (IU (Ee.mk 1 a 0)).bind fun b=>
 some b.2
def C4[Ev](a:List B8)(f:B8->K1):QQ:=
 gp (kq (ρ:=Int) (fun(i0:Int)(_:Unit)=>
 (idx a i0).bind fun b=>
 (f b).bind fun c=>
 if c then
 some (.ret i0)
 else
 some (.next ())) 0 (a.length:Int) ()) (fun _=>
 some (-1)) (fun v0=>some v0)
def CB[Ev](a:List B8)(f:B8->K1):K1:=
 (C4 a f).bind fun b=>
 some (decide (0<=b))
def NB(m:B8)(a:B8):K1:=
 some (m.qo==a.qo)
def DF[Ev]:Nat->AC->Int->Option (List ns)
 |0,_,_=>none|n+1,t,a=>
  (idx t.d3 a).bind fun b=>
  (if(decide (0<=b.Aac))then
  (DF n t b.Aac).bind fun c=>
  some c
  else
  some []).bind fun w1=>
  (idx t.d3 a).bind fun d=>
  (Ak w1 d.x4).bind fun e=>
  some e
def J2[Ev](t:AC)(a:Int):Option (List ns):=KC fun n=>DF n t a
def Dl[Ev](a:List ns)(f:ns->K1):QQ:=
 gp (kq (ρ:=Int) (fun(i0:Int)(_:Unit)=>
 (idx a i0).bind fun b=>
 (f b).bind fun c=>
 if c then
 some (.ret i0)
 else
 some (.next ())) 0 (a.length:Int) ()) (fun _=>
 some (-1)) (fun v0=>some v0)
def Cc[Ev](a:List ns)(f:ns->K1):K1:=
 (Dl a f).bind fun b=>
 some (decide (0<=b))
def Ie(y:ns)(a:ns):K1:=
 some (y.qo==a.qo)
def Gw[Ev](l:List ByteArray):QQ:=
 if (decide (20<(l.length:Int)))then
 some 3
 else
 gp (kq (ρ:=Int) (fun(i0:Int)(_:Unit)=>
 (idx l i0).bind fun a=>
 (DQ a).bind fun b=>
 if (!b)then
 some (.ret 2)
 else
 (slc l 0 i0).bind fun c=>
 (slices_Contains_string c a).bind fun d=>
 if d then
 some (.ret 5)
 else
 some (.next ())) 0 (l.length:Int) ()) (fun _=>
 some 0) (fun v0=>some v0)
def ES[Ev](a:ns)(b:List ns):QQ:=
 (DQ a.qo).bind fun d=>
 if (!d)then
 some 2
 else
 (Cc b (fun y0=>Ie y0 a)).bind fun e=>
 if e then
 some 5
 else
 (Gw a.x3).bind fun c=>
 if (!decide (c=0))then
 some c
 else
 (if(decide (0<(a.x3.length:Int)))then
 some ((decide (a.Low=0))&&(decide (a.AaD=(Aj ((a.x3.length:Int)-1)))))
 else
 some (((decide ((-1000000)<=a.Low))&&(decide (a.Low<=a.AaD)))&&(decide (a.AaD<=1000000)))).bind fun w1=>
 if (!w1)then
 some 6
 else
 some 0
def IC[Ev](t:AC)(c:Int):QQ:=
 (idx t.d3 c).bind fun a=>
 (DQ a.qo).bind fun e=>
 if (!e)then
 some 2
 else
 (slc t.d3 0 c).bind fun f=>
 (CB f (fun y0=>NB y0 a)).bind fun g=>
 if g then
 some 5
 else
 if ((decide (a.Aac<(-1)))||(decide (c<=a.Aac)))then
 some 6
 else
 if (decide (4<(a.x4.length:Int)))then
 some 3
 else
 (J2 t c).bind fun b=>
 if (decide (8<(b.length:Int)))then
 some 3
 else
 gp (kq (ρ:=Int) (fun(i1:Int)(_:Unit)=>
 (idx b i1).bind fun h=>
 (slc b 0 i1).bind fun i=>
 (ES h i).bind fun d=>
 if (!decide (d=0))then
 some (.ret d)
 else
 some (.next ())) (Aj ((b.length:Int)-(a.x4.length:Int))) (b.length:Int) ()) (fun _=>
 some 0) (fun v1=>some v1)
def Kj(n:Int)(a:AC):K1:=
 some ((decide (0<=n))&&(decide (n<(a.d3.length:Int))))
def C3[Ev](a:List CG)(f:CG->K1):QQ:=
 gp (kq (ρ:=Int) (fun(i0:Int)(_:Unit)=>
 (idx a i0).bind fun b=>
 (f b).bind fun c=>
 if c then
 some (.ret i0)
 else
 some (.next ())) 0 (a.length:Int) ()) (fun _=>
 some (-1)) (fun v0=>some v0)
def CA[Ev](a:List CG)(f:CG->K1):K1:=
 (C3 a f).bind fun b=>
 some (decide (0<=b))
def NA(y:CG)(a:CG):K1:=
 some (y.qo==a.qo)
def Jn(b:Int)(a:Int):K1:=
 some (((decide (0<=b))&&(decide (b<=40)))&&((decide (a=(-1)))||((decide (b<=a))&&(decide (a<=40)))))
def IB[Ev](t:AC)(c:Int):QQ:=
 (idx t.d5 c).bind fun a=>
 (DQ a.qo).bind fun d=>
 if (!d)then
 some 2
 else
 (slc t.d5 0 c).bind fun e=>
 (CA e (fun y0=>NA y0 a)).bind fun f=>
 if f then
 some 5
 else
 (Kj a.o4 t).bind fun g=>
 (if(!g)then some true else((Kj a.To t).bind fun h=>
 some (!h))).bind fun b=>
 (if b then
 some b
 else
 (Jn a.Abg a.Aa0).bind fun i=>
 (if(!i)then some true else((Jn a.AbC a.Abh).bind fun j=>
 some (!j))).bind fun k=>
 some k).bind fun w1=>
 if w1 then
 some 6
 else
 some 0
def DH[Ev](t:AC):Option (ByteArray×Int):=
 if (decide ((t.d3.length:Int)=0))then
 some ((⟨#[]⟩:ByteArray),7)
 else
 if ((decide (12<(t.d3.length:Int)))||(decide (20<(t.d5.length:Int))))then
 some ((⟨#[]⟩:ByteArray),3)
 else
 gp (kq (ρ:=(ByteArray×Int)) (fun(i1:Int)(_:Unit)=>
 (idx t.d3 i1).bind fun c=>
 (IC t i1).bind fun a=>
 if (!decide (a=0))then
 some (.ret (c.qo,a))
 else
 some (.next ())) 0 (t.d3.length:Int) ()) (fun _=>
 gp (kq (ρ:=(ByteArray×Int)) (fun(i3:Int)(_:Unit)=>
 (idx t.d5 i3).bind fun d=>
 (IB t i3).bind fun b=>
 if (!decide (b=0))then
 some (.ret (d.qo,b))
 else
 some (.next ())) 0 (t.d5.length:Int) ()) (fun _=>
 some ((⟨#[]⟩:ByteArray),0)) (fun v3=>some v3)) (fun v1=>some v1)
def D8[Ev](a:Fp)(f:Int->K1):QQ:=
 gp (kq (ρ:=Int) (fun(i0:Int)(_:Unit)=>
 (idx a i0).bind fun b=>
 (f b).bind fun c=>
 if c then
 some (.ret i0)
 else
 some (.next ())) 0 (a.length:Int) ()) (fun _=>
 some (-1)) (fun v0=>some v0)
def A5[Ev](a:Fp)(f:Int->K1):K1:=
 (D8 a f).bind fun b=>
 some (decide (0<=b))
def G6(n:Int)(a:Int):K1:=
 some ((decide (0<=n))&&(decide (n<=a)))
def Li(t:Int):K1:=
 (G6 t 99).bind fun a=>
 some (!a)
def Dm[Ev](a:List Bo)(f:Bo->K1):QQ:=
 gp (kq (ρ:=Int) (fun(i0:Int)(_:Unit)=>
 (idx a i0).bind fun b=>
 (f b).bind fun c=>
 if c then
 some (.ret i0)
 else
 some (.next ())) 0 (a.length:Int) ()) (fun _=>
 some (-1)) (fun v0=>some v0)
def BT[Ev](a:List Bo)(f:Bo->K1):K1:=
 (Dm a f).bind fun b=>
 some (decide (0<=b))
def MZ(e:Bo)(a:Int):K1:=
 (G6 e.og 99).bind fun g=>
 (if g then((G6 e.o4 (Aj (a-1))).bind fun b=>
 some (b))else some false).bind fun c=>
 (if c then((G6 e.To (Aj (a-1))).bind fun d=>
 some (d))else some false).bind fun f=>
 some f
def Lj(e:Bo)(b:d4):K1:=
 (MZ e (b.d3.length:Int)).bind fun a=>
 some (!a)
def Ci[Ev](g:d4):QQ:=
 if ((decide (40<(g.d3.length:Int)))||(decide (80<(g.d5.length:Int))))then
 some 3
 else
 (A5 g.d3 Li).bind fun a=>
 if a then
 some 6
 else
 (BT g.d5 (fun y0=>Lj y0 g)).bind fun b=>
 if b then
 some 6
 else
 some 0
def Lr(a:Int)(b:AC):K1:=
 some ((decide (a<0))||(decide ((b.d3.length:Int)<=a)))
def FB[Ev](t:AC)(l:Fp):QQ:=
 (DH t).bind fun b=>
 if (!decide (b.2=0))then
 some b.2
 else
 (A5 l (fun y0=>Lr y0 t)).bind fun a=>
 if a then
 some 6
 else
 some 0
def slices_Clone_string(a:List ByteArray):Option (List ByteArray):=
 Ak [] a
def D2[Ev](t:AC)(a:Int):Option (List ns×Int):=
 (FB t [a]).bind fun c=>
 if (!decide (c=0))then
 some ([],c)
 else
 (J2 t a).bind fun d=>
 (tc (fun(i0:Int)(s0:List ns)=>
 (idx s0 i0).bind fun e=>
 (slices_Clone_string e.x3).bind fun f=>
 (idx s0 i0).bind fun b=>
 some (BP s0 i0 (ns.mk b.qo b.Low b.AaD f))) 0 (d.length:Int) d).bind fun s0=>
 some (s0,0)
def I9[Ev](t:AC)(a:Int)(h:Fp):QQ:=
 if (decide ((t.d3.length:Int)<=a))then
 some 6
 else
 (idx t.d3 a).bind fun d=>
 if d.Aap then
 some 13
 else
 (D2 t a).bind fun b=>
 if (!decide ((h.length:Int)=(b.1.length:Int)))then
 some 20
 else
 gp (kq (ρ:=Int) (fun(i0:Int)(_:Unit)=>
 (idx b.1 i0).bind fun c=>
 (idx h i0).bind fun e=>
 (if(decide (e<c.Low))then some true else((idx h i0).bind fun f=>
 some (decide (c.AaD<f)))).bind fun g=>
 if g then
 some (.ret 6)
 else
 some (.next ())) 0 (b.1.length:Int) ()) (fun _=>
 some 0) (fun v0=>some v0)
def slices_Index_int(a:Fp)(c:Int):QQ:=
 gp (kq (ρ:=Int) (fun(i0:Int)(_:Unit)=>
 (idx a i0).bind fun b=>
 if (decide (c=b))then
 some (.ret i0)
 else
 some (.next ())) 0 (a.length:Int) ()) (fun _=>
 some (-1)) (fun v0=>some v0)
def slices_Contains_int(a:Fp)(b:Int):K1:=
 (slices_Index_int a b).bind fun c=>
 some (decide (0<=c))
def slices_Reverse_int(l:Fp):Option Fp:=if l.length<=Ah then some l.reverse else none
def Ja[Ev](t:AC)(a:Int):Option Fp:=
 gp (Ep (ρ:=Fp) (fun(s0:Int×Fp)=>
 if (decide (0<=s0.1))then
 (Ak s0.2 [s0.1]).bind fun b=>
 (idx t.d3 s0.1).bind fun c=>
 some (.next (c.Aac,b))
 else
 some (.brk (s0.1,s0.2))) (a,[])) (fun s0=>
 (slices_Reverse_int s0.2).bind fun d=>
 some d) (fun v0=>some v0)
def IW[Ev](t:AC)(a:Int)(b:Int):K1:=
 (Ja t a).bind fun d=>
 (slices_Contains_int d b).bind fun c=>
 some c
def Gl[Ev](t:AC)(a:Int)(b:Int)(c:Int):K1:=
 (FB t [b,c]).bind fun d=>
 if (((!decide (d=0))||(decide (a<0)))||(decide ((t.d5.length:Int)<=a)))then
 some false
 else
 (idx t.d5 a).bind fun e=>
 (IW t b e.o4).bind fun f=>
 (if f then((idx t.d5 a).bind fun g=>
 (IW t c g.To).bind fun h=>
 some (h))else some false).bind fun i=>
 some i
def Ei[Ev](t:AC)(a:AH):Option (Int×Int):=
 (DH t).bind fun c=>
 if (!decide (c.2=0))then
 some ((-1),c.2)
 else
 (Ci a.d4).bind fun d=>
 if (!decide (d=0))then
 some ((-1),d)
 else
 if (!decide ((a.fd.length:Int)=(a.d4.d3.length:Int)))then
 some ((-1),20)
 else
 gp (kq (ρ:=(Int×Int)) (fun(i0:Int)(_:Unit)=>
 (idx a.d4.d3 i0).bind fun f=>
 (idx a.fd i0).bind fun g=>
 (I9 t f g).bind fun e=>
 if (!decide (e=0))then
 some (.ret (i0,e))
 else
 some (.next ())) 0 (a.d4.d3.length:Int) ()) (fun _=>
 gp (kq (ρ:=(Int×Int)) (fun(i2:Int)(_:Unit)=>
 (idx a.d4.d5 i2).bind fun b=>
 if (decide ((t.d5.length:Int)<=b.og))then
 some (.ret (i2,6))
 else
 (idx a.d4.d3 b.o4).bind fun h=>
 (idx a.d4.d3 b.To).bind fun i=>
 (Gl t b.og h i).bind fun j=>
 if (!j)then
 some (.ret (i2,13))
 else
 some (.next ())) 0 (a.d4.d5.length:Int) ()) (fun _=>
 some ((-1),0)) (fun v2=>some v2)) (fun v0=>some v0)
def slices_Clone_int(a:Fp):Option Fp:=
 Ak [] a
def Ck(a:List Bo):Option (List Bo):=
 Ak [] a
def Dh(a:AI):Option AI:=
 (slices_Clone_int a.kl).bind fun c=>
 (slices_Clone_int a.ff.kg.d4.d3).bind fun d=>
 (Ck a.ff.kg.d4.d5).bind fun e=>
 (tc (fun(i0:Int)(s0:AI)=>
 (idx a.ff.kg.fd i0).bind fun f=>
 (slices_Clone_int f).bind fun g=>
 (Ak s0.ff.kg.fd [g]).bind fun h=>
 some (AI.mk (AR.mk (AH.mk s0.ff.kg.d4 h) s0.ff.j4) s0.kl)) 0 (a.ff.kg.fd.length:Int) (AI.mk (AR.mk (AH.mk (d4.mk d e) []) []) c)).bind fun s0=>
 (tc (fun(i2:Int)(s2:AI)=>
 (idx a.ff.j4 i2).bind fun b=>
 (slices_Clone_int b.o3.d6.d3).bind fun i=>
 (slices_Clone_int b.o3.d6.d5).bind fun j=>
 (slices_Clone_int b.o3.hV).bind fun k=>
 (Ak s2.ff.j4 [tg.mk b.f0 (AO.mk (d6.mk i j) k)]).bind fun l=>
 some (AI.mk (AR.mk s2.ff.kg l) s2.kl)) 0 (a.ff.j4.length:Int) s0).bind fun s2=>
 some s2
def GN[Ev](t:AC)(b:AH):Option (AI×Int):=
 (Ei t b).bind fun a=>
 if (!decide (a.2=0))then
 some (CC,a.2)
 else
 (Dh (AI.mk (AR.mk b []) [])).bind fun c=>
 some (c,0)
def GV(n:Int)(a:AC):K1:=
 some (decide ((a.d3.length:Int)<=n))
def GW(a:Bo)(b:AC):K1:=
 some (decide ((b.d5.length:Int)<=a.og))
def Cb(n:Int)(b:Int)(a:Int):K1:=
 some ((decide (b<=n))&&(decide (n<=a)))
def Ew[Ev](t:AC)(p:ec)(a:Cf):Option (ns×Bool):=
 (Cb a.t5 0 (Aj ((p.d4.d3.length:Int)-1))).bind fun c=>
 if (!c)then
 some (ns.mk (⟨#[]⟩:ByteArray) 0 0 [],false)
 else
 (idx p.d4.d3 a.t5).bind fun d=>
 (D2 t d).bind fun b=>
 (Cb a.ns 0 (Aj ((b.1.length:Int)-1))).bind fun e=>
 if (!e)then
 some (ns.mk (⟨#[]⟩:ByteArray) 0 0 [],false)
 else
 (idx b.1 a.ns).bind fun f=>
 some (f,true)
def Ht(n:Int)(t:kp):K1:=
 some ((((decide ((-1)<=t.Var))&&(decide (t.Var<n)))&&(decide ((-1000000)<=t.Add)))&&(decide (t.Add<=1000000)))
def Im(n:Int)(a:Test):QQ:=
 if ((!decide (a.mo=1))&&(!decide (a.mo=2)))then
 some 1
 else
 (Ht n a.ne).bind fun b=>
 (if(!b)then some true else((Ht n a.fq).bind fun c=>
 some (!c))).bind fun d=>
 if d then
 some 6
 else
 some 0
def G5(n:Int)(l:List Test):QQ:=
 if ((decide (n<0))||(decide (12<n)))then
 some 6
 else
 if (decide (40<(l.length:Int)))then
 some 3
 else
 gp (kq (ρ:=Int) (fun(i0:Int)(_:Unit)=>
 (idx l i0).bind fun b=>
 (Im n b).bind fun a=>
 if (!decide (a=0))then
 some (.ret a)
 else
 some (.next ())) 0 (l.length:Int) ()) (fun _=>
 some 0) (fun v0=>some v0)
def Ic(a:a5)(c:Bool):QQ:=
 gp (kq (ρ:=Int) (fun(i0:Int)(_:Unit)=>
 (idx a i0).bind fun b=>
 if (c==b)then
 some (.ret i0)
 else
 some (.next ())) 0 (a.length:Int) ()) (fun _=>
 some (-1)) (fun v0=>some v0)
def FO(a:a5)(b:Bool):K1:=
 (Ic a b).bind fun c=>
 some (decide (0<=c))
def Cq[Ev](t:AC)(p:ec):QQ:=
 (DH t).bind fun c=>
 if (!decide (c.2=0))then
 some c.2
 else
 (Ci p.d4).bind fun d=>
 if (!decide (d=0))then
 some d
 else
 (A5 p.d4.d3 (fun y0=>GV y0 t)).bind fun f=>
 (if f then some true else((BT p.d4.d5 (fun y0=>GW y0 t)).bind fun g=>
 some (g))).bind fun h=>
 if h then
 some 13
 else
 (Cb p.hV 0 12).bind fun i=>
 if (!i)then
 some 6
 else
 if ((decide (10<(p.gn.length:Int)))||(decide (10<(p.sx.length:Int))))then
 some 3
 else
 (Is p.hV false).bind fun j=>
 gp (kq (ρ:=Int) (fun(i0:Int)(s0:a5)=>
 (idx p.gn i0).bind fun a=>
 (Ew t p a).bind fun k=>
 (if(!k.2)then some true else((Cb a.kp.Var (-1) (Aj (p.hV-1))).bind fun l=>
 some (!l))).bind fun m=>
 (if m then some true else((Cb a.kp.Add (-1000000) 1000000).bind fun n=>
 some (!n))).bind fun o=>
 if o then
 some (.ret 6)
 else
 if (decide (0<=a.kp.Var))then
 (idx s0 a.kp.Var).bind fun q=>
 some (.next (BP s0 a.kp.Var true))
 else
 some (.next s0)) 0 (p.gn.length:Int) j) (fun s0=>
 (G5 p.hV p.sx).bind fun b=>
 if (!decide (b=0))then
 some b
 else
 (FO s0 false).bind fun e=>
 if e then
 some 9
 else
 some 0) (fun v0=>some v0)
def M2(n:Int)(a:AC):K1:=
 some (decide ((a.d3.length:Int)<=n))
def M3(a:Bo)(b:AC):K1:=
 some (decide ((b.d5.length:Int)<=a.og))
def H7[Ev](t:AC)(g:d4):K1:=
 (A5 g.d3 (fun y0=>M2 y0 t)).bind fun c=>
 (if(!c)then((BT g.d5 (fun y0=>M3 y0 t)).bind fun a=>
 some (!a))else some false).bind fun b=>
 some b
def Dn[Ev](a:List Cf)(f:Cf->K1):QQ:=
 gp (kq (ρ:=Int) (fun(i0:Int)(_:Unit)=>
 (idx a i0).bind fun b=>
 (f b).bind fun c=>
 if c then
 some (.ret i0)
 else
 some (.next ())) 0 (a.length:Int) ()) (fun _=>
 some (-1)) (fun v0=>some v0)
def CJ[Ev](a:List Cf)(f:Cf->K1):K1:=
 (Dn a f).bind fun b=>
 some (decide (0<=b))
def N2(y:Cf)(a:Cf):K1:=
 some ((decide (y.t5=a.t5))&&(decide (y.ns=a.ns)))
def JG[Ev](t:AC)(b:f0)(c:Int):QQ:=
 (idx b.fq.gn c).bind fun a=>
 if ((decide (a.t5<0))||(decide ((b.fq.d4.d3.length:Int)<=a.t5)))then
 some 6
 else
 (idx b.fq.d4.d3 a.t5).bind fun d=>
 (D2 t d).bind fun e=>
 if ((((((decide (a.ns<0))||(decide ((e.1.length:Int)<=a.ns)))||(decide (a.kp.Var<(-1))))||(decide (b.fq.hV<=a.kp.Var)))||(decide (a.kp.Add<(-1000000))))||(decide (1000000<a.kp.Add)))then
 some 6
 else
 (slc b.fq.gn 0 c).bind fun f=>
 (CJ f (fun y0=>N2 y0 a)).bind fun g=>
 if g then
 some 5
 else
 some 0
def H6[Ev](t:AC)(a:f0):QQ:=
 (Ci a.fq.d4).bind fun b=>
 if (!decide (b=0))then
 some b
 else
 (H7 t a.fq.d4).bind fun d=>
 if (!d)then
 some 13
 else
 if ((!decide (a.fq.hV=a.ne.hV))||(decide (0<(a.fq.sx.length:Int))))then
 some 1
 else
 if (decide (10<(a.fq.gn.length:Int)))then
 some 3
 else
 gp (kq (ρ:=Int) (fun(i1:Int)(_:Unit)=>
 (JG t a i1).bind fun c=>
 if (!decide (c=0))then
 some (.ret c)
 else
 some (.next ())) 0 (a.fq.gn.length:Int) ()) (fun _=>
 some 0) (fun v1=>some v1)
def Hh(l:Fp)(n:Int):QQ:=
 gp (kq (ρ:=Int) (fun(i0:Int)(_:Unit)=>
 (idx l i0).bind fun a=>
 if ((decide (a<0))||(decide (n<=a)))then
 some (.ret 6)
 else
 (if(decide (0<i0))then((idx l (Aj (i0-1))).bind fun b=>
 some (decide (a<=b)))else some false).bind fun c=>
 if c then
 some (.ret 12)
 else
 some (.next ())) 0 (l.length:Int) ()) (fun _=>
 some 0) (fun v0=>some v0)
def slices_BinarySearch_int(l:Fp)(x:Int):Option (Int×Bool):=if l.length<=Ah/\l.Pairwise (·<=·)then some ((l.countP (·<x):Nat),l.contains x)else none
def Kh(l:Fp)(n:Int):K1:=
 (slices_BinarySearch_int l n).bind fun a=>
 some a.2
def Lq(g:d4)(p:BH):QQ:=
 (Hh p.d3 (g.d3.length:Int)).bind fun a=>
 if (!decide (a=0))then
 some a
 else
 (Hh p.d5 (g.d5.length:Int)).bind fun b=>
 if (!decide (b=0))then
 some b
 else
 gp (kq (ρ:=Int) (fun(i0:Int)(_:Unit)=>
 (idx p.d5 i0).bind fun c=>
 (idx g.d5 c).bind fun d=>
 (Kh p.d3 d.o4).bind fun e=>
 (if(!e)then some true else((idx g.d5 c).bind fun f=>
 (Kh p.d3 f.To).bind fun h=>
 some (!h))).bind fun i=>
 if i then
 some (.ret 14)
 else
 some (.next ())) 0 (p.d5.length:Int) ()) (fun _=>
 some 0) (fun v0=>some v0)
def D9[Ev](g:d4)(p:BH):QQ:=
 (Ci g).bind fun b=>
 if (!decide (b=0))then
 some b
 else
 (Lq g p).bind fun a=>
 some a
def Dz[Ev](g:d4)(p:BH):Option (d4×d6×Int):=
 (D9 g p).bind fun b=>
 if (!decide (b=0))then
 some (d4.mk [] [],d6.mk [] [],b)
 else
 (tc (fun(i0:Int)(s0:d4)=>
 (idx p.d3 i0).bind fun c=>
 (idx g.d3 c).bind fun d=>
 (Ak s0.d3 [d]).bind fun e=>
 some (d4.mk e s0.d5)) 0 (p.d3.length:Int) (d4.mk [] [])).bind fun s0=>
 (tc (fun(i2:Int)(s2:d4)=>
 (idx p.d5 i2).bind fun f=>
 (idx g.d5 f).bind fun a=>
 (slices_BinarySearch_int p.d3 a.o4).bind fun h=>
 (slices_BinarySearch_int p.d3 a.To).bind fun i=>
 (Ak s2.d5 [Bo.mk a.og h.1 i.1]).bind fun j=>
 some (d4.mk s2.d3 j)) 0 (p.d5.length:Int) s0).bind fun s2=>
 (slices_Clone_int p.d3).bind fun k=>
 (slices_Clone_int p.d5).bind fun l=>
 some (s2,d6.mk k l,0)
def DD[Ev](a:d4)(b:d4)(m:d6):QQ:=
 (Ci a).bind fun g=>
 if (!decide (g=0))then
 some g
 else
 (Ci b).bind fun h=>
 if (!decide (h=0))then
 some h
 else
 if ((!decide ((m.d3.length:Int)=(a.d3.length:Int)))||(!decide ((m.d5.length:Int)=(a.d5.length:Int))))then
 some 20
 else
 gp (kq (ρ:=Int) (fun(i0:Int)(_:Unit)=>
 (idx m.d3 i0).bind fun c=>
 if ((decide (c<0))||(decide ((b.d3.length:Int)<=c)))then
 some (.ret 6)
 else
 (idx b.d3 c).bind fun l=>
 (idx a.d3 i0).bind fun n=>
 if (!decide (l=n))then
 some (.ret 13)
 else
 some (.next ())) 0 (m.d3.length:Int) ()) (fun _=>
 gp (kq (ρ:=Int) (fun(i2:Int)(_:Unit)=>
 (idx m.d5 i2).bind fun d=>
 if ((decide (d<0))||(decide ((b.d5.length:Int)<=d)))then
 some (.ret 6)
 else
 (idx a.d5 i2).bind fun e=>
 (idx b.d5 d).bind fun f=>
 if (!decide (e.og=f.og))then
 some (.ret 13)
 else
 (idx m.d3 e.o4).bind fun i=>
 (if(!decide (i=f.o4))then some true else((idx m.d3 e.To).bind fun j=>
 some (!decide (j=f.To)))).bind fun k=>
 if k then
 some (.ret 11)
 else
 some (.next ())) 0 (m.d5.length:Int) ()) (fun _=>
 some 0) (fun v2=>some v2)) (fun v0=>some v0)
def slices_Sort_int(l:Fp):Option Fp:=if l.length<=Ah then some (QZ l)else none
def slices_Compact_int(l:Fp):Option Fp:=if l.length<=Ah then some (Go.Lib.compact l)else none
def GK(l:Fp):QQ:=
 (slices_Clone_int l).bind fun a=>
 (slices_Sort_int a).bind fun b=>
 (slices_Compact_int b).bind fun c=>
 some (c.length:Int)
def Cv[Ev](a:d4)(b:d4)(m:d6):K1:=
 (DD a b m).bind fun c=>
 (if(decide (c=0))then((GK m.d3).bind fun d=>
 some (decide (d=(m.d3.length:Int))))else some false).bind fun e=>
 (if e then((GK m.d5).bind fun f=>
 some (decide (f=(m.d5.length:Int))))else some false).bind fun g=>
 some g
def JF[Ev](a:f0):QQ:=
 (Dz a.ne.d4 a.x5).bind fun b=>
 if (!decide (b.2.2=0))then
 some b.2.2
 else
 (DD b.1 a.fq.d4 a.tl).bind fun c=>
 if (!decide (c=0))then
 some c
 else
 (Cv b.1 a.fq.d4 a.tl).bind fun d=>
 if (!d)then
 some 11
 else
 some 0
def J0(l:Fp)(n:Int):Option Fp:=
 (tc (fun(i0:Int)(s0:Fp)=>
 (slices_Contains_int l i0).bind fun a=>
 if (!a)then
 (Ak s0 [i0]).bind fun b=>
 some b
 else
 some s0) 0 n []).bind fun s0=>
 some s0
def Kg(a:f0):Option (Fp×Fp):=
 (J0 a.tl.d3 (a.fq.d4.d3.length:Int)).bind fun b=>
 (J0 a.tl.d5 (a.fq.d4.d5.length:Int)).bind fun c=>
 some (b,c)
def Kz(c:Int)(d:AC)(e:d4):K1:=
 (idx e.d3 c).bind fun a=>
 (idx d.d3 a).bind fun b=>
 some b.Aap
def Fm[Ev](f:Int)(e:d4)(g:AC):K1:=
 (idx e.d5 f).bind fun a=>
 (idx e.d3 a.o4).bind fun b=>
 (idx e.d3 a.To).bind fun c=>
 (Gl g a.og b c).bind fun d=>
 some (!d)
def F9[Ev](t:AC)(g:d4)(b:Fp)(a:Fp):K1:=
 (A5 b (fun y0=>Kz y0 t g)).bind fun c=>
 (if(!c)then((A5 a (fun y0=>Fm y0 g t)).bind fun d=>
 some (!d))else some false).bind fun e=>
 some e
def Ex(c:d7):K1:=
 some ((decide ((Aj ((Aj ((Aj ((Aj ((Aj ((c.Map.d3.length:Int)+(c.Map.d5.length:Int)))+(c.ec.d4.d3.length:Int)))+(c.ec.d4.d5.length:Int)))+(c.ec.gn.length:Int)))+(c.ec.sx.length:Int)))=0))&&(decide (c.ec.hV=0)))
def Co[Ev](a:List d7)(f:d7->K1):QQ:=
 gp (kq (ρ:=Int) (fun(i0:Int)(_:Unit)=>
 (idx a i0).bind fun b=>
 (f b).bind fun c=>
 if c then
 some (.ret i0)
 else
 some (.next ())) 0 (a.length:Int) ()) (fun _=>
 some (-1)) (fun v0=>some v0)
def Bq[Ev](a:List d7)(f:d7->K1):K1:=
 (Co a f).bind fun b=>
 some (decide (0<=b))
mutual
def BR[Ev]:Nat->d7->K1
 |0,_=>none|n+1,c=>
  (if(decide (c.mo=1))then
  (if(decide ((c.hT.length:Int)=0))then((Ex c).bind fun d=>
  some (d))else some false).bind fun e=>
  some e
  else
  if (decide (c.mo=2))then
  (if(decide ((c.hT.length:Int)=1))then((Ex c).bind fun f=>
  some (f))else some false).bind fun g=>
  some g
  else
  if (decide (c.mo=3))then
  if (decide (c.mo=3))then
  (if(decide (1<=(c.hT.length:Int)))then((Ex c).bind fun a=>
  some (a))else some false).bind fun b=>
  some b
  else
  if (decide (c.mo=5))then
  some (decide ((c.hT.length:Int)=1))
  else
  some false
  else
  if (decide (c.mo=4))then
  (if(decide (1<=(c.hT.length:Int)))then((Ex c).bind fun a=>
  some (a))else some false).bind fun b=>
  some b
  else
  if (decide (c.mo=5))then
  some (decide ((c.hT.length:Int)=1))
  else
  some false).bind fun w1=>
  (if w1 then((Bq c.hT (Bb n)).bind fun h=>
  some (!h))else some false).bind fun i=>
  some i
def Bb[Ev]:Nat->d7->K1
 |0,_=>none|n+1,k=>
  (BR n k).bind fun a=>
  some (!a)
end
def FH[Ev](c:d7):K1:=KC fun n=>BR n c
def Qx[Ev](k:d7):K1:=KC fun n=>Bb n k
def CH[Ev]:Nat->d7->Option (Int×Int)
 |0,_=>none|n+1,c=>
  (tc (fun(i0:Int)(s0:Int×Int)=>
  (idx c.hT i0).bind fun b=>
  (CH n b).bind fun a=>
  some (Aj (s0.1+a.1),max s0.2 a.2)) 0 (c.hT.length:Int) (1,0)).bind fun s0=>
  (if(decide (c.mo=5))then
  some (Aj (s0.2+1))
  else
  some s0.2).bind fun w1=>
  some (s0.1,w1)
def GY[Ev](c:d7):Option (Int×Int):=KC fun n=>CH n c
def EN[Ev](c:d7):QQ:=
 (FH c).bind fun b=>
 if (!b)then
 some 1
 else
 (GY c).bind fun a=>
 if ((decide (12<a.1))||(decide (3<a.2)))then
 some 3
 else
 some 0
def HP(a:Cf)(b:Int):K1:=
 some (decide (a.kp.Var=b))
def DX[Ev](t:AC)(q:ec)(b:Int):QQ:=
 (Cq t q).bind fun a=>
 if (!decide (a=9))then
 some a
 else
 gp (Ep (ρ:=Int) (fun(s0:Int)=>
 if (decide (s0<q.hV))then
 (CJ q.gn (fun y0=>HP y0 s0)).bind fun c=>
 if (!c)then
 some (.ret a)
 else
 some (.next (Aj (s0+1)))
 else
 some (.brk s0)) b) (fun s0=>
 some 0) (fun v0=>some v0)
def B3[Ev]:Nat->AC->ec->d7->QQ
 |0,_,_,_=>none|n+1,t,p,c=>
  if (decide (c.mo=5))then
  if (decide (c.ec.hV<p.hV))then
  some 20
  else
  (DX t c.ec p.hV).bind fun d=>
  if (!decide (d=0))then
  some d
  else
  (DD p.d4 c.ec.d4 c.Map).bind fun e=>
  if (!decide (e=0))then
  some e
  else
  (Cv p.d4 c.ec.d4 c.Map).bind fun f=>
  if (!f)then
  some 1
  else
  gp (kq (ρ:=Int) (fun(i0:Int)(_:Unit)=>
  (idx c.hT i0).bind fun b=>
  (B3 n t c.ec b).bind fun a=>
  if (!decide (a=0))then
  some (.ret a)
  else
  some (.next ())) 0 (c.hT.length:Int) ()) (fun _=>
  some 0) (fun v0=>some v0)
  else
  gp (kq (ρ:=Int) (fun(i0:Int)(_:Unit)=>
  (idx c.hT i0).bind fun b=>
  (B3 n t p b).bind fun a=>
  if (!decide (a=0))then
  some (.ret a)
  else
  some (.next ())) 0 (c.hT.length:Int) ()) (fun _=>
  some 0) (fun v0=>some v0)
def JP[Ev](t:AC)(p:ec)(c:d7):QQ:=KC fun n=>B3 n t p c
def Cu[Ev](t:AC)(p:ec)(c:d7):QQ:=
 (Cq t p).bind fun a=>
 if (!decide (a=0))then
 some a
 else
 (EN c).bind fun b=>
 if (!decide (b=0))then
 some b
 else
 (JP t p c).bind fun d=>
 some d
def Gh[Ev](t:AC)(a:f0):QQ:=
 (DH t).bind fun b=>
 if (!decide (b.2=0))then
 some b.2
 else
 (DQ a.qo).bind fun g=>
 if (!g)then
 some 2
 else
 (Cq t a.ne).bind fun c=>
 if (!decide (c=0))then
 some c
 else
 (H6 t a).bind fun d=>
 if (!decide (d=0))then
 some d
 else
 (JF a).bind fun e=>
 if (!decide (e=0))then
 some e
 else
 (Kg a).bind fun f=>
 (F9 t a.fq.d4 f.1 f.2).bind fun h=>
 if (!h)then
 some 13
 else
 (Cu t a.ne a.d7).bind fun i=>
 some i
def Dt[Ev](t:AC)(a:List f0)(f:AH):QQ:=
 (DH t).bind fun b=>
 if (!decide (b.2=0))then
 some b.2
 else
 if (decide (10<(a.length:Int)))then
 some 3
 else
 gp (kq (ρ:=Int) (fun(i0:Int)(_:Unit)=>
 (idx a i0).bind fun d=>
 (Gh t d).bind fun c=>
 if (!decide (c=0))then
 some (.ret c)
 else
 some (.next ())) 0 (a.length:Int) ()) (fun _=>
 (Ei t f).bind fun e=>
 some e.2) (fun v0=>some v0)
def JY[Ev](t:AC)(e:f0)(d:AH):QQ:=
 (DH t).bind fun a=>
 if (!decide (a.2=0))then
 some a.2
 else
 (Gh t e).bind fun b=>
 if (!decide (b=0))then
 some b
 else
 (Ei t d).bind fun c=>
 some c.2
def slices_Equal_int(a:Fp)(b:Fp):K1:=
 if (!decide ((a.length:Int)=(b.length:Int)))then
 some false
 else
 gp (kq (ρ:=Bool) (fun(i0:Int)(_:Unit)=>
 (idx a i0).bind fun c=>
 (idx b i0).bind fun d=>
 if (!decide (c=d))then
 some (.ret false)
 else
 some (.next ())) 0 (a.length:Int) ()) (fun _=>
 some true) (fun v0=>some v0)
def KE(n:Int)(a:AC):K1:=
 some (decide ((a.d3.length:Int)<=n))
def KF(a:Bo)(b:AC):K1:=
 some (decide ((b.d5.length:Int)<=a.og))
def El[Ev](t:AC)(g:d4):K1:=
 (A5 g.d3 (fun y0=>KE y0 t)).bind fun c=>
 (if(!c)then((BT g.d5 (fun y0=>KF y0 t)).bind fun a=>
 some (!a))else some false).bind fun b=>
 some b
def Ed[Ev](t:AC)(p:d4)(g:d4):QQ:=
 (DH t).bind fun a=>
 if (!decide (a.2=0))then
 some a.2
 else
 gp (kq (ρ:=Int) (fun(i0:Int)(_:Unit)=>
 (idx [p,g] i0).bind fun c=>
 (Ci c).bind fun b=>
 if (!decide (b=0))then
 some (.ret b)
 else
 some (.next ())) 0 ([p,g].length:Int) ()) (fun _=>
 (El t p).bind fun d=>
 (if(!d)then some true else((El t g).bind fun e=>
 some (!e))).bind fun f=>
 if f then
 some 13
 else
 some 0) (fun v0=>some v0)
def Gv[Ev](t:AC)(a:Int):Option (Fp×Int):=
 (FB t [a]).bind fun b=>
 if (!decide (b=0))then
 some ([],b)
 else
 (tc (fun(i0:Int)(s0:Fp)=>
 (IW t i0 a).bind fun c=>
 if c then
 (Ak s0 [i0]).bind fun d=>
 some d
 else
 some s0) 0 (t.d3.length:Int) []).bind fun s0=>
 some (s0,0)
def FL[Ev](t:AC):Option (List a5):=
 (tc (fun(i0:Int)(s0:List a5)=>
 (Is (t.d3.length:Int) false).bind fun c=>
 (Gv t i0).bind fun a=>
 (tc (fun(i2:Int)(s2:a5)=>
 (idx a.1 i2).bind fun b=>
 (idx s2 b).bind fun e=>
 some (BP s2 b true)) 0 (a.1.length:Int) c).bind fun s2=>
 (Ak s0 [s2]).bind fun d=>
 some d) 0 (t.d3.length:Int) []).bind fun s0=>
 some s0
def FM[Ev](t:AC)(p:d4)(g:d4)(m:d6):QQ:=
 if ((!decide ((m.d3.length:Int)=(p.d3.length:Int)))||(!decide ((m.d5.length:Int)=(p.d5.length:Int))))then
 some 20
 else
 (FL t).bind fun i=>
 gp (kq (ρ:=Int) (fun(i0:Int)(_:Unit)=>
 (idx m.d3 i0).bind fun a=>
 if ((decide (a<0))||(decide ((g.d3.length:Int)<=a)))then
 some (.ret 6)
 else
 (idx p.d3 i0).bind fun j=>
 (idx i j).bind fun k=>
 (idx g.d3 a).bind fun l=>
 (idx k l).bind fun n=>
 if (!n)then
 some (.ret 13)
 else
 some (.next ())) 0 (m.d3.length:Int) ()) (fun _=>
 gp (kq (ρ:=Int) (fun(i2:Int)(_:Unit)=>
 (idx m.d5 i2).bind fun b=>
 if ((decide (b<0))||(decide ((g.d5.length:Int)<=b)))then
 some (.ret 6)
 else
 (idx p.d5 i2).bind fun c=>
 (idx g.d5 b).bind fun d=>
 if (!decide (c.og=d.og))then
 some (.ret 13)
 else
 (idx m.d3 c.o4).bind fun e=>
 (if(!decide (e=d.o4))then some true else((idx m.d3 c.To).bind fun f=>
 some (!decide (f=d.To)))).bind fun h=>
 if h then
 some (.ret 11)
 else
 some (.next ())) 0 (m.d5.length:Int) ()) (fun _=>
 some 0) (fun v2=>some v2)) (fun v0=>some v0)
def HI(l:Fp):K1:=if l.length<=4096 then some (AbL l)else none
def Ec[Ev](t:AC)(p:d4)(g:d4)(m:d6)(a:Bool):QQ:=
 (Ed t p g).bind fun b=>
 if (!decide (b=0))then
 some b
 else
 (FM t p g m).bind fun c=>
 if (!decide (c=0))then
 some c
 else
 (if a then((HI m.d3).bind fun d=>
 (if d then some true else((HI m.d5).bind fun e=>
 some (e))).bind fun f=>
 some (f))else some false).bind fun h=>
 if h then
 some 5
 else
 some 0
def EJ[Ev](t:AC)(p:ec)(c:AH):QQ:=
 (Cq t p).bind fun a=>
 if (!decide (a=0))then
 some a
 else
 (Ei t c).bind fun b=>
 some b.2
def EK(a:kp)(c:Fp):QQ:=
 if (decide (a.Var<0))then
 some a.Add
 else
 (idx c a.Var).bind fun b=>
 some (Aj (b+a.Add))
def Hz(a b c:Int):Option (Int×Int):=if(0<=a/\a<18446744073709551616)/\(0<=b/\b<18446744073709551616)/\0<=c/\c<=1 then some ((a+b+c) % 18446744073709551616,(a+b+c) / 18446744073709551616)else none
def GI(a:Int)(b:Int):Option (Int×Int):=
 (Hz (IntKind.u64.wrap a) (IntKind.u64.wrap b) 0).bind fun c=>
 (LC .i64 .shr a 63).bind fun d=>
 (LC .i64 .shr b 63).bind fun e=>
 some (Aj ((Aj (d+e))+(Aj c.2)),c.1)
def Ey(t:kp)(d:Fp):Option (Int×Int×Bool):=
 if (decide (t.Var=(-1)))then
 (GI 0 t.Add).bind fun a=>
 some (a.1,a.2,true)
 else
 if ((decide (t.Var<0))||(decide ((d.length:Int)<=t.Var)))then
 some (0,0,false)
 else
 (idx d t.Var).bind fun c=>
 (GI c t.Add).bind fun b=>
 some (b.1,b.2,true)
def MN(a:Fp):QQ:=
 gp (kq (ρ:=Int) (fun(i0:Int)(_:Unit)=>
 (idx a i0).bind fun b=>
 if (!decide (b=0))then
 some (.ret b)
 else
 some (.next ())) 0 (a.length:Int) ()) (fun _=>
 some 0) (fun v0=>some v0)
def Jf(a:Int):K1:=
 some (!decide (a=a))
def Hr(a:Int)(y:Int):QQ:=
 (Jf a).bind fun c=>
 (Jf y).bind fun b=>
 if c then
 if b then
 some 0
 else
 some (-1)
 else
 if b then
 some 1
 else
 if (decide (a<y))then
 some (-1)
 else
 if (decide (y<a))then
 some 1
 else
 some 0
def JO(a:Int):K1:=
 some (!decide (a=a))
def Hs(a:Int)(y:Int):QQ:=
 (JO a).bind fun c=>
 (JO y).bind fun b=>
 if c then
 if b then
 some 0
 else
 some (-1)
 else
 if b then
 some 1
 else
 if (decide (a<y))then
 some (-1)
 else
 if (decide (y<a))then
 some 1
 else
 some 0
def Fe(a:Test)(g:Fp):K1:=
 (Ey a.ne g).bind fun b=>
 (Ey a.fq g).bind fun c=>
 if ((!b.2.2)||(!c.2.2))then
 some false
 else
 (Hr b.1 c.1).bind fun e=>
 (Hs b.2.1 c.2.1).bind fun f=>
 (MN [e,f]).bind fun d=>
 some (((decide (a.mo=1))&&(decide (d<=0)))||((decide (a.mo=2))&&(decide (d=0))))
def Hq(p:ec)(l:AH)(m:d6):Option (Fp×Int):=
 (Is p.hV 0).bind fun d=>
 (Is p.hV false).bind fun e=>
 gp (kq (ρ:=(Fp×Int)) (fun(i0:Int)(s0:Fp×a5)=>
 (idx p.gn i0).bind fun a=>
 (idx m.d3 a.t5).bind fun f=>
 (idx l.fd f).bind fun g=>
 (idx g a.ns).bind fun b=>
 (if(decide (0<=a.kp.Var))then((idx s0.2 a.kp.Var).bind fun h=>
 some (!h))else some false).bind fun i=>
 if i then
 (idx s0.1 a.kp.Var).bind fun n=>
 (idx s0.2 a.kp.Var).bind fun o=>
 (EK a.kp (BP s0.1 a.kp.Var (Aj (b-a.kp.Add)))).bind fun c=>
 if (!decide (c=b))then
 some (.ret ([],11))
 else
 some (.next (BP s0.1 a.kp.Var (Aj (b-a.kp.Add)),BP s0.2 a.kp.Var true))
 else
 (EK a.kp s0.1).bind fun c=>
 if (!decide (c=b))then
 some (.ret ([],11))
 else
 some (.next (s0.1,s0.2))) 0 (p.gn.length:Int) (d,e)) (fun s0=>
 gp (kq (ρ:=(Fp×Int)) (fun(i2:Int)(_:Unit)=>
 (idx p.sx i2).bind fun j=>
 (Fe j s0.1).bind fun k=>
 if (!k)then
 some (.ret ([],16))
 else
 some (.next ())) 0 (p.sx.length:Int) ()) (fun _=>
 some (s0.1,0)) (fun v2=>some v2)) (fun v0=>some v0)
def De[Ev](t:AC)(p:ec)(a:AH)(m:d6):Option (Fp×Int):=
 (EJ t p a).bind fun b=>
 if (!decide (b=0))then
 some ([],b)
 else
 (Ec t p.d4 a.d4 m false).bind fun c=>
 if (!decide (c=0))then
 some ([],c)
 else
 (Hq p a m).bind fun d=>
 some (d.1,d.2)
def HK[Ev](t:AC)(b:f0)(c:AH)(m:AO):QQ:=
 (Ec t b.ne.d4 c.d4 m.d6 b.sr).bind fun d=>
 if (!decide (d=0))then
 some 1
 else
 (De t b.ne c m.d6).bind fun a=>
 if (!decide (a.2=0))then
 some a.2
 else
 (slices_Equal_int a.1 m.hV).bind fun e=>
 if (!e)then
 some 11
 else
 some 0
def EP[Ev](t:AC)(p:d4)(g:d4)(m:d6):Option (d4×Int):=
 (Ed t p g).bind fun a=>
 if (!decide (a=0))then
 some (d4.mk [] [],a)
 else
 (FM t p g m).bind fun b=>
 if (!decide (b=0))then
 some (d4.mk [] [],b)
 else
 (Ck p.d5).bind fun c=>
 (tc (fun(i0:Int)(s0:d4)=>
 (idx m.d3 i0).bind fun d=>
 (idx g.d3 d).bind fun e=>
 (Ak s0.d3 [e]).bind fun f=>
 some (d4.mk f s0.d5)) 0 (m.d3.length:Int) (d4.mk [] c)).bind fun s0=>
 some (s0,0)
def CU[Ev](a:Bj):QQ:=
 (DD a.l a.g a.m).bind fun b=>
 if (!decide (b=0))then
 some b
 else
 (D9 a.l a.jj).bind fun c=>
 some c
def FZ(a:Fp)(b:Fp):Option (List GP):=
 (tc (fun(i0:Int)(s0:List GP)=>
 (tc (fun(i2:Int)(s2:List GP)=>
 (idx a i0).bind fun c=>
 (idx a i2).bind fun d=>
 (if(decide (c=d))then((slices_Contains_int b i0).bind fun e=>
 (if(!e)then some true else((slices_Contains_int b i2).bind fun f=>
 some (!f))).bind fun g=>
 some (g))else some false).bind fun h=>
 if h then
 (Ak s2 [GP.mk i0 i2]).bind fun i=>
 some i
 else
 some s2) (Aj (i0+1)) (a.length:Int) s0).bind fun s2=>
 some s2) 0 (a.length:Int) []).bind fun s0=>
 some s0
def Dc(a:Bj):Option (List GP×List GP):=
 (FZ a.m.d3 a.jj.d3).bind fun b=>
 (FZ a.m.d5 a.jj.d5).bind fun c=>
 some (b,c)
def DJ(a:Bj):Option Fp:=
 (tc (fun(i0:Int)(s0:Fp)=>
 (idx a.m.d3 i0).bind fun b=>
 (slices_Contains_int a.jj.d3 i0).bind fun c=>
 if (!c)then
 (Ak s0 [b]).bind fun d=>
 some d
 else
 some s0) 0 (a.m.d3.length:Int) []).bind fun s0=>
 some s0
def DB(a:Bj):Option Fp:=
 (DJ a).bind fun j=>
 (tc (fun(i0:Int)(s0:Fp)=>
 (idx a.g.d5 i0).bind fun b=>
 (slices_Contains_int a.m.d5 i0).bind fun c=>
 (if(!c)then((slices_Contains_int j b.o4).bind fun d=>
 (if d then some true else((slices_Contains_int j b.To).bind fun e=>
 some (e))).bind fun f=>
 some (f))else some false).bind fun h=>
 if h then
 (Ak s0 [i0]).bind fun i=>
 some i
 else
 some s0) 0 (a.g.d5.length:Int) []).bind fun s0=>
 some s0
def GH(n:Int)(a:Fp)(c:Fp):Option Fp:=
 (Is n false).bind fun d=>
 (tc (fun(i0:Int)(s0:a5)=>
 (idx a i0).bind fun b=>
 (slices_Contains_int c i0).bind fun e=>
 if (!e)then
 (idx s0 b).bind fun h=>
 some (BP s0 b true)
 else
 some s0) 0 (a.length:Int) d).bind fun s0=>
 (tc (fun(i2:Int)(s2:Fp)=>
 (idx s0 i2).bind fun f=>
 if (!f)then
 (Ak s2 [i2]).bind fun g=>
 some g
 else
 some s2) 0 (s0.length:Int) []).bind fun s2=>
 some s2
def FQ[Ev](l:d4)(g:d4)(a:BH)(m:d6):Option (BH×Int):=
 (CU (Bj.mk l g a m)).bind fun b=>
 if (!decide (b=0))then
 some (BH.mk [] [],b)
 else
 (Dc (Bj.mk l g a m)).bind fun c=>
 if (decide (0<(Aj ((c.1.length:Int)+(c.2.length:Int)))))then
 some (BH.mk [] [],15)
 else
 (DB (Bj.mk l g a m)).bind fun d=>
 if (decide (0<(d.length:Int)))then
 some (BH.mk [] [],14)
 else
 (GH (g.d3.length:Int) m.d3 a.d3).bind fun e=>
 (GH (g.d5.length:Int) m.d5 a.d5).bind fun f=>
 some (BH.mk e f,0)
def EM[Ev](t:AC)(p:ec)(c:d7)(d:AH)(m:AO)(a:Bool):QQ:=
 (Cu t p c).bind fun e=>
 if (!decide (e=0))then
 some e
 else
 (Ei t d).bind fun f=>
 if (!decide (f.2=0))then
 some f.2
 else
 (Ec t p.d4 d.d4 m.d6 a).bind fun g=>
 if (!decide (g=0))then
 some g
 else
 (De t p d m.d6).bind fun b=>
 if (!decide (b.2=0))then
 some b.2
 else
 (slices_Equal_int b.1 m.hV).bind fun h=>
 if (!h)then
 some 11
 else
 some 0
def EH(l:Fp)(n:Int):Option Fp:=if l.length=1/\0<=n/\n<=4096 then some (List.replicate n.toNat (l.headD 0))else none
def Fa(n:Int)(e:Fp)(a:Fp):Option Fp:=
 (EH [(-1)] n).bind fun c=>
 (tc (fun(i0:Int)(s0:Fp)=>
 (idx e i0).bind fun b=>
 (idx a i0).bind fun d=>
 (idx s0 b).bind fun f=>
 some (BP s0 b d)) 0 (e.length:Int) c).bind fun s0=>
 some s0
def Lp(k:Int)(a:Int):K1:=
 some ((decide (k<(-1)))||(decide (a<=k)))
def Fx[Ev](l:Fp)(n:Int):QQ:=
 (A5 l (fun y0=>Lp y0 n)).bind fun a=>
 if a then
 some 6
 else
 some 0
def HH(l:Fp)(a:Int):QQ:=
 (aB l).bind fun c=>
 (idx l a).bind fun b=>
 some b
def Dj(f:AL)(c:Int)(k:Int):K1:=
 (idx f.p.d5 c).bind fun a=>
 (HH f.gt.d5 c).bind fun b=>
 if ((decide (0<=b))&&(!decide (b=k)))then
 some false
 else
 (idx f.g.d5 k).bind fun d=>
 (idx f.ei a.o4).bind fun e=>
 (idx f.ei a.To).bind fun h=>
 some (decide (d=(Bo.mk a.og e h)))
def B9(f:AL):K1:=
 gp (kq (ρ:=Bool) (fun(i0:Int)(_:Unit)=>
 (idx f.p.d5 i0).bind fun a=>
 if (!decide ((max a.o4 a.To)=(Aj ((f.ei.length:Int)-1))))then
 some (.next ())
 else
 gp (kq (ρ:=Bool) (fun(i2:Int)(s2:Bool)=>
 (Dj f i0 i2).bind fun b=>
 if b then
 some (.brk true)
 else
 some (.next s2)) 0 (f.g.d5.length:Int) false) (fun s2=>
 if (!s2)then
 some (.ret false)
 else
 some (.next ())) (fun v2=>some (.ret v2))) 0 (f.p.d5.length:Int) ()) (fun _=>
 some true) (fun v0=>some v0)
def Az[Ev]:Nat->AL->Option AL
 |0,_=>none|n+1,f=>
  (if(decide ((f.out.length:Int)=f.up))then
  some f
  else
  if (decide ((f.ei.length:Int)<(f.p.d3.length:Int)))then
  (tc (fun(i1:Int)(s1:AL)=>
  (idx f.g.d3 i1).bind fun u=>
  (HH s1.gt.d3 (f.ei.length:Int)).bind fun e=>
  (if((decide (0<=e))&&(!decide (e=i1)))then some true else((idx s1.p.d3 (f.ei.length:Int)).bind fun v=>
  (idx s1.is v).bind fun w=>
  (idx w u).bind fun x=>
  some (!x))).bind fun h=>
  (if h then some true else((if s1.ej then((slices_Contains_int s1.ei i1).bind fun i=>
  some (i))else some false).bind fun j=>
  some (j))).bind fun k=>
  if k then
  some s1
  else
  (Ak s1.ei [i1]).bind fun c=>
  (B9 (AL.mk s1.p s1.g s1.is s1.gt s1.ej s1.up c s1.ek s1.out)).bind fun l=>
  if l then
  (Az n (AL.mk s1.p s1.g s1.is s1.gt s1.ej s1.up c s1.ek s1.out)).bind fun a=>
  (slc a.ei 0 (f.ei.length:Int)).bind fun d=>
  some (AL.mk a.p a.g a.is a.gt a.ej a.up d a.ek a.out)
  else
  (slc c 0 (f.ei.length:Int)).bind fun d=>
  some (AL.mk s1.p s1.g s1.is s1.gt s1.ej s1.up d s1.ek s1.out)) 0 (f.g.d3.length:Int) f).bind fun s1=>
  some s1
  else
  if (decide ((f.ek.length:Int)<(f.p.d5.length:Int)))then
  (tc (fun(i3:Int)(s3:AL)=>
  (Dj s3 (f.ek.length:Int) i3).bind fun m=>
  (if(!m)then some true else((if s3.ej then((slices_Contains_int s3.ek i3).bind fun o=>
  some (o))else some false).bind fun q=>
  some (q))).bind fun r=>
  if r then
  some s3
  else
  (Ak s3.ek [i3]).bind fun s=>
  (Az n (AL.mk s3.p s3.g s3.is s3.gt s3.ej s3.up s3.ei s s3.out)).bind fun b=>
  (slc b.ek 0 (f.ek.length:Int)).bind fun t=>
  some (AL.mk b.p b.g b.is b.gt b.ej b.up b.ei t b.out)) 0 (f.g.d5.length:Int) f).bind fun s3=>
  some s3
  else
  (slices_Clone_int f.ei).bind fun y=>
  (slices_Clone_int f.ek).bind fun z=>
  (Ak f.out [d6.mk y z]).bind fun A=>
  some (AL.mk f.p f.g f.is f.gt f.ej f.up f.ei f.ek A)).bind fun w1=>
  some w1
def Et[Ev](f:AL):Option AL:=KC fun n=>Az n f
def GA[Ev](t:AC)(p:d4)(g:d4)(b:d6)(a:Bool)(c:Int):Option (List d6):=
 (FL t).bind fun d=>
 (Et (AL.mk p g d b a c [] [] [])).bind fun e=>
 some e.out
def JV[Ev](t:AC)(p:d4)(g:d4)(b:d6)(a:Bool):Option (List d6×Int):=
 (GA t p g b a 5001).bind fun c=>
 if (decide (5000<(c.length:Int)))then
 some ([],3)
 else
 some (c,0)
def FW[Ev](t:AC)(p:d4)(g:d4)(a:d6)(b:Bool):Option (List d6×Int):=
 (Ed t p g).bind fun c=>
 if (!decide (c=0))then
 some ([],c)
 else
 if ((!decide ((a.d3.length:Int)=(p.d3.length:Int)))||(!decide ((a.d5.length:Int)=(p.d5.length:Int))))then
 some ([],20)
 else
 (Fx a.d3 (g.d3.length:Int)).bind fun d=>
 if (!decide (d=0))then
 some ([],d)
 else
 (Fx a.d5 (g.d5.length:Int)).bind fun e=>
 if (!decide (e=0))then
 some ([],e)
 else
 (JV t p g a b).bind fun f=>
 some (f.1,f.2)
def Eu(a:kp)(d:Fp):Option (Int×Int):=
 (Cb a.Var (-1) (Aj ((d.length:Int)-1))).bind fun b=>
 if (!b)then
 some (0,6)
 else
 (EK a d).bind fun c=>
 some (c,0)
def Do(p:As)(q:ec)(m:d6)(b:Fp):Option (Fp×Bool):=
 (slices_Clone_int b).bind fun g=>
 (VS g (Aj (q.hV-(b.length:Int))) 0).bind fun i=>
 (Is q.hV false).bind fun j=>
 (tc (fun(i0:Int)(s0:a5)=>
 (idx s0 i0).bind fun r=>
 some (BP s0 i0 true)) 0 (b.length:Int) j).bind fun s0=>
 gp (kq (ρ:=(Fp×Bool)) (fun(i2:Int)(s2:Fp×a5)=>
 (idx q.gn i2).bind fun a=>
 (idx m.d3 a.t5).bind fun k=>
 (idx p.h.fd k).bind fun l=>
 (idx l a.ns).bind fun d=>
 (if(decide (0<=a.kp.Var))then((idx s2.2 a.kp.Var).bind fun n=>
 some (!n))else some false).bind fun o=>
 if o then
 (idx s2.1 a.kp.Var).bind fun s=>
 (idx s2.2 a.kp.Var).bind fun t=>
 (Eu a.kp (BP s2.1 a.kp.Var (Aj (d-a.kp.Add)))).bind fun c=>
 if ((!decide (c.2=0))||(!decide (c.1=d)))then
 some (.ret ([],false))
 else
 some (.next (BP s2.1 a.kp.Var (Aj (d-a.kp.Add)),BP s2.2 a.kp.Var true))
 else
 (Eu a.kp s2.1).bind fun c=>
 if ((!decide (c.2=0))||(!decide (c.1=d)))then
 some (.ret ([],false))
 else
 some (.next (s2.1,s2.2))) 0 (q.gn.length:Int) (i,s0)) (fun s2=>
 gp (kq (ρ:=(Fp×Bool)) (fun(i4:Int)(_:Unit)=>
 (idx q.sx i4).bind fun e=>
 (Fe e s2.1).bind fun f=>
 if (!f)then
 some (.ret ([],false))
 else
 some (.next ())) 0 (q.sx.length:Int) ()) (fun _=>
 some (s2.1,true)) (fun v4=>some v4)) (fun v2=>some v2)
def Bw[Ev](b:As)(c:d7)(m:AO):Option (List AO×Int):=
 (Fa (c.ec.d4.d3.length:Int) c.Map.d3 m.d6.d3).bind fun f=>
 (Fa (c.ec.d4.d5.length:Int) c.Map.d5 m.d6.d5).bind fun g=>
 (FW b.t c.ec.d4 b.h.d4 (d6.mk f g) b.ej).bind fun a=>
 if (!decide (a.2=0))then
 some ([],a.2)
 else
 (tc (fun(i0:Int)(s0:List AO)=>
 (idx a.1 i0).bind fun d=>
 (Do b c.ec d m.hV).bind fun e=>
 if e.2 then
 (Ak s0 [AO.mk d e.1]).bind fun i=>
 some i
 else
 some s0) 0 (a.1.length:Int) []).bind fun s0=>
 some (s0,0)
mutual
def Ao[Ev]:Nat->As->d7->AO->Option (A6×Int)
 |0,_,_,_=>none|n+1,b,c,m=>
  if (decide (c.mo=2))then
  (idx c.hT 0).bind fun g=>
  (Ao n b g m).bind fun e=>
  if (decide (e.2=0))then
  some (DG,10)
  else
  if (decide (e.2=10))then
  some (DG,0)
  else
  some (DG,e.2)
  else
  if (decide (c.mo=3))then
  gp (kq (ρ:=(A6×Int)) (fun(i2:Int)(s2:A6×A6)=>
  (idx c.hT i2).bind fun h=>
  (Ao n b h m).bind fun f=>
  if (!decide (f.2=0))then
  some (.ret (DG,f.2))
  else
  (Ak s2.2.hT [f.1]).bind fun i=>
  some (.next (s2.1,A6.mk s2.2.AaB s2.2.o3 i))) 0 (c.hT.length:Int) (DG,DG)) (fun s2=>
  some (s2.2,0)) (fun v2=>some v2)
  else
  if (decide (c.mo=4))then
  gp (kq (ρ:=(A6×Int)) (fun(i4:Int)(s4:A6)=>
  (idx c.hT i4).bind fun j=>
  (Ao n b j m).bind fun a=>
  if (decide (a.2=0))then
  some (.ret (A6.mk i4 (AO.mk (d6.mk [] []) []) [a.1],0))
  else
  if (!decide (a.2=10))then
  some (.ret (DG,a.2))
  else
  some (.next s4)) 0 (c.hT.length:Int) DG) (fun s4=>
  some (DG,10)) (fun v4=>some v4)
  else
  if (decide (c.mo=5))then
  (BO n b c m).bind fun d=>
  some (d.1,d.2)
  else
  some (DG,0)
def BO[Ev]:Nat->As->d7->AO->Option (A6×Int)
 |0,_,_,_=>none|n+1,e,c,m=>
  (Bw e c m).bind fun a=>
  if (!decide (a.2=0))then
  some (DG,a.2)
  else
  gp (kq (ρ:=(A6×Int)) (fun(i0:Int)(s0:A6)=>
  (idx a.1 i0).bind fun d=>
  (idx c.hT 0).bind fun f=>
  (Ao n e f d).bind fun b=>
  if (decide (b.2=0))then
  some (.ret (A6.mk 0 d [b.1],0))
  else
  if (!decide (b.2=10))then
  some (.ret (DG,b.2))
  else
  some (.next s0)) 0 (a.1.length:Int) DG) (fun s0=>
  some (DG,10)) (fun v0=>some v0)
end
def Dd[Ev](a:As)(c:d7)(m:AO):Option (A6×Int):=KC fun n=>Ao n a c m
def OV[Ev](a:As)(c:d7)(m:AO):Option (A6×Int):=KC fun n=>BO n a c m
def DW[Ev](t:AC)(p:ec)(c:d7)(e:AH)(m:AO)(a:Bool):Option (A6×Int):=
 (EM t p c e m a).bind fun b=>
 if (!decide (b=0))then
 some (DG,b)
 else
 (Dd (As.mk t e a) c m).bind fun d=>
 some (d.1,d.2)
def C6[Ev](t:AC)(p:ec)(c:d7)(d:AH)(m:AO)(a:Bool):Option (Bool×Int):=
 (DW t p c d m a).bind fun b=>
 if (decide (b.2=10))then
 some (false,0)
 else
 some (decide (b.2=0),b.2)
def I5(m:AO):Option AO:=
 (slices_Clone_int m.d6.d3).bind fun c=>
 (slices_Clone_int m.d6.d5).bind fun a=>
 (slices_Clone_int m.hV).bind fun b=>
 some (AO.mk (d6.mk c a) b)
def Jl(a:AH):Option AH:=
 (slices_Clone_int a.d4.d3).bind fun f=>
 (Ck a.d4.d5).bind fun b=>
 (tc (fun(i0:Int)(s0:AH)=>
 (idx a.fd i0).bind fun c=>
 (Ak [] c).bind fun d=>
 (Ak s0.fd [d]).bind fun e=>
 some (AH.mk s0.d4 e)) 0 (a.fd.length:Int) (AH.mk (d4.mk f b) [])).bind fun s0=>
 some s0
def K0(n:Int)(l:Fp):Option Fp:=
 (Is n 0).bind fun a=>
 (tc (fun(i0:Int)(s0:Fp)=>
 (slices_BinarySearch_int l i0).bind fun b=>
 if (!b.2)then
 (idx s0 i0).bind fun c=>
 some (BP s0 i0 (-1))
 else
 (idx s0 i0).bind fun c=>
 some (BP s0 i0 b.1)) 0 (a.length:Int) a).bind fun s0=>
 some s0
def GB(d:Int)(f:Fp)(b:Fp)(a:Fp)(c:Fp)(n:Int):Option Fp:=
 (EH [(-1)] d).bind fun g=>
 (tc (fun(i0:Int)(s0:Fp)=>
 (idx b i0).bind fun e=>
 (idx f i0).bind fun h=>
 (idx a h).bind fun i=>
 (idx c i).bind fun j=>
 (idx s0 e).bind fun l=>
 some (BP s0 e j)) 0 (b.length:Int) g).bind fun s0=>
 (tc (fun(i2:Int)(s2:Int×Fp)=>
 (idx s2.2 i2).bind fun k=>
 if (decide (k<0))then
 (idx s2.2 i2).bind fun m=>
 some (Aj (s2.1+1),BP s2.2 i2 s2.1)
 else
 some (s2.1,s2.2)) 0 (s0.length:Int) (n,s0)).bind fun s2=>
 some s2.2
def H9[Ev](t:AC)(b:Int):Option Fp:=
 (D2 t b).bind fun a=>
 (tc (fun(i0:Int)(s0:Fp)=>
 (idx a.1 i0).bind fun c=>
 (Ak s0 [c.Low]).bind fun d=>
 some d) 0 (a.1.length:Int) []).bind fun s0=>
 some s0
def Gk[Ev](t:AC)(a:Ax)(d:BH):Option Ax:=
 (tc (fun(i0:Int)(s0:Ax)=>
 (idx d.d3 i0).bind fun f=>
 (idx a.Aar.d4.d3 f).bind fun r=>
 (Ak s0.wi.d4.d3 [r]).bind fun s=>
 (idx a.Aar.fd f).bind fun u=>
 (Ak [] u).bind fun v=>
 (Ak s0.wi.fd [v]).bind fun w=>
 some (Ax.mk s0.f0 s0.o3 s0.Aar (AH.mk (d4.mk s s0.wi.d4.d5) w) s0.Aam s0.Aal)) 0 (d.d3.length:Int) a).bind fun s0=>
 (tc (fun(i2:Int)(s2:Ax)=>
 (idx d.d5 i2).bind fun x=>
 (idx a.Aar.d4.d5 x).bind fun e=>
 (idx s2.Aam.d3 e.o4).bind fun g=>
 (idx s2.Aam.d3 e.To).bind fun h=>
 (Ak s2.wi.d4.d5 [Bo.mk e.og g h]).bind fun i=>
 some (Ax.mk s2.f0 s2.o3 s2.Aar (AH.mk (d4.mk s2.wi.d4.d3 i) s2.wi.fd) s2.Aam s2.Aal)) 0 (d.d5.length:Int) s0).bind fun s2=>
 (tc (fun(i4:Int)(s4:Ax)=>
 (idx a.f0.fq.d4.d3 i4).bind fun c=>
 (idx s4.Aal.d3 i4).bind fun j=>
 if (decide (j=(s4.wi.d4.d3.length:Int)))then
 (Ak s4.wi.d4.d3 [c]).bind fun k=>
 (H9 t c).bind fun l=>
 (Ak s4.wi.fd [l]).bind fun m=>
 some (Ax.mk s4.f0 s4.o3 s4.Aar (AH.mk (d4.mk k s4.wi.d4.d5) m) s4.Aam s4.Aal)
 else
 some s4) 0 (a.f0.fq.d4.d3.length:Int) s2).bind fun s4=>
 (tc (fun(i6:Int)(s6:Ax)=>
 (idx a.f0.fq.d4.d5 i6).bind fun b=>
 (idx s6.Aal.d5 i6).bind fun n=>
 if (decide (n=(s6.wi.d4.d5.length:Int)))then
 (idx s6.Aal.d3 b.o4).bind fun o=>
 (idx s6.Aal.d3 b.To).bind fun p=>
 (Ak s6.wi.d4.d5 [Bo.mk b.og o p]).bind fun q=>
 some (Ax.mk s6.f0 s6.o3 s6.Aar (AH.mk (d4.mk s6.wi.d4.d3 q) s6.wi.fd) s6.Aam s6.Aal)
 else
 some s6) 0 (a.f0.fq.d4.d5.length:Int) s4).bind fun s6=>
 some s6
def cd(s:Ax):TV:=.agg ((DT s).map (·.t))
def Hg(s:Ax):Option (BM×Int):=
 gp (kq (ρ:=(BM×Int)) (fun(i0:Int)(s0:BM)=>
 (idx s.f0.fq.gn i0).bind fun a=>
 (Eu a.kp s.o3.hV).bind fun b=>
 if (!decide (b.2=0))then
 some (.ret ([],b.2))
 else
 (idx s.Aal.d3 a.t5).bind fun c=>
 if ((s0.look (c,a.ns)).isSome&&(!decide ((s0.look (c,a.ns)).getD 0=b.1)))then
 some (.ret ([],11))
 else
 some (.next (s0.set (c,a.ns) b.1))) 0 (s.f0.fq.gn.length:Int) []) (fun s0=>some (s0,0)) (fun v0=>some v0)
def M6(s:Ax)(V:List Fp):Ax:=Ax.mk s.f0 s.o3 s.Aar (AH.mk s.wi.d4 V) s.Aam s.Aal
def MW[Ev](t:AC)(s:Ax)(V:List Fp)(p:(Int×Int)×Int):Option (Bv (List Fp) Unit):=
 (idx s.wi.d4.d3 p.1.1).bind fun c=>
 (D2 t c).bind fun a=>
 (idx a.1 p.1.2).bind fun d=>
 (if(decide (p.2<d.Low))then some true else((idx a.1 p.1.2).bind fun e=>
 some (decide (e.AaD<p.2)))).bind fun f=>
 if f then
 some (.ret ())
 else
 (idx V p.1.1).bind fun b=>
 (idx b p.1.2).bind fun g=>
 some (.next (BP V p.1.1 (BP b p.1.2 p.2)))
def MY[Ev](t:AC)(s:Ax)(p:(Int×Int)×Int):K1:=
 (MW t s s.wi.fd p).bind fun c=>match c with|.next _=>some true|.ret _=>some false|.brk _=>none
def JH[Ev](t:AC)(s:Ax):Option (Int×Ax):=
 (Hg s).bind fun a=>
 if (!decide (a.2=0))then
 some (a.2,s)
 else
 if decide (List.Pairwise (fun x y:(Int×Int)×Int=>x.1≠y.1) a.1)then
 (AaS (MY t s) a.1).bind fun c=>
 if c then
 some (0,M6 s (a.1.foldl Cd s.wi.fd))
 else
 some (6,s)
 else
 none
def JX[Ev](t:AC)(a:f0)(d:AH)(m:AO):Option (Ax×Int):=
 (HK t a d m).bind fun g=>
 if (!decide (g=0))then
 some (IF,g)
 else
 (EP t a.ne.d4 d.d4 m.d6).bind fun e=>
 if (!decide (e.2=0))then
 some (IF,e.2)
 else
 (FQ e.1 d.d4 a.x5 m.d6).bind fun c=>
 if (!decide (c.2=0))then
 some (IF,c.2)
 else
 (C6 t a.ne a.d7 d m a.sr).bind fun f=>
 if (!decide (f.2=0))then
 some (IF,f.2)
 else
 if (!f.1)then
 some (IF,16)
 else
 (I5 m).bind fun n=>
 (Jl d).bind fun o=>
 (K0 (d.d4.d3.length:Int) c.1.d3).bind fun h=>
 (K0 (d.d4.d5.length:Int) c.1.d5).bind fun i=>
 (GB (a.fq.d4.d3.length:Int) a.x5.d3 a.tl.d3 m.d6.d3 h (c.1.d3.length:Int)).bind fun j=>
 (GB (a.fq.d4.d5.length:Int) a.x5.d5 a.tl.d5 m.d6.d5 i (c.1.d5.length:Int)).bind fun k=>
 (Gk t (Ax.mk a n o (AH.mk (d4.mk [] []) []) (d6.mk h i) (d6.mk j k)) c.1).bind fun l=>
 (JH t l).bind fun b=>
 if (!decide (b.1=0))then
 some (IF,b.1)
 else
 if ((decide (40<(b.2.wi.d4.d3.length:Int)))||(decide (80<(b.2.wi.d4.d5.length:Int))))then
 some (IF,3)
 else
 some (b.2,0)
def H8[Ev](t:AC)(d:f0)(c:AH)(m:AO):Option (Ax×Int):=
 (JY t d c).bind fun a=>
 if (!decide (a=0))then
 some (IF,a)
 else
 (JX t d c m).bind fun b=>
 some (b.1,b.2)
def DL[Ev](t:AC)(a:List f0)(d:AH)(m:tg):Option (Ax×Int):=
 if ((decide (m.f0<0))||(decide ((a.length:Int)<=m.f0)))then
 some (IF,6)
 else
 (idx a m.f0).bind fun c=>
 (H8 t c d m.o3).bind fun b=>
 some (b.1,b.2)
def C9[Ev](t:AC)(a:List f0)(d:AR):Option (List Ax×Int×Int):=
 (Dt t a d.kg).bind fun c=>
 if (!decide (c=0))then
 some ([],0,c)
 else
 if (decide (30<(d.j4.length:Int)))then
 some ([],0,3)
 else
 gp (kq (ρ:=(List Ax×Int×Int)) (fun(i0:Int)(s0:List Ax×AH)=>
 (idx d.j4 i0).bind fun e=>
 (DL t a s0.2 e).bind fun b=>
 if (!decide (b.2=0))then
 some (.ret ([],i0,b.2))
 else
 (Ak s0.1 [b.1]).bind fun f=>
 some (.next (f,b.1.wi))) 0 (d.j4.length:Int) ([],d.kg)) (fun s0=>
 some (s0.1,(s0.1.length:Int),0)) (fun v0=>some v0)
def EI(a:AI):QQ:=
 if (decide (20<(a.kl.length:Int)))then
 some 3
 else
 gp (kq (ρ:=Int) (fun(i0:Int)(_:Unit)=>
 (idx a.kl i0).bind fun b=>
 if ((decide (b<0))||(decide ((a.ff.j4.length:Int)<b)))then
 some (.ret 6)
 else
 (if(decide (0<i0))then((idx a.kl (Aj (i0-1))).bind fun c=>
 some (decide (b<c)))else some false).bind fun d=>
 if d then
 some (.ret 12)
 else
 some (.next ())) 0 (a.kl.length:Int) ()) (fun _=>
 some 0) (fun v0=>some v0)
def Cl[Ev](t:AC)(a:List f0)(c:AI):QQ:=
 (C9 t a c.ff).bind fun b=>
 if (!decide (b.2.2=0))then
 some b.2.2
 else
 (EI c).bind fun d=>
 some d
def EB(b:AI):Option (AI×Int):=
 if (decide ((b.kl.length:Int)=0))then
 some (CC,8)
 else
 (Dh b).bind fun a=>
 (idx a.kl (Aj ((b.kl.length:Int)-1))).bind fun c=>
 (slc a.ff.j4 0 c).bind fun d=>
 (slc a.kl 0 (Aj ((b.kl.length:Int)-1))).bind fun e=>
 some (AI.mk (AR.mk a.ff.kg d) e,0)
def CX[Ev](t:AC)(a:List f0)(d:AI):Option (AI×Int):=
 (Cl t a d).bind fun b=>
 if (!decide (b=0))then
 some (CC,b)
 else
 (EB d).bind fun c=>
 some (c.1,c.2)
def Gc(a:AI):Option (AI×Int):=
 (EI a).bind fun d=>
 if (!decide (d=0))then
 some (CC,d)
 else
 if (decide ((a.kl.length:Int)=20))then
 some (CC,17)
 else
 (Dh a).bind fun b=>
 (Ak b.kl [(a.ff.j4.length:Int)]).bind fun c=>
 some (AI.mk b.ff c,0)
def GE(b:AI):Option (AI×Int):=
 (EI b).bind fun d=>
 if (!decide (d=0))then
 some (CC,d)
 else
 if (decide ((b.kl.length:Int)=0))then
 some (CC,8)
 else
 (Dh b).bind fun a=>
 (slc a.kl 0 (Aj ((a.kl.length:Int)-1))).bind fun c=>
 some (AI.mk a.ff c,0)
def Fg(n:Int):Option Fp:=
 (Is n 0).bind fun a=>
 (tc (fun(i0:Int)(s0:Fp)=>
 (idx s0 i0).bind fun b=>
 some (BP s0 i0 i0)) 0 (a.length:Int) a).bind fun s0=>
 some s0
def EF[Ev](g:d4):Option (d6×Int):=
 (Ci g).bind fun c=>
 if (!decide (c=0))then
 some (d6.mk [] [],c)
 else
 (Fg (g.d3.length:Int)).bind fun a=>
 (Fg (g.d5.length:Int)).bind fun b=>
 some (d6.mk a b,0)
def C7[Ev](g:d4):Option d6:=
 (EF g).bind fun a=>
 some a.1
def Fc(l:Fp)(c:Fp):Option Fp:=
 (slices_Clone_int l).bind fun d=>
 (tc (fun(i0:Int)(s0:Fp)=>
 (idx s0 i0).bind fun a=>
 if (decide (0<=a))then
 (idx c a).bind fun b=>
 (idx s0 i0).bind fun e=>
 some (BP s0 i0 b)
 else
 some s0) 0 (d.length:Int) d).bind fun s0=>
 some s0
def FP(a:AH):Option AH:=
 (slices_Clone_int a.d4.d3).bind fun f=>
 (Ck a.d4.d5).bind fun b=>
 (tc (fun(i0:Int)(s0:AH)=>
 (idx a.fd i0).bind fun c=>
 (slices_Clone_int c).bind fun d=>
 (Ak s0.fd [d]).bind fun e=>
 some (AH.mk s0.d4 e)) 0 (a.fd.length:Int) (AH.mk (d4.mk f b) [])).bind fun s0=>
 some s0
def Ds[Ev](t:AC)(c:List f0)(d:AR):Option (AH×d6×Int):=
 (C9 t c d).bind fun a=>
 if (!decide (a.2.2=0))then
 some (AH.mk (d4.mk [] []) [],d6.mk [] [],a.2.2)
 else
 (C7 d.kg.d4).bind fun e=>
 (tc (fun(i0:Int)(s0:AH×d6)=>
 (idx a.1 i0).bind fun b=>
 (Fc s0.2.d3 b.Aam.d3).bind fun f=>
 (Fc s0.2.d5 b.Aam.d5).bind fun g=>
 some (b.wi,d6.mk f g)) 0 (a.1.length:Int) (d.kg,e)).bind fun s0=>
 (FP s0.1).bind fun h=>
 some (h,s0.2,0)
def Fd(m:AO):Option AO:=
 (slices_Clone_int m.d6.d3).bind fun c=>
 (slices_Clone_int m.d6.d5).bind fun a=>
 (slices_Clone_int m.hV).bind fun b=>
 some (AO.mk (d6.mk c a) b)
def Du(d:AR):Option AR:=
 (FP d.kg).bind fun e=>
 (tc (fun(i0:Int)(s0:AR)=>
 (idx d.j4 i0).bind fun a=>
 (Fd a.o3).bind fun b=>
 (Ak s0.j4 [tg.mk a.f0 b]).bind fun c=>
 some (AR.mk s0.kg c)) 0 (d.j4.length:Int) (AR.mk e [])).bind fun s0=>
 some s0
def DY[Ev](t:AC)(a:List f0)(d:AR)(m:tg):Option (AR×Int):=
 (Ds t a d).bind fun b=>
 if (!decide (b.2.2=0))then
 some (Xt,b.2.2)
 else
 if (decide ((d.j4.length:Int)=30))then
 some (Xt,17)
 else
 (DL t a b.1 m).bind fun c=>
 if (!decide (c.2=0))then
 some (Xt,c.2)
 else
 (Du d).bind fun e=>
 (Fd m.o3).bind fun f=>
 (Ak e.j4 [tg.mk m.f0 f]).bind fun g=>
 some (AR.mk e.kg g,0)
def EA[Ev](t:AC)(b:List f0)(c:AI)(m:tg):Option (AI×Int):=
 (DY t b c.ff m).bind fun a=>
 if (!decide (a.2=0))then
 some (CC,a.2)
 else
 (slices_Clone_int c.kl).bind fun d=>
 some (AI.mk a.1 d,0)
def ER[Ev](t:AC)(c:List f0)(b:AI)(a:BJ):Option (AI×Int):=
 if (decide (a.mo=1))then
 (EA t c b a.tg).bind fun d=>
 some (d.1,d.2)
 else
 if (decide (a.mo=2))then
 (Gc b).bind fun e=>
 some (e.1,e.2)
 else
 if (decide (a.mo=3))then
 (GE b).bind fun f=>
 some (f.1,f.2)
 else
 if (decide (a.mo=4))then
 (EB b).bind fun g=>
 some (g.1,g.2)
 else
 some (CC,1)
def Dg[Ev](t:AC)(a:List f0)(d:AI)(l:List BJ):Option (AI×Int×Int):=
 (Cl t a d).bind fun c=>
 if (!decide (c=0))then
 some (CC,0,c)
 else
 if (decide (100<(l.length:Int)))then
 some (CC,0,3)
 else
 (Dh d).bind fun e=>
 gp (kq (ρ:=(AI×Int×Int)) (fun(i0:Int)(s0:AI×AI)=>
 (idx l i0).bind fun f=>
 (ER t a s0.2 f).bind fun b=>
 if (!decide (b.2=0))then
 some (.ret (CC,i0,b.2))
 else
 some (.next (s0.1,b.1))) 0 (l.length:Int) (CC,e)) (fun s0=>
 some (s0.2,(l.length:Int),0)) (fun v0=>some v0)
def Oa:Option AC:=
 some (AC.mk [B8.mk (⟨#[65,99,99,111,117,110,116]⟩:ByteArray) (-1) true [ns.mk (⟨#[98,97,108,97,110,99,101]⟩:ByteArray) (-1000) 1000 []],B8.mk (⟨#[67,97,115,104]⟩:ByteArray) 0 false [],B8.mk (⟨#[76,111,97,110]⟩:ByteArray) 0 false [ns.mk (⟨#[115,116,97,116,101]⟩:ByteArray) 0 1 [(⟨#[111,112,101,110]⟩:ByteArray),(⟨#[99,108,111,115,101,100]⟩:ByteArray)]],B8.mk (⟨#[80,101,114,115,111,110]⟩:ByteArray) (-1) false []] [CG.mk (⟨#[111,119,110,115]⟩:ByteArray) 3 0 0 (-1) 1 1,CG.mk (⟨#[112,97,121,115]⟩:ByteArray) 1 1 0 (-1) 0 (-1)])
def C0[Ev]:K1:=
 (Oa).bind fun b=>
 (GN b (AH.mk (d4.mk [] []) [])).bind fun d=>
 (Dg b [f0.mk (⟨#[98,105,114,116,104]⟩:ByteArray) (ec.mk (d4.mk [] []) [] 0 []) (ec.mk (d4.mk [3] []) [] 0 []) (BH.mk [] []) (d6.mk [] []) false (d7.mk 1 [] (d6.mk [] []) (ec.mk (d4.mk [] []) [] 0 []))] d.1 [BJ.mk 2 (tg.mk 0 (AO.mk (d6.mk [] []) [])),BJ.mk 1 (tg.mk 0 (AO.mk (d6.mk [] []) [])),BJ.mk 2 (tg.mk 0 (AO.mk (d6.mk [] []) [])),BJ.mk 1 (tg.mk 0 (AO.mk (d6.mk [] []) [])),BJ.mk 3 (tg.mk 0 (AO.mk (d6.mk [] []) []))]).bind fun a=>
 (CX b [f0.mk (⟨#[98,105,114,116,104]⟩:ByteArray) (ec.mk (d4.mk [] []) [] 0 []) (ec.mk (d4.mk [3] []) [] 0 []) (BH.mk [] []) (d6.mk [] []) false (d7.mk 1 [] (d6.mk [] []) (ec.mk (d4.mk [] []) [] 0 []))] a.1).bind fun c=>
 (if((((decide (d.2=0))&&(decide (a.2.2=0)))&&(decide (a.2.1=5)))&&(decide ((a.1.ff.j4.length:Int)=2)))then((slices_Equal_int a.1.kl [0]).bind fun e=>
 some (e))else some false).bind fun f=>
 some (((f&&(decide (c.2=0)))&&(decide ((c.1.ff.j4.length:Int)=0)))&&(decide ((c.1.kl.length:Int)=0)))
def KW[Ev](t:AC):K1:=
 if ((decide (20<(t.d3.length:Int)))||(decide (30<(t.d5.length:Int))))then
 some false
 else
 gp (kq (ρ:=Bool) (fun(i0:Int)(s0:Int)=>
 (idx t.d3 i0).bind fun b=>
 (if(decide (30<(Aj (s0+(b.x4.length:Int)))))then some true else((idx t.d3 i0).bind fun d=>
 some (decide (40<(d.qo.size:Int))))).bind fun e=>
 if e then
 some (.ret false)
 else
 gp (Ep (ρ:=Bool) (fun(s2:Int)=>
 (idx t.d3 i0).bind fun f=>
 if (decide (s2<(f.x4.length:Int)))then
 (idx t.d3 i0).bind fun g=>
 (idx g.x4 s2).bind fun a=>
 if ((decide (40<(a.qo.size:Int)))||(decide (25<(a.x3.length:Int))))then
 some (.ret false)
 else
 gp (Ep (ρ:=Bool) (fun(s4:Int)=>
 if (decide (s4<(a.x3.length:Int)))then
 (idx a.x3 s4).bind fun h=>
 if (decide (40<(h.size:Int)))then
 some (.ret false)
 else
 some (.next (Aj (s4+1)))
 else
 some (.brk s4)) 0) (fun s4=>
 some (.next (Aj (s2+1)))) (fun v4=>some (.ret v4))
 else
 some (.brk s2)) 0) (fun s2=>
 some (.next (Aj (s0+(b.x4.length:Int))))) (fun v2=>some (.ret v2))) 0 (t.d3.length:Int) 0) (fun s0=>
 gp (kq (ρ:=Bool) (fun(i6:Int)(_:Unit)=>
 (idx t.d5 i6).bind fun c=>
 if (decide (40<(c.qo.size:Int)))then
 some (.ret false)
 else
 some (.next ())) 0 (t.d5.length:Int) ()) (fun _=>
 some true) (fun v6=>some v6)) (fun v0=>some v0)
def H1(g:d4):K1:=
 some ((decide ((g.d3.length:Int)<=45))&&(decide ((g.d5.length:Int)<=90)))
def Gp(a:AH):K1:=
 (H1 a.d4).bind fun c=>
 if ((!c)||(decide (45<(a.fd.length:Int))))then
 some false
 else
 gp (kq (ρ:=Bool) (fun(i0:Int)(_:Unit)=>
 (idx a.fd i0).bind fun b=>
 if (decide (12<(b.length:Int)))then
 some (.ret false)
 else
 some (.next ())) 0 (a.fd.length:Int) ()) (fun _=>
 some true) (fun v0=>some v0)
def KX(m:d6)(n:Int):K1:=
 some (decide ((Aj ((m.d3.length:Int)+(m.d5.length:Int)))<=n))
def JC(p:ec):K1:=
 (H1 p.d4).bind fun a=>
 some ((a&&(decide ((p.gn.length:Int)<=15)))&&(decide ((p.sx.length:Int)<=15)))
def Qh(p:BH)(n:Int):K1:=
 some (decide ((Aj ((p.d3.length:Int)+(p.d5.length:Int)))<=n))
def Cj[Ev]:Nat->d7->Int->QQ
 |0,_,_=>none|n+1,c,a=>
  (JC c.ec).bind fun b=>
  (if(!b)then some true else((KX c.Map 140).bind fun d=>
  some (!d))).bind fun e=>
  if e then
  some (-1)
  else
  gp (Ep (ρ:=Int) (fun(s0:Int×Int)=>
  if ((decide (s0.2<(c.hT.length:Int)))&&(decide (0<=s0.1)))then
  (idx c.hT s0.2).bind fun f=>
  (Cj n f s0.1).bind fun g=>
  some (.next (g,Aj (s0.2+1)))
  else
  some (.brk (s0.1,s0.2))) (Aj (a-1),0)) (fun s0=>
  some s0.1) (fun v0=>some v0)
def Ox[Ev](c:d7)(a:Int):QQ:=KC fun n=>Cj n c a
def JE[Ev](c:d7):K1:=
 (Ox c 40).bind fun a=>
 some (decide (0<=a))
def OO[Ev](a:f0):K1:=
 (if(decide ((a.qo.size:Int)<=60))then((JC a.ne).bind fun b=>
 some (b))else some false).bind fun c=>
 (if c then((JC a.fq).bind fun d=>
 some (d))else some false).bind fun e=>
 (if e then((Qh a.x5 140).bind fun f=>
 some (f))else some false).bind fun g=>
 (if g then((KX a.tl 140).bind fun h=>
 some (h))else some false).bind fun i=>
 (if i then((JE a.d7).bind fun j=>
 some (j))else some false).bind fun k=>
 some k
def Ov(t:Ee):Option ByteArray:=
 if (decide (t.mo=3))then
 (Th (⟨#[34]⟩:ByteArray) t.AbU).bind fun a=>
 (Th a (⟨#[34]⟩:ByteArray)).bind fun b=>
 some b
 else
 some t.AbU
def KU(c:Int):K1:=
 some (((decide (97<=c))&&(decide (c<=122)))||((decide (65<=c))&&(decide (c<=90))))
def IK(c:Int):K1:=
 some ((decide (48<=c))&&(decide (c<=57)))
def OK[Ev](a:ByteArray)(c:Int)(b:Bool):QQ:=
 gp (Ep (ρ:=Int) (fun(s0:Int)=>
 (if(decide ((Aj (c+s0))<(a.size:Int)))then((AaC a (Aj (c+s0))).bind fun d=>
 (IK d).bind fun e=>
 (if e then some true else((if(!b)then((AaC a (Aj (c+s0))).bind fun f=>
 (KU f).bind fun g=>
 (if g then some true else((AaC a (Aj (c+s0))).bind fun h=>
 some (decide (h=95)))).bind fun i=>
 some (i))else some false).bind fun j=>
 some (j))).bind fun k=>
 some (k))else some false).bind fun l=>
 if l then
 some (.next (Aj (s0+1)))
 else
 some (.brk s0)) 0) (fun s0=>
 some s0) (fun v0=>some v0)
def KV[Ev](b:ByteArray)(c:Int):QQ:=
 gp (Ep (ρ:=Int) (fun(s0:Int)=>
 if (decide ((Aj (c+s0))<(b.size:Int)))then
 (AaC b (Aj (c+s0))).bind fun a=>
 if (decide (a=34))then
 some (.ret (Aj (s0+1)))
 else
 if ((decide (a<32))||(decide (126<a)))then
 some (.ret 0)
 else
 some (.next (Aj (s0+1)))
 else
 some (.brk s0)) 1) (fun s0=>
 some 0) (fun v0=>some v0)
def Ns:Option (List ByteArray):=
 some [(⟨#[45,62]⟩:ByteArray),(⟨#[60,61]⟩:ByteArray),(⟨#[62,61]⟩:ByteArray),(⟨#[61,61]⟩:ByteArray),(⟨#[33,61]⟩:ByteArray),(⟨#[123]⟩:ByteArray),(⟨#[125]⟩:ByteArray),(⟨#[40]⟩:ByteArray),(⟨#[41]⟩:ByteArray),(⟨#[91]⟩:ByteArray),(⟨#[93]⟩:ByteArray),(⟨#[44]⟩:ByteArray),(⟨#[59]⟩:ByteArray),(⟨#[58]⟩:ByteArray),(⟨#[61]⟩:ByteArray),(⟨#[43]⟩:ByteArray),(⟨#[45]⟩:ByteArray),(⟨#[42]⟩:ByteArray),(⟨#[60]⟩:ByteArray),(⟨#[62]⟩:ByteArray),(⟨#[33]⟩:ByteArray),(⟨#[38]⟩:ByteArray),(⟨#[124]⟩:ByteArray),(⟨#[46]⟩:ByteArray),(⟨#[63]⟩:ByteArray)]
def OJ[Ev](a:ByteArray)(d:Int):Option (Ee×Int×Int):=
 (AaC a d).bind fun c=>
 (KU c).bind fun i=>
 (if i then some true else((IK c).bind fun j=>
 some (j))).bind fun k=>
 if k then
 (IK c).bind fun l=>
 (OK a d l).bind fun f=>
 (IK c).bind fun m=>
 (if m then
 some (2,9)
 else
 some (1,20)).bind fun w1=>
 if (decide (w1.2<f))then
 some (Ee.mk 0 (⟨#[]⟩:ByteArray) 0,0,3)
 else
 (AaJ a d (Aj (d+f))).bind fun n=>
 some (Ee.mk w1.1 n 0,f,0)
 else
 if (decide (c=34))then
 (KV a d).bind fun e=>
 if (decide (e=0))then
 some (Ee.mk 0 (⟨#[]⟩:ByteArray) 0,0,2)
 else
 if (decide (60<(Aj (e-2))))then
 some (Ee.mk 0 (⟨#[]⟩:ByteArray) 0,0,3)
 else
 (AaJ a (Aj (d+1)) (Aj ((Aj (d+e))-1))).bind fun o=>
 some (Ee.mk 3 o 0,e,0)
 else
 (Ns).bind fun b=>
 gp (kq (ρ:=(Ee×Int×Int)) (fun(i0:Int)(s0:Ee)=>
 (idx b i0).bind fun p=>
 (if(decide ((Aj (d+(p.size:Int)))<=(a.size:Int)))then((idx b i0).bind fun q=>
 (AaJ a d (Aj (d+(q.size:Int)))).bind fun r=>
 (idx b i0).bind fun s=>
 some (r==s))else some false).bind fun t=>
 if t then
 (idx b i0).bind fun g=>
 (idx b i0).bind fun h=>
 some (.ret (Ee.mk 4 g 0,(h.size:Int),0))
 else
 some (.next s0)) 0 (b.length:Int) (Ee.mk 0 (⟨#[]⟩:ByteArray) 0)) (fun s0=>
 some (Ee.mk 0 (⟨#[]⟩:ByteArray) 0,0,2)) (fun v0=>some v0)
def Nr[Ev](t:Ee):K1:=
 (Ov t).bind fun b=>
 if (b==(⟨#[]⟩:ByteArray))then
 some false
 else
 (OJ b 0).bind fun a=>
 some (((decide (a.2.2=0))&&(decide (a.2.1=(b.size:Int))))&&(decide (a.1.mo=t.mo)))
def FK[Ev](a:ByteArray):K1:=
 (Nr (Ee.mk 1 a 0)).bind fun b=>
 some b
def Db(n:Int)(b:Int)(a:Int):K1:=
 some ((decide (b<=n))&&(decide (n<=a)))
def F7[Ev]:Nat->AC->Int->Option (List ns)
 |0,_,_=>none|n+1,t,a=>
  if (decide (a<0))then
  some []
  else
  (idx t.d3 a).bind fun b=>
  (F7 n t b.Aac).bind fun c=>
  (Ak [] c).bind fun d=>
  (idx t.d3 a).bind fun e=>
  (Ak d e.x4).bind fun f=>
  some f
def Nt[Ev](t:AC)(a:Int):Option (List ns):=KC fun n=>F7 n t a
def LK[Ev](l:List ByteArray):QQ:=
 if (decide (20<(l.length:Int)))then
 some 3
 else
 gp (kq (ρ:=Int) (fun(i0:Int)(_:Unit)=>
 (idx l i0).bind fun a=>
 (FK a).bind fun b=>
 if (!b)then
 some (.ret 2)
 else
 gp (kq (ρ:=Int) (fun(i2:Int)(_:Unit)=>
 (idx l i2).bind fun c=>
 (idx l i0).bind fun d=>
 if (c==d)then
 some (.ret 5)
 else
 some (.next ())) 0 i0 ()) (fun _=>
 some (.next ())) (fun v2=>some (.ret v2))) 0 (l.length:Int) ()) (fun _=>
 some 0) (fun v0=>some v0)
def H0[Ev](a:ns):QQ:=
 if (decide ((a.x3.length:Int)=0))then
 (Db a.Low (-1000000) 1000000).bind fun c=>
 (if(!c)then some true else((Db a.AaD a.Low 1000000).bind fun d=>
 some (!d))).bind fun e=>
 if e then
 some 6
 else
 some 0
 else
 (LK a.x3).bind fun b=>
 if (!decide (b=0))then
 some b
 else
 if ((!decide (a.Low=0))||(!decide (a.AaD=(Aj ((a.x3.length:Int)-1)))))then
 some 6
 else
 some 0
def Mr[Ev](t:AC)(c:Int):QQ:=
 (idx t.d3 c).bind fun b=>
 (FK b.qo).bind fun e=>
 if (!e)then
 some 2
 else
 gp (kq (ρ:=Int) (fun(i0:Int)(_:Unit)=>
 (idx t.d3 i0).bind fun f=>
 if (f.qo==b.qo)then
 some (.ret 5)
 else
 some (.next ())) 0 c ()) (fun _=>
 (Db b.Aac (-1) (Aj (c-1))).bind fun g=>
 if (!g)then
 some 6
 else
 (Nt t c).bind fun a=>
 if ((decide (4<(b.x4.length:Int)))||(decide (8<(a.length:Int))))then
 some 3
 else
 gp (kq (ρ:=Int) (fun(i2:Int)(_:Unit)=>
 (idx a i2).bind fun h=>
 (FK h.qo).bind fun i=>
 if (!i)then
 some (.ret 2)
 else
 gp (kq (ρ:=Int) (fun(i4:Int)(_:Unit)=>
 (idx a i4).bind fun j=>
 (idx a i2).bind fun k=>
 if (j.qo==k.qo)then
 some (.ret 5)
 else
 some (.next ())) 0 i2 ()) (fun _=>
 (idx a i2).bind fun l=>
 (H0 l).bind fun d=>
 if (!decide (d=0))then
 some (.ret d)
 else
 some (.next ())) (fun v4=>some (.ret v4))) (Aj ((a.length:Int)-(b.x4.length:Int))) (a.length:Int) ()) (fun _=>
 some 0) (fun v2=>some v2)) (fun v0=>some v0)
def Js(b:Int)(a:Int):K1:=
 (Db b 0 40).bind fun f=>
 (if f then((if(decide (a=(-1)))then some true else((Db a b 40).bind fun c=>
 some (c))).bind fun d=>
 some (d))else some false).bind fun e=>
 some e
def Mq[Ev](t:AC)(b:Int):QQ:=
 (idx t.d5 b).bind fun a=>
 (FK a.qo).bind fun c=>
 if (!c)then
 some 2
 else
 gp (kq (ρ:=Int) (fun(i0:Int)(_:Unit)=>
 (idx t.d5 i0).bind fun d=>
 if (d.qo==a.qo)then
 some (.ret 5)
 else
 some (.next ())) 0 b ()) (fun _=>
 (Db a.o4 0 (Aj ((t.d3.length:Int)-1))).bind fun e=>
 (if(!e)then some true else((Db a.To 0 (Aj ((t.d3.length:Int)-1))).bind fun f=>
 some (!f))).bind fun g=>
 (if g then some true else((Js a.Abg a.Aa0).bind fun h=>
 some (!h))).bind fun i=>
 (if i then some true else((Js a.AbC a.Abh).bind fun j=>
 some (!j))).bind fun k=>
 if k then
 some 6
 else
 some 0) (fun v0=>some v0)
def E7[Ev](t:AC):Option (ByteArray×Int):=
 if (decide ((t.d3.length:Int)=0))then
 some ((⟨#[]⟩:ByteArray),7)
 else
 if ((decide (12<(t.d3.length:Int)))||(decide (20<(t.d5.length:Int))))then
 some ((⟨#[]⟩:ByteArray),3)
 else
 gp (kq (ρ:=(ByteArray×Int)) (fun(i0:Int)(_:Unit)=>
 (Mr t i0).bind fun a=>
 if (!decide (a=0))then
 (idx t.d3 i0).bind fun c=>
 some (.ret (c.qo,a))
 else
 some (.next ())) 0 (t.d3.length:Int) ()) (fun _=>
 gp (kq (ρ:=(ByteArray×Int)) (fun(i2:Int)(_:Unit)=>
 (Mq t i2).bind fun b=>
 if (!decide (b=0))then
 (idx t.d5 i2).bind fun d=>
 some (.ret (d.qo,b))
 else
 some (.next ())) 0 (t.d5.length:Int) ()) (fun _=>
 some ((⟨#[]⟩:ByteArray),0)) (fun v2=>some v2)) (fun v0=>some v0)
def Ks(n:Int):K1:=
 some ((decide (0<=n))&&(decide (n<=99)))
def Nu(e:Bo)(a:Int):K1:=
 (Ks e.og).bind fun b=>
 some ((((b&&(decide (0<=e.o4)))&&(decide (e.o4<a)))&&(decide (0<=e.To)))&&(decide (e.To<a)))
def D1(g:d4):QQ:=
 if ((decide (40<(g.d3.length:Int)))||(decide (80<(g.d5.length:Int))))then
 some 3
 else
 gp (kq (ρ:=Int) (fun(i0:Int)(_:Unit)=>
 (idx g.d3 i0).bind fun a=>
 (Ks a).bind fun b=>
 if (!b)then
 some (.ret 6)
 else
 some (.next ())) 0 (g.d3.length:Int) ()) (fun _=>
 gp (kq (ρ:=Int) (fun(i2:Int)(_:Unit)=>
 (idx g.d5 i2).bind fun c=>
 (Nu c (g.d3.length:Int)).bind fun d=>
 if (!d)then
 some (.ret 6)
 else
 some (.next ())) 0 (g.d5.length:Int) ()) (fun _=>
 some 0) (fun v2=>some v2)) (fun v0=>some v0)
def Gr(t:AC)(g:d4):K1:=
 gp (kq (ρ:=Bool) (fun(i0:Int)(_:Unit)=>
 (idx g.d3 i0).bind fun a=>
 (if(decide (a<0))then some true else((idx g.d3 i0).bind fun b=>
 some (decide ((t.d3.length:Int)<=b)))).bind fun c=>
 if c then
 some (.ret false)
 else
 some (.next ())) 0 (g.d3.length:Int) ()) (fun _=>
 gp (kq (ρ:=Bool) (fun(i2:Int)(_:Unit)=>
 (idx g.d5 i2).bind fun d=>
 (if(decide (d.og<0))then some true else((idx g.d5 i2).bind fun e=>
 some (decide ((t.d5.length:Int)<=e.og)))).bind fun f=>
 if f then
 some (.ret false)
 else
 some (.next ())) 0 (g.d5.length:Int) ()) (fun _=>
 some true) (fun v2=>some v2)) (fun v0=>some v0)
def Jt[Ev](t:AC)(a:Int)(b:Int):QQ:=
 (E7 t).bind fun c=>
 if (!decide (c.2=0))then
 some c.2
 else
 (Db a 0 (Aj ((t.d3.length:Int)-1))).bind fun d=>
 (if(!d)then some true else((Db b 0 (Aj ((t.d3.length:Int)-1))).bind fun e=>
 some (!e))).bind fun f=>
 if f then
 some 6
 else
 some 0
def Fv[Ev](t:AC)(a:Int):Option (List ns×Int):=
 (Jt t a a).bind fun c=>
 if (!decide (c=0))then
 some ([],c)
 else
 (Nt t a).bind fun d=>
 (tc (fun(i0:Int)(s0:List ns)=>
 (idx d i0).bind fun b=>
 (Ak [] b.x3).bind fun e=>
 (Ak s0 [ns.mk b.qo b.Low b.AaD e]).bind fun f=>
 some f) 0 (d.length:Int) []).bind fun s0=>
 some (s0,0)
def Mv[Ev](t:AC)(p:ec)(b:Int)(a:Int):Option (ns×Bool):=
 if ((decide (b<0))||(decide ((p.d4.d3.length:Int)<=b)))then
 some (ns.mk (⟨#[]⟩:ByteArray) 0 0 [],false)
 else
 (idx p.d4.d3 b).bind fun d=>
 (Fv t d).bind fun c=>
 if (((!decide (c.2=0))||(decide (a<0)))||(decide ((c.1.length:Int)<=a)))then
 some (ns.mk (⟨#[]⟩:ByteArray) 0 0 [],false)
 else
 (idx c.1 a).bind fun e=>
 some (e,true)
def Lk(n:Int):K1:=
 some ((decide ((-1000000)<=n))&&(decide (n<=1000000)))
def Iw(n:Int)(t:kp):QQ:=
 if ((((decide (t.Var<(-1)))||(decide (n<=t.Var)))||(decide (t.Add<(-1000000))))||(decide (1000000<t.Add)))then
 some 6
 else
 some 0
def OL(n:Int)(a:Test):QQ:=
 if ((!decide (a.mo=1))&&(!decide (a.mo=2)))then
 some 1
 else
 (Iw n a.ne).bind fun b=>
 if (!decide (b=0))then
 some b
 else
 (Iw n a.fq).bind fun c=>
 some c
def LJ(n:Int)(l:List Test):QQ:=
 if ((decide (n<0))||(decide (12<n)))then
 some 6
 else
 if (decide (40<(l.length:Int)))then
 some 3
 else
 gp (kq (ρ:=Int) (fun(i0:Int)(_:Unit)=>
 (idx l i0).bind fun b=>
 (OL n b).bind fun a=>
 if (!decide (a=0))then
 some (.ret a)
 else
 some (.next ())) 0 (l.length:Int) ()) (fun _=>
 some 0) (fun v0=>some v0)
def Ka(p:ec)(b:Int):K1:=
 gp (kq (ρ:=Bool) (fun(i0:Int)(_:Unit)=>
 (idx p.gn i0).bind fun a=>
 if (decide (a.kp.Var=b))then
 some (.ret true)
 else
 some (.next ())) 0 (p.gn.length:Int) ()) (fun _=>
 some false) (fun v0=>some v0)
def Gs[Ev](t:AC)(p:ec):QQ:=
 (E7 t).bind fun c=>
 if (!decide (c.2=0))then
 some c.2
 else
 (D1 p.d4).bind fun d=>
 if (!decide (d=0))then
 some d
 else
 (Gr t p.d4).bind fun f=>
 if (!f)then
 some 13
 else
 if ((decide (p.hV<0))||(decide (12<p.hV)))then
 some 6
 else
 if ((decide (10<(p.gn.length:Int)))||(decide (10<(p.sx.length:Int))))then
 some 3
 else
 gp (kq (ρ:=Int) (fun(i0:Int)(_:Unit)=>
 (idx p.gn i0).bind fun a=>
 (Mv t p a.t5 a.ns).bind fun g=>
 (if(((!g.2)||(decide (a.kp.Var<(-1))))||(decide (p.hV<=a.kp.Var)))then some true else((Lk a.kp.Add).bind fun h=>
 some (!h))).bind fun i=>
 if i then
 some (.ret 6)
 else
 some (.next ())) 0 (p.gn.length:Int) ()) (fun _=>
 (LJ p.hV p.sx).bind fun b=>
 if (!decide (b=0))then
 some b
 else
 gp (kq (ρ:=Int) (fun(i2:Int)(_:Unit)=>
 (Ka p i2).bind fun e=>
 if (!e)then
 some (.ret 9)
 else
 some (.next ())) 0 p.hV ()) (fun _=>
 some 0) (fun v2=>some v2)) (fun v0=>some v0)
def HD(c:d7):K1:=
 some (((decide ((Aj ((Aj ((Aj ((c.Map.d3.length:Int)+(c.Map.d5.length:Int)))+(c.ec.d4.d3.length:Int)))+(c.ec.d4.d5.length:Int)))=0))&&(decide ((Aj ((c.ec.gn.length:Int)+(c.ec.sx.length:Int)))=0)))&&(decide (c.ec.hV=0)))
def LU(c:d7):K1:=
 if (decide (c.mo=1))then
 (if(decide ((c.hT.length:Int)=0))then((HD c).bind fun a=>
 some (a))else some false).bind fun b=>
 some b
 else
 if (decide (c.mo=2))then
 (if(decide ((c.hT.length:Int)=1))then((HD c).bind fun d=>
 some (d))else some false).bind fun e=>
 some e
 else
 (if(decide (c.mo=3))then
 some (decide (c.mo=3))
 else
 some (decide (c.mo=4))).bind fun w1=>
 if w1 then
 (if(decide (0<(c.hT.length:Int)))then((HD c).bind fun f=>
 some (f))else some false).bind fun g=>
 some g
 else
 if (decide (c.mo=5))then
 some (decide ((c.hT.length:Int)=1))
 else
 some false
def EO[Ev]:Nat->d7->K1
 |0,_=>none|n+1,c=>
  (LU c).bind fun d=>
  if (!d)then
  some false
  else
  gp (kq (ρ:=Bool) (fun(i0:Int)(_:Unit)=>
  (idx c.hT i0).bind fun a=>
  (EO n a).bind fun b=>
  if (!b)then
  some (.ret false)
  else
  some (.next ())) 0 (c.hT.length:Int) ()) (fun _=>
  some true) (fun v0=>some v0)
def NY[Ev](c:d7):K1:=KC fun n=>EO n c
def E2[Ev]:Nat->d7->Option (Int×Int)
 |0,_=>none|n+1,c=>
  (tc (fun(i0:Int)(s0:Int×Int)=>
  (idx c.hT i0).bind fun b=>
  (E2 n b).bind fun a=>
  some (Aj (s0.1+a.1),max s0.2 a.2)) 0 (c.hT.length:Int) (1,0)).bind fun s0=>
  (if(decide (c.mo=5))then
  some (Aj (s0.2+1))
  else
  some s0.2).bind fun w1=>
  some (s0.1,w1)
def Oc[Ev](c:d7):Option (Int×Int):=KC fun n=>E2 n c
def LS[Ev](c:d7):QQ:=
 (NY c).bind fun b=>
 if (!b)then
 some 1
 else
 (Oc c).bind fun a=>
 if ((decide (12<a.1))||(decide (3<a.2)))then
 some 3
 else
 some 0
def Mw(p:ec)(b:Int):K1:=
 gp (kq (ρ:=Bool) (fun(i0:Int)(_:Unit)=>
 (idx p.gn i0).bind fun a=>
 if (decide (a.kp.Var=b))then
 some (.ret true)
 else
 some (.next ())) 0 (p.gn.length:Int) ()) (fun _=>
 some false) (fun v0=>some v0)
def LT[Ev](t:AC)(a:Int)(q:ec):QQ:=
 if (decide (q.hV<a))then
 some 20
 else
 (Gs t q).bind fun b=>
 if (!decide (b=9))then
 some b
 else
 gp (kq (ρ:=Int) (fun(i0:Int)(_:Unit)=>
 (Mw q i0).bind fun c=>
 if (!c)then
 some (.ret b)
 else
 some (.next ())) a q.hV ()) (fun _=>
 some 0) (fun v0=>some v0)
def Gn(a:d4)(b:d4)(m:d6):QQ:=
 (D1 a).bind fun e=>
 if (!decide (e=0))then
 some e
 else
 (D1 b).bind fun f=>
 if (!decide (f=0))then
 some f
 else
 if ((!decide ((m.d3.length:Int)=(a.d3.length:Int)))||(!decide ((m.d5.length:Int)=(a.d5.length:Int))))then
 some 20
 else
 gp (kq (ρ:=Int) (fun(i0:Int)(_:Unit)=>
 (idx m.d3 i0).bind fun l=>
 (if(decide (l<0))then some true else((idx m.d3 i0).bind fun n=>
 some (decide ((b.d3.length:Int)<=n)))).bind fun o=>
 if o then
 some (.ret 6)
 else
 (idx m.d3 i0).bind fun p=>
 (idx b.d3 p).bind fun q=>
 (idx a.d3 i0).bind fun r=>
 if (!decide (q=r))then
 some (.ret 13)
 else
 some (.next ())) 0 (a.d3.length:Int) ()) (fun _=>
 gp (kq (ρ:=Int) (fun(i2:Int)(_:Unit)=>
 (idx m.d5 i2).bind fun s=>
 (if(decide (s<0))then some true else((idx m.d5 i2).bind fun t=>
 some (decide ((b.d5.length:Int)<=t)))).bind fun g=>
 if g then
 some (.ret 6)
 else
 (idx a.d5 i2).bind fun c=>
 (idx m.d5 i2).bind fun h=>
 (idx b.d5 h).bind fun d=>
 if (!decide (c.og=d.og))then
 some (.ret 13)
 else
 (idx m.d3 c.o4).bind fun i=>
 (if(!decide (i=d.o4))then some true else((idx m.d3 c.To).bind fun j=>
 some (!decide (j=d.To)))).bind fun k=>
 if k then
 some (.ret 11)
 else
 some (.next ())) 0 (a.d5.length:Int) ()) (fun _=>
 some 0) (fun v2=>some v2)) (fun v0=>some v0)
def E1(l:Fp):K1:=
 gp (kq (ρ:=Bool) (fun(i0:Int)(_:Unit)=>
 gp (kq (ρ:=Bool) (fun(i2:Int)(_:Unit)=>
 (idx l i0).bind fun a=>
 (idx l i2).bind fun b=>
 if (decide (a=b))then
 some (.ret false)
 else
 some (.next ())) 0 i0 ()) (fun _=>
 some (.next ())) (fun v2=>some (.ret v2))) 0 (l.length:Int) ()) (fun _=>
 some true) (fun v0=>some v0)
def H2(a:d4)(b:d4)(m:d6):K1:=
 (Gn a b m).bind fun c=>
 (if(decide (c=0))then((E1 m.d3).bind fun d=>
 some (d))else some false).bind fun e=>
 (if e then((E1 m.d5).bind fun f=>
 some (f))else some false).bind fun g=>
 some g
def E8[Ev]:Nat->AC->ec->d7->QQ
 |0,_,_,_=>none|n+1,t,p,c=>
  if (decide (c.mo=5))then
  (LT t p.hV c.ec).bind fun d=>
  if (!decide (d=0))then
  some d
  else
  (Gn p.d4 c.ec.d4 c.Map).bind fun e=>
  if (!decide (e=0))then
  some e
  else
  (H2 p.d4 c.ec.d4 c.Map).bind fun f=>
  if (!f)then
  some 1
  else
  gp (kq (ρ:=Int) (fun(i0:Int)(_:Unit)=>
  (idx c.hT i0).bind fun b=>
  (E8 n t c.ec b).bind fun a=>
  if (!decide (a=0))then
  some (.ret a)
  else
  some (.next ())) 0 (c.hT.length:Int) ()) (fun _=>
  some 0) (fun v0=>some v0)
  else
  gp (kq (ρ:=Int) (fun(i0:Int)(_:Unit)=>
  (idx c.hT i0).bind fun b=>
  (E8 n t p b).bind fun a=>
  if (!decide (a=0))then
  some (.ret a)
  else
  some (.next ())) 0 (c.hT.length:Int) ()) (fun _=>
  some 0) (fun v0=>some v0)
def XD[Ev](t:AC)(p:ec)(c:d7):QQ:=KC fun n=>E8 n t p c
def Ju[Ev](t:AC)(p:ec)(c:d7):QQ:=
 (Gs t p).bind fun a=>
 if (!decide (a=0))then
 some a
 else
 (LS c).bind fun b=>
 if (!decide (b=0))then
 some b
 else
 (XD t p c).bind fun d=>
 some d
def IP[Ev](t:AC)(p:d4)(g:d4):QQ:=
 (E7 t).bind fun a=>
 if (!decide (a.2=0))then
 some a.2
 else
 (D1 p).bind fun b=>
 if (!decide (b=0))then
 some b
 else
 (D1 g).bind fun c=>
 if (!decide (c=0))then
 some c
 else
 (Gr t p).bind fun d=>
 (if(!d)then some true else((Gr t g).bind fun e=>
 some (!e))).bind fun f=>
 if f then
 some 13
 else
 some 0
def LM[Ev](t:AC)(p:d4)(g:d4):K1:=
 (KW t).bind fun h=>
 (if h then((H1 p).bind fun a=>
 some (a))else some false).bind fun b=>
 (if b then((H1 g).bind fun c=>
 some (c))else some false).bind fun d=>
 (if d then((IP t p g).bind fun e=>
 some ((!decide (e=0))||(((decide ((Aj ((p.d3.length:Int)+(p.d5.length:Int)))<=6))&&(decide ((g.d3.length:Int)<=8)))&&(decide ((g.d5.length:Int)<=12)))))else some false).bind fun f=>
 some f
def Nx[Ev](t:AC)(p:ec)(a:AH):K1:=
 (JC p).bind fun f=>
 (if f then((Gp a).bind fun b=>
 some (b))else some false).bind fun c=>
 (if c then((LM t p.d4 a.d4).bind fun d=>
 some (d))else some false).bind fun e=>
 some e
def FU[Ev]:Nat->d7->K1
 |0,_=>none|n+1,c=>
  gp (kq (ρ:=Bool) (fun(i0:Int)(_:Unit)=>
  (idx c.hT i0).bind fun a=>
  (FU n a).bind fun b=>
  if (!b)then
  some (.ret false)
  else
  some (.next ())) 0 (c.hT.length:Int) ()) (fun _=>
  some (decide ((Aj ((c.ec.d4.d3.length:Int)+(c.ec.d4.d5.length:Int)))<=6))) (fun v0=>some v0)
def Pj[Ev](c:d7):K1:=KC fun n=>FU n c
def D6[Ev]:Nat->ec->d7->Int->Int->K1
 |0,_,_,_,_=>none|n+1,p,c,b,a=>
  (if(decide (c.mo=5))then
  some c.ec
  else
  some p).bind fun w1=>
  gp (Ep (ρ:=Bool) (fun(s0:Int×Int)=>
  if (decide (s0.2<(w1.d4.d3.length:Int)))then
  some (.next (Aj (s0.1*b),Aj (s0.2+1)))
  else
  some (.brk (s0.1,s0.2))) (1,(p.d4.d3.length:Int))) (fun s0=>
  gp (Ep (ρ:=Bool) (fun(s2:Int×Int)=>
  if (decide (s2.2<(w1.d4.d5.length:Int)))then
  some (.next (Aj (s2.1*a),Aj (s2.2+1)))
  else
  some (.brk (s2.1,s2.2))) (s0.1,(p.d4.d5.length:Int))) (fun s2=>
  gp (kq (ρ:=Bool) (fun(i4:Int)(_:Unit)=>
  (idx c.hT i4).bind fun d=>
  (D6 n w1 d b a).bind fun e=>
  if (!e)then
  some (.ret false)
  else
  some (.next ())) 0 (c.hT.length:Int) ()) (fun _=>
  some (decide (s2.1<=5000))) (fun v4=>some v4)) (fun v2=>some v2)) (fun v0=>some v0)
def Ob[Ev](p:ec)(c:d7)(b:Int)(a:Int):K1:=KC fun n=>D6 n p c b a
def LR[Ev](t:AC)(p:ec)(c:d7)(a:AH):K1:=
 (JE c).bind fun b=>
 (if(!b)then some true else((JC p).bind fun d=>
 some (!d))).bind fun e=>
 (if e then some true else((Gp a).bind fun f=>
 some (!f))).bind fun g=>
 if g then
 some false
 else
 (Ju t p c).bind fun h=>
 (if(!decide (h=0))then some true else((Nx t p a).bind fun i=>
 (if i then((Pj c).bind fun j=>
 some (j))else some false).bind fun k=>
 (if((k&&(decide ((a.d4.d3.length:Int)<=6)))&&(decide ((a.d4.d5.length:Int)<=8)))then((Ob p c 14 18).bind fun l=>
 some (l))else some false).bind fun m=>
 some (m))).bind fun n=>
 some n
def Jw[Ev](t:AC)(a:f0)(f:AH):K1:=
 (KW t).bind fun g=>
 (if g then((OO a).bind fun b=>
 some (b))else some false).bind fun c=>
 (if c then((LR t a.ne a.d7 f).bind fun d=>
 some (d))else some false).bind fun e=>
 some e
def DE[Ev]:Nat->ec->d7->Int->K1
 |0,_,_,_=>none|n+1,p,c,a=>
  (if(decide (c.mo=5))then
  some c.ec
  else
  some p).bind fun w1=>
  gp (Ep (ρ:=Bool) (fun(s0:Int×Int)=>
  if ((decide (s0.2<(w1.d4.d3.length:Int)))&&(decide (s0.1<=5000)))then
  some (.next (Aj (s0.1*40),Aj (s0.2+1)))
  else
  some (.brk (s0.1,s0.2))) (a,(p.d4.d3.length:Int))) (fun s0=>
  gp (Ep (ρ:=Bool) (fun(s2:Int×Int)=>
  if ((decide (s2.2<(w1.d4.d5.length:Int)))&&(decide (s2.1<=5000)))then
  some (.next (Aj (s2.1*80),Aj (s2.2+1)))
  else
  some (.brk (s2.1,s2.2))) (s0.1,(p.d4.d5.length:Int))) (fun s2=>
  gp (Ep (ρ:=Bool) (fun(s4:Int)=>
  if ((decide (s4<(c.hT.length:Int)))&&(decide (s2.1<=5000)))then
  (idx c.hT s4).bind fun b=>
  (DE n w1 b s2.1).bind fun d=>
  if (!d)then
  some (.ret false)
  else
  some (.next (Aj (s4+1)))
  else
  some (.brk s4)) 0) (fun s4=>
  some (decide (s2.1<=5000))) (fun v4=>some v4)) (fun v2=>some v2)) (fun v0=>some v0)
def Ln[Ev](p:ec)(c:d7)(a:Int):K1:=KC fun n=>DE n p c a
def Mu[Ev](t:AC)(a:Int)(i:Fp):QQ:=
 if (decide ((t.d3.length:Int)<=a))then
 some 6
 else
 (idx t.d3 a).bind fun c=>
 if c.Aap then
 some 13
 else
 (Fv t a).bind fun b=>
 if (!decide ((i.length:Int)=(b.1.length:Int)))then
 some 20
 else
 gp (kq (ρ:=Int) (fun(i0:Int)(_:Unit)=>
 (idx i i0).bind fun d=>
 (idx b.1 i0).bind fun e=>
 (if(decide (d<e.Low))then some true else((idx i i0).bind fun f=>
 (idx b.1 i0).bind fun g=>
 some (decide (g.AaD<f)))).bind fun h=>
 if h then
 some (.ret 6)
 else
 some (.next ())) 0 (b.1.length:Int) ()) (fun _=>
 some 0) (fun v0=>some v0)
def FT[Ev]:Nat->AC->Int->Int->K1
 |0,_,_,_=>none|n+1,t,a,b=>
  (if(decide (a=b))then some true else((if(decide (0<=a))then((idx t.d3 a).bind fun c=>
  (FT n t c.Aac b).bind fun d=>
  some (d))else some false).bind fun e=>
  some (e))).bind fun f=>
  some f
def G8[Ev](t:AC)(a:Int)(b:Int):K1:=KC fun n=>FT n t a b
def Kr[Ev](t:AC)(a:Int)(b:Int)(c:Int):K1:=
 (Jt t b c).bind fun d=>
 (if(!decide (d=0))then some true else((Db a 0 (Aj ((t.d5.length:Int)-1))).bind fun e=>
 some (!e))).bind fun f=>
 if f then
 some false
 else
 (idx t.d5 a).bind fun g=>
 (G8 t b g.o4).bind fun h=>
 (if h then((idx t.d5 a).bind fun i=>
 (G8 t c i.To).bind fun j=>
 some (j))else some false).bind fun k=>
 some k
def Gq[Ev](t:AC)(a:AH):Option (Int×Int):=
 (E7 t).bind fun c=>
 if (!decide (c.2=0))then
 some ((-1),c.2)
 else
 (D1 a.d4).bind fun d=>
 if (!decide (d=0))then
 some ((-1),d)
 else
 if (!decide ((a.fd.length:Int)=(a.d4.d3.length:Int)))then
 some ((-1),20)
 else
 gp (kq (ρ:=(Int×Int)) (fun(i0:Int)(_:Unit)=>
 (idx a.d4.d3 i0).bind fun f=>
 (idx a.fd i0).bind fun g=>
 (Mu t f g).bind fun e=>
 if (!decide (e=0))then
 some (.ret (i0,e))
 else
 some (.next ())) 0 (a.d4.d3.length:Int) ()) (fun _=>
 gp (kq (ρ:=(Int×Int)) (fun(i2:Int)(_:Unit)=>
 (idx a.d4.d5 i2).bind fun b=>
 if (decide ((t.d5.length:Int)<=b.og))then
 some (.ret (i2,6))
 else
 (idx a.d4.d3 b.o4).bind fun h=>
 (idx a.d4.d3 b.To).bind fun i=>
 (Kr t b.og h i).bind fun j=>
 if (!j)then
 some (.ret (i2,13))
 else
 some (.next ())) 0 (a.d4.d5.length:Int) ()) (fun _=>
 some ((-1),0)) (fun v2=>some v2)) (fun v0=>some v0)
def Mx[Ev](t:AC)(p:ec)(c:Int):QQ:=
 (idx p.gn c).bind fun a=>
 if ((decide (a.t5<0))||(decide ((p.d4.d3.length:Int)<=a.t5)))then
 some 6
 else
 (idx p.d4.d3 a.t5).bind fun d=>
 (Fv t d).bind fun e=>
 if ((((((decide (a.ns<0))||(decide ((e.1.length:Int)<=a.ns)))||(decide (a.kp.Var<(-1))))||(decide (p.hV<=a.kp.Var)))||(decide (a.kp.Add<(-1000000))))||(decide (1000000<a.kp.Add)))then
 some 6
 else
 gp (kq (ρ:=Int) (fun(i0:Int)(_:Unit)=>
 (idx p.gn i0).bind fun f=>
 (if(decide (f.t5=a.t5))then((idx p.gn i0).bind fun g=>
 some (decide (g.ns=a.ns)))else some false).bind fun b=>
 if b then
 some (.ret 5)
 else
 some (.next ())) 0 c ()) (fun _=>
 some 0) (fun v0=>some v0)
def LV[Ev](t:AC)(a:f0):QQ:=
 (D1 a.fq.d4).bind fun b=>
 if (!decide (b=0))then
 some b
 else
 (Gr t a.fq.d4).bind fun d=>
 if (!d)then
 some 13
 else
 if ((!decide (a.fq.hV=a.ne.hV))||(decide (0<(a.fq.sx.length:Int))))then
 some 1
 else
 if (decide (10<(a.fq.gn.length:Int)))then
 some 3
 else
 gp (kq (ρ:=Int) (fun(i0:Int)(_:Unit)=>
 (Mx t a.fq i0).bind fun c=>
 if (!decide (c=0))then
 some (.ret c)
 else
 some (.next ())) 0 (a.fq.gn.length:Int) ()) (fun _=>
 some 0) (fun v0=>some v0)
def GM(l:Fp)(n:Int):QQ:=
 gp (kq (ρ:=Int) (fun(i0:Int)(_:Unit)=>
 (idx l i0).bind fun a=>
 (if(decide (a<0))then some true else((idx l i0).bind fun b=>
 some (decide (n<=b)))).bind fun c=>
 if c then
 some (.ret 6)
 else
 (if(decide (0<i0))then((idx l i0).bind fun d=>
 (idx l (Aj (i0-1))).bind fun e=>
 some (decide (d<=e)))else some false).bind fun f=>
 if f then
 some (.ret 12)
 else
 some (.next ())) 0 (l.length:Int) ()) (fun _=>
 some 0) (fun v0=>some v0)
def OM(l:Fp)(n:Int):K1:=
 gp (kq (ρ:=Bool) (fun(i0:Int)(_:Unit)=>
 (idx l i0).bind fun a=>
 if (decide (a=n))then
 some (.ret true)
 else
 some (.next ())) 0 (l.length:Int) ()) (fun _=>
 some false) (fun v0=>some v0)
def Nv(g:d4)(p:BH):QQ:=
 (GM p.d3 (g.d3.length:Int)).bind fun a=>
 if (!decide (a=0))then
 some a
 else
 (GM p.d5 (g.d5.length:Int)).bind fun b=>
 if (!decide (b=0))then
 some b
 else
 gp (kq (ρ:=Int) (fun(i0:Int)(_:Unit)=>
 (idx p.d5 i0).bind fun d=>
 (idx g.d5 d).bind fun c=>
 (OM p.d3 c.o4).bind fun e=>
 (if(!e)then some true else((OM p.d3 c.To).bind fun f=>
 some (!f))).bind fun h=>
 if h then
 some (.ret 14)
 else
 some (.next ())) 0 (p.d5.length:Int) ()) (fun _=>
 some 0) (fun v0=>some v0)
def IL(g:d4)(p:BH):QQ:=
 (D1 g).bind fun b=>
 if (!decide (b=0))then
 some b
 else
 (Nv g p).bind fun a=>
 some a
def IM(l:Fp)(n:Int):QQ:=
 gp (kq (ρ:=Int) (fun(i0:Int)(_:Unit)=>
 (idx l i0).bind fun a=>
 if (decide (a=n))then
 some (.ret i0)
 else
 some (.next ())) 0 (l.length:Int) ()) (fun _=>
 some (-1)) (fun v0=>some v0)
def Hd(g:d4)(p:BH):Option (d4×d6×Int):=
 (IL g p).bind fun b=>
 if (!decide (b=0))then
 some (d4.mk [] [],d6.mk [] [],b)
 else
 (tc (fun(i0:Int)(s0:d4)=>
 (idx p.d3 i0).bind fun c=>
 (idx g.d3 c).bind fun d=>
 (Ak s0.d3 [d]).bind fun e=>
 some (d4.mk e s0.d5)) 0 (p.d3.length:Int) (d4.mk [] [])).bind fun s0=>
 (tc (fun(i2:Int)(s2:d4)=>
 (idx p.d5 i2).bind fun f=>
 (idx g.d5 f).bind fun a=>
 (IM p.d3 a.o4).bind fun h=>
 (IM p.d3 a.To).bind fun i=>
 (Ak s2.d5 [Bo.mk a.og h i]).bind fun j=>
 some (d4.mk s2.d3 j)) 0 (p.d5.length:Int) s0).bind fun s2=>
 (Ak [] p.d3).bind fun k=>
 (Ak [] p.d5).bind fun l=>
 some (s2,d6.mk k l,0)
def My(a:f0):QQ:=
 (IL a.ne.d4 a.x5).bind fun b=>
 if (!decide (b=0))then
 some b
 else
 (Hd a.ne.d4 a.x5).bind fun c=>
 (Gn c.1 a.fq.d4 a.tl).bind fun d=>
 some d
def Qi(l:Fp)(n:Int):K1:=
 gp (kq (ρ:=Bool) (fun(i0:Int)(_:Unit)=>
 (idx l i0).bind fun a=>
 if (decide (a=n))then
 some (.ret true)
 else
 some (.next ())) 0 (l.length:Int) ()) (fun _=>
 some false) (fun v0=>some v0)
def Kv(n:Int)(l:Fp):Option Fp:=
 (tc (fun(i0:Int)(s0:Fp)=>
 (Qi l i0).bind fun a=>
 if (!a)then
 (Ak s0 [i0]).bind fun b=>
 some b
 else
 some s0) 0 n []).bind fun s0=>
 some s0
def Jj(a:f0):Option (Fp×Fp):=
 (Kv (a.fq.d4.d3.length:Int) a.tl.d3).bind fun b=>
 (Kv (a.fq.d4.d5.length:Int) a.tl.d5).bind fun c=>
 some (b,c)
def Kc[Ev](t:AC)(g:d4)(b:Fp)(a:Fp):K1:=
 gp (kq (ρ:=Bool) (fun(i0:Int)(_:Unit)=>
 (idx b i0).bind fun d=>
 (idx g.d3 d).bind fun e=>
 (idx t.d3 e).bind fun f=>
 if f.Aap then
 some (.ret false)
 else
 some (.next ())) 0 (b.length:Int) ()) (fun _=>
 gp (kq (ρ:=Bool) (fun(i2:Int)(_:Unit)=>
 (idx a i2).bind fun h=>
 (idx g.d5 h).bind fun c=>
 (idx g.d3 c.o4).bind fun i=>
 (idx g.d3 c.To).bind fun j=>
 (Kr t c.og i j).bind fun k=>
 if (!k)then
 some (.ret false)
 else
 some (.next ())) 0 (a.length:Int) ()) (fun _=>
 some true) (fun v2=>some v2)) (fun v0=>some v0)
def Jv[Ev](t:AC)(a:f0):QQ:=
 (E7 t).bind fun b=>
 if (!decide (b.2=0))then
 some b.2
 else
 (FK a.qo).bind fun g=>
 if (!g)then
 some 2
 else
 (Gs t a.ne).bind fun c=>
 if (!decide (c=0))then
 some c
 else
 (LV t a).bind fun d=>
 if (!decide (d=0))then
 some d
 else
 (My a).bind fun e=>
 if (!decide (e=0))then
 some e
 else
 (E1 a.tl.d3).bind fun h=>
 (if(!h)then some true else((E1 a.tl.d5).bind fun i=>
 some (!i))).bind fun j=>
 if j then
 some 11
 else
 (Jj a).bind fun f=>
 (Kc t a.fq.d4 f.1 f.2).bind fun k=>
 if (!k)then
 some 13
 else
 (Ju t a.ne a.d7).bind fun l=>
 some l
def La[Ev](t:AC)(a:List f0):QQ:=
 (E7 t).bind fun b=>
 if (!decide (b.2=0))then
 some b.2
 else
 if (decide (10<(a.length:Int)))then
 some 3
 else
 gp (kq (ρ:=Int) (fun(i0:Int)(_:Unit)=>
 (idx a i0).bind fun d=>
 (Jv t d).bind fun c=>
 if (!decide (c=0))then
 some (.ret c)
 else
 some (.next ())) 0 (a.length:Int) ()) (fun _=>
 some 0) (fun v0=>some v0)
def Jy[Ev](t:AC)(a:List f0)(d:AH):QQ:=
 (La t a).bind fun b=>
 if (!decide (b=0))then
 some b
 else
 (Gq t d).bind fun c=>
 some c.2
def LZ[Ev](t:AC)(a:List f0)(b:AH):K1:=
 (if(((decide (4<(a.length:Int)))&&(decide ((a.length:Int)<=10)))||(decide (12<(a.length:Int))))then some true else((KW t).bind fun c=>
 some (!c))).bind fun d=>
 (if d then some true else((Gp b).bind fun e=>
 some (!e))).bind fun f=>
 if f then
 some false
 else
 gp (kq (ρ:=Bool) (fun(i0:Int)(s0:Bool)=>
 (idx a i0).bind fun g=>
 (Jw t g b).bind fun h=>
 if (!h)then
 some (.ret false)
 else
 (if s0 then((idx a i0).bind fun i=>
 some (decide ((i.ne.d4.d3.length:Int)<=3)))else some false).bind fun j=>
 (if j then((idx a i0).bind fun k=>
 some (decide ((k.ne.d4.d5.length:Int)<=2)))else some false).bind fun l=>
 (if l then((idx a i0).bind fun m=>
 some (decide ((m.fq.d4.d3.length:Int)<=5)))else some false).bind fun n=>
 (if n then((idx a i0).bind fun o=>
 (idx a i0).bind fun p=>
 (Ln o.ne p.d7 1).bind fun q=>
 some (q))else some false).bind fun r=>
 some (.next r)) 0 (a.length:Int) true) (fun s0=>
 (Jy t a b).bind fun s=>
 some ((!decide (s=0))||((s0&&(decide ((b.d4.d3.length:Int)<=6)))&&(decide ((b.d4.d5.length:Int)<=8))))) (fun v0=>some v0)
def E3(m:AO)(n:Int):K1:=
 (KX m.d6 n).bind fun a=>
 some (a&&(decide ((m.hV.length:Int)<=n)))
def OP(d:AR)(a:Int):K1:=
 (Gp d.kg).bind fun e=>
 if ((!e)||(decide (a<(d.j4.length:Int))))then
 some false
 else
 gp (kq (ρ:=Bool) (fun(i0:Int)(_:Unit)=>
 (idx d.j4 i0).bind fun b=>
 (E3 b.o3 140).bind fun c=>
 if (!c)then
 some (.ret false)
 else
 some (.next ())) 0 (d.j4.length:Int) ()) (fun _=>
 some true) (fun v0=>some v0)
def Qj(a:AI)(b:Int):K1:=
 (if((decide ((a.ff.j4.length:Int)<=b))||(decide (30<(a.ff.j4.length:Int))))then((OP a.ff 33).bind fun c=>
 some (c))else some false).bind fun d=>
 some (d&&(decide ((a.kl.length:Int)<=25)))
def KN[Ev](c:DM):K1:=
 (LZ c.T c.AaH c.S.ff.kg).bind fun a=>
 (if a then((Qj c.S 5).bind fun b=>
 some (b))else some false).bind fun d=>
 some d
def Gz(a:Fp)(b:Fp):K1:=
 if (!decide ((a.length:Int)=(b.length:Int)))then
 some false
 else
 gp (kq (ρ:=Bool) (fun(i0:Int)(_:Unit)=>
 (idx a i0).bind fun c=>
 (idx b i0).bind fun d=>
 if (!decide (c=d))then
 some (.ret false)
 else
 some (.next ())) 0 (a.length:Int) ()) (fun _=>
 some true) (fun v0=>some v0)
def Ms(a:d4)(b:d4):K1:=
 (Gz a.d3 b.d3).bind fun c=>
 if ((!c)||(!decide ((a.d5.length:Int)=(b.d5.length:Int))))then
 some false
 else
 gp (kq (ρ:=Bool) (fun(i0:Int)(_:Unit)=>
 (idx a.d5 i0).bind fun d=>
 (idx b.d5 i0).bind fun e=>
 if (!decide (d=e))then
 some (.ret false)
 else
 some (.next ())) 0 (a.d5.length:Int) ()) (fun _=>
 some true) (fun v0=>some v0)
def Ji[Ev](a:Fp)(b:Fp):QQ:=
 gp (Ep (ρ:=Int) (fun(s0:Int)=>
 if ((decide (s0<(a.length:Int)))&&(decide (s0<(b.length:Int))))then
 (idx a s0).bind fun c=>
 (idx b s0).bind fun d=>
 if (!decide (c=d))then
 (idx a s0).bind fun e=>
 (idx b s0).bind fun f=>
 some (.ret (Aj (e-f)))
 else
 some (.next (Aj (s0+1)))
 else
 some (.brk s0)) 0) (fun s0=>
 some (Aj ((a.length:Int)-(b.length:Int)))) (fun v0=>some v0)
def Mt[Ev](a:AH)(b:AH):K1:=
 (Ms a.d4 b.d4).bind fun c=>
 if ((!c)||(!decide ((a.fd.length:Int)=(b.fd.length:Int))))then
 some false
 else
 gp (kq (ρ:=Bool) (fun(i0:Int)(_:Unit)=>
 (idx a.fd i0).bind fun d=>
 (idx b.fd i0).bind fun e=>
 (Ji d e).bind fun f=>
 if (!decide (f=0))then
 some (.ret false)
 else
 some (.next ())) 0 (a.fd.length:Int) ()) (fun _=>
 some true) (fun v0=>some v0)
def Gy(a:Fp)(b:Fp):K1:=
 if (!decide ((a.length:Int)=(b.length:Int)))then
 some false
 else
 gp (kq (ρ:=Bool) (fun(i0:Int)(_:Unit)=>
 (idx a i0).bind fun c=>
 (idx b i0).bind fun d=>
 if (!decide (c=d))then
 some (.ret false)
 else
 some (.next ())) 0 (a.length:Int) ()) (fun _=>
 some true) (fun v0=>some v0)
def Ow(a:d6)(b:d6):K1:=
 (Gy a.d3 b.d3).bind fun e=>
 (if e then((Gy a.d5 b.d5).bind fun c=>
 some (c))else some false).bind fun d=>
 some d
def H3(a:List tg)(b:List tg):K1:=
 if (!decide ((a.length:Int)=(b.length:Int)))then
 some false
 else
 gp (kq (ρ:=Bool) (fun(i0:Int)(_:Unit)=>
 (idx a i0).bind fun c=>
 (idx b i0).bind fun d=>
 (if(!decide (c.f0=d.f0))then some true else((idx a i0).bind fun e=>
 (idx b i0).bind fun f=>
 (Ow e.o3.d6 f.o3.d6).bind fun g=>
 some (!g))).bind fun h=>
 (if h then some true else((idx a i0).bind fun i=>
 (idx b i0).bind fun j=>
 (Gz i.o3.hV j.o3.hV).bind fun k=>
 some (!k))).bind fun l=>
 if l then
 some (.ret false)
 else
 some (.next ())) 0 (a.length:Int) ()) (fun _=>
 some true) (fun v0=>some v0)
def Mz[Ev](a:AR)(b:AR):K1:=
 (Mt a.kg b.kg).bind fun e=>
 (if e then((H3 a.j4 b.j4).bind fun c=>
 some (c))else some false).bind fun d=>
 some d
def JU[Ev](a:AI)(b:AI):K1:=
 (Mz a.ff b.ff).bind fun e=>
 (if e then((Gz a.kl b.kl).bind fun c=>
 some (c))else some false).bind fun d=>
 some d
def EG(a:List f0):Option (List f0):=
 Ak [] a
def Ix(g:d4):Option d4:=
 (Ak [] g.d3).bind fun b=>
 (Ak [] g.d5).bind fun a=>
 some (d4.mk b a)
def G9(a:AH):Option AH:=
 (Ix a.d4).bind fun e=>
 (tc (fun(i0:Int)(s0:AH)=>
 (idx a.fd i0).bind fun b=>
 (Ak [] b).bind fun c=>
 (Ak s0.fd [c]).bind fun d=>
 some (AH.mk s0.d4 d)) 0 (a.fd.length:Int) (AH.mk e [])).bind fun s0=>
 some s0
def IR(m:AO):Option AO:=
 (Ak [] m.d6.d3).bind fun c=>
 (Ak [] m.d6.d5).bind fun a=>
 (Ak [] m.hV).bind fun b=>
 some (AO.mk (d6.mk c a) b)
def I3(d:AR):Option AR:=
 (G9 d.kg).bind fun f=>
 (tc (fun(i0:Int)(s0:AR)=>
 (idx d.j4 i0).bind fun a=>
 (idx d.j4 i0).bind fun b=>
 (IR b.o3).bind fun c=>
 (Ak s0.j4 [tg.mk a.f0 c]).bind fun e=>
 some (AR.mk s0.kg e)) 0 (d.j4.length:Int) (AR.mk f [])).bind fun s0=>
 some s0
def Dy(a:AI):Option AI:=
 (I3 a.ff).bind fun b=>
 (Ak [] a.kl).bind fun c=>
 some (AI.mk b c)
def Ny[Ev](t:AC)(d:f0)(c:AH):QQ:=
 (Jv t d).bind fun a=>
 if (!decide (a=0))then
 some a
 else
 (Gq t c).bind fun b=>
 some b.2
def I0(l:Fp):K1:=
 gp (kq (ρ:=Bool) (fun(i0:Int)(_:Unit)=>
 gp (kq (ρ:=Bool) (fun(i2:Int)(_:Unit)=>
 (idx l i0).bind fun a=>
 (idx l i2).bind fun b=>
 if (decide (a=b))then
 some (.ret false)
 else
 some (.next ())) 0 i0 ()) (fun _=>
 some (.next ())) (fun v2=>some (.ret v2))) 0 (l.length:Int) ()) (fun _=>
 some true) (fun v0=>some v0)
def LN[Ev](t:AC)(p:d4)(g:d4)(m:d6)(a:Bool):QQ:=
 if ((!decide ((m.d3.length:Int)=(p.d3.length:Int)))||(!decide ((m.d5.length:Int)=(p.d5.length:Int))))then
 some 20
 else
 gp (kq (ρ:=Int) (fun(i0:Int)(_:Unit)=>
 (idx m.d3 i0).bind fun n=>
 (if(decide (n<0))then some true else((idx m.d3 i0).bind fun o=>
 some (decide ((g.d3.length:Int)<=o)))).bind fun q=>
 if q then
 some (.ret 6)
 else
 (idx m.d3 i0).bind fun r=>
 (idx g.d3 r).bind fun s=>
 (idx p.d3 i0).bind fun u=>
 (G8 t s u).bind fun v=>
 if (!v)then
 some (.ret 13)
 else
 some (.next ())) 0 (m.d3.length:Int) ()) (fun _=>
 gp (kq (ρ:=Int) (fun(i2:Int)(_:Unit)=>
 (idx m.d5 i2).bind fun w=>
 (if(decide (w<0))then some true else((idx m.d5 i2).bind fun x=>
 some (decide ((g.d5.length:Int)<=x)))).bind fun y=>
 if y then
 some (.ret 6)
 else
 (idx p.d5 i2).bind fun c=>
 (idx m.d5 i2).bind fun d=>
 (idx g.d5 d).bind fun b=>
 if (!decide (c.og=b.og))then
 some (.ret 13)
 else
 (idx m.d3 c.o4).bind fun e=>
 (if(!decide (e=b.o4))then some true else((idx m.d3 c.To).bind fun f=>
 some (!decide (f=b.To)))).bind fun h=>
 if h then
 some (.ret 11)
 else
 some (.next ())) 0 (m.d5.length:Int) ()) (fun _=>
 (if a then((I0 m.d3).bind fun i=>
 (if(!i)then some true else((I0 m.d5).bind fun j=>
 some (!j))).bind fun k=>
 some (k))else some false).bind fun l=>
 if l then
 some 5
 else
 some 0) (fun v2=>some v2)) (fun v0=>some v0)
def IN[Ev](t:AC)(p:d4)(g:d4)(m:d6)(a:Bool):QQ:=
 (IP t p g).bind fun b=>
 if (!decide (b=0))then
 some b
 else
 (LN t p g m a).bind fun c=>
 some c
def LP[Ev](t:AC)(p:ec)(c:AH):QQ:=
 (Gs t p).bind fun a=>
 if (!decide (a=0))then
 some a
 else
 (Gq t c).bind fun b=>
 some b.2
def IQ(a:kp)(c:Fp):QQ:=
 if (decide (a.Var<0))then
 some a.Add
 else
 (idx c a.Var).bind fun b=>
 some (Aj (b+a.Add))
def Jr(t:kp)(b:Fp):Option (Int×Bool):=
 if (decide (t.Var=(-1)))then
 some (t.Add,true)
 else
 if ((decide (t.Var<0))||(decide ((b.length:Int)<=t.Var)))then
 some (0,false)
 else
 (idx b t.Var).bind fun a=>
 some (Aj (a+t.Add),true)
def LI(a:Test)(d:Fp):K1:=
 (Jr a.ne d).bind fun b=>
 (Jr a.fq d).bind fun c=>
 if ((!b.2)||(!c.2))then
 some false
 else
 some (((decide (a.mo=1))&&(decide (b.1<=c.1)))||((decide (a.mo=2))&&(decide (b.1=c.1))))
def KZ(p:ec)(l:AH)(m:d6):Option (Fp×Int):=
 (Is p.hV 0).bind fun d=>
 (Is p.hV false).bind fun e=>
 gp (kq (ρ:=(Fp×Int)) (fun(i0:Int)(s0:Fp×a5)=>
 (idx p.gn i0).bind fun a=>
 (idx m.d3 a.t5).bind fun f=>
 (idx l.fd f).bind fun g=>
 (idx g a.ns).bind fun b=>
 (if(decide (0<=a.kp.Var))then((idx s0.2 a.kp.Var).bind fun h=>
 some (!h))else some false).bind fun i=>
 if i then
 (idx s0.2 a.kp.Var).bind fun n=>
 (idx s0.1 a.kp.Var).bind fun o=>
 (IQ a.kp (BP s0.1 a.kp.Var (Aj (b-a.kp.Add)))).bind fun c=>
 if (!decide (c=b))then
 some (.ret ([],11))
 else
 some (.next (BP s0.1 a.kp.Var (Aj (b-a.kp.Add)),BP s0.2 a.kp.Var true))
 else
 (IQ a.kp s0.1).bind fun c=>
 if (!decide (c=b))then
 some (.ret ([],11))
 else
 some (.next (s0.1,s0.2))) 0 (p.gn.length:Int) (d,e)) (fun s0=>
 gp (kq (ρ:=(Fp×Int)) (fun(i2:Int)(_:Unit)=>
 (idx p.sx i2).bind fun j=>
 (LI j s0.1).bind fun k=>
 if (!k)then
 some (.ret ([],16))
 else
 some (.next ())) 0 (p.sx.length:Int) ()) (fun _=>
 some (s0.1,0)) (fun v2=>some v2)) (fun v0=>some v0)
def LO[Ev](t:AC)(p:ec)(a:AH)(m:d6):Option (Fp×Int):=
 (LP t p a).bind fun b=>
 if (!decide (b=0))then
 some ([],b)
 else
 (IN t p.d4 a.d4 m false).bind fun c=>
 if (!decide (c=0))then
 some ([],c)
 else
 (KZ p a m).bind fun d=>
 some (d.1,d.2)
def Iz[Ev](t:AC)(p:d4)(g:d4)(m:d6):Option (d4×Int):=
 (IN t p g m false).bind fun a=>
 if (!decide (a=0))then
 some (d4.mk [] [],a)
 else
 (Ix p).bind fun b=>
 gp (Ep (ρ:=(d4×Int)) (fun(s0:d4×Int)=>
 if (decide (s0.2<(s0.1.d3.length:Int)))then
 (idx m.d3 s0.2).bind fun c=>
 (idx g.d3 c).bind fun d=>
 (idx s0.1.d3 s0.2).bind fun e=>
 some (.next (d4.mk (BP s0.1.d3 s0.2 d) s0.1.d5,Aj (s0.2+1)))
 else
 some (.brk (s0.1,s0.2))) (b,0)) (fun s0=>
 some (s0.1,0)) (fun v0=>some v0)
def Nw(l:d4)(g:d4)(b:BH)(m:d6):QQ:=
 (Gn l g m).bind fun a=>
 if (!decide (a=0))then
 some a
 else
 (IL l b).bind fun c=>
 some c
def Dw(l:Fp)(n:Int):K1:=
 gp (kq (ρ:=Bool) (fun(i0:Int)(_:Unit)=>
 (idx l i0).bind fun a=>
 if (decide (a=n))then
 some (.ret true)
 else
 some (.next ())) 0 (l.length:Int) ()) (fun _=>
 some false) (fun v0=>some v0)
def Fk(a:Fp)(b:Fp):Option (List GP):=
 (tc (fun(i0:Int)(s0:List GP)=>
 (tc (fun(i2:Int)(s2:List GP)=>
 (idx a i0).bind fun c=>
 (idx a i2).bind fun d=>
 (if(decide (c=d))then((Dw b i0).bind fun e=>
 (if(!e)then some true else((Dw b i2).bind fun f=>
 some (!f))).bind fun g=>
 some (g))else some false).bind fun h=>
 if h then
 (Ak s2 [GP.mk i0 i2]).bind fun i=>
 some i
 else
 some s2) (Aj (i0+1)) (a.length:Int) s0).bind fun s2=>
 some s2) 0 (a.length:Int) []).bind fun s0=>
 some s0
def JT(a:Fp)(b:Fp):Option Fp:=
 (tc (fun(i0:Int)(s0:Fp)=>
 (Dw b i0).bind fun c=>
 if (!c)then
 (idx a i0).bind fun d=>
 (Ak s0 [d]).bind fun e=>
 some e
 else
 some s0) 0 (a.length:Int) []).bind fun s0=>
 some s0
def Iy(l:d4)(g:d4)(b:BH)(m:d6):Option Fp:=
 (JT m.d3 b.d3).bind fun a=>
 (tc (fun(i0:Int)(s0:Fp)=>
 (Dw m.d5 i0).bind fun c=>
 (if(!c)then((idx g.d5 i0).bind fun d=>
 (Dw a d.o4).bind fun e=>
 (if e then some true else((idx g.d5 i0).bind fun f=>
 (Dw a f.To).bind fun h=>
 some (h))).bind fun i=>
 some (i))else some false).bind fun j=>
 if j then
 (Ak s0 [i0]).bind fun k=>
 some k
 else
 some s0) 0 (g.d5.length:Int) []).bind fun s0=>
 some s0
def Ku(n:Int)(l:Fp):Option Fp:=
 (tc (fun(i0:Int)(s0:Fp)=>
 (Dw l i0).bind fun a=>
 if (!a)then
 (Ak s0 [i0]).bind fun b=>
 some b
 else
 some s0) 0 n []).bind fun s0=>
 some s0
def Ph(l:d4)(g:d4)(a:BH)(m:d6):Option (BH×Int):=
 (Nw l g a m).bind fun b=>
 if (!decide (b=0))then
 some (BH.mk [] [],b)
 else
 (Fk m.d3 a.d3).bind fun c=>
 (Fk m.d5 a.d5).bind fun d=>
 if (decide (0<(Aj ((c.length:Int)+(d.length:Int)))))then
 some (BH.mk [] [],15)
 else
 (Iy l g a m).bind fun e=>
 if (decide (0<(e.length:Int)))then
 some (BH.mk [] [],14)
 else
 (JT m.d3 a.d3).bind fun f=>
 (Ku (g.d3.length:Int) f).bind fun h=>
 (JT m.d5 a.d5).bind fun i=>
 (Ku (g.d5.length:Int) i).bind fun j=>
 some (BH.mk h j,0)
def I2(n:Int)(b:Fp)(m:Fp):Option Fp:=
 (tc (fun(i0:Int)(s0:Fp)=>
 (Ak s0 [(-1)]).bind fun c=>
 some c) 0 n []).bind fun s0=>
 (tc (fun(i2:Int)(s2:Fp)=>
 (idx b i2).bind fun a=>
 (idx m i2).bind fun d=>
 (idx s2 a).bind fun e=>
 some (BP s2 a d)) 0 (b.length:Int) s0).bind fun s2=>
 some s2
def FE(c:Ag)(a:Fp):K1:=
 gp (kq (ρ:=Bool) (fun(i0:Int)(_:Unit)=>
 (idx c.p.d5 i0).bind fun b=>
 if ((decide ((a.length:Int)<=b.o4))||(decide ((a.length:Int)<=b.To)))then
 some (.next ())
 else
 (tc (fun(i2:Int)(s2:Bool)=>
 (idx c.g.d5 i2).bind fun d=>
 (if s2 then some true else((if(decide (b.og=d.og))then((idx a b.o4).bind fun e=>
 some (decide (d.o4=e)))else some false).bind fun f=>
 (if f then((idx a b.To).bind fun h=>
 some (decide (d.To=h)))else some false).bind fun i=>
 some (i))).bind fun j=>
 some j) 0 (c.g.d5.length:Int) false).bind fun s2=>
 if (!s2)then
 some (.ret false)
 else
 some (.next ())) 0 (c.p.d5.length:Int) ()) (fun _=>
 some true) (fun v0=>some v0)
def Cp[Ev](b:Ag)(l:Fp)(n:Int):K1:=
 gp (Ep (ρ:=Bool) (fun(s0:Int)=>
 if ((decide (s0<(l.length:Int)))&&b.ej)then
 (idx l s0).bind fun a=>
 if (decide (a=n))then
 some (.ret true)
 else
 some (.next (Aj (s0+1)))
 else
 some (.brk s0)) 0) (fun s0=>
 some false) (fun v0=>some v0)
def CE[Ev]:Nat->Ag->Fp->Fp->Option Ag
 |0,_,_,_=>none|n+1,a,b,l=>
  if (decide (a.up<(a.Aaz.length:Int)))then
  some a
  else
  if (decide ((l.length:Int)=(a.p.d5.length:Int)))then
  (Ak [] b).bind fun o=>
  (Ak [] l).bind fun q=>
  (Ak a.Aaz [d6.mk o q]).bind fun r=>
  some (Ag.mk a.t a.p a.g a.gt a.ej a.up r)
  else
  (idx a.p.d5 (l.length:Int)).bind fun c=>
  gp (Ep (ρ:=Ag) (fun(s0:Ag×Int)=>
  if (decide (s0.2<(s0.1.g.d5.length:Int)))then
  (idx s0.1.g.d5 s0.2).bind fun d=>
  (idx s0.1.gt.d5 (l.length:Int)).bind fun s=>
  (if(decide (0<=s))then((idx s0.1.gt.d5 (l.length:Int)).bind fun u=>
  some (!decide (u=s0.2)))else some false).bind fun v=>
  (if v then some true else((Cp s0.1 l s0.2).bind fun w=>
  some (w))).bind fun x=>
  (if(x||(!decide (c.og=d.og)))then some true else((idx b c.o4).bind fun e=>
  some (!decide (d.o4=e)))).bind fun f=>
  (if f then some true else((idx b c.To).bind fun h=>
  some (!decide (d.To=h)))).bind fun i=>
  if i then
  some (.next (s0.1,Aj (s0.2+1)))
  else
  (Ak [] l).bind fun j=>
  (Ak j [s0.2]).bind fun k=>
  (CE n s0.1 b k).bind fun m=>
  some (.next (m,Aj (s0.2+1)))
  else
  some (.brk (s0.1,s0.2))) (a,0)) (fun s0=>
  some s0.1) (fun v0=>some v0)
def L3[Ev](b:Ag)(a:Fp)(l:Fp):Option Ag:=KC fun n=>CE n b a l
def CF[Ev]:Nat->Ag->Fp->Option Ag
 |0,_,_=>none|n+1,a,l=>
  (if(decide (a.up<(a.Aaz.length:Int)))then some true else((FE a l).bind fun d=>
  some (!d))).bind fun e=>
  if e then
  some a
  else
  if (decide ((l.length:Int)=(a.p.d3.length:Int)))then
  (L3 a l []).bind fun f=>
  some f
  else
  gp (Ep (ρ:=Ag) (fun(s0:Ag×Int)=>
  if (decide (s0.2<(s0.1.g.d3.length:Int)))then
  (idx s0.1.gt.d3 (l.length:Int)).bind fun h=>
  (if(decide (0<=h))then((idx s0.1.gt.d3 (l.length:Int)).bind fun i=>
  some (!decide (i=s0.2)))else some false).bind fun j=>
  (if j then some true else((Cp s0.1 l s0.2).bind fun k=>
  some (k))).bind fun m=>
  (if m then some true else((idx s0.1.g.d3 s0.2).bind fun o=>
  (idx s0.1.p.d3 (l.length:Int)).bind fun q=>
  (G8 s0.1.t o q).bind fun r=>
  some (!r))).bind fun s=>
  if s then
  some (.next (s0.1,Aj (s0.2+1)))
  else
  (Ak [] l).bind fun u=>
  (Ak u [s0.2]).bind fun b=>
  (CF n s0.1 b).bind fun c=>
  some (.next (c,Aj (s0.2+1)))
  else
  some (.brk (s0.1,s0.2))) (a,0)) (fun s0=>
  some s0.1) (fun v0=>some v0)
def Ij[Ev](a:Ag)(l:Fp):Option Ag:=KC fun n=>CF n a l
def ON[Ev](t:AC)(p:d4)(g:d4)(b:d6)(a:Bool)(c:Int):Option (List d6):=
 (Ij (Ag.mk t p g b a c []) []).bind fun d=>
 some d.Aaz
def I1(l:Fp)(a:Int)(n:Int):QQ:=
 if (!decide ((l.length:Int)=a))then
 some 20
 else
 gp (kq (ρ:=Int) (fun(i0:Int)(_:Unit)=>
 (idx l i0).bind fun b=>
 (if(decide (b<(-1)))then some true else((idx l i0).bind fun c=>
 some (decide (n<=c)))).bind fun d=>
 if d then
 some (.ret 6)
 else
 some (.next ())) 0 (l.length:Int) ()) (fun _=>
 some 0) (fun v0=>some v0)
def KY[Ev](t:AC)(p:d4)(g:d4)(a:d6)(b:Bool):Option (List d6×Int):=
 (IP t p g).bind fun c=>
 if (!decide (c=0))then
 some ([],c)
 else
 if ((!decide ((a.d3.length:Int)=(p.d3.length:Int)))||(!decide ((a.d5.length:Int)=(p.d5.length:Int))))then
 some ([],20)
 else
 (I1 a.d3 (p.d3.length:Int) (g.d3.length:Int)).bind fun d=>
 if (!decide (d=0))then
 some ([],d)
 else
 (I1 a.d5 (p.d5.length:Int) (g.d5.length:Int)).bind fun e=>
 if (!decide (e=0))then
 some ([],e)
 else
 (ON t p g a b 5000).bind fun f=>
 if (decide (5000<(f.length:Int)))then
 some ([],3)
 else
 some (f,0)
def Ek(a:kp)(c:Fp):Option (Int×Int):=
 if ((decide (a.Var<(-1)))||(decide ((c.length:Int)<=a.Var)))then
 some (0,6)
 else
 (IQ a c).bind fun b=>
 some (b,0)
def Kb(q:ec)(p:AH)(m:d6)(c:Fp):Option (Fp×Bool):=
 (Ak [] c).bind fun h=>
 (Is q.hV false).bind fun i=>
 (tc (fun(i0:Int)(s0:Fp×a5)=>
 (idx s0.2 i0).bind fun t=>
 if (decide ((c.length:Int)<=i0))then
 (Ak s0.1 [0]).bind fun j=>
 some (j,BP s0.2 i0 (decide (i0<(c.length:Int))))
 else
 some (s0.1,BP s0.2 i0 (decide (i0<(c.length:Int))))) 0 q.hV (h,i)).bind fun s0=>
 gp (kq (ρ:=(Fp×Bool)) (fun(i2:Int)(s2:Fp×a5)=>
 (idx q.gn i2).bind fun a=>
 (idx m.d3 a.t5).bind fun k=>
 (idx p.fd k).bind fun l=>
 (idx l a.ns).bind fun e=>
 (if(decide (0<=a.kp.Var))then((idx s2.2 a.kp.Var).bind fun n=>
 some (!n))else some false).bind fun o=>
 if o then
 (idx s2.1 a.kp.Var).bind fun r=>
 (idx s2.2 a.kp.Var).bind fun s=>
 (Ek a.kp (BP s2.1 a.kp.Var (Aj (e-a.kp.Add)))).bind fun d=>
 if (!decide (d.1=e))then
 some (.ret ([],false))
 else
 some (.next (BP s2.1 a.kp.Var (Aj (e-a.kp.Add)),BP s2.2 a.kp.Var true))
 else
 (Ek a.kp s2.1).bind fun d=>
 if (!decide (d.1=e))then
 some (.ret ([],false))
 else
 some (.next (s2.1,s2.2))) 0 (q.gn.length:Int) (s0.1,s0.2)) (fun s2=>
 gp (kq (ρ:=(Fp×Bool)) (fun(i4:Int)(_:Unit)=>
 (idx q.sx i4).bind fun b=>
 (Ek b.ne s2.1).bind fun f=>
 (Ek b.fq s2.1).bind fun g=>
 if (((decide (b.mo=1))&&(decide (g.1<f.1)))||((decide (b.mo=2))&&(!decide (f.1=g.1))))then
 some (.ret ([],false))
 else
 some (.next ())) 0 (q.sx.length:Int) ()) (fun _=>
 some (s2.1,true)) (fun v4=>some v4)) (fun v2=>some v2)
def HC[Ev](t:AC)(c:d7)(e:AH)(m:AO)(a:Bool):Option (List AO×Int):=
 (I2 (c.ec.d4.d3.length:Int) c.Map.d3 m.d6.d3).bind fun f=>
 (I2 (c.ec.d4.d5.length:Int) c.Map.d5 m.d6.d5).bind fun g=>
 (KY t c.ec.d4 e.d4 (d6.mk f g) a).bind fun b=>
 if (!decide (b.2=0))then
 some ([],b.2)
 else
 (tc (fun(i0:Int)(s0:List AO)=>
 (idx b.1 i0).bind fun h=>
 (Kb c.ec e h m.hV).bind fun d=>
 if d.2 then
 (idx b.1 i0).bind fun i=>
 (Ak s0 [AO.mk i d.1]).bind fun j=>
 some j
 else
 some s0) 0 (b.1.length:Int) []).bind fun s0=>
 some (s0,0)
def Dx[Ev]:Nat->AC->d7->AH->AO->Bool->Option (A6×Int)
 |0,_,_,_,_,_=>none|n+1,t,c,f,m,a=>
  if (decide (c.mo=2))then
  (idx c.hT 0).bind fun l=>
  (Dx n t l f m a).bind fun g=>
  if (decide (g.2=0))then
  some (DG,10)
  else
  if (decide (g.2=10))then
  some (DG,0)
  else
  some (DG,g.2)
  else
  if (decide (c.mo=3))then
  gp (kq (ρ:=(A6×Int)) (fun(i1:Int)(s1:A6×A6)=>
  (idx c.hT i1).bind fun o=>
  (Dx n t o f m a).bind fun h=>
  if (!decide (h.2=0))then
  some (.ret (DG,h.2))
  else
  (Ak s1.2.hT [h.1]).bind fun p=>
  some (.next (s1.1,A6.mk s1.2.AaB s1.2.o3 p))) 0 (c.hT.length:Int) (DG,DG)) (fun s1=>
  some (s1.2,0)) (fun v1=>some v1)
  else
  if (decide (c.mo=4))then
  gp (kq (ρ:=(A6×Int)) (fun(i3:Int)(s3:A6)=>
  (idx c.hT i3).bind fun q=>
  (Dx n t q f m a).bind fun d=>
  if (!decide (d.2=10))then
  some (.ret (A6.mk i3 (AO.mk (d6.mk [] []) []) [d.1],d.2))
  else
  some (.next s3)) 0 (c.hT.length:Int) DG) (fun s3=>
  some (DG,10)) (fun v3=>some v3)
  else
  if (decide (c.mo=5))then
  (HC t c f m a).bind fun b=>
  if (!decide (b.2=0))then
  some (DG,b.2)
  else
  gp (kq (ρ:=(A6×Int)) (fun(i5:Int)(s5:A6)=>
  (idx c.hT 0).bind fun i=>
  (idx b.1 i5).bind fun j=>
  (Dx n t i f j a).bind fun e=>
  if (!decide (e.2=10))then
  (idx b.1 i5).bind fun k=>
  some (.ret (A6.mk 0 k [e.1],e.2))
  else
  some (.next s5)) 0 (b.1.length:Int) DG) (fun s5=>
  some (DG,10)) (fun v5=>some v5)
  else
  some (DG,0)
def Qz[Ev](t:AC)(c:d7)(b:AH)(m:AO)(a:Bool):Option (A6×Int):=KC fun n=>Dx n t c b m a
def LQ[Ev](t:AC)(c:d7)(d:AH)(m:AO)(a:Bool):Option (Bool×Int):=
 (Qz t c d m a).bind fun b=>
 if (decide (b.2=10))then
 some (false,0)
 else
 some (decide (b.2=0),b.2)
def Kx[Ev](t:AC)(a:f0)(b:AH)(m:AO):Option (BH×Int):=
 (IN t a.ne.d4 b.d4 m.d6 a.sr).bind fun g=>
 if (!decide (g=0))then
 some (BH.mk [] [],1)
 else
 (LO t a.ne b m.d6).bind fun c=>
 if (!decide (c.2=0))then
 some (BH.mk [] [],c.2)
 else
 (Gy c.1 m.hV).bind fun h=>
 if (!h)then
 some (BH.mk [] [],11)
 else
 (Iz t a.ne.d4 b.d4 m.d6).bind fun d=>
 if (!decide (d.2=0))then
 some (BH.mk [] [],d.2)
 else
 (Ph d.1 b.d4 a.x5 m.d6).bind fun e=>
 if (!decide (e.2=0))then
 some (BH.mk [] [],e.2)
 else
 (LQ t a.d7 b m a.sr).bind fun f=>
 (if((decide (f.2=0))&&(!f.1))then
 some 16
 else
 some f.2).bind fun w1=>
 some (e.1,w1)
def Jh[Ev](t:AC)(b:AH)(p:BH):Option (AH×Int):=
 (Gq t b).bind fun c=>
 if (!decide (c.2=0))then
 some (AH.mk (d4.mk [] []) [],c.2)
 else
 (Hd b.d4 p).bind fun a=>
 if (!decide (a.2.2=0))then
 some (AH.mk (d4.mk [] []) [],a.2.2)
 else
 gp (Ep (ρ:=(AH×Int)) (fun(s0:AH×Int)=>
 if (decide (s0.2<(a.2.1.d3.length:Int)))then
 (idx a.2.1.d3 s0.2).bind fun d=>
 (idx b.fd d).bind fun e=>
 (Ak [] e).bind fun f=>
 (Ak s0.1.fd [f]).bind fun g=>
 some (.next (AH.mk s0.1.d4 g,Aj (s0.2+1)))
 else
 some (.brk (s0.1,s0.2))) (AH.mk a.1 [],0)) (fun s0=>
 some (s0.1,0)) (fun v0=>some v0)
def Kt(l:Fp)(n:Int):Option Fp:=
 (tc (fun(i0:Int)(s0:Fp)=>
 (Ak s0 [(-1)]).bind fun a=>
 (tc (fun(i2:Int)(s2:Fp)=>
 (idx l i2).bind fun b=>
 if (decide (b=i0))then
 (idx s2 i0).bind fun c=>
 some (BP s2 i0 i2)
 else
 some s2) 0 (l.length:Int) a).bind fun s2=>
 some s2) 0 n []).bind fun s0=>
 some s0
def Kd(n:Int)(a:Fp):Option Fp:=
 (Kt a n).bind fun b=>
 some b
def Ll[Ev](t:AC)(a:AH)(d:BH):Option (AH×d6):=
 (Jh t a d).bind fun b=>
 (Kd (a.d4.d3.length:Int) d.d3).bind fun c=>
 (Kd (a.d4.d5.length:Int) d.d5).bind fun e=>
 some (b.1,d6.mk c e)
def G0(a:Fp)(b:Fp):Option Fp:=
 (tc (fun(i0:Int)(s0:Fp)=>
 (idx a i0).bind fun c=>
 (idx b c).bind fun d=>
 (Ak s0 [d]).bind fun e=>
 some e) 0 (a.length:Int) []).bind fun s0=>
 some s0
def FV(d:Fp)(e:Fp)(a:Int)(l:Fp)(b:Int):Option Fp:=
 (Kt e a).bind fun c=>
 (tc (fun(i0:Int)(s0:Int×Fp)=>
 (idx c i0).bind fun f=>
 if (decide (0<=f))then
 (idx c i0).bind fun g=>
 (idx d g).bind fun h=>
 (idx l h).bind fun i=>
 (Ak s0.2 [i]).bind fun j=>
 some (s0.1,j)
 else
 (Ak s0.2 [s0.1]).bind fun k=>
 some (Aj (s0.1+1),k)) 0 a (b,[])).bind fun s0=>
 some s0.2
def He(a:Fp)(c:Int):K1:=
 gp (kq (ρ:=Bool) (fun(i0:Int)(_:Unit)=>
 (idx a i0).bind fun b=>
 if (decide (b=c))then
 some (.ret false)
 else
 some (.next ())) 0 (a.length:Int) ()) (fun _=>
 some true) (fun v0=>some v0)
def Kw[Ev](t:AC)(a:f0)(p:AH)(c:d6):Option AH:=
 gp (Ep (ρ:=AH) (fun(s0:AH×Int)=>
 if (decide (s0.2<(a.fq.d4.d3.length:Int)))then
 (He a.tl.d3 s0.2).bind fun h=>
 if (!h)then
 some (.next (s0.1,Aj (s0.2+1)))
 else
 (idx a.fq.d4.d3 s0.2).bind fun i=>
 (Ak s0.1.d4.d3 [i]).bind fun j=>
 (idx a.fq.d4.d3 s0.2).bind fun k=>
 (Fv t k).bind fun d=>
 (tc (fun(i2:Int)(s2:Fp)=>
 (idx d.1 i2).bind fun l=>
 (Ak s2 [l.Low]).bind fun m=>
 some m) 0 (d.1.length:Int) []).bind fun s2=>
 (Ak s0.1.fd [s2]).bind fun n=>
 some (.next (AH.mk (d4.mk j s0.1.d4.d5) n,Aj (s0.2+1)))
 else
 some (.brk (s0.1,s0.2))) (p,0)) (fun s0=>
 gp (Ep (ρ:=AH) (fun(s4:AH×Int)=>
 if (decide (s4.2<(a.fq.d4.d5.length:Int)))then
 (He a.tl.d5 s4.2).bind fun o=>
 if o then
 (idx a.fq.d4.d5 s4.2).bind fun b=>
 (idx c.d3 b.o4).bind fun e=>
 (idx c.d3 b.To).bind fun f=>
 (Ak s4.1.d4.d5 [Bo.mk b.og e f]).bind fun g=>
 some (.next (AH.mk (d4.mk s4.1.d4.d3 g) s4.1.fd,Aj (s4.2+1)))
 else
 some (.next (s4.1,Aj (s4.2+1)))
 else
 some (.brk (s4.1,s4.2))) (s0.1,0)) (fun s4=>
 some s4.1) (fun v4=>some v4)) (fun v0=>some v0)
def MC[Ev](t:AC)(a:f0)(C:AH)(c:d6)(e:Fp):Option (AH×Int):=
 gp (kq (ρ:=(AH×Int)) (fun(i0:Int)(s0:AH)=>
 (idx a.fq.gn i0).bind fun q=>
 (Ek q.kp e).bind fun r=>
 gp (kq (ρ:=(AH×Int)) (fun(i2:Int)(s2:AH)=>
 (idx a.fq.gn i2).bind fun s=>
 (Ek s.kp e).bind fun u=>
 (idx a.fq.gn i2).bind fun v=>
 (idx c.d3 v.t5).bind fun w=>
 (idx a.fq.gn i0).bind fun x=>
 (idx c.d3 x.t5).bind fun y=>
 (if(decide (w=y))then((idx a.fq.gn i2).bind fun z=>
 (idx a.fq.gn i0).bind fun A=>
 some (decide (z.ns=A.ns)))else some false).bind fun B=>
 if (B&&(!decide (r.1=u.1)))then
 some (.ret (AH.mk (d4.mk [] []) [],11))
 else
 some (.next s2)) 0 i0 s0) (fun s2=>
 some (.next s2)) (fun v2=>some (.ret v2))) 0 (a.fq.gn.length:Int) (AH.mk (d4.mk [] []) [])) (fun s0=>
 gp (kq (ρ:=(AH×Int)) (fun(i4:Int)(s4:AH×AH)=>
 (idx a.fq.gn i4).bind fun i=>
 (Ek i.kp e).bind fun b=>
 (idx a.fq.gn i4).bind fun j=>
 (idx c.d3 j.t5).bind fun d=>
 (idx s4.1.d4.d3 d).bind fun k=>
 (Fv t k).bind fun f=>
 (idx a.fq.gn i4).bind fun l=>
 (idx f.1 l.ns).bind fun m=>
 (if(decide (b.1<m.Low))then some true else((idx a.fq.gn i4).bind fun n=>
 (idx f.1 n.ns).bind fun o=>
 some (decide (o.AaD<b.1)))).bind fun p=>
 if p then
 some (.ret (AH.mk (d4.mk [] []) [],6))
 else
 (idx s4.1.fd d).bind fun g=>
 (idx a.fq.gn i4).bind fun h=>
 (idx g h.ns).bind fun D=>
 some (.next (AH.mk s4.1.d4 (BP s4.1.fd d (BP g h.ns b.1)),s4.2))) 0 (a.fq.gn.length:Int) (C,s0)) (fun s4=>
 some (s4.1,0)) (fun v4=>some v4)) (fun v0=>some v0)
def LX[Ev](t:AC)(a:f0)(e:AH)(m:AO):Option (Ax×Int):=
 (Ny t a e).bind fun h=>
 if (!decide (h=0))then
 some (IF,h)
 else
 (Kx t a e m).bind fun c=>
 if (!decide (c.2=0))then
 some (IF,c.2)
 else
 (Ll t e c.1).bind fun d=>
 (G0 m.d6.d3 d.2.d3).bind fun i=>
 (G0 m.d6.d5 d.2.d5).bind fun j=>
 (FV a.x5.d3 a.tl.d3 (a.fq.d4.d3.length:Int) i (c.1.d3.length:Int)).bind fun f=>
 (FV a.x5.d5 a.tl.d5 (a.fq.d4.d5.length:Int) j (c.1.d5.length:Int)).bind fun g=>
 (G9 d.1).bind fun k=>
 (Kw t a k (d6.mk f g)).bind fun l=>
 (MC t a l (d6.mk f g) m.hV).bind fun b=>
 if (!decide (b.2=0))then
 some (IF,b.2)
 else
 if ((decide (40<(b.1.d4.d3.length:Int)))||(decide (80<(b.1.d4.d5.length:Int))))then
 some (IF,3)
 else
 some (Ax.mk a m e b.1 d.2 (d6.mk f g),0)
def Ky[Ev](t:AC)(a:List f0)(d:AH)(m:tg):Option (Ax×Int):=
 if ((decide (m.f0<0))||(decide ((a.length:Int)<=m.f0)))then
 some (IF,6)
 else
 (idx a m.f0).bind fun c=>
 (LX t c d m.o3).bind fun b=>
 some (b.1,b.2)
def I4[Ev](t:AC)(a:List f0)(d:AR):Option (List Ax×Int×Int):=
 (Jy t a d.kg).bind fun c=>
 if (!decide (c=0))then
 some ([],0,c)
 else
 if (decide (30<(d.j4.length:Int)))then
 some ([],0,3)
 else
 gp (kq (ρ:=(List Ax×Int×Int)) (fun(i0:Int)(s0:List Ax×AH)=>
 (idx d.j4 i0).bind fun e=>
 (Ky t a s0.2 e).bind fun b=>
 if (!decide (b.2=0))then
 some (.ret ([],i0,b.2))
 else
 (Ak s0.1 [b.1]).bind fun f=>
 some (.next (f,b.1.wi))) 0 (d.j4.length:Int) ([],d.kg)) (fun s0=>
 some (s0.1,(s0.1.length:Int),0)) (fun v0=>some v0)
def IT(a:AI):QQ:=
 if (decide (20<(a.kl.length:Int)))then
 some 3
 else
 gp (kq (ρ:=Int) (fun(i0:Int)(_:Unit)=>
 (idx a.kl i0).bind fun b=>
 (if(decide (b<0))then some true else((idx a.kl i0).bind fun c=>
 some (decide ((a.ff.j4.length:Int)<c)))).bind fun d=>
 if d then
 some (.ret 6)
 else
 (if(decide (0<i0))then((idx a.kl i0).bind fun e=>
 (idx a.kl (Aj (i0-1))).bind fun f=>
 some (decide (e<f)))else some false).bind fun g=>
 if g then
 some (.ret 12)
 else
 some (.next ())) 0 (a.kl.length:Int) ()) (fun _=>
 some 0) (fun v0=>some v0)
def IS[Ev](t:AC)(a:List f0)(c:AI):QQ:=
 (I4 t a c.ff).bind fun b=>
 if (!decide (b.2.2=0))then
 some b.2.2
 else
 (IT c).bind fun d=>
 some d
def G2[Ev](t:AC)(c:List f0)(a:AI):Option (AI×Int):=
 (IS t c a).bind fun d=>
 if (!decide (d=0))then
 some (CC,d)
 else
 if (decide ((a.kl.length:Int)=0))then
 some (CC,8)
 else
 (Dy a).bind fun b=>
 (idx a.kl (Aj ((a.kl.length:Int)-1))).bind fun e=>
 (slc b.ff.j4 0 e).bind fun f=>
 (slc b.kl 0 (Aj ((a.kl.length:Int)-1))).bind fun g=>
 some (AI.mk (AR.mk b.ff.kg f) g,0)
def E5[Ev](c:DM):K1:=
 (C0).bind fun k=>
 (if(!k)then some true else((KN c).bind fun d=>
 some (!d))).bind fun e=>
 if e then
 (C0).bind fun f=>
 some f
 else
 (EG c.AaH).bind fun g=>
 (Dy c.S).bind fun h=>
 (CX c.T g h).bind fun a=>
 (G2 c.T c.AaH c.S).bind fun b=>
 (if(decide (a.2=b.2))then((JU a.1 b.1).bind fun i=>
 some (i))else some false).bind fun j=>
 some j
def HZ[Ev](a:List BJ)(f:BJ->K1):QQ:=
 gp (kq (ρ:=Int) (fun(i0:Int)(_:Unit)=>
 (idx a i0).bind fun b=>
 (f b).bind fun c=>
 if c then
 some (.ret i0)
 else
 some (.next ())) 0 (a.length:Int) ()) (fun _=>
 some (-1)) (fun v0=>some v0)
def DP[Ev](a:List BJ)(f:BJ->K1):K1:=
 (HZ a f).bind fun b=>
 some (decide (0<=b))
def CY(a:BJ):K1:=
 (E3 a.tg.o3 140).bind fun b=>
 some (!b)
def HT(a:List BJ):Option (List BJ):=
 Ak [] a
def Iv(n:Int):Option Fp:=
 (tc (fun(i0:Int)(s0:Fp)=>
 (Ak s0 [i0]).bind fun a=>
 some a) 0 n []).bind fun s0=>
 some s0
def Pg(g:d4):Option d6:=
 (Iv (g.d3.length:Int)).bind fun b=>
 (Iv (g.d5.length:Int)).bind fun a=>
 some (d6.mk b a)
def Jx(l:Fp)(f:Fp):Option Fp:=
 (tc (fun(i0:Int)(s0:Fp)=>
 (idx l i0).bind fun a=>
 if (decide (a<0))then
 (Ak s0 [(-1)]).bind fun b=>
 some b
 else
 (idx l i0).bind fun c=>
 (idx f c).bind fun d=>
 (Ak s0 [d]).bind fun e=>
 some e) 0 (l.length:Int) []).bind fun s0=>
 some s0
def LY[Ev](t:AC)(b:List f0)(d:AR):Option (AH×d6×Int):=
 (I4 t b d).bind fun a=>
 if (!decide (a.2.2=0))then
 some (AH.mk (d4.mk [] []) [],d6.mk [] [],a.2.2)
 else
 (Pg d.kg.d4).bind fun c=>
 (tc (fun(i0:Int)(s0:AH×d6)=>
 (idx a.1 i0).bind fun e=>
 (idx a.1 i0).bind fun f=>
 (Jx s0.2.d3 f.Aam.d3).bind fun g=>
 (idx a.1 i0).bind fun h=>
 (Jx s0.2.d5 h.Aam.d5).bind fun i=>
 some (e.wi,d6.mk g i)) 0 (a.1.length:Int) (d.kg,c)).bind fun s0=>
 (G9 s0.1).bind fun j=>
 some (j,s0.2,0)
def Ke[Ev](t:AC)(a:List f0)(d:AR)(m:tg):Option (AR×Int):=
 (LY t a d).bind fun b=>
 if (!decide (b.2.2=0))then
 some (Xt,b.2.2)
 else
 if (decide ((d.j4.length:Int)=30))then
 some (Xt,17)
 else
 (Ky t a b.1 m).bind fun c=>
 if (!decide (c.2=0))then
 some (Xt,c.2)
 else
 (I3 d).bind fun e=>
 (IR m.o3).bind fun f=>
 (Ak e.j4 [tg.mk m.f0 f]).bind fun g=>
 some (AR.mk e.kg g,0)
def NZ[Ev](t:AC)(a:List f0)(c:AI)(m:tg):Option (AI×Int):=
 (IS t a c).bind fun d=>
 if (!decide (d=0))then
 some (CC,d)
 else
 (Ke t a c.ff m).bind fun b=>
 if (!decide (b.2=0))then
 some (CC,b.2)
 else
 (Ak [] c.kl).bind fun e=>
 some (AI.mk b.1 e,0)
def Lb(a:AI):Option (AI×Int):=
 (IT a).bind fun d=>
 if (!decide (d=0))then
 some (CC,d)
 else
 if (decide ((a.kl.length:Int)=20))then
 some (CC,17)
 else
 (Dy a).bind fun b=>
 (Ak b.kl [(a.ff.j4.length:Int)]).bind fun c=>
 some (AI.mk b.ff c,0)
def Kf(b:AI):Option (AI×Int):=
 (IT b).bind fun d=>
 if (!decide (d=0))then
 some (CC,d)
 else
 if (decide ((b.kl.length:Int)=0))then
 some (CC,8)
 else
 (Dy b).bind fun a=>
 (slc a.kl 0 (Aj ((a.kl.length:Int)-1))).bind fun c=>
 some (AI.mk a.ff c,0)
def OR[Ev](t:AC)(b:List f0)(c:AI)(a:BJ):Option (AI×Int):=
 if (decide (a.mo=1))then
 (NZ t b c a.tg).bind fun d=>
 some (d.1,d.2)
 else
 if (decide (a.mo=2))then
 (Lb c).bind fun e=>
 some (e.1,e.2)
 else
 if (decide (a.mo=3))then
 (Kf c).bind fun f=>
 some (f.1,f.2)
 else
 if (decide (a.mo=4))then
 (G2 t b c).bind fun g=>
 some (g.1,g.2)
 else
 some (CC,1)
def OQ[Ev](t:AC)(a:List f0)(d:AI)(l:List BJ):Option (AI×Int×Int):=
 (IS t a d).bind fun c=>
 if (!decide (c=0))then
 some (CC,0,c)
 else
 if (decide (100<(l.length:Int)))then
 some (CC,0,3)
 else
 (Dy d).bind fun e=>
 gp (kq (ρ:=(AI×Int×Int)) (fun(i0:Int)(s0:AI×AI)=>
 (idx l i0).bind fun f=>
 (OR t a s0.1 f).bind fun b=>
 if (!decide (b.2=0))then
 some (.ret (CC,i0,b.2))
 else
 some (.next (b.1,s0.2))) 0 (l.length:Int) (e,CC)) (fun s0=>
 some (s0.1,(l.length:Int),0)) (fun v0=>some v0)
def Ge[Ev](c:DM)(l:List BJ):K1:=
 (C0).bind fun d=>
 (if(!d)then some true else((KN c).bind fun e=>
 some (!e))).bind fun f=>
 (if((f||((decide (5<(l.length:Int)))&&(decide ((l.length:Int)<=100))))||(decide (110<(l.length:Int))))then some true else((DP l CY).bind fun g=>
 some (g))).bind fun h=>
 if h then
 (C0).bind fun i=>
 some i
 else
 (EG c.AaH).bind fun j=>
 (Dy c.S).bind fun k=>
 (HT l).bind fun m=>
 (Dg c.T j k m).bind fun a=>
 (OQ c.T c.AaH c.S l).bind fun b=>
 (if((decide (a.2.2=b.2.2))&&(decide (a.2.1=b.2.1)))then((JU a.1 b.1).bind fun n=>
 some (n))else some false).bind fun o=>
 some o
def I6[Ev](t:AC)(a:List f0)(d:AI)(m:tg):Option (AI×Int):=
 (Cl t a d).bind fun b=>
 if (!decide (b=0))then
 some (CC,b)
 else
 (EA t a d m).bind fun c=>
 some (c.1,c.2)
def HQ[Ev](c:DM)(m:tg):K1:=
 (C0).bind fun n=>
 (if(!n)then some true else((KN c).bind fun d=>
 some (!d))).bind fun e=>
 (if e then some true else((E3 m.o3 140).bind fun f=>
 some (!f))).bind fun g=>
 if g then
 (C0).bind fun h=>
 some h
 else
 (EG c.AaH).bind fun i=>
 (Dy c.S).bind fun j=>
 (I6 c.T i j m).bind fun a=>
 (NZ c.T c.AaH c.S m).bind fun b=>
 (if(decide (a.2=b.2))then((JU a.1 b.1).bind fun k=>
 some (k))else some false).bind fun l=>
 some l
end
end Go.Sf.Sc
