/- The functions of the program as Lean functions. -/
import Derived.Test.YtmbomnkcdolalaaGreatTypes
import Derived.Test.YtmbomnkcdolalaaGreatSfText
import Derived.Test.YtmbomnkcdolalaaGreatSfF
set_option linter.all false
set_option maxRecDepth 100000
namespace Go.Sf.Sc
open Go Go.Sf
noncomputable section
abbrev Ho:Ar:=Ar.mk (gp.mk (⟨#[]⟩:ByteArray) (ea.mk (d4.mk [] []) [] 0 []) (ea.mk (d4.mk [] []) [] 0 []) (BA.mk [] []) (d5.mk [] []) false (d6.mk 0 [] (d5.mk [] []) (ea.mk (d4.mk [] []) [] 0 []))) (AL.mk (d5.mk [] []) []) (AG.mk (d4.mk [] []) []) (AG.mk (d4.mk [] []) []) (d5.mk [] []) (d5.mk [] [])
abbrev ES:AU:=AU.mk (AW.mk (AG.mk (d4.mk [] []) []) []) []
abbrev C0:A0:=A0.mk 0 (AL.mk (d5.mk [] []) []) []
def J8(c:Int):K1:=
 some (((decide (97<=c))&&(decide (c<=122)))||((decide (65<=c))&&(decide (c<=90))))
def GV[Ev](a:ByteArray)(e:Int->K1):QQ:=
 fq (EQ (ρ:=Int) (fun(s0:Int)=>
 (if(decide (s0<(a.size:Int)))then((AaC a s0).bind fun b=>
 (e b).bind fun c=>
 some (c))else some false).bind fun d=>
 if d then
 some (.next (Af (s0+1)))
 else
 some (.brk s0)) 0) (fun s0=>
 some s0) (fun v0=>some v0)
def JT(c:Int):K1:=
 some ((decide (48<=c))&&(decide (c<=57)))
def MY(c:Int):K1:=
 (J8 c).bind fun a=>
 (if a then some true else((JT c).bind fun b=>
 some (b))).bind fun d=>
 some (d||(decide (c=95)))
def KQ(c:Int):K1:=
 some (((decide (32<=c))&&(decide (c<=126)))&&(!decide (c=34)))
def Fh[Ev](a:ByteArray):Option (Int×Int):=
 (AaH a 1 a.size).bind fun e=>
 (GV e KQ).bind fun b=>
 (if(decide ((Af (1+b))=(a.size:Int)))then some true else((AaC a (Af (1+b))).bind fun c=>
 some (!decide (c=34)))).bind fun d=>
 if d then
 some (0,2)
 else
 if (decide (60<b))then
 some (0,3)
 else
 some (Af (b+2),0)
def slices_Index_string(a:List ByteArray)(c:ByteArray):QQ:=
 fq (j4 (ρ:=Int) (fun(i0:Int)(_:Unit)=>
 (idx a i0).bind fun b=>
 if (c==b)then
 some (.ret i0)
 else
 some (.next ())) 0 (a.length:Int) ()) (fun _=>
 some (-1)) (fun v0=>some v0)
def slices_Contains_string(b:List ByteArray)(a:ByteArray):K1:=
 (slices_Index_string b a).bind fun c=>
 some (decide (0<=c))
def MW(a:ByteArray):K1:=
 (if(decide (2<=(a.size:Int)))then((AaH a 0 2).bind fun d=>
 (slices_Contains_string [(⟨#[45,62]⟩:ByteArray),(⟨#[60,61]⟩:ByteArray),(⟨#[62,61]⟩:ByteArray),(⟨#[61,61]⟩:ByteArray),(⟨#[33,61]⟩:ByteArray)] d).bind fun b=>
 some (b))else some false).bind fun c=>
 some c
def strings_IndexByte(s:ByteArray)(c:Int):QQ:=some (Go.Lib.indexByte s.data.toList c.toNat.toUInt8)
def Hj[Ev](a:ByteArray):Option (Int×Int×Int):=
 (AaC a 0).bind fun b=>
 (J8 b).bind fun f=>
 if f then
 (GV a MY).bind fun c=>
 if (decide (20<c))then
 some (0,0,3)
 else
 some (1,c,0)
 else
 (JT b).bind fun g=>
 if g then
 (GV a JT).bind fun d=>
 if (decide (9<d))then
 some (0,0,3)
 else
 some (2,d,0)
 else
 if (decide (b=34))then
 (Fh a).bind fun e=>
 some (3,e.1,e.2)
 else
 (MW a).bind fun h=>
 if h then
 some (4,2,0)
 else
 (strings_IndexByte (⟨#[123,125,40,41,91,93,44,59,58,61,43,45,42,60,62,33,38,124,46,63]⟩:ByteArray) b).bind fun i=>
 if (decide (0<=i))then
 some (4,1,0)
 else
 some (0,0,2)
def Hy[Ev](t:EH):Option (ByteArray×Bool):=
 (if(decide (t.mo=3))then
 (SI (⟨#[34]⟩:ByteArray) t.AbU).bind fun b=>
 (SI b (⟨#[34]⟩:ByteArray)).bind fun c=>
 some c
 else
 some t.AbU).bind fun w1=>
 if (w1==(⟨#[]⟩:ByteArray))then
 some ((⟨#[]⟩:ByteArray),false)
 else
 (Hj w1).bind fun a=>
 some (w1,((decide (a.2.2=0))&&(decide (a.1=t.mo)))&&(decide (a.2.1=(w1.size:Int))))
def C8[Ev](a:ByteArray):K1:=
 (Hy (EH.mk 1 a 0)).bind fun b=>
 some b.2
def Cm[Ev](a:List B0)(f:B0->K1):QQ:=
 fq (j4 (ρ:=Int) (fun(i0:Int)(_:Unit)=>
 (idx a i0).bind fun b=>
 (f b).bind fun c=>
 if c then
 some (.ret i0)
 else
 some (.next ())) 0 (a.length:Int) ()) (fun _=>
 some (-1)) (fun v0=>some v0)
def B5[Ev](a:List B0)(f:B0->K1):K1:=
 (Cm a f).bind fun b=>
 some (decide (0<=b))
def Ma(m:B0)(a:B0):K1:=
 some (m.pq==a.pq)
def Cz[Ev]:Nat->AC->Int->Option (List kp)
 |0,_,_=>none|n+1,t,a=>
  (idx t.ci a).bind fun b=>
  (if(decide (0<=b.Aac))then
  (Cz n t b.Aac).bind fun c=>
  some c
  else
  some []).bind fun w1=>
  (idx t.ci a).bind fun d=>
  (Ag w1 d.up).bind fun e=>
  some e
def JU[Ev](t:AC)(a:Int):Option (List kp):=Je fun n=>Cz n t a
def DQ[Ev](a:List kp)(f:kp->K1):QQ:=
 fq (j4 (ρ:=Int) (fun(i0:Int)(_:Unit)=>
 (idx a i0).bind fun b=>
 (f b).bind fun c=>
 if c then
 some (.ret i0)
 else
 some (.next ())) 0 (a.length:Int) ()) (fun _=>
 some (-1)) (fun v0=>some v0)
def CR[Ev](a:List kp)(f:kp->K1):K1:=
 (DQ a f).bind fun b=>
 some (decide (0<=b))
def H7(y:kp)(a:kp):K1:=
 some (y.pq==a.pq)
def GX[Ev](l:List ByteArray):QQ:=
 if (decide (20<(l.length:Int)))then
 some 3
 else
 fq (j4 (ρ:=Int) (fun(i0:Int)(_:Unit)=>
 (idx l i0).bind fun a=>
 (C8 a).bind fun b=>
 if (!b)then
 some (.ret 2)
 else
 (slc l 0 i0).bind fun c=>
 (slices_Contains_string c a).bind fun d=>
 if d then
 some (.ret 5)
 else
 some (.next ())) 0 (l.length:Int) ()) (fun _=>
 some 0) (fun v0=>some v0)
def D4[Ev](a:kp)(b:List kp):QQ:=
 (C8 a.pq).bind fun d=>
 if (!d)then
 some 2
 else
 (CR b (fun y0=>H7 y0 a)).bind fun e=>
 if e then
 some 5
 else
 (GX a.t5).bind fun c=>
 if (!decide (c=0))then
 some c
 else
 (if(decide (0<(a.t5.length:Int)))then
 some ((decide (a.Low=0))&&(decide (a.AaD=(Af ((a.t5.length:Int)-1)))))
 else
 some (((decide ((-1000000)<=a.Low))&&(decide (a.Low<=a.AaD)))&&(decide (a.AaD<=1000000)))).bind fun w1=>
 if (!w1)then
 some 6
 else
 some 0
def Hl[Ev](t:AC)(c:Int):QQ:=
 (idx t.ci c).bind fun a=>
 (C8 a.pq).bind fun e=>
 if (!e)then
 some 2
 else
 (slc t.ci 0 c).bind fun f=>
 (B5 f (fun y0=>Ma y0 a)).bind fun g=>
 if g then
 some 5
 else
 if ((decide (a.Aac<(-1)))||(decide (c<=a.Aac)))then
 some 6
 else
 if (decide (4<(a.up.length:Int)))then
 some 3
 else
 (JU t c).bind fun b=>
 if (decide (8<(b.length:Int)))then
 some 3
 else
 fq (j4 (ρ:=Int) (fun(i1:Int)(_:Unit)=>
 (idx b i1).bind fun h=>
 (slc b 0 i1).bind fun i=>
 (D4 h i).bind fun d=>
 if (!decide (d=0))then
 some (.ret d)
 else
 some (.next ())) (Af ((b.length:Int)-(a.up.length:Int))) (b.length:Int) ()) (fun _=>
 some 0) (fun v1=>some v1)
def KA(n:Int)(a:AC):K1:=
 some ((decide (0<=n))&&(decide (n<(a.ci.length:Int))))
def Cl[Ev](a:List B9)(f:B9->K1):QQ:=
 fq (j4 (ρ:=Int) (fun(i0:Int)(_:Unit)=>
 (idx a i0).bind fun b=>
 (f b).bind fun c=>
 if c then
 some (.ret i0)
 else
 some (.next ())) 0 (a.length:Int) ()) (fun _=>
 some (-1)) (fun v0=>some v0)
def B4[Ev](a:List B9)(f:B9->K1):K1:=
 (Cl a f).bind fun b=>
 some (decide (0<=b))
def MZ(y:B9)(a:B9):K1:=
 some (y.pq==a.pq)
def JF(b:Int)(a:Int):K1:=
 some (((decide (0<=b))&&(decide (b<=40)))&&((decide (a=(-1)))||((decide (b<=a))&&(decide (a<=40)))))
def Hk[Ev](t:AC)(c:Int):QQ:=
 (idx t.d3 c).bind fun a=>
 (C8 a.pq).bind fun d=>
 if (!d)then
 some 2
 else
 (slc t.d3 0 c).bind fun e=>
 (B4 e (fun y0=>MZ y0 a)).bind fun f=>
 if f then
 some 5
 else
 (KA a.ns t).bind fun g=>
 (if(!g)then some true else((KA a.To t).bind fun h=>
 some (!h))).bind fun b=>
 (if b then
 some b
 else
 (JF a.Abh a.AaX).bind fun i=>
 (if(!i)then some true else((JF a.AbA a.Abf).bind fun j=>
 some (!j))).bind fun k=>
 some k).bind fun w1=>
 if w1 then
 some 6
 else
 some 0
def C1[Ev](t:AC):Option (ByteArray×Int):=
 if (decide ((t.ci.length:Int)=0))then
 some ((⟨#[]⟩:ByteArray),7)
 else
 if ((decide (12<(t.ci.length:Int)))||(decide (20<(t.d3.length:Int))))then
 some ((⟨#[]⟩:ByteArray),3)
 else
 fq (j4 (ρ:=(ByteArray×Int)) (fun(i1:Int)(_:Unit)=>
 (idx t.ci i1).bind fun c=>
 (Hl t i1).bind fun a=>
 if (!decide (a=0))then
 some (.ret (c.pq,a))
 else
 some (.next ())) 0 (t.ci.length:Int) ()) (fun _=>
 fq (j4 (ρ:=(ByteArray×Int)) (fun(i3:Int)(_:Unit)=>
 (idx t.d3 i3).bind fun d=>
 (Hk t i3).bind fun b=>
 if (!decide (b=0))then
 some (.ret (d.pq,b))
 else
 some (.next ())) 0 (t.d3.length:Int) ()) (fun _=>
 some ((⟨#[]⟩:ByteArray),0)) (fun v3=>some v3)) (fun v1=>some v1)
def Dn[Ev](a:Fp)(f:Int->K1):QQ:=
 fq (j4 (ρ:=Int) (fun(i0:Int)(_:Unit)=>
 (idx a i0).bind fun b=>
 (f b).bind fun c=>
 if c then
 some (.ret i0)
 else
 some (.next ())) 0 (a.length:Int) ()) (fun _=>
 some (-1)) (fun v0=>some v0)
def Az[Ev](a:Fp)(f:Int->K1):K1:=
 (Dn a f).bind fun b=>
 some (decide (0<=b))
def Gh(n:Int)(a:Int):K1:=
 some ((decide (0<=n))&&(decide (n<=a)))
def K7(t:Int):K1:=
 (Gh t 99).bind fun a=>
 some (!a)
def DR[Ev](a:List Bf)(f:Bf->K1):QQ:=
 fq (j4 (ρ:=Int) (fun(i0:Int)(_:Unit)=>
 (idx a i0).bind fun b=>
 (f b).bind fun c=>
 if c then
 some (.ret i0)
 else
 some (.next ())) 0 (a.length:Int) ()) (fun _=>
 some (-1)) (fun v0=>some v0)
def BN[Ev](a:List Bf)(f:Bf->K1):K1:=
 (DR a f).bind fun b=>
 some (decide (0<=b))
def Lz(e:Bf)(a:Int):K1:=
 (Gh e.ne 99).bind fun g=>
 (if g then((Gh e.ns (Af (a-1))).bind fun b=>
 some (b))else some false).bind fun c=>
 (if c then((Gh e.To (Af (a-1))).bind fun d=>
 some (d))else some false).bind fun f=>
 some f
def K8(e:Bf)(b:d4):K1:=
 (Lz e (b.ci.length:Int)).bind fun a=>
 some (!a)
def CU[Ev](g:d4):QQ:=
 if ((decide (40<(g.ci.length:Int)))||(decide (80<(g.d3.length:Int))))then
 some 3
 else
 (Az g.ci K7).bind fun a=>
 if a then
 some 6
 else
 (BN g.d3 (fun y0=>K8 y0 g)).bind fun b=>
 if b then
 some 6
 else
 some 0
def LF(a:Int)(b:AC):K1:=
 some ((decide (a<0))||(decide ((b.ci.length:Int)<=a)))
def El[Ev](t:AC)(l:Fp):QQ:=
 (C1 t).bind fun b=>
 if (!decide (b.2=0))then
 some b.2
 else
 (Az l (fun y0=>LF y0 t)).bind fun a=>
 if a then
 some 6
 else
 some 0
def slices_Clone_string(a:List ByteArray):Option (List ByteArray):=
 Ag [] a
def Dh[Ev](t:AC)(a:Int):Option (List kp×Int):=
 (El t [a]).bind fun c=>
 if (!decide (c=0))then
 some ([],c)
 else
 (JU t a).bind fun d=>
 (sx (fun(i0:Int)(s0:List kp)=>
 (idx s0 i0).bind fun e=>
 (slices_Clone_string e.t5).bind fun f=>
 (idx s0 i0).bind fun b=>
 some (BI s0 i0 (kp.mk b.pq b.Low b.AaD f))) 0 (d.length:Int) d).bind fun s0=>
 some (s0,0)
def IW[Ev](t:AC)(a:Int)(h:Fp):QQ:=
 if (decide ((t.ci.length:Int)<=a))then
 some 6
 else
 (idx t.ci a).bind fun d=>
 if d.Aao then
 some 13
 else
 (Dh t a).bind fun b=>
 if (!decide ((h.length:Int)=(b.1.length:Int)))then
 some 20
 else
 fq (j4 (ρ:=Int) (fun(i0:Int)(_:Unit)=>
 (idx b.1 i0).bind fun c=>
 (idx h i0).bind fun e=>
 (if(decide (e<c.Low))then some true else((idx h i0).bind fun f=>
 some (decide (c.AaD<f)))).bind fun g=>
 if g then
 some (.ret 6)
 else
 some (.next ())) 0 (b.1.length:Int) ()) (fun _=>
 some 0) (fun v0=>some v0)
def slices_Index_int(a:Fp)(c:Int):QQ:=
 fq (j4 (ρ:=Int) (fun(i0:Int)(_:Unit)=>
 (idx a i0).bind fun b=>
 if (decide (c=b))then
 some (.ret i0)
 else
 some (.next ())) 0 (a.length:Int) ()) (fun _=>
 some (-1)) (fun v0=>some v0)
def slices_Contains_int(b:Fp)(a:Int):K1:=
 (slices_Index_int b a).bind fun c=>
 some (decide (0<=c))
def slices_Reverse_int(l:Fp):Option Fp:=if l.length<=Ad then some l.reverse else none
def I1[Ev](t:AC)(a:Int):Option Fp:=
 fq (EQ (ρ:=Fp) (fun(s0:Int×Fp)=>
 if (decide (0<=s0.1))then
 (Ag s0.2 [s0.1]).bind fun b=>
 (idx t.ci s0.1).bind fun c=>
 some (.next (c.Aac,b))
 else
 some (.brk (s0.1,s0.2))) (a,[])) (fun s0=>
 (slices_Reverse_int s0.2).bind fun d=>
 some d) (fun v0=>some v0)
def H0[Ev](t:AC)(a:Int)(b:Int):K1:=
 (I1 t a).bind fun d=>
 (slices_Contains_int d b).bind fun c=>
 some c
def GN[Ev](t:AC)(a:Int)(b:Int)(c:Int):K1:=
 (El t [b,c]).bind fun d=>
 if (((!decide (d=0))||(decide (a<0)))||(decide ((t.d3.length:Int)<=a)))then
 some false
 else
 (idx t.d3 a).bind fun e=>
 (H0 t b e.ns).bind fun f=>
 (if f then((idx t.d3 a).bind fun g=>
 (H0 t c g.To).bind fun h=>
 some (h))else some false).bind fun i=>
 some i
def EK[Ev](t:AC)(a:AG):Option (Int×Int):=
 (C1 t).bind fun c=>
 if (!decide (c.2=0))then
 some ((-1),c.2)
 else
 (CU a.d4).bind fun d=>
 if (!decide (d=0))then
 some ((-1),d)
 else
 if (!decide ((a.fd.length:Int)=(a.d4.ci.length:Int)))then
 some ((-1),20)
 else
 fq (j4 (ρ:=(Int×Int)) (fun(i0:Int)(_:Unit)=>
 (idx a.d4.ci i0).bind fun f=>
 (idx a.fd i0).bind fun g=>
 (IW t f g).bind fun e=>
 if (!decide (e=0))then
 some (.ret (i0,e))
 else
 some (.next ())) 0 (a.d4.ci.length:Int) ()) (fun _=>
 fq (j4 (ρ:=(Int×Int)) (fun(i2:Int)(_:Unit)=>
 (idx a.d4.d3 i2).bind fun b=>
 if (decide ((t.d3.length:Int)<=b.ne))then
 some (.ret (i2,6))
 else
 (idx a.d4.ci b.ns).bind fun h=>
 (idx a.d4.ci b.To).bind fun i=>
 (GN t b.ne h i).bind fun j=>
 if (!j)then
 some (.ret (i2,13))
 else
 some (.next ())) 0 (a.d4.d3.length:Int) ()) (fun _=>
 some ((-1),0)) (fun v2=>some v2)) (fun v0=>some v0)
def slices_Clone_int(a:Fp):Option Fp:=
 Ag [] a
def Cr(a:List Bf):Option (List Bf):=
 Ag [] a
def DN(a:AU):Option AU:=
 (slices_Clone_int a.pr).bind fun c=>
 (slices_Clone_int a.jj.kg.d4.ci).bind fun d=>
 (Cr a.jj.kg.d4.d3).bind fun e=>
 (sx (fun(i0:Int)(s0:AU)=>
 (idx a.jj.kg.fd i0).bind fun f=>
 (slices_Clone_int f).bind fun g=>
 (Ag s0.jj.kg.fd [g]).bind fun h=>
 some (AU.mk (AW.mk (AG.mk s0.jj.kg.d4 h) s0.jj.kq) s0.pr)) 0 (a.jj.kg.fd.length:Int) (AU.mk (AW.mk (AG.mk (d4.mk d e) []) []) c)).bind fun s0=>
 (sx (fun(i2:Int)(s2:AU)=>
 (idx a.jj.kq i2).bind fun b=>
 (slices_Clone_int b.o3.d5.ci).bind fun i=>
 (slices_Clone_int b.o3.d5.d3).bind fun j=>
 (slices_Clone_int b.o3.gt).bind fun k=>
 (Ag s2.jj.kq [zt.mk b.gp (AL.mk (d5.mk i j) k)]).bind fun l=>
 some (AU.mk (AW.mk s2.jj.kg l) s2.pr)) 0 (a.jj.kq.length:Int) s0).bind fun s2=>
 some s2
def DM[Ev](t:AC)(b:AG):Option (AU×Int):=
 (EK t b).bind fun a=>
 if (!decide (a.2=0))then
 some (ES,a.2)
 else
 (DN (AU.mk (AW.mk b []) [])).bind fun c=>
 some (c,0)
def F5(n:Int)(a:AC):K1:=
 some (decide ((a.ci.length:Int)<=n))
def F6(a:Bf)(b:AC):K1:=
 some (decide ((b.d3.length:Int)<=a.ne))
def CQ(n:Int)(b:Int)(a:Int):K1:=
 some ((decide (b<=n))&&(decide (n<=a)))
def EW[Ev](t:AC)(p:ea)(a:CT):Option (kp×Bool):=
 (CQ a.tl 0 (Af ((p.d4.ci.length:Int)-1))).bind fun c=>
 if (!c)then
 some (kp.mk (⟨#[]⟩:ByteArray) 0 0 [],false)
 else
 (idx p.d4.ci a.tl).bind fun d=>
 (Dh t d).bind fun b=>
 (CQ a.kp 0 (Af ((b.1.length:Int)-1))).bind fun e=>
 if (!e)then
 some (kp.mk (⟨#[]⟩:ByteArray) 0 0 [],false)
 else
 (idx b.1 a.kp).bind fun f=>
 some (f,true)
def HO(n:Int)(t:j0):K1:=
 some ((((decide ((-1)<=t.Var))&&(decide (t.Var<n)))&&(decide ((-1000000)<=t.Add)))&&(decide (t.Add<=1000000)))
def IE(n:Int)(a:Test):QQ:=
 if ((!decide (a.mo=1))&&(!decide (a.mo=2)))then
 some 1
 else
 (HO n a.kl).bind fun b=>
 (if(!b)then some true else((HO n a.em).bind fun c=>
 some (!c))).bind fun d=>
 if d then
 some 6
 else
 some 0
def Gg(n:Int)(l:List Test):QQ:=
 if ((decide (n<0))||(decide (12<n)))then
 some 6
 else
 if (decide (40<(l.length:Int)))then
 some 3
 else
 fq (j4 (ρ:=Int) (fun(i0:Int)(_:Unit)=>
 (idx l i0).bind fun b=>
 (IE n b).bind fun a=>
 if (!decide (a=0))then
 some (.ret a)
 else
 some (.next ())) 0 (l.length:Int) ()) (fun _=>
 some 0) (fun v0=>some v0)
def H6(a:a5)(c:Bool):QQ:=
 fq (j4 (ρ:=Int) (fun(i0:Int)(_:Unit)=>
 (idx a i0).bind fun b=>
 if (c==b)then
 some (.ret i0)
 else
 some (.next ())) 0 (a.length:Int) ()) (fun _=>
 some (-1)) (fun v0=>some v0)
def Ez(b:a5)(a:Bool):K1:=
 (H6 b a).bind fun c=>
 some (decide (0<=c))
def Cc[Ev](t:AC)(p:ea):QQ:=
 (C1 t).bind fun c=>
 if (!decide (c.2=0))then
 some c.2
 else
 (CU p.d4).bind fun d=>
 if (!decide (d=0))then
 some d
 else
 (Az p.d4.ci (fun y0=>F5 y0 t)).bind fun f=>
 (if f then some true else((BN p.d4.d3 (fun y0=>F6 y0 t)).bind fun g=>
 some (g))).bind fun h=>
 if h then
 some 13
 else
 (CQ p.gt 0 12).bind fun i=>
 if (!i)then
 some 6
 else
 if ((decide (10<(p.ff.length:Int)))||(decide (10<(p.sr.length:Int))))then
 some 3
 else
 (IZ p.gt false).bind fun j=>
 fq (j4 (ρ:=Int) (fun(i0:Int)(s0:a5)=>
 (idx p.ff i0).bind fun a=>
 (EW t p a).bind fun k=>
 (if(!k.2)then some true else((CQ a.j0.Var (-1) (Af (p.gt-1))).bind fun l=>
 some (!l))).bind fun m=>
 (if m then some true else((CQ a.j0.Add (-1000000) 1000000).bind fun n=>
 some (!n))).bind fun o=>
 if o then
 some (.ret 6)
 else
 if (decide (0<=a.j0.Var))then
 (idx s0 a.j0.Var).bind fun q=>
 some (.next (BI s0 a.j0.Var true))
 else
 some (.next s0)) 0 (p.ff.length:Int) j) (fun s0=>
 (Gg p.gt p.sr).bind fun b=>
 if (!decide (b=0))then
 some b
 else
 (Ez s0 false).bind fun e=>
 if e then
 some 9
 else
 some 0) (fun v0=>some v0)
def MR(n:Int)(a:AC):K1:=
 some (decide ((a.ci.length:Int)<=n))
def MS(a:Bf)(b:AC):K1:=
 some (decide ((b.d3.length:Int)<=a.ne))
def Hg[Ev](t:AC)(g:d4):K1:=
 (Az g.ci (fun y0=>MR y0 t)).bind fun c=>
 (if(!c)then((BN g.d3 (fun y0=>MS y0 t)).bind fun a=>
 some (!a))else some false).bind fun b=>
 some b
def DT[Ev](a:List CT)(f:CT->K1):QQ:=
 fq (j4 (ρ:=Int) (fun(i0:Int)(_:Unit)=>
 (idx a i0).bind fun b=>
 (f b).bind fun c=>
 if c then
 some (.ret i0)
 else
 some (.next ())) 0 (a.length:Int) ()) (fun _=>
 some (-1)) (fun v0=>some v0)
def CC[Ev](a:List CT)(f:CT->K1):K1:=
 (DT a f).bind fun b=>
 some (decide (0<=b))
def NN(y:CT)(a:CT):K1:=
 some ((decide (y.tl=a.tl))&&(decide (y.kp=a.kp)))
def Ie[Ev](t:AC)(b:gp)(c:Int):QQ:=
 (idx b.em.ff c).bind fun a=>
 if ((decide (a.tl<0))||(decide ((b.em.d4.ci.length:Int)<=a.tl)))then
 some 6
 else
 (idx b.em.d4.ci a.tl).bind fun d=>
 (Dh t d).bind fun e=>
 if ((((((decide (a.kp<0))||(decide ((e.1.length:Int)<=a.kp)))||(decide (a.j0.Var<(-1))))||(decide (b.em.gt<=a.j0.Var)))||(decide (a.j0.Add<(-1000000))))||(decide (1000000<a.j0.Add)))then
 some 6
 else
 (slc b.em.ff 0 c).bind fun f=>
 (CC f (fun y0=>NN y0 a)).bind fun g=>
 if g then
 some 5
 else
 some 0
def Hf[Ev](t:AC)(a:gp):QQ:=
 (CU a.em.d4).bind fun b=>
 if (!decide (b=0))then
 some b
 else
 (Hg t a.em.d4).bind fun d=>
 if (!d)then
 some 13
 else
 if ((!decide (a.em.gt=a.kl.gt))||(decide (0<(a.em.sr.length:Int))))then
 some 1
 else
 if (decide (10<(a.em.ff.length:Int)))then
 some 3
 else
 fq (j4 (ρ:=Int) (fun(i1:Int)(_:Unit)=>
 (Ie t a i1).bind fun c=>
 if (!decide (c=0))then
 some (.ret c)
 else
 some (.next ())) 0 (a.em.ff.length:Int) ()) (fun _=>
 some 0) (fun v1=>some v1)
def G8(l:Fp)(n:Int):QQ:=
 fq (j4 (ρ:=Int) (fun(i0:Int)(_:Unit)=>
 (idx l i0).bind fun a=>
 if ((decide (a<0))||(decide (n<=a)))then
 some (.ret 6)
 else
 (if(decide (0<i0))then((idx l (Af (i0-1))).bind fun b=>
 some (decide (a<=b)))else some false).bind fun c=>
 if c then
 some (.ret 12)
 else
 some (.next ())) 0 (l.length:Int) ()) (fun _=>
 some 0) (fun v0=>some v0)
def slices_BinarySearch_int(l:Fp)(x:Int):Option (Int×Bool):=if l.length<=Ad/\l.Pairwise (·<=·)then some ((l.countP (·<x):Nat),l.contains x)else none
def J7(l:Fp)(n:Int):K1:=
 (slices_BinarySearch_int l n).bind fun a=>
 some a.2
def LE(g:d4)(p:BA):QQ:=
 (G8 p.ci (g.ci.length:Int)).bind fun a=>
 if (!decide (a=0))then
 some a
 else
 (G8 p.d3 (g.d3.length:Int)).bind fun b=>
 if (!decide (b=0))then
 some b
 else
 fq (j4 (ρ:=Int) (fun(i0:Int)(_:Unit)=>
 (idx p.d3 i0).bind fun c=>
 (idx g.d3 c).bind fun d=>
 (J7 p.ci d.ns).bind fun e=>
 (if(!e)then some true else((idx g.d3 c).bind fun f=>
 (J7 p.ci f.To).bind fun h=>
 some (!h))).bind fun i=>
 if i then
 some (.ret 14)
 else
 some (.next ())) 0 (p.d3.length:Int) ()) (fun _=>
 some 0) (fun v0=>some v0)
def Do[Ev](g:d4)(p:BA):QQ:=
 (CU g).bind fun b=>
 if (!decide (b=0))then
 some b
 else
 (LE g p).bind fun a=>
 some a
def Dc[Ev](g:d4)(p:BA):Option (d4×d5×Int):=
 (Do g p).bind fun b=>
 if (!decide (b=0))then
 some (d4.mk [] [],d5.mk [] [],b)
 else
 (sx (fun(i0:Int)(s0:d4)=>
 (idx p.ci i0).bind fun c=>
 (idx g.ci c).bind fun d=>
 (Ag s0.ci [d]).bind fun e=>
 some (d4.mk e s0.d3)) 0 (p.ci.length:Int) (d4.mk [] [])).bind fun s0=>
 (sx (fun(i2:Int)(s2:d4)=>
 (idx p.d3 i2).bind fun f=>
 (idx g.d3 f).bind fun a=>
 (slices_BinarySearch_int p.ci a.ns).bind fun h=>
 (slices_BinarySearch_int p.ci a.To).bind fun i=>
 (Ag s2.d3 [Bf.mk a.ne h.1 i.1]).bind fun j=>
 some (d4.mk s2.ci j)) 0 (p.d3.length:Int) s0).bind fun s2=>
 (slices_Clone_int p.ci).bind fun k=>
 (slices_Clone_int p.d3).bind fun l=>
 some (s2,d5.mk k l,0)
def Cx[Ev](a:d4)(b:d4)(m:d5):QQ:=
 (CU a).bind fun g=>
 if (!decide (g=0))then
 some g
 else
 (CU b).bind fun h=>
 if (!decide (h=0))then
 some h
 else
 if ((!decide ((m.ci.length:Int)=(a.ci.length:Int)))||(!decide ((m.d3.length:Int)=(a.d3.length:Int))))then
 some 20
 else
 fq (j4 (ρ:=Int) (fun(i0:Int)(_:Unit)=>
 (idx m.ci i0).bind fun c=>
 if ((decide (c<0))||(decide ((b.ci.length:Int)<=c)))then
 some (.ret 6)
 else
 (idx b.ci c).bind fun l=>
 (idx a.ci i0).bind fun n=>
 if (!decide (l=n))then
 some (.ret 13)
 else
 some (.next ())) 0 (m.ci.length:Int) ()) (fun _=>
 fq (j4 (ρ:=Int) (fun(i2:Int)(_:Unit)=>
 (idx m.d3 i2).bind fun d=>
 if ((decide (d<0))||(decide ((b.d3.length:Int)<=d)))then
 some (.ret 6)
 else
 (idx a.d3 i2).bind fun e=>
 (idx b.d3 d).bind fun f=>
 if (!decide (e.ne=f.ne))then
 some (.ret 13)
 else
 (idx m.ci e.ns).bind fun i=>
 (if(!decide (i=f.ns))then some true else((idx m.ci e.To).bind fun j=>
 some (!decide (j=f.To)))).bind fun k=>
 if k then
 some (.ret 11)
 else
 some (.next ())) 0 (m.d3.length:Int) ()) (fun _=>
 some 0) (fun v2=>some v2)) (fun v0=>some v0)
def slices_Sort_int(l:Fp):Option Fp:=if l.length<=Ad then some (PD l)else none
def slices_Compact_int(l:Fp):Option Fp:=if l.length<=Ad then some (Go.Lib.compact l)else none
def Ft(l:Fp):QQ:=
 (slices_Clone_int l).bind fun a=>
 (slices_Sort_int a).bind fun b=>
 (slices_Compact_int b).bind fun c=>
 some (c.length:Int)
def Cg[Ev](a:d4)(b:d4)(m:d5):K1:=
 (Cx a b m).bind fun c=>
 (if(decide (c=0))then((Ft m.ci).bind fun d=>
 some (decide (d=(m.ci.length:Int))))else some false).bind fun e=>
 (if e then((Ft m.d3).bind fun f=>
 some (decide (f=(m.d3.length:Int))))else some false).bind fun g=>
 some g
def Ic[Ev](a:gp):QQ:=
 (Dc a.kl.d4 a.x3).bind fun b=>
 if (!decide (b.2.2=0))then
 some b.2.2
 else
 (Cx b.1 a.em.d4 a.tc).bind fun c=>
 if (!decide (c=0))then
 some c
 else
 (Cg b.1 a.em.d4 a.tc).bind fun d=>
 if (!d)then
 some 11
 else
 some 0
def JS(l:Fp)(n:Int):Option Fp:=
 (sx (fun(i0:Int)(s0:Fp)=>
 (slices_Contains_int l i0).bind fun a=>
 if (!a)then
 (Ag s0 [i0]).bind fun b=>
 some b
 else
 some s0) 0 n []).bind fun s0=>
 some s0
def J6(a:gp):Option (Fp×Fp):=
 (JS a.tc.ci (a.em.d4.ci.length:Int)).bind fun b=>
 (JS a.tc.d3 (a.em.d4.d3.length:Int)).bind fun c=>
 some (b,c)
def KO(c:Int)(e:AC)(d:d4):K1:=
 (idx d.ci c).bind fun a=>
 (idx e.ci a).bind fun b=>
 some b.Aao
def FJ[Ev](e:Int)(f:d4)(g:AC):K1:=
 (idx f.d3 e).bind fun a=>
 (idx f.ci a.ns).bind fun b=>
 (idx f.ci a.To).bind fun c=>
 (GN g a.ne b c).bind fun d=>
 some (!d)
def Fe[Ev](t:AC)(g:d4)(b:Fp)(a:Fp):K1:=
 (Az b (fun y0=>KO y0 t g)).bind fun c=>
 (if(!c)then((Az a (fun y0=>FJ y0 g t)).bind fun d=>
 some (!d))else some false).bind fun e=>
 some e
def EX(c:d6):K1:=
 some ((decide ((Af ((Af ((Af ((Af ((Af ((c.Map.ci.length:Int)+(c.Map.d3.length:Int)))+(c.ea.d4.ci.length:Int)))+(c.ea.d4.d3.length:Int)))+(c.ea.ff.length:Int)))+(c.ea.sr.length:Int)))=0))&&(decide (c.ea.gt=0)))
def Ca[Ev](a:List d6)(f:d6->K1):QQ:=
 fq (j4 (ρ:=Int) (fun(i0:Int)(_:Unit)=>
 (idx a i0).bind fun b=>
 (f b).bind fun c=>
 if c then
 some (.ret i0)
 else
 some (.next ())) 0 (a.length:Int) ()) (fun _=>
 some (-1)) (fun v0=>some v0)
def Bh[Ev](a:List d6)(f:d6->K1):K1:=
 (Ca a f).bind fun b=>
 some (decide (0<=b))
mutual
def BL[Ev]:Nat->d6->K1
 |0,_=>none|n+1,c=>
  (if(decide (c.mo=1))then
  (if(decide ((c.gn.length:Int)=0))then((EX c).bind fun d=>
  some (d))else some false).bind fun e=>
  some e
  else
  if (decide (c.mo=2))then
  (if(decide ((c.gn.length:Int)=1))then((EX c).bind fun f=>
  some (f))else some false).bind fun g=>
  some g
  else
  if (decide (c.mo=3))then
  if (decide (c.mo=3))then
  (if(decide (1<=(c.gn.length:Int)))then((EX c).bind fun a=>
  some (a))else some false).bind fun b=>
  some b
  else
  if (decide (c.mo=5))then
  some (decide ((c.gn.length:Int)=1))
  else
  some false
  else
  if (decide (c.mo=4))then
  (if(decide (1<=(c.gn.length:Int)))then((EX c).bind fun a=>
  some (a))else some false).bind fun b=>
  some b
  else
  if (decide (c.mo=5))then
  some (decide ((c.gn.length:Int)=1))
  else
  some false).bind fun w1=>
  (if w1 then((Bh c.gn (BV n)).bind fun h=>
  some (!h))else some false).bind fun i=>
  some i
def BV[Ev]:Nat->d6->K1
 |0,_=>none|n+1,k=>
  (BL n k).bind fun a=>
  some (!a)
end
def Es[Ev](c:d6):K1:=Je fun n=>BL n c
def PY[Ev](k:d6):K1:=Je fun n=>BV n k
def CA[Ev]:Nat->d6->Option (Int×Int)
 |0,_=>none|n+1,c=>
  (sx (fun(i0:Int)(s0:Int×Int)=>
  (idx c.gn i0).bind fun b=>
  (CA n b).bind fun a=>
  some (Af (s0.1+a.1),max s0.2 a.2)) 0 (c.gn.length:Int) (1,0)).bind fun s0=>
  (if(decide (c.mo=5))then
  some (Af (s0.2+1))
  else
  some s0.2).bind fun w1=>
  some (s0.1,w1)
def F8[Ev](c:d6):Option (Int×Int):=Je fun n=>CA n c
def D0[Ev](c:d6):QQ:=
 (Es c).bind fun b=>
 if (!b)then
 some 1
 else
 (F8 c).bind fun a=>
 if ((decide (12<a.1))||(decide (3<a.2)))then
 some 3
 else
 some 0
def Gx(a:CT)(b:Int):K1:=
 some (decide (a.j0.Var=b))
def DE[Ev](t:AC)(q:ea)(b:Int):QQ:=
 (Cc t q).bind fun a=>
 if (!decide (a=9))then
 some a
 else
 fq (EQ (ρ:=Int) (fun(s0:Int)=>
 if (decide (s0<q.gt))then
 (CC q.ff (fun y0=>Gx y0 s0)).bind fun c=>
 if (!c)then
 some (.ret a)
 else
 some (.next (Af (s0+1)))
 else
 some (.brk s0)) b) (fun s0=>
 some 0) (fun v0=>some v0)
def Bv[Ev]:Nat->AC->ea->d6->QQ
 |0,_,_,_=>none|n+1,t,p,c=>
  if (decide (c.mo=5))then
  if (decide (c.ea.gt<p.gt))then
  some 20
  else
  (DE t c.ea p.gt).bind fun d=>
  if (!decide (d=0))then
  some d
  else
  (Cx p.d4 c.ea.d4 c.Map).bind fun e=>
  if (!decide (e=0))then
  some e
  else
  (Cg p.d4 c.ea.d4 c.Map).bind fun f=>
  if (!f)then
  some 1
  else
  fq (j4 (ρ:=Int) (fun(i0:Int)(_:Unit)=>
  (idx c.gn i0).bind fun b=>
  (Bv n t c.ea b).bind fun a=>
  if (!decide (a=0))then
  some (.ret a)
  else
  some (.next ())) 0 (c.gn.length:Int) ()) (fun _=>
  some 0) (fun v0=>some v0)
  else
  fq (j4 (ρ:=Int) (fun(i0:Int)(_:Unit)=>
  (idx c.gn i0).bind fun b=>
  (Bv n t p b).bind fun a=>
  if (!decide (a=0))then
  some (.ret a)
  else
  some (.next ())) 0 (c.gn.length:Int) ()) (fun _=>
  some 0) (fun v0=>some v0)
def Io[Ev](t:AC)(p:ea)(c:d6):QQ:=Je fun n=>Bv n t p c
def Cf[Ev](t:AC)(p:ea)(c:d6):QQ:=
 (Cc t p).bind fun a=>
 if (!decide (a=0))then
 some a
 else
 (D0 c).bind fun b=>
 if (!decide (b=0))then
 some b
 else
 (Io t p c).bind fun d=>
 some d
def GJ[Ev](t:AC)(a:gp):QQ:=
 (C1 t).bind fun b=>
 if (!decide (b.2=0))then
 some b.2
 else
 (C8 a.pq).bind fun g=>
 if (!g)then
 some 2
 else
 (Cc t a.kl).bind fun c=>
 if (!decide (c=0))then
 some c
 else
 (Hf t a).bind fun d=>
 if (!decide (d=0))then
 some d
 else
 (Ic a).bind fun e=>
 if (!decide (e=0))then
 some e
 else
 (J6 a).bind fun f=>
 (Fe t a.em.d4 f.1 f.2).bind fun h=>
 if (!h)then
 some 13
 else
 (Cf t a.kl a.d6).bind fun i=>
 some i
def DY[Ev](t:AC)(a:List gp)(f:AG):QQ:=
 (C1 t).bind fun b=>
 if (!decide (b.2=0))then
 some b.2
 else
 if (decide (10<(a.length:Int)))then
 some 3
 else
 fq (j4 (ρ:=Int) (fun(i0:Int)(_:Unit)=>
 (idx a i0).bind fun d=>
 (GJ t d).bind fun c=>
 if (!decide (c=0))then
 some (.ret c)
 else
 some (.next ())) 0 (a.length:Int) ()) (fun _=>
 (EK t f).bind fun e=>
 some e.2) (fun v0=>some v0)
def Iz[Ev](t:AC)(d:gp)(e:AG):QQ:=
 (C1 t).bind fun a=>
 if (!decide (a.2=0))then
 some a.2
 else
 (GJ t d).bind fun b=>
 if (!decide (b=0))then
 some b
 else
 (EK t e).bind fun c=>
 some c.2
def slices_Equal_int(a:Fp)(b:Fp):K1:=
 if (!decide ((a.length:Int)=(b.length:Int)))then
 some false
 else
 fq (j4 (ρ:=Bool) (fun(i0:Int)(_:Unit)=>
 (idx a i0).bind fun c=>
 (idx b i0).bind fun d=>
 if (!decide (c=d))then
 some (.ret false)
 else
 some (.next ())) 0 (a.length:Int) ()) (fun _=>
 some true) (fun v0=>some v0)
def Jg(n:Int)(a:AC):K1:=
 some (decide ((a.ci.length:Int)<=n))
def Jh(a:Bf)(b:AC):K1:=
 some (decide ((b.d3.length:Int)<=a.ne))
def EN[Ev](t:AC)(g:d4):K1:=
 (Az g.ci (fun y0=>Jg y0 t)).bind fun c=>
 (if(!c)then((BN g.d3 (fun y0=>Jh y0 t)).bind fun a=>
 some (!a))else some false).bind fun b=>
 some b
def EG[Ev](t:AC)(p:d4)(g:d4):QQ:=
 (C1 t).bind fun a=>
 if (!decide (a.2=0))then
 some a.2
 else
 fq (j4 (ρ:=Int) (fun(i0:Int)(_:Unit)=>
 (idx [p,g] i0).bind fun c=>
 (CU c).bind fun b=>
 if (!decide (b=0))then
 some (.ret b)
 else
 some (.next ())) 0 ([p,g].length:Int) ()) (fun _=>
 (EN t p).bind fun d=>
 (if(!d)then some true else((EN t g).bind fun e=>
 some (!e))).bind fun f=>
 if f then
 some 13
 else
 some 0) (fun v0=>some v0)
def GW[Ev](t:AC)(a:Int):Option (Fp×Int):=
 (El t [a]).bind fun b=>
 if (!decide (b=0))then
 some ([],b)
 else
 (sx (fun(i0:Int)(s0:Fp)=>
 (H0 t i0 a).bind fun c=>
 if c then
 (Ag s0 [i0]).bind fun d=>
 some d
 else
 some s0) 0 (t.ci.length:Int) []).bind fun s0=>
 some (s0,0)
def Ew[Ev](t:AC):Option (List a5):=
 (sx (fun(i0:Int)(s0:List a5)=>
 (IZ (t.ci.length:Int) false).bind fun c=>
 (GW t i0).bind fun a=>
 (sx (fun(i2:Int)(s2:a5)=>
 (idx a.1 i2).bind fun b=>
 (idx s2 b).bind fun e=>
 some (BI s2 b true)) 0 (a.1.length:Int) c).bind fun s2=>
 (Ag s0 [s2]).bind fun d=>
 some d) 0 (t.ci.length:Int) []).bind fun s0=>
 some s0
def Ex[Ev](t:AC)(p:d4)(g:d4)(m:d5):QQ:=
 if ((!decide ((m.ci.length:Int)=(p.ci.length:Int)))||(!decide ((m.d3.length:Int)=(p.d3.length:Int))))then
 some 20
 else
 (Ew t).bind fun i=>
 fq (j4 (ρ:=Int) (fun(i0:Int)(_:Unit)=>
 (idx m.ci i0).bind fun a=>
 if ((decide (a<0))||(decide ((g.ci.length:Int)<=a)))then
 some (.ret 6)
 else
 (idx p.ci i0).bind fun j=>
 (idx i j).bind fun k=>
 (idx g.ci a).bind fun l=>
 (idx k l).bind fun n=>
 if (!n)then
 some (.ret 13)
 else
 some (.next ())) 0 (m.ci.length:Int) ()) (fun _=>
 fq (j4 (ρ:=Int) (fun(i2:Int)(_:Unit)=>
 (idx m.d3 i2).bind fun b=>
 if ((decide (b<0))||(decide ((g.d3.length:Int)<=b)))then
 some (.ret 6)
 else
 (idx p.d3 i2).bind fun c=>
 (idx g.d3 b).bind fun d=>
 if (!decide (c.ne=d.ne))then
 some (.ret 13)
 else
 (idx m.ci c.ns).bind fun e=>
 (if(!decide (e=d.ns))then some true else((idx m.ci c.To).bind fun f=>
 some (!decide (f=d.To)))).bind fun h=>
 if h then
 some (.ret 11)
 else
 some (.next ())) 0 (m.d3.length:Int) ()) (fun _=>
 some 0) (fun v2=>some v2)) (fun v0=>some v0)
def Gr(l:Fp):K1:=if l.length<=4096 then some (AbH l)else none
def EF[Ev](t:AC)(p:d4)(g:d4)(m:d5)(a:Bool):QQ:=
 (EG t p g).bind fun b=>
 if (!decide (b=0))then
 some b
 else
 (Ex t p g m).bind fun c=>
 if (!decide (c=0))then
 some c
 else
 (if a then((Gr m.ci).bind fun d=>
 (if d then some true else((Gr m.d3).bind fun e=>
 some (e))).bind fun f=>
 some (f))else some false).bind fun h=>
 if h then
 some 5
 else
 some 0
def Dw[Ev](t:AC)(p:ea)(c:AG):QQ:=
 (Cc t p).bind fun a=>
 if (!decide (a=0))then
 some a
 else
 (EK t c).bind fun b=>
 some b.2
def Dx(a:j0)(c:Fp):QQ:=
 if (decide (a.Var<0))then
 some a.Add
 else
 (idx c a.Var).bind fun b=>
 some (Af (b+a.Add))
def HV(a b c:Int):Option (Int×Int):=if(0<=a/\a<18446744073709551616)/\(0<=b/\b<18446744073709551616)/\0<=c/\c<=1 then some ((a+b+c) % 18446744073709551616,(a+b+c) / 18446744073709551616)else none
def Fr(a:Int)(b:Int):Option (Int×Int):=
 (HV (IntKind.u64.wrap a) (IntKind.u64.wrap b) 0).bind fun c=>
 (Kc .i64 .shr a 63).bind fun d=>
 (Kc .i64 .shr b 63).bind fun e=>
 some (Af ((Af (d+e))+(Af c.2)),c.1)
def EY(t:j0)(d:Fp):Option (Int×Int×Bool):=
 if (decide (t.Var=(-1)))then
 (Fr 0 t.Add).bind fun a=>
 some (a.1,a.2,true)
 else
 if ((decide (t.Var<0))||(decide ((d.length:Int)<=t.Var)))then
 some (0,0,false)
 else
 (idx d t.Var).bind fun c=>
 (Fr c t.Add).bind fun b=>
 some (b.1,b.2,true)
def Lo(a:Fp):QQ:=
 fq (j4 (ρ:=Int) (fun(i0:Int)(_:Unit)=>
 (idx a i0).bind fun b=>
 if (!decide (b=0))then
 some (.ret b)
 else
 some (.next ())) 0 (a.length:Int) ()) (fun _=>
 some 0) (fun v0=>some v0)
def I6(a:Int):K1:=
 some (!decide (a=a))
def HM(a:Int)(y:Int):QQ:=
 (I6 a).bind fun c=>
 (I6 y).bind fun b=>
 if c then
 if b then
 some 0
 else
 some (-1)
 else
 if b then
 some 1
 else
 if (decide (a<y))then
 some (-1)
 else
 if (decide (y<a))then
 some 1
 else
 some 0
def Im(a:Int):K1:=
 some (!decide (a=a))
def HN(a:Int)(y:Int):QQ:=
 (Im a).bind fun c=>
 (Im y).bind fun b=>
 if c then
 if b then
 some 0
 else
 some (-1)
 else
 if b then
 some 1
 else
 if (decide (a<y))then
 some (-1)
 else
 if (decide (y<a))then
 some 1
 else
 some 0
def FE(a:Test)(g:Fp):K1:=
 (EY a.kl g).bind fun b=>
 (EY a.em g).bind fun c=>
 if ((!b.2.2)||(!c.2.2))then
 some false
 else
 (HM b.1 c.1).bind fun e=>
 (HN b.2.1 c.2.1).bind fun f=>
 (Lo [e,f]).bind fun d=>
 some (((decide (a.mo=1))&&(decide (d<=0)))||((decide (a.mo=2))&&(decide (d=0))))
def HK(p:ea)(l:AG)(m:d5):Option (Fp×Int):=
 (IZ p.gt 0).bind fun d=>
 (IZ p.gt false).bind fun e=>
 fq (j4 (ρ:=(Fp×Int)) (fun(i0:Int)(s0:Fp×a5)=>
 (idx p.ff i0).bind fun a=>
 (idx m.ci a.tl).bind fun f=>
 (idx l.fd f).bind fun g=>
 (idx g a.kp).bind fun b=>
 (if(decide (0<=a.j0.Var))then((idx s0.2 a.j0.Var).bind fun h=>
 some (!h))else some false).bind fun i=>
 if i then
 (idx s0.1 a.j0.Var).bind fun n=>
 (idx s0.2 a.j0.Var).bind fun o=>
 (Dx a.j0 (BI s0.1 a.j0.Var (Af (b-a.j0.Add)))).bind fun c=>
 if (!decide (c=b))then
 some (.ret ([],11))
 else
 some (.next (BI s0.1 a.j0.Var (Af (b-a.j0.Add)),BI s0.2 a.j0.Var true))
 else
 (Dx a.j0 s0.1).bind fun c=>
 if (!decide (c=b))then
 some (.ret ([],11))
 else
 some (.next (s0.1,s0.2))) 0 (p.ff.length:Int) (d,e)) (fun s0=>
 fq (j4 (ρ:=(Fp×Int)) (fun(i2:Int)(_:Unit)=>
 (idx p.sr i2).bind fun j=>
 (FE j s0.1).bind fun k=>
 if (!k)then
 some (.ret ([],16))
 else
 some (.next ())) 0 (p.sr.length:Int) ()) (fun _=>
 some (s0.1,0)) (fun v2=>some v2)) (fun v0=>some v0)
def DJ[Ev](t:AC)(p:ea)(a:AG)(m:d5):Option (Fp×Int):=
 (Dw t p a).bind fun b=>
 if (!decide (b=0))then
 some ([],b)
 else
 (EF t p.d4 a.d4 m false).bind fun c=>
 if (!decide (c=0))then
 some ([],c)
 else
 (HK p a m).bind fun d=>
 some (d.1,d.2)
def Gs[Ev](t:AC)(b:gp)(c:AG)(m:AL):QQ:=
 (EF t b.kl.d4 c.d4 m.d5 b.sc).bind fun d=>
 if (!decide (d=0))then
 some 1
 else
 (DJ t b.kl c m.d5).bind fun a=>
 if (!decide (a.2=0))then
 some a.2
 else
 (slices_Equal_int a.1 m.gt).bind fun e=>
 if (!e)then
 some 11
 else
 some 0
def D2[Ev](t:AC)(p:d4)(g:d4)(m:d5):Option (d4×Int):=
 (EG t p g).bind fun a=>
 if (!decide (a=0))then
 some (d4.mk [] [],a)
 else
 (Ex t p g m).bind fun b=>
 if (!decide (b=0))then
 some (d4.mk [] [],b)
 else
 (Cr p.d3).bind fun c=>
 (sx (fun(i0:Int)(s0:d4)=>
 (idx m.ci i0).bind fun d=>
 (idx g.ci d).bind fun e=>
 (Ag s0.ci [e]).bind fun f=>
 some (d4.mk f s0.d3)) 0 (m.ci.length:Int) (d4.mk [] c)).bind fun s0=>
 some (s0,0)
def CN[Ev](a:Ba):QQ:=
 (Cx a.l a.g a.m).bind fun b=>
 if (!decide (b=0))then
 some b
 else
 (Do a.l a.hT).bind fun c=>
 some c
def FB(a:Fp)(b:Fp):Option (List F1):=
 (sx (fun(i0:Int)(s0:List F1)=>
 (sx (fun(i2:Int)(s2:List F1)=>
 (idx a i0).bind fun c=>
 (idx a i2).bind fun d=>
 (if(decide (c=d))then((slices_Contains_int b i0).bind fun e=>
 (if(!e)then some true else((slices_Contains_int b i2).bind fun f=>
 some (!f))).bind fun g=>
 some (g))else some false).bind fun h=>
 if h then
 (Ag s2 [F1.mk i0 i2]).bind fun i=>
 some i
 else
 some s2) (Af (i0+1)) (a.length:Int) s0).bind fun s2=>
 some s2) 0 (a.length:Int) []).bind fun s0=>
 some s0
def DH(a:Ba):Option (List F1×List F1):=
 (FB a.m.ci a.hT.ci).bind fun b=>
 (FB a.m.d3 a.hT.d3).bind fun c=>
 some (b,c)
def C3(a:Ba):Option Fp:=
 (sx (fun(i0:Int)(s0:Fp)=>
 (idx a.m.ci i0).bind fun b=>
 (slices_Contains_int a.hT.ci i0).bind fun c=>
 if (!c)then
 (Ag s0 [b]).bind fun d=>
 some d
 else
 some s0) 0 (a.m.ci.length:Int) []).bind fun s0=>
 some s0
def Cv(a:Ba):Option Fp:=
 (C3 a).bind fun j=>
 (sx (fun(i0:Int)(s0:Fp)=>
 (idx a.g.d3 i0).bind fun b=>
 (slices_Contains_int a.m.d3 i0).bind fun c=>
 (if(!c)then((slices_Contains_int j b.ns).bind fun d=>
 (if d then some true else((slices_Contains_int j b.To).bind fun e=>
 some (e))).bind fun f=>
 some (f))else some false).bind fun h=>
 if h then
 (Ag s0 [i0]).bind fun i=>
 some i
 else
 some s0) 0 (a.g.d3.length:Int) []).bind fun s0=>
 some s0
def Fo(n:Int)(a:Fp)(c:Fp):Option Fp:=
 (IZ n false).bind fun d=>
 (sx (fun(i0:Int)(s0:a5)=>
 (idx a i0).bind fun b=>
 (slices_Contains_int c i0).bind fun e=>
 if (!e)then
 (idx s0 b).bind fun h=>
 some (BI s0 b true)
 else
 some s0) 0 (a.length:Int) d).bind fun s0=>
 (sx (fun(i2:Int)(s2:Fp)=>
 (idx s0 i2).bind fun f=>
 if (!f)then
 (Ag s2 [i2]).bind fun g=>
 some g
 else
 some s2) 0 (s0.length:Int) []).bind fun s2=>
 some s2
def E2[Ev](l:d4)(g:d4)(a:BA)(m:d5):Option (BA×Int):=
 (CN (Ba.mk l g a m)).bind fun b=>
 if (!decide (b=0))then
 some (BA.mk [] [],b)
 else
 (DH (Ba.mk l g a m)).bind fun c=>
 if (decide (0<(Af ((c.1.length:Int)+(c.2.length:Int)))))then
 some (BA.mk [] [],15)
 else
 (Cv (Ba.mk l g a m)).bind fun d=>
 if (decide (0<(d.length:Int)))then
 some (BA.mk [] [],14)
 else
 (Fo (g.ci.length:Int) m.ci a.ci).bind fun e=>
 (Fo (g.d3.length:Int) m.d3 a.d3).bind fun f=>
 some (BA.mk e f,0)
def Dz[Ev](t:AC)(p:ea)(c:d6)(d:AG)(m:AL)(a:Bool):QQ:=
 (Cf t p c).bind fun e=>
 if (!decide (e=0))then
 some e
 else
 (EK t d).bind fun f=>
 if (!decide (f.2=0))then
 some f.2
 else
 (EF t p.d4 d.d4 m.d5 a).bind fun g=>
 if (!decide (g=0))then
 some g
 else
 (DJ t p d m.d5).bind fun b=>
 if (!decide (b.2=0))then
 some b.2
 else
 (slices_Equal_int b.1 m.gt).bind fun h=>
 if (!h)then
 some 11
 else
 some 0
def Du(l:Fp)(n:Int):Option Fp:=if l.length=1/\0<=n/\n<=4096 then some (List.replicate n.toNat (l.headD 0))else none
def FC(n:Int)(e:Fp)(a:Fp):Option Fp:=
 (Du [(-1)] n).bind fun c=>
 (sx (fun(i0:Int)(s0:Fp)=>
 (idx e i0).bind fun b=>
 (idx a i0).bind fun d=>
 (idx s0 b).bind fun f=>
 some (BI s0 b d)) 0 (e.length:Int) c).bind fun s0=>
 some s0
def LD(k:Int)(a:Int):K1:=
 some ((decide (k<(-1)))||(decide (a<=k)))
def FU[Ev](l:Fp)(n:Int):QQ:=
 (Az l (fun y0=>LD y0 n)).bind fun a=>
 if a then
 some 6
 else
 some 0
def Gq(l:Fp)(a:Int):QQ:=
 (XM l).bind fun c=>
 (idx l a).bind fun b=>
 some b
def DP(f:AH)(c:Int)(k:Int):K1:=
 (idx f.p.d3 c).bind fun a=>
 (Gq f.f0.d3 c).bind fun b=>
 if ((decide (0<=b))&&(!decide (b=k)))then
 some false
 else
 (idx f.g.d3 k).bind fun d=>
 (idx f.ec a.ns).bind fun e=>
 (idx f.ec a.To).bind fun h=>
 some (decide (d=(Bf.mk a.ne e h)))
def B2(f:AH):K1:=
 fq (j4 (ρ:=Bool) (fun(i0:Int)(_:Unit)=>
 (idx f.p.d3 i0).bind fun a=>
 if (!decide ((max a.ns a.To)=(Af ((f.ec.length:Int)-1))))then
 some (.next ())
 else
 fq (j4 (ρ:=Bool) (fun(i2:Int)(s2:Bool)=>
 (DP f i0 i2).bind fun b=>
 if b then
 some (.brk true)
 else
 some (.next s2)) 0 (f.g.d3.length:Int) false) (fun s2=>
 if (!s2)then
 some (.ret false)
 else
 some (.next ())) (fun v2=>some (.ret v2))) 0 (f.p.d3.length:Int) ()) (fun _=>
 some true) (fun v0=>some v0)
def At[Ev]:Nat->AH->Option AH
 |0,_=>none|n+1,f=>
  (if(decide ((f.out.length:Int)=f.tn))then
  some f
  else
  if (decide ((f.ec.length:Int)<(f.p.ci.length:Int)))then
  (sx (fun(i1:Int)(s1:AH)=>
  (idx f.g.ci i1).bind fun u=>
  (Gq s1.f0.ci (f.ec.length:Int)).bind fun e=>
  (if((decide (0<=e))&&(!decide (e=i1)))then some true else((idx s1.p.ci (f.ec.length:Int)).bind fun v=>
  (idx s1.is v).bind fun w=>
  (idx w u).bind fun x=>
  some (!x))).bind fun h=>
  (if h then some true else((if s1.ei then((slices_Contains_int s1.ec i1).bind fun i=>
  some (i))else some false).bind fun j=>
  some (j))).bind fun k=>
  if k then
  some s1
  else
  (Ag s1.ec [i1]).bind fun c=>
  (B2 (AH.mk s1.p s1.g s1.is s1.f0 s1.ei s1.tn c s1.ek s1.out)).bind fun l=>
  if l then
  (At n (AH.mk s1.p s1.g s1.is s1.f0 s1.ei s1.tn c s1.ek s1.out)).bind fun a=>
  (slc a.ec 0 (f.ec.length:Int)).bind fun d=>
  some (AH.mk a.p a.g a.is a.f0 a.ei a.tn d a.ek a.out)
  else
  (slc c 0 (f.ec.length:Int)).bind fun d=>
  some (AH.mk s1.p s1.g s1.is s1.f0 s1.ei s1.tn d s1.ek s1.out)) 0 (f.g.ci.length:Int) f).bind fun s1=>
  some s1
  else
  if (decide ((f.ek.length:Int)<(f.p.d3.length:Int)))then
  (sx (fun(i3:Int)(s3:AH)=>
  (DP s3 (f.ek.length:Int) i3).bind fun m=>
  (if(!m)then some true else((if s3.ei then((slices_Contains_int s3.ek i3).bind fun o=>
  some (o))else some false).bind fun q=>
  some (q))).bind fun r=>
  if r then
  some s3
  else
  (Ag s3.ek [i3]).bind fun s=>
  (At n (AH.mk s3.p s3.g s3.is s3.f0 s3.ei s3.tn s3.ec s s3.out)).bind fun b=>
  (slc b.ek 0 (f.ek.length:Int)).bind fun t=>
  some (AH.mk b.p b.g b.is b.f0 b.ei b.tn b.ec t b.out)) 0 (f.g.d3.length:Int) f).bind fun s3=>
  some s3
  else
  (slices_Clone_int f.ec).bind fun y=>
  (slices_Clone_int f.ek).bind fun z=>
  (Ag f.out [d5.mk y z]).bind fun A=>
  some (AH.mk f.p f.g f.is f.f0 f.ei f.tn f.ec f.ek A)).bind fun w1=>
  some w1
def ET[Ev](f:AH):Option AH:=Je fun n=>At n f
def Ff[Ev](t:AC)(p:d4)(g:d4)(b:d5)(a:Bool)(c:Int):Option (List d5):=
 (Ew t).bind fun d=>
 (ET (AH.mk p g d b a c [] [] [])).bind fun e=>
 some e.out
def Iw[Ev](t:AC)(p:d4)(g:d4)(b:d5)(a:Bool):Option (List d5×Int):=
 (Ff t p g b a 5001).bind fun c=>
 if (decide (5000<(c.length:Int)))then
 some ([],3)
 else
 some (c,0)
def E8[Ev](t:AC)(p:d4)(g:d4)(a:d5)(b:Bool):Option (List d5×Int):=
 (EG t p g).bind fun c=>
 if (!decide (c=0))then
 some ([],c)
 else
 if ((!decide ((a.ci.length:Int)=(p.ci.length:Int)))||(!decide ((a.d3.length:Int)=(p.d3.length:Int))))then
 some ([],20)
 else
 (FU a.ci (g.ci.length:Int)).bind fun d=>
 if (!decide (d=0))then
 some ([],d)
 else
 (FU a.d3 (g.d3.length:Int)).bind fun e=>
 if (!decide (e=0))then
 some ([],e)
 else
 (Iw t p g a b).bind fun f=>
 some (f.1,f.2)
def EU(a:j0)(d:Fp):Option (Int×Int):=
 (CQ a.Var (-1) (Af ((d.length:Int)-1))).bind fun b=>
 if (!b)then
 some (0,6)
 else
 (Dx a d).bind fun c=>
 some (c,0)
def DV(p:Al)(q:ea)(m:d5)(b:Fp):Option (Fp×Bool):=
 (slices_Clone_int b).bind fun g=>
 (S7 g (Af (q.gt-(b.length:Int))) 0).bind fun i=>
 (IZ q.gt false).bind fun j=>
 (sx (fun(i0:Int)(s0:a5)=>
 (idx s0 i0).bind fun r=>
 some (BI s0 i0 true)) 0 (b.length:Int) j).bind fun s0=>
 fq (j4 (ρ:=(Fp×Bool)) (fun(i2:Int)(s2:Fp×a5)=>
 (idx q.ff i2).bind fun a=>
 (idx m.ci a.tl).bind fun k=>
 (idx p.h.fd k).bind fun l=>
 (idx l a.kp).bind fun d=>
 (if(decide (0<=a.j0.Var))then((idx s2.2 a.j0.Var).bind fun n=>
 some (!n))else some false).bind fun o=>
 if o then
 (idx s2.1 a.j0.Var).bind fun s=>
 (idx s2.2 a.j0.Var).bind fun t=>
 (EU a.j0 (BI s2.1 a.j0.Var (Af (d-a.j0.Add)))).bind fun c=>
 if ((!decide (c.2=0))||(!decide (c.1=d)))then
 some (.ret ([],false))
 else
 some (.next (BI s2.1 a.j0.Var (Af (d-a.j0.Add)),BI s2.2 a.j0.Var true))
 else
 (EU a.j0 s2.1).bind fun c=>
 if ((!decide (c.2=0))||(!decide (c.1=d)))then
 some (.ret ([],false))
 else
 some (.next (s2.1,s2.2))) 0 (q.ff.length:Int) (i,s0)) (fun s2=>
 fq (j4 (ρ:=(Fp×Bool)) (fun(i4:Int)(_:Unit)=>
 (idx q.sr i4).bind fun e=>
 (FE e s2.1).bind fun f=>
 if (!f)then
 some (.ret ([],false))
 else
 some (.next ())) 0 (q.sr.length:Int) ()) (fun _=>
 some (s2.1,true)) (fun v4=>some v4)) (fun v2=>some v2)
def Bm[Ev](b:Al)(c:d6)(m:AL):Option (List AL×Int):=
 (FC (c.ea.d4.ci.length:Int) c.Map.ci m.d5.ci).bind fun f=>
 (FC (c.ea.d4.d3.length:Int) c.Map.d3 m.d5.d3).bind fun g=>
 (E8 b.t c.ea.d4 b.h.d4 (d5.mk f g) b.ei).bind fun a=>
 if (!decide (a.2=0))then
 some ([],a.2)
 else
 (sx (fun(i0:Int)(s0:List AL)=>
 (idx a.1 i0).bind fun d=>
 (DV b c.ea d m.gt).bind fun e=>
 if e.2 then
 (Ag s0 [AL.mk d e.1]).bind fun i=>
 some i
 else
 some s0) 0 (a.1.length:Int) []).bind fun s0=>
 some (s0,0)
mutual
def Aj[Ev]:Nat->Al->d6->AL->Option (A0×Int)
 |0,_,_,_=>none|n+1,b,c,m=>
  if (decide (c.mo=2))then
  (idx c.gn 0).bind fun g=>
  (Aj n b g m).bind fun e=>
  if (decide (e.2=0))then
  some (C0,10)
  else
  if (decide (e.2=10))then
  some (C0,0)
  else
  some (C0,e.2)
  else
  if (decide (c.mo=3))then
  fq (j4 (ρ:=(A0×Int)) (fun(i2:Int)(s2:A0×A0)=>
  (idx c.gn i2).bind fun h=>
  (Aj n b h m).bind fun f=>
  if (!decide (f.2=0))then
  some (.ret (C0,f.2))
  else
  (Ag s2.2.gn [f.1]).bind fun i=>
  some (.next (s2.1,A0.mk s2.2.AaB s2.2.o3 i))) 0 (c.gn.length:Int) (C0,C0)) (fun s2=>
  some (s2.2,0)) (fun v2=>some v2)
  else
  if (decide (c.mo=4))then
  fq (j4 (ρ:=(A0×Int)) (fun(i4:Int)(s4:A0)=>
  (idx c.gn i4).bind fun j=>
  (Aj n b j m).bind fun a=>
  if (decide (a.2=0))then
  some (.ret (A0.mk i4 (AL.mk (d5.mk [] []) []) [a.1],0))
  else
  if (!decide (a.2=10))then
  some (.ret (C0,a.2))
  else
  some (.next s4)) 0 (c.gn.length:Int) C0) (fun s4=>
  some (C0,10)) (fun v4=>some v4)
  else
  if (decide (c.mo=5))then
  (BH n b c m).bind fun d=>
  some (d.1,d.2)
  else
  some (C0,0)
def BH[Ev]:Nat->Al->d6->AL->Option (A0×Int)
 |0,_,_,_=>none|n+1,e,c,m=>
  (Bm e c m).bind fun a=>
  if (!decide (a.2=0))then
  some (C0,a.2)
  else
  fq (j4 (ρ:=(A0×Int)) (fun(i0:Int)(s0:A0)=>
  (idx a.1 i0).bind fun d=>
  (idx c.gn 0).bind fun f=>
  (Aj n e f d).bind fun b=>
  if (decide (b.2=0))then
  some (.ret (A0.mk 0 d [b.1],0))
  else
  if (!decide (b.2=10))then
  some (.ret (C0,b.2))
  else
  some (.next s0)) 0 (a.1.length:Int) C0) (fun s0=>
  some (C0,10)) (fun v0=>some v0)
end
def DI[Ev](a:Al)(c:d6)(m:AL):Option (A0×Int):=Je fun n=>Aj n a c m
def Ns[Ev](a:Al)(c:d6)(m:AL):Option (A0×Int):=Je fun n=>BH n a c m
def DD[Ev](t:AC)(p:ea)(c:d6)(e:AG)(m:AL)(a:Bool):Option (A0×Int):=
 (Dz t p c e m a).bind fun b=>
 if (!decide (b=0))then
 some (C0,b)
 else
 (DI (Al.mk t e a) c m).bind fun d=>
 some (d.1,d.2)
def Co[Ev](t:AC)(p:ea)(c:d6)(d:AG)(m:AL)(a:Bool):Option (Bool×Int):=
 (DD t p c d m a).bind fun b=>
 if (decide (b.2=10))then
 some (false,0)
 else
 some (decide (b.2=0),b.2)
def IS(m:AL):Option AL:=
 (slices_Clone_int m.d5.ci).bind fun c=>
 (slices_Clone_int m.d5.d3).bind fun a=>
 (slices_Clone_int m.gt).bind fun b=>
 some (AL.mk (d5.mk c a) b)
def JC(a:AG):Option AG:=
 (slices_Clone_int a.d4.ci).bind fun f=>
 (Cr a.d4.d3).bind fun b=>
 (sx (fun(i0:Int)(s0:AG)=>
 (idx a.fd i0).bind fun c=>
 (Ag [] c).bind fun d=>
 (Ag s0.fd [d]).bind fun e=>
 some (AG.mk s0.d4 e)) 0 (a.fd.length:Int) (AG.mk (d4.mk f b) [])).bind fun s0=>
 some s0
def KP(n:Int)(l:Fp):Option Fp:=
 (IZ n 0).bind fun a=>
 (sx (fun(i0:Int)(s0:Fp)=>
 (slices_BinarySearch_int l i0).bind fun b=>
 if (!b.2)then
 (idx s0 i0).bind fun c=>
 some (BI s0 i0 (-1))
 else
 (idx s0 i0).bind fun c=>
 some (BI s0 i0 b.1)) 0 (a.length:Int) a).bind fun s0=>
 some s0
def Fg(d:Int)(f:Fp)(b:Fp)(a:Fp)(c:Fp)(n:Int):Option Fp:=
 (Du [(-1)] d).bind fun g=>
 (sx (fun(i0:Int)(s0:Fp)=>
 (idx b i0).bind fun e=>
 (idx f i0).bind fun h=>
 (idx a h).bind fun i=>
 (idx c i).bind fun j=>
 (idx s0 e).bind fun l=>
 some (BI s0 e j)) 0 (b.length:Int) g).bind fun s0=>
 (sx (fun(i2:Int)(s2:Int×Fp)=>
 (idx s2.2 i2).bind fun k=>
 if (decide (k<0))then
 (idx s2.2 i2).bind fun m=>
 some (Af (s2.1+1),BI s2.2 i2 s2.1)
 else
 some (s2.1,s2.2)) 0 (s0.length:Int) (n,s0)).bind fun s2=>
 some s2.2
def Hi[Ev](t:AC)(b:Int):Option Fp:=
 (Dh t b).bind fun a=>
 (sx (fun(i0:Int)(s0:Fp)=>
 (idx a.1 i0).bind fun c=>
 (Ag s0 [c.Low]).bind fun d=>
 some d) 0 (a.1.length:Int) []).bind fun s0=>
 some s0
def GL[Ev](t:AC)(a:Ar)(d:BA):Option Ar:=
 (sx (fun(i0:Int)(s0:Ar)=>
 (idx d.ci i0).bind fun f=>
 (idx a.Aas.d4.ci f).bind fun r=>
 (Ag s0.wi.d4.ci [r]).bind fun s=>
 (idx a.Aas.fd f).bind fun u=>
 (Ag [] u).bind fun v=>
 (Ag s0.wi.fd [v]).bind fun w=>
 some (Ar.mk s0.gp s0.o3 s0.Aas (AG.mk (d4.mk s s0.wi.d4.d3) w) s0.AaA s0.Aal)) 0 (d.ci.length:Int) a).bind fun s0=>
 (sx (fun(i2:Int)(s2:Ar)=>
 (idx d.d3 i2).bind fun x=>
 (idx a.Aas.d4.d3 x).bind fun e=>
 (idx s2.AaA.ci e.ns).bind fun g=>
 (idx s2.AaA.ci e.To).bind fun h=>
 (Ag s2.wi.d4.d3 [Bf.mk e.ne g h]).bind fun i=>
 some (Ar.mk s2.gp s2.o3 s2.Aas (AG.mk (d4.mk s2.wi.d4.ci i) s2.wi.fd) s2.AaA s2.Aal)) 0 (d.d3.length:Int) s0).bind fun s2=>
 (sx (fun(i4:Int)(s4:Ar)=>
 (idx a.gp.em.d4.ci i4).bind fun c=>
 (idx s4.Aal.ci i4).bind fun j=>
 if (decide (j=(s4.wi.d4.ci.length:Int)))then
 (Ag s4.wi.d4.ci [c]).bind fun k=>
 (Hi t c).bind fun l=>
 (Ag s4.wi.fd [l]).bind fun m=>
 some (Ar.mk s4.gp s4.o3 s4.Aas (AG.mk (d4.mk k s4.wi.d4.d3) m) s4.AaA s4.Aal)
 else
 some s4) 0 (a.gp.em.d4.ci.length:Int) s2).bind fun s4=>
 (sx (fun(i6:Int)(s6:Ar)=>
 (idx a.gp.em.d4.d3 i6).bind fun b=>
 (idx s6.Aal.d3 i6).bind fun n=>
 if (decide (n=(s6.wi.d4.d3.length:Int)))then
 (idx s6.Aal.ci b.ns).bind fun o=>
 (idx s6.Aal.ci b.To).bind fun p=>
 (Ag s6.wi.d4.d3 [Bf.mk b.ne o p]).bind fun q=>
 some (Ar.mk s6.gp s6.o3 s6.Aas (AG.mk (d4.mk s6.wi.d4.ci q) s6.wi.fd) s6.AaA s6.Aal)
 else
 some s6) 0 (a.gp.em.d4.d3.length:Int) s4).bind fun s6=>
 some s6
def Yr(s:Ar):TV:=.agg ((DA s).map (·.t))
def G7(s:Ar):Option (BE×Int):=
 fq (j4 (ρ:=(BE×Int)) (fun(i0:Int)(s0:BE)=>
 (idx s.gp.em.ff i0).bind fun a=>
 (EU a.j0 s.o3.gt).bind fun b=>
 if (!decide (b.2=0))then
 some (.ret ([],b.2))
 else
 (idx s.Aal.ci a.tl).bind fun c=>
 if ((s0.look (c,a.kp)).isSome&&(!decide ((s0.look (c,a.kp)).getD 0=b.1)))then
 some (.ret ([],11))
 else
 some (.next (s0.set (c,a.kp) b.1))) 0 (s.gp.em.ff.length:Int) []) (fun s0=>some (s0,0)) (fun v0=>some v0)
def MU(s:Ar)(V:List Fp):Ar:=Ar.mk s.gp s.o3 s.Aas (AG.mk s.wi.d4 V) s.AaA s.Aal
def Lx[Ev](t:AC)(s:Ar)(V:List Fp)(p:(Int×Int)×Int):Option (Bk (List Fp) Unit):=
 (idx s.wi.d4.ci p.1.1).bind fun c=>
 (Dh t c).bind fun a=>
 (idx a.1 p.1.2).bind fun d=>
 (if(decide (p.2<d.Low))then some true else((idx a.1 p.1.2).bind fun e=>
 some (decide (e.AaD<p.2)))).bind fun f=>
 if f then
 some (.ret ())
 else
 (idx V p.1.1).bind fun b=>
 (idx b p.1.2).bind fun g=>
 some (.next (BI V p.1.1 (BI b p.1.2 p.2)))
def Ly[Ev](t:AC)(s:Ar)(p:(Int×Int)×Int):K1:=
 (Lx t s s.wi.fd p).bind fun c=>match c with|.next _=>some true|.ret _=>some false|.brk _=>none
def Ig[Ev](t:AC)(s:Ar):Option (Int×Ar):=
 (G7 s).bind fun a=>
 if (!decide (a.2=0))then
 some (a.2,s)
 else
 if decide (List.Pairwise (fun x y:(Int×Int)×Int=>x.1≠y.1) a.1)then
 (AaP (Ly t s) a.1).bind fun c=>
 if c then
 some (0,MU s (a.1.foldl CS s.wi.fd))
 else
 some (6,s)
 else
 none
def Iy[Ev](t:AC)(a:gp)(d:AG)(m:AL):Option (Ar×Int):=
 (Gs t a d m).bind fun g=>
 if (!decide (g=0))then
 some (Ho,g)
 else
 (D2 t a.kl.d4 d.d4 m.d5).bind fun e=>
 if (!decide (e.2=0))then
 some (Ho,e.2)
 else
 (E2 e.1 d.d4 a.x3 m.d5).bind fun c=>
 if (!decide (c.2=0))then
 some (Ho,c.2)
 else
 (Co t a.kl a.d6 d m a.sc).bind fun f=>
 if (!decide (f.2=0))then
 some (Ho,f.2)
 else
 if (!f.1)then
 some (Ho,16)
 else
 (IS m).bind fun n=>
 (JC d).bind fun o=>
 (KP (d.d4.ci.length:Int) c.1.ci).bind fun h=>
 (KP (d.d4.d3.length:Int) c.1.d3).bind fun i=>
 (Fg (a.em.d4.ci.length:Int) a.x3.ci a.tc.ci m.d5.ci h (c.1.ci.length:Int)).bind fun j=>
 (Fg (a.em.d4.d3.length:Int) a.x3.d3 a.tc.d3 m.d5.d3 i (c.1.d3.length:Int)).bind fun k=>
 (GL t (Ar.mk a n o (AG.mk (d4.mk [] []) []) (d5.mk h i) (d5.mk j k)) c.1).bind fun l=>
 (Ig t l).bind fun b=>
 if (!decide (b.1=0))then
 some (Ho,b.1)
 else
 if ((decide (40<(b.2.wi.d4.ci.length:Int)))||(decide (80<(b.2.wi.d4.d3.length:Int))))then
 some (Ho,3)
 else
 some (b.2,0)
def Hh[Ev](t:AC)(c:gp)(d:AG)(m:AL):Option (Ar×Int):=
 (Iz t c d).bind fun a=>
 if (!decide (a=0))then
 some (Ho,a)
 else
 (Iy t c d m).bind fun b=>
 some (b.1,b.2)
def C4[Ev](t:AC)(a:List gp)(d:AG)(m:zt):Option (Ar×Int):=
 if ((decide (m.gp<0))||(decide ((a.length:Int)<=m.gp)))then
 some (Ho,6)
 else
 (idx a m.gp).bind fun c=>
 (Hh t c d m.o3).bind fun b=>
 some (b.1,b.2)
def Cq[Ev](t:AC)(a:List gp)(d:AW):Option (List Ar×Int×Int):=
 (DY t a d.kg).bind fun c=>
 if (!decide (c=0))then
 some ([],0,c)
 else
 if (decide (30<(d.kq.length:Int)))then
 some ([],0,3)
 else
 fq (j4 (ρ:=(List Ar×Int×Int)) (fun(i0:Int)(s0:List Ar×AG)=>
 (idx d.kq i0).bind fun e=>
 (C4 t a s0.2 e).bind fun b=>
 if (!decide (b.2=0))then
 some (.ret ([],i0,b.2))
 else
 (Ag s0.1 [b.1]).bind fun f=>
 some (.next (f,b.1.wi))) 0 (d.kq.length:Int) ([],d.kg)) (fun s0=>
 some (s0.1,(s0.1.length:Int),0)) (fun v0=>some v0)
def Dv(a:AU):QQ:=
 if (decide (20<(a.pr.length:Int)))then
 some 3
 else
 fq (j4 (ρ:=Int) (fun(i0:Int)(_:Unit)=>
 (idx a.pr i0).bind fun b=>
 if ((decide (b<0))||(decide ((a.jj.kq.length:Int)<b)))then
 some (.ret 6)
 else
 (if(decide (0<i0))then((idx a.pr (Af (i0-1))).bind fun c=>
 some (decide (b<c)))else some false).bind fun d=>
 if d then
 some (.ret 12)
 else
 some (.next ())) 0 (a.pr.length:Int) ()) (fun _=>
 some 0) (fun v0=>some v0)
def CX[Ev](t:AC)(a:List gp)(c:AU):QQ:=
 (Cq t a c.jj).bind fun b=>
 if (!decide (b.2.2=0))then
 some b.2.2
 else
 (Dv c).bind fun d=>
 some d
def GM(b:AU):Option (AU×Int):=
 if (decide ((b.pr.length:Int)=0))then
 some (ES,8)
 else
 (DN b).bind fun a=>
 (idx a.pr (Af ((b.pr.length:Int)-1))).bind fun c=>
 (slc a.jj.kq 0 c).bind fun d=>
 (slc a.pr 0 (Af ((b.pr.length:Int)-1))).bind fun e=>
 some (AU.mk (AW.mk a.jj.kg d) e,0)
def Dp[Ev](t:AC)(a:List gp)(d:AU):Option (AU×Int):=
 (CX t a d).bind fun b=>
 if (!decide (b=0))then
 some (ES,b)
 else
 (GM d).bind fun c=>
 some (c.1,c.2)
def KZ(a:AU):Option (AU×Int):=
 (Dv a).bind fun d=>
 if (!decide (d=0))then
 some (ES,d)
 else
 if (decide ((a.pr.length:Int)=20))then
 some (ES,17)
 else
 (DN a).bind fun b=>
 (Ag b.pr [(a.jj.kq.length:Int)]).bind fun c=>
 some (AU.mk b.jj c,0)
def J9(b:AU):Option (AU×Int):=
 (Dv b).bind fun d=>
 if (!decide (d=0))then
 some (ES,d)
 else
 if (decide ((b.pr.length:Int)=0))then
 some (ES,8)
 else
 (DN b).bind fun a=>
 (slc a.pr 0 (Af ((a.pr.length:Int)-1))).bind fun c=>
 some (AU.mk a.jj c,0)
def It(n:Int):Option Fp:=
 (IZ n 0).bind fun a=>
 (sx (fun(i0:Int)(s0:Fp)=>
 (idx s0 i0).bind fun b=>
 some (BI s0 i0 i0)) 0 (a.length:Int) a).bind fun s0=>
 some s0
def E1[Ev](g:d4):Option (d5×Int):=
 (CU g).bind fun c=>
 if (!decide (c=0))then
 some (d5.mk [] [],c)
 else
 (It (g.ci.length:Int)).bind fun a=>
 (It (g.d3.length:Int)).bind fun b=>
 some (d5.mk a b,0)
def D5[Ev](g:d4):Option d5:=
 (E1 g).bind fun a=>
 some a.1
def Iq(l:Fp)(c:Fp):Option Fp:=
 (slices_Clone_int l).bind fun d=>
 (sx (fun(i0:Int)(s0:Fp)=>
 (idx s0 i0).bind fun a=>
 if (decide (0<=a))then
 (idx c a).bind fun b=>
 (idx s0 i0).bind fun e=>
 some (BI s0 i0 b)
 else
 some s0) 0 (d.length:Int) d).bind fun s0=>
 some s0
def H3(a:AG):Option AG:=
 (slices_Clone_int a.d4.ci).bind fun f=>
 (Cr a.d4.d3).bind fun b=>
 (sx (fun(i0:Int)(s0:AG)=>
 (idx a.fd i0).bind fun c=>
 (slices_Clone_int c).bind fun d=>
 (Ag s0.fd [d]).bind fun e=>
 some (AG.mk s0.d4 e)) 0 (a.fd.length:Int) (AG.mk (d4.mk f b) [])).bind fun s0=>
 some s0
def FD[Ev](t:AC)(c:List gp)(d:AW):Option (AG×d5×Int):=
 (Cq t c d).bind fun a=>
 if (!decide (a.2.2=0))then
 some (AG.mk (d4.mk [] []) [],d5.mk [] [],a.2.2)
 else
 (D5 d.kg.d4).bind fun e=>
 (sx (fun(i0:Int)(s0:AG×d5)=>
 (idx a.1 i0).bind fun b=>
 (Iq s0.2.ci b.AaA.ci).bind fun f=>
 (Iq s0.2.d3 b.AaA.d3).bind fun g=>
 some (b.wi,d5.mk f g)) 0 (a.1.length:Int) (d.kg,e)).bind fun s0=>
 (H3 s0.1).bind fun h=>
 some (h,s0.2,0)
def KB(m:AL):Option AL:=
 (slices_Clone_int m.d5.ci).bind fun c=>
 (slices_Clone_int m.d5.d3).bind fun a=>
 (slices_Clone_int m.gt).bind fun b=>
 some (AL.mk (d5.mk c a) b)
def Gf(d:AW):Option AW:=
 (H3 d.kg).bind fun e=>
 (sx (fun(i0:Int)(s0:AW)=>
 (idx d.kq i0).bind fun a=>
 (KB a.o3).bind fun b=>
 (Ag s0.kq [zt.mk a.gp b]).bind fun c=>
 some (AW.mk s0.kg c)) 0 (d.kq.length:Int) (AW.mk e [])).bind fun s0=>
 some s0
def E0[Ev](t:AC)(a:List gp)(d:AW)(m:zt):Option (AW×Int):=
 (FD t a d).bind fun b=>
 if (!decide (b.2.2=0))then
 some (AW.mk (AG.mk (d4.mk [] []) []) [],b.2.2)
 else
 if (decide ((d.kq.length:Int)=30))then
 some (AW.mk (AG.mk (d4.mk [] []) []) [],17)
 else
 (C4 t a b.1 m).bind fun c=>
 if (!decide (c.2=0))then
 some (AW.mk (AG.mk (d4.mk [] []) []) [],c.2)
 else
 (Gf d).bind fun e=>
 (KB m.o3).bind fun f=>
 (Ag e.kq [zt.mk m.gp f]).bind fun g=>
 some (AW.mk e.kg g,0)
def Gd[Ev](t:AC)(b:List gp)(c:AU)(m:zt):Option (AU×Int):=
 (E0 t b c.jj m).bind fun a=>
 if (!decide (a.2=0))then
 some (ES,a.2)
 else
 (slices_Clone_int c.pr).bind fun d=>
 some (AU.mk a.1 d,0)
def Fx[Ev](t:AC)(c:List gp)(b:AU)(a:H8):Option (AU×Int):=
 if (decide (a.mo=1))then
 (Gd t c b a.zt).bind fun d=>
 some (d.1,d.2)
 else
 if (decide (a.mo=2))then
 (KZ b).bind fun e=>
 some (e.1,e.2)
 else
 if (decide (a.mo=3))then
 (J9 b).bind fun f=>
 some (f.1,f.2)
 else
 if (decide (a.mo=4))then
 (GM b).bind fun g=>
 some (g.1,g.2)
 else
 some (ES,1)
def Fw[Ev](t:AC)(a:List gp)(d:AU)(l:List H8):Option (AU×Int×Int):=
 (CX t a d).bind fun c=>
 if (!decide (c=0))then
 some (ES,0,c)
 else
 if (decide (100<(l.length:Int)))then
 some (ES,0,3)
 else
 (DN d).bind fun e=>
 fq (j4 (ρ:=(AU×Int×Int)) (fun(i0:Int)(s0:AU×AU)=>
 (idx l i0).bind fun f=>
 (Fx t a s0.2 f).bind fun b=>
 if (!decide (b.2=0))then
 some (.ret (ES,i0,b.2))
 else
 some (.next (s0.1,b.1))) 0 (l.length:Int) (ES,e)) (fun s0=>
 some (s0.2,(l.length:Int),0)) (fun v0=>some v0)
def Nx:Option AC:=
 some (AC.mk [B0.mk (⟨#[65,99,99,111,117,110,116]⟩:ByteArray) (-1) true [kp.mk (⟨#[98,97,108,97,110,99,101]⟩:ByteArray) (-1000) 1000 []],B0.mk (⟨#[67,97,115,104]⟩:ByteArray) 0 false [],B0.mk (⟨#[76,111,97,110]⟩:ByteArray) 0 false [kp.mk (⟨#[115,116,97,116,101]⟩:ByteArray) 0 1 [(⟨#[111,112,101,110]⟩:ByteArray),(⟨#[99,108,111,115,101,100]⟩:ByteArray)]],B0.mk (⟨#[80,101,114,115,111,110]⟩:ByteArray) (-1) false []] [B9.mk (⟨#[111,119,110,115]⟩:ByteArray) 3 0 0 (-1) 1 1,B9.mk (⟨#[112,97,121,115]⟩:ByteArray) 1 1 0 (-1) 0 (-1)])
def EA[Ev]:K1:=
 (Nx).bind fun b=>
 (DM b (AG.mk (d4.mk [] []) [])).bind fun d=>
 (Fw b [gp.mk (⟨#[98,105,114,116,104]⟩:ByteArray) (ea.mk (d4.mk [] []) [] 0 []) (ea.mk (d4.mk [3] []) [] 0 []) (BA.mk [] []) (d5.mk [] []) false (d6.mk 1 [] (d5.mk [] []) (ea.mk (d4.mk [] []) [] 0 []))] d.1 [H8.mk 2 (zt.mk 0 (AL.mk (d5.mk [] []) [])),H8.mk 1 (zt.mk 0 (AL.mk (d5.mk [] []) [])),H8.mk 2 (zt.mk 0 (AL.mk (d5.mk [] []) [])),H8.mk 1 (zt.mk 0 (AL.mk (d5.mk [] []) [])),H8.mk 3 (zt.mk 0 (AL.mk (d5.mk [] []) []))]).bind fun a=>
 (Dp b [gp.mk (⟨#[98,105,114,116,104]⟩:ByteArray) (ea.mk (d4.mk [] []) [] 0 []) (ea.mk (d4.mk [3] []) [] 0 []) (BA.mk [] []) (d5.mk [] []) false (d6.mk 1 [] (d5.mk [] []) (ea.mk (d4.mk [] []) [] 0 []))] a.1).bind fun c=>
 (if((((decide (d.2=0))&&(decide (a.2.2=0)))&&(decide (a.2.1=5)))&&(decide ((a.1.jj.kq.length:Int)=2)))then((slices_Equal_int a.1.pr [0]).bind fun e=>
 some (e))else some false).bind fun f=>
 some (((f&&(decide (c.2=0)))&&(decide ((c.1.jj.kq.length:Int)=0)))&&(decide ((c.1.pr.length:Int)=0)))
def Jv[Ev](t:AC):K1:=
 if ((decide (20<(t.ci.length:Int)))||(decide (30<(t.d3.length:Int))))then
 some false
 else
 fq (j4 (ρ:=Bool) (fun(i0:Int)(s0:Int)=>
 (idx t.ci i0).bind fun b=>
 (if(decide (30<(Af (s0+(b.up.length:Int)))))then some true else((idx t.ci i0).bind fun d=>
 some (decide (40<(d.pq.size:Int))))).bind fun e=>
 if e then
 some (.ret false)
 else
 fq (EQ (ρ:=Bool) (fun(s2:Int)=>
 (idx t.ci i0).bind fun f=>
 if (decide (s2<(f.up.length:Int)))then
 (idx t.ci i0).bind fun g=>
 (idx g.up s2).bind fun a=>
 if ((decide (40<(a.pq.size:Int)))||(decide (25<(a.t5.length:Int))))then
 some (.ret false)
 else
 fq (EQ (ρ:=Bool) (fun(s4:Int)=>
 if (decide (s4<(a.t5.length:Int)))then
 (idx a.t5 s4).bind fun h=>
 if (decide (40<(h.size:Int)))then
 some (.ret false)
 else
 some (.next (Af (s4+1)))
 else
 some (.brk s4)) 0) (fun s4=>
 some (.next (Af (s2+1)))) (fun v4=>some (.ret v4))
 else
 some (.brk s2)) 0) (fun s2=>
 some (.next (Af (s0+(b.up.length:Int))))) (fun v2=>some (.ret v2))) 0 (t.ci.length:Int) 0) (fun s0=>
 fq (j4 (ρ:=Bool) (fun(i6:Int)(_:Unit)=>
 (idx t.d3 i6).bind fun c=>
 if (decide (40<(c.pq.size:Int)))then
 some (.ret false)
 else
 some (.next ())) 0 (t.d3.length:Int) ()) (fun _=>
 some true) (fun v6=>some v6)) (fun v0=>some v0)
def Ha(g:d4):K1:=
 some ((decide ((g.ci.length:Int)<=45))&&(decide ((g.d3.length:Int)<=90)))
def GR(a:AG):K1:=
 (Ha a.d4).bind fun c=>
 if ((!c)||(decide (45<(a.fd.length:Int))))then
 some false
 else
 fq (j4 (ρ:=Bool) (fun(i0:Int)(_:Unit)=>
 (idx a.fd i0).bind fun b=>
 if (decide (12<(b.length:Int)))then
 some (.ret false)
 else
 some (.next ())) 0 (a.fd.length:Int) ()) (fun _=>
 some true) (fun v0=>some v0)
def Jw(m:d5)(n:Int):K1:=
 some (decide ((Af ((m.ci.length:Int)+(m.d3.length:Int)))<=n))
def Ia(p:ea):K1:=
 (Ha p.d4).bind fun a=>
 some ((a&&(decide ((p.ff.length:Int)<=15)))&&(decide ((p.sr.length:Int)<=15)))
def PL(p:BA)(n:Int):K1:=
 some (decide ((Af ((p.ci.length:Int)+(p.d3.length:Int)))<=n))
def CW[Ev]:Nat->d6->Int->QQ
 |0,_,_=>none|n+1,c,a=>
  (Ia c.ea).bind fun b=>
  (if(!b)then some true else((Jw c.Map 140).bind fun d=>
  some (!d))).bind fun e=>
  if e then
  some (-1)
  else
  fq (EQ (ρ:=Int) (fun(s0:Int×Int)=>
  if ((decide (s0.2<(c.gn.length:Int)))&&(decide (0<=s0.1)))then
  (idx c.gn s0.2).bind fun f=>
  (CW n f s0.1).bind fun g=>
  some (.next (g,Af (s0.2+1)))
  else
  some (.brk (s0.1,s0.2))) (Af (a-1),0)) (fun s0=>
  some s0.1) (fun v0=>some v0)
def OH[Ev](c:d6)(a:Int):QQ:=Je fun n=>CW n c a
def Ib[Ev](c:d6):K1:=
 (OH c 40).bind fun a=>
 some (decide (0<=a))
def Nk[Ev](a:gp):K1:=
 (if(decide ((a.pq.size:Int)<=60))then((Ia a.kl).bind fun b=>
 some (b))else some false).bind fun c=>
 (if c then((Ia a.em).bind fun d=>
 some (d))else some false).bind fun e=>
 (if e then((PL a.x3 140).bind fun f=>
 some (f))else some false).bind fun g=>
 (if g then((Jw a.tc 140).bind fun h=>
 some (h))else some false).bind fun i=>
 (if i then((Ib a.d6).bind fun j=>
 some (j))else some false).bind fun k=>
 some k
def OF(t:EH):Option ByteArray:=
 if (decide (t.mo=3))then
 (SI (⟨#[34]⟩:ByteArray) t.AbU).bind fun a=>
 (SI a (⟨#[34]⟩:ByteArray)).bind fun b=>
 some b
 else
 some t.AbU
def Jt(c:Int):K1:=
 some (((decide (97<=c))&&(decide (c<=122)))||((decide (65<=c))&&(decide (c<=90))))
def Hs(c:Int):K1:=
 some ((decide (48<=c))&&(decide (c<=57)))
def Ng[Ev](b:ByteArray)(c:Int)(a:Bool):QQ:=
 fq (EQ (ρ:=Int) (fun(s0:Int)=>
 (if(decide ((Af (c+s0))<(b.size:Int)))then((AaC b (Af (c+s0))).bind fun d=>
 (Hs d).bind fun e=>
 (if e then some true else((if(!a)then((AaC b (Af (c+s0))).bind fun f=>
 (Jt f).bind fun g=>
 (if g then some true else((AaC b (Af (c+s0))).bind fun h=>
 some (decide (h=95)))).bind fun i=>
 some (i))else some false).bind fun j=>
 some (j))).bind fun k=>
 some (k))else some false).bind fun l=>
 if l then
 some (.next (Af (s0+1)))
 else
 some (.brk s0)) 0) (fun s0=>
 some s0) (fun v0=>some v0)
def Ju[Ev](b:ByteArray)(c:Int):QQ:=
 fq (EQ (ρ:=Int) (fun(s0:Int)=>
 if (decide ((Af (c+s0))<(b.size:Int)))then
 (AaC b (Af (c+s0))).bind fun a=>
 if (decide (a=34))then
 some (.ret (Af (s0+1)))
 else
 if ((decide (a<32))||(decide (126<a)))then
 some (.ret 0)
 else
 some (.next (Af (s0+1)))
 else
 some (.brk s0)) 1) (fun s0=>
 some 0) (fun v0=>some v0)
def NA:Option (List ByteArray):=
 some [(⟨#[45,62]⟩:ByteArray),(⟨#[60,61]⟩:ByteArray),(⟨#[62,61]⟩:ByteArray),(⟨#[61,61]⟩:ByteArray),(⟨#[33,61]⟩:ByteArray),(⟨#[123]⟩:ByteArray),(⟨#[125]⟩:ByteArray),(⟨#[40]⟩:ByteArray),(⟨#[41]⟩:ByteArray),(⟨#[91]⟩:ByteArray),(⟨#[93]⟩:ByteArray),(⟨#[44]⟩:ByteArray),(⟨#[59]⟩:ByteArray),(⟨#[58]⟩:ByteArray),(⟨#[61]⟩:ByteArray),(⟨#[43]⟩:ByteArray),(⟨#[45]⟩:ByteArray),(⟨#[42]⟩:ByteArray),(⟨#[60]⟩:ByteArray),(⟨#[62]⟩:ByteArray),(⟨#[33]⟩:ByteArray),(⟨#[38]⟩:ByteArray),(⟨#[124]⟩:ByteArray),(⟨#[46]⟩:ByteArray),(⟨#[63]⟩:ByteArray)]
def Nf[Ev](a:ByteArray)(d:Int):Option (EH×Int×Int):=
 (AaC a d).bind fun c=>
 (Jt c).bind fun i=>
 (if i then some true else((Hs c).bind fun j=>
 some (j))).bind fun k=>
 if k then
 (Hs c).bind fun l=>
 (Ng a d l).bind fun f=>
 (Hs c).bind fun m=>
 (if m then
 some (2,9)
 else
 some (1,20)).bind fun w1=>
 if (decide (w1.2<f))then
 some (EH.mk 0 (⟨#[]⟩:ByteArray) 0,0,3)
 else
 (AaH a d (Af (d+f))).bind fun n=>
 some (EH.mk w1.1 n 0,f,0)
 else
 if (decide (c=34))then
 (Ju a d).bind fun e=>
 if (decide (e=0))then
 some (EH.mk 0 (⟨#[]⟩:ByteArray) 0,0,2)
 else
 if (decide (60<(Af (e-2))))then
 some (EH.mk 0 (⟨#[]⟩:ByteArray) 0,0,3)
 else
 (AaH a (Af (d+1)) (Af ((Af (d+e))-1))).bind fun o=>
 some (EH.mk 3 o 0,e,0)
 else
 (NA).bind fun b=>
 fq (j4 (ρ:=(EH×Int×Int)) (fun(i0:Int)(s0:EH)=>
 (idx b i0).bind fun p=>
 (if(decide ((Af (d+(p.size:Int)))<=(a.size:Int)))then((idx b i0).bind fun q=>
 (AaH a d (Af (d+(q.size:Int)))).bind fun r=>
 (idx b i0).bind fun s=>
 some (r==s))else some false).bind fun t=>
 if t then
 (idx b i0).bind fun g=>
 (idx b i0).bind fun h=>
 some (.ret (EH.mk 4 g 0,(h.size:Int),0))
 else
 some (.next s0)) 0 (b.length:Int) (EH.mk 0 (⟨#[]⟩:ByteArray) 0)) (fun s0=>
 some (EH.mk 0 (⟨#[]⟩:ByteArray) 0,0,2)) (fun v0=>some v0)
def M9[Ev](t:EH):K1:=
 (OF t).bind fun b=>
 if (b==(⟨#[]⟩:ByteArray))then
 some false
 else
 (Nf b 0).bind fun a=>
 some (((decide (a.2.2=0))&&(decide (a.2.1=(b.size:Int))))&&(decide (a.1.mo=t.mo)))
def Eu[Ev](a:ByteArray):K1:=
 (M9 (EH.mk 1 a 0)).bind fun b=>
 some b
def DG(n:Int)(b:Int)(a:Int):K1:=
 some ((decide (b<=n))&&(decide (n<=a)))
def Fa[Ev]:Nat->AC->Int->Option (List kp)
 |0,_,_=>none|n+1,t,a=>
  if (decide (a<0))then
  some []
  else
  (idx t.ci a).bind fun b=>
  (Fa n t b.Aac).bind fun c=>
  (Ag [] c).bind fun d=>
  (idx t.ci a).bind fun e=>
  (Ag d e.up).bind fun f=>
  some f
def NB[Ev](t:AC)(a:Int):Option (List kp):=Je fun n=>Fa n t a
def Kl[Ev](l:List ByteArray):QQ:=
 if (decide (20<(l.length:Int)))then
 some 3
 else
 fq (j4 (ρ:=Int) (fun(i0:Int)(_:Unit)=>
 (idx l i0).bind fun a=>
 (Eu a).bind fun b=>
 if (!b)then
 some (.ret 2)
 else
 fq (j4 (ρ:=Int) (fun(i2:Int)(_:Unit)=>
 (idx l i2).bind fun c=>
 (idx l i0).bind fun d=>
 if (c==d)then
 some (.ret 5)
 else
 some (.next ())) 0 i0 ()) (fun _=>
 some (.next ())) (fun v2=>some (.ret v2))) 0 (l.length:Int) ()) (fun _=>
 some 0) (fun v0=>some v0)
def HZ[Ev](a:kp):QQ:=
 if (decide ((a.t5.length:Int)=0))then
 (DG a.Low (-1000000) 1000000).bind fun c=>
 (if(!c)then some true else((DG a.AaD a.Low 1000000).bind fun d=>
 some (!d))).bind fun e=>
 if e then
 some 6
 else
 some 0
 else
 (Kl a.t5).bind fun b=>
 if (!decide (b=0))then
 some b
 else
 if ((!decide (a.Low=0))||(!decide (a.AaD=(Af ((a.t5.length:Int)-1)))))then
 some 6
 else
 some 0
def ME[Ev](t:AC)(c:Int):QQ:=
 (idx t.ci c).bind fun b=>
 (Eu b.pq).bind fun e=>
 if (!e)then
 some 2
 else
 fq (j4 (ρ:=Int) (fun(i0:Int)(_:Unit)=>
 (idx t.ci i0).bind fun f=>
 if (f.pq==b.pq)then
 some (.ret 5)
 else
 some (.next ())) 0 c ()) (fun _=>
 (DG b.Aac (-1) (Af (c-1))).bind fun g=>
 if (!g)then
 some 6
 else
 (NB t c).bind fun a=>
 if ((decide (4<(b.up.length:Int)))||(decide (8<(a.length:Int))))then
 some 3
 else
 fq (j4 (ρ:=Int) (fun(i2:Int)(_:Unit)=>
 (idx a i2).bind fun h=>
 (Eu h.pq).bind fun i=>
 if (!i)then
 some (.ret 2)
 else
 fq (j4 (ρ:=Int) (fun(i4:Int)(_:Unit)=>
 (idx a i4).bind fun j=>
 (idx a i2).bind fun k=>
 if (j.pq==k.pq)then
 some (.ret 5)
 else
 some (.next ())) 0 i2 ()) (fun _=>
 (idx a i2).bind fun l=>
 (HZ l).bind fun d=>
 if (!decide (d=0))then
 some (.ret d)
 else
 some (.next ())) (fun v4=>some (.ret v4))) (Af ((a.length:Int)-(b.up.length:Int))) (a.length:Int) ()) (fun _=>
 some 0) (fun v2=>some v2)) (fun v0=>some v0)
def JK(b:Int)(a:Int):K1:=
 (DG b 0 40).bind fun f=>
 (if f then((if(decide (a=(-1)))then some true else((DG a b 40).bind fun c=>
 some (c))).bind fun d=>
 some (d))else some false).bind fun e=>
 some e
def MD[Ev](t:AC)(b:Int):QQ:=
 (idx t.d3 b).bind fun a=>
 (Eu a.pq).bind fun c=>
 if (!c)then
 some 2
 else
 fq (j4 (ρ:=Int) (fun(i0:Int)(_:Unit)=>
 (idx t.d3 i0).bind fun d=>
 if (d.pq==a.pq)then
 some (.ret 5)
 else
 some (.next ())) 0 b ()) (fun _=>
 (DG a.ns 0 (Af ((t.ci.length:Int)-1))).bind fun e=>
 (if(!e)then some true else((DG a.To 0 (Af ((t.ci.length:Int)-1))).bind fun f=>
 some (!f))).bind fun g=>
 (if g then some true else((JK a.Abh a.AaX).bind fun h=>
 some (!h))).bind fun i=>
 (if i then some true else((JK a.AbA a.Abf).bind fun j=>
 some (!j))).bind fun k=>
 if k then
 some 6
 else
 some 0) (fun v0=>some v0)
def EC[Ev](t:AC):Option (ByteArray×Int):=
 if (decide ((t.ci.length:Int)=0))then
 some ((⟨#[]⟩:ByteArray),7)
 else
 if ((decide (12<(t.ci.length:Int)))||(decide (20<(t.d3.length:Int))))then
 some ((⟨#[]⟩:ByteArray),3)
 else
 fq (j4 (ρ:=(ByteArray×Int)) (fun(i0:Int)(_:Unit)=>
 (ME t i0).bind fun a=>
 if (!decide (a=0))then
 (idx t.ci i0).bind fun c=>
 some (.ret (c.pq,a))
 else
 some (.next ())) 0 (t.ci.length:Int) ()) (fun _=>
 fq (j4 (ρ:=(ByteArray×Int)) (fun(i2:Int)(_:Unit)=>
 (MD t i2).bind fun b=>
 if (!decide (b=0))then
 (idx t.d3 i2).bind fun d=>
 some (.ret (d.pq,b))
 else
 some (.next ())) 0 (t.d3.length:Int) ()) (fun _=>
 some ((⟨#[]⟩:ByteArray),0)) (fun v2=>some v2)) (fun v0=>some v0)
def KI(n:Int):K1:=
 some ((decide (0<=n))&&(decide (n<=99)))
def NC(e:Bf)(a:Int):K1:=
 (KI e.ne).bind fun b=>
 some ((((b&&(decide (0<=e.ns)))&&(decide (e.ns<a)))&&(decide (0<=e.To)))&&(decide (e.To<a)))
def Dg(g:d4):QQ:=
 if ((decide (40<(g.ci.length:Int)))||(decide (80<(g.d3.length:Int))))then
 some 3
 else
 fq (j4 (ρ:=Int) (fun(i0:Int)(_:Unit)=>
 (idx g.ci i0).bind fun a=>
 (KI a).bind fun b=>
 if (!b)then
 some (.ret 6)
 else
 some (.next ())) 0 (g.ci.length:Int) ()) (fun _=>
 fq (j4 (ρ:=Int) (fun(i2:Int)(_:Unit)=>
 (idx g.d3 i2).bind fun c=>
 (NC c (g.ci.length:Int)).bind fun d=>
 if (!d)then
 some (.ret 6)
 else
 some (.next ())) 0 (g.d3.length:Int) ()) (fun _=>
 some 0) (fun v2=>some v2)) (fun v0=>some v0)
def GT(t:AC)(g:d4):K1:=
 fq (j4 (ρ:=Bool) (fun(i0:Int)(_:Unit)=>
 (idx g.ci i0).bind fun a=>
 (if(decide (a<0))then some true else((idx g.ci i0).bind fun b=>
 some (decide ((t.ci.length:Int)<=b)))).bind fun c=>
 if c then
 some (.ret false)
 else
 some (.next ())) 0 (g.ci.length:Int) ()) (fun _=>
 fq (j4 (ρ:=Bool) (fun(i2:Int)(_:Unit)=>
 (idx g.d3 i2).bind fun d=>
 (if(decide (d.ne<0))then some true else((idx g.d3 i2).bind fun e=>
 some (decide ((t.d3.length:Int)<=e.ne)))).bind fun f=>
 if f then
 some (.ret false)
 else
 some (.next ())) 0 (g.d3.length:Int) ()) (fun _=>
 some true) (fun v2=>some v2)) (fun v0=>some v0)
def JL[Ev](t:AC)(a:Int)(b:Int):QQ:=
 (EC t).bind fun c=>
 if (!decide (c.2=0))then
 some c.2
 else
 (DG a 0 (Af ((t.ci.length:Int)-1))).bind fun d=>
 (if(!d)then some true else((DG b 0 (Af ((t.ci.length:Int)-1))).bind fun e=>
 some (!e))).bind fun f=>
 if f then
 some 6
 else
 some 0
def FQ[Ev](t:AC)(a:Int):Option (List kp×Int):=
 (JL t a a).bind fun c=>
 if (!decide (c=0))then
 some ([],c)
 else
 (NB t a).bind fun d=>
 (sx (fun(i0:Int)(s0:List kp)=>
 (idx d i0).bind fun b=>
 (Ag [] b.t5).bind fun e=>
 (Ag s0 [kp.mk b.pq b.Low b.AaD e]).bind fun f=>
 some f) 0 (d.length:Int) []).bind fun s0=>
 some (s0,0)
def MI[Ev](t:AC)(p:ea)(b:Int)(a:Int):Option (kp×Bool):=
 if ((decide (b<0))||(decide ((p.d4.ci.length:Int)<=b)))then
 some (kp.mk (⟨#[]⟩:ByteArray) 0 0 [],false)
 else
 (idx p.d4.ci b).bind fun d=>
 (FQ t d).bind fun c=>
 if (((!decide (c.2=0))||(decide (a<0)))||(decide ((c.1.length:Int)<=a)))then
 some (kp.mk (⟨#[]⟩:ByteArray) 0 0 [],false)
 else
 (idx c.1 a).bind fun e=>
 some (e,true)
def K9(n:Int):K1:=
 some ((decide ((-1000000)<=n))&&(decide (n<=1000000)))
def IK(n:Int)(t:j0):QQ:=
 if ((((decide (t.Var<(-1)))||(decide (n<=t.Var)))||(decide (t.Add<(-1000000))))||(decide (1000000<t.Add)))then
 some 6
 else
 some 0
def Nh(n:Int)(a:Test):QQ:=
 if ((!decide (a.mo=1))&&(!decide (a.mo=2)))then
 some 1
 else
 (IK n a.kl).bind fun b=>
 if (!decide (b=0))then
 some b
 else
 (IK n a.em).bind fun c=>
 some c
def Kk(n:Int)(l:List Test):QQ:=
 if ((decide (n<0))||(decide (12<n)))then
 some 6
 else
 if (decide (40<(l.length:Int)))then
 some 3
 else
 fq (j4 (ρ:=Int) (fun(i0:Int)(_:Unit)=>
 (idx l i0).bind fun b=>
 (Nh n b).bind fun a=>
 if (!decide (a=0))then
 some (.ret a)
 else
 some (.next ())) 0 (l.length:Int) ()) (fun _=>
 some 0) (fun v0=>some v0)
def Jz(p:ea)(b:Int):K1:=
 fq (j4 (ρ:=Bool) (fun(i0:Int)(_:Unit)=>
 (idx p.ff i0).bind fun a=>
 if (decide (a.j0.Var=b))then
 some (.ret true)
 else
 some (.next ())) 0 (p.ff.length:Int) ()) (fun _=>
 some false) (fun v0=>some v0)
def GU[Ev](t:AC)(p:ea):QQ:=
 (EC t).bind fun c=>
 if (!decide (c.2=0))then
 some c.2
 else
 (Dg p.d4).bind fun d=>
 if (!decide (d=0))then
 some d
 else
 (GT t p.d4).bind fun f=>
 if (!f)then
 some 13
 else
 if ((decide (p.gt<0))||(decide (12<p.gt)))then
 some 6
 else
 if ((decide (10<(p.ff.length:Int)))||(decide (10<(p.sr.length:Int))))then
 some 3
 else
 fq (j4 (ρ:=Int) (fun(i0:Int)(_:Unit)=>
 (idx p.ff i0).bind fun a=>
 (MI t p a.tl a.kp).bind fun g=>
 (if(((!g.2)||(decide (a.j0.Var<(-1))))||(decide (p.gt<=a.j0.Var)))then some true else((K9 a.j0.Add).bind fun h=>
 some (!h))).bind fun i=>
 if i then
 some (.ret 6)
 else
 some (.next ())) 0 (p.ff.length:Int) ()) (fun _=>
 (Kk p.gt p.sr).bind fun b=>
 if (!decide (b=0))then
 some b
 else
 fq (j4 (ρ:=Int) (fun(i2:Int)(_:Unit)=>
 (Jz p i2).bind fun e=>
 if (!e)then
 some (.ret 9)
 else
 some (.next ())) 0 p.gt ()) (fun _=>
 some 0) (fun v2=>some v2)) (fun v0=>some v0)
def Gm(c:d6):K1:=
 some (((decide ((Af ((Af ((Af ((c.Map.ci.length:Int)+(c.Map.d3.length:Int)))+(c.ea.d4.ci.length:Int)))+(c.ea.d4.d3.length:Int)))=0))&&(decide ((Af ((c.ea.ff.length:Int)+(c.ea.sr.length:Int)))=0)))&&(decide (c.ea.gt=0)))
def Kv(c:d6):K1:=
 if (decide (c.mo=1))then
 (if(decide ((c.gn.length:Int)=0))then((Gm c).bind fun a=>
 some (a))else some false).bind fun b=>
 some b
 else
 if (decide (c.mo=2))then
 (if(decide ((c.gn.length:Int)=1))then((Gm c).bind fun d=>
 some (d))else some false).bind fun e=>
 some e
 else
 (if(decide (c.mo=3))then
 some (decide (c.mo=3))
 else
 some (decide (c.mo=4))).bind fun w1=>
 if w1 then
 (if(decide (0<(c.gn.length:Int)))then((Gm c).bind fun f=>
 some (f))else some false).bind fun g=>
 some g
 else
 if (decide (c.mo=5))then
 some (decide ((c.gn.length:Int)=1))
 else
 some false
def D1[Ev]:Nat->d6->K1
 |0,_=>none|n+1,c=>
  (Kv c).bind fun d=>
  if (!d)then
  some false
  else
  fq (j4 (ρ:=Bool) (fun(i0:Int)(_:Unit)=>
  (idx c.gn i0).bind fun a=>
  (D1 n a).bind fun b=>
  if (!b)then
  some (.ret false)
  else
  some (.next ())) 0 (c.gn.length:Int) ()) (fun _=>
  some true) (fun v0=>some v0)
def Mw[Ev](c:d6):K1:=Je fun n=>D1 n c
def Ed[Ev]:Nat->d6->Option (Int×Int)
 |0,_=>none|n+1,c=>
  (sx (fun(i0:Int)(s0:Int×Int)=>
  (idx c.gn i0).bind fun b=>
  (Ed n b).bind fun a=>
  some (Af (s0.1+a.1),max s0.2 a.2)) 0 (c.gn.length:Int) (1,0)).bind fun s0=>
  (if(decide (c.mo=5))then
  some (Af (s0.2+1))
  else
  some s0.2).bind fun w1=>
  some (s0.1,w1)
def Nz[Ev](c:d6):Option (Int×Int):=Je fun n=>Ed n c
def Kt[Ev](c:d6):QQ:=
 (Mw c).bind fun b=>
 if (!b)then
 some 1
 else
 (Nz c).bind fun a=>
 if ((decide (12<a.1))||(decide (3<a.2)))then
 some 3
 else
 some 0
def MJ(p:ea)(b:Int):K1:=
 fq (j4 (ρ:=Bool) (fun(i0:Int)(_:Unit)=>
 (idx p.ff i0).bind fun a=>
 if (decide (a.j0.Var=b))then
 some (.ret true)
 else
 some (.next ())) 0 (p.ff.length:Int) ()) (fun _=>
 some false) (fun v0=>some v0)
def Ku[Ev](t:AC)(a:Int)(q:ea):QQ:=
 if (decide (q.gt<a))then
 some 20
 else
 (GU t q).bind fun b=>
 if (!decide (b=9))then
 some b
 else
 fq (j4 (ρ:=Int) (fun(i0:Int)(_:Unit)=>
 (MJ q i0).bind fun c=>
 if (!c)then
 some (.ret b)
 else
 some (.next ())) a q.gt ()) (fun _=>
 some 0) (fun v0=>some v0)
def GQ(a:d4)(b:d4)(m:d5):QQ:=
 (Dg a).bind fun e=>
 if (!decide (e=0))then
 some e
 else
 (Dg b).bind fun f=>
 if (!decide (f=0))then
 some f
 else
 if ((!decide ((m.ci.length:Int)=(a.ci.length:Int)))||(!decide ((m.d3.length:Int)=(a.d3.length:Int))))then
 some 20
 else
 fq (j4 (ρ:=Int) (fun(i0:Int)(_:Unit)=>
 (idx m.ci i0).bind fun l=>
 (if(decide (l<0))then some true else((idx m.ci i0).bind fun n=>
 some (decide ((b.ci.length:Int)<=n)))).bind fun o=>
 if o then
 some (.ret 6)
 else
 (idx m.ci i0).bind fun p=>
 (idx b.ci p).bind fun q=>
 (idx a.ci i0).bind fun r=>
 if (!decide (q=r))then
 some (.ret 13)
 else
 some (.next ())) 0 (a.ci.length:Int) ()) (fun _=>
 fq (j4 (ρ:=Int) (fun(i2:Int)(_:Unit)=>
 (idx m.d3 i2).bind fun s=>
 (if(decide (s<0))then some true else((idx m.d3 i2).bind fun t=>
 some (decide ((b.d3.length:Int)<=t)))).bind fun g=>
 if g then
 some (.ret 6)
 else
 (idx a.d3 i2).bind fun c=>
 (idx m.d3 i2).bind fun h=>
 (idx b.d3 h).bind fun d=>
 if (!decide (c.ne=d.ne))then
 some (.ret 13)
 else
 (idx m.ci c.ns).bind fun i=>
 (if(!decide (i=d.ns))then some true else((idx m.ci c.To).bind fun j=>
 some (!decide (j=d.To)))).bind fun k=>
 if k then
 some (.ret 11)
 else
 some (.next ())) 0 (a.d3.length:Int) ()) (fun _=>
 some 0) (fun v2=>some v2)) (fun v0=>some v0)
def Ec(l:Fp):K1:=
 fq (j4 (ρ:=Bool) (fun(i0:Int)(_:Unit)=>
 fq (j4 (ρ:=Bool) (fun(i2:Int)(_:Unit)=>
 (idx l i0).bind fun a=>
 (idx l i2).bind fun b=>
 if (decide (a=b))then
 some (.ret false)
 else
 some (.next ())) 0 i0 ()) (fun _=>
 some (.next ())) (fun v2=>some (.ret v2))) 0 (l.length:Int) ()) (fun _=>
 some true) (fun v0=>some v0)
def Hb(a:d4)(b:d4)(m:d5):K1:=
 (GQ a b m).bind fun c=>
 (if(decide (c=0))then((Ec m.ci).bind fun d=>
 some (d))else some false).bind fun e=>
 (if e then((Ec m.d3).bind fun f=>
 some (f))else some false).bind fun g=>
 some g
def Ei[Ev]:Nat->AC->ea->d6->QQ
 |0,_,_,_=>none|n+1,t,p,c=>
  if (decide (c.mo=5))then
  (Ku t p.gt c.ea).bind fun d=>
  if (!decide (d=0))then
  some d
  else
  (GQ p.d4 c.ea.d4 c.Map).bind fun e=>
  if (!decide (e=0))then
  some e
  else
  (Hb p.d4 c.ea.d4 c.Map).bind fun f=>
  if (!f)then
  some 1
  else
  fq (j4 (ρ:=Int) (fun(i0:Int)(_:Unit)=>
  (idx c.gn i0).bind fun b=>
  (Ei n t c.ea b).bind fun a=>
  if (!decide (a=0))then
  some (.ret a)
  else
  some (.next ())) 0 (c.gn.length:Int) ()) (fun _=>
  some 0) (fun v0=>some v0)
  else
  fq (j4 (ρ:=Int) (fun(i0:Int)(_:Unit)=>
  (idx c.gn i0).bind fun b=>
  (Ei n t p b).bind fun a=>
  if (!decide (a=0))then
  some (.ret a)
  else
  some (.next ())) 0 (c.gn.length:Int) ()) (fun _=>
  some 0) (fun v0=>some v0)
def UY[Ev](t:AC)(p:ea)(c:d6):QQ:=Je fun n=>Ei n t p c
def JM[Ev](t:AC)(p:ea)(c:d6):QQ:=
 (GU t p).bind fun a=>
 if (!decide (a=0))then
 some a
 else
 (Kt c).bind fun b=>
 if (!decide (b=0))then
 some b
 else
 (UY t p c).bind fun d=>
 some d
def Hw[Ev](t:AC)(p:d4)(g:d4):QQ:=
 (EC t).bind fun a=>
 if (!decide (a.2=0))then
 some a.2
 else
 (Dg p).bind fun b=>
 if (!decide (b=0))then
 some b
 else
 (Dg g).bind fun c=>
 if (!decide (c=0))then
 some c
 else
 (GT t p).bind fun d=>
 (if(!d)then some true else((GT t g).bind fun e=>
 some (!e))).bind fun f=>
 if f then
 some 13
 else
 some 0
def Km[Ev](t:AC)(p:d4)(g:d4):K1:=
 (Jv t).bind fun h=>
 (if h then((Ha p).bind fun a=>
 some (a))else some false).bind fun b=>
 (if b then((Ha g).bind fun c=>
 some (c))else some false).bind fun d=>
 (if d then((Hw t p g).bind fun e=>
 some ((!decide (e=0))||(((decide ((Af ((p.ci.length:Int)+(p.d3.length:Int)))<=6))&&(decide ((g.ci.length:Int)<=8)))&&(decide ((g.d3.length:Int)<=12)))))else some false).bind fun f=>
 some f
def NF[Ev](t:AC)(p:ea)(a:AG):K1:=
 (Ia p).bind fun f=>
 (if f then((GR a).bind fun b=>
 some (b))else some false).bind fun c=>
 (if c then((Km t p.d4 a.d4).bind fun d=>
 some (d))else some false).bind fun e=>
 some e
def E6[Ev]:Nat->d6->K1
 |0,_=>none|n+1,c=>
  fq (j4 (ρ:=Bool) (fun(i0:Int)(_:Unit)=>
  (idx c.gn i0).bind fun a=>
  (E6 n a).bind fun b=>
  if (!b)then
  some (.ret false)
  else
  some (.next ())) 0 (c.gn.length:Int) ()) (fun _=>
  some (decide ((Af ((c.ea.d4.ci.length:Int)+(c.ea.d4.d3.length:Int)))<=6))) (fun v0=>some v0)
def Ot[Ev](c:d6):K1:=Je fun n=>E6 n c
def Dl[Ev]:Nat->ea->d6->Int->Int->K1
 |0,_,_,_,_=>none|n+1,p,c,b,a=>
  (if(decide (c.mo=5))then
  some c.ea
  else
  some p).bind fun w1=>
  fq (EQ (ρ:=Bool) (fun(s0:Int×Int)=>
  if (decide (s0.2<(w1.d4.ci.length:Int)))then
  some (.next (Af (s0.1*b),Af (s0.2+1)))
  else
  some (.brk (s0.1,s0.2))) (1,(p.d4.ci.length:Int))) (fun s0=>
  fq (EQ (ρ:=Bool) (fun(s2:Int×Int)=>
  if (decide (s2.2<(w1.d4.d3.length:Int)))then
  some (.next (Af (s2.1*a),Af (s2.2+1)))
  else
  some (.brk (s2.1,s2.2))) (s0.1,(p.d4.d3.length:Int))) (fun s2=>
  fq (j4 (ρ:=Bool) (fun(i4:Int)(_:Unit)=>
  (idx c.gn i4).bind fun d=>
  (Dl n w1 d b a).bind fun e=>
  if (!e)then
  some (.ret false)
  else
  some (.next ())) 0 (c.gn.length:Int) ()) (fun _=>
  some (decide (s2.1<=5000))) (fun v4=>some v4)) (fun v2=>some v2)) (fun v0=>some v0)
def Ny[Ev](p:ea)(c:d6)(b:Int)(a:Int):K1:=Je fun n=>Dl n p c b a
def Ks[Ev](t:AC)(p:ea)(c:d6)(a:AG):K1:=
 (Ib c).bind fun b=>
 (if(!b)then some true else((Ia p).bind fun d=>
 some (!d))).bind fun e=>
 (if e then some true else((GR a).bind fun f=>
 some (!f))).bind fun g=>
 if g then
 some false
 else
 (JM t p c).bind fun h=>
 (if(!decide (h=0))then some true else((NF t p a).bind fun i=>
 (if i then((Ot c).bind fun j=>
 some (j))else some false).bind fun k=>
 (if((k&&(decide ((a.d4.ci.length:Int)<=6)))&&(decide ((a.d4.d3.length:Int)<=8)))then((Ny p c 14 18).bind fun l=>
 some (l))else some false).bind fun m=>
 some (m))).bind fun n=>
 some n
def JO[Ev](t:AC)(a:gp)(f:AG):K1:=
 (Jv t).bind fun g=>
 (if g then((Nk a).bind fun b=>
 some (b))else some false).bind fun c=>
 (if c then((Ks t a.kl a.d6 f).bind fun d=>
 some (d))else some false).bind fun e=>
 some e
def Cy[Ev]:Nat->ea->d6->Int->K1
 |0,_,_,_=>none|n+1,p,c,a=>
  (if(decide (c.mo=5))then
  some c.ea
  else
  some p).bind fun w1=>
  fq (EQ (ρ:=Bool) (fun(s0:Int×Int)=>
  if ((decide (s0.2<(w1.d4.ci.length:Int)))&&(decide (s0.1<=5000)))then
  some (.next (Af (s0.1*40),Af (s0.2+1)))
  else
  some (.brk (s0.1,s0.2))) (a,(p.d4.ci.length:Int))) (fun s0=>
  fq (EQ (ρ:=Bool) (fun(s2:Int×Int)=>
  if ((decide (s2.2<(w1.d4.d3.length:Int)))&&(decide (s2.1<=5000)))then
  some (.next (Af (s2.1*80),Af (s2.2+1)))
  else
  some (.brk (s2.1,s2.2))) (s0.1,(p.d4.d3.length:Int))) (fun s2=>
  fq (EQ (ρ:=Bool) (fun(s4:Int)=>
  if ((decide (s4<(c.gn.length:Int)))&&(decide (s2.1<=5000)))then
  (idx c.gn s4).bind fun b=>
  (Cy n w1 b s2.1).bind fun d=>
  if (!d)then
  some (.ret false)
  else
  some (.next (Af (s4+1)))
  else
  some (.brk s4)) 0) (fun s4=>
  some (decide (s2.1<=5000))) (fun v4=>some v4)) (fun v2=>some v2)) (fun v0=>some v0)
def LB[Ev](p:ea)(c:d6)(a:Int):K1:=Je fun n=>Cy n p c a
def MH[Ev](t:AC)(a:Int)(i:Fp):QQ:=
 if (decide ((t.ci.length:Int)<=a))then
 some 6
 else
 (idx t.ci a).bind fun c=>
 if c.Aao then
 some 13
 else
 (FQ t a).bind fun b=>
 if (!decide ((i.length:Int)=(b.1.length:Int)))then
 some 20
 else
 fq (j4 (ρ:=Int) (fun(i0:Int)(_:Unit)=>
 (idx i i0).bind fun d=>
 (idx b.1 i0).bind fun e=>
 (if(decide (d<e.Low))then some true else((idx i i0).bind fun f=>
 (idx b.1 i0).bind fun g=>
 some (decide (g.AaD<f)))).bind fun h=>
 if h then
 some (.ret 6)
 else
 some (.next ())) 0 (b.1.length:Int) ()) (fun _=>
 some 0) (fun v0=>some v0)
def E5[Ev]:Nat->AC->Int->Int->K1
 |0,_,_,_=>none|n+1,t,a,b=>
  (if(decide (a=b))then some true else((if(decide (0<=a))then((idx t.ci a).bind fun c=>
  (E5 n t c.Aac b).bind fun d=>
  some (d))else some false).bind fun e=>
  some (e))).bind fun f=>
  some f
def Gk[Ev](t:AC)(a:Int)(b:Int):K1:=Je fun n=>E5 n t a b
def KH[Ev](t:AC)(a:Int)(b:Int)(c:Int):K1:=
 (JL t b c).bind fun d=>
 (if(!decide (d=0))then some true else((DG a 0 (Af ((t.d3.length:Int)-1))).bind fun e=>
 some (!e))).bind fun f=>
 if f then
 some false
 else
 (idx t.d3 a).bind fun g=>
 (Gk t b g.ns).bind fun h=>
 (if h then((idx t.d3 a).bind fun i=>
 (Gk t c i.To).bind fun j=>
 some (j))else some false).bind fun k=>
 some k
def FR[Ev](t:AC)(a:AG):Option (Int×Int):=
 (EC t).bind fun c=>
 if (!decide (c.2=0))then
 some ((-1),c.2)
 else
 (Dg a.d4).bind fun d=>
 if (!decide (d=0))then
 some ((-1),d)
 else
 if (!decide ((a.fd.length:Int)=(a.d4.ci.length:Int)))then
 some ((-1),20)
 else
 fq (j4 (ρ:=(Int×Int)) (fun(i0:Int)(_:Unit)=>
 (idx a.d4.ci i0).bind fun f=>
 (idx a.fd i0).bind fun g=>
 (MH t f g).bind fun e=>
 if (!decide (e=0))then
 some (.ret (i0,e))
 else
 some (.next ())) 0 (a.d4.ci.length:Int) ()) (fun _=>
 fq (j4 (ρ:=(Int×Int)) (fun(i2:Int)(_:Unit)=>
 (idx a.d4.d3 i2).bind fun b=>
 if (decide ((t.d3.length:Int)<=b.ne))then
 some (.ret (i2,6))
 else
 (idx a.d4.ci b.ns).bind fun h=>
 (idx a.d4.ci b.To).bind fun i=>
 (KH t b.ne h i).bind fun j=>
 if (!j)then
 some (.ret (i2,13))
 else
 some (.next ())) 0 (a.d4.d3.length:Int) ()) (fun _=>
 some ((-1),0)) (fun v2=>some v2)) (fun v0=>some v0)
def MK[Ev](t:AC)(p:ea)(c:Int):QQ:=
 (idx p.ff c).bind fun a=>
 if ((decide (a.tl<0))||(decide ((p.d4.ci.length:Int)<=a.tl)))then
 some 6
 else
 (idx p.d4.ci a.tl).bind fun d=>
 (FQ t d).bind fun e=>
 if ((((((decide (a.kp<0))||(decide ((e.1.length:Int)<=a.kp)))||(decide (a.j0.Var<(-1))))||(decide (p.gt<=a.j0.Var)))||(decide (a.j0.Add<(-1000000))))||(decide (1000000<a.j0.Add)))then
 some 6
 else
 fq (j4 (ρ:=Int) (fun(i0:Int)(_:Unit)=>
 (idx p.ff i0).bind fun f=>
 (if(decide (f.tl=a.tl))then((idx p.ff i0).bind fun g=>
 some (decide (g.kp=a.kp)))else some false).bind fun b=>
 if b then
 some (.ret 5)
 else
 some (.next ())) 0 c ()) (fun _=>
 some 0) (fun v0=>some v0)
def Kw[Ev](t:AC)(a:gp):QQ:=
 (Dg a.em.d4).bind fun b=>
 if (!decide (b=0))then
 some b
 else
 (GT t a.em.d4).bind fun d=>
 if (!d)then
 some 13
 else
 if ((!decide (a.em.gt=a.kl.gt))||(decide (0<(a.em.sr.length:Int))))then
 some 1
 else
 if (decide (10<(a.em.ff.length:Int)))then
 some 3
 else
 fq (j4 (ρ:=Int) (fun(i0:Int)(_:Unit)=>
 (MK t a.em i0).bind fun c=>
 if (!decide (c=0))then
 some (.ret c)
 else
 some (.next ())) 0 (a.em.ff.length:Int) ()) (fun _=>
 some 0) (fun v0=>some v0)
def Fv(l:Fp)(n:Int):QQ:=
 fq (j4 (ρ:=Int) (fun(i0:Int)(_:Unit)=>
 (idx l i0).bind fun a=>
 (if(decide (a<0))then some true else((idx l i0).bind fun b=>
 some (decide (n<=b)))).bind fun c=>
 if c then
 some (.ret 6)
 else
 (if(decide (0<i0))then((idx l i0).bind fun d=>
 (idx l (Af (i0-1))).bind fun e=>
 some (decide (d<=e)))else some false).bind fun f=>
 if f then
 some (.ret 12)
 else
 some (.next ())) 0 (l.length:Int) ()) (fun _=>
 some 0) (fun v0=>some v0)
def Ni(l:Fp)(n:Int):K1:=
 fq (j4 (ρ:=Bool) (fun(i0:Int)(_:Unit)=>
 (idx l i0).bind fun a=>
 if (decide (a=n))then
 some (.ret true)
 else
 some (.next ())) 0 (l.length:Int) ()) (fun _=>
 some false) (fun v0=>some v0)
def ND(g:d4)(p:BA):QQ:=
 (Fv p.ci (g.ci.length:Int)).bind fun a=>
 if (!decide (a=0))then
 some a
 else
 (Fv p.d3 (g.d3.length:Int)).bind fun b=>
 if (!decide (b=0))then
 some b
 else
 fq (j4 (ρ:=Int) (fun(i0:Int)(_:Unit)=>
 (idx p.d3 i0).bind fun d=>
 (idx g.d3 d).bind fun c=>
 (Ni p.ci c.ns).bind fun e=>
 (if(!e)then some true else((Ni p.ci c.To).bind fun f=>
 some (!f))).bind fun h=>
 if h then
 some (.ret 14)
 else
 some (.next ())) 0 (p.d3.length:Int) ()) (fun _=>
 some 0) (fun v0=>some v0)
def Ht(g:d4)(p:BA):QQ:=
 (Dg g).bind fun b=>
 if (!decide (b=0))then
 some b
 else
 (ND g p).bind fun a=>
 some a
def Hu(l:Fp)(n:Int):QQ:=
 fq (j4 (ρ:=Int) (fun(i0:Int)(_:Unit)=>
 (idx l i0).bind fun a=>
 if (decide (a=n))then
 some (.ret i0)
 else
 some (.next ())) 0 (l.length:Int) ()) (fun _=>
 some (-1)) (fun v0=>some v0)
def G4(g:d4)(p:BA):Option (d4×d5×Int):=
 (Ht g p).bind fun b=>
 if (!decide (b=0))then
 some (d4.mk [] [],d5.mk [] [],b)
 else
 (sx (fun(i0:Int)(s0:d4)=>
 (idx p.ci i0).bind fun c=>
 (idx g.ci c).bind fun d=>
 (Ag s0.ci [d]).bind fun e=>
 some (d4.mk e s0.d3)) 0 (p.ci.length:Int) (d4.mk [] [])).bind fun s0=>
 (sx (fun(i2:Int)(s2:d4)=>
 (idx p.d3 i2).bind fun f=>
 (idx g.d3 f).bind fun a=>
 (Hu p.ci a.ns).bind fun h=>
 (Hu p.ci a.To).bind fun i=>
 (Ag s2.d3 [Bf.mk a.ne h i]).bind fun j=>
 some (d4.mk s2.ci j)) 0 (p.d3.length:Int) s0).bind fun s2=>
 (Ag [] p.ci).bind fun k=>
 (Ag [] p.d3).bind fun l=>
 some (s2,d5.mk k l,0)
def ML(a:gp):QQ:=
 (Ht a.kl.d4 a.x3).bind fun b=>
 if (!decide (b=0))then
 some b
 else
 (G4 a.kl.d4 a.x3).bind fun c=>
 (GQ c.1 a.em.d4 a.tc).bind fun d=>
 some d
def PM(l:Fp)(n:Int):K1:=
 fq (j4 (ρ:=Bool) (fun(i0:Int)(_:Unit)=>
 (idx l i0).bind fun a=>
 if (decide (a=n))then
 some (.ret true)
 else
 some (.next ())) 0 (l.length:Int) ()) (fun _=>
 some false) (fun v0=>some v0)
def KL(n:Int)(l:Fp):Option Fp:=
 (sx (fun(i0:Int)(s0:Fp)=>
 (PM l i0).bind fun a=>
 if (!a)then
 (Ag s0 [i0]).bind fun b=>
 some b
 else
 some s0) 0 n []).bind fun s0=>
 some s0
def JA(a:gp):Option (Fp×Fp):=
 (KL (a.em.d4.ci.length:Int) a.tc.ci).bind fun b=>
 (KL (a.em.d4.d3.length:Int) a.tc.d3).bind fun c=>
 some (b,c)
def J1[Ev](t:AC)(g:d4)(b:Fp)(a:Fp):K1:=
 fq (j4 (ρ:=Bool) (fun(i0:Int)(_:Unit)=>
 (idx b i0).bind fun d=>
 (idx g.ci d).bind fun e=>
 (idx t.ci e).bind fun f=>
 if f.Aao then
 some (.ret false)
 else
 some (.next ())) 0 (b.length:Int) ()) (fun _=>
 fq (j4 (ρ:=Bool) (fun(i2:Int)(_:Unit)=>
 (idx a i2).bind fun h=>
 (idx g.d3 h).bind fun c=>
 (idx g.ci c.ns).bind fun i=>
 (idx g.ci c.To).bind fun j=>
 (KH t c.ne i j).bind fun k=>
 if (!k)then
 some (.ret false)
 else
 some (.next ())) 0 (a.length:Int) ()) (fun _=>
 some true) (fun v2=>some v2)) (fun v0=>some v0)
def JN[Ev](t:AC)(a:gp):QQ:=
 (EC t).bind fun b=>
 if (!decide (b.2=0))then
 some b.2
 else
 (Eu a.pq).bind fun g=>
 if (!g)then
 some 2
 else
 (GU t a.kl).bind fun c=>
 if (!decide (c=0))then
 some c
 else
 (Kw t a).bind fun d=>
 if (!decide (d=0))then
 some d
 else
 (ML a).bind fun e=>
 if (!decide (e=0))then
 some e
 else
 (Ec a.tc.ci).bind fun h=>
 (if(!h)then some true else((Ec a.tc.d3).bind fun i=>
 some (!i))).bind fun j=>
 if j then
 some 11
 else
 (JA a).bind fun f=>
 (J1 t a.em.d4 f.1 f.2).bind fun k=>
 if (!k)then
 some 13
 else
 (JM t a.kl a.d6).bind fun l=>
 some l
def Kz[Ev](t:AC)(a:List gp):QQ:=
 (EC t).bind fun b=>
 if (!decide (b.2=0))then
 some b.2
 else
 if (decide (10<(a.length:Int)))then
 some 3
 else
 fq (j4 (ρ:=Int) (fun(i0:Int)(_:Unit)=>
 (idx a i0).bind fun d=>
 (JN t d).bind fun c=>
 if (!decide (c=0))then
 some (.ret c)
 else
 some (.next ())) 0 (a.length:Int) ()) (fun _=>
 some 0) (fun v0=>some v0)
def JP[Ev](t:AC)(a:List gp)(d:AG):QQ:=
 (Kz t a).bind fun b=>
 if (!decide (b=0))then
 some b
 else
 (FR t d).bind fun c=>
 some c.2
def Ky[Ev](t:AC)(a:List gp)(b:AG):K1:=
 (if(((decide (4<(a.length:Int)))&&(decide ((a.length:Int)<=10)))||(decide (12<(a.length:Int))))then some true else((Jv t).bind fun c=>
 some (!c))).bind fun d=>
 (if d then some true else((GR b).bind fun e=>
 some (!e))).bind fun f=>
 if f then
 some false
 else
 fq (j4 (ρ:=Bool) (fun(i0:Int)(s0:Bool)=>
 (idx a i0).bind fun g=>
 (JO t g b).bind fun h=>
 if (!h)then
 some (.ret false)
 else
 (if s0 then((idx a i0).bind fun i=>
 some (decide ((i.kl.d4.ci.length:Int)<=3)))else some false).bind fun j=>
 (if j then((idx a i0).bind fun k=>
 some (decide ((k.kl.d4.d3.length:Int)<=2)))else some false).bind fun l=>
 (if l then((idx a i0).bind fun m=>
 some (decide ((m.em.d4.ci.length:Int)<=5)))else some false).bind fun n=>
 (if n then((idx a i0).bind fun o=>
 (idx a i0).bind fun p=>
 (LB o.kl p.d6 1).bind fun q=>
 some (q))else some false).bind fun r=>
 some (.next r)) 0 (a.length:Int) true) (fun s0=>
 (JP t a b).bind fun s=>
 some ((!decide (s=0))||((s0&&(decide ((b.d4.ci.length:Int)<=6)))&&(decide ((b.d4.d3.length:Int)<=8))))) (fun v0=>some v0)
def Gb(m:AL)(n:Int):K1:=
 (Jw m.d5 n).bind fun a=>
 some (a&&(decide ((m.gt.length:Int)<=n)))
def Nl(d:AW)(a:Int):K1:=
 (GR d.kg).bind fun e=>
 if ((!e)||(decide (a<(d.kq.length:Int))))then
 some false
 else
 fq (j4 (ρ:=Bool) (fun(i0:Int)(_:Unit)=>
 (idx d.kq i0).bind fun b=>
 (Gb b.o3 140).bind fun c=>
 if (!c)then
 some (.ret false)
 else
 some (.next ())) 0 (d.kq.length:Int) ()) (fun _=>
 some true) (fun v0=>some v0)
def PN(a:AU)(b:Int):K1:=
 (if((decide ((a.jj.kq.length:Int)<=b))||(decide (30<(a.jj.kq.length:Int))))then((Nl a.jj 33).bind fun c=>
 some (c))else some false).bind fun d=>
 some (d&&(decide ((a.pr.length:Int)<=25)))
def Na[Ev](c:GH):K1:=
 (Ky c.T c.Abz c.S.jj.kg).bind fun a=>
 (if a then((PN c.S 5).bind fun b=>
 some (b))else some false).bind fun d=>
 some d
def IL(g:d4):Option d4:=
 (Ag [] g.ci).bind fun b=>
 (Ag [] g.d3).bind fun a=>
 some (d4.mk b a)
def Fc(a:AG):Option AG:=
 (IL a.d4).bind fun e=>
 (sx (fun(i0:Int)(s0:AG)=>
 (idx a.fd i0).bind fun b=>
 (Ag [] b).bind fun c=>
 (Ag s0.fd [c]).bind fun d=>
 some (AG.mk s0.d4 d)) 0 (a.fd.length:Int) (AG.mk e [])).bind fun s0=>
 some s0
def Nn[Ev](t:AC)(c:AG):Option (AU×Int):=
 (EC t).bind fun a=>
 if (!decide (a.2=0))then
 some (ES,a.2)
 else
 (FR t c).bind fun b=>
 if (!decide (b.2=0))then
 some (ES,b.2)
 else
 (Fc c).bind fun d=>
 some (AU.mk (AW.mk d []) [],0)
def Ga(a:Fp)(b:Fp):K1:=
 if (!decide ((a.length:Int)=(b.length:Int)))then
 some false
 else
 fq (j4 (ρ:=Bool) (fun(i0:Int)(_:Unit)=>
 (idx a i0).bind fun c=>
 (idx b i0).bind fun d=>
 if (!decide (c=d))then
 some (.ret false)
 else
 some (.next ())) 0 (a.length:Int) ()) (fun _=>
 some true) (fun v0=>some v0)
def MF(a:d4)(b:d4):K1:=
 (Ga a.ci b.ci).bind fun c=>
 if ((!c)||(!decide ((a.d3.length:Int)=(b.d3.length:Int))))then
 some false
 else
 fq (j4 (ρ:=Bool) (fun(i0:Int)(_:Unit)=>
 (idx a.d3 i0).bind fun d=>
 (idx b.d3 i0).bind fun e=>
 if (!decide (d=e))then
 some (.ret false)
 else
 some (.next ())) 0 (a.d3.length:Int) ()) (fun _=>
 some true) (fun v0=>some v0)
def I9[Ev](a:Fp)(b:Fp):QQ:=
 fq (EQ (ρ:=Int) (fun(s0:Int)=>
 if ((decide (s0<(a.length:Int)))&&(decide (s0<(b.length:Int))))then
 (idx a s0).bind fun c=>
 (idx b s0).bind fun d=>
 if (!decide (c=d))then
 (idx a s0).bind fun e=>
 (idx b s0).bind fun f=>
 some (.ret (Af (e-f)))
 else
 some (.next (Af (s0+1)))
 else
 some (.brk s0)) 0) (fun s0=>
 some (Af ((a.length:Int)-(b.length:Int)))) (fun v0=>some v0)
def MG[Ev](a:AG)(b:AG):K1:=
 (MF a.d4 b.d4).bind fun c=>
 if ((!c)||(!decide ((a.fd.length:Int)=(b.fd.length:Int))))then
 some false
 else
 fq (j4 (ρ:=Bool) (fun(i0:Int)(_:Unit)=>
 (idx a.fd i0).bind fun d=>
 (idx b.fd i0).bind fun e=>
 (I9 d e).bind fun f=>
 if (!decide (f=0))then
 some (.ret false)
 else
 some (.next ())) 0 (a.fd.length:Int) ()) (fun _=>
 some true) (fun v0=>some v0)
def GZ(a:Fp)(b:Fp):K1:=
 if (!decide ((a.length:Int)=(b.length:Int)))then
 some false
 else
 fq (j4 (ρ:=Bool) (fun(i0:Int)(_:Unit)=>
 (idx a i0).bind fun c=>
 (idx b i0).bind fun d=>
 if (!decide (c=d))then
 some (.ret false)
 else
 some (.next ())) 0 (a.length:Int) ()) (fun _=>
 some true) (fun v0=>some v0)
def OG(a:d5)(b:d5):K1:=
 (GZ a.ci b.ci).bind fun e=>
 (if e then((GZ a.d3 b.d3).bind fun c=>
 some (c))else some false).bind fun d=>
 some d
def Hc(a:List zt)(b:List zt):K1:=
 if (!decide ((a.length:Int)=(b.length:Int)))then
 some false
 else
 fq (j4 (ρ:=Bool) (fun(i0:Int)(_:Unit)=>
 (idx a i0).bind fun c=>
 (idx b i0).bind fun d=>
 (if(!decide (c.gp=d.gp))then some true else((idx a i0).bind fun e=>
 (idx b i0).bind fun f=>
 (OG e.o3.d5 f.o3.d5).bind fun g=>
 some (!g))).bind fun h=>
 (if h then some true else((idx a i0).bind fun i=>
 (idx b i0).bind fun j=>
 (Ga i.o3.gt j.o3.gt).bind fun k=>
 some (!k))).bind fun l=>
 if l then
 some (.ret false)
 else
 some (.next ())) 0 (a.length:Int) ()) (fun _=>
 some true) (fun v0=>some v0)
def MM[Ev](a:AW)(b:AW):K1:=
 (MG a.kg b.kg).bind fun e=>
 (if e then((Hc a.kq b.kq).bind fun c=>
 some (c))else some false).bind fun d=>
 some d
def MO[Ev](a:AU)(b:AU):K1:=
 (MM a.jj b.jj).bind fun e=>
 (if e then((Ga a.pr b.pr).bind fun c=>
 some (c))else some false).bind fun d=>
 some d
def GB(a:List gp):Option (List gp):=
 Ag [] a
def JQ(m:AL):Option AL:=
 (Ag [] m.d5.ci).bind fun c=>
 (Ag [] m.d5.d3).bind fun a=>
 (Ag [] m.gt).bind fun b=>
 some (AL.mk (d5.mk c a) b)
def J3(d:AW):Option AW:=
 (Fc d.kg).bind fun f=>
 (sx (fun(i0:Int)(s0:AW)=>
 (idx d.kq i0).bind fun a=>
 (idx d.kq i0).bind fun b=>
 (JQ b.o3).bind fun c=>
 (Ag s0.kq [zt.mk a.gp c]).bind fun e=>
 some (AW.mk s0.kg e)) 0 (d.kq.length:Int) (AW.mk f [])).bind fun s0=>
 some s0
def J5(a:AU):Option AU:=
 (J3 a.jj).bind fun b=>
 (Ag [] a.pr).bind fun c=>
 some (AU.mk b c)
def NG[Ev](t:AC)(c:gp)(d:AG):QQ:=
 (JN t c).bind fun a=>
 if (!decide (a=0))then
 some a
 else
 (FR t d).bind fun b=>
 some b.2
def IP(l:Fp):K1:=
 fq (j4 (ρ:=Bool) (fun(i0:Int)(_:Unit)=>
 fq (j4 (ρ:=Bool) (fun(i2:Int)(_:Unit)=>
 (idx l i0).bind fun a=>
 (idx l i2).bind fun b=>
 if (decide (a=b))then
 some (.ret false)
 else
 some (.next ())) 0 i0 ()) (fun _=>
 some (.next ())) (fun v2=>some (.ret v2))) 0 (l.length:Int) ()) (fun _=>
 some true) (fun v0=>some v0)
def Kn[Ev](t:AC)(p:d4)(g:d4)(m:d5)(a:Bool):QQ:=
 if ((!decide ((m.ci.length:Int)=(p.ci.length:Int)))||(!decide ((m.d3.length:Int)=(p.d3.length:Int))))then
 some 20
 else
 fq (j4 (ρ:=Int) (fun(i0:Int)(_:Unit)=>
 (idx m.ci i0).bind fun n=>
 (if(decide (n<0))then some true else((idx m.ci i0).bind fun o=>
 some (decide ((g.ci.length:Int)<=o)))).bind fun q=>
 if q then
 some (.ret 6)
 else
 (idx m.ci i0).bind fun r=>
 (idx g.ci r).bind fun s=>
 (idx p.ci i0).bind fun u=>
 (Gk t s u).bind fun v=>
 if (!v)then
 some (.ret 13)
 else
 some (.next ())) 0 (m.ci.length:Int) ()) (fun _=>
 fq (j4 (ρ:=Int) (fun(i2:Int)(_:Unit)=>
 (idx m.d3 i2).bind fun w=>
 (if(decide (w<0))then some true else((idx m.d3 i2).bind fun x=>
 some (decide ((g.d3.length:Int)<=x)))).bind fun y=>
 if y then
 some (.ret 6)
 else
 (idx p.d3 i2).bind fun c=>
 (idx m.d3 i2).bind fun d=>
 (idx g.d3 d).bind fun b=>
 if (!decide (c.ne=b.ne))then
 some (.ret 13)
 else
 (idx m.ci c.ns).bind fun e=>
 (if(!decide (e=b.ns))then some true else((idx m.ci c.To).bind fun f=>
 some (!decide (f=b.To)))).bind fun h=>
 if h then
 some (.ret 11)
 else
 some (.next ())) 0 (m.d3.length:Int) ()) (fun _=>
 (if a then((IP m.ci).bind fun i=>
 (if(!i)then some true else((IP m.d3).bind fun j=>
 some (!j))).bind fun k=>
 some (k))else some false).bind fun l=>
 if l then
 some 5
 else
 some 0) (fun v2=>some v2)) (fun v0=>some v0)
def Hv[Ev](t:AC)(p:d4)(g:d4)(m:d5)(a:Bool):QQ:=
 (Hw t p g).bind fun b=>
 if (!decide (b=0))then
 some b
 else
 (Kn t p g m a).bind fun c=>
 some c
def Kq[Ev](t:AC)(p:ea)(c:AG):QQ:=
 (GU t p).bind fun a=>
 if (!decide (a=0))then
 some a
 else
 (FR t c).bind fun b=>
 some b.2
def Hx(a:j0)(c:Fp):QQ:=
 if (decide (a.Var<0))then
 some a.Add
 else
 (idx c a.Var).bind fun b=>
 some (Af (b+a.Add))
def JJ(t:j0)(b:Fp):Option (Int×Bool):=
 if (decide (t.Var=(-1)))then
 some (t.Add,true)
 else
 if ((decide (t.Var<0))||(decide ((b.length:Int)<=t.Var)))then
 some (0,false)
 else
 (idx b t.Var).bind fun a=>
 some (Af (a+t.Add),true)
def Kj(a:Test)(d:Fp):K1:=
 (JJ a.kl d).bind fun b=>
 (JJ a.em d).bind fun c=>
 if ((!b.2)||(!c.2))then
 some false
 else
 some (((decide (a.mo=1))&&(decide (b.1<=c.1)))||((decide (a.mo=2))&&(decide (b.1=c.1))))
def Jy(p:ea)(l:AG)(m:d5):Option (Fp×Int):=
 (IZ p.gt 0).bind fun d=>
 (IZ p.gt false).bind fun e=>
 fq (j4 (ρ:=(Fp×Int)) (fun(i0:Int)(s0:Fp×a5)=>
 (idx p.ff i0).bind fun a=>
 (idx m.ci a.tl).bind fun f=>
 (idx l.fd f).bind fun g=>
 (idx g a.kp).bind fun b=>
 (if(decide (0<=a.j0.Var))then((idx s0.2 a.j0.Var).bind fun h=>
 some (!h))else some false).bind fun i=>
 if i then
 (idx s0.2 a.j0.Var).bind fun n=>
 (idx s0.1 a.j0.Var).bind fun o=>
 (Hx a.j0 (BI s0.1 a.j0.Var (Af (b-a.j0.Add)))).bind fun c=>
 if (!decide (c=b))then
 some (.ret ([],11))
 else
 some (.next (BI s0.1 a.j0.Var (Af (b-a.j0.Add)),BI s0.2 a.j0.Var true))
 else
 (Hx a.j0 s0.1).bind fun c=>
 if (!decide (c=b))then
 some (.ret ([],11))
 else
 some (.next (s0.1,s0.2))) 0 (p.ff.length:Int) (d,e)) (fun s0=>
 fq (j4 (ρ:=(Fp×Int)) (fun(i2:Int)(_:Unit)=>
 (idx p.sr i2).bind fun j=>
 (Kj j s0.1).bind fun k=>
 if (!k)then
 some (.ret ([],16))
 else
 some (.next ())) 0 (p.sr.length:Int) ()) (fun _=>
 some (s0.1,0)) (fun v2=>some v2)) (fun v0=>some v0)
def Ko[Ev](t:AC)(p:ea)(a:AG)(m:d5):Option (Fp×Int):=
 (Kq t p a).bind fun b=>
 if (!decide (b=0))then
 some ([],b)
 else
 (Hv t p.d4 a.d4 m false).bind fun c=>
 if (!decide (c=0))then
 some ([],c)
 else
 (Jy p a m).bind fun d=>
 some (d.1,d.2)
def IN[Ev](t:AC)(p:d4)(g:d4)(m:d5):Option (d4×Int):=
 (Hv t p g m false).bind fun a=>
 if (!decide (a=0))then
 some (d4.mk [] [],a)
 else
 (IL p).bind fun b=>
 fq (EQ (ρ:=(d4×Int)) (fun(s0:d4×Int)=>
 if (decide (s0.2<(s0.1.ci.length:Int)))then
 (idx m.ci s0.2).bind fun c=>
 (idx g.ci c).bind fun d=>
 (idx s0.1.ci s0.2).bind fun e=>
 some (.next (d4.mk (BI s0.1.ci s0.2 d) s0.1.d3,Af (s0.2+1)))
 else
 some (.brk (s0.1,s0.2))) (b,0)) (fun s0=>
 some (s0.1,0)) (fun v0=>some v0)
def NE(l:d4)(g:d4)(b:BA)(m:d5):QQ:=
 (GQ l g m).bind fun a=>
 if (!decide (a=0))then
 some a
 else
 (Ht l b).bind fun c=>
 some c
def Da(l:Fp)(n:Int):K1:=
 fq (j4 (ρ:=Bool) (fun(i0:Int)(_:Unit)=>
 (idx l i0).bind fun a=>
 if (decide (a=n))then
 some (.ret true)
 else
 some (.next ())) 0 (l.length:Int) ()) (fun _=>
 some false) (fun v0=>some v0)
def FI(a:Fp)(b:Fp):Option (List F1):=
 (sx (fun(i0:Int)(s0:List F1)=>
 (sx (fun(i2:Int)(s2:List F1)=>
 (idx a i0).bind fun c=>
 (idx a i2).bind fun d=>
 (if(decide (c=d))then((Da b i0).bind fun e=>
 (if(!e)then some true else((Da b i2).bind fun f=>
 some (!f))).bind fun g=>
 some (g))else some false).bind fun h=>
 if h then
 (Ag s2 [F1.mk i0 i2]).bind fun i=>
 some i
 else
 some s2) (Af (i0+1)) (a.length:Int) s0).bind fun s2=>
 some s2) 0 (a.length:Int) []).bind fun s0=>
 some s0
def Iv(a:Fp)(b:Fp):Option Fp:=
 (sx (fun(i0:Int)(s0:Fp)=>
 (Da b i0).bind fun c=>
 if (!c)then
 (idx a i0).bind fun d=>
 (Ag s0 [d]).bind fun e=>
 some e
 else
 some s0) 0 (a.length:Int) []).bind fun s0=>
 some s0
def IM(l:d4)(g:d4)(b:BA)(m:d5):Option Fp:=
 (Iv m.ci b.ci).bind fun a=>
 (sx (fun(i0:Int)(s0:Fp)=>
 (Da m.d3 i0).bind fun c=>
 (if(!c)then((idx g.d3 i0).bind fun d=>
 (Da a d.ns).bind fun e=>
 (if e then some true else((idx g.d3 i0).bind fun f=>
 (Da a f.To).bind fun h=>
 some (h))).bind fun i=>
 some (i))else some false).bind fun j=>
 if j then
 (Ag s0 [i0]).bind fun k=>
 some k
 else
 some s0) 0 (g.d3.length:Int) []).bind fun s0=>
 some s0
def KK(n:Int)(l:Fp):Option Fp:=
 (sx (fun(i0:Int)(s0:Fp)=>
 (Da l i0).bind fun a=>
 if (!a)then
 (Ag s0 [i0]).bind fun b=>
 some b
 else
 some s0) 0 n []).bind fun s0=>
 some s0
def Oq(l:d4)(g:d4)(a:BA)(m:d5):Option (BA×Int):=
 (NE l g a m).bind fun b=>
 if (!decide (b=0))then
 some (BA.mk [] [],b)
 else
 (FI m.ci a.ci).bind fun c=>
 (FI m.d3 a.d3).bind fun d=>
 if (decide (0<(Af ((c.length:Int)+(d.length:Int)))))then
 some (BA.mk [] [],15)
 else
 (IM l g a m).bind fun e=>
 if (decide (0<(e.length:Int)))then
 some (BA.mk [] [],14)
 else
 (Iv m.ci a.ci).bind fun f=>
 (KK (g.ci.length:Int) f).bind fun h=>
 (Iv m.d3 a.d3).bind fun i=>
 (KK (g.d3.length:Int) i).bind fun j=>
 some (BA.mk h j,0)
def IR(n:Int)(b:Fp)(m:Fp):Option Fp:=
 (sx (fun(i0:Int)(s0:Fp)=>
 (Ag s0 [(-1)]).bind fun c=>
 some c) 0 n []).bind fun s0=>
 (sx (fun(i2:Int)(s2:Fp)=>
 (idx b i2).bind fun a=>
 (idx m i2).bind fun d=>
 (idx s2 a).bind fun e=>
 some (BI s2 a d)) 0 (b.length:Int) s0).bind fun s2=>
 some s2
def Ep(c:AZ)(a:Fp):K1:=
 fq (j4 (ρ:=Bool) (fun(i0:Int)(_:Unit)=>
 (idx c.p.d3 i0).bind fun b=>
 if ((decide ((a.length:Int)<=b.ns))||(decide ((a.length:Int)<=b.To)))then
 some (.next ())
 else
 (sx (fun(i2:Int)(s2:Bool)=>
 (idx c.g.d3 i2).bind fun d=>
 (if s2 then some true else((if(decide (b.ne=d.ne))then((idx a b.ns).bind fun e=>
 some (decide (d.ns=e)))else some false).bind fun f=>
 (if f then((idx a b.To).bind fun h=>
 some (decide (d.To=h)))else some false).bind fun i=>
 some (i))).bind fun j=>
 some j) 0 (c.g.d3.length:Int) false).bind fun s2=>
 if (!s2)then
 some (.ret false)
 else
 some (.next ())) 0 (c.p.d3.length:Int) ()) (fun _=>
 some true) (fun v0=>some v0)
def Cb[Ev](b:AZ)(l:Fp)(n:Int):K1:=
 fq (EQ (ρ:=Bool) (fun(s0:Int)=>
 if ((decide (s0<(l.length:Int)))&&b.ei)then
 (idx l s0).bind fun a=>
 if (decide (a=n))then
 some (.ret true)
 else
 some (.next (Af (s0+1)))
 else
 some (.brk s0)) 0) (fun s0=>
 some false) (fun v0=>some v0)
def B7[Ev]:Nat->AZ->Fp->Fp->Option AZ
 |0,_,_,_=>none|n+1,a,b,l=>
  if (decide (a.tn<(a.Aax.length:Int)))then
  some a
  else
  if (decide ((l.length:Int)=(a.p.d3.length:Int)))then
  (Ag [] b).bind fun o=>
  (Ag [] l).bind fun q=>
  (Ag a.Aax [d5.mk o q]).bind fun r=>
  some (AZ.mk a.t a.p a.g a.f0 a.ei a.tn r)
  else
  (idx a.p.d3 (l.length:Int)).bind fun c=>
  fq (EQ (ρ:=AZ) (fun(s0:AZ×Int)=>
  if (decide (s0.2<(s0.1.g.d3.length:Int)))then
  (idx s0.1.g.d3 s0.2).bind fun d=>
  (idx s0.1.f0.d3 (l.length:Int)).bind fun s=>
  (if(decide (0<=s))then((idx s0.1.f0.d3 (l.length:Int)).bind fun u=>
  some (!decide (u=s0.2)))else some false).bind fun v=>
  (if v then some true else((Cb s0.1 l s0.2).bind fun w=>
  some (w))).bind fun x=>
  (if(x||(!decide (c.ne=d.ne)))then some true else((idx b c.ns).bind fun e=>
  some (!decide (d.ns=e)))).bind fun f=>
  (if f then some true else((idx b c.To).bind fun h=>
  some (!decide (d.To=h)))).bind fun i=>
  if i then
  some (.next (s0.1,Af (s0.2+1)))
  else
  (Ag [] l).bind fun j=>
  (Ag j [s0.2]).bind fun k=>
  (B7 n s0.1 b k).bind fun m=>
  some (.next (m,Af (s0.2+1)))
  else
  some (.brk (s0.1,s0.2))) (a,0)) (fun s0=>
  some s0.1) (fun v0=>some v0)
def LR[Ev](b:AZ)(a:Fp)(l:Fp):Option AZ:=Je fun n=>B7 n b a l
def B8[Ev]:Nat->AZ->Fp->Option AZ
 |0,_,_=>none|n+1,a,l=>
  (if(decide (a.tn<(a.Aax.length:Int)))then some true else((Ep a l).bind fun d=>
  some (!d))).bind fun e=>
  if e then
  some a
  else
  if (decide ((l.length:Int)=(a.p.ci.length:Int)))then
  (LR a l []).bind fun f=>
  some f
  else
  fq (EQ (ρ:=AZ) (fun(s0:AZ×Int)=>
  if (decide (s0.2<(s0.1.g.ci.length:Int)))then
  (idx s0.1.f0.ci (l.length:Int)).bind fun h=>
  (if(decide (0<=h))then((idx s0.1.f0.ci (l.length:Int)).bind fun i=>
  some (!decide (i=s0.2)))else some false).bind fun j=>
  (if j then some true else((Cb s0.1 l s0.2).bind fun k=>
  some (k))).bind fun m=>
  (if m then some true else((idx s0.1.g.ci s0.2).bind fun o=>
  (idx s0.1.p.ci (l.length:Int)).bind fun q=>
  (Gk s0.1.t o q).bind fun r=>
  some (!r))).bind fun s=>
  if s then
  some (.next (s0.1,Af (s0.2+1)))
  else
  (Ag [] l).bind fun u=>
  (Ag u [s0.2]).bind fun b=>
  (B8 n s0.1 b).bind fun c=>
  some (.next (c,Af (s0.2+1)))
  else
  some (.brk (s0.1,s0.2))) (a,0)) (fun s0=>
  some s0.1) (fun v0=>some v0)
def IB[Ev](a:AZ)(l:Fp):Option AZ:=Je fun n=>B8 n a l
def Nj[Ev](t:AC)(p:d4)(g:d4)(b:d5)(a:Bool)(c:Int):Option (List d5):=
 (IB (AZ.mk t p g b a c []) []).bind fun d=>
 some d.Aax
def IQ(l:Fp)(a:Int)(n:Int):QQ:=
 if (!decide ((l.length:Int)=a))then
 some 20
 else
 fq (j4 (ρ:=Int) (fun(i0:Int)(_:Unit)=>
 (idx l i0).bind fun b=>
 (if(decide (b<(-1)))then some true else((idx l i0).bind fun c=>
 some (decide (n<=c)))).bind fun d=>
 if d then
 some (.ret 6)
 else
 some (.next ())) 0 (l.length:Int) ()) (fun _=>
 some 0) (fun v0=>some v0)
def Jx[Ev](t:AC)(p:d4)(g:d4)(a:d5)(b:Bool):Option (List d5×Int):=
 (Hw t p g).bind fun c=>
 if (!decide (c=0))then
 some ([],c)
 else
 if ((!decide ((a.ci.length:Int)=(p.ci.length:Int)))||(!decide ((a.d3.length:Int)=(p.d3.length:Int))))then
 some ([],20)
 else
 (IQ a.ci (p.ci.length:Int) (g.ci.length:Int)).bind fun d=>
 if (!decide (d=0))then
 some ([],d)
 else
 (IQ a.d3 (p.d3.length:Int) (g.d3.length:Int)).bind fun e=>
 if (!decide (e=0))then
 some ([],e)
 else
 (Nj t p g a b 5000).bind fun f=>
 if (decide (5000<(f.length:Int)))then
 some ([],3)
 else
 some (f,0)
def EM(a:j0)(c:Fp):Option (Int×Int):=
 if ((decide (a.Var<(-1)))||(decide ((c.length:Int)<=a.Var)))then
 some (0,6)
 else
 (Hx a c).bind fun b=>
 some (b,0)
def J0(q:ea)(p:AG)(m:d5)(c:Fp):Option (Fp×Bool):=
 (Ag [] c).bind fun h=>
 (IZ q.gt false).bind fun i=>
 (sx (fun(i0:Int)(s0:Fp×a5)=>
 (idx s0.2 i0).bind fun t=>
 if (decide ((c.length:Int)<=i0))then
 (Ag s0.1 [0]).bind fun j=>
 some (j,BI s0.2 i0 (decide (i0<(c.length:Int))))
 else
 some (s0.1,BI s0.2 i0 (decide (i0<(c.length:Int))))) 0 q.gt (h,i)).bind fun s0=>
 fq (j4 (ρ:=(Fp×Bool)) (fun(i2:Int)(s2:Fp×a5)=>
 (idx q.ff i2).bind fun a=>
 (idx m.ci a.tl).bind fun k=>
 (idx p.fd k).bind fun l=>
 (idx l a.kp).bind fun e=>
 (if(decide (0<=a.j0.Var))then((idx s2.2 a.j0.Var).bind fun n=>
 some (!n))else some false).bind fun o=>
 if o then
 (idx s2.1 a.j0.Var).bind fun r=>
 (idx s2.2 a.j0.Var).bind fun s=>
 (EM a.j0 (BI s2.1 a.j0.Var (Af (e-a.j0.Add)))).bind fun d=>
 if (!decide (d.1=e))then
 some (.ret ([],false))
 else
 some (.next (BI s2.1 a.j0.Var (Af (e-a.j0.Add)),BI s2.2 a.j0.Var true))
 else
 (EM a.j0 s2.1).bind fun d=>
 if (!decide (d.1=e))then
 some (.ret ([],false))
 else
 some (.next (s2.1,s2.2))) 0 (q.ff.length:Int) (s0.1,s0.2)) (fun s2=>
 fq (j4 (ρ:=(Fp×Bool)) (fun(i4:Int)(_:Unit)=>
 (idx q.sr i4).bind fun b=>
 (EM b.kl s2.1).bind fun f=>
 (EM b.em s2.1).bind fun g=>
 if (((decide (b.mo=1))&&(decide (g.1<f.1)))||((decide (b.mo=2))&&(!decide (f.1=g.1))))then
 some (.ret ([],false))
 else
 some (.next ())) 0 (q.sr.length:Int) ()) (fun _=>
 some (s2.1,true)) (fun v4=>some v4)) (fun v2=>some v2)
def Gl[Ev](t:AC)(c:d6)(e:AG)(m:AL)(a:Bool):Option (List AL×Int):=
 (IR (c.ea.d4.ci.length:Int) c.Map.ci m.d5.ci).bind fun f=>
 (IR (c.ea.d4.d3.length:Int) c.Map.d3 m.d5.d3).bind fun g=>
 (Jx t c.ea.d4 e.d4 (d5.mk f g) a).bind fun b=>
 if (!decide (b.2=0))then
 some ([],b.2)
 else
 (sx (fun(i0:Int)(s0:List AL)=>
 (idx b.1 i0).bind fun h=>
 (J0 c.ea e h m.gt).bind fun d=>
 if d.2 then
 (idx b.1 i0).bind fun i=>
 (Ag s0 [AL.mk i d.1]).bind fun j=>
 some j
 else
 some s0) 0 (b.1.length:Int) []).bind fun s0=>
 some (s0,0)
def Db[Ev]:Nat->AC->d6->AG->AL->Bool->Option (A0×Int)
 |0,_,_,_,_,_=>none|n+1,t,c,f,m,a=>
  if (decide (c.mo=2))then
  (idx c.gn 0).bind fun l=>
  (Db n t l f m a).bind fun g=>
  if (decide (g.2=0))then
  some (C0,10)
  else
  if (decide (g.2=10))then
  some (C0,0)
  else
  some (C0,g.2)
  else
  if (decide (c.mo=3))then
  fq (j4 (ρ:=(A0×Int)) (fun(i1:Int)(s1:A0×A0)=>
  (idx c.gn i1).bind fun o=>
  (Db n t o f m a).bind fun h=>
  if (!decide (h.2=0))then
  some (.ret (C0,h.2))
  else
  (Ag s1.2.gn [h.1]).bind fun p=>
  some (.next (s1.1,A0.mk s1.2.AaB s1.2.o3 p))) 0 (c.gn.length:Int) (C0,C0)) (fun s1=>
  some (s1.2,0)) (fun v1=>some v1)
  else
  if (decide (c.mo=4))then
  fq (j4 (ρ:=(A0×Int)) (fun(i3:Int)(s3:A0)=>
  (idx c.gn i3).bind fun q=>
  (Db n t q f m a).bind fun d=>
  if (!decide (d.2=10))then
  some (.ret (A0.mk i3 (AL.mk (d5.mk [] []) []) [d.1],d.2))
  else
  some (.next s3)) 0 (c.gn.length:Int) C0) (fun s3=>
  some (C0,10)) (fun v3=>some v3)
  else
  if (decide (c.mo=5))then
  (Gl t c f m a).bind fun b=>
  if (!decide (b.2=0))then
  some (C0,b.2)
  else
  fq (j4 (ρ:=(A0×Int)) (fun(i5:Int)(s5:A0)=>
  (idx c.gn 0).bind fun i=>
  (idx b.1 i5).bind fun j=>
  (Db n t i f j a).bind fun e=>
  if (!decide (e.2=10))then
  (idx b.1 i5).bind fun k=>
  some (.ret (A0.mk 0 k [e.1],e.2))
  else
  some (.next s5)) 0 (b.1.length:Int) C0) (fun s5=>
  some (C0,10)) (fun v5=>some v5)
  else
  some (C0,0)
def Pa[Ev](t:AC)(c:d6)(b:AG)(m:AL)(a:Bool):Option (A0×Int):=Je fun n=>Db n t c b m a
def Kr[Ev](t:AC)(c:d6)(d:AG)(m:AL)(a:Bool):Option (Bool×Int):=
 (Pa t c d m a).bind fun b=>
 if (decide (b.2=10))then
 some (false,0)
 else
 some (decide (b.2=0),b.2)
def KN[Ev](t:AC)(a:gp)(b:AG)(m:AL):Option (BA×Int):=
 (Hv t a.kl.d4 b.d4 m.d5 a.sc).bind fun g=>
 if (!decide (g=0))then
 some (BA.mk [] [],1)
 else
 (Ko t a.kl b m.d5).bind fun c=>
 if (!decide (c.2=0))then
 some (BA.mk [] [],c.2)
 else
 (GZ c.1 m.gt).bind fun h=>
 if (!h)then
 some (BA.mk [] [],11)
 else
 (IN t a.kl.d4 b.d4 m.d5).bind fun d=>
 if (!decide (d.2=0))then
 some (BA.mk [] [],d.2)
 else
 (Oq d.1 b.d4 a.x3 m.d5).bind fun e=>
 if (!decide (e.2=0))then
 some (BA.mk [] [],e.2)
 else
 (Kr t a.d6 b m a.sc).bind fun f=>
 (if((decide (f.2=0))&&(!f.1))then
 some 16
 else
 some f.2).bind fun w1=>
 some (e.1,w1)
def I8[Ev](t:AC)(b:AG)(p:BA):Option (AG×Int):=
 (FR t b).bind fun c=>
 if (!decide (c.2=0))then
 some (AG.mk (d4.mk [] []) [],c.2)
 else
 (G4 b.d4 p).bind fun a=>
 if (!decide (a.2.2=0))then
 some (AG.mk (d4.mk [] []) [],a.2.2)
 else
 fq (EQ (ρ:=(AG×Int)) (fun(s0:AG×Int)=>
 if (decide (s0.2<(a.2.1.ci.length:Int)))then
 (idx a.2.1.ci s0.2).bind fun d=>
 (idx b.fd d).bind fun e=>
 (Ag [] e).bind fun f=>
 (Ag s0.1.fd [f]).bind fun g=>
 some (.next (AG.mk s0.1.d4 g,Af (s0.2+1)))
 else
 some (.brk (s0.1,s0.2))) (AG.mk a.1 [],0)) (fun s0=>
 some (s0.1,0)) (fun v0=>some v0)
def KJ(l:Fp)(n:Int):Option Fp:=
 (sx (fun(i0:Int)(s0:Fp)=>
 (Ag s0 [(-1)]).bind fun a=>
 (sx (fun(i2:Int)(s2:Fp)=>
 (idx l i2).bind fun b=>
 if (decide (b=i0))then
 (idx s2 i0).bind fun c=>
 some (BI s2 i0 i2)
 else
 some s2) 0 (l.length:Int) a).bind fun s2=>
 some s2) 0 n []).bind fun s0=>
 some s0
def J2(n:Int)(a:Fp):Option Fp:=
 (KJ a n).bind fun b=>
 some b
def LA[Ev](t:AC)(a:AG)(d:BA):Option (AG×d5):=
 (I8 t a d).bind fun b=>
 (J2 (a.d4.ci.length:Int) d.ci).bind fun c=>
 (J2 (a.d4.d3.length:Int) d.d3).bind fun e=>
 some (b.1,d5.mk c e)
def Gc(a:Fp)(b:Fp):Option Fp:=
 (sx (fun(i0:Int)(s0:Fp)=>
 (idx a i0).bind fun c=>
 (idx b c).bind fun d=>
 (Ag s0 [d]).bind fun e=>
 some e) 0 (a.length:Int) []).bind fun s0=>
 some s0
def E7(d:Fp)(e:Fp)(a:Int)(l:Fp)(b:Int):Option Fp:=
 (KJ e a).bind fun c=>
 (sx (fun(i0:Int)(s0:Int×Fp)=>
 (idx c i0).bind fun f=>
 if (decide (0<=f))then
 (idx c i0).bind fun g=>
 (idx d g).bind fun h=>
 (idx l h).bind fun i=>
 (Ag s0.2 [i]).bind fun j=>
 some (s0.1,j)
 else
 (Ag s0.2 [s0.1]).bind fun k=>
 some (Af (s0.1+1),k)) 0 a (b,[])).bind fun s0=>
 some s0.2
def G5(a:Fp)(c:Int):K1:=
 fq (j4 (ρ:=Bool) (fun(i0:Int)(_:Unit)=>
 (idx a i0).bind fun b=>
 if (decide (b=c))then
 some (.ret false)
 else
 some (.next ())) 0 (a.length:Int) ()) (fun _=>
 some true) (fun v0=>some v0)
def KM[Ev](t:AC)(a:gp)(p:AG)(c:d5):Option AG:=
 fq (EQ (ρ:=AG) (fun(s0:AG×Int)=>
 if (decide (s0.2<(a.em.d4.ci.length:Int)))then
 (G5 a.tc.ci s0.2).bind fun h=>
 if (!h)then
 some (.next (s0.1,Af (s0.2+1)))
 else
 (idx a.em.d4.ci s0.2).bind fun i=>
 (Ag s0.1.d4.ci [i]).bind fun j=>
 (idx a.em.d4.ci s0.2).bind fun k=>
 (FQ t k).bind fun d=>
 (sx (fun(i2:Int)(s2:Fp)=>
 (idx d.1 i2).bind fun l=>
 (Ag s2 [l.Low]).bind fun m=>
 some m) 0 (d.1.length:Int) []).bind fun s2=>
 (Ag s0.1.fd [s2]).bind fun n=>
 some (.next (AG.mk (d4.mk j s0.1.d4.d3) n,Af (s0.2+1)))
 else
 some (.brk (s0.1,s0.2))) (p,0)) (fun s0=>
 fq (EQ (ρ:=AG) (fun(s4:AG×Int)=>
 if (decide (s4.2<(a.em.d4.d3.length:Int)))then
 (G5 a.tc.d3 s4.2).bind fun o=>
 if o then
 (idx a.em.d4.d3 s4.2).bind fun b=>
 (idx c.ci b.ns).bind fun e=>
 (idx c.ci b.To).bind fun f=>
 (Ag s4.1.d4.d3 [Bf.mk b.ne e f]).bind fun g=>
 some (.next (AG.mk (d4.mk s4.1.d4.ci g) s4.1.fd,Af (s4.2+1)))
 else
 some (.next (s4.1,Af (s4.2+1)))
 else
 some (.brk (s4.1,s4.2))) (s0.1,0)) (fun s4=>
 some s4.1) (fun v4=>some v4)) (fun v0=>some v0)
def La[Ev](t:AC)(a:gp)(C:AG)(c:d5)(e:Fp):Option (AG×Int):=
 fq (j4 (ρ:=(AG×Int)) (fun(i0:Int)(s0:AG)=>
 (idx a.em.ff i0).bind fun q=>
 (EM q.j0 e).bind fun r=>
 fq (j4 (ρ:=(AG×Int)) (fun(i2:Int)(s2:AG)=>
 (idx a.em.ff i2).bind fun s=>
 (EM s.j0 e).bind fun u=>
 (idx a.em.ff i2).bind fun v=>
 (idx c.ci v.tl).bind fun w=>
 (idx a.em.ff i0).bind fun x=>
 (idx c.ci x.tl).bind fun y=>
 (if(decide (w=y))then((idx a.em.ff i2).bind fun z=>
 (idx a.em.ff i0).bind fun A=>
 some (decide (z.kp=A.kp)))else some false).bind fun B=>
 if (B&&(!decide (r.1=u.1)))then
 some (.ret (AG.mk (d4.mk [] []) [],11))
 else
 some (.next s2)) 0 i0 s0) (fun s2=>
 some (.next s2)) (fun v2=>some (.ret v2))) 0 (a.em.ff.length:Int) (AG.mk (d4.mk [] []) [])) (fun s0=>
 fq (j4 (ρ:=(AG×Int)) (fun(i4:Int)(s4:AG×AG)=>
 (idx a.em.ff i4).bind fun i=>
 (EM i.j0 e).bind fun b=>
 (idx a.em.ff i4).bind fun j=>
 (idx c.ci j.tl).bind fun d=>
 (idx s4.1.d4.ci d).bind fun k=>
 (FQ t k).bind fun f=>
 (idx a.em.ff i4).bind fun l=>
 (idx f.1 l.kp).bind fun m=>
 (if(decide (b.1<m.Low))then some true else((idx a.em.ff i4).bind fun n=>
 (idx f.1 n.kp).bind fun o=>
 some (decide (o.AaD<b.1)))).bind fun p=>
 if p then
 some (.ret (AG.mk (d4.mk [] []) [],6))
 else
 (idx s4.1.fd d).bind fun g=>
 (idx a.em.ff i4).bind fun h=>
 (idx g h.kp).bind fun D=>
 some (.next (AG.mk s4.1.d4 (BI s4.1.fd d (BI g h.kp b.1)),s4.2))) 0 (a.em.ff.length:Int) (C,s0)) (fun s4=>
 some (s4.1,0)) (fun v4=>some v4)) (fun v0=>some v0)
def Kx[Ev](t:AC)(a:gp)(e:AG)(m:AL):Option (Ar×Int):=
 (NG t a e).bind fun h=>
 if (!decide (h=0))then
 some (Ho,h)
 else
 (KN t a e m).bind fun c=>
 if (!decide (c.2=0))then
 some (Ho,c.2)
 else
 (LA t e c.1).bind fun d=>
 (Gc m.d5.ci d.2.ci).bind fun i=>
 (Gc m.d5.d3 d.2.d3).bind fun j=>
 (E7 a.x3.ci a.tc.ci (a.em.d4.ci.length:Int) i (c.1.ci.length:Int)).bind fun f=>
 (E7 a.x3.d3 a.tc.d3 (a.em.d4.d3.length:Int) j (c.1.d3.length:Int)).bind fun g=>
 (Fc d.1).bind fun k=>
 (KM t a k (d5.mk f g)).bind fun l=>
 (La t a l (d5.mk f g) m.gt).bind fun b=>
 if (!decide (b.2=0))then
 some (Ho,b.2)
 else
 if ((decide (40<(b.1.d4.ci.length:Int)))||(decide (80<(b.1.d4.d3.length:Int))))then
 some (Ho,3)
 else
 some (Ar.mk a m e b.1 d.2 (d5.mk f g),0)
def MN[Ev](t:AC)(a:List gp)(d:AG)(m:zt):Option (Ar×Int):=
 if ((decide (m.gp<0))||(decide ((a.length:Int)<=m.gp)))then
 some (Ho,6)
 else
 (idx a m.gp).bind fun c=>
 (Kx t c d m.o3).bind fun b=>
 some (b.1,b.2)
def J4[Ev](t:AC)(a:List gp)(d:AW):Option (List Ar×Int×Int):=
 (JP t a d.kg).bind fun c=>
 if (!decide (c=0))then
 some ([],0,c)
 else
 if (decide (30<(d.kq.length:Int)))then
 some ([],0,3)
 else
 fq (j4 (ρ:=(List Ar×Int×Int)) (fun(i0:Int)(s0:List Ar×AG)=>
 (idx d.kq i0).bind fun e=>
 (MN t a s0.2 e).bind fun b=>
 if (!decide (b.2=0))then
 some (.ret ([],i0,b.2))
 else
 (Ag s0.1 [b.1]).bind fun f=>
 some (.next (f,b.1.wi))) 0 (d.kq.length:Int) ([],d.kg)) (fun s0=>
 some (s0.1,(s0.1.length:Int),0)) (fun v0=>some v0)
def K3(a:AU):QQ:=
 if (decide (20<(a.pr.length:Int)))then
 some 3
 else
 fq (j4 (ρ:=Int) (fun(i0:Int)(_:Unit)=>
 (idx a.pr i0).bind fun b=>
 (if(decide (b<0))then some true else((idx a.pr i0).bind fun c=>
 some (decide ((a.jj.kq.length:Int)<c)))).bind fun d=>
 if d then
 some (.ret 6)
 else
 (if(decide (0<i0))then((idx a.pr i0).bind fun e=>
 (idx a.pr (Af (i0-1))).bind fun f=>
 some (decide (e<f)))else some false).bind fun g=>
 if g then
 some (.ret 12)
 else
 some (.next ())) 0 (a.pr.length:Int) ()) (fun _=>
 some 0) (fun v0=>some v0)
def K0[Ev](t:AC)(a:List gp)(c:AU):QQ:=
 (J4 t a c.jj).bind fun b=>
 if (!decide (b.2.2=0))then
 some b.2.2
 else
 (K3 c).bind fun d=>
 some d
def FO[Ev](c:GH):K1:=
 (EA).bind fun o=>
 (if(!o)then some true else((Na c).bind fun d=>
 some (!d))).bind fun e=>
 if e then
 (EA).bind fun f=>
 some f
 else
 (Fc c.S.jj.kg).bind fun g=>
 (DM c.T g).bind fun a=>
 (Nn c.T c.S.jj.kg).bind fun b=>
 (if(decide (a.2=b.2))then((MO a.1 b.1).bind fun h=>
 some (h))else some false).bind fun i=>
 (if i then((GB c.Abz).bind fun j=>
 (J5 c.S).bind fun k=>
 (CX c.T j k).bind fun l=>
 (K0 c.T c.Abz c.S).bind fun m=>
 some (decide (l=m)))else some false).bind fun n=>
 some n
end
end Go.Sf.Sc
