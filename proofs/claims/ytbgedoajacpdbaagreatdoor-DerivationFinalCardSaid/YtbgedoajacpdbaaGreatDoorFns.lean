/- The functions of the program as Lean functions. -/
import Derived.Test.YtbgedoajacpdbaaGreatDoorTypes
import Derived.Test.YtbgedoajacpdbaaGreatDoorSfText
import Derived.Test.YtbgedoajacpdbaaGreatDoorSfF
set_option linter.all false
set_option maxRecDepth 100000
namespace Go.Sf.Sc
open Go Go.Sf
noncomputable section
abbrev Hp:Ar:=Ar.mk (hT.mk (⟨#[]⟩:ByteArray) (ec.mk (d5.mk [] []) [] 0 []) (ec.mk (d5.mk [] []) [] 0 []) (BB.mk [] []) (d6.mk [] []) false (d7.mk 0 [] (d6.mk [] []) (ec.mk (d5.mk [] []) [] 0 []))) (AM.mk (d6.mk [] []) []) (AG.mk (d5.mk [] []) []) (AG.mk (d5.mk [] []) []) (d6.mk [] []) (d6.mk [] [])
abbrev C1:Az:=Az.mk 0 (AM.mk (d6.mk [] []) []) []
abbrev YY:AY:=AY.mk (AG.mk (d5.mk [] []) []) []
def J5(c:Int):K1:=
 some (97<=c&&c<=122||(65<=c&&c<=90))
def GZ[Ev](a:ByteArray)(e:Int->K1):QQ:=
 fq (EO (ρ:=Int) (fun(s0:Int)=>
 (if(s0<(a.size:Int):Bool)then((AaD a s0).bind fun b=>
 (e b).bind some)else some false).bind fun d=>
 if d then
 some (.next (Ae (s0+1)))
 else
 some (.brk s0)) 0) some some
def JP(c:Int):K1:=
 some (48<=c&&c<=57)
def MS(c:Int):K1:=
 (J5 c).bind fun a=>
 (if a then some true else((JP c).bind some)).bind fun d=>
 some (d||c=95)
def KO(c:Int):K1:=
 some ((32<=c&&c<=126)&&(!c=34))
def Fg[Ev](a:ByteArray):Option (Int×Int):=
 (AaJ a 1 a.size).bind fun e=>
 (GZ e KO).bind fun b=>
 (if((Ae (1+b))=(a.size:Int):Bool)then some true else((AaD a (Ae (1+b))).bind fun c=>
 some (!c=34))).bind fun d=>
 if d then
 some (0,2)
 else
 if (60<b:Bool)then
 some (0,3)
 else
 some (Ae (b+2),0)
def slices_Index_string(a:List ByteArray)(c:ByteArray):QQ:=
 fq (kl (ρ:=Int) (fun i0 _=>
 (idx a i0).bind fun b=>
 if (c==b)then
 some (.ret i0)
 else
 some (.next ())) 0 (a.length:Int) ()) (fun _=>
 some (-1)) some
def slices_Contains_string(a:List ByteArray)(b:ByteArray):K1:=
 (slices_Index_string a b).bind fun c=>
 some (decide (0<=c))
def MR(a:ByteArray):K1:=
 (if(2<=(a.size:Int):Bool)then((AaJ a 0 2).bind fun d=>
 (slices_Contains_string [(⟨#[45,62]⟩:ByteArray),(⟨#[60,61]⟩:ByteArray),(⟨#[62,61]⟩:ByteArray),(⟨#[61,61]⟩:ByteArray),(⟨#[33,61]⟩:ByteArray)] d).bind some)else some false).bind some
def strings_IndexByte(s:ByteArray)(c:Int):QQ:=some (Go.Lib.indexByte s.data.toList c.toNat.toUInt8)
def Hk[Ev](a:ByteArray):Option (Int×Int×Int):=
 (AaD a 0).bind fun b=>
 (J5 b).bind fun f=>
 if f then
 (GZ a MS).bind fun c=>
 if (20<c:Bool)then
 some (0,0,3)
 else
 some (1,c,0)
 else
 (JP b).bind fun g=>
 if g then
 (GZ a JP).bind fun d=>
 if (9<d:Bool)then
 some (0,0,3)
 else
 some (2,d,0)
 else
 if (b=34:Bool)then
 (Fg a).bind fun e=>
 some (3,e.1,e.2)
 else
 (MR a).bind fun h=>
 if h then
 some (4,2,0)
 else
 (strings_IndexByte (⟨#[123,125,40,41,91,93,44,59,58,61,43,45,42,60,62,33,38,124,46,63]⟩:ByteArray) b).bind fun i=>
 if (0<=i:Bool)then
 some (4,1,0)
 else
 some (0,0,2)
def H0[Ev](t:EG):Option (ByteArray×Bool):=
 (if(t.ns=3:Bool)then
 (Mt (⟨#[34]⟩:ByteArray) t.AbV).bind fun b=>
 (Mt b (⟨#[34]⟩:ByteArray)).bind some
 else
 some t.AbV).bind fun w1=>
 if (w1==(⟨#[]⟩:ByteArray))then
 some ((⟨#[]⟩:ByteArray),false)
 else
 (Hk w1).bind fun a=>
 some (w1,(a.2.2=0&&a.1=t.ns)&&a.2.1=(w1.size:Int))
def DC[Ev](a:ByteArray):K1:=
 (H0 (EG.mk 1 a 0)).bind fun b=>
 some b.2
def Co[Ev](a:List Bz)(f:Bz->K1):QQ:=
 fq (kl (ρ:=Int) (fun i0 _=>
 (idx a i0).bind fun b=>
 (f b).bind fun c=>
 if c then
 some (.ret i0)
 else
 some (.next ())) 0 (a.length:Int) ()) (fun _=>
 some (-1)) some
def B5[Ev](a:List Bz)(f:Bz->K1):K1:=
 (Co a f).bind fun b=>
 some (decide (0<=b))
def MU(m:Bz)(a:Bz):K1:=
 some (m.po==a.po)
def C0[Ev]:Nat->AC->Int->Option (List kq)
 |0,_,_=>none|n+1,t,a=>
  (idx t.d3 a).bind fun b=>
  (if(0<=b.Aad:Bool)then
  (C0 n t b.Aad).bind some
  else
  some []).bind fun w1=>
  (idx t.d3 a).bind fun d=>
  (Ah w1 d.x3).bind some
def JQ[Ev](t:AC)(a:Int):Option (List kq):=Jb fun n=>C0 n t a
def DX[Ev](a:List kq)(f:kq->K1):QQ:=
 fq (kl (ρ:=Int) (fun i0 _=>
 (idx a i0).bind fun b=>
 (f b).bind fun c=>
 if c then
 some (.ret i0)
 else
 some (.next ())) 0 (a.length:Int) ()) (fun _=>
 some (-1)) some
def CQ[Ev](a:List kq)(f:kq->K1):K1:=
 (DX a f).bind fun b=>
 some (decide (0<=b))
def IA(y:kq)(a:kq):K1:=
 some (y.po==a.po)
def Gb[Ev](l:List ByteArray):QQ:=
 if (20<(l.length:Int):Bool)then
 some 3
 else
 fq (kl (ρ:=Int) (fun i0 _=>
 (idx l i0).bind fun a=>
 (DC a).bind fun b=>
 if (!b)then
 some (.ret 2)
 else
 (slc l 0 i0).bind fun c=>
 (slices_Contains_string c a).bind fun d=>
 if d then
 some (.ret 5)
 else
 some (.next ())) 0 (l.length:Int) ()) (fun _=>
 some 0) some
def D5[Ev](a:kq)(b:List kq):QQ:=
 (DC a.po).bind fun d=>
 if (!d)then
 some 2
 else
 (CQ b (fun y0=>IA y0 a)).bind fun e=>
 if e then
 some 5
 else
 (Gb a.wi).bind fun c=>
 if (!c=0)then
 some c
 else
 (if(0<(a.wi.length:Int):Bool)then
 some (a.Low=0&&a.AaE=(Ae ((a.wi.length:Int)-1)))
 else
 some (((-1000000)<=a.Low&&a.Low<=a.AaE)&&a.AaE<=1000000)).bind fun w1=>
 if (!w1)then
 some 6
 else
 some 0
def Hm[Ev](t:AC)(c:Int):QQ:=
 (idx t.d3 c).bind fun a=>
 (DC a.po).bind fun e=>
 if (!e)then
 some 2
 else
 (slc t.d3 0 c).bind fun f=>
 (B5 f (fun y0=>MU y0 a)).bind fun g=>
 if g then
 some 5
 else
 if (a.Aad<(-1)||c<=a.Aad)then
 some 6
 else
 if (4<(a.x3.length:Int):Bool)then
 some 3
 else
 (JQ t c).bind fun b=>
 if (8<(b.length:Int):Bool)then
 some 3
 else
 fq (kl (ρ:=Int) (fun i1 _=>
 (idx b i1).bind fun h=>
 (slc b 0 i1).bind fun i=>
 (D5 h i).bind fun d=>
 if (!d=0)then
 some (.ret d)
 else
 some (.next ())) (Ae ((b.length:Int)-(a.x3.length:Int))) (b.length:Int) ()) (fun _=>
 some 0) some
def J6(n:Int)(a:AC):K1:=
 some (0<=n&&n<(a.d3.length:Int))
def Cn[Ev](a:List B9)(f:B9->K1):QQ:=
 fq (kl (ρ:=Int) (fun i0 _=>
 (idx a i0).bind fun b=>
 (f b).bind fun c=>
 if c then
 some (.ret i0)
 else
 some (.next ())) 0 (a.length:Int) ()) (fun _=>
 some (-1)) some
def B4[Ev](a:List B9)(f:B9->K1):K1:=
 (Cn a f).bind fun b=>
 some (decide (0<=b))
def MT(y:B9)(a:B9):K1:=
 some (y.po==a.po)
def I8(b:Int)(a:Int):K1:=
 some ((0<=b&&b<=40)&&(a=(-1)||(b<=a&&a<=40)))
def Hl[Ev](t:AC)(c:Int):QQ:=
 (idx t.d4 c).bind fun a=>
 (DC a.po).bind fun d=>
 if (!d)then
 some 2
 else
 (slc t.d4 0 c).bind fun e=>
 (B4 e (fun y0=>MT y0 a)).bind fun f=>
 if f then
 some 5
 else
 (J6 a.ne t).bind fun g=>
 (if(!g)then some true else((J6 a.To t).bind fun h=>
 some (!h))).bind fun b=>
 (if b then
 some b
 else
 (I8 a.Abh a.Aa0).bind fun i=>
 (if(!i)then some true else((I8 a.AbB a.Abi).bind fun j=>
 some (!j))).bind some).bind fun w1=>
 if w1 then
 some 6
 else
 some 0
def C3[Ev](t:AC):Option (ByteArray×Int):=
 if ((t.d3.length:Int)=0:Bool)then
 some ((⟨#[]⟩:ByteArray),7)
 else
 if (12<(t.d3.length:Int)||20<(t.d4.length:Int))then
 some ((⟨#[]⟩:ByteArray),3)
 else
 fq (kl (ρ:=(ByteArray×Int)) (fun i1 _=>
 (idx t.d3 i1).bind fun c=>
 (Hm t i1).bind fun a=>
 if (!a=0)then
 some (.ret (c.po,a))
 else
 some (.next ())) 0 (t.d3.length:Int) ()) (fun _=>
 fq (kl (ρ:=(ByteArray×Int)) (fun i3 _=>
 (idx t.d4 i3).bind fun d=>
 (Hl t i3).bind fun b=>
 if (!b=0)then
 some (.ret (d.po,b))
 else
 some (.next ())) 0 (t.d4.length:Int) ()) (fun _=>
 some ((⟨#[]⟩:ByteArray),0)) some) some
def Ci[Ev](a:Fp)(f:Int->K1):QQ:=
 fq (kl (ρ:=Int) (fun i0 _=>
 (idx a i0).bind fun b=>
 (f b).bind fun c=>
 if c then
 some (.ret i0)
 else
 some (.next ())) 0 (a.length:Int) ()) (fun _=>
 some (-1)) some
def Ak[Ev](a:Fp)(f:Int->K1):K1:=
 (Ci a f).bind fun b=>
 some (decide (0<=b))
def Gi(n:Int)(a:Int):K1:=
 some (0<=n&&n<=a)
def Kz(t:Int):K1:=
 (Gi t 99).bind fun a=>
 some (!a)
def DY[Ev](a:List Bf)(f:Bf->K1):QQ:=
 fq (kl (ρ:=Int) (fun i0 _=>
 (idx a i0).bind fun b=>
 (f b).bind fun c=>
 if c then
 some (.ret i0)
 else
 some (.next ())) 0 (a.length:Int) ()) (fun _=>
 some (-1)) some
def BJ[Ev](a:List Bf)(f:Bf->K1):K1:=
 (DY a f).bind fun b=>
 some (decide (0<=b))
def Lv(e:Bf)(a:Int):K1:=
 (Gi e.mo 99).bind fun g=>
 (if g then((Gi e.ne (Ae (a-1))).bind some)else some false).bind fun c=>
 (if c then((Gi e.To (Ae (a-1))).bind some)else some false).bind some
def K0(e:Bf)(b:d5):K1:=
 (Lv e (b.d3.length:Int)).bind fun a=>
 some (!a)
def CW[Ev](g:d5):QQ:=
 if (40<(g.d3.length:Int)||80<(g.d4.length:Int))then
 some 3
 else
 (Ak g.d3 Kz).bind fun a=>
 if a then
 some 6
 else
 (BJ g.d4 (fun y0=>K0 y0 g)).bind fun b=>
 if b then
 some 6
 else
 some 0
def K9(a:Int)(b:AC):K1:=
 some (a<0||(b.d3.length:Int)<=a)
def El[Ev](t:AC)(l:Fp):QQ:=
 (C3 t).bind fun b=>
 if (!b.2=0)then
 some b.2
 else
 (Ak l (fun y0=>K9 y0 t)).bind fun a=>
 if a then
 some 6
 else
 some 0
def slices_Clone_string(a:List ByteArray):Option (List ByteArray):=
 Ah [] a
def Dl[Ev](t:AC)(a:Int):Option (List kq×Int):=
 (El t [a]).bind fun c=>
 if (!c=0)then
 some ([],c)
 else
 (JQ t a).bind fun d=>
 (sr (fun i0(s0:List kq)=>
 (idx s0 i0).bind fun e=>
 (slices_Clone_string e.wi).bind fun f=>
 (idx s0 i0).bind fun b=>
 some (BG s0 i0 (kq.mk b.po b.Low b.AaE f))) 0 (d.length:Int) d).bind fun s0=>
 some (s0,0)
def IX[Ev](t:AC)(a:Int)(h:Fp):QQ:=
 if ((t.d3.length:Int)<=a:Bool)then
 some 6
 else
 (idx t.d3 a).bind fun d=>
 if d.Aaq then
 some 13
 else
 (Dl t a).bind fun b=>
 if (!(h.length:Int)=(b.1.length:Int))then
 some 20
 else
 fq (kl (ρ:=Int) (fun i0 _=>
 (idx b.1 i0).bind fun c=>
 (idx h i0).bind fun e=>
 (if(e<c.Low:Bool)then some true else((idx h i0).bind fun f=>
 some (decide (c.AaE<f)))).bind fun g=>
 if g then
 some (.ret 6)
 else
 some (.next ())) 0 (b.1.length:Int) ()) (fun _=>
 some 0) some
def slices_Index_int(a:Fp)(c:Int):QQ:=
 fq (kl (ρ:=Int) (fun i0 _=>
 (idx a i0).bind fun b=>
 if (c=b:Bool)then
 some (.ret i0)
 else
 some (.next ())) 0 (a.length:Int) ()) (fun _=>
 some (-1)) some
def slices_Contains_int(a:Fp)(b:Int):K1:=
 (slices_Index_int a b).bind fun c=>
 some (decide (0<=c))
def slices_Reverse_int(l:Fp):Option Fp:=if l.length<=Ad then some l.reverse else none
def Iw[Ev](t:AC)(a:Int):Option Fp:=
 fq (EO (ρ:=Fp) (fun(s0:Int×Fp)=>
 if (0<=s0.1:Bool)then
 (Ah s0.2 [s0.1]).bind fun b=>
 (idx t.d3 s0.1).bind fun c=>
 some (.next (c.Aad,b))
 else
 some (.brk (s0.1,s0.2))) (a,[])) (fun s0=>
 (slices_Reverse_int s0.2).bind some) some
def H2[Ev](t:AC)(a:Int)(b:Int):K1:=
 (Iw t a).bind fun d=>
 (slices_Contains_int d b).bind some
def GP[Ev](t:AC)(a:Int)(b:Int)(c:Int):K1:=
 (El t [b,c]).bind fun d=>
 if (((!d=0)||a<0)||(t.d4.length:Int)<=a)then
 some false
 else
 (idx t.d4 a).bind fun e=>
 (H2 t b e.ne).bind fun f=>
 (if f then((idx t.d4 a).bind fun g=>
 (H2 t c g.To).bind some)else some false).bind some
def Et[Ev](t:AC)(a:AG):Option (Int×Int):=
 (C3 t).bind fun c=>
 if (!c.2=0)then
 some ((-1),c.2)
 else
 (CW a.d5).bind fun d=>
 if (!d=0)then
 some ((-1),d)
 else
 if (!(a.gn.length:Int)=(a.d5.d3.length:Int))then
 some ((-1),20)
 else
 fq (kl (ρ:=(Int×Int)) (fun i0 _=>
 (idx a.d5.d3 i0).bind fun f=>
 (idx a.gn i0).bind fun g=>
 (IX t f g).bind fun e=>
 if (!e=0)then
 some (.ret (i0,e))
 else
 some (.next ())) 0 (a.d5.d3.length:Int) ()) (fun _=>
 fq (kl (ρ:=(Int×Int)) (fun i2 _=>
 (idx a.d5.d4 i2).bind fun b=>
 if ((t.d4.length:Int)<=b.mo:Bool)then
 some (.ret (i2,6))
 else
 (idx a.d5.d3 b.ne).bind fun h=>
 (idx a.d5.d3 b.To).bind fun i=>
 (GP t b.mo h i).bind fun j=>
 if (!j)then
 some (.ret (i2,13))
 else
 some (.next ())) 0 (a.d5.d4.length:Int) ()) (fun _=>
 some ((-1),0)) some) some
def F7(n:Int)(a:AC):K1:=
 some (decide ((a.d3.length:Int)<=n))
def F8(a:Bf)(b:AC):K1:=
 some (decide ((b.d4.length:Int)<=a.mo))
def CP(n:Int)(b:Int)(a:Int):K1:=
 some (b<=n&&n<=a)
def ET[Ev](t:AC)(p:ec)(a:CU):Option (kq×Bool):=
 (CP a.tl 0 (Ae ((p.d5.d3.length:Int)-1))).bind fun c=>
 if (!c)then
 some (kq.mk (⟨#[]⟩:ByteArray) 0 0 [],false)
 else
 (idx p.d5.d3 a.tl).bind fun d=>
 (Dl t d).bind fun b=>
 (CP a.kq 0 (Ae ((b.1.length:Int)-1))).bind fun e=>
 if (!e)then
 some (kq.mk (⟨#[]⟩:ByteArray) 0 0 [],false)
 else
 (idx b.1 a.kq).bind fun f=>
 some (f,true)
def HM(n:Int)(t:j4):K1:=
 some ((((-1)<=t.Var&&t.Var<n)&&(-1000000)<=t.Add)&&t.Add<=1000000)
def IF(n:Int)(a:Test):QQ:=
 if ((!a.ns=1)&&(!a.ns=2))then
 some 1
 else
 (HM n a.kp).bind fun b=>
 (if(!b)then some true else((HM n a.fd).bind fun c=>
 some (!c))).bind fun d=>
 if d then
 some 6
 else
 some 0
def Gh(n:Int)(l:List Test):QQ:=
 if (n<0||12<n)then
 some 6
 else
 if (40<(l.length:Int):Bool)then
 some 3
 else
 fq (kl (ρ:=Int) (fun i0 _=>
 (idx l i0).bind fun b=>
 (IF n b).bind fun a=>
 if (!a=0)then
 some (.ret a)
 else
 some (.next ())) 0 (l.length:Int) ()) (fun _=>
 some 0) some
def H9(a:a6)(c:Bool):QQ:=
 fq (kl (ρ:=Int) (fun i0 _=>
 (idx a i0).bind fun b=>
 if (c==b)then
 some (.ret i0)
 else
 some (.next ())) 0 (a.length:Int) ()) (fun _=>
 some (-1)) some
def Ez(a:a6)(b:Bool):K1:=
 (H9 a b).bind fun c=>
 some (decide (0<=c))
def Cd[Ev](t:AC)(p:ec):QQ:=
 (C3 t).bind fun c=>
 if (!c.2=0)then
 some c.2
 else
 (CW p.d5).bind fun d=>
 if (!d=0)then
 some d
 else
 (Ak p.d5.d3 (fun y0=>F7 y0 t)).bind fun f=>
 (if f then some true else((BJ p.d5.d4 (fun y0=>F8 y0 t)).bind some)).bind fun h=>
 if h then
 some 13
 else
 (CP p.hV 0 12).bind fun i=>
 if (!i)then
 some 6
 else
 if (10<(p.ff.length:Int)||10<(p.sc.length:Int))then
 some 3
 else
 (IJ p.hV false).bind fun j=>
 fq (kl (ρ:=Int) (fun i0(s0:a6)=>
 (idx p.ff i0).bind fun a=>
 (ET t p a).bind fun k=>
 (if(!k.2)then some true else((CP a.j4.Var (-1) (Ae (p.hV-1))).bind fun l=>
 some (!l))).bind fun m=>
 (if m then some true else((CP a.j4.Add (-1000000) 1000000).bind fun n=>
 some (!n))).bind fun o=>
 if o then
 some (.ret 6)
 else
 if (0<=a.j4.Var:Bool)then
 (idx s0 a.j4.Var).bind fun q=>
 some (.next (BG s0 a.j4.Var true))
 else
 some (.next s0)) 0 (p.ff.length:Int) j) (fun s0=>
 (Gh p.hV p.sc).bind fun b=>
 if (!b=0)then
 some b
 else
 (Ez s0 false).bind fun e=>
 if e then
 some 9
 else
 some 0) some
def MM(n:Int)(a:AC):K1:=
 some (decide ((a.d3.length:Int)<=n))
def MN(a:Bf)(b:AC):K1:=
 some (decide ((b.d4.length:Int)<=a.mo))
def He[Ev](t:AC)(g:d5):K1:=
 (Ak g.d3 (fun y0=>MM y0 t)).bind fun c=>
 (if(!c)then((BJ g.d4 (fun y0=>MN y0 t)).bind fun a=>
 some (!a))else some false).bind some
def DZ[Ev](a:List CU)(f:CU->K1):QQ:=
 fq (kl (ρ:=Int) (fun i0 _=>
 (idx a i0).bind fun b=>
 (f b).bind fun c=>
 if c then
 some (.ret i0)
 else
 some (.next ())) 0 (a.length:Int) ()) (fun _=>
 some (-1)) some
def CC[Ev](a:List CU)(f:CU->K1):K1:=
 (DZ a f).bind fun b=>
 some (decide (0<=b))
def NG(y:CU)(a:CU):K1:=
 some (y.tl=a.tl&&y.kq=a.kq)
def Ie[Ev](t:AC)(b:hT)(c:Int):QQ:=
 (idx b.fd.ff c).bind fun a=>
 if (a.tl<0||(b.fd.d5.d3.length:Int)<=a.tl)then
 some 6
 else
 (idx b.fd.d5.d3 a.tl).bind fun d=>
 (Dl t d).bind fun e=>
 if (((((a.kq<0||(e.1.length:Int)<=a.kq)||a.j4.Var<(-1))||b.fd.hV<=a.j4.Var)||a.j4.Add<(-1000000))||1000000<a.j4.Add)then
 some 6
 else
 (slc b.fd.ff 0 c).bind fun f=>
 (CC f (fun y0=>NG y0 a)).bind fun g=>
 if g then
 some 5
 else
 some 0
def Hd[Ev](t:AC)(a:hT):QQ:=
 (CW a.fd.d5).bind fun b=>
 if (!b=0)then
 some b
 else
 (He t a.fd.d5).bind fun d=>
 if (!d)then
 some 13
 else
 if ((!a.fd.hV=a.kp.hV)||0<(a.fd.sc.length:Int))then
 some 1
 else
 if (10<(a.fd.ff.length:Int):Bool)then
 some 3
 else
 fq (kl (ρ:=Int) (fun i1 _=>
 (Ie t a i1).bind fun c=>
 if (!c=0)then
 some (.ret c)
 else
 some (.next ())) 0 (a.fd.ff.length:Int) ()) (fun _=>
 some 0) some
def Cy[Ev](a:d5)(b:d5)(m:d6):QQ:=
 (CW a).bind fun g=>
 if (!g=0)then
 some g
 else
 (CW b).bind fun h=>
 if (!h=0)then
 some h
 else
 if ((!(m.d3.length:Int)=(a.d3.length:Int))||(!(m.d4.length:Int)=(a.d4.length:Int)))then
 some 20
 else
 fq (kl (ρ:=Int) (fun i0 _=>
 (idx m.d3 i0).bind fun c=>
 if (c<0||(b.d3.length:Int)<=c)then
 some (.ret 6)
 else
 (idx b.d3 c).bind fun l=>
 (idx a.d3 i0).bind fun n=>
 if (!l=n)then
 some (.ret 13)
 else
 some (.next ())) 0 (m.d3.length:Int) ()) (fun _=>
 fq (kl (ρ:=Int) (fun i2 _=>
 (idx m.d4 i2).bind fun d=>
 if (d<0||(b.d4.length:Int)<=d)then
 some (.ret 6)
 else
 (idx a.d4 i2).bind fun e=>
 (idx b.d4 d).bind fun f=>
 if (!e.mo=f.mo)then
 some (.ret 13)
 else
 (idx m.d3 e.ne).bind fun i=>
 (if(!i=f.ne)then some true else((idx m.d3 e.To).bind fun j=>
 some (!j=f.To))).bind fun k=>
 if k then
 some (.ret 11)
 else
 some (.next ())) 0 (m.d4.length:Int) ()) (fun _=>
 some 0) some) some
def slices_Clone_int(a:Fp):Option Fp:=
 Ah [] a
def slices_Sort_int(l:Fp):Option Fp:=if l.length<=Ad then some (O7 l)else none
def slices_Compact_int(l:Fp):Option Fp:=if l.length<=Ad then some (Go.Lib.compact l)else none
def Fv(l:Fp):QQ:=
 (slices_Clone_int l).bind fun a=>
 (slices_Sort_int a).bind fun b=>
 (slices_Compact_int b).bind fun c=>
 some (c.length:Int)
def Ch[Ev](a:d5)(b:d5)(m:d6):K1:=
 (Cy a b m).bind fun c=>
 (if(c=0:Bool)then((Fv m.d3).bind fun d=>
 some (decide (d=(m.d3.length:Int))))else some false).bind fun e=>
 (if e then((Fv m.d4).bind fun f=>
 some (decide (f=(m.d4.length:Int))))else some false).bind some
def HC(l:Fp)(n:Int):QQ:=
 fq (kl (ρ:=Int) (fun i0 _=>
 (idx l i0).bind fun a=>
 if (a<0||n<=a)then
 some (.ret 6)
 else
 (if(0<i0:Bool)then((idx l (Ae (i0-1))).bind fun b=>
 some (decide (a<=b)))else some false).bind fun c=>
 if c then
 some (.ret 12)
 else
 some (.next ())) 0 (l.length:Int) ()) (fun _=>
 some 0) some
def slices_BinarySearch_int(l:Fp)(x:Int):Option (Int×Bool):=if l.length<=Ad/\l.Pairwise (·<=·)then some ((l.countP (·<x):Nat),l.contains x)else none
def J4(l:Fp)(n:Int):K1:=
 (slices_BinarySearch_int l n).bind fun a=>
 some a.2
def K8(g:d5)(p:BB):QQ:=
 (HC p.d3 (g.d3.length:Int)).bind fun a=>
 if (!a=0)then
 some a
 else
 (HC p.d4 (g.d4.length:Int)).bind fun b=>
 if (!b=0)then
 some b
 else
 fq (kl (ρ:=Int) (fun i0 _=>
 (idx p.d4 i0).bind fun c=>
 (idx g.d4 c).bind fun d=>
 (J4 p.d3 d.ne).bind fun e=>
 (if(!e)then some true else((idx g.d4 c).bind fun f=>
 (J4 p.d3 f.To).bind fun h=>
 some (!h))).bind fun i=>
 if i then
 some (.ret 14)
 else
 some (.next ())) 0 (p.d4.length:Int) ()) (fun _=>
 some 0) some
def Ds[Ev](g:d5)(p:BB):QQ:=
 (CW g).bind fun b=>
 if (!b=0)then
 some b
 else
 (K8 g p).bind some
def Dh[Ev](g:d5)(p:BB):Option (d5×d6×Int):=
 (Ds g p).bind fun b=>
 if (!b=0)then
 some (d5.mk [] [],d6.mk [] [],b)
 else
 (sr (fun i0(s0:d5)=>
 (idx p.d3 i0).bind fun c=>
 (idx g.d3 c).bind fun d=>
 (Ah s0.d3 [d]).bind fun e=>
 some (d5.mk e s0.d4)) 0 (p.d3.length:Int) (d5.mk [] [])).bind fun s0=>
 (sr (fun i2(s2:d5)=>
 (idx p.d4 i2).bind fun f=>
 (idx g.d4 f).bind fun a=>
 (slices_BinarySearch_int p.d3 a.ne).bind fun h=>
 (slices_BinarySearch_int p.d3 a.To).bind fun i=>
 (Ah s2.d4 [Bf.mk a.mo h.1 i.1]).bind fun j=>
 some (d5.mk s2.d3 j)) 0 (p.d4.length:Int) s0).bind fun s2=>
 (slices_Clone_int p.d3).bind fun k=>
 (slices_Clone_int p.d4).bind fun l=>
 some (s2,d6.mk k l,0)
def Ic[Ev](a:hT):QQ:=
 (Dh a.kp.d5 a.x4).bind fun b=>
 if (!b.2.2=0)then
 some b.2.2
 else
 (Cy b.1 a.fd.d5 a.sx).bind fun c=>
 if (!c=0)then
 some c
 else
 (Ch b.1 a.fd.d5 a.sx).bind fun d=>
 if (!d)then
 some 11
 else
 some 0
def JO(l:Fp)(n:Int):Option Fp:=
 (sr (fun i0(s0:Fp)=>
 (slices_Contains_int l i0).bind fun a=>
 if (!a)then
 (Ah s0 [i0]).bind some
 else
 some s0) 0 n []).bind some
def J2(a:hT):Option (Fp×Fp):=
 (JO a.sx.d3 (a.fd.d5.d3.length:Int)).bind fun b=>
 (JO a.sx.d4 (a.fd.d5.d4.length:Int)).bind fun c=>
 some (b,c)
def KL(c:Int)(d:AC)(e:d5):K1:=
 (idx e.d3 c).bind fun a=>
 (idx d.d3 a).bind fun b=>
 some b.Aaq
def FM[Ev](f:Int)(e:d5)(g:AC):K1:=
 (idx e.d4 f).bind fun a=>
 (idx e.d3 a.ne).bind fun b=>
 (idx e.d3 a.To).bind fun c=>
 (GP g a.mo b c).bind fun d=>
 some (!d)
def Fd[Ev](t:AC)(g:d5)(a:Fp)(b:Fp):K1:=
 (Ak a (fun y0=>KL y0 t g)).bind fun c=>
 (if(!c)then((Ak b (fun y0=>FM y0 g t)).bind fun d=>
 some (!d))else some false).bind some
def EU(c:d7):K1:=
 some ((Ae ((Ae ((Ae ((Ae ((Ae ((c.Map.d3.length:Int)+(c.Map.d4.length:Int)))+(c.ec.d5.d3.length:Int)))+(c.ec.d5.d4.length:Int)))+(c.ec.ff.length:Int)))+(c.ec.sc.length:Int)))=0&&c.ec.hV=0)
def Cb[Ev](a:List d7)(f:d7->K1):QQ:=
 fq (kl (ρ:=Int) (fun i0 _=>
 (idx a i0).bind fun b=>
 (f b).bind fun c=>
 if c then
 some (.ret i0)
 else
 some (.next ())) 0 (a.length:Int) ()) (fun _=>
 some (-1)) some
def Bg[Ev](a:List d7)(f:d7->K1):K1:=
 (Cb a f).bind fun b=>
 some (decide (0<=b))
mutual
def BI[Ev]:Nat->d7->K1
 |0,_=>none|n+1,c=>
  (if(c.ns=1:Bool)then
  (if((c.gt.length:Int)=0:Bool)then((EU c).bind some)else some false).bind some
  else
  if (c.ns=2:Bool)then
  (if((c.gt.length:Int)=1:Bool)then((EU c).bind some)else some false).bind some
  else
  if (c.ns=3:Bool)then
  if (c.ns=3:Bool)then
  (if(1<=(c.gt.length:Int):Bool)then((EU c).bind some)else some false).bind some
  else
  if (c.ns=5:Bool)then
  some (decide ((c.gt.length:Int)=1))
  else
  some false
  else
  if (c.ns=4:Bool)then
  (if(1<=(c.gt.length:Int):Bool)then((EU c).bind some)else some false).bind some
  else
  if (c.ns=5:Bool)then
  some (decide ((c.gt.length:Int)=1))
  else
  some false).bind fun w1=>
  (if w1 then((Bg c.gt (BT n)).bind fun h=>
  some (!h))else some false).bind some
def BT[Ev]:Nat->d7->K1
 |0,_=>none|n+1,k=>
  (BI n k).bind fun a=>
  some (!a)
end
def Es[Ev](c:d7):K1:=Jb fun n=>BI n c
def PU[Ev](k:d7):K1:=Jb fun n=>BT n k
def CA[Ev]:Nat->d7->Option (Int×Int)
 |0,_=>none|n+1,c=>
  (sr (fun i0(s0:Int×Int)=>
  (idx c.gt i0).bind fun b=>
  (CA n b).bind fun a=>
  some (Ae (s0.1+a.1),max s0.2 a.2)) 0 (c.gt.length:Int) (1,0)).bind fun s0=>
  (if(c.ns=5:Bool)then
  some (Ae (s0.2+1))
  else
  some s0.2).bind fun w1=>
  some (s0.1,w1)
def GA[Ev](c:d7):Option (Int×Int):=Jb fun n=>CA n c
def D1[Ev](c:d7):QQ:=
 (Es c).bind fun b=>
 if (!b)then
 some 1
 else
 (GA c).bind fun a=>
 if (12<a.1||3<a.2)then
 some 3
 else
 some 0
def Gy(a:CU)(b:Int):K1:=
 some (decide (a.j4.Var=b))
def DH[Ev](t:AC)(q:ec)(b:Int):QQ:=
 (Cd t q).bind fun a=>
 if (!a=9)then
 some a
 else
 fq (EO (ρ:=Int) (fun(s0:Int)=>
 if (s0<q.hV:Bool)then
 (CC q.ff (fun y0=>Gy y0 s0)).bind fun c=>
 if (!c)then
 some (.ret a)
 else
 some (.next (Ae (s0+1)))
 else
 some (.brk s0)) b) (fun s0=>
 some 0) some
def Bu[Ev]:Nat->AC->ec->d7->QQ
 |0,_,_,_=>none|n+1,t,p,c=>
  if (c.ns=5:Bool)then
  if (c.ec.hV<p.hV:Bool)then
  some 20
  else
  (DH t c.ec p.hV).bind fun d=>
  if (!d=0)then
  some d
  else
  (Cy p.d5 c.ec.d5 c.Map).bind fun e=>
  if (!e=0)then
  some e
  else
  (Ch p.d5 c.ec.d5 c.Map).bind fun f=>
  if (!f)then
  some 1
  else
  fq (kl (ρ:=Int) (fun i0 _=>
  (idx c.gt i0).bind fun b=>
  (Bu n t c.ec b).bind fun a=>
  if (!a=0)then
  some (.ret a)
  else
  some (.next ())) 0 (c.gt.length:Int) ()) (fun _=>
  some 0) some
  else
  fq (kl (ρ:=Int) (fun i0 _=>
  (idx c.gt i0).bind fun b=>
  (Bu n t p b).bind fun a=>
  if (!a=0)then
  some (.ret a)
  else
  some (.next ())) 0 (c.gt.length:Int) ()) (fun _=>
  some 0) some
def Io[Ev](t:AC)(p:ec)(c:d7):QQ:=Jb fun n=>Bu n t p c
def Cf[Ev](t:AC)(p:ec)(c:d7):QQ:=
 (Cd t p).bind fun a=>
 if (!a=0)then
 some a
 else
 (D1 c).bind fun b=>
 if (!b=0)then
 some b
 else
 (Io t p c).bind some
def GM[Ev](t:AC)(a:hT):QQ:=
 (C3 t).bind fun b=>
 if (!b.2=0)then
 some b.2
 else
 (DC a.po).bind fun g=>
 if (!g)then
 some 2
 else
 (Cd t a.kp).bind fun c=>
 if (!c=0)then
 some c
 else
 (Hd t a).bind fun d=>
 if (!d=0)then
 some d
 else
 (Ic a).bind fun e=>
 if (!e=0)then
 some e
 else
 (J2 a).bind fun f=>
 (Fd t a.fd.d5 f.1 f.2).bind fun h=>
 if (!h)then
 some 13
 else
 (Cf t a.kp a.d7).bind some
def C9[Ev](t:AC)(a:List hT)(f:AG):QQ:=
 (C3 t).bind fun b=>
 if (!b.2=0)then
 some b.2
 else
 if (10<(a.length:Int):Bool)then
 some 3
 else
 fq (kl (ρ:=Int) (fun i0 _=>
 (idx a i0).bind fun d=>
 (GM t d).bind fun c=>
 if (!c=0)then
 some (.ret c)
 else
 some (.next ())) 0 (a.length:Int) ()) (fun _=>
 (Et t f).bind fun e=>
 some e.2) some
def Hi[Ev](t:AC)(d:hT)(e:AG):QQ:=
 (C3 t).bind fun a=>
 if (!a.2=0)then
 some a.2
 else
 (GM t d).bind fun b=>
 if (!b=0)then
 some b
 else
 (Et t e).bind fun c=>
 some c.2
def slices_Equal_int(a:Fp)(b:Fp):K1:=
 if (!(a.length:Int)=(b.length:Int))then
 some false
 else
 fq (kl (ρ:=Bool) (fun i0 _=>
 (idx a i0).bind fun c=>
 (idx b i0).bind fun d=>
 if (!c=d)then
 some (.ret false)
 else
 some (.next ())) 0 (a.length:Int) ()) (fun _=>
 some true) some
def Jd(n:Int)(a:AC):K1:=
 some (decide ((a.d3.length:Int)<=n))
def Je(a:Bf)(b:AC):K1:=
 some (decide ((b.d4.length:Int)<=a.mo))
def EL[Ev](t:AC)(g:d5):K1:=
 (Ak g.d3 (fun y0=>Jd y0 t)).bind fun c=>
 (if(!c)then((BJ g.d4 (fun y0=>Je y0 t)).bind fun a=>
 some (!a))else some false).bind some
def Dg[Ev](t:AC)(p:d5)(g:d5):QQ:=
 (C3 t).bind fun a=>
 if (!a.2=0)then
 some a.2
 else
 fq (kl (ρ:=Int) (fun i0 _=>
 (idx [p,g] i0).bind fun c=>
 (CW c).bind fun b=>
 if (!b=0)then
 some (.ret b)
 else
 some (.next ())) 0 ([p,g].length:Int) ()) (fun _=>
 (EL t p).bind fun d=>
 (if(!d)then some true else((EL t g).bind fun e=>
 some (!e))).bind fun f=>
 if f then
 some 13
 else
 some 0) some
def Ga[Ev](t:AC)(a:Int):Option (Fp×Int):=
 (El t [a]).bind fun b=>
 if (!b=0)then
 some ([],b)
 else
 (sr (fun i0(s0:Fp)=>
 (H2 t i0 a).bind fun c=>
 if c then
 (Ah s0 [i0]).bind some
 else
 some s0) 0 (t.d3.length:Int) []).bind fun s0=>
 some (s0,0)
def Ew[Ev](t:AC):Option (List a6):=
 (sr (fun i0(s0:List a6)=>
 (IJ (t.d3.length:Int) false).bind fun c=>
 (Ga t i0).bind fun a=>
 (sr (fun i2(s2:a6)=>
 (idx a.1 i2).bind fun b=>
 (idx s2 b).bind fun e=>
 some (BG s2 b true)) 0 (a.1.length:Int) c).bind fun s2=>
 (Ah s0 [s2]).bind some) 0 (t.d3.length:Int) []).bind some
def Ex[Ev](t:AC)(p:d5)(g:d5)(m:d6):QQ:=
 if ((!(m.d3.length:Int)=(p.d3.length:Int))||(!(m.d4.length:Int)=(p.d4.length:Int)))then
 some 20
 else
 (Ew t).bind fun i=>
 fq (kl (ρ:=Int) (fun i0 _=>
 (idx m.d3 i0).bind fun a=>
 if (a<0||(g.d3.length:Int)<=a)then
 some (.ret 6)
 else
 (idx p.d3 i0).bind fun j=>
 (idx i j).bind fun k=>
 (idx g.d3 a).bind fun l=>
 (idx k l).bind fun n=>
 if (!n)then
 some (.ret 13)
 else
 some (.next ())) 0 (m.d3.length:Int) ()) (fun _=>
 fq (kl (ρ:=Int) (fun i2 _=>
 (idx m.d4 i2).bind fun b=>
 if (b<0||(g.d4.length:Int)<=b)then
 some (.ret 6)
 else
 (idx p.d4 i2).bind fun c=>
 (idx g.d4 b).bind fun d=>
 if (!c.mo=d.mo)then
 some (.ret 13)
 else
 (idx m.d3 c.ne).bind fun e=>
 (if(!e=d.ne)then some true else((idx m.d3 c.To).bind fun f=>
 some (!f=d.To))).bind fun h=>
 if h then
 some (.ret 11)
 else
 some (.next ())) 0 (m.d4.length:Int) ()) (fun _=>
 some 0) some) some
def Gs(l:Fp):K1:=if l.length<=4096 then some (AbK l)else none
def EF[Ev](t:AC)(p:d5)(g:d5)(m:d6)(a:Bool):QQ:=
 (Dg t p g).bind fun b=>
 if (!b=0)then
 some b
 else
 (Ex t p g m).bind fun c=>
 if (!c=0)then
 some c
 else
 (if a then((Gs m.d3).bind fun d=>
 (if d then some true else((Gs m.d4).bind some)).bind some)else some false).bind fun h=>
 if h then
 some 5
 else
 some 0
def DQ[Ev](t:AC)(p:ec)(c:AG):QQ:=
 (Cd t p).bind fun a=>
 if (!a=0)then
 some a
 else
 (Et t c).bind fun b=>
 some b.2
def Dy(a:j4)(c:Fp):QQ:=
 if (a.Var<0:Bool)then
 some a.Add
 else
 (idx c a.Var).bind fun b=>
 some (Ae (b+a.Add))
def HU(a b c:Int):Option (Int×Int):=if(0<=a/\a<18446744073709551616)/\(0<=b/\b<18446744073709551616)/\0<=c/\c<=1 then some ((a+b+c) % 18446744073709551616,(a+b+c) / 18446744073709551616)else none
def Fr(a:Int)(b:Int):Option (Int×Int):=
 (HU (IntKind.u64.wrap a) (IntKind.u64.wrap b) 0).bind fun c=>
 (KX .i64 .shr a 63).bind fun d=>
 (KX .i64 .shr b 63).bind fun e=>
 some (Ae ((Ae (d+e))+(Ae c.2)),c.1)
def EW(t:j4)(d:Fp):Option (Int×Int×Bool):=
 if (t.Var=(-1):Bool)then
 (Fr 0 t.Add).bind fun a=>
 some (a.1,a.2,true)
 else
 if (t.Var<0||(d.length:Int)<=t.Var)then
 some (0,0,false)
 else
 (idx d t.Var).bind fun c=>
 (Fr c t.Add).bind fun b=>
 some (b.1,b.2,true)
def Li(a:Fp):QQ:=
 fq (kl (ρ:=Int) (fun i0 _=>
 (idx a i0).bind fun b=>
 if (!b=0)then
 some (.ret b)
 else
 some (.next ())) 0 (a.length:Int) ()) (fun _=>
 some 0) some
def cmp_isNaN_int(a:Int):K1:=
 some (!a=a)
def cmp_Compare_int(a:Int)(y:Int):QQ:=
 (cmp_isNaN_int a).bind fun c=>
 (cmp_isNaN_int y).bind fun b=>
 if c then
 if b then
 some 0
 else
 some (-1)
 else
 if b then
 some 1
 else
 if (a<y:Bool)then
 some (-1)
 else
 if (y<a:Bool)then
 some 1
 else
 some 0
def Im(a:Int):K1:=
 some (!a=a)
def HL(a:Int)(y:Int):QQ:=
 (Im a).bind fun c=>
 (Im y).bind fun b=>
 if c then
 if b then
 some 0
 else
 some (-1)
 else
 if b then
 some 1
 else
 if (a<y:Bool)then
 some (-1)
 else
 if (y<a:Bool)then
 some 1
 else
 some 0
def FH(a:Test)(g:Fp):K1:=
 (EW a.kp g).bind fun b=>
 (EW a.fd g).bind fun c=>
 if ((!b.2.2)||(!c.2.2))then
 some false
 else
 (cmp_Compare_int b.1 c.1).bind fun e=>
 (HL b.2.1 c.2.1).bind fun f=>
 (Li [e,f]).bind fun d=>
 some (a.ns=1&&d<=0||(a.ns=2&&d=0))
def Fm(p:ec)(l:AG)(m:d6):Option (Fp×Int):=
 (IJ p.hV 0).bind fun d=>
 (IJ p.hV false).bind fun e=>
 fq (kl (ρ:=(Fp×Int)) (fun i0(s0:Fp×a6)=>
 (idx p.ff i0).bind fun a=>
 (idx m.d3 a.tl).bind fun f=>
 (idx l.gn f).bind fun g=>
 (idx g a.kq).bind fun b=>
 (if(0<=a.j4.Var:Bool)then((idx s0.2 a.j4.Var).bind fun h=>
 some (!h))else some false).bind fun i=>
 if i then
 (idx s0.1 a.j4.Var).bind fun n=>
 (idx s0.2 a.j4.Var).bind fun o=>
 (Dy a.j4 (BG s0.1 a.j4.Var (Ae (b-a.j4.Add)))).bind fun c=>
 if (!c=b)then
 some (.ret ([],11))
 else
 some (.next (BG s0.1 a.j4.Var (Ae (b-a.j4.Add)),BG s0.2 a.j4.Var true))
 else
 (Dy a.j4 s0.1).bind fun c=>
 if (!c=b)then
 some (.ret ([],11))
 else
 some (.next (s0.1,s0.2))) 0 (p.ff.length:Int) (d,e)) (fun s0=>
 fq (kl (ρ:=(Fp×Int)) (fun i2 _=>
 (idx p.sc i2).bind fun j=>
 (FH j s0.1).bind fun k=>
 if (!k)then
 some (.ret ([],16))
 else
 some (.next ())) 0 (p.sc.length:Int) ()) (fun _=>
 some (s0.1,0)) some) some
def DP[Ev](t:AC)(p:ec)(a:AG)(m:d6):Option (Fp×Int):=
 (DQ t p a).bind fun b=>
 if (!b=0)then
 some ([],b)
 else
 (EF t p.d5 a.d5 m false).bind fun c=>
 if (!c=0)then
 some ([],c)
 else
 (Fm p a m).bind fun d=>
 some (d.1,d.2)
def Gt[Ev](t:AC)(b:hT)(c:AG)(m:AM):QQ:=
 (EF t b.kp.d5 c.d5 m.d6 b.pq).bind fun d=>
 if (!d=0)then
 some 1
 else
 (DP t b.kp c m.d6).bind fun a=>
 if (!a.2=0)then
 some a.2
 else
 (slices_Equal_int a.1 m.hV).bind fun e=>
 if (!e)then
 some 11
 else
 some 0
def DJ(a:List Bf):Option (List Bf):=
 Ah [] a
def D3[Ev](t:AC)(p:d5)(g:d5)(m:d6):Option (d5×Int):=
 (Dg t p g).bind fun a=>
 if (!a=0)then
 some (d5.mk [] [],a)
 else
 (Ex t p g m).bind fun b=>
 if (!b=0)then
 some (d5.mk [] [],b)
 else
 (DJ p.d4).bind fun c=>
 (sr (fun i0(s0:d5)=>
 (idx m.d3 i0).bind fun d=>
 (idx g.d3 d).bind fun e=>
 (Ah s0.d3 [e]).bind fun f=>
 some (d5.mk f s0.d4)) 0 (m.d3.length:Int) (d5.mk [] c)).bind fun s0=>
 some (s0,0)
def CL[Ev](a:Ba):QQ:=
 (Cy a.l a.g a.m).bind fun b=>
 if (!b=0)then
 some b
 else
 (Ds a.l a.jj).bind some
def FD(a:Fp)(b:Fp):Option (List F2):=
 (sr (fun i0(s0:List F2)=>
 (sr (fun i2(s2:List F2)=>
 (idx a i0).bind fun c=>
 (idx a i2).bind fun d=>
 (if(c=d:Bool)then((slices_Contains_int b i0).bind fun e=>
 (if(!e)then some true else((slices_Contains_int b i2).bind fun f=>
 some (!f))).bind some)else some false).bind fun h=>
 if h then
 (Ah s2 [F2.mk i0 i2]).bind some
 else
 some s2) (Ae (i0+1)) (a.length:Int) s0).bind some) 0 (a.length:Int) []).bind some
def DN(a:Ba):Option (List F2×List F2):=
 (FD a.m.d3 a.jj.d3).bind fun b=>
 (FD a.m.d4 a.jj.d4).bind fun c=>
 some (b,c)
def C6(a:Ba):Option Fp:=
 (sr (fun i0(s0:Fp)=>
 (idx a.m.d3 i0).bind fun b=>
 (slices_Contains_int a.jj.d3 i0).bind fun c=>
 if (!c)then
 (Ah s0 [b]).bind some
 else
 some s0) 0 (a.m.d3.length:Int) []).bind some
def Cv(a:Ba):Option Fp:=
 (C6 a).bind fun j=>
 (sr (fun i0(s0:Fp)=>
 (idx a.g.d4 i0).bind fun b=>
 (slices_Contains_int a.m.d4 i0).bind fun c=>
 (if(!c)then((slices_Contains_int j b.ne).bind fun d=>
 (if d then some true else((slices_Contains_int j b.To).bind some)).bind some)else some false).bind fun h=>
 if h then
 (Ah s0 [i0]).bind some
 else
 some s0) 0 (a.g.d4.length:Int) []).bind some
def Fo(n:Int)(a:Fp)(c:Fp):Option Fp:=
 (IJ n false).bind fun d=>
 (sr (fun i0(s0:a6)=>
 (idx a i0).bind fun b=>
 (slices_Contains_int c i0).bind fun e=>
 if (!e)then
 (idx s0 b).bind fun h=>
 some (BG s0 b true)
 else
 some s0) 0 (a.length:Int) d).bind fun s0=>
 (sr (fun i2(s2:Fp)=>
 (idx s0 i2).bind fun f=>
 if (!f)then
 (Ah s2 [i2]).bind some
 else
 some s2) 0 (s0.length:Int) []).bind some
def E3[Ev](l:d5)(g:d5)(a:BB)(m:d6):Option (BB×Int):=
 (CL (Ba.mk l g a m)).bind fun b=>
 if (!b=0)then
 some (BB.mk [] [],b)
 else
 (DN (Ba.mk l g a m)).bind fun c=>
 if (0<(Ae ((c.1.length:Int)+(c.2.length:Int))):Bool)then
 some (BB.mk [] [],15)
 else
 (Cv (Ba.mk l g a m)).bind fun d=>
 if (0<(d.length:Int):Bool)then
 some (BB.mk [] [],14)
 else
 (Fo (g.d3.length:Int) m.d3 a.d3).bind fun e=>
 (Fo (g.d4.length:Int) m.d4 a.d4).bind fun f=>
 some (BB.mk e f,0)
def D0[Ev](t:AC)(p:ec)(c:d7)(d:AG)(m:AM)(a:Bool):QQ:=
 (Cf t p c).bind fun e=>
 if (!e=0)then
 some e
 else
 (Et t d).bind fun f=>
 if (!f.2=0)then
 some f.2
 else
 (EF t p.d5 d.d5 m.d6 a).bind fun g=>
 if (!g=0)then
 some g
 else
 (DP t p d m.d6).bind fun b=>
 if (!b.2=0)then
 some b.2
 else
 (slices_Equal_int b.1 m.hV).bind fun h=>
 if (!h)then
 some 11
 else
 some 0
def Dx(l:Fp)(n:Int):Option Fp:=if l.length=1/\0<=n/\n<=4096 then some (List.replicate n.toNat (l.headD 0))else none
def FE(n:Int)(e:Fp)(a:Fp):Option Fp:=
 (Dx [(-1)] n).bind fun c=>
 (sr (fun i0(s0:Fp)=>
 (idx e i0).bind fun b=>
 (idx a i0).bind fun d=>
 (idx s0 b).bind fun f=>
 some (BG s0 b d)) 0 (e.length:Int) c).bind some
def J3(l:Option Fp)(i:Int):QQ:=match l with
 |none=>some (-1)|some l=>(TL l).bind fun _=>(idx l i).bind some
def DV(f:AI)(c:Int)(k:Int):K1:=
 (idx f.p.d4 c).bind fun a=>
 (J3 f.gp.d4 c).bind fun b=>
 if (0<=b&&(!b=k))then
 some false
 else
 (idx f.g.d4 k).bind fun d=>
 (idx f.ei a.ne).bind fun e=>
 (idx f.ei a.To).bind fun h=>
 some (decide (d=(Bf.mk a.mo e h)))
def B2(f:AI):K1:=
 fq (kl (ρ:=Bool) (fun i0 _=>
 (idx f.p.d4 i0).bind fun a=>
 if (!(max a.ne a.To)=(Ae ((f.ei.length:Int)-1)))then
 some (.next ())
 else
 fq (kl (ρ:=Bool) (fun i2(s2:Bool)=>
 (DV f i0 i2).bind fun b=>
 if b then
 some (.brk true)
 else
 some (.next s2)) 0 (f.g.d4.length:Int) false) (fun s2=>
 if (!s2)then
 some (.ret false)
 else
 some (.next ())) (fun v2=>some (.ret v2))) 0 (f.p.d4.length:Int) ()) (fun _=>
 some true) some
def Aw[Ev]:Nat->AI->Option AI
 |0,_=>none|n+1,f=>
  (if((f.out.length:Int)=f.up:Bool)then
  some f
  else
  if ((f.ei.length:Int)<(f.p.d3.length:Int):Bool)then
  (sr (fun i1(s1:AI)=>
  (idx f.g.d3 i1).bind fun u=>
  (J3 s1.gp.d3 (f.ei.length:Int)).bind fun e=>
  (if(0<=e&&(!e=i1))then some true else((idx s1.p.d3 (f.ei.length:Int)).bind fun v=>
  (idx s1.is v).bind fun w=>
  (idx w u).bind fun x=>
  some (!x))).bind fun h=>
  (if h then some true else((if s1.ej then((slices_Contains_int s1.ei i1).bind some)else some false).bind some)).bind fun k=>
  if k then
  some s1
  else
  (Ah s1.ei [i1]).bind fun c=>
  (B2 (AI.mk s1.p s1.g s1.is s1.gp s1.ej s1.up c s1.em s1.out)).bind fun l=>
  if l then
  (Aw n (AI.mk s1.p s1.g s1.is s1.gp s1.ej s1.up c s1.em s1.out)).bind fun a=>
  (slc a.ei 0 (f.ei.length:Int)).bind fun d=>
  some (AI.mk a.p a.g a.is a.gp a.ej a.up d a.em a.out)
  else
  (slc c 0 (f.ei.length:Int)).bind fun d=>
  some (AI.mk s1.p s1.g s1.is s1.gp s1.ej s1.up d s1.em s1.out)) 0 (f.g.d3.length:Int) f).bind some
  else
  if ((f.em.length:Int)<(f.p.d4.length:Int):Bool)then
  (sr (fun i3(s3:AI)=>
  (DV s3 (f.em.length:Int) i3).bind fun m=>
  (if(!m)then some true else((if s3.ej then((slices_Contains_int s3.em i3).bind some)else some false).bind some)).bind fun r=>
  if r then
  some s3
  else
  (Ah s3.em [i3]).bind fun s=>
  (Aw n (AI.mk s3.p s3.g s3.is s3.gp s3.ej s3.up s3.ei s s3.out)).bind fun b=>
  (slc b.em 0 (f.em.length:Int)).bind fun t=>
  some (AI.mk b.p b.g b.is b.gp b.ej b.up b.ei t b.out)) 0 (f.g.d4.length:Int) f).bind some
  else
  (slices_Clone_int f.ei).bind fun y=>
  (slices_Clone_int f.em).bind fun z=>
  (Ah f.out [d6.mk y z]).bind fun A=>
  some (AI.mk f.p f.g f.is f.gp f.ej f.up f.ei f.em A)).bind some
def ER[Ev](f:AI):Option AI:=Jb fun n=>Aw n f
def Fe[Ev](t:AC)(p:d5)(g:d5)(b:Mb)(a:Bool)(c:Int):Option (List d6):=
 (Ew t).bind fun d=>
 (ER (AI.mk p g d b a c [] [] [])).bind fun e=>
 some e.out
def Hf[Ev](t:AC)(p:d5)(g:d5)(b:Mb)(a:Bool):Option (List d6×Int):=
 (Fe t p g b a 5001).bind fun c=>
 if (5000<(c.length:Int):Bool)then
 some ([],3)
 else
 some (c,0)
def K7(k:Int)(a:Int):K1:=
 some (k<(-1)||a<=k)
def FU[Ev](l:Fp)(n:Int):QQ:=
 (Ak l (fun y0=>K7 y0 n)).bind fun a=>
 if a then
 some 6
 else
 some 0
def E9[Ev](t:AC)(p:d5)(g:d5)(a:d6)(b:Bool):Option (List d6×Int):=
 (Dg t p g).bind fun c=>
 if (!c=0)then
 some ([],c)
 else
 if ((!(a.d3.length:Int)=(p.d3.length:Int))||(!(a.d4.length:Int)=(p.d4.length:Int)))then
 some ([],20)
 else
 (FU a.d3 (g.d3.length:Int)).bind fun d=>
 if (!d=0)then
 some ([],d)
 else
 (FU a.d4 (g.d4.length:Int)).bind fun e=>
 if (!e=0)then
 some ([],e)
 else
 (Hf t p g a b).bind fun f=>
 some (f.1,f.2)
def ES(a:j4)(d:Fp):Option (Int×Int):=
 (CP a.Var (-1) (Ae ((d.length:Int)-1))).bind fun b=>
 if (!b)then
 some (0,6)
 else
 (Dy a d).bind fun c=>
 some (c,0)
def Da(p:Al)(q:ec)(m:d6)(b:Fp):Option (Fp×Bool):=
 (slices_Clone_int b).bind fun g=>
 (TA g (Ae (q.hV-(b.length:Int))) 0).bind fun i=>
 (IJ q.hV false).bind fun j=>
 (sr (fun i0(s0:a6)=>
 (idx s0 i0).bind fun r=>
 some (BG s0 i0 true)) 0 (b.length:Int) j).bind fun s0=>
 fq (kl (ρ:=(Fp×Bool)) (fun i2(s2:Fp×a6)=>
 (idx q.ff i2).bind fun a=>
 (idx m.d3 a.tl).bind fun k=>
 (idx p.h.gn k).bind fun l=>
 (idx l a.kq).bind fun d=>
 (if(0<=a.j4.Var:Bool)then((idx s2.2 a.j4.Var).bind fun n=>
 some (!n))else some false).bind fun o=>
 if o then
 (idx s2.1 a.j4.Var).bind fun s=>
 (idx s2.2 a.j4.Var).bind fun t=>
 (ES a.j4 (BG s2.1 a.j4.Var (Ae (d-a.j4.Add)))).bind fun c=>
 if ((!c.2=0)||(!c.1=d))then
 some (.ret ([],false))
 else
 some (.next (BG s2.1 a.j4.Var (Ae (d-a.j4.Add)),BG s2.2 a.j4.Var true))
 else
 (ES a.j4 s2.1).bind fun c=>
 if ((!c.2=0)||(!c.1=d))then
 some (.ret ([],false))
 else
 some (.next (s2.1,s2.2))) 0 (q.ff.length:Int) (i,s0)) (fun s2=>
 fq (kl (ρ:=(Fp×Bool)) (fun i4 _=>
 (idx q.sc i4).bind fun e=>
 (FH e s2.1).bind fun f=>
 if (!f)then
 some (.ret ([],false))
 else
 some (.next ())) 0 (q.sc.length:Int) ()) (fun _=>
 some (s2.1,true)) some) some
def Bm[Ev](b:Al)(c:d7)(m:AM):Option (List AM×Int):=
 (FE (c.ec.d5.d3.length:Int) c.Map.d3 m.d6.d3).bind fun f=>
 (FE (c.ec.d5.d4.length:Int) c.Map.d4 m.d6.d4).bind fun g=>
 (E9 b.t c.ec.d5 b.h.d5 (d6.mk f g) b.ej).bind fun a=>
 if (!a.2=0)then
 some ([],a.2)
 else
 (sr (fun i0(s0:List AM)=>
 (idx a.1 i0).bind fun d=>
 (Da b c.ec d m.hV).bind fun e=>
 if e.2 then
 (Ah s0 [AM.mk d e.1]).bind some
 else
 some s0) 0 (a.1.length:Int) []).bind fun s0=>
 some (s0,0)
mutual
def Ai[Ev]:Nat->Al->d7->AM->Option (Az×Int)
 |0,_,_,_=>none|n+1,b,c,m=>
  if (c.ns=2:Bool)then
  (idx c.gt 0).bind fun g=>
  (Ai n b g m).bind fun e=>
  if (e.2=0:Bool)then
  some (C1,10)
  else
  if (e.2=10:Bool)then
  some (C1,0)
  else
  some (C1,e.2)
  else
  if (c.ns=3:Bool)then
  fq (kl (ρ:=(Az×Int)) (fun i2(s2:Az×Az)=>
  (idx c.gt i2).bind fun h=>
  (Ai n b h m).bind fun f=>
  if (!f.2=0)then
  some (.ret (C1,f.2))
  else
  (Ah s2.2.gt [f.1]).bind fun i=>
  some (.next (s2.1,Az.mk s2.2.AaC s2.2.pc i))) 0 (c.gt.length:Int) (C1,C1)) (fun s2=>
  some (s2.2,0)) some
  else
  if (c.ns=4:Bool)then
  fq (kl (ρ:=(Az×Int)) (fun i4(s4:Az)=>
  (idx c.gt i4).bind fun j=>
  (Ai n b j m).bind fun a=>
  if (a.2=0:Bool)then
  some (.ret (Az.mk i4 (AM.mk (d6.mk [] []) []) [a.1],0))
  else
  if (!a.2=10)then
  some (.ret (C1,a.2))
  else
  some (.next s4)) 0 (c.gt.length:Int) C1) (fun s4=>
  some (C1,10)) some
  else
  if (c.ns=5:Bool)then
  (BE n b c m).bind fun d=>
  some (d.1,d.2)
  else
  some (C1,0)
def BE[Ev]:Nat->Al->d7->AM->Option (Az×Int)
 |0,_,_,_=>none|n+1,e,c,m=>
  (Bm e c m).bind fun a=>
  if (!a.2=0)then
  some (C1,a.2)
  else
  fq (kl (ρ:=(Az×Int)) (fun i0(s0:Az)=>
  (idx a.1 i0).bind fun d=>
  (idx c.gt 0).bind fun f=>
  (Ai n e f d).bind fun b=>
  if (b.2=0:Bool)then
  some (.ret (Az.mk 0 d [b.1],0))
  else
  if (!b.2=10)then
  some (.ret (C1,b.2))
  else
  some (.next s0)) 0 (a.1.length:Int) C1) (fun s0=>
  some (C1,10)) some
end
def DO[Ev](a:Al)(c:d7)(m:AM):Option (Az×Int):=Jb fun n=>Ai n a c m
def Np[Ev](a:Al)(c:d7)(m:AM):Option (Az×Int):=Jb fun n=>BE n a c m
def DG[Ev](t:AC)(p:ec)(c:d7)(e:AG)(m:AM)(a:Bool):Option (Az×Int):=
 (D0 t p c e m a).bind fun b=>
 if (!b=0)then
 some (C1,b)
 else
 (DO (Al.mk t e a) c m).bind fun d=>
 some (d.1,d.2)
def Cr[Ev](t:AC)(p:ec)(c:d7)(d:AG)(m:AM)(a:Bool):Option (Bool×Int):=
 (DG t p c d m a).bind fun b=>
 if (b.2=10:Bool)then
 some (false,0)
 else
 some (decide (b.2=0),b.2)
def IU(m:AM):Option AM:=
 (slices_Clone_int m.d6.d3).bind fun c=>
 (slices_Clone_int m.d6.d4).bind fun a=>
 (slices_Clone_int m.hV).bind fun b=>
 some (AM.mk (d6.mk c a) b)
def I6(a:AG):Option AG:=
 (slices_Clone_int a.d5.d3).bind fun f=>
 (DJ a.d5.d4).bind fun b=>
 (sr (fun i0(s0:AG)=>
 (idx a.gn i0).bind fun c=>
 (Ah [] c).bind fun d=>
 (Ah s0.gn [d]).bind fun e=>
 some (AG.mk s0.d5 e)) 0 (a.gn.length:Int) (AG.mk (d5.mk f b) [])).bind some
def KN(n:Int)(l:Fp):Option Fp:=
 (IJ n 0).bind fun a=>
 (sr (fun i0(s0:Fp)=>
 (slices_BinarySearch_int l i0).bind fun b=>
 if (!b.2)then
 (idx s0 i0).bind fun c=>
 some (BG s0 i0 (-1))
 else
 (idx s0 i0).bind fun c=>
 some (BG s0 i0 b.1)) 0 (a.length:Int) a).bind some
def Ff(c:Int)(f:Fp)(b:Fp)(a:Fp)(d:Fp)(n:Int):Option Fp:=
 (Dx [(-1)] c).bind fun g=>
 (sr (fun i0(s0:Fp)=>
 (idx b i0).bind fun e=>
 (idx f i0).bind fun h=>
 (idx a h).bind fun i=>
 (idx d i).bind fun j=>
 (idx s0 e).bind fun l=>
 some (BG s0 e j)) 0 (b.length:Int) g).bind fun s0=>
 (sr (fun i2(s2:Int×Fp)=>
 (idx s2.2 i2).bind fun k=>
 if (k<0:Bool)then
 (idx s2.2 i2).bind fun m=>
 some (Ae (s2.1+1),BG s2.2 i2 s2.1)
 else
 some (s2.1,s2.2)) 0 (s0.length:Int) (n,s0)).bind fun s2=>
 some s2.2
def Hj[Ev](t:AC)(b:Int):Option Fp:=
 (Dl t b).bind fun a=>
 (sr (fun i0(s0:Fp)=>
 (idx a.1 i0).bind fun c=>
 (Ah s0 [c.Low]).bind some) 0 (a.1.length:Int) []).bind some
def GO[Ev](t:AC)(a:Ar)(d:BB):Option Ar:=
 (sr (fun i0(s0:Ar)=>
 (idx d.d3 i0).bind fun f=>
 (idx a.Aat.d5.d3 f).bind fun r=>
 (Ah s0.tn.d5.d3 [r]).bind fun s=>
 (idx a.Aat.gn f).bind fun u=>
 (Ah [] u).bind fun v=>
 (Ah s0.tn.gn [v]).bind fun w=>
 some (Ar.mk s0.hT s0.pc s0.Aat (AG.mk (d5.mk s s0.tn.d5.d4) w) s0.Aan s0.Aal)) 0 (d.d3.length:Int) a).bind fun s0=>
 (sr (fun i2(s2:Ar)=>
 (idx d.d4 i2).bind fun x=>
 (idx a.Aat.d5.d4 x).bind fun e=>
 (idx s2.Aan.d3 e.ne).bind fun g=>
 (idx s2.Aan.d3 e.To).bind fun h=>
 (Ah s2.tn.d5.d4 [Bf.mk e.mo g h]).bind fun i=>
 some (Ar.mk s2.hT s2.pc s2.Aat (AG.mk (d5.mk s2.tn.d5.d3 i) s2.tn.gn) s2.Aan s2.Aal)) 0 (d.d4.length:Int) s0).bind fun s2=>
 (sr (fun i4(s4:Ar)=>
 (idx a.hT.fd.d5.d3 i4).bind fun c=>
 (idx s4.Aal.d3 i4).bind fun j=>
 if (j=(s4.tn.d5.d3.length:Int):Bool)then
 (Ah s4.tn.d5.d3 [c]).bind fun k=>
 (Hj t c).bind fun l=>
 (Ah s4.tn.gn [l]).bind fun m=>
 some (Ar.mk s4.hT s4.pc s4.Aat (AG.mk (d5.mk k s4.tn.d5.d4) m) s4.Aan s4.Aal)
 else
 some s4) 0 (a.hT.fd.d5.d3.length:Int) s2).bind fun s4=>
 (sr (fun i6(s6:Ar)=>
 (idx a.hT.fd.d5.d4 i6).bind fun b=>
 (idx s6.Aal.d4 i6).bind fun n=>
 if (n=(s6.tn.d5.d4.length:Int):Bool)then
 (idx s6.Aal.d3 b.ne).bind fun o=>
 (idx s6.Aal.d3 b.To).bind fun p=>
 (Ah s6.tn.d5.d4 [Bf.mk b.mo o p]).bind fun q=>
 some (Ar.mk s6.hT s6.pc s6.Aat (AG.mk (d5.mk s6.tn.d5.d3 q) s6.tn.gn) s6.Aan s6.Aal)
 else
 some s6) 0 (a.hT.fd.d5.d4.length:Int) s4).bind some
def ZB(s:Ar):TV:=.agg ((DE s).map (·.t))
def G9(s:Ar):Option (BD×Int):=
 fq (kl (ρ:=(BD×Int)) (fun i0(s0:BD)=>
 (idx s.hT.fd.ff i0).bind fun a=>
 (ES a.j4 s.pc.hV).bind fun b=>
 if (!b.2=0)then
 some (.ret ([],b.2))
 else
 (idx s.Aal.d3 a.tl).bind fun c=>
 if ((s0.look (c,a.kq)).isSome&&(!(s0.look (c,a.kq)).getD 0=b.1))then
 some (.ret ([],11))
 else
 some (.next (s0.set (c,a.kq) b.1))) 0 (s.hT.fd.ff.length:Int) []) (fun s0=>some (s0,0)) some
def MP(s:Ar)(V:List Fp):Ar:=Ar.mk s.hT s.pc s.Aat (AG.mk s.tn.d5 V) s.Aan s.Aal
def Lt[Ev](t:AC)(s:Ar)(V:List Fp)(p:(Int×Int)×Int):Option (Bp (List Fp) Unit):=
 (idx s.tn.d5.d3 p.1.1).bind fun c=>
 (Dl t c).bind fun a=>
 (idx a.1 p.1.2).bind fun d=>
 (if(p.2<d.Low:Bool)then some true else((idx a.1 p.1.2).bind fun e=>
 some (decide (e.AaE<p.2)))).bind fun f=>
 if f then
 some (.ret ())
 else
 (idx V p.1.1).bind fun b=>
 (idx b p.1.2).bind fun g=>
 some (.next (BG V p.1.1 (BG b p.1.2 p.2)))
def Lu[Ev](t:AC)(s:Ar)(p:(Int×Int)×Int):K1:=
 (Lt t s s.tn.gn p).bind fun c=>match c with|.next _=>some true|.ret _=>some false|.brk _=>none
def If[Ev](t:AC)(s:Ar):Option (Int×Ar):=
 (G9 s).bind fun a=>
 if (!a.2=0)then
 some (a.2,s)
 else
 if decide (List.Pairwise (fun x y:(Int×Int)×Int=>x.1≠y.1) a.1)then
 (AaS (Lu t s) a.1).bind fun c=>
 if c then
 some (0,MP s (a.1.foldl CR s.tn.gn))
 else
 some (6,s)
 else
 none
def Hh[Ev](t:AC)(a:hT)(d:AG)(m:AM):Option (Ar×Int):=
 (Gt t a d m).bind fun g=>
 if (!g=0)then
 some (Hp,g)
 else
 (D3 t a.kp.d5 d.d5 m.d6).bind fun e=>
 if (!e.2=0)then
 some (Hp,e.2)
 else
 (E3 e.1 d.d5 a.x4 m.d6).bind fun c=>
 if (!c.2=0)then
 some (Hp,c.2)
 else
 (Cr t a.kp a.d7 d m a.pq).bind fun f=>
 if (!f.2=0)then
 some (Hp,f.2)
 else
 if (!f.1)then
 some (Hp,16)
 else
 (IU m).bind fun n=>
 (I6 d).bind fun o=>
 (KN (d.d5.d3.length:Int) c.1.d3).bind fun h=>
 (KN (d.d5.d4.length:Int) c.1.d4).bind fun i=>
 (Ff (a.fd.d5.d3.length:Int) a.x4.d3 a.sx.d3 m.d6.d3 h (c.1.d3.length:Int)).bind fun j=>
 (Ff (a.fd.d5.d4.length:Int) a.x4.d4 a.sx.d4 m.d6.d4 i (c.1.d4.length:Int)).bind fun k=>
 (GO t (Ar.mk a n o (AG.mk (d5.mk [] []) []) (d6.mk h i) (d6.mk j k)) c.1).bind fun l=>
 (If t l).bind fun b=>
 if (!b.1=0)then
 some (Hp,b.1)
 else
 if (40<(b.2.tn.d5.d3.length:Int)||80<(b.2.tn.d5.d4.length:Int))then
 some (Hp,3)
 else
 some (b.2,0)
def Hg[Ev](t:AC)(c:hT)(d:AG)(m:AM):Option (Ar×Int):=
 (Hi t c d).bind fun a=>
 if (!a=0)then
 some (Hp,a)
 else
 (Hh t c d m).bind fun b=>
 some (b.1,b.2)
def C8[Ev](t:AC)(a:List hT)(d:AG)(m:C4):Option (Ar×Int):=
 if (m.hT<0||(a.length:Int)<=m.hT)then
 some (Hp,6)
 else
 (idx a m.hT).bind fun c=>
 (Hg t c d m.pc).bind fun b=>
 some (b.1,b.2)
def DI[Ev](t:AC)(a:List hT)(d:AY):Option (List Ar×Int×Int):=
 (C9 t a d.o3).bind fun c=>
 if (!c=0)then
 some ([],0,c)
 else
 if (30<(d.kg.length:Int):Bool)then
 some ([],0,3)
 else
 fq (kl (ρ:=(List Ar×Int×Int)) (fun i0(s0:List Ar×AG)=>
 (idx d.kg i0).bind fun e=>
 (C8 t a s0.2 e).bind fun b=>
 if (!b.2=0)then
 some (.ret ([],i0,b.2))
 else
 (Ah s0.1 [b.1]).bind fun f=>
 some (.next (f,b.1.tn))) 0 (d.kg.length:Int) ([],d.o3)) (fun s0=>
 some (s0.1,(s0.1.length:Int),0)) some
def FJ(n:Int):Option Fp:=
 (IJ n 0).bind fun a=>
 (sr (fun i0(s0:Fp)=>
 (idx s0 i0).bind fun b=>
 some (BG s0 i0 i0)) 0 (a.length:Int) a).bind some
def Dw[Ev](g:d5):Option (d6×Int):=
 (CW g).bind fun c=>
 if (!c=0)then
 some (d6.mk [] [],c)
 else
 (FJ (g.d3.length:Int)).bind fun a=>
 (FJ (g.d4.length:Int)).bind fun b=>
 some (d6.mk a b,0)
def Cs[Ev](g:d5):Option d6:=
 (Dw g).bind fun a=>
 some a.1
def FG(l:Fp)(c:Fp):Option Fp:=
 (slices_Clone_int l).bind fun d=>
 (sr (fun i0(s0:Fp)=>
 (idx s0 i0).bind fun a=>
 if (0<=a:Bool)then
 (idx c a).bind fun b=>
 (idx s0 i0).bind fun e=>
 some (BG s0 i0 b)
 else
 some s0) 0 (d.length:Int) d).bind some
def E2(a:AG):Option AG:=
 (slices_Clone_int a.d5.d3).bind fun f=>
 (DJ a.d5.d4).bind fun b=>
 (sr (fun i0(s0:AG)=>
 (idx a.gn i0).bind fun c=>
 (slices_Clone_int c).bind fun d=>
 (Ah s0.gn [d]).bind fun e=>
 some (AG.mk s0.d5 e)) 0 (a.gn.length:Int) (AG.mk (d5.mk f b) [])).bind some
def C7[Ev](t:AC)(c:List hT)(d:AY):Option (AG×d6×Int):=
 (DI t c d).bind fun a=>
 if (!a.2.2=0)then
 some (AG.mk (d5.mk [] []) [],d6.mk [] [],a.2.2)
 else
 (Cs d.o3.d5).bind fun e=>
 (sr (fun i0(s0:AG×d6)=>
 (idx a.1 i0).bind fun b=>
 (FG s0.2.d3 b.Aan.d3).bind fun f=>
 (FG s0.2.d4 b.Aan.d4).bind fun g=>
 some (b.tn,d6.mk f g)) 0 (a.1.length:Int) (d.o3,e)).bind fun s0=>
 (E2 s0.1).bind fun h=>
 some (h,s0.2,0)
def KM[Ev](t:AC)(p:d5)(g:d5)(a:Bool):Option (List d6×Int):=
 (Dg t p g).bind fun b=>
 if (!b=0)then
 some ([],b)
 else
 (Hf t p g (Mb.mk none none) a).bind fun c=>
 some (c.1,c.2)
def E0[Ev](t:AC)(p:ec)(c:AG)(a:Bool):Option (List AM×Int):=
 (DQ t p c).bind fun d=>
 if (!d=0)then
 some ([],d)
 else
 (KM t p.d5 c.d5 a).bind fun b=>
 if (!b.2=0)then
 some ([],b.2)
 else
 (sr (fun i0(s0:List AM)=>
 (idx b.1 i0).bind fun e=>
 (Fm p c e).bind fun f=>
 if (f.2=0:Bool)then
 (Ah s0 [AM.mk e f.1]).bind some
 else
 some s0) 0 (b.1.length:Int) []).bind fun s0=>
 some (s0,0)
def Fy[Ev](t:AC)(b:hT)(c:AG):Option (List AM×Int):=
 (Hi t b c).bind fun d=>
 if (!d=0)then
 some ([],d)
 else
 (E0 t b.kp c b.pq).bind fun a=>
 if (!a.2=0)then
 some ([],a.2)
 else
 (sr (fun i0(s0:List AM)=>
 (idx a.1 i0).bind fun e=>
 (Hh t b c e).bind fun f=>
 if (f.2=0:Bool)then
 (Ah s0 [e]).bind some
 else
 some s0) 0 (a.1.length:Int) []).bind fun s0=>
 some (s0,0)
def D6[Ev](t:AC)(a:List hT)(f:AG):Option (List C4×Int):=
 fq (kl (ρ:=(List C4×Int)) (fun i0(s0:List C4)=>
 (idx a i0).bind fun c=>
 (Fy t c f).bind fun b=>
 if (!b.2=0)then
 some (.ret ([],b.2))
 else
 (sr (fun i2(s2:List C4)=>
 (idx b.1 i2).bind fun d=>
 (Ah s2 [C4.mk i0 d]).bind some) 0 (b.1.length:Int) s0).bind fun s2=>
 some (.next s2)) 0 (a.length:Int) []) (fun s0=>
 some (s0,0)) some
def E1[Ev](t:AC)(c:List hT)(e:AG)(a:Fp):Option (AY×Int):=
 (C9 t c e).bind fun f=>
 if (!f=0)then
 some (YY,f)
 else
 if (30<(a.length:Int):Bool)then
 some (YY,3)
 else
 (E2 e).bind fun h=>
 fq (kl (ρ:=(AY×Int)) (fun i0(s0:AG×AY×AY)=>
 (idx a i0).bind fun i=>
 (D6 t c s0.1).bind fun b=>
 if (!b.2=0)then
 some (.ret (YY,b.2))
 else
 if ((b.1.length:Int)=0:Bool)then
 some (.brk (s0.1,s0.2.1,s0.2.2))
 else
 (Zh i (b.1.length:Int)).bind fun j=>
 (Zh (Ae (j+(b.1.length:Int))) (b.1.length:Int)).bind fun k=>
 (idx b.1 k).bind fun g=>
 (C8 t c s0.1 g).bind fun d=>
 if (!d.2=0)then
 some (.ret (YY,d.2))
 else
 (Ah s0.2.2.kg [g]).bind fun l=>
 some (.next (d.1.tn,s0.2.1,AY.mk s0.2.2.o3 l))) 0 (a.length:Int) (e,YY,AY.mk h [])) (fun s0=>
 some (s0.2.2,0)) some
def Nu:Option AC:=
 some (AC.mk [Bz.mk (⟨#[65,99,99,111,117,110,116]⟩:ByteArray) (-1) true [kq.mk (⟨#[98,97,108,97,110,99,101]⟩:ByteArray) (-1000) 1000 []],Bz.mk (⟨#[67,97,115,104]⟩:ByteArray) 0 false [],Bz.mk (⟨#[76,111,97,110]⟩:ByteArray) 0 false [kq.mk (⟨#[115,116,97,116,101]⟩:ByteArray) 0 1 [(⟨#[111,112,101,110]⟩:ByteArray),(⟨#[99,108,111,115,101,100]⟩:ByteArray)]],Bz.mk (⟨#[80,101,114,115,111,110]⟩:ByteArray) (-1) false []] [B9.mk (⟨#[111,119,110,115]⟩:ByteArray) 3 0 0 (-1) 1 1,B9.mk (⟨#[112,97,121,115]⟩:ByteArray) 1 1 0 (-1) 0 (-1)])
def GH(n:Int)(a:Int):K1:=
 some (n<a||999999999<n)
def Cg[Ev](l:Fp)(a:Int):K1:=
 (Ak l (fun y0=>GH y0 a)).bind some
def strconv_Itoa(i:Int):Option ByteArray:=if 0<=i/\i<100 then some (aR i.toNat)else none
def Dc(l:Fp):Option ByteArray:=
 (sr (fun i0(s0:ByteArray)=>
 (idx l i0).bind fun a=>
 if (a<0:Bool)then
 (strconv_Itoa (Ae (-a))).bind fun b=>
 (Mt (⟨#[32,45,32]⟩:ByteArray) b).bind fun c=>
 (Mt s0 c).bind some
 else
 (strconv_Itoa a).bind fun e=>
 (Mt (⟨#[32]⟩:ByteArray) e).bind fun f=>
 (Mt s0 f).bind some) 0 (l.length:Int) (⟨#[40]⟩:ByteArray)).bind fun s0=>
 (Mt s0 (⟨#[32,41]⟩:ByteArray)).bind some
def NX(m:C4):Option ByteArray:=
 if m.pc.d6.d3=[]/\m.pc.d6.d4=[]/\m.pc.hV=[]then
  (strconv_Itoa m.hT).bind fun s=>(Dc []).bind fun t=>
  let o:ByteArray:=((((((((⟨#[109,111,118,101,32]⟩:ByteArray)++s)++(⟨#[32]⟩:ByteArray))++t)++(⟨#[32]⟩:ByteArray))++t)++(⟨#[32]⟩:ByteArray))++t)++(⟨#[32,59,10]⟩:ByteArray)
  if o.size<=1000 then some o else none
 else none
def DT(r:List C4)(l:List UInt8):Option (List UInt8):=
 r.foldl (fun a m=>a.bind fun l=>(NX m).bind fun o=>some (l++o.data.toList)) (some l)
def H5(d:AY):Option (ByteArray×Int):=
 if d.kg.length<=30/\d.kg≠[]then(DT d.kg []).map fun l=>(⟨l.toArray⟩,0)else none
def EB[Ev]:K1:=
 (Nu).bind fun b=>
 (E1 b [hT.mk (⟨#[98,105,114,116,104]⟩:ByteArray) (ec.mk (d5.mk [] []) [] 0 []) (ec.mk (d5.mk [3] []) [] 0 []) (BB.mk [] []) (d6.mk [] []) false (d7.mk 1 [] (d6.mk [] []) (ec.mk (d5.mk [] []) [] 0 []))] (AG.mk (d5.mk [] []) []) [0,7]).bind fun a=>
 (C7 b [hT.mk (⟨#[98,105,114,116,104]⟩:ByteArray) (ec.mk (d5.mk [] []) [] 0 []) (ec.mk (d5.mk [3] []) [] 0 []) (BB.mk [] []) (d6.mk [] []) false (d7.mk 1 [] (d6.mk [] []) (ec.mk (d5.mk [] []) [] 0 []))] a.1).bind fun c=>
 (H5 a.1).bind fun d=>
 (if((a.2=0&&(a.1.kg.length:Int)=2)&&c.2.2=0)then((slices_Equal_int c.1.d5.d3 [3,3]).bind some)else some false).bind fun f=>
 some ((f&&d.2=0)&&(d.1==(⟨#[109,111,118,101,32,48,32,40,32,41,32,40,32,41,32,40,32,41,32,59,10,109,111,118,101,32,48,32,40,32,41,32,40,32,41,32,40,32,41,32,59,10]⟩:ByteArray)))
def HZ(g:d5):K1:=
 some ((g.d3.length:Int)<=45&&(g.d4.length:Int)<=90)
def GU(a:AG):K1:=
 (HZ a.d5).bind fun c=>
 if ((!c)||45<(a.gn.length:Int))then
 some false
 else
 fq (kl (ρ:=Bool) (fun i0 _=>
 (idx a.gn i0).bind fun b=>
 if (12<(b.length:Int):Bool)then
 some (.ret false)
 else
 some (.next ())) 0 (a.gn.length:Int) ()) (fun _=>
 some true) some
def Fa[Ev]:Nat->AC->Int->Option (List kq)
 |0,_,_=>none|n+1,t,a=>
  if (a<0:Bool)then
  some []
  else
  (idx t.d3 a).bind fun b=>
  (Fa n t b.Aad).bind fun c=>
  (Ah [] c).bind fun d=>
  (idx t.d3 a).bind fun e=>
  (Ah d e.x3).bind some
def M7[Ev](t:AC)(a:Int):Option (List kq):=Jb fun n=>Fa n t a
def DM(n:Int)(b:Int)(a:Int):K1:=
 some (b<=n&&n<=a)
def OB(t:EG):Option ByteArray:=
 if (t.ns=3:Bool)then
 (Mt (⟨#[34]⟩:ByteArray) t.AbV).bind fun a=>
 (Mt a (⟨#[34]⟩:ByteArray)).bind some
 else
 some t.AbV
def Jq(c:Int):K1:=
 some (97<=c&&c<=122||(65<=c&&c<=90))
def Hu(c:Int):K1:=
 some (48<=c&&c<=57)
def Nc[Ev](a:ByteArray)(c:Int)(b:Bool):QQ:=
 fq (EO (ρ:=Int) (fun(s0:Int)=>
 (if((Ae (c+s0))<(a.size:Int):Bool)then((AaD a (Ae (c+s0))).bind fun d=>
 (Hu d).bind fun e=>
 (if e then some true else((if(!b)then((AaD a (Ae (c+s0))).bind fun f=>
 (Jq f).bind fun g=>
 (if g then some true else((AaD a (Ae (c+s0))).bind fun h=>
 some (decide (h=95)))).bind some)else some false).bind some)).bind some)else some false).bind fun l=>
 if l then
 some (.next (Ae (s0+1)))
 else
 some (.brk s0)) 0) some some
def Jr[Ev](b:ByteArray)(c:Int):QQ:=
 fq (EO (ρ:=Int) (fun(s0:Int)=>
 if ((Ae (c+s0))<(b.size:Int):Bool)then
 (AaD b (Ae (c+s0))).bind fun a=>
 if (a=34:Bool)then
 some (.ret (Ae (s0+1)))
 else
 if (a<32||126<a)then
 some (.ret 0)
 else
 some (.next (Ae (s0+1)))
 else
 some (.brk s0)) 1) (fun s0=>
 some 0) some
def M6:Option (List ByteArray):=
 some [(⟨#[45,62]⟩:ByteArray),(⟨#[60,61]⟩:ByteArray),(⟨#[62,61]⟩:ByteArray),(⟨#[61,61]⟩:ByteArray),(⟨#[33,61]⟩:ByteArray),(⟨#[123]⟩:ByteArray),(⟨#[125]⟩:ByteArray),(⟨#[40]⟩:ByteArray),(⟨#[41]⟩:ByteArray),(⟨#[91]⟩:ByteArray),(⟨#[93]⟩:ByteArray),(⟨#[44]⟩:ByteArray),(⟨#[59]⟩:ByteArray),(⟨#[58]⟩:ByteArray),(⟨#[61]⟩:ByteArray),(⟨#[43]⟩:ByteArray),(⟨#[45]⟩:ByteArray),(⟨#[42]⟩:ByteArray),(⟨#[60]⟩:ByteArray),(⟨#[62]⟩:ByteArray),(⟨#[33]⟩:ByteArray),(⟨#[38]⟩:ByteArray),(⟨#[124]⟩:ByteArray),(⟨#[46]⟩:ByteArray),(⟨#[63]⟩:ByteArray)]
def Nb[Ev](a:ByteArray)(d:Int):Option (EG×Int×Int):=
 (AaD a d).bind fun c=>
 (Jq c).bind fun i=>
 (if i then some true else((Hu c).bind some)).bind fun k=>
 if k then
 (Hu c).bind fun l=>
 (Nc a d l).bind fun f=>
 (Hu c).bind fun m=>
 (if m then
 some (2,9)
 else
 some (1,20)).bind fun w1=>
 if (w1.2<f:Bool)then
 some (EG.mk 0 (⟨#[]⟩:ByteArray) 0,0,3)
 else
 (AaJ a d (Ae (d+f))).bind fun n=>
 some (EG.mk w1.1 n 0,f,0)
 else
 if (c=34:Bool)then
 (Jr a d).bind fun e=>
 if (e=0:Bool)then
 some (EG.mk 0 (⟨#[]⟩:ByteArray) 0,0,2)
 else
 if (60<(Ae (e-2)):Bool)then
 some (EG.mk 0 (⟨#[]⟩:ByteArray) 0,0,3)
 else
 (AaJ a (Ae (d+1)) (Ae ((Ae (d+e))-1))).bind fun o=>
 some (EG.mk 3 o 0,e,0)
 else
 (M6).bind fun b=>
 fq (kl (ρ:=(EG×Int×Int)) (fun i0(s0:EG)=>
 (idx b i0).bind fun p=>
 (if((Ae (d+(p.size:Int)))<=(a.size:Int):Bool)then((idx b i0).bind fun q=>
 (AaJ a d (Ae (d+(q.size:Int)))).bind fun r=>
 (idx b i0).bind fun s=>
 some (r==s))else some false).bind fun t=>
 if t then
 (idx b i0).bind fun g=>
 (idx b i0).bind fun h=>
 some (.ret (EG.mk 4 g 0,(h.size:Int),0))
 else
 some (.next s0)) 0 (b.length:Int) (EG.mk 0 (⟨#[]⟩:ByteArray) 0)) (fun s0=>
 some (EG.mk 0 (⟨#[]⟩:ByteArray) 0,0,2)) some
def M5[Ev](t:EG):K1:=
 (OB t).bind fun b=>
 if (b==(⟨#[]⟩:ByteArray))then
 some false
 else
 (Nb b 0).bind fun a=>
 some ((a.2.2=0&&a.2.1=(b.size:Int))&&a.1.ns=t.ns)
def Eu[Ev](a:ByteArray):K1:=
 (M5 (EG.mk 1 a 0)).bind some
def Kg[Ev](l:List ByteArray):QQ:=
 if (20<(l.length:Int):Bool)then
 some 3
 else
 fq (kl (ρ:=Int) (fun i0 _=>
 (idx l i0).bind fun a=>
 (Eu a).bind fun b=>
 if (!b)then
 some (.ret 2)
 else
 fq (kl (ρ:=Int) (fun i2 _=>
 (idx l i2).bind fun c=>
 (idx l i0).bind fun d=>
 if (c==d)then
 some (.ret 5)
 else
 some (.next ())) 0 i0 ()) (fun _=>
 some (.next ())) (fun v2=>some (.ret v2))) 0 (l.length:Int) ()) (fun _=>
 some 0) some
def HV[Ev](a:kq):QQ:=
 if ((a.wi.length:Int)=0:Bool)then
 (DM a.Low (-1000000) 1000000).bind fun c=>
 (if(!c)then some true else((DM a.AaE a.Low 1000000).bind fun d=>
 some (!d))).bind fun e=>
 if e then
 some 6
 else
 some 0
 else
 (Kg a.wi).bind fun b=>
 if (!b=0)then
 some b
 else
 if ((!a.Low=0)||(!a.AaE=(Ae ((a.wi.length:Int)-1))))then
 some 6
 else
 some 0
def MA[Ev](t:AC)(c:Int):QQ:=
 (idx t.d3 c).bind fun b=>
 (Eu b.po).bind fun e=>
 if (!e)then
 some 2
 else
 fq (kl (ρ:=Int) (fun i0 _=>
 (idx t.d3 i0).bind fun f=>
 if (f.po==b.po)then
 some (.ret 5)
 else
 some (.next ())) 0 c ()) (fun _=>
 (DM b.Aad (-1) (Ae (c-1))).bind fun g=>
 if (!g)then
 some 6
 else
 (M7 t c).bind fun a=>
 if (4<(b.x3.length:Int)||8<(a.length:Int))then
 some 3
 else
 fq (kl (ρ:=Int) (fun i2 _=>
 (idx a i2).bind fun h=>
 (Eu h.po).bind fun i=>
 if (!i)then
 some (.ret 2)
 else
 fq (kl (ρ:=Int) (fun i4 _=>
 (idx a i4).bind fun j=>
 (idx a i2).bind fun k=>
 if (j.po==k.po)then
 some (.ret 5)
 else
 some (.next ())) 0 i2 ()) (fun _=>
 (idx a i2).bind fun l=>
 (HV l).bind fun d=>
 if (!d=0)then
 some (.ret d)
 else
 some (.next ())) (fun v4=>some (.ret v4))) (Ae ((a.length:Int)-(b.x3.length:Int))) (a.length:Int) ()) (fun _=>
 some 0) some) some
def JF(b:Int)(a:Int):K1:=
 (DM b 0 40).bind fun f=>
 (if f then((if(a=(-1):Bool)then some true else((DM a b 40).bind some)).bind some)else some false).bind some
def L9[Ev](t:AC)(b:Int):QQ:=
 (idx t.d4 b).bind fun a=>
 (Eu a.po).bind fun c=>
 if (!c)then
 some 2
 else
 fq (kl (ρ:=Int) (fun i0 _=>
 (idx t.d4 i0).bind fun d=>
 if (d.po==a.po)then
 some (.ret 5)
 else
 some (.next ())) 0 b ()) (fun _=>
 (DM a.ne 0 (Ae ((t.d3.length:Int)-1))).bind fun e=>
 (if(!e)then some true else((DM a.To 0 (Ae ((t.d3.length:Int)-1))).bind fun f=>
 some (!f))).bind fun g=>
 (if g then some true else((JF a.Abh a.Aa0).bind fun h=>
 some (!h))).bind fun i=>
 (if i then some true else((JF a.AbB a.Abi).bind fun j=>
 some (!j))).bind fun k=>
 if k then
 some 6
 else
 some 0) some
def Eh[Ev](t:AC):Option (ByteArray×Int):=
 if ((t.d3.length:Int)=0:Bool)then
 some ((⟨#[]⟩:ByteArray),7)
 else
 if (12<(t.d3.length:Int)||20<(t.d4.length:Int))then
 some ((⟨#[]⟩:ByteArray),3)
 else
 fq (kl (ρ:=(ByteArray×Int)) (fun i0 _=>
 (MA t i0).bind fun a=>
 if (!a=0)then
 (idx t.d3 i0).bind fun c=>
 some (.ret (c.po,a))
 else
 some (.next ())) 0 (t.d3.length:Int) ()) (fun _=>
 fq (kl (ρ:=(ByteArray×Int)) (fun i2 _=>
 (L9 t i2).bind fun b=>
 if (!b=0)then
 (idx t.d4 i2).bind fun d=>
 some (.ret (d.po,b))
 else
 some (.next ())) 0 (t.d4.length:Int) ()) (fun _=>
 some ((⟨#[]⟩:ByteArray),0)) some) some
def JG[Ev](t:AC)(a:Int)(b:Int):QQ:=
 (Eh t).bind fun c=>
 if (!c.2=0)then
 some c.2
 else
 (DM a 0 (Ae ((t.d3.length:Int)-1))).bind fun d=>
 (if(!d)then some true else((DM b 0 (Ae ((t.d3.length:Int)-1))).bind fun e=>
 some (!e))).bind fun f=>
 if f then
 some 6
 else
 some 0
def E6[Ev]:Nat->AC->Int->Int->K1
 |0,_,_,_=>none|n+1,t,a,b=>
  (if(a=b:Bool)then some true else((if(0<=a:Bool)then((idx t.d3 a).bind fun c=>
  (E6 n t c.Aad b).bind some)else some false).bind some)).bind some
def Gl[Ev](t:AC)(a:Int)(b:Int):K1:=Jb fun n=>E6 n t a b
def KD[Ev](t:AC)(b:Int)(a:Int)(c:Int):K1:=
 (JG t a c).bind fun d=>
 (if(!d=0)then some true else((DM b 0 (Ae ((t.d4.length:Int)-1))).bind fun e=>
 some (!e))).bind fun f=>
 if f then
 some false
 else
 (idx t.d4 b).bind fun g=>
 (Gl t a g.ne).bind fun h=>
 (if h then((idx t.d4 b).bind fun i=>
 (Gl t c i.To).bind some)else some false).bind some
def KF(n:Int):K1:=
 some (0<=n&&n<=99)
def M8(e:Bf)(a:Int):K1:=
 (KF e.mo).bind fun b=>
 some ((((b&&0<=e.ne)&&e.ne<a)&&0<=e.To)&&e.To<a)
def Dk(g:d5):QQ:=
 if (40<(g.d3.length:Int)||80<(g.d4.length:Int))then
 some 3
 else
 fq (kl (ρ:=Int) (fun i0 _=>
 (idx g.d3 i0).bind fun a=>
 (KF a).bind fun b=>
 if (!b)then
 some (.ret 6)
 else
 some (.next ())) 0 (g.d3.length:Int) ()) (fun _=>
 fq (kl (ρ:=Int) (fun i2 _=>
 (idx g.d4 i2).bind fun c=>
 (M8 c (g.d3.length:Int)).bind fun d=>
 if (!d)then
 some (.ret 6)
 else
 some (.next ())) 0 (g.d4.length:Int) ()) (fun _=>
 some 0) some) some
def FR[Ev](t:AC)(a:Int):Option (List kq×Int):=
 (JG t a a).bind fun c=>
 if (!c=0)then
 some ([],c)
 else
 (M7 t a).bind fun d=>
 (sr (fun i0(s0:List kq)=>
 (idx d i0).bind fun b=>
 (Ah [] b.wi).bind fun e=>
 (Ah s0 [kq.mk b.po b.Low b.AaE e]).bind some) 0 (d.length:Int) []).bind fun s0=>
 some (s0,0)
def ME[Ev](t:AC)(a:Int)(i:Fp):QQ:=
 if ((t.d3.length:Int)<=a:Bool)then
 some 6
 else
 (idx t.d3 a).bind fun c=>
 if c.Aaq then
 some 13
 else
 (FR t a).bind fun b=>
 if (!(i.length:Int)=(b.1.length:Int))then
 some 20
 else
 fq (kl (ρ:=Int) (fun i0 _=>
 (idx i i0).bind fun d=>
 (idx b.1 i0).bind fun e=>
 (if(d<e.Low:Bool)then some true else((idx i i0).bind fun f=>
 (idx b.1 i0).bind fun g=>
 some (decide (g.AaE<f)))).bind fun h=>
 if h then
 some (.ret 6)
 else
 some (.next ())) 0 (b.1.length:Int) ()) (fun _=>
 some 0) some
def GV[Ev](t:AC)(a:AG):Option (Int×Int):=
 (Eh t).bind fun c=>
 if (!c.2=0)then
 some ((-1),c.2)
 else
 (Dk a.d5).bind fun d=>
 if (!d=0)then
 some ((-1),d)
 else
 if (!(a.gn.length:Int)=(a.d5.d3.length:Int))then
 some ((-1),20)
 else
 fq (kl (ρ:=(Int×Int)) (fun i0 _=>
 (idx a.d5.d3 i0).bind fun f=>
 (idx a.gn i0).bind fun g=>
 (ME t f g).bind fun e=>
 if (!e=0)then
 some (.ret (i0,e))
 else
 some (.next ())) 0 (a.d5.d3.length:Int) ()) (fun _=>
 fq (kl (ρ:=(Int×Int)) (fun i2 _=>
 (idx a.d5.d4 i2).bind fun b=>
 if ((t.d4.length:Int)<=b.mo:Bool)then
 some (.ret (i2,6))
 else
 (idx a.d5.d3 b.ne).bind fun h=>
 (idx a.d5.d3 b.To).bind fun i=>
 (KD t b.mo h i).bind fun j=>
 if (!j)then
 some (.ret (i2,13))
 else
 some (.next ())) 0 (a.d5.d4.length:Int) ()) (fun _=>
 some ((-1),0)) some) some
def GW(t:AC)(g:d5):K1:=
 fq (kl (ρ:=Bool) (fun i0 _=>
 (idx g.d3 i0).bind fun a=>
 (if(a<0:Bool)then some true else((idx g.d3 i0).bind fun b=>
 some (decide ((t.d3.length:Int)<=b)))).bind fun c=>
 if c then
 some (.ret false)
 else
 some (.next ())) 0 (g.d3.length:Int) ()) (fun _=>
 fq (kl (ρ:=Bool) (fun i2 _=>
 (idx g.d4 i2).bind fun d=>
 (if(d.mo<0:Bool)then some true else((idx g.d4 i2).bind fun e=>
 some (decide ((t.d4.length:Int)<=e.mo)))).bind fun f=>
 if f then
 some (.ret false)
 else
 some (.next ())) 0 (g.d4.length:Int) ()) (fun _=>
 some true) some) some
def MF[Ev](t:AC)(p:ec)(b:Int)(a:Int):Option (kq×Bool):=
 if (b<0||(p.d5.d3.length:Int)<=b)then
 some (kq.mk (⟨#[]⟩:ByteArray) 0 0 [],false)
 else
 (idx p.d5.d3 b).bind fun d=>
 (FR t d).bind fun c=>
 if (((!c.2=0)||a<0)||(c.1.length:Int)<=a)then
 some (kq.mk (⟨#[]⟩:ByteArray) 0 0 [],false)
 else
 (idx c.1 a).bind fun e=>
 some (e,true)
def K3(n:Int):K1:=
 some ((-1000000)<=n&&n<=1000000)
def IM(n:Int)(t:j4):QQ:=
 if (((t.Var<(-1)||n<=t.Var)||t.Add<(-1000000))||1000000<t.Add)then
 some 6
 else
 some 0
def Nd(n:Int)(a:Test):QQ:=
 if ((!a.ns=1)&&(!a.ns=2))then
 some 1
 else
 (IM n a.kp).bind fun b=>
 if (!b=0)then
 some b
 else
 (IM n a.fd).bind some
def Kf(n:Int)(l:List Test):QQ:=
 if (n<0||12<n)then
 some 6
 else
 if (40<(l.length:Int):Bool)then
 some 3
 else
 fq (kl (ρ:=Int) (fun i0 _=>
 (idx l i0).bind fun b=>
 (Nd n b).bind fun a=>
 if (!a=0)then
 some (.ret a)
 else
 some (.next ())) 0 (l.length:Int) ()) (fun _=>
 some 0) some
def Jw(p:ec)(b:Int):K1:=
 fq (kl (ρ:=Bool) (fun i0 _=>
 (idx p.ff i0).bind fun a=>
 if (a.j4.Var=b:Bool)then
 some (.ret true)
 else
 some (.next ())) 0 (p.ff.length:Int) ()) (fun _=>
 some false) some
def GX[Ev](t:AC)(p:ec):QQ:=
 (Eh t).bind fun c=>
 if (!c.2=0)then
 some c.2
 else
 (Dk p.d5).bind fun d=>
 if (!d=0)then
 some d
 else
 (GW t p.d5).bind fun f=>
 if (!f)then
 some 13
 else
 if (p.hV<0||12<p.hV)then
 some 6
 else
 if (10<(p.ff.length:Int)||10<(p.sc.length:Int))then
 some 3
 else
 fq (kl (ρ:=Int) (fun i0 _=>
 (idx p.ff i0).bind fun a=>
 (MF t p a.tl a.kq).bind fun g=>
 (if(((!g.2)||a.j4.Var<(-1))||p.hV<=a.j4.Var)then some true else((K3 a.j4.Add).bind fun h=>
 some (!h))).bind fun i=>
 if i then
 some (.ret 6)
 else
 some (.next ())) 0 (p.ff.length:Int) ()) (fun _=>
 (Kf p.hV p.sc).bind fun b=>
 if (!b=0)then
 some b
 else
 fq (kl (ρ:=Int) (fun i2 _=>
 (Jw p i2).bind fun e=>
 if (!e)then
 some (.ret 9)
 else
 some (.next ())) 0 p.hV ()) (fun _=>
 some 0) some) some
def Gp(c:d7):K1:=
 some (((Ae ((Ae ((Ae ((c.Map.d3.length:Int)+(c.Map.d4.length:Int)))+(c.ec.d5.d3.length:Int)))+(c.ec.d5.d4.length:Int)))=0&&(Ae ((c.ec.ff.length:Int)+(c.ec.sc.length:Int)))=0)&&c.ec.hV=0)
def Kq(c:d7):K1:=
 if (c.ns=1:Bool)then
 (if((c.gt.length:Int)=0:Bool)then((Gp c).bind some)else some false).bind some
 else
 if (c.ns=2:Bool)then
 (if((c.gt.length:Int)=1:Bool)then((Gp c).bind some)else some false).bind some
 else
 (if(c.ns=3:Bool)then
 some (decide (c.ns=3))
 else
 some (decide (c.ns=4))).bind fun w1=>
 if w1 then
 (if(0<(c.gt.length:Int):Bool)then((Gp c).bind some)else some false).bind some
 else
 if (c.ns=5:Bool)then
 some (decide ((c.gt.length:Int)=1))
 else
 some false
def D2[Ev]:Nat->d7->K1
 |0,_=>none|n+1,c=>
  (Kq c).bind fun d=>
  if (!d)then
  some false
  else
  fq (kl (ρ:=Bool) (fun i0 _=>
  (idx c.gt i0).bind fun a=>
  (D2 n a).bind fun b=>
  if (!b)then
  some (.ret false)
  else
  some (.next ())) 0 (c.gt.length:Int) ()) (fun _=>
  some true) some
def Mr[Ev](c:d7):K1:=Jb fun n=>D2 n c
def Eb[Ev]:Nat->d7->Option (Int×Int)
 |0,_=>none|n+1,c=>
  (sr (fun i0(s0:Int×Int)=>
  (idx c.gt i0).bind fun b=>
  (Eb n b).bind fun a=>
  some (Ae (s0.1+a.1),max s0.2 a.2)) 0 (c.gt.length:Int) (1,0)).bind fun s0=>
  (if(c.ns=5:Bool)then
  some (Ae (s0.2+1))
  else
  some s0.2).bind fun w1=>
  some (s0.1,w1)
def Nw[Ev](c:d7):Option (Int×Int):=Jb fun n=>Eb n c
def Kn[Ev](c:d7):QQ:=
 (Mr c).bind fun b=>
 if (!b)then
 some 1
 else
 (Nw c).bind fun a=>
 if (12<a.1||3<a.2)then
 some 3
 else
 some 0
def GT(a:d5)(b:d5)(m:d6):QQ:=
 (Dk a).bind fun e=>
 if (!e=0)then
 some e
 else
 (Dk b).bind fun f=>
 if (!f=0)then
 some f
 else
 if ((!(m.d3.length:Int)=(a.d3.length:Int))||(!(m.d4.length:Int)=(a.d4.length:Int)))then
 some 20
 else
 fq (kl (ρ:=Int) (fun i0 _=>
 (idx m.d3 i0).bind fun l=>
 (if(l<0:Bool)then some true else((idx m.d3 i0).bind fun n=>
 some (decide ((b.d3.length:Int)<=n)))).bind fun o=>
 if o then
 some (.ret 6)
 else
 (idx m.d3 i0).bind fun p=>
 (idx b.d3 p).bind fun q=>
 (idx a.d3 i0).bind fun r=>
 if (!q=r)then
 some (.ret 13)
 else
 some (.next ())) 0 (a.d3.length:Int) ()) (fun _=>
 fq (kl (ρ:=Int) (fun i2 _=>
 (idx m.d4 i2).bind fun s=>
 (if(s<0:Bool)then some true else((idx m.d4 i2).bind fun t=>
 some (decide ((b.d4.length:Int)<=t)))).bind fun g=>
 if g then
 some (.ret 6)
 else
 (idx a.d4 i2).bind fun c=>
 (idx m.d4 i2).bind fun h=>
 (idx b.d4 h).bind fun d=>
 if (!c.mo=d.mo)then
 some (.ret 13)
 else
 (idx m.d3 c.ne).bind fun i=>
 (if(!i=d.ne)then some true else((idx m.d3 c.To).bind fun j=>
 some (!j=d.To))).bind fun k=>
 if k then
 some (.ret 11)
 else
 some (.next ())) 0 (a.d4.length:Int) ()) (fun _=>
 some 0) some) some
def Ea(l:Fp):K1:=
 fq (kl (ρ:=Bool) (fun i0 _=>
 fq (kl (ρ:=Bool) (fun i2 _=>
 (idx l i0).bind fun a=>
 (idx l i2).bind fun b=>
 if (a=b:Bool)then
 some (.ret false)
 else
 some (.next ())) 0 i0 ()) (fun _=>
 some (.next ())) (fun v2=>some (.ret v2))) 0 (l.length:Int) ()) (fun _=>
 some true) some
def Ha(a:d5)(b:d5)(m:d6):K1:=
 (GT a b m).bind fun c=>
 (if(c=0:Bool)then((Ea m.d3).bind some)else some false).bind fun e=>
 (if e then((Ea m.d4).bind some)else some false).bind some
def MG(p:ec)(b:Int):K1:=
 fq (kl (ρ:=Bool) (fun i0 _=>
 (idx p.ff i0).bind fun a=>
 if (a.j4.Var=b:Bool)then
 some (.ret true)
 else
 some (.next ())) 0 (p.ff.length:Int) ()) (fun _=>
 some false) some
def Ko[Ev](t:AC)(a:Int)(q:ec):QQ:=
 if (q.hV<a:Bool)then
 some 20
 else
 (GX t q).bind fun b=>
 if (!b=9)then
 some b
 else
 fq (kl (ρ:=Int) (fun i0 _=>
 (MG q i0).bind fun c=>
 if (!c)then
 some (.ret b)
 else
 some (.next ())) a q.hV ()) (fun _=>
 some 0) some
def Ei[Ev]:Nat->AC->ec->d7->QQ
 |0,_,_,_=>none|n+1,t,p,c=>
  if (c.ns=5:Bool)then
  (Ko t p.hV c.ec).bind fun d=>
  if (!d=0)then
  some d
  else
  (GT p.d5 c.ec.d5 c.Map).bind fun e=>
  if (!e=0)then
  some e
  else
  (Ha p.d5 c.ec.d5 c.Map).bind fun f=>
  if (!f)then
  some 1
  else
  fq (kl (ρ:=Int) (fun i0 _=>
  (idx c.gt i0).bind fun b=>
  (Ei n t c.ec b).bind fun a=>
  if (!a=0)then
  some (.ret a)
  else
  some (.next ())) 0 (c.gt.length:Int) ()) (fun _=>
  some 0) some
  else
  fq (kl (ρ:=Int) (fun i0 _=>
  (idx c.gt i0).bind fun b=>
  (Ei n t p b).bind fun a=>
  if (!a=0)then
  some (.ret a)
  else
  some (.next ())) 0 (c.gt.length:Int) ()) (fun _=>
  some 0) some
def Ug[Ev](t:AC)(p:ec)(c:d7):QQ:=Jb fun n=>Ei n t p c
def JH[Ev](t:AC)(p:ec)(c:d7):QQ:=
 (GX t p).bind fun a=>
 if (!a=0)then
 some a
 else
 (Kn c).bind fun b=>
 if (!b=0)then
 some b
 else
 (Ug t p c).bind some
def MH[Ev](t:AC)(p:ec)(c:Int):QQ:=
 (idx p.ff c).bind fun a=>
 if (a.tl<0||(p.d5.d3.length:Int)<=a.tl)then
 some 6
 else
 (idx p.d5.d3 a.tl).bind fun d=>
 (FR t d).bind fun e=>
 if (((((a.kq<0||(e.1.length:Int)<=a.kq)||a.j4.Var<(-1))||p.hV<=a.j4.Var)||a.j4.Add<(-1000000))||1000000<a.j4.Add)then
 some 6
 else
 fq (kl (ρ:=Int) (fun i0 _=>
 (idx p.ff i0).bind fun f=>
 (if(f.tl=a.tl:Bool)then((idx p.ff i0).bind fun g=>
 some (decide (g.kq=a.kq)))else some false).bind fun b=>
 if b then
 some (.ret 5)
 else
 some (.next ())) 0 c ()) (fun _=>
 some 0) some
def Kr[Ev](t:AC)(a:hT):QQ:=
 (Dk a.fd.d5).bind fun b=>
 if (!b=0)then
 some b
 else
 (GW t a.fd.d5).bind fun d=>
 if (!d)then
 some 13
 else
 if ((!a.fd.hV=a.kp.hV)||0<(a.fd.sc.length:Int))then
 some 1
 else
 if (10<(a.fd.ff.length:Int):Bool)then
 some 3
 else
 fq (kl (ρ:=Int) (fun i0 _=>
 (MH t a.fd i0).bind fun c=>
 if (!c=0)then
 some (.ret c)
 else
 some (.next ())) 0 (a.fd.ff.length:Int) ()) (fun _=>
 some 0) some
def Fx(l:Fp)(n:Int):QQ:=
 fq (kl (ρ:=Int) (fun i0 _=>
 (idx l i0).bind fun a=>
 (if(a<0:Bool)then some true else((idx l i0).bind fun b=>
 some (decide (n<=b)))).bind fun c=>
 if c then
 some (.ret 6)
 else
 (if(0<i0:Bool)then((idx l i0).bind fun d=>
 (idx l (Ae (i0-1))).bind fun e=>
 some (decide (d<=e)))else some false).bind fun f=>
 if f then
 some (.ret 12)
 else
 some (.next ())) 0 (l.length:Int) ()) (fun _=>
 some 0) some
def Nf(l:Fp)(n:Int):K1:=
 fq (kl (ρ:=Bool) (fun i0 _=>
 (idx l i0).bind fun a=>
 if (a=n:Bool)then
 some (.ret true)
 else
 some (.next ())) 0 (l.length:Int) ()) (fun _=>
 some false) some
def M9(g:d5)(p:BB):QQ:=
 (Fx p.d3 (g.d3.length:Int)).bind fun a=>
 if (!a=0)then
 some a
 else
 (Fx p.d4 (g.d4.length:Int)).bind fun b=>
 if (!b=0)then
 some b
 else
 fq (kl (ρ:=Int) (fun i0 _=>
 (idx p.d4 i0).bind fun d=>
 (idx g.d4 d).bind fun c=>
 (Nf p.d3 c.ne).bind fun e=>
 (if(!e)then some true else((Nf p.d3 c.To).bind fun f=>
 some (!f))).bind fun h=>
 if h then
 some (.ret 14)
 else
 some (.next ())) 0 (p.d4.length:Int) ()) (fun _=>
 some 0) some
def Hv(g:d5)(p:BB):QQ:=
 (Dk g).bind fun b=>
 if (!b=0)then
 some b
 else
 (M9 g p).bind some
def Hw(l:Fp)(n:Int):QQ:=
 fq (kl (ρ:=Int) (fun i0 _=>
 (idx l i0).bind fun a=>
 if (a=n:Bool)then
 some (.ret i0)
 else
 some (.next ())) 0 (l.length:Int) ()) (fun _=>
 some (-1)) some
def G6(g:d5)(p:BB):Option (d5×d6×Int):=
 (Hv g p).bind fun b=>
 if (!b=0)then
 some (d5.mk [] [],d6.mk [] [],b)
 else
 (sr (fun i0(s0:d5)=>
 (idx p.d3 i0).bind fun c=>
 (idx g.d3 c).bind fun d=>
 (Ah s0.d3 [d]).bind fun e=>
 some (d5.mk e s0.d4)) 0 (p.d3.length:Int) (d5.mk [] [])).bind fun s0=>
 (sr (fun i2(s2:d5)=>
 (idx p.d4 i2).bind fun f=>
 (idx g.d4 f).bind fun a=>
 (Hw p.d3 a.ne).bind fun h=>
 (Hw p.d3 a.To).bind fun i=>
 (Ah s2.d4 [Bf.mk a.mo h i]).bind fun j=>
 some (d5.mk s2.d3 j)) 0 (p.d4.length:Int) s0).bind fun s2=>
 (Ah [] p.d3).bind fun k=>
 (Ah [] p.d4).bind fun l=>
 some (s2,d6.mk k l,0)
def MI(a:hT):QQ:=
 (Hv a.kp.d5 a.x4).bind fun b=>
 if (!b=0)then
 some b
 else
 (G6 a.kp.d5 a.x4).bind fun c=>
 (GT c.1 a.fd.d5 a.sx).bind some
def PG(l:Fp)(n:Int):K1:=
 fq (kl (ρ:=Bool) (fun i0 _=>
 (idx l i0).bind fun a=>
 if (a=n:Bool)then
 some (.ret true)
 else
 some (.next ())) 0 (l.length:Int) ()) (fun _=>
 some false) some
def KI(n:Int)(l:Fp):Option Fp:=
 (sr (fun i0(s0:Fp)=>
 (PG l i0).bind fun a=>
 if (!a)then
 (Ah s0 [i0]).bind some
 else
 some s0) 0 n []).bind some
def I4(a:hT):Option (Fp×Fp):=
 (KI (a.fd.d5.d3.length:Int) a.sx.d3).bind fun b=>
 (KI (a.fd.d5.d4.length:Int) a.sx.d4).bind fun c=>
 some (b,c)
def Jy[Ev](t:AC)(g:d5)(a:Fp)(b:Fp):K1:=
 fq (kl (ρ:=Bool) (fun i0 _=>
 (idx a i0).bind fun d=>
 (idx g.d3 d).bind fun e=>
 (idx t.d3 e).bind fun f=>
 if f.Aaq then
 some (.ret false)
 else
 some (.next ())) 0 (a.length:Int) ()) (fun _=>
 fq (kl (ρ:=Bool) (fun i2 _=>
 (idx b i2).bind fun h=>
 (idx g.d4 h).bind fun c=>
 (idx g.d3 c.ne).bind fun i=>
 (idx g.d3 c.To).bind fun j=>
 (KD t c.mo i j).bind fun k=>
 if (!k)then
 some (.ret false)
 else
 some (.next ())) 0 (b.length:Int) ()) (fun _=>
 some true) some) some
def JI[Ev](t:AC)(a:hT):QQ:=
 (Eh t).bind fun b=>
 if (!b.2=0)then
 some b.2
 else
 (Eu a.po).bind fun g=>
 if (!g)then
 some 2
 else
 (GX t a.kp).bind fun c=>
 if (!c=0)then
 some c
 else
 (Kr t a).bind fun d=>
 if (!d=0)then
 some d
 else
 (MI a).bind fun e=>
 if (!e=0)then
 some e
 else
 (Ea a.sx.d3).bind fun h=>
 (if(!h)then some true else((Ea a.sx.d4).bind fun i=>
 some (!i))).bind fun j=>
 if j then
 some 11
 else
 (I4 a).bind fun f=>
 (Jy t a.fd.d5 f.1 f.2).bind fun k=>
 if (!k)then
 some 13
 else
 (JH t a.kp a.d7).bind some
def Kv[Ev](t:AC)(a:List hT):QQ:=
 (Eh t).bind fun b=>
 if (!b.2=0)then
 some b.2
 else
 if (10<(a.length:Int):Bool)then
 some 3
 else
 fq (kl (ρ:=Int) (fun i0 _=>
 (idx a i0).bind fun d=>
 (JI t d).bind fun c=>
 if (!c=0)then
 some (.ret c)
 else
 some (.next ())) 0 (a.length:Int) ()) (fun _=>
 some 0) some
def JL[Ev](t:AC)(a:List hT)(d:AG):QQ:=
 (Kv t a).bind fun b=>
 if (!b=0)then
 some b
 else
 (GV t d).bind fun c=>
 some c.2
def Js[Ev](t:AC):K1:=
 if (20<(t.d3.length:Int)||30<(t.d4.length:Int))then
 some false
 else
 fq (kl (ρ:=Bool) (fun i0(s0:Int)=>
 (idx t.d3 i0).bind fun b=>
 (if(30<(Ae (s0+(b.x3.length:Int))):Bool)then some true else((idx t.d3 i0).bind fun d=>
 some (decide (40<(d.po.size:Int))))).bind fun e=>
 if e then
 some (.ret false)
 else
 fq (EO (ρ:=Bool) (fun(s2:Int)=>
 (idx t.d3 i0).bind fun f=>
 if (s2<(f.x3.length:Int):Bool)then
 (idx t.d3 i0).bind fun g=>
 (idx g.x3 s2).bind fun a=>
 if (40<(a.po.size:Int)||25<(a.wi.length:Int))then
 some (.ret false)
 else
 fq (EO (ρ:=Bool) (fun(s4:Int)=>
 if (s4<(a.wi.length:Int):Bool)then
 (idx a.wi s4).bind fun h=>
 if (40<(h.size:Int):Bool)then
 some (.ret false)
 else
 some (.next (Ae (s4+1)))
 else
 some (.brk s4)) 0) (fun s4=>
 some (.next (Ae (s2+1)))) (fun v4=>some (.ret v4))
 else
 some (.brk s2)) 0) (fun s2=>
 some (.next (Ae (s0+(b.x3.length:Int))))) (fun v2=>some (.ret v2))) 0 (t.d3.length:Int) 0) (fun s0=>
 fq (kl (ρ:=Bool) (fun i6 _=>
 (idx t.d4 i6).bind fun c=>
 if (40<(c.po.size:Int):Bool)then
 some (.ret false)
 else
 some (.next ())) 0 (t.d4.length:Int) ()) (fun _=>
 some true) some) some
def Jt(m:d6)(n:Int):K1:=
 some (decide ((Ae ((m.d3.length:Int)+(m.d4.length:Int)))<=n))
def Ia(p:ec):K1:=
 (HZ p.d5).bind fun a=>
 some ((a&&(p.ff.length:Int)<=15)&&(p.sc.length:Int)<=15)
def PF(p:BB)(n:Int):K1:=
 some (decide ((Ae ((p.d3.length:Int)+(p.d4.length:Int)))<=n))
def CX[Ev]:Nat->d7->Int->QQ
 |0,_,_=>none|n+1,c,a=>
  (Ia c.ec).bind fun b=>
  (if(!b)then some true else((Jt c.Map 140).bind fun d=>
  some (!d))).bind fun e=>
  if e then
  some (-1)
  else
  fq (EO (ρ:=Int) (fun(s0:Int×Int)=>
  if (s0.2<(c.gt.length:Int)&&0<=s0.1)then
  (idx c.gt s0.2).bind fun f=>
  (CX n f s0.1).bind fun g=>
  some (.next (g,Ae (s0.2+1)))
  else
  some (.brk (s0.1,s0.2))) (Ae (a-1),0)) (fun s0=>
  some s0.1) some
def OC[Ev](c:d7)(a:Int):QQ:=Jb fun n=>CX n c a
def Ib[Ev](c:d7):K1:=
 (OC c 40).bind fun a=>
 some (decide (0<=a))
def Nh[Ev](a:hT):K1:=
 (if((a.po.size:Int)<=60:Bool)then((Ia a.kp).bind some)else some false).bind fun c=>
 (if c then((Ia a.fd).bind some)else some false).bind fun e=>
 (if e then((PF a.x4 140).bind some)else some false).bind fun g=>
 (if g then((Jt a.sx 140).bind some)else some false).bind fun i=>
 (if i then((Ib a.d7).bind some)else some false).bind some
def Hy[Ev](t:AC)(p:d5)(g:d5):QQ:=
 (Eh t).bind fun a=>
 if (!a.2=0)then
 some a.2
 else
 (Dk p).bind fun b=>
 if (!b=0)then
 some b
 else
 (Dk g).bind fun c=>
 if (!c=0)then
 some c
 else
 (GW t p).bind fun d=>
 (if(!d)then some true else((GW t g).bind fun e=>
 some (!e))).bind fun f=>
 if f then
 some 13
 else
 some 0
def Kh[Ev](t:AC)(p:d5)(g:d5):K1:=
 (Js t).bind fun h=>
 (if h then((HZ p).bind some)else some false).bind fun b=>
 (if b then((HZ g).bind some)else some false).bind fun d=>
 (if d then((Hy t p g).bind fun e=>
 some ((!e=0)||(((Ae ((p.d3.length:Int)+(p.d4.length:Int)))<=6&&(g.d3.length:Int)<=8)&&(g.d4.length:Int)<=12)))else some false).bind some
def NB[Ev](t:AC)(p:ec)(a:AG):K1:=
 (Ia p).bind fun f=>
 (if f then((GU a).bind some)else some false).bind fun c=>
 (if c then((Kh t p.d5 a.d5).bind some)else some false).bind some
def E7[Ev]:Nat->d7->K1
 |0,_=>none|n+1,c=>
  fq (kl (ρ:=Bool) (fun i0 _=>
  (idx c.gt i0).bind fun a=>
  (E7 n a).bind fun b=>
  if (!b)then
  some (.ret false)
  else
  some (.next ())) 0 (c.gt.length:Int) ()) (fun _=>
  some (decide ((Ae ((c.ec.d5.d3.length:Int)+(c.ec.d5.d4.length:Int)))<=6))) some
def Ok[Ev](c:d7):K1:=Jb fun n=>E7 n c
def Dp[Ev]:Nat->ec->d7->Int->Int->K1
 |0,_,_,_,_=>none|n+1,p,c,a,b=>
  (if(c.ns=5:Bool)then
  some c.ec
  else
  some p).bind fun w1=>
  fq (EO (ρ:=Bool) (fun(s0:Int×Int)=>
  if (s0.2<(w1.d5.d3.length:Int):Bool)then
  some (.next (Ae (s0.1*a),Ae (s0.2+1)))
  else
  some (.brk (s0.1,s0.2))) (1,(p.d5.d3.length:Int))) (fun s0=>
  fq (EO (ρ:=Bool) (fun(s2:Int×Int)=>
  if (s2.2<(w1.d5.d4.length:Int):Bool)then
  some (.next (Ae (s2.1*b),Ae (s2.2+1)))
  else
  some (.brk (s2.1,s2.2))) (s0.1,(p.d5.d4.length:Int))) (fun s2=>
  fq (kl (ρ:=Bool) (fun i4 _=>
  (idx c.gt i4).bind fun d=>
  (Dp n w1 d a b).bind fun e=>
  if (!e)then
  some (.ret false)
  else
  some (.next ())) 0 (c.gt.length:Int) ()) (fun _=>
  some (decide (s2.1<=5000))) some) some) some
def Nv[Ev](p:ec)(c:d7)(a:Int)(b:Int):K1:=Jb fun n=>Dp n p c a b
def Km[Ev](t:AC)(p:ec)(c:d7)(a:AG):K1:=
 (Ib c).bind fun b=>
 (if(!b)then some true else((Ia p).bind fun d=>
 some (!d))).bind fun e=>
 (if e then some true else((GU a).bind fun f=>
 some (!f))).bind fun g=>
 if g then
 some false
 else
 (JH t p c).bind fun h=>
 (if(!h=0)then some true else((NB t p a).bind fun i=>
 (if i then((Ok c).bind some)else some false).bind fun k=>
 (if((k&&(a.d5.d3.length:Int)<=6)&&(a.d5.d4.length:Int)<=8)then((Nv p c 14 18).bind some)else some false).bind some)).bind some
def JJ[Ev](t:AC)(a:hT)(f:AG):K1:=
 (Js t).bind fun g=>
 (if g then((Nh a).bind some)else some false).bind fun c=>
 (if c then((Km t a.kp a.d7 f).bind some)else some false).bind some
def Cz[Ev]:Nat->ec->d7->Int->K1
 |0,_,_,_=>none|n+1,p,c,a=>
  (if(c.ns=5:Bool)then
  some c.ec
  else
  some p).bind fun w1=>
  fq (EO (ρ:=Bool) (fun(s0:Int×Int)=>
  if (s0.2<(w1.d5.d3.length:Int)&&s0.1<=5000)then
  some (.next (Ae (s0.1*40),Ae (s0.2+1)))
  else
  some (.brk (s0.1,s0.2))) (a,(p.d5.d3.length:Int))) (fun s0=>
  fq (EO (ρ:=Bool) (fun(s2:Int×Int)=>
  if (s2.2<(w1.d5.d4.length:Int)&&s2.1<=5000)then
  some (.next (Ae (s2.1*80),Ae (s2.2+1)))
  else
  some (.brk (s2.1,s2.2))) (s0.1,(p.d5.d4.length:Int))) (fun s2=>
  fq (EO (ρ:=Bool) (fun(s4:Int)=>
  if (s4<(c.gt.length:Int)&&s2.1<=5000)then
  (idx c.gt s4).bind fun b=>
  (Cz n w1 b s2.1).bind fun d=>
  if (!d)then
  some (.ret false)
  else
  some (.next (Ae (s4+1)))
  else
  some (.brk s4)) 0) (fun s4=>
  some (decide (s2.1<=5000))) some) some) some
def K5[Ev](p:ec)(c:d7)(a:Int):K1:=Jb fun n=>Cz n p c a
def Ku[Ev](t:AC)(a:List hT)(b:AG):K1:=
 (if(4<(a.length:Int)&&(a.length:Int)<=10||12<(a.length:Int))then some true else((Js t).bind fun c=>
 some (!c))).bind fun d=>
 (if d then some true else((GU b).bind fun e=>
 some (!e))).bind fun f=>
 if f then
 some false
 else
 fq (kl (ρ:=Bool) (fun i0(s0:Bool)=>
 (idx a i0).bind fun g=>
 (JJ t g b).bind fun h=>
 if (!h)then
 some (.ret false)
 else
 (if s0 then((idx a i0).bind fun i=>
 some (decide ((i.kp.d5.d3.length:Int)<=3)))else some false).bind fun j=>
 (if j then((idx a i0).bind fun k=>
 some (decide ((k.kp.d5.d4.length:Int)<=2)))else some false).bind fun l=>
 (if l then((idx a i0).bind fun m=>
 some (decide ((m.fd.d5.d3.length:Int)<=5)))else some false).bind fun n=>
 (if n then((idx a i0).bind fun o=>
 (idx a i0).bind fun p=>
 (K5 o.kp p.d7 1).bind some)else some false).bind fun r=>
 some (.next r)) 0 (a.length:Int) true) (fun s0=>
 (JL t a b).bind fun s=>
 some ((!s=0)||((s0&&(b.d5.d3.length:Int)<=6)&&(b.d5.d4.length:Int)<=8))) some
def Ge(m:AM)(n:Int):K1:=
 (Jt m.d6 n).bind fun a=>
 some (a&&(m.hV.length:Int)<=n)
def Ni(d:AY)(a:Int):K1:=
 (GU d.o3).bind fun e=>
 if ((!e)||a<(d.kg.length:Int))then
 some false
 else
 fq (kl (ρ:=Bool) (fun i0 _=>
 (idx d.kg i0).bind fun b=>
 (Ge b.pc 140).bind fun c=>
 if (!c)then
 some (.ret false)
 else
 some (.next ())) 0 (d.kg.length:Int) ()) (fun _=>
 some true) some
def NW[Ev](c:HT):K1:=
 (Ku c.T c.AbC c.D.o3).bind fun a=>
 (if(a&&((c.D.kg.length:Int)<=6||30<(c.D.kg.length:Int)))then((Ni c.D 33).bind some)else some false).bind some
def GE(a:List hT):Option (List hT):=
 Ah [] a
def IN(g:d5):Option d5:=
 (Ah [] g.d3).bind fun b=>
 (Ah [] g.d4).bind fun a=>
 some (d5.mk b a)
def Gm(a:AG):Option AG:=
 (IN a.d5).bind fun e=>
 (sr (fun i0(s0:AG)=>
 (idx a.gn i0).bind fun b=>
 (Ah [] b).bind fun c=>
 (Ah s0.gn [c]).bind fun d=>
 some (AG.mk s0.d5 d)) 0 (a.gn.length:Int) (AG.mk e [])).bind some
def JM(m:AM):Option AM:=
 (Ah [] m.d6.d3).bind fun c=>
 (Ah [] m.d6.d4).bind fun a=>
 (Ah [] m.hV).bind fun b=>
 some (AM.mk (d6.mk c a) b)
def J0(d:AY):Option AY:=
 (Gm d.o3).bind fun f=>
 (sr (fun i0(s0:AY)=>
 (idx d.kg i0).bind fun a=>
 (idx d.kg i0).bind fun b=>
 (JM b.pc).bind fun c=>
 (Ah s0.kg [C4.mk a.hT c]).bind fun e=>
 some (AY.mk s0.o3 e)) 0 (d.kg.length:Int) (AY.mk f [])).bind some
def IL(n:Int):Option Fp:=
 (sr (fun i0(s0:Fp)=>
 (Ah s0 [i0]).bind some) 0 n []).bind some
def Oi(g:d5):Option d6:=
 (IL (g.d3.length:Int)).bind fun b=>
 (IL (g.d4.length:Int)).bind fun a=>
 some (d6.mk b a)
def NC[Ev](t:AC)(c:hT)(d:AG):QQ:=
 (JI t c).bind fun a=>
 if (!a=0)then
 some a
 else
 (GV t d).bind fun b=>
 some b.2
def Gd(a:Fp)(b:Fp):K1:=
 if (!(a.length:Int)=(b.length:Int))then
 some false
 else
 fq (kl (ρ:=Bool) (fun i0 _=>
 (idx a i0).bind fun c=>
 (idx b i0).bind fun d=>
 if (!c=d)then
 some (.ret false)
 else
 some (.next ())) 0 (a.length:Int) ()) (fun _=>
 some true) some
def IR(l:Fp):K1:=
 fq (kl (ρ:=Bool) (fun i0 _=>
 fq (kl (ρ:=Bool) (fun i2 _=>
 (idx l i0).bind fun a=>
 (idx l i2).bind fun b=>
 if (a=b:Bool)then
 some (.ret false)
 else
 some (.next ())) 0 i0 ()) (fun _=>
 some (.next ())) (fun v2=>some (.ret v2))) 0 (l.length:Int) ()) (fun _=>
 some true) some
def Ki[Ev](t:AC)(p:d5)(g:d5)(m:d6)(a:Bool):QQ:=
 if ((!(m.d3.length:Int)=(p.d3.length:Int))||(!(m.d4.length:Int)=(p.d4.length:Int)))then
 some 20
 else
 fq (kl (ρ:=Int) (fun i0 _=>
 (idx m.d3 i0).bind fun n=>
 (if(n<0:Bool)then some true else((idx m.d3 i0).bind fun o=>
 some (decide ((g.d3.length:Int)<=o)))).bind fun q=>
 if q then
 some (.ret 6)
 else
 (idx m.d3 i0).bind fun r=>
 (idx g.d3 r).bind fun s=>
 (idx p.d3 i0).bind fun u=>
 (Gl t s u).bind fun v=>
 if (!v)then
 some (.ret 13)
 else
 some (.next ())) 0 (m.d3.length:Int) ()) (fun _=>
 fq (kl (ρ:=Int) (fun i2 _=>
 (idx m.d4 i2).bind fun w=>
 (if(w<0:Bool)then some true else((idx m.d4 i2).bind fun x=>
 some (decide ((g.d4.length:Int)<=x)))).bind fun y=>
 if y then
 some (.ret 6)
 else
 (idx p.d4 i2).bind fun c=>
 (idx m.d4 i2).bind fun d=>
 (idx g.d4 d).bind fun b=>
 if (!c.mo=b.mo)then
 some (.ret 13)
 else
 (idx m.d3 c.ne).bind fun e=>
 (if(!e=b.ne)then some true else((idx m.d3 c.To).bind fun f=>
 some (!f=b.To))).bind fun h=>
 if h then
 some (.ret 11)
 else
 some (.next ())) 0 (m.d4.length:Int) ()) (fun _=>
 (if a then((IR m.d3).bind fun i=>
 (if(!i)then some true else((IR m.d4).bind fun j=>
 some (!j))).bind some)else some false).bind fun l=>
 if l then
 some 5
 else
 some 0) some) some
def Hx[Ev](t:AC)(p:d5)(g:d5)(m:d6)(a:Bool):QQ:=
 (Hy t p g).bind fun b=>
 if (!b=0)then
 some b
 else
 (Ki t p g m a).bind some
def Kk[Ev](t:AC)(p:ec)(c:AG):QQ:=
 (GX t p).bind fun a=>
 if (!a=0)then
 some a
 else
 (GV t c).bind fun b=>
 some b.2
def Hz(a:j4)(c:Fp):QQ:=
 if (a.Var<0:Bool)then
 some a.Add
 else
 (idx c a.Var).bind fun b=>
 some (Ae (b+a.Add))
def JE(t:j4)(b:Fp):Option (Int×Bool):=
 if (t.Var=(-1):Bool)then
 some (t.Add,true)
 else
 if (t.Var<0||(b.length:Int)<=t.Var)then
 some (0,false)
 else
 (idx b t.Var).bind fun a=>
 some (Ae (a+t.Add),true)
def Ke(a:Test)(d:Fp):K1:=
 (JE a.kp d).bind fun b=>
 (JE a.fd d).bind fun c=>
 if ((!b.2)||(!c.2))then
 some false
 else
 some (a.ns=1&&b.1<=c.1||(a.ns=2&&b.1=c.1))
def Jv(p:ec)(l:AG)(m:d6):Option (Fp×Int):=
 (IJ p.hV 0).bind fun d=>
 (IJ p.hV false).bind fun e=>
 fq (kl (ρ:=(Fp×Int)) (fun i0(s0:Fp×a6)=>
 (idx p.ff i0).bind fun a=>
 (idx m.d3 a.tl).bind fun f=>
 (idx l.gn f).bind fun g=>
 (idx g a.kq).bind fun b=>
 (if(0<=a.j4.Var:Bool)then((idx s0.2 a.j4.Var).bind fun h=>
 some (!h))else some false).bind fun i=>
 if i then
 (idx s0.2 a.j4.Var).bind fun n=>
 (idx s0.1 a.j4.Var).bind fun o=>
 (Hz a.j4 (BG s0.1 a.j4.Var (Ae (b-a.j4.Add)))).bind fun c=>
 if (!c=b)then
 some (.ret ([],11))
 else
 some (.next (BG s0.1 a.j4.Var (Ae (b-a.j4.Add)),BG s0.2 a.j4.Var true))
 else
 (Hz a.j4 s0.1).bind fun c=>
 if (!c=b)then
 some (.ret ([],11))
 else
 some (.next (s0.1,s0.2))) 0 (p.ff.length:Int) (d,e)) (fun s0=>
 fq (kl (ρ:=(Fp×Int)) (fun i2 _=>
 (idx p.sc i2).bind fun j=>
 (Ke j s0.1).bind fun k=>
 if (!k)then
 some (.ret ([],16))
 else
 some (.next ())) 0 (p.sc.length:Int) ()) (fun _=>
 some (s0.1,0)) some) some
def Kj[Ev](t:AC)(p:ec)(a:AG)(m:d6):Option (Fp×Int):=
 (Kk t p a).bind fun b=>
 if (!b=0)then
 some ([],b)
 else
 (Hx t p.d5 a.d5 m false).bind fun c=>
 if (!c=0)then
 some ([],c)
 else
 (Jv p a m).bind fun d=>
 some (d.1,d.2)
def IQ[Ev](t:AC)(p:d5)(g:d5)(m:d6):Option (d5×Int):=
 (Hx t p g m false).bind fun a=>
 if (!a=0)then
 some (d5.mk [] [],a)
 else
 (IN p).bind fun b=>
 fq (EO (ρ:=(d5×Int)) (fun(s0:d5×Int)=>
 if (s0.2<(s0.1.d3.length:Int):Bool)then
 (idx m.d3 s0.2).bind fun c=>
 (idx g.d3 c).bind fun d=>
 (idx s0.1.d3 s0.2).bind fun e=>
 some (.next (d5.mk (BG s0.1.d3 s0.2 d) s0.1.d4,Ae (s0.2+1)))
 else
 some (.brk (s0.1,s0.2))) (b,0)) (fun s0=>
 some (s0.1,0)) some
def NA(l:d5)(g:d5)(b:BB)(m:d6):QQ:=
 (GT l g m).bind fun a=>
 if (!a=0)then
 some a
 else
 (Hv l b).bind some
def De(l:Fp)(n:Int):K1:=
 fq (kl (ρ:=Bool) (fun i0 _=>
 (idx l i0).bind fun a=>
 if (a=n:Bool)then
 some (.ret true)
 else
 some (.next ())) 0 (l.length:Int) ()) (fun _=>
 some false) some
def FL(a:Fp)(b:Fp):Option (List F2):=
 (sr (fun i0(s0:List F2)=>
 (sr (fun i2(s2:List F2)=>
 (idx a i0).bind fun c=>
 (idx a i2).bind fun d=>
 (if(c=d:Bool)then((De b i0).bind fun e=>
 (if(!e)then some true else((De b i2).bind fun f=>
 some (!f))).bind some)else some false).bind fun h=>
 if h then
 (Ah s2 [F2.mk i0 i2]).bind some
 else
 some s2) (Ae (i0+1)) (a.length:Int) s0).bind some) 0 (a.length:Int) []).bind some
def It(a:Fp)(b:Fp):Option Fp:=
 (sr (fun i0(s0:Fp)=>
 (De b i0).bind fun c=>
 if (!c)then
 (idx a i0).bind fun d=>
 (Ah s0 [d]).bind some
 else
 some s0) 0 (a.length:Int) []).bind some
def IP(l:d5)(g:d5)(b:BB)(m:d6):Option Fp:=
 (It m.d3 b.d3).bind fun a=>
 (sr (fun i0(s0:Fp)=>
 (De m.d4 i0).bind fun c=>
 (if(!c)then((idx g.d4 i0).bind fun d=>
 (De a d.ne).bind fun e=>
 (if e then some true else((idx g.d4 i0).bind fun f=>
 (De a f.To).bind some)).bind some)else some false).bind fun j=>
 if j then
 (Ah s0 [i0]).bind some
 else
 some s0) 0 (g.d4.length:Int) []).bind some
def KH(n:Int)(l:Fp):Option Fp:=
 (sr (fun i0(s0:Fp)=>
 (De l i0).bind fun a=>
 if (!a)then
 (Ah s0 [i0]).bind some
 else
 some s0) 0 n []).bind some
def Oj(l:d5)(g:d5)(a:BB)(m:d6):Option (BB×Int):=
 (NA l g a m).bind fun b=>
 if (!b=0)then
 some (BB.mk [] [],b)
 else
 (FL m.d3 a.d3).bind fun c=>
 (FL m.d4 a.d4).bind fun d=>
 if (0<(Ae ((c.length:Int)+(d.length:Int))):Bool)then
 some (BB.mk [] [],15)
 else
 (IP l g a m).bind fun e=>
 if (0<(e.length:Int):Bool)then
 some (BB.mk [] [],14)
 else
 (It m.d3 a.d3).bind fun f=>
 (KH (g.d3.length:Int) f).bind fun h=>
 (It m.d4 a.d4).bind fun i=>
 (KH (g.d4.length:Int) i).bind fun j=>
 some (BB.mk h j,0)
def IT(n:Int)(b:Fp)(m:Fp):Option Fp:=
 (sr (fun i0(s0:Fp)=>
 (Ah s0 [(-1)]).bind some) 0 n []).bind fun s0=>
 (sr (fun i2(s2:Fp)=>
 (idx b i2).bind fun a=>
 (idx m i2).bind fun d=>
 (idx s2 a).bind fun e=>
 some (BG s2 a d)) 0 (b.length:Int) s0).bind some
def Ep(c:AX)(a:Fp):K1:=
 fq (kl (ρ:=Bool) (fun i0 _=>
 (idx c.p.d4 i0).bind fun b=>
 if ((a.length:Int)<=b.ne||(a.length:Int)<=b.To)then
 some (.next ())
 else
 (sr (fun i2(s2:Bool)=>
 (idx c.g.d4 i2).bind fun d=>
 (if s2 then some true else((if(b.mo=d.mo:Bool)then((idx a b.ne).bind fun e=>
 some (decide (d.ne=e)))else some false).bind fun f=>
 (if f then((idx a b.To).bind fun h=>
 some (decide (d.To=h)))else some false).bind some)).bind some) 0 (c.g.d4.length:Int) false).bind fun s2=>
 if (!s2)then
 some (.ret false)
 else
 some (.next ())) 0 (c.p.d4.length:Int) ()) (fun _=>
 some true) some
def Cc[Ev](b:AX)(l:Fp)(n:Int):K1:=
 fq (EO (ρ:=Bool) (fun(s0:Int)=>
 if (s0<(l.length:Int)&&b.ej)then
 (idx l s0).bind fun a=>
 if (a=n:Bool)then
 some (.ret true)
 else
 some (.next (Ae (s0+1)))
 else
 some (.brk s0)) 0) (fun s0=>
 some false) some
def B7[Ev]:Nat->AX->Fp->Fp->Option AX
 |0,_,_,_=>none|n+1,a,b,l=>
  if (a.up<(a.AaA.length:Int):Bool)then
  some a
  else
  if ((l.length:Int)=(a.p.d4.length:Int):Bool)then
  (Ah [] b).bind fun o=>
  (Ah [] l).bind fun q=>
  (Ah a.AaA [d6.mk o q]).bind fun r=>
  some (AX.mk a.t a.p a.g a.gp a.ej a.up r)
  else
  (idx a.p.d4 (l.length:Int)).bind fun c=>
  fq (EO (ρ:=AX) (fun(s0:AX×Int)=>
  if (s0.2<(s0.1.g.d4.length:Int):Bool)then
  (idx s0.1.g.d4 s0.2).bind fun d=>
  (idx s0.1.gp.d4 (l.length:Int)).bind fun s=>
  (if(0<=s:Bool)then((idx s0.1.gp.d4 (l.length:Int)).bind fun u=>
  some (!u=s0.2))else some false).bind fun v=>
  (if v then some true else((Cc s0.1 l s0.2).bind some)).bind fun x=>
  (if(x||(!c.mo=d.mo))then some true else((idx b c.ne).bind fun e=>
  some (!d.ne=e))).bind fun f=>
  (if f then some true else((idx b c.To).bind fun h=>
  some (!d.To=h))).bind fun i=>
  if i then
  some (.next (s0.1,Ae (s0.2+1)))
  else
  (Ah [] l).bind fun j=>
  (Ah j [s0.2]).bind fun k=>
  (B7 n s0.1 b k).bind fun m=>
  some (.next (m,Ae (s0.2+1)))
  else
  some (.brk (s0.1,s0.2))) (a,0)) (fun s0=>
  some s0.1) some
def LK[Ev](b:AX)(a:Fp)(l:Fp):Option AX:=Jb fun n=>B7 n b a l
def B8[Ev]:Nat->AX->Fp->Option AX
 |0,_,_=>none|n+1,a,l=>
  (if(a.up<(a.AaA.length:Int):Bool)then some true else((Ep a l).bind fun d=>
  some (!d))).bind fun e=>
  if e then
  some a
  else
  if ((l.length:Int)=(a.p.d3.length:Int):Bool)then
  (LK a l []).bind some
  else
  fq (EO (ρ:=AX) (fun(s0:AX×Int)=>
  if (s0.2<(s0.1.g.d3.length:Int):Bool)then
  (idx s0.1.gp.d3 (l.length:Int)).bind fun h=>
  (if(0<=h:Bool)then((idx s0.1.gp.d3 (l.length:Int)).bind fun i=>
  some (!i=s0.2))else some false).bind fun j=>
  (if j then some true else((Cc s0.1 l s0.2).bind some)).bind fun m=>
  (if m then some true else((idx s0.1.g.d3 s0.2).bind fun o=>
  (idx s0.1.p.d3 (l.length:Int)).bind fun q=>
  (Gl s0.1.t o q).bind fun r=>
  some (!r))).bind fun s=>
  if s then
  some (.next (s0.1,Ae (s0.2+1)))
  else
  (Ah [] l).bind fun u=>
  (Ah u [s0.2]).bind fun b=>
  (B8 n s0.1 b).bind fun c=>
  some (.next (c,Ae (s0.2+1)))
  else
  some (.brk (s0.1,s0.2))) (a,0)) (fun s0=>
  some s0.1) some
def ID[Ev](a:AX)(l:Fp):Option AX:=Jb fun n=>B8 n a l
def Ng[Ev](t:AC)(p:d5)(g:d5)(b:d6)(a:Bool)(c:Int):Option (List d6):=
 (ID (AX.mk t p g b a c []) []).bind fun d=>
 some d.AaA
def IS(l:Fp)(a:Int)(n:Int):QQ:=
 if (!(l.length:Int)=a)then
 some 20
 else
 fq (kl (ρ:=Int) (fun i0 _=>
 (idx l i0).bind fun b=>
 (if(b<(-1):Bool)then some true else((idx l i0).bind fun c=>
 some (decide (n<=c)))).bind fun d=>
 if d then
 some (.ret 6)
 else
 some (.next ())) 0 (l.length:Int) ()) (fun _=>
 some 0) some
def Ju[Ev](t:AC)(p:d5)(g:d5)(a:d6)(b:Bool):Option (List d6×Int):=
 (Hy t p g).bind fun c=>
 if (!c=0)then
 some ([],c)
 else
 if ((!(a.d3.length:Int)=(p.d3.length:Int))||(!(a.d4.length:Int)=(p.d4.length:Int)))then
 some ([],20)
 else
 (IS a.d3 (p.d3.length:Int) (g.d3.length:Int)).bind fun d=>
 if (!d=0)then
 some ([],d)
 else
 (IS a.d4 (p.d4.length:Int) (g.d4.length:Int)).bind fun e=>
 if (!e=0)then
 some ([],e)
 else
 (Ng t p g a b 5000).bind fun f=>
 if (5000<(f.length:Int):Bool)then
 some ([],3)
 else
 some (f,0)
def EK(a:j4)(c:Fp):Option (Int×Int):=
 if (a.Var<(-1)||(c.length:Int)<=a.Var)then
 some (0,6)
 else
 (Hz a c).bind fun b=>
 some (b,0)
def Jx(q:ec)(p:AG)(m:d6)(c:Fp):Option (Fp×Bool):=
 (Ah [] c).bind fun h=>
 (IJ q.hV false).bind fun i=>
 (sr (fun i0(s0:Fp×a6)=>
 (idx s0.2 i0).bind fun t=>
 if ((c.length:Int)<=i0:Bool)then
 (Ah s0.1 [0]).bind fun j=>
 some (j,BG s0.2 i0 (decide (i0<(c.length:Int))))
 else
 some (s0.1,BG s0.2 i0 (decide (i0<(c.length:Int))))) 0 q.hV (h,i)).bind fun s0=>
 fq (kl (ρ:=(Fp×Bool)) (fun i2(s2:Fp×a6)=>
 (idx q.ff i2).bind fun a=>
 (idx m.d3 a.tl).bind fun k=>
 (idx p.gn k).bind fun l=>
 (idx l a.kq).bind fun e=>
 (if(0<=a.j4.Var:Bool)then((idx s2.2 a.j4.Var).bind fun n=>
 some (!n))else some false).bind fun o=>
 if o then
 (idx s2.1 a.j4.Var).bind fun r=>
 (idx s2.2 a.j4.Var).bind fun s=>
 (EK a.j4 (BG s2.1 a.j4.Var (Ae (e-a.j4.Add)))).bind fun d=>
 if (!d.1=e)then
 some (.ret ([],false))
 else
 some (.next (BG s2.1 a.j4.Var (Ae (e-a.j4.Add)),BG s2.2 a.j4.Var true))
 else
 (EK a.j4 s2.1).bind fun d=>
 if (!d.1=e)then
 some (.ret ([],false))
 else
 some (.next (s2.1,s2.2))) 0 (q.ff.length:Int) (s0.1,s0.2)) (fun s2=>
 fq (kl (ρ:=(Fp×Bool)) (fun i4 _=>
 (idx q.sc i4).bind fun b=>
 (EK b.kp s2.1).bind fun f=>
 (EK b.fd s2.1).bind fun g=>
 if (b.ns=1&&g.1<f.1||(b.ns=2&&(!f.1=g.1)))then
 some (.ret ([],false))
 else
 some (.next ())) 0 (q.sc.length:Int) ()) (fun _=>
 some (s2.1,true)) some) some
def Gn[Ev](t:AC)(c:d7)(e:AG)(m:AM)(a:Bool):Option (List AM×Int):=
 (IT (c.ec.d5.d3.length:Int) c.Map.d3 m.d6.d3).bind fun f=>
 (IT (c.ec.d5.d4.length:Int) c.Map.d4 m.d6.d4).bind fun g=>
 (Ju t c.ec.d5 e.d5 (d6.mk f g) a).bind fun b=>
 if (!b.2=0)then
 some ([],b.2)
 else
 (sr (fun i0(s0:List AM)=>
 (idx b.1 i0).bind fun h=>
 (Jx c.ec e h m.hV).bind fun d=>
 if d.2 then
 (idx b.1 i0).bind fun i=>
 (Ah s0 [AM.mk i d.1]).bind some
 else
 some s0) 0 (b.1.length:Int) []).bind fun s0=>
 some (s0,0)
def Df[Ev]:Nat->AC->d7->AG->AM->Bool->Option (Az×Int)
 |0,_,_,_,_,_=>none|n+1,t,c,f,m,a=>
  if (c.ns=2:Bool)then
  (idx c.gt 0).bind fun l=>
  (Df n t l f m a).bind fun g=>
  if (g.2=0:Bool)then
  some (C1,10)
  else
  if (g.2=10:Bool)then
  some (C1,0)
  else
  some (C1,g.2)
  else
  if (c.ns=3:Bool)then
  fq (kl (ρ:=(Az×Int)) (fun i1(s1:Az×Az)=>
  (idx c.gt i1).bind fun o=>
  (Df n t o f m a).bind fun h=>
  if (!h.2=0)then
  some (.ret (C1,h.2))
  else
  (Ah s1.2.gt [h.1]).bind fun p=>
  some (.next (s1.1,Az.mk s1.2.AaC s1.2.pc p))) 0 (c.gt.length:Int) (C1,C1)) (fun s1=>
  some (s1.2,0)) some
  else
  if (c.ns=4:Bool)then
  fq (kl (ρ:=(Az×Int)) (fun i3(s3:Az)=>
  (idx c.gt i3).bind fun q=>
  (Df n t q f m a).bind fun d=>
  if (!d.2=10)then
  some (.ret (Az.mk i3 (AM.mk (d6.mk [] []) []) [d.1],d.2))
  else
  some (.next s3)) 0 (c.gt.length:Int) C1) (fun s3=>
  some (C1,10)) some
  else
  if (c.ns=5:Bool)then
  (Gn t c f m a).bind fun b=>
  if (!b.2=0)then
  some (C1,b.2)
  else
  fq (kl (ρ:=(Az×Int)) (fun i5(s5:Az)=>
  (idx c.gt 0).bind fun i=>
  (idx b.1 i5).bind fun j=>
  (Df n t i f j a).bind fun e=>
  if (!e.2=10)then
  (idx b.1 i5).bind fun k=>
  some (.ret (Az.mk 0 k [e.1],e.2))
  else
  some (.next s5)) 0 (b.1.length:Int) C1) (fun s5=>
  some (C1,10)) some
  else
  some (C1,0)
def PW[Ev](t:AC)(c:d7)(b:AG)(m:AM)(a:Bool):Option (Az×Int):=Jb fun n=>Df n t c b m a
def Kl[Ev](t:AC)(c:d7)(d:AG)(m:AM)(a:Bool):Option (Bool×Int):=
 (PW t c d m a).bind fun b=>
 if (b.2=10:Bool)then
 some (false,0)
 else
 some (decide (b.2=0),b.2)
def KK[Ev](t:AC)(a:hT)(b:AG)(m:AM):Option (BB×Int):=
 (Hx t a.kp.d5 b.d5 m.d6 a.pq).bind fun g=>
 if (!g=0)then
 some (BB.mk [] [],1)
 else
 (Kj t a.kp b m.d6).bind fun c=>
 if (!c.2=0)then
 some (BB.mk [] [],c.2)
 else
 (Gd c.1 m.hV).bind fun h=>
 if (!h)then
 some (BB.mk [] [],11)
 else
 (IQ t a.kp.d5 b.d5 m.d6).bind fun d=>
 if (!d.2=0)then
 some (BB.mk [] [],d.2)
 else
 (Oj d.1 b.d5 a.x4 m.d6).bind fun e=>
 if (!e.2=0)then
 some (BB.mk [] [],e.2)
 else
 (Kl t a.d7 b m a.pq).bind fun f=>
 (if(f.2=0&&(!f.1))then
 some 16
 else
 some f.2).bind fun w1=>
 some (e.1,w1)
def I2[Ev](t:AC)(b:AG)(p:BB):Option (AG×Int):=
 (GV t b).bind fun c=>
 if (!c.2=0)then
 some (AG.mk (d5.mk [] []) [],c.2)
 else
 (G6 b.d5 p).bind fun a=>
 if (!a.2.2=0)then
 some (AG.mk (d5.mk [] []) [],a.2.2)
 else
 fq (EO (ρ:=(AG×Int)) (fun(s0:AG×Int)=>
 if (s0.2<(a.2.1.d3.length:Int):Bool)then
 (idx a.2.1.d3 s0.2).bind fun d=>
 (idx b.gn d).bind fun e=>
 (Ah [] e).bind fun f=>
 (Ah s0.1.gn [f]).bind fun g=>
 some (.next (AG.mk s0.1.d5 g,Ae (s0.2+1)))
 else
 some (.brk (s0.1,s0.2))) (AG.mk a.1 [],0)) (fun s0=>
 some (s0.1,0)) some
def KG(l:Fp)(n:Int):Option Fp:=
 (sr (fun i0(s0:Fp)=>
 (Ah s0 [(-1)]).bind fun a=>
 (sr (fun i2(s2:Fp)=>
 (idx l i2).bind fun b=>
 if (b=i0:Bool)then
 (idx s2 i0).bind fun c=>
 some (BG s2 i0 i2)
 else
 some s2) 0 (l.length:Int) a).bind some) 0 n []).bind some
def Jz(n:Int)(a:Fp):Option Fp:=
 (KG a n).bind some
def K4[Ev](t:AC)(a:AG)(d:BB):Option (AG×d6):=
 (I2 t a d).bind fun b=>
 (Jz (a.d5.d3.length:Int) d.d3).bind fun c=>
 (Jz (a.d5.d4.length:Int) d.d4).bind fun e=>
 some (b.1,d6.mk c e)
def Gf(a:Fp)(b:Fp):Option Fp:=
 (sr (fun i0(s0:Fp)=>
 (idx a i0).bind fun c=>
 (idx b c).bind fun d=>
 (Ah s0 [d]).bind some) 0 (a.length:Int) []).bind some
def E8(e:Fp)(d:Fp)(a:Int)(l:Fp)(b:Int):Option Fp:=
 (KG d a).bind fun c=>
 (sr (fun i0(s0:Int×Fp)=>
 (idx c i0).bind fun f=>
 if (0<=f:Bool)then
 (idx c i0).bind fun g=>
 (idx e g).bind fun h=>
 (idx l h).bind fun i=>
 (Ah s0.2 [i]).bind fun j=>
 some (s0.1,j)
 else
 (Ah s0.2 [s0.1]).bind fun k=>
 some (Ae (s0.1+1),k)) 0 a (b,[])).bind fun s0=>
 some s0.2
def G7(a:Fp)(c:Int):K1:=
 fq (kl (ρ:=Bool) (fun i0 _=>
 (idx a i0).bind fun b=>
 if (b=c:Bool)then
 some (.ret false)
 else
 some (.next ())) 0 (a.length:Int) ()) (fun _=>
 some true) some
def KJ[Ev](t:AC)(a:hT)(p:AG)(c:d6):Option AG:=
 fq (EO (ρ:=AG) (fun(s0:AG×Int)=>
 if (s0.2<(a.fd.d5.d3.length:Int):Bool)then
 (G7 a.sx.d3 s0.2).bind fun h=>
 if (!h)then
 some (.next (s0.1,Ae (s0.2+1)))
 else
 (idx a.fd.d5.d3 s0.2).bind fun i=>
 (Ah s0.1.d5.d3 [i]).bind fun j=>
 (idx a.fd.d5.d3 s0.2).bind fun k=>
 (FR t k).bind fun d=>
 (sr (fun i2(s2:Fp)=>
 (idx d.1 i2).bind fun l=>
 (Ah s2 [l.Low]).bind some) 0 (d.1.length:Int) []).bind fun s2=>
 (Ah s0.1.gn [s2]).bind fun n=>
 some (.next (AG.mk (d5.mk j s0.1.d5.d4) n,Ae (s0.2+1)))
 else
 some (.brk (s0.1,s0.2))) (p,0)) (fun s0=>
 fq (EO (ρ:=AG) (fun(s4:AG×Int)=>
 if (s4.2<(a.fd.d5.d4.length:Int):Bool)then
 (G7 a.sx.d4 s4.2).bind fun o=>
 if o then
 (idx a.fd.d5.d4 s4.2).bind fun b=>
 (idx c.d3 b.ne).bind fun e=>
 (idx c.d3 b.To).bind fun f=>
 (Ah s4.1.d5.d4 [Bf.mk b.mo e f]).bind fun g=>
 some (.next (AG.mk (d5.mk s4.1.d5.d3 g) s4.1.gn,Ae (s4.2+1)))
 else
 some (.next (s4.1,Ae (s4.2+1)))
 else
 some (.brk (s4.1,s4.2))) (s0.1,0)) (fun s4=>
 some s4.1) some) some
def LU[Ev](t:AC)(a:hT)(C:AG)(c:d6)(e:Fp):Option (AG×Int):=
 fq (kl (ρ:=(AG×Int)) (fun i0(s0:AG)=>
 (idx a.fd.ff i0).bind fun q=>
 (EK q.j4 e).bind fun r=>
 fq (kl (ρ:=(AG×Int)) (fun i2(s2:AG)=>
 (idx a.fd.ff i2).bind fun s=>
 (EK s.j4 e).bind fun u=>
 (idx a.fd.ff i2).bind fun v=>
 (idx c.d3 v.tl).bind fun w=>
 (idx a.fd.ff i0).bind fun x=>
 (idx c.d3 x.tl).bind fun y=>
 (if(w=y:Bool)then((idx a.fd.ff i2).bind fun z=>
 (idx a.fd.ff i0).bind fun A=>
 some (decide (z.kq=A.kq)))else some false).bind fun B=>
 if (B&&(!r.1=u.1))then
 some (.ret (AG.mk (d5.mk [] []) [],11))
 else
 some (.next s2)) 0 i0 s0) (fun s2=>
 some (.next s2)) (fun v2=>some (.ret v2))) 0 (a.fd.ff.length:Int) (AG.mk (d5.mk [] []) [])) (fun s0=>
 fq (kl (ρ:=(AG×Int)) (fun i4(s4:AG×AG)=>
 (idx a.fd.ff i4).bind fun i=>
 (EK i.j4 e).bind fun b=>
 (idx a.fd.ff i4).bind fun j=>
 (idx c.d3 j.tl).bind fun d=>
 (idx s4.1.d5.d3 d).bind fun k=>
 (FR t k).bind fun f=>
 (idx a.fd.ff i4).bind fun l=>
 (idx f.1 l.kq).bind fun m=>
 (if(b.1<m.Low:Bool)then some true else((idx a.fd.ff i4).bind fun n=>
 (idx f.1 n.kq).bind fun o=>
 some (decide (o.AaE<b.1)))).bind fun p=>
 if p then
 some (.ret (AG.mk (d5.mk [] []) [],6))
 else
 (idx s4.1.gn d).bind fun g=>
 (idx a.fd.ff i4).bind fun h=>
 (idx g h.kq).bind fun D=>
 some (.next (AG.mk s4.1.d5 (BG s4.1.gn d (BG g h.kq b.1)),s4.2))) 0 (a.fd.ff.length:Int) (C,s0)) (fun s4=>
 some (s4.1,0)) some) some
def Ks[Ev](t:AC)(a:hT)(e:AG)(m:AM):Option (Ar×Int):=
 (NC t a e).bind fun h=>
 if (!h=0)then
 some (Hp,h)
 else
 (KK t a e m).bind fun c=>
 if (!c.2=0)then
 some (Hp,c.2)
 else
 (K4 t e c.1).bind fun d=>
 (Gf m.d6.d3 d.2.d3).bind fun i=>
 (Gf m.d6.d4 d.2.d4).bind fun j=>
 (E8 a.x4.d3 a.sx.d3 (a.fd.d5.d3.length:Int) i (c.1.d3.length:Int)).bind fun f=>
 (E8 a.x4.d4 a.sx.d4 (a.fd.d5.d4.length:Int) j (c.1.d4.length:Int)).bind fun g=>
 (Gm d.1).bind fun k=>
 (KJ t a k (d6.mk f g)).bind fun l=>
 (LU t a l (d6.mk f g) m.hV).bind fun b=>
 if (!b.2=0)then
 some (Hp,b.2)
 else
 if (40<(b.1.d5.d3.length:Int)||80<(b.1.d5.d4.length:Int))then
 some (Hp,3)
 else
 some (Ar.mk a m e b.1 d.2 (d6.mk f g),0)
def MJ[Ev](t:AC)(a:List hT)(d:AG)(m:C4):Option (Ar×Int):=
 if (m.hT<0||(a.length:Int)<=m.hT)then
 some (Hp,6)
 else
 (idx a m.hT).bind fun c=>
 (Ks t c d m.pc).bind fun b=>
 some (b.1,b.2)
def J1[Ev](t:AC)(a:List hT)(d:AY):Option (List Ar×Int×Int):=
 (JL t a d.o3).bind fun c=>
 if (!c=0)then
 some ([],0,c)
 else
 if (30<(d.kg.length:Int):Bool)then
 some ([],0,3)
 else
 fq (kl (ρ:=(List Ar×Int×Int)) (fun i0(s0:List Ar×AG)=>
 (idx d.kg i0).bind fun e=>
 (MJ t a s0.2 e).bind fun b=>
 if (!b.2=0)then
 some (.ret ([],i0,b.2))
 else
 (Ah s0.1 [b.1]).bind fun f=>
 some (.next (f,b.1.tn))) 0 (d.kg.length:Int) ([],d.o3)) (fun s0=>
 some (s0.1,(s0.1.length:Int),0)) some
def JK(l:Fp)(f:Fp):Option Fp:=
 (sr (fun i0(s0:Fp)=>
 (idx l i0).bind fun a=>
 if (a<0:Bool)then
 (Ah s0 [(-1)]).bind some
 else
 (idx l i0).bind fun c=>
 (idx f c).bind fun d=>
 (Ah s0 [d]).bind some) 0 (l.length:Int) []).bind some
def Kt[Ev](t:AC)(b:List hT)(d:AY):Option (AG×d6×Int):=
 (J1 t b d).bind fun a=>
 if (!a.2.2=0)then
 some (AG.mk (d5.mk [] []) [],d6.mk [] [],a.2.2)
 else
 (Oi d.o3.d5).bind fun c=>
 (sr (fun i0(s0:AG×d6)=>
 (idx a.1 i0).bind fun e=>
 (idx a.1 i0).bind fun f=>
 (JK s0.2.d3 f.Aan.d3).bind fun g=>
 (idx a.1 i0).bind fun h=>
 (JK s0.2.d4 h.Aan.d4).bind fun i=>
 some (e.tn,d6.mk g i)) 0 (a.1.length:Int) (d.o3,c)).bind fun s0=>
 (Gm s0.1).bind fun j=>
 some (j,s0.2,0)
def KE(a:Fp)(b:Fp):K1:=
 if (!(a.length:Int)=(b.length:Int))then
 some false
 else
 fq (kl (ρ:=Bool) (fun i0 _=>
 (idx a i0).bind fun c=>
 (idx b i0).bind fun d=>
 if (!c=d)then
 some (.ret false)
 else
 some (.next ())) 0 (a.length:Int) ()) (fun _=>
 some true) some
def MB(a:d5)(b:d5):K1:=
 (KE a.d3 b.d3).bind fun c=>
 if ((!c)||(!(a.d4.length:Int)=(b.d4.length:Int)))then
 some false
 else
 fq (kl (ρ:=Bool) (fun i0 _=>
 (idx a.d4 i0).bind fun d=>
 (idx b.d4 i0).bind fun e=>
 if (!d=e)then
 some (.ret false)
 else
 some (.next ())) 0 (a.d4.length:Int) ()) (fun _=>
 some true) some
def I3[Ev](a:Fp)(b:Fp):QQ:=
 fq (EO (ρ:=Int) (fun(s0:Int)=>
 if (s0<(a.length:Int)&&s0<(b.length:Int))then
 (idx a s0).bind fun c=>
 (idx b s0).bind fun d=>
 if (!c=d)then
 (idx a s0).bind fun e=>
 (idx b s0).bind fun f=>
 some (.ret (Ae (e-f)))
 else
 some (.next (Ae (s0+1)))
 else
 some (.brk s0)) 0) (fun s0=>
 some (Ae ((a.length:Int)-(b.length:Int)))) some
def MD[Ev](a:AG)(b:AG):K1:=
 (MB a.d5 b.d5).bind fun c=>
 if ((!c)||(!(a.gn.length:Int)=(b.gn.length:Int)))then
 some false
 else
 fq (kl (ρ:=Bool) (fun i0 _=>
 (idx a.gn i0).bind fun d=>
 (idx b.gn i0).bind fun e=>
 (I3 d e).bind fun f=>
 if (!f=0)then
 some (.ret false)
 else
 some (.next ())) 0 (a.gn.length:Int) ()) (fun _=>
 some true) some
def MC(a:d6)(b:d6):K1:=
 (Gd a.d3 b.d3).bind fun e=>
 (if e then((Gd a.d4 b.d4).bind some)else some false).bind some
def Fu[Ev](c:HT):K1:=
 (EB).bind fun m=>
 (if(!m)then some true else((NW c).bind fun d=>
 some (!d))).bind fun e=>
 if e then
 (EB).bind some
 else
 (GE c.AbC).bind fun g=>
 (J0 c.D).bind fun h=>
 (C7 c.T g h).bind fun a=>
 (Kt c.T c.AbC c.D).bind fun b=>
 (if(a.2.2=b.2.2:Bool)then((MD a.1 b.1).bind some)else some false).bind fun j=>
 (if j then((MC a.2.1 b.2.1).bind some)else some false).bind some
end
end Go.Sf.Sc
