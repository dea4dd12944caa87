/- The functions of the program as Lean functions. -/
import Derived.Test.YtbgedoajacpdbaaGreatDoorTypes
import Derived.Test.YtbgedoajacpdbaaGreatDoorSfText
import Derived.Test.YtbgedoajacpdbaaGreatDoorSfF
set_option linter.all false
set_option maxRecDepth 100000
namespace Go.Sf.Sc
open Go Go.Sf
noncomputable section
abbrev Hu:Ar:=Ar.mk (gp.mk (⟨#[]⟩:ByteArray) (ec.mk (d4.mk [] []) [] 0 []) (ec.mk (d4.mk [] []) [] 0 []) (BB.mk [] []) (d6.mk [] []) false (d7.mk 0 [] (d6.mk [] []) (ec.mk (d4.mk [] []) [] 0 []))) (AL.mk (d6.mk [] []) []) (AG.mk (d4.mk [] []) []) (AG.mk (d4.mk [] []) []) (d6.mk [] []) (d6.mk [] [])
abbrev C4:Az:=Az.mk 0 (AL.mk (d6.mk [] []) []) []
abbrev O0:AO:=AO.mk (AG.mk (d4.mk [] []) []) []
def KB(c:Int):K1:=
 some (97<=c&&c<=122||(65<=c&&c<=90))
def Ge[Ev](a:ByteArray)(e:Int->K1):QQ:=
 gn (ES (ρ:=Int) (fun(s0:Int)=>
 (if(s0<(a.size:Int):Bool)then((AaE a s0).bind fun b=>
 (e b).bind some)else some false).bind fun d=>
 if d then
 some (.next (Af (s0+1)))
 else
 some (.brk s0)) 0) some some
def JW(c:Int):K1:=
 some (48<=c&&c<=57)
def MY(c:Int):K1:=
 (KB c).bind fun a=>
 (if a then some true else((JW c).bind some)).bind fun d=>
 some (d||c=95)
def KV(c:Int):K1:=
 some ((32<=c&&c<=126)&&(!c=34))
def Fr[Ev](a:ByteArray):Option (Int×Int):=
 (AaJ a 1 a.size).bind fun e=>
 (Ge e KV).bind fun b=>
 (if((Af (1+b))=(a.size:Int):Bool)then some true else((AaE a (Af (1+b))).bind fun c=>
 some (!c=34))).bind fun d=>
 if d then
 some (0,2)
 else
 if (60<b:Bool)then
 some (0,3)
 else
 some (Af (b+2),0)
def slices_Index_string(a:List ByteArray)(c:ByteArray):QQ:=
 gn (kl (ρ:=Int) (fun i0 _=>
 (idx a i0).bind fun b=>
 if (c==b)then
 some (.ret i0)
 else
 some (.next ())) 0 (a.length:Int) ()) (fun _=>
 some (-1)) some
def slices_Contains_string(a:List ByteArray)(b:ByteArray):K1:=
 (slices_Index_string a b).bind fun c=>
 some (decide (0<=c))
def MW(a:ByteArray):K1:=
 (if(2<=(a.size:Int):Bool)then((AaJ a 0 2).bind fun d=>
 (slices_Contains_string [(⟨#[45,62]⟩:ByteArray),(⟨#[60,61]⟩:ByteArray),(⟨#[62,61]⟩:ByteArray),(⟨#[61,61]⟩:ByteArray),(⟨#[33,61]⟩:ByteArray)] d).bind some)else some false).bind some
def strings_IndexByte(s:ByteArray)(c:Int):QQ:=some (Go.Lib.indexByte s.data.toList c.toNat.toUInt8)
def Hp[Ev](a:ByteArray):Option (Int×Int×Int):=
 (AaE a 0).bind fun b=>
 (KB b).bind fun f=>
 if f then
 (Ge a MY).bind fun c=>
 if (20<c:Bool)then
 some (0,0,3)
 else
 some (1,c,0)
 else
 (JW b).bind fun g=>
 if g then
 (Ge a JW).bind fun d=>
 if (9<d:Bool)then
 some (0,0,3)
 else
 some (2,d,0)
 else
 if (b=34:Bool)then
 (Fr a).bind fun e=>
 some (3,e.1,e.2)
 else
 (MW a).bind fun h=>
 if h then
 some (4,2,0)
 else
 (strings_IndexByte (⟨#[123,125,40,41,91,93,44,59,58,61,43,45,42,60,62,33,38,124,46,63]⟩:ByteArray) b).bind fun i=>
 if (0<=i:Bool)then
 some (4,1,0)
 else
 some (0,0,2)
def H6[Ev](t:EK):Option (ByteArray×Bool):=
 (if(t.og=3:Bool)then
 (My (⟨#[34]⟩:ByteArray) t.AbV).bind fun b=>
 (My b (⟨#[34]⟩:ByteArray)).bind some
 else
 some t.AbV).bind fun w1=>
 if (w1==(⟨#[]⟩:ByteArray))then
 some ((⟨#[]⟩:ByteArray),false)
 else
 (Hp w1).bind fun a=>
 some (w1,(a.2.2=0&&a.1=t.og)&&a.2.1=(w1.size:Int))
def DD[Ev](a:ByteArray):K1:=
 (H6 (EK.mk 1 a 0)).bind fun b=>
 some b.2
def Cr[Ev](a:List B1)(f:B1->K1):QQ:=
 gn (kl (ρ:=Int) (fun i0 _=>
 (idx a i0).bind fun b=>
 (f b).bind fun c=>
 if c then
 some (.ret i0)
 else
 some (.next ())) 0 (a.length:Int) ()) (fun _=>
 some (-1)) some
def B7[Ev](a:List B1)(f:B1->K1):K1:=
 (Cr a f).bind fun b=>
 some (decide (0<=b))
def Ma(m:B1)(a:B1):K1:=
 some (m.po==a.po)
def C3[Ev]:Nat->AC->Int->Option (List mo)
 |0,_,_=>none|n+1,t,a=>
  (idx t.d3 a).bind fun b=>
  (if(0<=b.Aad:Bool)then
  (C3 n t b.Aad).bind some
  else
  some []).bind fun w1=>
  (idx t.d3 a).bind fun d=>
  (Ag w1 d.x3).bind some
def JX[Ev](t:AC)(a:Int):Option (List mo):=Jh fun n=>C3 n t a
def DY[Ev](a:List mo)(f:mo->K1):QQ:=
 gn (kl (ρ:=Int) (fun i0 _=>
 (idx a i0).bind fun b=>
 (f b).bind fun c=>
 if c then
 some (.ret i0)
 else
 some (.next ())) 0 (a.length:Int) ()) (fun _=>
 some (-1)) some
def CS[Ev](a:List mo)(f:mo->K1):K1:=
 (DY a f).bind fun b=>
 some (decide (0<=b))
def IG(y:mo)(a:mo):K1:=
 some (y.po==a.po)
def Gg[Ev](l:List ByteArray):QQ:=
 if (20<(l.length:Int):Bool)then
 some 3
 else
 gn (kl (ρ:=Int) (fun i0 _=>
 (idx l i0).bind fun a=>
 (DD a).bind fun b=>
 if (!b)then
 some (.ret 2)
 else
 (slc l 0 i0).bind fun c=>
 (slices_Contains_string c a).bind fun d=>
 if d then
 some (.ret 5)
 else
 some (.next ())) 0 (l.length:Int) ()) (fun _=>
 some 0) some
def D9[Ev](a:mo)(b:List mo):QQ:=
 (DD a.po).bind fun d=>
 if (!d)then
 some 2
 else
 (CS b (fun y0=>IG y0 a)).bind fun e=>
 if e then
 some 5
 else
 (Gg a.wi).bind fun c=>
 if (!c=0)then
 some c
 else
 (if(0<(a.wi.length:Int):Bool)then
 some (a.Low=0&&a.AaD=(Af ((a.wi.length:Int)-1)))
 else
 some (((-1000000)<=a.Low&&a.Low<=a.AaD)&&a.AaD<=1000000)).bind fun w1=>
 if (!w1)then
 some 6
 else
 some 0
def Hr[Ev](t:AC)(c:Int):QQ:=
 (idx t.d3 c).bind fun a=>
 (DD a.po).bind fun e=>
 if (!e)then
 some 2
 else
 (slc t.d3 0 c).bind fun f=>
 (B7 f (fun y0=>Ma y0 a)).bind fun g=>
 if g then
 some 5
 else
 if (a.Aad<(-1)||c<=a.Aad)then
 some 6
 else
 if (4<(a.x3.length:Int):Bool)then
 some 3
 else
 (JX t c).bind fun b=>
 if (8<(b.length:Int):Bool)then
 some 3
 else
 gn (kl (ρ:=Int) (fun i1 _=>
 (idx b i1).bind fun h=>
 (slc b 0 i1).bind fun i=>
 (D9 h i).bind fun d=>
 if (!d=0)then
 some (.ret d)
 else
 some (.next ())) (Af ((b.length:Int)-(a.x3.length:Int))) (b.length:Int) ()) (fun _=>
 some 0) some
def KC(n:Int)(a:AC):K1:=
 some (0<=n&&n<(a.d3.length:Int))
def Cq[Ev](a:List CB)(f:CB->K1):QQ:=
 gn (kl (ρ:=Int) (fun i0 _=>
 (idx a i0).bind fun b=>
 (f b).bind fun c=>
 if c then
 some (.ret i0)
 else
 some (.next ())) 0 (a.length:Int) ()) (fun _=>
 some (-1)) some
def B6[Ev](a:List CB)(f:CB->K1):K1:=
 (Cq a f).bind fun b=>
 some (decide (0<=b))
def MZ(y:CB)(a:CB):K1:=
 some (y.po==a.po)
def JH(b:Int)(a:Int):K1:=
 some ((0<=b&&b<=40)&&(a=(-1)||(b<=a&&a<=40)))
def Hq[Ev](t:AC)(c:Int):QQ:=
 (idx t.d5 c).bind fun a=>
 (DD a.po).bind fun d=>
 if (!d)then
 some 2
 else
 (slc t.d5 0 c).bind fun e=>
 (B6 e (fun y0=>MZ y0 a)).bind fun f=>
 if f then
 some 5
 else
 (KC a.ns t).bind fun g=>
 (if(!g)then some true else((KC a.To t).bind fun h=>
 some (!h))).bind fun b=>
 (if b then
 some b
 else
 (JH a.Abf a.AaZ).bind fun i=>
 (if(!i)then some true else((JH a.AbB a.Abj).bind fun j=>
 some (!j))).bind some).bind fun w1=>
 if w1 then
 some 6
 else
 some 0
def C5[Ev](t:AC):Option (ByteArray×Int):=
 if ((t.d3.length:Int)=0:Bool)then
 some ((⟨#[]⟩:ByteArray),7)
 else
 if (12<(t.d3.length:Int)||20<(t.d5.length:Int))then
 some ((⟨#[]⟩:ByteArray),3)
 else
 gn (kl (ρ:=(ByteArray×Int)) (fun i1 _=>
 (idx t.d3 i1).bind fun c=>
 (Hr t i1).bind fun a=>
 if (!a=0)then
 some (.ret (c.po,a))
 else
 some (.next ())) 0 (t.d3.length:Int) ()) (fun _=>
 gn (kl (ρ:=(ByteArray×Int)) (fun i3 _=>
 (idx t.d5 i3).bind fun d=>
 (Hq t i3).bind fun b=>
 if (!b=0)then
 some (.ret (d.po,b))
 else
 some (.next ())) 0 (t.d5.length:Int) ()) (fun _=>
 some ((⟨#[]⟩:ByteArray),0)) some) some
def Ck[Ev](a:Fp)(f:Int->K1):QQ:=
 gn (kl (ρ:=Int) (fun i0 _=>
 (idx a i0).bind fun b=>
 (f b).bind fun c=>
 if c then
 some (.ret i0)
 else
 some (.next ())) 0 (a.length:Int) ()) (fun _=>
 some (-1)) some
def Ak[Ev](a:Fp)(f:Int->K1):K1:=
 (Ck a f).bind fun b=>
 some (decide (0<=b))
def Gn(n:Int)(a:Int):K1:=
 some (0<=n&&n<=a)
def K8(t:Int):K1:=
 (Gn t 99).bind fun a=>
 some (!a)
def DZ[Ev](a:List Bl)(f:Bl->K1):QQ:=
 gn (kl (ρ:=Int) (fun i0 _=>
 (idx a i0).bind fun b=>
 (f b).bind fun c=>
 if c then
 some (.ret i0)
 else
 some (.next ())) 0 (a.length:Int) ()) (fun _=>
 some (-1)) some
def BM[Ev](a:List Bl)(f:Bl->K1):K1:=
 (DZ a f).bind fun b=>
 some (decide (0<=b))
def L3(e:Bl)(a:Int):K1:=
 (Gn e.ne 99).bind fun g=>
 (if g then((Gn e.ns (Af (a-1))).bind some)else some false).bind fun c=>
 (if c then((Gn e.To (Af (a-1))).bind some)else some false).bind some
def K9(e:Bl)(b:d4):K1:=
 (L3 e (b.d3.length:Int)).bind fun a=>
 some (!a)
def CY[Ev](g:d4):QQ:=
 if (40<(g.d3.length:Int)||80<(g.d5.length:Int))then
 some 3
 else
 (Ak g.d3 K8).bind fun a=>
 if a then
 some 6
 else
 (BM g.d5 (fun y0=>K9 y0 g)).bind fun b=>
 if b then
 some 6
 else
 some 0
def LG(a:Int)(b:AC):K1:=
 some (a<0||(b.d3.length:Int)<=a)
def Ep[Ev](t:AC)(l:Fp):QQ:=
 (C5 t).bind fun b=>
 if (!b.2=0)then
 some b.2
 else
 (Ak l (fun y0=>LG y0 t)).bind fun a=>
 if a then
 some 6
 else
 some 0
def slices_Clone_string(a:List ByteArray):Option (List ByteArray):=
 Ag [] a
def Dn[Ev](t:AC)(a:Int):Option (List mo×Int):=
 (Ep t [a]).bind fun c=>
 if (!c=0)then
 some ([],c)
 else
 (JX t a).bind fun d=>
 (sr (fun i0(s0:List mo)=>
 (idx s0 i0).bind fun e=>
 (slices_Clone_string e.wi).bind fun f=>
 (idx s0 i0).bind fun b=>
 some (BH s0 i0 (mo.mk b.po b.Low b.AaD f))) 0 (d.length:Int) d).bind fun s0=>
 some (s0,0)
def Ig[Ev](t:AC)(a:Int)(h:Fp):QQ:=
 if ((t.d3.length:Int)<=a:Bool)then
 some 6
 else
 (idx t.d3 a).bind fun d=>
 if d.Aaq then
 some 13
 else
 (Dn t a).bind fun b=>
 if (!(h.length:Int)=(b.1.length:Int))then
 some 20
 else
 gn (kl (ρ:=Int) (fun i0 _=>
 (idx b.1 i0).bind fun c=>
 (idx h i0).bind fun e=>
 (if(e<c.Low:Bool)then some true else((idx h i0).bind fun f=>
 some (decide (c.AaD<f)))).bind fun g=>
 if g then
 some (.ret 6)
 else
 some (.next ())) 0 (b.1.length:Int) ()) (fun _=>
 some 0) some
def slices_Index_int(a:Fp)(c:Int):QQ:=
 gn (kl (ρ:=Int) (fun i0 _=>
 (idx a i0).bind fun b=>
 if (c=b:Bool)then
 some (.ret i0)
 else
 some (.next ())) 0 (a.length:Int) ()) (fun _=>
 some (-1)) some
def slices_Contains_int(a:Fp)(b:Int):K1:=
 (slices_Index_int a b).bind fun c=>
 some (decide (0<=c))
def slices_Reverse_int(l:Fp):Option Fp:=if l.length<=Ad then some l.reverse else none
def I4[Ev](t:AC)(a:Int):Option Fp:=
 gn (ES (ρ:=Fp) (fun(s0:Int×Fp)=>
 if (0<=s0.1:Bool)then
 (Ag s0.2 [s0.1]).bind fun b=>
 (idx t.d3 s0.1).bind fun c=>
 some (.next (c.Aad,b))
 else
 some (.brk (s0.1,s0.2))) (a,[])) (fun s0=>
 (slices_Reverse_int s0.2).bind some) some
def H8[Ev](t:AC)(a:Int)(b:Int):K1:=
 (I4 t a).bind fun d=>
 (slices_Contains_int d b).bind some
def GV[Ev](t:AC)(a:Int)(b:Int)(c:Int):K1:=
 (Ep t [b,c]).bind fun d=>
 if (((!d=0)||a<0)||(t.d5.length:Int)<=a)then
 some false
 else
 (idx t.d5 a).bind fun e=>
 (H8 t b e.ns).bind fun f=>
 (if f then((idx t.d5 a).bind fun g=>
 (H8 t c g.To).bind some)else some false).bind some
def Ex[Ev](t:AC)(a:AG):Option (Int×Int):=
 (C5 t).bind fun c=>
 if (!c.2=0)then
 some ((-1),c.2)
 else
 (CY a.d4).bind fun d=>
 if (!d=0)then
 some ((-1),d)
 else
 if (!(a.fq.length:Int)=(a.d4.d3.length:Int))then
 some ((-1),20)
 else
 gn (kl (ρ:=(Int×Int)) (fun i0 _=>
 (idx a.d4.d3 i0).bind fun f=>
 (idx a.fq i0).bind fun g=>
 (Ig t f g).bind fun e=>
 if (!e=0)then
 some (.ret (i0,e))
 else
 some (.next ())) 0 (a.d4.d3.length:Int) ()) (fun _=>
 gn (kl (ρ:=(Int×Int)) (fun i2 _=>
 (idx a.d4.d5 i2).bind fun b=>
 if ((t.d5.length:Int)<=b.ne:Bool)then
 some (.ret (i2,6))
 else
 (idx a.d4.d3 b.ns).bind fun h=>
 (idx a.d4.d3 b.To).bind fun i=>
 (GV t b.ne h i).bind fun j=>
 if (!j)then
 some (.ret (i2,13))
 else
 some (.next ())) 0 (a.d4.d5.length:Int) ()) (fun _=>
 some ((-1),0)) some) some
def GB(n:Int)(a:AC):K1:=
 some (decide ((a.d3.length:Int)<=n))
def GD(a:Bl)(b:AC):K1:=
 some (decide ((b.d5.length:Int)<=a.ne))
def CR(n:Int)(b:Int)(a:Int):K1:=
 some (b<=n&&n<=a)
def EY[Ev](t:AC)(p:ec)(a:CX):Option (mo×Bool):=
 (CR a.tg 0 (Af ((p.d4.d3.length:Int)-1))).bind fun c=>
 if (!c)then
 some (mo.mk (⟨#[]⟩:ByteArray) 0 0 [],false)
 else
 (idx p.d4.d3 a.tg).bind fun d=>
 (Dn t d).bind fun b=>
 (CR a.mo 0 (Af ((b.1.length:Int)-1))).bind fun e=>
 if (!e)then
 some (mo.mk (⟨#[]⟩:ByteArray) 0 0 [],false)
 else
 (idx b.1 a.mo).bind fun f=>
 some (f,true)
def HP(n:Int)(t:kg):K1:=
 some ((((-1)<=t.Var&&t.Var<n)&&(-1000000)<=t.Add)&&t.Add<=1000000)
def IL(n:Int)(a:Test):QQ:=
 if ((!a.og=1)&&(!a.og=2))then
 some 1
 else
 (HP n a.kq).bind fun b=>
 (if(!b)then some true else((HP n a.fd).bind fun c=>
 some (!c))).bind fun d=>
 if d then
 some 6
 else
 some 0
def Gm(n:Int)(l:List Test):QQ:=
 if (n<0||12<n)then
 some 6
 else
 if (40<(l.length:Int):Bool)then
 some 3
 else
 gn (kl (ρ:=Int) (fun i0 _=>
 (idx l i0).bind fun b=>
 (IL n b).bind fun a=>
 if (!a=0)then
 some (.ret a)
 else
 some (.next ())) 0 (l.length:Int) ()) (fun _=>
 some 0) some
def IF(a:a6)(c:Bool):QQ:=
 gn (kl (ρ:=Int) (fun i0 _=>
 (idx a i0).bind fun b=>
 if (c==b)then
 some (.ret i0)
 else
 some (.next ())) 0 (a.length:Int) ()) (fun _=>
 some (-1)) some
def E2(a:a6)(b:Bool):K1:=
 (IF a b).bind fun c=>
 some (decide (0<=c))
def Cf[Ev](t:AC)(p:ec):QQ:=
 (C5 t).bind fun c=>
 if (!c.2=0)then
 some c.2
 else
 (CY p.d4).bind fun d=>
 if (!d=0)then
 some d
 else
 (Ak p.d4.d3 (fun y0=>GB y0 t)).bind fun f=>
 (if f then some true else((BM p.d4.d5 (fun y0=>GD y0 t)).bind some)).bind fun h=>
 if h then
 some 13
 else
 (CR p.hV 0 12).bind fun i=>
 if (!i)then
 some 6
 else
 if (10<(p.ff.length:Int)||10<(p.sc.length:Int))then
 some 3
 else
 (IQ p.hV false).bind fun j=>
 gn (kl (ρ:=Int) (fun i0(s0:a6)=>
 (idx p.ff i0).bind fun a=>
 (EY t p a).bind fun k=>
 (if(!k.2)then some true else((CR a.kg.Var (-1) (Af (p.hV-1))).bind fun l=>
 some (!l))).bind fun m=>
 (if m then some true else((CR a.kg.Add (-1000000) 1000000).bind fun n=>
 some (!n))).bind fun o=>
 if o then
 some (.ret 6)
 else
 if (0<=a.kg.Var:Bool)then
 (idx s0 a.kg.Var).bind fun q=>
 some (.next (BH s0 a.kg.Var true))
 else
 some (.next s0)) 0 (p.ff.length:Int) j) (fun s0=>
 (Gm p.hV p.sc).bind fun b=>
 if (!b=0)then
 some b
 else
 (E2 s0 false).bind fun e=>
 if e then
 some 9
 else
 some 0) some
def MR(n:Int)(a:AC):K1:=
 some (decide ((a.d3.length:Int)<=n))
def MS(a:Bl)(b:AC):K1:=
 some (decide ((b.d5.length:Int)<=a.ne))
def Hj[Ev](t:AC)(g:d4):K1:=
 (Ak g.d3 (fun y0=>MR y0 t)).bind fun c=>
 (if(!c)then((BM g.d5 (fun y0=>MS y0 t)).bind fun a=>
 some (!a))else some false).bind some
def Da[Ev](a:List CX)(f:CX->K1):QQ:=
 gn (kl (ρ:=Int) (fun i0 _=>
 (idx a i0).bind fun b=>
 (f b).bind fun c=>
 if c then
 some (.ret i0)
 else
 some (.next ())) 0 (a.length:Int) ()) (fun _=>
 some (-1)) some
def CE[Ev](a:List CX)(f:CX->K1):K1:=
 (Da a f).bind fun b=>
 some (decide (0<=b))
def NO(y:CX)(a:CX):K1:=
 some (y.tg=a.tg&&y.mo=a.mo)
def Im[Ev](t:AC)(b:gp)(c:Int):QQ:=
 (idx b.fd.ff c).bind fun a=>
 if (a.tg<0||(b.fd.d4.d3.length:Int)<=a.tg)then
 some 6
 else
 (idx b.fd.d4.d3 a.tg).bind fun d=>
 (Dn t d).bind fun e=>
 if (((((a.mo<0||(e.1.length:Int)<=a.mo)||a.kg.Var<(-1))||b.fd.hV<=a.kg.Var)||a.kg.Add<(-1000000))||1000000<a.kg.Add)then
 some 6
 else
 (slc b.fd.ff 0 c).bind fun f=>
 (CE f (fun y0=>NO y0 a)).bind fun g=>
 if g then
 some 5
 else
 some 0
def Hi[Ev](t:AC)(a:gp):QQ:=
 (CY a.fd.d4).bind fun b=>
 if (!b=0)then
 some b
 else
 (Hj t a.fd.d4).bind fun d=>
 if (!d)then
 some 13
 else
 if ((!a.fd.hV=a.kq.hV)||0<(a.fd.sc.length:Int))then
 some 1
 else
 if (10<(a.fd.ff.length:Int):Bool)then
 some 3
 else
 gn (kl (ρ:=Int) (fun i1 _=>
 (Im t a i1).bind fun c=>
 if (!c=0)then
 some (.ret c)
 else
 some (.next ())) 0 (a.fd.ff.length:Int) ()) (fun _=>
 some 0) some
def C1[Ev](a:d4)(b:d4)(m:d6):QQ:=
 (CY a).bind fun g=>
 if (!g=0)then
 some g
 else
 (CY b).bind fun h=>
 if (!h=0)then
 some h
 else
 if ((!(m.d3.length:Int)=(a.d3.length:Int))||(!(m.d5.length:Int)=(a.d5.length:Int)))then
 some 20
 else
 gn (kl (ρ:=Int) (fun i0 _=>
 (idx m.d3 i0).bind fun c=>
 if (c<0||(b.d3.length:Int)<=c)then
 some (.ret 6)
 else
 (idx b.d3 c).bind fun l=>
 (idx a.d3 i0).bind fun n=>
 if (!l=n)then
 some (.ret 13)
 else
 some (.next ())) 0 (m.d3.length:Int) ()) (fun _=>
 gn (kl (ρ:=Int) (fun i2 _=>
 (idx m.d5 i2).bind fun d=>
 if (d<0||(b.d5.length:Int)<=d)then
 some (.ret 6)
 else
 (idx a.d5 i2).bind fun e=>
 (idx b.d5 d).bind fun f=>
 if (!e.ne=f.ne)then
 some (.ret 13)
 else
 (idx m.d3 e.ns).bind fun i=>
 (if(!i=f.ns)then some true else((idx m.d3 e.To).bind fun j=>
 some (!j=f.To))).bind fun k=>
 if k then
 some (.ret 11)
 else
 some (.next ())) 0 (m.d5.length:Int) ()) (fun _=>
 some 0) some) some
def slices_Clone_int(a:Fp):Option Fp:=
 Ag [] a
def slices_Sort_int(l:Fp):Option Fp:=if l.length<=Ad then some (PF l)else none
def slices_Compact_int(l:Fp):Option Fp:=if l.length<=Ad then some (Go.Lib.compact l)else none
def Fy(l:Fp):QQ:=
 (slices_Clone_int l).bind fun a=>
 (slices_Sort_int a).bind fun b=>
 (slices_Compact_int b).bind fun c=>
 some (c.length:Int)
def Cj[Ev](a:d4)(b:d4)(m:d6):K1:=
 (C1 a b m).bind fun c=>
 (if(c=0:Bool)then((Fy m.d3).bind fun d=>
 some (decide (d=(m.d3.length:Int))))else some false).bind fun e=>
 (if e then((Fy m.d5).bind fun f=>
 some (decide (f=(m.d5.length:Int))))else some false).bind some
def HH(l:Fp)(n:Int):QQ:=
 gn (kl (ρ:=Int) (fun i0 _=>
 (idx l i0).bind fun a=>
 if (a<0||n<=a)then
 some (.ret 6)
 else
 (if(0<i0:Bool)then((idx l (Af (i0-1))).bind fun b=>
 some (decide (a<=b)))else some false).bind fun c=>
 if c then
 some (.ret 12)
 else
 some (.next ())) 0 (l.length:Int) ()) (fun _=>
 some 0) some
def slices_BinarySearch_int(l:Fp)(x:Int):Option (Int×Bool):=if l.length<=Ad/\l.Pairwise (·<=·)then some ((l.countP (·<x):Nat),l.contains x)else none
def KA(l:Fp)(n:Int):K1:=
 (slices_BinarySearch_int l n).bind fun a=>
 some a.2
def LF(g:d4)(p:BB):QQ:=
 (HH p.d3 (g.d3.length:Int)).bind fun a=>
 if (!a=0)then
 some a
 else
 (HH p.d5 (g.d5.length:Int)).bind fun b=>
 if (!b=0)then
 some b
 else
 gn (kl (ρ:=Int) (fun i0 _=>
 (idx p.d5 i0).bind fun c=>
 (idx g.d5 c).bind fun d=>
 (KA p.d3 d.ns).bind fun e=>
 (if(!e)then some true else((idx g.d5 c).bind fun f=>
 (KA p.d3 f.To).bind fun h=>
 some (!h))).bind fun i=>
 if i then
 some (.ret 14)
 else
 some (.next ())) 0 (p.d5.length:Int) ()) (fun _=>
 some 0) some
def Dv[Ev](g:d4)(p:BB):QQ:=
 (CY g).bind fun b=>
 if (!b=0)then
 some b
 else
 (LF g p).bind some
def Dj[Ev](g:d4)(p:BB):Option (d4×d6×Int):=
 (Dv g p).bind fun b=>
 if (!b=0)then
 some (d4.mk [] [],d6.mk [] [],b)
 else
 (sr (fun i0(s0:d4)=>
 (idx p.d3 i0).bind fun c=>
 (idx g.d3 c).bind fun d=>
 (Ag s0.d3 [d]).bind fun e=>
 some (d4.mk e s0.d5)) 0 (p.d3.length:Int) (d4.mk [] [])).bind fun s0=>
 (sr (fun i2(s2:d4)=>
 (idx p.d5 i2).bind fun f=>
 (idx g.d5 f).bind fun a=>
 (slices_BinarySearch_int p.d3 a.ns).bind fun h=>
 (slices_BinarySearch_int p.d3 a.To).bind fun i=>
 (Ag s2.d5 [Bl.mk a.ne h.1 i.1]).bind fun j=>
 some (d4.mk s2.d3 j)) 0 (p.d5.length:Int) s0).bind fun s2=>
 (slices_Clone_int p.d3).bind fun k=>
 (slices_Clone_int p.d5).bind fun l=>
 some (s2,d6.mk k l,0)
def Il[Ev](a:gp):QQ:=
 (Dj a.kq.d4 a.x4).bind fun b=>
 if (!b.2.2=0)then
 some b.2.2
 else
 (C1 b.1 a.fd.d4 a.sx).bind fun c=>
 if (!c=0)then
 some c
 else
 (Cj b.1 a.fd.d4 a.sx).bind fun d=>
 if (!d)then
 some 11
 else
 some 0
def JV(l:Fp)(n:Int):Option Fp:=
 (sr (fun i0(s0:Fp)=>
 (slices_Contains_int l i0).bind fun a=>
 if (!a)then
 (Ag s0 [i0]).bind some
 else
 some s0) 0 n []).bind some
def J8(a:gp):Option (Fp×Fp):=
 (JV a.sx.d3 (a.fd.d4.d3.length:Int)).bind fun b=>
 (JV a.sx.d5 (a.fd.d4.d5.length:Int)).bind fun c=>
 some (b,c)
def KS(c:Int)(d:AC)(e:d4):K1:=
 (idx e.d3 c).bind fun a=>
 (idx d.d3 a).bind fun b=>
 some b.Aaq
def FQ[Ev](e:Int)(f:d4)(g:AC):K1:=
 (idx f.d5 e).bind fun a=>
 (idx f.d3 a.ns).bind fun b=>
 (idx f.d3 a.To).bind fun c=>
 (GV g a.ne b c).bind fun d=>
 some (!d)
def Fk[Ev](t:AC)(g:d4)(b:Fp)(a:Fp):K1:=
 (Ak b (fun y0=>KS y0 t g)).bind fun c=>
 (if(!c)then((Ak a (fun y0=>FQ y0 g t)).bind fun d=>
 some (!d))else some false).bind some
def EZ(c:d7):K1:=
 some ((Af ((Af ((Af ((Af ((Af ((c.Map.d3.length:Int)+(c.Map.d5.length:Int)))+(c.ec.d4.d3.length:Int)))+(c.ec.d4.d5.length:Int)))+(c.ec.ff.length:Int)))+(c.ec.sc.length:Int)))=0&&c.ec.hV=0)
def Cd[Ev](a:List d7)(f:d7->K1):QQ:=
 gn (kl (ρ:=Int) (fun i0 _=>
 (idx a i0).bind fun b=>
 (f b).bind fun c=>
 if c then
 some (.ret i0)
 else
 some (.next ())) 0 (a.length:Int) ()) (fun _=>
 some (-1)) some
def Bg[Ev](a:List d7)(f:d7->K1):K1:=
 (Cd a f).bind fun b=>
 some (decide (0<=b))
mutual
def BJ[Ev]:Nat->d7->K1
 |0,_=>none|n+1,c=>
  (if(c.og=1:Bool)then
  (if((c.hT.length:Int)=0:Bool)then((EZ c).bind some)else some false).bind some
  else
  if (c.og=2:Bool)then
  (if((c.hT.length:Int)=1:Bool)then((EZ c).bind some)else some false).bind some
  else
  if (c.og=3:Bool)then
  if (c.og=3:Bool)then
  (if(1<=(c.hT.length:Int):Bool)then((EZ c).bind some)else some false).bind some
  else
  if (c.og=5:Bool)then
  some (decide ((c.hT.length:Int)=1))
  else
  some false
  else
  if (c.og=4:Bool)then
  (if(1<=(c.hT.length:Int):Bool)then((EZ c).bind some)else some false).bind some
  else
  if (c.og=5:Bool)then
  some (decide ((c.hT.length:Int)=1))
  else
  some false).bind fun w1=>
  (if w1 then((Bg c.hT (BT n)).bind fun h=>
  some (!h))else some false).bind some
def BT[Ev]:Nat->d7->K1
 |0,_=>none|n+1,k=>
  (BJ n k).bind fun a=>
  some (!a)
end
def Ew[Ev](c:d7):K1:=Jh fun n=>BJ n c
def Pc[Ev](k:d7):K1:=Jh fun n=>BT n k
def CC[Ev]:Nat->d7->Option (Int×Int)
 |0,_=>none|n+1,c=>
  (sr (fun i0(s0:Int×Int)=>
  (idx c.hT i0).bind fun b=>
  (CC n b).bind fun a=>
  some (Af (s0.1+a.1),max s0.2 a.2)) 0 (c.hT.length:Int) (1,0)).bind fun s0=>
  (if(c.og=5:Bool)then
  some (Af (s0.2+1))
  else
  some s0.2).bind fun w1=>
  some (s0.1,w1)
def GF[Ev](c:d7):Option (Int×Int):=Jh fun n=>CC n c
def D5[Ev](c:d7):QQ:=
 (Ew c).bind fun b=>
 if (!b)then
 some 1
 else
 (GF c).bind fun a=>
 if (12<a.1||3<a.2)then
 some 3
 else
 some 0
def G3(a:CX)(b:Int):K1:=
 some (decide (a.kg.Var=b))
def DI[Ev](t:AC)(q:ec)(b:Int):QQ:=
 (Cf t q).bind fun a=>
 if (!a=9)then
 some a
 else
 gn (ES (ρ:=Int) (fun(s0:Int)=>
 if (s0<q.hV:Bool)then
 (CE q.ff (fun y0=>G3 y0 s0)).bind fun c=>
 if (!c)then
 some (.ret a)
 else
 some (.next (Af (s0+1)))
 else
 some (.brk s0)) b) (fun s0=>
 some 0) some
def Bv[Ev]:Nat->AC->ec->d7->QQ
 |0,_,_,_=>none|n+1,t,p,c=>
  if (c.og=5:Bool)then
  if (c.ec.hV<p.hV:Bool)then
  some 20
  else
  (DI t c.ec p.hV).bind fun d=>
  if (!d=0)then
  some d
  else
  (C1 p.d4 c.ec.d4 c.Map).bind fun e=>
  if (!e=0)then
  some e
  else
  (Cj p.d4 c.ec.d4 c.Map).bind fun f=>
  if (!f)then
  some 1
  else
  gn (kl (ρ:=Int) (fun i0 _=>
  (idx c.hT i0).bind fun b=>
  (Bv n t c.ec b).bind fun a=>
  if (!a=0)then
  some (.ret a)
  else
  some (.next ())) 0 (c.hT.length:Int) ()) (fun _=>
  some 0) some
  else
  gn (kl (ρ:=Int) (fun i0 _=>
  (idx c.hT i0).bind fun b=>
  (Bv n t p b).bind fun a=>
  if (!a=0)then
  some (.ret a)
  else
  some (.next ())) 0 (c.hT.length:Int) ()) (fun _=>
  some 0) some
def Ix[Ev](t:AC)(p:ec)(c:d7):QQ:=Jh fun n=>Bv n t p c
def Ch[Ev](t:AC)(p:ec)(c:d7):QQ:=
 (Cf t p).bind fun a=>
 if (!a=0)then
 some a
 else
 (D5 c).bind fun b=>
 if (!b=0)then
 some b
 else
 (Ix t p c).bind some
def GR[Ev](t:AC)(a:gp):QQ:=
 (C5 t).bind fun b=>
 if (!b.2=0)then
 some b.2
 else
 (DD a.po).bind fun g=>
 if (!g)then
 some 2
 else
 (Cf t a.kq).bind fun c=>
 if (!c=0)then
 some c
 else
 (Hi t a).bind fun d=>
 if (!d=0)then
 some d
 else
 (Il a).bind fun e=>
 if (!e=0)then
 some e
 else
 (J8 a).bind fun f=>
 (Fk t a.fd.d4 f.1 f.2).bind fun h=>
 if (!h)then
 some 13
 else
 (Ch t a.kq a.d7).bind some
def C9[Ev](t:AC)(a:List gp)(f:AG):QQ:=
 (C5 t).bind fun b=>
 if (!b.2=0)then
 some b.2
 else
 if (10<(a.length:Int):Bool)then
 some 3
 else
 gn (kl (ρ:=Int) (fun i0 _=>
 (idx a i0).bind fun d=>
 (GR t d).bind fun c=>
 if (!c=0)then
 some (.ret c)
 else
 some (.next ())) 0 (a.length:Int) ()) (fun _=>
 (Ex t f).bind fun e=>
 some e.2) some
def Hn[Ev](t:AC)(e:gp)(d:AG):QQ:=
 (C5 t).bind fun a=>
 if (!a.2=0)then
 some a.2
 else
 (GR t e).bind fun b=>
 if (!b=0)then
 some b
 else
 (Ex t d).bind fun c=>
 some c.2
def slices_Equal_int(a:Fp)(b:Fp):K1:=
 if (!(a.length:Int)=(b.length:Int))then
 some false
 else
 gn (kl (ρ:=Bool) (fun i0 _=>
 (idx a i0).bind fun c=>
 (idx b i0).bind fun d=>
 if (!c=d)then
 some (.ret false)
 else
 some (.next ())) 0 (a.length:Int) ()) (fun _=>
 some true) some
def Jj(n:Int)(a:AC):K1:=
 some (decide ((a.d3.length:Int)<=n))
def Jk(a:Bl)(b:AC):K1:=
 some (decide ((b.d5.length:Int)<=a.ne))
def EP[Ev](t:AC)(g:d4):K1:=
 (Ak g.d3 (fun y0=>Jj y0 t)).bind fun c=>
 (if(!c)then((BM g.d5 (fun y0=>Jk y0 t)).bind fun a=>
 some (!a))else some false).bind some
def Di[Ev](t:AC)(p:d4)(g:d4):QQ:=
 (C5 t).bind fun a=>
 if (!a.2=0)then
 some a.2
 else
 gn (kl (ρ:=Int) (fun i0 _=>
 (idx [p,g] i0).bind fun c=>
 (CY c).bind fun b=>
 if (!b=0)then
 some (.ret b)
 else
 some (.next ())) 0 ([p,g].length:Int) ()) (fun _=>
 (EP t p).bind fun d=>
 (if(!d)then some true else((EP t g).bind fun e=>
 some (!e))).bind fun f=>
 if f then
 some 13
 else
 some 0) some
def Gf[Ev](t:AC)(a:Int):Option (Fp×Int):=
 (Ep t [a]).bind fun b=>
 if (!b=0)then
 some ([],b)
 else
 (sr (fun i0(s0:Fp)=>
 (H8 t i0 a).bind fun c=>
 if c then
 (Ag s0 [i0]).bind some
 else
 some s0) 0 (t.d3.length:Int) []).bind fun s0=>
 some (s0,0)
def Ez[Ev](t:AC):Option (List a6):=
 (sr (fun i0(s0:List a6)=>
 (IQ (t.d3.length:Int) false).bind fun c=>
 (Gf t i0).bind fun a=>
 (sr (fun i2(s2:a6)=>
 (idx a.1 i2).bind fun b=>
 (idx s2 b).bind fun e=>
 some (BH s2 b true)) 0 (a.1.length:Int) c).bind fun s2=>
 (Ag s0 [s2]).bind some) 0 (t.d3.length:Int) []).bind some
def E0[Ev](t:AC)(p:d4)(g:d4)(m:d6):QQ:=
 if ((!(m.d3.length:Int)=(p.d3.length:Int))||(!(m.d5.length:Int)=(p.d5.length:Int)))then
 some 20
 else
 (Ez t).bind fun i=>
 gn (kl (ρ:=Int) (fun i0 _=>
 (idx m.d3 i0).bind fun a=>
 if (a<0||(g.d3.length:Int)<=a)then
 some (.ret 6)
 else
 (idx p.d3 i0).bind fun j=>
 (idx i j).bind fun k=>
 (idx g.d3 a).bind fun l=>
 (idx k l).bind fun n=>
 if (!n)then
 some (.ret 13)
 else
 some (.next ())) 0 (m.d3.length:Int) ()) (fun _=>
 gn (kl (ρ:=Int) (fun i2 _=>
 (idx m.d5 i2).bind fun b=>
 if (b<0||(g.d5.length:Int)<=b)then
 some (.ret 6)
 else
 (idx p.d5 i2).bind fun c=>
 (idx g.d5 b).bind fun d=>
 if (!c.ne=d.ne)then
 some (.ret 13)
 else
 (idx m.d3 c.ns).bind fun e=>
 (if(!e=d.ns)then some true else((idx m.d3 c.To).bind fun f=>
 some (!f=d.To))).bind fun h=>
 if h then
 some (.ret 11)
 else
 some (.next ())) 0 (m.d5.length:Int) ()) (fun _=>
 some 0) some) some
def Gw(l:Fp):K1:=if l.length<=4096 then some (AbM l)else none
def EJ[Ev](t:AC)(p:d4)(g:d4)(m:d6)(a:Bool):QQ:=
 (Di t p g).bind fun b=>
 if (!b=0)then
 some b
 else
 (E0 t p g m).bind fun c=>
 if (!c=0)then
 some c
 else
 (if a then((Gw m.d3).bind fun d=>
 (if d then some true else((Gw m.d5).bind some)).bind some)else some false).bind fun h=>
 if h then
 some 5
 else
 some 0
def DR[Ev](t:AC)(p:ec)(c:AG):QQ:=
 (Cf t p).bind fun a=>
 if (!a=0)then
 some a
 else
 (Ex t c).bind fun b=>
 some b.2
def D2(a:kg)(c:Fp):QQ:=
 if (a.Var<0:Bool)then
 some a.Add
 else
 (idx c a.Var).bind fun b=>
 some (Af (b+a.Add))
def Ha(a b c:Int):Option (Int×Int):=if(0<=a/\a<18446744073709551616)/\(0<=b/\b<18446744073709551616)/\0<=c/\c<=1 then some ((a+b+c) % 18446744073709551616,(a+b+c) / 18446744073709551616)else none
def Fx(a:Int)(b:Int):Option (Int×Int):=
 (Ha (IntKind.u64.wrap a) (IntKind.u64.wrap b) 0).bind fun c=>
 (Ke .i64 .shr a 63).bind fun d=>
 (Ke .i64 .shr b 63).bind fun e=>
 some (Af ((Af (d+e))+(Af c.2)),c.1)
def Ea(t:kg)(d:Fp):Option (Int×Int×Bool):=
 if (t.Var=(-1):Bool)then
 (Fx 0 t.Add).bind fun a=>
 some (a.1,a.2,true)
 else
 if (t.Var<0||(d.length:Int)<=t.Var)then
 some (0,0,false)
 else
 (idx d t.Var).bind fun c=>
 (Fx c t.Add).bind fun b=>
 some (b.1,b.2,true)
def Lq(a:Fp):QQ:=
 gn (kl (ρ:=Int) (fun i0 _=>
 (idx a i0).bind fun b=>
 if (!b=0)then
 some (.ret b)
 else
 some (.next ())) 0 (a.length:Int) ()) (fun _=>
 some 0) some
def cmp_isNaN_int(a:Int):K1:=
 some (!a=a)
def cmp_Compare_int(a:Int)(y:Int):QQ:=
 (cmp_isNaN_int a).bind fun c=>
 (cmp_isNaN_int y).bind fun b=>
 if c then
 if b then
 some 0
 else
 some (-1)
 else
 if b then
 some 1
 else
 if (a<y:Bool)then
 some (-1)
 else
 if (y<a:Bool)then
 some 1
 else
 some 0
def Iw(a:Int):K1:=
 some (!a=a)
def HO(a:Int)(y:Int):QQ:=
 (Iw a).bind fun c=>
 (Iw y).bind fun b=>
 if c then
 if b then
 some 0
 else
 some (-1)
 else
 if b then
 some 1
 else
 if (a<y:Bool)then
 some (-1)
 else
 if (y<a:Bool)then
 some 1
 else
 some 0
def FK(a:Test)(g:Fp):K1:=
 (Ea a.kq g).bind fun b=>
 (Ea a.fd g).bind fun c=>
 if ((!b.2.2)||(!c.2.2))then
 some false
 else
 (cmp_Compare_int b.1 c.1).bind fun e=>
 (HO b.2.1 c.2.1).bind fun f=>
 (Lq [e,f]).bind fun d=>
 some (a.og=1&&d<=0||(a.og=2&&d=0))
def Fv(p:ec)(l:AG)(m:d6):Option (Fp×Int):=
 (IQ p.hV 0).bind fun d=>
 (IQ p.hV false).bind fun e=>
 gn (kl (ρ:=(Fp×Int)) (fun i0(s0:Fp×a6)=>
 (idx p.ff i0).bind fun a=>
 (idx m.d3 a.tg).bind fun f=>
 (idx l.fq f).bind fun g=>
 (idx g a.mo).bind fun b=>
 (if(0<=a.kg.Var:Bool)then((idx s0.2 a.kg.Var).bind fun h=>
 some (!h))else some false).bind fun i=>
 if i then
 (idx s0.1 a.kg.Var).bind fun n=>
 (idx s0.2 a.kg.Var).bind fun o=>
 (D2 a.kg (BH s0.1 a.kg.Var (Af (b-a.kg.Add)))).bind fun c=>
 if (!c=b)then
 some (.ret ([],11))
 else
 some (.next (BH s0.1 a.kg.Var (Af (b-a.kg.Add)),BH s0.2 a.kg.Var true))
 else
 (D2 a.kg s0.1).bind fun c=>
 if (!c=b)then
 some (.ret ([],11))
 else
 some (.next (s0.1,s0.2))) 0 (p.ff.length:Int) (d,e)) (fun s0=>
 gn (kl (ρ:=(Fp×Int)) (fun i2 _=>
 (idx p.sc i2).bind fun j=>
 (FK j s0.1).bind fun k=>
 if (!k)then
 some (.ret ([],16))
 else
 some (.next ())) 0 (p.sc.length:Int) ()) (fun _=>
 some (s0.1,0)) some) some
def DQ[Ev](t:AC)(p:ec)(a:AG)(m:d6):Option (Fp×Int):=
 (DR t p a).bind fun b=>
 if (!b=0)then
 some ([],b)
 else
 (EJ t p.d4 a.d4 m false).bind fun c=>
 if (!c=0)then
 some ([],c)
 else
 (Fv p a m).bind fun d=>
 some (d.1,d.2)
def Gx[Ev](t:AC)(b:gp)(c:AG)(m:AL):QQ:=
 (EJ t b.kq.d4 c.d4 m.d6 b.pq).bind fun d=>
 if (!d=0)then
 some 1
 else
 (DQ t b.kq c m.d6).bind fun a=>
 if (!a.2=0)then
 some a.2
 else
 (slices_Equal_int a.1 m.hV).bind fun e=>
 if (!e)then
 some 11
 else
 some 0
def DK(a:List Bl):Option (List Bl):=
 Ag [] a
def D7[Ev](t:AC)(p:d4)(g:d4)(m:d6):Option (d4×Int):=
 (Di t p g).bind fun a=>
 if (!a=0)then
 some (d4.mk [] [],a)
 else
 (E0 t p g m).bind fun b=>
 if (!b=0)then
 some (d4.mk [] [],b)
 else
 (DK p.d5).bind fun c=>
 (sr (fun i0(s0:d4)=>
 (idx m.d3 i0).bind fun d=>
 (idx g.d3 d).bind fun e=>
 (Ag s0.d3 [e]).bind fun f=>
 some (d4.mk f s0.d5)) 0 (m.d3.length:Int) (d4.mk [] c)).bind fun s0=>
 some (s0,0)
def CN[Ev](a:Ba):QQ:=
 (C1 a.l a.g a.m).bind fun b=>
 if (!b=0)then
 some b
 else
 (Dv a.l a.jj).bind some
def FG(a:Fp)(b:Fp):Option (List F5):=
 (sr (fun i0(s0:List F5)=>
 (sr (fun i2(s2:List F5)=>
 (idx a i0).bind fun c=>
 (idx a i2).bind fun d=>
 (if(c=d:Bool)then((slices_Contains_int b i0).bind fun e=>
 (if(!e)then some true else((slices_Contains_int b i2).bind fun f=>
 some (!f))).bind some)else some false).bind fun h=>
 if h then
 (Ag s2 [F5.mk i0 i2]).bind some
 else
 some s2) (Af (i0+1)) (a.length:Int) s0).bind some) 0 (a.length:Int) []).bind some
def DO(a:Ba):Option (List F5×List F5):=
 (FG a.m.d3 a.jj.d3).bind fun b=>
 (FG a.m.d5 a.jj.d5).bind fun c=>
 some (b,c)
def C7(a:Ba):Option Fp:=
 (sr (fun i0(s0:Fp)=>
 (idx a.m.d3 i0).bind fun b=>
 (slices_Contains_int a.jj.d3 i0).bind fun c=>
 if (!c)then
 (Ag s0 [b]).bind some
 else
 some s0) 0 (a.m.d3.length:Int) []).bind some
def Cy(a:Ba):Option Fp:=
 (C7 a).bind fun j=>
 (sr (fun i0(s0:Fp)=>
 (idx a.g.d5 i0).bind fun b=>
 (slices_Contains_int a.m.d5 i0).bind fun c=>
 (if(!c)then((slices_Contains_int j b.ns).bind fun d=>
 (if d then some true else((slices_Contains_int j b.To).bind some)).bind some)else some false).bind fun h=>
 if h then
 (Ag s0 [i0]).bind some
 else
 some s0) 0 (a.g.d5.length:Int) []).bind some
def Fw(n:Int)(a:Fp)(c:Fp):Option Fp:=
 (IQ n false).bind fun d=>
 (sr (fun i0(s0:a6)=>
 (idx a i0).bind fun b=>
 (slices_Contains_int c i0).bind fun e=>
 if (!e)then
 (idx s0 b).bind fun h=>
 some (BH s0 b true)
 else
 some s0) 0 (a.length:Int) d).bind fun s0=>
 (sr (fun i2(s2:Fp)=>
 (idx s0 i2).bind fun f=>
 if (!f)then
 (Ag s2 [i2]).bind some
 else
 some s2) 0 (s0.length:Int) []).bind some
def E5[Ev](l:d4)(g:d4)(a:BB)(m:d6):Option (BB×Int):=
 (CN (Ba.mk l g a m)).bind fun b=>
 if (!b=0)then
 some (BB.mk [] [],b)
 else
 (DO (Ba.mk l g a m)).bind fun c=>
 if (0<(Af ((c.1.length:Int)+(c.2.length:Int))):Bool)then
 some (BB.mk [] [],15)
 else
 (Cy (Ba.mk l g a m)).bind fun d=>
 if (0<(d.length:Int):Bool)then
 some (BB.mk [] [],14)
 else
 (Fw (g.d3.length:Int) m.d3 a.d3).bind fun e=>
 (Fw (g.d5.length:Int) m.d5 a.d5).bind fun f=>
 some (BB.mk e f,0)
def D4[Ev](t:AC)(p:ec)(c:d7)(d:AG)(m:AL)(a:Bool):QQ:=
 (Ch t p c).bind fun e=>
 if (!e=0)then
 some e
 else
 (Ex t d).bind fun f=>
 if (!f.2=0)then
 some f.2
 else
 (EJ t p.d4 d.d4 m.d6 a).bind fun g=>
 if (!g=0)then
 some g
 else
 (DQ t p d m.d6).bind fun b=>
 if (!b.2=0)then
 some b.2
 else
 (slices_Equal_int b.1 m.hV).bind fun h=>
 if (!h)then
 some 11
 else
 some 0
def D1(l:Fp)(n:Int):Option Fp:=if l.length=1/\0<=n/\n<=4096 then some (List.replicate n.toNat (l.headD 0))else none
def FH(n:Int)(e:Fp)(a:Fp):Option Fp:=
 (D1 [(-1)] n).bind fun c=>
 (sr (fun i0(s0:Fp)=>
 (idx e i0).bind fun b=>
 (idx a i0).bind fun d=>
 (idx s0 b).bind fun f=>
 some (BH s0 b d)) 0 (e.length:Int) c).bind some
def J9(l:Option Fp)(i:Int):QQ:=match l with
 |none=>some (-1)|some l=>(TX l).bind fun _=>(idx l i).bind some
def DW(f:AI)(c:Int)(k:Int):K1:=
 (idx f.p.d5 c).bind fun a=>
 (J9 f.gt.d5 c).bind fun b=>
 if (0<=b&&(!b=k))then
 some false
 else
 (idx f.g.d5 k).bind fun d=>
 (idx f.ei a.ns).bind fun e=>
 (idx f.ei a.To).bind fun h=>
 some (decide (d=(Bl.mk a.ne e h)))
def B5(f:AI):K1:=
 gn (kl (ρ:=Bool) (fun i0 _=>
 (idx f.p.d5 i0).bind fun a=>
 if (!(max a.ns a.To)=(Af ((f.ei.length:Int)-1)))then
 some (.next ())
 else
 gn (kl (ρ:=Bool) (fun i2(s2:Bool)=>
 (DW f i0 i2).bind fun b=>
 if b then
 some (.brk true)
 else
 some (.next s2)) 0 (f.g.d5.length:Int) false) (fun s2=>
 if (!s2)then
 some (.ret false)
 else
 some (.next ())) (fun v2=>some (.ret v2))) 0 (f.p.d5.length:Int) ()) (fun _=>
 some true) some
def Aw[Ev]:Nat->AI->Option AI
 |0,_=>none|n+1,f=>
  (if((f.out.length:Int)=f.tl:Bool)then
  some f
  else
  if ((f.ei.length:Int)<(f.p.d3.length:Int):Bool)then
  (sr (fun i1(s1:AI)=>
  (idx f.g.d3 i1).bind fun u=>
  (J9 s1.gt.d3 (f.ei.length:Int)).bind fun e=>
  (if(0<=e&&(!e=i1))then some true else((idx s1.p.d3 (f.ei.length:Int)).bind fun v=>
  (idx s1.is v).bind fun w=>
  (idx w u).bind fun x=>
  some (!x))).bind fun h=>
  (if h then some true else((if s1.ej then((slices_Contains_int s1.ei i1).bind some)else some false).bind some)).bind fun k=>
  if k then
  some s1
  else
  (Ag s1.ei [i1]).bind fun c=>
  (B5 (AI.mk s1.p s1.g s1.is s1.gt s1.ej s1.tl c s1.em s1.out)).bind fun l=>
  if l then
  (Aw n (AI.mk s1.p s1.g s1.is s1.gt s1.ej s1.tl c s1.em s1.out)).bind fun a=>
  (slc a.ei 0 (f.ei.length:Int)).bind fun d=>
  some (AI.mk a.p a.g a.is a.gt a.ej a.tl d a.em a.out)
  else
  (slc c 0 (f.ei.length:Int)).bind fun d=>
  some (AI.mk s1.p s1.g s1.is s1.gt s1.ej s1.tl d s1.em s1.out)) 0 (f.g.d3.length:Int) f).bind some
  else
  if ((f.em.length:Int)<(f.p.d5.length:Int):Bool)then
  (sr (fun i3(s3:AI)=>
  (DW s3 (f.em.length:Int) i3).bind fun m=>
  (if(!m)then some true else((if s3.ej then((slices_Contains_int s3.em i3).bind some)else some false).bind some)).bind fun r=>
  if r then
  some s3
  else
  (Ag s3.em [i3]).bind fun s=>
  (Aw n (AI.mk s3.p s3.g s3.is s3.gt s3.ej s3.tl s3.ei s s3.out)).bind fun b=>
  (slc b.em 0 (f.em.length:Int)).bind fun t=>
  some (AI.mk b.p b.g b.is b.gt b.ej b.tl b.ei t b.out)) 0 (f.g.d5.length:Int) f).bind some
  else
  (slices_Clone_int f.ei).bind fun y=>
  (slices_Clone_int f.em).bind fun z=>
  (Ag f.out [d6.mk y z]).bind fun A=>
  some (AI.mk f.p f.g f.is f.gt f.ej f.tl f.ei f.em A)).bind some
def EW[Ev](f:AI):Option AI:=Jh fun n=>Aw n f
def Fm[Ev](t:AC)(p:d4)(g:d4)(b:Mg)(a:Bool)(c:Int):Option (List d6):=
 (Ez t).bind fun d=>
 (EW (AI.mk p g d b a c [] [] [])).bind fun e=>
 some e.out
def Hk[Ev](t:AC)(p:d4)(g:d4)(b:Mg)(a:Bool):Option (List d6×Int):=
 (Fm t p g b a 5001).bind fun c=>
 if (5000<(c.length:Int):Bool)then
 some ([],3)
 else
 some (c,0)
def LE(k:Int)(a:Int):K1:=
 some (k<(-1)||a<=k)
def FZ[Ev](l:Fp)(n:Int):QQ:=
 (Ak l (fun y0=>LE y0 n)).bind fun a=>
 if a then
 some 6
 else
 some 0
def FB[Ev](t:AC)(p:d4)(g:d4)(a:d6)(b:Bool):Option (List d6×Int):=
 (Di t p g).bind fun c=>
 if (!c=0)then
 some ([],c)
 else
 if ((!(a.d3.length:Int)=(p.d3.length:Int))||(!(a.d5.length:Int)=(p.d5.length:Int)))then
 some ([],20)
 else
 (FZ a.d3 (g.d3.length:Int)).bind fun d=>
 if (!d=0)then
 some ([],d)
 else
 (FZ a.d5 (g.d5.length:Int)).bind fun e=>
 if (!e=0)then
 some ([],e)
 else
 (Hk t p g a b).bind fun f=>
 some (f.1,f.2)
def EX(a:kg)(d:Fp):Option (Int×Int):=
 (CR a.Var (-1) (Af ((d.length:Int)-1))).bind fun b=>
 if (!b)then
 some (0,6)
 else
 (D2 a d).bind fun c=>
 some (c,0)
def Db(p:Al)(q:ec)(m:d6)(b:Fp):Option (Fp×Bool):=
 (slices_Clone_int b).bind fun g=>
 (TL g (Af (q.hV-(b.length:Int))) 0).bind fun i=>
 (IQ q.hV false).bind fun j=>
 (sr (fun i0(s0:a6)=>
 (idx s0 i0).bind fun r=>
 some (BH s0 i0 true)) 0 (b.length:Int) j).bind fun s0=>
 gn (kl (ρ:=(Fp×Bool)) (fun i2(s2:Fp×a6)=>
 (idx q.ff i2).bind fun a=>
 (idx m.d3 a.tg).bind fun k=>
 (idx p.h.fq k).bind fun l=>
 (idx l a.mo).bind fun d=>
 (if(0<=a.kg.Var:Bool)then((idx s2.2 a.kg.Var).bind fun n=>
 some (!n))else some false).bind fun o=>
 if o then
 (idx s2.1 a.kg.Var).bind fun s=>
 (idx s2.2 a.kg.Var).bind fun t=>
 (EX a.kg (BH s2.1 a.kg.Var (Af (d-a.kg.Add)))).bind fun c=>
 if ((!c.2=0)||(!c.1=d))then
 some (.ret ([],false))
 else
 some (.next (BH s2.1 a.kg.Var (Af (d-a.kg.Add)),BH s2.2 a.kg.Var true))
 else
 (EX a.kg s2.1).bind fun c=>
 if ((!c.2=0)||(!c.1=d))then
 some (.ret ([],false))
 else
 some (.next (s2.1,s2.2))) 0 (q.ff.length:Int) (i,s0)) (fun s2=>
 gn (kl (ρ:=(Fp×Bool)) (fun i4 _=>
 (idx q.sc i4).bind fun e=>
 (FK e s2.1).bind fun f=>
 if (!f)then
 some (.ret ([],false))
 else
 some (.next ())) 0 (q.sc.length:Int) ()) (fun _=>
 some (s2.1,true)) some) some
def Bm[Ev](b:Al)(c:d7)(m:AL):Option (List AL×Int):=
 (FH (c.ec.d4.d3.length:Int) c.Map.d3 m.d6.d3).bind fun f=>
 (FH (c.ec.d4.d5.length:Int) c.Map.d5 m.d6.d5).bind fun g=>
 (FB b.t c.ec.d4 b.h.d4 (d6.mk f g) b.ej).bind fun a=>
 if (!a.2=0)then
 some ([],a.2)
 else
 (sr (fun i0(s0:List AL)=>
 (idx a.1 i0).bind fun d=>
 (Db b c.ec d m.hV).bind fun e=>
 if e.2 then
 (Ag s0 [AL.mk d e.1]).bind some
 else
 some s0) 0 (a.1.length:Int) []).bind fun s0=>
 some (s0,0)
mutual
def Ai[Ev]:Nat->Al->d7->AL->Option (Az×Int)
 |0,_,_,_=>none|n+1,b,c,m=>
  if (c.og=2:Bool)then
  (idx c.hT 0).bind fun g=>
  (Ai n b g m).bind fun e=>
  if (e.2=0:Bool)then
  some (C4,10)
  else
  if (e.2=10:Bool)then
  some (C4,0)
  else
  some (C4,e.2)
  else
  if (c.og=3:Bool)then
  gn (kl (ρ:=(Az×Int)) (fun i2(s2:Az×Az)=>
  (idx c.hT i2).bind fun h=>
  (Ai n b h m).bind fun f=>
  if (!f.2=0)then
  some (.ret (C4,f.2))
  else
  (Ag s2.2.hT [f.1]).bind fun i=>
  some (.next (s2.1,Az.mk s2.2.AaC s2.2.o3 i))) 0 (c.hT.length:Int) (C4,C4)) (fun s2=>
  some (s2.2,0)) some
  else
  if (c.og=4:Bool)then
  gn (kl (ρ:=(Az×Int)) (fun i4(s4:Az)=>
  (idx c.hT i4).bind fun j=>
  (Ai n b j m).bind fun a=>
  if (a.2=0:Bool)then
  some (.ret (Az.mk i4 (AL.mk (d6.mk [] []) []) [a.1],0))
  else
  if (!a.2=10)then
  some (.ret (C4,a.2))
  else
  some (.next s4)) 0 (c.hT.length:Int) C4) (fun s4=>
  some (C4,10)) some
  else
  if (c.og=5:Bool)then
  (BF n b c m).bind fun d=>
  some (d.1,d.2)
  else
  some (C4,0)
def BF[Ev]:Nat->Al->d7->AL->Option (Az×Int)
 |0,_,_,_=>none|n+1,e,c,m=>
  (Bm e c m).bind fun a=>
  if (!a.2=0)then
  some (C4,a.2)
  else
  gn (kl (ρ:=(Az×Int)) (fun i0(s0:Az)=>
  (idx a.1 i0).bind fun d=>
  (idx c.hT 0).bind fun f=>
  (Ai n e f d).bind fun b=>
  if (b.2=0:Bool)then
  some (.ret (Az.mk 0 d [b.1],0))
  else
  if (!b.2=10)then
  some (.ret (C4,b.2))
  else
  some (.next s0)) 0 (a.1.length:Int) C4) (fun s0=>
  some (C4,10)) some
end
def DP[Ev](a:Al)(c:d7)(m:AL):Option (Az×Int):=Jh fun n=>Ai n a c m
def Nt[Ev](a:Al)(c:d7)(m:AL):Option (Az×Int):=Jh fun n=>BF n a c m
def DH[Ev](t:AC)(p:ec)(c:d7)(e:AG)(m:AL)(a:Bool):Option (Az×Int):=
 (D4 t p c e m a).bind fun b=>
 if (!b=0)then
 some (C4,b)
 else
 (DP (Al.mk t e a) c m).bind fun d=>
 some (d.1,d.2)
def Cv[Ev](t:AC)(p:ec)(c:d7)(d:AG)(m:AL)(a:Bool):Option (Bool×Int):=
 (DH t p c d m a).bind fun b=>
 if (b.2=10:Bool)then
 some (false,0)
 else
 some (decide (b.2=0),b.2)
def Ic(m:AL):Option AL:=
 (slices_Clone_int m.d6.d3).bind fun c=>
 (slices_Clone_int m.d6.d5).bind fun a=>
 (slices_Clone_int m.hV).bind fun b=>
 some (AL.mk (d6.mk c a) b)
def JF(a:AG):Option AG:=
 (slices_Clone_int a.d4.d3).bind fun f=>
 (DK a.d4.d5).bind fun b=>
 (sr (fun i0(s0:AG)=>
 (idx a.fq i0).bind fun c=>
 (Ag [] c).bind fun d=>
 (Ag s0.fq [d]).bind fun e=>
 some (AG.mk s0.d4 e)) 0 (a.fq.length:Int) (AG.mk (d4.mk f b) [])).bind some
def KU(n:Int)(l:Fp):Option Fp:=
 (IQ n 0).bind fun a=>
 (sr (fun i0(s0:Fp)=>
 (slices_BinarySearch_int l i0).bind fun b=>
 if (!b.2)then
 (idx s0 i0).bind fun c=>
 some (BH s0 i0 (-1))
 else
 (idx s0 i0).bind fun c=>
 some (BH s0 i0 b.1)) 0 (a.length:Int) a).bind some
def Fo(d:Int)(f:Fp)(b:Fp)(a:Fp)(c:Fp)(n:Int):Option Fp:=
 (D1 [(-1)] d).bind fun g=>
 (sr (fun i0(s0:Fp)=>
 (idx b i0).bind fun e=>
 (idx f i0).bind fun h=>
 (idx a h).bind fun i=>
 (idx c i).bind fun j=>
 (idx s0 e).bind fun l=>
 some (BH s0 e j)) 0 (b.length:Int) g).bind fun s0=>
 (sr (fun i2(s2:Int×Fp)=>
 (idx s2.2 i2).bind fun k=>
 if (k<0:Bool)then
 (idx s2.2 i2).bind fun m=>
 some (Af (s2.1+1),BH s2.2 i2 s2.1)
 else
 some (s2.1,s2.2)) 0 (s0.length:Int) (n,s0)).bind fun s2=>
 some s2.2
def Ho[Ev](t:AC)(b:Int):Option Fp:=
 (Dn t b).bind fun a=>
 (sr (fun i0(s0:Fp)=>
 (idx a.1 i0).bind fun c=>
 (Ag s0 [c.Low]).bind some) 0 (a.1.length:Int) []).bind some
def GU[Ev](t:AC)(a:Ar)(d:BB):Option Ar:=
 (sr (fun i0(s0:Ar)=>
 (idx d.d3 i0).bind fun f=>
 (idx a.Aat.d4.d3 f).bind fun r=>
 (Ag s0.tn.d4.d3 [r]).bind fun s=>
 (idx a.Aat.fq f).bind fun u=>
 (Ag [] u).bind fun v=>
 (Ag s0.tn.fq [v]).bind fun w=>
 some (Ar.mk s0.gp s0.o3 s0.Aat (AG.mk (d4.mk s s0.tn.d4.d5) w) s0.Aan s0.Aal)) 0 (d.d3.length:Int) a).bind fun s0=>
 (sr (fun i2(s2:Ar)=>
 (idx d.d5 i2).bind fun x=>
 (idx a.Aat.d4.d5 x).bind fun e=>
 (idx s2.Aan.d3 e.ns).bind fun g=>
 (idx s2.Aan.d3 e.To).bind fun h=>
 (Ag s2.tn.d4.d5 [Bl.mk e.ne g h]).bind fun i=>
 some (Ar.mk s2.gp s2.o3 s2.Aat (AG.mk (d4.mk s2.tn.d4.d3 i) s2.tn.fq) s2.Aan s2.Aal)) 0 (d.d5.length:Int) s0).bind fun s2=>
 (sr (fun i4(s4:Ar)=>
 (idx a.gp.fd.d4.d3 i4).bind fun c=>
 (idx s4.Aal.d3 i4).bind fun j=>
 if (j=(s4.tn.d4.d3.length:Int):Bool)then
 (Ag s4.tn.d4.d3 [c]).bind fun k=>
 (Ho t c).bind fun l=>
 (Ag s4.tn.fq [l]).bind fun m=>
 some (Ar.mk s4.gp s4.o3 s4.Aat (AG.mk (d4.mk k s4.tn.d4.d5) m) s4.Aan s4.Aal)
 else
 some s4) 0 (a.gp.fd.d4.d3.length:Int) s2).bind fun s4=>
 (sr (fun i6(s6:Ar)=>
 (idx a.gp.fd.d4.d5 i6).bind fun b=>
 (idx s6.Aal.d5 i6).bind fun n=>
 if (n=(s6.tn.d4.d5.length:Int):Bool)then
 (idx s6.Aal.d3 b.ns).bind fun o=>
 (idx s6.Aal.d3 b.To).bind fun p=>
 (Ag s6.tn.d4.d5 [Bl.mk b.ne o p]).bind fun q=>
 some (Ar.mk s6.gp s6.o3 s6.Aat (AG.mk (d4.mk s6.tn.d4.d3 q) s6.tn.fq) s6.Aan s6.Aal)
 else
 some s6) 0 (a.gp.fd.d4.d5.length:Int) s4).bind some
def ZM(s:Ar):TV:=.agg ((DF s).map (·.t))
def HF(s:Ar):Option (BD×Int):=
 gn (kl (ρ:=(BD×Int)) (fun i0(s0:BD)=>
 (idx s.gp.fd.ff i0).bind fun a=>
 (EX a.kg s.o3.hV).bind fun b=>
 if (!b.2=0)then
 some (.ret ([],b.2))
 else
 (idx s.Aal.d3 a.tg).bind fun c=>
 if ((s0.look (c,a.mo)).isSome&&(!(s0.look (c,a.mo)).getD 0=b.1))then
 some (.ret ([],11))
 else
 some (.next (s0.set (c,a.mo) b.1))) 0 (s.gp.fd.ff.length:Int) []) (fun s0=>some (s0,0)) some
def MU(s:Ar)(V:List Fp):Ar:=Ar.mk s.gp s.o3 s.Aat (AG.mk s.tn.d4 V) s.Aan s.Aal
def Lz[Ev](t:AC)(s:Ar)(V:List Fp)(p:(Int×Int)×Int):Option (Bp (List Fp) Unit):=
 (idx s.tn.d4.d3 p.1.1).bind fun c=>
 (Dn t c).bind fun a=>
 (idx a.1 p.1.2).bind fun d=>
 (if(p.2<d.Low:Bool)then some true else((idx a.1 p.1.2).bind fun e=>
 some (decide (e.AaD<p.2)))).bind fun f=>
 if f then
 some (.ret ())
 else
 (idx V p.1.1).bind fun b=>
 (idx b p.1.2).bind fun g=>
 some (.next (BH V p.1.1 (BH b p.1.2 p.2)))
def L0[Ev](t:AC)(s:Ar)(p:(Int×Int)×Int):K1:=
 (Lz t s s.tn.fq p).bind fun c=>match c with|.next _=>some true|.ret _=>some false|.brk _=>none
def Io[Ev](t:AC)(s:Ar):Option (Int×Ar):=
 (HF s).bind fun a=>
 if (!a.2=0)then
 some (a.2,s)
 else
 if decide (List.Pairwise (fun x y:(Int×Int)×Int=>x.1≠y.1) a.1)then
 (AaS (L0 t s) a.1).bind fun c=>
 if c then
 some (0,MU s (a.1.foldl CT s.tn.fq))
 else
 some (6,s)
 else
 none
def Hm[Ev](t:AC)(a:gp)(d:AG)(m:AL):Option (Ar×Int):=
 (Gx t a d m).bind fun g=>
 if (!g=0)then
 some (Hu,g)
 else
 (D7 t a.kq.d4 d.d4 m.d6).bind fun e=>
 if (!e.2=0)then
 some (Hu,e.2)
 else
 (E5 e.1 d.d4 a.x4 m.d6).bind fun c=>
 if (!c.2=0)then
 some (Hu,c.2)
 else
 (Cv t a.kq a.d7 d m a.pq).bind fun f=>
 if (!f.2=0)then
 some (Hu,f.2)
 else
 if (!f.1)then
 some (Hu,16)
 else
 (Ic m).bind fun n=>
 (JF d).bind fun o=>
 (KU (d.d4.d3.length:Int) c.1.d3).bind fun h=>
 (KU (d.d4.d5.length:Int) c.1.d5).bind fun i=>
 (Fo (a.fd.d4.d3.length:Int) a.x4.d3 a.sx.d3 m.d6.d3 h (c.1.d3.length:Int)).bind fun j=>
 (Fo (a.fd.d4.d5.length:Int) a.x4.d5 a.sx.d5 m.d6.d5 i (c.1.d5.length:Int)).bind fun k=>
 (GU t (Ar.mk a n o (AG.mk (d4.mk [] []) []) (d6.mk h i) (d6.mk j k)) c.1).bind fun l=>
 (Io t l).bind fun b=>
 if (!b.1=0)then
 some (Hu,b.1)
 else
 if (40<(b.2.tn.d4.d3.length:Int)||80<(b.2.tn.d4.d5.length:Int))then
 some (Hu,3)
 else
 some (b.2,0)
def Hl[Ev](t:AC)(d:gp)(c:AG)(m:AL):Option (Ar×Int):=
 (Hn t d c).bind fun a=>
 if (!a=0)then
 some (Hu,a)
 else
 (Hm t d c m).bind fun b=>
 some (b.1,b.2)
def Cn[Ev](t:AC)(a:List gp)(d:AG)(m:Bq):Option (Ar×Int):=
 if (m.gp<0||(a.length:Int)<=m.gp)then
 some (Hu,6)
 else
 (idx a m.gp).bind fun c=>
 (Hl t c d m.o3).bind fun b=>
 some (b.1,b.2)
def DJ[Ev](t:AC)(a:List gp)(d:AO):Option (List Ar×Int×Int):=
 (C9 t a d.kp).bind fun c=>
 if (!c=0)then
 some ([],0,c)
 else
 if (30<(d.j4.length:Int):Bool)then
 some ([],0,3)
 else
 gn (kl (ρ:=(List Ar×Int×Int)) (fun i0(s0:List Ar×AG)=>
 (idx d.j4 i0).bind fun e=>
 (Cn t a s0.2 e).bind fun b=>
 if (!b.2=0)then
 some (.ret ([],i0,b.2))
 else
 (Ag s0.1 [b.1]).bind fun f=>
 some (.next (f,b.1.tn))) 0 (d.j4.length:Int) ([],d.kp)) (fun s0=>
 some (s0.1,(s0.1.length:Int),0)) some
def FM(n:Int):Option Fp:=
 (IQ n 0).bind fun a=>
 (sr (fun i0(s0:Fp)=>
 (idx s0 i0).bind fun b=>
 some (BH s0 i0 i0)) 0 (a.length:Int) a).bind some
def D0[Ev](g:d4):Option (d6×Int):=
 (CY g).bind fun c=>
 if (!c=0)then
 some (d6.mk [] [],c)
 else
 (FM (g.d3.length:Int)).bind fun a=>
 (FM (g.d5.length:Int)).bind fun b=>
 some (d6.mk a b,0)
def Cw[Ev](g:d4):Option d6:=
 (D0 g).bind fun a=>
 some a.1
def FI(l:Fp)(c:Fp):Option Fp:=
 (slices_Clone_int l).bind fun d=>
 (sr (fun i0(s0:Fp)=>
 (idx s0 i0).bind fun a=>
 if (0<=a:Bool)then
 (idx c a).bind fun b=>
 (idx s0 i0).bind fun e=>
 some (BH s0 i0 b)
 else
 some s0) 0 (d.length:Int) d).bind some
def Dz(a:AG):Option AG:=
 (slices_Clone_int a.d4.d3).bind fun f=>
 (DK a.d4.d5).bind fun b=>
 (sr (fun i0(s0:AG)=>
 (idx a.fq i0).bind fun c=>
 (slices_Clone_int c).bind fun d=>
 (Ag s0.fq [d]).bind fun e=>
 some (AG.mk s0.d4 e)) 0 (a.fq.length:Int) (AG.mk (d4.mk f b) [])).bind some
def C8[Ev](t:AC)(c:List gp)(d:AO):Option (AG×d6×Int):=
 (DJ t c d).bind fun a=>
 if (!a.2.2=0)then
 some (AG.mk (d4.mk [] []) [],d6.mk [] [],a.2.2)
 else
 (Cw d.kp.d4).bind fun e=>
 (sr (fun i0(s0:AG×d6)=>
 (idx a.1 i0).bind fun b=>
 (FI s0.2.d3 b.Aan.d3).bind fun f=>
 (FI s0.2.d5 b.Aan.d5).bind fun g=>
 some (b.tn,d6.mk f g)) 0 (a.1.length:Int) (d.kp,e)).bind fun s0=>
 (Dz s0.1).bind fun h=>
 some (h,s0.2,0)
def KT[Ev](t:AC)(p:d4)(g:d4)(a:Bool):Option (List d6×Int):=
 (Di t p g).bind fun b=>
 if (!b=0)then
 some ([],b)
 else
 (Hk t p g (Mg.mk none none) a).bind fun c=>
 some (c.1,c.2)
def E3[Ev](t:AC)(p:ec)(c:AG)(a:Bool):Option (List AL×Int):=
 (DR t p c).bind fun d=>
 if (!d=0)then
 some ([],d)
 else
 (KT t p.d4 c.d4 a).bind fun b=>
 if (!b.2=0)then
 some ([],b.2)
 else
 (sr (fun i0(s0:List AL)=>
 (idx b.1 i0).bind fun e=>
 (Fv p c e).bind fun f=>
 if (f.2=0:Bool)then
 (Ag s0 [AL.mk e f.1]).bind some
 else
 some s0) 0 (b.1.length:Int) []).bind fun s0=>
 some (s0,0)
def F3[Ev](t:AC)(b:gp)(c:AG):Option (List AL×Int):=
 (Hn t b c).bind fun d=>
 if (!d=0)then
 some ([],d)
 else
 (E3 t b.kq c b.pq).bind fun a=>
 if (!a.2=0)then
 some ([],a.2)
 else
 (sr (fun i0(s0:List AL)=>
 (idx a.1 i0).bind fun e=>
 (Hm t b c e).bind fun f=>
 if (f.2=0:Bool)then
 (Ag s0 [e]).bind some
 else
 some s0) 0 (a.1.length:Int) []).bind fun s0=>
 some (s0,0)
def EA[Ev](t:AC)(a:List gp)(f:AG):Option (List Bq×Int):=
 gn (kl (ρ:=(List Bq×Int)) (fun i0(s0:List Bq)=>
 (idx a i0).bind fun c=>
 (F3 t c f).bind fun b=>
 if (!b.2=0)then
 some (.ret ([],b.2))
 else
 (sr (fun i2(s2:List Bq)=>
 (idx b.1 i2).bind fun d=>
 (Ag s2 [Bq.mk i0 d]).bind some) 0 (b.1.length:Int) s0).bind fun s2=>
 some (.next s2)) 0 (a.length:Int) []) (fun s0=>
 some (s0,0)) some
def E4[Ev](t:AC)(c:List gp)(e:AG)(a:Fp):Option (AO×Int):=
 (C9 t c e).bind fun f=>
 if (!f=0)then
 some (O0,f)
 else
 if (30<(a.length:Int):Bool)then
 some (O0,3)
 else
 (Dz e).bind fun h=>
 gn (kl (ρ:=(AO×Int)) (fun i0(s0:AG×AO×AO)=>
 (idx a i0).bind fun i=>
 (EA t c s0.1).bind fun b=>
 if (!b.2=0)then
 some (.ret (O0,b.2))
 else
 if ((b.1.length:Int)=0:Bool)then
 some (.brk (s0.1,s0.2.1,s0.2.2))
 else
 (Zt i (b.1.length:Int)).bind fun j=>
 (Zt (Af (j+(b.1.length:Int))) (b.1.length:Int)).bind fun k=>
 (idx b.1 k).bind fun g=>
 (Cn t c s0.1 g).bind fun d=>
 if (!d.2=0)then
 some (.ret (O0,d.2))
 else
 (Ag s0.2.2.j4 [g]).bind fun l=>
 some (.next (d.1.tn,s0.2.1,AO.mk s0.2.2.kp l))) 0 (a.length:Int) (e,O0,AO.mk h [])) (fun s0=>
 some (s0.2.2,0)) some
def Ny:Option AC:=
 some (AC.mk [B1.mk (⟨#[65,99,99,111,117,110,116]⟩:ByteArray) (-1) true [mo.mk (⟨#[98,97,108,97,110,99,101]⟩:ByteArray) (-1000) 1000 []],B1.mk (⟨#[67,97,115,104]⟩:ByteArray) 0 false [],B1.mk (⟨#[76,111,97,110]⟩:ByteArray) 0 false [mo.mk (⟨#[115,116,97,116,101]⟩:ByteArray) 0 1 [(⟨#[111,112,101,110]⟩:ByteArray),(⟨#[99,108,111,115,101,100]⟩:ByteArray)]],B1.mk (⟨#[80,101,114,115,111,110]⟩:ByteArray) (-1) false []] [CB.mk (⟨#[111,119,110,115]⟩:ByteArray) 3 0 0 (-1) 1 1,CB.mk (⟨#[112,97,121,115]⟩:ByteArray) 1 1 0 (-1) 0 (-1)])
def GM(n:Int)(a:Int):K1:=
 some (n<a||999999999<n)
def Ci[Ev](l:Fp)(a:Int):K1:=
 (Ak l (fun y0=>GM y0 a)).bind some
def strconv_Itoa(i:Int):Option ByteArray:=if 0<=i/\i<100 then some (ah i.toNat)else none
def Dd(l:Fp):Option ByteArray:=
 (sr (fun i0(s0:ByteArray)=>
 (idx l i0).bind fun a=>
 if (a<0:Bool)then
 (strconv_Itoa (Af (-a))).bind fun b=>
 (My (⟨#[32,45,32]⟩:ByteArray) b).bind fun c=>
 (My s0 c).bind some
 else
 (strconv_Itoa a).bind fun e=>
 (My (⟨#[32]⟩:ByteArray) e).bind fun f=>
 (My s0 f).bind some) 0 (l.length:Int) (⟨#[40]⟩:ByteArray)).bind fun s0=>
 (My s0 (⟨#[32,41]⟩:ByteArray)).bind some
def Nc(m:Bq):Option ByteArray:=
 if m.o3.d6.d3=[]/\m.o3.d6.d5=[]/\m.o3.hV=[]then
  (strconv_Itoa m.gp).bind fun s=>(Dd []).bind fun t=>
  let o:ByteArray:=((((((((⟨#[109,111,118,101,32]⟩:ByteArray)++s)++(⟨#[32]⟩:ByteArray))++t)++(⟨#[32]⟩:ByteArray))++t)++(⟨#[32]⟩:ByteArray))++t)++(⟨#[32,59,10]⟩:ByteArray)
  if o.size<=1000 then some o else none
 else none
def DU(r:List Bq)(l:List UInt8):Option (List UInt8):=
 r.foldl (fun a m=>a.bind fun l=>(Nc m).bind fun o=>some (l++o.data.toList)) (some l)
def IB(d:AO):Option (ByteArray×Int):=
 if d.j4.length<=30/\d.j4≠[]then(DU d.j4 []).map fun l=>(⟨l.toArray⟩,0)else none
def EF[Ev]:K1:=
 (Ny).bind fun b=>
 (E4 b [gp.mk (⟨#[98,105,114,116,104]⟩:ByteArray) (ec.mk (d4.mk [] []) [] 0 []) (ec.mk (d4.mk [3] []) [] 0 []) (BB.mk [] []) (d6.mk [] []) false (d7.mk 1 [] (d6.mk [] []) (ec.mk (d4.mk [] []) [] 0 []))] (AG.mk (d4.mk [] []) []) [0,7]).bind fun a=>
 (C8 b [gp.mk (⟨#[98,105,114,116,104]⟩:ByteArray) (ec.mk (d4.mk [] []) [] 0 []) (ec.mk (d4.mk [3] []) [] 0 []) (BB.mk [] []) (d6.mk [] []) false (d7.mk 1 [] (d6.mk [] []) (ec.mk (d4.mk [] []) [] 0 []))] a.1).bind fun c=>
 (IB a.1).bind fun d=>
 (if((a.2=0&&(a.1.j4.length:Int)=2)&&c.2.2=0)then((slices_Equal_int c.1.d4.d3 [3,3]).bind some)else some false).bind fun f=>
 some ((f&&d.2=0)&&(d.1==(⟨#[109,111,118,101,32,48,32,40,32,41,32,40,32,41,32,40,32,41,32,59,10,109,111,118,101,32,48,32,40,32,41,32,40,32,41,32,40,32,41,32,59,10]⟩:ByteArray)))
def Hd(g:d4):K1:=
 some ((g.d3.length:Int)<=45&&(g.d5.length:Int)<=90)
def GZ(a:AG):K1:=
 (Hd a.d4).bind fun c=>
 if ((!c)||45<(a.fq.length:Int))then
 some false
 else
 gn (kl (ρ:=Bool) (fun i0 _=>
 (idx a.fq i0).bind fun b=>
 if (12<(b.length:Int):Bool)then
 some (.ret false)
 else
 some (.next ())) 0 (a.fq.length:Int) ()) (fun _=>
 some true) some
def Fg[Ev]:Nat->AC->Int->Option (List mo)
 |0,_,_=>none|n+1,t,a=>
  if (a<0:Bool)then
  some []
  else
  (idx t.d3 a).bind fun b=>
  (Fg n t b.Aad).bind fun c=>
  (Ag [] c).bind fun d=>
  (idx t.d3 a).bind fun e=>
  (Ag d e.x3).bind some
def NC[Ev](t:AC)(a:Int):Option (List mo):=Jh fun n=>Fg n t a
def DN(n:Int)(b:Int)(a:Int):K1:=
 some (b<=n&&n<=a)
def OF(t:EK):Option ByteArray:=
 if (t.og=3:Bool)then
 (My (⟨#[34]⟩:ByteArray) t.AbV).bind fun a=>
 (My a (⟨#[34]⟩:ByteArray)).bind some
 else
 some t.AbV
def Jw(c:Int):K1:=
 some (97<=c&&c<=122||(65<=c&&c<=90))
def Hz(c:Int):K1:=
 some (48<=c&&c<=57)
def Ni[Ev](a:ByteArray)(c:Int)(b:Bool):QQ:=
 gn (ES (ρ:=Int) (fun(s0:Int)=>
 (if((Af (c+s0))<(a.size:Int):Bool)then((AaE a (Af (c+s0))).bind fun d=>
 (Hz d).bind fun e=>
 (if e then some true else((if(!b)then((AaE a (Af (c+s0))).bind fun f=>
 (Jw f).bind fun g=>
 (if g then some true else((AaE a (Af (c+s0))).bind fun h=>
 some (decide (h=95)))).bind some)else some false).bind some)).bind some)else some false).bind fun l=>
 if l then
 some (.next (Af (s0+1)))
 else
 some (.brk s0)) 0) some some
def Jx[Ev](b:ByteArray)(c:Int):QQ:=
 gn (ES (ρ:=Int) (fun(s0:Int)=>
 if ((Af (c+s0))<(b.size:Int):Bool)then
 (AaE b (Af (c+s0))).bind fun a=>
 if (a=34:Bool)then
 some (.ret (Af (s0+1)))
 else
 if (a<32||126<a)then
 some (.ret 0)
 else
 some (.next (Af (s0+1)))
 else
 some (.brk s0)) 1) (fun s0=>
 some 0) some
def NB:Option (List ByteArray):=
 some [(⟨#[45,62]⟩:ByteArray),(⟨#[60,61]⟩:ByteArray),(⟨#[62,61]⟩:ByteArray),(⟨#[61,61]⟩:ByteArray),(⟨#[33,61]⟩:ByteArray),(⟨#[123]⟩:ByteArray),(⟨#[125]⟩:ByteArray),(⟨#[40]⟩:ByteArray),(⟨#[41]⟩:ByteArray),(⟨#[91]⟩:ByteArray),(⟨#[93]⟩:ByteArray),(⟨#[44]⟩:ByteArray),(⟨#[59]⟩:ByteArray),(⟨#[58]⟩:ByteArray),(⟨#[61]⟩:ByteArray),(⟨#[43]⟩:ByteArray),(⟨#[45]⟩:ByteArray),(⟨#[42]⟩:ByteArray),(⟨#[60]⟩:ByteArray),(⟨#[62]⟩:ByteArray),(⟨#[33]⟩:ByteArray),(⟨#[38]⟩:ByteArray),(⟨#[124]⟩:ByteArray),(⟨#[46]⟩:ByteArray),(⟨#[63]⟩:ByteArray)]
def Nh[Ev](a:ByteArray)(d:Int):Option (EK×Int×Int):=
 (AaE a d).bind fun c=>
 (Jw c).bind fun i=>
 (if i then some true else((Hz c).bind some)).bind fun k=>
 if k then
 (Hz c).bind fun l=>
 (Ni a d l).bind fun f=>
 (Hz c).bind fun m=>
 (if m then
 some (2,9)
 else
 some (1,20)).bind fun w1=>
 if (w1.2<f:Bool)then
 some (EK.mk 0 (⟨#[]⟩:ByteArray) 0,0,3)
 else
 (AaJ a d (Af (d+f))).bind fun n=>
 some (EK.mk w1.1 n 0,f,0)
 else
 if (c=34:Bool)then
 (Jx a d).bind fun e=>
 if (e=0:Bool)then
 some (EK.mk 0 (⟨#[]⟩:ByteArray) 0,0,2)
 else
 if (60<(Af (e-2)):Bool)then
 some (EK.mk 0 (⟨#[]⟩:ByteArray) 0,0,3)
 else
 (AaJ a (Af (d+1)) (Af ((Af (d+e))-1))).bind fun o=>
 some (EK.mk 3 o 0,e,0)
 else
 (NB).bind fun b=>
 gn (kl (ρ:=(EK×Int×Int)) (fun i0(s0:EK)=>
 (idx b i0).bind fun p=>
 (if((Af (d+(p.size:Int)))<=(a.size:Int):Bool)then((idx b i0).bind fun q=>
 (AaJ a d (Af (d+(q.size:Int)))).bind fun r=>
 (idx b i0).bind fun s=>
 some (r==s))else some false).bind fun t=>
 if t then
 (idx b i0).bind fun g=>
 (idx b i0).bind fun h=>
 some (.ret (EK.mk 4 g 0,(h.size:Int),0))
 else
 some (.next s0)) 0 (b.length:Int) (EK.mk 0 (⟨#[]⟩:ByteArray) 0)) (fun s0=>
 some (EK.mk 0 (⟨#[]⟩:ByteArray) 0,0,2)) some
def NA[Ev](t:EK):K1:=
 (OF t).bind fun b=>
 if (b==(⟨#[]⟩:ByteArray))then
 some false
 else
 (Nh b 0).bind fun a=>
 some ((a.2.2=0&&a.2.1=(b.size:Int))&&a.1.og=t.og)
def Ey[Ev](a:ByteArray):K1:=
 (NA (EK.mk 1 a 0)).bind some
def Kn[Ev](l:List ByteArray):QQ:=
 if (20<(l.length:Int):Bool)then
 some 3
 else
 gn (kl (ρ:=Int) (fun i0 _=>
 (idx l i0).bind fun a=>
 (Ey a).bind fun b=>
 if (!b)then
 some (.ret 2)
 else
 gn (kl (ρ:=Int) (fun i2 _=>
 (idx l i2).bind fun c=>
 (idx l i0).bind fun d=>
 if (c==d)then
 some (.ret 5)
 else
 some (.next ())) 0 i0 ()) (fun _=>
 some (.next ())) (fun v2=>some (.ret v2))) 0 (l.length:Int) ()) (fun _=>
 some 0) some
def Hc[Ev](a:mo):QQ:=
 if ((a.wi.length:Int)=0:Bool)then
 (DN a.Low (-1000000) 1000000).bind fun c=>
 (if(!c)then some true else((DN a.AaD a.Low 1000000).bind fun d=>
 some (!d))).bind fun e=>
 if e then
 some 6
 else
 some 0
 else
 (Kn a.wi).bind fun b=>
 if (!b=0)then
 some b
 else
 if ((!a.Low=0)||(!a.AaD=(Af ((a.wi.length:Int)-1))))then
 some 6
 else
 some 0
def MG[Ev](t:AC)(c:Int):QQ:=
 (idx t.d3 c).bind fun b=>
 (Ey b.po).bind fun e=>
 if (!e)then
 some 2
 else
 gn (kl (ρ:=Int) (fun i0 _=>
 (idx t.d3 i0).bind fun f=>
 if (f.po==b.po)then
 some (.ret 5)
 else
 some (.next ())) 0 c ()) (fun _=>
 (DN b.Aad (-1) (Af (c-1))).bind fun g=>
 if (!g)then
 some 6
 else
 (NC t c).bind fun a=>
 if (4<(b.x3.length:Int)||8<(a.length:Int))then
 some 3
 else
 gn (kl (ρ:=Int) (fun i2 _=>
 (idx a i2).bind fun h=>
 (Ey h.po).bind fun i=>
 if (!i)then
 some (.ret 2)
 else
 gn (kl (ρ:=Int) (fun i4 _=>
 (idx a i4).bind fun j=>
 (idx a i2).bind fun k=>
 if (j.po==k.po)then
 some (.ret 5)
 else
 some (.next ())) 0 i2 ()) (fun _=>
 (idx a i2).bind fun l=>
 (Hc l).bind fun d=>
 if (!d=0)then
 some (.ret d)
 else
 some (.next ())) (fun v4=>some (.ret v4))) (Af ((a.length:Int)-(b.x3.length:Int))) (a.length:Int) ()) (fun _=>
 some 0) some) some
def JN(b:Int)(a:Int):K1:=
 (DN b 0 40).bind fun f=>
 (if f then((if(a=(-1):Bool)then some true else((DN a b 40).bind some)).bind some)else some false).bind some
def MF[Ev](t:AC)(b:Int):QQ:=
 (idx t.d5 b).bind fun a=>
 (Ey a.po).bind fun c=>
 if (!c)then
 some 2
 else
 gn (kl (ρ:=Int) (fun i0 _=>
 (idx t.d5 i0).bind fun d=>
 if (d.po==a.po)then
 some (.ret 5)
 else
 some (.next ())) 0 b ()) (fun _=>
 (DN a.ns 0 (Af ((t.d3.length:Int)-1))).bind fun e=>
 (if(!e)then some true else((DN a.To 0 (Af ((t.d3.length:Int)-1))).bind fun f=>
 some (!f))).bind fun g=>
 (if g then some true else((JN a.Abf a.AaZ).bind fun h=>
 some (!h))).bind fun i=>
 (if i then some true else((JN a.AbB a.Abj).bind fun j=>
 some (!j))).bind fun k=>
 if k then
 some 6
 else
 some 0) some
def Ek[Ev](t:AC):Option (ByteArray×Int):=
 if ((t.d3.length:Int)=0:Bool)then
 some ((⟨#[]⟩:ByteArray),7)
 else
 if (12<(t.d3.length:Int)||20<(t.d5.length:Int))then
 some ((⟨#[]⟩:ByteArray),3)
 else
 gn (kl (ρ:=(ByteArray×Int)) (fun i0 _=>
 (MG t i0).bind fun a=>
 if (!a=0)then
 (idx t.d3 i0).bind fun c=>
 some (.ret (c.po,a))
 else
 some (.next ())) 0 (t.d3.length:Int) ()) (fun _=>
 gn (kl (ρ:=(ByteArray×Int)) (fun i2 _=>
 (MF t i2).bind fun b=>
 if (!b=0)then
 (idx t.d5 i2).bind fun d=>
 some (.ret (d.po,b))
 else
 some (.next ())) 0 (t.d5.length:Int) ()) (fun _=>
 some ((⟨#[]⟩:ByteArray),0)) some) some
def JO[Ev](t:AC)(a:Int)(b:Int):QQ:=
 (Ek t).bind fun c=>
 if (!c.2=0)then
 some c.2
 else
 (DN a 0 (Af ((t.d3.length:Int)-1))).bind fun d=>
 (if(!d)then some true else((DN b 0 (Af ((t.d3.length:Int)-1))).bind fun e=>
 some (!e))).bind fun f=>
 if f then
 some 6
 else
 some 0
def E8[Ev]:Nat->AC->Int->Int->K1
 |0,_,_,_=>none|n+1,t,a,b=>
  (if(a=b:Bool)then some true else((if(0<=a:Bool)then((idx t.d3 a).bind fun c=>
  (E8 n t c.Aad b).bind some)else some false).bind some)).bind some
def Gq[Ev](t:AC)(a:Int)(b:Int):K1:=Jh fun n=>E8 n t a b
def KJ[Ev](t:AC)(a:Int)(b:Int)(c:Int):K1:=
 (JO t b c).bind fun d=>
 (if(!d=0)then some true else((DN a 0 (Af ((t.d5.length:Int)-1))).bind fun e=>
 some (!e))).bind fun f=>
 if f then
 some false
 else
 (idx t.d5 a).bind fun g=>
 (Gq t b g.ns).bind fun h=>
 (if h then((idx t.d5 a).bind fun i=>
 (Gq t c i.To).bind some)else some false).bind some
def KK(n:Int):K1:=
 some (0<=n&&n<=99)
def ND(e:Bl)(a:Int):K1:=
 (KK e.ne).bind fun b=>
 some ((((b&&0<=e.ns)&&e.ns<a)&&0<=e.To)&&e.To<a)
def Dm(g:d4):QQ:=
 if (40<(g.d3.length:Int)||80<(g.d5.length:Int))then
 some 3
 else
 gn (kl (ρ:=Int) (fun i0 _=>
 (idx g.d3 i0).bind fun a=>
 (KK a).bind fun b=>
 if (!b)then
 some (.ret 6)
 else
 some (.next ())) 0 (g.d3.length:Int) ()) (fun _=>
 gn (kl (ρ:=Int) (fun i2 _=>
 (idx g.d5 i2).bind fun c=>
 (ND c (g.d3.length:Int)).bind fun d=>
 if (!d)then
 some (.ret 6)
 else
 some (.next ())) 0 (g.d5.length:Int) ()) (fun _=>
 some 0) some) some
def FX[Ev](t:AC)(a:Int):Option (List mo×Int):=
 (JO t a a).bind fun c=>
 if (!c=0)then
 some ([],c)
 else
 (NC t a).bind fun d=>
 (sr (fun i0(s0:List mo)=>
 (idx d i0).bind fun b=>
 (Ag [] b.wi).bind fun e=>
 (Ag s0 [mo.mk b.po b.Low b.AaD e]).bind some) 0 (d.length:Int) []).bind fun s0=>
 some (s0,0)
def MJ[Ev](t:AC)(a:Int)(i:Fp):QQ:=
 if ((t.d3.length:Int)<=a:Bool)then
 some 6
 else
 (idx t.d3 a).bind fun c=>
 if c.Aaq then
 some 13
 else
 (FX t a).bind fun b=>
 if (!(i.length:Int)=(b.1.length:Int))then
 some 20
 else
 gn (kl (ρ:=Int) (fun i0 _=>
 (idx i i0).bind fun d=>
 (idx b.1 i0).bind fun e=>
 (if(d<e.Low:Bool)then some true else((idx i i0).bind fun f=>
 (idx b.1 i0).bind fun g=>
 some (decide (g.AaD<f)))).bind fun h=>
 if h then
 some (.ret 6)
 else
 some (.next ())) 0 (b.1.length:Int) ()) (fun _=>
 some 0) some
def Ga[Ev](t:AC)(a:AG):Option (Int×Int):=
 (Ek t).bind fun c=>
 if (!c.2=0)then
 some ((-1),c.2)
 else
 (Dm a.d4).bind fun d=>
 if (!d=0)then
 some ((-1),d)
 else
 if (!(a.fq.length:Int)=(a.d4.d3.length:Int))then
 some ((-1),20)
 else
 gn (kl (ρ:=(Int×Int)) (fun i0 _=>
 (idx a.d4.d3 i0).bind fun f=>
 (idx a.fq i0).bind fun g=>
 (MJ t f g).bind fun e=>
 if (!e=0)then
 some (.ret (i0,e))
 else
 some (.next ())) 0 (a.d4.d3.length:Int) ()) (fun _=>
 gn (kl (ρ:=(Int×Int)) (fun i2 _=>
 (idx a.d4.d5 i2).bind fun b=>
 if ((t.d5.length:Int)<=b.ne:Bool)then
 some (.ret (i2,6))
 else
 (idx a.d4.d3 b.ns).bind fun h=>
 (idx a.d4.d3 b.To).bind fun i=>
 (KJ t b.ne h i).bind fun j=>
 if (!j)then
 some (.ret (i2,13))
 else
 some (.next ())) 0 (a.d4.d5.length:Int) ()) (fun _=>
 some ((-1),0)) some) some
def Gb(t:AC)(g:d4):K1:=
 gn (kl (ρ:=Bool) (fun i0 _=>
 (idx g.d3 i0).bind fun a=>
 (if(a<0:Bool)then some true else((idx g.d3 i0).bind fun b=>
 some (decide ((t.d3.length:Int)<=b)))).bind fun c=>
 if c then
 some (.ret false)
 else
 some (.next ())) 0 (g.d3.length:Int) ()) (fun _=>
 gn (kl (ρ:=Bool) (fun i2 _=>
 (idx g.d5 i2).bind fun d=>
 (if(d.ne<0:Bool)then some true else((idx g.d5 i2).bind fun e=>
 some (decide ((t.d5.length:Int)<=e.ne)))).bind fun f=>
 if f then
 some (.ret false)
 else
 some (.next ())) 0 (g.d5.length:Int) ()) (fun _=>
 some true) some) some
def MK[Ev](t:AC)(p:ec)(b:Int)(a:Int):Option (mo×Bool):=
 if (b<0||(p.d4.d3.length:Int)<=b)then
 some (mo.mk (⟨#[]⟩:ByteArray) 0 0 [],false)
 else
 (idx p.d4.d3 b).bind fun d=>
 (FX t d).bind fun c=>
 if (((!c.2=0)||a<0)||(c.1.length:Int)<=a)then
 some (mo.mk (⟨#[]⟩:ByteArray) 0 0 [],false)
 else
 (idx c.1 a).bind fun e=>
 some (e,true)
def LA(n:Int):K1:=
 some ((-1000000)<=n&&n<=1000000)
def IT(n:Int)(t:kg):QQ:=
 if (((t.Var<(-1)||n<=t.Var)||t.Add<(-1000000))||1000000<t.Add)then
 some 6
 else
 some 0
def Nj(n:Int)(a:Test):QQ:=
 if ((!a.og=1)&&(!a.og=2))then
 some 1
 else
 (IT n a.kq).bind fun b=>
 if (!b=0)then
 some b
 else
 (IT n a.fd).bind some
def Km(n:Int)(l:List Test):QQ:=
 if (n<0||12<n)then
 some 6
 else
 if (40<(l.length:Int):Bool)then
 some 3
 else
 gn (kl (ρ:=Int) (fun i0 _=>
 (idx l i0).bind fun b=>
 (Nj n b).bind fun a=>
 if (!a=0)then
 some (.ret a)
 else
 some (.next ())) 0 (l.length:Int) ()) (fun _=>
 some 0) some
def J2(p:ec)(b:Int):K1:=
 gn (kl (ρ:=Bool) (fun i0 _=>
 (idx p.ff i0).bind fun a=>
 if (a.kg.Var=b:Bool)then
 some (.ret true)
 else
 some (.next ())) 0 (p.ff.length:Int) ()) (fun _=>
 some false) some
def Gc[Ev](t:AC)(p:ec):QQ:=
 (Ek t).bind fun c=>
 if (!c.2=0)then
 some c.2
 else
 (Dm p.d4).bind fun d=>
 if (!d=0)then
 some d
 else
 (Gb t p.d4).bind fun f=>
 if (!f)then
 some 13
 else
 if (p.hV<0||12<p.hV)then
 some 6
 else
 if (10<(p.ff.length:Int)||10<(p.sc.length:Int))then
 some 3
 else
 gn (kl (ρ:=Int) (fun i0 _=>
 (idx p.ff i0).bind fun a=>
 (MK t p a.tg a.mo).bind fun g=>
 (if(((!g.2)||a.kg.Var<(-1))||p.hV<=a.kg.Var)then some true else((LA a.kg.Add).bind fun h=>
 some (!h))).bind fun i=>
 if i then
 some (.ret 6)
 else
 some (.next ())) 0 (p.ff.length:Int) ()) (fun _=>
 (Km p.hV p.sc).bind fun b=>
 if (!b=0)then
 some b
 else
 gn (kl (ρ:=Int) (fun i2 _=>
 (J2 p i2).bind fun e=>
 if (!e)then
 some (.ret 9)
 else
 some (.next ())) 0 p.hV ()) (fun _=>
 some 0) some) some
def Gt(c:d7):K1:=
 some (((Af ((Af ((Af ((c.Map.d3.length:Int)+(c.Map.d5.length:Int)))+(c.ec.d4.d3.length:Int)))+(c.ec.d4.d5.length:Int)))=0&&(Af ((c.ec.ff.length:Int)+(c.ec.sc.length:Int)))=0)&&c.ec.hV=0)
def Kx(c:d7):K1:=
 if (c.og=1:Bool)then
 (if((c.hT.length:Int)=0:Bool)then((Gt c).bind some)else some false).bind some
 else
 if (c.og=2:Bool)then
 (if((c.hT.length:Int)=1:Bool)then((Gt c).bind some)else some false).bind some
 else
 (if(c.og=3:Bool)then
 some (decide (c.og=3))
 else
 some (decide (c.og=4))).bind fun w1=>
 if w1 then
 (if(0<(c.hT.length:Int):Bool)then((Gt c).bind some)else some false).bind some
 else
 if (c.og=5:Bool)then
 some (decide ((c.hT.length:Int)=1))
 else
 some false
def D6[Ev]:Nat->d7->K1
 |0,_=>none|n+1,c=>
  (Kx c).bind fun d=>
  if (!d)then
  some false
  else
  gn (kl (ρ:=Bool) (fun i0 _=>
  (idx c.hT i0).bind fun a=>
  (D6 n a).bind fun b=>
  if (!b)then
  some (.ret false)
  else
  some (.next ())) 0 (c.hT.length:Int) ()) (fun _=>
  some true) some
def Mw[Ev](c:d7):K1:=Jh fun n=>D6 n c
def Ef[Ev]:Nat->d7->Option (Int×Int)
 |0,_=>none|n+1,c=>
  (sr (fun i0(s0:Int×Int)=>
  (idx c.hT i0).bind fun b=>
  (Ef n b).bind fun a=>
  some (Af (s0.1+a.1),max s0.2 a.2)) 0 (c.hT.length:Int) (1,0)).bind fun s0=>
  (if(c.og=5:Bool)then
  some (Af (s0.2+1))
  else
  some s0.2).bind fun w1=>
  some (s0.1,w1)
def N0[Ev](c:d7):Option (Int×Int):=Jh fun n=>Ef n c
def Kv[Ev](c:d7):QQ:=
 (Mw c).bind fun b=>
 if (!b)then
 some 1
 else
 (N0 c).bind fun a=>
 if (12<a.1||3<a.2)then
 some 3
 else
 some 0
def GY(a:d4)(b:d4)(m:d6):QQ:=
 (Dm a).bind fun e=>
 if (!e=0)then
 some e
 else
 (Dm b).bind fun f=>
 if (!f=0)then
 some f
 else
 if ((!(m.d3.length:Int)=(a.d3.length:Int))||(!(m.d5.length:Int)=(a.d5.length:Int)))then
 some 20
 else
 gn (kl (ρ:=Int) (fun i0 _=>
 (idx m.d3 i0).bind fun l=>
 (if(l<0:Bool)then some true else((idx m.d3 i0).bind fun n=>
 some (decide ((b.d3.length:Int)<=n)))).bind fun o=>
 if o then
 some (.ret 6)
 else
 (idx m.d3 i0).bind fun p=>
 (idx b.d3 p).bind fun q=>
 (idx a.d3 i0).bind fun r=>
 if (!q=r)then
 some (.ret 13)
 else
 some (.next ())) 0 (a.d3.length:Int) ()) (fun _=>
 gn (kl (ρ:=Int) (fun i2 _=>
 (idx m.d5 i2).bind fun s=>
 (if(s<0:Bool)then some true else((idx m.d5 i2).bind fun t=>
 some (decide ((b.d5.length:Int)<=t)))).bind fun g=>
 if g then
 some (.ret 6)
 else
 (idx a.d5 i2).bind fun c=>
 (idx m.d5 i2).bind fun h=>
 (idx b.d5 h).bind fun d=>
 if (!c.ne=d.ne)then
 some (.ret 13)
 else
 (idx m.d3 c.ns).bind fun i=>
 (if(!i=d.ns)then some true else((idx m.d3 c.To).bind fun j=>
 some (!j=d.To))).bind fun k=>
 if k then
 some (.ret 11)
 else
 some (.next ())) 0 (a.d5.length:Int) ()) (fun _=>
 some 0) some) some
def Ee(l:Fp):K1:=
 gn (kl (ρ:=Bool) (fun i0 _=>
 gn (kl (ρ:=Bool) (fun i2 _=>
 (idx l i0).bind fun a=>
 (idx l i2).bind fun b=>
 if (a=b:Bool)then
 some (.ret false)
 else
 some (.next ())) 0 i0 ()) (fun _=>
 some (.next ())) (fun v2=>some (.ret v2))) 0 (l.length:Int) ()) (fun _=>
 some true) some
def He(a:d4)(b:d4)(m:d6):K1:=
 (GY a b m).bind fun c=>
 (if(c=0:Bool)then((Ee m.d3).bind some)else some false).bind fun e=>
 (if e then((Ee m.d5).bind some)else some false).bind some
def ML(p:ec)(b:Int):K1:=
 gn (kl (ρ:=Bool) (fun i0 _=>
 (idx p.ff i0).bind fun a=>
 if (a.kg.Var=b:Bool)then
 some (.ret true)
 else
 some (.next ())) 0 (p.ff.length:Int) ()) (fun _=>
 some false) some
def Kw[Ev](t:AC)(a:Int)(q:ec):QQ:=
 if (q.hV<a:Bool)then
 some 20
 else
 (Gc t q).bind fun b=>
 if (!b=9)then
 some b
 else
 gn (kl (ρ:=Int) (fun i0 _=>
 (ML q i0).bind fun c=>
 if (!c)then
 some (.ret b)
 else
 some (.next ())) a q.hV ()) (fun _=>
 some 0) some
def El[Ev]:Nat->AC->ec->d7->QQ
 |0,_,_,_=>none|n+1,t,p,c=>
  if (c.og=5:Bool)then
  (Kw t p.hV c.ec).bind fun d=>
  if (!d=0)then
  some d
  else
  (GY p.d4 c.ec.d4 c.Map).bind fun e=>
  if (!e=0)then
  some e
  else
  (He p.d4 c.ec.d4 c.Map).bind fun f=>
  if (!f)then
  some 1
  else
  gn (kl (ρ:=Int) (fun i0 _=>
  (idx c.hT i0).bind fun b=>
  (El n t c.ec b).bind fun a=>
  if (!a=0)then
  some (.ret a)
  else
  some (.next ())) 0 (c.hT.length:Int) ()) (fun _=>
  some 0) some
  else
  gn (kl (ρ:=Int) (fun i0 _=>
  (idx c.hT i0).bind fun b=>
  (El n t p b).bind fun a=>
  if (!a=0)then
  some (.ret a)
  else
  some (.next ())) 0 (c.hT.length:Int) ()) (fun _=>
  some 0) some
def Uq[Ev](t:AC)(p:ec)(c:d7):QQ:=Jh fun n=>El n t p c
def JP[Ev](t:AC)(p:ec)(c:d7):QQ:=
 (Gc t p).bind fun a=>
 if (!a=0)then
 some a
 else
 (Kv c).bind fun b=>
 if (!b=0)then
 some b
 else
 (Uq t p c).bind some
def MM[Ev](t:AC)(p:ec)(c:Int):QQ:=
 (idx p.ff c).bind fun a=>
 if (a.tg<0||(p.d4.d3.length:Int)<=a.tg)then
 some 6
 else
 (idx p.d4.d3 a.tg).bind fun d=>
 (FX t d).bind fun e=>
 if (((((a.mo<0||(e.1.length:Int)<=a.mo)||a.kg.Var<(-1))||p.hV<=a.kg.Var)||a.kg.Add<(-1000000))||1000000<a.kg.Add)then
 some 6
 else
 gn (kl (ρ:=Int) (fun i0 _=>
 (idx p.ff i0).bind fun f=>
 (if(f.tg=a.tg:Bool)then((idx p.ff i0).bind fun g=>
 some (decide (g.mo=a.mo)))else some false).bind fun b=>
 if b then
 some (.ret 5)
 else
 some (.next ())) 0 c ()) (fun _=>
 some 0) some
def Ky[Ev](t:AC)(a:gp):QQ:=
 (Dm a.fd.d4).bind fun b=>
 if (!b=0)then
 some b
 else
 (Gb t a.fd.d4).bind fun d=>
 if (!d)then
 some 13
 else
 if ((!a.fd.hV=a.kq.hV)||0<(a.fd.sc.length:Int))then
 some 1
 else
 if (10<(a.fd.ff.length:Int):Bool)then
 some 3
 else
 gn (kl (ρ:=Int) (fun i0 _=>
 (MM t a.fd i0).bind fun c=>
 if (!c=0)then
 some (.ret c)
 else
 some (.next ())) 0 (a.fd.ff.length:Int) ()) (fun _=>
 some 0) some
def F2(l:Fp)(n:Int):QQ:=
 gn (kl (ρ:=Int) (fun i0 _=>
 (idx l i0).bind fun a=>
 (if(a<0:Bool)then some true else((idx l i0).bind fun b=>
 some (decide (n<=b)))).bind fun c=>
 if c then
 some (.ret 6)
 else
 (if(0<i0:Bool)then((idx l i0).bind fun d=>
 (idx l (Af (i0-1))).bind fun e=>
 some (decide (d<=e)))else some false).bind fun f=>
 if f then
 some (.ret 12)
 else
 some (.next ())) 0 (l.length:Int) ()) (fun _=>
 some 0) some
def Nk(l:Fp)(n:Int):K1:=
 gn (kl (ρ:=Bool) (fun i0 _=>
 (idx l i0).bind fun a=>
 if (a=n:Bool)then
 some (.ret true)
 else
 some (.next ())) 0 (l.length:Int) ()) (fun _=>
 some false) some
def NE(g:d4)(p:BB):QQ:=
 (F2 p.d3 (g.d3.length:Int)).bind fun a=>
 if (!a=0)then
 some a
 else
 (F2 p.d5 (g.d5.length:Int)).bind fun b=>
 if (!b=0)then
 some b
 else
 gn (kl (ρ:=Int) (fun i0 _=>
 (idx p.d5 i0).bind fun d=>
 (idx g.d5 d).bind fun c=>
 (Nk p.d3 c.ns).bind fun e=>
 (if(!e)then some true else((Nk p.d3 c.To).bind fun f=>
 some (!f))).bind fun h=>
 if h then
 some (.ret 14)
 else
 some (.next ())) 0 (p.d5.length:Int) ()) (fun _=>
 some 0) some
def H0(g:d4)(p:BB):QQ:=
 (Dm g).bind fun b=>
 if (!b=0)then
 some b
 else
 (NE g p).bind some
def H1(l:Fp)(n:Int):QQ:=
 gn (kl (ρ:=Int) (fun i0 _=>
 (idx l i0).bind fun a=>
 if (a=n:Bool)then
 some (.ret i0)
 else
 some (.next ())) 0 (l.length:Int) ()) (fun _=>
 some (-1)) some
def HC(g:d4)(p:BB):Option (d4×d6×Int):=
 (H0 g p).bind fun b=>
 if (!b=0)then
 some (d4.mk [] [],d6.mk [] [],b)
 else
 (sr (fun i0(s0:d4)=>
 (idx p.d3 i0).bind fun c=>
 (idx g.d3 c).bind fun d=>
 (Ag s0.d3 [d]).bind fun e=>
 some (d4.mk e s0.d5)) 0 (p.d3.length:Int) (d4.mk [] [])).bind fun s0=>
 (sr (fun i2(s2:d4)=>
 (idx p.d5 i2).bind fun f=>
 (idx g.d5 f).bind fun a=>
 (H1 p.d3 a.ns).bind fun h=>
 (H1 p.d3 a.To).bind fun i=>
 (Ag s2.d5 [Bl.mk a.ne h i]).bind fun j=>
 some (d4.mk s2.d3 j)) 0 (p.d5.length:Int) s0).bind fun s2=>
 (Ag [] p.d3).bind fun k=>
 (Ag [] p.d5).bind fun l=>
 some (s2,d6.mk k l,0)
def MN(a:gp):QQ:=
 (H0 a.kq.d4 a.x4).bind fun b=>
 if (!b=0)then
 some b
 else
 (HC a.kq.d4 a.x4).bind fun c=>
 (GY c.1 a.fd.d4 a.sx).bind some
def PO(l:Fp)(n:Int):K1:=
 gn (kl (ρ:=Bool) (fun i0 _=>
 (idx l i0).bind fun a=>
 if (a=n:Bool)then
 some (.ret true)
 else
 some (.next ())) 0 (l.length:Int) ()) (fun _=>
 some false) some
def KN(n:Int)(l:Fp):Option Fp:=
 (sr (fun i0(s0:Fp)=>
 (PO l i0).bind fun a=>
 if (!a)then
 (Ag s0 [i0]).bind some
 else
 some s0) 0 n []).bind some
def JC(a:gp):Option (Fp×Fp):=
 (KN (a.fd.d4.d3.length:Int) a.sx.d3).bind fun b=>
 (KN (a.fd.d4.d5.length:Int) a.sx.d5).bind fun c=>
 some (b,c)
def J4[Ev](t:AC)(g:d4)(b:Fp)(a:Fp):K1:=
 gn (kl (ρ:=Bool) (fun i0 _=>
 (idx b i0).bind fun d=>
 (idx g.d3 d).bind fun e=>
 (idx t.d3 e).bind fun f=>
 if f.Aaq then
 some (.ret false)
 else
 some (.next ())) 0 (b.length:Int) ()) (fun _=>
 gn (kl (ρ:=Bool) (fun i2 _=>
 (idx a i2).bind fun h=>
 (idx g.d5 h).bind fun c=>
 (idx g.d3 c.ns).bind fun i=>
 (idx g.d3 c.To).bind fun j=>
 (KJ t c.ne i j).bind fun k=>
 if (!k)then
 some (.ret false)
 else
 some (.next ())) 0 (a.length:Int) ()) (fun _=>
 some true) some) some
def JQ[Ev](t:AC)(a:gp):QQ:=
 (Ek t).bind fun b=>
 if (!b.2=0)then
 some b.2
 else
 (Ey a.po).bind fun g=>
 if (!g)then
 some 2
 else
 (Gc t a.kq).bind fun c=>
 if (!c=0)then
 some c
 else
 (Ky t a).bind fun d=>
 if (!d=0)then
 some d
 else
 (MN a).bind fun e=>
 if (!e=0)then
 some e
 else
 (Ee a.sx.d3).bind fun h=>
 (if(!h)then some true else((Ee a.sx.d5).bind fun i=>
 some (!i))).bind fun j=>
 if j then
 some 11
 else
 (JC a).bind fun f=>
 (J4 t a.fd.d4 f.1 f.2).bind fun k=>
 if (!k)then
 some 13
 else
 (JP t a.kq a.d7).bind some
def K4[Ev](t:AC)(a:List gp):QQ:=
 (Ek t).bind fun b=>
 if (!b.2=0)then
 some b.2
 else
 if (10<(a.length:Int):Bool)then
 some 3
 else
 gn (kl (ρ:=Int) (fun i0 _=>
 (idx a i0).bind fun d=>
 (JQ t d).bind fun c=>
 if (!c=0)then
 some (.ret c)
 else
 some (.next ())) 0 (a.length:Int) ()) (fun _=>
 some 0) some
def JT[Ev](t:AC)(a:List gp)(d:AG):QQ:=
 (K4 t a).bind fun b=>
 if (!b=0)then
 some b
 else
 (Ga t d).bind fun c=>
 some c.2
def Jy[Ev](t:AC):K1:=
 if (20<(t.d3.length:Int)||30<(t.d5.length:Int))then
 some false
 else
 gn (kl (ρ:=Bool) (fun i0(s0:Int)=>
 (idx t.d3 i0).bind fun b=>
 (if(30<(Af (s0+(b.x3.length:Int))):Bool)then some true else((idx t.d3 i0).bind fun d=>
 some (decide (40<(d.po.size:Int))))).bind fun e=>
 if e then
 some (.ret false)
 else
 gn (ES (ρ:=Bool) (fun(s2:Int)=>
 (idx t.d3 i0).bind fun f=>
 if (s2<(f.x3.length:Int):Bool)then
 (idx t.d3 i0).bind fun g=>
 (idx g.x3 s2).bind fun a=>
 if (40<(a.po.size:Int)||25<(a.wi.length:Int))then
 some (.ret false)
 else
 gn (ES (ρ:=Bool) (fun(s4:Int)=>
 if (s4<(a.wi.length:Int):Bool)then
 (idx a.wi s4).bind fun h=>
 if (40<(h.size:Int):Bool)then
 some (.ret false)
 else
 some (.next (Af (s4+1)))
 else
 some (.brk s4)) 0) (fun s4=>
 some (.next (Af (s2+1)))) (fun v4=>some (.ret v4))
 else
 some (.brk s2)) 0) (fun s2=>
 some (.next (Af (s0+(b.x3.length:Int))))) (fun v2=>some (.ret v2))) 0 (t.d3.length:Int) 0) (fun s0=>
 gn (kl (ρ:=Bool) (fun i6 _=>
 (idx t.d5 i6).bind fun c=>
 if (40<(c.po.size:Int):Bool)then
 some (.ret false)
 else
 some (.next ())) 0 (t.d5.length:Int) ()) (fun _=>
 some true) some) some
def Jz(m:d6)(n:Int):K1:=
 some (decide ((Af ((m.d3.length:Int)+(m.d5.length:Int)))<=n))
def Ij(p:ec):K1:=
 (Hd p.d4).bind fun a=>
 some ((a&&(p.ff.length:Int)<=15)&&(p.sc.length:Int)<=15)
def PN(p:BB)(n:Int):K1:=
 some (decide ((Af ((p.d3.length:Int)+(p.d5.length:Int)))<=n))
def CZ[Ev]:Nat->d7->Int->QQ
 |0,_,_=>none|n+1,c,a=>
  (Ij c.ec).bind fun b=>
  (if(!b)then some true else((Jz c.Map 140).bind fun d=>
  some (!d))).bind fun e=>
  if e then
  some (-1)
  else
  gn (ES (ρ:=Int) (fun(s0:Int×Int)=>
  if (s0.2<(c.hT.length:Int)&&0<=s0.1)then
  (idx c.hT s0.2).bind fun f=>
  (CZ n f s0.1).bind fun g=>
  some (.next (g,Af (s0.2+1)))
  else
  some (.brk (s0.1,s0.2))) (Af (a-1),0)) (fun s0=>
  some s0.1) some
def OH[Ev](c:d7)(a:Int):QQ:=Jh fun n=>CZ n c a
def Ik[Ev](c:d7):K1:=
 (OH c 40).bind fun a=>
 some (decide (0<=a))
def Nn[Ev](a:gp):K1:=
 (if((a.po.size:Int)<=60:Bool)then((Ij a.kq).bind some)else some false).bind fun c=>
 (if c then((Ij a.fd).bind some)else some false).bind fun e=>
 (if e then((PN a.x4 140).bind some)else some false).bind fun g=>
 (if g then((Jz a.sx 140).bind some)else some false).bind fun i=>
 (if i then((Ik a.d7).bind some)else some false).bind some
def H3[Ev](t:AC)(p:d4)(g:d4):QQ:=
 (Ek t).bind fun a=>
 if (!a.2=0)then
 some a.2
 else
 (Dm p).bind fun b=>
 if (!b=0)then
 some b
 else
 (Dm g).bind fun c=>
 if (!c=0)then
 some c
 else
 (Gb t p).bind fun d=>
 (if(!d)then some true else((Gb t g).bind fun e=>
 some (!e))).bind fun f=>
 if f then
 some 13
 else
 some 0
def Ko[Ev](t:AC)(p:d4)(g:d4):K1:=
 (Jy t).bind fun h=>
 (if h then((Hd p).bind some)else some false).bind fun b=>
 (if b then((Hd g).bind some)else some false).bind fun d=>
 (if d then((H3 t p g).bind fun e=>
 some ((!e=0)||(((Af ((p.d3.length:Int)+(p.d5.length:Int)))<=6&&(g.d3.length:Int)<=8)&&(g.d5.length:Int)<=12)))else some false).bind some
def NG[Ev](t:AC)(p:ec)(a:AG):K1:=
 (Ij p).bind fun f=>
 (if f then((GZ a).bind some)else some false).bind fun c=>
 (if c then((Ko t p.d4 a.d4).bind some)else some false).bind some
def E9[Ev]:Nat->d7->K1
 |0,_=>none|n+1,c=>
  gn (kl (ρ:=Bool) (fun i0 _=>
  (idx c.hT i0).bind fun a=>
  (E9 n a).bind fun b=>
  if (!b)then
  some (.ret false)
  else
  some (.next ())) 0 (c.hT.length:Int) ()) (fun _=>
  some (decide ((Af ((c.ec.d4.d3.length:Int)+(c.ec.d4.d5.length:Int)))<=6))) some
def Oq[Ev](c:d7):K1:=Jh fun n=>E9 n c
def Dt[Ev]:Nat->ec->d7->Int->Int->K1
 |0,_,_,_,_=>none|n+1,p,c,b,a=>
  (if(c.og=5:Bool)then
  some c.ec
  else
  some p).bind fun w1=>
  gn (ES (ρ:=Bool) (fun(s0:Int×Int)=>
  if (s0.2<(w1.d4.d3.length:Int):Bool)then
  some (.next (Af (s0.1*b),Af (s0.2+1)))
  else
  some (.brk (s0.1,s0.2))) (1,(p.d4.d3.length:Int))) (fun s0=>
  gn (ES (ρ:=Bool) (fun(s2:Int×Int)=>
  if (s2.2<(w1.d4.d5.length:Int):Bool)then
  some (.next (Af (s2.1*a),Af (s2.2+1)))
  else
  some (.brk (s2.1,s2.2))) (s0.1,(p.d4.d5.length:Int))) (fun s2=>
  gn (kl (ρ:=Bool) (fun i4 _=>
  (idx c.hT i4).bind fun d=>
  (Dt n w1 d b a).bind fun e=>
  if (!e)then
  some (.ret false)
  else
  some (.next ())) 0 (c.hT.length:Int) ()) (fun _=>
  some (decide (s2.1<=5000))) some) some) some
def Nz[Ev](p:ec)(c:d7)(b:Int)(a:Int):K1:=Jh fun n=>Dt n p c b a
def Ku[Ev](t:AC)(p:ec)(c:d7)(a:AG):K1:=
 (Ik c).bind fun b=>
 (if(!b)then some true else((Ij p).bind fun d=>
 some (!d))).bind fun e=>
 (if e then some true else((GZ a).bind fun f=>
 some (!f))).bind fun g=>
 if g then
 some false
 else
 (JP t p c).bind fun h=>
 (if(!h=0)then some true else((NG t p a).bind fun i=>
 (if i then((Oq c).bind some)else some false).bind fun k=>
 (if((k&&(a.d4.d3.length:Int)<=6)&&(a.d4.d5.length:Int)<=8)then((Nz p c 14 18).bind some)else some false).bind some)).bind some
def JR[Ev](t:AC)(a:gp)(f:AG):K1:=
 (Jy t).bind fun g=>
 (if g then((Nn a).bind some)else some false).bind fun c=>
 (if c then((Ku t a.kq a.d7 f).bind some)else some false).bind some
def C2[Ev]:Nat->ec->d7->Int->K1
 |0,_,_,_=>none|n+1,p,c,a=>
  (if(c.og=5:Bool)then
  some c.ec
  else
  some p).bind fun w1=>
  gn (ES (ρ:=Bool) (fun(s0:Int×Int)=>
  if (s0.2<(w1.d4.d3.length:Int)&&s0.1<=5000)then
  some (.next (Af (s0.1*40),Af (s0.2+1)))
  else
  some (.brk (s0.1,s0.2))) (a,(p.d4.d3.length:Int))) (fun s0=>
  gn (ES (ρ:=Bool) (fun(s2:Int×Int)=>
  if (s2.2<(w1.d4.d5.length:Int)&&s2.1<=5000)then
  some (.next (Af (s2.1*80),Af (s2.2+1)))
  else
  some (.brk (s2.1,s2.2))) (s0.1,(p.d4.d5.length:Int))) (fun s2=>
  gn (ES (ρ:=Bool) (fun(s4:Int)=>
  if (s4<(c.hT.length:Int)&&s2.1<=5000)then
  (idx c.hT s4).bind fun b=>
  (C2 n w1 b s2.1).bind fun d=>
  if (!d)then
  some (.ret false)
  else
  some (.next (Af (s4+1)))
  else
  some (.brk s4)) 0) (fun s4=>
  some (decide (s2.1<=5000))) some) some) some
def LC[Ev](p:ec)(c:d7)(a:Int):K1:=Jh fun n=>C2 n p c a
def K3[Ev](t:AC)(a:List gp)(b:AG):K1:=
 (if(4<(a.length:Int)&&(a.length:Int)<=10||12<(a.length:Int))then some true else((Jy t).bind fun c=>
 some (!c))).bind fun d=>
 (if d then some true else((GZ b).bind fun e=>
 some (!e))).bind fun f=>
 if f then
 some false
 else
 gn (kl (ρ:=Bool) (fun i0(s0:Bool)=>
 (idx a i0).bind fun g=>
 (JR t g b).bind fun h=>
 if (!h)then
 some (.ret false)
 else
 (if s0 then((idx a i0).bind fun i=>
 some (decide ((i.kq.d4.d3.length:Int)<=3)))else some false).bind fun j=>
 (if j then((idx a i0).bind fun k=>
 some (decide ((k.kq.d4.d5.length:Int)<=2)))else some false).bind fun l=>
 (if l then((idx a i0).bind fun m=>
 some (decide ((m.fd.d4.d3.length:Int)<=5)))else some false).bind fun n=>
 (if n then((idx a i0).bind fun o=>
 (idx a i0).bind fun p=>
 (LC o.kq p.d7 1).bind some)else some false).bind fun r=>
 some (.next r)) 0 (a.length:Int) true) (fun s0=>
 (JT t a b).bind fun s=>
 some ((!s=0)||((s0&&(b.d4.d3.length:Int)<=6)&&(b.d4.d5.length:Int)<=8))) some
def FP(m:AL)(n:Int):K1:=
 (Jz m.d6 n).bind fun a=>
 some (a&&(m.hV.length:Int)<=n)
def Np(d:AO)(a:Int):K1:=
 (GZ d.kp).bind fun e=>
 if ((!e)||a<(d.j4.length:Int))then
 some false
 else
 gn (kl (ρ:=Bool) (fun i0 _=>
 (idx d.j4 i0).bind fun b=>
 (FP b.o3 140).bind fun c=>
 if (!c)then
 some (.ret false)
 else
 some (.next ())) 0 (d.j4.length:Int) ()) (fun _=>
 some true) some
def Nb[Ev](c:HZ):K1:=
 (K3 c.T c.AbD c.D.kp).bind fun a=>
 (if(a&&((c.D.j4.length:Int)<=6||30<(c.D.j4.length:Int)))then((Np c.D 33).bind some)else some false).bind some
def GJ(a:List gp):Option (List gp):=
 Ag [] a
def IU(g:d4):Option d4:=
 (Ag [] g.d3).bind fun b=>
 (Ag [] g.d5).bind fun a=>
 some (d4.mk b a)
def Gr(a:AG):Option AG:=
 (IU a.d4).bind fun e=>
 (sr (fun i0(s0:AG)=>
 (idx a.fq i0).bind fun b=>
 (Ag [] b).bind fun c=>
 (Ag s0.fq [c]).bind fun d=>
 some (AG.mk s0.d4 d)) 0 (a.fq.length:Int) (AG.mk e [])).bind some
def H5(m:AL):Option AL:=
 (Ag [] m.d6.d3).bind fun c=>
 (Ag [] m.d6.d5).bind fun a=>
 (Ag [] m.hV).bind fun b=>
 some (AL.mk (d6.mk c a) b)
def Ib(d:AO):Option AO:=
 (Gr d.kp).bind fun f=>
 (sr (fun i0(s0:AO)=>
 (idx d.j4 i0).bind fun a=>
 (idx d.j4 i0).bind fun b=>
 (H5 b.o3).bind fun c=>
 (Ag s0.j4 [Bq.mk a.gp c]).bind fun e=>
 some (AO.mk s0.kp e)) 0 (d.j4.length:Int) (AO.mk f [])).bind some
def IV(a:Fp)(b:Fp):K1:=
 if (!(a.length:Int)=(b.length:Int))then
 some false
 else
 gn (kl (ρ:=Bool) (fun i0 _=>
 (idx a i0).bind fun c=>
 (idx b i0).bind fun d=>
 if (!c=d)then
 some (.ret false)
 else
 some (.next ())) 0 (a.length:Int) ()) (fun _=>
 some true) some
def MH(a:d4)(b:d4):K1:=
 (IV a.d3 b.d3).bind fun c=>
 if ((!c)||(!(a.d5.length:Int)=(b.d5.length:Int)))then
 some false
 else
 gn (kl (ρ:=Bool) (fun i0 _=>
 (idx a.d5 i0).bind fun d=>
 (idx b.d5 i0).bind fun e=>
 if (!d=e)then
 some (.ret false)
 else
 some (.next ())) 0 (a.d5.length:Int) ()) (fun _=>
 some true) some
def JB[Ev](a:Fp)(b:Fp):QQ:=
 gn (ES (ρ:=Int) (fun(s0:Int)=>
 if (s0<(a.length:Int)&&s0<(b.length:Int))then
 (idx a s0).bind fun c=>
 (idx b s0).bind fun d=>
 if (!c=d)then
 (idx a s0).bind fun e=>
 (idx b s0).bind fun f=>
 some (.ret (Af (e-f)))
 else
 some (.next (Af (s0+1)))
 else
 some (.brk s0)) 0) (fun s0=>
 some (Af ((a.length:Int)-(b.length:Int)))) some
def MI[Ev](a:AG)(b:AG):K1:=
 (MH a.d4 b.d4).bind fun c=>
 if ((!c)||(!(a.fq.length:Int)=(b.fq.length:Int)))then
 some false
 else
 gn (kl (ρ:=Bool) (fun i0 _=>
 (idx a.fq i0).bind fun d=>
 (idx b.fq i0).bind fun e=>
 (JB d e).bind fun f=>
 if (!f=0)then
 some (.ret false)
 else
 some (.next ())) 0 (a.fq.length:Int) ()) (fun _=>
 some true) some
def Gi(a:Fp)(b:Fp):K1:=
 if (!(a.length:Int)=(b.length:Int))then
 some false
 else
 gn (kl (ρ:=Bool) (fun i0 _=>
 (idx a i0).bind fun c=>
 (idx b i0).bind fun d=>
 if (!c=d)then
 some (.ret false)
 else
 some (.next ())) 0 (a.length:Int) ()) (fun _=>
 some true) some
def OG(a:d6)(b:d6):K1:=
 (Gi a.d3 b.d3).bind fun e=>
 (if e then((Gi a.d5 b.d5).bind some)else some false).bind some
def Hf(a:List Bq)(b:List Bq):K1:=
 if (!(a.length:Int)=(b.length:Int))then
 some false
 else
 gn (kl (ρ:=Bool) (fun i0 _=>
 (idx a i0).bind fun c=>
 (idx b i0).bind fun d=>
 (if(!c.gp=d.gp)then some true else((idx a i0).bind fun e=>
 (idx b i0).bind fun f=>
 (OG e.o3.d6 f.o3.d6).bind fun g=>
 some (!g))).bind fun h=>
 (if h then some true else((idx a i0).bind fun i=>
 (idx b i0).bind fun j=>
 (IV i.o3.hV j.o3.hV).bind fun k=>
 some (!k))).bind fun l=>
 if l then
 some (.ret false)
 else
 some (.next ())) 0 (a.length:Int) ()) (fun _=>
 some true) some
def MO[Ev](a:AO)(b:AO):K1:=
 (MI a.kp b.kp).bind fun e=>
 (if e then((Hf a.j4 b.j4).bind some)else some false).bind some
def FJ(m:AL):Option AL:=
 (slices_Clone_int m.d6.d3).bind fun c=>
 (slices_Clone_int m.d6.d5).bind fun a=>
 (slices_Clone_int m.hV).bind fun b=>
 some (AL.mk (d6.mk c a) b)
def De(d:AO):Option AO:=
 (Dz d.kp).bind fun e=>
 (sr (fun i0(s0:AO)=>
 (idx d.j4 i0).bind fun a=>
 (FJ a.o3).bind fun b=>
 (Ag s0.j4 [Bq.mk a.gp b]).bind fun c=>
 some (AO.mk s0.kp c)) 0 (d.j4.length:Int) (AO.mk e [])).bind some
def GG[Ev](t:AC)(a:List gp)(d:AO)(m:Bq):Option (AO×Int):=
 (C8 t a d).bind fun b=>
 if (!b.2.2=0)then
 some (O0,b.2.2)
 else
 if ((d.j4.length:Int)=30:Bool)then
 some (O0,17)
 else
 (Cn t a b.1 m).bind fun c=>
 if (!c.2=0)then
 some (O0,c.2)
 else
 (De d).bind fun e=>
 (FJ m.o3).bind fun f=>
 (Ag e.j4 [Bq.mk m.gp f]).bind fun g=>
 some (AO.mk e.kp g,0)
def IS(n:Int):Option Fp:=
 (sr (fun i0(s0:Fp)=>
 (Ag s0 [i0]).bind some) 0 n []).bind some
def On(g:d4):Option d6:=
 (IS (g.d3.length:Int)).bind fun b=>
 (IS (g.d5.length:Int)).bind fun a=>
 some (d6.mk b a)
def NI[Ev](t:AC)(d:gp)(c:AG):QQ:=
 (JQ t d).bind fun a=>
 if (!a=0)then
 some a
 else
 (Ga t c).bind fun b=>
 some b.2
def IY(l:Fp):K1:=
 gn (kl (ρ:=Bool) (fun i0 _=>
 gn (kl (ρ:=Bool) (fun i2 _=>
 (idx l i0).bind fun a=>
 (idx l i2).bind fun b=>
 if (a=b:Bool)then
 some (.ret false)
 else
 some (.next ())) 0 i0 ()) (fun _=>
 some (.next ())) (fun v2=>some (.ret v2))) 0 (l.length:Int) ()) (fun _=>
 some true) some
def Kq[Ev](t:AC)(p:d4)(g:d4)(m:d6)(a:Bool):QQ:=
 if ((!(m.d3.length:Int)=(p.d3.length:Int))||(!(m.d5.length:Int)=(p.d5.length:Int)))then
 some 20
 else
 gn (kl (ρ:=Int) (fun i0 _=>
 (idx m.d3 i0).bind fun n=>
 (if(n<0:Bool)then some true else((idx m.d3 i0).bind fun o=>
 some (decide ((g.d3.length:Int)<=o)))).bind fun q=>
 if q then
 some (.ret 6)
 else
 (idx m.d3 i0).bind fun r=>
 (idx g.d3 r).bind fun s=>
 (idx p.d3 i0).bind fun u=>
 (Gq t s u).bind fun v=>
 if (!v)then
 some (.ret 13)
 else
 some (.next ())) 0 (m.d3.length:Int) ()) (fun _=>
 gn (kl (ρ:=Int) (fun i2 _=>
 (idx m.d5 i2).bind fun w=>
 (if(w<0:Bool)then some true else((idx m.d5 i2).bind fun x=>
 some (decide ((g.d5.length:Int)<=x)))).bind fun y=>
 if y then
 some (.ret 6)
 else
 (idx p.d5 i2).bind fun c=>
 (idx m.d5 i2).bind fun d=>
 (idx g.d5 d).bind fun b=>
 if (!c.ne=b.ne)then
 some (.ret 13)
 else
 (idx m.d3 c.ns).bind fun e=>
 (if(!e=b.ns)then some true else((idx m.d3 c.To).bind fun f=>
 some (!f=b.To))).bind fun h=>
 if h then
 some (.ret 11)
 else
 some (.next ())) 0 (m.d5.length:Int) ()) (fun _=>
 (if a then((IY m.d3).bind fun i=>
 (if(!i)then some true else((IY m.d5).bind fun j=>
 some (!j))).bind some)else some false).bind fun l=>
 if l then
 some 5
 else
 some 0) some) some
def H2[Ev](t:AC)(p:d4)(g:d4)(m:d6)(a:Bool):QQ:=
 (H3 t p g).bind fun b=>
 if (!b=0)then
 some b
 else
 (Kq t p g m a).bind some
def Ks[Ev](t:AC)(p:ec)(c:AG):QQ:=
 (Gc t p).bind fun a=>
 if (!a=0)then
 some a
 else
 (Ga t c).bind fun b=>
 some b.2
def H4(a:kg)(c:Fp):QQ:=
 if (a.Var<0:Bool)then
 some a.Add
 else
 (idx c a.Var).bind fun b=>
 some (Af (b+a.Add))
def JM(t:kg)(b:Fp):Option (Int×Bool):=
 if (t.Var=(-1):Bool)then
 some (t.Add,true)
 else
 if (t.Var<0||(b.length:Int)<=t.Var)then
 some (0,false)
 else
 (idx b t.Var).bind fun a=>
 some (Af (a+t.Add),true)
def Kl(a:Test)(d:Fp):K1:=
 (JM a.kq d).bind fun b=>
 (JM a.fd d).bind fun c=>
 if ((!b.2)||(!c.2))then
 some false
 else
 some (a.og=1&&b.1<=c.1||(a.og=2&&b.1=c.1))
def J1(p:ec)(l:AG)(m:d6):Option (Fp×Int):=
 (IQ p.hV 0).bind fun d=>
 (IQ p.hV false).bind fun e=>
 gn (kl (ρ:=(Fp×Int)) (fun i0(s0:Fp×a6)=>
 (idx p.ff i0).bind fun a=>
 (idx m.d3 a.tg).bind fun f=>
 (idx l.fq f).bind fun g=>
 (idx g a.mo).bind fun b=>
 (if(0<=a.kg.Var:Bool)then((idx s0.2 a.kg.Var).bind fun h=>
 some (!h))else some false).bind fun i=>
 if i then
 (idx s0.2 a.kg.Var).bind fun n=>
 (idx s0.1 a.kg.Var).bind fun o=>
 (H4 a.kg (BH s0.1 a.kg.Var (Af (b-a.kg.Add)))).bind fun c=>
 if (!c=b)then
 some (.ret ([],11))
 else
 some (.next (BH s0.1 a.kg.Var (Af (b-a.kg.Add)),BH s0.2 a.kg.Var true))
 else
 (H4 a.kg s0.1).bind fun c=>
 if (!c=b)then
 some (.ret ([],11))
 else
 some (.next (s0.1,s0.2))) 0 (p.ff.length:Int) (d,e)) (fun s0=>
 gn (kl (ρ:=(Fp×Int)) (fun i2 _=>
 (idx p.sc i2).bind fun j=>
 (Kl j s0.1).bind fun k=>
 if (!k)then
 some (.ret ([],16))
 else
 some (.next ())) 0 (p.sc.length:Int) ()) (fun _=>
 some (s0.1,0)) some) some
def Kr[Ev](t:AC)(p:ec)(a:AG)(m:d6):Option (Fp×Int):=
 (Ks t p a).bind fun b=>
 if (!b=0)then
 some ([],b)
 else
 (H2 t p.d4 a.d4 m false).bind fun c=>
 if (!c=0)then
 some ([],c)
 else
 (J1 p a m).bind fun d=>
 some (d.1,d.2)
def IX[Ev](t:AC)(p:d4)(g:d4)(m:d6):Option (d4×Int):=
 (H2 t p g m false).bind fun a=>
 if (!a=0)then
 some (d4.mk [] [],a)
 else
 (IU p).bind fun b=>
 gn (ES (ρ:=(d4×Int)) (fun(s0:d4×Int)=>
 if (s0.2<(s0.1.d3.length:Int):Bool)then
 (idx m.d3 s0.2).bind fun c=>
 (idx g.d3 c).bind fun d=>
 (idx s0.1.d3 s0.2).bind fun e=>
 some (.next (d4.mk (BH s0.1.d3 s0.2 d) s0.1.d5,Af (s0.2+1)))
 else
 some (.brk (s0.1,s0.2))) (b,0)) (fun s0=>
 some (s0.1,0)) some
def NF(l:d4)(g:d4)(b:BB)(m:d6):QQ:=
 (GY l g m).bind fun a=>
 if (!a=0)then
 some a
 else
 (H0 l b).bind some
def Dg(l:Fp)(n:Int):K1:=
 gn (kl (ρ:=Bool) (fun i0 _=>
 (idx l i0).bind fun a=>
 if (a=n:Bool)then
 some (.ret true)
 else
 some (.next ())) 0 (l.length:Int) ()) (fun _=>
 some false) some
def FO(a:Fp)(b:Fp):Option (List F5):=
 (sr (fun i0(s0:List F5)=>
 (sr (fun i2(s2:List F5)=>
 (idx a i0).bind fun c=>
 (idx a i2).bind fun d=>
 (if(c=d:Bool)then((Dg b i0).bind fun e=>
 (if(!e)then some true else((Dg b i2).bind fun f=>
 some (!f))).bind some)else some false).bind fun h=>
 if h then
 (Ag s2 [F5.mk i0 i2]).bind some
 else
 some s2) (Af (i0+1)) (a.length:Int) s0).bind some) 0 (a.length:Int) []).bind some
def I1(a:Fp)(b:Fp):Option Fp:=
 (sr (fun i0(s0:Fp)=>
 (Dg b i0).bind fun c=>
 if (!c)then
 (idx a i0).bind fun d=>
 (Ag s0 [d]).bind some
 else
 some s0) 0 (a.length:Int) []).bind some
def IW(l:d4)(g:d4)(b:BB)(m:d6):Option Fp:=
 (I1 m.d3 b.d3).bind fun a=>
 (sr (fun i0(s0:Fp)=>
 (Dg m.d5 i0).bind fun c=>
 (if(!c)then((idx g.d5 i0).bind fun d=>
 (Dg a d.ns).bind fun e=>
 (if e then some true else((idx g.d5 i0).bind fun f=>
 (Dg a f.To).bind some)).bind some)else some false).bind fun j=>
 if j then
 (Ag s0 [i0]).bind some
 else
 some s0) 0 (g.d5.length:Int) []).bind some
def KM(n:Int)(l:Fp):Option Fp:=
 (sr (fun i0(s0:Fp)=>
 (Dg l i0).bind fun a=>
 if (!a)then
 (Ag s0 [i0]).bind some
 else
 some s0) 0 n []).bind some
def Oo(l:d4)(g:d4)(a:BB)(m:d6):Option (BB×Int):=
 (NF l g a m).bind fun b=>
 if (!b=0)then
 some (BB.mk [] [],b)
 else
 (FO m.d3 a.d3).bind fun c=>
 (FO m.d5 a.d5).bind fun d=>
 if (0<(Af ((c.length:Int)+(d.length:Int))):Bool)then
 some (BB.mk [] [],15)
 else
 (IW l g a m).bind fun e=>
 if (0<(e.length:Int):Bool)then
 some (BB.mk [] [],14)
 else
 (I1 m.d3 a.d3).bind fun f=>
 (KM (g.d3.length:Int) f).bind fun h=>
 (I1 m.d5 a.d5).bind fun i=>
 (KM (g.d5.length:Int) i).bind fun j=>
 some (BB.mk h j,0)
def Ia(n:Int)(b:Fp)(m:Fp):Option Fp:=
 (sr (fun i0(s0:Fp)=>
 (Ag s0 [(-1)]).bind some) 0 n []).bind fun s0=>
 (sr (fun i2(s2:Fp)=>
 (idx b i2).bind fun a=>
 (idx m i2).bind fun d=>
 (idx s2 a).bind fun e=>
 some (BH s2 a d)) 0 (b.length:Int) s0).bind some
def Et(c:AY)(a:Fp):K1:=
 gn (kl (ρ:=Bool) (fun i0 _=>
 (idx c.p.d5 i0).bind fun b=>
 if ((a.length:Int)<=b.ns||(a.length:Int)<=b.To)then
 some (.next ())
 else
 (sr (fun i2(s2:Bool)=>
 (idx c.g.d5 i2).bind fun d=>
 (if s2 then some true else((if(b.ne=d.ne:Bool)then((idx a b.ns).bind fun e=>
 some (decide (d.ns=e)))else some false).bind fun f=>
 (if f then((idx a b.To).bind fun h=>
 some (decide (d.To=h)))else some false).bind some)).bind some) 0 (c.g.d5.length:Int) false).bind fun s2=>
 if (!s2)then
 some (.ret false)
 else
 some (.next ())) 0 (c.p.d5.length:Int) ()) (fun _=>
 some true) some
def Ce[Ev](b:AY)(l:Fp)(n:Int):K1:=
 gn (ES (ρ:=Bool) (fun(s0:Int)=>
 if (s0<(l.length:Int)&&b.ej)then
 (idx l s0).bind fun a=>
 if (a=n:Bool)then
 some (.ret true)
 else
 some (.next (Af (s0+1)))
 else
 some (.brk s0)) 0) (fun s0=>
 some false) some
def B9[Ev]:Nat->AY->Fp->Fp->Option AY
 |0,_,_,_=>none|n+1,a,b,l=>
  if (a.tl<(a.AaA.length:Int):Bool)then
  some a
  else
  if ((l.length:Int)=(a.p.d5.length:Int):Bool)then
  (Ag [] b).bind fun o=>
  (Ag [] l).bind fun q=>
  (Ag a.AaA [d6.mk o q]).bind fun r=>
  some (AY.mk a.t a.p a.g a.gt a.ej a.tl r)
  else
  (idx a.p.d5 (l.length:Int)).bind fun c=>
  gn (ES (ρ:=AY) (fun(s0:AY×Int)=>
  if (s0.2<(s0.1.g.d5.length:Int):Bool)then
  (idx s0.1.g.d5 s0.2).bind fun d=>
  (idx s0.1.gt.d5 (l.length:Int)).bind fun s=>
  (if(0<=s:Bool)then((idx s0.1.gt.d5 (l.length:Int)).bind fun u=>
  some (!u=s0.2))else some false).bind fun v=>
  (if v then some true else((Ce s0.1 l s0.2).bind some)).bind fun x=>
  (if(x||(!c.ne=d.ne))then some true else((idx b c.ns).bind fun e=>
  some (!d.ns=e))).bind fun f=>
  (if f then some true else((idx b c.To).bind fun h=>
  some (!d.To=h))).bind fun i=>
  if i then
  some (.next (s0.1,Af (s0.2+1)))
  else
  (Ag [] l).bind fun j=>
  (Ag j [s0.2]).bind fun k=>
  (B9 n s0.1 b k).bind fun m=>
  some (.next (m,Af (s0.2+1)))
  else
  some (.brk (s0.1,s0.2))) (a,0)) (fun s0=>
  some s0.1) some
def LS[Ev](b:AY)(a:Fp)(l:Fp):Option AY:=Jh fun n=>B9 n b a l
def CA[Ev]:Nat->AY->Fp->Option AY
 |0,_,_=>none|n+1,a,l=>
  (if(a.tl<(a.AaA.length:Int):Bool)then some true else((Et a l).bind fun d=>
  some (!d))).bind fun e=>
  if e then
  some a
  else
  if ((l.length:Int)=(a.p.d3.length:Int):Bool)then
  (LS a l []).bind some
  else
  gn (ES (ρ:=AY) (fun(s0:AY×Int)=>
  if (s0.2<(s0.1.g.d3.length:Int):Bool)then
  (idx s0.1.gt.d3 (l.length:Int)).bind fun h=>
  (if(0<=h:Bool)then((idx s0.1.gt.d3 (l.length:Int)).bind fun i=>
  some (!i=s0.2))else some false).bind fun j=>
  (if j then some true else((Ce s0.1 l s0.2).bind some)).bind fun m=>
  (if m then some true else((idx s0.1.g.d3 s0.2).bind fun o=>
  (idx s0.1.p.d3 (l.length:Int)).bind fun q=>
  (Gq s0.1.t o q).bind fun r=>
  some (!r))).bind fun s=>
  if s then
  some (.next (s0.1,Af (s0.2+1)))
  else
  (Ag [] l).bind fun u=>
  (Ag u [s0.2]).bind fun b=>
  (CA n s0.1 b).bind fun c=>
  some (.next (c,Af (s0.2+1)))
  else
  some (.brk (s0.1,s0.2))) (a,0)) (fun s0=>
  some s0.1) some
def IJ[Ev](a:AY)(l:Fp):Option AY:=Jh fun n=>CA n a l
def Nl[Ev](t:AC)(p:d4)(g:d4)(b:d6)(a:Bool)(c:Int):Option (List d6):=
 (IJ (AY.mk t p g b a c []) []).bind fun d=>
 some d.AaA
def IZ(l:Fp)(a:Int)(n:Int):QQ:=
 if (!(l.length:Int)=a)then
 some 20
 else
 gn (kl (ρ:=Int) (fun i0 _=>
 (idx l i0).bind fun b=>
 (if(b<(-1):Bool)then some true else((idx l i0).bind fun c=>
 some (decide (n<=c)))).bind fun d=>
 if d then
 some (.ret 6)
 else
 some (.next ())) 0 (l.length:Int) ()) (fun _=>
 some 0) some
def J0[Ev](t:AC)(p:d4)(g:d4)(a:d6)(b:Bool):Option (List d6×Int):=
 (H3 t p g).bind fun c=>
 if (!c=0)then
 some ([],c)
 else
 if ((!(a.d3.length:Int)=(p.d3.length:Int))||(!(a.d5.length:Int)=(p.d5.length:Int)))then
 some ([],20)
 else
 (IZ a.d3 (p.d3.length:Int) (g.d3.length:Int)).bind fun d=>
 if (!d=0)then
 some ([],d)
 else
 (IZ a.d5 (p.d5.length:Int) (g.d5.length:Int)).bind fun e=>
 if (!e=0)then
 some ([],e)
 else
 (Nl t p g a b 5000).bind fun f=>
 if (5000<(f.length:Int):Bool)then
 some ([],3)
 else
 some (f,0)
def EO(a:kg)(c:Fp):Option (Int×Int):=
 if (a.Var<(-1)||(c.length:Int)<=a.Var)then
 some (0,6)
 else
 (H4 a c).bind fun b=>
 some (b,0)
def J3(q:ec)(p:AG)(m:d6)(c:Fp):Option (Fp×Bool):=
 (Ag [] c).bind fun h=>
 (IQ q.hV false).bind fun i=>
 (sr (fun i0(s0:Fp×a6)=>
 (idx s0.2 i0).bind fun t=>
 if ((c.length:Int)<=i0:Bool)then
 (Ag s0.1 [0]).bind fun j=>
 some (j,BH s0.2 i0 (decide (i0<(c.length:Int))))
 else
 some (s0.1,BH s0.2 i0 (decide (i0<(c.length:Int))))) 0 q.hV (h,i)).bind fun s0=>
 gn (kl (ρ:=(Fp×Bool)) (fun i2(s2:Fp×a6)=>
 (idx q.ff i2).bind fun a=>
 (idx m.d3 a.tg).bind fun k=>
 (idx p.fq k).bind fun l=>
 (idx l a.mo).bind fun e=>
 (if(0<=a.kg.Var:Bool)then((idx s2.2 a.kg.Var).bind fun n=>
 some (!n))else some false).bind fun o=>
 if o then
 (idx s2.1 a.kg.Var).bind fun r=>
 (idx s2.2 a.kg.Var).bind fun s=>
 (EO a.kg (BH s2.1 a.kg.Var (Af (e-a.kg.Add)))).bind fun d=>
 if (!d.1=e)then
 some (.ret ([],false))
 else
 some (.next (BH s2.1 a.kg.Var (Af (e-a.kg.Add)),BH s2.2 a.kg.Var true))
 else
 (EO a.kg s2.1).bind fun d=>
 if (!d.1=e)then
 some (.ret ([],false))
 else
 some (.next (s2.1,s2.2))) 0 (q.ff.length:Int) (s0.1,s0.2)) (fun s2=>
 gn (kl (ρ:=(Fp×Bool)) (fun i4 _=>
 (idx q.sc i4).bind fun b=>
 (EO b.kq s2.1).bind fun f=>
 (EO b.fd s2.1).bind fun g=>
 if (b.og=1&&g.1<f.1||(b.og=2&&(!f.1=g.1)))then
 some (.ret ([],false))
 else
 some (.next ())) 0 (q.sc.length:Int) ()) (fun _=>
 some (s2.1,true)) some) some
def Gs[Ev](t:AC)(c:d7)(e:AG)(m:AL)(a:Bool):Option (List AL×Int):=
 (Ia (c.ec.d4.d3.length:Int) c.Map.d3 m.d6.d3).bind fun f=>
 (Ia (c.ec.d4.d5.length:Int) c.Map.d5 m.d6.d5).bind fun g=>
 (J0 t c.ec.d4 e.d4 (d6.mk f g) a).bind fun b=>
 if (!b.2=0)then
 some ([],b.2)
 else
 (sr (fun i0(s0:List AL)=>
 (idx b.1 i0).bind fun h=>
 (J3 c.ec e h m.hV).bind fun d=>
 if d.2 then
 (idx b.1 i0).bind fun i=>
 (Ag s0 [AL.mk i d.1]).bind some
 else
 some s0) 0 (b.1.length:Int) []).bind fun s0=>
 some (s0,0)
def Dh[Ev]:Nat->AC->d7->AG->AL->Bool->Option (Az×Int)
 |0,_,_,_,_,_=>none|n+1,t,c,f,m,a=>
  if (c.og=2:Bool)then
  (idx c.hT 0).bind fun l=>
  (Dh n t l f m a).bind fun g=>
  if (g.2=0:Bool)then
  some (C4,10)
  else
  if (g.2=10:Bool)then
  some (C4,0)
  else
  some (C4,g.2)
  else
  if (c.og=3:Bool)then
  gn (kl (ρ:=(Az×Int)) (fun i1(s1:Az×Az)=>
  (idx c.hT i1).bind fun o=>
  (Dh n t o f m a).bind fun h=>
  if (!h.2=0)then
  some (.ret (C4,h.2))
  else
  (Ag s1.2.hT [h.1]).bind fun p=>
  some (.next (s1.1,Az.mk s1.2.AaC s1.2.o3 p))) 0 (c.hT.length:Int) (C4,C4)) (fun s1=>
  some (s1.2,0)) some
  else
  if (c.og=4:Bool)then
  gn (kl (ρ:=(Az×Int)) (fun i3(s3:Az)=>
  (idx c.hT i3).bind fun q=>
  (Dh n t q f m a).bind fun d=>
  if (!d.2=10)then
  some (.ret (Az.mk i3 (AL.mk (d6.mk [] []) []) [d.1],d.2))
  else
  some (.next s3)) 0 (c.hT.length:Int) C4) (fun s3=>
  some (C4,10)) some
  else
  if (c.og=5:Bool)then
  (Gs t c f m a).bind fun b=>
  if (!b.2=0)then
  some (C4,b.2)
  else
  gn (kl (ρ:=(Az×Int)) (fun i5(s5:Az)=>
  (idx c.hT 0).bind fun i=>
  (idx b.1 i5).bind fun j=>
  (Dh n t i f j a).bind fun e=>
  if (!e.2=10)then
  (idx b.1 i5).bind fun k=>
  some (.ret (Az.mk 0 k [e.1],e.2))
  else
  some (.next s5)) 0 (b.1.length:Int) C4) (fun s5=>
  some (C4,10)) some
  else
  some (C4,0)
def Pl[Ev](t:AC)(c:d7)(b:AG)(m:AL)(a:Bool):Option (Az×Int):=Jh fun n=>Dh n t c b m a
def Kt[Ev](t:AC)(c:d7)(d:AG)(m:AL)(a:Bool):Option (Bool×Int):=
 (Pl t c d m a).bind fun b=>
 if (b.2=10:Bool)then
 some (false,0)
 else
 some (decide (b.2=0),b.2)
def KP[Ev](t:AC)(a:gp)(b:AG)(m:AL):Option (BB×Int):=
 (H2 t a.kq.d4 b.d4 m.d6 a.pq).bind fun g=>
 if (!g=0)then
 some (BB.mk [] [],1)
 else
 (Kr t a.kq b m.d6).bind fun c=>
 if (!c.2=0)then
 some (BB.mk [] [],c.2)
 else
 (Gi c.1 m.hV).bind fun h=>
 if (!h)then
 some (BB.mk [] [],11)
 else
 (IX t a.kq.d4 b.d4 m.d6).bind fun d=>
 if (!d.2=0)then
 some (BB.mk [] [],d.2)
 else
 (Oo d.1 b.d4 a.x4 m.d6).bind fun e=>
 if (!e.2=0)then
 some (BB.mk [] [],e.2)
 else
 (Kt t a.d7 b m a.pq).bind fun f=>
 (if(f.2=0&&(!f.1))then
 some 16
 else
 some f.2).bind fun w1=>
 some (e.1,w1)
def JA[Ev](t:AC)(b:AG)(p:BB):Option (AG×Int):=
 (Ga t b).bind fun c=>
 if (!c.2=0)then
 some (AG.mk (d4.mk [] []) [],c.2)
 else
 (HC b.d4 p).bind fun a=>
 if (!a.2.2=0)then
 some (AG.mk (d4.mk [] []) [],a.2.2)
 else
 gn (ES (ρ:=(AG×Int)) (fun(s0:AG×Int)=>
 if (s0.2<(a.2.1.d3.length:Int):Bool)then
 (idx a.2.1.d3 s0.2).bind fun d=>
 (idx b.fq d).bind fun e=>
 (Ag [] e).bind fun f=>
 (Ag s0.1.fq [f]).bind fun g=>
 some (.next (AG.mk s0.1.d4 g,Af (s0.2+1)))
 else
 some (.brk (s0.1,s0.2))) (AG.mk a.1 [],0)) (fun s0=>
 some (s0.1,0)) some
def KL(l:Fp)(n:Int):Option Fp:=
 (sr (fun i0(s0:Fp)=>
 (Ag s0 [(-1)]).bind fun a=>
 (sr (fun i2(s2:Fp)=>
 (idx l i2).bind fun b=>
 if (b=i0:Bool)then
 (idx s2 i0).bind fun c=>
 some (BH s2 i0 i2)
 else
 some s2) 0 (l.length:Int) a).bind some) 0 n []).bind some
def J5(n:Int)(a:Fp):Option Fp:=
 (KL a n).bind some
def LB[Ev](t:AC)(a:AG)(d:BB):Option (AG×d6):=
 (JA t a d).bind fun b=>
 (J5 (a.d4.d3.length:Int) d.d3).bind fun c=>
 (J5 (a.d4.d5.length:Int) d.d5).bind fun e=>
 some (b.1,d6.mk c e)
def Gk(a:Fp)(b:Fp):Option Fp:=
 (sr (fun i0(s0:Fp)=>
 (idx a i0).bind fun c=>
 (idx b c).bind fun d=>
 (Ag s0 [d]).bind some) 0 (a.length:Int) []).bind some
def FA(e:Fp)(d:Fp)(a:Int)(l:Fp)(b:Int):Option Fp:=
 (KL d a).bind fun c=>
 (sr (fun i0(s0:Int×Fp)=>
 (idx c i0).bind fun f=>
 if (0<=f:Bool)then
 (idx c i0).bind fun g=>
 (idx e g).bind fun h=>
 (idx l h).bind fun i=>
 (Ag s0.2 [i]).bind fun j=>
 some (s0.1,j)
 else
 (Ag s0.2 [s0.1]).bind fun k=>
 some (Af (s0.1+1),k)) 0 a (b,[])).bind fun s0=>
 some s0.2
def HD(a:Fp)(c:Int):K1:=
 gn (kl (ρ:=Bool) (fun i0 _=>
 (idx a i0).bind fun b=>
 if (b=c:Bool)then
 some (.ret false)
 else
 some (.next ())) 0 (a.length:Int) ()) (fun _=>
 some true) some
def KO[Ev](t:AC)(a:gp)(p:AG)(c:d6):Option AG:=
 gn (ES (ρ:=AG) (fun(s0:AG×Int)=>
 if (s0.2<(a.fd.d4.d3.length:Int):Bool)then
 (HD a.sx.d3 s0.2).bind fun h=>
 if (!h)then
 some (.next (s0.1,Af (s0.2+1)))
 else
 (idx a.fd.d4.d3 s0.2).bind fun i=>
 (Ag s0.1.d4.d3 [i]).bind fun j=>
 (idx a.fd.d4.d3 s0.2).bind fun k=>
 (FX t k).bind fun d=>
 (sr (fun i2(s2:Fp)=>
 (idx d.1 i2).bind fun l=>
 (Ag s2 [l.Low]).bind some) 0 (d.1.length:Int) []).bind fun s2=>
 (Ag s0.1.fq [s2]).bind fun n=>
 some (.next (AG.mk (d4.mk j s0.1.d4.d5) n,Af (s0.2+1)))
 else
 some (.brk (s0.1,s0.2))) (p,0)) (fun s0=>
 gn (ES (ρ:=AG) (fun(s4:AG×Int)=>
 if (s4.2<(a.fd.d4.d5.length:Int):Bool)then
 (HD a.sx.d5 s4.2).bind fun o=>
 if o then
 (idx a.fd.d4.d5 s4.2).bind fun b=>
 (idx c.d3 b.ns).bind fun e=>
 (idx c.d3 b.To).bind fun f=>
 (Ag s4.1.d4.d5 [Bl.mk b.ne e f]).bind fun g=>
 some (.next (AG.mk (d4.mk s4.1.d4.d3 g) s4.1.fq,Af (s4.2+1)))
 else
 some (.next (s4.1,Af (s4.2+1)))
 else
 some (.brk (s4.1,s4.2))) (s0.1,0)) (fun s4=>
 some s4.1) some) some
def Ld[Ev](t:AC)(a:gp)(C:AG)(c:d6)(e:Fp):Option (AG×Int):=
 gn (kl (ρ:=(AG×Int)) (fun i0(s0:AG)=>
 (idx a.fd.ff i0).bind fun q=>
 (EO q.kg e).bind fun r=>
 gn (kl (ρ:=(AG×Int)) (fun i2(s2:AG)=>
 (idx a.fd.ff i2).bind fun s=>
 (EO s.kg e).bind fun u=>
 (idx a.fd.ff i2).bind fun v=>
 (idx c.d3 v.tg).bind fun w=>
 (idx a.fd.ff i0).bind fun x=>
 (idx c.d3 x.tg).bind fun y=>
 (if(w=y:Bool)then((idx a.fd.ff i2).bind fun z=>
 (idx a.fd.ff i0).bind fun A=>
 some (decide (z.mo=A.mo)))else some false).bind fun B=>
 if (B&&(!r.1=u.1))then
 some (.ret (AG.mk (d4.mk [] []) [],11))
 else
 some (.next s2)) 0 i0 s0) (fun s2=>
 some (.next s2)) (fun v2=>some (.ret v2))) 0 (a.fd.ff.length:Int) (AG.mk (d4.mk [] []) [])) (fun s0=>
 gn (kl (ρ:=(AG×Int)) (fun i4(s4:AG×AG)=>
 (idx a.fd.ff i4).bind fun i=>
 (EO i.kg e).bind fun b=>
 (idx a.fd.ff i4).bind fun j=>
 (idx c.d3 j.tg).bind fun d=>
 (idx s4.1.d4.d3 d).bind fun k=>
 (FX t k).bind fun f=>
 (idx a.fd.ff i4).bind fun l=>
 (idx f.1 l.mo).bind fun m=>
 (if(b.1<m.Low:Bool)then some true else((idx a.fd.ff i4).bind fun n=>
 (idx f.1 n.mo).bind fun o=>
 some (decide (o.AaD<b.1)))).bind fun p=>
 if p then
 some (.ret (AG.mk (d4.mk [] []) [],6))
 else
 (idx s4.1.fq d).bind fun g=>
 (idx a.fd.ff i4).bind fun h=>
 (idx g h.mo).bind fun D=>
 some (.next (AG.mk s4.1.d4 (BH s4.1.fq d (BH g h.mo b.1)),s4.2))) 0 (a.fd.ff.length:Int) (C,s0)) (fun s4=>
 some (s4.1,0)) some) some
def Kz[Ev](t:AC)(a:gp)(e:AG)(m:AL):Option (Ar×Int):=
 (NI t a e).bind fun h=>
 if (!h=0)then
 some (Hu,h)
 else
 (KP t a e m).bind fun c=>
 if (!c.2=0)then
 some (Hu,c.2)
 else
 (LB t e c.1).bind fun d=>
 (Gk m.d6.d3 d.2.d3).bind fun i=>
 (Gk m.d6.d5 d.2.d5).bind fun j=>
 (FA a.x4.d3 a.sx.d3 (a.fd.d4.d3.length:Int) i (c.1.d3.length:Int)).bind fun f=>
 (FA a.x4.d5 a.sx.d5 (a.fd.d4.d5.length:Int) j (c.1.d5.length:Int)).bind fun g=>
 (Gr d.1).bind fun k=>
 (KO t a k (d6.mk f g)).bind fun l=>
 (Ld t a l (d6.mk f g) m.hV).bind fun b=>
 if (!b.2=0)then
 some (Hu,b.2)
 else
 if (40<(b.1.d4.d3.length:Int)||80<(b.1.d4.d5.length:Int))then
 some (Hu,3)
 else
 some (Ar.mk a m e b.1 d.2 (d6.mk f g),0)
def KQ[Ev](t:AC)(a:List gp)(d:AG)(m:Bq):Option (Ar×Int):=
 if (m.gp<0||(a.length:Int)<=m.gp)then
 some (Hu,6)
 else
 (idx a m.gp).bind fun c=>
 (Kz t c d m.o3).bind fun b=>
 some (b.1,b.2)
def J7[Ev](t:AC)(a:List gp)(d:AO):Option (List Ar×Int×Int):=
 (JT t a d.kp).bind fun c=>
 if (!c=0)then
 some ([],0,c)
 else
 if (30<(d.j4.length:Int):Bool)then
 some ([],0,3)
 else
 gn (kl (ρ:=(List Ar×Int×Int)) (fun i0(s0:List Ar×AG)=>
 (idx d.j4 i0).bind fun e=>
 (KQ t a s0.2 e).bind fun b=>
 if (!b.2=0)then
 some (.ret ([],i0,b.2))
 else
 (Ag s0.1 [b.1]).bind fun f=>
 some (.next (f,b.1.tn))) 0 (d.j4.length:Int) ([],d.kp)) (fun s0=>
 some (s0.1,(s0.1.length:Int),0)) some
def JS(l:Fp)(f:Fp):Option Fp:=
 (sr (fun i0(s0:Fp)=>
 (idx l i0).bind fun a=>
 if (a<0:Bool)then
 (Ag s0 [(-1)]).bind some
 else
 (idx l i0).bind fun c=>
 (idx f c).bind fun d=>
 (Ag s0 [d]).bind some) 0 (l.length:Int) []).bind some
def K0[Ev](t:AC)(b:List gp)(d:AO):Option (AG×d6×Int):=
 (J7 t b d).bind fun a=>
 if (!a.2.2=0)then
 some (AG.mk (d4.mk [] []) [],d6.mk [] [],a.2.2)
 else
 (On d.kp.d4).bind fun c=>
 (sr (fun i0(s0:AG×d6)=>
 (idx a.1 i0).bind fun e=>
 (idx a.1 i0).bind fun f=>
 (JS s0.2.d3 f.Aan.d3).bind fun g=>
 (idx a.1 i0).bind fun h=>
 (JS s0.2.d5 h.Aan.d5).bind fun i=>
 some (e.tn,d6.mk g i)) 0 (a.1.length:Int) (d.kp,c)).bind fun s0=>
 (Gr s0.1).bind fun j=>
 some (j,s0.2,0)
def J6[Ev](t:AC)(a:List gp)(d:AO)(m:Bq):Option (AO×Int):=
 (K0 t a d).bind fun b=>
 if (!b.2.2=0)then
 some (O0,b.2.2)
 else
 if ((d.j4.length:Int)=30:Bool)then
 some (O0,17)
 else
 (KQ t a b.1 m).bind fun c=>
 if (!c.2=0)then
 some (O0,c.2)
 else
 (Ib d).bind fun e=>
 (H5 m.o3).bind fun f=>
 (Ag e.j4 [Bq.mk m.gp f]).bind fun g=>
 some (AO.mk e.kp g,0)
def FV[Ev](c:HZ)(m:Bq):K1:=
 (EF).bind fun n=>
 (if(!n)then some true else((Nb c).bind fun d=>
 some (!d))).bind fun e=>
 (if e then some true else((FP m.o3 140).bind fun f=>
 some (!f))).bind fun g=>
 if g then
 (EF).bind some
 else
 (GJ c.AbD).bind fun i=>
 (Ib c.D).bind fun j=>
 (GG c.T i j m).bind fun a=>
 (J6 c.T c.AbD c.D m).bind fun b=>
 (if(a.2=b.2:Bool)then((MO a.1 b.1).bind some)else some false).bind some
end
end Go.Sf.Sc
