/- The functions of the program as Lean functions. -/
import Derived.Test.YtbgedoajacpdbaaGreatDoorTypes
import Derived.Test.YtbgedoajacpdbaaGreatDoorSfText
import Derived.Test.YtbgedoajacpdbaaGreatDoorSfF
set_option linter.all false
set_option maxRecDepth 100000
namespace Go.Sf.Sc
open Go Go.Sf
noncomputable section
abbrev Hu:A2:=A2.mk (gt.mk (⟨#[]⟩:ByteArray) (ec.mk (d5.mk [] []) [] 0 []) (ec.mk (d5.mk [] []) [] 0 []) (BA.mk [] []) (d6.mk [] []) false (d7.mk 0 [] (d6.mk [] []) (ec.mk (d5.mk [] []) [] 0 []))) (AL.mk (d6.mk [] []) []) (AG.mk (d5.mk [] []) []) (AG.mk (d5.mk [] []) []) (d6.mk [] []) (d6.mk [] [])
abbrev C1:Ay:=Ay.mk 0 (AL.mk (d6.mk [] []) []) []
abbrev RN:AZ:=AZ.mk (AG.mk (d5.mk [] []) []) []
def KC(c:Int):K1:=
 some (97<=c&&c<=122||(65<=c&&c<=90))
def Ge[Ev](a:ByteArray)(e:Int->K1):QQ:=
 ff (EA (ρ:=Int) (fun(s0:Int)=>
 (if(s0<(a.size:Int):Bool)then((AaC a s0).bind fun b=>
 (e b).bind some)else some false).bind fun d=>
 if d then
 some (.next (Ad (s0+1)))
 else
 some (.brk s0)) 0) some some
def JW(c:Int):K1:=
 some (48<=c&&c<=57)
def Md(c:Int):K1:=
 (KC c).bind fun a=>
 (if a then some true else((JW c).bind some)).bind fun d=>
 some (d||c=95)
def KW(c:Int):K1:=
 some ((32<=c&&c<=126)&&(!c=34))
def Fx[Ev](a:ByteArray):Option (Int×Int):=
 (AaH a 1 a.size).bind fun e=>
 (Ge e KW).bind fun b=>
 (if((Ad (1+b))=(a.size:Int):Bool)then some true else((AaC a (Ad (1+b))).bind fun c=>
 some (!c=34))).bind fun d=>
 if d then
 some (0,2)
 else
 if (60<b:Bool)then
 some (0,3)
 else
 some (Ad (b+2),0)
def slices_Index_string(a:List ByteArray)(c:ByteArray):QQ:=
 ff (j4 (ρ:=Int) (fun i0 _=>
 (idx a i0).bind fun b=>
 if (c==b)then
 some (.ret i0)
 else
 some (.next ())) 0 (a.length:Int) ()) (fun _=>
 some (-1)) some
def slices_Contains_string(b:List ByteArray)(a:ByteArray):K1:=
 (slices_Index_string b a).bind fun c=>
 some (decide (0<=c))
def Mc(a:ByteArray):K1:=
 (if(2<=(a.size:Int):Bool)then((AaH a 0 2).bind fun d=>
 (slices_Contains_string [(⟨#[45,62]⟩:ByteArray),(⟨#[60,61]⟩:ByteArray),(⟨#[62,61]⟩:ByteArray),(⟨#[61,61]⟩:ByteArray),(⟨#[33,61]⟩:ByteArray)] d).bind some)else some false).bind some
def strings_IndexByte(s:ByteArray)(c:Int):QQ:=some (Go.Lib.indexByte s.data.toList c.toNat.toUInt8)
def Hq[Ev](a:ByteArray):Option (Int×Int×Int):=
 (AaC a 0).bind fun b=>
 (KC b).bind fun f=>
 if f then
 (Ge a Md).bind fun c=>
 if (20<c:Bool)then
 some (0,0,3)
 else
 some (1,c,0)
 else
 (JW b).bind fun g=>
 if g then
 (Ge a JW).bind fun d=>
 if (9<d:Bool)then
 some (0,0,3)
 else
 some (2,d,0)
 else
 if (b=34:Bool)then
 (Fx a).bind fun e=>
 some (3,e.1,e.2)
 else
 (Mc a).bind fun h=>
 if h then
 some (4,2,0)
 else
 (strings_IndexByte (⟨#[123,125,40,41,91,93,44,59,58,61,43,45,42,60,62,33,38,124,46,63]⟩:ByteArray) b).bind fun i=>
 if (0<=i:Bool)then
 some (4,1,0)
 else
 some (0,0,2)
def H5[Ev](t:EL):Option (ByteArray×Bool):=
 (if(t.mo=3:Bool)then
 (M2 (⟨#[34]⟩:ByteArray) t.AbU).bind fun b=>
 (M2 b (⟨#[34]⟩:ByteArray)).bind some
 else
 some t.AbU).bind fun w1=>
 if (w1==(⟨#[]⟩:ByteArray))then
 some ((⟨#[]⟩:ByteArray),false)
 else
 (Hq w1).bind fun a=>
 some (w1,(a.2.2=0&&a.1=t.mo)&&a.2.1=(w1.size:Int))
def DB[Ev](a:ByteArray):K1:=
 (H5 (EL.mk 1 a 0)).bind fun b=>
 some b.2
def Cm[Ev](a:List B0)(f:B0->K1):QQ:=
 ff (j4 (ρ:=Int) (fun i0 _=>
 (idx a i0).bind fun b=>
 (f b).bind fun c=>
 if c then
 some (.ret i0)
 else
 some (.next ())) 0 (a.length:Int) ()) (fun _=>
 some (-1)) some
def B5[Ev](a:List B0)(f:B0->K1):K1:=
 (Cm a f).bind fun b=>
 some (decide (0<=b))
def Mf(m:B0)(a:B0):K1:=
 some (m.o4==a.o4)
def C0[Ev]:Nat->AC->Int->Option (List kl)
 |0,_,_=>none|n+1,t,a=>
  (idx t.d3 a).bind fun b=>
  (if(0<=b.Aad:Bool)then
  (C0 n t b.Aad).bind some
  else
  some []).bind fun w1=>
  (idx t.d3 a).bind fun d=>
  (Ah w1 d.tn).bind some
def JX[Ev](t:AC)(a:Int):Option (List kl):=Ji fun n=>C0 n t a
def DZ[Ev](a:List kl)(f:kl->K1):QQ:=
 ff (j4 (ρ:=Int) (fun i0 _=>
 (idx a i0).bind fun b=>
 (f b).bind fun c=>
 if c then
 some (.ret i0)
 else
 some (.next ())) 0 (a.length:Int) ()) (fun _=>
 some (-1)) some
def CP[Ev](a:List kl)(f:kl->K1):K1:=
 (DZ a f).bind fun b=>
 some (decide (0<=b))
def IE(y:kl)(a:kl):K1:=
 some (y.o4==a.o4)
def Gg[Ev](l:List ByteArray):QQ:=
 if (20<(l.length:Int):Bool)then
 some 3
 else
 ff (j4 (ρ:=Int) (fun i0 _=>
 (idx l i0).bind fun a=>
 (DB a).bind fun b=>
 if (!b)then
 some (.ret 2)
 else
 (slc l 0 i0).bind fun c=>
 (slices_Contains_string c a).bind fun d=>
 if d then
 some (.ret 5)
 else
 some (.next ())) 0 (l.length:Int) ()) (fun _=>
 some 0) some
def D9[Ev](a:kl)(b:List kl):QQ:=
 (DB a.o4).bind fun d=>
 if (!d)then
 some 2
 else
 (CP b (fun y0=>IE y0 a)).bind fun e=>
 if e then
 some 5
 else
 (Gg a.up).bind fun c=>
 if (!c=0)then
 some c
 else
 (if(0<(a.up.length:Int):Bool)then
 some (a.Low=0&&a.AaD=(Ad ((a.up.length:Int)-1)))
 else
 some (((-1000000)<=a.Low&&a.Low<=a.AaD)&&a.AaD<=1000000)).bind fun w1=>
 if (!w1)then
 some 6
 else
 some 0
def Hs[Ev](t:AC)(c:Int):QQ:=
 (idx t.d3 c).bind fun a=>
 (DB a.o4).bind fun e=>
 if (!e)then
 some 2
 else
 (slc t.d3 0 c).bind fun f=>
 (B5 f (fun y0=>Mf y0 a)).bind fun g=>
 if g then
 some 5
 else
 if (a.Aad<(-1)||c<=a.Aad)then
 some 6
 else
 if (4<(a.tn.length:Int):Bool)then
 some 3
 else
 (JX t c).bind fun b=>
 if (8<(b.length:Int):Bool)then
 some 3
 else
 ff (j4 (ρ:=Int) (fun i1 _=>
 (idx b i1).bind fun h=>
 (slc b 0 i1).bind fun i=>
 (D9 h i).bind fun d=>
 if (!d=0)then
 some (.ret d)
 else
 some (.next ())) (Ad ((b.length:Int)-(a.tn.length:Int))) (b.length:Int) ()) (fun _=>
 some 0) some
def KD(n:Int)(a:AC):K1:=
 some (0<=n&&n<(a.d3.length:Int))
def Cl[Ev](a:List B9)(f:B9->K1):QQ:=
 ff (j4 (ρ:=Int) (fun i0 _=>
 (idx a i0).bind fun b=>
 (f b).bind fun c=>
 if c then
 some (.ret i0)
 else
 some (.next ())) 0 (a.length:Int) ()) (fun _=>
 some (-1)) some
def B4[Ev](a:List B9)(f:B9->K1):K1:=
 (Cl a f).bind fun b=>
 some (decide (0<=b))
def Me(y:B9)(a:B9):K1:=
 some (y.o4==a.o4)
def JI(b:Int)(a:Int):K1:=
 some ((0<=b&&b<=40)&&(a=(-1)||(b<=a&&a<=40)))
def Hr[Ev](t:AC)(c:Int):QQ:=
 (idx t.d4 c).bind fun a=>
 (DB a.o4).bind fun d=>
 if (!d)then
 some 2
 else
 (slc t.d4 0 c).bind fun e=>
 (B4 e (fun y0=>Me y0 a)).bind fun f=>
 if f then
 some 5
 else
 (KD a.kq t).bind fun g=>
 (if(!g)then some true else((KD a.To t).bind fun h=>
 some (!h))).bind fun b=>
 (if b then
 some b
 else
 (JI a.Abi a.AaX).bind fun i=>
 (if(!i)then some true else((JI a.Abz a.Abf).bind fun j=>
 some (!j))).bind some).bind fun w1=>
 if w1 then
 some 6
 else
 some 0
def C2[Ev](t:AC):Option (ByteArray×Int):=
 if ((t.d3.length:Int)=0:Bool)then
 some ((⟨#[]⟩:ByteArray),7)
 else
 if (12<(t.d3.length:Int)||20<(t.d4.length:Int))then
 some ((⟨#[]⟩:ByteArray),3)
 else
 ff (j4 (ρ:=(ByteArray×Int)) (fun i1 _=>
 (idx t.d3 i1).bind fun c=>
 (Hs t i1).bind fun a=>
 if (!a=0)then
 some (.ret (c.o4,a))
 else
 some (.next ())) 0 (t.d3.length:Int) ()) (fun _=>
 ff (j4 (ρ:=(ByteArray×Int)) (fun i3 _=>
 (idx t.d4 i3).bind fun d=>
 (Hr t i3).bind fun b=>
 if (!b=0)then
 some (.ret (d.o4,b))
 else
 some (.next ())) 0 (t.d4.length:Int) ()) (fun _=>
 some ((⟨#[]⟩:ByteArray),0)) some) some
def Ch[Ev](a:Fp)(f:Int->K1):QQ:=
 ff (j4 (ρ:=Int) (fun i0 _=>
 (idx a i0).bind fun b=>
 (f b).bind fun c=>
 if c then
 some (.ret i0)
 else
 some (.next ())) 0 (a.length:Int) ()) (fun _=>
 some (-1)) some
def Al[Ev](a:Fp)(f:Int->K1):K1:=
 (Ch a f).bind fun b=>
 some (decide (0<=b))
def Gp(n:Int)(a:Int):K1:=
 some (0<=n&&n<=a)
def K7(t:Int):K1:=
 (Gp t 99).bind fun a=>
 some (!a)
def Da[Ev](a:List Bj)(f:Bj->K1):QQ:=
 ff (j4 (ρ:=Int) (fun i0 _=>
 (idx a i0).bind fun b=>
 (f b).bind fun c=>
 if c then
 some (.ret i0)
 else
 some (.next ())) 0 (a.length:Int) ()) (fun _=>
 some (-1)) some
def BL[Ev](a:List Bj)(f:Bj->K1):K1:=
 (Da a f).bind fun b=>
 some (decide (0<=b))
def L8(e:Bj)(a:Int):K1:=
 (Gp e.kp 99).bind fun g=>
 (if g then((Gp e.kq (Ad (a-1))).bind some)else some false).bind fun c=>
 (if c then((Gp e.To (Ad (a-1))).bind some)else some false).bind some
def K8(e:Bj)(b:d5):K1:=
 (L8 e (b.d3.length:Int)).bind fun a=>
 some (!a)
def CU[Ev](g:d5):QQ:=
 if (40<(g.d3.length:Int)||80<(g.d4.length:Int))then
 some 3
 else
 (Al g.d3 K7).bind fun a=>
 if a then
 some 6
 else
 (BL g.d4 (fun y0=>K8 y0 g)).bind fun b=>
 if b then
 some 6
 else
 some 0
def LG(a:Int)(b:AC):K1:=
 some (a<0||(b.d3.length:Int)<=a)
def Et[Ev](t:AC)(l:Fp):QQ:=
 (C2 t).bind fun b=>
 if (!b.2=0)then
 some b.2
 else
 (Al l (fun y0=>LG y0 t)).bind fun a=>
 if a then
 some 6
 else
 some 0
def slices_Clone_string(a:List ByteArray):Option (List ByteArray):=
 Ah [] a
def Dn[Ev](t:AC)(a:Int):Option (List kl×Int):=
 (Et t [a]).bind fun c=>
 if (!c=0)then
 some ([],c)
 else
 (JX t a).bind fun d=>
 (pr (fun i0(s0:List kl)=>
 (idx s0 i0).bind fun e=>
 (slices_Clone_string e.up).bind fun f=>
 (idx s0 i0).bind fun b=>
 some (BC s0 i0 (kl.mk b.o4 b.Low b.AaD f))) 0 (d.length:Int) d).bind fun s0=>
 some (s0,0)
def Ie[Ev](t:AC)(a:Int)(h:Fp):QQ:=
 if ((t.d3.length:Int)<=a:Bool)then
 some 6
 else
 (idx t.d3 a).bind fun d=>
 if d.Aao then
 some 13
 else
 (Dn t a).bind fun b=>
 if (!(h.length:Int)=(b.1.length:Int))then
 some 20
 else
 ff (j4 (ρ:=Int) (fun i0 _=>
 (idx b.1 i0).bind fun c=>
 (idx h i0).bind fun e=>
 (if(e<c.Low:Bool)then some true else((idx h i0).bind fun f=>
 some (decide (c.AaD<f)))).bind fun g=>
 if g then
 some (.ret 6)
 else
 some (.next ())) 0 (b.1.length:Int) ()) (fun _=>
 some 0) some
def slices_Index_int(a:Fp)(c:Int):QQ:=
 ff (j4 (ρ:=Int) (fun i0 _=>
 (idx a i0).bind fun b=>
 if (c=b:Bool)then
 some (.ret i0)
 else
 some (.next ())) 0 (a.length:Int) ()) (fun _=>
 some (-1)) some
def slices_Contains_int(b:Fp)(a:Int):K1:=
 (slices_Index_int b a).bind fun c=>
 some (decide (0<=c))
def slices_Reverse_int(l:Fp):Option Fp:=if l.length<=Ae then some l.reverse else none
def I4[Ev](t:AC)(a:Int):Option Fp:=
 ff (EA (ρ:=Fp) (fun(s0:Int×Fp)=>
 if (0<=s0.1:Bool)then
 (Ah s0.2 [s0.1]).bind fun b=>
 (idx t.d3 s0.1).bind fun c=>
 some (.next (c.Aad,b))
 else
 some (.brk (s0.1,s0.2))) (a,[])) (fun s0=>
 (slices_Reverse_int s0.2).bind some) some
def H7[Ev](t:AC)(a:Int)(b:Int):K1:=
 (I4 t a).bind fun d=>
 (slices_Contains_int d b).bind some
def GU[Ev](t:AC)(a:Int)(b:Int)(c:Int):K1:=
 (Et t [b,c]).bind fun d=>
 if (((!d=0)||a<0)||(t.d4.length:Int)<=a)then
 some false
 else
 (idx t.d4 a).bind fun e=>
 (H7 t b e.kq).bind fun f=>
 (if f then((idx t.d4 a).bind fun g=>
 (H7 t c g.To).bind some)else some false).bind some
def E1[Ev](t:AC)(a:AG):Option (Int×Int):=
 (C2 t).bind fun c=>
 if (!c.2=0)then
 some ((-1),c.2)
 else
 (CU a.d5).bind fun d=>
 if (!d=0)then
 some ((-1),d)
 else
 if (!(a.gn.length:Int)=(a.d5.d3.length:Int))then
 some ((-1),20)
 else
 ff (j4 (ρ:=(Int×Int)) (fun i0 _=>
 (idx a.d5.d3 i0).bind fun f=>
 (idx a.gn i0).bind fun g=>
 (Ie t f g).bind fun e=>
 if (!e=0)then
 some (.ret (i0,e))
 else
 some (.next ())) 0 (a.d5.d3.length:Int) ()) (fun _=>
 ff (j4 (ρ:=(Int×Int)) (fun i2 _=>
 (idx a.d5.d4 i2).bind fun b=>
 if ((t.d4.length:Int)<=b.kp:Bool)then
 some (.ret (i2,6))
 else
 (idx a.d5.d3 b.kq).bind fun h=>
 (idx a.d5.d3 b.To).bind fun i=>
 (GU t b.kp h i).bind fun j=>
 if (!j)then
 some (.ret (i2,13))
 else
 some (.next ())) 0 (a.d5.d4.length:Int) ()) (fun _=>
 some ((-1),0)) some) some
def GA(n:Int)(a:AC):K1:=
 some (decide ((a.d3.length:Int)<=n))
def GB(a:Bj)(b:AC):K1:=
 some (decide ((b.d4.length:Int)<=a.kp))
def CO(n:Int)(b:Int)(a:Int):K1:=
 some (b<=n&&n<=a)
def EY[Ev](t:AC)(p:ec)(a:CT):Option (kl×Bool):=
 (CO a.sx 0 (Ad ((p.d5.d3.length:Int)-1))).bind fun c=>
 if (!c)then
 some (kl.mk (⟨#[]⟩:ByteArray) 0 0 [],false)
 else
 (idx p.d5.d3 a.sx).bind fun d=>
 (Dn t d).bind fun b=>
 (CO a.kl 0 (Ad ((b.1.length:Int)-1))).bind fun e=>
 if (!e)then
 some (kl.mk (⟨#[]⟩:ByteArray) 0 0 [],false)
 else
 (idx b.1 a.kl).bind fun f=>
 some (f,true)
def HU(n:Int)(t:j0):K1:=
 some ((((-1)<=t.Var&&t.Var<n)&&(-1000000)<=t.Add)&&t.Add<=1000000)
def IK(n:Int)(a:Test):QQ:=
 if ((!a.mo=1)&&(!a.mo=2))then
 some 1
 else
 (HU n a.kg).bind fun b=>
 (if(!b)then some true else((HU n a.fd).bind fun c=>
 some (!c))).bind fun d=>
 if d then
 some 6
 else
 some 0
def Gn(n:Int)(l:List Test):QQ:=
 if (n<0||12<n)then
 some 6
 else
 if (40<(l.length:Int):Bool)then
 some 3
 else
 ff (j4 (ρ:=Int) (fun i0 _=>
 (idx l i0).bind fun b=>
 (IK n b).bind fun a=>
 if (!a=0)then
 some (.ret a)
 else
 some (.next ())) 0 (l.length:Int) ()) (fun _=>
 some 0) some
def ID(a:a6)(c:Bool):QQ:=
 ff (j4 (ρ:=Int) (fun i0 _=>
 (idx a i0).bind fun b=>
 if (c==b)then
 some (.ret i0)
 else
 some (.next ())) 0 (a.length:Int) ()) (fun _=>
 some (-1)) some
def E6(b:a6)(a:Bool):K1:=
 (ID b a).bind fun c=>
 some (decide (0<=c))
def Cc[Ev](t:AC)(p:ec):QQ:=
 (C2 t).bind fun c=>
 if (!c.2=0)then
 some c.2
 else
 (CU p.d5).bind fun d=>
 if (!d=0)then
 some d
 else
 (Al p.d5.d3 (fun y0=>GA y0 t)).bind fun f=>
 (if f then some true else((BL p.d5.d4 (fun y0=>GB y0 t)).bind some)).bind fun h=>
 if h then
 some 13
 else
 (CO p.hT 0 12).bind fun i=>
 if (!i)then
 some 6
 else
 if (10<(p.fq.length:Int)||10<(p.pq.length:Int))then
 some 3
 else
 (GW p.hT false).bind fun j=>
 ff (j4 (ρ:=Int) (fun i0(s0:a6)=>
 (idx p.fq i0).bind fun a=>
 (EY t p a).bind fun k=>
 (if(!k.2)then some true else((CO a.j0.Var (-1) (Ad (p.hT-1))).bind fun l=>
 some (!l))).bind fun m=>
 (if m then some true else((CO a.j0.Add (-1000000) 1000000).bind fun n=>
 some (!n))).bind fun o=>
 if o then
 some (.ret 6)
 else
 if (0<=a.j0.Var:Bool)then
 (idx s0 a.j0.Var).bind fun q=>
 some (.next (BC s0 a.j0.Var true))
 else
 some (.next s0)) 0 (p.fq.length:Int) j) (fun s0=>
 (Gn p.hT p.pq).bind fun b=>
 if (!b=0)then
 some b
 else
 (E6 s0 false).bind fun e=>
 if e then
 some 9
 else
 some 0) some
def MY(n:Int)(a:AC):K1:=
 some (decide ((a.d3.length:Int)<=n))
def MZ(a:Bj)(b:AC):K1:=
 some (decide ((b.d4.length:Int)<=a.kp))
def Hn[Ev](t:AC)(g:d5):K1:=
 (Al g.d3 (fun y0=>MY y0 t)).bind fun c=>
 (if(!c)then((BL g.d4 (fun y0=>MZ y0 t)).bind fun a=>
 some (!a))else some false).bind some
def Db[Ev](a:List CT)(f:CT->K1):QQ:=
 ff (j4 (ρ:=Int) (fun i0 _=>
 (idx a i0).bind fun b=>
 (f b).bind fun c=>
 if c then
 some (.ret i0)
 else
 some (.next ())) 0 (a.length:Int) ()) (fun _=>
 some (-1)) some
def CC[Ev](a:List CT)(f:CT->K1):K1:=
 (Db a f).bind fun b=>
 some (decide (0<=b))
def NU(y:CT)(a:CT):K1:=
 some (y.sx=a.sx&&y.kl=a.kl)
def Ik[Ev](t:AC)(b:gt)(c:Int):QQ:=
 (idx b.fd.fq c).bind fun a=>
 if (a.sx<0||(b.fd.d5.d3.length:Int)<=a.sx)then
 some 6
 else
 (idx b.fd.d5.d3 a.sx).bind fun d=>
 (Dn t d).bind fun e=>
 if (((((a.kl<0||(e.1.length:Int)<=a.kl)||a.j0.Var<(-1))||b.fd.hT<=a.j0.Var)||a.j0.Add<(-1000000))||1000000<a.j0.Add)then
 some 6
 else
 (slc b.fd.fq 0 c).bind fun f=>
 (CC f (fun y0=>NU y0 a)).bind fun g=>
 if g then
 some 5
 else
 some 0
def Hm[Ev](t:AC)(a:gt):QQ:=
 (CU a.fd.d5).bind fun b=>
 if (!b=0)then
 some b
 else
 (Hn t a.fd.d5).bind fun d=>
 if (!d)then
 some 13
 else
 if ((!a.fd.hT=a.kg.hT)||0<(a.fd.pq.length:Int))then
 some 1
 else
 if (10<(a.fd.fq.length:Int):Bool)then
 some 3
 else
 ff (j4 (ρ:=Int) (fun i1 _=>
 (Ik t a i1).bind fun c=>
 if (!c=0)then
 some (.ret c)
 else
 some (.next ())) 0 (a.fd.fq.length:Int) ()) (fun _=>
 some 0) some
def Cx[Ev](a:d5)(b:d5)(m:d6):QQ:=
 (CU a).bind fun g=>
 if (!g=0)then
 some g
 else
 (CU b).bind fun h=>
 if (!h=0)then
 some h
 else
 if ((!(m.d3.length:Int)=(a.d3.length:Int))||(!(m.d4.length:Int)=(a.d4.length:Int)))then
 some 20
 else
 ff (j4 (ρ:=Int) (fun i0 _=>
 (idx m.d3 i0).bind fun c=>
 if (c<0||(b.d3.length:Int)<=c)then
 some (.ret 6)
 else
 (idx b.d3 c).bind fun l=>
 (idx a.d3 i0).bind fun n=>
 if (!l=n)then
 some (.ret 13)
 else
 some (.next ())) 0 (m.d3.length:Int) ()) (fun _=>
 ff (j4 (ρ:=Int) (fun i2 _=>
 (idx m.d4 i2).bind fun d=>
 if (d<0||(b.d4.length:Int)<=d)then
 some (.ret 6)
 else
 (idx a.d4 i2).bind fun e=>
 (idx b.d4 d).bind fun f=>
 if (!e.kp=f.kp)then
 some (.ret 13)
 else
 (idx m.d3 e.kq).bind fun i=>
 (if(!i=f.kq)then some true else((idx m.d3 e.To).bind fun j=>
 some (!j=f.To))).bind fun k=>
 if k then
 some (.ret 11)
 else
 some (.next ())) 0 (m.d4.length:Int) ()) (fun _=>
 some 0) some) some
def slices_Clone_int(a:Fp):Option Fp:=
 Ah [] a
def slices_Sort_int(l:Fp):Option Fp:=if l.length<=Ae then some (PK l)else none
def slices_Compact_int(l:Fp):Option Fp:=if l.length<=Ae then some (Go.Lib.compact l)else none
def F4(l:Fp):QQ:=
 (slices_Clone_int l).bind fun a=>
 (slices_Sort_int a).bind fun b=>
 (slices_Compact_int b).bind fun c=>
 some (c.length:Int)
def Cg[Ev](a:d5)(b:d5)(m:d6):K1:=
 (Cx a b m).bind fun c=>
 (if(c=0:Bool)then((F4 m.d3).bind fun d=>
 some (decide (d=(m.d3.length:Int))))else some false).bind fun e=>
 (if e then((F4 m.d4).bind fun f=>
 some (decide (f=(m.d4.length:Int))))else some false).bind some
def HK(l:Fp)(n:Int):QQ:=
 ff (j4 (ρ:=Int) (fun i0 _=>
 (idx l i0).bind fun a=>
 if (a<0||n<=a)then
 some (.ret 6)
 else
 (if(0<i0:Bool)then((idx l (Ad (i0-1))).bind fun b=>
 some (decide (a<=b)))else some false).bind fun c=>
 if c then
 some (.ret 12)
 else
 some (.next ())) 0 (l.length:Int) ()) (fun _=>
 some 0) some
def slices_BinarySearch_int(l:Fp)(x:Int):Option (Int×Bool):=if l.length<=Ae/\l.Pairwise (·<=·)then some ((l.countP (·<x):Nat),l.contains x)else none
def KB(l:Fp)(n:Int):K1:=
 (slices_BinarySearch_int l n).bind fun a=>
 some a.2
def LF(g:d5)(p:BA):QQ:=
 (HK p.d3 (g.d3.length:Int)).bind fun a=>
 if (!a=0)then
 some a
 else
 (HK p.d4 (g.d4.length:Int)).bind fun b=>
 if (!b=0)then
 some b
 else
 ff (j4 (ρ:=Int) (fun i0 _=>
 (idx p.d4 i0).bind fun c=>
 (idx g.d4 c).bind fun d=>
 (KB p.d3 d.kq).bind fun e=>
 (if(!e)then some true else((idx g.d4 c).bind fun f=>
 (KB p.d3 f.To).bind fun h=>
 some (!h))).bind fun i=>
 if i then
 some (.ret 14)
 else
 some (.next ())) 0 (p.d4.length:Int) ()) (fun _=>
 some 0) some
def Du[Ev](g:d5)(p:BA):QQ:=
 (CU g).bind fun b=>
 if (!b=0)then
 some b
 else
 (LF g p).bind some
def Dj[Ev](g:d5)(p:BA):Option (d5×d6×Int):=
 (Du g p).bind fun b=>
 if (!b=0)then
 some (d5.mk [] [],d6.mk [] [],b)
 else
 (pr (fun i0(s0:d5)=>
 (idx p.d3 i0).bind fun c=>
 (idx g.d3 c).bind fun d=>
 (Ah s0.d3 [d]).bind fun e=>
 some (d5.mk e s0.d4)) 0 (p.d3.length:Int) (d5.mk [] [])).bind fun s0=>
 (pr (fun i2(s2:d5)=>
 (idx p.d4 i2).bind fun f=>
 (idx g.d4 f).bind fun a=>
 (slices_BinarySearch_int p.d3 a.kq).bind fun h=>
 (slices_BinarySearch_int p.d3 a.To).bind fun i=>
 (Ah s2.d4 [Bj.mk a.kp h.1 i.1]).bind fun j=>
 some (d5.mk s2.d3 j)) 0 (p.d4.length:Int) s0).bind fun s2=>
 (slices_Clone_int p.d3).bind fun k=>
 (slices_Clone_int p.d4).bind fun l=>
 some (s2,d6.mk k l,0)
def Ij[Ev](a:gt):QQ:=
 (Dj a.kg.d5 a.x3).bind fun b=>
 if (!b.2.2=0)then
 some b.2.2
 else
 (Cx b.1 a.fd.d5 a.sc).bind fun c=>
 if (!c=0)then
 some c
 else
 (Cg b.1 a.fd.d5 a.sc).bind fun d=>
 if (!d)then
 some 11
 else
 some 0
def JV(l:Fp)(n:Int):Option Fp:=
 (pr (fun i0(s0:Fp)=>
 (slices_Contains_int l i0).bind fun a=>
 if (!a)then
 (Ah s0 [i0]).bind some
 else
 some s0) 0 n []).bind some
def J9(a:gt):Option (Fp×Fp):=
 (JV a.sc.d3 (a.fd.d5.d3.length:Int)).bind fun b=>
 (JV a.sc.d4 (a.fd.d5.d4.length:Int)).bind fun c=>
 some (b,c)
def KU(c:Int)(e:AC)(d:d5):K1:=
 (idx d.d3 c).bind fun a=>
 (idx e.d3 a).bind fun b=>
 some b.Aao
def FW[Ev](e:Int)(f:d5)(g:AC):K1:=
 (idx f.d4 e).bind fun a=>
 (idx f.d3 a.kq).bind fun b=>
 (idx f.d3 a.To).bind fun c=>
 (GU g a.kp b c).bind fun d=>
 some (!d)
def Fv[Ev](t:AC)(g:d5)(b:Fp)(a:Fp):K1:=
 (Al b (fun y0=>KU y0 t g)).bind fun c=>
 (if(!c)then((Al a (fun y0=>FW y0 g t)).bind fun d=>
 some (!d))else some false).bind some
def EZ(c:d7):K1:=
 some ((Ad ((Ad ((Ad ((Ad ((Ad ((c.Map.d3.length:Int)+(c.Map.d4.length:Int)))+(c.ec.d5.d3.length:Int)))+(c.ec.d5.d4.length:Int)))+(c.ec.fq.length:Int)))+(c.ec.pq.length:Int)))=0&&c.ec.hT=0)
def Ca[Ev](a:List d7)(f:d7->K1):QQ:=
 ff (j4 (ρ:=Int) (fun i0 _=>
 (idx a i0).bind fun b=>
 (f b).bind fun c=>
 if c then
 some (.ret i0)
 else
 some (.next ())) 0 (a.length:Int) ()) (fun _=>
 some (-1)) some
def Bh[Ev](a:List d7)(f:d7->K1):K1:=
 (Ca a f).bind fun b=>
 some (decide (0<=b))
mutual
def BI[Ev]:Nat->d7->K1
 |0,_=>none|n+1,c=>
  (if(c.mo=1:Bool)then
  (if((c.gp.length:Int)=0:Bool)then((EZ c).bind some)else some false).bind some
  else
  if (c.mo=2:Bool)then
  (if((c.gp.length:Int)=1:Bool)then((EZ c).bind some)else some false).bind some
  else
  if (c.mo=3:Bool)then
  if (c.mo=3:Bool)then
  (if(1<=(c.gp.length:Int):Bool)then((EZ c).bind some)else some false).bind some
  else
  if (c.mo=5:Bool)then
  some (decide ((c.gp.length:Int)=1))
  else
  some false
  else
  if (c.mo=4:Bool)then
  (if(1<=(c.gp.length:Int):Bool)then((EZ c).bind some)else some false).bind some
  else
  if (c.mo=5:Bool)then
  some (decide ((c.gp.length:Int)=1))
  else
  some false).bind fun w1=>
  (if w1 then((Bh c.gp (BS n)).bind fun h=>
  some (!h))else some false).bind some
def BS[Ev]:Nat->d7->K1
 |0,_=>none|n+1,k=>
  (BI n k).bind fun a=>
  some (!a)
end
def E0[Ev](c:d7):K1:=Ji fun n=>BI n c
def Pd[Ev](k:d7):K1:=Ji fun n=>BS n k
def CA[Ev]:Nat->d7->Option (Int×Int)
 |0,_=>none|n+1,c=>
  (pr (fun i0(s0:Int×Int)=>
  (idx c.gp i0).bind fun b=>
  (CA n b).bind fun a=>
  some (Ad (s0.1+a.1),max s0.2 a.2)) 0 (c.gp.length:Int) (1,0)).bind fun s0=>
  (if(c.mo=5:Bool)then
  some (Ad (s0.2+1))
  else
  some s0.2).bind fun w1=>
  some (s0.1,w1)
def GE[Ev](c:d7):Option (Int×Int):=Ji fun n=>CA n c
def D3[Ev](c:d7):QQ:=
 (E0 c).bind fun b=>
 if (!b)then
 some 1
 else
 (GE c).bind fun a=>
 if (12<a.1||3<a.2)then
 some 3
 else
 some 0
def G6(a:CT)(b:Int):K1:=
 some (decide (a.j0.Var=b))
def DI[Ev](t:AC)(q:ec)(b:Int):QQ:=
 (Cc t q).bind fun a=>
 if (!a=9)then
 some a
 else
 ff (EA (ρ:=Int) (fun(s0:Int)=>
 if (s0<q.hT:Bool)then
 (CC q.fq (fun y0=>G6 y0 s0)).bind fun c=>
 if (!c)then
 some (.ret a)
 else
 some (.next (Ad (s0+1)))
 else
 some (.brk s0)) b) (fun s0=>
 some 0) some
def Bw[Ev]:Nat->AC->ec->d7->QQ
 |0,_,_,_=>none|n+1,t,p,c=>
  if (c.mo=5:Bool)then
  if (c.ec.hT<p.hT:Bool)then
  some 20
  else
  (DI t c.ec p.hT).bind fun d=>
  if (!d=0)then
  some d
  else
  (Cx p.d5 c.ec.d5 c.Map).bind fun e=>
  if (!e=0)then
  some e
  else
  (Cg p.d5 c.ec.d5 c.Map).bind fun f=>
  if (!f)then
  some 1
  else
  ff (j4 (ρ:=Int) (fun i0 _=>
  (idx c.gp i0).bind fun b=>
  (Bw n t c.ec b).bind fun a=>
  if (!a=0)then
  some (.ret a)
  else
  some (.next ())) 0 (c.gp.length:Int) ()) (fun _=>
  some 0) some
  else
  ff (j4 (ρ:=Int) (fun i0 _=>
  (idx c.gp i0).bind fun b=>
  (Bw n t p b).bind fun a=>
  if (!a=0)then
  some (.ret a)
  else
  some (.next ())) 0 (c.gp.length:Int) ()) (fun _=>
  some 0) some
def Iu[Ev](t:AC)(p:ec)(c:d7):QQ:=Ji fun n=>Bw n t p c
def Ce[Ev](t:AC)(p:ec)(c:d7):QQ:=
 (Cc t p).bind fun a=>
 if (!a=0)then
 some a
 else
 (D3 c).bind fun b=>
 if (!b=0)then
 some b
 else
 (Iu t p c).bind some
def GO[Ev](t:AC)(a:gt):QQ:=
 (C2 t).bind fun b=>
 if (!b.2=0)then
 some b.2
 else
 (DB a.o4).bind fun g=>
 if (!g)then
 some 2
 else
 (Cc t a.kg).bind fun c=>
 if (!c=0)then
 some c
 else
 (Hm t a).bind fun d=>
 if (!d=0)then
 some d
 else
 (Ij a).bind fun e=>
 if (!e=0)then
 some e
 else
 (J9 a).bind fun f=>
 (Fv t a.fd.d5 f.1 f.2).bind fun h=>
 if (!h)then
 some 13
 else
 (Ce t a.kg a.d7).bind some
def C6[Ev](t:AC)(a:List gt)(f:AG):QQ:=
 (C2 t).bind fun b=>
 if (!b.2=0)then
 some b.2
 else
 if (10<(a.length:Int):Bool)then
 some 3
 else
 ff (j4 (ρ:=Int) (fun i0 _=>
 (idx a i0).bind fun d=>
 (GO t d).bind fun c=>
 if (!c=0)then
 some (.ret c)
 else
 some (.next ())) 0 (a.length:Int) ()) (fun _=>
 (E1 t f).bind fun e=>
 some e.2) some
def Fg[Ev](t:AC)(e:gt)(d:AG):QQ:=
 (C2 t).bind fun a=>
 if (!a.2=0)then
 some a.2
 else
 (GO t e).bind fun b=>
 if (!b=0)then
 some b
 else
 (E1 t d).bind fun c=>
 some c.2
def slices_Equal_int(a:Fp)(b:Fp):K1:=
 if (!(a.length:Int)=(b.length:Int))then
 some false
 else
 ff (j4 (ρ:=Bool) (fun i0 _=>
 (idx a i0).bind fun c=>
 (idx b i0).bind fun d=>
 if (!c=d)then
 some (.ret false)
 else
 some (.next ())) 0 (a.length:Int) ()) (fun _=>
 some true) some
def Jl(n:Int)(a:AC):K1:=
 some (decide ((a.d3.length:Int)<=n))
def Jm(a:Bj)(b:AC):K1:=
 some (decide ((b.d4.length:Int)<=a.kp))
def ER[Ev](t:AC)(g:d5):K1:=
 (Al g.d3 (fun y0=>Jl y0 t)).bind fun c=>
 (if(!c)then((BL g.d4 (fun y0=>Jm y0 t)).bind fun a=>
 some (!a))else some false).bind some
def Di[Ev](t:AC)(p:d5)(g:d5):QQ:=
 (C2 t).bind fun a=>
 if (!a.2=0)then
 some a.2
 else
 ff (j4 (ρ:=Int) (fun i0 _=>
 (idx [p,g] i0).bind fun c=>
 (CU c).bind fun b=>
 if (!b=0)then
 some (.ret b)
 else
 some (.next ())) 0 ([p,g].length:Int) ()) (fun _=>
 (ER t p).bind fun d=>
 (if(!d)then some true else((ER t g).bind fun e=>
 some (!e))).bind fun f=>
 if f then
 some 13
 else
 some 0) some
def Gf[Ev](t:AC)(a:Int):Option (Fp×Int):=
 (Et t [a]).bind fun b=>
 if (!b=0)then
 some ([],b)
 else
 (pr (fun i0(s0:Fp)=>
 (H7 t i0 a).bind fun c=>
 if c then
 (Ah s0 [i0]).bind some
 else
 some s0) 0 (t.d3.length:Int) []).bind fun s0=>
 some (s0,0)
def E3[Ev](t:AC):Option (List a6):=
 (pr (fun i0(s0:List a6)=>
 (GW (t.d3.length:Int) false).bind fun c=>
 (Gf t i0).bind fun a=>
 (pr (fun i2(s2:a6)=>
 (idx a.1 i2).bind fun b=>
 (idx s2 b).bind fun e=>
 some (BC s2 b true)) 0 (a.1.length:Int) c).bind fun s2=>
 (Ah s0 [s2]).bind some) 0 (t.d3.length:Int) []).bind some
def E4[Ev](t:AC)(p:d5)(g:d5)(m:d6):QQ:=
 if ((!(m.d3.length:Int)=(p.d3.length:Int))||(!(m.d4.length:Int)=(p.d4.length:Int)))then
 some 20
 else
 (E3 t).bind fun i=>
 ff (j4 (ρ:=Int) (fun i0 _=>
 (idx m.d3 i0).bind fun a=>
 if (a<0||(g.d3.length:Int)<=a)then
 some (.ret 6)
 else
 (idx p.d3 i0).bind fun j=>
 (idx i j).bind fun k=>
 (idx g.d3 a).bind fun l=>
 (idx k l).bind fun n=>
 if (!n)then
 some (.ret 13)
 else
 some (.next ())) 0 (m.d3.length:Int) ()) (fun _=>
 ff (j4 (ρ:=Int) (fun i2 _=>
 (idx m.d4 i2).bind fun b=>
 if (b<0||(g.d4.length:Int)<=b)then
 some (.ret 6)
 else
 (idx p.d4 i2).bind fun c=>
 (idx g.d4 b).bind fun d=>
 if (!c.kp=d.kp)then
 some (.ret 13)
 else
 (idx m.d3 c.kq).bind fun e=>
 (if(!e=d.kq)then some true else((idx m.d3 c.To).bind fun f=>
 some (!f=d.To))).bind fun h=>
 if h then
 some (.ret 11)
 else
 some (.next ())) 0 (m.d4.length:Int) ()) (fun _=>
 some 0) some) some
def Gy(l:Fp):K1:=if l.length<=4096 then some (AbL l)else none
def EJ[Ev](t:AC)(p:d5)(g:d5)(m:d6)(a:Bool):QQ:=
 (Di t p g).bind fun b=>
 if (!b=0)then
 some b
 else
 (E4 t p g m).bind fun c=>
 if (!c=0)then
 some c
 else
 (if a then((Gy m.d3).bind fun d=>
 (if d then some true else((Gy m.d4).bind some)).bind some)else some false).bind fun h=>
 if h then
 some 5
 else
 some 0
def DQ[Ev](t:AC)(p:ec)(c:AG):QQ:=
 (Cc t p).bind fun a=>
 if (!a=0)then
 some a
 else
 (E1 t c).bind fun b=>
 some b.2
def D0(a:j0)(c:Fp):QQ:=
 if (a.Var<0:Bool)then
 some a.Add
 else
 (idx c a.Var).bind fun b=>
 some (Ad (b+a.Add))
def Hf(a b c:Int):Option (Int×Int):=if(0<=a/\a<18446744073709551616)/\(0<=b/\b<18446744073709551616)/\0<=c/\c<=1 then some ((a+b+c) % 18446744073709551616,(a+b+c) / 18446744073709551616)else none
def F3(a:Int)(b:Int):Option (Int×Int):=
 (Hf (IntKind.u64.wrap a) (IntKind.u64.wrap b) 0).bind fun c=>
 (Kg .i64 .shr a 63).bind fun d=>
 (Kg .i64 .shr b 63).bind fun e=>
 some (Ad ((Ad (d+e))+(Ad c.2)),c.1)
def Ea(t:j0)(d:Fp):Option (Int×Int×Bool):=
 if (t.Var=(-1):Bool)then
 (F3 0 t.Add).bind fun a=>
 some (a.1,a.2,true)
 else
 if (t.Var<0||(d.length:Int)<=t.Var)then
 some (0,0,false)
 else
 (idx d t.Var).bind fun c=>
 (F3 c t.Add).bind fun b=>
 some (b.1,b.2,true)
def Lw(a:Fp):QQ:=
 ff (j4 (ρ:=Int) (fun i0 _=>
 (idx a i0).bind fun b=>
 if (!b=0)then
 some (.ret b)
 else
 some (.next ())) 0 (a.length:Int) ()) (fun _=>
 some 0) some
def cmp_isNaN_int(a:Int):K1:=
 some (!a=a)
def cmp_Compare_int(a:Int)(y:Int):QQ:=
 (cmp_isNaN_int a).bind fun c=>
 (cmp_isNaN_int y).bind fun b=>
 if c then
 if b then
 some 0
 else
 some (-1)
 else
 if b then
 some 1
 else
 if (a<y:Bool)then
 some (-1)
 else
 if (y<a:Bool)then
 some 1
 else
 some 0
def It(a:Int):K1:=
 some (!a=a)
def HT(a:Int)(y:Int):QQ:=
 (It a).bind fun c=>
 (It y).bind fun b=>
 if c then
 if b then
 some 0
 else
 some (-1)
 else
 if b then
 some 1
 else
 if (a<y:Bool)then
 some (-1)
 else
 if (y<a:Bool)then
 some 1
 else
 some 0
def FR(a:Test)(g:Fp):K1:=
 (Ea a.kg g).bind fun b=>
 (Ea a.fd g).bind fun c=>
 if ((!b.2.2)||(!c.2.2))then
 some false
 else
 (cmp_Compare_int b.1 c.1).bind fun e=>
 (HT b.2.1 c.2.1).bind fun f=>
 (Lw [e,f]).bind fun d=>
 some (a.mo=1&&d<=0||(a.mo=2&&d=0))
def Ey(p:ec)(l:AG)(m:d6):Option (Fp×Int):=
 (GW p.hT 0).bind fun d=>
 (GW p.hT false).bind fun e=>
 ff (j4 (ρ:=(Fp×Int)) (fun i0(s0:Fp×a6)=>
 (idx p.fq i0).bind fun a=>
 (idx m.d3 a.sx).bind fun f=>
 (idx l.gn f).bind fun g=>
 (idx g a.kl).bind fun b=>
 (if(0<=a.j0.Var:Bool)then((idx s0.2 a.j0.Var).bind fun h=>
 some (!h))else some false).bind fun i=>
 if i then
 (idx s0.1 a.j0.Var).bind fun n=>
 (idx s0.2 a.j0.Var).bind fun o=>
 (D0 a.j0 (BC s0.1 a.j0.Var (Ad (b-a.j0.Add)))).bind fun c=>
 if (!c=b)then
 some (.ret ([],11))
 else
 some (.next (BC s0.1 a.j0.Var (Ad (b-a.j0.Add)),BC s0.2 a.j0.Var true))
 else
 (D0 a.j0 s0.1).bind fun c=>
 if (!c=b)then
 some (.ret ([],11))
 else
 some (.next (s0.1,s0.2))) 0 (p.fq.length:Int) (d,e)) (fun s0=>
 ff (j4 (ρ:=(Fp×Int)) (fun i2 _=>
 (idx p.pq i2).bind fun j=>
 (FR j s0.1).bind fun k=>
 if (!k)then
 some (.ret ([],16))
 else
 some (.next ())) 0 (p.pq.length:Int) ()) (fun _=>
 some (s0.1,0)) some) some
def DP[Ev](t:AC)(p:ec)(a:AG)(m:d6):Option (Fp×Int):=
 (DQ t p a).bind fun b=>
 if (!b=0)then
 some ([],b)
 else
 (EJ t p.d5 a.d5 m false).bind fun c=>
 if (!c=0)then
 some ([],c)
 else
 (Ey p a m).bind fun d=>
 some (d.1,d.2)
def Gz[Ev](t:AC)(b:gt)(c:AG)(m:AL):QQ:=
 (EJ t b.kg.d5 c.d5 m.d6 b.ns).bind fun d=>
 if (!d=0)then
 some 1
 else
 (DP t b.kg c m.d6).bind fun a=>
 if (!a.2=0)then
 some a.2
 else
 (slices_Equal_int a.1 m.hT).bind fun e=>
 if (!e)then
 some 11
 else
 some 0
def DJ(a:List Bj):Option (List Bj):=
 Ah [] a
def D6[Ev](t:AC)(p:d5)(g:d5)(m:d6):Option (d5×Int):=
 (Di t p g).bind fun a=>
 if (!a=0)then
 some (d5.mk [] [],a)
 else
 (E4 t p g m).bind fun b=>
 if (!b=0)then
 some (d5.mk [] [],b)
 else
 (DJ p.d4).bind fun c=>
 (pr (fun i0(s0:d5)=>
 (idx m.d3 i0).bind fun d=>
 (idx g.d3 d).bind fun e=>
 (Ah s0.d3 [e]).bind fun f=>
 some (d5.mk f s0.d4)) 0 (m.d3.length:Int) (d5.mk [] c)).bind fun s0=>
 some (s0,0)
def CJ[Ev](a:Bc):QQ:=
 (Cx a.l a.g a.m).bind fun b=>
 if (!b=0)then
 some b
 else
 (Du a.l a.hV).bind some
def FO(a:Fp)(b:Fp):Option (List F7):=
 (pr (fun i0(s0:List F7)=>
 (pr (fun i2(s2:List F7)=>
 (idx a i0).bind fun c=>
 (idx a i2).bind fun d=>
 (if(c=d:Bool)then((slices_Contains_int b i0).bind fun e=>
 (if(!e)then some true else((slices_Contains_int b i2).bind fun f=>
 some (!f))).bind some)else some false).bind fun h=>
 if h then
 (Ah s2 [F7.mk i0 i2]).bind some
 else
 some s2) (Ad (i0+1)) (a.length:Int) s0).bind some) 0 (a.length:Int) []).bind some
def DN(a:Bc):Option (List F7×List F7):=
 (FO a.m.d3 a.hV.d3).bind fun b=>
 (FO a.m.d4 a.hV.d4).bind fun c=>
 some (b,c)
def C4(a:Bc):Option Fp:=
 (pr (fun i0(s0:Fp)=>
 (idx a.m.d3 i0).bind fun b=>
 (slices_Contains_int a.hV.d3 i0).bind fun c=>
 if (!c)then
 (Ah s0 [b]).bind some
 else
 some s0) 0 (a.m.d3.length:Int) []).bind some
def Cv(a:Bc):Option Fp:=
 (C4 a).bind fun j=>
 (pr (fun i0(s0:Fp)=>
 (idx a.g.d4 i0).bind fun b=>
 (slices_Contains_int a.m.d4 i0).bind fun c=>
 (if(!c)then((slices_Contains_int j b.kq).bind fun d=>
 (if d then some true else((slices_Contains_int j b.To).bind some)).bind some)else some false).bind fun h=>
 if h then
 (Ah s0 [i0]).bind some
 else
 some s0) 0 (a.g.d4.length:Int) []).bind some
def F2(n:Int)(a:Fp)(c:Fp):Option Fp:=
 (GW n false).bind fun d=>
 (pr (fun i0(s0:a6)=>
 (idx a i0).bind fun b=>
 (slices_Contains_int c i0).bind fun e=>
 if (!e)then
 (idx s0 b).bind fun h=>
 some (BC s0 b true)
 else
 some s0) 0 (a.length:Int) d).bind fun s0=>
 (pr (fun i2(s2:Fp)=>
 (idx s0 i2).bind fun f=>
 if (!f)then
 (Ah s2 [i2]).bind some
 else
 some s2) 0 (s0.length:Int) []).bind some
def FB[Ev](l:d5)(g:d5)(a:BA)(m:d6):Option (BA×Int):=
 (CJ (Bc.mk l g a m)).bind fun b=>
 if (!b=0)then
 some (BA.mk [] [],b)
 else
 (DN (Bc.mk l g a m)).bind fun c=>
 if (0<(Ad ((c.1.length:Int)+(c.2.length:Int))):Bool)then
 some (BA.mk [] [],15)
 else
 (Cv (Bc.mk l g a m)).bind fun d=>
 if (0<(d.length:Int):Bool)then
 some (BA.mk [] [],14)
 else
 (F2 (g.d3.length:Int) m.d3 a.d3).bind fun e=>
 (F2 (g.d4.length:Int) m.d4 a.d4).bind fun f=>
 some (BA.mk e f,0)
def D2[Ev](t:AC)(p:ec)(c:d7)(d:AG)(m:AL)(a:Bool):QQ:=
 (Ce t p c).bind fun e=>
 if (!e=0)then
 some e
 else
 (E1 t d).bind fun f=>
 if (!f.2=0)then
 some f.2
 else
 (EJ t p.d5 d.d5 m.d6 a).bind fun g=>
 if (!g=0)then
 some g
 else
 (DP t p d m.d6).bind fun b=>
 if (!b.2=0)then
 some b.2
 else
 (slices_Equal_int b.1 m.hT).bind fun h=>
 if (!h)then
 some 11
 else
 some 0
def Dz(l:Fp)(n:Int):Option Fp:=if l.length=1/\0<=n/\n<=4096 then some (List.replicate n.toNat (l.headD 0))else none
def FP(n:Int)(e:Fp)(a:Fp):Option Fp:=
 (Dz [(-1)] n).bind fun c=>
 (pr (fun i0(s0:Fp)=>
 (idx e i0).bind fun b=>
 (idx a i0).bind fun d=>
 (idx s0 b).bind fun f=>
 some (BC s0 b d)) 0 (e.length:Int) c).bind some
def KA(l:Option Fp)(i:Int):QQ:=match l with
 |none=>some (-1)|some l=>(TX l).bind fun _=>(idx l i).bind some
def DX(f:AH)(c:Int)(k:Int):K1:=
 (idx f.p.d4 c).bind fun a=>
 (KA f.fu.d4 c).bind fun b=>
 if (0<=b&&(!b=k))then
 some false
 else
 (idx f.g.d4 k).bind fun d=>
 (idx f.ei a.kq).bind fun e=>
 (idx f.ei a.To).bind fun h=>
 some (decide (d=(Bj.mk a.kp e h)))
def B2(f:AH):K1:=
 ff (j4 (ρ:=Bool) (fun i0 _=>
 (idx f.p.d4 i0).bind fun a=>
 if (!(max a.kq a.To)=(Ad ((f.ei.length:Int)-1)))then
 some (.next ())
 else
 ff (j4 (ρ:=Bool) (fun i2(s2:Bool)=>
 (DX f i0 i2).bind fun b=>
 if b then
 some (.brk true)
 else
 some (.next s2)) 0 (f.g.d4.length:Int) false) (fun s2=>
 if (!s2)then
 some (.ret false)
 else
 some (.next ())) (fun v2=>some (.ret v2))) 0 (f.p.d4.length:Int) ()) (fun _=>
 some true) some
def Av[Ev]:Nat->AH->Option AH
 |0,_=>none|n+1,f=>
  (if((f.out.length:Int)=f.tc:Bool)then
  some f
  else
  if ((f.ei.length:Int)<(f.p.d3.length:Int):Bool)then
  (pr (fun i1(s1:AH)=>
  (idx f.g.d3 i1).bind fun u=>
  (KA s1.fu.d3 (f.ei.length:Int)).bind fun e=>
  (if(0<=e&&(!e=i1))then some true else((idx s1.p.d3 (f.ei.length:Int)).bind fun v=>
  (idx s1.is v).bind fun w=>
  (idx w u).bind fun x=>
  some (!x))).bind fun h=>
  (if h then some true else((if s1.ej then((slices_Contains_int s1.ei i1).bind some)else some false).bind some)).bind fun k=>
  if k then
  some s1
  else
  (Ah s1.ei [i1]).bind fun c=>
  (B2 (AH.mk s1.p s1.g s1.is s1.fu s1.ej s1.tc c s1.em s1.out)).bind fun l=>
  if l then
  (Av n (AH.mk s1.p s1.g s1.is s1.fu s1.ej s1.tc c s1.em s1.out)).bind fun a=>
  (slc a.ei 0 (f.ei.length:Int)).bind fun d=>
  some (AH.mk a.p a.g a.is a.fu a.ej a.tc d a.em a.out)
  else
  (slc c 0 (f.ei.length:Int)).bind fun d=>
  some (AH.mk s1.p s1.g s1.is s1.fu s1.ej s1.tc d s1.em s1.out)) 0 (f.g.d3.length:Int) f).bind some
  else
  if ((f.em.length:Int)<(f.p.d4.length:Int):Bool)then
  (pr (fun i3(s3:AH)=>
  (DX s3 (f.em.length:Int) i3).bind fun m=>
  (if(!m)then some true else((if s3.ej then((slices_Contains_int s3.em i3).bind some)else some false).bind some)).bind fun r=>
  if r then
  some s3
  else
  (Ah s3.em [i3]).bind fun s=>
  (Av n (AH.mk s3.p s3.g s3.is s3.fu s3.ej s3.tc s3.ei s s3.out)).bind fun b=>
  (slc b.em 0 (f.em.length:Int)).bind fun t=>
  some (AH.mk b.p b.g b.is b.fu b.ej b.tc b.ei t b.out)) 0 (f.g.d4.length:Int) f).bind some
  else
  (slices_Clone_int f.ei).bind fun y=>
  (slices_Clone_int f.em).bind fun z=>
  (Ah f.out [d6.mk y z]).bind fun A=>
  some (AH.mk f.p f.g f.is f.fu f.ej f.tc f.ei f.em A)).bind some
def EW[Ev](f:AH):Option AH:=Ji fun n=>Av n f
def EK[Ev](t:AC)(p:d5)(g:d5)(b:Ka)(a:Bool)(c:Int):Option (List d6):=
 (E3 t).bind fun d=>
 (EW (AH.mk p g d b a c [] [] [])).bind fun e=>
 some e.out
def GQ[Ev](t:AC)(p:d5)(g:d5)(b:Ka)(a:Bool):Option (List d6×Int):=
 (EK t p g b a 5001).bind fun c=>
 if (5000<(c.length:Int):Bool)then
 some ([],3)
 else
 some (c,0)
def LD(k:Int)(a:Int):K1:=
 some (k<(-1)||a<=k)
def Fe[Ev](l:Fp)(n:Int):QQ:=
 (Al l (fun y0=>LD y0 n)).bind fun a=>
 if a then
 some 6
 else
 some 0
def FI[Ev](t:AC)(p:d5)(g:d5)(a:d6)(b:Bool):Option (List d6×Int):=
 (Di t p g).bind fun c=>
 if (!c=0)then
 some ([],c)
 else
 if ((!(a.d3.length:Int)=(p.d3.length:Int))||(!(a.d4.length:Int)=(p.d4.length:Int)))then
 some ([],20)
 else
 (Fe a.d3 (g.d3.length:Int)).bind fun d=>
 if (!d=0)then
 some ([],d)
 else
 (Fe a.d4 (g.d4.length:Int)).bind fun e=>
 if (!e=0)then
 some ([],e)
 else
 (GQ t p g a b).bind fun f=>
 some (f.1,f.2)
def EX(a:j0)(d:Fp):Option (Int×Int):=
 (CO a.Var (-1) (Ad ((d.length:Int)-1))).bind fun b=>
 if (!b)then
 some (0,6)
 else
 (D0 a d).bind fun c=>
 some (c,0)
def Dc(p:An)(q:ec)(m:d6)(b:Fp):Option (Fp×Bool):=
 (slices_Clone_int b).bind fun g=>
 (TJ g (Ad (q.hT-(b.length:Int))) 0).bind fun i=>
 (GW q.hT false).bind fun j=>
 (pr (fun i0(s0:a6)=>
 (idx s0 i0).bind fun r=>
 some (BC s0 i0 true)) 0 (b.length:Int) j).bind fun s0=>
 ff (j4 (ρ:=(Fp×Bool)) (fun i2(s2:Fp×a6)=>
 (idx q.fq i2).bind fun a=>
 (idx m.d3 a.sx).bind fun k=>
 (idx p.h.gn k).bind fun l=>
 (idx l a.kl).bind fun d=>
 (if(0<=a.j0.Var:Bool)then((idx s2.2 a.j0.Var).bind fun n=>
 some (!n))else some false).bind fun o=>
 if o then
 (idx s2.1 a.j0.Var).bind fun s=>
 (idx s2.2 a.j0.Var).bind fun t=>
 (EX a.j0 (BC s2.1 a.j0.Var (Ad (d-a.j0.Add)))).bind fun c=>
 if ((!c.2=0)||(!c.1=d))then
 some (.ret ([],false))
 else
 some (.next (BC s2.1 a.j0.Var (Ad (d-a.j0.Add)),BC s2.2 a.j0.Var true))
 else
 (EX a.j0 s2.1).bind fun c=>
 if ((!c.2=0)||(!c.1=d))then
 some (.ret ([],false))
 else
 some (.next (s2.1,s2.2))) 0 (q.fq.length:Int) (i,s0)) (fun s2=>
 ff (j4 (ρ:=(Fp×Bool)) (fun i4 _=>
 (idx q.pq i4).bind fun e=>
 (FR e s2.1).bind fun f=>
 if (!f)then
 some (.ret ([],false))
 else
 some (.next ())) 0 (q.pq.length:Int) ()) (fun _=>
 some (s2.1,true)) some) some
def Bl[Ev](b:An)(c:d7)(m:AL):Option (List AL×Int):=
 (FP (c.ec.d5.d3.length:Int) c.Map.d3 m.d6.d3).bind fun f=>
 (FP (c.ec.d5.d4.length:Int) c.Map.d4 m.d6.d4).bind fun g=>
 (FI b.t c.ec.d5 b.h.d5 (d6.mk f g) b.ej).bind fun a=>
 if (!a.2=0)then
 some ([],a.2)
 else
 (pr (fun i0(s0:List AL)=>
 (idx a.1 i0).bind fun d=>
 (Dc b c.ec d m.hT).bind fun e=>
 if e.2 then
 (Ah s0 [AL.mk d e.1]).bind some
 else
 some s0) 0 (a.1.length:Int) []).bind fun s0=>
 some (s0,0)
mutual
def Ai[Ev]:Nat->An->d7->AL->Option (Ay×Int)
 |0,_,_,_=>none|n+1,b,c,m=>
  if (c.mo=2:Bool)then
  (idx c.gp 0).bind fun g=>
  (Ai n b g m).bind fun e=>
  if (e.2=0:Bool)then
  some (C1,10)
  else
  if (e.2=10:Bool)then
  some (C1,0)
  else
  some (C1,e.2)
  else
  if (c.mo=3:Bool)then
  ff (j4 (ρ:=(Ay×Int)) (fun i2(s2:Ay×Ay)=>
  (idx c.gp i2).bind fun h=>
  (Ai n b h m).bind fun f=>
  if (!f.2=0)then
  some (.ret (C1,f.2))
  else
  (Ah s2.2.gp [f.1]).bind fun i=>
  some (.next (s2.1,Ay.mk s2.2.AaB s2.2.og i))) 0 (c.gp.length:Int) (C1,C1)) (fun s2=>
  some (s2.2,0)) some
  else
  if (c.mo=4:Bool)then
  ff (j4 (ρ:=(Ay×Int)) (fun i4(s4:Ay)=>
  (idx c.gp i4).bind fun j=>
  (Ai n b j m).bind fun a=>
  if (a.2=0:Bool)then
  some (.ret (Ay.mk i4 (AL.mk (d6.mk [] []) []) [a.1],0))
  else
  if (!a.2=10)then
  some (.ret (C1,a.2))
  else
  some (.next s4)) 0 (c.gp.length:Int) C1) (fun s4=>
  some (C1,10)) some
  else
  if (c.mo=5:Bool)then
  (BF n b c m).bind fun d=>
  some (d.1,d.2)
  else
  some (C1,0)
def BF[Ev]:Nat->An->d7->AL->Option (Ay×Int)
 |0,_,_,_=>none|n+1,e,c,m=>
  (Bl e c m).bind fun a=>
  if (!a.2=0)then
  some (C1,a.2)
  else
  ff (j4 (ρ:=(Ay×Int)) (fun i0(s0:Ay)=>
  (idx a.1 i0).bind fun d=>
  (idx c.gp 0).bind fun f=>
  (Ai n e f d).bind fun b=>
  if (b.2=0:Bool)then
  some (.ret (Ay.mk 0 d [b.1],0))
  else
  if (!b.2=10)then
  some (.ret (C1,b.2))
  else
  some (.next s0)) 0 (a.1.length:Int) C1) (fun s0=>
  some (C1,10)) some
end
def DO[Ev](a:An)(c:d7)(m:AL):Option (Ay×Int):=Ji fun n=>Ai n a c m
def Ny[Ev](a:An)(c:d7)(m:AL):Option (Ay×Int):=Ji fun n=>BF n a c m
def DH[Ev](t:AC)(p:ec)(c:d7)(e:AG)(m:AL)(a:Bool):Option (Ay×Int):=
 (D2 t p c e m a).bind fun b=>
 if (!b=0)then
 some (C1,b)
 else
 (DO (An.mk t e a) c m).bind fun d=>
 some (d.1,d.2)
def Cp[Ev](t:AC)(p:ec)(c:d7)(d:AG)(m:AL)(a:Bool):Option (Bool×Int):=
 (DH t p c d m a).bind fun b=>
 if (b.2=10:Bool)then
 some (false,0)
 else
 some (decide (b.2=0),b.2)
def IZ(m:AL):Option AL:=
 (slices_Clone_int m.d6.d3).bind fun c=>
 (slices_Clone_int m.d6.d4).bind fun a=>
 (slices_Clone_int m.hT).bind fun b=>
 some (AL.mk (d6.mk c a) b)
def JG(a:AG):Option AG:=
 (slices_Clone_int a.d5.d3).bind fun f=>
 (DJ a.d5.d4).bind fun b=>
 (pr (fun i0(s0:AG)=>
 (idx a.gn i0).bind fun c=>
 (Ah [] c).bind fun d=>
 (Ah s0.gn [d]).bind fun e=>
 some (AG.mk s0.d5 e)) 0 (a.gn.length:Int) (AG.mk (d5.mk f b) [])).bind some
def KV(n:Int)(l:Fp):Option Fp:=
 (GW n 0).bind fun a=>
 (pr (fun i0(s0:Fp)=>
 (slices_BinarySearch_int l i0).bind fun b=>
 if (!b.2)then
 (idx s0 i0).bind fun c=>
 some (BC s0 i0 (-1))
 else
 (idx s0 i0).bind fun c=>
 some (BC s0 i0 b.1)) 0 (a.length:Int) a).bind some
def Fw(d:Int)(f:Fp)(b:Fp)(a:Fp)(c:Fp)(n:Int):Option Fp:=
 (Dz [(-1)] d).bind fun g=>
 (pr (fun i0(s0:Fp)=>
 (idx b i0).bind fun e=>
 (idx f i0).bind fun h=>
 (idx a h).bind fun i=>
 (idx c i).bind fun j=>
 (idx s0 e).bind fun l=>
 some (BC s0 e j)) 0 (b.length:Int) g).bind fun s0=>
 (pr (fun i2(s2:Int×Fp)=>
 (idx s2.2 i2).bind fun k=>
 if (k<0:Bool)then
 (idx s2.2 i2).bind fun m=>
 some (Ad (s2.1+1),BC s2.2 i2 s2.1)
 else
 some (s2.1,s2.2)) 0 (s0.length:Int) (n,s0)).bind fun s2=>
 some s2.2
def Hp[Ev](t:AC)(b:Int):Option Fp:=
 (Dn t b).bind fun a=>
 (pr (fun i0(s0:Fp)=>
 (idx a.1 i0).bind fun c=>
 (Ah s0 [c.Low]).bind some) 0 (a.1.length:Int) []).bind some
def GT[Ev](t:AC)(a:A2)(d:BA):Option A2:=
 (pr (fun i0(s0:A2)=>
 (idx d.d3 i0).bind fun f=>
 (idx a.Aar.d5.d3 f).bind fun r=>
 (Ah s0.wi.d5.d3 [r]).bind fun s=>
 (idx a.Aar.gn f).bind fun u=>
 (Ah [] u).bind fun v=>
 (Ah s0.wi.gn [v]).bind fun w=>
 some (A2.mk s0.gt s0.og s0.Aar (AG.mk (d5.mk s s0.wi.d5.d4) w) s0.AaA s0.Aal)) 0 (d.d3.length:Int) a).bind fun s0=>
 (pr (fun i2(s2:A2)=>
 (idx d.d4 i2).bind fun x=>
 (idx a.Aar.d5.d4 x).bind fun e=>
 (idx s2.AaA.d3 e.kq).bind fun g=>
 (idx s2.AaA.d3 e.To).bind fun h=>
 (Ah s2.wi.d5.d4 [Bj.mk e.kp g h]).bind fun i=>
 some (A2.mk s2.gt s2.og s2.Aar (AG.mk (d5.mk s2.wi.d5.d3 i) s2.wi.gn) s2.AaA s2.Aal)) 0 (d.d4.length:Int) s0).bind fun s2=>
 (pr (fun i4(s4:A2)=>
 (idx a.gt.fd.d5.d3 i4).bind fun c=>
 (idx s4.Aal.d3 i4).bind fun j=>
 if (j=(s4.wi.d5.d3.length:Int):Bool)then
 (Ah s4.wi.d5.d3 [c]).bind fun k=>
 (Hp t c).bind fun l=>
 (Ah s4.wi.gn [l]).bind fun m=>
 some (A2.mk s4.gt s4.og s4.Aar (AG.mk (d5.mk k s4.wi.d5.d4) m) s4.AaA s4.Aal)
 else
 some s4) 0 (a.gt.fd.d5.d3.length:Int) s2).bind fun s4=>
 (pr (fun i6(s6:A2)=>
 (idx a.gt.fd.d5.d4 i6).bind fun b=>
 (idx s6.Aal.d4 i6).bind fun n=>
 if (n=(s6.wi.d5.d4.length:Int):Bool)then
 (idx s6.Aal.d3 b.kq).bind fun o=>
 (idx s6.Aal.d3 b.To).bind fun p=>
 (Ah s6.wi.d5.d4 [Bj.mk b.kp o p]).bind fun q=>
 some (A2.mk s6.gt s6.og s6.Aar (AG.mk (d5.mk s6.wi.d5.d3 q) s6.wi.gn) s6.AaA s6.Aal)
 else
 some s6) 0 (a.gt.fd.d5.d4.length:Int) s4).bind some
def ZL(s:A2):TV:=.agg ((DD s).map (·.t))
def HI(s:A2):Option (BD×Int):=
 ff (j4 (ρ:=(BD×Int)) (fun i0(s0:BD)=>
 (idx s.gt.fd.fq i0).bind fun a=>
 (EX a.j0 s.og.hT).bind fun b=>
 if (!b.2=0)then
 some (.ret ([],b.2))
 else
 (idx s.Aal.d3 a.sx).bind fun c=>
 if ((s0.look (c,a.kl)).isSome&&(!(s0.look (c,a.kl)).getD 0=b.1))then
 some (.ret ([],11))
 else
 some (.next (s0.set (c,a.kl) b.1))) 0 (s.gt.fd.fq.length:Int) []) (fun s0=>some (s0,0)) some
def Ma(s:A2)(V:List Fp):A2:=A2.mk s.gt s.og s.Aar (AG.mk s.wi.d5 V) s.AaA s.Aal
def L6[Ev](t:AC)(s:A2)(V:List Fp)(p:(Int×Int)×Int):Option (Bk (List Fp) Unit):=
 (idx s.wi.d5.d3 p.1.1).bind fun c=>
 (Dn t c).bind fun a=>
 (idx a.1 p.1.2).bind fun d=>
 (if(p.2<d.Low:Bool)then some true else((idx a.1 p.1.2).bind fun e=>
 some (decide (e.AaD<p.2)))).bind fun f=>
 if f then
 some (.ret ())
 else
 (idx V p.1.1).bind fun b=>
 (idx b p.1.2).bind fun g=>
 some (.next (BC V p.1.1 (BC b p.1.2 p.2)))
def L7[Ev](t:AC)(s:A2)(p:(Int×Int)×Int):K1:=
 (L6 t s s.wi.gn p).bind fun c=>match c with|.next _=>some true|.ret _=>some false|.brk _=>none
def Im[Ev](t:AC)(s:A2):Option (Int×A2):=
 (HI s).bind fun a=>
 if (!a.2=0)then
 some (a.2,s)
 else
 if decide (List.Pairwise (fun x y:(Int×Int)×Int=>x.1≠y.1) a.1)then
 (AaP (L7 t s) a.1).bind fun c=>
 if c then
 some (0,Ma s (a.1.foldl CR s.wi.gn))
 else
 some (6,s)
 else
 none
def Ff[Ev](t:AC)(a:gt)(d:AG)(m:AL):Option (A2×Int):=
 (Gz t a d m).bind fun g=>
 if (!g=0)then
 some (Hu,g)
 else
 (D6 t a.kg.d5 d.d5 m.d6).bind fun e=>
 if (!e.2=0)then
 some (Hu,e.2)
 else
 (FB e.1 d.d5 a.x3 m.d6).bind fun c=>
 if (!c.2=0)then
 some (Hu,c.2)
 else
 (Cp t a.kg a.d7 d m a.ns).bind fun f=>
 if (!f.2=0)then
 some (Hu,f.2)
 else
 if (!f.1)then
 some (Hu,16)
 else
 (IZ m).bind fun n=>
 (JG d).bind fun o=>
 (KV (d.d5.d3.length:Int) c.1.d3).bind fun h=>
 (KV (d.d5.d4.length:Int) c.1.d4).bind fun i=>
 (Fw (a.fd.d5.d3.length:Int) a.x3.d3 a.sc.d3 m.d6.d3 h (c.1.d3.length:Int)).bind fun j=>
 (Fw (a.fd.d5.d4.length:Int) a.x3.d4 a.sc.d4 m.d6.d4 i (c.1.d4.length:Int)).bind fun k=>
 (GT t (A2.mk a n o (AG.mk (d5.mk [] []) []) (d6.mk h i) (d6.mk j k)) c.1).bind fun l=>
 (Im t l).bind fun b=>
 if (!b.1=0)then
 some (Hu,b.1)
 else
 if (40<(b.2.wi.d5.d3.length:Int)||80<(b.2.wi.d5.d4.length:Int))then
 some (Hu,3)
 else
 some (b.2,0)
def GR[Ev](t:AC)(d:gt)(c:AG)(m:AL):Option (A2×Int):=
 (Fg t d c).bind fun a=>
 if (!a=0)then
 some (Hu,a)
 else
 (Ff t d c m).bind fun b=>
 some (b.1,b.2)
def C5[Ev](t:AC)(a:List gt)(d:AG)(m:Bq):Option (A2×Int):=
 if (m.gt<0||(a.length:Int)<=m.gt)then
 some (Hu,6)
 else
 (idx a m.gt).bind fun c=>
 (GR t c d m.og).bind fun b=>
 some (b.1,b.2)
def E8[Ev](t:AC)(a:List gt)(d:AZ):Option (List A2×Int×Int):=
 (C6 t a d.tl).bind fun c=>
 if (!c=0)then
 some ([],0,c)
 else
 if (30<(d.qo.length:Int):Bool)then
 some ([],0,3)
 else
 ff (j4 (ρ:=(List A2×Int×Int)) (fun i0(s0:List A2×AG)=>
 (idx d.qo i0).bind fun e=>
 (C5 t a s0.2 e).bind fun b=>
 if (!b.2=0)then
 some (.ret ([],i0,b.2))
 else
 (Ah s0.1 [b.1]).bind fun f=>
 some (.next (f,b.1.wi))) 0 (d.qo.length:Int) ([],d.tl)) (fun s0=>
 some (s0.1,(s0.1.length:Int),0)) some
def Iz(n:Int):Option Fp:=
 (GW n 0).bind fun a=>
 (pr (fun i0(s0:Fp)=>
 (idx s0 i0).bind fun b=>
 some (BC s0 i0 i0)) 0 (a.length:Int) a).bind some
def FA[Ev](g:d5):Option (d6×Int):=
 (CU g).bind fun c=>
 if (!c=0)then
 some (d6.mk [] [],c)
 else
 (Iz (g.d3.length:Int)).bind fun a=>
 (Iz (g.d4.length:Int)).bind fun b=>
 some (d6.mk a b,0)
def EB[Ev](g:d5):Option d6:=
 (FA g).bind fun a=>
 some a.1
def Iw(l:Fp)(c:Fp):Option Fp:=
 (slices_Clone_int l).bind fun d=>
 (pr (fun i0(s0:Fp)=>
 (idx s0 i0).bind fun a=>
 if (0<=a:Bool)then
 (idx c a).bind fun b=>
 (idx s0 i0).bind fun e=>
 some (BC s0 i0 b)
 else
 some s0) 0 (d.length:Int) d).bind some
def E9(a:AG):Option AG:=
 (slices_Clone_int a.d5.d3).bind fun f=>
 (DJ a.d5.d4).bind fun b=>
 (pr (fun i0(s0:AG)=>
 (idx a.gn i0).bind fun c=>
 (slices_Clone_int c).bind fun d=>
 (Ah s0.gn [d]).bind fun e=>
 some (AG.mk s0.d5 e)) 0 (a.gn.length:Int) (AG.mk (d5.mk f b) [])).bind some
def FQ[Ev](t:AC)(c:List gt)(d:AZ):Option (AG×d6×Int):=
 (E8 t c d).bind fun a=>
 if (!a.2.2=0)then
 some (AG.mk (d5.mk [] []) [],d6.mk [] [],a.2.2)
 else
 (EB d.tl.d5).bind fun e=>
 (pr (fun i0(s0:AG×d6)=>
 (idx a.1 i0).bind fun b=>
 (Iw s0.2.d3 b.AaA.d3).bind fun f=>
 (Iw s0.2.d4 b.AaA.d4).bind fun g=>
 some (b.wi,d6.mk f g)) 0 (a.1.length:Int) (d.tl,e)).bind fun s0=>
 (E9 s0.1).bind fun h=>
 some (h,s0.2,0)
def Ho[Ev](t:AC)(p:d5)(g:d5)(a:Bool):Option (List d6×Int):=
 (Di t p g).bind fun b=>
 if (!b=0)then
 some ([],b)
 else
 (GQ t p g (Ka.mk none none) a).bind fun c=>
 some (c.1,c.2)
def DG[Ev](t:AC)(p:ec)(c:AG)(a:Bool):Option (List AL×Int):=
 (DQ t p c).bind fun d=>
 if (!d=0)then
 some ([],d)
 else
 (Ho t p.d5 c.d5 a).bind fun b=>
 if (!b.2=0)then
 some ([],b.2)
 else
 (pr (fun i0(s0:List AL)=>
 (idx b.1 i0).bind fun e=>
 (Ey p c e).bind fun f=>
 if (f.2=0:Bool)then
 (Ah s0 [AL.mk e f.1]).bind some
 else
 some s0) 0 (b.1.length:Int) []).bind fun s0=>
 some (s0,0)
def D8[Ev](t:AC)(b:gt)(c:AG):Option (List AL×Int):=
 (Fg t b c).bind fun d=>
 if (!d=0)then
 some ([],d)
 else
 (DG t b.kg c b.ns).bind fun a=>
 if (!a.2=0)then
 some ([],a.2)
 else
 (pr (fun i0(s0:List AL)=>
 (idx a.1 i0).bind fun e=>
 (Ff t b c e).bind fun f=>
 if (f.2=0:Bool)then
 (Ah s0 [e]).bind some
 else
 some s0) 0 (a.1.length:Int) []).bind fun s0=>
 some (s0,0)
def Cq[Ev](t:AC)(a:List gt)(f:AG):Option (List Bq×Int):=
 ff (j4 (ρ:=(List Bq×Int)) (fun i0(s0:List Bq)=>
 (idx a i0).bind fun c=>
 (D8 t c f).bind fun b=>
 if (!b.2=0)then
 some (.ret ([],b.2))
 else
 (pr (fun i2(s2:List Bq)=>
 (idx b.1 i2).bind fun d=>
 (Ah s2 [Bq.mk i0 d]).bind some) 0 (b.1.length:Int) s0).bind fun s2=>
 some (.next s2)) 0 (a.length:Int) []) (fun s0=>
 some (s0,0)) some
def Cs[Ev](t:AC)(c:List gt)(e:AG)(a:Fp):Option (AZ×Int):=
 (C6 t c e).bind fun f=>
 if (!f=0)then
 some (RN,f)
 else
 if (30<(a.length:Int):Bool)then
 some (RN,3)
 else
 (E9 e).bind fun h=>
 ff (j4 (ρ:=(AZ×Int)) (fun i0(s0:AG×AZ×AZ)=>
 (idx a i0).bind fun i=>
 (Cq t c s0.1).bind fun b=>
 if (!b.2=0)then
 some (.ret (RN,b.2))
 else
 if ((b.1.length:Int)=0:Bool)then
 some (.brk (s0.1,s0.2.1,s0.2.2))
 else
 (Ut i (b.1.length:Int)).bind fun j=>
 (Ut (Ad (j+(b.1.length:Int))) (b.1.length:Int)).bind fun k=>
 (idx b.1 k).bind fun g=>
 (C5 t c s0.1 g).bind fun d=>
 if (!d.2=0)then
 some (.ret (RN,d.2))
 else
 (Ah s0.2.2.qo [g]).bind fun l=>
 some (.next (d.1.wi,s0.2.1,AZ.mk s0.2.2.tl l))) 0 (a.length:Int) (e,RN,AZ.mk h [])) (fun s0=>
 some (s0.2.2,0)) some
def N3:Option AC:=
 some (AC.mk [B0.mk (⟨#[65,99,99,111,117,110,116]⟩:ByteArray) (-1) true [kl.mk (⟨#[98,97,108,97,110,99,101]⟩:ByteArray) (-1000) 1000 []],B0.mk (⟨#[67,97,115,104]⟩:ByteArray) 0 false [],B0.mk (⟨#[76,111,97,110]⟩:ByteArray) 0 false [kl.mk (⟨#[115,116,97,116,101]⟩:ByteArray) 0 1 [(⟨#[111,112,101,110]⟩:ByteArray),(⟨#[99,108,111,115,101,100]⟩:ByteArray)]],B0.mk (⟨#[80,101,114,115,111,110]⟩:ByteArray) (-1) false []] [B9.mk (⟨#[111,119,110,115]⟩:ByteArray) 3 0 0 (-1) 1 1,B9.mk (⟨#[112,97,121,115]⟩:ByteArray) 1 1 0 (-1) 0 (-1)])
def GJ(n:Int)(a:Int):K1:=
 some (n<a||999999999<n)
def Cf[Ev](l:Fp)(a:Int):K1:=
 (Al l (fun y0=>GJ y0 a)).bind some
def strconv_Itoa(i:Int):Option ByteArray:=if 0<=i/\i<100 then some (aZ i.toNat)else none
def De(l:Fp):Option ByteArray:=
 (pr (fun i0(s0:ByteArray)=>
 (idx l i0).bind fun a=>
 if (a<0:Bool)then
 (strconv_Itoa (Ad (-a))).bind fun b=>
 (M2 (⟨#[32,45,32]⟩:ByteArray) b).bind fun c=>
 (M2 s0 c).bind some
 else
 (strconv_Itoa a).bind fun e=>
 (M2 (⟨#[32]⟩:ByteArray) e).bind fun f=>
 (M2 s0 f).bind some) 0 (l.length:Int) (⟨#[40]⟩:ByteArray)).bind fun s0=>
 (M2 s0 (⟨#[32,41]⟩:ByteArray)).bind some
def Ni(m:Bq):Option ByteArray:=
 if m.og.d6.d3=[]/\m.og.d6.d4=[]/\m.og.hT=[]then
  (strconv_Itoa m.gt).bind fun s=>(De []).bind fun t=>
  let o:ByteArray:=((((((((⟨#[109,111,118,101,32]⟩:ByteArray)++s)++(⟨#[32]⟩:ByteArray))++t)++(⟨#[32]⟩:ByteArray))++t)++(⟨#[32]⟩:ByteArray))++t)++(⟨#[32,59,10]⟩:ByteArray)
  if o.size<=1000 then some o else none
 else none
def DU(r:List Bq)(l:List UInt8):Option (List UInt8):=
 r.foldl (fun a m=>a.bind fun l=>(Ni m).bind fun o=>some (l++o.data.toList)) (some l)
def IA(d:AZ):Option (ByteArray×Int):=
 if d.qo.length<=30/\d.qo≠[]then(DU d.qo []).map fun l=>(⟨l.toArray⟩,0)else none
def EF[Ev]:K1:=
 (N3).bind fun b=>
 (Cs b [gt.mk (⟨#[98,105,114,116,104]⟩:ByteArray) (ec.mk (d5.mk [] []) [] 0 []) (ec.mk (d5.mk [3] []) [] 0 []) (BA.mk [] []) (d6.mk [] []) false (d7.mk 1 [] (d6.mk [] []) (ec.mk (d5.mk [] []) [] 0 []))] (AG.mk (d5.mk [] []) []) [0,7]).bind fun a=>
 (FQ b [gt.mk (⟨#[98,105,114,116,104]⟩:ByteArray) (ec.mk (d5.mk [] []) [] 0 []) (ec.mk (d5.mk [3] []) [] 0 []) (BA.mk [] []) (d6.mk [] []) false (d7.mk 1 [] (d6.mk [] []) (ec.mk (d5.mk [] []) [] 0 []))] a.1).bind fun c=>
 (IA a.1).bind fun d=>
 (if((a.2=0&&(a.1.qo.length:Int)=2)&&c.2.2=0)then((slices_Equal_int c.1.d5.d3 [3,3]).bind some)else some false).bind fun f=>
 some ((f&&d.2=0)&&(d.1==(⟨#[109,111,118,101,32,48,32,40,32,41,32,40,32,41,32,40,32,41,32,59,10,109,111,118,101,32,48,32,40,32,41,32,40,32,41,32,40,32,41,32,59,10]⟩:ByteArray)))
def Hh(g:d5):K1:=
 some ((g.d3.length:Int)<=45&&(g.d4.length:Int)<=90)
def GZ(a:AG):K1:=
 (Hh a.d5).bind fun c=>
 if ((!c)||45<(a.gn.length:Int))then
 some false
 else
 ff (j4 (ρ:=Bool) (fun i0 _=>
 (idx a.gn i0).bind fun b=>
 if (12<(b.length:Int):Bool)then
 some (.ret false)
 else
 some (.next ())) 0 (a.gn.length:Int) ()) (fun _=>
 some true) some
def Ft[Ev]:Nat->AC->Int->Option (List kl)
 |0,_,_=>none|n+1,t,a=>
  if (a<0:Bool)then
  some []
  else
  (idx t.d3 a).bind fun b=>
  (Ft n t b.Aad).bind fun c=>
  (Ah [] c).bind fun d=>
  (idx t.d3 a).bind fun e=>
  (Ah d e.tn).bind some
def NJ[Ev](t:AC)(a:Int):Option (List kl):=Ji fun n=>Ft n t a
def DM(n:Int)(b:Int)(a:Int):K1:=
 some (b<=n&&n<=a)
def OL(t:EL):Option ByteArray:=
 if (t.mo=3:Bool)then
 (M2 (⟨#[34]⟩:ByteArray) t.AbU).bind fun a=>
 (M2 a (⟨#[34]⟩:ByteArray)).bind some
 else
 some t.AbU
def Jz(c:Int):K1:=
 some (97<=c&&c<=122||(65<=c&&c<=90))
def Hy(c:Int):K1:=
 some (48<=c&&c<=57)
def Np[Ev](b:ByteArray)(c:Int)(a:Bool):QQ:=
 ff (EA (ρ:=Int) (fun(s0:Int)=>
 (if((Ad (c+s0))<(b.size:Int):Bool)then((AaC b (Ad (c+s0))).bind fun d=>
 (Hy d).bind fun e=>
 (if e then some true else((if(!a)then((AaC b (Ad (c+s0))).bind fun f=>
 (Jz f).bind fun g=>
 (if g then some true else((AaC b (Ad (c+s0))).bind fun h=>
 some (decide (h=95)))).bind some)else some false).bind some)).bind some)else some false).bind fun l=>
 if l then
 some (.next (Ad (s0+1)))
 else
 some (.brk s0)) 0) some some
def J0[Ev](b:ByteArray)(c:Int):QQ:=
 ff (EA (ρ:=Int) (fun(s0:Int)=>
 if ((Ad (c+s0))<(b.size:Int):Bool)then
 (AaC b (Ad (c+s0))).bind fun a=>
 if (a=34:Bool)then
 some (.ret (Ad (s0+1)))
 else
 if (a<32||126<a)then
 some (.ret 0)
 else
 some (.next (Ad (s0+1)))
 else
 some (.brk s0)) 1) (fun s0=>
 some 0) some
def NI:Option (List ByteArray):=
 some [(⟨#[45,62]⟩:ByteArray),(⟨#[60,61]⟩:ByteArray),(⟨#[62,61]⟩:ByteArray),(⟨#[61,61]⟩:ByteArray),(⟨#[33,61]⟩:ByteArray),(⟨#[123]⟩:ByteArray),(⟨#[125]⟩:ByteArray),(⟨#[40]⟩:ByteArray),(⟨#[41]⟩:ByteArray),(⟨#[91]⟩:ByteArray),(⟨#[93]⟩:ByteArray),(⟨#[44]⟩:ByteArray),(⟨#[59]⟩:ByteArray),(⟨#[58]⟩:ByteArray),(⟨#[61]⟩:ByteArray),(⟨#[43]⟩:ByteArray),(⟨#[45]⟩:ByteArray),(⟨#[42]⟩:ByteArray),(⟨#[60]⟩:ByteArray),(⟨#[62]⟩:ByteArray),(⟨#[33]⟩:ByteArray),(⟨#[38]⟩:ByteArray),(⟨#[124]⟩:ByteArray),(⟨#[46]⟩:ByteArray),(⟨#[63]⟩:ByteArray)]
def Nn[Ev](a:ByteArray)(d:Int):Option (EL×Int×Int):=
 (AaC a d).bind fun c=>
 (Jz c).bind fun i=>
 (if i then some true else((Hy c).bind some)).bind fun k=>
 if k then
 (Hy c).bind fun l=>
 (Np a d l).bind fun f=>
 (Hy c).bind fun m=>
 (if m then
 some (2,9)
 else
 some (1,20)).bind fun w1=>
 if (w1.2<f:Bool)then
 some (EL.mk 0 (⟨#[]⟩:ByteArray) 0,0,3)
 else
 (AaH a d (Ad (d+f))).bind fun n=>
 some (EL.mk w1.1 n 0,f,0)
 else
 if (c=34:Bool)then
 (J0 a d).bind fun e=>
 if (e=0:Bool)then
 some (EL.mk 0 (⟨#[]⟩:ByteArray) 0,0,2)
 else
 if (60<(Ad (e-2)):Bool)then
 some (EL.mk 0 (⟨#[]⟩:ByteArray) 0,0,3)
 else
 (AaH a (Ad (d+1)) (Ad ((Ad (d+e))-1))).bind fun o=>
 some (EL.mk 3 o 0,e,0)
 else
 (NI).bind fun b=>
 ff (j4 (ρ:=(EL×Int×Int)) (fun i0(s0:EL)=>
 (idx b i0).bind fun p=>
 (if((Ad (d+(p.size:Int)))<=(a.size:Int):Bool)then((idx b i0).bind fun q=>
 (AaH a d (Ad (d+(q.size:Int)))).bind fun r=>
 (idx b i0).bind fun s=>
 some (r==s))else some false).bind fun t=>
 if t then
 (idx b i0).bind fun g=>
 (idx b i0).bind fun h=>
 some (.ret (EL.mk 4 g 0,(h.size:Int),0))
 else
 some (.next s0)) 0 (b.length:Int) (EL.mk 0 (⟨#[]⟩:ByteArray) 0)) (fun s0=>
 some (EL.mk 0 (⟨#[]⟩:ByteArray) 0,0,2)) some
def NG[Ev](t:EL):K1:=
 (OL t).bind fun b=>
 if (b==(⟨#[]⟩:ByteArray))then
 some false
 else
 (Nn b 0).bind fun a=>
 some ((a.2.2=0&&a.2.1=(b.size:Int))&&a.1.mo=t.mo)
def E2[Ev](a:ByteArray):K1:=
 (NG (EL.mk 1 a 0)).bind some
def Kq[Ev](l:List ByteArray):QQ:=
 if (20<(l.length:Int):Bool)then
 some 3
 else
 ff (j4 (ρ:=Int) (fun i0 _=>
 (idx l i0).bind fun a=>
 (E2 a).bind fun b=>
 if (!b)then
 some (.ret 2)
 else
 ff (j4 (ρ:=Int) (fun i2 _=>
 (idx l i2).bind fun c=>
 (idx l i0).bind fun d=>
 if (c==d)then
 some (.ret 5)
 else
 some (.next ())) 0 i0 ()) (fun _=>
 some (.next ())) (fun v2=>some (.ret v2))) 0 (l.length:Int) ()) (fun _=>
 some 0) some
def Hg[Ev](a:kl):QQ:=
 if ((a.up.length:Int)=0:Bool)then
 (DM a.Low (-1000000) 1000000).bind fun c=>
 (if(!c)then some true else((DM a.AaD a.Low 1000000).bind fun d=>
 some (!d))).bind fun e=>
 if e then
 some 6
 else
 some 0
 else
 (Kq a.up).bind fun b=>
 if (!b=0)then
 some b
 else
 if ((!a.Low=0)||(!a.AaD=(Ad ((a.up.length:Int)-1))))then
 some 6
 else
 some 0
def ML[Ev](t:AC)(c:Int):QQ:=
 (idx t.d3 c).bind fun b=>
 (E2 b.o4).bind fun e=>
 if (!e)then
 some 2
 else
 ff (j4 (ρ:=Int) (fun i0 _=>
 (idx t.d3 i0).bind fun f=>
 if (f.o4==b.o4)then
 some (.ret 5)
 else
 some (.next ())) 0 c ()) (fun _=>
 (DM b.Aad (-1) (Ad (c-1))).bind fun g=>
 if (!g)then
 some 6
 else
 (NJ t c).bind fun a=>
 if (4<(b.tn.length:Int)||8<(a.length:Int))then
 some 3
 else
 ff (j4 (ρ:=Int) (fun i2 _=>
 (idx a i2).bind fun h=>
 (E2 h.o4).bind fun i=>
 if (!i)then
 some (.ret 2)
 else
 ff (j4 (ρ:=Int) (fun i4 _=>
 (idx a i4).bind fun j=>
 (idx a i2).bind fun k=>
 if (j.o4==k.o4)then
 some (.ret 5)
 else
 some (.next ())) 0 i2 ()) (fun _=>
 (idx a i2).bind fun l=>
 (Hg l).bind fun d=>
 if (!d=0)then
 some (.ret d)
 else
 some (.next ())) (fun v4=>some (.ret v4))) (Ad ((a.length:Int)-(b.tn.length:Int))) (a.length:Int) ()) (fun _=>
 some 0) some) some
def JM(b:Int)(a:Int):K1:=
 (DM b 0 40).bind fun f=>
 (if f then((if(a=(-1):Bool)then some true else((DM a b 40).bind some)).bind some)else some false).bind some
def MK[Ev](t:AC)(b:Int):QQ:=
 (idx t.d4 b).bind fun a=>
 (E2 a.o4).bind fun c=>
 if (!c)then
 some 2
 else
 ff (j4 (ρ:=Int) (fun i0 _=>
 (idx t.d4 i0).bind fun d=>
 if (d.o4==a.o4)then
 some (.ret 5)
 else
 some (.next ())) 0 b ()) (fun _=>
 (DM a.kq 0 (Ad ((t.d3.length:Int)-1))).bind fun e=>
 (if(!e)then some true else((DM a.To 0 (Ad ((t.d3.length:Int)-1))).bind fun f=>
 some (!f))).bind fun g=>
 (if g then some true else((JM a.Abi a.AaX).bind fun h=>
 some (!h))).bind fun i=>
 (if i then some true else((JM a.Abz a.Abf).bind fun j=>
 some (!j))).bind fun k=>
 if k then
 some 6
 else
 some 0) some
def Eo[Ev](t:AC):Option (ByteArray×Int):=
 if ((t.d3.length:Int)=0:Bool)then
 some ((⟨#[]⟩:ByteArray),7)
 else
 if (12<(t.d3.length:Int)||20<(t.d4.length:Int))then
 some ((⟨#[]⟩:ByteArray),3)
 else
 ff (j4 (ρ:=(ByteArray×Int)) (fun i0 _=>
 (ML t i0).bind fun a=>
 if (!a=0)then
 (idx t.d3 i0).bind fun c=>
 some (.ret (c.o4,a))
 else
 some (.next ())) 0 (t.d3.length:Int) ()) (fun _=>
 ff (j4 (ρ:=(ByteArray×Int)) (fun i2 _=>
 (MK t i2).bind fun b=>
 if (!b=0)then
 (idx t.d4 i2).bind fun d=>
 some (.ret (d.o4,b))
 else
 some (.next ())) 0 (t.d4.length:Int) ()) (fun _=>
 some ((⟨#[]⟩:ByteArray),0)) some) some
def JN[Ev](t:AC)(a:Int)(b:Int):QQ:=
 (Eo t).bind fun c=>
 if (!c.2=0)then
 some c.2
 else
 (DM a 0 (Ad ((t.d3.length:Int)-1))).bind fun d=>
 (if(!d)then some true else((DM b 0 (Ad ((t.d3.length:Int)-1))).bind fun e=>
 some (!e))).bind fun f=>
 if f then
 some 6
 else
 some 0
def FE[Ev]:Nat->AC->Int->Int->K1
 |0,_,_,_=>none|n+1,t,a,b=>
  (if(a=b:Bool)then some true else((if(0<=a:Bool)then((idx t.d3 a).bind fun c=>
  (FE n t c.Aad b).bind some)else some false).bind some)).bind some
def Gq[Ev](t:AC)(a:Int)(b:Int):K1:=Ji fun n=>FE n t a b
def KL[Ev](t:AC)(b:Int)(a:Int)(c:Int):K1:=
 (JN t a c).bind fun d=>
 (if(!d=0)then some true else((DM b 0 (Ad ((t.d4.length:Int)-1))).bind fun e=>
 some (!e))).bind fun f=>
 if f then
 some false
 else
 (idx t.d4 b).bind fun g=>
 (Gq t a g.kq).bind fun h=>
 (if h then((idx t.d4 b).bind fun i=>
 (Gq t c i.To).bind some)else some false).bind some
def KM(n:Int):K1:=
 some (0<=n&&n<=99)
def NM(e:Bj)(a:Int):K1:=
 (KM e.kp).bind fun b=>
 some ((((b&&0<=e.kq)&&e.kq<a)&&0<=e.To)&&e.To<a)
def Dm(g:d5):QQ:=
 if (40<(g.d3.length:Int)||80<(g.d4.length:Int))then
 some 3
 else
 ff (j4 (ρ:=Int) (fun i0 _=>
 (idx g.d3 i0).bind fun a=>
 (KM a).bind fun b=>
 if (!b)then
 some (.ret 6)
 else
 some (.next ())) 0 (g.d3.length:Int) ()) (fun _=>
 ff (j4 (ρ:=Int) (fun i2 _=>
 (idx g.d4 i2).bind fun c=>
 (NM c (g.d3.length:Int)).bind fun d=>
 if (!d)then
 some (.ret 6)
 else
 some (.next ())) 0 (g.d4.length:Int) ()) (fun _=>
 some 0) some) some
def Fd[Ev](t:AC)(a:Int):Option (List kl×Int):=
 (JN t a a).bind fun c=>
 if (!c=0)then
 some ([],c)
 else
 (NJ t a).bind fun d=>
 (pr (fun i0(s0:List kl)=>
 (idx d i0).bind fun b=>
 (Ah [] b.up).bind fun e=>
 (Ah s0 [kl.mk b.o4 b.Low b.AaD e]).bind some) 0 (d.length:Int) []).bind fun s0=>
 some (s0,0)
def MO[Ev](t:AC)(a:Int)(i:Fp):QQ:=
 if ((t.d3.length:Int)<=a:Bool)then
 some 6
 else
 (idx t.d3 a).bind fun c=>
 if c.Aao then
 some 13
 else
 (Fd t a).bind fun b=>
 if (!(i.length:Int)=(b.1.length:Int))then
 some 20
 else
 ff (j4 (ρ:=Int) (fun i0 _=>
 (idx i i0).bind fun d=>
 (idx b.1 i0).bind fun e=>
 (if(d<e.Low:Bool)then some true else((idx i i0).bind fun f=>
 (idx b.1 i0).bind fun g=>
 some (decide (g.AaD<f)))).bind fun h=>
 if h then
 some (.ret 6)
 else
 some (.next ())) 0 (b.1.length:Int) ()) (fun _=>
 some 0) some
def Ga[Ev](t:AC)(a:AG):Option (Int×Int):=
 (Eo t).bind fun c=>
 if (!c.2=0)then
 some ((-1),c.2)
 else
 (Dm a.d5).bind fun d=>
 if (!d=0)then
 some ((-1),d)
 else
 if (!(a.gn.length:Int)=(a.d5.d3.length:Int))then
 some ((-1),20)
 else
 ff (j4 (ρ:=(Int×Int)) (fun i0 _=>
 (idx a.d5.d3 i0).bind fun f=>
 (idx a.gn i0).bind fun g=>
 (MO t f g).bind fun e=>
 if (!e=0)then
 some (.ret (i0,e))
 else
 some (.next ())) 0 (a.d5.d3.length:Int) ()) (fun _=>
 ff (j4 (ρ:=(Int×Int)) (fun i2 _=>
 (idx a.d5.d4 i2).bind fun b=>
 if ((t.d4.length:Int)<=b.kp:Bool)then
 some (.ret (i2,6))
 else
 (idx a.d5.d3 b.kq).bind fun h=>
 (idx a.d5.d3 b.To).bind fun i=>
 (KL t b.kp h i).bind fun j=>
 if (!j)then
 some (.ret (i2,13))
 else
 some (.next ())) 0 (a.d5.d4.length:Int) ()) (fun _=>
 some ((-1),0)) some) some
def Gb(t:AC)(g:d5):K1:=
 ff (j4 (ρ:=Bool) (fun i0 _=>
 (idx g.d3 i0).bind fun a=>
 (if(a<0:Bool)then some true else((idx g.d3 i0).bind fun b=>
 some (decide ((t.d3.length:Int)<=b)))).bind fun c=>
 if c then
 some (.ret false)
 else
 some (.next ())) 0 (g.d3.length:Int) ()) (fun _=>
 ff (j4 (ρ:=Bool) (fun i2 _=>
 (idx g.d4 i2).bind fun d=>
 (if(d.kp<0:Bool)then some true else((idx g.d4 i2).bind fun e=>
 some (decide ((t.d4.length:Int)<=e.kp)))).bind fun f=>
 if f then
 some (.ret false)
 else
 some (.next ())) 0 (g.d4.length:Int) ()) (fun _=>
 some true) some) some
def MQ[Ev](t:AC)(p:ec)(b:Int)(a:Int):Option (kl×Bool):=
 if (b<0||(p.d5.d3.length:Int)<=b)then
 some (kl.mk (⟨#[]⟩:ByteArray) 0 0 [],false)
 else
 (idx p.d5.d3 b).bind fun d=>
 (Fd t d).bind fun c=>
 if (((!c.2=0)||a<0)||(c.1.length:Int)<=a)then
 some (kl.mk (⟨#[]⟩:ByteArray) 0 0 [],false)
 else
 (idx c.1 a).bind fun e=>
 some (e,true)
def K9(n:Int):K1:=
 some ((-1000000)<=n&&n<=1000000)
def IQ(n:Int)(t:j0):QQ:=
 if (((t.Var<(-1)||n<=t.Var)||t.Add<(-1000000))||1000000<t.Add)then
 some 6
 else
 some 0
def Nq(n:Int)(a:Test):QQ:=
 if ((!a.mo=1)&&(!a.mo=2))then
 some 1
 else
 (IQ n a.kg).bind fun b=>
 if (!b=0)then
 some b
 else
 (IQ n a.fd).bind some
def Ko(n:Int)(l:List Test):QQ:=
 if (n<0||12<n)then
 some 6
 else
 if (40<(l.length:Int):Bool)then
 some 3
 else
 ff (j4 (ρ:=Int) (fun i0 _=>
 (idx l i0).bind fun b=>
 (Nq n b).bind fun a=>
 if (!a=0)then
 some (.ret a)
 else
 some (.next ())) 0 (l.length:Int) ()) (fun _=>
 some 0) some
def J4(p:ec)(b:Int):K1:=
 ff (j4 (ρ:=Bool) (fun i0 _=>
 (idx p.fq i0).bind fun a=>
 if (a.j0.Var=b:Bool)then
 some (.ret true)
 else
 some (.next ())) 0 (p.fq.length:Int) ()) (fun _=>
 some false) some
def Gd[Ev](t:AC)(p:ec):QQ:=
 (Eo t).bind fun c=>
 if (!c.2=0)then
 some c.2
 else
 (Dm p.d5).bind fun d=>
 if (!d=0)then
 some d
 else
 (Gb t p.d5).bind fun f=>
 if (!f)then
 some 13
 else
 if (p.hT<0||12<p.hT)then
 some 6
 else
 if (10<(p.fq.length:Int)||10<(p.pq.length:Int))then
 some 3
 else
 ff (j4 (ρ:=Int) (fun i0 _=>
 (idx p.fq i0).bind fun a=>
 (MQ t p a.sx a.kl).bind fun g=>
 (if(((!g.2)||a.j0.Var<(-1))||p.hT<=a.j0.Var)then some true else((K9 a.j0.Add).bind fun h=>
 some (!h))).bind fun i=>
 if i then
 some (.ret 6)
 else
 some (.next ())) 0 (p.fq.length:Int) ()) (fun _=>
 (Ko p.hT p.pq).bind fun b=>
 if (!b=0)then
 some b
 else
 ff (j4 (ρ:=Int) (fun i2 _=>
 (J4 p i2).bind fun e=>
 if (!e)then
 some (.ret 9)
 else
 some (.next ())) 0 p.hT ()) (fun _=>
 some 0) some) some
def Gu(c:d7):K1:=
 some (((Ad ((Ad ((Ad ((c.Map.d3.length:Int)+(c.Map.d4.length:Int)))+(c.ec.d5.d3.length:Int)))+(c.ec.d5.d4.length:Int)))=0&&(Ad ((c.ec.fq.length:Int)+(c.ec.pq.length:Int)))=0)&&c.ec.hT=0)
def Ky(c:d7):K1:=
 if (c.mo=1:Bool)then
 (if((c.gp.length:Int)=0:Bool)then((Gu c).bind some)else some false).bind some
 else
 if (c.mo=2:Bool)then
 (if((c.gp.length:Int)=1:Bool)then((Gu c).bind some)else some false).bind some
 else
 (if(c.mo=3:Bool)then
 some (decide (c.mo=3))
 else
 some (decide (c.mo=4))).bind fun w1=>
 if w1 then
 (if(0<(c.gp.length:Int):Bool)then((Gu c).bind some)else some false).bind some
 else
 if (c.mo=5:Bool)then
 some (decide ((c.gp.length:Int)=1))
 else
 some false
def D5[Ev]:Nat->d7->K1
 |0,_=>none|n+1,c=>
  (Ky c).bind fun d=>
  if (!d)then
  some false
  else
  ff (j4 (ρ:=Bool) (fun i0 _=>
  (idx c.gp i0).bind fun a=>
  (D5 n a).bind fun b=>
  if (!b)then
  some (.ret false)
  else
  some (.next ())) 0 (c.gp.length:Int) ()) (fun _=>
  some true) some
def M0[Ev](c:d7):K1:=Ji fun n=>D5 n c
def Eg[Ev]:Nat->d7->Option (Int×Int)
 |0,_=>none|n+1,c=>
  (pr (fun i0(s0:Int×Int)=>
  (idx c.gp i0).bind fun b=>
  (Eg n b).bind fun a=>
  some (Ad (s0.1+a.1),max s0.2 a.2)) 0 (c.gp.length:Int) (1,0)).bind fun s0=>
  (if(c.mo=5:Bool)then
  some (Ad (s0.2+1))
  else
  some s0.2).bind fun w1=>
  some (s0.1,w1)
def N5[Ev](c:d7):Option (Int×Int):=Ji fun n=>Eg n c
def Kw[Ev](c:d7):QQ:=
 (M0 c).bind fun b=>
 if (!b)then
 some 1
 else
 (N5 c).bind fun a=>
 if (12<a.1||3<a.2)then
 some 3
 else
 some 0
def GY(a:d5)(b:d5)(m:d6):QQ:=
 (Dm a).bind fun e=>
 if (!e=0)then
 some e
 else
 (Dm b).bind fun f=>
 if (!f=0)then
 some f
 else
 if ((!(m.d3.length:Int)=(a.d3.length:Int))||(!(m.d4.length:Int)=(a.d4.length:Int)))then
 some 20
 else
 ff (j4 (ρ:=Int) (fun i0 _=>
 (idx m.d3 i0).bind fun l=>
 (if(l<0:Bool)then some true else((idx m.d3 i0).bind fun n=>
 some (decide ((b.d3.length:Int)<=n)))).bind fun o=>
 if o then
 some (.ret 6)
 else
 (idx m.d3 i0).bind fun p=>
 (idx b.d3 p).bind fun q=>
 (idx a.d3 i0).bind fun r=>
 if (!q=r)then
 some (.ret 13)
 else
 some (.next ())) 0 (a.d3.length:Int) ()) (fun _=>
 ff (j4 (ρ:=Int) (fun i2 _=>
 (idx m.d4 i2).bind fun s=>
 (if(s<0:Bool)then some true else((idx m.d4 i2).bind fun t=>
 some (decide ((b.d4.length:Int)<=t)))).bind fun g=>
 if g then
 some (.ret 6)
 else
 (idx a.d4 i2).bind fun c=>
 (idx m.d4 i2).bind fun h=>
 (idx b.d4 h).bind fun d=>
 if (!c.kp=d.kp)then
 some (.ret 13)
 else
 (idx m.d3 c.kq).bind fun i=>
 (if(!i=d.kq)then some true else((idx m.d3 c.To).bind fun j=>
 some (!j=d.To))).bind fun k=>
 if k then
 some (.ret 11)
 else
 some (.next ())) 0 (a.d4.length:Int) ()) (fun _=>
 some 0) some) some
def Ef(l:Fp):K1:=
 ff (j4 (ρ:=Bool) (fun i0 _=>
 ff (j4 (ρ:=Bool) (fun i2 _=>
 (idx l i0).bind fun a=>
 (idx l i2).bind fun b=>
 if (a=b:Bool)then
 some (.ret false)
 else
 some (.next ())) 0 i0 ()) (fun _=>
 some (.next ())) (fun v2=>some (.ret v2))) 0 (l.length:Int) ()) (fun _=>
 some true) some
def Hi(a:d5)(b:d5)(m:d6):K1:=
 (GY a b m).bind fun c=>
 (if(c=0:Bool)then((Ef m.d3).bind some)else some false).bind fun e=>
 (if e then((Ef m.d4).bind some)else some false).bind some
def MR(p:ec)(b:Int):K1:=
 ff (j4 (ρ:=Bool) (fun i0 _=>
 (idx p.fq i0).bind fun a=>
 if (a.j0.Var=b:Bool)then
 some (.ret true)
 else
 some (.next ())) 0 (p.fq.length:Int) ()) (fun _=>
 some false) some
def Kx[Ev](t:AC)(a:Int)(q:ec):QQ:=
 if (q.hT<a:Bool)then
 some 20
 else
 (Gd t q).bind fun b=>
 if (!b=9)then
 some b
 else
 ff (j4 (ρ:=Int) (fun i0 _=>
 (MR q i0).bind fun c=>
 if (!c)then
 some (.ret b)
 else
 some (.next ())) a q.hT ()) (fun _=>
 some 0) some
def Ep[Ev]:Nat->AC->ec->d7->QQ
 |0,_,_,_=>none|n+1,t,p,c=>
  if (c.mo=5:Bool)then
  (Kx t p.hT c.ec).bind fun d=>
  if (!d=0)then
  some d
  else
  (GY p.d5 c.ec.d5 c.Map).bind fun e=>
  if (!e=0)then
  some e
  else
  (Hi p.d5 c.ec.d5 c.Map).bind fun f=>
  if (!f)then
  some 1
  else
  ff (j4 (ρ:=Int) (fun i0 _=>
  (idx c.gp i0).bind fun b=>
  (Ep n t c.ec b).bind fun a=>
  if (!a=0)then
  some (.ret a)
  else
  some (.next ())) 0 (c.gp.length:Int) ()) (fun _=>
  some 0) some
  else
  ff (j4 (ρ:=Int) (fun i0 _=>
  (idx c.gp i0).bind fun b=>
  (Ep n t p b).bind fun a=>
  if (!a=0)then
  some (.ret a)
  else
  some (.next ())) 0 (c.gp.length:Int) ()) (fun _=>
  some 0) some
def Uo[Ev](t:AC)(p:ec)(c:d7):QQ:=Ji fun n=>Ep n t p c
def JP[Ev](t:AC)(p:ec)(c:d7):QQ:=
 (Gd t p).bind fun a=>
 if (!a=0)then
 some a
 else
 (Kw c).bind fun b=>
 if (!b=0)then
 some b
 else
 (Uo t p c).bind some
def MS[Ev](t:AC)(p:ec)(c:Int):QQ:=
 (idx p.fq c).bind fun a=>
 if (a.sx<0||(p.d5.d3.length:Int)<=a.sx)then
 some 6
 else
 (idx p.d5.d3 a.sx).bind fun d=>
 (Fd t d).bind fun e=>
 if (((((a.kl<0||(e.1.length:Int)<=a.kl)||a.j0.Var<(-1))||p.hT<=a.j0.Var)||a.j0.Add<(-1000000))||1000000<a.j0.Add)then
 some 6
 else
 ff (j4 (ρ:=Int) (fun i0 _=>
 (idx p.fq i0).bind fun f=>
 (if(f.sx=a.sx:Bool)then((idx p.fq i0).bind fun g=>
 some (decide (g.kl=a.kl)))else some false).bind fun b=>
 if b then
 some (.ret 5)
 else
 some (.next ())) 0 c ()) (fun _=>
 some 0) some
def Kz[Ev](t:AC)(a:gt):QQ:=
 (Dm a.fd.d5).bind fun b=>
 if (!b=0)then
 some b
 else
 (Gb t a.fd.d5).bind fun d=>
 if (!d)then
 some 13
 else
 if ((!a.fd.hT=a.kg.hT)||0<(a.fd.pq.length:Int))then
 some 1
 else
 if (10<(a.fd.fq.length:Int):Bool)then
 some 3
 else
 ff (j4 (ρ:=Int) (fun i0 _=>
 (MS t a.fd i0).bind fun c=>
 if (!c=0)then
 some (.ret c)
 else
 some (.next ())) 0 (a.fd.fq.length:Int) ()) (fun _=>
 some 0) some
def F6(l:Fp)(n:Int):QQ:=
 ff (j4 (ρ:=Int) (fun i0 _=>
 (idx l i0).bind fun a=>
 (if(a<0:Bool)then some true else((idx l i0).bind fun b=>
 some (decide (n<=b)))).bind fun c=>
 if c then
 some (.ret 6)
 else
 (if(0<i0:Bool)then((idx l i0).bind fun d=>
 (idx l (Ad (i0-1))).bind fun e=>
 some (decide (d<=e)))else some false).bind fun f=>
 if f then
 some (.ret 12)
 else
 some (.next ())) 0 (l.length:Int) ()) (fun _=>
 some 0) some
def Nr(l:Fp)(n:Int):K1:=
 ff (j4 (ρ:=Bool) (fun i0 _=>
 (idx l i0).bind fun a=>
 if (a=n:Bool)then
 some (.ret true)
 else
 some (.next ())) 0 (l.length:Int) ()) (fun _=>
 some false) some
def NN(g:d5)(p:BA):QQ:=
 (F6 p.d3 (g.d3.length:Int)).bind fun a=>
 if (!a=0)then
 some a
 else
 (F6 p.d4 (g.d4.length:Int)).bind fun b=>
 if (!b=0)then
 some b
 else
 ff (j4 (ρ:=Int) (fun i0 _=>
 (idx p.d4 i0).bind fun d=>
 (idx g.d4 d).bind fun c=>
 (Nr p.d3 c.kq).bind fun e=>
 (if(!e)then some true else((Nr p.d3 c.To).bind fun f=>
 some (!f))).bind fun h=>
 if h then
 some (.ret 14)
 else
 some (.next ())) 0 (p.d4.length:Int) ()) (fun _=>
 some 0) some
def Hz(g:d5)(p:BA):QQ:=
 (Dm g).bind fun b=>
 if (!b=0)then
 some b
 else
 (NN g p).bind some
def H0(l:Fp)(n:Int):QQ:=
 ff (j4 (ρ:=Int) (fun i0 _=>
 (idx l i0).bind fun a=>
 if (a=n:Bool)then
 some (.ret i0)
 else
 some (.next ())) 0 (l.length:Int) ()) (fun _=>
 some (-1)) some
def HE(g:d5)(p:BA):Option (d5×d6×Int):=
 (Hz g p).bind fun b=>
 if (!b=0)then
 some (d5.mk [] [],d6.mk [] [],b)
 else
 (pr (fun i0(s0:d5)=>
 (idx p.d3 i0).bind fun c=>
 (idx g.d3 c).bind fun d=>
 (Ah s0.d3 [d]).bind fun e=>
 some (d5.mk e s0.d4)) 0 (p.d3.length:Int) (d5.mk [] [])).bind fun s0=>
 (pr (fun i2(s2:d5)=>
 (idx p.d4 i2).bind fun f=>
 (idx g.d4 f).bind fun a=>
 (H0 p.d3 a.kq).bind fun h=>
 (H0 p.d3 a.To).bind fun i=>
 (Ah s2.d4 [Bj.mk a.kp h i]).bind fun j=>
 some (d5.mk s2.d3 j)) 0 (p.d4.length:Int) s0).bind fun s2=>
 (Ah [] p.d3).bind fun k=>
 (Ah [] p.d4).bind fun l=>
 some (s2,d6.mk k l,0)
def MT(a:gt):QQ:=
 (Hz a.kg.d5 a.x3).bind fun b=>
 if (!b=0)then
 some b
 else
 (HE a.kg.d5 a.x3).bind fun c=>
 (GY c.1 a.fd.d5 a.sc).bind some
def PU(l:Fp)(n:Int):K1:=
 ff (j4 (ρ:=Bool) (fun i0 _=>
 (idx l i0).bind fun a=>
 if (a=n:Bool)then
 some (.ret true)
 else
 some (.next ())) 0 (l.length:Int) ()) (fun _=>
 some false) some
def KP(n:Int)(l:Fp):Option Fp:=
 (pr (fun i0(s0:Fp)=>
 (PU l i0).bind fun a=>
 if (!a)then
 (Ah s0 [i0]).bind some
 else
 some s0) 0 n []).bind some
def JE(a:gt):Option (Fp×Fp):=
 (KP (a.fd.d5.d3.length:Int) a.sc.d3).bind fun b=>
 (KP (a.fd.d5.d4.length:Int) a.sc.d4).bind fun c=>
 some (b,c)
def J6[Ev](t:AC)(g:d5)(b:Fp)(a:Fp):K1:=
 ff (j4 (ρ:=Bool) (fun i0 _=>
 (idx b i0).bind fun d=>
 (idx g.d3 d).bind fun e=>
 (idx t.d3 e).bind fun f=>
 if f.Aao then
 some (.ret false)
 else
 some (.next ())) 0 (b.length:Int) ()) (fun _=>
 ff (j4 (ρ:=Bool) (fun i2 _=>
 (idx a i2).bind fun h=>
 (idx g.d4 h).bind fun c=>
 (idx g.d3 c.kq).bind fun i=>
 (idx g.d3 c.To).bind fun j=>
 (KL t c.kp i j).bind fun k=>
 if (!k)then
 some (.ret false)
 else
 some (.next ())) 0 (a.length:Int) ()) (fun _=>
 some true) some) some
def JQ[Ev](t:AC)(a:gt):QQ:=
 (Eo t).bind fun b=>
 if (!b.2=0)then
 some b.2
 else
 (E2 a.o4).bind fun g=>
 if (!g)then
 some 2
 else
 (Gd t a.kg).bind fun c=>
 if (!c=0)then
 some c
 else
 (Kz t a).bind fun d=>
 if (!d=0)then
 some d
 else
 (MT a).bind fun e=>
 if (!e=0)then
 some e
 else
 (Ef a.sc.d3).bind fun h=>
 (if(!h)then some true else((Ef a.sc.d4).bind fun i=>
 some (!i))).bind fun j=>
 if j then
 some 11
 else
 (JE a).bind fun f=>
 (J6 t a.fd.d5 f.1 f.2).bind fun k=>
 if (!k)then
 some 13
 else
 (JP t a.kg a.d7).bind some
def K3[Ev](t:AC)(a:List gt):QQ:=
 (Eo t).bind fun b=>
 if (!b.2=0)then
 some b.2
 else
 if (10<(a.length:Int):Bool)then
 some 3
 else
 ff (j4 (ρ:=Int) (fun i0 _=>
 (idx a i0).bind fun d=>
 (JQ t d).bind fun c=>
 if (!c=0)then
 some (.ret c)
 else
 some (.next ())) 0 (a.length:Int) ()) (fun _=>
 some 0) some
def JT[Ev](t:AC)(a:List gt)(d:AG):QQ:=
 (K3 t a).bind fun b=>
 if (!b=0)then
 some b
 else
 (Ga t d).bind fun c=>
 some c.2
def J1[Ev](t:AC):K1:=
 if (20<(t.d3.length:Int)||30<(t.d4.length:Int))then
 some false
 else
 ff (j4 (ρ:=Bool) (fun i0(s0:Int)=>
 (idx t.d3 i0).bind fun b=>
 (if(30<(Ad (s0+(b.tn.length:Int))):Bool)then some true else((idx t.d3 i0).bind fun d=>
 some (decide (40<(d.o4.size:Int))))).bind fun e=>
 if e then
 some (.ret false)
 else
 ff (EA (ρ:=Bool) (fun(s2:Int)=>
 (idx t.d3 i0).bind fun f=>
 if (s2<(f.tn.length:Int):Bool)then
 (idx t.d3 i0).bind fun g=>
 (idx g.tn s2).bind fun a=>
 if (40<(a.o4.size:Int)||25<(a.up.length:Int))then
 some (.ret false)
 else
 ff (EA (ρ:=Bool) (fun(s4:Int)=>
 if (s4<(a.up.length:Int):Bool)then
 (idx a.up s4).bind fun h=>
 if (40<(h.size:Int):Bool)then
 some (.ret false)
 else
 some (.next (Ad (s4+1)))
 else
 some (.brk s4)) 0) (fun s4=>
 some (.next (Ad (s2+1)))) (fun v4=>some (.ret v4))
 else
 some (.brk s2)) 0) (fun s2=>
 some (.next (Ad (s0+(b.tn.length:Int))))) (fun v2=>some (.ret v2))) 0 (t.d3.length:Int) 0) (fun s0=>
 ff (j4 (ρ:=Bool) (fun i6 _=>
 (idx t.d4 i6).bind fun c=>
 if (40<(c.o4.size:Int):Bool)then
 some (.ret false)
 else
 some (.next ())) 0 (t.d4.length:Int) ()) (fun _=>
 some true) some) some
def J2(m:d6)(n:Int):K1:=
 some (decide ((Ad ((m.d3.length:Int)+(m.d4.length:Int)))<=n))
def Ih(p:ec):K1:=
 (Hh p.d5).bind fun a=>
 some ((a&&(p.fq.length:Int)<=15)&&(p.pq.length:Int)<=15)
def PT(p:BA)(n:Int):K1:=
 some (decide ((Ad ((p.d3.length:Int)+(p.d4.length:Int)))<=n))
def CW[Ev]:Nat->d7->Int->QQ
 |0,_,_=>none|n+1,c,a=>
  (Ih c.ec).bind fun b=>
  (if(!b)then some true else((J2 c.Map 140).bind fun d=>
  some (!d))).bind fun e=>
  if e then
  some (-1)
  else
  ff (EA (ρ:=Int) (fun(s0:Int×Int)=>
  if (s0.2<(c.gp.length:Int)&&0<=s0.1)then
  (idx c.gp s0.2).bind fun f=>
  (CW n f s0.1).bind fun g=>
  some (.next (g,Ad (s0.2+1)))
  else
  some (.brk (s0.1,s0.2))) (Ad (a-1),0)) (fun s0=>
  some s0.1) some
def ON[Ev](c:d7)(a:Int):QQ:=Ji fun n=>CW n c a
def Ii[Ev](c:d7):K1:=
 (ON c 40).bind fun a=>
 some (decide (0<=a))
def Nt[Ev](a:gt):K1:=
 (if((a.o4.size:Int)<=60:Bool)then((Ih a.kg).bind some)else some false).bind fun c=>
 (if c then((Ih a.fd).bind some)else some false).bind fun e=>
 (if e then((PT a.x3 140).bind some)else some false).bind fun g=>
 (if g then((J2 a.sc 140).bind some)else some false).bind fun i=>
 (if i then((Ii a.d7).bind some)else some false).bind some
def Gc[Ev](t:AC)(p:d5)(g:d5):QQ:=
 (Eo t).bind fun a=>
 if (!a.2=0)then
 some a.2
 else
 (Dm p).bind fun b=>
 if (!b=0)then
 some b
 else
 (Dm g).bind fun c=>
 if (!c=0)then
 some c
 else
 (Gb t p).bind fun d=>
 (if(!d)then some true else((Gb t g).bind fun e=>
 some (!e))).bind fun f=>
 if f then
 some 13
 else
 some 0
def Kr[Ev](t:AC)(p:d5)(g:d5):K1:=
 (J1 t).bind fun h=>
 (if h then((Hh p).bind some)else some false).bind fun b=>
 (if b then((Hh g).bind some)else some false).bind fun d=>
 (if d then((Gc t p g).bind fun e=>
 some ((!e=0)||(((Ad ((p.d3.length:Int)+(p.d4.length:Int)))<=6&&(g.d3.length:Int)<=8)&&(g.d4.length:Int)<=12)))else some false).bind some
def NP[Ev](t:AC)(p:ec)(a:AG):K1:=
 (Ih p).bind fun f=>
 (if f then((GZ a).bind some)else some false).bind fun c=>
 (if c then((Kr t p.d5 a.d5).bind some)else some false).bind some
def FG[Ev]:Nat->d7->K1
 |0,_=>none|n+1,c=>
  ff (j4 (ρ:=Bool) (fun i0 _=>
  (idx c.gp i0).bind fun a=>
  (FG n a).bind fun b=>
  if (!b)then
  some (.ret false)
  else
  some (.next ())) 0 (c.gp.length:Int) ()) (fun _=>
  some (decide ((Ad ((c.ec.d5.d3.length:Int)+(c.ec.d5.d4.length:Int)))<=6))) some
def O0[Ev](c:d7):K1:=Ji fun n=>FG n c
def Ds[Ev]:Nat->ec->d7->Int->Int->K1
 |0,_,_,_,_=>none|n+1,p,c,b,a=>
  (if(c.mo=5:Bool)then
  some c.ec
  else
  some p).bind fun w1=>
  ff (EA (ρ:=Bool) (fun(s0:Int×Int)=>
  if (s0.2<(w1.d5.d3.length:Int):Bool)then
  some (.next (Ad (s0.1*b),Ad (s0.2+1)))
  else
  some (.brk (s0.1,s0.2))) (1,(p.d5.d3.length:Int))) (fun s0=>
  ff (EA (ρ:=Bool) (fun(s2:Int×Int)=>
  if (s2.2<(w1.d5.d4.length:Int):Bool)then
  some (.next (Ad (s2.1*a),Ad (s2.2+1)))
  else
  some (.brk (s2.1,s2.2))) (s0.1,(p.d5.d4.length:Int))) (fun s2=>
  ff (j4 (ρ:=Bool) (fun i4 _=>
  (idx c.gp i4).bind fun d=>
  (Ds n w1 d b a).bind fun e=>
  if (!e)then
  some (.ret false)
  else
  some (.next ())) 0 (c.gp.length:Int) ()) (fun _=>
  some (decide (s2.1<=5000))) some) some) some
def N4[Ev](p:ec)(c:d7)(b:Int)(a:Int):K1:=Ji fun n=>Ds n p c b a
def Kv[Ev](t:AC)(p:ec)(c:d7)(a:AG):K1:=
 (Ii c).bind fun b=>
 (if(!b)then some true else((Ih p).bind fun d=>
 some (!d))).bind fun e=>
 (if e then some true else((GZ a).bind fun f=>
 some (!f))).bind fun g=>
 if g then
 some false
 else
 (JP t p c).bind fun h=>
 (if(!h=0)then some true else((NP t p a).bind fun i=>
 (if i then((O0 c).bind some)else some false).bind fun k=>
 (if((k&&(a.d5.d3.length:Int)<=6)&&(a.d5.d4.length:Int)<=8)then((N4 p c 14 18).bind some)else some false).bind some)).bind some
def JS[Ev](t:AC)(a:gt)(f:AG):K1:=
 (J1 t).bind fun g=>
 (if g then((Nt a).bind some)else some false).bind fun c=>
 (if c then((Kv t a.kg a.d7 f).bind some)else some false).bind some
def Cy[Ev]:Nat->ec->d7->Int->K1
 |0,_,_,_=>none|n+1,p,c,a=>
  (if(c.mo=5:Bool)then
  some c.ec
  else
  some p).bind fun w1=>
  ff (EA (ρ:=Bool) (fun(s0:Int×Int)=>
  if (s0.2<(w1.d5.d3.length:Int)&&s0.1<=5000)then
  some (.next (Ad (s0.1*40),Ad (s0.2+1)))
  else
  some (.brk (s0.1,s0.2))) (a,(p.d5.d3.length:Int))) (fun s0=>
  ff (EA (ρ:=Bool) (fun(s2:Int×Int)=>
  if (s2.2<(w1.d5.d4.length:Int)&&s2.1<=5000)then
  some (.next (Ad (s2.1*80),Ad (s2.2+1)))
  else
  some (.brk (s2.1,s2.2))) (s0.1,(p.d5.d4.length:Int))) (fun s2=>
  ff (EA (ρ:=Bool) (fun(s4:Int)=>
  if (s4<(c.gp.length:Int)&&s2.1<=5000)then
  (idx c.gp s4).bind fun b=>
  (Cy n w1 b s2.1).bind fun d=>
  if (!d)then
  some (.ret false)
  else
  some (.next (Ad (s4+1)))
  else
  some (.brk s4)) 0) (fun s4=>
  some (decide (s2.1<=5000))) some) some) some
def LB[Ev](p:ec)(c:d7)(a:Int):K1:=Ji fun n=>Cy n p c a
def K0[Ev](t:AC)(a:List gt)(b:AG):K1:=
 (if(4<(a.length:Int)&&(a.length:Int)<=10||12<(a.length:Int))then some true else((J1 t).bind fun c=>
 some (!c))).bind fun d=>
 (if d then some true else((GZ b).bind fun e=>
 some (!e))).bind fun f=>
 if f then
 some false
 else
 ff (j4 (ρ:=Bool) (fun i0(s0:Bool)=>
 (idx a i0).bind fun g=>
 (JS t g b).bind fun h=>
 if (!h)then
 some (.ret false)
 else
 (if s0 then((idx a i0).bind fun i=>
 some (decide ((i.kg.d5.d3.length:Int)<=3)))else some false).bind fun j=>
 (if j then((idx a i0).bind fun k=>
 some (decide ((k.kg.d5.d4.length:Int)<=2)))else some false).bind fun l=>
 (if l then((idx a i0).bind fun m=>
 some (decide ((m.fd.d5.d3.length:Int)<=5)))else some false).bind fun n=>
 (if n then((idx a i0).bind fun o=>
 (idx a i0).bind fun p=>
 (LB o.kg p.d7 1).bind some)else some false).bind fun r=>
 some (.next r)) 0 (a.length:Int) true) (fun s0=>
 (JT t a b).bind fun s=>
 some ((!s=0)||((s0&&(b.d5.d3.length:Int)<=6)&&(b.d5.d4.length:Int)<=8))) some
def Gi(m:AL)(n:Int):K1:=
 (J2 m.d6 n).bind fun a=>
 some (a&&(m.hT.length:Int)<=n)
def Nu(d:AZ)(a:Int):K1:=
 (GZ d.tl).bind fun e=>
 if ((!e)||a<(d.qo.length:Int))then
 some false
 else
 ff (j4 (ρ:=Bool) (fun i0 _=>
 (idx d.qo i0).bind fun b=>
 (Gi b.og 140).bind fun c=>
 if (!c)then
 some (.ret false)
 else
 some (.next ())) 0 (d.qo.length:Int) ()) (fun _=>
 some true) some
def Nh[Ev](c:He):K1:=
 (K0 c.T c.AbB c.D.tl).bind fun a=>
 (if(a&&((c.D.qo.length:Int)<=6||30<(c.D.qo.length:Int)))then((Nu c.D 33).bind some)else some false).bind some
def GH(a:List gt):Option (List gt):=
 Ah [] a
def IR(g:d5):Option d5:=
 (Ah [] g.d3).bind fun b=>
 (Ah [] g.d4).bind fun a=>
 some (d5.mk b a)
def Gr(a:AG):Option AG:=
 (IR a.d5).bind fun e=>
 (pr (fun i0(s0:AG)=>
 (idx a.gn i0).bind fun b=>
 (Ah [] b).bind fun c=>
 (Ah s0.gn [c]).bind fun d=>
 some (AG.mk s0.d5 d)) 0 (a.gn.length:Int) (AG.mk e [])).bind some
def H3[Ev](t:AC)(d:gt)(c:AG):QQ:=
 (JQ t d).bind fun a=>
 if (!a=0)then
 some a
 else
 (Ga t c).bind fun b=>
 some b.2
def Gh(a:Fp)(b:Fp):K1:=
 if (!(a.length:Int)=(b.length:Int))then
 some false
 else
 ff (j4 (ρ:=Bool) (fun i0 _=>
 (idx a i0).bind fun c=>
 (idx b i0).bind fun d=>
 if (!c=d)then
 some (.ret false)
 else
 some (.next ())) 0 (a.length:Int) ()) (fun _=>
 some true) some
def IV(l:Fp):K1:=
 ff (j4 (ρ:=Bool) (fun i0 _=>
 ff (j4 (ρ:=Bool) (fun i2 _=>
 (idx l i0).bind fun a=>
 (idx l i2).bind fun b=>
 if (a=b:Bool)then
 some (.ret false)
 else
 some (.next ())) 0 i0 ()) (fun _=>
 some (.next ())) (fun v2=>some (.ret v2))) 0 (l.length:Int) ()) (fun _=>
 some true) some
def Ks[Ev](t:AC)(p:d5)(g:d5)(m:d6)(a:Bool):QQ:=
 if ((!(m.d3.length:Int)=(p.d3.length:Int))||(!(m.d4.length:Int)=(p.d4.length:Int)))then
 some 20
 else
 ff (j4 (ρ:=Int) (fun i0 _=>
 (idx m.d3 i0).bind fun n=>
 (if(n<0:Bool)then some true else((idx m.d3 i0).bind fun o=>
 some (decide ((g.d3.length:Int)<=o)))).bind fun q=>
 if q then
 some (.ret 6)
 else
 (idx m.d3 i0).bind fun r=>
 (idx g.d3 r).bind fun s=>
 (idx p.d3 i0).bind fun u=>
 (Gq t s u).bind fun v=>
 if (!v)then
 some (.ret 13)
 else
 some (.next ())) 0 (m.d3.length:Int) ()) (fun _=>
 ff (j4 (ρ:=Int) (fun i2 _=>
 (idx m.d4 i2).bind fun w=>
 (if(w<0:Bool)then some true else((idx m.d4 i2).bind fun x=>
 some (decide ((g.d4.length:Int)<=x)))).bind fun y=>
 if y then
 some (.ret 6)
 else
 (idx p.d4 i2).bind fun c=>
 (idx m.d4 i2).bind fun d=>
 (idx g.d4 d).bind fun b=>
 if (!c.kp=b.kp)then
 some (.ret 13)
 else
 (idx m.d3 c.kq).bind fun e=>
 (if(!e=b.kq)then some true else((idx m.d3 c.To).bind fun f=>
 some (!f=b.To))).bind fun h=>
 if h then
 some (.ret 11)
 else
 some (.next ())) 0 (m.d4.length:Int) ()) (fun _=>
 (if a then((IV m.d3).bind fun i=>
 (if(!i)then some true else((IV m.d4).bind fun j=>
 some (!j))).bind some)else some false).bind fun l=>
 if l then
 some 5
 else
 some 0) some) some
def H1[Ev](t:AC)(p:d5)(g:d5)(m:d6)(a:Bool):QQ:=
 (Gc t p g).bind fun b=>
 if (!b=0)then
 some b
 else
 (Ks t p g m a).bind some
def JO[Ev](t:AC)(p:ec)(c:AG):QQ:=
 (Gd t p).bind fun a=>
 if (!a=0)then
 some a
 else
 (Ga t c).bind fun b=>
 some b.2
def H2(a:j0)(c:Fp):QQ:=
 if (a.Var<0:Bool)then
 some a.Add
 else
 (idx c a.Var).bind fun b=>
 some (Ad (b+a.Add))
def JL(t:j0)(b:Fp):Option (Int×Bool):=
 if (t.Var=(-1):Bool)then
 some (t.Add,true)
 else
 if (t.Var<0||(b.length:Int)<=t.Var)then
 some (0,false)
 else
 (idx b t.Var).bind fun a=>
 some (Ad (a+t.Add),true)
def Kn(a:Test)(d:Fp):K1:=
 (JL a.kg d).bind fun b=>
 (JL a.fd d).bind fun c=>
 if ((!b.2)||(!c.2))then
 some false
 else
 some (a.mo=1&&b.1<=c.1||(a.mo=2&&b.1=c.1))
def Gs(p:ec)(l:AG)(m:d6):Option (Fp×Int):=
 (GW p.hT 0).bind fun d=>
 (GW p.hT false).bind fun e=>
 ff (j4 (ρ:=(Fp×Int)) (fun i0(s0:Fp×a6)=>
 (idx p.fq i0).bind fun a=>
 (idx m.d3 a.sx).bind fun f=>
 (idx l.gn f).bind fun g=>
 (idx g a.kl).bind fun b=>
 (if(0<=a.j0.Var:Bool)then((idx s0.2 a.j0.Var).bind fun h=>
 some (!h))else some false).bind fun i=>
 if i then
 (idx s0.2 a.j0.Var).bind fun n=>
 (idx s0.1 a.j0.Var).bind fun o=>
 (H2 a.j0 (BC s0.1 a.j0.Var (Ad (b-a.j0.Add)))).bind fun c=>
 if (!c=b)then
 some (.ret ([],11))
 else
 some (.next (BC s0.1 a.j0.Var (Ad (b-a.j0.Add)),BC s0.2 a.j0.Var true))
 else
 (H2 a.j0 s0.1).bind fun c=>
 if (!c=b)then
 some (.ret ([],11))
 else
 some (.next (s0.1,s0.2))) 0 (p.fq.length:Int) (d,e)) (fun s0=>
 ff (j4 (ρ:=(Fp×Int)) (fun i2 _=>
 (idx p.pq i2).bind fun j=>
 (Kn j s0.1).bind fun k=>
 if (!k)then
 some (.ret ([],16))
 else
 some (.next ())) 0 (p.pq.length:Int) ()) (fun _=>
 some (s0.1,0)) some) some
def Kt[Ev](t:AC)(p:ec)(a:AG)(m:d6):Option (Fp×Int):=
 (JO t p a).bind fun b=>
 if (!b=0)then
 some ([],b)
 else
 (H1 t p.d5 a.d5 m false).bind fun c=>
 if (!c=0)then
 some ([],c)
 else
 (Gs p a m).bind fun d=>
 some (d.1,d.2)
def IU[Ev](t:AC)(p:d5)(g:d5)(m:d6):Option (d5×Int):=
 (H1 t p g m false).bind fun a=>
 if (!a=0)then
 some (d5.mk [] [],a)
 else
 (IR p).bind fun b=>
 ff (EA (ρ:=(d5×Int)) (fun(s0:d5×Int)=>
 if (s0.2<(s0.1.d3.length:Int):Bool)then
 (idx m.d3 s0.2).bind fun c=>
 (idx g.d3 c).bind fun d=>
 (idx s0.1.d3 s0.2).bind fun e=>
 some (.next (d5.mk (BC s0.1.d3 s0.2 d) s0.1.d4,Ad (s0.2+1)))
 else
 some (.brk (s0.1,s0.2))) (b,0)) (fun s0=>
 some (s0.1,0)) some
def NO(l:d5)(g:d5)(b:BA)(m:d6):QQ:=
 (GY l g m).bind fun a=>
 if (!a=0)then
 some a
 else
 (Hz l b).bind some
def Dg(l:Fp)(n:Int):K1:=
 ff (j4 (ρ:=Bool) (fun i0 _=>
 (idx l i0).bind fun a=>
 if (a=n:Bool)then
 some (.ret true)
 else
 some (.next ())) 0 (l.length:Int) ()) (fun _=>
 some false) some
def FV(a:Fp)(b:Fp):Option (List F7):=
 (pr (fun i0(s0:List F7)=>
 (pr (fun i2(s2:List F7)=>
 (idx a i0).bind fun c=>
 (idx a i2).bind fun d=>
 (if(c=d:Bool)then((Dg b i0).bind fun e=>
 (if(!e)then some true else((Dg b i2).bind fun f=>
 some (!f))).bind some)else some false).bind fun h=>
 if h then
 (Ah s2 [F7.mk i0 i2]).bind some
 else
 some s2) (Ad (i0+1)) (a.length:Int) s0).bind some) 0 (a.length:Int) []).bind some
def I1(a:Fp)(b:Fp):Option Fp:=
 (pr (fun i0(s0:Fp)=>
 (Dg b i0).bind fun c=>
 if (!c)then
 (idx a i0).bind fun d=>
 (Ah s0 [d]).bind some
 else
 some s0) 0 (a.length:Int) []).bind some
def IT(l:d5)(g:d5)(b:BA)(m:d6):Option Fp:=
 (I1 m.d3 b.d3).bind fun a=>
 (pr (fun i0(s0:Fp)=>
 (Dg m.d4 i0).bind fun c=>
 (if(!c)then((idx g.d4 i0).bind fun d=>
 (Dg a d.kq).bind fun e=>
 (if e then some true else((idx g.d4 i0).bind fun f=>
 (Dg a f.To).bind some)).bind some)else some false).bind fun j=>
 if j then
 (Ah s0 [i0]).bind some
 else
 some s0) 0 (g.d4.length:Int) []).bind some
def KO(n:Int)(l:Fp):Option Fp:=
 (pr (fun i0(s0:Fp)=>
 (Dg l i0).bind fun a=>
 if (!a)then
 (Ah s0 [i0]).bind some
 else
 some s0) 0 n []).bind some
def Oz(l:d5)(g:d5)(a:BA)(m:d6):Option (BA×Int):=
 (NO l g a m).bind fun b=>
 if (!b=0)then
 some (BA.mk [] [],b)
 else
 (FV m.d3 a.d3).bind fun c=>
 (FV m.d4 a.d4).bind fun d=>
 if (0<(Ad ((c.length:Int)+(d.length:Int))):Bool)then
 some (BA.mk [] [],15)
 else
 (IT l g a m).bind fun e=>
 if (0<(e.length:Int):Bool)then
 some (BA.mk [] [],14)
 else
 (I1 m.d3 a.d3).bind fun f=>
 (KO (g.d3.length:Int) f).bind fun h=>
 (I1 m.d4 a.d4).bind fun i=>
 (KO (g.d4.length:Int) i).bind fun j=>
 some (BA.mk h j,0)
def IX(n:Int)(b:Fp)(m:Fp):Option Fp:=
 (pr (fun i0(s0:Fp)=>
 (Ah s0 [(-1)]).bind some) 0 n []).bind fun s0=>
 (pr (fun i2(s2:Fp)=>
 (idx b i2).bind fun a=>
 (idx m i2).bind fun d=>
 (idx s2 a).bind fun e=>
 some (BC s2 a d)) 0 (b.length:Int) s0).bind some
def Ex(c:AX)(a:Fp):K1:=
 ff (j4 (ρ:=Bool) (fun i0 _=>
 (idx c.p.d4 i0).bind fun b=>
 if ((a.length:Int)<=b.kq||(a.length:Int)<=b.To)then
 some (.next ())
 else
 (pr (fun i2(s2:Bool)=>
 (idx c.g.d4 i2).bind fun d=>
 (if s2 then some true else((if(b.kp=d.kp:Bool)then((idx a b.kq).bind fun e=>
 some (decide (d.kq=e)))else some false).bind fun f=>
 (if f then((idx a b.To).bind fun h=>
 some (decide (d.To=h)))else some false).bind some)).bind some) 0 (c.g.d4.length:Int) false).bind fun s2=>
 if (!s2)then
 some (.ret false)
 else
 some (.next ())) 0 (c.p.d4.length:Int) ()) (fun _=>
 some true) some
def Cb[Ev](b:AX)(l:Fp)(n:Int):K1:=
 ff (EA (ρ:=Bool) (fun(s0:Int)=>
 if (s0<(l.length:Int)&&b.ej)then
 (idx l s0).bind fun a=>
 if (a=n:Bool)then
 some (.ret true)
 else
 some (.next (Ad (s0+1)))
 else
 some (.brk s0)) 0) (fun s0=>
 some false) some
def B7[Ev]:Nat->AX->Fp->Fp->Option AX
 |0,_,_,_=>none|n+1,a,b,l=>
  if (a.tc<(a.Aax.length:Int):Bool)then
  some a
  else
  if ((l.length:Int)=(a.p.d4.length:Int):Bool)then
  (Ah [] b).bind fun o=>
  (Ah [] l).bind fun q=>
  (Ah a.Aax [d6.mk o q]).bind fun r=>
  some (AX.mk a.t a.p a.g a.fu a.ej a.tc r)
  else
  (idx a.p.d4 (l.length:Int)).bind fun c=>
  ff (EA (ρ:=AX) (fun(s0:AX×Int)=>
  if (s0.2<(s0.1.g.d4.length:Int):Bool)then
  (idx s0.1.g.d4 s0.2).bind fun d=>
  (idx s0.1.fu.d4 (l.length:Int)).bind fun s=>
  (if(0<=s:Bool)then((idx s0.1.fu.d4 (l.length:Int)).bind fun u=>
  some (!u=s0.2))else some false).bind fun v=>
  (if v then some true else((Cb s0.1 l s0.2).bind some)).bind fun x=>
  (if(x||(!c.kp=d.kp))then some true else((idx b c.kq).bind fun e=>
  some (!d.kq=e))).bind fun f=>
  (if f then some true else((idx b c.To).bind fun h=>
  some (!d.To=h))).bind fun i=>
  if i then
  some (.next (s0.1,Ad (s0.2+1)))
  else
  (Ah [] l).bind fun j=>
  (Ah j [s0.2]).bind fun k=>
  (B7 n s0.1 b k).bind fun m=>
  some (.next (m,Ad (s0.2+1)))
  else
  some (.brk (s0.1,s0.2))) (a,0)) (fun s0=>
  some s0.1) some
def LU[Ev](b:AX)(a:Fp)(l:Fp):Option AX:=Ji fun n=>B7 n b a l
def B8[Ev]:Nat->AX->Fp->Option AX
 |0,_,_=>none|n+1,a,l=>
  (if(a.tc<(a.Aax.length:Int):Bool)then some true else((Ex a l).bind fun d=>
  some (!d))).bind fun e=>
  if e then
  some a
  else
  if ((l.length:Int)=(a.p.d3.length:Int):Bool)then
  (LU a l []).bind some
  else
  ff (EA (ρ:=AX) (fun(s0:AX×Int)=>
  if (s0.2<(s0.1.g.d3.length:Int):Bool)then
  (idx s0.1.fu.d3 (l.length:Int)).bind fun h=>
  (if(0<=h:Bool)then((idx s0.1.fu.d3 (l.length:Int)).bind fun i=>
  some (!i=s0.2))else some false).bind fun j=>
  (if j then some true else((Cb s0.1 l s0.2).bind some)).bind fun m=>
  (if m then some true else((idx s0.1.g.d3 s0.2).bind fun o=>
  (idx s0.1.p.d3 (l.length:Int)).bind fun q=>
  (Gq s0.1.t o q).bind fun r=>
  some (!r))).bind fun s=>
  if s then
  some (.next (s0.1,Ad (s0.2+1)))
  else
  (Ah [] l).bind fun u=>
  (Ah u [s0.2]).bind fun b=>
  (B8 n s0.1 b).bind fun c=>
  some (.next (c,Ad (s0.2+1)))
  else
  some (.brk (s0.1,s0.2))) (a,0)) (fun s0=>
  some s0.1) some
def IH[Ev](a:AX)(l:Fp):Option AX:=Ji fun n=>B8 n a l
def Lg[Ev](t:AC)(p:d5)(g:d5)(b:d6)(a:Bool)(c:Int):Option (List d6):=
 (IH (AX.mk t p g b a c []) []).bind fun d=>
 some d.Aax
def IW(l:Fp)(a:Int)(n:Int):QQ:=
 if (!(l.length:Int)=a)then
 some 20
 else
 ff (j4 (ρ:=Int) (fun i0 _=>
 (idx l i0).bind fun b=>
 (if(b<(-1):Bool)then some true else((idx l i0).bind fun c=>
 some (decide (n<=c)))).bind fun d=>
 if d then
 some (.ret 6)
 else
 some (.next ())) 0 (l.length:Int) ()) (fun _=>
 some 0) some
def J3[Ev](t:AC)(p:d5)(g:d5)(a:d6)(b:Bool):Option (List d6×Int):=
 (Gc t p g).bind fun c=>
 if (!c=0)then
 some ([],c)
 else
 if ((!(a.d3.length:Int)=(p.d3.length:Int))||(!(a.d4.length:Int)=(p.d4.length:Int)))then
 some ([],20)
 else
 (IW a.d3 (p.d3.length:Int) (g.d3.length:Int)).bind fun d=>
 if (!d=0)then
 some ([],d)
 else
 (IW a.d4 (p.d4.length:Int) (g.d4.length:Int)).bind fun e=>
 if (!e=0)then
 some ([],e)
 else
 (Lg t p g a b 5000).bind fun f=>
 if (5000<(f.length:Int):Bool)then
 some ([],3)
 else
 some (f,0)
def EQ(a:j0)(c:Fp):Option (Int×Int):=
 if (a.Var<(-1)||(c.length:Int)<=a.Var)then
 some (0,6)
 else
 (H2 a c).bind fun b=>
 some (b,0)
def J5(q:ec)(p:AG)(m:d6)(c:Fp):Option (Fp×Bool):=
 (Ah [] c).bind fun h=>
 (GW q.hT false).bind fun i=>
 (pr (fun i0(s0:Fp×a6)=>
 (idx s0.2 i0).bind fun t=>
 if ((c.length:Int)<=i0:Bool)then
 (Ah s0.1 [0]).bind fun j=>
 some (j,BC s0.2 i0 (decide (i0<(c.length:Int))))
 else
 some (s0.1,BC s0.2 i0 (decide (i0<(c.length:Int))))) 0 q.hT (h,i)).bind fun s0=>
 ff (j4 (ρ:=(Fp×Bool)) (fun i2(s2:Fp×a6)=>
 (idx q.fq i2).bind fun a=>
 (idx m.d3 a.sx).bind fun k=>
 (idx p.gn k).bind fun l=>
 (idx l a.kl).bind fun e=>
 (if(0<=a.j0.Var:Bool)then((idx s2.2 a.j0.Var).bind fun n=>
 some (!n))else some false).bind fun o=>
 if o then
 (idx s2.1 a.j0.Var).bind fun r=>
 (idx s2.2 a.j0.Var).bind fun s=>
 (EQ a.j0 (BC s2.1 a.j0.Var (Ad (e-a.j0.Add)))).bind fun d=>
 if (!d.1=e)then
 some (.ret ([],false))
 else
 some (.next (BC s2.1 a.j0.Var (Ad (e-a.j0.Add)),BC s2.2 a.j0.Var true))
 else
 (EQ a.j0 s2.1).bind fun d=>
 if (!d.1=e)then
 some (.ret ([],false))
 else
 some (.next (s2.1,s2.2))) 0 (q.fq.length:Int) (s0.1,s0.2)) (fun s2=>
 ff (j4 (ρ:=(Fp×Bool)) (fun i4 _=>
 (idx q.pq i4).bind fun b=>
 (EQ b.kg s2.1).bind fun f=>
 (EQ b.fd s2.1).bind fun g=>
 if (b.mo=1&&g.1<f.1||(b.mo=2&&(!f.1=g.1)))then
 some (.ret ([],false))
 else
 some (.next ())) 0 (q.pq.length:Int) ()) (fun _=>
 some (s2.1,true)) some) some
def Gt[Ev](t:AC)(c:d7)(e:AG)(m:AL)(a:Bool):Option (List AL×Int):=
 (IX (c.ec.d5.d3.length:Int) c.Map.d3 m.d6.d3).bind fun f=>
 (IX (c.ec.d5.d4.length:Int) c.Map.d4 m.d6.d4).bind fun g=>
 (J3 t c.ec.d5 e.d5 (d6.mk f g) a).bind fun b=>
 if (!b.2=0)then
 some ([],b.2)
 else
 (pr (fun i0(s0:List AL)=>
 (idx b.1 i0).bind fun h=>
 (J5 c.ec e h m.hT).bind fun d=>
 if d.2 then
 (idx b.1 i0).bind fun i=>
 (Ah s0 [AL.mk i d.1]).bind some
 else
 some s0) 0 (b.1.length:Int) []).bind fun s0=>
 some (s0,0)
def Dh[Ev]:Nat->AC->d7->AG->AL->Bool->Option (Ay×Int)
 |0,_,_,_,_,_=>none|n+1,t,c,f,m,a=>
  if (c.mo=2:Bool)then
  (idx c.gp 0).bind fun l=>
  (Dh n t l f m a).bind fun g=>
  if (g.2=0:Bool)then
  some (C1,10)
  else
  if (g.2=10:Bool)then
  some (C1,0)
  else
  some (C1,g.2)
  else
  if (c.mo=3:Bool)then
  ff (j4 (ρ:=(Ay×Int)) (fun i1(s1:Ay×Ay)=>
  (idx c.gp i1).bind fun o=>
  (Dh n t o f m a).bind fun h=>
  if (!h.2=0)then
  some (.ret (C1,h.2))
  else
  (Ah s1.2.gp [h.1]).bind fun p=>
  some (.next (s1.1,Ay.mk s1.2.AaB s1.2.og p))) 0 (c.gp.length:Int) (C1,C1)) (fun s1=>
  some (s1.2,0)) some
  else
  if (c.mo=4:Bool)then
  ff (j4 (ρ:=(Ay×Int)) (fun i3(s3:Ay)=>
  (idx c.gp i3).bind fun q=>
  (Dh n t q f m a).bind fun d=>
  if (!d.2=10)then
  some (.ret (Ay.mk i3 (AL.mk (d6.mk [] []) []) [d.1],d.2))
  else
  some (.next s3)) 0 (c.gp.length:Int) C1) (fun s3=>
  some (C1,10)) some
  else
  if (c.mo=5:Bool)then
  (Gt t c f m a).bind fun b=>
  if (!b.2=0)then
  some (C1,b.2)
  else
  ff (j4 (ρ:=(Ay×Int)) (fun i5(s5:Ay)=>
  (idx c.gp 0).bind fun i=>
  (idx b.1 i5).bind fun j=>
  (Dh n t i f j a).bind fun e=>
  if (!e.2=10)then
  (idx b.1 i5).bind fun k=>
  some (.ret (Ay.mk 0 k [e.1],e.2))
  else
  some (.next s5)) 0 (b.1.length:Int) C1) (fun s5=>
  some (C1,10)) some
  else
  some (C1,0)
def Pl[Ev](t:AC)(c:d7)(b:AG)(m:AL)(a:Bool):Option (Ay×Int):=Ji fun n=>Dh n t c b m a
def Ku[Ev](t:AC)(c:d7)(d:AG)(m:AL)(a:Bool):Option (Bool×Int):=
 (Pl t c d m a).bind fun b=>
 if (b.2=10:Bool)then
 some (false,0)
 else
 some (decide (b.2=0),b.2)
def KS[Ev](t:AC)(a:gt)(b:AG)(m:AL):Option (BA×Int):=
 (H1 t a.kg.d5 b.d5 m.d6 a.ns).bind fun g=>
 if (!g=0)then
 some (BA.mk [] [],1)
 else
 (Kt t a.kg b m.d6).bind fun c=>
 if (!c.2=0)then
 some (BA.mk [] [],c.2)
 else
 (Gh c.1 m.hT).bind fun h=>
 if (!h)then
 some (BA.mk [] [],11)
 else
 (IU t a.kg.d5 b.d5 m.d6).bind fun d=>
 if (!d.2=0)then
 some (BA.mk [] [],d.2)
 else
 (Oz d.1 b.d5 a.x3 m.d6).bind fun e=>
 if (!e.2=0)then
 some (BA.mk [] [],e.2)
 else
 (Ku t a.d7 b m a.ns).bind fun f=>
 (if(f.2=0&&(!f.1))then
 some 16
 else
 some f.2).bind fun w1=>
 some (e.1,w1)
def JA[Ev](t:AC)(b:AG)(p:BA):Option (AG×Int):=
 (Ga t b).bind fun c=>
 if (!c.2=0)then
 some (AG.mk (d5.mk [] []) [],c.2)
 else
 (HE b.d5 p).bind fun a=>
 if (!a.2.2=0)then
 some (AG.mk (d5.mk [] []) [],a.2.2)
 else
 ff (EA (ρ:=(AG×Int)) (fun(s0:AG×Int)=>
 if (s0.2<(a.2.1.d3.length:Int):Bool)then
 (idx a.2.1.d3 s0.2).bind fun d=>
 (idx b.gn d).bind fun e=>
 (Ah [] e).bind fun f=>
 (Ah s0.1.gn [f]).bind fun g=>
 some (.next (AG.mk s0.1.d5 g,Ad (s0.2+1)))
 else
 some (.brk (s0.1,s0.2))) (AG.mk a.1 [],0)) (fun s0=>
 some (s0.1,0)) some
def KN(l:Fp)(n:Int):Option Fp:=
 (pr (fun i0(s0:Fp)=>
 (Ah s0 [(-1)]).bind fun a=>
 (pr (fun i2(s2:Fp)=>
 (idx l i2).bind fun b=>
 if (b=i0:Bool)then
 (idx s2 i0).bind fun c=>
 some (BC s2 i0 i2)
 else
 some s2) 0 (l.length:Int) a).bind some) 0 n []).bind some
def J7(n:Int)(a:Fp):Option Fp:=
 (KN a n).bind some
def LA[Ev](t:AC)(a:AG)(d:BA):Option (AG×d6):=
 (JA t a d).bind fun b=>
 (J7 (a.d5.d3.length:Int) d.d3).bind fun c=>
 (J7 (a.d5.d4.length:Int) d.d4).bind fun e=>
 some (b.1,d6.mk c e)
def Gk(a:Fp)(b:Fp):Option Fp:=
 (pr (fun i0(s0:Fp)=>
 (idx a i0).bind fun c=>
 (idx b c).bind fun d=>
 (Ah s0 [d]).bind some) 0 (a.length:Int) []).bind some
def FH(e:Fp)(d:Fp)(a:Int)(l:Fp)(b:Int):Option Fp:=
 (KN d a).bind fun c=>
 (pr (fun i0(s0:Int×Fp)=>
 (idx c i0).bind fun f=>
 if (0<=f:Bool)then
 (idx c i0).bind fun g=>
 (idx e g).bind fun h=>
 (idx l h).bind fun i=>
 (Ah s0.2 [i]).bind fun j=>
 some (s0.1,j)
 else
 (Ah s0.2 [s0.1]).bind fun k=>
 some (Ad (s0.1+1),k)) 0 a (b,[])).bind fun s0=>
 some s0.2
def HF(a:Fp)(c:Int):K1:=
 ff (j4 (ρ:=Bool) (fun i0 _=>
 (idx a i0).bind fun b=>
 if (b=c:Bool)then
 some (.ret false)
 else
 some (.next ())) 0 (a.length:Int) ()) (fun _=>
 some true) some
def KQ[Ev](t:AC)(a:gt)(p:AG)(c:d6):Option AG:=
 ff (EA (ρ:=AG) (fun(s0:AG×Int)=>
 if (s0.2<(a.fd.d5.d3.length:Int):Bool)then
 (HF a.sc.d3 s0.2).bind fun h=>
 if (!h)then
 some (.next (s0.1,Ad (s0.2+1)))
 else
 (idx a.fd.d5.d3 s0.2).bind fun i=>
 (Ah s0.1.d5.d3 [i]).bind fun j=>
 (idx a.fd.d5.d3 s0.2).bind fun k=>
 (Fd t k).bind fun d=>
 (pr (fun i2(s2:Fp)=>
 (idx d.1 i2).bind fun l=>
 (Ah s2 [l.Low]).bind some) 0 (d.1.length:Int) []).bind fun s2=>
 (Ah s0.1.gn [s2]).bind fun n=>
 some (.next (AG.mk (d5.mk j s0.1.d5.d4) n,Ad (s0.2+1)))
 else
 some (.brk (s0.1,s0.2))) (p,0)) (fun s0=>
 ff (EA (ρ:=AG) (fun(s4:AG×Int)=>
 if (s4.2<(a.fd.d5.d4.length:Int):Bool)then
 (HF a.sc.d4 s4.2).bind fun o=>
 if o then
 (idx a.fd.d5.d4 s4.2).bind fun b=>
 (idx c.d3 b.kq).bind fun e=>
 (idx c.d3 b.To).bind fun f=>
 (Ah s4.1.d5.d4 [Bj.mk b.kp e f]).bind fun g=>
 some (.next (AG.mk (d5.mk s4.1.d5.d3 g) s4.1.gn,Ad (s4.2+1)))
 else
 some (.next (s4.1,Ad (s4.2+1)))
 else
 some (.brk (s4.1,s4.2))) (s0.1,0)) (fun s4=>
 some s4.1) some) some
def Lh[Ev](t:AC)(a:gt)(C:AG)(c:d6)(e:Fp):Option (AG×Int):=
 ff (j4 (ρ:=(AG×Int)) (fun i0(s0:AG)=>
 (idx a.fd.fq i0).bind fun q=>
 (EQ q.j0 e).bind fun r=>
 ff (j4 (ρ:=(AG×Int)) (fun i2(s2:AG)=>
 (idx a.fd.fq i2).bind fun s=>
 (EQ s.j0 e).bind fun u=>
 (idx a.fd.fq i2).bind fun v=>
 (idx c.d3 v.sx).bind fun w=>
 (idx a.fd.fq i0).bind fun x=>
 (idx c.d3 x.sx).bind fun y=>
 (if(w=y:Bool)then((idx a.fd.fq i2).bind fun z=>
 (idx a.fd.fq i0).bind fun A=>
 some (decide (z.kl=A.kl)))else some false).bind fun B=>
 if (B&&(!r.1=u.1))then
 some (.ret (AG.mk (d5.mk [] []) [],11))
 else
 some (.next s2)) 0 i0 s0) (fun s2=>
 some (.next s2)) (fun v2=>some (.ret v2))) 0 (a.fd.fq.length:Int) (AG.mk (d5.mk [] []) [])) (fun s0=>
 ff (j4 (ρ:=(AG×Int)) (fun i4(s4:AG×AG)=>
 (idx a.fd.fq i4).bind fun i=>
 (EQ i.j0 e).bind fun b=>
 (idx a.fd.fq i4).bind fun j=>
 (idx c.d3 j.sx).bind fun d=>
 (idx s4.1.d5.d3 d).bind fun k=>
 (Fd t k).bind fun f=>
 (idx a.fd.fq i4).bind fun l=>
 (idx f.1 l.kl).bind fun m=>
 (if(b.1<m.Low:Bool)then some true else((idx a.fd.fq i4).bind fun n=>
 (idx f.1 n.kl).bind fun o=>
 some (decide (o.AaD<b.1)))).bind fun p=>
 if p then
 some (.ret (AG.mk (d5.mk [] []) [],6))
 else
 (idx s4.1.gn d).bind fun g=>
 (idx a.fd.fq i4).bind fun h=>
 (idx g h.kl).bind fun D=>
 some (.next (AG.mk s4.1.d5 (BC s4.1.gn d (BC g h.kl b.1)),s4.2))) 0 (a.fd.fq.length:Int) (C,s0)) (fun s4=>
 some (s4.1,0)) some) some
def JR[Ev](t:AC)(a:gt)(e:AG)(m:AL):Option (A2×Int):=
 (H3 t a e).bind fun h=>
 if (!h=0)then
 some (Hu,h)
 else
 (KS t a e m).bind fun c=>
 if (!c.2=0)then
 some (Hu,c.2)
 else
 (LA t e c.1).bind fun d=>
 (Gk m.d6.d3 d.2.d3).bind fun i=>
 (Gk m.d6.d4 d.2.d4).bind fun j=>
 (FH a.x3.d3 a.sc.d3 (a.fd.d5.d3.length:Int) i (c.1.d3.length:Int)).bind fun f=>
 (FH a.x3.d4 a.sc.d4 (a.fd.d5.d4.length:Int) j (c.1.d4.length:Int)).bind fun g=>
 (Gr d.1).bind fun k=>
 (KQ t a k (d6.mk f g)).bind fun l=>
 (Lh t a l (d6.mk f g) m.hT).bind fun b=>
 if (!b.2=0)then
 some (Hu,b.2)
 else
 if (40<(b.1.d5.d3.length:Int)||80<(b.1.d5.d4.length:Int))then
 some (Hu,3)
 else
 some (A2.mk a m e b.1 d.2 (d6.mk f g),0)
def MP[Ev](p:d5):Option d6:=
 (GW (p.d3.length:Int) 0).bind fun b=>
 (GW (p.d4.length:Int) 0).bind fun a=>
 ff (EA (ρ:=d6) (fun(s0:d6×Int)=>
 if (s0.2<(s0.1.d3.length:Int):Bool)then
 (idx s0.1.d3 s0.2).bind fun c=>
 some (.next (d6.mk (BC s0.1.d3 s0.2 (-1)) s0.1.d4,Ad (s0.2+1)))
 else
 some (.brk (s0.1,s0.2))) (d6.mk b a,0)) (fun s0=>
 ff (EA (ρ:=d6) (fun(s2:d6×Int)=>
 if (s2.2<(s2.1.d4.length:Int):Bool)then
 (idx s2.1.d4 s2.2).bind fun d=>
 some (.next (d6.mk s2.1.d3 (BC s2.1.d4 s2.2 (-1)),Ad (s2.2+1)))
 else
 some (.brk (s2.1,s2.2))) (s0.1,0)) (fun s2=>
 some s2.1) some) some
def Ns[Ev](t:AC)(p:d5)(g:d5)(a:Bool):Option (List d6×Int):=
 (Gc t p g).bind fun b=>
 if (!b=0)then
 some ([],b)
 else
 (MP p).bind fun d=>
 (Lg t p g d a 5000).bind fun c=>
 if (5000<(c.length:Int):Bool)then
 some ([],3)
 else
 some (c,0)
def JC[Ev](t:AC)(p:ec)(c:AG)(a:Bool):Option (List AL×Int):=
 (JO t p c).bind fun d=>
 if (!d=0)then
 some ([],d)
 else
 (Ns t p.d5 c.d5 a).bind fun b=>
 if (!b.2=0)then
 some ([],b.2)
 else
 (pr (fun i0(s0:List AL)=>
 (idx b.1 i0).bind fun f=>
 (Gs p c f).bind fun e=>
 if (e.2=0:Bool)then
 (idx b.1 i0).bind fun g=>
 (Ah s0 [AL.mk g e.1]).bind some
 else
 some s0) 0 (b.1.length:Int) []).bind fun s0=>
 some (s0,0)
def Gv[Ev](t:AC)(b:gt)(c:AG):Option (List AL×Int):=
 (H3 t b c).bind fun d=>
 if (!d=0)then
 some ([],d)
 else
 (JC t b.kg c b.ns).bind fun a=>
 if (!a.2=0)then
 some ([],a.2)
 else
 (pr (fun i0(s0:List AL)=>
 (idx a.1 i0).bind fun e=>
 (JR t b c e).bind fun f=>
 if (f.2=0:Bool)then
 (idx a.1 i0).bind fun g=>
 (Ah s0 [g]).bind some
 else
 some s0) 0 (a.1.length:Int) []).bind fun s0=>
 some (s0,0)
def IY[Ev](t:AC)(a:List gt)(f:AG):Option (List Bq×Int):=
 ff (j4 (ρ:=(List Bq×Int)) (fun i0(s0:List Bq)=>
 (idx a i0).bind fun c=>
 (Gv t c f).bind fun b=>
 if (!b.2=0)then
 some (.ret ([],b.2))
 else
 (pr (fun i2(s2:List Bq)=>
 (idx b.1 i2).bind fun d=>
 (Ah s2 [Bq.mk i0 d]).bind some) 0 (b.1.length:Int) s0).bind fun s2=>
 some (.next s2)) 0 (a.length:Int) []) (fun s0=>
 some (s0,0)) some
def KT[Ev](t:AC)(a:List gt)(d:AG)(m:Bq):Option (A2×Int):=
 if (m.gt<0||(a.length:Int)<=m.gt)then
 some (Hu,6)
 else
 (idx a m.gt).bind fun c=>
 (JR t c d m.og).bind fun b=>
 some (b.1,b.2)
def J8[Ev](t:AC)(c:List gt)(i:AG)(a:Fp):Option (AZ×Int):=
 (JT t c i).bind fun j=>
 if (!j=0)then
 some (RN,j)
 else
 if (30<(a.length:Int):Bool)then
 some (RN,3)
 else
 (Gr i).bind fun k=>
 ff (j4 (ρ:=(AZ×Int)) (fun i0(s0:AG×AZ×AZ)=>
 (IY t c s0.1).bind fun b=>
 if (!b.2=0)then
 some (.ret (RN,b.2))
 else
 if ((b.1.length:Int)=0:Bool)then
 some (.brk (s0.1,s0.2.1,s0.2.2))
 else
 (idx a i0).bind fun l=>
 (Ut l (b.1.length:Int)).bind fun d=>
 if (d<0:Bool)then
 (idx b.1 (Ad (d+(b.1.length:Int)))).bind fun e=>
 (KT t c s0.1 e).bind fun f=>
 (idx b.1 (Ad (d+(b.1.length:Int)))).bind fun g=>
 (Ah s0.2.2.qo [g]).bind fun h=>
 some (.next (f.1.wi,s0.2.1,AZ.mk s0.2.2.tl h))
 else
 (idx b.1 d).bind fun e=>
 (KT t c s0.1 e).bind fun f=>
 (idx b.1 d).bind fun g=>
 (Ah s0.2.2.qo [g]).bind fun h=>
 some (.next (f.1.wi,s0.2.1,AZ.mk s0.2.2.tl h))) 0 (a.length:Int) (i,RN,AZ.mk k [])) (fun s0=>
 some (s0.2.2,0)) some
def IS(a:Fp)(b:Fp):K1:=
 if (!(a.length:Int)=(b.length:Int))then
 some false
 else
 ff (j4 (ρ:=Bool) (fun i0 _=>
 (idx a i0).bind fun c=>
 (idx b i0).bind fun d=>
 if (!c=d)then
 some (.ret false)
 else
 some (.next ())) 0 (a.length:Int) ()) (fun _=>
 some true) some
def MM(a:d5)(b:d5):K1:=
 (IS a.d3 b.d3).bind fun c=>
 if ((!c)||(!(a.d4.length:Int)=(b.d4.length:Int)))then
 some false
 else
 ff (j4 (ρ:=Bool) (fun i0 _=>
 (idx a.d4 i0).bind fun d=>
 (idx b.d4 i0).bind fun e=>
 if (!d=e)then
 some (.ret false)
 else
 some (.next ())) 0 (a.d4.length:Int) ()) (fun _=>
 some true) some
def JB[Ev](a:Fp)(b:Fp):QQ:=
 ff (EA (ρ:=Int) (fun(s0:Int)=>
 if (s0<(a.length:Int)&&s0<(b.length:Int))then
 (idx a s0).bind fun c=>
 (idx b s0).bind fun d=>
 if (!c=d)then
 (idx a s0).bind fun e=>
 (idx b s0).bind fun f=>
 some (.ret (Ad (e-f)))
 else
 some (.next (Ad (s0+1)))
 else
 some (.brk s0)) 0) (fun s0=>
 some (Ad ((a.length:Int)-(b.length:Int)))) some
def MN[Ev](a:AG)(b:AG):K1:=
 (MM a.d5 b.d5).bind fun c=>
 if ((!c)||(!(a.gn.length:Int)=(b.gn.length:Int)))then
 some false
 else
 ff (j4 (ρ:=Bool) (fun i0 _=>
 (idx a.gn i0).bind fun d=>
 (idx b.gn i0).bind fun e=>
 (JB d e).bind fun f=>
 if (!f=0)then
 some (.ret false)
 else
 some (.next ())) 0 (a.gn.length:Int) ()) (fun _=>
 some true) some
def OM(a:d6)(b:d6):K1:=
 (Gh a.d3 b.d3).bind fun e=>
 (if e then((Gh a.d4 b.d4).bind some)else some false).bind some
def Hj(a:List Bq)(b:List Bq):K1:=
 if (!(a.length:Int)=(b.length:Int))then
 some false
 else
 ff (j4 (ρ:=Bool) (fun i0 _=>
 (idx a i0).bind fun c=>
 (idx b i0).bind fun d=>
 (if(!c.gt=d.gt)then some true else((idx a i0).bind fun e=>
 (idx b i0).bind fun f=>
 (OM e.og.d6 f.og.d6).bind fun g=>
 some (!g))).bind fun h=>
 (if h then some true else((idx a i0).bind fun i=>
 (idx b i0).bind fun j=>
 (IS i.og.hT j.og.hT).bind fun k=>
 some (!k))).bind fun l=>
 if l then
 some (.ret false)
 else
 some (.next ())) 0 (a.length:Int) ()) (fun _=>
 some true) some
def MU[Ev](a:AZ)(b:AZ):K1:=
 (MN a.tl b.tl).bind fun e=>
 (if e then((Hj a.qo b.qo).bind some)else some false).bind some
def Fa[Ev](c:He)(a:Fp):K1:=
 (EF).bind fun m=>
 (if(!m)then some true else((Nh c).bind fun e=>
 some (!e))).bind fun f=>
 if ((f||(4<(a.length:Int)&&(a.length:Int)<=30))||33<(a.length:Int))then
 (EF).bind some
 else
 (GH c.AbB).bind fun h=>
 (Gr c.D.tl).bind fun i=>
 (slices_Clone_int a).bind fun j=>
 (Cs c.T h i j).bind fun b=>
 (J8 c.T c.AbB c.D.tl a).bind fun d=>
 (if(b.2=d.2:Bool)then((MU b.1 d.1).bind some)else some false).bind some
end
end Go.Sf.Sc
