/- The functions of the program as Lean functions. -/
import Derived.Test.YtbmogdodchhhlaaGreatTypes
import Derived.Test.YtbmogdodchhhlaaGreatSfText
import Derived.Test.YtbmogdodchhhlaaGreatSfF
set_option linter.all false
set_option maxRecDepth 100000
namespace Go.Sf.Sc
open Go Go.Sf
noncomputable section
abbrev GK:AT:=AT.mk (o4.mk (⟨#[]⟩:ByteArray) (j0.mk (fq.mk [] []) [] 0 []) (j0.mk (fq.mk [] []) [] 0 []) (At.mk [] []) (hT.mk [] []) false (hV.mk 0 [] (hT.mk [] []) (j0.mk (fq.mk [] []) [] 0 []))) (AM.mk (hT.mk [] []) []) (AF.mk (fq.mk [] []) []) (AF.mk (fq.mk [] []) []) (hT.mk [] []) (hT.mk [] [])
abbrev CS:BE:=BE.mk 0 (AM.mk (hT.mk [] []) []) []
abbrev Hz:B8:=B8.mk (AF.mk (fq.mk [] []) []) []
def slices_Equal_int(a:Fp)(b:Fp):K1:=
 if (!(a.length:Int)=(b.length:Int))then
 some false
 else
 og (qo (ρ:=Bool) (fun i0 _=>
 (idx a i0).bind fun c=>
 (idx b i0).bind fun d=>
 if (!c=d)then
 some (.ret false)
 else
 some (.next ())) 0 (a.length:Int) ()) (fun _=>
 some true) some
def Dq(a:List Bh)(b:List Bh):K1:=
 if (!(a.length:Int)=(b.length:Int))then
 some false
 else
 og (qo (ρ:=Bool) (fun i0 _=>
 (idx a i0).bind fun c=>
 (idx b i0).bind fun d=>
 if (!c=d)then
 some (.ret false)
 else
 some (.next ())) 0 (a.length:Int) ()) (fun _=>
 some true) some
def CD[Ev](a:List Fp)(b:List Fp)(f:Fp->Fp->K1):K1:=
 if (!(a.length:Int)=(b.length:Int))then
 some false
 else
 og (qo (ρ:=Bool) (fun i0 _=>
 (idx a i0).bind fun c=>
 (idx b i0).bind fun d=>
 (f c d).bind fun e=>
 if (!e)then
 some (.ret false)
 else
 some (.next ())) 0 (a.length:Int) ()) (fun _=>
 some true) some
def DO[Ev](a:AF)(b:AF):K1:=
 (slices_Equal_int a.fq.ff b.fq.ff).bind fun c=>
 (if c then((Dq a.fq.gt b.fq.gt).bind some)else some false).bind fun e=>
 (if e then((CD a.ne b.ne slices_Equal_int).bind some)else some false).bind some
def CT[Ev](a:AT)(b:AT):Option (At×Int):=
 (DO a.rn b.rn).bind fun f=>
 if (((((!f)||(!(a.rx.ff.length:Int)=(a.rn.fq.ff.length:Int)))||(!(b.rx.ff.length:Int)=(a.rn.fq.ff.length:Int)))||(!(a.rx.gt.length:Int)=(a.rn.fq.gt.length:Int)))||(!(b.rx.gt.length:Int)=(a.rn.fq.gt.length:Int)))then
 some (At.mk [] [],8)
 else
 (ry (fun i0(s0:At)=>
 (idx a.rx.ff i0).bind fun g=>
 (if(0<=g:Bool)then((idx b.rx.ff i0).bind fun h=>
 some (decide (0<=h)))else some false).bind fun i=>
 if i then
 (Ao s0.ff [i0]).bind fun j=>
 some (At.mk j s0.gt)
 else
 some s0) 0 (a.rn.fq.ff.length:Int) (At.mk [] [])).bind fun s0=>
 (ry (fun i2(s2:At)=>
 (idx a.rx.gt i2).bind fun k=>
 (if(0<=k:Bool)then((idx b.rx.gt i2).bind fun c=>
 some (decide (0<=c)))else some false).bind fun d=>
 if d then
 (Ao s2.gt [i2]).bind fun e=>
 some (At.mk s2.ff e)
 else
 some s2) 0 (a.rn.fq.gt.length:Int) s0).bind fun s2=>
 some (s2,0)
def Kr:Option AB:=
 some (AB.mk [Bn.mk (⟨#[65,99,99,111,117,110,116]⟩:ByteArray) (-1) true [ri.mk (⟨#[98,97,108,97,110,99,101]⟩:ByteArray) (-1000) 1000 []],Bn.mk (⟨#[67,97,115,104]⟩:ByteArray) 0 false [],Bn.mk (⟨#[76,111,97,110]⟩:ByteArray) 0 false [ri.mk (⟨#[115,116,97,116,101]⟩:ByteArray) 0 1 [(⟨#[111,112,101,110]⟩:ByteArray),(⟨#[99,108,111,115,101,100]⟩:ByteArray)]],Bn.mk (⟨#[80,101,114,115,111,110]⟩:ByteArray) (-1) false []] [Bv.mk (⟨#[111,119,110,115]⟩:ByteArray) 3 0 0 (-1) 1 1,Bv.mk (⟨#[112,97,121,115]⟩:ByteArray) 1 1 0 (-1) 0 (-1)])
def LB:Option o4:=
 some (o4.mk (⟨#[97,100,100,115]⟩:ByteArray) (j0.mk (fq.mk [1] []) [Bw.mk 0 0 (rg.mk 0 0)] 1 []) (j0.mk (fq.mk [1] []) [Bw.mk 0 0 (rg.mk 0 1)] 1 []) (At.mk [0] []) (hT.mk [0] []) false (hV.mk 1 [] (hT.mk [] []) (j0.mk (fq.mk [] []) [] 0 [])))
def NQ(t:Db):Option ByteArray:=
 if (t.rt=3:Bool)then
 (OL (⟨#[34]⟩:ByteArray) t.vl).bind fun a=>
 (OL a (⟨#[34]⟩:ByteArray)).bind some
 else
 some t.vl
def Jf(c:Int):K1:=
 some (97<=c&&c<=122||(65<=c&&c<=90))
def G2(c:Int):K1:=
 some (48<=c&&c<=57)
def JC[Ev](b:ByteArray)(c:Int)(a:Bool):QQ:=
 og (GO (ρ:=Int) (fun(s0:Int)=>
 (if((Az (c+s0))<(b.size:Int):Bool)then((th b (Az (c+s0))).bind fun d=>
 (G2 d).bind fun e=>
 (if e then some true else((if(!a)then((th b (Az (c+s0))).bind fun f=>
 (Jf f).bind fun g=>
 (if g then some true else((th b (Az (c+s0))).bind fun h=>
 some (decide (h=95)))).bind some)else some false).bind some)).bind some)else some false).bind fun l=>
 if l then
 some (.next (Az (s0+1)))
 else
 some (.brk s0)) 0) some some
def GA[Ev](b:ByteArray)(c:Int):QQ:=
 og (GO (ρ:=Int) (fun(s0:Int)=>
 if ((Az (c+s0))<(b.size:Int):Bool)then
 (th b (Az (c+s0))).bind fun a=>
 if (a=34:Bool)then
 some (.ret (Az (s0+1)))
 else
 if (a<32||126<a)then
 some (.ret 0)
 else
 some (.next (Az (s0+1)))
 else
 some (.brk s0)) 1) (fun s0=>
 some 0) some
def MQ:Option (List ByteArray):=
 some [(⟨#[45,62]⟩:ByteArray),(⟨#[60,61]⟩:ByteArray),(⟨#[62,61]⟩:ByteArray),(⟨#[61,61]⟩:ByteArray),(⟨#[33,61]⟩:ByteArray),(⟨#[123]⟩:ByteArray),(⟨#[125]⟩:ByteArray),(⟨#[40]⟩:ByteArray),(⟨#[41]⟩:ByteArray),(⟨#[91]⟩:ByteArray),(⟨#[93]⟩:ByteArray),(⟨#[44]⟩:ByteArray),(⟨#[59]⟩:ByteArray),(⟨#[58]⟩:ByteArray),(⟨#[61]⟩:ByteArray),(⟨#[43]⟩:ByteArray),(⟨#[45]⟩:ByteArray),(⟨#[42]⟩:ByteArray),(⟨#[60]⟩:ByteArray),(⟨#[62]⟩:ByteArray),(⟨#[33]⟩:ByteArray),(⟨#[38]⟩:ByteArray),(⟨#[124]⟩:ByteArray),(⟨#[46]⟩:ByteArray),(⟨#[63]⟩:ByteArray)]
def JB[Ev](a:ByteArray)(d:Int):Option (Db×Int×Int):=
 (th a d).bind fun c=>
 (Jf c).bind fun i=>
 (if i then some true else((G2 c).bind some)).bind fun k=>
 if k then
 (G2 c).bind fun l=>
 (JC a d l).bind fun f=>
 (G2 c).bind fun m=>
 (if m then
 some (2,9)
 else
 some (1,20)).bind fun w1=>
 if (w1.2<f:Bool)then
 some (Db.mk 0 (⟨#[]⟩:ByteArray) 0,0,3)
 else
 (tz a d (Az (d+f))).bind fun n=>
 some (Db.mk w1.1 n 0,f,0)
 else
 if (c=34:Bool)then
 (GA a d).bind fun e=>
 if (e=0:Bool)then
 some (Db.mk 0 (⟨#[]⟩:ByteArray) 0,0,2)
 else
 if (60<(Az (e-2)):Bool)then
 some (Db.mk 0 (⟨#[]⟩:ByteArray) 0,0,3)
 else
 (tz a (Az (d+1)) (Az ((Az (d+e))-1))).bind fun o=>
 some (Db.mk 3 o 0,e,0)
 else
 (MQ).bind fun b=>
 og (qo (ρ:=(Db×Int×Int)) (fun i0(s0:Db)=>
 (idx b i0).bind fun p=>
 (if((Az (d+(p.size:Int)))<=(a.size:Int):Bool)then((idx b i0).bind fun q=>
 (tz a d (Az (d+(q.size:Int)))).bind fun r=>
 (idx b i0).bind fun s=>
 some (r==s))else some false).bind fun t=>
 if t then
 (idx b i0).bind fun g=>
 (idx b i0).bind fun h=>
 some (.ret (Db.mk 4 g 0,(h.size:Int),0))
 else
 some (.next s0)) 0 (b.length:Int) (Db.mk 0 (⟨#[]⟩:ByteArray) 0)) (fun s0=>
 some (Db.mk 0 (⟨#[]⟩:ByteArray) 0,0,2)) some
def G0[Ev](t:Db):K1:=
 (NQ t).bind fun b=>
 if (b==(⟨#[]⟩:ByteArray))then
 some false
 else
 (JB b 0).bind fun a=>
 some ((a.2.2=0&&a.2.1=(b.size:Int))&&a.1.rt=t.rt)
def DD[Ev](a:ByteArray):K1:=
 (G0 (Db.mk 1 a 0)).bind some
def Di[Ev]:Nat->AB->Int->Option (List ri)
 |0,_,_=>none|n+1,t,a=>
  if (a<0:Bool)then
  some []
  else
  (idx t.ff a).bind fun b=>
  (Di n t b.sU).bind fun c=>
  (Ao [] c).bind fun d=>
  (idx t.ff a).bind fun e=>
  (Ao d e.sY).bind some
def Il[Ev](t:AB)(a:Int):Option (List ri):=Ht fun n=>Di n t a
def EZ(n:Int)(b:Int)(a:Int):K1:=
 some (b<=n&&n<=a)
def G3[Ev](l:List ByteArray):QQ:=
 if (20<(l.length:Int):Bool)then
 some 3
 else
 og (qo (ρ:=Int) (fun i0 _=>
 (idx l i0).bind fun a=>
 (DD a).bind fun b=>
 if (!b)then
 some (.ret 2)
 else
 og (qo (ρ:=Int) (fun i2 _=>
 (idx l i2).bind fun c=>
 (idx l i0).bind fun d=>
 if (c==d)then
 some (.ret 5)
 else
 some (.next ())) 0 i0 ()) (fun _=>
 some (.next ())) (fun v2=>some (.ret v2))) 0 (l.length:Int) ()) (fun _=>
 some 0) some
def ER[Ev](a:ri):QQ:=
 if ((a.s7.length:Int)=0:Bool)then
 (EZ a.uk (-1000000) 1000000).bind fun c=>
 (if(!c)then some true else((EZ a.tl a.uk 1000000).bind fun d=>
 some (!d))).bind fun e=>
 if e then
 some 6
 else
 some 0
 else
 (G3 a.s7).bind fun b=>
 if (!b=0)then
 some b
 else
 if ((!a.uk=0)||(!a.tl=(Az ((a.s7.length:Int)-1))))then
 some 6
 else
 some 0
def ID[Ev](t:AB)(c:Int):QQ:=
 (idx t.ff c).bind fun b=>
 (DD b.sb).bind fun e=>
 if (!e)then
 some 2
 else
 og (qo (ρ:=Int) (fun i0 _=>
 (idx t.ff i0).bind fun f=>
 if (f.sb==b.sb)then
 some (.ret 5)
 else
 some (.next ())) 0 c ()) (fun _=>
 (EZ b.sU (-1) (Az (c-1))).bind fun g=>
 if (!g)then
 some 6
 else
 (Il t c).bind fun a=>
 if (4<(b.sY.length:Int)||8<(a.length:Int))then
 some 3
 else
 og (qo (ρ:=Int) (fun i2 _=>
 (idx a i2).bind fun h=>
 (DD h.sb).bind fun i=>
 if (!i)then
 some (.ret 2)
 else
 og (qo (ρ:=Int) (fun i4 _=>
 (idx a i4).bind fun j=>
 (idx a i2).bind fun k=>
 if (j.sb==k.sb)then
 some (.ret 5)
 else
 some (.next ())) 0 i2 ()) (fun _=>
 (idx a i2).bind fun l=>
 (ER l).bind fun d=>
 if (!d=0)then
 some (.ret d)
 else
 some (.next ())) (fun v4=>some (.ret v4))) (Az ((a.length:Int)-(b.sY.length:Int))) (a.length:Int) ()) (fun _=>
 some 0) some) some
def KS(b:Int)(a:Int):K1:=
 (EZ b 0 40).bind fun f=>
 (if f then((if(a=(-1):Bool)then some true else((EZ a b 40).bind some)).bind some)else some false).bind some
def IC[Ev](t:AB)(b:Int):QQ:=
 (idx t.gt b).bind fun a=>
 (DD a.sb).bind fun c=>
 if (!c)then
 some 2
 else
 og (qo (ρ:=Int) (fun i0 _=>
 (idx t.gt i0).bind fun d=>
 if (d.sb==a.sb)then
 some (.ret 5)
 else
 some (.next ())) 0 b ()) (fun _=>
 (EZ a.r9 0 (Az ((t.ff.length:Int)-1))).bind fun e=>
 (if(!e)then some true else((EZ a.To 0 (Az ((t.ff.length:Int)-1))).bind fun f=>
 some (!f))).bind fun g=>
 (if g then some true else((KS a.uG a.ul).bind fun h=>
 some (!h))).bind fun i=>
 (if i then some true else((KS a.vc a.uH).bind fun j=>
 some (!j))).bind fun k=>
 if k then
 some 6
 else
 some 0) some
def DU[Ev](t:AB):Option (ByteArray×Int):=
 if ((t.ff.length:Int)=0:Bool)then
 some ((⟨#[]⟩:ByteArray),7)
 else
 if (12<(t.ff.length:Int)||20<(t.gt.length:Int))then
 some ((⟨#[]⟩:ByteArray),3)
 else
 og (qo (ρ:=(ByteArray×Int)) (fun i0 _=>
 (ID t i0).bind fun a=>
 if (!a=0)then
 (idx t.ff i0).bind fun c=>
 some (.ret (c.sb,a))
 else
 some (.next ())) 0 (t.ff.length:Int) ()) (fun _=>
 og (qo (ρ:=(ByteArray×Int)) (fun i2 _=>
 (IC t i2).bind fun b=>
 if (!b=0)then
 (idx t.gt i2).bind fun d=>
 some (.ret (d.sb,b))
 else
 some (.next ())) 0 (t.gt.length:Int) ()) (fun _=>
 some ((⟨#[]⟩:ByteArray),0)) some) some
def LD(n:Int):K1:=
 some (0<=n&&n<=99)
def MT(e:Bh)(a:Int):K1:=
 (LD e.rz).bind fun b=>
 some ((((b&&0<=e.r9)&&e.r9<a)&&0<=e.To)&&e.To<a)
def DV(g:fq):QQ:=
 if (40<(g.ff.length:Int)||80<(g.gt.length:Int))then
 some 3
 else
 og (qo (ρ:=Int) (fun i0 _=>
 (idx g.ff i0).bind fun a=>
 (LD a).bind fun b=>
 if (!b)then
 some (.ret 6)
 else
 some (.next ())) 0 (g.ff.length:Int) ()) (fun _=>
 og (qo (ρ:=Int) (fun i2 _=>
 (idx g.gt i2).bind fun c=>
 (MT c (g.ff.length:Int)).bind fun d=>
 if (!d)then
 some (.ret 6)
 else
 some (.next ())) 0 (g.gt.length:Int) ()) (fun _=>
 some 0) some) some
def G5(t:AB)(g:fq):K1:=
 og (qo (ρ:=Bool) (fun i0 _=>
 (idx g.ff i0).bind fun a=>
 (if(a<0:Bool)then some true else((idx g.ff i0).bind fun b=>
 some (decide ((t.ff.length:Int)<=b)))).bind fun c=>
 if c then
 some (.ret false)
 else
 some (.next ())) 0 (g.ff.length:Int) ()) (fun _=>
 og (qo (ρ:=Bool) (fun i2 _=>
 (idx g.gt i2).bind fun d=>
 (if(d.rz<0:Bool)then some true else((idx g.gt i2).bind fun e=>
 some (decide ((t.gt.length:Int)<=e.rz)))).bind fun f=>
 if f then
 some (.ret false)
 else
 some (.next ())) 0 (g.gt.length:Int) ()) (fun _=>
 some true) some) some
def Ff[Ev](t:AB)(a:Int)(b:Int):QQ:=
 (DU t).bind fun c=>
 if (!c.2=0)then
 some c.2
 else
 (EZ a 0 (Az ((t.ff.length:Int)-1))).bind fun d=>
 (if(!d)then some true else((EZ b 0 (Az ((t.ff.length:Int)-1))).bind fun e=>
 some (!e))).bind fun f=>
 if f then
 some 6
 else
 some 0
def DT[Ev](t:AB)(a:Int):Option (List ri×Int):=
 (Ff t a a).bind fun c=>
 if (!c=0)then
 some ([],c)
 else
 (Il t a).bind fun d=>
 (ry (fun i0(s0:List ri)=>
 (idx d i0).bind fun b=>
 (Ao [] b.s7).bind fun e=>
 (Ao s0 [ri.mk b.sb b.uk b.tl e]).bind some) 0 (d.length:Int) []).bind fun s0=>
 some (s0,0)
def IH[Ev](t:AB)(p:j0)(b:Int)(a:Int):Option (ri×Bool):=
 if (b<0||(p.fq.ff.length:Int)<=b)then
 some (ri.mk (⟨#[]⟩:ByteArray) 0 0 [],false)
 else
 (idx p.fq.ff b).bind fun d=>
 (DT t d).bind fun c=>
 if (((!c.2=0)||a<0)||(c.1.length:Int)<=a)then
 some (ri.mk (⟨#[]⟩:ByteArray) 0 0 [],false)
 else
 (idx c.1 a).bind fun e=>
 some (e,true)
def Ks(n:Int):K1:=
 some ((-1000000)<=n&&n<=1000000)
def Jg(n:Int)(t:rg):QQ:=
 if (((t.Var<(-1)||n<=t.Var)||t.Add<(-1000000))||1000000<t.Add)then
 some 6
 else
 some 0
def OG(n:Int)(a:Test):QQ:=
 if ((!a.rt=1)&&(!a.rt=2))then
 some 1
 else
 (Jg n a.rh).bind fun b=>
 if (!b=0)then
 some b
 else
 (Jg n a.o3).bind some
def MS(n:Int)(l:List Test):QQ:=
 if (n<0||12<n)then
 some 6
 else
 if (40<(l.length:Int):Bool)then
 some 3
 else
 og (qo (ρ:=Int) (fun i0 _=>
 (idx l i0).bind fun b=>
 (OG n b).bind fun a=>
 if (!a=0)then
 some (.ret a)
 else
 some (.next ())) 0 (l.length:Int) ()) (fun _=>
 some 0) some
def Lh(p:j0)(b:Int):K1:=
 og (qo (ρ:=Bool) (fun i0 _=>
 (idx p.pq i0).bind fun a=>
 if (a.rg.Var=b:Bool)then
 some (.ret true)
 else
 some (.next ())) 0 (p.pq.length:Int) ()) (fun _=>
 some false) some
def EB[Ev](t:AB)(p:j0):QQ:=
 (DU t).bind fun c=>
 if (!c.2=0)then
 some c.2
 else
 (DV p.fq).bind fun d=>
 if (!d=0)then
 some d
 else
 (G5 t p.fq).bind fun f=>
 if (!f)then
 some 13
 else
 if (p.q0<0||12<p.q0)then
 some 6
 else
 if (10<(p.pq.length:Int)||10<(p.r8.length:Int))then
 some 3
 else
 og (qo (ρ:=Int) (fun i0 _=>
 (idx p.pq i0).bind fun a=>
 (IH t p a.sr a.ri).bind fun g=>
 (if(((!g.2)||a.rg.Var<(-1))||p.q0<=a.rg.Var)then some true else((Ks a.rg.Add).bind fun h=>
 some (!h))).bind fun i=>
 if i then
 some (.ret 6)
 else
 some (.next ())) 0 (p.pq.length:Int) ()) (fun _=>
 (MS p.q0 p.r8).bind fun b=>
 if (!b=0)then
 some b
 else
 og (qo (ρ:=Int) (fun i2 _=>
 (Lh p i2).bind fun e=>
 if (!e)then
 some (.ret 9)
 else
 some (.next ())) 0 p.q0 ()) (fun _=>
 some 0) some) some
def IJ[Ev](t:AB)(p:j0)(c:Int):QQ:=
 (idx p.pq c).bind fun a=>
 if (a.sr<0||(p.fq.ff.length:Int)<=a.sr)then
 some 6
 else
 (idx p.fq.ff a.sr).bind fun d=>
 (DT t d).bind fun e=>
 if (((((a.ri<0||(e.1.length:Int)<=a.ri)||a.rg.Var<(-1))||p.q0<=a.rg.Var)||a.rg.Add<(-1000000))||1000000<a.rg.Add)then
 some 6
 else
 og (qo (ρ:=Int) (fun i0 _=>
 (idx p.pq i0).bind fun f=>
 (if(f.sr=a.sr:Bool)then((idx p.pq i0).bind fun g=>
 some (decide (g.ri=a.ri)))else some false).bind fun b=>
 if b then
 some (.ret 5)
 else
 some (.next ())) 0 c ()) (fun _=>
 some 0) some
def HF[Ev](t:AB)(a:o4):QQ:=
 (DV a.o3.fq).bind fun b=>
 if (!b=0)then
 some b
 else
 (G5 t a.o3.fq).bind fun d=>
 if (!d)then
 some 13
 else
 if ((!a.o3.q0=a.rh.q0)||0<(a.o3.r8.length:Int))then
 some 1
 else
 if (10<(a.o3.pq.length:Int):Bool)then
 some 3
 else
 og (qo (ρ:=Int) (fun i0 _=>
 (IJ t a.o3 i0).bind fun c=>
 if (!c=0)then
 some (.ret c)
 else
 some (.next ())) 0 (a.o3.pq.length:Int) ()) (fun _=>
 some 0) some
def Hi(l:Fp)(n:Int):QQ:=
 og (qo (ρ:=Int) (fun i0 _=>
 (idx l i0).bind fun a=>
 (if(a<0:Bool)then some true else((idx l i0).bind fun b=>
 some (decide (n<=b)))).bind fun c=>
 if c then
 some (.ret 6)
 else
 (if(0<i0:Bool)then((idx l i0).bind fun d=>
 (idx l (Az (i0-1))).bind fun e=>
 some (decide (d<=e)))else some false).bind fun f=>
 if f then
 some (.ret 12)
 else
 some (.next ())) 0 (l.length:Int) ()) (fun _=>
 some 0) some
def MG(l:Fp)(n:Int):K1:=
 og (qo (ρ:=Bool) (fun i0 _=>
 (idx l i0).bind fun a=>
 if (a=n:Bool)then
 some (.ret true)
 else
 some (.next ())) 0 (l.length:Int) ()) (fun _=>
 some false) some
def MU(g:fq)(p:At):QQ:=
 (Hi p.ff (g.ff.length:Int)).bind fun a=>
 if (!a=0)then
 some a
 else
 (Hi p.gt (g.gt.length:Int)).bind fun b=>
 if (!b=0)then
 some b
 else
 og (qo (ρ:=Int) (fun i0 _=>
 (idx p.gt i0).bind fun d=>
 (idx g.gt d).bind fun c=>
 (MG p.ff c.r9).bind fun e=>
 (if(!e)then some true else((MG p.ff c.To).bind fun f=>
 some (!f))).bind fun h=>
 if h then
 some (.ret 14)
 else
 some (.next ())) 0 (p.gt.length:Int) ()) (fun _=>
 some 0) some
def Im(g:fq)(p:At):QQ:=
 (DV g).bind fun b=>
 if (!b=0)then
 some b
 else
 (MU g p).bind some
def KT(l:Fp)(n:Int):QQ:=
 og (qo (ρ:=Int) (fun i0 _=>
 (idx l i0).bind fun a=>
 if (a=n:Bool)then
 some (.ret i0)
 else
 some (.next ())) 0 (l.length:Int) ()) (fun _=>
 some (-1)) some
def Iu(g:fq)(p:At):Option (fq×hT×Int):=
 (Im g p).bind fun b=>
 if (!b=0)then
 some (fq.mk [] [],hT.mk [] [],b)
 else
 (ry (fun i0(s0:fq)=>
 (idx p.ff i0).bind fun c=>
 (idx g.ff c).bind fun d=>
 (Ao s0.ff [d]).bind fun e=>
 some (fq.mk e s0.gt)) 0 (p.ff.length:Int) (fq.mk [] [])).bind fun s0=>
 (ry (fun i2(s2:fq)=>
 (idx p.gt i2).bind fun f=>
 (idx g.gt f).bind fun a=>
 (KT p.ff a.r9).bind fun h=>
 (KT p.ff a.To).bind fun i=>
 (Ao s2.gt [Bh.mk a.rz h i]).bind fun j=>
 some (fq.mk s2.ff j)) 0 (p.gt.length:Int) s0).bind fun s2=>
 (Ao [] p.ff).bind fun k=>
 (Ao [] p.gt).bind fun l=>
 some (s2,hT.mk k l,0)
def G4(a:fq)(b:fq)(m:hT):QQ:=
 (DV a).bind fun e=>
 if (!e=0)then
 some e
 else
 (DV b).bind fun f=>
 if (!f=0)then
 some f
 else
 if ((!(m.ff.length:Int)=(a.ff.length:Int))||(!(m.gt.length:Int)=(a.gt.length:Int)))then
 some 20
 else
 og (qo (ρ:=Int) (fun i0 _=>
 (idx m.ff i0).bind fun l=>
 (if(l<0:Bool)then some true else((idx m.ff i0).bind fun n=>
 some (decide ((b.ff.length:Int)<=n)))).bind fun o=>
 if o then
 some (.ret 6)
 else
 (idx m.ff i0).bind fun p=>
 (idx b.ff p).bind fun q=>
 (idx a.ff i0).bind fun r=>
 if (!q=r)then
 some (.ret 13)
 else
 some (.next ())) 0 (a.ff.length:Int) ()) (fun _=>
 og (qo (ρ:=Int) (fun i2 _=>
 (idx m.gt i2).bind fun s=>
 (if(s<0:Bool)then some true else((idx m.gt i2).bind fun t=>
 some (decide ((b.gt.length:Int)<=t)))).bind fun g=>
 if g then
 some (.ret 6)
 else
 (idx a.gt i2).bind fun c=>
 (idx m.gt i2).bind fun h=>
 (idx b.gt h).bind fun d=>
 if (!c.rz=d.rz)then
 some (.ret 13)
 else
 (idx m.ff c.r9).bind fun i=>
 (if(!i=d.r9)then some true else((idx m.ff c.To).bind fun j=>
 some (!j=d.To))).bind fun k=>
 if k then
 some (.ret 11)
 else
 some (.next ())) 0 (a.gt.length:Int) ()) (fun _=>
 some 0) some) some
def NR(a:o4):QQ:=
 (Im a.rh.fq a.sA).bind fun b=>
 if (!b=0)then
 some b
 else
 (Iu a.rh.fq a.sA).bind fun c=>
 (G4 c.1 a.o3.fq a.sn).bind some
def Ey(l:Fp):K1:=
 og (qo (ρ:=Bool) (fun i0 _=>
 og (qo (ρ:=Bool) (fun i2 _=>
 (idx l i0).bind fun a=>
 (idx l i2).bind fun b=>
 if (a=b:Bool)then
 some (.ret false)
 else
 some (.next ())) 0 i0 ()) (fun _=>
 some (.next ())) (fun v2=>some (.ret v2))) 0 (l.length:Int) ()) (fun _=>
 some true) some
def OH(l:Fp)(n:Int):K1:=
 og (qo (ρ:=Bool) (fun i0 _=>
 (idx l i0).bind fun a=>
 if (a=n:Bool)then
 some (.ret true)
 else
 some (.next ())) 0 (l.length:Int) ()) (fun _=>
 some false) some
def LH(n:Int)(l:Fp):Option Fp:=
 (ry (fun i0(s0:Fp)=>
 (OH l i0).bind fun a=>
 if (!a)then
 (Ao s0 [i0]).bind some
 else
 some s0) 0 n []).bind some
def Kt(a:o4):Option (Fp×Fp):=
 (LH (a.o3.fq.ff.length:Int) a.sn.ff).bind fun b=>
 (LH (a.o3.fq.gt.length:Int) a.sn.gt).bind fun c=>
 some (b,c)
def DK[Ev]:Nat->AB->Int->Int->K1
 |0,_,_,_=>none|n+1,t,a,b=>
  (if(a=b:Bool)then some true else((if(0<=a:Bool)then((idx t.ff a).bind fun c=>
  (DK n t c.sU b).bind some)else some false).bind some)).bind some
def E4[Ev](t:AB)(a:Int)(b:Int):K1:=Ht fun n=>DK n t a b
def Gg[Ev](t:AB)(a:Int)(b:Int)(c:Int):K1:=
 (Ff t b c).bind fun d=>
 (if(!d=0)then some true else((EZ a 0 (Az ((t.gt.length:Int)-1))).bind fun e=>
 some (!e))).bind fun f=>
 if f then
 some false
 else
 (idx t.gt a).bind fun g=>
 (E4 t b g.r9).bind fun h=>
 (if h then((idx t.gt a).bind fun i=>
 (E4 t c i.To).bind some)else some false).bind some
def GD[Ev](t:AB)(g:fq)(a:Fp)(b:Fp):K1:=
 og (qo (ρ:=Bool) (fun i0 _=>
 (idx a i0).bind fun d=>
 (idx g.ff d).bind fun e=>
 (idx t.ff e).bind fun f=>
 if f.tf then
 some (.ret false)
 else
 some (.next ())) 0 (a.length:Int) ()) (fun _=>
 og (qo (ρ:=Bool) (fun i2 _=>
 (idx b i2).bind fun h=>
 (idx g.gt h).bind fun c=>
 (idx g.ff c.r9).bind fun i=>
 (idx g.ff c.To).bind fun j=>
 (Gg t c.rz i j).bind fun k=>
 if (!k)then
 some (.ret false)
 else
 some (.next ())) 0 (b.length:Int) ()) (fun _=>
 some true) some) some
def Hw(c:hV):K1:=
 some (((Az ((Az ((Az ((c.Map.ff.length:Int)+(c.Map.gt.length:Int)))+(c.j0.fq.ff.length:Int)))+(c.j0.fq.gt.length:Int)))=0&&(Az ((c.j0.pq.length:Int)+(c.j0.r8.length:Int)))=0)&&c.j0.q0=0)
def MW(c:hV):K1:=
 if (c.rt=1:Bool)then
 (if((c.rq.length:Int)=0:Bool)then((Hw c).bind some)else some false).bind some
 else
 if (c.rt=2:Bool)then
 (if((c.rq.length:Int)=1:Bool)then((Hw c).bind some)else some false).bind some
 else
 (if(c.rt=3:Bool)then
 some (decide (c.rt=3))
 else
 some (decide (c.rt=4))).bind fun w1=>
 if w1 then
 (if(0<(c.rq.length:Int):Bool)then((Hw c).bind some)else some false).bind some
 else
 if (c.rt=5:Bool)then
 some (decide ((c.rq.length:Int)=1))
 else
 some false
def Cl[Ev]:Nat->hV->K1
 |0,_=>none|n+1,c=>
  (MW c).bind fun d=>
  if (!d)then
  some false
  else
  og (qo (ρ:=Bool) (fun i0 _=>
  (idx c.rq i0).bind fun a=>
  (Cl n a).bind fun b=>
  if (!b)then
  some (.ret false)
  else
  some (.next ())) 0 (c.rq.length:Int) ()) (fun _=>
  some true) some
def II[Ev](c:hV):K1:=Ht fun n=>Cl n c
def C1[Ev]:Nat->hV->Option (Int×Int)
 |0,_=>none|n+1,c=>
  (ry (fun i0(s0:Int×Int)=>
  (idx c.rq i0).bind fun b=>
  (C1 n b).bind fun a=>
  some (Az (s0.1+a.1),max s0.2 a.2)) 0 (c.rq.length:Int) (1,0)).bind fun s0=>
  (if(c.rt=5:Bool)then
  some (Az (s0.2+1))
  else
  some s0.2).bind fun w1=>
  some (s0.1,w1)
def Iv[Ev](c:hV):Option (Int×Int):=Ht fun n=>C1 n c
def G9[Ev](c:hV):QQ:=
 (II c).bind fun b=>
 if (!b)then
 some 1
 else
 (Iv c).bind fun a=>
 if (12<a.1||3<a.2)then
 some 3
 else
 some 0
def Lk(p:j0)(b:Int):K1:=
 og (qo (ρ:=Bool) (fun i0 _=>
 (idx p.pq i0).bind fun a=>
 if (a.rg.Var=b:Bool)then
 some (.ret true)
 else
 some (.next ())) 0 (p.pq.length:Int) ()) (fun _=>
 some false) some
def HD[Ev](t:AB)(a:Int)(q:j0):QQ:=
 if (q.q0<a:Bool)then
 some 20
 else
 (EB t q).bind fun b=>
 if (!b=9)then
 some b
 else
 og (qo (ρ:=Int) (fun i0 _=>
 (Lk q i0).bind fun c=>
 if (!c)then
 some (.ret b)
 else
 some (.next ())) a q.q0 ()) (fun _=>
 some 0) some
def Jj(a:fq)(b:fq)(m:hT):K1:=
 (G4 a b m).bind fun c=>
 (if(c=0:Bool)then((Ey m.ff).bind some)else some false).bind fun e=>
 (if e then((Ey m.gt).bind some)else some false).bind some
def DW[Ev]:Nat->AB->j0->hV->QQ
 |0,_,_,_=>none|n+1,t,p,c=>
  if (c.rt=5:Bool)then
  (HD t p.q0 c.j0).bind fun d=>
  if (!d=0)then
  some d
  else
  (G4 p.fq c.j0.fq c.Map).bind fun e=>
  if (!e=0)then
  some e
  else
  (Jj p.fq c.j0.fq c.Map).bind fun f=>
  if (!f)then
  some 1
  else
  og (qo (ρ:=Int) (fun i0 _=>
  (idx c.rq i0).bind fun b=>
  (DW n t c.j0 b).bind fun a=>
  if (!a=0)then
  some (.ret a)
  else
  some (.next ())) 0 (c.rq.length:Int) ()) (fun _=>
  some 0) some
  else
  og (qo (ρ:=Int) (fun i0 _=>
  (idx c.rq i0).bind fun b=>
  (DW n t p b).bind fun a=>
  if (!a=0)then
  some (.ret a)
  else
  some (.next ())) 0 (c.rq.length:Int) ()) (fun _=>
  some 0) some
def LG[Ev](t:AB)(p:j0)(c:hV):QQ:=Ht fun n=>DW n t p c
def HC[Ev](t:AB)(p:j0)(c:hV):QQ:=
 (EB t p).bind fun a=>
 if (!a=0)then
 some a
 else
 (G9 c).bind fun b=>
 if (!b=0)then
 some b
 else
 (LG t p c).bind some
def HE[Ev](t:AB)(a:o4):QQ:=
 (DU t).bind fun b=>
 if (!b.2=0)then
 some b.2
 else
 (DD a.sb).bind fun g=>
 if (!g)then
 some 2
 else
 (EB t a.rh).bind fun c=>
 if (!c=0)then
 some c
 else
 (HF t a).bind fun d=>
 if (!d=0)then
 some d
 else
 (NR a).bind fun e=>
 if (!e=0)then
 some e
 else
 (Ey a.sn.ff).bind fun h=>
 (if(!h)then some true else((Ey a.sn.gt).bind fun i=>
 some (!i))).bind fun j=>
 if j then
 some 11
 else
 (Kt a).bind fun f=>
 (GD t a.o3.fq f.1 f.2).bind fun k=>
 if (!k)then
 some 13
 else
 (HC t a.rh a.hV).bind some
def IE[Ev](t:AB)(a:Int)(i:Fp):QQ:=
 if ((t.ff.length:Int)<=a:Bool)then
 some 6
 else
 (idx t.ff a).bind fun c=>
 if c.tf then
 some 13
 else
 (DT t a).bind fun b=>
 if (!(i.length:Int)=(b.1.length:Int))then
 some 20
 else
 og (qo (ρ:=Int) (fun i0 _=>
 (idx i i0).bind fun d=>
 (idx b.1 i0).bind fun e=>
 (if(d<e.uk:Bool)then some true else((idx i i0).bind fun f=>
 (idx b.1 i0).bind fun g=>
 some (decide (g.tl<f)))).bind fun h=>
 if h then
 some (.ret 6)
 else
 some (.next ())) 0 (b.1.length:Int) ()) (fun _=>
 some 0) some
def Eo[Ev](t:AB)(a:AF):Option (Int×Int):=
 (DU t).bind fun c=>
 if (!c.2=0)then
 some ((-1),c.2)
 else
 (DV a.fq).bind fun d=>
 if (!d=0)then
 some ((-1),d)
 else
 if (!(a.ne.length:Int)=(a.fq.ff.length:Int))then
 some ((-1),20)
 else
 og (qo (ρ:=(Int×Int)) (fun i0 _=>
 (idx a.fq.ff i0).bind fun f=>
 (idx a.ne i0).bind fun g=>
 (IE t f g).bind fun e=>
 if (!e=0)then
 some (.ret (i0,e))
 else
 some (.next ())) 0 (a.fq.ff.length:Int) ()) (fun _=>
 og (qo (ρ:=(Int×Int)) (fun i2 _=>
 (idx a.fq.gt i2).bind fun b=>
 if ((t.gt.length:Int)<=b.rz:Bool)then
 some (.ret (i2,6))
 else
 (idx a.fq.ff b.r9).bind fun h=>
 (idx a.fq.ff b.To).bind fun i=>
 (Gg t b.rz h i).bind fun j=>
 if (!j)then
 some (.ret (i2,13))
 else
 some (.next ())) 0 (a.fq.gt.length:Int) ()) (fun _=>
 some ((-1),0)) some) some
def Fk[Ev](t:AB)(c:o4)(d:AF):QQ:=
 (HE t c).bind fun a=>
 if (!a=0)then
 some a
 else
 (Eo t d).bind fun b=>
 some b.2
def Er[Ev](t:AB)(p:fq)(g:fq):QQ:=
 (DU t).bind fun a=>
 if (!a.2=0)then
 some a.2
 else
 (DV p).bind fun b=>
 if (!b=0)then
 some b
 else
 (DV g).bind fun c=>
 if (!c=0)then
 some c
 else
 (G5 t p).bind fun d=>
 (if(!d)then some true else((G5 t g).bind fun e=>
 some (!e))).bind fun f=>
 if f then
 some 13
 else
 some 0
def IF(l:Fp):K1:=
 og (qo (ρ:=Bool) (fun i0 _=>
 og (qo (ρ:=Bool) (fun i2 _=>
 (idx l i0).bind fun a=>
 (idx l i2).bind fun b=>
 if (a=b:Bool)then
 some (.ret false)
 else
 some (.next ())) 0 i0 ()) (fun _=>
 some (.next ())) (fun v2=>some (.ret v2))) 0 (l.length:Int) ()) (fun _=>
 some true) some
def G6[Ev](t:AB)(p:fq)(g:fq)(m:hT)(a:Bool):QQ:=
 if ((!(m.ff.length:Int)=(p.ff.length:Int))||(!(m.gt.length:Int)=(p.gt.length:Int)))then
 some 20
 else
 og (qo (ρ:=Int) (fun i0 _=>
 (idx m.ff i0).bind fun n=>
 (if(n<0:Bool)then some true else((idx m.ff i0).bind fun o=>
 some (decide ((g.ff.length:Int)<=o)))).bind fun q=>
 if q then
 some (.ret 6)
 else
 (idx m.ff i0).bind fun r=>
 (idx g.ff r).bind fun s=>
 (idx p.ff i0).bind fun u=>
 (E4 t s u).bind fun v=>
 if (!v)then
 some (.ret 13)
 else
 some (.next ())) 0 (m.ff.length:Int) ()) (fun _=>
 og (qo (ρ:=Int) (fun i2 _=>
 (idx m.gt i2).bind fun w=>
 (if(w<0:Bool)then some true else((idx m.gt i2).bind fun x=>
 some (decide ((g.gt.length:Int)<=x)))).bind fun y=>
 if y then
 some (.ret 6)
 else
 (idx p.gt i2).bind fun c=>
 (idx m.gt i2).bind fun d=>
 (idx g.gt d).bind fun b=>
 if (!c.rz=b.rz)then
 some (.ret 13)
 else
 (idx m.ff c.r9).bind fun e=>
 (if(!e=b.r9)then some true else((idx m.ff c.To).bind fun f=>
 some (!f=b.To))).bind fun h=>
 if h then
 some (.ret 11)
 else
 some (.next ())) 0 (m.gt.length:Int) ()) (fun _=>
 (if a then((IF m.ff).bind fun i=>
 (if(!i)then some true else((IF m.gt).bind fun j=>
 some (!j))).bind some)else some false).bind fun l=>
 if l then
 some 5
 else
 some 0) some) some
def Ep[Ev](t:AB)(p:fq)(g:fq)(m:hT)(a:Bool):QQ:=
 (Er t p g).bind fun b=>
 if (!b=0)then
 some b
 else
 (G6 t p g m a).bind some
def Fg[Ev](t:AB)(p:j0)(c:AF):QQ:=
 (EB t p).bind fun a=>
 if (!a=0)then
 some a
 else
 (Eo t c).bind fun b=>
 some b.2
def Io(a:rg)(c:Fp):QQ:=
 if (a.Var<0:Bool)then
 some a.Add
 else
 (idx c a.Var).bind fun b=>
 some (Az (b+a.Add))
def KQ(t:rg)(b:Fp):Option (Int×Bool):=
 if (t.Var=(-1):Bool)then
 some (t.Add,true)
 else
 if (t.Var<0||(b.length:Int)<=t.Var)then
 some (0,false)
 else
 (idx b t.Var).bind fun a=>
 some (Az (a+t.Add),true)
def MR(a:Test)(d:Fp):K1:=
 (KQ a.rh d).bind fun b=>
 (KQ a.o3 d).bind fun c=>
 if ((!b.2)||(!c.2))then
 some false
 else
 some (a.rt=1&&b.1<=c.1||(a.rt=2&&b.1=c.1))
def Jo(p:j0)(l:AF)(m:hT):Option (Fp×Int):=
 (Kf p.q0 0).bind fun d=>
 (Kf p.q0 false).bind fun e=>
 og (qo (ρ:=(Fp×Int)) (fun i0(s0:Fp×a5)=>
 (idx p.pq i0).bind fun a=>
 (idx m.ff a.sr).bind fun f=>
 (idx l.ne f).bind fun g=>
 (idx g a.ri).bind fun b=>
 (if(0<=a.rg.Var:Bool)then((idx s0.2 a.rg.Var).bind fun h=>
 some (!h))else some false).bind fun i=>
 if i then
 (idx s0.2 a.rg.Var).bind fun n=>
 (idx s0.1 a.rg.Var).bind fun o=>
 (Io a.rg (Bg s0.1 a.rg.Var (Az (b-a.rg.Add)))).bind fun c=>
 if (!c=b)then
 some (.ret ([],11))
 else
 some (.next (Bg s0.1 a.rg.Var (Az (b-a.rg.Add)),Bg s0.2 a.rg.Var true))
 else
 (Io a.rg s0.1).bind fun c=>
 if (!c=b)then
 some (.ret ([],11))
 else
 some (.next (s0.1,s0.2))) 0 (p.pq.length:Int) (d,e)) (fun s0=>
 og (qo (ρ:=(Fp×Int)) (fun i2 _=>
 (idx p.r8 i2).bind fun j=>
 (MR j s0.1).bind fun k=>
 if (!k)then
 some (.ret ([],16))
 else
 some (.next ())) 0 (p.r8.length:Int) ()) (fun _=>
 some (s0.1,0)) some) some
def G7[Ev](t:AB)(p:j0)(a:AF)(m:hT):Option (Fp×Int):=
 (Fg t p a).bind fun b=>
 if (!b=0)then
 some ([],b)
 else
 (Ep t p.fq a.fq m false).bind fun c=>
 if (!c=0)then
 some ([],c)
 else
 (Jo p a m).bind fun d=>
 some (d.1,d.2)
def KA(a:Fp)(b:Fp):K1:=
 if (!(a.length:Int)=(b.length:Int))then
 some false
 else
 og (qo (ρ:=Bool) (fun i0 _=>
 (idx a i0).bind fun c=>
 (idx b i0).bind fun d=>
 if (!c=d)then
 some (.ret false)
 else
 some (.next ())) 0 (a.length:Int) ()) (fun _=>
 some true) some
def Jh(g:fq):Option fq:=
 (Ao [] g.ff).bind fun b=>
 (Ao [] g.gt).bind fun a=>
 some (fq.mk b a)
def Ez[Ev](t:AB)(p:fq)(g:fq)(m:hT):Option (fq×Int):=
 (Ep t p g m false).bind fun a=>
 if (!a=0)then
 some (fq.mk [] [],a)
 else
 (Jh p).bind fun b=>
 og (GO (ρ:=(fq×Int)) (fun(s0:fq×Int)=>
 if (s0.2<(s0.1.ff.length:Int):Bool)then
 (idx m.ff s0.2).bind fun c=>
 (idx g.ff c).bind fun d=>
 (idx s0.1.ff s0.2).bind fun e=>
 some (.next (fq.mk (Bg s0.1.ff s0.2 d) s0.1.gt,Az (s0.2+1)))
 else
 some (.brk (s0.1,s0.2))) (b,0)) (fun s0=>
 some (s0.1,0)) some
def MV(l:fq)(g:fq)(b:At)(m:hT):QQ:=
 (G4 l g m).bind fun a=>
 if (!a=0)then
 some a
 else
 (Im l b).bind some
def FZ(l:Fp)(n:Int):K1:=
 og (qo (ρ:=Bool) (fun i0 _=>
 (idx l i0).bind fun a=>
 if (a=n:Bool)then
 some (.ret true)
 else
 some (.next ())) 0 (l.length:Int) ()) (fun _=>
 some false) some
def Gh(a:Fp)(b:Fp):Option (List I2):=
 (ry (fun i0(s0:List I2)=>
 (ry (fun i2(s2:List I2)=>
 (idx a i0).bind fun c=>
 (idx a i2).bind fun d=>
 (if(c=d:Bool)then((FZ b i0).bind fun e=>
 (if(!e)then some true else((FZ b i2).bind fun f=>
 some (!f))).bind some)else some false).bind fun h=>
 if h then
 (Ao s2 [I2.mk i0 i2]).bind some
 else
 some s2) (Az (i0+1)) (a.length:Int) s0).bind some) 0 (a.length:Int) []).bind some
def Jl(a:Fp)(b:Fp):Option Fp:=
 (ry (fun i0(s0:Fp)=>
 (FZ b i0).bind fun c=>
 if (!c)then
 (idx a i0).bind fun d=>
 (Ao s0 [d]).bind some
 else
 some s0) 0 (a.length:Int) []).bind some
def KB(l:fq)(g:fq)(b:At)(m:hT):Option Fp:=
 (Jl m.ff b.ff).bind fun a=>
 (ry (fun i0(s0:Fp)=>
 (FZ m.gt i0).bind fun c=>
 (if(!c)then((idx g.gt i0).bind fun d=>
 (FZ a d.r9).bind fun e=>
 (if e then some true else((idx g.gt i0).bind fun f=>
 (FZ a f.To).bind some)).bind some)else some false).bind fun j=>
 if j then
 (Ao s0 [i0]).bind some
 else
 some s0) 0 (g.gt.length:Int) []).bind some
def LF(n:Int)(l:Fp):Option Fp:=
 (ry (fun i0(s0:Fp)=>
 (FZ l i0).bind fun a=>
 if (!a)then
 (Ao s0 [i0]).bind some
 else
 some s0) 0 n []).bind some
def PK(l:fq)(g:fq)(a:At)(m:hT):Option (At×Int):=
 (MV l g a m).bind fun b=>
 if (!b=0)then
 some (At.mk [] [],b)
 else
 (Gh m.ff a.ff).bind fun c=>
 (Gh m.gt a.gt).bind fun d=>
 if (0<(Az ((c.length:Int)+(d.length:Int))):Bool)then
 some (At.mk [] [],15)
 else
 (KB l g a m).bind fun e=>
 if (0<(e.length:Int):Bool)then
 some (At.mk [] [],14)
 else
 (Jl m.ff a.ff).bind fun f=>
 (LF (g.ff.length:Int) f).bind fun h=>
 (Jl m.gt a.gt).bind fun i=>
 (LF (g.gt.length:Int) i).bind fun j=>
 some (At.mk h j,0)
def Jp(n:Int)(b:Fp)(m:Fp):Option Fp:=
 (ry (fun i0(s0:Fp)=>
 (Ao s0 [(-1)]).bind some) 0 n []).bind fun s0=>
 (ry (fun i2(s2:Fp)=>
 (idx b i2).bind fun a=>
 (idx m i2).bind fun d=>
 (idx s2 a).bind fun e=>
 some (Bg s2 a d)) 0 (b.length:Int) s0).bind some
def GR(c:Aq)(a:Fp):K1:=
 og (qo (ρ:=Bool) (fun i0 _=>
 (idx c.p.gt i0).bind fun b=>
 if ((a.length:Int)<=b.r9||(a.length:Int)<=b.To)then
 some (.next ())
 else
 (ry (fun i2(s2:Bool)=>
 (idx c.g.gt i2).bind fun d=>
 (if s2 then some true else((if(b.rz=d.rz:Bool)then((idx a b.r9).bind fun e=>
 some (decide (d.r9=e)))else some false).bind fun f=>
 (if f then((idx a b.To).bind fun h=>
 some (decide (d.To=h)))else some false).bind some)).bind some) 0 (c.g.gt.length:Int) false).bind fun s2=>
 if (!s2)then
 some (.ret false)
 else
 some (.next ())) 0 (c.p.gt.length:Int) ()) (fun _=>
 some true) some
def CW[Ev](b:Aq)(l:Fp)(n:Int):K1:=
 og (GO (ρ:=Bool) (fun(s0:Int)=>
 if (s0<(l.length:Int)&&b.kq)then
 (idx l s0).bind fun a=>
 if (a=n:Bool)then
 some (.ret true)
 else
 some (.next (Az (s0+1)))
 else
 some (.brk s0)) 0) (fun s0=>
 some false) some
def Bk[Ev]:Nat->Aq->Fp->Fp->Option Aq
 |0,_,_,_=>none|n+1,a,b,l=>
  if (a.sN<(a.t8.length:Int):Bool)then
  some a
  else
  if ((l.length:Int)=(a.p.gt.length:Int):Bool)then
  (Ao [] b).bind fun o=>
  (Ao [] l).bind fun q=>
  (Ao a.t8 [hT.mk o q]).bind fun r=>
  some (Aq.mk a.t a.p a.g a.pr a.kq a.sN r)
  else
  (idx a.p.gt (l.length:Int)).bind fun c=>
  og (GO (ρ:=Aq) (fun(s0:Aq×Int)=>
  if (s0.2<(s0.1.g.gt.length:Int):Bool)then
  (idx s0.1.g.gt s0.2).bind fun d=>
  (idx s0.1.pr.gt (l.length:Int)).bind fun s=>
  (if(0<=s:Bool)then((idx s0.1.pr.gt (l.length:Int)).bind fun u=>
  some (!u=s0.2))else some false).bind fun v=>
  (if v then some true else((CW s0.1 l s0.2).bind some)).bind fun x=>
  (if(x||(!c.rz=d.rz))then some true else((idx b c.r9).bind fun e=>
  some (!d.r9=e))).bind fun f=>
  (if f then some true else((idx b c.To).bind fun h=>
  some (!d.To=h))).bind fun i=>
  if i then
  some (.next (s0.1,Az (s0.2+1)))
  else
  (Ao [] l).bind fun j=>
  (Ao j [s0.2]).bind fun k=>
  (Bk n s0.1 b k).bind fun m=>
  some (.next (m,Az (s0.2+1)))
  else
  some (.brk (s0.1,s0.2))) (a,0)) (fun s0=>
  some s0.1) some
def EJ[Ev](b:Aq)(a:Fp)(l:Fp):Option Aq:=Ht fun n=>Bk n b a l
def Bm[Ev]:Nat->Aq->Fp->Option Aq
 |0,_,_=>none|n+1,a,l=>
  (if(a.sN<(a.t8.length:Int):Bool)then some true else((GR a l).bind fun d=>
  some (!d))).bind fun e=>
  if e then
  some a
  else
  if ((l.length:Int)=(a.p.ff.length:Int):Bool)then
  (EJ a l []).bind some
  else
  og (GO (ρ:=Aq) (fun(s0:Aq×Int)=>
  if (s0.2<(s0.1.g.ff.length:Int):Bool)then
  (idx s0.1.pr.ff (l.length:Int)).bind fun h=>
  (if(0<=h:Bool)then((idx s0.1.pr.ff (l.length:Int)).bind fun i=>
  some (!i=s0.2))else some false).bind fun j=>
  (if j then some true else((CW s0.1 l s0.2).bind some)).bind fun m=>
  (if m then some true else((idx s0.1.g.ff s0.2).bind fun o=>
  (idx s0.1.p.ff (l.length:Int)).bind fun q=>
  (E4 s0.1.t o q).bind fun r=>
  some (!r))).bind fun s=>
  if s then
  some (.next (s0.1,Az (s0.2+1)))
  else
  (Ao [] l).bind fun u=>
  (Ao u [s0.2]).bind fun b=>
  (Bm n s0.1 b).bind fun c=>
  some (.next (c,Az (s0.2+1)))
  else
  some (.brk (s0.1,s0.2))) (a,0)) (fun s0=>
  some s0.1) some
def EK[Ev](a:Aq)(l:Fp):Option Aq:=Ht fun n=>Bm n a l
def Hv[Ev](t:AB)(p:fq)(g:fq)(b:hT)(a:Bool)(c:Int):Option (List hT):=
 (EK (Aq.mk t p g b a c []) []).bind fun d=>
 some d.t8
def Jn(l:Fp)(a:Int)(n:Int):QQ:=
 if (!(l.length:Int)=a)then
 some 20
 else
 og (qo (ρ:=Int) (fun i0 _=>
 (idx l i0).bind fun b=>
 (if(b<(-1):Bool)then some true else((idx l i0).bind fun c=>
 some (decide (n<=c)))).bind fun d=>
 if d then
 some (.ret 6)
 else
 some (.next ())) 0 (l.length:Int) ()) (fun _=>
 some 0) some
def GB[Ev](t:AB)(p:fq)(g:fq)(a:hT)(b:Bool):Option (List hT×Int):=
 (Er t p g).bind fun c=>
 if (!c=0)then
 some ([],c)
 else
 if ((!(a.ff.length:Int)=(p.ff.length:Int))||(!(a.gt.length:Int)=(p.gt.length:Int)))then
 some ([],20)
 else
 (Jn a.ff (p.ff.length:Int) (g.ff.length:Int)).bind fun d=>
 if (!d=0)then
 some ([],d)
 else
 (Jn a.gt (p.gt.length:Int) (g.gt.length:Int)).bind fun e=>
 if (!e=0)then
 some ([],e)
 else
 (Hv t p g a b 5000).bind fun f=>
 if (5000<(f.length:Int):Bool)then
 some ([],3)
 else
 some (f,0)
def Ek(a:rg)(c:Fp):Option (Int×Int):=
 if (a.Var<(-1)||(c.length:Int)<=a.Var)then
 some (0,6)
 else
 (Io a c).bind fun b=>
 some (b,0)
def Lj(q:j0)(p:AF)(m:hT)(c:Fp):Option (Fp×Bool):=
 (Ao [] c).bind fun h=>
 (Kf q.q0 false).bind fun i=>
 (ry (fun i0(s0:Fp×a5)=>
 (idx s0.2 i0).bind fun t=>
 if ((c.length:Int)<=i0:Bool)then
 (Ao s0.1 [0]).bind fun j=>
 some (j,Bg s0.2 i0 (decide (i0<(c.length:Int))))
 else
 some (s0.1,Bg s0.2 i0 (decide (i0<(c.length:Int))))) 0 q.q0 (h,i)).bind fun s0=>
 og (qo (ρ:=(Fp×Bool)) (fun i2(s2:Fp×a5)=>
 (idx q.pq i2).bind fun a=>
 (idx m.ff a.sr).bind fun k=>
 (idx p.ne k).bind fun l=>
 (idx l a.ri).bind fun e=>
 (if(0<=a.rg.Var:Bool)then((idx s2.2 a.rg.Var).bind fun n=>
 some (!n))else some false).bind fun o=>
 if o then
 (idx s2.1 a.rg.Var).bind fun r=>
 (idx s2.2 a.rg.Var).bind fun s=>
 (Ek a.rg (Bg s2.1 a.rg.Var (Az (e-a.rg.Add)))).bind fun d=>
 if (!d.1=e)then
 some (.ret ([],false))
 else
 some (.next (Bg s2.1 a.rg.Var (Az (e-a.rg.Add)),Bg s2.2 a.rg.Var true))
 else
 (Ek a.rg s2.1).bind fun d=>
 if (!d.1=e)then
 some (.ret ([],false))
 else
 some (.next (s2.1,s2.2))) 0 (q.pq.length:Int) (s0.1,s0.2)) (fun s2=>
 og (qo (ρ:=(Fp×Bool)) (fun i4 _=>
 (idx q.r8 i4).bind fun b=>
 (Ek b.rh s2.1).bind fun f=>
 (Ek b.o3 s2.1).bind fun g=>
 if (b.rt=1&&g.1<f.1||(b.rt=2&&(!f.1=g.1)))then
 some (.ret ([],false))
 else
 some (.next ())) 0 (q.r8.length:Int) ()) (fun _=>
 some (s2.1,true)) some) some
def D4[Ev](t:AB)(c:hV)(e:AF)(m:AM)(a:Bool):Option (List AM×Int):=
 (Jp (c.j0.fq.ff.length:Int) c.Map.ff m.hT.ff).bind fun f=>
 (Jp (c.j0.fq.gt.length:Int) c.Map.gt m.hT.gt).bind fun g=>
 (GB t c.j0.fq e.fq (hT.mk f g) a).bind fun b=>
 if (!b.2=0)then
 some ([],b.2)
 else
 (ry (fun i0(s0:List AM)=>
 (idx b.1 i0).bind fun h=>
 (Lj c.j0 e h m.q0).bind fun d=>
 if d.2 then
 (idx b.1 i0).bind fun i=>
 (Ao s0 [AM.mk i d.1]).bind some
 else
 some s0) 0 (b.1.length:Int) []).bind fun s0=>
 some (s0,0)
def Cb[Ev]:Nat->AB->hV->AF->AM->Bool->Option (BE×Int)
 |0,_,_,_,_,_=>none|n+1,t,c,f,m,a=>
  if (c.rt=2:Bool)then
  (idx c.rq 0).bind fun l=>
  (Cb n t l f m a).bind fun g=>
  if (g.2=0:Bool)then
  some (CS,10)
  else
  if (g.2=10:Bool)then
  some (CS,0)
  else
  some (CS,g.2)
  else
  if (c.rt=3:Bool)then
  og (qo (ρ:=(BE×Int)) (fun i1(s1:BE×BE)=>
  (idx c.rq i1).bind fun o=>
  (Cb n t o f m a).bind fun h=>
  if (!h.2=0)then
  some (.ret (CS,h.2))
  else
  (Ao s1.2.rq [h.1]).bind fun p=>
  some (.next (s1.1,BE.mk s1.2.ta s1.2.ru p))) 0 (c.rq.length:Int) (CS,CS)) (fun s1=>
  some (s1.2,0)) some
  else
  if (c.rt=4:Bool)then
  og (qo (ρ:=(BE×Int)) (fun i3(s3:BE)=>
  (idx c.rq i3).bind fun q=>
  (Cb n t q f m a).bind fun d=>
  if (!d.2=10)then
  some (.ret (BE.mk i3 (AM.mk (hT.mk [] []) []) [d.1],d.2))
  else
  some (.next s3)) 0 (c.rq.length:Int) CS) (fun s3=>
  some (CS,10)) some
  else
  if (c.rt=5:Bool)then
  (D4 t c f m a).bind fun b=>
  if (!b.2=0)then
  some (CS,b.2)
  else
  og (qo (ρ:=(BE×Int)) (fun i5(s5:BE)=>
  (idx c.rq 0).bind fun i=>
  (idx b.1 i5).bind fun j=>
  (Cb n t i f j a).bind fun e=>
  if (!e.2=10)then
  (idx b.1 i5).bind fun k=>
  some (.ret (BE.mk 0 k [e.1],e.2))
  else
  some (.next s5)) 0 (b.1.length:Int) CS) (fun s5=>
  some (CS,10)) some
  else
  some (CS,0)
def KU[Ev](t:AB)(c:hV)(b:AF)(m:AM)(a:Bool):Option (BE×Int):=Ht fun n=>Cb n t c b m a
def G8[Ev](t:AB)(c:hV)(d:AF)(m:AM)(a:Bool):Option (Bool×Int):=
 (KU t c d m a).bind fun b=>
 if (b.2=10:Bool)then
 some (false,0)
 else
 some (decide (b.2=0),b.2)
def E0[Ev](t:AB)(a:o4)(b:AF)(m:AM):Option (At×Int):=
 (Ep t a.rh.fq b.fq m.hT a.r7).bind fun g=>
 if (!g=0)then
 some (At.mk [] [],1)
 else
 (G7 t a.rh b m.hT).bind fun c=>
 if (!c.2=0)then
 some (At.mk [] [],c.2)
 else
 (KA c.1 m.q0).bind fun h=>
 if (!h)then
 some (At.mk [] [],11)
 else
 (Ez t a.rh.fq b.fq m.hT).bind fun d=>
 if (!d.2=0)then
 some (At.mk [] [],d.2)
 else
 (PK d.1 b.fq a.sA m.hT).bind fun e=>
 if (!e.2=0)then
 some (At.mk [] [],e.2)
 else
 (G8 t a.hV b m a.r7).bind fun f=>
 (if(f.2=0&&(!f.1))then
 some 16
 else
 some f.2).bind fun w1=>
 some (e.1,w1)
def FH[Ev](t:AB)(b:AF)(p:At):Option (AF×Int):=
 (Eo t b).bind fun c=>
 if (!c.2=0)then
 some (AF.mk (fq.mk [] []) [],c.2)
 else
 (Iu b.fq p).bind fun a=>
 if (!a.2.2=0)then
 some (AF.mk (fq.mk [] []) [],a.2.2)
 else
 og (GO (ρ:=(AF×Int)) (fun(s0:AF×Int)=>
 if (s0.2<(a.2.1.ff.length:Int):Bool)then
 (idx a.2.1.ff s0.2).bind fun d=>
 (idx b.ne d).bind fun e=>
 (Ao [] e).bind fun f=>
 (Ao s0.1.ne [f]).bind fun g=>
 some (.next (AF.mk s0.1.fq g,Az (s0.2+1)))
 else
 some (.brk (s0.1,s0.2))) (AF.mk a.1 [],0)) (fun s0=>
 some (s0.1,0)) some
def LE(l:Fp)(n:Int):Option Fp:=
 (ry (fun i0(s0:Fp)=>
 (Ao s0 [(-1)]).bind fun a=>
 (ry (fun i2(s2:Fp)=>
 (idx l i2).bind fun b=>
 if (b=i0:Bool)then
 (idx s2 i0).bind fun c=>
 some (Bg s2 i0 i2)
 else
 some s2) 0 (l.length:Int) a).bind some) 0 n []).bind some
def Jq(n:Int)(a:Fp):Option Fp:=
 (LE a n).bind some
def FJ[Ev](t:AB)(a:AF)(d:At):Option (AF×hT):=
 (FH t a d).bind fun b=>
 (Jq (a.fq.ff.length:Int) d.ff).bind fun c=>
 (Jq (a.fq.gt.length:Int) d.gt).bind fun e=>
 some (b.1,hT.mk c e)
def IK(a:Fp)(b:Fp):Option Fp:=
 (ry (fun i0(s0:Fp)=>
 (idx a i0).bind fun c=>
 (idx b c).bind fun d=>
 (Ao s0 [d]).bind some) 0 (a.length:Int) []).bind some
def Iw(d:Fp)(e:Fp)(a:Int)(l:Fp)(b:Int):Option Fp:=
 (LE e a).bind fun c=>
 (ry (fun i0(s0:Int×Fp)=>
 (idx c i0).bind fun f=>
 if (0<=f:Bool)then
 (idx c i0).bind fun g=>
 (idx d g).bind fun h=>
 (idx l h).bind fun i=>
 (Ao s0.2 [i]).bind fun j=>
 some (s0.1,j)
 else
 (Ao s0.2 [s0.1]).bind fun k=>
 some (Az (s0.1+1),k)) 0 a (b,[])).bind fun s0=>
 some s0.2
def Ix(a:Fp)(c:Int):K1:=
 og (qo (ρ:=Bool) (fun i0 _=>
 (idx a i0).bind fun b=>
 if (b=c:Bool)then
 some (.ret false)
 else
 some (.next ())) 0 (a.length:Int) ()) (fun _=>
 some true) some
def IL[Ev](t:AB)(a:o4)(p:AF)(c:hT):Option AF:=
 og (GO (ρ:=AF) (fun(s0:AF×Int)=>
 if (s0.2<(a.o3.fq.ff.length:Int):Bool)then
 (Ix a.sn.ff s0.2).bind fun h=>
 if (!h)then
 some (.next (s0.1,Az (s0.2+1)))
 else
 (idx a.o3.fq.ff s0.2).bind fun i=>
 (Ao s0.1.fq.ff [i]).bind fun j=>
 (idx a.o3.fq.ff s0.2).bind fun k=>
 (DT t k).bind fun d=>
 (ry (fun i2(s2:Fp)=>
 (idx d.1 i2).bind fun l=>
 (Ao s2 [l.uk]).bind some) 0 (d.1.length:Int) []).bind fun s2=>
 (Ao s0.1.ne [s2]).bind fun n=>
 some (.next (AF.mk (fq.mk j s0.1.fq.gt) n,Az (s0.2+1)))
 else
 some (.brk (s0.1,s0.2))) (p,0)) (fun s0=>
 og (GO (ρ:=AF) (fun(s4:AF×Int)=>
 if (s4.2<(a.o3.fq.gt.length:Int):Bool)then
 (Ix a.sn.gt s4.2).bind fun o=>
 if o then
 (idx a.o3.fq.gt s4.2).bind fun b=>
 (idx c.ff b.r9).bind fun e=>
 (idx c.ff b.To).bind fun f=>
 (Ao s4.1.fq.gt [Bh.mk b.rz e f]).bind fun g=>
 some (.next (AF.mk (fq.mk s4.1.fq.ff g) s4.1.ne,Az (s4.2+1)))
 else
 some (.next (s4.1,Az (s4.2+1)))
 else
 some (.brk (s4.1,s4.2))) (s0.1,0)) (fun s4=>
 some s4.1) some) some
def Lg(a:AF):Option AF:=
 (Jh a.fq).bind fun e=>
 (ry (fun i0(s0:AF)=>
 (idx a.ne i0).bind fun b=>
 (Ao [] b).bind fun c=>
 (Ao s0.ne [c]).bind fun d=>
 some (AF.mk s0.fq d)) 0 (a.ne.length:Int) (AF.mk e [])).bind some
def JG[Ev](t:AB)(a:o4)(C:AF)(c:hT)(e:Fp):Option (AF×Int):=
 og (qo (ρ:=(AF×Int)) (fun i0(s0:AF)=>
 (idx a.o3.pq i0).bind fun q=>
 (Ek q.rg e).bind fun r=>
 og (qo (ρ:=(AF×Int)) (fun i2(s2:AF)=>
 (idx a.o3.pq i2).bind fun s=>
 (Ek s.rg e).bind fun u=>
 (idx a.o3.pq i2).bind fun v=>
 (idx c.ff v.sr).bind fun w=>
 (idx a.o3.pq i0).bind fun x=>
 (idx c.ff x.sr).bind fun y=>
 (if(w=y:Bool)then((idx a.o3.pq i2).bind fun z=>
 (idx a.o3.pq i0).bind fun A=>
 some (decide (z.ri=A.ri)))else some false).bind fun B=>
 if (B&&(!r.1=u.1))then
 some (.ret (AF.mk (fq.mk [] []) [],11))
 else
 some (.next s2)) 0 i0 s0) (fun s2=>
 some (.next s2)) (fun v2=>some (.ret v2))) 0 (a.o3.pq.length:Int) (AF.mk (fq.mk [] []) [])) (fun s0=>
 og (qo (ρ:=(AF×Int)) (fun i4(s4:AF×AF)=>
 (idx a.o3.pq i4).bind fun i=>
 (Ek i.rg e).bind fun b=>
 (idx a.o3.pq i4).bind fun j=>
 (idx c.ff j.sr).bind fun d=>
 (idx s4.1.fq.ff d).bind fun k=>
 (DT t k).bind fun f=>
 (idx a.o3.pq i4).bind fun l=>
 (idx f.1 l.ri).bind fun m=>
 (if(b.1<m.uk:Bool)then some true else((idx a.o3.pq i4).bind fun n=>
 (idx f.1 n.ri).bind fun o=>
 some (decide (o.tl<b.1)))).bind fun p=>
 if p then
 some (.ret (AF.mk (fq.mk [] []) [],6))
 else
 (idx s4.1.ne d).bind fun g=>
 (idx a.o3.pq i4).bind fun h=>
 (idx g h.ri).bind fun D=>
 some (.next (AF.mk s4.1.fq (Bg s4.1.ne d (Bg g h.ri b.1)),s4.2))) 0 (a.o3.pq.length:Int) (C,s0)) (fun s4=>
 some (s4.1,0)) some) some
def Fh[Ev](t:AB)(a:o4)(e:AF)(m:AM):Option (AT×Int):=
 (Fk t a e).bind fun h=>
 if (!h=0)then
 some (GK,h)
 else
 (E0 t a e m).bind fun c=>
 if (!c.2=0)then
 some (GK,c.2)
 else
 (FJ t e c.1).bind fun d=>
 (IK m.hT.ff d.2.ff).bind fun i=>
 (IK m.hT.gt d.2.gt).bind fun j=>
 (Iw a.sA.ff a.sn.ff (a.o3.fq.ff.length:Int) i (c.1.ff.length:Int)).bind fun f=>
 (Iw a.sA.gt a.sn.gt (a.o3.fq.gt.length:Int) j (c.1.gt.length:Int)).bind fun g=>
 (Lg d.1).bind fun k=>
 (IL t a k (hT.mk f g)).bind fun l=>
 (JG t a l (hT.mk f g) m.q0).bind fun b=>
 if (!b.2=0)then
 some (GK,b.2)
 else
 if (40<(b.1.fq.ff.length:Int)||80<(b.1.fq.gt.length:Int))then
 some (GK,3)
 else
 some (AT.mk a m e b.1 d.2 (hT.mk f g),0)
def IG[Ev](p:fq):Option hT:=
 (Kf (p.ff.length:Int) 0).bind fun b=>
 (Kf (p.gt.length:Int) 0).bind fun a=>
 og (GO (ρ:=hT) (fun(s0:hT×Int)=>
 if (s0.2<(s0.1.ff.length:Int):Bool)then
 (idx s0.1.ff s0.2).bind fun c=>
 some (.next (hT.mk (Bg s0.1.ff s0.2 (-1)) s0.1.gt,Az (s0.2+1)))
 else
 some (.brk (s0.1,s0.2))) (hT.mk b a,0)) (fun s0=>
 og (GO (ρ:=hT) (fun(s2:hT×Int)=>
 if (s2.2<(s2.1.gt.length:Int):Bool)then
 (idx s2.1.gt s2.2).bind fun d=>
 some (.next (hT.mk s2.1.ff (Bg s2.1.gt s2.2 (-1)),Az (s2.2+1)))
 else
 some (.brk (s2.1,s2.2))) (s0.1,0)) (fun s2=>
 some s2.1) some) some
def JF[Ev](t:AB)(p:fq)(g:fq)(a:Bool):Option (List hT×Int):=
 (Er t p g).bind fun b=>
 if (!b=0)then
 some ([],b)
 else
 (IG p).bind fun d=>
 (Hv t p g d a 5000).bind fun c=>
 if (5000<(c.length:Int):Bool)then
 some ([],3)
 else
 some (c,0)
def FI[Ev](t:AB)(p:j0)(c:AF)(a:Bool):Option (List AM×Int):=
 (Fg t p c).bind fun d=>
 if (!d=0)then
 some ([],d)
 else
 (JF t p.fq c.fq a).bind fun b=>
 if (!b.2=0)then
 some ([],b.2)
 else
 (ry (fun i0(s0:List AM)=>
 (idx b.1 i0).bind fun f=>
 (Jo p c f).bind fun e=>
 if (e.2=0:Bool)then
 (idx b.1 i0).bind fun g=>
 (Ao s0 [AM.mk g e.1]).bind some
 else
 some s0) 0 (b.1.length:Int) []).bind fun s0=>
 some (s0,0)
def D5[Ev](t:AB)(b:o4)(c:AF):Option (List AM×Int):=
 (Fk t b c).bind fun d=>
 if (!d=0)then
 some ([],d)
 else
 (FI t b.rh c b.r7).bind fun a=>
 if (!a.2=0)then
 some ([],a.2)
 else
 (ry (fun i0(s0:List AM)=>
 (idx a.1 i0).bind fun e=>
 (Fh t b c e).bind fun f=>
 if (f.2=0:Bool)then
 (idx a.1 i0).bind fun g=>
 (Ao s0 [g]).bind some
 else
 some s0) 0 (a.1.length:Int) []).bind fun s0=>
 some (s0,0)
def HH[Ev](t:AB)(b:o4)(d:AF)(c:Int):Option (List AT):=
 (D5 t b d).bind fun a=>
 og (GO (ρ:=(List AT)) (fun(s0:List AT×Int)=>
 if (s0.2<(a.1.length:Int)&&s0.2<c)then
 (idx a.1 s0.2).bind fun e=>
 (Fh t b d e).bind fun f=>
 (Ao s0.1 [f.1]).bind fun g=>
 some (.next (g,Az (s0.2+1)))
 else
 some (.brk (s0.1,s0.2))) ([],0)) (fun s0=>
 some s0.1) some
def ND:Option AF:=
 some (AF.mk (fq.mk [3,1,1] [Bh.mk 0 0 1,Bh.mk 0 0 2]) [[],[10],[5]])
def Jw(c:Int):K1:=
 some (97<=c&&c<=122||(65<=c&&c<=90))
def GN[Ev](a:ByteArray)(e:Int->K1):QQ:=
 og (GO (ρ:=Int) (fun(s0:Int)=>
 (if(s0<(a.size:Int):Bool)then((th a s0).bind fun b=>
 (e b).bind some)else some false).bind fun d=>
 if d then
 some (.next (Az (s0+1)))
 else
 some (.brk s0)) 0) some some
def Iq(c:Int):K1:=
 some (48<=c&&c<=57)
def NZ(c:Int):K1:=
 (Jw c).bind fun a=>
 (if a then some true else((Iq c).bind some)).bind fun d=>
 some (d||c=95)
def KF(c:Int):K1:=
 some ((32<=c&&c<=126)&&(!c=34))
def GJ[Ev](a:ByteArray):Option (Int×Int):=
 (tz a 1 a.size).bind fun e=>
 (GN e KF).bind fun b=>
 (if((Az (1+b))=(a.size:Int):Bool)then some true else((th a (Az (1+b))).bind fun c=>
 some (!c=34))).bind fun d=>
 if d then
 some (0,2)
 else
 if (60<b:Bool)then
 some (0,3)
 else
 some (Az (b+2),0)
def slices_Index_string(a:List ByteArray)(c:ByteArray):QQ:=
 og (qo (ρ:=Int) (fun i0 _=>
 (idx a i0).bind fun b=>
 if (c==b)then
 some (.ret i0)
 else
 some (.next ())) 0 (a.length:Int) ()) (fun _=>
 some (-1)) some
def slices_Contains_string(b:List ByteArray)(a:ByteArray):K1:=
 (slices_Index_string b a).bind fun c=>
 some (decide (0<=c))
def NY(a:ByteArray):K1:=
 (if(2<=(a.size:Int):Bool)then((tz a 0 2).bind fun d=>
 (slices_Contains_string [(⟨#[45,62]⟩:ByteArray),(⟨#[60,61]⟩:ByteArray),(⟨#[62,61]⟩:ByteArray),(⟨#[61,61]⟩:ByteArray),(⟨#[33,61]⟩:ByteArray)] d).bind some)else some false).bind some
def strings_IndexByte(s:ByteArray)(c:Int):QQ:=some (Go.Lib.indexByte s.data.toList c.toNat.toUInt8)
def IS[Ev](a:ByteArray):Option (Int×Int×Int):=
 (th a 0).bind fun b=>
 (Jw b).bind fun f=>
 if f then
 (GN a NZ).bind fun c=>
 if (20<c:Bool)then
 some (0,0,3)
 else
 some (1,c,0)
 else
 (Iq b).bind fun g=>
 if g then
 (GN a Iq).bind fun d=>
 if (9<d:Bool)then
 some (0,0,3)
 else
 some (2,d,0)
 else
 if (b=34:Bool)then
 (GJ a).bind fun e=>
 some (3,e.1,e.2)
 else
 (NY a).bind fun h=>
 if h then
 some (4,2,0)
 else
 (strings_IndexByte (⟨#[123,125,40,41,91,93,44,59,58,61,43,45,42,60,62,33,38,124,46,63]⟩:ByteArray) b).bind fun i=>
 if (0<=i:Bool)then
 some (4,1,0)
 else
 some (0,0,2)
def HI[Ev](t:Db):Option (ByteArray×Bool):=
 (if(t.rt=3:Bool)then
 (OL (⟨#[34]⟩:ByteArray) t.vl).bind fun b=>
 (OL b (⟨#[34]⟩:ByteArray)).bind some
 else
 some t.vl).bind fun w1=>
 if (w1==(⟨#[]⟩:ByteArray))then
 some ((⟨#[]⟩:ByteArray),false)
 else
 (IS w1).bind fun a=>
 some (w1,(a.2.2=0&&a.1=t.rt)&&a.2.1=(w1.size:Int))
def DG[Ev](a:ByteArray):K1:=
 (HI (Db.mk 1 a 0)).bind fun b=>
 some b.2
def CJ[Ev](a:List Bn)(f:Bn->K1):QQ:=
 og (qo (ρ:=Int) (fun i0 _=>
 (idx a i0).bind fun b=>
 (f b).bind fun c=>
 if c then
 some (.ret i0)
 else
 some (.next ())) 0 (a.length:Int) ()) (fun _=>
 some (-1)) some
def B0[Ev](a:List Bn)(f:Bn->K1):K1:=
 (CJ a f).bind fun b=>
 some (decide (0<=b))
def Lv(m:Bn)(a:Bn):K1:=
 some (m.sb==a.sb)
def Dk[Ev]:Nat->AB->Int->Option (List ri)
 |0,_,_=>none|n+1,t,a=>
  (idx t.ff a).bind fun b=>
  (if(0<=b.sU:Bool)then
  (Dk n t b.sU).bind some
  else
  some []).bind fun w1=>
  (idx t.ff a).bind fun d=>
  (Ao w1 d.sY).bind some
def Ir[Ev](t:AB)(a:Int):Option (List ri):=Ht fun n=>Dk n t a
def Cm[Ev](a:List ri)(f:ri->K1):QQ:=
 og (qo (ρ:=Int) (fun i0 _=>
 (idx a i0).bind fun b=>
 (f b).bind fun c=>
 if c then
 some (.ret i0)
 else
 some (.next ())) 0 (a.length:Int) ()) (fun _=>
 some (-1)) some
def CQ[Ev](a:List ri)(f:ri->K1):K1:=
 (Cm a f).bind fun b=>
 some (decide (0<=b))
def Ih(y:ri)(a:ri):K1:=
 some (y.sb==a.sb)
def HL[Ev](l:List ByteArray):QQ:=
 if (20<(l.length:Int):Bool)then
 some 3
 else
 og (qo (ρ:=Int) (fun i0 _=>
 (idx l i0).bind fun a=>
 (DG a).bind fun b=>
 if (!b)then
 some (.ret 2)
 else
 (tR l 0 i0).bind fun c=>
 (slices_Contains_string c a).bind fun d=>
 if d then
 some (.ret 5)
 else
 some (.next ())) 0 (l.length:Int) ()) (fun _=>
 some 0) some
def EU[Ev](a:ri)(b:List ri):QQ:=
 (DG a.sb).bind fun d=>
 if (!d)then
 some 2
 else
 (CQ b (fun y0=>Ih y0 a)).bind fun e=>
 if e then
 some 5
 else
 (HL a.s7).bind fun c=>
 if (!c=0)then
 some c
 else
 (if(0<(a.s7.length:Int):Bool)then
 some (a.uk=0&&a.tl=(Az ((a.s7.length:Int)-1)))
 else
 some (((-1000000)<=a.uk&&a.uk<=a.tl)&&a.tl<=1000000)).bind fun w1=>
 if (!w1)then
 some 6
 else
 some 0
def IV[Ev](t:AB)(c:Int):QQ:=
 (idx t.ff c).bind fun a=>
 (DG a.sb).bind fun e=>
 if (!e)then
 some 2
 else
 (tR t.ff 0 c).bind fun f=>
 (B0 f (fun y0=>Lv y0 a)).bind fun g=>
 if g then
 some 5
 else
 if (a.sU<(-1)||c<=a.sU)then
 some 6
 else
 if (4<(a.sY.length:Int):Bool)then
 some 3
 else
 (Ir t c).bind fun b=>
 if (8<(b.length:Int):Bool)then
 some 3
 else
 og (qo (ρ:=Int) (fun i1 _=>
 (idx b i1).bind fun h=>
 (tR b 0 i1).bind fun i=>
 (EU h i).bind fun d=>
 if (!d=0)then
 some (.ret d)
 else
 some (.next ())) (Az ((b.length:Int)-(a.sY.length:Int))) (b.length:Int) ()) (fun _=>
 some 0) some
def Jx(n:Int)(a:AB):K1:=
 some (0<=n&&n<(a.ff.length:Int))
def CI[Ev](a:List Bv)(f:Bv->K1):QQ:=
 og (qo (ρ:=Int) (fun i0 _=>
 (idx a i0).bind fun b=>
 (f b).bind fun c=>
 if c then
 some (.ret i0)
 else
 some (.next ())) 0 (a.length:Int) ()) (fun _=>
 some (-1)) some
def Bz[Ev](a:List Bv)(f:Bv->K1):K1:=
 (CI a f).bind fun b=>
 some (decide (0<=b))
def Lu(y:Bv)(a:Bv):K1:=
 some (y.sb==a.sb)
def I0(b:Int)(a:Int):K1:=
 some ((0<=b&&b<=40)&&(a=(-1)||(b<=a&&a<=40)))
def IT[Ev](t:AB)(c:Int):QQ:=
 (idx t.gt c).bind fun a=>
 (DG a.sb).bind fun d=>
 if (!d)then
 some 2
 else
 (tR t.gt 0 c).bind fun e=>
 (Bz e (fun y0=>Lu y0 a)).bind fun f=>
 if f then
 some 5
 else
 (Jx a.r9 t).bind fun g=>
 (if(!g)then some true else((Jx a.To t).bind fun h=>
 some (!h))).bind fun b=>
 (if b then
 some b
 else
 (I0 a.uG a.ul).bind fun i=>
 (if(!i)then some true else((I0 a.vc a.uH).bind fun j=>
 some (!j))).bind some).bind fun w1=>
 if w1 then
 some 6
 else
 some 0
def Cw[Ev](t:AB):Option (ByteArray×Int):=
 if ((t.ff.length:Int)=0:Bool)then
 some ((⟨#[]⟩:ByteArray),7)
 else
 if (12<(t.ff.length:Int)||20<(t.gt.length:Int))then
 some ((⟨#[]⟩:ByteArray),3)
 else
 og (qo (ρ:=(ByteArray×Int)) (fun i1 _=>
 (idx t.ff i1).bind fun c=>
 (IV t i1).bind fun a=>
 if (!a=0)then
 some (.ret (c.sb,a))
 else
 some (.next ())) 0 (t.ff.length:Int) ()) (fun _=>
 og (qo (ρ:=(ByteArray×Int)) (fun i3 _=>
 (idx t.gt i3).bind fun d=>
 (IT t i3).bind fun b=>
 if (!b=0)then
 some (.ret (d.sb,b))
 else
 some (.next ())) 0 (t.gt.length:Int) ()) (fun _=>
 some ((⟨#[]⟩:ByteArray),0)) some) some
def C2[Ev](a:Fp)(f:Int->K1):QQ:=
 og (qo (ρ:=Int) (fun i0 _=>
 (idx a i0).bind fun b=>
 (f b).bind fun c=>
 if c then
 some (.ret i0)
 else
 some (.next ())) 0 (a.length:Int) ()) (fun _=>
 some (-1)) some
def A0[Ev](a:Fp)(f:Int->K1):K1:=
 (C2 a f).bind fun b=>
 some (decide (0<=b))
def F7(n:Int)(a:Int):K1:=
 some (0<=n&&n<=a)
def Kn(t:Int):K1:=
 (F7 t 99).bind fun a=>
 some (!a)
def Cn[Ev](a:List Bh)(f:Bh->K1):QQ:=
 og (qo (ρ:=Int) (fun i0 _=>
 (idx a i0).bind fun b=>
 (f b).bind fun c=>
 if c then
 some (.ret i0)
 else
 some (.next ())) 0 (a.length:Int) ()) (fun _=>
 some (-1)) some
def Ba[Ev](a:List Bh)(f:Bh->K1):K1:=
 (Cn a f).bind fun b=>
 some (decide (0<=b))
def M9(e:Bh)(a:Int):K1:=
 (F7 e.rz 99).bind fun g=>
 (if g then((F7 e.r9 (Az (a-1))).bind some)else some false).bind fun c=>
 (if c then((F7 e.To (Az (a-1))).bind some)else some false).bind some
def Ko(e:Bh)(b:fq):K1:=
 (M9 e (b.ff.length:Int)).bind fun a=>
 some (!a)
def Cf[Ev](g:fq):QQ:=
 if (40<(g.ff.length:Int)||80<(g.gt.length:Int))then
 some 3
 else
 (A0 g.ff Kn).bind fun a=>
 if a then
 some 6
 else
 (Ba g.gt (fun y0=>Ko y0 g)).bind fun b=>
 if b then
 some 6
 else
 some 0
def Ia(n:Int)(a:AB):K1:=
 some (decide ((a.ff.length:Int)<=n))
def Ib(a:Bh)(b:AB):K1:=
 some (decide ((b.gt.length:Int)<=a.rz))
def Cr(n:Int)(b:Int)(a:Int):K1:=
 some (b<=n&&n<=a)
def Kz(a:Int)(b:AB):K1:=
 some (a<0||(b.ff.length:Int)<=a)
def Es[Ev](t:AB)(l:Fp):QQ:=
 (Cw t).bind fun b=>
 if (!b.2=0)then
 some b.2
 else
 (A0 l (fun y0=>Kz y0 t)).bind fun a=>
 if a then
 some 6
 else
 some 0
def slices_Clone_string(a:List ByteArray):Option (List ByteArray):=
 Ao [] a
def DZ[Ev](t:AB)(a:Int):Option (List ri×Int):=
 (Es t [a]).bind fun c=>
 if (!c=0)then
 some ([],c)
 else
 (Ir t a).bind fun d=>
 (ry (fun i0(s0:List ri)=>
 (idx s0 i0).bind fun e=>
 (slices_Clone_string e.s7).bind fun f=>
 (idx s0 i0).bind fun b=>
 some (Bg s0 i0 (ri.mk b.sb b.uk b.tl f))) 0 (d.length:Int) d).bind fun s0=>
 some (s0,0)
def Et[Ev](t:AB)(p:j0)(a:Bw):Option (ri×Bool):=
 (Cr a.sr 0 (Az ((p.fq.ff.length:Int)-1))).bind fun c=>
 if (!c)then
 some (ri.mk (⟨#[]⟩:ByteArray) 0 0 [],false)
 else
 (idx p.fq.ff a.sr).bind fun d=>
 (DZ t d).bind fun b=>
 (Cr a.ri 0 (Az ((b.1.length:Int)-1))).bind fun e=>
 if (!e)then
 some (ri.mk (⟨#[]⟩:ByteArray) 0 0 [],false)
 else
 (idx b.1 a.ri).bind fun f=>
 some (f,true)
def HZ(n:Int)(t:rg):K1:=
 some ((((-1)<=t.Var&&t.Var<n)&&(-1000000)<=t.Add)&&t.Add<=1000000)
def J4(n:Int)(a:Test):QQ:=
 if ((!a.rt=1)&&(!a.rt=2))then
 some 1
 else
 (HZ n a.rh).bind fun b=>
 (if(!b)then some true else((HZ n a.o3).bind fun c=>
 some (!c))).bind fun d=>
 if d then
 some 6
 else
 some 0
def I3(n:Int)(l:List Test):QQ:=
 if (n<0||12<n)then
 some 6
 else
 if (40<(l.length:Int):Bool)then
 some 3
 else
 og (qo (ρ:=Int) (fun i0 _=>
 (idx l i0).bind fun b=>
 (J4 n b).bind fun a=>
 if (!a=0)then
 some (.ret a)
 else
 some (.next ())) 0 (l.length:Int) ()) (fun _=>
 some 0) some
def Ig(a:a5)(c:Bool):QQ:=
 og (qo (ρ:=Int) (fun i0 _=>
 (idx a i0).bind fun b=>
 if (c==b)then
 some (.ret i0)
 else
 some (.next ())) 0 (a.length:Int) ()) (fun _=>
 some (-1)) some
def Gm(b:a5)(a:Bool):K1:=
 (Ig b a).bind fun c=>
 some (decide (0<=c))
def Cj[Ev](t:AB)(p:j0):QQ:=
 (Cw t).bind fun c=>
 if (!c.2=0)then
 some c.2
 else
 (Cf p.fq).bind fun d=>
 if (!d=0)then
 some d
 else
 (A0 p.fq.ff (fun y0=>Ia y0 t)).bind fun f=>
 (if f then some true else((Ba p.fq.gt (fun y0=>Ib y0 t)).bind some)).bind fun h=>
 if h then
 some 13
 else
 (Cr p.q0 0 12).bind fun i=>
 if (!i)then
 some 6
 else
 if (10<(p.pq.length:Int)||10<(p.r8.length:Int))then
 some 3
 else
 (Kf p.q0 false).bind fun j=>
 og (qo (ρ:=Int) (fun i0(s0:a5)=>
 (idx p.pq i0).bind fun a=>
 (Et t p a).bind fun k=>
 (if(!k.2)then some true else((Cr a.rg.Var (-1) (Az (p.q0-1))).bind fun l=>
 some (!l))).bind fun m=>
 (if m then some true else((Cr a.rg.Add (-1000000) 1000000).bind fun n=>
 some (!n))).bind fun o=>
 if o then
 some (.ret 6)
 else
 if (0<=a.rg.Var:Bool)then
 (idx s0 a.rg.Var).bind fun q=>
 some (.next (Bg s0 a.rg.Var true))
 else
 some (.next s0)) 0 (p.pq.length:Int) j) (fun s0=>
 (I3 p.q0 p.r8).bind fun b=>
 if (!b=0)then
 some b
 else
 (Gm s0 false).bind fun e=>
 if e then
 some 9
 else
 some 0) some
def Ln(n:Int)(a:AB):K1:=
 some (decide ((a.ff.length:Int)<=n))
def Lp(a:Bh)(b:AB):K1:=
 some (decide ((b.gt.length:Int)<=a.rz))
def IN[Ev](t:AB)(g:fq):K1:=
 (A0 g.ff (fun y0=>Ln y0 t)).bind fun c=>
 (if(!c)then((Ba g.gt (fun y0=>Lp y0 t)).bind fun a=>
 some (!a))else some false).bind some
def Cp[Ev](a:List Bw)(f:Bw->K1):QQ:=
 og (qo (ρ:=Int) (fun i0 _=>
 (idx a i0).bind fun b=>
 (f b).bind fun c=>
 if c then
 some (.ret i0)
 else
 some (.next ())) 0 (a.length:Int) ()) (fun _=>
 some (-1)) some
def B2[Ev](a:List Bw)(f:Bw->K1):K1:=
 (Cp a f).bind fun b=>
 some (decide (0<=b))
def MZ(y:Bw)(a:Bw):K1:=
 some (y.sr=a.sr&&y.ri=a.ri)
def JJ[Ev](t:AB)(b:o4)(c:Int):QQ:=
 (idx b.o3.pq c).bind fun a=>
 if (a.sr<0||(b.o3.fq.ff.length:Int)<=a.sr)then
 some 6
 else
 (idx b.o3.fq.ff a.sr).bind fun d=>
 (DZ t d).bind fun e=>
 if (((((a.ri<0||(e.1.length:Int)<=a.ri)||a.rg.Var<(-1))||b.o3.q0<=a.rg.Var)||a.rg.Add<(-1000000))||1000000<a.rg.Add)then
 some 6
 else
 (tR b.o3.pq 0 c).bind fun f=>
 (B2 f (fun y0=>MZ y0 a)).bind fun g=>
 if g then
 some 5
 else
 some 0
def IM[Ev](t:AB)(a:o4):QQ:=
 (Cf a.o3.fq).bind fun b=>
 if (!b=0)then
 some b
 else
 (IN t a.o3.fq).bind fun d=>
 if (!d)then
 some 13
 else
 if ((!a.o3.q0=a.rh.q0)||0<(a.o3.r8.length:Int))then
 some 1
 else
 if (10<(a.o3.pq.length:Int):Bool)then
 some 3
 else
 og (qo (ρ:=Int) (fun i1 _=>
 (JJ t a i1).bind fun c=>
 if (!c=0)then
 some (.ret c)
 else
 some (.next ())) 0 (a.o3.pq.length:Int) ()) (fun _=>
 some 0) some
def slices_Clone_int(a:Fp):Option Fp:=
 Ao [] a
def slices_BinarySearch_int(l:Fp)(x:Int):Option (Int×Bool):=if l.length<=CX/\l.Pairwise (·<=·)then some ((l.countP (·<x):Nat),l.contains x)else none
def Iz(l:Fp)(n:Int):QQ:=
 og (qo (ρ:=Int) (fun i0 _=>
 (idx l i0).bind fun a=>
 if (a<0||n<=a)then
 some (.ret 6)
 else
 (if(0<i0:Bool)then((idx l (Az (i0-1))).bind fun b=>
 some (decide (a<=b)))else some false).bind fun c=>
 if c then
 some (.ret 12)
 else
 some (.next ())) 0 (l.length:Int) ()) (fun _=>
 some 0) some
def Jv(l:Fp)(n:Int):K1:=
 (slices_BinarySearch_int l n).bind fun a=>
 some a.2
def Ky(g:fq)(p:At):QQ:=
 (Iz p.ff (g.ff.length:Int)).bind fun a=>
 if (!a=0)then
 some a
 else
 (Iz p.gt (g.gt.length:Int)).bind fun b=>
 if (!b=0)then
 some b
 else
 og (qo (ρ:=Int) (fun i0 _=>
 (idx p.gt i0).bind fun c=>
 (idx g.gt c).bind fun d=>
 (Jv p.ff d.r9).bind fun e=>
 (if(!e)then some true else((idx g.gt c).bind fun f=>
 (Jv p.ff f.To).bind fun h=>
 some (!h))).bind fun i=>
 if i then
 some (.ret 14)
 else
 some (.next ())) 0 (p.gt.length:Int) ()) (fun _=>
 some 0) some
def D8[Ev](g:fq)(p:At):QQ:=
 (Cf g).bind fun b=>
 if (!b=0)then
 some b
 else
 (Ky g p).bind some
def D7[Ev](g:fq)(p:At):Option (fq×hT×Int):=
 (D8 g p).bind fun b=>
 if (!b=0)then
 some (fq.mk [] [],hT.mk [] [],b)
 else
 (ry (fun i0(s0:fq)=>
 (idx p.ff i0).bind fun c=>
 (idx g.ff c).bind fun d=>
 (Ao s0.ff [d]).bind fun e=>
 some (fq.mk e s0.gt)) 0 (p.ff.length:Int) (fq.mk [] [])).bind fun s0=>
 (ry (fun i2(s2:fq)=>
 (idx p.gt i2).bind fun f=>
 (idx g.gt f).bind fun a=>
 (slices_BinarySearch_int p.ff a.r9).bind fun h=>
 (slices_BinarySearch_int p.ff a.To).bind fun i=>
 (Ao s2.gt [Bh.mk a.rz h.1 i.1]).bind fun j=>
 some (fq.mk s2.ff j)) 0 (p.gt.length:Int) s0).bind fun s2=>
 (slices_Clone_int p.ff).bind fun k=>
 (slices_Clone_int p.gt).bind fun l=>
 some (s2,hT.mk k l,0)
def Cz[Ev](a:fq)(b:fq)(m:hT):QQ:=
 (Cf a).bind fun g=>
 if (!g=0)then
 some g
 else
 (Cf b).bind fun h=>
 if (!h=0)then
 some h
 else
 if ((!(m.ff.length:Int)=(a.ff.length:Int))||(!(m.gt.length:Int)=(a.gt.length:Int)))then
 some 20
 else
 og (qo (ρ:=Int) (fun i0 _=>
 (idx m.ff i0).bind fun c=>
 if (c<0||(b.ff.length:Int)<=c)then
 some (.ret 6)
 else
 (idx b.ff c).bind fun l=>
 (idx a.ff i0).bind fun n=>
 if (!l=n)then
 some (.ret 13)
 else
 some (.next ())) 0 (m.ff.length:Int) ()) (fun _=>
 og (qo (ρ:=Int) (fun i2 _=>
 (idx m.gt i2).bind fun d=>
 if (d<0||(b.gt.length:Int)<=d)then
 some (.ret 6)
 else
 (idx a.gt i2).bind fun e=>
 (idx b.gt d).bind fun f=>
 if (!e.rz=f.rz)then
 some (.ret 13)
 else
 (idx m.ff e.r9).bind fun i=>
 (if(!i=f.r9)then some true else((idx m.ff e.To).bind fun j=>
 some (!j=f.To))).bind fun k=>
 if k then
 some (.ret 11)
 else
 some (.next ())) 0 (m.gt.length:Int) ()) (fun _=>
 some 0) some) some
def slices_Compact_int(l:Fp):Option Fp:=if l.length<=CX then some (Go.Lib.compact l)else none
def slices_Sort_int(l:Fp):Option Fp:=if l.length<=CX then some (OW l)else none
def Hh(l:Fp):QQ:=
 (slices_Clone_int l).bind fun a=>
 (slices_Sort_int a).bind fun b=>
 (slices_Compact_int b).bind fun c=>
 some (c.length:Int)
def Cv[Ev](a:fq)(b:fq)(m:hT):K1:=
 (Cz a b m).bind fun c=>
 (if(c=0:Bool)then((Hh m.ff).bind fun d=>
 some (decide (d=(m.ff.length:Int))))else some false).bind fun e=>
 (if e then((Hh m.gt).bind fun f=>
 some (decide (f=(m.gt.length:Int))))else some false).bind some
def JI[Ev](a:o4):QQ:=
 (D7 a.rh.fq a.sA).bind fun b=>
 if (!b.2.2=0)then
 some b.2.2
 else
 (Cz b.1 a.o3.fq a.sn).bind fun c=>
 if (!c=0)then
 some c
 else
 (Cv b.1 a.o3.fq a.sn).bind fun d=>
 if (!d)then
 some 11
 else
 some 0
def slices_Index_int(a:Fp)(c:Int):QQ:=
 og (qo (ρ:=Int) (fun i0 _=>
 (idx a i0).bind fun b=>
 if (c=b:Bool)then
 some (.ret i0)
 else
 some (.next ())) 0 (a.length:Int) ()) (fun _=>
 some (-1)) some
def slices_Contains_int(b:Fp)(a:Int):K1:=
 (slices_Index_int b a).bind fun c=>
 some (decide (0<=c))
def KY(l:Fp)(n:Int):Option Fp:=
 (ry (fun i0(s0:Fp)=>
 (slices_Contains_int l i0).bind fun a=>
 if (!a)then
 (Ao s0 [i0]).bind some
 else
 some s0) 0 n []).bind some
def Ll(a:o4):Option (Fp×Fp):=
 (KY a.sn.ff (a.o3.fq.ff.length:Int)).bind fun b=>
 (KY a.sn.gt (a.o3.fq.gt.length:Int)).bind fun c=>
 some (b,c)
def KC(c:Int)(d:AB)(e:fq):K1:=
 (idx e.ff c).bind fun a=>
 (idx d.ff a).bind fun b=>
 some b.tf
def slices_Reverse_int(l:Fp):Option Fp:=if l.length<=CX then some l.reverse else none
def IU[Ev](t:AB)(a:Int):Option Fp:=
 og (GO (ρ:=Fp) (fun(s0:Int×Fp)=>
 if (0<=s0.1:Bool)then
 (Ao s0.2 [s0.1]).bind fun b=>
 (idx t.ff s0.1).bind fun c=>
 some (.next (c.sU,b))
 else
 some (.brk (s0.1,s0.2))) (a,[])) (fun s0=>
 (slices_Reverse_int s0.2).bind some) some
def Hy[Ev](t:AB)(a:Int)(b:Int):K1:=
 (IU t a).bind fun d=>
 (slices_Contains_int d b).bind some
def Gr[Ev](t:AB)(a:Int)(b:Int)(c:Int):K1:=
 (Es t [b,c]).bind fun d=>
 if (((!d=0)||a<0)||(t.gt.length:Int)<=a)then
 some false
 else
 (idx t.gt a).bind fun e=>
 (Hy t b e.r9).bind fun f=>
 (if f then((idx t.gt a).bind fun g=>
 (Hy t c g.To).bind some)else some false).bind some
def E1[Ev](f:Int)(e:fq)(g:AB):K1:=
 (idx e.gt f).bind fun a=>
 (idx e.ff a.r9).bind fun b=>
 (idx e.ff a.To).bind fun c=>
 (Gr g a.rz b c).bind fun d=>
 some (!d)
def GG[Ev](t:AB)(g:fq)(a:Fp)(b:Fp):K1:=
 (A0 a (fun y0=>KC y0 t g)).bind fun c=>
 (if(!c)then((A0 b (fun y0=>E1 y0 g t)).bind fun d=>
 some (!d))else some false).bind some
def Eu(c:hV):K1:=
 some ((Az ((Az ((Az ((Az ((Az ((c.Map.ff.length:Int)+(c.Map.gt.length:Int)))+(c.j0.fq.ff.length:Int)))+(c.j0.fq.gt.length:Int)))+(c.j0.pq.length:Int)))+(c.j0.r8.length:Int)))=0&&c.j0.q0=0)
def B7[Ev](a:List hV)(f:hV->K1):QQ:=
 og (qo (ρ:=Int) (fun i0 _=>
 (idx a i0).bind fun b=>
 (f b).bind fun c=>
 if c then
 some (.ret i0)
 else
 some (.next ())) 0 (a.length:Int) ()) (fun _=>
 some (-1)) some
def Bt[Ev](a:List hV)(f:hV->K1):K1:=
 (B7 a f).bind fun b=>
 some (decide (0<=b))
mutual
def BO[Ev]:Nat->hV->K1
 |0,_=>none|n+1,c=>
  (if(c.rt=1:Bool)then
  (if((c.rq.length:Int)=0:Bool)then((Eu c).bind some)else some false).bind some
  else
  if (c.rt=2:Bool)then
  (if((c.rq.length:Int)=1:Bool)then((Eu c).bind some)else some false).bind some
  else
  if (c.rt=3:Bool)then
  if (c.rt=3:Bool)then
  (if(1<=(c.rq.length:Int):Bool)then((Eu c).bind some)else some false).bind some
  else
  if (c.rt=5:Bool)then
  some (decide ((c.rq.length:Int)=1))
  else
  some false
  else
  if (c.rt=4:Bool)then
  (if(1<=(c.rq.length:Int):Bool)then((Eu c).bind some)else some false).bind some
  else
  if (c.rt=5:Bool)then
  some (decide ((c.rq.length:Int)=1))
  else
  some false).bind fun w1=>
  (if w1 then((Bt c.rq (BU n)).bind fun h=>
  some (!h))else some false).bind some
def BU[Ev]:Nat->hV->K1
 |0,_=>none|n+1,k=>
  (BO n k).bind fun a=>
  some (!a)
end
def Eg[Ev](c:hV):K1:=Ht fun n=>BO n c
def MN[Ev](k:hV):K1:=Ht fun n=>BU n k
def CC[Ev]:Nat->hV->Option (Int×Int)
 |0,_=>none|n+1,c=>
  (ry (fun i0(s0:Int×Int)=>
  (idx c.rq i0).bind fun b=>
  (CC n b).bind fun a=>
  some (Az (s0.1+a.1),max s0.2 a.2)) 0 (c.rq.length:Int) (1,0)).bind fun s0=>
  (if(c.rt=5:Bool)then
  some (Az (s0.2+1))
  else
  some s0.2).bind fun w1=>
  some (s0.1,w1)
def Fv[Ev](c:hV):Option (Int×Int):=Ht fun n=>CC n c
def EO[Ev](c:hV):QQ:=
 (Eg c).bind fun b=>
 if (!b)then
 some 1
 else
 (Fv c).bind fun a=>
 if (12<a.1||3<a.2)then
 some 3
 else
 some 0
def HO(a:Bw)(b:Int):K1:=
 some (decide (a.rg.Var=b))
def Dn[Ev](t:AB)(q:j0)(b:Int):QQ:=
 (Cj t q).bind fun a=>
 if (!a=9)then
 some a
 else
 og (GO (ρ:=Int) (fun(s0:Int)=>
 if (s0<q.q0:Bool)then
 (B2 q.pq (fun y0=>HO y0 s0)).bind fun c=>
 if (!c)then
 some (.ret a)
 else
 some (.next (Az (s0+1)))
 else
 some (.brk s0)) b) (fun s0=>
 some 0) some
def B4[Ev]:Nat->AB->j0->hV->QQ
 |0,_,_,_=>none|n+1,t,p,c=>
  if (c.rt=5:Bool)then
  if (c.j0.q0<p.q0:Bool)then
  some 20
  else
  (Dn t c.j0 p.q0).bind fun d=>
  if (!d=0)then
  some d
  else
  (Cz p.fq c.j0.fq c.Map).bind fun e=>
  if (!e=0)then
  some e
  else
  (Cv p.fq c.j0.fq c.Map).bind fun f=>
  if (!f)then
  some 1
  else
  og (qo (ρ:=Int) (fun i0 _=>
  (idx c.rq i0).bind fun b=>
  (B4 n t c.j0 b).bind fun a=>
  if (!a=0)then
  some (.ret a)
  else
  some (.next ())) 0 (c.rq.length:Int) ()) (fun _=>
  some 0) some
  else
  og (qo (ρ:=Int) (fun i0 _=>
  (idx c.rq i0).bind fun b=>
  (B4 n t p b).bind fun a=>
  if (!a=0)then
  some (.ret a)
  else
  some (.next ())) 0 (c.rq.length:Int) ()) (fun _=>
  some 0) some
def GW[Ev](t:AB)(p:j0)(c:hV):QQ:=Ht fun n=>B4 n t p c
def Dg[Ev](t:AB)(p:j0)(c:hV):QQ:=
 (Cj t p).bind fun a=>
 if (!a=0)then
 some a
 else
 (EO c).bind fun b=>
 if (!b=0)then
 some b
 else
 (GW t p c).bind some
def Gi[Ev](t:AB)(a:o4):QQ:=
 (Cw t).bind fun b=>
 if (!b.2=0)then
 some b.2
 else
 (DG a.sb).bind fun g=>
 if (!g)then
 some 2
 else
 (Cj t a.rh).bind fun c=>
 if (!c=0)then
 some c
 else
 (IM t a).bind fun d=>
 if (!d=0)then
 some d
 else
 (JI a).bind fun e=>
 if (!e=0)then
 some e
 else
 (Ll a).bind fun f=>
 (GG t a.o3.fq f.1 f.2).bind fun h=>
 if (!h)then
 some 13
 else
 (Dg t a.rh a.hV).bind some
def I7[Ev](t:AB)(a:Int)(h:Fp):QQ:=
 if ((t.ff.length:Int)<=a:Bool)then
 some 6
 else
 (idx t.ff a).bind fun d=>
 if d.tf then
 some 13
 else
 (DZ t a).bind fun b=>
 if (!(h.length:Int)=(b.1.length:Int))then
 some 20
 else
 og (qo (ρ:=Int) (fun i0 _=>
 (idx b.1 i0).bind fun c=>
 (idx h i0).bind fun e=>
 (if(e<c.uk:Bool)then some true else((idx h i0).bind fun f=>
 some (decide (c.tl<f)))).bind fun g=>
 if g then
 some (.ret 6)
 else
 some (.next ())) 0 (b.1.length:Int) ()) (fun _=>
 some 0) some
def Eh[Ev](t:AB)(a:AF):Option (Int×Int):=
 (Cw t).bind fun c=>
 if (!c.2=0)then
 some ((-1),c.2)
 else
 (Cf a.fq).bind fun d=>
 if (!d=0)then
 some ((-1),d)
 else
 if (!(a.ne.length:Int)=(a.fq.ff.length:Int))then
 some ((-1),20)
 else
 og (qo (ρ:=(Int×Int)) (fun i0 _=>
 (idx a.fq.ff i0).bind fun f=>
 (idx a.ne i0).bind fun g=>
 (I7 t f g).bind fun e=>
 if (!e=0)then
 some (.ret (i0,e))
 else
 some (.next ())) 0 (a.fq.ff.length:Int) ()) (fun _=>
 og (qo (ρ:=(Int×Int)) (fun i2 _=>
 (idx a.fq.gt i2).bind fun b=>
 if ((t.gt.length:Int)<=b.rz:Bool)then
 some (.ret (i2,6))
 else
 (idx a.fq.ff b.r9).bind fun h=>
 (idx a.fq.ff b.To).bind fun i=>
 (Gr t b.rz h i).bind fun j=>
 if (!j)then
 some (.ret (i2,13))
 else
 some (.next ())) 0 (a.fq.gt.length:Int) ()) (fun _=>
 some ((-1),0)) some) some
def D0[Ev](t:AB)(a:List o4)(f:AF):QQ:=
 (Cw t).bind fun b=>
 if (!b.2=0)then
 some b.2
 else
 if (10<(a.length:Int):Bool)then
 some 3
 else
 og (qo (ρ:=Int) (fun i0 _=>
 (idx a i0).bind fun d=>
 (Gi t d).bind fun c=>
 if (!c=0)then
 some (.ret c)
 else
 some (.next ())) 0 (a.length:Int) ()) (fun _=>
 (Eh t f).bind fun e=>
 some e.2) some
def Gq[Ev](t:AB)(d:o4)(e:AF):QQ:=
 (Cw t).bind fun a=>
 if (!a.2=0)then
 some a.2
 else
 (Gi t d).bind fun b=>
 if (!b=0)then
 some b
 else
 (Eh t e).bind fun c=>
 some c.2
def Jr(n:Int)(a:AB):K1:=
 some (decide ((a.ff.length:Int)<=n))
def Js(a:Bh)(b:AB):K1:=
 some (decide ((b.gt.length:Int)<=a.rz))
def Ea[Ev](t:AB)(g:fq):K1:=
 (A0 g.ff (fun y0=>Jr y0 t)).bind fun c=>
 (if(!c)then((Ba g.gt (fun y0=>Js y0 t)).bind fun a=>
 some (!a))else some false).bind some
def Dj[Ev](t:AB)(p:fq)(g:fq):QQ:=
 (Cw t).bind fun a=>
 if (!a.2=0)then
 some a.2
 else
 og (qo (ρ:=Int) (fun i0 _=>
 (idx [p,g] i0).bind fun c=>
 (Cf c).bind fun b=>
 if (!b=0)then
 some (.ret b)
 else
 some (.next ())) 0 ([p,g].length:Int) ()) (fun _=>
 (Ea t p).bind fun d=>
 (if(!d)then some true else((Ea t g).bind fun e=>
 some (!e))).bind fun f=>
 if f then
 some 13
 else
 some 0) some
def HK[Ev](t:AB)(a:Int):Option (Fp×Int):=
 (Es t [a]).bind fun b=>
 if (!b=0)then
 some ([],b)
 else
 (ry (fun i0(s0:Fp)=>
 (Hy t i0 a).bind fun c=>
 if c then
 (Ao s0 [i0]).bind some
 else
 some s0) 0 (t.ff.length:Int) []).bind fun s0=>
 some (s0,0)
def E7[Ev](t:AB):Option (List a5):=
 (ry (fun i0(s0:List a5)=>
 (Kf (t.ff.length:Int) false).bind fun c=>
 (HK t i0).bind fun a=>
 (ry (fun i2(s2:a5)=>
 (idx a.1 i2).bind fun b=>
 (idx s2 b).bind fun e=>
 some (Bg s2 b true)) 0 (a.1.length:Int) c).bind fun s2=>
 (Ao s0 [s2]).bind some) 0 (t.ff.length:Int) []).bind some
def E8[Ev](t:AB)(p:fq)(g:fq)(m:hT):QQ:=
 if ((!(m.ff.length:Int)=(p.ff.length:Int))||(!(m.gt.length:Int)=(p.gt.length:Int)))then
 some 20
 else
 (E7 t).bind fun i=>
 og (qo (ρ:=Int) (fun i0 _=>
 (idx m.ff i0).bind fun a=>
 if (a<0||(g.ff.length:Int)<=a)then
 some (.ret 6)
 else
 (idx p.ff i0).bind fun j=>
 (idx i j).bind fun k=>
 (idx g.ff a).bind fun l=>
 (idx k l).bind fun n=>
 if (!n)then
 some (.ret 13)
 else
 some (.next ())) 0 (m.ff.length:Int) ()) (fun _=>
 og (qo (ρ:=Int) (fun i2 _=>
 (idx m.gt i2).bind fun b=>
 if (b<0||(g.gt.length:Int)<=b)then
 some (.ret 6)
 else
 (idx p.gt i2).bind fun c=>
 (idx g.gt b).bind fun d=>
 if (!c.rz=d.rz)then
 some (.ret 13)
 else
 (idx m.ff c.r9).bind fun e=>
 (if(!e=d.r9)then some true else((idx m.ff c.To).bind fun f=>
 some (!f=d.To))).bind fun h=>
 if h then
 some (.ret 11)
 else
 some (.next ())) 0 (m.gt.length:Int) ()) (fun _=>
 some 0) some) some
def Hx(l:Fp):K1:=if l.length<=4096 then some (uZ l)else none
def EH[Ev](t:AB)(p:fq)(g:fq)(m:hT)(a:Bool):QQ:=
 (Dj t p g).bind fun b=>
 if (!b=0)then
 some b
 else
 (E8 t p g m).bind fun c=>
 if (!c=0)then
 some c
 else
 (if a then((Hx m.ff).bind fun d=>
 (if d then some true else((Hx m.gt).bind some)).bind some)else some false).bind fun h=>
 if h then
 some 5
 else
 some 0
def De[Ev](t:AB)(p:j0)(c:AF):QQ:=
 (Cj t p).bind fun a=>
 if (!a=0)then
 some a
 else
 (Eh t c).bind fun b=>
 some b.2
def FP(a:rg)(c:Fp):QQ:=
 if (a.Var<0:Bool)then
 some a.Add
 else
 (idx c a.Var).bind fun b=>
 some (Az (b+a.Add))
def Hg(a b c:Int):Option (Int×Int):=if(0<=a/\a<18446744073709551616)/\(0<=b/\b<18446744073709551616)/\0<=c/\c<=1 then some ((a+b+c) % 18446744073709551616,(a+b+c) / 18446744073709551616)else none
def Ha(a:Int)(b:Int):Option (Int×Int):=
 (Hg (IntKind.u64.wrap a) (IntKind.u64.wrap b) 0).bind fun c=>
 (Ke .i64 .shr a 63).bind fun d=>
 (Ke .i64 .shr b 63).bind fun e=>
 some (Az ((Az (d+e))+(Az c.2)),c.1)
def FQ(t:rg)(d:Fp):Option (Int×Int×Bool):=
 if (t.Var=(-1):Bool)then
 (Ha 0 t.Add).bind fun a=>
 some (a.1,a.2,true)
 else
 if (t.Var<0||(d.length:Int)<=t.Var)then
 some (0,0,false)
 else
 (idx d t.Var).bind fun c=>
 (Ha c t.Add).bind fun b=>
 some (b.1,b.2,true)
def M3(a:Fp):QQ:=
 og (qo (ρ:=Int) (fun i0 _=>
 (idx a i0).bind fun b=>
 if (!b=0)then
 some (.ret b)
 else
 some (.next ())) 0 (a.length:Int) ()) (fun _=>
 some 0) some
def cmp_isNaN_int(a:Int):K1:=
 some (!a=a)
def cmp_Compare_int(a:Int)(y:Int):QQ:=
 (cmp_isNaN_int a).bind fun c=>
 (cmp_isNaN_int y).bind fun b=>
 if c then
 if b then
 some 0
 else
 some (-1)
 else
 if b then
 some 1
 else
 if (a<y:Bool)then
 some (-1)
 else
 if (y<a:Bool)then
 some 1
 else
 some 0
def GU(a:Int):K1:=
 some (!a=a)
def Hp(a:Int)(y:Int):QQ:=
 (GU a).bind fun c=>
 (GU y).bind fun b=>
 if c then
 if b then
 some 0
 else
 some (-1)
 else
 if b then
 some 1
 else
 if (a<y:Bool)then
 some (-1)
 else
 if (y<a:Bool)then
 some 1
 else
 some 0
def GZ(a:Test)(g:Fp):K1:=
 (FQ a.rh g).bind fun b=>
 (FQ a.o3 g).bind fun c=>
 if ((!b.2.2)||(!c.2.2))then
 some false
 else
 (cmp_Compare_int b.1 c.1).bind fun e=>
 (Hp b.2.1 c.2.1).bind fun f=>
 (M3 [e,f]).bind fun d=>
 some (a.rt=1&&d<=0||(a.rt=2&&d=0))
def HU(p:j0)(l:AF)(m:hT):Option (Fp×Int):=
 (Kf p.q0 0).bind fun d=>
 (Kf p.q0 false).bind fun e=>
 og (qo (ρ:=(Fp×Int)) (fun i0(s0:Fp×a5)=>
 (idx p.pq i0).bind fun a=>
 (idx m.ff a.sr).bind fun f=>
 (idx l.ne f).bind fun g=>
 (idx g a.ri).bind fun b=>
 (if(0<=a.rg.Var:Bool)then((idx s0.2 a.rg.Var).bind fun h=>
 some (!h))else some false).bind fun i=>
 if i then
 (idx s0.1 a.rg.Var).bind fun n=>
 (idx s0.2 a.rg.Var).bind fun o=>
 (FP a.rg (Bg s0.1 a.rg.Var (Az (b-a.rg.Add)))).bind fun c=>
 if (!c=b)then
 some (.ret ([],11))
 else
 some (.next (Bg s0.1 a.rg.Var (Az (b-a.rg.Add)),Bg s0.2 a.rg.Var true))
 else
 (FP a.rg s0.1).bind fun c=>
 if (!c=b)then
 some (.ret ([],11))
 else
 some (.next (s0.1,s0.2))) 0 (p.pq.length:Int) (d,e)) (fun s0=>
 og (qo (ρ:=(Fp×Int)) (fun i2 _=>
 (idx p.r8 i2).bind fun j=>
 (GZ j s0.1).bind fun k=>
 if (!k)then
 some (.ret ([],16))
 else
 some (.next ())) 0 (p.r8.length:Int) ()) (fun _=>
 some (s0.1,0)) some) some
def Dd[Ev](t:AB)(p:j0)(a:AF)(m:hT):Option (Fp×Int):=
 (De t p a).bind fun b=>
 if (!b=0)then
 some ([],b)
 else
 (EH t p.fq a.fq m false).bind fun c=>
 if (!c=0)then
 some ([],c)
 else
 (HU p a m).bind fun d=>
 some (d.1,d.2)
def GI[Ev](t:AB)(b:o4)(c:AF)(m:AM):QQ:=
 (EH t b.rh.fq c.fq m.hT b.r7).bind fun d=>
 if (!d=0)then
 some 1
 else
 (Dd t b.rh c m.hT).bind fun a=>
 if (!a.2=0)then
 some a.2
 else
 (slices_Equal_int a.1 m.q0).bind fun e=>
 if (!e)then
 some 11
 else
 some 0
def Dp(a:List Bh):Option (List Bh):=
 Ao [] a
def ES[Ev](t:AB)(p:fq)(g:fq)(m:hT):Option (fq×Int):=
 (Dj t p g).bind fun a=>
 if (!a=0)then
 some (fq.mk [] [],a)
 else
 (E8 t p g m).bind fun b=>
 if (!b=0)then
 some (fq.mk [] [],b)
 else
 (Dp p.gt).bind fun c=>
 (ry (fun i0(s0:fq)=>
 (idx m.ff i0).bind fun d=>
 (idx g.ff d).bind fun e=>
 (Ao s0.ff [e]).bind fun f=>
 some (fq.mk f s0.gt)) 0 (m.ff.length:Int) (fq.mk [] c)).bind fun s0=>
 some (s0,0)
def CG[Ev](a:Bb):QQ:=
 (Cz a.l a.g a.m).bind fun b=>
 if (!b=0)then
 some b
 else
 (D8 a.l a.po).bind some
def GV(a:Fp)(b:Fp):Option (List I2):=
 (ry (fun i0(s0:List I2)=>
 (ry (fun i2(s2:List I2)=>
 (idx a i0).bind fun c=>
 (idx a i2).bind fun d=>
 (if(c=d:Bool)then((slices_Contains_int b i0).bind fun e=>
 (if(!e)then some true else((slices_Contains_int b i2).bind fun f=>
 some (!f))).bind some)else some false).bind fun h=>
 if h then
 (Ao s2 [I2.mk i0 i2]).bind some
 else
 some s2) (Az (i0+1)) (a.length:Int) s0).bind some) 0 (a.length:Int) []).bind some
def Dc(a:Bb):Option (List I2×List I2):=
 (GV a.m.ff a.po.ff).bind fun b=>
 (GV a.m.gt a.po.gt).bind fun c=>
 some (b,c)
def EC(a:Bb):Option Fp:=
 (ry (fun i0(s0:Fp)=>
 (idx a.m.ff i0).bind fun b=>
 (slices_Contains_int a.po.ff i0).bind fun c=>
 if (!c)then
 (Ao s0 [b]).bind some
 else
 some s0) 0 (a.m.ff.length:Int) []).bind some
def Dy(a:Bb):Option Fp:=
 (EC a).bind fun j=>
 (ry (fun i0(s0:Fp)=>
 (idx a.g.gt i0).bind fun b=>
 (slices_Contains_int a.m.gt i0).bind fun c=>
 (if(!c)then((slices_Contains_int j b.r9).bind fun d=>
 (if d then some true else((slices_Contains_int j b.To).bind some)).bind some)else some false).bind fun h=>
 if h then
 (Ao s0 [i0]).bind some
 else
 some s0) 0 (a.g.gt.length:Int) []).bind some
def HV(n:Int)(a:Fp)(c:Fp):Option Fp:=
 (Kf n false).bind fun d=>
 (ry (fun i0(s0:a5)=>
 (idx a i0).bind fun b=>
 (slices_Contains_int c i0).bind fun e=>
 if (!e)then
 (idx s0 b).bind fun h=>
 some (Bg s0 b true)
 else
 some s0) 0 (a.length:Int) d).bind fun s0=>
 (ry (fun i2(s2:Fp)=>
 (idx s0 i2).bind fun f=>
 if (!f)then
 (Ao s2 [i2]).bind some
 else
 some s2) 0 (s0.length:Int) []).bind some
def FE[Ev](l:fq)(g:fq)(a:At)(m:hT):Option (At×Int):=
 (CG (Bb.mk l g a m)).bind fun b=>
 if (!b=0)then
 some (At.mk [] [],b)
 else
 (Dc (Bb.mk l g a m)).bind fun c=>
 if (0<(Az ((c.1.length:Int)+(c.2.length:Int))):Bool)then
 some (At.mk [] [],15)
 else
 (Dy (Bb.mk l g a m)).bind fun d=>
 if (0<(d.length:Int):Bool)then
 some (At.mk [] [],14)
 else
 (HV (g.ff.length:Int) m.ff a.ff).bind fun e=>
 (HV (g.gt.length:Int) m.gt a.gt).bind fun f=>
 some (At.mk e f,0)
def EN[Ev](t:AB)(p:j0)(c:hV)(d:AF)(m:AM)(a:Bool):QQ:=
 (Dg t p c).bind fun e=>
 if (!e=0)then
 some e
 else
 (Eh t d).bind fun f=>
 if (!f.2=0)then
 some f.2
 else
 (EH t p.fq d.fq m.hT a).bind fun g=>
 if (!g=0)then
 some g
 else
 (Dd t p d m.hT).bind fun b=>
 if (!b.2=0)then
 some b.2
 else
 (slices_Equal_int b.1 m.q0).bind fun h=>
 if (!h)then
 some 11
 else
 some 0
def Ds(l:Fp)(n:Int):Option Fp:=if l.length=1/\0<=n/\n<=4096 then some (List.replicate n.toNat (l.headD 0))else none
def GX(n:Int)(e:Fp)(a:Fp):Option Fp:=
 (Ds [(-1)] n).bind fun c=>
 (ry (fun i0(s0:Fp)=>
 (idx e i0).bind fun b=>
 (idx a i0).bind fun d=>
 (idx s0 b).bind fun f=>
 some (Bg s0 b d)) 0 (e.length:Int) c).bind some
def Lq(l:Option Fp)(i:Int):QQ:=match l with
 |none=>some (-1)|some l=>(Uw l).bind fun _=>(idx l i).bind some
def EM(f:AV)(c:Int)(k:Int):K1:=
 (idx f.p.gt c).bind fun a=>
 (Lq f.pr.gt c).bind fun b=>
 if (0<=b&&(!b=k))then
 some false
 else
 (idx f.g.gt k).bind fun d=>
 (idx f.rf a.r9).bind fun e=>
 (idx f.rf a.To).bind fun h=>
 some (decide (d=(Bh.mk a.rz e h)))
def Ee(f:AV):K1:=
 og (qo (ρ:=Bool) (fun i0 _=>
 (idx f.p.gt i0).bind fun a=>
 if (!(max a.r9 a.To)=(Az ((f.rf.length:Int)-1)))then
 some (.next ())
 else
 og (qo (ρ:=Bool) (fun i2(s2:Bool)=>
 (EM f i0 i2).bind fun b=>
 if b then
 some (.brk true)
 else
 some (.next s2)) 0 (f.g.gt.length:Int) false) (fun s2=>
 if (!s2)then
 some (.ret false)
 else
 some (.next ())) (fun v2=>some (.ret v2))) 0 (f.p.gt.length:Int) ()) (fun _=>
 some true) some
def BX[Ev]:Nat->AV->Option AV
 |0,_=>none|n+1,f=>
  (if((f.out.length:Int)=f.sN:Bool)then
  some f
  else
  if ((f.rf.length:Int)<(f.p.ff.length:Int):Bool)then
  (ry (fun i1(s1:AV)=>
  (idx f.g.ff i1).bind fun u=>
  (Lq s1.pr.ff (f.rf.length:Int)).bind fun e=>
  (if(0<=e&&(!e=i1))then some true else((idx s1.p.ff (f.rf.length:Int)).bind fun v=>
  (idx s1.is v).bind fun w=>
  (idx w u).bind fun x=>
  some (!x))).bind fun h=>
  (if h then some true else((if s1.kq then((slices_Contains_int s1.rf i1).bind some)else some false).bind some)).bind fun k=>
  if k then
  some s1
  else
  (Ao s1.rf [i1]).bind fun c=>
  (Ee (AV.mk s1.p s1.g s1.is s1.pr s1.kq s1.sN c s1.rr s1.out)).bind fun l=>
  if l then
  (BX n (AV.mk s1.p s1.g s1.is s1.pr s1.kq s1.sN c s1.rr s1.out)).bind fun a=>
  (tR a.rf 0 (f.rf.length:Int)).bind fun d=>
  some (AV.mk a.p a.g a.is a.pr a.kq a.sN d a.rr a.out)
  else
  (tR c 0 (f.rf.length:Int)).bind fun d=>
  some (AV.mk s1.p s1.g s1.is s1.pr s1.kq s1.sN d s1.rr s1.out)) 0 (f.g.ff.length:Int) f).bind some
  else
  if ((f.rr.length:Int)<(f.p.gt.length:Int):Bool)then
  (ry (fun i3(s3:AV)=>
  (EM s3 (f.rr.length:Int) i3).bind fun m=>
  (if(!m)then some true else((if s3.kq then((slices_Contains_int s3.rr i3).bind some)else some false).bind some)).bind fun r=>
  if r then
  some s3
  else
  (Ao s3.rr [i3]).bind fun s=>
  (BX n (AV.mk s3.p s3.g s3.is s3.pr s3.kq s3.sN s3.rf s s3.out)).bind fun b=>
  (tR b.rr 0 (f.rr.length:Int)).bind fun t=>
  some (AV.mk b.p b.g b.is b.pr b.kq b.sN b.rf t b.out)) 0 (f.g.gt.length:Int) f).bind some
  else
  (slices_Clone_int f.rf).bind fun y=>
  (slices_Clone_int f.rr).bind fun z=>
  (Ao f.out [hT.mk y z]).bind fun A=>
  some (AV.mk f.p f.g f.is f.pr f.kq f.sN f.rf f.rr A)).bind some
def EL[Ev](f:AV):Option AV:=Ht fun n=>BX n f
def GH[Ev](t:AB)(p:fq)(g:fq)(b:J2)(a:Bool)(c:Int):Option (List hT):=
 (E7 t).bind fun d=>
 (EL (AV.mk p g d b a c [] [] [])).bind fun e=>
 some e.out
def Gl[Ev](t:AB)(p:fq)(g:fq)(b:J2)(a:Bool):Option (List hT×Int):=
 (GH t p g b a 5001).bind fun c=>
 if (5000<(c.length:Int):Bool)then
 some ([],3)
 else
 some (c,0)
def Kw(k:Int)(a:Int):K1:=
 some (k<(-1)||a<=k)
def Fm[Ev](l:Fp)(n:Int):QQ:=
 (A0 l (fun y0=>Kw y0 n)).bind fun a=>
 if a then
 some 6
 else
 some 0
def FL[Ev](t:AB)(p:fq)(g:fq)(a:hT)(b:Bool):Option (List hT×Int):=
 (Dj t p g).bind fun c=>
 if (!c=0)then
 some ([],c)
 else
 if ((!(a.ff.length:Int)=(p.ff.length:Int))||(!(a.gt.length:Int)=(p.gt.length:Int)))then
 some ([],20)
 else
 (Fm a.ff (g.ff.length:Int)).bind fun d=>
 if (!d=0)then
 some ([],d)
 else
 (Fm a.gt (g.gt.length:Int)).bind fun e=>
 if (!e=0)then
 some ([],e)
 else
 (Gl t p g a b).bind fun f=>
 some (f.1,f.2)
def F5(a:rg)(d:Fp):Option (Int×Int):=
 (Cr a.Var (-1) (Az ((d.length:Int)-1))).bind fun b=>
 if (!b)then
 some (0,6)
 else
 (FP a d).bind fun c=>
 some (c,0)
def E3(p:Ax)(q:j0)(m:hT)(b:Fp):Option (Fp×Bool):=
 (slices_Clone_int b).bind fun g=>
 (SQ g (Az (q.q0-(b.length:Int))) 0).bind fun i=>
 (Kf q.q0 false).bind fun j=>
 (ry (fun i0(s0:a5)=>
 (idx s0 i0).bind fun r=>
 some (Bg s0 i0 true)) 0 (b.length:Int) j).bind fun s0=>
 og (qo (ρ:=(Fp×Bool)) (fun i2(s2:Fp×a5)=>
 (idx q.pq i2).bind fun a=>
 (idx m.ff a.sr).bind fun k=>
 (idx p.h.ne k).bind fun l=>
 (idx l a.ri).bind fun d=>
 (if(0<=a.rg.Var:Bool)then((idx s2.2 a.rg.Var).bind fun n=>
 some (!n))else some false).bind fun o=>
 if o then
 (idx s2.1 a.rg.Var).bind fun s=>
 (idx s2.2 a.rg.Var).bind fun t=>
 (F5 a.rg (Bg s2.1 a.rg.Var (Az (d-a.rg.Add)))).bind fun c=>
 if ((!c.2=0)||(!c.1=d))then
 some (.ret ([],false))
 else
 some (.next (Bg s2.1 a.rg.Var (Az (d-a.rg.Add)),Bg s2.2 a.rg.Var true))
 else
 (F5 a.rg s2.1).bind fun c=>
 if ((!c.2=0)||(!c.1=d))then
 some (.ret ([],false))
 else
 some (.next (s2.1,s2.2))) 0 (q.pq.length:Int) (i,s0)) (fun s2=>
 og (qo (ρ:=(Fp×Bool)) (fun i4 _=>
 (idx q.r8 i4).bind fun e=>
 (GZ e s2.1).bind fun f=>
 if (!f)then
 some (.ret ([],false))
 else
 some (.next ())) 0 (q.r8.length:Int) ()) (fun _=>
 some (s2.1,true)) some) some
def By[Ev](b:Ax)(c:hV)(m:AM):Option (List AM×Int):=
 (GX (c.j0.fq.ff.length:Int) c.Map.ff m.hT.ff).bind fun f=>
 (GX (c.j0.fq.gt.length:Int) c.Map.gt m.hT.gt).bind fun g=>
 (FL b.t c.j0.fq b.h.fq (hT.mk f g) b.kq).bind fun a=>
 if (!a.2=0)then
 some ([],a.2)
 else
 (ry (fun i0(s0:List AM)=>
 (idx a.1 i0).bind fun d=>
 (E3 b c.j0 d m.q0).bind fun e=>
 if e.2 then
 (Ao s0 [AM.mk d e.1]).bind some
 else
 some s0) 0 (a.1.length:Int) []).bind fun s0=>
 some (s0,0)
mutual
def Av[Ev]:Nat->Ax->hV->AM->Option (BE×Int)
 |0,_,_,_=>none|n+1,b,c,m=>
  if (c.rt=2:Bool)then
  (idx c.rq 0).bind fun g=>
  (Av n b g m).bind fun e=>
  if (e.2=0:Bool)then
  some (CS,10)
  else
  if (e.2=10:Bool)then
  some (CS,0)
  else
  some (CS,e.2)
  else
  if (c.rt=3:Bool)then
  og (qo (ρ:=(BE×Int)) (fun i2(s2:BE×BE)=>
  (idx c.rq i2).bind fun h=>
  (Av n b h m).bind fun f=>
  if (!f.2=0)then
  some (.ret (CS,f.2))
  else
  (Ao s2.2.rq [f.1]).bind fun i=>
  some (.next (s2.1,BE.mk s2.2.ta s2.2.ru i))) 0 (c.rq.length:Int) (CS,CS)) (fun s2=>
  some (s2.2,0)) some
  else
  if (c.rt=4:Bool)then
  og (qo (ρ:=(BE×Int)) (fun i4(s4:BE)=>
  (idx c.rq i4).bind fun j=>
  (Av n b j m).bind fun a=>
  if (a.2=0:Bool)then
  some (.ret (BE.mk i4 (AM.mk (hT.mk [] []) []) [a.1],0))
  else
  if (!a.2=10)then
  some (.ret (CS,a.2))
  else
  some (.next s4)) 0 (c.rq.length:Int) CS) (fun s4=>
  some (CS,10)) some
  else
  if (c.rt=5:Bool)then
  (BG n b c m).bind fun d=>
  some (d.1,d.2)
  else
  some (CS,0)
def BG[Ev]:Nat->Ax->hV->AM->Option (BE×Int)
 |0,_,_,_=>none|n+1,e,c,m=>
  (By e c m).bind fun a=>
  if (!a.2=0)then
  some (CS,a.2)
  else
  og (qo (ρ:=(BE×Int)) (fun i0(s0:BE)=>
  (idx a.1 i0).bind fun d=>
  (idx c.rq 0).bind fun f=>
  (Av n e f d).bind fun b=>
  if (b.2=0:Bool)then
  some (.ret (BE.mk 0 d [b.1],0))
  else
  if (!b.2=10)then
  some (.ret (CS,b.2))
  else
  some (.next s0)) 0 (a.1.length:Int) CS) (fun s0=>
  some (CS,10)) some
end
def DR[Ev](a:Ax)(c:hV)(m:AM):Option (BE×Int):=Ht fun n=>Av n a c m
def Kl[Ev](a:Ax)(c:hV)(m:AM):Option (BE×Int):=Ht fun n=>BG n a c m
def Dm[Ev](t:AB)(p:j0)(c:hV)(e:AF)(m:AM)(a:Bool):Option (BE×Int):=
 (EN t p c e m a).bind fun b=>
 if (!b=0)then
 some (CS,b)
 else
 (DR (Ax.mk t e a) c m).bind fun d=>
 some (d.1,d.2)
def C7[Ev](t:AB)(p:j0)(c:hV)(d:AF)(m:AM)(a:Bool):Option (Bool×Int):=
 (Dm t p c d m a).bind fun b=>
 if (b.2=10:Bool)then
 some (false,0)
 else
 some (decide (b.2=0),b.2)
def KD(m:AM):Option AM:=
 (slices_Clone_int m.hT.ff).bind fun c=>
 (slices_Clone_int m.hT.gt).bind fun a=>
 (slices_Clone_int m.q0).bind fun b=>
 some (AM.mk (hT.mk c a) b)
def Kx(a:AF):Option AF:=
 (slices_Clone_int a.fq.ff).bind fun f=>
 (Dp a.fq.gt).bind fun b=>
 (ry (fun i0(s0:AF)=>
 (idx a.ne i0).bind fun c=>
 (Ao [] c).bind fun d=>
 (Ao s0.ne [d]).bind fun e=>
 some (AF.mk s0.fq e)) 0 (a.ne.length:Int) (AF.mk (fq.mk f b) [])).bind some
def LN(n:Int)(l:Fp):Option Fp:=
 (Kf n 0).bind fun a=>
 (ry (fun i0(s0:Fp)=>
 (slices_BinarySearch_int l i0).bind fun b=>
 if (!b.2)then
 (idx s0 i0).bind fun c=>
 some (Bg s0 i0 (-1))
 else
 (idx s0 i0).bind fun c=>
 some (Bg s0 i0 b.1)) 0 (a.length:Int) a).bind some
def Ju(d:Int)(f:Fp)(b:Fp)(a:Fp)(c:Fp)(n:Int):Option Fp:=
 (Ds [(-1)] d).bind fun g=>
 (ry (fun i0(s0:Fp)=>
 (idx b i0).bind fun e=>
 (idx f i0).bind fun h=>
 (idx a h).bind fun i=>
 (idx c i).bind fun j=>
 (idx s0 e).bind fun l=>
 some (Bg s0 e j)) 0 (b.length:Int) g).bind fun s0=>
 (ry (fun i2(s2:Int×Fp)=>
 (idx s2.2 i2).bind fun k=>
 if (k<0:Bool)then
 (idx s2.2 i2).bind fun m=>
 some (Az (s2.1+1),Bg s2.2 i2 s2.1)
 else
 some (s2.1,s2.2)) 0 (s0.length:Int) (n,s0)).bind fun s2=>
 some s2.2
def IR[Ev](t:AB)(b:Int):Option Fp:=
 (DZ t b).bind fun a=>
 (ry (fun i0(s0:Fp)=>
 (idx a.1 i0).bind fun c=>
 (Ao s0 [c.uk]).bind some) 0 (a.1.length:Int) []).bind some
def IQ[Ev](t:AB)(a:AT)(d:At):Option AT:=
 (ry (fun i0(s0:AT)=>
 (idx d.ff i0).bind fun f=>
 (idx a.rn.fq.ff f).bind fun r=>
 (Ao s0.r6.fq.ff [r]).bind fun s=>
 (idx a.rn.ne f).bind fun u=>
 (Ao [] u).bind fun v=>
 (Ao s0.r6.ne [v]).bind fun w=>
 some (AT.mk s0.o4 s0.ru s0.rn (AF.mk (fq.mk s s0.r6.fq.gt) w) s0.rx s0.sC)) 0 (d.ff.length:Int) a).bind fun s0=>
 (ry (fun i2(s2:AT)=>
 (idx d.gt i2).bind fun x=>
 (idx a.rn.fq.gt x).bind fun e=>
 (idx s2.rx.ff e.r9).bind fun g=>
 (idx s2.rx.ff e.To).bind fun h=>
 (Ao s2.r6.fq.gt [Bh.mk e.rz g h]).bind fun i=>
 some (AT.mk s2.o4 s2.ru s2.rn (AF.mk (fq.mk s2.r6.fq.ff i) s2.r6.ne) s2.rx s2.sC)) 0 (d.gt.length:Int) s0).bind fun s2=>
 (ry (fun i4(s4:AT)=>
 (idx a.o4.o3.fq.ff i4).bind fun c=>
 (idx s4.sC.ff i4).bind fun j=>
 if (j=(s4.r6.fq.ff.length:Int):Bool)then
 (Ao s4.r6.fq.ff [c]).bind fun k=>
 (IR t c).bind fun l=>
 (Ao s4.r6.ne [l]).bind fun m=>
 some (AT.mk s4.o4 s4.ru s4.rn (AF.mk (fq.mk k s4.r6.fq.gt) m) s4.rx s4.sC)
 else
 some s4) 0 (a.o4.o3.fq.ff.length:Int) s2).bind fun s4=>
 (ry (fun i6(s6:AT)=>
 (idx a.o4.o3.fq.gt i6).bind fun b=>
 (idx s6.sC.gt i6).bind fun n=>
 if (n=(s6.r6.fq.gt.length:Int):Bool)then
 (idx s6.sC.ff b.r9).bind fun o=>
 (idx s6.sC.ff b.To).bind fun p=>
 (Ao s6.r6.fq.gt [Bh.mk b.rz o p]).bind fun q=>
 some (AT.mk s6.o4 s6.ru s6.rn (AF.mk (fq.mk s6.r6.fq.ff q) s6.r6.ne) s6.rx s6.sC)
 else
 some s6) 0 (a.o4.o3.fq.gt.length:Int) s4).bind some
def Tr(s:AT):TV:=.agg ((Cd s).map (·.t))
def Iy(s:AT):Option (Bi×Int):=
 og (qo (ρ:=(Bi×Int)) (fun i0(s0:Bi)=>
 (idx s.o4.o3.pq i0).bind fun a=>
 (F5 a.rg s.ru.q0).bind fun b=>
 if (!b.2=0)then
 some (.ret ([],b.2))
 else
 (idx s.sC.ff a.sr).bind fun c=>
 if ((s0.look (c,a.ri)).isSome&&(!(s0.look (c,a.ri)).getD 0=b.1))then
 some (.ret ([],11))
 else
 some (.next (s0.set (c,a.ri) b.1))) 0 (s.o4.o3.pq.length:Int) []) (fun s0=>some (s0,0)) some
def Ka(s:AT)(V:List Fp):AT:=AT.mk s.o4 s.ru s.rn (AF.mk s.r6.fq V) s.rx s.sC
def KL[Ev](t:AB)(s:AT)(V:List Fp)(p:(Int×Int)×Int):Option (C9 (List Fp) Unit):=
 (idx s.r6.fq.ff p.1.1).bind fun c=>
 (DZ t c).bind fun a=>
 (idx a.1 p.1.2).bind fun d=>
 (if(p.2<d.uk:Bool)then some true else((idx a.1 p.1.2).bind fun e=>
 some (decide (e.tl<p.2)))).bind fun f=>
 if f then
 some (.ret ())
 else
 (idx V p.1.1).bind fun b=>
 (idx b p.1.2).bind fun g=>
 some (.next (Bg V p.1.1 (Bg b p.1.2 p.2)))
def L7[Ev](t:AB)(s:AT)(p:(Int×Int)×Int):K1:=
 (KL t s s.r6.ne p).bind fun c=>match c with|.next _=>some true|.ret _=>some false|.brk _=>none
def JM[Ev](t:AB)(s:AT):Option (Int×AT):=
 (Iy s).bind fun a=>
 if (!a.2=0)then
 some (a.2,s)
 else
 if decide (List.Pairwise (fun x y:(Int×Int)×Int=>x.1≠y.1) a.1)then
 (tU (L7 t s) a.1).bind fun c=>
 if c then
 some (0,Ka s (a.1.foldl D9 s.r6.ne))
 else
 some (6,s)
 else
 none
def Gp[Ev](t:AB)(a:o4)(d:AF)(m:AM):Option (AT×Int):=
 (GI t a d m).bind fun g=>
 if (!g=0)then
 some (GK,g)
 else
 (ES t a.rh.fq d.fq m.hT).bind fun e=>
 if (!e.2=0)then
 some (GK,e.2)
 else
 (FE e.1 d.fq a.sA m.hT).bind fun c=>
 if (!c.2=0)then
 some (GK,c.2)
 else
 (C7 t a.rh a.hV d m a.r7).bind fun f=>
 if (!f.2=0)then
 some (GK,f.2)
 else
 if (!f.1)then
 some (GK,16)
 else
 (KD m).bind fun n=>
 (Kx d).bind fun o=>
 (LN (d.fq.ff.length:Int) c.1.ff).bind fun h=>
 (LN (d.fq.gt.length:Int) c.1.gt).bind fun i=>
 (Ju (a.o3.fq.ff.length:Int) a.sA.ff a.sn.ff m.hT.ff h (c.1.ff.length:Int)).bind fun j=>
 (Ju (a.o3.fq.gt.length:Int) a.sA.gt a.sn.gt m.hT.gt i (c.1.gt.length:Int)).bind fun k=>
 (IQ t (AT.mk a n o (AF.mk (fq.mk [] []) []) (hT.mk h i) (hT.mk j k)) c.1).bind fun l=>
 (JM t l).bind fun b=>
 if (!b.1=0)then
 some (GK,b.1)
 else
 if (40<(b.2.r6.fq.ff.length:Int)||80<(b.2.r6.fq.gt.length:Int))then
 some (GK,3)
 else
 some (b.2,0)
def Fc[Ev](t:AB)(c:o4)(d:AF)(m:AM):Option (AT×Int):=
 (Gq t c d).bind fun a=>
 if (!a=0)then
 some (GK,a)
 else
 (Gp t c d m).bind fun b=>
 some (b.1,b.2)
def Dz[Ev](t:AB)(a:List o4)(d:AF)(m:JO):Option (AT×Int):=
 if (m.o4<0||(a.length:Int)<=m.o4)then
 some (GK,6)
 else
 (idx a m.o4).bind fun c=>
 (Fc t c d m.ru).bind fun b=>
 some (b.1,b.2)
def C5[Ev](t:AB)(a:List o4)(d:B8):Option (List AT×Int×Int):=
 (D0 t a d.sa).bind fun c=>
 if (!c=0)then
 some ([],0,c)
 else
 if (30<(d.sK.length:Int):Bool)then
 some ([],0,3)
 else
 og (qo (ρ:=(List AT×Int×Int)) (fun i0(s0:List AT×AF)=>
 (idx d.sK i0).bind fun e=>
 (Dz t a s0.2 e).bind fun b=>
 if (!b.2=0)then
 some (.ret ([],i0,b.2))
 else
 (Ao s0.1 [b.1]).bind fun f=>
 some (.next (f,b.1.r6))) 0 (d.sK.length:Int) ([],d.sa)) (fun s0=>
 some (s0.1,(s0.1.length:Int),0)) some
def EY(a:hT)(b:hT):K1:=
 (slices_Equal_int a.ff b.ff).bind fun e=>
 (if e then((slices_Equal_int a.gt b.gt).bind some)else some false).bind some
def M8(a:fq)(b:fq):K1:=
 (slices_Equal_int a.ff b.ff).bind fun e=>
 (if e then((Dq a.gt b.gt).bind some)else some false).bind some
def F1(a:List Bw)(b:List Bw):K1:=
 if (!(a.length:Int)=(b.length:Int))then
 some false
 else
 og (qo (ρ:=Bool) (fun i0 _=>
 (idx a i0).bind fun c=>
 (idx b i0).bind fun d=>
 if (!c=d)then
 some (.ret false)
 else
 some (.next ())) 0 (a.length:Int) ()) (fun _=>
 some true) some
def F2(a:List Test)(b:List Test):K1:=
 if (!(a.length:Int)=(b.length:Int))then
 some false
 else
 og (qo (ρ:=Bool) (fun i0 _=>
 (idx a i0).bind fun c=>
 (idx b i0).bind fun d=>
 if (!c=d)then
 some (.ret false)
 else
 some (.next ())) 0 (a.length:Int) ()) (fun _=>
 some true) some
def Gk(a:j0)(b:j0):K1:=
 (M8 a.fq b.fq).bind fun g=>
 (if(g&&a.q0=b.q0)then((F1 a.pq b.pq).bind some)else some false).bind fun d=>
 (if d then((F2 a.r8 b.r8).bind some)else some false).bind some
def B6[Ev](a:List hV)(b:List hV)(f:hV->hV->K1):K1:=
 if (!(a.length:Int)=(b.length:Int))then
 some false
 else
 og (qo (ρ:=Bool) (fun i0 _=>
 (idx a i0).bind fun c=>
 (idx b i0).bind fun d=>
 (f c d).bind fun e=>
 if (!e)then
 some (.ret false)
 else
 some (.next ())) 0 (a.length:Int) ()) (fun _=>
 some true) some
def Ck[Ev]:Nat->hV->hV->K1
 |0,_,_=>none|n+1,a,b=>
  (if(!a.rt=b.rt)then some true else((EY a.Map b.Map).bind fun c=>
  some (!c))).bind fun d=>
  (if(d||(!a.j0.q0=b.j0.q0))then some true else((slices_Equal_int a.j0.fq.ff b.j0.fq.ff).bind fun e=>
  some (!e))).bind fun f=>
  (if f then some true else((Dq a.j0.fq.gt b.j0.fq.gt).bind fun g=>
  some (!g))).bind fun h=>
  if h then
  some false
  else
  (F1 a.j0.pq b.j0.pq).bind fun i=>
  (if i then((F2 a.j0.r8 b.j0.r8).bind some)else some false).bind fun k=>
  (if k then((B6 a.rq b.rq (Ck n)).bind some)else some false).bind some
def H1[Ev](a:hV)(b:hV):K1:=Ht fun n=>Ck n a b
def JH[Ev](a:o4)(b:o4):K1:=
 (if((a.sb==b.sb)&&(a.r7==b.r7))then((Gk a.rh b.rh).bind some)else some false).bind fun d=>
 (if d then((Gk a.o3 b.o3).bind some)else some false).bind fun f=>
 (if f then((slices_Equal_int a.sA.ff b.sA.ff).bind some)else some false).bind fun h=>
 (if h then((slices_Equal_int a.sA.gt b.sA.gt).bind some)else some false).bind fun j=>
 (if j then((EY a.sn b.sn).bind some)else some false).bind fun l=>
 (if l then((H1 a.hV b.hV).bind some)else some false).bind some
def KE(a:AM)(b:AM):K1:=
 (EY a.hT b.hT).bind fun e=>
 (if e then((slices_Equal_int a.q0 b.q0).bind some)else some false).bind some
def JL[Ev](a:AT)(b:AT):K1:=
 (JH a.o4 b.o4).bind fun m=>
 (if m then((KE a.ru b.ru).bind some)else some false).bind fun d=>
 (if d then((DO a.rn b.rn).bind some)else some false).bind fun f=>
 (if f then((DO a.r6 b.r6).bind some)else some false).bind fun h=>
 (if h then((EY a.rx b.rx).bind some)else some false).bind fun j=>
 (if j then((EY a.sC b.sC).bind some)else some false).bind some
def Gn[Ev](t:AB)(a:AT):K1:=
 (Fc t a.o4 a.rn a.ru).bind fun b=>
 (if(b.2=0:Bool)then((JL b.1 a).bind some)else some false).bind some
def Gc[Ev](t:AB)(c:List o4)(a:AT)(b:AT):QQ:=
 (C5 t c Hz).bind fun d=>
 if (!d.2.2=0)then
 some d.2.2
 else
 (Gn t a).bind fun e=>
 (if(!e)then some true else((Gn t b).bind fun f=>
 some (!f))).bind fun g=>
 if g then
 some 1
 else
 (DO a.rn b.rn).bind fun h=>
 if (!h)then
 some 8
 else
 some 0
def DJ(l:Fp)(c:Fp):Option Fp:=
 (ry (fun i0(s0:Fp)=>
 (idx l i0).bind fun a=>
 if (0<=a:Bool)then
 (idx c a).bind fun d=>
 (Ao s0 [d]).bind some
 else
 (Ao s0 [a]).bind some) 0 (l.length:Int) []).bind some
def MP(a:AF):Option AF:=
 (slices_Clone_int a.fq.ff).bind fun f=>
 (Dp a.fq.gt).bind fun b=>
 (ry (fun i0(s0:AF)=>
 (idx a.ne i0).bind fun c=>
 (slices_Clone_int c).bind fun d=>
 (Ao s0.ne [d]).bind fun e=>
 some (AF.mk s0.fq e)) 0 (a.ne.length:Int) (AF.mk (fq.mk f b) [])).bind some
def IA(b:AT)(a:At):Option AU:=
 (MP b.r6).bind fun e=>
 (DJ a.ff b.rx.ff).bind fun c=>
 (DJ a.gt b.rx.gt).bind fun d=>
 some (AU.mk (B8.mk e []) b.r6 (hT.mk c d))
def IP[Ev](t:AB)(p:fq)(g:fq)(a:Bool):Option (List hT×Int):=
 (Dj t p g).bind fun b=>
 if (!b=0)then
 some ([],b)
 else
 (Gl t p g (J2.mk none none) a).bind fun c=>
 some (c.1,c.2)
def Dl[Ev](t:AB)(p:j0)(c:AF)(a:Bool):Option (List AM×Int):=
 (De t p c).bind fun d=>
 if (!d=0)then
 some ([],d)
 else
 (IP t p.fq c.fq a).bind fun b=>
 if (!b.2=0)then
 some ([],b.2)
 else
 (ry (fun i0(s0:List AM)=>
 (idx b.1 i0).bind fun e=>
 (HU p c e).bind fun f=>
 if (f.2=0:Bool)then
 (Ao s0 [AM.mk e f.1]).bind some
 else
 some s0) 0 (b.1.length:Int) []).bind fun s0=>
 some (s0,0)
def ET[Ev](t:AB)(b:o4)(c:AF):Option (List AM×Int):=
 (Gq t b c).bind fun d=>
 if (!d=0)then
 some ([],d)
 else
 (Dl t b.rh c b.r7).bind fun a=>
 if (!a.2=0)then
 some ([],a.2)
 else
 (ry (fun i0(s0:List AM)=>
 (idx a.1 i0).bind fun e=>
 (Gp t b c e).bind fun f=>
 if (f.2=0:Bool)then
 (Ao s0 [e]).bind some
 else
 some s0) 0 (a.1.length:Int) []).bind fun s0=>
 some (s0,0)
def If(a:List JO):Option (List JO):=
 Ao [] a
def HN(a:AU)(c:Int)(b:AT):Option AU:=
 (If a.d.sK).bind fun e=>
 (Ao e [JO.mk c b.ru]).bind fun f=>
 (DJ a.rk.ff b.rx.ff).bind fun g=>
 (DJ a.rk.gt b.rx.gt).bind fun h=>
 some (AU.mk (B8.mk a.d.sa f) b.r6 (hT.mk g h))
def CR[Ev](a:List AU)(f:AU->K1):QQ:=
 og (qo (ρ:=Int) (fun i0 _=>
 (idx a i0).bind fun b=>
 (f b).bind fun c=>
 if c then
 some (.ret i0)
 else
 some (.next ())) 0 (a.length:Int) ()) (fun _=>
 some (-1)) some
def B3[Ev](a:List AU)(f:AU->K1):K1:=
 (CR a f).bind fun b=>
 some (decide (0<=b))
def LA(n:Int)(b:Fp)(c:Fp):Option (Fp×Bool):=
 (Ds [(-1)] n).bind fun d=>
 og (qo (ρ:=(Fp×Bool)) (fun i0(s0:Fp)=>
 (idx b i0).bind fun a=>
 (idx c i0).bind fun e=>
 if (!((decide (a<0))==(decide (e<0))))then
 some (.ret ([],false))
 else
 if (a<0:Bool)then
 some (.next s0)
 else
 (idx s0 a).bind fun f=>
 (if(0<=f:Bool)then((idx s0 a).bind fun g=>
 (idx c i0).bind fun h=>
 some (!g=h))else some false).bind fun i=>
 if i then
 some (.ret ([],false))
 else
 (idx c i0).bind fun j=>
 (idx s0 a).bind fun k=>
 some (.next (Bg s0 a j))) 0 (b.length:Int) d) (fun s0=>
 some (s0,true)) some
def B9[Ev]:Nat->A6->Option (Bool×A6)
 |0,_=>none|n+1,c=>
  if ((c.m.gt.length:Int)=(c.a.fq.gt.length:Int):Bool)then
  some (true,c)
  else
  (idx c.a.fq.gt (c.m.gt.length:Int)).bind fun e=>
  (idx c.m.ff e.r9).bind fun h=>
  (idx c.m.ff e.To).bind fun i=>
  og (qo (ρ:=(Bool×A6)) (fun i0(s0:A6)=>
  (idx c.b.fq.gt i0).bind fun j=>
  (idx s0.rr (c.m.gt.length:Int)).bind fun k=>
  (if(0<=k:Bool)then((idx s0.rr (c.m.gt.length:Int)).bind fun l=>
  some (!l=i0))else some false).bind fun o=>
  (if(o||(!j=(Bh.mk e.rz h i)))then some true else((slices_Contains_int s0.m.gt i0).bind some)).bind fun q=>
  if q then
  some (.next s0)
  else
  (Ao s0.m.gt [i0]).bind fun f=>
  (B9 n (A6.mk s0.a s0.b s0.rf s0.rr (hT.mk s0.m.ff f))).bind fun d=>
  if d.1 then
  some (.ret (true,d.2))
  else
  (tR d.2.m.gt 0 (c.m.gt.length:Int)).bind fun g=>
  some (.next (A6.mk d.2.a d.2.b d.2.rf d.2.rr (hT.mk d.2.m.ff g)))) 0 (c.b.fq.gt.length:Int) c) (fun s0=>
  some (false,s0)) some
def Ft[Ev](a:A6):Option (Bool×A6):=Ht fun n=>B9 n a
def IB(g:fq)(a:Int)(c:Int):QQ:=
 (ry (fun i0(s0:Int)=>
 (idx g.gt i0).bind fun b=>
 if (b.r9=a&&b.To=c)then
 some (Az (s0+1))
 else
 some s0) 0 (g.gt.length:Int) 0).bind some
def HM(c:A6):K1:=
 og (qo (ρ:=Bool) (fun i0 _=>
 (idx c.m.ff i0).bind fun d=>
 (IB c.a.fq i0 (Az ((c.m.ff.length:Int)-1))).bind fun e=>
 (idx c.m.ff (Az ((c.m.ff.length:Int)-1))).bind fun f=>
 (IB c.b.fq d f).bind fun g=>
 (if(!e=g)then some true else((IB c.a.fq (Az ((c.m.ff.length:Int)-1)) i0).bind fun h=>
 (idx c.m.ff (Az ((c.m.ff.length:Int)-1))).bind fun i=>
 (IB c.b.fq i d).bind fun j=>
 some (!h=j))).bind fun k=>
 if k then
 some (.ret false)
 else
 some (.next ())) 0 (c.m.ff.length:Int) ()) (fun _=>
 some true) some
def CA[Ev]:Nat->A6->Option (Bool×A6)
 |0,_=>none|n+1,d=>
  if ((d.m.ff.length:Int)=(d.a.fq.ff.length:Int):Bool)then
  (Ft d).bind fun g=>
  some (g.1,g.2)
  else
  og (qo (ρ:=(Bool×A6)) (fun i0(s0:A6)=>
  (idx d.b.fq.ff i0).bind fun i=>
  (idx s0.rf (d.m.ff.length:Int)).bind fun j=>
  (if(0<=j:Bool)then((idx s0.rf (d.m.ff.length:Int)).bind fun k=>
  some (!k=i0))else some false).bind fun l=>
  (if l then some true else((idx s0.a.fq.ff (d.m.ff.length:Int)).bind fun o=>
  some (!i=o))).bind fun p=>
  (if p then some true else((slices_Contains_int s0.m.ff i0).bind some)).bind fun r=>
  (if r then some true else((idx s0.a.ne (d.m.ff.length:Int)).bind fun s=>
  (idx s0.b.ne i0).bind fun t=>
  (slices_Equal_int s t).bind fun u=>
  some (!u))).bind fun v=>
  if v then
  some (.next s0)
  else
  (Ao s0.m.ff [i0]).bind fun e=>
  (HM (A6.mk s0.a s0.b s0.rf s0.rr (hT.mk e s0.m.gt))).bind fun h=>
  if h then
  (CA n (A6.mk s0.a s0.b s0.rf s0.rr (hT.mk e s0.m.gt))).bind fun c=>
  if c.1 then
  some (.ret (true,c.2))
  else
  (tR c.2.m.ff 0 (d.m.ff.length:Int)).bind fun f=>
  some (.next (A6.mk c.2.a c.2.b c.2.rf c.2.rr (hT.mk f c.2.m.gt)))
  else
  (tR e 0 (d.m.ff.length:Int)).bind fun f=>
  some (.next (A6.mk s0.a s0.b s0.rf s0.rr (hT.mk f s0.m.gt)))) 0 (d.b.fq.ff.length:Int) d) (fun s0=>
  some (false,s0)) some
def Fu[Ev](a:A6):Option (Bool×A6):=Ht fun n=>CA n a
def Ei[Ev](a:AF)(b:AF)(c:hT)(g:hT):Option (hT×Bool):=
 if ((!(a.fq.ff.length:Int)=(b.fq.ff.length:Int))||(!(a.fq.gt.length:Int)=(b.fq.gt.length:Int)))then
 some (hT.mk [] [],false)
 else
 (LA (a.fq.ff.length:Int) c.ff g.ff).bind fun d=>
 (LA (a.fq.gt.length:Int) c.gt g.gt).bind fun e=>
 if ((!d.2)||(!e.2))then
 some (hT.mk [] [],false)
 else
 (Fu (A6.mk a b d.1 e.1 (hT.mk [] []))).bind fun f=>
 some (f.2.m,f.1)
def H9[Ev](a:AU)(y:AU):K1:=
 (Ei a.uu y.uu a.rk y.rk).bind fun b=>
 some b.2
def Gy[Ev](y:AU)(b:AU):K1:=
 (H9 b y).bind some
def Hs[Ev](t:AB)(a:List o4)(f:AU)(e:Int):Option (List AU×Int):=
 og (GO (ρ:=(List AU×Int)) (fun(s0:List AU×Int)=>
 if (s0.2<(s0.1.length:Int):Bool)then
 (idx s0.1 s0.2).bind fun j=>
 if ((j.d.sK.length:Int)=e:Bool)then
 some (.next (s0.1,Az (s0.2+1)))
 else
 og (qo (ρ:=(List AU×Int)) (fun i2(s2:List AU)=>
 (idx a i2).bind fun g=>
 (idx s2 s0.2).bind fun k=>
 (ET t g k.uu).bind fun b=>
 if (!b.2=0)then
 some (.ret ([],b.2))
 else
 og (qo (ρ:=(List AU×Int)) (fun i4(s4:List AU)=>
 (idx b.1 i4).bind fun l=>
 (idx s4 s0.2).bind fun m=>
 (Fc t g m.uu l).bind fun c=>
 if (!c.2=0)then
 some (.ret ([],c.2))
 else
 if (8<(c.1.r6.fq.ff.length:Int):Bool)then
 some (.ret ([],3))
 else
 (idx s4 s0.2).bind fun n=>
 (HN n i2 c.1).bind fun h=>
 (B3 s4 (fun y0=>Gy y0 h)).bind fun o=>
 if o then
 some (.next s4)
 else
 if ((s4.length:Int)=300:Bool)then
 some (.ret ([],3))
 else
 (Ao s4 [h]).bind fun i=>
 some (.next i)) 0 (b.1.length:Int) s2) (fun s4=>
 some (.next s4)) (fun v4=>some (.ret v4))) 0 (a.length:Int) s0.1) (fun s2=>
 some (.next (s2,Az (s0.2+1)))) (fun v2=>some (.ret v2))
 else
 some (.brk (s0.1,s0.2))) ([f],0)) (fun s0=>
 some (s0.1,0)) some
def FB(a:AU):K1:=
 (slices_Contains_int a.rk.ff (-1)).bind fun d=>
 (if d then some true else((slices_Contains_int a.rk.gt (-1)).bind some)).bind some
def I9[Ev](t:AB)(h:List o4)(a:AT)(b:AT)(f:Int)(i:Bool):Option (s8×Int):=
 (Gc t h a b).bind fun m=>
 if (!m=0)then
 some (s8.mk Hz Hz (hT.mk [] []),m)
 else
 if (f<0||4<f)then
 some (s8.mk Hz Hz (hT.mk [] []),6)
 else
 if (8<(a.r6.fq.ff.length:Int)||8<(b.r6.fq.ff.length:Int))then
 some (s8.mk Hz Hz (hT.mk [] []),3)
 else
 (CT a b).bind fun j=>
 if (!j.2=0)then
 some (s8.mk Hz Hz (hT.mk [] []),j.2)
 else
 (IA a j.1).bind fun s=>
 (Hs t h s f).bind fun k=>
 if (!k.2=0)then
 some (s8.mk Hz Hz (hT.mk [] []),k.2)
 else
 (IA b j.1).bind fun u=>
 (Hs t h u f).bind fun l=>
 if (!l.2=0)then
 some (s8.mk Hz Hz (hT.mk [] []),l.2)
 else
 og (qo (ρ:=(s8×Int)) (fun i0(s0:s8)=>
 og (qo (ρ:=(s8×Int)) (fun i2(s2:s8)=>
 (idx k.1 i2).bind fun c=>
 og (qo (ρ:=(s8×Int)) (fun i4(s4:s8)=>
 (idx l.1 i4).bind fun e=>
 (if(!(Az ((c.d.sK.length:Int)+(e.d.sK.length:Int)))=i0)then some true else((if i then((FB c).bind fun n=>
 (if n then some true else((FB e).bind some)).bind some)else some false).bind some)).bind fun r=>
 if r then
 some (.next s4)
 else
 if i then
 (Ei c.uu e.uu c.rk e.rk).bind fun g=>
 if g.2 then
 some (.ret (s8.mk c.d e.d g.1,0))
 else
 some (.next s4)
 else
 (Ei c.uu e.uu (hT.mk [] []) (hT.mk [] [])).bind fun g=>
 if g.2 then
 some (.ret (s8.mk c.d e.d g.1,0))
 else
 some (.next s4)) 0 (l.1.length:Int) s2) (fun s4=>
 some (.next s4)) (fun v4=>some (.ret v4))) 0 (k.1.length:Int) s0) (fun s2=>
 some (.next s2)) (fun v2=>some (.ret v2))) 0 (Az ((Az (2*f))+1)) (s8.mk Hz Hz (hT.mk [] []))) (fun s0=>
 some (s8.mk Hz Hz (hT.mk [] []),10)) some
def Gx[Ev](t:AB)(c:List o4)(a:AT)(b:AT)(d:Int):Option (s8×Int):=
 (I9 t c a b d true).bind fun e=>
 some (e.1,e.2)
def Ge(n:Int):Option Fp:=
 (Kf n 0).bind fun a=>
 (ry (fun i0(s0:Fp)=>
 (idx s0 i0).bind fun b=>
 some (Bg s0 i0 i0)) 0 (a.length:Int) a).bind some
def Do[Ev](g:fq):Option (hT×Int):=
 (Cf g).bind fun c=>
 if (!c=0)then
 some (hT.mk [] [],c)
 else
 (Ge (g.ff.length:Int)).bind fun a=>
 (Ge (g.gt.length:Int)).bind fun b=>
 some (hT.mk a b,0)
def C8[Ev](g:fq):Option hT:=
 (Do g).bind fun a=>
 some a.1
def GY(l:Fp)(c:Fp):Option Fp:=
 (slices_Clone_int l).bind fun d=>
 (ry (fun i0(s0:Fp)=>
 (idx s0 i0).bind fun a=>
 if (0<=a:Bool)then
 (idx c a).bind fun b=>
 (idx s0 i0).bind fun e=>
 some (Bg s0 i0 b)
 else
 some s0) 0 (d.length:Int) d).bind some
def Ic(a:AF):Option AF:=
 (slices_Clone_int a.fq.ff).bind fun f=>
 (Dp a.fq.gt).bind fun b=>
 (ry (fun i0(s0:AF)=>
 (idx a.ne i0).bind fun c=>
 (slices_Clone_int c).bind fun d=>
 (Ao s0.ne [d]).bind fun e=>
 some (AF.mk s0.fq e)) 0 (a.ne.length:Int) (AF.mk (fq.mk f b) [])).bind some
def DL[Ev](t:AB)(c:List o4)(d:B8):Option (AF×hT×Int):=
 (C5 t c d).bind fun a=>
 if (!a.2.2=0)then
 some (AF.mk (fq.mk [] []) [],hT.mk [] [],a.2.2)
 else
 (C8 d.sa.fq).bind fun e=>
 (ry (fun i0(s0:AF×hT)=>
 (idx a.1 i0).bind fun b=>
 (GY s0.2.ff b.rx.ff).bind fun f=>
 (GY s0.2.gt b.rx.gt).bind fun g=>
 some (b.r6,hT.mk f g)) 0 (a.1.length:Int) (d.sa,e)).bind fun s0=>
 (Ic s0.1).bind fun h=>
 some (h,s0.2,0)
def Hj(s:Fp)(n:Int):Option Fp:=if s=[]/\0<=n/\n<=CX then some []else none
def Fy(a:List Fp):Option Fp:=
 (ry (fun i0(s0:Int)=>
 (idx a i0).bind fun b=>
 if ((Az (s0+(b.length:Int)))<0:Bool)then
 none
 else
 some (Az (s0+(b.length:Int)))) 0 (a.length:Int) 0).bind fun s0=>
 (Hj [] s0).bind fun c=>
 (ry (fun i2(s2:Fp)=>
 (idx a i2).bind fun d=>
 (Ao s2 d).bind some) 0 (a.length:Int) c).bind some
def slices_Min_int(a:Fp):QQ:=
 if ((a.length:Int)<1:Bool)then
 none
 else
 (idx a 0).bind fun b=>
 (ry (fun i0(s0:Int)=>
 (idx a i0).bind fun c=>
 some (min s0 c)) 1 (a.length:Int) b).bind some
def Hq(k:Int)(a:AF):K1:=
 some (decide ((a.fq.ff.length:Int)<=k))
def Hr(k:Int)(a:AF):K1:=
 some (decide ((a.fq.gt.length:Int)<=k))
def JX(n:Int):Option Fp:=
 (ry (fun i0(s0:Fp)=>
 (Ao s0 [i0]).bind some) 0 n []).bind some
def D2[Ev](a:AF)(b:AF)(m:hT):K1:=
 if ((!(m.ff.length:Int)=(a.fq.ff.length:Int))||(!(m.gt.length:Int)=(a.fq.gt.length:Int)))then
 some false
 else
 (Fy [m.ff,m.gt]).bind fun d=>
 (Ao d [0]).bind fun e=>
 (slices_Min_int e).bind fun f=>
 if (f<0:Bool)then
 some false
 else
 (A0 m.ff (fun y0=>Hq y0 b)).bind fun g=>
 (if g then some true else((A0 m.gt (fun y0=>Hr y0 b)).bind some)).bind fun i=>
 if i then
 some false
 else
 (JX (m.ff.length:Int)).bind fun j=>
 (JX (m.gt.length:Int)).bind fun k=>
 (Ei a b (hT.mk j k) m).bind fun c=>
 (if c.2 then((slices_Equal_int c.1.ff m.ff).bind some)else some false).bind fun n=>
 (if n then((slices_Equal_int c.1.gt m.gt).bind some)else some false).bind some
def H8[Ev](t:AB)(c:List o4)(a:AT)(b:AT)(j:s8):Option (Bool×Bool):=
 (Gc t c a b).bind fun v=>
 (if(!v=0)then some true else((DO j.rh.sa a.r6).bind fun w=>
 some (!w))).bind fun x=>
 (if x then some true else((DO j.o3.sa b.r6).bind fun y=>
 some (!y))).bind fun z=>
 if z then
 some (false,false)
 else
 (DL t c j.rh).bind fun d=>
 (DL t c j.o3).bind fun e=>
 (if((!d.2.2=0)||(!e.2.2=0))then some true else((D2 d.1 e.1 j.vr).bind fun A=>
 some (!A))).bind fun B=>
 if B then
 some (false,false)
 else
 (CT a b).bind fun i=>
 (IA a i.1).bind fun k=>
 (IA b i.1).bind fun l=>
 (DJ k.rk.ff d.2.1.ff).bind fun m=>
 (DJ k.rk.gt d.2.1.gt).bind fun f=>
 (DJ l.rk.ff e.2.1.ff).bind fun g=>
 (DJ l.rk.gt e.2.1.gt).bind fun h=>
 (Fy [m,f,g,h]).bind fun n=>
 (slices_Contains_int n (-1)).bind fun o=>
 if o then
 some (true,false)
 else
 (DJ m j.vr.ff).bind fun p=>
 (slices_Equal_int p g).bind fun q=>
 (if q then((DJ f j.vr.gt).bind fun r=>
 (slices_Equal_int r h).bind some)else some false).bind fun u=>
 some (true,u)
def DC[Ev]:K1:=
 (Kr).bind fun c=>
 (LB).bind fun d=>
 (LB).bind fun g=>
 (ND).bind fun h=>
 (HH c g h 2).bind fun a=>
 if (!(a.length:Int)=2)then
 some false
 else
 (idx a 0).bind fun i=>
 (idx a 1).bind fun j=>
 (Gx c [d] i j 1).bind fun b=>
 (idx a 0).bind fun k=>
 (idx a 1).bind fun l=>
 (H8 c [d] k l b.1).bind fun e=>
 (idx a 0).bind fun m=>
 (idx a 1).bind fun n=>
 (CT m n).bind fun f=>
 (if((b.2=0&&(b.1.rh.sK.length:Int)=1)&&(b.1.o3.sK.length:Int)=1)then((slices_Equal_int b.1.vr.ff [0,1,2]).bind some)else some false).bind fun p=>
 some ((((p&&e.1)&&e.2)&&f.2=0)&&(f.1.ff.length:Int)=3)
def MF(g:fq):K1:=
 some ((g.ff.length:Int)<=45&&(g.gt.length:Int)<=90)
def JE(a:AF):K1:=
 (MF a.fq).bind fun c=>
 if ((!c)||45<(a.ne.length:Int))then
 some false
 else
 og (qo (ρ:=Bool) (fun i0 _=>
 (idx a.ne i0).bind fun b=>
 if (12<(b.length:Int):Bool)then
 some (.ret false)
 else
 some (.next ())) 0 (a.ne.length:Int) ()) (fun _=>
 some true) some
def Ew(a:Fp)(b:Fp):K1:=
 if (!(a.length:Int)=(b.length:Int))then
 some false
 else
 og (qo (ρ:=Bool) (fun i0 _=>
 (idx a i0).bind fun c=>
 (idx b i0).bind fun d=>
 if (!c=d)then
 some (.ret false)
 else
 some (.next ())) 0 (a.length:Int) ()) (fun _=>
 some true) some
def Ji(a:fq)(b:fq):K1:=
 (Ew a.ff b.ff).bind fun c=>
 if ((!c)||(!(a.gt.length:Int)=(b.gt.length:Int)))then
 some false
 else
 og (qo (ρ:=Bool) (fun i0 _=>
 (idx a.gt i0).bind fun d=>
 (idx b.gt i0).bind fun e=>
 if (!d=e)then
 some (.ret false)
 else
 some (.next ())) 0 (a.gt.length:Int) ()) (fun _=>
 some true) some
def Gu[Ev](a:Fp)(b:Fp):QQ:=
 og (GO (ρ:=Int) (fun(s0:Int)=>
 if (s0<(a.length:Int)&&s0<(b.length:Int))then
 (idx a s0).bind fun c=>
 (idx b s0).bind fun d=>
 if (!c=d)then
 (idx a s0).bind fun e=>
 (idx b s0).bind fun f=>
 some (.ret (Az (e-f)))
 else
 some (.next (Az (s0+1)))
 else
 some (.brk s0)) 0) (fun s0=>
 some (Az ((a.length:Int)-(b.length:Int)))) some
def Jm[Ev](a:AF)(b:AF):K1:=
 (Ji a.fq b.fq).bind fun c=>
 if ((!c)||(!(a.ne.length:Int)=(b.ne.length:Int)))then
 some false
 else
 og (qo (ρ:=Bool) (fun i0 _=>
 (idx a.ne i0).bind fun d=>
 (idx b.ne i0).bind fun e=>
 (Gu d e).bind fun f=>
 if (!f=0)then
 some (.ret false)
 else
 some (.next ())) 0 (a.ne.length:Int) ()) (fun _=>
 some true) some
def GE[Ev](a:AT)(b:AT):Option (At×Int):=
 (Jm a.rn b.rn).bind fun f=>
 if (((((!f)||(!(a.rx.ff.length:Int)=(a.rn.fq.ff.length:Int)))||(!(b.rx.ff.length:Int)=(a.rn.fq.ff.length:Int)))||(!(a.rx.gt.length:Int)=(a.rn.fq.gt.length:Int)))||(!(b.rx.gt.length:Int)=(a.rn.fq.gt.length:Int)))then
 some (At.mk [] [],8)
 else
 (ry (fun i0(s0:At)=>
 (idx a.rx.ff i0).bind fun g=>
 (if(0<=g:Bool)then((idx b.rx.ff i0).bind fun h=>
 some (decide (0<=h)))else some false).bind fun i=>
 if i then
 (Ao s0.ff [i0]).bind fun j=>
 some (At.mk j s0.gt)
 else
 some s0) 0 (a.rn.fq.ff.length:Int) (At.mk [] [])).bind fun s0=>
 (ry (fun i2(s2:At)=>
 (idx a.rx.gt i2).bind fun k=>
 (if(0<=k:Bool)then((idx b.rx.gt i2).bind fun c=>
 some (decide (0<=c)))else some false).bind fun d=>
 if d then
 (Ao s2.gt [i2]).bind fun e=>
 some (At.mk s2.ff e)
 else
 some s2) 0 (a.rn.fq.gt.length:Int) s0).bind fun s2=>
 some (s2,0)
def Jk(p:At)(q:At):K1:=
 (Ew p.ff q.ff).bind fun c=>
 (if c then((Ew p.gt q.gt).bind some)else some false).bind some
def Gd[Ev](a:AT)(b:AT):K1:=
 (DC).bind fun l=>
 (if(!l)then some true else((JE a.rn).bind fun e=>
 some (!e))).bind fun f=>
 (if f then some true else((JE b.rn).bind fun g=>
 some (!g))).bind fun h=>
 if ((h||140<(Az ((a.rx.ff.length:Int)+(a.rx.gt.length:Int))))||140<(Az ((b.rx.ff.length:Int)+(b.rx.gt.length:Int))))then
 (DC).bind some
 else
 (CT a b).bind fun c=>
 (GE a b).bind fun d=>
 (if(c.2=d.2:Bool)then((Jk c.1 d.1).bind some)else some false).bind some
end
end Go.Sf.Sc
