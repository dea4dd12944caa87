/- The functions of the program as Lean functions. -/
import Derived.Test.YthhobbgaejimgaaGreatDoorTypes
import Derived.Test.YthhobbgaejimgaaGreatDoorSfText
import Derived.Test.YthhobbgaejimgaaGreatDoorSfF
set_option linter.all false
set_option maxRecDepth 100000
namespace Go.Sf.Sc
open Go Go.Sf
noncomputable section
abbrev Iu:BB:=BB.mk (ns.mk (⟨#[]⟩:ByteArray) (j4.mk (hT.mk [] []) [] 0 []) (j4.mk (hT.mk [] []) [] 0 []) (Bw.mk [] []) (gt.mk [] []) false (j0.mk 0 [] (gt.mk [] []) (j4.mk (hT.mk [] []) [] 0 []))) (AP.mk (gt.mk [] []) []) (AM.mk (hT.mk [] []) []) (AM.mk (hT.mk [] []) []) (gt.mk [] []) (gt.mk [] [])
abbrev E7:Be:=Be.mk 0 (AP.mk (gt.mk [] []) []) []
abbrev HO:AL:=AL.mk (AM.mk (hT.mk [] []) []) []
def CQ[Ev](a:Fp)(f:Int->K1):QQ:=
 o4 (rb (ρ:=Int) (fun i0 _=>
 (idx a i0).bind fun b=>
 (f b).bind fun c=>
 if c then
 some (.ret i0)
 else
 some (.next ())) 0 (a.length:Int) ()) (fun _=>
 some (-1)) some
def Aq[Ev](a:Fp)(f:Int->K1):K1:=
 (CQ a f).bind fun b=>
 some (decide (0<=b))
def Cs(n:Int)(a:Int):K1:=
 some (n<a||999999999<n)
def Ck[Ev](l:Fp)(a:Int):K1:=
 (Aq l (fun y0=>Cs y0 a)).bind some
def strconv_Itoa(i:Int):Option ByteArray:=if 0<=i/\i<100 then some (RT i.toNat)else if 0<=i/\i<=999999999 then some ⟨(Go.Lib.decDigits i.toNat).toArray⟩else none
def BL(l:Fp):Option ByteArray:=
 (rz (fun i0(s0:ByteArray)=>
 (idx l i0).bind fun a=>
 if (a<0:Bool)then
 (strconv_Itoa (AW (-a))).bind fun b=>
 (Cy (⟨#[32,45,32]⟩:ByteArray) b).bind fun c=>
 (Cy s0 c).bind some
 else
 (strconv_Itoa a).bind fun e=>
 (Cy (⟨#[32]⟩:ByteArray) e).bind fun f=>
 (Cy s0 f).bind some) 0 (l.length:Int) (⟨#[40]⟩:ByteArray)).bind fun s0=>
 (Cy s0 (⟨#[32,41]⟩:ByteArray)).bind some
def Ef(l:Fp)(a:Int):Bool:=l.any fun n=>decide (n<a)||decide (999999999<n)
def B1(m:BW):Int:=
 if 40<m.kx.gt.fq.length\/80<m.kx.gt.jj.length\/12<m.kx.qy.length then 3
 else if Ef [m.ns] 0=true\/Ef m.kx.gt.fq 0=true\/Ef m.kx.gt.jj 0=true\/Ef m.kx.qy (-999999999)then 6 else 0
def HE(m:BW):Option ByteArray:=
 (strconv_Itoa m.ns).bind fun s=>(BL m.kx.gt.fq).bind fun t=>(BL m.kx.gt.jj).bind fun u=>(BL m.kx.qy).bind fun v=>
  let o:ByteArray:=((((((((⟨#[109,111,118,101,32]⟩:ByteArray)++s)++(⟨#[32]⟩:ByteArray))++t)++(⟨#[32]⟩:ByteArray))++u)++(⟨#[32]⟩:ByteArray))++v)++(⟨#[32,59,10]⟩:ByteArray)
  if o.size<=10000 then some o else none
def DZ(r:List BW)(l:List UInt8):Option (List UInt8×Int):=
 r.foldr (fun m k l=>if B1 m=0 then(HE m).bind fun o=>k (l++o.data.toList)else some ([],B1 m)) (fun l=>some (l,0)) l
def C1(d:AL):Option (ByteArray×Int):=
 if d.po.length<=30 then(DZ d.po []).map fun p=>(⟨p.1.toArray⟩,p.2)else some (⟨#[]⟩,3)
def Gd:Option AB:=
 some (AB.mk [BO.mk (⟨#[65,99,99,111,117,110,116]⟩:ByteArray) (-1) true [rc.mk (⟨#[98,97,108,97,110,99,101]⟩:ByteArray) (-1000) 1000 []],BO.mk (⟨#[67,97,115,104]⟩:ByteArray) 0 false [],BO.mk (⟨#[76,111,97,110]⟩:ByteArray) 0 false [rc.mk (⟨#[115,116,97,116,101]⟩:ByteArray) 0 1 [(⟨#[111,112,101,110]⟩:ByteArray),(⟨#[99,108,111,115,101,100]⟩:ByteArray)]],BO.mk (⟨#[80,101,114,115,111,110]⟩:ByteArray) (-1) false []] [Bg.mk (⟨#[111,119,110,115]⟩:ByteArray) 3 0 0 (-1) 1 1,Bg.mk (⟨#[112,97,121,115]⟩:ByteArray) 1 1 0 (-1) 0 (-1)])
def slices_Clone_int(a:Fp):Option Fp:=
 Am [] a
def Dk(a:List B0):Option (List B0):=
 Am [] a
def CH(a:AM):Option AM:=
 (slices_Clone_int a.hT.fq).bind fun f=>
 (Dk a.hT.jj).bind fun b=>
 (rz (fun i0(s0:AM)=>
 (idx a.og i0).bind fun c=>
 (slices_Clone_int c).bind fun d=>
 (Am s0.og [d]).bind fun e=>
 some (AM.mk s0.hT e)) 0 (a.og.length:Int) (AM.mk (hT.mk f b) [])).bind some
def Dn[Ev](a:ByteArray)(e:Int->K1):QQ:=
 o4 (E5 (ρ:=Int) (fun(s0:Int)=>
 (if(s0<(a.size:Int):Bool)then((rP a s0).bind fun b=>
 (e b).bind some)else some false).bind fun d=>
 if d then
 some (.next (AW (s0+1)))
 else
 some (.brk s0)) 0) some some
def HM(c:Int):K1:=
 some (97<=c&&c<=122||(65<=c&&c<=90))
def Gl(c:Int):K1:=
 some (48<=c&&c<=57)
def Ir(c:Int):K1:=
 (HM c).bind fun a=>
 (if a then some true else((Gl c).bind some)).bind fun d=>
 some (d||c=95)
def He(c:Int):K1:=
 some ((32<=c&&c<=126)&&(!c=34))
def EH[Ev](a:ByteArray):Option (Int×Int):=
 (rR a 1 a.size).bind fun e=>
 (Dn e He).bind fun b=>
 (if((AW (1+b))=(a.size:Int):Bool)then some true else((rP a (AW (1+b))).bind fun c=>
 some (!c=34))).bind fun d=>
 if d then
 some (0,2)
 else
 if (60<b:Bool)then
 some (0,3)
 else
 some (AW (b+2),0)
def slices_Index_string(a:List ByteArray)(c:ByteArray):QQ:=
 o4 (rb (ρ:=Int) (fun i0 _=>
 (idx a i0).bind fun b=>
 if (c==b)then
 some (.ret i0)
 else
 some (.next ())) 0 (a.length:Int) ()) (fun _=>
 some (-1)) some
def slices_Contains_string(a:List ByteArray)(b:ByteArray):K1:=
 (slices_Index_string a b).bind fun c=>
 some (decide (0<=c))
def Iq(a:ByteArray):K1:=
 (if(2<=(a.size:Int):Bool)then((rR a 0 2).bind fun d=>
 (slices_Contains_string [(⟨#[45,62]⟩:ByteArray),(⟨#[60,61]⟩:ByteArray),(⟨#[62,61]⟩:ByteArray),(⟨#[61,61]⟩:ByteArray),(⟨#[33,61]⟩:ByteArray)] d).bind some)else some false).bind some
def strings_IndexByte(s:ByteArray)(c:Int):QQ:=some (Go.Lib.indexByte s.data.toList c.toNat.toUInt8)
def D9[Ev](a:ByteArray):Option (Int×Int×Int):=
 (rP a 0).bind fun b=>
 (HM b).bind fun f=>
 if f then
 (Dn a Ir).bind fun c=>
 if (20<c:Bool)then
 some (0,0,3)
 else
 some (1,c,0)
 else
 (Gl b).bind fun g=>
 if g then
 (Dn a Gl).bind fun d=>
 if (9<d:Bool)then
 some (0,0,3)
 else
 some (2,d,0)
 else
 if (b=34:Bool)then
 (EH a).bind fun e=>
 some (3,e.1,e.2)
 else
 (Iq a).bind fun h=>
 if h then
 some (4,2,0)
 else
 (strings_IndexByte (⟨#[123,125,40,41,91,93,44,59,58,61,43,45,42,60,62,33,38,124,46,63]⟩:ByteArray) b).bind fun i=>
 if (0<=i:Bool)then
 some (4,1,0)
 else
 some (0,0,2)
def DB[Ev](t:AY):Option (ByteArray×Bool):=
 (if(t.rh=3:Bool)then
 (Cy (⟨#[34]⟩:ByteArray) t.sn).bind fun b=>
 (Cy b (⟨#[34]⟩:ByteArray)).bind some
 else
 some t.sn).bind fun w1=>
 if (w1==(⟨#[]⟩:ByteArray))then
 some ((⟨#[]⟩:ByteArray),false)
 else
 (D9 w1).bind fun a=>
 some (w1,(a.2.2=0&&a.1=t.rh)&&a.2.1=(w1.size:Int))
def DA[Ev](a:ByteArray):K1:=
 (DB (AY.mk 1 a 0)).bind fun b=>
 some b.2
def CE[Ev](a:List BO)(f:BO->K1):QQ:=
 o4 (rb (ρ:=Int) (fun i0 _=>
 (idx a i0).bind fun b=>
 (f b).bind fun c=>
 if c then
 some (.ret i0)
 else
 some (.next ())) 0 (a.length:Int) ()) (fun _=>
 some (-1)) some
def Bt[Ev](a:List BO)(f:BO->K1):K1:=
 (CE a f).bind fun b=>
 some (decide (0<=b))
def Kl(m:BO)(a:BO):K1:=
 some (m.ru==a.ru)
def Dd[Ev]:Nat->AB->Int->Option (List rc)
 |0,_,_=>none|n+1,t,a=>
  (idx t.fq a).bind fun b=>
  (if(0<=b.sw:Bool)then
  (Dd n t b.sw).bind some
  else
  some []).bind fun w1=>
  (idx t.fq a).bind fun d=>
  (Am w1 d.sc).bind some
def Hz[Ev](t:AB)(a:Int):Option (List rc):=KV fun n=>Dd n t a
def Cf[Ev](a:List rc)(f:rc->K1):QQ:=
 o4 (rb (ρ:=Int) (fun i0 _=>
 (idx a i0).bind fun b=>
 (f b).bind fun c=>
 if c then
 some (.ret i0)
 else
 some (.next ())) 0 (a.length:Int) ()) (fun _=>
 some (-1)) some
def CL[Ev](a:List rc)(f:rc->K1):K1:=
 (Cf a f).bind fun b=>
 some (decide (0<=b))
def Hs(y:rc)(a:rc):K1:=
 some (y.ru==a.ru)
def Gn[Ev](l:List ByteArray):QQ:=
 if (20<(l.length:Int):Bool)then
 some 3
 else
 o4 (rb (ρ:=Int) (fun i0 _=>
 (idx l i0).bind fun a=>
 (DA a).bind fun b=>
 if (!b)then
 some (.ret 2)
 else
 (tw l 0 i0).bind fun c=>
 (slices_Contains_string c a).bind fun d=>
 if d then
 some (.ret 5)
 else
 some (.next ())) 0 (l.length:Int) ()) (fun _=>
 some 0) some
def ES[Ev](a:rc)(b:List rc):QQ:=
 (DA a.ru).bind fun d=>
 if (!d)then
 some 2
 else
 (CL b (fun y0=>Hs y0 a)).bind fun e=>
 if e then
 some 5
 else
 (Gn a.se).bind fun c=>
 if (!c=0)then
 some c
 else
 (if(0<(a.se.length:Int):Bool)then
 some (a.tU=0&&a.sO=(AW ((a.se.length:Int)-1)))
 else
 some (((-1000000)<=a.tU&&a.tU<=a.sO)&&a.sO<=1000000)).bind fun w1=>
 if (!w1)then
 some 6
 else
 some 0
def Hh[Ev](t:AB)(c:Int):QQ:=
 (idx t.fq c).bind fun a=>
 (DA a.ru).bind fun e=>
 if (!e)then
 some 2
 else
 (tw t.fq 0 c).bind fun f=>
 (Bt f (fun y0=>Kl y0 a)).bind fun g=>
 if g then
 some 5
 else
 if (a.sw<(-1)||c<=a.sw)then
 some 6
 else
 if (4<(a.sc.length:Int):Bool)then
 some 3
 else
 (Hz t c).bind fun b=>
 if (8<(b.length:Int):Bool)then
 some 3
 else
 o4 (rb (ρ:=Int) (fun i1 _=>
 (idx b i1).bind fun h=>
 (tw b 0 i1).bind fun i=>
 (ES h i).bind fun d=>
 if (!d=0)then
 some (.ret d)
 else
 some (.next ())) (AW ((b.length:Int)-(a.sc.length:Int))) (b.length:Int) ()) (fun _=>
 some 0) some
def Is(n:Int)(a:AB):K1:=
 some (0<=n&&n<(a.fq.length:Int))
def CD[Ev](a:List Bg)(f:Bg->K1):QQ:=
 o4 (rb (ρ:=Int) (fun i0 _=>
 (idx a i0).bind fun b=>
 (f b).bind fun c=>
 if c then
 some (.ret i0)
 else
 some (.next ())) 0 (a.length:Int) ()) (fun _=>
 some (-1)) some
def Bs[Ev](a:List Bg)(f:Bg->K1):K1:=
 (CD a f).bind fun b=>
 some (decide (0<=b))
def Kk(y:Bg)(a:Bg):K1:=
 some (y.ru==a.ru)
def H6(b:Int)(a:Int):K1:=
 some ((0<=b&&b<=40)&&(a=(-1)||(b<=a&&a<=40)))
def Hf[Ev](t:AB)(c:Int):QQ:=
 (idx t.jj c).bind fun a=>
 (DA a.ru).bind fun d=>
 if (!d)then
 some 2
 else
 (tw t.jj 0 c).bind fun e=>
 (Bs e (fun y0=>Kk y0 a)).bind fun f=>
 if f then
 some 5
 else
 (Is a.rA t).bind fun g=>
 (if(!g)then some true else((Is a.To t).bind fun h=>
 some (!h))).bind fun b=>
 (if b then
 some b
 else
 (H6 a.ug a.tI).bind fun i=>
 (if(!i)then some true else((H6 a.uG a.ud).bind fun j=>
 some (!j))).bind some).bind fun w1=>
 if w1 then
 some 6
 else
 some 0
def Bp[Ev](t:AB):Option (ByteArray×Int):=
 if ((t.fq.length:Int)=0:Bool)then
 some ((⟨#[]⟩:ByteArray),7)
 else
 if (12<(t.fq.length:Int)||20<(t.jj.length:Int))then
 some ((⟨#[]⟩:ByteArray),3)
 else
 o4 (rb (ρ:=(ByteArray×Int)) (fun i1 _=>
 (idx t.fq i1).bind fun c=>
 (Hh t i1).bind fun a=>
 if (!a=0)then
 some (.ret (c.ru,a))
 else
 some (.next ())) 0 (t.fq.length:Int) ()) (fun _=>
 o4 (rb (ρ:=(ByteArray×Int)) (fun i3 _=>
 (idx t.jj i3).bind fun d=>
 (Hf t i3).bind fun b=>
 if (!b=0)then
 some (.ret (d.ru,b))
 else
 some (.next ())) 0 (t.jj.length:Int) ()) (fun _=>
 some ((⟨#[]⟩:ByteArray),0)) some) some
def Fm(n:Int)(a:Int):K1:=
 some (0<=n&&n<=a)
def Jn(t:Int):K1:=
 (Fm t 99).bind fun a=>
 some (!a)
def Cg[Ev](a:List B0)(f:B0->K1):QQ:=
 o4 (rb (ρ:=Int) (fun i0 _=>
 (idx a i0).bind fun b=>
 (f b).bind fun c=>
 if c then
 some (.ret i0)
 else
 some (.next ())) 0 (a.length:Int) ()) (fun _=>
 some (-1)) some
def BT[Ev](a:List B0)(f:B0->K1):K1:=
 (Cg a f).bind fun b=>
 some (decide (0<=b))
def Mj(e:B0)(a:Int):K1:=
 (Fm e.rx 99).bind fun g=>
 (if g then((Fm e.rA (AW (a-1))).bind some)else some false).bind fun c=>
 (if c then((Fm e.To (AW (a-1))).bind some)else some false).bind some
def Jo(e:B0)(b:hT):K1:=
 (Mj e (b.fq.length:Int)).bind fun a=>
 some (!a)
def CX[Ev](g:hT):QQ:=
 if (40<(g.fq.length:Int)||80<(g.jj.length:Int))then
 some 3
 else
 (Aq g.fq Jn).bind fun a=>
 if a then
 some 6
 else
 (BT g.jj (fun y0=>Jo y0 g)).bind fun b=>
 if b then
 some 6
 else
 some 0
def Jw(a:Int)(b:AB):K1:=
 some (a<0||(b.fq.length:Int)<=a)
def Em[Ev](t:AB)(l:Fp):QQ:=
 (Bp t).bind fun b=>
 if (!b.2=0)then
 some b.2
 else
 (Aq l (fun y0=>Jw y0 t)).bind fun a=>
 if a then
 some 6
 else
 some 0
def slices_Clone_string(a:List ByteArray):Option (List ByteArray):=
 Am [] a
def DP[Ev](t:AB)(a:Int):Option (List rc×Int):=
 (Em t [a]).bind fun c=>
 if (!c=0)then
 some ([],c)
 else
 (Hz t a).bind fun d=>
 (rz (fun i0(s0:List rc)=>
 (idx s0 i0).bind fun e=>
 (slices_Clone_string e.se).bind fun f=>
 (idx s0 i0).bind fun b=>
 some (CN s0 i0 (rc.mk b.ru b.tU b.sO f))) 0 (d.length:Int) d).bind fun s0=>
 some (s0,0)
def IF[Ev](t:AB)(a:Int)(h:Fp):QQ:=
 if ((t.fq.length:Int)<=a:Bool)then
 some 6
 else
 (idx t.fq a).bind fun d=>
 if d.sL then
 some 13
 else
 (DP t a).bind fun b=>
 if (!(h.length:Int)=(b.1.length:Int))then
 some 20
 else
 o4 (rb (ρ:=Int) (fun i0 _=>
 (idx b.1 i0).bind fun c=>
 (idx h i0).bind fun e=>
 (if(e<c.tU:Bool)then some true else((idx h i0).bind fun f=>
 some (decide (c.sO<f)))).bind fun g=>
 if g then
 some (.ret 6)
 else
 some (.next ())) 0 (b.1.length:Int) ()) (fun _=>
 some 0) some
def slices_Index_int(a:Fp)(c:Int):QQ:=
 o4 (rb (ρ:=Int) (fun i0 _=>
 (idx a i0).bind fun b=>
 if (c=b:Bool)then
 some (.ret i0)
 else
 some (.next ())) 0 (a.length:Int) ()) (fun _=>
 some (-1)) some
def slices_Contains_int(a:Fp)(b:Int):K1:=
 (slices_Index_int a b).bind fun c=>
 some (decide (0<=c))
def slices_Reverse_int(l:Fp):Option Fp:=if l.length<=Br then some l.reverse else none
def Hg[Ev](t:AB)(a:Int):Option Fp:=
 o4 (E5 (ρ:=Fp) (fun(s0:Int×Fp)=>
 if (0<=s0.1:Bool)then
 (Am s0.2 [s0.1]).bind fun b=>
 (idx t.fq s0.1).bind fun c=>
 some (.next (c.sw,b))
 else
 some (.brk (s0.1,s0.2))) (a,[])) (fun s0=>
 (slices_Reverse_int s0.2).bind some) some
def HN[Ev](t:AB)(a:Int)(b:Int):K1:=
 (Hg t a).bind fun d=>
 (slices_Contains_int d b).bind some
def GZ[Ev](t:AB)(a:Int)(b:Int)(c:Int):K1:=
 (Em t [b,c]).bind fun d=>
 if (((!d=0)||a<0)||(t.jj.length:Int)<=a)then
 some false
 else
 (idx t.jj a).bind fun e=>
 (HN t b e.rA).bind fun f=>
 (if f then((idx t.jj a).bind fun g=>
 (HN t c g.To).bind some)else some false).bind some
def Cd[Ev](t:AB)(a:AM):Option (Int×Int):=
 (Bp t).bind fun c=>
 if (!c.2=0)then
 some ((-1),c.2)
 else
 (CX a.hT).bind fun d=>
 if (!d=0)then
 some ((-1),d)
 else
 if (!(a.og.length:Int)=(a.hT.fq.length:Int))then
 some ((-1),20)
 else
 o4 (rb (ρ:=(Int×Int)) (fun i0 _=>
 (idx a.hT.fq i0).bind fun f=>
 (idx a.og i0).bind fun g=>
 (IF t f g).bind fun e=>
 if (!e=0)then
 some (.ret (i0,e))
 else
 some (.next ())) 0 (a.hT.fq.length:Int) ()) (fun _=>
 o4 (rb (ρ:=(Int×Int)) (fun i2 _=>
 (idx a.hT.jj i2).bind fun b=>
 if ((t.jj.length:Int)<=b.rx:Bool)then
 some (.ret (i2,6))
 else
 (idx a.hT.fq b.rA).bind fun h=>
 (idx a.hT.fq b.To).bind fun i=>
 (GZ t b.rx h i).bind fun j=>
 if (!j)then
 some (.ret (i2,13))
 else
 some (.next ())) 0 (a.hT.jj.length:Int) ()) (fun _=>
 some ((-1),0)) some) some
def Ho(n:Int)(a:AB):K1:=
 some (decide ((a.fq.length:Int)<=n))
def Hp(a:B0)(b:AB):K1:=
 some (decide ((b.jj.length:Int)<=a.rx))
def Cj(n:Int)(b:Int)(a:Int):K1:=
 some (b<=n&&n<=a)
def Eo[Ev](t:AB)(p:j4)(a:CO):Option (rc×Bool):=
 (Cj a.rU 0 (AW ((p.hT.fq.length:Int)-1))).bind fun c=>
 if (!c)then
 some (rc.mk (⟨#[]⟩:ByteArray) 0 0 [],false)
 else
 (idx p.hT.fq a.rU).bind fun d=>
 (DP t d).bind fun b=>
 (Cj a.rc 0 (AW ((b.1.length:Int)-1))).bind fun e=>
 if (!e)then
 some (rc.mk (⟨#[]⟩:ByteArray) 0 0 [],false)
 else
 (idx b.1 a.rc).bind fun f=>
 some (f,true)
def Gv(n:Int)(t:rk):K1:=
 some ((((-1)<=t.Var&&t.Var<n)&&(-1000000)<=t.Add)&&t.Add<=1000000)
def I2(n:Int)(a:Test):QQ:=
 if ((!a.rh=1)&&(!a.rh=2))then
 some 1
 else
 (Gv n a.rj).bind fun b=>
 (if(!b)then some true else((Gv n a.pq).bind fun c=>
 some (!c))).bind fun d=>
 if d then
 some 6
 else
 some 0
def H8(n:Int)(l:List Test):QQ:=
 if (n<0||12<n)then
 some 6
 else
 if (40<(l.length:Int):Bool)then
 some 3
 else
 o4 (rb (ρ:=Int) (fun i0 _=>
 (idx l i0).bind fun b=>
 (I2 n b).bind fun a=>
 if (!a=0)then
 some (.ret a)
 else
 some (.next ())) 0 (l.length:Int) ()) (fun _=>
 some 0) some
def Hr(a:ae)(c:Bool):QQ:=
 o4 (rb (ρ:=Int) (fun i0 _=>
 (idx a i0).bind fun b=>
 if (c==b)then
 some (.ret i0)
 else
 some (.next ())) 0 (a.length:Int) ()) (fun _=>
 some (-1)) some
def GV(a:ae)(b:Bool):K1:=
 (Hr a b).bind fun c=>
 some (decide (0<=c))
def Cc[Ev](t:AB)(p:j4):QQ:=
 (Bp t).bind fun c=>
 if (!c.2=0)then
 some c.2
 else
 (CX p.hT).bind fun d=>
 if (!d=0)then
 some d
 else
 (Aq p.hT.fq (fun y0=>Ho y0 t)).bind fun f=>
 (if f then some true else((BT p.hT.jj (fun y0=>Hp y0 t)).bind some)).bind fun h=>
 if h then
 some 13
 else
 (Cj p.qy 0 12).bind fun i=>
 if (!i)then
 some 6
 else
 if (10<(p.rf.length:Int)||10<(p.rG.length:Int))then
 some 3
 else
 (NF p.qy false).bind fun j=>
 o4 (rb (ρ:=Int) (fun i0(s0:ae)=>
 (idx p.rf i0).bind fun a=>
 (Eo t p a).bind fun k=>
 (if(!k.2)then some true else((Cj a.rk.Var (-1) (AW (p.qy-1))).bind fun l=>
 some (!l))).bind fun m=>
 (if m then some true else((Cj a.rk.Add (-1000000) 1000000).bind fun n=>
 some (!n))).bind fun o=>
 if o then
 some (.ret 6)
 else
 if (0<=a.rk.Var:Bool)then
 (idx s0 a.rk.Var).bind fun q=>
 some (.next (CN s0 a.rk.Var true))
 else
 some (.next s0)) 0 (p.rf.length:Int) j) (fun s0=>
 (H8 p.qy p.rG).bind fun b=>
 if (!b=0)then
 some b
 else
 (GV s0 false).bind fun e=>
 if e then
 some 9
 else
 some 0) some
def Kc(n:Int)(a:AB):K1:=
 some (decide ((a.fq.length:Int)<=n))
def Kd(a:B0)(b:AB):K1:=
 some (decide ((b.jj.length:Int)<=a.rx))
def HZ[Ev](t:AB)(g:hT):K1:=
 (Aq g.fq (fun y0=>Kc y0 t)).bind fun c=>
 (if(!c)then((BT g.jj (fun y0=>Kd y0 t)).bind fun a=>
 some (!a))else some false).bind some
def Ch[Ev](a:List CO)(f:CO->K1):QQ:=
 o4 (rb (ρ:=Int) (fun i0 _=>
 (idx a i0).bind fun b=>
 (f b).bind fun c=>
 if c then
 some (.ret i0)
 else
 some (.next ())) 0 (a.length:Int) ()) (fun _=>
 some (-1)) some
def Bv[Ev](a:List CO)(f:CO->K1):K1:=
 (Ch a f).bind fun b=>
 some (decide (0<=b))
def LU(y:CO)(a:CO):K1:=
 some (y.rU=a.rU&&y.rc=a.rc)
def IN[Ev](t:AB)(b:ns)(c:Int):QQ:=
 (idx b.pq.rf c).bind fun a=>
 if (a.rU<0||(b.pq.hT.fq.length:Int)<=a.rU)then
 some 6
 else
 (idx b.pq.hT.fq a.rU).bind fun d=>
 (DP t d).bind fun e=>
 if (((((a.rc<0||(e.1.length:Int)<=a.rc)||a.rk.Var<(-1))||b.pq.qy<=a.rk.Var)||a.rk.Add<(-1000000))||1000000<a.rk.Add)then
 some 6
 else
 (tw b.pq.rf 0 c).bind fun f=>
 (Bv f (fun y0=>LU y0 a)).bind fun g=>
 if g then
 some 5
 else
 some 0
def HV[Ev](t:AB)(a:ns):QQ:=
 (CX a.pq.hT).bind fun b=>
 if (!b=0)then
 some b
 else
 (HZ t a.pq.hT).bind fun d=>
 if (!d)then
 some 13
 else
 if ((!a.pq.qy=a.rj.qy)||0<(a.pq.rG.length:Int))then
 some 1
 else
 if (10<(a.pq.rf.length:Int):Bool)then
 some 3
 else
 o4 (rb (ρ:=Int) (fun i1 _=>
 (IN t a i1).bind fun c=>
 if (!c=0)then
 some (.ret c)
 else
 some (.next ())) 0 (a.pq.rf.length:Int) ()) (fun _=>
 some 0) some
def H5(l:Fp)(n:Int):QQ:=
 o4 (rb (ρ:=Int) (fun i0 _=>
 (idx l i0).bind fun a=>
 if (a<0||n<=a)then
 some (.ret 6)
 else
 (if(0<i0:Bool)then((idx l (AW (i0-1))).bind fun b=>
 some (decide (a<=b)))else some false).bind fun c=>
 if c then
 some (.ret 12)
 else
 some (.next ())) 0 (l.length:Int) ()) (fun _=>
 some 0) some
def slices_BinarySearch_int(l:Fp)(x:Int):Option (Int×Bool):=if l.length<=Br/\l.Pairwise (·<=·)then some ((l.countP (·<x):Nat),l.contains x)else none
def Ip(l:Fp)(n:Int):K1:=
 (slices_BinarySearch_int l n).bind fun a=>
 some a.2
def Jv(g:hT)(p:Bw):QQ:=
 (H5 p.fq (g.fq.length:Int)).bind fun a=>
 if (!a=0)then
 some a
 else
 (H5 p.jj (g.jj.length:Int)).bind fun b=>
 if (!b=0)then
 some b
 else
 o4 (rb (ρ:=Int) (fun i0 _=>
 (idx p.jj i0).bind fun c=>
 (idx g.jj c).bind fun d=>
 (Ip p.fq d.rA).bind fun e=>
 (if(!e)then some true else((idx g.jj c).bind fun f=>
 (Ip p.fq f.To).bind fun h=>
 some (!h))).bind fun i=>
 if i then
 some (.ret 14)
 else
 some (.next ())) 0 (p.jj.length:Int) ()) (fun _=>
 some 0) some
def D2[Ev](g:hT)(p:Bw):QQ:=
 (CX g).bind fun b=>
 if (!b=0)then
 some b
 else
 (Jv g p).bind some
def D1[Ev](g:hT)(p:Bw):Option (hT×gt×Int):=
 (D2 g p).bind fun b=>
 if (!b=0)then
 some (hT.mk [] [],gt.mk [] [],b)
 else
 (rz (fun i0(s0:hT)=>
 (idx p.fq i0).bind fun c=>
 (idx g.fq c).bind fun d=>
 (Am s0.fq [d]).bind fun e=>
 some (hT.mk e s0.jj)) 0 (p.fq.length:Int) (hT.mk [] [])).bind fun s0=>
 (rz (fun i2(s2:hT)=>
 (idx p.jj i2).bind fun f=>
 (idx g.jj f).bind fun a=>
 (slices_BinarySearch_int p.fq a.rA).bind fun h=>
 (slices_BinarySearch_int p.fq a.To).bind fun i=>
 (Am s2.jj [B0.mk a.rx h.1 i.1]).bind fun j=>
 some (hT.mk s2.fq j)) 0 (p.jj.length:Int) s0).bind fun s2=>
 (slices_Clone_int p.fq).bind fun k=>
 (slices_Clone_int p.jj).bind fun l=>
 some (s2,gt.mk k l,0)
def Cw[Ev](a:hT)(b:hT)(m:gt):QQ:=
 (CX a).bind fun g=>
 if (!g=0)then
 some g
 else
 (CX b).bind fun h=>
 if (!h=0)then
 some h
 else
 if ((!(m.fq.length:Int)=(a.fq.length:Int))||(!(m.jj.length:Int)=(a.jj.length:Int)))then
 some 20
 else
 o4 (rb (ρ:=Int) (fun i0 _=>
 (idx m.fq i0).bind fun c=>
 if (c<0||(b.fq.length:Int)<=c)then
 some (.ret 6)
 else
 (idx b.fq c).bind fun l=>
 (idx a.fq i0).bind fun n=>
 if (!l=n)then
 some (.ret 13)
 else
 some (.next ())) 0 (m.fq.length:Int) ()) (fun _=>
 o4 (rb (ρ:=Int) (fun i2 _=>
 (idx m.jj i2).bind fun d=>
 if (d<0||(b.jj.length:Int)<=d)then
 some (.ret 6)
 else
 (idx a.jj i2).bind fun e=>
 (idx b.jj d).bind fun f=>
 if (!e.rx=f.rx)then
 some (.ret 13)
 else
 (idx m.fq e.rA).bind fun i=>
 (if(!i=f.rA)then some true else((idx m.fq e.To).bind fun j=>
 some (!j=f.To))).bind fun k=>
 if k then
 some (.ret 11)
 else
 some (.next ())) 0 (m.jj.length:Int) ()) (fun _=>
 some 0) some) some
def slices_Sort_int(l:Fp):Option Fp:=if l.length<=Br then some (OO l)else none
def slices_Compact_int(l:Fp):Option Fp:=if l.length<=Br then some (Go.Lib.compact l)else none
def G4(l:Fp):QQ:=
 (slices_Clone_int l).bind fun a=>
 (slices_Sort_int a).bind fun b=>
 (slices_Compact_int b).bind fun c=>
 some (c.length:Int)
def Cm[Ev](a:hT)(b:hT)(m:gt):K1:=
 (Cw a b m).bind fun c=>
 (if(c=0:Bool)then((G4 m.fq).bind fun d=>
 some (decide (d=(m.fq.length:Int))))else some false).bind fun e=>
 (if e then((G4 m.jj).bind fun f=>
 some (decide (f=(m.jj.length:Int))))else some false).bind some
def IM[Ev](a:ns):QQ:=
 (D1 a.rj.hT a.sa).bind fun b=>
 if (!b.2.2=0)then
 some b.2.2
 else
 (Cw b.1 a.pq.hT a.rT).bind fun c=>
 if (!c=0)then
 some c
 else
 (Cm b.1 a.pq.hT a.rT).bind fun d=>
 if (!d)then
 some 11
 else
 some 0
def JV(l:Fp)(n:Int):Option Fp:=
 (rz (fun i0(s0:Fp)=>
 (slices_Contains_int l i0).bind fun a=>
 if (!a)then
 (Am s0 [i0]).bind some
 else
 some s0) 0 n []).bind some
def Kb(a:ns):Option (Fp×Fp):=
 (JV a.rT.fq (a.pq.hT.fq.length:Int)).bind fun b=>
 (JV a.rT.jj (a.pq.hT.jj.length:Int)).bind fun c=>
 some (b,c)
def I8(c:Int)(d:AB)(e:hT):K1:=
 (idx e.fq c).bind fun a=>
 (idx d.fq a).bind fun b=>
 some b.sL
def Et[Ev](f:Int)(e:hT)(g:AB):K1:=
 (idx e.jj f).bind fun a=>
 (idx e.fq a.rA).bind fun b=>
 (idx e.fq a.To).bind fun c=>
 (GZ g a.rx b c).bind fun d=>
 some (!d)
def Fy[Ev](t:AB)(g:hT)(b:Fp)(a:Fp):K1:=
 (Aq b (fun y0=>I8 y0 t g)).bind fun c=>
 (if(!c)then((Aq a (fun y0=>Et y0 g t)).bind fun d=>
 some (!d))else some false).bind some
def Ep(c:j0):K1:=
 some ((AW ((AW ((AW ((AW ((AW ((c.Map.fq.length:Int)+(c.Map.jj.length:Int)))+(c.j4.hT.fq.length:Int)))+(c.j4.hT.jj.length:Int)))+(c.j4.rf.length:Int)))+(c.j4.rG.length:Int)))=0&&c.j4.qy=0)
def B3[Ev](a:List j0)(f:j0->K1):QQ:=
 o4 (rb (ρ:=Int) (fun i0 _=>
 (idx a i0).bind fun b=>
 (f b).bind fun c=>
 if c then
 some (.ret i0)
 else
 some (.next ())) 0 (a.length:Int) ()) (fun _=>
 some (-1)) some
def Bm[Ev](a:List j0)(f:j0->K1):K1:=
 (B3 a f).bind fun b=>
 some (decide (0<=b))
mutual
def BD[Ev]:Nat->j0->K1
 |0,_=>none|n+1,c=>
  (if(c.rh=1:Bool)then
  (if((c.rm.length:Int)=0:Bool)then((Ep c).bind some)else some false).bind some
  else
  if (c.rh=2:Bool)then
  (if((c.rm.length:Int)=1:Bool)then((Ep c).bind some)else some false).bind some
  else
  if (c.rh=3:Bool)then
  if (c.rh=3:Bool)then
  (if(1<=(c.rm.length:Int):Bool)then((Ep c).bind some)else some false).bind some
  else
  if (c.rh=5:Bool)then
  some (decide ((c.rm.length:Int)=1))
  else
  some false
  else
  if (c.rh=4:Bool)then
  (if(1<=(c.rm.length:Int):Bool)then((Ep c).bind some)else some false).bind some
  else
  if (c.rh=5:Bool)then
  some (decide ((c.rm.length:Int)=1))
  else
  some false).bind fun w1=>
  (if w1 then((Bm c.rm (BJ n)).bind fun h=>
  some (!h))else some false).bind some
def BJ[Ev]:Nat->j0->K1
 |0,_=>none|n+1,k=>
  (BD n k).bind fun a=>
  some (!a)
end
def Eg[Ev](c:j0):K1:=KV fun n=>BD n c
def LD[Ev](k:j0):K1:=KV fun n=>BJ n k
def B8[Ev]:Nat->j0->Option (Int×Int)
 |0,_=>none|n+1,c=>
  (rz (fun i0(s0:Int×Int)=>
  (idx c.rm i0).bind fun b=>
  (B8 n b).bind fun a=>
  some (AW (s0.1+a.1),max s0.2 a.2)) 0 (c.rm.length:Int) (1,0)).bind fun s0=>
  (if(c.rh=5:Bool)then
  some (AW (s0.2+1))
  else
  some s0.2).bind fun w1=>
  some (s0.1,w1)
def Fc[Ev](c:j0):Option (Int×Int):=KV fun n=>B8 n c
def EL[Ev](c:j0):QQ:=
 (Eg c).bind fun b=>
 if (!b)then
 some 1
 else
 (Fc c).bind fun a=>
 if (12<a.1||3<a.2)then
 some 3
 else
 some 0
def Gp(a:CO)(b:Int):K1:=
 some (decide (a.rk.Var=b))
def Dg[Ev](t:AB)(q:j4)(b:Int):QQ:=
 (Cc t q).bind fun a=>
 if (!a=9)then
 some a
 else
 o4 (E5 (ρ:=Int) (fun(s0:Int)=>
 if (s0<q.qy:Bool)then
 (Bv q.rf (fun y0=>Gp y0 s0)).bind fun c=>
 if (!c)then
 some (.ret a)
 else
 some (.next (AW (s0+1)))
 else
 some (.brk s0)) b) (fun s0=>
 some 0) some
def By[Ev]:Nat->AB->j4->j0->QQ
 |0,_,_,_=>none|n+1,t,p,c=>
  if (c.rh=5:Bool)then
  if (c.j4.qy<p.qy:Bool)then
  some 20
  else
  (Dg t c.j4 p.qy).bind fun d=>
  if (!d=0)then
  some d
  else
  (Cw p.hT c.j4.hT c.Map).bind fun e=>
  if (!e=0)then
  some e
  else
  (Cm p.hT c.j4.hT c.Map).bind fun f=>
  if (!f)then
  some 1
  else
  o4 (rb (ρ:=Int) (fun i0 _=>
  (idx c.rm i0).bind fun b=>
  (By n t c.j4 b).bind fun a=>
  if (!a=0)then
  some (.ret a)
  else
  some (.next ())) 0 (c.rm.length:Int) ()) (fun _=>
  some 0) some
  else
  o4 (rb (ρ:=Int) (fun i0 _=>
  (idx c.rm i0).bind fun b=>
  (By n t p b).bind fun a=>
  if (!a=0)then
  some (.ret a)
  else
  some (.next ())) 0 (c.rm.length:Int) ()) (fun _=>
  some 0) some
def GH[Ev](t:AB)(p:j4)(c:j0):QQ:=KV fun n=>By n t p c
def DX[Ev](t:AB)(p:j4)(c:j0):QQ:=
 (Cc t p).bind fun a=>
 if (!a=0)then
 some a
 else
 (EL c).bind fun b=>
 if (!b=0)then
 some b
 else
 (GH t p c).bind some
def GT[Ev](t:AB)(a:ns):QQ:=
 (Bp t).bind fun b=>
 if (!b.2=0)then
 some b.2
 else
 (DA a.ru).bind fun g=>
 if (!g)then
 some 2
 else
 (Cc t a.rj).bind fun c=>
 if (!c=0)then
 some c
 else
 (HV t a).bind fun d=>
 if (!d=0)then
 some d
 else
 (IM a).bind fun e=>
 if (!e=0)then
 some e
 else
 (Kb a).bind fun f=>
 (Fy t a.pq.hT f.1 f.2).bind fun h=>
 if (!h)then
 some 13
 else
 (DX t a.rj a.j0).bind some
def DF[Ev](t:AB)(a:List ns)(f:AM):QQ:=
 (Bp t).bind fun b=>
 if (!b.2=0)then
 some b.2
 else
 if (10<(a.length:Int):Bool)then
 some 3
 else
 o4 (rb (ρ:=Int) (fun i0 _=>
 (idx a i0).bind fun d=>
 (GT t d).bind fun c=>
 if (!c=0)then
 some (.ret c)
 else
 some (.next ())) 0 (a.length:Int) ()) (fun _=>
 (Cd t f).bind fun e=>
 some e.2) some
def GX[Ev](t:AB)(e:ns)(d:AM):QQ:=
 (Bp t).bind fun a=>
 if (!a.2=0)then
 some a.2
 else
 (GT t e).bind fun b=>
 if (!b=0)then
 some b
 else
 (Cd t d).bind fun c=>
 some c.2
def DV[Ev](t:AB)(p:j4)(c:AM):QQ:=
 (Cc t p).bind fun a=>
 if (!a=0)then
 some a
 else
 (Cd t c).bind fun b=>
 some b.2
def Ik(n:Int)(a:AB):K1:=
 some (decide ((a.fq.length:Int)<=n))
def Il(a:B0)(b:AB):K1:=
 some (decide ((b.jj.length:Int)<=a.rx))
def EX[Ev](t:AB)(g:hT):K1:=
 (Aq g.fq (fun y0=>Ik y0 t)).bind fun c=>
 (if(!c)then((BT g.jj (fun y0=>Il y0 t)).bind fun a=>
 some (!a))else some false).bind some
def Db[Ev](t:AB)(p:hT)(g:hT):QQ:=
 (Bp t).bind fun a=>
 if (!a.2=0)then
 some a.2
 else
 o4 (rb (ρ:=Int) (fun i0 _=>
 (idx [p,g] i0).bind fun c=>
 (CX c).bind fun b=>
 if (!b=0)then
 some (.ret b)
 else
 some (.next ())) 0 ([p,g].length:Int) ()) (fun _=>
 (EX t p).bind fun d=>
 (if(!d)then some true else((EX t g).bind fun e=>
 some (!e))).bind fun f=>
 if f then
 some 13
 else
 some 0) some
def Gm[Ev](t:AB)(a:Int):Option (Fp×Int):=
 (Em t [a]).bind fun b=>
 if (!b=0)then
 some ([],b)
 else
 (rz (fun i0(s0:Fp)=>
 (HN t i0 a).bind fun c=>
 if c then
 (Am s0 [i0]).bind some
 else
 some s0) 0 (t.fq.length:Int) []).bind fun s0=>
 some (s0,0)
def E2[Ev](t:AB):Option (List ae):=
 (rz (fun i0(s0:List ae)=>
 (NF (t.fq.length:Int) false).bind fun c=>
 (Gm t i0).bind fun a=>
 (rz (fun i2(s2:ae)=>
 (idx a.1 i2).bind fun b=>
 (idx s2 b).bind fun e=>
 some (CN s2 b true)) 0 (a.1.length:Int) c).bind fun s2=>
 (Am s0 [s2]).bind some) 0 (t.fq.length:Int) []).bind some
def Ke(l:Option Fp)(i:Int):QQ:=match l with
 |none=>some (-1)|some l=>(U9 l).bind fun _=>(idx l i).bind some
def EJ(f:AT)(c:Int)(k:Int):K1:=
 (idx f.p.jj c).bind fun a=>
 (Ke f.rd.jj c).bind fun b=>
 if (0<=b&&(!b=k))then
 some false
 else
 (idx f.g.jj k).bind fun d=>
 (idx f.qz a.rA).bind fun e=>
 (idx f.qz a.To).bind fun h=>
 some (decide (d=(B0.mk a.rx e h)))
def Ee(f:AT):K1:=
 o4 (rb (ρ:=Bool) (fun i0 _=>
 (idx f.p.jj i0).bind fun a=>
 if (!(max a.rA a.To)=(AW ((f.qz.length:Int)-1)))then
 some (.next ())
 else
 o4 (rb (ρ:=Bool) (fun i2(s2:Bool)=>
 (EJ f i0 i2).bind fun b=>
 if b then
 some (.brk true)
 else
 some (.next s2)) 0 (f.g.jj.length:Int) false) (fun s2=>
 if (!s2)then
 some (.ret false)
 else
 some (.next ())) (fun v2=>some (.ret v2))) 0 (f.p.jj.length:Int) ()) (fun _=>
 some true) some
def BR[Ev]:Nat->AT->Option AT
 |0,_=>none|n+1,f=>
  (if((f.out.length:Int)=f.rJ:Bool)then
  some f
  else
  if ((f.qz.length:Int)<(f.p.fq.length:Int):Bool)then
  (rz (fun i1(s1:AT)=>
  (idx f.g.fq i1).bind fun u=>
  (Ke s1.rd.fq (f.qz.length:Int)).bind fun e=>
  (if(0<=e&&(!e=i1))then some true else((idx s1.p.fq (f.qz.length:Int)).bind fun v=>
  (idx s1.is v).bind fun w=>
  (idx w u).bind fun x=>
  some (!x))).bind fun h=>
  (if h then some true else((if s1.pc then((slices_Contains_int s1.qz i1).bind some)else some false).bind some)).bind fun k=>
  if k then
  some s1
  else
  (Am s1.qz [i1]).bind fun c=>
  (Ee (AT.mk s1.p s1.g s1.is s1.rd s1.pc s1.rJ c s1.rg s1.out)).bind fun l=>
  if l then
  (BR n (AT.mk s1.p s1.g s1.is s1.rd s1.pc s1.rJ c s1.rg s1.out)).bind fun a=>
  (tw a.qz 0 (f.qz.length:Int)).bind fun d=>
  some (AT.mk a.p a.g a.is a.rd a.pc a.rJ d a.rg a.out)
  else
  (tw c 0 (f.qz.length:Int)).bind fun d=>
  some (AT.mk s1.p s1.g s1.is s1.rd s1.pc s1.rJ d s1.rg s1.out)) 0 (f.g.fq.length:Int) f).bind some
  else
  if ((f.rg.length:Int)<(f.p.jj.length:Int):Bool)then
  (rz (fun i3(s3:AT)=>
  (EJ s3 (f.rg.length:Int) i3).bind fun m=>
  (if(!m)then some true else((if s3.pc then((slices_Contains_int s3.rg i3).bind some)else some false).bind some)).bind fun r=>
  if r then
  some s3
  else
  (Am s3.rg [i3]).bind fun s=>
  (BR n (AT.mk s3.p s3.g s3.is s3.rd s3.pc s3.rJ s3.qz s s3.out)).bind fun b=>
  (tw b.rg 0 (f.rg.length:Int)).bind fun t=>
  some (AT.mk b.p b.g b.is b.rd b.pc b.rJ b.qz t b.out)) 0 (f.g.jj.length:Int) f).bind some
  else
  (slices_Clone_int f.qz).bind fun y=>
  (slices_Clone_int f.rg).bind fun z=>
  (Am f.out [gt.mk y z]).bind fun A=>
  some (AT.mk f.p f.g f.is f.rd f.pc f.rJ f.qz f.rg A)).bind some
def EI[Ev](f:AT):Option AT:=KV fun n=>BR n f
def F1[Ev](t:AB)(p:hT)(g:hT)(b:Iz)(a:Bool)(c:Int):Option (List gt):=
 (E2 t).bind fun d=>
 (EI (AT.mk p g d b a c [] [] [])).bind fun e=>
 some e.out
def GU[Ev](t:AB)(p:hT)(g:hT)(b:Iz)(a:Bool):Option (List gt×Int):=
 (F1 t p g b a 5001).bind fun c=>
 if (5000<(c.length:Int):Bool)then
 some ([],3)
 else
 some (c,0)
def Ha[Ev](t:AB)(p:hT)(g:hT)(a:Bool):Option (List gt×Int):=
 (Db t p g).bind fun b=>
 if (!b=0)then
 some ([],b)
 else
 (GU t p g (Iz.mk none none) a).bind fun c=>
 some (c.1,c.2)
def FI(a:rk)(c:Fp):QQ:=
 if (a.Var<0:Bool)then
 some a.Add
 else
 (idx c a.Var).bind fun b=>
 some (AW (b+a.Add))
def G3(a b c:Int):Option (Int×Int):=if(0<=a/\a<18446744073709551616)/\(0<=b/\b<18446744073709551616)/\0<=c/\c<=1 then some ((a+b+c) % 18446744073709551616,(a+b+c) / 18446744073709551616)else none
def Gw(a:Int)(b:Int):Option (Int×Int):=
 (G3 (IntKind.u64.wrap a) (IntKind.u64.wrap b) 0).bind fun c=>
 (Jd .i64 .shr a 63).bind fun d=>
 (Jd .i64 .shr b 63).bind fun e=>
 some (AW ((AW (d+e))+(AW c.2)),c.1)
def FJ(t:rk)(d:Fp):Option (Int×Int×Bool):=
 if (t.Var=(-1):Bool)then
 (Gw 0 t.Add).bind fun a=>
 some (a.1,a.2,true)
 else
 if (t.Var<0||(d.length:Int)<=t.Var)then
 some (0,0,false)
 else
 (idx d t.Var).bind fun c=>
 (Gw c t.Add).bind fun b=>
 some (b.1,b.2,true)
def MA(a:Fp):QQ:=
 o4 (rb (ρ:=Int) (fun i0 _=>
 (idx a i0).bind fun b=>
 if (!b=0)then
 some (.ret b)
 else
 some (.next ())) 0 (a.length:Int) ()) (fun _=>
 some 0) some
def cmp_isNaN_int(a:Int):K1:=
 some (!a=a)
def cmp_Compare_int(a:Int)(y:Int):QQ:=
 (cmp_isNaN_int a).bind fun c=>
 (cmp_isNaN_int y).bind fun b=>
 if c then
 if b then
 some 0
 else
 some (-1)
 else
 if b then
 some 1
 else
 if (a<y:Bool)then
 some (-1)
 else
 if (y<a:Bool)then
 some 1
 else
 some 0
def GF(a:Int):K1:=
 some (!a=a)
def G8(a:Int)(y:Int):QQ:=
 (GF a).bind fun c=>
 (GF y).bind fun b=>
 if c then
 if b then
 some 0
 else
 some (-1)
 else
 if b then
 some 1
 else
 if (a<y:Bool)then
 some (-1)
 else
 if (y<a:Bool)then
 some 1
 else
 some 0
def GK(a:Test)(g:Fp):K1:=
 (FJ a.rj g).bind fun b=>
 (FJ a.pq g).bind fun c=>
 if ((!b.2.2)||(!c.2.2))then
 some false
 else
 (cmp_Compare_int b.1 c.1).bind fun e=>
 (G8 b.2.1 c.2.1).bind fun f=>
 (MA [e,f]).bind fun d=>
 some (a.rh=1&&d<=0||(a.rh=2&&d=0))
def Gt(p:j4)(l:AM)(m:gt):Option (Fp×Int):=
 (NF p.qy 0).bind fun d=>
 (NF p.qy false).bind fun e=>
 o4 (rb (ρ:=(Fp×Int)) (fun i0(s0:Fp×ae)=>
 (idx p.rf i0).bind fun a=>
 (idx m.fq a.rU).bind fun f=>
 (idx l.og f).bind fun g=>
 (idx g a.rc).bind fun b=>
 (if(0<=a.rk.Var:Bool)then((idx s0.2 a.rk.Var).bind fun h=>
 some (!h))else some false).bind fun i=>
 if i then
 (idx s0.1 a.rk.Var).bind fun n=>
 (idx s0.2 a.rk.Var).bind fun o=>
 (FI a.rk (CN s0.1 a.rk.Var (AW (b-a.rk.Add)))).bind fun c=>
 if (!c=b)then
 some (.ret ([],11))
 else
 some (.next (CN s0.1 a.rk.Var (AW (b-a.rk.Add)),CN s0.2 a.rk.Var true))
 else
 (FI a.rk s0.1).bind fun c=>
 if (!c=b)then
 some (.ret ([],11))
 else
 some (.next (s0.1,s0.2))) 0 (p.rf.length:Int) (d,e)) (fun s0=>
 o4 (rb (ρ:=(Fp×Int)) (fun i2 _=>
 (idx p.rG i2).bind fun j=>
 (GK j s0.1).bind fun k=>
 if (!k)then
 some (.ret ([],16))
 else
 some (.next ())) 0 (p.rG.length:Int) ()) (fun _=>
 some (s0.1,0)) some) some
def De[Ev](t:AB)(p:j4)(c:AM)(a:Bool):Option (List AP×Int):=
 (DV t p c).bind fun d=>
 if (!d=0)then
 some ([],d)
 else
 (Ha t p.hT c.hT a).bind fun b=>
 if (!b.2=0)then
 some ([],b.2)
 else
 (rz (fun i0(s0:List AP)=>
 (idx b.1 i0).bind fun e=>
 (Gt p c e).bind fun f=>
 if (f.2=0:Bool)then
 (Am s0 [AP.mk e f.1]).bind some
 else
 some s0) 0 (b.1.length:Int) []).bind fun s0=>
 some (s0,0)
def slices_Equal_int(a:Fp)(b:Fp):K1:=
 if (!(a.length:Int)=(b.length:Int))then
 some false
 else
 o4 (rb (ρ:=Bool) (fun i0 _=>
 (idx a i0).bind fun c=>
 (idx b i0).bind fun d=>
 if (!c=d)then
 some (.ret false)
 else
 some (.next ())) 0 (a.length:Int) ()) (fun _=>
 some true) some
def E3[Ev](t:AB)(p:hT)(g:hT)(m:gt):QQ:=
 if ((!(m.fq.length:Int)=(p.fq.length:Int))||(!(m.jj.length:Int)=(p.jj.length:Int)))then
 some 20
 else
 (E2 t).bind fun i=>
 o4 (rb (ρ:=Int) (fun i0 _=>
 (idx m.fq i0).bind fun a=>
 if (a<0||(g.fq.length:Int)<=a)then
 some (.ret 6)
 else
 (idx p.fq i0).bind fun j=>
 (idx i j).bind fun k=>
 (idx g.fq a).bind fun l=>
 (idx k l).bind fun n=>
 if (!n)then
 some (.ret 13)
 else
 some (.next ())) 0 (m.fq.length:Int) ()) (fun _=>
 o4 (rb (ρ:=Int) (fun i2 _=>
 (idx m.jj i2).bind fun b=>
 if (b<0||(g.jj.length:Int)<=b)then
 some (.ret 6)
 else
 (idx p.jj i2).bind fun c=>
 (idx g.jj b).bind fun d=>
 if (!c.rx=d.rx)then
 some (.ret 13)
 else
 (idx m.fq c.rA).bind fun e=>
 (if(!e=d.rA)then some true else((idx m.fq c.To).bind fun f=>
 some (!f=d.To))).bind fun h=>
 if h then
 some (.ret 11)
 else
 some (.next ())) 0 (m.jj.length:Int) ()) (fun _=>
 some 0) some) some
def HL(l:Fp):K1:=if l.length<=4096 then some (ut l)else none
def EG[Ev](t:AB)(p:hT)(g:hT)(m:gt)(a:Bool):QQ:=
 (Db t p g).bind fun b=>
 if (!b=0)then
 some b
 else
 (E3 t p g m).bind fun c=>
 if (!c=0)then
 some c
 else
 (if a then((HL m.fq).bind fun d=>
 (if d then some true else((HL m.jj).bind some)).bind some)else some false).bind fun h=>
 if h then
 some 5
 else
 some 0
def DU[Ev](t:AB)(p:j4)(a:AM)(m:gt):Option (Fp×Int):=
 (DV t p a).bind fun b=>
 if (!b=0)then
 some ([],b)
 else
 (EG t p.hT a.hT m false).bind fun c=>
 if (!c=0)then
 some ([],c)
 else
 (Gt p a m).bind fun d=>
 some (d.1,d.2)
def F2[Ev](t:AB)(b:ns)(c:AM)(m:AP):QQ:=
 (EG t b.rj.hT c.hT m.gt b.rB).bind fun d=>
 if (!d=0)then
 some 1
 else
 (DU t b.rj c m.gt).bind fun a=>
 if (!a.2=0)then
 some a.2
 else
 (slices_Equal_int a.1 m.qy).bind fun e=>
 if (!e)then
 some 11
 else
 some 0
def EQ[Ev](t:AB)(p:hT)(g:hT)(m:gt):Option (hT×Int):=
 (Db t p g).bind fun a=>
 if (!a=0)then
 some (hT.mk [] [],a)
 else
 (E3 t p g m).bind fun b=>
 if (!b=0)then
 some (hT.mk [] [],b)
 else
 (Dk p.jj).bind fun c=>
 (rz (fun i0(s0:hT)=>
 (idx m.fq i0).bind fun d=>
 (idx g.fq d).bind fun e=>
 (Am s0.fq [e]).bind fun f=>
 some (hT.mk f s0.jj)) 0 (m.fq.length:Int) (hT.mk [] c)).bind fun s0=>
 some (s0,0)
def CC[Ev](a:BV):QQ:=
 (Cw a.l a.g a.m).bind fun b=>
 if (!b=0)then
 some b
 else
 (D2 a.l a.pr).bind some
def GG(a:Fp)(b:Fp):Option (List L4):=
 (rz (fun i0(s0:List L4)=>
 (rz (fun i2(s2:List L4)=>
 (idx a i0).bind fun c=>
 (idx a i2).bind fun d=>
 (if(c=d:Bool)then((slices_Contains_int b i0).bind fun e=>
 (if(!e)then some true else((slices_Contains_int b i2).bind fun f=>
 some (!f))).bind some)else some false).bind fun h=>
 if h then
 (Am s2 [L4.mk i0 i2]).bind some
 else
 some s2) (AW (i0+1)) (a.length:Int) s0).bind some) 0 (a.length:Int) []).bind some
def DR(a:BV):Option (List L4×List L4):=
 (GG a.m.fq a.pr.fq).bind fun b=>
 (GG a.m.jj a.pr.jj).bind fun c=>
 some (b,c)
def EA(a:BV):Option Fp:=
 (rz (fun i0(s0:Fp)=>
 (idx a.m.fq i0).bind fun b=>
 (slices_Contains_int a.pr.fq i0).bind fun c=>
 if (!c)then
 (Am s0 [b]).bind some
 else
 some s0) 0 (a.m.fq.length:Int) []).bind some
def Dt(a:BV):Option Fp:=
 (EA a).bind fun j=>
 (rz (fun i0(s0:Fp)=>
 (idx a.g.jj i0).bind fun b=>
 (slices_Contains_int a.m.jj i0).bind fun c=>
 (if(!c)then((slices_Contains_int j b.rA).bind fun d=>
 (if d then some true else((slices_Contains_int j b.To).bind some)).bind some)else some false).bind fun h=>
 if h then
 (Am s0 [i0]).bind some
 else
 some s0) 0 (a.g.jj.length:Int) []).bind some
def Gu(n:Int)(a:Fp)(c:Fp):Option Fp:=
 (NF n false).bind fun d=>
 (rz (fun i0(s0:ae)=>
 (idx a i0).bind fun b=>
 (slices_Contains_int c i0).bind fun e=>
 if (!e)then
 (idx s0 b).bind fun h=>
 some (CN s0 b true)
 else
 some s0) 0 (a.length:Int) d).bind fun s0=>
 (rz (fun i2(s2:Fp)=>
 (idx s0 i2).bind fun f=>
 if (!f)then
 (Am s2 [i2]).bind some
 else
 some s2) 0 (s0.length:Int) []).bind some
def FC[Ev](l:hT)(g:hT)(a:Bw)(m:gt):Option (Bw×Int):=
 (CC (BV.mk l g a m)).bind fun b=>
 if (!b=0)then
 some (Bw.mk [] [],b)
 else
 (DR (BV.mk l g a m)).bind fun c=>
 if (0<(AW ((c.1.length:Int)+(c.2.length:Int))):Bool)then
 some (Bw.mk [] [],15)
 else
 (Dt (BV.mk l g a m)).bind fun d=>
 if (0<(d.length:Int):Bool)then
 some (Bw.mk [] [],14)
 else
 (Gu (g.fq.length:Int) m.fq a.fq).bind fun e=>
 (Gu (g.jj.length:Int) m.jj a.jj).bind fun f=>
 some (Bw.mk e f,0)
def EK[Ev](t:AB)(p:j4)(c:j0)(d:AM)(m:AP)(a:Bool):QQ:=
 (DX t p c).bind fun e=>
 if (!e=0)then
 some e
 else
 (Cd t d).bind fun f=>
 if (!f.2=0)then
 some f.2
 else
 (EG t p.hT d.hT m.gt a).bind fun g=>
 if (!g=0)then
 some g
 else
 (DU t p d m.gt).bind fun b=>
 if (!b.2=0)then
 some b.2
 else
 (slices_Equal_int b.1 m.qy).bind fun h=>
 if (!h)then
 some 11
 else
 some 0
def EZ(l:Fp)(n:Int):Option Fp:=if l.length=1/\0<=n/\n<=4096 then some (List.replicate n.toNat (l.headD 0))else none
def GI(n:Int)(c:Fp)(a:Fp):Option Fp:=
 (EZ [(-1)] n).bind fun d=>
 (rz (fun i0(s0:Fp)=>
 (idx c i0).bind fun b=>
 (idx a i0).bind fun e=>
 (idx s0 b).bind fun f=>
 some (CN s0 b e)) 0 (c.length:Int) d).bind some
def Jt(k:Int)(a:Int):K1:=
 some (k<(-1)||a<=k)
def Fa[Ev](l:Fp)(n:Int):QQ:=
 (Aq l (fun y0=>Jt y0 n)).bind fun a=>
 if a then
 some 6
 else
 some 0
def FG[Ev](t:AB)(p:hT)(g:hT)(a:gt)(b:Bool):Option (List gt×Int):=
 (Db t p g).bind fun c=>
 if (!c=0)then
 some ([],c)
 else
 if ((!(a.fq.length:Int)=(p.fq.length:Int))||(!(a.jj.length:Int)=(p.jj.length:Int)))then
 some ([],20)
 else
 (Fa a.fq (g.fq.length:Int)).bind fun d=>
 if (!d=0)then
 some ([],d)
 else
 (Fa a.jj (g.jj.length:Int)).bind fun e=>
 if (!e=0)then
 some ([],e)
 else
 (GU t p g a b).bind fun f=>
 some (f.1,f.2)
def Fh(a:rk)(d:Fp):Option (Int×Int):=
 (Cj a.Var (-1) (AW ((d.length:Int)-1))).bind fun b=>
 if (!b)then
 some (0,6)
 else
 (FI a d).bind fun c=>
 some (c,0)
def Ew(p:An)(q:j4)(m:gt)(b:Fp):Option (Fp×Bool):=
 (slices_Clone_int b).bind fun g=>
 (Ry g (AW (q.qy-(b.length:Int))) 0).bind fun i=>
 (NF q.qy false).bind fun j=>
 (rz (fun i0(s0:ae)=>
 (idx s0 i0).bind fun r=>
 some (CN s0 i0 true)) 0 (b.length:Int) j).bind fun s0=>
 o4 (rb (ρ:=(Fp×Bool)) (fun i2(s2:Fp×ae)=>
 (idx q.rf i2).bind fun a=>
 (idx m.fq a.rU).bind fun k=>
 (idx p.h.og k).bind fun l=>
 (idx l a.rc).bind fun d=>
 (if(0<=a.rk.Var:Bool)then((idx s2.2 a.rk.Var).bind fun n=>
 some (!n))else some false).bind fun o=>
 if o then
 (idx s2.1 a.rk.Var).bind fun s=>
 (idx s2.2 a.rk.Var).bind fun t=>
 (Fh a.rk (CN s2.1 a.rk.Var (AW (d-a.rk.Add)))).bind fun c=>
 if ((!c.2=0)||(!c.1=d))then
 some (.ret ([],false))
 else
 some (.next (CN s2.1 a.rk.Var (AW (d-a.rk.Add)),CN s2.2 a.rk.Var true))
 else
 (Fh a.rk s2.1).bind fun c=>
 if ((!c.2=0)||(!c.1=d))then
 some (.ret ([],false))
 else
 some (.next (s2.1,s2.2))) 0 (q.rf.length:Int) (i,s0)) (fun s2=>
 o4 (rb (ρ:=(Fp×Bool)) (fun i4 _=>
 (idx q.rG i4).bind fun e=>
 (GK e s2.1).bind fun f=>
 if (!f)then
 some (.ret ([],false))
 else
 some (.next ())) 0 (q.rG.length:Int) ()) (fun _=>
 some (s2.1,true)) some) some
def Bq[Ev](b:An)(c:j0)(m:AP):Option (List AP×Int):=
 (GI (c.j4.hT.fq.length:Int) c.Map.fq m.gt.fq).bind fun f=>
 (GI (c.j4.hT.jj.length:Int) c.Map.jj m.gt.jj).bind fun g=>
 (FG b.t c.j4.hT b.h.hT (gt.mk f g) b.pc).bind fun a=>
 if (!a.2=0)then
 some ([],a.2)
 else
 (rz (fun i0(s0:List AP)=>
 (idx a.1 i0).bind fun d=>
 (Ew b c.j4 d m.qy).bind fun e=>
 if e.2 then
 (Am s0 [AP.mk d e.1]).bind some
 else
 some s0) 0 (a.1.length:Int) []).bind fun s0=>
 some (s0,0)
mutual
def Al[Ev]:Nat->An->j0->AP->Option (Be×Int)
 |0,_,_,_=>none|n+1,b,c,m=>
  if (c.rh=2:Bool)then
  (idx c.rm 0).bind fun g=>
  (Al n b g m).bind fun e=>
  if (e.2=0:Bool)then
  some (E7,10)
  else
  if (e.2=10:Bool)then
  some (E7,0)
  else
  some (E7,e.2)
  else
  if (c.rh=3:Bool)then
  o4 (rb (ρ:=(Be×Int)) (fun i2(s2:Be×Be)=>
  (idx c.rm i2).bind fun h=>
  (Al n b h m).bind fun f=>
  if (!f.2=0)then
  some (.ret (E7,f.2))
  else
  (Am s2.2.rm [f.1]).bind fun i=>
  some (.next (s2.1,Be.mk s2.2.tc s2.2.kx i))) 0 (c.rm.length:Int) (E7,E7)) (fun s2=>
  some (s2.2,0)) some
  else
  if (c.rh=4:Bool)then
  o4 (rb (ρ:=(Be×Int)) (fun i4(s4:Be)=>
  (idx c.rm i4).bind fun j=>
  (Al n b j m).bind fun a=>
  if (a.2=0:Bool)then
  some (.ret (Be.mk i4 (AP.mk (gt.mk [] []) []) [a.1],0))
  else
  if (!a.2=10)then
  some (.ret (E7,a.2))
  else
  some (.next s4)) 0 (c.rm.length:Int) E7) (fun s4=>
  some (E7,10)) some
  else
  if (c.rh=5:Bool)then
  (A9 n b c m).bind fun d=>
  some (d.1,d.2)
  else
  some (E7,0)
def A9[Ev]:Nat->An->j0->AP->Option (Be×Int)
 |0,_,_,_=>none|n+1,e,c,m=>
  (Bq e c m).bind fun a=>
  if (!a.2=0)then
  some (E7,a.2)
  else
  o4 (rb (ρ:=(Be×Int)) (fun i0(s0:Be)=>
  (idx a.1 i0).bind fun d=>
  (idx c.rm 0).bind fun f=>
  (Al n e f d).bind fun b=>
  if (b.2=0:Bool)then
  some (.ret (Be.mk 0 d [b.1],0))
  else
  if (!b.2=10)then
  some (.ret (E7,b.2))
  else
  some (.next s0)) 0 (a.1.length:Int) E7) (fun s0=>
  some (E7,10)) some
end
def DL[Ev](a:An)(c:j0)(m:AP):Option (Be×Int):=KV fun n=>Al n a c m
def Jl[Ev](a:An)(c:j0)(m:AP):Option (Be×Int):=KV fun n=>A9 n a c m
def Df[Ev](t:AB)(p:j4)(c:j0)(e:AM)(m:AP)(a:Bool):Option (Be×Int):=
 (EK t p c e m a).bind fun b=>
 if (!b=0)then
 some (E7,b)
 else
 (DL (An.mk t e a) c m).bind fun d=>
 some (d.1,d.2)
def C4[Ev](t:AB)(p:j4)(c:j0)(d:AM)(m:AP)(a:Bool):Option (Bool×Int):=
 (Df t p c d m a).bind fun b=>
 if (b.2=10:Bool)then
 some (false,0)
 else
 some (decide (b.2=0),b.2)
def I9(m:AP):Option AP:=
 (slices_Clone_int m.gt.fq).bind fun c=>
 (slices_Clone_int m.gt.jj).bind fun a=>
 (slices_Clone_int m.qy).bind fun b=>
 some (AP.mk (gt.mk c a) b)
def Ju(a:AM):Option AM:=
 (slices_Clone_int a.hT.fq).bind fun f=>
 (Dk a.hT.jj).bind fun b=>
 (rz (fun i0(s0:AM)=>
 (idx a.og i0).bind fun c=>
 (Am [] c).bind fun d=>
 (Am s0.og [d]).bind fun e=>
 some (AM.mk s0.hT e)) 0 (a.og.length:Int) (AM.mk (hT.mk f b) [])).bind some
def KD(n:Int)(l:Fp):Option Fp:=
 (NF n 0).bind fun a=>
 (rz (fun i0(s0:Fp)=>
 (slices_BinarySearch_int l i0).bind fun b=>
 if (!b.2)then
 (idx s0 i0).bind fun c=>
 some (CN s0 i0 (-1))
 else
 (idx s0 i0).bind fun c=>
 some (CN s0 i0 b.1)) 0 (a.length:Int) a).bind some
def Io(c:Int)(f:Fp)(b:Fp)(a:Fp)(d:Fp)(n:Int):Option Fp:=
 (EZ [(-1)] c).bind fun g=>
 (rz (fun i0(s0:Fp)=>
 (idx b i0).bind fun e=>
 (idx f i0).bind fun h=>
 (idx a h).bind fun i=>
 (idx d i).bind fun j=>
 (idx s0 e).bind fun l=>
 some (CN s0 e j)) 0 (b.length:Int) g).bind fun s0=>
 (rz (fun i2(s2:Int×Fp)=>
 (idx s2.2 i2).bind fun k=>
 if (k<0:Bool)then
 (idx s2.2 i2).bind fun m=>
 some (AW (s2.1+1),CN s2.2 i2 s2.1)
 else
 some (s2.1,s2.2)) 0 (s0.length:Int) (n,s0)).bind fun s2=>
 some s2.2
def Hd[Ev](t:AB)(b:Int):Option Fp:=
 (DP t b).bind fun a=>
 (rz (fun i0(s0:Fp)=>
 (idx a.1 i0).bind fun c=>
 (Am s0 [c.tU]).bind some) 0 (a.1.length:Int) []).bind some
def Hc[Ev](t:AB)(a:BB)(d:Bw):Option BB:=
 (rz (fun i0(s0:BB)=>
 (idx d.fq i0).bind fun f=>
 (idx a.sj.hT.fq f).bind fun r=>
 (Am s0.rr.hT.fq [r]).bind fun s=>
 (idx a.sj.og f).bind fun u=>
 (Am [] u).bind fun v=>
 (Am s0.rr.og [v]).bind fun w=>
 some (BB.mk s0.ns s0.kx s0.sj (AM.mk (hT.mk s s0.rr.hT.jj) w) s0.sB s0.r6)) 0 (d.fq.length:Int) a).bind fun s0=>
 (rz (fun i2(s2:BB)=>
 (idx d.jj i2).bind fun x=>
 (idx a.sj.hT.jj x).bind fun e=>
 (idx s2.sB.fq e.rA).bind fun g=>
 (idx s2.sB.fq e.To).bind fun h=>
 (Am s2.rr.hT.jj [B0.mk e.rx g h]).bind fun i=>
 some (BB.mk s2.ns s2.kx s2.sj (AM.mk (hT.mk s2.rr.hT.fq i) s2.rr.og) s2.sB s2.r6)) 0 (d.jj.length:Int) s0).bind fun s2=>
 (rz (fun i4(s4:BB)=>
 (idx a.ns.pq.hT.fq i4).bind fun c=>
 (idx s4.r6.fq i4).bind fun j=>
 if (j=(s4.rr.hT.fq.length:Int):Bool)then
 (Am s4.rr.hT.fq [c]).bind fun k=>
 (Hd t c).bind fun l=>
 (Am s4.rr.og [l]).bind fun m=>
 some (BB.mk s4.ns s4.kx s4.sj (AM.mk (hT.mk k s4.rr.hT.jj) m) s4.sB s4.r6)
 else
 some s4) 0 (a.ns.pq.hT.fq.length:Int) s2).bind fun s4=>
 (rz (fun i6(s6:BB)=>
 (idx a.ns.pq.hT.jj i6).bind fun b=>
 (idx s6.r6.jj i6).bind fun n=>
 if (n=(s6.rr.hT.jj.length:Int):Bool)then
 (idx s6.r6.fq b.rA).bind fun o=>
 (idx s6.r6.fq b.To).bind fun p=>
 (Am s6.rr.hT.jj [B0.mk b.rx o p]).bind fun q=>
 some (BB.mk s6.ns s6.kx s6.sj (AM.mk (hT.mk s6.rr.hT.fq q) s6.rr.og) s6.sB s6.r6)
 else
 some s6) 0 (a.ns.pq.hT.jj.length:Int) s4).bind some
def Tu(s:BB):TV:=.agg ((CW s).map (·.t))
def H4(s:BB):Option (Bb×Int):=
 o4 (rb (ρ:=(Bb×Int)) (fun i0(s0:Bb)=>
 (idx s.ns.pq.rf i0).bind fun a=>
 (Fh a.rk s.kx.qy).bind fun b=>
 if (!b.2=0)then
 some (.ret ([],b.2))
 else
 (idx s.r6.fq a.rU).bind fun c=>
 if ((s0.look (c,a.rc)).isSome&&(!(s0.look (c,a.rc)).getD 0=b.1))then
 some (.ret ([],11))
 else
 some (.next (s0.set (c,a.rc) b.1))) 0 (s.ns.pq.rf.length:Int) []) (fun s0=>some (s0,0)) some
def JX(s:BB)(V:List Fp):BB:=BB.mk s.ns s.kx s.sj (AM.mk s.rr.hT V) s.sB s.r6
def JI[Ev](t:AB)(s:BB)(V:List Fp)(p:(Int×Int)×Int):Option (B2 (List Fp) Unit):=
 (idx s.rr.hT.fq p.1.1).bind fun c=>
 (DP t c).bind fun a=>
 (idx a.1 p.1.2).bind fun d=>
 (if(p.2<d.tU:Bool)then some true else((idx a.1 p.1.2).bind fun e=>
 some (decide (e.sO<p.2)))).bind fun f=>
 if f then
 some (.ret ())
 else
 (idx V p.1.1).bind fun b=>
 (idx b p.1.2).bind fun g=>
 some (.next (CN V p.1.1 (CN b p.1.2 p.2)))
def Kv[Ev](t:AB)(s:BB)(p:(Int×Int)×Int):K1:=
 (JI t s s.rr.og p).bind fun c=>match c with|.next _=>some true|.ret _=>some false|.brk _=>none
def IR[Ev](t:AB)(s:BB):Option (Int×BB):=
 (H4 s).bind fun a=>
 if (!a.2=0)then
 some (a.2,s)
 else
 if decide (List.Pairwise (fun x y:(Int×Int)×Int=>x.1≠y.1) a.1)then
 (tq (Kv t s) a.1).bind fun c=>
 if c then
 some (0,JX s (a.1.foldl D6 s.rr.og))
 else
 some (6,s)
 else
 none
def GW[Ev](t:AB)(a:ns)(d:AM)(m:AP):Option (BB×Int):=
 (F2 t a d m).bind fun g=>
 if (!g=0)then
 some (Iu,g)
 else
 (EQ t a.rj.hT d.hT m.gt).bind fun e=>
 if (!e.2=0)then
 some (Iu,e.2)
 else
 (FC e.1 d.hT a.sa m.gt).bind fun c=>
 if (!c.2=0)then
 some (Iu,c.2)
 else
 (C4 t a.rj a.j0 d m a.rB).bind fun f=>
 if (!f.2=0)then
 some (Iu,f.2)
 else
 if (!f.1)then
 some (Iu,16)
 else
 (I9 m).bind fun n=>
 (Ju d).bind fun o=>
 (KD (d.hT.fq.length:Int) c.1.fq).bind fun h=>
 (KD (d.hT.jj.length:Int) c.1.jj).bind fun i=>
 (Io (a.pq.hT.fq.length:Int) a.sa.fq a.rT.fq m.gt.fq h (c.1.fq.length:Int)).bind fun j=>
 (Io (a.pq.hT.jj.length:Int) a.sa.jj a.rT.jj m.gt.jj i (c.1.jj.length:Int)).bind fun k=>
 (Hc t (BB.mk a n o (AM.mk (hT.mk [] []) []) (gt.mk h i) (gt.mk j k)) c.1).bind fun l=>
 (IR t l).bind fun b=>
 if (!b.1=0)then
 some (Iu,b.1)
 else
 if (40<(b.2.rr.hT.fq.length:Int)||80<(b.2.rr.hT.jj.length:Int))then
 some (Iu,3)
 else
 some (b.2,0)
def ER[Ev](t:AB)(b:ns)(c:AM):Option (List AP×Int):=
 (GX t b c).bind fun d=>
 if (!d=0)then
 some ([],d)
 else
 (De t b.rj c b.rB).bind fun a=>
 if (!a.2=0)then
 some ([],a.2)
 else
 (rz (fun i0(s0:List AP)=>
 (idx a.1 i0).bind fun e=>
 (GW t b c e).bind fun f=>
 if (f.2=0:Bool)then
 (Am s0 [e]).bind some
 else
 some s0) 0 (a.1.length:Int) []).bind fun s0=>
 some (s0,0)
def C6[Ev](t:AB)(a:List ns)(f:AM):Option (List BW×Int):=
 o4 (rb (ρ:=(List BW×Int)) (fun i0(s0:List BW)=>
 (idx a i0).bind fun c=>
 (ER t c f).bind fun b=>
 if (!b.2=0)then
 some (.ret ([],b.2))
 else
 (rz (fun i2(s2:List BW)=>
 (idx b.1 i2).bind fun d=>
 (Am s2 [BW.mk i0 d]).bind some) 0 (b.1.length:Int) s0).bind fun s2=>
 some (.next s2)) 0 (a.length:Int) []) (fun s0=>
 some (s0,0)) some
def Hb[Ev](t:AB)(d:ns)(c:AM)(m:AP):Option (BB×Int):=
 (GX t d c).bind fun a=>
 if (!a=0)then
 some (Iu,a)
 else
 (GW t d c m).bind fun b=>
 some (b.1,b.2)
def DE[Ev](t:AB)(a:List ns)(d:AM)(m:BW):Option (BB×Int):=
 if (m.ns<0||(a.length:Int)<=m.ns)then
 some (Iu,6)
 else
 (idx a m.ns).bind fun c=>
 (Hb t c d m.kx).bind fun b=>
 some (b.1,b.2)
def Dh[Ev](t:AB)(c:List ns)(e:AM)(a:Fp):Option (AL×Int):=
 (DF t c e).bind fun f=>
 if (!f=0)then
 some (HO,f)
 else
 if (30<(a.length:Int):Bool)then
 some (HO,3)
 else
 (CH e).bind fun h=>
 o4 (rb (ρ:=(AL×Int)) (fun i0(s0:AM×AL×AL)=>
 (idx a i0).bind fun i=>
 (C6 t c s0.1).bind fun b=>
 if (!b.2=0)then
 some (.ret (HO,b.2))
 else
 if ((b.1.length:Int)=0:Bool)then
 some (.brk (s0.1,s0.2.1,s0.2.2))
 else
 (QD i (b.1.length:Int)).bind fun j=>
 (QD (AW (j+(b.1.length:Int))) (b.1.length:Int)).bind fun k=>
 (idx b.1 k).bind fun g=>
 (DE t c s0.1 g).bind fun d=>
 if (!d.2=0)then
 some (.ret (HO,d.2))
 else
 (Am s0.2.2.po [g]).bind fun l=>
 some (.next (d.1.rr,s0.2.1,AL.mk s0.2.2.rn l))) 0 (a.length:Int) (e,HO,AL.mk h [])) (fun s0=>
 some (s0.2.2,0)) some
def Di[Ev](t:AB)(a:List ns)(d:AL):Option (List BB×Int×Int):=
 (DF t a d.rn).bind fun c=>
 if (!c=0)then
 some ([],0,c)
 else
 if (30<(d.po.length:Int):Bool)then
 some ([],0,3)
 else
 o4 (rb (ρ:=(List BB×Int×Int)) (fun i0(s0:List BB×AM)=>
 (idx d.po i0).bind fun e=>
 (DE t a s0.2 e).bind fun b=>
 if (!b.2=0)then
 some (.ret ([],i0,b.2))
 else
 (Am s0.1 [b.1]).bind fun f=>
 some (.next (f,b.1.rr))) 0 (d.po.length:Int) ([],d.rn)) (fun s0=>
 some (s0.1,(s0.1.length:Int),0)) some
def GQ(n:Int):Option Fp:=
 (NF n 0).bind fun a=>
 (rz (fun i0(s0:Fp)=>
 (idx s0 i0).bind fun b=>
 some (CN s0 i0 i0)) 0 (a.length:Int) a).bind some
def Dj[Ev](g:hT):Option (gt×Int):=
 (CX g).bind fun c=>
 if (!c=0)then
 some (gt.mk [] [],c)
 else
 (GQ (g.fq.length:Int)).bind fun a=>
 (GQ (g.jj.length:Int)).bind fun b=>
 some (gt.mk a b,0)
def C5[Ev](g:hT):Option gt:=
 (Dj g).bind fun a=>
 some a.1
def GJ(l:Fp)(c:Fp):Option Fp:=
 (slices_Clone_int l).bind fun d=>
 (rz (fun i0(s0:Fp)=>
 (idx s0 i0).bind fun a=>
 if (0<=a:Bool)then
 (idx c a).bind fun b=>
 (idx s0 i0).bind fun e=>
 some (CN s0 i0 b)
 else
 some s0) 0 (d.length:Int) d).bind some
def Du[Ev](t:AB)(c:List ns)(d:AL):Option (AM×gt×Int):=
 (Di t c d).bind fun a=>
 if (!a.2.2=0)then
 some (AM.mk (hT.mk [] []) [],gt.mk [] [],a.2.2)
 else
 (C5 d.rn.hT).bind fun e=>
 (rz (fun i0(s0:AM×gt)=>
 (idx a.1 i0).bind fun b=>
 (GJ s0.2.fq b.sB.fq).bind fun f=>
 (GJ s0.2.jj b.sB.jj).bind fun g=>
 some (b.rr,gt.mk f g)) 0 (a.1.length:Int) (d.rn,e)).bind fun s0=>
 (CH s0.1).bind fun h=>
 some (h,s0.2,0)
def CY[Ev]:K1:=
 (Gd).bind fun b=>
 (Dh b [ns.mk (⟨#[98,105,114,116,104]⟩:ByteArray) (j4.mk (hT.mk [] []) [] 0 []) (j4.mk (hT.mk [3] []) [] 0 []) (Bw.mk [] []) (gt.mk [] []) false (j0.mk 1 [] (gt.mk [] []) (j4.mk (hT.mk [] []) [] 0 []))] (AM.mk (hT.mk [] []) []) [0,7]).bind fun a=>
 (Du b [ns.mk (⟨#[98,105,114,116,104]⟩:ByteArray) (j4.mk (hT.mk [] []) [] 0 []) (j4.mk (hT.mk [3] []) [] 0 []) (Bw.mk [] []) (gt.mk [] []) false (j0.mk 1 [] (gt.mk [] []) (j4.mk (hT.mk [] []) [] 0 []))] a.1).bind fun c=>
 (C1 a.1).bind fun d=>
 (if((a.2=0&&(a.1.po.length:Int)=2)&&c.2.2=0)then((slices_Equal_int c.1.hT.fq [3,3]).bind some)else some false).bind fun f=>
 some ((f&&d.2=0)&&(d.1==(⟨#[109,111,118,101,32,48,32,40,32,41,32,40,32,41,32,40,32,41,32,59,10,109,111,118,101,32,48,32,40,32,41,32,40,32,41,32,40,32,41,32,59,10]⟩:ByteArray)))
def K4(g:hT):K1:=
 some ((g.fq.length:Int)<=45&&(g.jj.length:Int)<=90)
def IK(a:AM):K1:=
 (K4 a.hT).bind fun c=>
 if ((!c)||45<(a.og.length:Int))then
 some false
 else
 o4 (rb (ρ:=Bool) (fun i0 _=>
 (idx a.og i0).bind fun b=>
 if (12<(b.length:Int):Bool)then
 some (.ret false)
 else
 some (.next ())) 0 (a.og.length:Int) ()) (fun _=>
 some true) some
def K5(m:gt)(n:Int):K1:=
 some (decide ((AW ((m.fq.length:Int)+(m.jj.length:Int)))<=n))
def Es(m:AP)(n:Int):K1:=
 (K5 m.gt n).bind fun a=>
 some (a&&(m.qy.length:Int)<=n)
def Ji(d:AL)(a:Int):K1:=
 (IK d.rn).bind fun e=>
 if ((!e)||a<(d.po.length:Int))then
 some false
 else
 o4 (rb (ρ:=Bool) (fun i0 _=>
 (idx d.po i0).bind fun b=>
 (Es b.kx 140).bind fun c=>
 if (!c)then
 some (.ret false)
 else
 some (.next ())) 0 (d.po.length:Int) ()) (fun _=>
 some true) some
def Ij(g:hT):Option hT:=
 (Am [] g.fq).bind fun b=>
 (Am [] g.jj).bind fun a=>
 some (hT.mk b a)
def Ey(a:AM):Option AM:=
 (Ij a.hT).bind fun e=>
 (rz (fun i0(s0:AM)=>
 (idx a.og i0).bind fun b=>
 (Am [] b).bind fun c=>
 (Am s0.og [c]).bind fun d=>
 some (AM.mk s0.hT d)) 0 (a.og.length:Int) (AM.mk e [])).bind some
def Gk(m:AP):Option AP:=
 (Am [] m.gt.fq).bind fun c=>
 (Am [] m.gt.jj).bind fun a=>
 (Am [] m.qy).bind fun b=>
 some (AP.mk (gt.mk c a) b)
def HK(d:AL):Option AL:=
 (Ey d.rn).bind fun f=>
 (rz (fun i0(s0:AL)=>
 (idx d.po i0).bind fun a=>
 (idx d.po i0).bind fun b=>
 (Gk b.kx).bind fun c=>
 (Am s0.po [BW.mk a.ns c]).bind fun e=>
 some (AL.mk s0.rn e)) 0 (d.po.length:Int) (AL.mk f [])).bind some
def FZ(l:Fp)(e:Int)(a:Int):K1:=
 o4 (rb (ρ:=Bool) (fun i0 _=>
 (idx l i0).bind fun b=>
 (if(b<e:Bool)then some true else((idx l i0).bind fun c=>
 some (decide (a<c)))).bind fun d=>
 if d then
 some (.ret false)
 else
 some (.next ())) 0 (l.length:Int) ()) (fun _=>
 some true) some
def CI[Ev]:Nat->Int->Option ByteArray
 |0,_=>none|n+1,a=>
  if (a<0:Bool)then
  (CI n (AW (-a))).bind fun h=>
  (Cy (⟨#[45]⟩:ByteArray) h).bind some
  else
  if (a<10:Bool)then
  (rR (⟨#[48,49,50,51,52,53,54,55,56,57]⟩:ByteArray) a (AW (a+1))).bind some
  else
  (quo a 10).bind fun c=>
  (CI n (AW c)).bind fun d=>
  (QD a 10).bind fun e=>
  (CI n e).bind fun f=>
  (Cy d f).bind some
def Fr[Ev](a:Int):Option ByteArray:=KV fun n=>CI n a
def Cp[Ev](l:Fp):Option ByteArray:=
 (rz (fun i0(s0:ByteArray)=>
 (idx l i0).bind fun a=>
 if (a<0:Bool)then
 (Cy s0 (⟨#[32,45,32]⟩:ByteArray)).bind fun b=>
 (idx l i0).bind fun c=>
 (Fr (AW (-c))).bind fun d=>
 (Cy b d).bind some
 else
 (Cy s0 (⟨#[32]⟩:ByteArray)).bind fun f=>
 (idx l i0).bind fun g=>
 (Fr g).bind fun h=>
 (Cy f h).bind some) 0 (l.length:Int) (⟨#[32,40]⟩:ByteArray)).bind fun s0=>
 (Cy s0 (⟨#[32,41]⟩:ByteArray)).bind some
def Ez[Ev](d:AL):Option (ByteArray×Int):=
 if (30<(d.po.length:Int):Bool)then
 some ((⟨#[]⟩:ByteArray),3)
 else
 o4 (rb (ρ:=(ByteArray×Int)) (fun i0(s0:ByteArray)=>
 (idx d.po i0).bind fun b=>
 (idx d.po i0).bind fun a=>
 (idx d.po i0).bind fun c=>
 if ((40<(a.kx.gt.fq.length:Int)||80<(a.kx.gt.jj.length:Int))||12<(c.kx.qy.length:Int))then
 some (.ret ((⟨#[]⟩:ByteArray),3))
 else
 (if(b.ns<0||999999999<b.ns)then some true else((FZ a.kx.gt.fq 0 999999999).bind fun e=>
 some (!e))).bind fun f=>
 (if f then some true else((FZ a.kx.gt.jj 0 999999999).bind fun g=>
 some (!g))).bind fun h=>
 (if h then some true else((FZ c.kx.qy (-999999999) 999999999).bind fun i=>
 some (!i))).bind fun j=>
 if j then
 some (.ret ((⟨#[]⟩:ByteArray),6))
 else
 (Cy s0 (⟨#[109,111,118,101,32]⟩:ByteArray)).bind fun k=>
 (Fr b.ns).bind fun l=>
 (Cy k l).bind fun m=>
 (Cp a.kx.gt.fq).bind fun n=>
 (Cy m n).bind fun o=>
 (Cp a.kx.gt.jj).bind fun p=>
 (Cy o p).bind fun q=>
 (Cp c.kx.qy).bind fun r=>
 (Cy q r).bind fun s=>
 (Cy s (⟨#[32,59,10]⟩:ByteArray)).bind fun t=>
 some (.next t)) 0 (d.po.length:Int) (⟨#[]⟩:ByteArray)) (fun s0=>
 some (s0,0)) some
def Gi(c:Int):K1:=
 some (((c=32||c=9)||c=13)||c=10)
def HF(c:Int):K1:=
 some (97<=c&&c<=122||(65<=c&&c<=90))
def FY(c:Int):K1:=
 some (48<=c&&c<=57)
def Jh[Ev](a:ByteArray)(c:Int)(b:Bool):QQ:=
 o4 (E5 (ρ:=Int) (fun(s0:Int)=>
 (if((AW (c+s0))<(a.size:Int):Bool)then((rP a (AW (c+s0))).bind fun d=>
 (FY d).bind fun e=>
 (if e then some true else((if(!b)then((rP a (AW (c+s0))).bind fun f=>
 (HF f).bind fun g=>
 (if g then some true else((rP a (AW (c+s0))).bind fun h=>
 some (decide (h=95)))).bind some)else some false).bind some)).bind some)else some false).bind fun l=>
 if l then
 some (.next (AW (s0+1)))
 else
 some (.brk s0)) 0) some some
def HI[Ev](b:ByteArray)(c:Int):QQ:=
 o4 (E5 (ρ:=Int) (fun(s0:Int)=>
 if ((AW (c+s0))<(b.size:Int):Bool)then
 (rP b (AW (c+s0))).bind fun a=>
 if (a=34:Bool)then
 some (.ret (AW (s0+1)))
 else
 if (a<32||126<a)then
 some (.ret 0)
 else
 some (.next (AW (s0+1)))
 else
 some (.brk s0)) 1) (fun s0=>
 some 0) some
def JP:Option (List ByteArray):=
 some [(⟨#[45,62]⟩:ByteArray),(⟨#[60,61]⟩:ByteArray),(⟨#[62,61]⟩:ByteArray),(⟨#[61,61]⟩:ByteArray),(⟨#[33,61]⟩:ByteArray),(⟨#[123]⟩:ByteArray),(⟨#[125]⟩:ByteArray),(⟨#[40]⟩:ByteArray),(⟨#[41]⟩:ByteArray),(⟨#[91]⟩:ByteArray),(⟨#[93]⟩:ByteArray),(⟨#[44]⟩:ByteArray),(⟨#[59]⟩:ByteArray),(⟨#[58]⟩:ByteArray),(⟨#[61]⟩:ByteArray),(⟨#[43]⟩:ByteArray),(⟨#[45]⟩:ByteArray),(⟨#[42]⟩:ByteArray),(⟨#[60]⟩:ByteArray),(⟨#[62]⟩:ByteArray),(⟨#[33]⟩:ByteArray),(⟨#[38]⟩:ByteArray),(⟨#[124]⟩:ByteArray),(⟨#[46]⟩:ByteArray),(⟨#[63]⟩:ByteArray)]
def HH[Ev](b:ByteArray)(a:Int):Option (AY×Int×Int):=
 (rP b a).bind fun d=>
 (HF d).bind fun i=>
 (if i then some true else((FY d).bind some)).bind fun k=>
 if k then
 (FY d).bind fun l=>
 (Jh b a l).bind fun f=>
 (FY d).bind fun m=>
 (if m then
 some (2,9)
 else
 some (1,20)).bind fun w1=>
 if (w1.2<f:Bool)then
 some (AY.mk 0 (⟨#[]⟩:ByteArray) 0,0,3)
 else
 (rR b a (AW (a+f))).bind fun n=>
 some (AY.mk w1.1 n 0,f,0)
 else
 if (d=34:Bool)then
 (HI b a).bind fun e=>
 if (e=0:Bool)then
 some (AY.mk 0 (⟨#[]⟩:ByteArray) 0,0,2)
 else
 if (60<(AW (e-2)):Bool)then
 some (AY.mk 0 (⟨#[]⟩:ByteArray) 0,0,3)
 else
 (rR b (AW (a+1)) (AW ((AW (a+e))-1))).bind fun o=>
 some (AY.mk 3 o 0,e,0)
 else
 (JP).bind fun c=>
 o4 (rb (ρ:=(AY×Int×Int)) (fun i0(s0:AY)=>
 (idx c i0).bind fun p=>
 (if((AW (a+(p.size:Int)))<=(b.size:Int):Bool)then((idx c i0).bind fun q=>
 (rR b a (AW (a+(q.size:Int)))).bind fun r=>
 (idx c i0).bind fun s=>
 some (r==s))else some false).bind fun t=>
 if t then
 (idx c i0).bind fun g=>
 (idx c i0).bind fun h=>
 some (.ret (AY.mk 4 g 0,(h.size:Int),0))
 else
 some (.next s0)) 0 (c.length:Int) (AY.mk 0 (⟨#[]⟩:ByteArray) 0)) (fun s0=>
 some (AY.mk 0 (⟨#[]⟩:ByteArray) 0,0,2)) some
def Da[Ev](b:ByteArray):Option (List AY×Int×Int):=
 if (20000<(b.size:Int):Bool)then
 some ([],0,3)
 else
 o4 (E5 (ρ:=(List AY×Int×Int)) (fun(s0:List AY×Int×Int)=>
 if (s0.2.2<(b.size:Int):Bool)then
 (rP b s0.2.2).bind fun d=>
 if (d=35:Bool)then
 o4 (E5 (ρ:=(List AY×Int×Int)) (fun(s2:Int)=>
 (if(s2<(b.size:Int):Bool)then((rP b s2).bind fun e=>
 some (!e=10))else some false).bind fun f=>
 if f then
 some (.next (AW (s2+1)))
 else
 some (.brk s2)) s0.2.2) (fun s2=>
 some (.next (s0.1,s0.2.1,s2))) (fun v2=>some (.ret v2))
 else
 (rP b s0.2.2).bind fun g=>
 (Gi g).bind fun h=>
 if h then
 (rP b s0.2.2).bind fun i=>
 if (i=10:Bool)then
 some (.next (s0.1,AW (s0.2.1+1),AW (s0.2.2+1)))
 else
 some (.next (s0.1,s0.2.1,AW (s0.2.2+1)))
 else
 (HH b s0.2.2).bind fun a=>
 if (a.2.2=0&&(s0.1.length:Int)=4000)then
 if (!3=0)then
 some (.ret ([],s0.2.1,3))
 else
 (Am s0.1 [AY.mk a.1.rh a.1.sn s0.2.1]).bind fun c=>
 some (.next (c,s0.2.1,AW (s0.2.2+a.2.1)))
 else
 if (!a.2.2=0)then
 some (.ret ([],s0.2.1,a.2.2))
 else
 (Am s0.1 [AY.mk a.1.rh a.1.sn s0.2.1]).bind fun c=>
 some (.next (c,s0.2.1,AW (s0.2.2+a.2.1)))
 else
 some (.brk (s0.1,s0.2.1,s0.2.2))) ([],1,0)) (fun s0=>
 some (s0.1,0,0)) some
def F3(c:Int):K1:=
 some (!c=10)
def Co[Ev](e:ByteArray):Option (List AY×Int×Int):=
 if (20000<(e.size:Int):Bool)then
 some ([],0,3)
 else
 o4 (E5 (ρ:=(List AY×Int×Int)) (fun(s0:ByteArray×List AY×Int)=>
 if (0<(s0.1.size:Int):Bool)then
 (rP s0.1 0).bind fun b=>
 if (b=10:Bool)then
 (rR s0.1 1 s0.1.size).bind fun f=>
 some (.next (f,s0.2.1,AW (s0.2.2+1)))
 else
 if ((b=32||b=9)||b=13)then
 (rR s0.1 1 s0.1.size).bind fun g=>
 some (.next (g,s0.2.1,s0.2.2))
 else
 if (b=35:Bool)then
 (Dn s0.1 F3).bind fun h=>
 (rR s0.1 h s0.1.size).bind fun i=>
 some (.next (i,s0.2.1,s0.2.2))
 else
 (D9 s0.1).bind fun a=>
 if (!a.2.2=0)then
 some (.ret ([],s0.2.2,a.2.2))
 else
 if ((s0.2.1.length:Int)=4000:Bool)then
 some (.ret ([],s0.2.2,3))
 else
 (rR s0.1 0 a.2.1).bind fun j=>
 if (a.1=3:Bool)then
 (rR s0.1 1 (AW (a.2.1-1))).bind fun k=>
 (Am s0.2.1 [AY.mk a.1 k s0.2.2]).bind fun c=>
 (rR s0.1 a.2.1 s0.1.size).bind fun d=>
 some (.next (d,c,s0.2.2))
 else
 (Am s0.2.1 [AY.mk a.1 j s0.2.2]).bind fun c=>
 (rR s0.1 a.2.1 s0.1.size).bind fun d=>
 some (.next (d,c,s0.2.2))
 else
 some (.brk (s0.1,s0.2.1,s0.2.2))) (e,[],1)) (fun s0=>
 some (s0.2.1,0,0)) some
def Ah(a:AE)(c:Int)(b:ByteArray):K1:=
 (if(a.err=0&&a.at'<(a.l.length:Int))then((idx a.l a.at').bind fun d=>
 some (decide (d.rh=c)))else some false).bind fun e=>
 (if e then((if(b==(⟨#[]⟩:ByteArray))then some true else((idx a.l a.at').bind fun f=>
 some (f.sn==b))).bind some)else some false).bind some
def A6(a:AE)(e:Int):Option AE:=
 (if(a.err=0:Bool)then
 (idx a.l (min a.at' (AW ((a.l.length:Int)-1)))).bind fun b=>
 some (AE.mk a.l a.at' e b.u7)
 else
 some a).bind some
def Ai(a:AE)(b:Int)(f:ByteArray):Option (ByteArray×AE):=
 (Ah a b f).bind fun c=>
 if (!c)then
 (A6 a 2).bind fun d=>
 some ((⟨#[]⟩:ByteArray),d)
 else
 (idx a.l (AW ((AW (a.at'+1))-1))).bind fun e=>
 some (e.sn,AE.mk a.l (AW (a.at'+1)) a.err a.qo)
def Dc[Ev](a:ByteArray):Option (Int×Int):=
 (DB (AY.mk 2 a 0)).bind fun b=>
 if (!b.2)then
 some (0,2)
 else
 (rz (fun i0(s0:Int)=>
 (rP a i0).bind fun c=>
 some (AW ((AW (10*s0))+(AW (IntKind.u8.wrap (c-48)))))) 0 (a.size:Int) 0).bind fun s0=>
 some (s0,0)
def Ag[Ev](a:AE):Option (Int×AE):=
 (Ai a 2 (⟨#[]⟩:ByteArray)).bind fun b=>
 (Dc b.1).bind fun c=>
 some (c.1,b.2)
def Aw[Ev](n:AE)(d:Int)(c:Bool):Option (Fp×AE):=
 (Ai n 4 (⟨#[40]⟩:ByteArray)).bind fun g=>
 o4 (E5 (ρ:=(Fp×AE)) (fun(s0:AE×Fp)=>
 (if(s0.1.err=0:Bool)then((Ah s0.1 4 (⟨#[41]⟩:ByteArray)).bind fun h=>
 some (!h))else some false).bind fun i=>
 if i then
 (if c then((Ah s0.1 4 (⟨#[45]⟩:ByteArray)).bind some)else some false).bind fun k=>
 if k then
 (Ah (AE.mk s0.1.l (AW (s0.1.at'+1)) s0.1.err s0.1.qo) 2 (⟨#[]⟩:ByteArray)).bind fun e=>
 if (e&&(s0.2.length:Int)=d)then
 (A6 (AE.mk s0.1.l (AW (s0.1.at'+1)) s0.1.err s0.1.qo) 3).bind fun f=>
 (Ag f).bind fun a=>
 (Am s0.2 [AW ((-1)*a.1)]).bind fun b=>
 some (.next (a.2,b))
 else
 (Ag (AE.mk s0.1.l (AW (s0.1.at'+1)) s0.1.err s0.1.qo)).bind fun a=>
 (Am s0.2 [AW ((-1)*a.1)]).bind fun b=>
 some (.next (a.2,b))
 else
 (Ah s0.1 2 (⟨#[]⟩:ByteArray)).bind fun e=>
 if (e&&(s0.2.length:Int)=d)then
 (A6 s0.1 3).bind fun f=>
 (Ag f).bind fun a=>
 (Am s0.2 [AW (1*a.1)]).bind fun b=>
 some (.next (a.2,b))
 else
 (Ag s0.1).bind fun a=>
 (Am s0.2 [AW (1*a.1)]).bind fun b=>
 some (.next (a.2,b))
 else
 some (.brk (s0.1,s0.2))) (g.2,[])) (fun s0=>
 (Ai s0.1 4 (⟨#[41]⟩:ByteArray)).bind fun m=>
 some (s0.2,m.2)) some
def Dv[Ev](t:AB)(g:AM)(o:ByteArray):Option (AL×Int×Int):=
 (Bp t).bind fun j=>
 if (!j.2=0)then
 some (HO,0,j.2)
 else
 (Cd t g).bind fun k=>
 if (!k.2=0)then
 some (HO,0,k.2)
 else
 (Co o).bind fun a=>
 if (!a.2.2=0)then
 some (HO,a.2.1,a.2.2)
 else
 (CH g).bind fun l=>
 o4 (E5 (ρ:=(AL×Int×Int)) (fun(s0:AL×AE)=>
 if (s0.2.at'<(a.1.length:Int)&&s0.2.err=0)then
 (Ah s0.2 1 (⟨#[109,111,118,101]⟩:ByteArray)).bind fun m=>
 if (m&&(s0.1.po.length:Int)=30)then
 (A6 s0.2 3).bind fun n=>
 (Ai n 1 (⟨#[109,111,118,101]⟩:ByteArray)).bind fun h=>
 (Ag h.2).bind fun b=>
 (Aw b.2 40 false).bind fun c=>
 (Aw c.2 80 false).bind fun d=>
 (Aw d.2 12 true).bind fun e=>
 (Ai e.2 4 (⟨#[59]⟩:ByteArray)).bind fun i=>
 (Am s0.1.po [BW.mk b.1 (AP.mk (gt.mk c.1 d.1) e.1)]).bind fun f=>
 some (.next (AL.mk s0.1.rn f,i.2))
 else
 (Ai s0.2 1 (⟨#[109,111,118,101]⟩:ByteArray)).bind fun h=>
 (Ag h.2).bind fun b=>
 (Aw b.2 40 false).bind fun c=>
 (Aw c.2 80 false).bind fun d=>
 (Aw d.2 12 true).bind fun e=>
 (Ai e.2 4 (⟨#[59]⟩:ByteArray)).bind fun i=>
 (Am s0.1.po [BW.mk b.1 (AP.mk (gt.mk c.1 d.1) e.1)]).bind fun f=>
 some (.next (AL.mk s0.1.rn f,i.2))
 else
 some (.brk (s0.1,s0.2))) (AL.mk l [],AE.mk a.1 0 0 0)) (fun s0=>
 if (!s0.2.err=0)then
 some (HO,s0.2.qo,s0.2.err)
 else
 some (s0.1,0,0)) some
def Fu(a:Fp)(b:Fp):K1:=
 if (!(a.length:Int)=(b.length:Int))then
 some false
 else
 o4 (rb (ρ:=Bool) (fun i0 _=>
 (idx a i0).bind fun c=>
 (idx b i0).bind fun d=>
 if (!c=d)then
 some (.ret false)
 else
 some (.next ())) 0 (a.length:Int) ()) (fun _=>
 some true) some
def J8(a:gt)(b:gt):K1:=
 (Fu a.fq b.fq).bind fun e=>
 (if e then((Fu a.jj b.jj).bind some)else some false).bind some
def Fw(a:Fp)(b:Fp):K1:=
 if (!(a.length:Int)=(b.length:Int))then
 some false
 else
 o4 (rb (ρ:=Bool) (fun i0 _=>
 (idx a i0).bind fun c=>
 (idx b i0).bind fun d=>
 if (!c=d)then
 some (.ret false)
 else
 some (.next ())) 0 (a.length:Int) ()) (fun _=>
 some true) some
def EP(a:List BW)(b:List BW):K1:=
 if (!(a.length:Int)=(b.length:Int))then
 some false
 else
 o4 (rb (ρ:=Bool) (fun i0 _=>
 (idx a i0).bind fun c=>
 (idx b i0).bind fun d=>
 (if(!c.ns=d.ns)then some true else((idx a i0).bind fun e=>
 (idx b i0).bind fun f=>
 (J8 e.kx.gt f.kx.gt).bind fun g=>
 some (!g))).bind fun h=>
 (if h then some true else((idx a i0).bind fun i=>
 (idx b i0).bind fun j=>
 (Fw i.kx.qy j.kx.qy).bind fun k=>
 some (!k))).bind fun l=>
 if l then
 some (.ret false)
 else
 some (.next ())) 0 (a.length:Int) ()) (fun _=>
 some true) some
def D7[Ev](d:AL):K1:=
 (CY).bind fun e=>
 (if(!e)then some true else((Ji d 33).bind fun f=>
 some (!f))).bind fun g=>
 if g then
 (CY).bind some
 else
 (HK d).bind fun i=>
 (C1 i).bind fun a=>
 (Ez d).bind fun b=>
 if (((!(a.1==b.1))||(!a.2=b.2))||(!a.2=0))then
 some ((a.1==b.1)&&a.2=b.2)
 else
 (Da a.1).bind fun j=>
 if (!j.2.2=0)then
 some true
 else
 (Gd).bind fun k=>
 (Dv k (AM.mk (hT.mk [] []) []) a.1).bind fun c=>
 (if(c.2.2=0&&c.2.1=0)then((EP c.1.po d.po).bind some)else some false).bind fun m=>
 some (m&&(c.1.rn.hT.fq.length:Int)=0)
def N7[Ev](t:AB):K1:=
 if (20<(t.fq.length:Int)||30<(t.jj.length:Int))then
 some false
 else
 o4 (rb (ρ:=Bool) (fun i0(s0:Int)=>
 (idx t.fq i0).bind fun b=>
 (if(30<(AW (s0+(b.sc.length:Int))):Bool)then some true else((idx t.fq i0).bind fun d=>
 some (decide (40<(d.ru.size:Int))))).bind fun e=>
 if e then
 some (.ret false)
 else
 o4 (E5 (ρ:=Bool) (fun(s2:Int)=>
 (idx t.fq i0).bind fun f=>
 if (s2<(f.sc.length:Int):Bool)then
 (idx t.fq i0).bind fun g=>
 (idx g.sc s2).bind fun a=>
 if (40<(a.ru.size:Int)||25<(a.se.length:Int))then
 some (.ret false)
 else
 o4 (E5 (ρ:=Bool) (fun(s4:Int)=>
 if (s4<(a.se.length:Int):Bool)then
 (idx a.se s4).bind fun h=>
 if (40<(h.size:Int):Bool)then
 some (.ret false)
 else
 some (.next (AW (s4+1)))
 else
 some (.brk s4)) 0) (fun s4=>
 some (.next (AW (s2+1)))) (fun v4=>some (.ret v4))
 else
 some (.brk s2)) 0) (fun s2=>
 some (.next (AW (s0+(b.sc.length:Int))))) (fun v2=>some (.ret v2))) 0 (t.fq.length:Int) 0) (fun s0=>
 o4 (rb (ρ:=Bool) (fun i6 _=>
 (idx t.jj i6).bind fun c=>
 if (40<(c.ru.size:Int):Bool)then
 some (.ret false)
 else
 some (.next ())) 0 (t.jj.length:Int) ()) (fun _=>
 some true) some) some
def J6(t:AY):Option ByteArray:=
 if (t.rh=3:Bool)then
 (Cy (⟨#[34]⟩:ByteArray) t.sn).bind fun a=>
 (Cy a (⟨#[34]⟩:ByteArray)).bind some
 else
 some t.sn
def Gh[Ev](t:AY):K1:=
 (J6 t).bind fun b=>
 if (b==(⟨#[]⟩:ByteArray))then
 some false
 else
 (HH b 0).bind fun a=>
 some ((a.2.2=0&&a.2.1=(b.size:Int))&&a.1.rh=t.rh)
def Ft[Ev](a:ByteArray):K1:=
 (Gh (AY.mk 1 a 0)).bind some
def EW(n:Int)(b:Int)(a:Int):K1:=
 some (b<=n&&n<=a)
def Fv[Ev]:Nat->AB->Int->Option (List rc)
 |0,_,_=>none|n+1,t,a=>
  if (a<0:Bool)then
  some []
  else
  (idx t.fq a).bind fun b=>
  (Fv n t b.sw).bind fun c=>
  (Am [] c).bind fun d=>
  (idx t.fq a).bind fun e=>
  (Am d e.sc).bind some
def LN[Ev](t:AB)(a:Int):Option (List rc):=KV fun n=>Fv n t a
def LO[Ev](l:List ByteArray):QQ:=
 if (20<(l.length:Int):Bool)then
 some 3
 else
 o4 (rb (ρ:=Int) (fun i0 _=>
 (idx l i0).bind fun a=>
 (Ft a).bind fun b=>
 if (!b)then
 some (.ret 2)
 else
 o4 (rb (ρ:=Int) (fun i2 _=>
 (idx l i2).bind fun c=>
 (idx l i0).bind fun d=>
 if (c==d)then
 some (.ret 5)
 else
 some (.next ())) 0 i0 ()) (fun _=>
 some (.next ())) (fun v2=>some (.ret v2))) 0 (l.length:Int) ()) (fun _=>
 some 0) some
def Ii[Ev](a:rc):QQ:=
 if ((a.se.length:Int)=0:Bool)then
 (EW a.tU (-1000000) 1000000).bind fun c=>
 (if(!c)then some true else((EW a.sO a.tU 1000000).bind fun d=>
 some (!d))).bind fun e=>
 if e then
 some 6
 else
 some 0
 else
 (LO a.se).bind fun b=>
 if (!b=0)then
 some b
 else
 if ((!a.tU=0)||(!a.sO=(AW ((a.se.length:Int)-1))))then
 some 6
 else
 some 0
def M1[Ev](t:AB)(c:Int):QQ:=
 (idx t.fq c).bind fun b=>
 (Ft b.ru).bind fun e=>
 if (!e)then
 some 2
 else
 o4 (rb (ρ:=Int) (fun i0 _=>
 (idx t.fq i0).bind fun f=>
 if (f.ru==b.ru)then
 some (.ret 5)
 else
 some (.next ())) 0 c ()) (fun _=>
 (EW b.sw (-1) (AW (c-1))).bind fun g=>
 if (!g)then
 some 6
 else
 (LN t c).bind fun a=>
 if (4<(b.sc.length:Int)||8<(a.length:Int))then
 some 3
 else
 o4 (rb (ρ:=Int) (fun i2 _=>
 (idx a i2).bind fun h=>
 (Ft h.ru).bind fun i=>
 if (!i)then
 some (.ret 2)
 else
 o4 (rb (ρ:=Int) (fun i4 _=>
 (idx a i4).bind fun j=>
 (idx a i2).bind fun k=>
 if (j.ru==k.ru)then
 some (.ret 5)
 else
 some (.next ())) 0 i2 ()) (fun _=>
 (idx a i2).bind fun l=>
 (Ii l).bind fun d=>
 if (!d=0)then
 some (.ret d)
 else
 some (.next ())) (fun v4=>some (.ret v4))) (AW ((a.length:Int)-(b.sc.length:Int))) (a.length:Int) ()) (fun _=>
 some 0) some) some
def JQ(b:Int)(a:Int):K1:=
 (EW b 0 40).bind fun f=>
 (if f then((if(a=(-1):Bool)then some true else((EW a b 40).bind some)).bind some)else some false).bind some
def M0[Ev](t:AB)(b:Int):QQ:=
 (idx t.jj b).bind fun a=>
 (Ft a.ru).bind fun c=>
 if (!c)then
 some 2
 else
 o4 (rb (ρ:=Int) (fun i0 _=>
 (idx t.jj i0).bind fun d=>
 if (d.ru==a.ru)then
 some (.ret 5)
 else
 some (.next ())) 0 b ()) (fun _=>
 (EW a.rA 0 (AW ((t.fq.length:Int)-1))).bind fun e=>
 (if(!e)then some true else((EW a.To 0 (AW ((t.fq.length:Int)-1))).bind fun f=>
 some (!f))).bind fun g=>
 (if g then some true else((JQ a.ug a.tI).bind fun h=>
 some (!h))).bind fun i=>
 (if i then some true else((JQ a.uG a.ud).bind fun j=>
 some (!j))).bind fun k=>
 if k then
 some 6
 else
 some 0) some
def Hx[Ev](t:AB):Option (ByteArray×Int):=
 if ((t.fq.length:Int)=0:Bool)then
 some ((⟨#[]⟩:ByteArray),7)
 else
 if (12<(t.fq.length:Int)||20<(t.jj.length:Int))then
 some ((⟨#[]⟩:ByteArray),3)
 else
 o4 (rb (ρ:=(ByteArray×Int)) (fun i0 _=>
 (M1 t i0).bind fun a=>
 if (!a=0)then
 (idx t.fq i0).bind fun c=>
 some (.ret (c.ru,a))
 else
 some (.next ())) 0 (t.fq.length:Int) ()) (fun _=>
 o4 (rb (ρ:=(ByteArray×Int)) (fun i2 _=>
 (M0 t i2).bind fun b=>
 if (!b=0)then
 (idx t.jj i2).bind fun d=>
 some (.ret (d.ru,b))
 else
 some (.next ())) 0 (t.jj.length:Int) ()) (fun _=>
 some ((⟨#[]⟩:ByteArray),0)) some) some
def J7(n:Int):K1:=
 some (0<=n&&n<=99)
def LQ(e:B0)(a:Int):K1:=
 (J7 e.rx).bind fun b=>
 some ((((b&&0<=e.rA)&&e.rA<a)&&0<=e.To)&&e.To<a)
def LP(g:hT):QQ:=
 if (40<(g.fq.length:Int)||80<(g.jj.length:Int))then
 some 3
 else
 o4 (rb (ρ:=Int) (fun i0 _=>
 (idx g.fq i0).bind fun a=>
 (J7 a).bind fun b=>
 if (!b)then
 some (.ret 6)
 else
 some (.next ())) 0 (g.fq.length:Int) ()) (fun _=>
 o4 (rb (ρ:=Int) (fun i2 _=>
 (idx g.jj i2).bind fun c=>
 (LQ c (g.fq.length:Int)).bind fun d=>
 if (!d)then
 some (.ret 6)
 else
 some (.next ())) 0 (g.jj.length:Int) ()) (fun _=>
 some 0) some) some
def JR[Ev](t:AB)(a:Int)(b:Int):QQ:=
 (Hx t).bind fun c=>
 if (!c.2=0)then
 some c.2
 else
 (EW a 0 (AW ((t.fq.length:Int)-1))).bind fun d=>
 (if(!d)then some true else((EW b 0 (AW ((t.fq.length:Int)-1))).bind fun e=>
 some (!e))).bind fun f=>
 if f then
 some 6
 else
 some 0
def LM[Ev](t:AB)(a:Int):Option (List rc×Int):=
 (JR t a a).bind fun c=>
 if (!c=0)then
 some ([],c)
 else
 (LN t a).bind fun d=>
 (rz (fun i0(s0:List rc)=>
 (idx d i0).bind fun b=>
 (Am [] b.se).bind fun e=>
 (Am s0 [rc.mk b.ru b.tU b.sO e]).bind some) 0 (d.length:Int) []).bind fun s0=>
 some (s0,0)
def M4[Ev](t:AB)(a:Int)(i:Fp):QQ:=
 if ((t.fq.length:Int)<=a:Bool)then
 some 6
 else
 (idx t.fq a).bind fun c=>
 if c.sL then
 some 13
 else
 (LM t a).bind fun b=>
 if (!(i.length:Int)=(b.1.length:Int))then
 some 20
 else
 o4 (rb (ρ:=Int) (fun i0 _=>
 (idx i i0).bind fun d=>
 (idx b.1 i0).bind fun e=>
 (if(d<e.tU:Bool)then some true else((idx i i0).bind fun f=>
 (idx b.1 i0).bind fun g=>
 some (decide (g.sO<f)))).bind fun h=>
 if h then
 some (.ret 6)
 else
 some (.next ())) 0 (b.1.length:Int) ()) (fun _=>
 some 0) some
def FD[Ev]:Nat->AB->Int->Int->K1
 |0,_,_,_=>none|n+1,t,a,b=>
  (if(a=b:Bool)then some true else((if(0<=a:Bool)then((idx t.fq a).bind fun c=>
  (FD n t c.sw b).bind some)else some false).bind some)).bind some
def Ka[Ev](t:AB)(a:Int)(b:Int):K1:=KV fun n=>FD n t a b
def Mz[Ev](t:AB)(a:Int)(b:Int)(c:Int):K1:=
 (JR t b c).bind fun d=>
 (if(!d=0)then some true else((EW a 0 (AW ((t.jj.length:Int)-1))).bind fun e=>
 some (!e))).bind fun f=>
 if f then
 some false
 else
 (idx t.jj a).bind fun g=>
 (Ka t b g.rA).bind fun h=>
 (if h then((idx t.jj a).bind fun i=>
 (Ka t c i.To).bind some)else some false).bind some
def LR[Ev](t:AB)(a:AM):Option (Int×Int):=
 (Hx t).bind fun c=>
 if (!c.2=0)then
 some ((-1),c.2)
 else
 (LP a.hT).bind fun d=>
 if (!d=0)then
 some ((-1),d)
 else
 if (!(a.og.length:Int)=(a.hT.fq.length:Int))then
 some ((-1),20)
 else
 o4 (rb (ρ:=(Int×Int)) (fun i0 _=>
 (idx a.hT.fq i0).bind fun f=>
 (idx a.og i0).bind fun g=>
 (M4 t f g).bind fun e=>
 if (!e=0)then
 some (.ret (i0,e))
 else
 some (.next ())) 0 (a.hT.fq.length:Int) ()) (fun _=>
 o4 (rb (ρ:=(Int×Int)) (fun i2 _=>
 (idx a.hT.jj i2).bind fun b=>
 if ((t.jj.length:Int)<=b.rx:Bool)then
 some (.ret (i2,6))
 else
 (idx a.hT.fq b.rA).bind fun h=>
 (idx a.hT.fq b.To).bind fun i=>
 (Mz t b.rx h i).bind fun j=>
 if (!j)then
 some (.ret (i2,13))
 else
 some (.next ())) 0 (a.hT.jj.length:Int) ()) (fun _=>
 some ((-1),0)) some) some
def B4(a:A0)(c:Int)(b:ByteArray):K1:=
 (if(a.e=0&&a.at'<(a.sv.length:Int))then((idx a.sv a.at').bind fun d=>
 some (decide (d.rh=c)))else some false).bind fun f=>
 (if f then((if(b==(⟨#[]⟩:ByteArray))then some true else((idx a.sv a.at').bind fun g=>
 some (g.sn==b))).bind some)else some false).bind some
def Cq(a:A0)(e:Int):Option A0:=
 (if(a.e=0:Bool)then
 (idx a.sv (min a.at' (AW ((a.sv.length:Int)-1)))).bind fun b=>
 some (A0.mk a.sv a.at' e b.u7)
 else
 some a).bind some
def A7(a:A0)(c:Int)(b:ByteArray):Option (ByteArray×A0):=
 (B4 a c b).bind fun d=>
 if (!d)then
 (Cq a 2).bind fun f=>
 some ((⟨#[]⟩:ByteArray),f)
 else
 (idx a.sv (AW ((AW (a.at'+1))-1))).bind fun g=>
 some (g.sn,A0.mk a.sv (AW (a.at'+1)) a.e a.qo)
def Cn[Ev](a:ByteArray):Option (Int×Int):=
 (Gh (AY.mk 2 a 0)).bind fun c=>
 if (!c)then
 some (0,2)
 else
 (rz (fun i0(s0:Int)=>
 (rP a i0).bind fun b=>
 some (AW ((AW (s0*10))+(AW (IntKind.u8.wrap (b-48)))))) 0 (a.size:Int) 0).bind fun s0=>
 some (s0,0)
def B5[Ev](q:A0)(f:Int)(i:Bool):Option (Fp×A0):=
 (A7 q 4 (⟨#[40]⟩:ByteArray)).bind fun j=>
 o4 (E5 (ρ:=(Fp×A0)) (fun(s0:A0×Fp)=>
 (if(s0.1.e=0:Bool)then((B4 s0.1 2 (⟨#[]⟩:ByteArray)).bind fun k=>
 (if k then some true else((if i then((B4 s0.1 4 (⟨#[45]⟩:ByteArray)).bind some)else some false).bind some)).bind some)else some false).bind fun o=>
 if o then
 (B4 s0.1 4 (⟨#[45]⟩:ByteArray)).bind fun d=>
 if d then
 (B4 (A0.mk s0.1.sv (AW (s0.1.at'+1)) s0.1.e s0.1.qo) 2 (⟨#[]⟩:ByteArray)).bind fun g=>
 if (g&&(s0.2.length:Int)=f)then
 (Cq (A0.mk s0.1.sv (AW (s0.1.at'+1)) s0.1.e s0.1.qo) 3).bind fun h=>
 (A7 h 2 (⟨#[]⟩:ByteArray)).bind fun a=>
 (Cn a.1).bind fun c=>
 if d then
 (Am s0.2 [AW (-c.1)]).bind fun b=>
 some (.next (a.2,b))
 else
 (Am s0.2 [c.1]).bind fun b=>
 some (.next (a.2,b))
 else
 (A7 (A0.mk s0.1.sv (AW (s0.1.at'+1)) s0.1.e s0.1.qo) 2 (⟨#[]⟩:ByteArray)).bind fun a=>
 (Cn a.1).bind fun c=>
 if d then
 (Am s0.2 [AW (-c.1)]).bind fun b=>
 some (.next (a.2,b))
 else
 (Am s0.2 [c.1]).bind fun b=>
 some (.next (a.2,b))
 else
 (B4 s0.1 2 (⟨#[]⟩:ByteArray)).bind fun g=>
 if (g&&(s0.2.length:Int)=f)then
 (Cq s0.1 3).bind fun h=>
 (A7 h 2 (⟨#[]⟩:ByteArray)).bind fun a=>
 (Cn a.1).bind fun c=>
 if d then
 (Am s0.2 [AW (-c.1)]).bind fun b=>
 some (.next (a.2,b))
 else
 (Am s0.2 [c.1]).bind fun b=>
 some (.next (a.2,b))
 else
 (A7 s0.1 2 (⟨#[]⟩:ByteArray)).bind fun a=>
 (Cn a.1).bind fun c=>
 if d then
 (Am s0.2 [AW (-c.1)]).bind fun b=>
 some (.next (a.2,b))
 else
 (Am s0.2 [c.1]).bind fun b=>
 some (.next (a.2,b))
 else
 some (.brk (s0.1,s0.2))) (j.2,[])) (fun s0=>
 (A7 s0.1 4 (⟨#[41]⟩:ByteArray)).bind fun p=>
 some (s0.2,p.2)) some
def LS[Ev](t:AB)(i:AM)(q:ByteArray):Option (AL×Int×Int):=
 (Hx t).bind fun l=>
 if (!l.2=0)then
 some (HO,0,l.2)
 else
 (LR t i).bind fun m=>
 if (!m.2=0)then
 some (HO,0,m.2)
 else
 (Da q).bind fun a=>
 if (!a.2.2=0)then
 some (HO,a.2.1,a.2.2)
 else
 (Ey i).bind fun n=>
 o4 (E5 (ρ:=(AL×Int×Int)) (fun(s0:AL×A0)=>
 if (s0.2.at'<(a.1.length:Int)&&s0.2.e=0)then
 (B4 s0.2 1 (⟨#[109,111,118,101]⟩:ByteArray)).bind fun o=>
 if (o&&(s0.1.po.length:Int)=30)then
 (Cq s0.2 3).bind fun p=>
 (A7 p 1 (⟨#[109,111,118,101]⟩:ByteArray)).bind fun j=>
 (A7 j.2 2 (⟨#[]⟩:ByteArray)).bind fun b=>
 (Cn b.1).bind fun k=>
 (B5 b.2 40 false).bind fun c=>
 (B5 c.2 80 false).bind fun d=>
 (B5 d.2 12 true).bind fun f=>
 (A7 f.2 4 (⟨#[59]⟩:ByteArray)).bind fun g=>
 (Am s0.1.po [BW.mk k.1 (AP.mk (gt.mk c.1 d.1) f.1)]).bind fun h=>
 some (.next (AL.mk s0.1.rn h,g.2))
 else
 (A7 s0.2 1 (⟨#[109,111,118,101]⟩:ByteArray)).bind fun j=>
 (A7 j.2 2 (⟨#[]⟩:ByteArray)).bind fun b=>
 (Cn b.1).bind fun k=>
 (B5 b.2 40 false).bind fun c=>
 (B5 c.2 80 false).bind fun d=>
 (B5 d.2 12 true).bind fun f=>
 (A7 f.2 4 (⟨#[59]⟩:ByteArray)).bind fun g=>
 (Am s0.1.po [BW.mk k.1 (AP.mk (gt.mk c.1 d.1) f.1)]).bind fun h=>
 some (.next (AL.mk s0.1.rn h,g.2))
 else
 some (.brk (s0.1,s0.2))) (AL.mk n [],A0.mk a.1 0 0 0)) (fun s0=>
 if (!s0.2.e=0)then
 some (HO,s0.2.qo,s0.2.e)
 else
 some (s0.1,0,0)) some
def M2(a:hT)(b:hT):K1:=
 (Fw a.fq b.fq).bind fun c=>
 if ((!c)||(!(a.jj.length:Int)=(b.jj.length:Int)))then
 some false
 else
 o4 (rb (ρ:=Bool) (fun i0 _=>
 (idx a.jj i0).bind fun d=>
 (idx b.jj i0).bind fun e=>
 if (!d=e)then
 some (.ret false)
 else
 some (.next ())) 0 (a.jj.length:Int) ()) (fun _=>
 some true) some
def Jq[Ev](a:Fp)(b:Fp):QQ:=
 o4 (E5 (ρ:=Int) (fun(s0:Int)=>
 if (s0<(a.length:Int)&&s0<(b.length:Int))then
 (idx a s0).bind fun c=>
 (idx b s0).bind fun d=>
 if (!c=d)then
 (idx a s0).bind fun e=>
 (idx b s0).bind fun f=>
 some (.ret (AW (e-f)))
 else
 some (.next (AW (s0+1)))
 else
 some (.brk s0)) 0) (fun s0=>
 some (AW ((a.length:Int)-(b.length:Int)))) some
def M3[Ev](a:AM)(b:AM):K1:=
 (M2 a.hT b.hT).bind fun c=>
 if ((!c)||(!(a.og.length:Int)=(b.og.length:Int)))then
 some false
 else
 o4 (rb (ρ:=Bool) (fun i0 _=>
 (idx a.og i0).bind fun d=>
 (idx b.og i0).bind fun e=>
 (Jq d e).bind fun f=>
 if (!f=0)then
 some (.ret false)
 else
 some (.next ())) 0 (a.og.length:Int) ()) (fun _=>
 some true) some
def M5[Ev](a:AL)(b:AL):K1:=
 (M3 a.rn b.rn).bind fun e=>
 (if e then((EP a.po b.po).bind some)else some false).bind some
def IH[Ev](t:AB)(c:AM)(d:ByteArray):K1:=
 (CY).bind fun e=>
 (if(!e)then some true else((N7 t).bind fun f=>
 some (!f))).bind fun g=>
 (if g then some true else((IK c).bind fun h=>
 some (!h))).bind fun i=>
 if (i||1500<(d.size:Int))then
 (CY).bind some
 else
 (Ey c).bind fun k=>
 (Dv t k d).bind fun a=>
 (LS t c d).bind fun b=>
 (if(a.2.2=b.2.2&&a.2.1=b.2.1)then((M5 a.1 b.1).bind some)else some false).bind some
end
end Go.Sf.Sc
