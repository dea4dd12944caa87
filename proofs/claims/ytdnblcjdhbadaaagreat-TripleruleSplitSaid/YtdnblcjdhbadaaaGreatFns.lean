/- The functions of the program as Lean functions. -/
import Derived.Test.YtdnblcjdhbadaaaGreatTypes
import Derived.Test.YtdnblcjdhbadaaaGreatSfText
import Derived.Test.YtdnblcjdhbadaaaGreatSfF
set_option linter.all false
set_option maxRecDepth 100000
namespace Go.Sf.Sc
open Go Go.Sf
noncomputable section
abbrev CX:Ai:=Ai.mk (em.mk (⟨#[]⟩:ByteArray) (ec.mk (d6.mk [] []) [] 0 []) (ec.mk (d6.mk [] []) [] 0 []) (Ak.mk [] []) (d7.mk [] []) false (ea.mk 0 [] (d7.mk [] []) (ec.mk (d6.mk [] []) [] 0 []))) (AJ.mk (d7.mk [] []) []) (AG.mk (d6.mk [] []) []) (AG.mk (d6.mk [] []) []) (d7.mk [] []) (d7.mk [] [])
abbrev Cx:A0:=A0.mk 0 (AJ.mk (d7.mk [] []) []) []
def Hj(b:ByteArray)(a:Int)(c:Int):Option CY:=
 some (CY.mk b a c 0 (-1) 0 (-1))
def Lc:Option (AC×Ao):=
 (Hj (⟨#[104,97,115]⟩:ByteArray) 0 1).bind fun f=>
 (Hj (⟨#[119,105,116,104]⟩:ByteArray) 2 3).bind fun a=>
 (Hj (⟨#[111,102,67,108,97,115,115]⟩:ByteArray) 4 0).bind fun b=>
 (Hj (⟨#[111,102,65,116,116,114,105,98,117,116,101]⟩:ByteArray) 4 1).bind fun c=>
 (Hj (⟨#[116,111,84,97,98,108,101]⟩:ByteArray) 4 2).bind fun d=>
 (Hj (⟨#[116,111,67,111,108,117,109,110]⟩:ByteArray) 4 3).bind fun e=>
 some (AC.mk [B6.mk (⟨#[67,108,97,115,115]⟩:ByteArray) (-1) false [],B6.mk (⟨#[65,116,116,114,105,98,117,116,101]⟩:ByteArray) (-1) false [],B6.mk (⟨#[84,97,98,108,101]⟩:ByteArray) (-1) false [],B6.mk (⟨#[67,111,108,117,109,110]⟩:ByteArray) (-1) false [],B6.mk (⟨#[77,97,112]⟩:ByteArray) (-1) false []] [f,a,b,c,d,e],Ao.mk [1,1,3,3,2] [1,3,2,2,2,2])
def slices_Index_int(a:Fp)(c:Int):QQ:=
 AM (Ag (ρ:=Int) (fun(i0:Int)(_:Unit)=>
 (idx a i0).bind fun b=>
 if (decide (c=b))then
 some (.ret i0)
 else
 some (.next ())) 0 (a.length:Int) ()) (fun _=>
 some (-1)) (fun v0=>some v0)
def GI[Ev](a:List B6)(f:B6->K1):QQ:=
 AM (Ag (ρ:=Int) (fun(i0:Int)(_:Unit)=>
 (idx a i0).bind fun b=>
 (f b).bind fun c=>
 if c then
 some (.ret i0)
 else
 some (.next ())) 0 (a.length:Int) ()) (fun _=>
 some (-1)) (fun v0=>some v0)
def Cw[Ev](a:List B6)(f:B6->K1):K1:=
 (GI a f).bind fun b=>
 some (decide (0<=b))
def KN(c:Int):K1:=
 some (((decide (97<=c))&&(decide (c<=122)))||((decide (65<=c))&&(decide (c<=90))))
def KP[Ev](a:ByteArray)(e:Int->K1):QQ:=
 AM (ER (ρ:=Int) (fun(s0:Int)=>
 (if(decide (s0<(a.size:Int)))then((Aat a s0).bind fun b=>
 (e b).bind fun c=>
 some (c))else some false).bind fun d=>
 if d then
 some (.next (Al (s0+1)))
 else
 some (.brk s0)) 0) (fun s0=>
 some s0) (fun v0=>some v0)
def Jg(c:Int):K1:=
 some ((decide (48<=c))&&(decide (c<=57)))
def M7(c:Int):K1:=
 (KN c).bind fun a=>
 (if a then some true else((Jg c).bind fun b=>
 some (b))).bind fun d=>
 some (d||(decide (c=95)))
def Kr(c:Int):K1:=
 some (((decide (32<=c))&&(decide (c<=126)))&&(!decide (c=34)))
def KO[Ev](a:ByteArray):Option (Int×Int):=
 (Aax a 1 a.size).bind fun e=>
 (KP e Kr).bind fun b=>
 (if(decide ((Al (1+b))=(a.size:Int)))then some true else((Aat a (Al (1+b))).bind fun c=>
 some (!decide (c=34)))).bind fun d=>
 if d then
 some (0,2)
 else
 if (decide (60<b))then
 some (0,3)
 else
 some (Al (b+2),0)
def slices_Index_string(a:List ByteArray)(c:ByteArray):QQ:=
 AM (Ag (ρ:=Int) (fun(i0:Int)(_:Unit)=>
 (idx a i0).bind fun b=>
 if (c==b)then
 some (.ret i0)
 else
 some (.next ())) 0 (a.length:Int) ()) (fun _=>
 some (-1)) (fun v0=>some v0)
def slices_Contains_string(b:List ByteArray)(a:ByteArray):K1:=
 (slices_Index_string b a).bind fun c=>
 some (decide (0<=c))
def M6(a:ByteArray):K1:=
 (if(decide (2<=(a.size:Int)))then((Aax a 0 2).bind fun d=>
 (slices_Contains_string [(⟨#[45,62]⟩:ByteArray),(⟨#[60,61]⟩:ByteArray),(⟨#[62,61]⟩:ByteArray),(⟨#[61,61]⟩:ByteArray),(⟨#[33,61]⟩:ByteArray)] d).bind fun b=>
 some (b))else some false).bind fun c=>
 some c
def strings_IndexByte(s:ByteArray)(c:Int):QQ:=some (Go.Lib.indexByte s.data.toList c.toNat.toUInt8)
def M5[Ev](a:ByteArray):Option (Int×Int×Int):=
 (Aat a 0).bind fun b=>
 (KN b).bind fun f=>
 if f then
 (KP a M7).bind fun c=>
 if (decide (20<c))then
 some (0,0,3)
 else
 some (1,c,0)
 else
 (Jg b).bind fun g=>
 if g then
 (KP a Jg).bind fun d=>
 if (decide (9<d))then
 some (0,0,3)
 else
 some (2,d,0)
 else
 if (decide (b=34))then
 (KO a).bind fun e=>
 some (3,e.1,e.2)
 else
 (M6 a).bind fun h=>
 if h then
 some (4,2,0)
 else
 (strings_IndexByte (⟨#[123,125,40,41,91,93,44,59,58,61,43,45,42,60,62,33,38,124,46,63]⟩:ByteArray) b).bind fun i=>
 if (decide (0<=i))then
 some (4,1,0)
 else
 some (0,0,2)
def N4[Ev](t:EO):Option (ByteArray×Bool):=
 (if(decide (t.l3=3))then
 (TT (⟨#[34]⟩:ByteArray) t.AbI).bind fun b=>
 (TT b (⟨#[34]⟩:ByteArray)).bind fun c=>
 some c
 else
 some t.AbI).bind fun w1=>
 if (w1==(⟨#[]⟩:ByteArray))then
 some ((⟨#[]⟩:ByteArray),false)
 else
 (M5 w1).bind fun a=>
 some (w1,((decide (a.2.2=0))&&(decide (a.1=t.l3)))&&(decide (a.2.1=(w1.size:Int))))
def El[Ev](a:ByteArray):K1:=
 (N4 (EO.mk 1 a 0)).bind fun b=>
 some b.2
def NB(m:B6)(a:B6):K1:=
 some (m.og==a.og)
def D2[Ev]:Nat->AC->Int->Option (List mo)
 |0,_,_=>none|n+1,t,a=>
  (idx t.d4 a).bind fun b=>
  (if(decide (0<=b.r0))then
  (D2 n t b.r0).bind fun c=>
  some c
  else
  some []).bind fun w1=>
  (idx t.d4 a).bind fun d=>
  (Aj w1 d.tl).bind fun e=>
  some e
def N6[Ev](t:AC)(a:Int):Option (List mo):=Jr fun n=>D2 n t a
def IW[Ev](a:List mo)(f:mo->K1):QQ:=
 AM (Ag (ρ:=Int) (fun(i0:Int)(_:Unit)=>
 (idx a i0).bind fun b=>
 (f b).bind fun c=>
 if c then
 some (.ret i0)
 else
 some (.next ())) 0 (a.length:Int) ()) (fun _=>
 some (-1)) (fun v0=>some v0)
def Ei[Ev](a:List mo)(f:mo->K1):K1:=
 (IW a f).bind fun b=>
 some (decide (0<=b))
def IB(y:mo)(a:mo):K1:=
 some (y.og==a.og)
def LS[Ev](l:List ByteArray):QQ:=
 if (decide (20<(l.length:Int)))then
 some 3
 else
 AM (Ag (ρ:=Int) (fun(i0:Int)(_:Unit)=>
 (idx l i0).bind fun a=>
 (El a).bind fun b=>
 if (!b)then
 some (.ret 2)
 else
 (slc l 0 i0).bind fun c=>
 (slices_Contains_string c a).bind fun d=>
 if d then
 some (.ret 5)
 else
 some (.next ())) 0 (l.length:Int) ()) (fun _=>
 some 0) (fun v0=>some v0)
def Hp[Ev](a:mo)(b:List mo):QQ:=
 (El a.og).bind fun d=>
 if (!d)then
 some 2
 else
 (Ei b (fun y0=>IB y0 a)).bind fun e=>
 if e then
 some 5
 else
 (LS a.tg).bind fun c=>
 if (!decide (c=0))then
 some c
 else
 (if(decide (0<(a.tg.length:Int)))then
 some ((decide (a.Low=0))&&(decide (a.Aao=(Al ((a.tg.length:Int)-1)))))
 else
 some (((decide ((-1000000)<=a.Low))&&(decide (a.Low<=a.Aao)))&&(decide (a.Aao<=1000000)))).bind fun w1=>
 if (!w1)then
 some 6
 else
 some 0
def NA[Ev](t:AC)(c:Int):QQ:=
 (idx t.d4 c).bind fun a=>
 (El a.og).bind fun e=>
 if (!e)then
 some 2
 else
 (slc t.d4 0 c).bind fun f=>
 (Cw f (fun y0=>NB y0 a)).bind fun g=>
 if g then
 some 5
 else
 if ((decide (a.r0<(-1)))||(decide (c<=a.r0)))then
 some 6
 else
 if (decide (4<(a.tl.length:Int)))then
 some 3
 else
 (N6 t c).bind fun b=>
 if (decide (8<(b.length:Int)))then
 some 3
 else
 AM (Ag (ρ:=Int) (fun(i1:Int)(_:Unit)=>
 (idx b i1).bind fun h=>
 (slc b 0 i1).bind fun i=>
 (Hp h i).bind fun d=>
 if (!decide (d=0))then
 some (.ret d)
 else
 some (.next ())) (Al ((b.length:Int)-(a.tl.length:Int))) (b.length:Int) ()) (fun _=>
 some 0) (fun v1=>some v1)
def KS(n:Int)(a:AC):K1:=
 some ((decide (0<=n))&&(decide (n<(a.d4.length:Int))))
def GH[Ev](a:List CY)(f:CY->K1):QQ:=
 AM (Ag (ρ:=Int) (fun(i0:Int)(_:Unit)=>
 (idx a i0).bind fun b=>
 (f b).bind fun c=>
 if c then
 some (.ret i0)
 else
 some (.next ())) 0 (a.length:Int) ()) (fun _=>
 some (-1)) (fun v0=>some v0)
def Dg[Ev](a:List CY)(f:CY->K1):K1:=
 (GH a f).bind fun b=>
 some (decide (0<=b))
def M9(y:CY)(a:CY):K1:=
 some (y.og==a.og)
def JT(b:Int)(a:Int):K1:=
 some (((decide (0<=b))&&(decide (b<=40)))&&((decide (a=(-1)))||((decide (b<=a))&&(decide (a<=40)))))
def M8[Ev](t:AC)(c:Int):QQ:=
 (idx t.d5 c).bind fun a=>
 (El a.og).bind fun d=>
 if (!d)then
 some 2
 else
 (slc t.d5 0 c).bind fun e=>
 (Dg e (fun y0=>M9 y0 a)).bind fun f=>
 if f then
 some 5
 else
 (KS a.kq t).bind fun g=>
 (if(!g)then some true else((KS a.To t).bind fun h=>
 some (!h))).bind fun b=>
 (if b then
 some b
 else
 (JT a.Aa5 a.AaP).bind fun i=>
 (if(!i)then some true else((JT a.Abp a.Aa4).bind fun j=>
 some (!j))).bind fun k=>
 some k).bind fun w1=>
 if w1 then
 some 6
 else
 some 0
def D1[Ev](t:AC):Option (ByteArray×Int):=
 if (decide ((t.d4.length:Int)=0))then
 some ((⟨#[]⟩:ByteArray),7)
 else
 if ((decide (12<(t.d4.length:Int)))||(decide (20<(t.d5.length:Int))))then
 some ((⟨#[]⟩:ByteArray),3)
 else
 AM (Ag (ρ:=(ByteArray×Int)) (fun(i1:Int)(_:Unit)=>
 (idx t.d4 i1).bind fun c=>
 (NA t i1).bind fun a=>
 if (!decide (a=0))then
 some (.ret (c.og,a))
 else
 some (.next ())) 0 (t.d4.length:Int) ()) (fun _=>
 AM (Ag (ρ:=(ByteArray×Int)) (fun(i3:Int)(_:Unit)=>
 (idx t.d5 i3).bind fun d=>
 (M8 t i3).bind fun b=>
 if (!decide (b=0))then
 some (.ret (d.og,b))
 else
 some (.next ())) 0 (t.d5.length:Int) ()) (fun _=>
 some ((⟨#[]⟩:ByteArray),0)) (fun v3=>some v3)) (fun v1=>some v1)
def I5[Ev](a:Fp)(f:Int->K1):QQ:=
 AM (Ag (ρ:=Int) (fun(i0:Int)(_:Unit)=>
 (idx a i0).bind fun b=>
 (f b).bind fun c=>
 if c then
 some (.ret i0)
 else
 some (.next ())) 0 (a.length:Int) ()) (fun _=>
 some (-1)) (fun v0=>some v0)
def BO[Ev](a:Fp)(f:Int->K1):K1:=
 (I5 a f).bind fun b=>
 some (decide (0<=b))
def IX[Ev](a:List BY)(f:BY->K1):QQ:=
 AM (Ag (ρ:=Int) (fun(i0:Int)(_:Unit)=>
 (idx a i0).bind fun b=>
 (f b).bind fun c=>
 if c then
 some (.ret i0)
 else
 some (.next ())) 0 (a.length:Int) ()) (fun _=>
 some (-1)) (fun v0=>some v0)
def By[Ev](a:List BY)(f:BY->K1):K1:=
 (IX a f).bind fun b=>
 some (decide (0<=b))
def GY(n:Int)(a:Int):K1:=
 some ((decide (0<=n))&&(decide (n<=a)))
def LX(t:Int):K1:=
 (GY t 99).bind fun a=>
 some (!a)
def MU(e:BY)(a:Int):K1:=
 (GY e.kg 99).bind fun g=>
 (if g then((GY e.kq (Al (a-1))).bind fun b=>
 some (b))else some false).bind fun c=>
 (if c then((GY e.To (Al (a-1))).bind fun d=>
 some (d))else some false).bind fun f=>
 some f
def LY(e:BY)(b:d6):K1:=
 (MU e (b.d4.length:Int)).bind fun a=>
 some (!a)
def DX[Ev](g:d6):QQ:=
 if ((decide (40<(g.d4.length:Int)))||(decide (80<(g.d5.length:Int))))then
 some 3
 else
 (BO g.d4 LX).bind fun a=>
 if a then
 some 6
 else
 (By g.d5 (fun y0=>LY y0 g)).bind fun b=>
 if b then
 some 6
 else
 some 0
def Fv(n:Int)(a:AC):K1:=
 some (decide ((a.d4.length:Int)<=n))
def Fw(a:BY)(b:AC):K1:=
 some (decide ((b.d5.length:Int)<=a.kg))
def CT(n:Int)(b:Int)(a:Int):K1:=
 some ((decide (b<=n))&&(decide (n<=a)))
def Lg(a:Int)(b:AC):K1:=
 some ((decide (a<0))||(decide ((b.d4.length:Int)<=a)))
def H5[Ev](t:AC)(l:Fp):QQ:=
 (D1 t).bind fun b=>
 if (!decide (b.2=0))then
 some b.2
 else
 (BO l (fun y0=>Lg y0 t)).bind fun a=>
 if a then
 some 6
 else
 some 0
def slices_Clone_string(a:List ByteArray):Option (List ByteArray):=
 Aj [] a
def FK[Ev](t:AC)(a:Int):Option (List mo×Int):=
 (H5 t [a]).bind fun c=>
 if (!decide (c=0))then
 some ([],c)
 else
 (N6 t a).bind fun d=>
 (A9 (fun(i0:Int)(s0:List mo)=>
 (idx s0 i0).bind fun e=>
 (slices_Clone_string e.tg).bind fun f=>
 (idx s0 i0).bind fun b=>
 some (BP s0 i0 (mo.mk b.og b.Low b.Aao f))) 0 (d.length:Int) d).bind fun s0=>
 some (s0,0)
def IF[Ev](t:AC)(p:ec)(a:CI):Option (mo×Bool):=
 (CT a.sx 0 (Al ((p.d6.d4.length:Int)-1))).bind fun c=>
 if (!c)then
 some (mo.mk (⟨#[]⟩:ByteArray) 0 0 [],false)
 else
 (idx p.d6.d4 a.sx).bind fun d=>
 (FK t d).bind fun b=>
 (CT a.mo 0 (Al ((b.1.length:Int)-1))).bind fun e=>
 if (!e)then
 some (mo.mk (⟨#[]⟩:ByteArray) 0 0 [],false)
 else
 (idx b.1 a.mo).bind fun f=>
 some (f,true)
def HO(n:Int)(t:j4):K1:=
 some ((((decide ((-1)<=t.Var))&&(decide (t.Var<n)))&&(decide ((-1000000)<=t.Add)))&&(decide (t.Add<=1000000)))
def IG(n:Int)(a:Test):QQ:=
 if ((!decide (a.l3=1))&&(!decide (a.l3=2)))then
 some 1
 else
 (HO n a.f0).bind fun b=>
 (if(!b)then some true else((HO n a.ek).bind fun c=>
 some (!c))).bind fun d=>
 if d then
 some 6
 else
 some 0
def GX(n:Int)(l:List Test):QQ:=
 if ((decide (n<0))||(decide (12<n)))then
 some 6
 else
 if (decide (40<(l.length:Int)))then
 some 3
 else
 AM (Ag (ρ:=Int) (fun(i0:Int)(_:Unit)=>
 (idx l i0).bind fun b=>
 (IG n b).bind fun a=>
 if (!decide (a=0))then
 some (.ret a)
 else
 some (.next ())) 0 (l.length:Int) ()) (fun _=>
 some 0) (fun v0=>some v0)
def IA(a:a5)(c:Bool):QQ:=
 AM (Ag (ρ:=Int) (fun(i0:Int)(_:Unit)=>
 (idx a i0).bind fun b=>
 if (c==b)then
 some (.ret i0)
 else
 some (.next ())) 0 (a.length:Int) ()) (fun _=>
 some (-1)) (fun v0=>some v0)
def Ej(b:a5)(a:Bool):K1:=
 (IA b a).bind fun c=>
 some (decide (0<=c))
def Dl[Ev](t:AC)(p:ec):QQ:=
 (D1 t).bind fun c=>
 if (!decide (c.2=0))then
 some c.2
 else
 (DX p.d6).bind fun d=>
 if (!decide (d=0))then
 some d
 else
 (BO p.d6.d4 (fun y0=>Fv y0 t)).bind fun f=>
 (if f then some true else((By p.d6.d5 (fun y0=>Fw y0 t)).bind fun g=>
 some (g))).bind fun h=>
 if h then
 some 13
 else
 (CT p.gn 0 12).bind fun i=>
 if (!i)then
 some 6
 else
 if ((decide (10<(p.ff.length:Int)))||(decide (10<(p.l4.length:Int))))then
 some 3
 else
 (JL p.gn false).bind fun j=>
 AM (Ag (ρ:=Int) (fun(i0:Int)(s0:a5)=>
 (idx p.ff i0).bind fun a=>
 (IF t p a).bind fun k=>
 (if(!k.2)then some true else((CT a.j4.Var (-1) (Al (p.gn-1))).bind fun l=>
 some (!l))).bind fun m=>
 (if m then some true else((CT a.j4.Add (-1000000) 1000000).bind fun n=>
 some (!n))).bind fun o=>
 if o then
 some (.ret 6)
 else
 if (decide (0<=a.j4.Var))then
 (idx s0 a.j4.Var).bind fun q=>
 some (.next (BP s0 a.j4.Var true))
 else
 some (.next s0)) 0 (p.ff.length:Int) j) (fun s0=>
 (GX p.gn p.l4).bind fun b=>
 if (!decide (b=0))then
 some b
 else
 (Ej s0 false).bind fun e=>
 if e then
 some 9
 else
 some 0) (fun v0=>some v0)
def Mv(n:Int)(a:AC):K1:=
 some (decide ((a.d4.length:Int)<=n))
def Mw(a:BY)(b:AC):K1:=
 some (decide ((b.d5.length:Int)<=a.kg))
def Mu[Ev](t:AC)(g:d6):K1:=
 (BO g.d4 (fun y0=>Mv y0 t)).bind fun c=>
 (if(!c)then((By g.d5 (fun y0=>Mw y0 t)).bind fun a=>
 some (!a))else some false).bind fun b=>
 some b
def IY[Ev](a:List CI)(f:CI->K1):QQ:=
 AM (Ag (ρ:=Int) (fun(i0:Int)(_:Unit)=>
 (idx a i0).bind fun b=>
 (f b).bind fun c=>
 if c then
 some (.ret i0)
 else
 some (.next ())) 0 (a.length:Int) ()) (fun _=>
 some (-1)) (fun v0=>some v0)
def DW[Ev](a:List CI)(f:CI->K1):K1:=
 (IY a f).bind fun b=>
 some (decide (0<=b))
def Nz(y:CI)(a:CI):K1:=
 some ((decide (y.sx=a.sx))&&(decide (y.mo=a.mo)))
def OR[Ev](t:AC)(b:em)(c:Int):QQ:=
 (idx b.ek.ff c).bind fun a=>
 if ((decide (a.sx<0))||(decide ((b.ek.d6.d4.length:Int)<=a.sx)))then
 some 6
 else
 (idx b.ek.d6.d4 a.sx).bind fun d=>
 (FK t d).bind fun e=>
 if ((((((decide (a.mo<0))||(decide ((e.1.length:Int)<=a.mo)))||(decide (a.j4.Var<(-1))))||(decide (b.ek.gn<=a.j4.Var)))||(decide (a.j4.Add<(-1000000))))||(decide (1000000<a.j4.Add)))then
 some 6
 else
 (slc b.ek.ff 0 c).bind fun f=>
 (DW f (fun y0=>Nz y0 a)).bind fun g=>
 if g then
 some 5
 else
 some 0
def Mt[Ev](t:AC)(a:em):QQ:=
 (DX a.ek.d6).bind fun b=>
 if (!decide (b=0))then
 some b
 else
 (Mu t a.ek.d6).bind fun d=>
 if (!d)then
 some 13
 else
 if ((!decide (a.ek.gn=a.f0.gn))||(decide (0<(a.ek.l4.length:Int))))then
 some 1
 else
 if (decide (10<(a.ek.ff.length:Int)))then
 some 3
 else
 AM (Ag (ρ:=Int) (fun(i1:Int)(_:Unit)=>
 (OR t a i1).bind fun c=>
 if (!decide (c=0))then
 some (.ret c)
 else
 some (.next ())) 0 (a.ek.ff.length:Int) ()) (fun _=>
 some 0) (fun v1=>some v1)
def slices_Clone_int(a:Fp):Option Fp:=
 Aj [] a
def slices_BinarySearch_int(l:Fp)(x:Int):Option (Int×Bool):=if l.length<=AW/\l.Pairwise (·<=·)then some ((l.countP (·<x):Nat),l.contains x)else none
def G8(l:Fp)(n:Int):QQ:=
 AM (Ag (ρ:=Int) (fun(i0:Int)(_:Unit)=>
 (idx l i0).bind fun a=>
 if ((decide (a<0))||(decide (n<=a)))then
 some (.ret 6)
 else
 (if(decide (0<i0))then((idx l (Al (i0-1))).bind fun b=>
 some (decide (a<=b)))else some false).bind fun c=>
 if c then
 some (.ret 12)
 else
 some (.next ())) 0 (l.length:Int) ()) (fun _=>
 some 0) (fun v0=>some v0)
def KM(l:Fp)(n:Int):K1:=
 (slices_BinarySearch_int l n).bind fun a=>
 some a.2
def Lf(g:d6)(p:Ak):QQ:=
 (G8 p.d4 (g.d4.length:Int)).bind fun a=>
 if (!decide (a=0))then
 some a
 else
 (G8 p.d5 (g.d5.length:Int)).bind fun b=>
 if (!decide (b=0))then
 some b
 else
 AM (Ag (ρ:=Int) (fun(i0:Int)(_:Unit)=>
 (idx p.d5 i0).bind fun c=>
 (idx g.d5 c).bind fun d=>
 (KM p.d4 d.kq).bind fun e=>
 (if(!e)then some true else((idx g.d5 c).bind fun f=>
 (KM p.d4 f.To).bind fun h=>
 some (!h))).bind fun i=>
 if i then
 some (.ret 14)
 else
 some (.next ())) 0 (p.d5.length:Int) ()) (fun _=>
 some 0) (fun v0=>some v0)
def GU[Ev](g:d6)(p:Ak):QQ:=
 (DX g).bind fun b=>
 if (!decide (b=0))then
 some b
 else
 (Lf g p).bind fun a=>
 some a
def Gk[Ev](g:d6)(p:Ak):Option (d6×d7×Int):=
 (GU g p).bind fun b=>
 if (!decide (b=0))then
 some (d6.mk [] [],d7.mk [] [],b)
 else
 (A9 (fun(i0:Int)(s0:d6)=>
 (idx p.d4 i0).bind fun c=>
 (idx g.d4 c).bind fun d=>
 (Aj s0.d4 [d]).bind fun e=>
 some (d6.mk e s0.d5)) 0 (p.d4.length:Int) (d6.mk [] [])).bind fun s0=>
 (A9 (fun(i2:Int)(s2:d6)=>
 (idx p.d5 i2).bind fun f=>
 (idx g.d5 f).bind fun a=>
 (slices_BinarySearch_int p.d4 a.kq).bind fun h=>
 (slices_BinarySearch_int p.d4 a.To).bind fun i=>
 (Aj s2.d5 [BY.mk a.kg h.1 i.1]).bind fun j=>
 some (d6.mk s2.d4 j)) 0 (p.d5.length:Int) s0).bind fun s2=>
 (slices_Clone_int p.d4).bind fun k=>
 (slices_Clone_int p.d5).bind fun l=>
 some (s2,d7.mk k l,0)
def EK[Ev](a:d6)(b:d6)(m:d7):QQ:=
 (DX a).bind fun g=>
 if (!decide (g=0))then
 some g
 else
 (DX b).bind fun h=>
 if (!decide (h=0))then
 some h
 else
 if ((!decide ((m.d4.length:Int)=(a.d4.length:Int)))||(!decide ((m.d5.length:Int)=(a.d5.length:Int))))then
 some 20
 else
 AM (Ag (ρ:=Int) (fun(i0:Int)(_:Unit)=>
 (idx m.d4 i0).bind fun c=>
 if ((decide (c<0))||(decide ((b.d4.length:Int)<=c)))then
 some (.ret 6)
 else
 (idx b.d4 c).bind fun l=>
 (idx a.d4 i0).bind fun n=>
 if (!decide (l=n))then
 some (.ret 13)
 else
 some (.next ())) 0 (m.d4.length:Int) ()) (fun _=>
 AM (Ag (ρ:=Int) (fun(i2:Int)(_:Unit)=>
 (idx m.d5 i2).bind fun d=>
 if ((decide (d<0))||(decide ((b.d5.length:Int)<=d)))then
 some (.ret 6)
 else
 (idx a.d5 i2).bind fun e=>
 (idx b.d5 d).bind fun f=>
 if (!decide (e.kg=f.kg))then
 some (.ret 13)
 else
 (idx m.d4 e.kq).bind fun i=>
 (if(!decide (i=f.kq))then some true else((idx m.d4 e.To).bind fun j=>
 some (!decide (j=f.To)))).bind fun k=>
 if k then
 some (.ret 11)
 else
 some (.next ())) 0 (m.d5.length:Int) ()) (fun _=>
 some 0) (fun v2=>some v2)) (fun v0=>some v0)
def slices_Compact_int(l:Fp):Option Fp:=if l.length<=AW then some (Go.Lib.compact l)else none
def slices_Sort_int(l:Fp):Option Fp:=if l.length<=AW then some (QC l)else none
def Fd(l:Fp):QQ:=
 (slices_Clone_int l).bind fun a=>
 (slices_Sort_int a).bind fun b=>
 (slices_Compact_int b).bind fun c=>
 some (c.length:Int)
def EJ[Ev](a:d6)(b:d6)(m:d7):K1:=
 (EK a b m).bind fun c=>
 (if(decide (c=0))then((Fd m.d4).bind fun d=>
 some (decide (d=(m.d4.length:Int))))else some false).bind fun e=>
 (if e then((Fd m.d5).bind fun f=>
 some (decide (f=(m.d5.length:Int))))else some false).bind fun g=>
 some g
def OQ[Ev](a:em):QQ:=
 (Gk a.f0.d6 a.sr).bind fun b=>
 if (!decide (b.2.2=0))then
 some b.2.2
 else
 (EK b.1 a.ek.d6 a.kl).bind fun c=>
 if (!decide (c=0))then
 some c
 else
 (EJ b.1 a.ek.d6 a.kl).bind fun d=>
 if (!d)then
 some 11
 else
 some 0
def slices_Contains_int(b:Fp)(a:Int):K1:=
 (slices_Index_int b a).bind fun c=>
 some (decide (0<=c))
def Je(l:Fp)(n:Int):Option Fp:=
 (A9 (fun(i0:Int)(s0:Fp)=>
 (slices_Contains_int l i0).bind fun a=>
 if (!a)then
 (Aj s0 [i0]).bind fun b=>
 some b
 else
 some s0) 0 n []).bind fun s0=>
 some s0
def KJ(a:em):Option (Fp×Fp):=
 (Je a.kl.d4 (a.ek.d6.d4.length:Int)).bind fun b=>
 (Je a.kl.d5 (a.ek.d6.d5.length:Int)).bind fun c=>
 some (b,c)
def Km(c:Int)(d:AC)(e:d6):K1:=
 (idx e.d4 c).bind fun a=>
 (idx d.d4 a).bind fun b=>
 some b.Aae
def slices_Reverse_int(l:Fp):Option Fp:=if l.length<=AW then some l.reverse else none
def PB[Ev](t:AC)(a:Int):Option Fp:=
 AM (ER (ρ:=Fp) (fun(s0:Int×Fp)=>
 if (decide (0<=s0.1))then
 (Aj s0.2 [s0.1]).bind fun b=>
 (idx t.d4 s0.1).bind fun c=>
 some (.next (c.r0,b))
 else
 some (.brk (s0.1,s0.2))) (a,[])) (fun s0=>
 (slices_Reverse_int s0.2).bind fun d=>
 some d) (fun v0=>some v0)
def Lr[Ev](t:AC)(a:Int)(b:Int):K1:=
 (PB t a).bind fun d=>
 (slices_Contains_int d b).bind fun c=>
 some c
def JB[Ev](t:AC)(a:Int)(b:Int)(c:Int):K1:=
 (H5 t [b,c]).bind fun d=>
 if (((!decide (d=0))||(decide (a<0)))||(decide ((t.d5.length:Int)<=a)))then
 some false
 else
 (idx t.d5 a).bind fun e=>
 (Lr t b e.kq).bind fun f=>
 (if f then((idx t.d5 a).bind fun g=>
 (Lr t c g.To).bind fun h=>
 some (h))else some false).bind fun i=>
 some i
def Kn[Ev](f:Int)(e:d6)(g:AC):K1:=
 (idx e.d5 f).bind fun a=>
 (idx e.d4 a.kq).bind fun b=>
 (idx e.d4 a.To).bind fun c=>
 (JB g a.kg b c).bind fun d=>
 some (!d)
def KK[Ev](t:AC)(g:d6)(a:Fp)(b:Fp):K1:=
 (BO a (fun y0=>Km y0 t g)).bind fun c=>
 (if(!c)then((BO b (fun y0=>Kn y0 g t)).bind fun d=>
 some (!d))else some false).bind fun e=>
 some e
def EE(c:ea):K1:=
 some ((decide ((Al ((Al ((Al ((Al ((Al ((c.Map.d4.length:Int)+(c.Map.d5.length:Int)))+(c.ec.d6.d4.length:Int)))+(c.ec.d6.d5.length:Int)))+(c.ec.ff.length:Int)))+(c.ec.l4.length:Int)))=0))&&(decide (c.ec.gn=0)))
def Fu[Ev](a:List ea)(f:ea->K1):QQ:=
 AM (Ag (ρ:=Int) (fun(i0:Int)(_:Unit)=>
 (idx a i0).bind fun b=>
 (f b).bind fun c=>
 if c then
 some (.ret i0)
 else
 some (.next ())) 0 (a.length:Int) ()) (fun _=>
 some (-1)) (fun v0=>some v0)
def Cn[Ev](a:List ea)(f:ea->K1):K1:=
 (Fu a f).bind fun b=>
 some (decide (0<=b))
mutual
def CF[Ev]:Nat->ea->K1
 |0,_=>none|n+1,c=>
  (if(decide (c.l3=1))then
  (if(decide ((c.gp.length:Int)=0))then((EE c).bind fun d=>
  some (d))else some false).bind fun e=>
  some e
  else
  if (decide (c.l3=2))then
  (if(decide ((c.gp.length:Int)=1))then((EE c).bind fun f=>
  some (f))else some false).bind fun g=>
  some g
  else
  if (decide (c.l3=3))then
  if (decide (c.l3=3))then
  (if(decide (1<=(c.gp.length:Int)))then((EE c).bind fun a=>
  some (a))else some false).bind fun b=>
  some b
  else
  if (decide (c.l3=5))then
  some (decide ((c.gp.length:Int)=1))
  else
  some false
  else
  if (decide (c.l3=4))then
  (if(decide (1<=(c.gp.length:Int)))then((EE c).bind fun a=>
  some (a))else some false).bind fun b=>
  some b
  else
  if (decide (c.l3=5))then
  some (decide ((c.gp.length:Int)=1))
  else
  some false).bind fun w1=>
  (if w1 then((Cn c.gp (B4 n)).bind fun h=>
  some (!h))else some false).bind fun i=>
  some i
def B4[Ev]:Nat->ea->K1
 |0,_=>none|n+1,k=>
  (CF n k).bind fun a=>
  some (!a)
end
def It[Ev](c:ea):K1:=Jr fun n=>CF n c
def QZ[Ev](k:ea):K1:=Jr fun n=>B4 n k
def C0[Ev]:Nat->ea->Option (Int×Int)
 |0,_=>none|n+1,c=>
  (A9 (fun(i0:Int)(s0:Int×Int)=>
  (idx c.gp i0).bind fun b=>
  (C0 n b).bind fun a=>
  some (Al (s0.1+a.1),max s0.2 a.2)) 0 (c.gp.length:Int) (1,0)).bind fun s0=>
  (if(decide (c.l3=5))then
  some (Al (s0.2+1))
  else
  some s0.2).bind fun w1=>
  some (s0.1,w1)
def Kv[Ev](c:ea):Option (Int×Int):=Jr fun n=>C0 n c
def HN[Ev](c:ea):QQ:=
 (It c).bind fun b=>
 if (!b)then
 some 1
 else
 (Kv c).bind fun a=>
 if ((decide (12<a.1))||(decide (3<a.2)))then
 some 3
 else
 some 0
def Gu(a:CI)(b:Int):K1:=
 some (decide (a.j4.Var=b))
def F1[Ev](t:AC)(q:ec)(b:Int):QQ:=
 (Dl t q).bind fun a=>
 if (!decide (a=9))then
 some a
 else
 AM (ER (ρ:=Int) (fun(s0:Int)=>
 if (decide (s0<q.gn))then
 (DW q.ff (fun y0=>Gu y0 s0)).bind fun c=>
 if (!c)then
 some (.ret a)
 else
 some (.next (Al (s0+1)))
 else
 some (.brk s0)) b) (fun s0=>
 some 0) (fun v0=>some v0)
def CU[Ev]:Nat->AC->ec->ea->QQ
 |0,_,_,_=>none|n+1,t,p,c=>
  if (decide (c.l3=5))then
  if (decide (c.ec.gn<p.gn))then
  some 20
  else
  (F1 t c.ec p.gn).bind fun d=>
  if (!decide (d=0))then
  some d
  else
  (EK p.d6 c.ec.d6 c.Map).bind fun e=>
  if (!decide (e=0))then
  some e
  else
  (EJ p.d6 c.ec.d6 c.Map).bind fun f=>
  if (!f)then
  some 1
  else
  AM (Ag (ρ:=Int) (fun(i0:Int)(_:Unit)=>
  (idx c.gp i0).bind fun b=>
  (CU n t c.ec b).bind fun a=>
  if (!decide (a=0))then
  some (.ret a)
  else
  some (.next ())) 0 (c.gp.length:Int) ()) (fun _=>
  some 0) (fun v0=>some v0)
  else
  AM (Ag (ρ:=Int) (fun(i0:Int)(_:Unit)=>
  (idx c.gp i0).bind fun b=>
  (CU n t p b).bind fun a=>
  if (!decide (a=0))then
  some (.ret a)
  else
  some (.next ())) 0 (c.gp.length:Int) ()) (fun _=>
  some 0) (fun v0=>some v0)
def Pa[Ev](t:AC)(p:ec)(c:ea):QQ:=Jr fun n=>CU n t p c
def Do[Ev](t:AC)(p:ec)(c:ea):QQ:=
 (Dl t p).bind fun a=>
 if (!decide (a=0))then
 some a
 else
 (HN c).bind fun b=>
 if (!decide (b=0))then
 some b
 else
 (Pa t p c).bind fun d=>
 some d
def Kl[Ev](t:AC)(a:em):QQ:=
 (D1 t).bind fun b=>
 if (!decide (b.2=0))then
 some b.2
 else
 (El a.og).bind fun g=>
 if (!g)then
 some 2
 else
 (Dl t a.f0).bind fun c=>
 if (!decide (c=0))then
 some c
 else
 (Mt t a).bind fun d=>
 if (!decide (d=0))then
 some d
 else
 (OQ a).bind fun e=>
 if (!decide (e=0))then
 some e
 else
 (KJ a).bind fun f=>
 (KK t a.ek.d6 f.1 f.2).bind fun h=>
 if (!h)then
 some 13
 else
 (Do t a.f0 a.ea).bind fun i=>
 some i
def ME(n:Int):K1:=
 some ((decide (1<=n))&&(decide (n<=3)))
def LQ(t:AC)(b:Ao)(c:Int):QQ:=
 (idx b.d5 c).bind fun a=>
 (ME a).bind fun d=>
 if (!d)then
 some 6
 else
 (idx t.d5 c).bind fun e=>
 (idx b.d4 e.kq).bind fun f=>
 (idx t.d5 c).bind fun g=>
 (idx b.d4 g.To).bind fun h=>
 if ((!decide (f=a))||((decide (h=a))==(decide (a=2))))then
 some 13
 else
 some 0
def KQ[Ev](t:AC)(a:Ao):QQ:=
 (D1 t).bind fun b=>
 if (!decide (b.2=0))then
 some b.2
 else
 if ((!decide ((a.d4.length:Int)=(t.d4.length:Int)))||(!decide ((a.d5.length:Int)=(t.d5.length:Int))))then
 some 20
 else
 AM (Ag (ρ:=Int) (fun(i0:Int)(_:Unit)=>
 (idx a.d4 i0).bind fun c=>
 (ME c).bind fun f=>
 if (!f)then
 some (.ret 6)
 else
 (idx t.d4 i0).bind fun d=>
 (if(decide (0<=d.r0))then((idx a.d4 d.r0).bind fun g=>
 some (!decide (g=c)))else some false).bind fun h=>
 if h then
 some (.ret 13)
 else
 some (.next ())) 0 (a.d4.length:Int) ()) (fun _=>
 AM (Ag (ρ:=Int) (fun(i2:Int)(_:Unit)=>
 (LQ t a i2).bind fun e=>
 if (!decide (e=0))then
 some (.ret e)
 else
 some (.next ())) 0 (a.d5.length:Int) ()) (fun _=>
 some 0) (fun v2=>some v2)) (fun v0=>some v0)
def GV(l:Fp):Option Fp:=
 (slices_Clone_int l).bind fun b=>
 (A9 (fun(i0:Int)(s0:Fp)=>
 (idx s0 i0).bind fun a=>
 (idx s0 i0).bind fun c=>
 some (BP s0 i0 (Al (4-a)))) 0 (b.length:Int) b).bind fun s0=>
 some s0
def N5[Ev](t:AC)(a:Ao):Option (Ao×Int):=
 (KQ t a).bind fun d=>
 if (!decide (d=0))then
 some (Ao.mk [] [],d)
 else
 (GV a.d4).bind fun b=>
 (GV a.d5).bind fun c=>
 some (Ao.mk b c,0)
def Gn[Ev](t:AC)(b:Ao):QQ:=
 (N5 t b).bind fun a=>
 some a.2
def Hm(s:Fp)(n:Int):Option Fp:=if s=[]/\0<=n/\n<=AW then some []else none
def F5(a:List Fp):Option Fp:=
 (A9 (fun(i0:Int)(s0:Int)=>
 (idx a i0).bind fun b=>
 if (decide ((Al (s0+(b.length:Int)))<0))then
 none
 else
 some (Al (s0+(b.length:Int)))) 0 (a.length:Int) 0).bind fun s0=>
 (Hm [] s0).bind fun c=>
 (A9 (fun(i2:Int)(s2:Fp)=>
 (idx a i2).bind fun d=>
 (Aj s2 d).bind fun e=>
 some e) 0 (a.length:Int) c).bind fun s2=>
 some s2
def Hn(n:B6)(a:Int):K1:=
 some (decide (n.r0=a))
def FC[Ev](t:AC)(k:Ao)(a:em):QQ:=
 (Gn t k).bind fun c=>
 if (!decide (c=0))then
 some c
 else
 (Kl t a).bind fun d=>
 if (!decide (d=0))then
 some d
 else
 if (((((!((decide ((Al ((Al ((Al ((a.f0.ff.length:Int)+(a.f0.l4.length:Int)))+(a.ek.ff.length:Int)))+(a.ek.l4.length:Int)))=0))&&(decide (a.f0.gn=0))))||(!a.le))||(!decide (a.ea.l3=1)))||(decide ((a.sr.d4.length:Int)<(a.f0.d6.d4.length:Int))))||(decide ((a.sr.d5.length:Int)<(a.f0.d6.d5.length:Int))))then
 some 8
 else
 (F5 [a.f0.d6.d4,a.ek.d6.d4]).bind fun e=>
 AM (Ag (ρ:=Int) (fun(i0:Int)(_:Unit)=>
 (idx e i0).bind fun f=>
 (Cw t.d4 (fun y0=>Hn y0 f)).bind fun g=>
 if g then
 some (.ret 13)
 else
 some (.next ())) 0 (e.length:Int) ()) (fun _=>
 AM (Ag (ρ:=Int) (fun(i2:Int)(_:Unit)=>
 (idx a.f0.d6.d5 i2).bind fun b=>
 (idx a.f0.d6.d4 b.kq).bind fun h=>
 (idx a.f0.d6.d4 b.To).bind fun i=>
 (JB t b.kg h i).bind fun j=>
 if (!j)then
 some (.ret 13)
 else
 some (.next ())) 0 (a.f0.d6.d5.length:Int) ()) (fun _=>
 some 0) (fun v2=>some v2)) (fun v0=>some v0)
def F8[Ev](g:d6)(c:Int->K1)(b:Int->K1):Option Bz:=
 (A9 (fun(i0:Int)(s0:Bz)=>
 (idx g.d4 i0).bind fun d=>
 (c i0).bind fun e=>
 if e then
 (Aj s0.ej [i0]).bind fun f=>
 (Aj s0.AaH.d4 [d]).bind fun h=>
 some (Bz.mk (d6.mk h s0.AaH.d5) f s0.fd)
 else
 some s0) 0 (g.d4.length:Int) (Bz.mk (d6.mk [] []) [] [])).bind fun s0=>
 (A9 (fun(i2:Int)(s2:Bz)=>
 (idx g.d5 i2).bind fun a=>
 (b i2).bind fun i=>
 if i then
 (Aj s2.fd [i2]).bind fun j=>
 (slices_Index_int s2.ej a.kq).bind fun k=>
 (slices_Index_int s2.ej a.To).bind fun l=>
 (Aj s2.AaH.d5 [BY.mk a.kg k l]).bind fun m=>
 some (Bz.mk (d6.mk s2.AaH.d4 m) s2.ej j)
 else
 some s2) 0 (g.d5.length:Int) s0).bind fun s2=>
 some s2
def Gv(c:Int)(d:Ao)(f:d6)(e:Int):K1:=
 (idx f.d4 c).bind fun a=>
 (idx d.d4 a).bind fun b=>
 some (decide (b=e))
def Gw(c:Int)(d:Ao)(f:d6)(e:Int):K1:=
 (idx f.d5 c).bind fun a=>
 (idx d.d5 a.kg).bind fun b=>
 some (decide (b=e))
def Er[Ev](g:d6)(a:Ao)(b:Int):Option Bz:=
 (F8 g (fun y0=>Gv y0 a g b) (fun y0=>Gw y0 a g b)).bind fun c=>
 some c
def Gp(g:d6):Option Ak:=
 (A9 (fun(i0:Int)(s0:Ak)=>
 (Aj s0.d4 [i0]).bind fun a=>
 some (Ak.mk a s0.d5)) 0 (g.d4.length:Int) (Ak.mk [] [])).bind fun s0=>
 (A9 (fun(i2:Int)(s2:Ak)=>
 (Aj s2.d5 [i2]).bind fun b=>
 some (Ak.mk s2.d4 b)) 0 (g.d5.length:Int) s0).bind fun s2=>
 some s2
def Fg(e:em)(a:d6)(b:d6)(c:d7):Option em:=
 (Gp a).bind fun d=>
 some (em.mk e.og (ec.mk a [] 0 []) (ec.mk b [] 0 []) d c true (ea.mk 1 [] (d7.mk [] []) (ec.mk (d6.mk [] []) [] 0 [])))
def Ho[Ev](t:AC)(e:Ao)(a:em)(c:Int):Option (em×Int):=
 (FC t e a).bind fun f=>
 if (!decide (f=0))then
 some (em.mk (⟨#[]⟩:ByteArray) (ec.mk (d6.mk [] []) [] 0 []) (ec.mk (d6.mk [] []) [] 0 []) (Ak.mk [] []) (d7.mk [] []) false (ea.mk 0 [] (d7.mk [] []) (ec.mk (d6.mk [] []) [] 0 [])),f)
 else
 (Er a.f0.d6 e c).bind fun b=>
 (Er a.ek.d6 e c).bind fun d=>
 (A9 (fun(i0:Int)(s0:d7)=>
 (idx b.ej i0).bind fun g=>
 (idx a.kl.d4 g).bind fun h=>
 (slices_Index_int d.ej h).bind fun i=>
 (Aj s0.d4 [i]).bind fun j=>
 some (d7.mk j s0.d5)) 0 (b.ej.length:Int) (d7.mk [] [])).bind fun s0=>
 (A9 (fun(i2:Int)(s2:d7)=>
 (idx b.fd i2).bind fun k=>
 (idx a.kl.d5 k).bind fun l=>
 (slices_Index_int d.fd l).bind fun m=>
 (Aj s2.d5 [m]).bind fun n=>
 some (d7.mk s2.d4 n)) 0 (b.fd.length:Int) s0).bind fun s2=>
 (Fg a b.AaH d.AaH s2).bind fun o=>
 some (o,0)
def Ep[Ev](t:AC)(b:Ao)(c:em):Option (em×Int):=
 (Ho t b c 1).bind fun a=>
 some (a.1,a.2)
def JK:Option em:=
 some (em.mk (⟨#[99,108,97,115,115,101,115]⟩:ByteArray) (ec.mk (d6.mk [] []) [] 0 []) (ec.mk (d6.mk [0,2,4] [BY.mk 2 2 0,BY.mk 4 2 1]) [] 0 []) (Ak.mk [] []) (d7.mk [] []) true (ea.mk 1 [] (d7.mk [] []) (ec.mk (d6.mk [] []) [] 0 [])))
def Cq(a:List BY):Option (List BY):=
 Aj [] a
def D0[Ev](t:AC)(d:Ao)(a:em)(c:Fp):Option (em×Ak×Int):=
 (FC t d a).bind fun e=>
 if (!decide (e=0))then
 some (em.mk (⟨#[]⟩:ByteArray) (ec.mk (d6.mk [] []) [] 0 []) (ec.mk (d6.mk [] []) [] 0 []) (Ak.mk [] []) (d7.mk [] []) false (ea.mk 0 [] (d7.mk [] []) (ec.mk (d6.mk [] []) [] 0 [])),Ak.mk [] [],e)
 else
 (slices_Clone_int a.f0.d6.d4).bind fun s=>
 (Cq a.f0.d6.d5).bind fun u=>
 (slices_Clone_int a.kl.d4).bind fun v=>
 (slices_Clone_int a.kl.d5).bind fun w=>
 (A9 (fun(i0:Int)(s0:d6×d7×Ak)=>
 (idx a.ek.d6.d4 i0).bind fun f=>
 (slices_Contains_int a.kl.d4 i0).bind fun x=>
 (if(!x)then((idx d.d4 f).bind fun y=>
 (slices_Contains_int c y).bind fun z=>
 some (z))else some false).bind fun A=>
 if A then
 (Aj s0.2.2.d4 [(s0.1.d4.length:Int)]).bind fun B=>
 (Aj s0.1.d4 [f]).bind fun C=>
 (Aj s0.2.1.d4 [i0]).bind fun D=>
 some (d6.mk C s0.1.d5,d7.mk D s0.2.1.d5,Ak.mk B s0.2.2.d5)
 else
 some (s0.1,s0.2.1,s0.2.2)) 0 (a.ek.d6.d4.length:Int) (d6.mk s u,d7.mk v w,Ak.mk [] [])).bind fun s0=>
 (A9 (fun(i2:Int)(s2:d6×d7×Ak)=>
 (idx a.ek.d6.d5 i2).bind fun b=>
 (slices_Contains_int a.kl.d5 i2).bind fun g=>
 (if(!g)then((idx d.d5 b.kg).bind fun h=>
 (slices_Contains_int c h).bind fun i=>
 some (i))else some false).bind fun j=>
 if j then
 (Aj s2.2.2.d5 [(s2.1.d5.length:Int)]).bind fun k=>
 (slices_Index_int s2.2.1.d4 b.kq).bind fun l=>
 (slices_Index_int s2.2.1.d4 b.To).bind fun m=>
 (Aj s2.1.d5 [BY.mk b.kg l m]).bind fun n=>
 (Aj s2.2.1.d5 [i2]).bind fun o=>
 some (d6.mk s2.1.d4 n,d7.mk s2.2.1.d4 o,Ak.mk s2.2.2.d4 k)
 else
 some (s2.1,s2.2.1,s2.2.2)) 0 (a.ek.d6.d5.length:Int) (s0.1,s0.2.1,s0.2.2)).bind fun s2=>
 (slices_Clone_int a.ek.d6.d4).bind fun p=>
 (Cq a.ek.d6.d5).bind fun q=>
 (Fg a s2.1 (d6.mk p q) s2.2.1).bind fun r=>
 some (r,s2.2.2,0)
def EN[Ev](t:AC)(b:Ao)(c:em):Option (em×Ak×Int):=
 (D0 t b c [1]).bind fun a=>
 some (a.1,a.2.1,a.2.2)
def slices_Equal_int(a:Fp)(b:Fp):K1:=
 if (!decide ((a.length:Int)=(b.length:Int)))then
 some false
 else
 AM (Ag (ρ:=Bool) (fun(i0:Int)(_:Unit)=>
 (idx a i0).bind fun c=>
 (idx b i0).bind fun d=>
 if (!decide (c=d))then
 some (.ret false)
 else
 some (.next ())) 0 (a.length:Int) ()) (fun _=>
 some true) (fun v0=>some v0)
def JW[Ev]:K1:=
 (Lc).bind fun c=>
 (JK).bind fun d=>
 (Ep c.1 c.2 d).bind fun b=>
 (JK).bind fun e=>
 (EN c.1 c.2 e).bind fun a=>
 (if(decide (b.2=0))then((slices_Equal_int b.1.ek.d6.d4 [0]).bind fun f=>
 some (f))else some false).bind fun g=>
 (if(g&&(decide (a.2.2=0)))then((slices_Equal_int a.1.f0.d6.d4 [0]).bind fun h=>
 some (h))else some false).bind fun i=>
 (if i then((slices_Equal_int a.2.1.d4 [0]).bind fun j=>
 some (j))else some false).bind fun k=>
 some (k&&(decide ((a.1.ek.d6.d4.length:Int)=3)))
def QO(a:Ao):K1:=
 some (decide ((Al ((a.d4.length:Int)+(a.d5.length:Int)))<=50))
def L9[Ev](t:AC):K1:=
 if ((decide (20<(t.d4.length:Int)))||(decide (30<(t.d5.length:Int))))then
 some false
 else
 AM (Ag (ρ:=Bool) (fun(i0:Int)(s0:Int)=>
 (idx t.d4 i0).bind fun b=>
 (if(decide (30<(Al (s0+(b.tl.length:Int)))))then some true else((idx t.d4 i0).bind fun d=>
 some (decide (40<(d.og.size:Int))))).bind fun e=>
 if e then
 some (.ret false)
 else
 AM (ER (ρ:=Bool) (fun(s2:Int)=>
 (idx t.d4 i0).bind fun f=>
 if (decide (s2<(f.tl.length:Int)))then
 (idx t.d4 i0).bind fun g=>
 (idx g.tl s2).bind fun a=>
 if ((decide (40<(a.og.size:Int)))||(decide (25<(a.tg.length:Int))))then
 some (.ret false)
 else
 AM (ER (ρ:=Bool) (fun(s4:Int)=>
 if (decide (s4<(a.tg.length:Int)))then
 (idx a.tg s4).bind fun h=>
 if (decide (40<(h.size:Int)))then
 some (.ret false)
 else
 some (.next (Al (s4+1)))
 else
 some (.brk s4)) 0) (fun s4=>
 some (.next (Al (s2+1)))) (fun v4=>some (.ret v4))
 else
 some (.brk s2)) 0) (fun s2=>
 some (.next (Al (s0+(b.tl.length:Int))))) (fun v2=>some (.ret v2))) 0 (t.d4.length:Int) 0) (fun s0=>
 AM (Ag (ρ:=Bool) (fun(i6:Int)(_:Unit)=>
 (idx t.d5 i6).bind fun c=>
 if (decide (40<(c.og.size:Int)))then
 some (.ret false)
 else
 some (.next ())) 0 (t.d5.length:Int) ()) (fun _=>
 some true) (fun v6=>some v6)) (fun v0=>some v0)
def Hc(m:d7)(n:Int):K1:=
 some (decide ((Al ((m.d4.length:Int)+(m.d5.length:Int)))<=n))
def Hb(g:d6):K1:=
 some ((decide ((g.d4.length:Int)<=45))&&(decide ((g.d5.length:Int)<=90)))
def Ih(p:ec):K1:=
 (Hb p.d6).bind fun a=>
 some ((a&&(decide ((p.ff.length:Int)<=15)))&&(decide ((p.l4.length:Int)<=15)))
def QM(p:Ak)(n:Int):K1:=
 some (decide ((Al ((p.d4.length:Int)+(p.d5.length:Int)))<=n))
def CW[Ev]:Nat->ea->Int->QQ
 |0,_,_=>none|n+1,c,a=>
  (Ih c.ec).bind fun b=>
  (if(!b)then some true else((Hc c.Map 140).bind fun d=>
  some (!d))).bind fun e=>
  if e then
  some (-1)
  else
  AM (ER (ρ:=Int) (fun(s0:Int×Int)=>
  if ((decide (s0.2<(c.gp.length:Int)))&&(decide (0<=s0.1)))then
  (idx c.gp s0.2).bind fun f=>
  (CW n f s0.1).bind fun g=>
  some (.next (g,Al (s0.2+1)))
  else
  some (.brk (s0.1,s0.2))) (Al (a-1),0)) (fun s0=>
  some s0.1) (fun v0=>some v0)
def Oz[Ev](c:ea)(a:Int):QQ:=Jr fun n=>CW n c a
def Ii[Ev](c:ea):K1:=
 (Oz c 40).bind fun a=>
 some (decide (0<=a))
def ON[Ev](a:em):K1:=
 (if(decide ((a.og.size:Int)<=60))then((Ih a.f0).bind fun b=>
 some (b))else some false).bind fun c=>
 (if c then((Ih a.ek).bind fun d=>
 some (d))else some false).bind fun e=>
 (if e then((QM a.sr 140).bind fun f=>
 some (f))else some false).bind fun g=>
 (if g then((Hc a.kl 140).bind fun h=>
 some (h))else some false).bind fun i=>
 (if i then((Ii a.ea).bind fun j=>
 some (j))else some false).bind fun k=>
 some k
def Hf(a:AG):K1:=
 (Hb a.d6).bind fun c=>
 if ((!c)||(decide (45<(a.hT.length:Int))))then
 some false
 else
 AM (Ag (ρ:=Bool) (fun(i0:Int)(_:Unit)=>
 (idx a.hT i0).bind fun b=>
 if (decide (12<(b.length:Int)))then
 some (.ret false)
 else
 some (.next ())) 0 (a.hT.length:Int) ()) (fun _=>
 some true) (fun v0=>some v0)
def DI(n:Int)(b:Int)(a:Int):K1:=
 some ((decide (b<=n))&&(decide (n<=a)))
def FT[Ev]:Nat->AC->Int->Option (List mo)
 |0,_,_=>none|n+1,t,a=>
  if (decide (a<0))then
  some []
  else
  (idx t.d4 a).bind fun b=>
  (FT n t b.r0).bind fun c=>
  (Aj [] c).bind fun d=>
  (idx t.d4 a).bind fun e=>
  (Aj d e.tl).bind fun f=>
  some f
def Np[Ev](t:AC)(a:Int):Option (List mo):=Jr fun n=>FT n t a
def Ox(t:EO):Option ByteArray:=
 if (decide (t.l3=3))then
 (TT (⟨#[34]⟩:ByteArray) t.AbI).bind fun a=>
 (TT a (⟨#[34]⟩:ByteArray)).bind fun b=>
 some b
 else
 some t.AbI
def KA(c:Int):K1:=
 some (((decide (97<=c))&&(decide (c<=122)))||((decide (65<=c))&&(decide (c<=90))))
def Hv(c:Int):K1:=
 some ((decide (48<=c))&&(decide (c<=57)))
def OJ[Ev](b:ByteArray)(c:Int)(a:Bool):QQ:=
 AM (ER (ρ:=Int) (fun(s0:Int)=>
 (if(decide ((Al (c+s0))<(b.size:Int)))then((Aat b (Al (c+s0))).bind fun d=>
 (Hv d).bind fun e=>
 (if e then some true else((if(!a)then((Aat b (Al (c+s0))).bind fun f=>
 (KA f).bind fun g=>
 (if g then some true else((Aat b (Al (c+s0))).bind fun h=>
 some (decide (h=95)))).bind fun i=>
 some (i))else some false).bind fun j=>
 some (j))).bind fun k=>
 some (k))else some false).bind fun l=>
 if l then
 some (.next (Al (s0+1)))
 else
 some (.brk s0)) 0) (fun s0=>
 some s0) (fun v0=>some v0)
def KB[Ev](b:ByteArray)(c:Int):QQ:=
 AM (ER (ρ:=Int) (fun(s0:Int)=>
 if (decide ((Al (c+s0))<(b.size:Int)))then
 (Aat b (Al (c+s0))).bind fun a=>
 if (decide (a=34))then
 some (.ret (Al (s0+1)))
 else
 if ((decide (a<32))||(decide (126<a)))then
 some (.ret 0)
 else
 some (.next (Al (s0+1)))
 else
 some (.brk s0)) 1) (fun s0=>
 some 0) (fun v0=>some v0)
def Nn:Option (List ByteArray):=
 some [(⟨#[45,62]⟩:ByteArray),(⟨#[60,61]⟩:ByteArray),(⟨#[62,61]⟩:ByteArray),(⟨#[61,61]⟩:ByteArray),(⟨#[33,61]⟩:ByteArray),(⟨#[123]⟩:ByteArray),(⟨#[125]⟩:ByteArray),(⟨#[40]⟩:ByteArray),(⟨#[41]⟩:ByteArray),(⟨#[91]⟩:ByteArray),(⟨#[93]⟩:ByteArray),(⟨#[44]⟩:ByteArray),(⟨#[59]⟩:ByteArray),(⟨#[58]⟩:ByteArray),(⟨#[61]⟩:ByteArray),(⟨#[43]⟩:ByteArray),(⟨#[45]⟩:ByteArray),(⟨#[42]⟩:ByteArray),(⟨#[60]⟩:ByteArray),(⟨#[62]⟩:ByteArray),(⟨#[33]⟩:ByteArray),(⟨#[38]⟩:ByteArray),(⟨#[124]⟩:ByteArray),(⟨#[46]⟩:ByteArray),(⟨#[63]⟩:ByteArray)]
def OI[Ev](a:ByteArray)(d:Int):Option (EO×Int×Int):=
 (Aat a d).bind fun c=>
 (KA c).bind fun i=>
 (if i then some true else((Hv c).bind fun j=>
 some (j))).bind fun k=>
 if k then
 (Hv c).bind fun l=>
 (OJ a d l).bind fun f=>
 (Hv c).bind fun m=>
 (if m then
 some (2,9)
 else
 some (1,20)).bind fun w1=>
 if (decide (w1.2<f))then
 some (EO.mk 0 (⟨#[]⟩:ByteArray) 0,0,3)
 else
 (Aax a d (Al (d+f))).bind fun n=>
 some (EO.mk w1.1 n 0,f,0)
 else
 if (decide (c=34))then
 (KB a d).bind fun e=>
 if (decide (e=0))then
 some (EO.mk 0 (⟨#[]⟩:ByteArray) 0,0,2)
 else
 if (decide (60<(Al (e-2))))then
 some (EO.mk 0 (⟨#[]⟩:ByteArray) 0,0,3)
 else
 (Aax a (Al (d+1)) (Al ((Al (d+e))-1))).bind fun o=>
 some (EO.mk 3 o 0,e,0)
 else
 (Nn).bind fun b=>
 AM (Ag (ρ:=(EO×Int×Int)) (fun(i0:Int)(s0:EO)=>
 (idx b i0).bind fun p=>
 (if(decide ((Al (d+(p.size:Int)))<=(a.size:Int)))then((idx b i0).bind fun q=>
 (Aax a d (Al (d+(q.size:Int)))).bind fun r=>
 (idx b i0).bind fun s=>
 some (r==s))else some false).bind fun t=>
 if t then
 (idx b i0).bind fun g=>
 (idx b i0).bind fun h=>
 some (.ret (EO.mk 4 g 0,(h.size:Int),0))
 else
 some (.next s0)) 0 (b.length:Int) (EO.mk 0 (⟨#[]⟩:ByteArray) 0)) (fun s0=>
 some (EO.mk 0 (⟨#[]⟩:ByteArray) 0,0,2)) (fun v0=>some v0)
def Nl[Ev](t:EO):K1:=
 (Ox t).bind fun b=>
 if (b==(⟨#[]⟩:ByteArray))then
 some false
 else
 (OI b 0).bind fun a=>
 some (((decide (a.2.2=0))&&(decide (a.2.1=(b.size:Int))))&&(decide (a.1.l3=t.l3)))
def Eg[Ev](a:ByteArray):K1:=
 (Nl (EO.mk 1 a 0)).bind fun b=>
 some b
def K8[Ev](l:List ByteArray):QQ:=
 if (decide (20<(l.length:Int)))then
 some 3
 else
 AM (Ag (ρ:=Int) (fun(i0:Int)(_:Unit)=>
 (idx l i0).bind fun a=>
 (Eg a).bind fun b=>
 if (!b)then
 some (.ret 2)
 else
 AM (Ag (ρ:=Int) (fun(i2:Int)(_:Unit)=>
 (idx l i2).bind fun c=>
 (idx l i0).bind fun d=>
 if (c==d)then
 some (.ret 5)
 else
 some (.next ())) 0 i0 ()) (fun _=>
 some (.next ())) (fun v2=>some (.ret v2))) 0 (l.length:Int) ()) (fun _=>
 some 0) (fun v0=>some v0)
def Ha[Ev](a:mo):QQ:=
 if (decide ((a.tg.length:Int)=0))then
 (DI a.Low (-1000000) 1000000).bind fun c=>
 (if(!c)then some true else((DI a.Aao a.Low 1000000).bind fun d=>
 some (!d))).bind fun e=>
 if e then
 some 6
 else
 some 0
 else
 (K8 a.tg).bind fun b=>
 if (!decide (b=0))then
 some b
 else
 if ((!decide (a.Low=0))||(!decide (a.Aao=(Al ((a.tg.length:Int)-1)))))then
 some 6
 else
 some 0
def Mh[Ev](t:AC)(c:Int):QQ:=
 (idx t.d4 c).bind fun b=>
 (Eg b.og).bind fun e=>
 if (!e)then
 some 2
 else
 AM (Ag (ρ:=Int) (fun(i0:Int)(_:Unit)=>
 (idx t.d4 i0).bind fun f=>
 if (f.og==b.og)then
 some (.ret 5)
 else
 some (.next ())) 0 c ()) (fun _=>
 (DI b.r0 (-1) (Al (c-1))).bind fun g=>
 if (!g)then
 some 6
 else
 (Np t c).bind fun a=>
 if ((decide (4<(b.tl.length:Int)))||(decide (8<(a.length:Int))))then
 some 3
 else
 AM (Ag (ρ:=Int) (fun(i2:Int)(_:Unit)=>
 (idx a i2).bind fun h=>
 (Eg h.og).bind fun i=>
 if (!i)then
 some (.ret 2)
 else
 AM (Ag (ρ:=Int) (fun(i4:Int)(_:Unit)=>
 (idx a i4).bind fun j=>
 (idx a i2).bind fun k=>
 if (j.og==k.og)then
 some (.ret 5)
 else
 some (.next ())) 0 i2 ()) (fun _=>
 (idx a i2).bind fun l=>
 (Ha l).bind fun d=>
 if (!decide (d=0))then
 some (.ret d)
 else
 some (.next ())) (fun v4=>some (.ret v4))) (Al ((a.length:Int)-(b.tl.length:Int))) (a.length:Int) ()) (fun _=>
 some 0) (fun v2=>some v2)) (fun v0=>some v0)
def JZ(b:Int)(a:Int):K1:=
 (DI b 0 40).bind fun f=>
 (if f then((if(decide (a=(-1)))then some true else((DI a b 40).bind fun c=>
 some (c))).bind fun d=>
 some (d))else some false).bind fun e=>
 some e
def Mg[Ev](t:AC)(b:Int):QQ:=
 (idx t.d5 b).bind fun a=>
 (Eg a.og).bind fun c=>
 if (!c)then
 some 2
 else
 AM (Ag (ρ:=Int) (fun(i0:Int)(_:Unit)=>
 (idx t.d5 i0).bind fun d=>
 if (d.og==a.og)then
 some (.ret 5)
 else
 some (.next ())) 0 b ()) (fun _=>
 (DI a.kq 0 (Al ((t.d4.length:Int)-1))).bind fun e=>
 (if(!e)then some true else((DI a.To 0 (Al ((t.d4.length:Int)-1))).bind fun f=>
 some (!f))).bind fun g=>
 (if g then some true else((JZ a.Aa5 a.AaP).bind fun h=>
 some (!h))).bind fun i=>
 (if i then some true else((JZ a.Abp a.Aa4).bind fun j=>
 some (!j))).bind fun k=>
 if k then
 some 6
 else
 some 0) (fun v0=>some v0)
def EW[Ev](t:AC):Option (ByteArray×Int):=
 if (decide ((t.d4.length:Int)=0))then
 some ((⟨#[]⟩:ByteArray),7)
 else
 if ((decide (12<(t.d4.length:Int)))||(decide (20<(t.d5.length:Int))))then
 some ((⟨#[]⟩:ByteArray),3)
 else
 AM (Ag (ρ:=(ByteArray×Int)) (fun(i0:Int)(_:Unit)=>
 (Mh t i0).bind fun a=>
 if (!decide (a=0))then
 (idx t.d4 i0).bind fun c=>
 some (.ret (c.og,a))
 else
 some (.next ())) 0 (t.d4.length:Int) ()) (fun _=>
 AM (Ag (ρ:=(ByteArray×Int)) (fun(i2:Int)(_:Unit)=>
 (Mg t i2).bind fun b=>
 if (!decide (b=0))then
 (idx t.d5 i2).bind fun d=>
 some (.ret (d.og,b))
 else
 some (.next ())) 0 (t.d5.length:Int) ()) (fun _=>
 some ((⟨#[]⟩:ByteArray),0)) (fun v2=>some v2)) (fun v0=>some v0)
def Ka(n:Int):K1:=
 some ((decide (0<=n))&&(decide (n<=99)))
def Nq(e:BY)(a:Int):K1:=
 (Ka e.kg).bind fun b=>
 some ((((b&&(decide (0<=e.kq)))&&(decide (e.kq<a)))&&(decide (0<=e.To)))&&(decide (e.To<a)))
def DZ(g:d6):QQ:=
 if ((decide (40<(g.d4.length:Int)))||(decide (80<(g.d5.length:Int))))then
 some 3
 else
 AM (Ag (ρ:=Int) (fun(i0:Int)(_:Unit)=>
 (idx g.d4 i0).bind fun a=>
 (Ka a).bind fun b=>
 if (!b)then
 some (.ret 6)
 else
 some (.next ())) 0 (g.d4.length:Int) ()) (fun _=>
 AM (Ag (ρ:=Int) (fun(i2:Int)(_:Unit)=>
 (idx g.d5 i2).bind fun c=>
 (Nq c (g.d4.length:Int)).bind fun d=>
 if (!d)then
 some (.ret 6)
 else
 some (.next ())) 0 (g.d5.length:Int) ()) (fun _=>
 some 0) (fun v2=>some v2)) (fun v0=>some v0)
def GL(t:AC)(g:d6):K1:=
 AM (Ag (ρ:=Bool) (fun(i0:Int)(_:Unit)=>
 (idx g.d4 i0).bind fun a=>
 (if(decide (a<0))then some true else((idx g.d4 i0).bind fun b=>
 some (decide ((t.d4.length:Int)<=b)))).bind fun c=>
 if c then
 some (.ret false)
 else
 some (.next ())) 0 (g.d4.length:Int) ()) (fun _=>
 AM (Ag (ρ:=Bool) (fun(i2:Int)(_:Unit)=>
 (idx g.d5 i2).bind fun d=>
 (if(decide (d.kg<0))then some true else((idx g.d5 i2).bind fun e=>
 some (decide ((t.d5.length:Int)<=e.kg)))).bind fun f=>
 if f then
 some (.ret false)
 else
 some (.next ())) 0 (g.d5.length:Int) ()) (fun _=>
 some true) (fun v2=>some v2)) (fun v0=>some v0)
def Ja[Ev](t:AC)(a:Int)(b:Int):QQ:=
 (EW t).bind fun c=>
 if (!decide (c.2=0))then
 some c.2
 else
 (DI a 0 (Al ((t.d4.length:Int)-1))).bind fun d=>
 (if(!d)then some true else((DI b 0 (Al ((t.d4.length:Int)-1))).bind fun e=>
 some (!e))).bind fun f=>
 if f then
 some 6
 else
 some 0
def FJ[Ev](t:AC)(a:Int):Option (List mo×Int):=
 (Ja t a a).bind fun c=>
 if (!decide (c=0))then
 some ([],c)
 else
 (Np t a).bind fun d=>
 (A9 (fun(i0:Int)(s0:List mo)=>
 (idx d i0).bind fun b=>
 (Aj [] b.tg).bind fun e=>
 (Aj s0 [mo.mk b.og b.Low b.Aao e]).bind fun f=>
 some f) 0 (d.length:Int) []).bind fun s0=>
 some (s0,0)
def Mj[Ev](t:AC)(p:ec)(b:Int)(a:Int):Option (mo×Bool):=
 if ((decide (b<0))||(decide ((p.d6.d4.length:Int)<=b)))then
 some (mo.mk (⟨#[]⟩:ByteArray) 0 0 [],false)
 else
 (idx p.d6.d4 b).bind fun d=>
 (FJ t d).bind fun c=>
 if (((!decide (c.2=0))||(decide (a<0)))||(decide ((c.1.length:Int)<=a)))then
 some (mo.mk (⟨#[]⟩:ByteArray) 0 0 [],false)
 else
 (idx c.1 a).bind fun e=>
 some (e,true)
def La(n:Int):K1:=
 some ((decide ((-1000000)<=n))&&(decide (n<=1000000)))
def IL(n:Int)(t:j4):QQ:=
 if ((((decide (t.Var<(-1)))||(decide (n<=t.Var)))||(decide (t.Add<(-1000000))))||(decide (1000000<t.Add)))then
 some 6
 else
 some 0
def OK(n:Int)(a:Test):QQ:=
 if ((!decide (a.l3=1))&&(!decide (a.l3=2)))then
 some 1
 else
 (IL n a.f0).bind fun b=>
 if (!decide (b=0))then
 some b
 else
 (IL n a.ek).bind fun c=>
 some c
def K7(n:Int)(l:List Test):QQ:=
 if ((decide (n<0))||(decide (12<n)))then
 some 6
 else
 if (decide (40<(l.length:Int)))then
 some 3
 else
 AM (Ag (ρ:=Int) (fun(i0:Int)(_:Unit)=>
 (idx l i0).bind fun b=>
 (OK n b).bind fun a=>
 if (!decide (a=0))then
 some (.ret a)
 else
 some (.next ())) 0 (l.length:Int) ()) (fun _=>
 some 0) (fun v0=>some v0)
def KF(p:ec)(b:Int):K1:=
 AM (Ag (ρ:=Bool) (fun(i0:Int)(_:Unit)=>
 (idx p.ff i0).bind fun a=>
 if (decide (a.j4.Var=b))then
 some (.ret true)
 else
 some (.next ())) 0 (p.ff.length:Int) ()) (fun _=>
 some false) (fun v0=>some v0)
def GM[Ev](t:AC)(p:ec):QQ:=
 (EW t).bind fun c=>
 if (!decide (c.2=0))then
 some c.2
 else
 (DZ p.d6).bind fun d=>
 if (!decide (d=0))then
 some d
 else
 (GL t p.d6).bind fun f=>
 if (!f)then
 some 13
 else
 if ((decide (p.gn<0))||(decide (12<p.gn)))then
 some 6
 else
 if ((decide (10<(p.ff.length:Int)))||(decide (10<(p.l4.length:Int))))then
 some 3
 else
 AM (Ag (ρ:=Int) (fun(i0:Int)(_:Unit)=>
 (idx p.ff i0).bind fun a=>
 (Mj t p a.sx a.mo).bind fun g=>
 (if(((!g.2)||(decide (a.j4.Var<(-1))))||(decide (p.gn<=a.j4.Var)))then some true else((La a.j4.Add).bind fun h=>
 some (!h))).bind fun i=>
 if i then
 some (.ret 6)
 else
 some (.next ())) 0 (p.ff.length:Int) ()) (fun _=>
 (K7 p.gn p.l4).bind fun b=>
 if (!decide (b=0))then
 some b
 else
 AM (Ag (ρ:=Int) (fun(i2:Int)(_:Unit)=>
 (KF p i2).bind fun e=>
 if (!e)then
 some (.ret 9)
 else
 some (.next ())) 0 p.gn ()) (fun _=>
 some 0) (fun v2=>some v2)) (fun v0=>some v0)
def Gc(c:ea):K1:=
 some (((decide ((Al ((Al ((Al ((c.Map.d4.length:Int)+(c.Map.d5.length:Int)))+(c.ec.d6.d4.length:Int)))+(c.ec.d6.d5.length:Int)))=0))&&(decide ((Al ((c.ec.ff.length:Int)+(c.ec.l4.length:Int)))=0)))&&(decide (c.ec.gn=0)))
def LH(c:ea):K1:=
 if (decide (c.l3=1))then
 (if(decide ((c.gp.length:Int)=0))then((Gc c).bind fun a=>
 some (a))else some false).bind fun b=>
 some b
 else
 if (decide (c.l3=2))then
 (if(decide ((c.gp.length:Int)=1))then((Gc c).bind fun d=>
 some (d))else some false).bind fun e=>
 some e
 else
 (if(decide (c.l3=3))then
 some (decide (c.l3=3))
 else
 some (decide (c.l3=4))).bind fun w1=>
 if w1 then
 (if(decide (0<(c.gp.length:Int)))then((Gc c).bind fun f=>
 some (f))else some false).bind fun g=>
 some g
 else
 if (decide (c.l3=5))then
 some (decide ((c.gp.length:Int)=1))
 else
 some false
def Dq[Ev]:Nat->ea->K1
 |0,_=>none|n+1,c=>
  (LH c).bind fun d=>
  if (!d)then
  some false
  else
  AM (Ag (ρ:=Bool) (fun(i0:Int)(_:Unit)=>
  (idx c.gp i0).bind fun a=>
  (Dq n a).bind fun b=>
  if (!b)then
  some (.ret false)
  else
  some (.next ())) 0 (c.gp.length:Int) ()) (fun _=>
  some true) (fun v0=>some v0)
def NY[Ev](c:ea):K1:=Jr fun n=>Dq n c
def EM[Ev]:Nat->ea->Option (Int×Int)
 |0,_=>none|n+1,c=>
  (A9 (fun(i0:Int)(s0:Int×Int)=>
  (idx c.gp i0).bind fun b=>
  (EM n b).bind fun a=>
  some (Al (s0.1+a.1),max s0.2 a.2)) 0 (c.gp.length:Int) (1,0)).bind fun s0=>
  (if(decide (c.l3=5))then
  some (Al (s0.2+1))
  else
  some s0.2).bind fun w1=>
  some (s0.1,w1)
def Oc[Ev](c:ea):Option (Int×Int):=Jr fun n=>EM n c
def LF[Ev](c:ea):QQ:=
 (NY c).bind fun b=>
 if (!b)then
 some 1
 else
 (Oc c).bind fun a=>
 if ((decide (12<a.1))||(decide (3<a.2)))then
 some 3
 else
 some 0
def GK(a:d6)(b:d6)(m:d7):QQ:=
 (DZ a).bind fun e=>
 if (!decide (e=0))then
 some e
 else
 (DZ b).bind fun f=>
 if (!decide (f=0))then
 some f
 else
 if ((!decide ((m.d4.length:Int)=(a.d4.length:Int)))||(!decide ((m.d5.length:Int)=(a.d5.length:Int))))then
 some 20
 else
 AM (Ag (ρ:=Int) (fun(i0:Int)(_:Unit)=>
 (idx m.d4 i0).bind fun l=>
 (if(decide (l<0))then some true else((idx m.d4 i0).bind fun n=>
 some (decide ((b.d4.length:Int)<=n)))).bind fun o=>
 if o then
 some (.ret 6)
 else
 (idx m.d4 i0).bind fun p=>
 (idx b.d4 p).bind fun q=>
 (idx a.d4 i0).bind fun r=>
 if (!decide (q=r))then
 some (.ret 13)
 else
 some (.next ())) 0 (a.d4.length:Int) ()) (fun _=>
 AM (Ag (ρ:=Int) (fun(i2:Int)(_:Unit)=>
 (idx m.d5 i2).bind fun s=>
 (if(decide (s<0))then some true else((idx m.d5 i2).bind fun t=>
 some (decide ((b.d5.length:Int)<=t)))).bind fun g=>
 if g then
 some (.ret 6)
 else
 (idx a.d5 i2).bind fun c=>
 (idx m.d5 i2).bind fun h=>
 (idx b.d5 h).bind fun d=>
 if (!decide (c.kg=d.kg))then
 some (.ret 13)
 else
 (idx m.d4 c.kq).bind fun i=>
 (if(!decide (i=d.kq))then some true else((idx m.d4 c.To).bind fun j=>
 some (!decide (j=d.To)))).bind fun k=>
 if k then
 some (.ret 11)
 else
 some (.next ())) 0 (a.d5.length:Int) ()) (fun _=>
 some 0) (fun v2=>some v2)) (fun v0=>some v0)
def Mk(p:ec)(b:Int):K1:=
 AM (Ag (ρ:=Bool) (fun(i0:Int)(_:Unit)=>
 (idx p.ff i0).bind fun a=>
 if (decide (a.j4.Var=b))then
 some (.ret true)
 else
 some (.next ())) 0 (p.ff.length:Int) ()) (fun _=>
 some false) (fun v0=>some v0)
def LG[Ev](t:AC)(a:Int)(q:ec):QQ:=
 if (decide (q.gn<a))then
 some 20
 else
 (GM t q).bind fun b=>
 if (!decide (b=9))then
 some b
 else
 AM (Ag (ρ:=Int) (fun(i0:Int)(_:Unit)=>
 (Mk q i0).bind fun c=>
 if (!c)then
 some (.ret b)
 else
 some (.next ())) a q.gn ()) (fun _=>
 some 0) (fun v0=>some v0)
def EL(l:Fp):K1:=
 AM (Ag (ρ:=Bool) (fun(i0:Int)(_:Unit)=>
 AM (Ag (ρ:=Bool) (fun(i2:Int)(_:Unit)=>
 (idx l i0).bind fun a=>
 (idx l i2).bind fun b=>
 if (decide (a=b))then
 some (.ret false)
 else
 some (.next ())) 0 i0 ()) (fun _=>
 some (.next ())) (fun v2=>some (.ret v2))) 0 (l.length:Int) ()) (fun _=>
 some true) (fun v0=>some v0)
def Hd(a:d6)(b:d6)(m:d7):K1:=
 (GK a b m).bind fun c=>
 (if(decide (c=0))then((EL m.d4).bind fun d=>
 some (d))else some false).bind fun e=>
 (if e then((EL m.d5).bind fun f=>
 some (f))else some false).bind fun g=>
 some g
def EX[Ev]:Nat->AC->ec->ea->QQ
 |0,_,_,_=>none|n+1,t,p,c=>
  if (decide (c.l3=5))then
  (LG t p.gn c.ec).bind fun d=>
  if (!decide (d=0))then
  some d
  else
  (GK p.d6 c.ec.d6 c.Map).bind fun e=>
  if (!decide (e=0))then
  some e
  else
  (Hd p.d6 c.ec.d6 c.Map).bind fun f=>
  if (!f)then
  some 1
  else
  AM (Ag (ρ:=Int) (fun(i0:Int)(_:Unit)=>
  (idx c.gp i0).bind fun b=>
  (EX n t c.ec b).bind fun a=>
  if (!decide (a=0))then
  some (.ret a)
  else
  some (.next ())) 0 (c.gp.length:Int) ()) (fun _=>
  some 0) (fun v0=>some v0)
  else
  AM (Ag (ρ:=Int) (fun(i0:Int)(_:Unit)=>
  (idx c.gp i0).bind fun b=>
  (EX n t p b).bind fun a=>
  if (!decide (a=0))then
  some (.ret a)
  else
  some (.next ())) 0 (c.gp.length:Int) ()) (fun _=>
  some 0) (fun v0=>some v0)
def Vl[Ev](t:AC)(p:ec)(c:ea):QQ:=Jr fun n=>EX n t p c
def Jb[Ev](t:AC)(p:ec)(c:ea):QQ:=
 (GM t p).bind fun a=>
 if (!decide (a=0))then
 some a
 else
 (LF c).bind fun b=>
 if (!decide (b=0))then
 some b
 else
 (Vl t p c).bind fun d=>
 some d
def H0[Ev](t:AC)(p:d6)(g:d6):QQ:=
 (EW t).bind fun a=>
 if (!decide (a.2=0))then
 some a.2
 else
 (DZ p).bind fun b=>
 if (!decide (b=0))then
 some b
 else
 (DZ g).bind fun c=>
 if (!decide (c=0))then
 some c
 else
 (GL t p).bind fun d=>
 (if(!d)then some true else((GL t g).bind fun e=>
 some (!e))).bind fun f=>
 if f then
 some 13
 else
 some 0
def K9[Ev](t:AC)(p:d6)(g:d6):K1:=
 (L9 t).bind fun h=>
 (if h then((Hb p).bind fun a=>
 some (a))else some false).bind fun b=>
 (if b then((Hb g).bind fun c=>
 some (c))else some false).bind fun d=>
 (if d then((H0 t p g).bind fun e=>
 some ((!decide (e=0))||(((decide ((Al ((p.d4.length:Int)+(p.d5.length:Int)))<=6))&&(decide ((g.d4.length:Int)<=8)))&&(decide ((g.d5.length:Int)<=12)))))else some false).bind fun f=>
 some f
def Nt[Ev](t:AC)(p:ec)(a:AG):K1:=
 (Ih p).bind fun f=>
 (if f then((Hf a).bind fun b=>
 some (b))else some false).bind fun c=>
 (if c then((K9 t p.d6 a.d6).bind fun d=>
 some (d))else some false).bind fun e=>
 some e
def Ew[Ev]:Nat->ea->K1
 |0,_=>none|n+1,c=>
  AM (Ag (ρ:=Bool) (fun(i0:Int)(_:Unit)=>
  (idx c.gp i0).bind fun a=>
  (Ew n a).bind fun b=>
  if (!b)then
  some (.ret false)
  else
  some (.next ())) 0 (c.gp.length:Int) ()) (fun _=>
  some (decide ((Al ((c.ec.d6.d4.length:Int)+(c.ec.d6.d5.length:Int)))<=6))) (fun v0=>some v0)
def Pn[Ev](c:ea):K1:=Jr fun n=>Ew n c
def De[Ev]:Nat->ec->ea->Int->Int->K1
 |0,_,_,_,_=>none|n+1,p,c,a,b=>
  (if(decide (c.l3=5))then
  some c.ec
  else
  some p).bind fun w1=>
  AM (ER (ρ:=Bool) (fun(s0:Int×Int)=>
  if (decide (s0.2<(w1.d6.d4.length:Int)))then
  some (.next (Al (s0.1*a),Al (s0.2+1)))
  else
  some (.brk (s0.1,s0.2))) (1,(p.d6.d4.length:Int))) (fun s0=>
  AM (ER (ρ:=Bool) (fun(s2:Int×Int)=>
  if (decide (s2.2<(w1.d6.d5.length:Int)))then
  some (.next (Al (s2.1*b),Al (s2.2+1)))
  else
  some (.brk (s2.1,s2.2))) (s0.1,(p.d6.d5.length:Int))) (fun s2=>
  AM (Ag (ρ:=Bool) (fun(i4:Int)(_:Unit)=>
  (idx c.gp i4).bind fun d=>
  (De n w1 d a b).bind fun e=>
  if (!e)then
  some (.ret false)
  else
  some (.next ())) 0 (c.gp.length:Int) ()) (fun _=>
  some (decide (s2.1<=5000))) (fun v4=>some v4)) (fun v2=>some v2)) (fun v0=>some v0)
def Ob[Ev](p:ec)(c:ea)(a:Int)(b:Int):K1:=Jr fun n=>De n p c a b
def LE[Ev](t:AC)(p:ec)(c:ea)(a:AG):K1:=
 (Ii c).bind fun b=>
 (if(!b)then some true else((Ih p).bind fun d=>
 some (!d))).bind fun e=>
 (if e then some true else((Hf a).bind fun f=>
 some (!f))).bind fun g=>
 if g then
 some false
 else
 (Jb t p c).bind fun h=>
 (if(!decide (h=0))then some true else((Nt t p a).bind fun i=>
 (if i then((Pn c).bind fun j=>
 some (j))else some false).bind fun k=>
 (if((k&&(decide ((a.d6.d4.length:Int)<=6)))&&(decide ((a.d6.d5.length:Int)<=8)))then((Ob p c 14 18).bind fun l=>
 some (l))else some false).bind fun m=>
 some (m))).bind fun n=>
 some n
def H3[Ev](t:AC)(a:em)(f:AG):K1:=
 (L9 t).bind fun g=>
 (if g then((ON a).bind fun b=>
 some (b))else some false).bind fun c=>
 (if c then((LE t a.f0 a.ea f).bind fun d=>
 some (d))else some false).bind fun e=>
 some e
def Kf(m:AJ)(n:Int):K1:=
 (Hc m.d7 n).bind fun a=>
 some (a&&(decide ((m.gn.length:Int)<=n)))
def Hh[Ev](t:AC)(a:Ai):K1:=
 (H3 t a.em a.o3).bind fun b=>
 (if b then((Hf a.q0).bind fun c=>
 some (c))else some false).bind fun d=>
 (if d then((Kf a.kp 140).bind fun e=>
 some (e))else some false).bind fun f=>
 (if f then((Hc a.tc 140).bind fun g=>
 some (g))else some false).bind fun h=>
 (if h then((Hc a.pq 140).bind fun i=>
 some (i))else some false).bind fun j=>
 some j
def OE[Ev](t:AC)(a:Int)(h:Fp):QQ:=
 if (decide ((t.d4.length:Int)<=a))then
 some 6
 else
 (idx t.d4 a).bind fun d=>
 if d.Aae then
 some 13
 else
 (FK t a).bind fun b=>
 if (!decide ((h.length:Int)=(b.1.length:Int)))then
 some 20
 else
 AM (Ag (ρ:=Int) (fun(i0:Int)(_:Unit)=>
 (idx b.1 i0).bind fun c=>
 (idx h i0).bind fun e=>
 (if(decide (e<c.Low))then some true else((idx h i0).bind fun f=>
 some (decide (c.Aao<f)))).bind fun g=>
 if g then
 some (.ret 6)
 else
 some (.next ())) 0 (b.1.length:Int) ()) (fun _=>
 some 0) (fun v0=>some v0)
def Ix[Ev](t:AC)(a:AG):Option (Int×Int):=
 (D1 t).bind fun c=>
 if (!decide (c.2=0))then
 some ((-1),c.2)
 else
 (DX a.d6).bind fun d=>
 if (!decide (d=0))then
 some ((-1),d)
 else
 if (!decide ((a.hT.length:Int)=(a.d6.d4.length:Int)))then
 some ((-1),20)
 else
 AM (Ag (ρ:=(Int×Int)) (fun(i0:Int)(_:Unit)=>
 (idx a.d6.d4 i0).bind fun f=>
 (idx a.hT i0).bind fun g=>
 (OE t f g).bind fun e=>
 if (!decide (e=0))then
 some (.ret (i0,e))
 else
 some (.next ())) 0 (a.d6.d4.length:Int) ()) (fun _=>
 AM (Ag (ρ:=(Int×Int)) (fun(i2:Int)(_:Unit)=>
 (idx a.d6.d5 i2).bind fun b=>
 if (decide ((t.d5.length:Int)<=b.kg))then
 some (.ret (i2,6))
 else
 (idx a.d6.d4 b.kq).bind fun h=>
 (idx a.d6.d4 b.To).bind fun i=>
 (JB t b.kg h i).bind fun j=>
 if (!j)then
 some (.ret (i2,13))
 else
 some (.next ())) 0 (a.d6.d5.length:Int) ()) (fun _=>
 some ((-1),0)) (fun v2=>some v2)) (fun v0=>some v0)
def O9[Ev](t:AC)(e:em)(d:AG):QQ:=
 (D1 t).bind fun a=>
 if (!decide (a.2=0))then
 some a.2
 else
 (Kl t e).bind fun b=>
 if (!decide (b=0))then
 some b
 else
 (Ix t d).bind fun c=>
 some c.2
def Jt(n:Int)(a:AC):K1:=
 some (decide ((a.d4.length:Int)<=n))
def Ju(a:BY)(b:AC):K1:=
 some (decide ((b.d5.length:Int)<=a.kg))
def G6[Ev](t:AC)(g:d6):K1:=
 (BO g.d4 (fun y0=>Jt y0 t)).bind fun c=>
 (if(!c)then((By g.d5 (fun y0=>Ju y0 t)).bind fun a=>
 some (!a))else some false).bind fun b=>
 some b
def Gi[Ev](t:AC)(p:d6)(g:d6):QQ:=
 (D1 t).bind fun a=>
 if (!decide (a.2=0))then
 some a.2
 else
 AM (Ag (ρ:=Int) (fun(i0:Int)(_:Unit)=>
 (idx [p,g] i0).bind fun c=>
 (DX c).bind fun b=>
 if (!decide (b=0))then
 some (.ret b)
 else
 some (.next ())) 0 ([p,g].length:Int) ()) (fun _=>
 (G6 t p).bind fun d=>
 (if(!d)then some true else((G6 t g).bind fun e=>
 some (!e))).bind fun f=>
 if f then
 some 13
 else
 some 0) (fun v0=>some v0)
def LR[Ev](t:AC)(a:Int):Option (Fp×Int):=
 (H5 t [a]).bind fun b=>
 if (!decide (b=0))then
 some ([],b)
 else
 (A9 (fun(i0:Int)(s0:Fp)=>
 (Lr t i0 a).bind fun c=>
 if c then
 (Aj s0 [i0]).bind fun d=>
 some d
 else
 some s0) 0 (t.d4.length:Int) []).bind fun s0=>
 some (s0,0)
def IU[Ev](t:AC):Option (List a5):=
 (A9 (fun(i0:Int)(s0:List a5)=>
 (JL (t.d4.length:Int) false).bind fun c=>
 (LR t i0).bind fun a=>
 (A9 (fun(i2:Int)(s2:a5)=>
 (idx a.1 i2).bind fun b=>
 (idx s2 b).bind fun e=>
 some (BP s2 b true)) 0 (a.1.length:Int) c).bind fun s2=>
 (Aj s0 [s2]).bind fun d=>
 some d) 0 (t.d4.length:Int) []).bind fun s0=>
 some s0
def IV[Ev](t:AC)(p:d6)(g:d6)(m:d7):QQ:=
 if ((!decide ((m.d4.length:Int)=(p.d4.length:Int)))||(!decide ((m.d5.length:Int)=(p.d5.length:Int))))then
 some 20
 else
 (IU t).bind fun i=>
 AM (Ag (ρ:=Int) (fun(i0:Int)(_:Unit)=>
 (idx m.d4 i0).bind fun a=>
 if ((decide (a<0))||(decide ((g.d4.length:Int)<=a)))then
 some (.ret 6)
 else
 (idx p.d4 i0).bind fun j=>
 (idx i j).bind fun k=>
 (idx g.d4 a).bind fun l=>
 (idx k l).bind fun n=>
 if (!n)then
 some (.ret 13)
 else
 some (.next ())) 0 (m.d4.length:Int) ()) (fun _=>
 AM (Ag (ρ:=Int) (fun(i2:Int)(_:Unit)=>
 (idx m.d5 i2).bind fun b=>
 if ((decide (b<0))||(decide ((g.d5.length:Int)<=b)))then
 some (.ret 6)
 else
 (idx p.d5 i2).bind fun c=>
 (idx g.d5 b).bind fun d=>
 if (!decide (c.kg=d.kg))then
 some (.ret 13)
 else
 (idx m.d4 c.kq).bind fun e=>
 (if(!decide (e=d.kq))then some true else((idx m.d4 c.To).bind fun f=>
 some (!decide (f=d.To)))).bind fun h=>
 if h then
 some (.ret 11)
 else
 some (.next ())) 0 (m.d5.length:Int) ()) (fun _=>
 some 0) (fun v2=>some v2)) (fun v0=>some v0)
def Gh(l:Fp):K1:=if l.length<=4096 then some (Abx l)else none
def Gf[Ev](t:AC)(p:d6)(g:d6)(m:d7)(a:Bool):QQ:=
 (Gi t p g).bind fun b=>
 if (!decide (b=0))then
 some b
 else
 (IV t p g m).bind fun c=>
 if (!decide (c=0))then
 some c
 else
 (if a then((Gh m.d4).bind fun d=>
 (if d then some true else((Gh m.d5).bind fun e=>
 some (e))).bind fun f=>
 some (f))else some false).bind fun h=>
 if h then
 some 5
 else
 some 0
def HI[Ev](t:AC)(p:ec)(c:AG):QQ:=
 (Dl t p).bind fun a=>
 if (!decide (a=0))then
 some a
 else
 (Ix t c).bind fun b=>
 some b.2
def Dm(a:j4)(c:Fp):QQ:=
 if (decide (a.Var<0))then
 some a.Add
 else
 (idx c a.Var).bind fun b=>
 some (Al (b+a.Add))
def HZ(a b c:Int):Option (Int×Int):=if(0<=a/\a<18446744073709551616)/\(0<=b/\b<18446744073709551616)/\0<=c/\c<=1 then some ((a+b+c) % 18446744073709551616,(a+b+c) / 18446744073709551616)else none
def Fa(a:Int)(b:Int):Option (Int×Int):=
 (HZ (IntKind.u64.wrap a) (IntKind.u64.wrap b) 0).bind fun c=>
 (K0 .i64 .shr a 63).bind fun d=>
 (K0 .i64 .shr b 63).bind fun e=>
 some (Al ((Al (d+e))+(Al c.2)),c.1)
def EF(t:j4)(d:Fp):Option (Int×Int×Bool):=
 if (decide (t.Var=(-1)))then
 (Fa 0 t.Add).bind fun a=>
 some (a.1,a.2,true)
 else
 if ((decide (t.Var<0))||(decide ((d.length:Int)<=t.Var)))then
 some (0,0,false)
 else
 (idx d t.Var).bind fun c=>
 (Fa c t.Add).bind fun b=>
 some (b.1,b.2,true)
def MN(a:Fp):QQ:=
 AM (Ag (ρ:=Int) (fun(i0:Int)(_:Unit)=>
 (idx a i0).bind fun b=>
 if (!decide (b=0))then
 some (.ret b)
 else
 some (.next ())) 0 (a.length:Int) ()) (fun _=>
 some 0) (fun v0=>some v0)
def cmp_isNaN_int(a:Int):K1:=
 some (!decide (a=a))
def cmp_Compare_int(a:Int)(y:Int):QQ:=
 (cmp_isNaN_int a).bind fun c=>
 (cmp_isNaN_int y).bind fun b=>
 if c then
 if b then
 some 0
 else
 some (-1)
 else
 if b then
 some 1
 else
 if (decide (a<y))then
 some (-1)
 else
 if (decide (y<a))then
 some 1
 else
 some 0
def Is(a:Int):K1:=
 some (!decide (a=a))
def HL(a:Int)(y:Int):QQ:=
 (Is a).bind fun c=>
 (Is y).bind fun b=>
 if c then
 if b then
 some 0
 else
 some (-1)
 else
 if b then
 some 1
 else
 if (decide (a<y))then
 some (-1)
 else
 if (decide (y<a))then
 some 1
 else
 some 0
def E5(a:Test)(g:Fp):K1:=
 (EF a.f0 g).bind fun b=>
 (EF a.ek g).bind fun c=>
 if ((!b.2.2)||(!c.2.2))then
 some false
 else
 (cmp_Compare_int b.1 c.1).bind fun e=>
 (HL b.2.1 c.2.1).bind fun f=>
 (MN [e,f]).bind fun d=>
 some (((decide (a.l3=1))&&(decide (d<=0)))||((decide (a.l3=2))&&(decide (d=0))))
def HK(p:ec)(l:AG)(m:d7):Option (Fp×Int):=
 (JL p.gn 0).bind fun d=>
 (JL p.gn false).bind fun e=>
 AM (Ag (ρ:=(Fp×Int)) (fun(i0:Int)(s0:Fp×a5)=>
 (idx p.ff i0).bind fun a=>
 (idx m.d4 a.sx).bind fun f=>
 (idx l.hT f).bind fun g=>
 (idx g a.mo).bind fun b=>
 (if(decide (0<=a.j4.Var))then((idx s0.2 a.j4.Var).bind fun h=>
 some (!h))else some false).bind fun i=>
 if i then
 (idx s0.1 a.j4.Var).bind fun n=>
 (idx s0.2 a.j4.Var).bind fun o=>
 (Dm a.j4 (BP s0.1 a.j4.Var (Al (b-a.j4.Add)))).bind fun c=>
 if (!decide (c=b))then
 some (.ret ([],11))
 else
 some (.next (BP s0.1 a.j4.Var (Al (b-a.j4.Add)),BP s0.2 a.j4.Var true))
 else
 (Dm a.j4 s0.1).bind fun c=>
 if (!decide (c=b))then
 some (.ret ([],11))
 else
 some (.next (s0.1,s0.2))) 0 (p.ff.length:Int) (d,e)) (fun s0=>
 AM (Ag (ρ:=(Fp×Int)) (fun(i2:Int)(_:Unit)=>
 (idx p.l4 i2).bind fun j=>
 (E5 j s0.1).bind fun k=>
 if (!k)then
 some (.ret ([],16))
 else
 some (.next ())) 0 (p.l4.length:Int) ()) (fun _=>
 some (s0.1,0)) (fun v2=>some v2)) (fun v0=>some v0)
def FY[Ev](t:AC)(p:ec)(a:AG)(m:d7):Option (Fp×Int):=
 (HI t p a).bind fun b=>
 if (!decide (b=0))then
 some ([],b)
 else
 (Gf t p.d6 a.d6 m false).bind fun c=>
 if (!decide (c=0))then
 some ([],c)
 else
 (HK p a m).bind fun d=>
 some (d.1,d.2)
def M2[Ev](t:AC)(b:em)(c:AG)(m:AJ):QQ:=
 (Gf t b.f0.d6 c.d6 m.d7 b.le).bind fun d=>
 if (!decide (d=0))then
 some 1
 else
 (FY t b.f0 c m.d7).bind fun a=>
 if (!decide (a.2=0))then
 some a.2
 else
 (slices_Equal_int a.1 m.gn).bind fun e=>
 if (!e)then
 some 11
 else
 some 0
def Hl[Ev](t:AC)(p:d6)(g:d6)(m:d7):Option (d6×Int):=
 (Gi t p g).bind fun a=>
 if (!decide (a=0))then
 some (d6.mk [] [],a)
 else
 (IV t p g m).bind fun b=>
 if (!decide (b=0))then
 some (d6.mk [] [],b)
 else
 (Cq p.d5).bind fun c=>
 (A9 (fun(i0:Int)(s0:d6)=>
 (idx m.d4 i0).bind fun d=>
 (idx g.d4 d).bind fun e=>
 (Aj s0.d4 [e]).bind fun f=>
 some (d6.mk f s0.d5)) 0 (m.d4.length:Int) (d6.mk [] c)).bind fun s0=>
 some (s0,0)
def EP[Ev](a:Bm):QQ:=
 (EK a.l a.g a.m).bind fun b=>
 if (!decide (b=0))then
 some b
 else
 (GU a.l a.hV).bind fun c=>
 some c
def E3(a:Fp)(b:Fp):Option (List Fk):=
 (A9 (fun(i0:Int)(s0:List Fk)=>
 (A9 (fun(i2:Int)(s2:List Fk)=>
 (idx a i0).bind fun c=>
 (idx a i2).bind fun d=>
 (if(decide (c=d))then((slices_Contains_int b i0).bind fun e=>
 (if(!e)then some true else((slices_Contains_int b i2).bind fun f=>
 some (!f))).bind fun g=>
 some (g))else some false).bind fun h=>
 if h then
 (Aj s2 [Fk.mk i0 i2]).bind fun i=>
 some i
 else
 some s2) (Al (i0+1)) (a.length:Int) s0).bind fun s2=>
 some s2) 0 (a.length:Int) []).bind fun s0=>
 some s0
def DK(a:Bm):Option (List Fk×List Fk):=
 (E3 a.m.d4 a.hV.d4).bind fun b=>
 (E3 a.m.d5 a.hV.d5).bind fun c=>
 some (b,c)
def Cz(a:Bm):Option Fp:=
 (A9 (fun(i0:Int)(s0:Fp)=>
 (idx a.m.d4 i0).bind fun b=>
 (slices_Contains_int a.hV.d4 i0).bind fun c=>
 if (!c)then
 (Aj s0 [b]).bind fun d=>
 some d
 else
 some s0) 0 (a.m.d4.length:Int) []).bind fun s0=>
 some s0
def Cu(a:Bm):Option Fp:=
 (Cz a).bind fun j=>
 (A9 (fun(i0:Int)(s0:Fp)=>
 (idx a.g.d5 i0).bind fun b=>
 (slices_Contains_int a.m.d5 i0).bind fun c=>
 (if(!c)then((slices_Contains_int j b.kq).bind fun d=>
 (if d then some true else((slices_Contains_int j b.To).bind fun e=>
 some (e))).bind fun f=>
 some (f))else some false).bind fun h=>
 if h then
 (Aj s0 [i0]).bind fun i=>
 some i
 else
 some s0) 0 (a.g.d5.length:Int) []).bind fun s0=>
 some s0
def FZ(n:Int)(a:Fp)(c:Fp):Option Fp:=
 (JL n false).bind fun d=>
 (A9 (fun(i0:Int)(s0:a5)=>
 (idx a i0).bind fun b=>
 (slices_Contains_int c i0).bind fun e=>
 if (!e)then
 (idx s0 b).bind fun h=>
 some (BP s0 b true)
 else
 some s0) 0 (a.length:Int) d).bind fun s0=>
 (A9 (fun(i2:Int)(s2:Fp)=>
 (idx s0 i2).bind fun f=>
 if (!f)then
 (Aj s2 [i2]).bind fun g=>
 some g
 else
 some s2) 0 (s0.length:Int) []).bind fun s2=>
 some s2
def JI[Ev](l:d6)(g:d6)(a:Ak)(m:d7):Option (Ak×Int):=
 (EP (Bm.mk l g a m)).bind fun b=>
 if (!decide (b=0))then
 some (Ak.mk [] [],b)
 else
 (DK (Bm.mk l g a m)).bind fun c=>
 if (decide (0<(Al ((c.1.length:Int)+(c.2.length:Int)))))then
 some (Ak.mk [] [],15)
 else
 (Cu (Bm.mk l g a m)).bind fun d=>
 if (decide (0<(d.length:Int)))then
 some (Ak.mk [] [],14)
 else
 (FZ (g.d4.length:Int) m.d4 a.d4).bind fun e=>
 (FZ (g.d5.length:Int) m.d5 a.d5).bind fun f=>
 some (Ak.mk e f,0)
def HM[Ev](t:AC)(p:ec)(c:ea)(d:AG)(m:AJ)(a:Bool):QQ:=
 (Do t p c).bind fun e=>
 if (!decide (e=0))then
 some e
 else
 (Ix t d).bind fun f=>
 if (!decide (f.2=0))then
 some f.2
 else
 (Gf t p.d6 d.d6 m.d7 a).bind fun g=>
 if (!decide (g=0))then
 some g
 else
 (FY t p d m.d7).bind fun b=>
 if (!decide (b.2=0))then
 some b.2
 else
 (slices_Equal_int b.1 m.gn).bind fun h=>
 if (!h)then
 some 11
 else
 some 0
def Dk(l:Fp)(n:Int):Option Fp:=if l.length=1/\0<=n/\n<=4096 then some (List.replicate n.toNat (l.headD 0))else none
def E4(n:Int)(e:Fp)(a:Fp):Option Fp:=
 (Dk [(-1)] n).bind fun c=>
 (A9 (fun(i0:Int)(s0:Fp)=>
 (idx e i0).bind fun b=>
 (idx a i0).bind fun d=>
 (idx s0 b).bind fun f=>
 some (BP s0 b d)) 0 (e.length:Int) c).bind fun s0=>
 some s0
def Le(k:Int)(a:Int):K1:=
 some ((decide (k<(-1)))||(decide (a<=k)))
def Jf[Ev](l:Fp)(n:Int):QQ:=
 (BO l (fun y0=>Le y0 n)).bind fun a=>
 if a then
 some 6
 else
 some 0
def Gg(l:Fp)(a:Int):QQ:=
 (Yu l).bind fun c=>
 (idx l a).bind fun b=>
 some b
def DO(f:AL)(c:Int)(k:Int):K1:=
 (idx f.p.d5 c).bind fun a=>
 (Gg f.jj.d5 c).bind fun b=>
 if ((decide (0<=b))&&(!decide (b=k)))then
 some false
 else
 (idx f.g.d5 k).bind fun d=>
 (idx f.ej a.kq).bind fun e=>
 (idx f.ej a.To).bind fun h=>
 some (decide (d=(BY.mk a.kg e h)))
def B5(f:AL):K1:=
 AM (Ag (ρ:=Bool) (fun(i0:Int)(_:Unit)=>
 (idx f.p.d5 i0).bind fun a=>
 if (!decide ((max a.kq a.To)=(Al ((f.ej.length:Int)-1))))then
 some (.next ())
 else
 AM (Ag (ρ:=Bool) (fun(i2:Int)(s2:Bool)=>
 (DO f i0 i2).bind fun b=>
 if b then
 some (.brk true)
 else
 some (.next s2)) 0 (f.g.d5.length:Int) false) (fun s2=>
 if (!s2)then
 some (.ret false)
 else
 some (.next ())) (fun v2=>some (.ret v2))) 0 (f.p.d5.length:Int) ()) (fun _=>
 some true) (fun v0=>some v0)
def BD[Ev]:Nat->AL->Option AL
 |0,_=>none|n+1,f=>
  (if(decide ((f.out.length:Int)=f.t1))then
  some f
  else
  if (decide ((f.ej.length:Int)<(f.p.d4.length:Int)))then
  (A9 (fun(i1:Int)(s1:AL)=>
  (idx f.g.d4 i1).bind fun u=>
  (Gg s1.jj.d4 (f.ej.length:Int)).bind fun e=>
  (if((decide (0<=e))&&(!decide (e=i1)))then some true else((idx s1.p.d4 (f.ej.length:Int)).bind fun v=>
  (idx s1.is v).bind fun w=>
  (idx w u).bind fun x=>
  some (!x))).bind fun h=>
  (if h then some true else((if s1.gt then((slices_Contains_int s1.ej i1).bind fun i=>
  some (i))else some false).bind fun j=>
  some (j))).bind fun k=>
  if k then
  some s1
  else
  (Aj s1.ej [i1]).bind fun c=>
  (B5 (AL.mk s1.p s1.g s1.is s1.jj s1.gt s1.t1 c s1.fd s1.out)).bind fun l=>
  if l then
  (BD n (AL.mk s1.p s1.g s1.is s1.jj s1.gt s1.t1 c s1.fd s1.out)).bind fun a=>
  (slc a.ej 0 (f.ej.length:Int)).bind fun d=>
  some (AL.mk a.p a.g a.is a.jj a.gt a.t1 d a.fd a.out)
  else
  (slc c 0 (f.ej.length:Int)).bind fun d=>
  some (AL.mk s1.p s1.g s1.is s1.jj s1.gt s1.t1 d s1.fd s1.out)) 0 (f.g.d4.length:Int) f).bind fun s1=>
  some s1
  else
  if (decide ((f.fd.length:Int)<(f.p.d5.length:Int)))then
  (A9 (fun(i3:Int)(s3:AL)=>
  (DO s3 (f.fd.length:Int) i3).bind fun m=>
  (if(!m)then some true else((if s3.gt then((slices_Contains_int s3.fd i3).bind fun o=>
  some (o))else some false).bind fun q=>
  some (q))).bind fun r=>
  if r then
  some s3
  else
  (Aj s3.fd [i3]).bind fun s=>
  (BD n (AL.mk s3.p s3.g s3.is s3.jj s3.gt s3.t1 s3.ej s s3.out)).bind fun b=>
  (slc b.fd 0 (f.fd.length:Int)).bind fun t=>
  some (AL.mk b.p b.g b.is b.jj b.gt b.t1 b.ej t b.out)) 0 (f.g.d5.length:Int) f).bind fun s3=>
  some s3
  else
  (slices_Clone_int f.ej).bind fun y=>
  (slices_Clone_int f.fd).bind fun z=>
  (Aj f.out [d7.mk y z]).bind fun A=>
  some (AL.mk f.p f.g f.is f.jj f.gt f.t1 f.ej f.fd A)).bind fun w1=>
  some w1
def IE[Ev](f:AL):Option AL:=Jr fun n=>BD n f
def KL[Ev](t:AC)(p:d6)(g:d6)(b:d7)(a:Bool)(c:Int):Option (List d7):=
 (IU t).bind fun d=>
 (IE (AL.mk p g d b a c [] [] [])).bind fun e=>
 some e.out
def O4[Ev](t:AC)(p:d6)(g:d6)(b:d7)(a:Bool):Option (List d7×Int):=
 (KL t p g b a 5001).bind fun c=>
 if (decide (5000<(c.length:Int)))then
 some ([],3)
 else
 some (c,0)
def JQ[Ev](t:AC)(p:d6)(g:d6)(a:d7)(b:Bool):Option (List d7×Int):=
 (Gi t p g).bind fun c=>
 if (!decide (c=0))then
 some ([],c)
 else
 if ((!decide ((a.d4.length:Int)=(p.d4.length:Int)))||(!decide ((a.d5.length:Int)=(p.d5.length:Int))))then
 some ([],20)
 else
 (Jf a.d4 (g.d4.length:Int)).bind fun d=>
 if (!decide (d=0))then
 some ([],d)
 else
 (Jf a.d5 (g.d5.length:Int)).bind fun e=>
 if (!decide (e=0))then
 some ([],e)
 else
 (O4 t p g a b).bind fun f=>
 some (f.1,f.2)
def ED(a:j4)(d:Fp):Option (Int×Int):=
 (CT a.Var (-1) (Al ((d.length:Int)-1))).bind fun b=>
 if (!b)then
 some (0,6)
 else
 (Dm a d).bind fun c=>
 some (c,0)
def DP(p:A3)(q:ec)(m:d7)(b:Fp):Option (Fp×Bool):=
 (slices_Clone_int b).bind fun g=>
 (UT g (Al (q.gn-(b.length:Int))) 0).bind fun i=>
 (JL q.gn false).bind fun j=>
 (A9 (fun(i0:Int)(s0:a5)=>
 (idx s0 i0).bind fun r=>
 some (BP s0 i0 true)) 0 (b.length:Int) j).bind fun s0=>
 AM (Ag (ρ:=(Fp×Bool)) (fun(i2:Int)(s2:Fp×a5)=>
 (idx q.ff i2).bind fun a=>
 (idx m.d4 a.sx).bind fun k=>
 (idx p.h.hT k).bind fun l=>
 (idx l a.mo).bind fun d=>
 (if(decide (0<=a.j4.Var))then((idx s2.2 a.j4.Var).bind fun n=>
 some (!n))else some false).bind fun o=>
 if o then
 (idx s2.1 a.j4.Var).bind fun s=>
 (idx s2.2 a.j4.Var).bind fun t=>
 (ED a.j4 (BP s2.1 a.j4.Var (Al (d-a.j4.Add)))).bind fun c=>
 if ((!decide (c.2=0))||(!decide (c.1=d)))then
 some (.ret ([],false))
 else
 some (.next (BP s2.1 a.j4.Var (Al (d-a.j4.Add)),BP s2.2 a.j4.Var true))
 else
 (ED a.j4 s2.1).bind fun c=>
 if ((!decide (c.2=0))||(!decide (c.1=d)))then
 some (.ret ([],false))
 else
 some (.next (s2.1,s2.2))) 0 (q.ff.length:Int) (i,s0)) (fun s2=>
 AM (Ag (ρ:=(Fp×Bool)) (fun(i4:Int)(_:Unit)=>
 (idx q.l4 i4).bind fun e=>
 (E5 e s2.1).bind fun f=>
 if (!f)then
 some (.ret ([],false))
 else
 some (.next ())) 0 (q.l4.length:Int) ()) (fun _=>
 some (s2.1,true)) (fun v4=>some v4)) (fun v2=>some v2)
def Cv[Ev](b:A3)(c:ea)(m:AJ):Option (List AJ×Int):=
 (E4 (c.ec.d6.d4.length:Int) c.Map.d4 m.d7.d4).bind fun f=>
 (E4 (c.ec.d6.d5.length:Int) c.Map.d5 m.d7.d5).bind fun g=>
 (JQ b.t c.ec.d6 b.h.d6 (d7.mk f g) b.gt).bind fun a=>
 if (!decide (a.2=0))then
 some ([],a.2)
 else
 (A9 (fun(i0:Int)(s0:List AJ)=>
 (idx a.1 i0).bind fun d=>
 (DP b c.ec d m.gn).bind fun e=>
 if e.2 then
 (Aj s0 [AJ.mk d e.1]).bind fun i=>
 some i
 else
 some s0) 0 (a.1.length:Int) []).bind fun s0=>
 some (s0,0)
mutual
def BH[Ev]:Nat->A3->ea->AJ->Option (A0×Int)
 |0,_,_,_=>none|n+1,b,c,m=>
  if (decide (c.l3=2))then
  (idx c.gp 0).bind fun g=>
  (BH n b g m).bind fun e=>
  if (decide (e.2=0))then
  some (Cx,10)
  else
  if (decide (e.2=10))then
  some (Cx,0)
  else
  some (Cx,e.2)
  else
  if (decide (c.l3=3))then
  AM (Ag (ρ:=(A0×Int)) (fun(i2:Int)(s2:A0×A0)=>
  (idx c.gp i2).bind fun h=>
  (BH n b h m).bind fun f=>
  if (!decide (f.2=0))then
  some (.ret (Cx,f.2))
  else
  (Aj s2.2.gp [f.1]).bind fun i=>
  some (.next (s2.1,A0.mk s2.2.Aar s2.2.kp i))) 0 (c.gp.length:Int) (Cx,Cx)) (fun s2=>
  some (s2.2,0)) (fun v2=>some v2)
  else
  if (decide (c.l3=4))then
  AM (Ag (ρ:=(A0×Int)) (fun(i4:Int)(s4:A0)=>
  (idx c.gp i4).bind fun j=>
  (BH n b j m).bind fun a=>
  if (decide (a.2=0))then
  some (.ret (A0.mk i4 (AJ.mk (d7.mk [] []) []) [a.1],0))
  else
  if (!decide (a.2=10))then
  some (.ret (Cx,a.2))
  else
  some (.next s4)) 0 (c.gp.length:Int) Cx) (fun s4=>
  some (Cx,10)) (fun v4=>some v4)
  else
  if (decide (c.l3=5))then
  (Bt n b c m).bind fun d=>
  some (d.1,d.2)
  else
  some (Cx,0)
def Bt[Ev]:Nat->A3->ea->AJ->Option (A0×Int)
 |0,_,_,_=>none|n+1,e,c,m=>
  (Cv e c m).bind fun a=>
  if (!decide (a.2=0))then
  some (Cx,a.2)
  else
  AM (Ag (ρ:=(A0×Int)) (fun(i0:Int)(s0:A0)=>
  (idx a.1 i0).bind fun d=>
  (idx c.gp 0).bind fun f=>
  (BH n e f d).bind fun b=>
  if (decide (b.2=0))then
  some (.ret (A0.mk 0 d [b.1],0))
  else
  if (!decide (b.2=10))then
  some (.ret (Cx,b.2))
  else
  some (.next s0)) 0 (a.1.length:Int) Cx) (fun s0=>
  some (Cx,10)) (fun v0=>some v0)
end
def F9[Ev](a:A3)(c:ea)(m:AJ):Option (A0×Int):=Jr fun n=>BH n a c m
def OX[Ev](a:A3)(c:ea)(m:AJ):Option (A0×Int):=Jr fun n=>Bt n a c m
def Fy[Ev](t:AC)(p:ec)(c:ea)(e:AG)(m:AJ)(a:Bool):Option (A0×Int):=
 (HM t p c e m a).bind fun b=>
 if (!decide (b=0))then
 some (Cx,b)
 else
 (F9 (A3.mk t e a) c m).bind fun d=>
 some (d.1,d.2)
def E2[Ev](t:AC)(p:ec)(c:ea)(d:AG)(m:AJ)(a:Bool):Option (Bool×Int):=
 (Fy t p c d m a).bind fun b=>
 if (decide (b.2=10))then
 some (false,0)
 else
 some (decide (b.2=0),b.2)
def IZ(m:AJ):Option AJ:=
 (slices_Clone_int m.d7.d4).bind fun c=>
 (slices_Clone_int m.d7.d5).bind fun a=>
 (slices_Clone_int m.gn).bind fun b=>
 some (AJ.mk (d7.mk c a) b)
def JR(a:AG):Option AG:=
 (slices_Clone_int a.d6.d4).bind fun f=>
 (Cq a.d6.d5).bind fun b=>
 (A9 (fun(i0:Int)(s0:AG)=>
 (idx a.hT i0).bind fun c=>
 (Aj [] c).bind fun d=>
 (Aj s0.hT [d]).bind fun e=>
 some (AG.mk s0.d6 e)) 0 (a.hT.length:Int) (AG.mk (d6.mk f b) [])).bind fun s0=>
 some s0
def Kq(n:Int)(l:Fp):Option Fp:=
 (JL n 0).bind fun a=>
 (A9 (fun(i0:Int)(s0:Fp)=>
 (slices_BinarySearch_int l i0).bind fun b=>
 if (!b.2)then
 (idx s0 i0).bind fun c=>
 some (BP s0 i0 (-1))
 else
 (idx s0 i0).bind fun c=>
 some (BP s0 i0 b.1)) 0 (a.length:Int) a).bind fun s0=>
 some s0
def FV(c:Int)(f:Fp)(b:Fp)(a:Fp)(d:Fp)(n:Int):Option Fp:=
 (Dk [(-1)] c).bind fun g=>
 (A9 (fun(i0:Int)(s0:Fp)=>
 (idx b i0).bind fun e=>
 (idx f i0).bind fun h=>
 (idx a h).bind fun i=>
 (idx d i).bind fun j=>
 (idx s0 e).bind fun l=>
 some (BP s0 e j)) 0 (b.length:Int) g).bind fun s0=>
 (A9 (fun(i2:Int)(s2:Int×Fp)=>
 (idx s2.2 i2).bind fun k=>
 if (decide (k<0))then
 (idx s2.2 i2).bind fun m=>
 some (Al (s2.1+1),BP s2.2 i2 s2.1)
 else
 some (s2.1,s2.2)) 0 (s0.length:Int) (n,s0)).bind fun s2=>
 some s2.2
def M1[Ev](t:AC)(b:Int):Option Fp:=
 (FK t b).bind fun a=>
 (A9 (fun(i0:Int)(s0:Fp)=>
 (idx a.1 i0).bind fun c=>
 (Aj s0 [c.Low]).bind fun d=>
 some d) 0 (a.1.length:Int) []).bind fun s0=>
 some s0
def Ko[Ev](t:AC)(a:Ai)(d:Ak):Option Ai:=
 (A9 (fun(i0:Int)(s0:Ai)=>
 (idx d.d4 i0).bind fun f=>
 (idx a.o3.d6.d4 f).bind fun r=>
 (Aj s0.q0.d6.d4 [r]).bind fun s=>
 (idx a.o3.hT f).bind fun u=>
 (Aj [] u).bind fun v=>
 (Aj s0.q0.hT [v]).bind fun w=>
 some (Ai.mk s0.em s0.kp s0.o3 (AG.mk (d6.mk s s0.q0.d6.d5) w) s0.tc s0.pq)) 0 (d.d4.length:Int) a).bind fun s0=>
 (A9 (fun(i2:Int)(s2:Ai)=>
 (idx d.d5 i2).bind fun x=>
 (idx a.o3.d6.d5 x).bind fun e=>
 (idx s2.tc.d4 e.kq).bind fun g=>
 (idx s2.tc.d4 e.To).bind fun h=>
 (Aj s2.q0.d6.d5 [BY.mk e.kg g h]).bind fun i=>
 some (Ai.mk s2.em s2.kp s2.o3 (AG.mk (d6.mk s2.q0.d6.d4 i) s2.q0.hT) s2.tc s2.pq)) 0 (d.d5.length:Int) s0).bind fun s2=>
 (A9 (fun(i4:Int)(s4:Ai)=>
 (idx a.em.ek.d6.d4 i4).bind fun c=>
 (idx s4.pq.d4 i4).bind fun j=>
 if (decide (j=(s4.q0.d6.d4.length:Int)))then
 (Aj s4.q0.d6.d4 [c]).bind fun k=>
 (M1 t c).bind fun l=>
 (Aj s4.q0.hT [l]).bind fun m=>
 some (Ai.mk s4.em s4.kp s4.o3 (AG.mk (d6.mk k s4.q0.d6.d5) m) s4.tc s4.pq)
 else
 some s4) 0 (a.em.ek.d6.d4.length:Int) s2).bind fun s4=>
 (A9 (fun(i6:Int)(s6:Ai)=>
 (idx a.em.ek.d6.d5 i6).bind fun b=>
 (idx s6.pq.d5 i6).bind fun n=>
 if (decide (n=(s6.q0.d6.d5.length:Int)))then
 (idx s6.pq.d4 b.kq).bind fun o=>
 (idx s6.pq.d4 b.To).bind fun p=>
 (Aj s6.q0.d6.d5 [BY.mk b.kg o p]).bind fun q=>
 some (Ai.mk s6.em s6.kp s6.o3 (AG.mk (d6.mk s6.q0.d6.d4 q) s6.q0.hT) s6.tc s6.pq)
 else
 some s6) 0 (a.em.ek.d6.d5.length:Int) s4).bind fun s6=>
 some s6
def aY(s:Ai):TV:=.agg ((DC s).map (·.t))
def G7(s:Ai):Option (BJ×Int):=
 AM (Ag (ρ:=(BJ×Int)) (fun(i0:Int)(s0:BJ)=>
 (idx s.em.ek.ff i0).bind fun a=>
 (ED a.j4 s.kp.gn).bind fun b=>
 if (!decide (b.2=0))then
 some (.ret ([],b.2))
 else
 (idx s.pq.d4 a.sx).bind fun c=>
 if ((s0.look (c,a.mo)).isSome&&(!decide ((s0.look (c,a.mo)).getD 0=b.1)))then
 some (.ret ([],11))
 else
 some (.next (s0.set (c,a.mo) b.1))) 0 (s.em.ek.ff.length:Int) []) (fun s0=>some (s0,0)) (fun v0=>some v0)
def Mz(s:Ai)(V:List Fp):Ai:=Ai.mk s.em s.kp s.o3 (AG.mk s.q0.d6 V) s.tc s.pq
def P4[Ev](t:AC)(s:Ai)(V:List Fp)(p:(Int×Int)×Int):Option (B0 (List Fp) Unit):=
 (idx s.q0.d6.d4 p.1.1).bind fun c=>
 (FK t c).bind fun a=>
 (idx a.1 p.1.2).bind fun d=>
 (if(decide (p.2<d.Low))then some true else((idx a.1 p.1.2).bind fun e=>
 some (decide (e.Aao<p.2)))).bind fun f=>
 if f then
 some (.ret ())
 else
 (idx V p.1.1).bind fun b=>
 (idx b p.1.2).bind fun g=>
 some (.next (BP V p.1.1 (BP b p.1.2 p.2)))
def P5[Ev](t:AC)(s:Ai)(p:(Int×Int)×Int):K1:=
 (P4 t s s.q0.hT p).bind fun c=>match c with|.next _=>some true|.ret _=>some false|.brk _=>none
def OU[Ev](t:AC)(s:Ai):Option (Int×Ai):=
 (G7 s).bind fun a=>
 if (!decide (a.2=0))then
 some (a.2,s)
 else
 if decide (List.Pairwise (fun x y:(Int×Int)×Int=>x.1≠y.1) a.1)then
 (RU (P5 t s) a.1).bind fun c=>
 if c then
 some (0,Mz s (a.1.foldl CN s.q0.hT))
 else
 some (6,s)
 else
 none
def O8[Ev](t:AC)(a:em)(d:AG)(m:AJ):Option (Ai×Int):=
 (M2 t a d m).bind fun g=>
 if (!decide (g=0))then
 some (CX,g)
 else
 (Hl t a.f0.d6 d.d6 m.d7).bind fun e=>
 if (!decide (e.2=0))then
 some (CX,e.2)
 else
 (JI e.1 d.d6 a.sr m.d7).bind fun c=>
 if (!decide (c.2=0))then
 some (CX,c.2)
 else
 (E2 t a.f0 a.ea d m a.le).bind fun f=>
 if (!decide (f.2=0))then
 some (CX,f.2)
 else
 if (!f.1)then
 some (CX,16)
 else
 (IZ m).bind fun n=>
 (JR d).bind fun o=>
 (Kq (d.d6.d4.length:Int) c.1.d4).bind fun h=>
 (Kq (d.d6.d5.length:Int) c.1.d5).bind fun i=>
 (FV (a.ek.d6.d4.length:Int) a.sr.d4 a.kl.d4 m.d7.d4 h (c.1.d4.length:Int)).bind fun j=>
 (FV (a.ek.d6.d5.length:Int) a.sr.d5 a.kl.d5 m.d7.d5 i (c.1.d5.length:Int)).bind fun k=>
 (Ko t (Ai.mk a n o (AG.mk (d6.mk [] []) []) (d7.mk h i) (d7.mk j k)) c.1).bind fun l=>
 (OU t l).bind fun b=>
 if (!decide (b.1=0))then
 some (CX,b.1)
 else
 if ((decide (40<(b.2.q0.d6.d4.length:Int)))||(decide (80<(b.2.q0.d6.d5.length:Int))))then
 some (CX,3)
 else
 some (b.2,0)
def I7[Ev](t:AC)(d:em)(c:AG)(m:AJ):Option (Ai×Int):=
 (O9 t d c).bind fun a=>
 if (!decide (a=0))then
 some (CX,a)
 else
 (O8 t d c m).bind fun b=>
 some (b.1,b.2)
def D6(a:d7)(b:d7):K1:=
 (slices_Equal_int a.d4 b.d4).bind fun e=>
 (if e then((slices_Equal_int a.d5 b.d5).bind fun c=>
 some (c))else some false).bind fun d=>
 some d
def Eo(a:List BY)(b:List BY):K1:=
 if (!decide ((a.length:Int)=(b.length:Int)))then
 some false
 else
 AM (Ag (ρ:=Bool) (fun(i0:Int)(_:Unit)=>
 (idx a i0).bind fun c=>
 (idx b i0).bind fun d=>
 if (!decide (c=d))then
 some (.ret false)
 else
 some (.next ())) 0 (a.length:Int) ()) (fun _=>
 some true) (fun v0=>some v0)
def Oo(a:d6)(b:d6):K1:=
 (slices_Equal_int a.d4 b.d4).bind fun e=>
 (if e then((Eo a.d5 b.d5).bind fun c=>
 some (c))else some false).bind fun d=>
 some d
def F6(a:List CI)(b:List CI):K1:=
 if (!decide ((a.length:Int)=(b.length:Int)))then
 some false
 else
 AM (Ag (ρ:=Bool) (fun(i0:Int)(_:Unit)=>
 (idx a i0).bind fun c=>
 (idx b i0).bind fun d=>
 if (!decide (c=d))then
 some (.ret false)
 else
 some (.next ())) 0 (a.length:Int) ()) (fun _=>
 some true) (fun v0=>some v0)
def F7(a:List Test)(b:List Test):K1:=
 if (!decide ((a.length:Int)=(b.length:Int)))then
 some false
 else
 AM (Ag (ρ:=Bool) (fun(i0:Int)(_:Unit)=>
 (idx a i0).bind fun c=>
 (idx b i0).bind fun d=>
 if (!decide (c=d))then
 some (.ret false)
 else
 some (.next ())) 0 (a.length:Int) ()) (fun _=>
 some true) (fun v0=>some v0)
def FA(a:ec)(b:ec):K1:=
 (Oo a.d6 b.d6).bind fun g=>
 (if(g&&(decide (a.gn=b.gn)))then((F6 a.ff b.ff).bind fun c=>
 some (c))else some false).bind fun d=>
 (if d then((F7 a.l4 b.l4).bind fun e=>
 some (e))else some false).bind fun f=>
 some f
def DA[Ev](a:List ea)(b:List ea)(f:ea->ea->K1):K1:=
 if (!decide ((a.length:Int)=(b.length:Int)))then
 some false
 else
 AM (Ag (ρ:=Bool) (fun(i0:Int)(_:Unit)=>
 (idx a i0).bind fun c=>
 (idx b i0).bind fun d=>
 (f c d).bind fun e=>
 if (!e)then
 some (.ret false)
 else
 some (.next ())) 0 (a.length:Int) ()) (fun _=>
 some true) (fun v0=>some v0)
def DL[Ev]:Nat->ea->ea->K1
 |0,_,_=>none|n+1,a,b=>
  (if(!decide (a.l3=b.l3))then some true else((D6 a.Map b.Map).bind fun c=>
  some (!c))).bind fun d=>
  (if(d||(!decide (a.ec.gn=b.ec.gn)))then some true else((slices_Equal_int a.ec.d6.d4 b.ec.d6.d4).bind fun e=>
  some (!e))).bind fun f=>
  (if f then some true else((Eo a.ec.d6.d5 b.ec.d6.d5).bind fun g=>
  some (!g))).bind fun h=>
  if h then
  some false
  else
  (F6 a.ec.ff b.ec.ff).bind fun i=>
  (if i then((F7 a.ec.l4 b.ec.l4).bind fun j=>
  some (j))else some false).bind fun k=>
  (if k then((DA a.gp b.gp (DL n)).bind fun l=>
  some (l))else some false).bind fun m=>
  some m
def NG[Ev](a:ea)(b:ea):K1:=Jr fun n=>DL n a b
def OP[Ev](a:em)(b:em):K1:=
 (if((a.og==b.og)&&(a.le==b.le))then((FA a.f0 b.f0).bind fun c=>
 some (c))else some false).bind fun d=>
 (if d then((FA a.ek b.ek).bind fun e=>
 some (e))else some false).bind fun f=>
 (if f then((slices_Equal_int a.sr.d4 b.sr.d4).bind fun g=>
 some (g))else some false).bind fun h=>
 (if h then((slices_Equal_int a.sr.d5 b.sr.d5).bind fun i=>
 some (i))else some false).bind fun j=>
 (if j then((D6 a.kl b.kl).bind fun k=>
 some (k))else some false).bind fun l=>
 (if l then((NG a.ea b.ea).bind fun m=>
 some (m))else some false).bind fun n=>
 some n
def Ia(a:AJ)(b:AJ):K1:=
 (D6 a.d7 b.d7).bind fun e=>
 (if e then((slices_Equal_int a.gn b.gn).bind fun c=>
 some (c))else some false).bind fun d=>
 some d
def Ek[Ev](a:List Fp)(b:List Fp)(f:Fp->Fp->K1):K1:=
 if (!decide ((a.length:Int)=(b.length:Int)))then
 some false
 else
 AM (Ag (ρ:=Bool) (fun(i0:Int)(_:Unit)=>
 (idx a i0).bind fun c=>
 (idx b i0).bind fun d=>
 (f c d).bind fun e=>
 if (!e)then
 some (.ret false)
 else
 some (.next ())) 0 (a.length:Int) ()) (fun _=>
 some true) (fun v0=>some v0)
def Ly[Ev](a:AG)(b:AG):K1:=
 (slices_Equal_int a.d6.d4 b.d6.d4).bind fun c=>
 (if c then((Eo a.d6.d5 b.d6.d5).bind fun d=>
 some (d))else some false).bind fun e=>
 (if e then((Ek a.hT b.hT slices_Equal_int).bind fun f=>
 some (f))else some false).bind fun g=>
 some g
def OT[Ev](a:Ai)(b:Ai):K1:=
 (OP a.em b.em).bind fun m=>
 (if m then((Ia a.kp b.kp).bind fun c=>
 some (c))else some false).bind fun d=>
 (if d then((Ly a.o3 b.o3).bind fun e=>
 some (e))else some false).bind fun f=>
 (if f then((Ly a.q0 b.q0).bind fun g=>
 some (g))else some false).bind fun h=>
 (if h then((D6 a.tc b.tc).bind fun i=>
 some (i))else some false).bind fun j=>
 (if j then((D6 a.pq b.pq).bind fun k=>
 some (k))else some false).bind fun l=>
 some l
def M0[Ev](t:AC)(a:Ai):K1:=
 (I7 t a.em a.o3 a.kp).bind fun b=>
 (if(decide (b.2=0))then((OT b.1 a).bind fun c=>
 some (c))else some false).bind fun d=>
 some d
def I9(c:Int)(d:Ao)(e:d6):K1:=
 (idx e.d4 c).bind fun a=>
 (idx d.d4 a).bind fun b=>
 some (decide (b=1))
def JA(c:Int)(d:Ao)(e:d6):K1:=
 (idx e.d5 c).bind fun a=>
 (idx d.d5 a.kg).bind fun b=>
 some (decide (b=1))
def FW[Ev](g:d6)(a:Ao):Option Bz:=
 (F8 g (fun y0=>I9 y0 a g) (fun y0=>JA y0 a g)).bind fun b=>
 some b
def DF(l:Fp)(d:Fp):Option Fp:=
 (A9 (fun(i0:Int)(s0:Fp)=>
 (idx d i0).bind fun a=>
 (idx l a).bind fun b=>
 (Aj s0 [b]).bind fun c=>
 some c) 0 (d.length:Int) []).bind fun s0=>
 some s0
def Gm[Ev](t:AC)(e:Ao)(c:Ai):Option (Ai×Ai×Int):=
 (Ep t e c.em).bind fun h=>
 if (!decide (h.2=0))then
 some (CX,CX,h.2)
 else
 (M0 t c).bind fun v=>
 if (!v)then
 some (CX,CX,1)
 else
 (FW c.em.f0.d6 e).bind fun i=>
 (FW c.em.ek.d6 e).bind fun j=>
 (DF c.kp.d7.d4 i.ej).bind fun w=>
 (DF c.kp.d7.d5 i.fd).bind fun x=>
 (I7 t h.1 c.o3 (AJ.mk (d7.mk w x) [])).bind fun a=>
 if (!decide (a.2=0))then
 some (CX,CX,a.2)
 else
 (EN t e c.em).bind fun b=>
 if (!decide (b.2.2=0))then
 some (CX,CX,b.2.2)
 else
 (DF a.1.tc.d4 c.kp.d7.d4).bind fun k=>
 (DF a.1.tc.d5 c.kp.d7.d5).bind fun l=>
 (slc b.1.kl.d4 (c.em.f0.d6.d4.length:Int) b.1.kl.d4.length).bind fun f=>
 (A9 (fun(i0:Int)(s0:AJ)=>
 (idx f i0).bind fun m=>
 (slices_Index_int j.ej m).bind fun n=>
 (idx a.1.pq.d4 n).bind fun o=>
 (Aj s0.d7.d4 [o]).bind fun p=>
 some (AJ.mk (d7.mk p s0.d7.d5) s0.gn)) 0 (f.length:Int) (AJ.mk (d7.mk k l) [])).bind fun s0=>
 (slc b.1.kl.d5 (c.em.f0.d6.d5.length:Int) b.1.kl.d5.length).bind fun g=>
 (A9 (fun(i2:Int)(s2:AJ)=>
 (idx g i2).bind fun q=>
 (slices_Index_int j.fd q).bind fun r=>
 (idx a.1.pq.d5 r).bind fun s=>
 (Aj s2.d7.d5 [s]).bind fun u=>
 some (AJ.mk (d7.mk s2.d7.d4 u) s2.gn)) 0 (g.length:Int) s0).bind fun s2=>
 (I7 t b.1 a.1.q0 s2).bind fun d=>
 if (!decide (d.2=0))then
 some (CX,CX,d.2)
 else
 some (a.1,d.1,0)
def Dd(a:Fp)(b:Fp):K1:=
 if (!decide ((a.length:Int)=(b.length:Int)))then
 some false
 else
 AM (Ag (ρ:=Bool) (fun(i0:Int)(_:Unit)=>
 (idx a i0).bind fun c=>
 (idx b i0).bind fun d=>
 if (!decide (c=d))then
 some (.ret false)
 else
 some (.next ())) 0 (a.length:Int) ()) (fun _=>
 some true) (fun v0=>some v0)
def KZ(a:d6)(b:d6):K1:=
 (Dd a.d4 b.d4).bind fun c=>
 if ((!c)||(!decide ((a.d5.length:Int)=(b.d5.length:Int))))then
 some false
 else
 AM (Ag (ρ:=Bool) (fun(i0:Int)(_:Unit)=>
 (idx a.d5 i0).bind fun d=>
 (idx b.d5 i0).bind fun e=>
 if (!decide (d=e))then
 some (.ret false)
 else
 some (.next ())) 0 (a.d5.length:Int) ()) (fun _=>
 some true) (fun v0=>some v0)
def JN[Ev](a:Fp)(b:Fp):QQ:=
 AM (ER (ρ:=Int) (fun(s0:Int)=>
 if ((decide (s0<(a.length:Int)))&&(decide (s0<(b.length:Int))))then
 (idx a s0).bind fun c=>
 (idx b s0).bind fun d=>
 if (!decide (c=d))then
 (idx a s0).bind fun e=>
 (idx b s0).bind fun f=>
 some (.ret (Al (e-f)))
 else
 some (.next (Al (s0+1)))
 else
 some (.brk s0)) 0) (fun s0=>
 some (Al ((a.length:Int)-(b.length:Int)))) (fun v0=>some v0)
def Kd[Ev](a:AG)(b:AG):K1:=
 (KZ a.d6 b.d6).bind fun c=>
 if ((!c)||(!decide ((a.hT.length:Int)=(b.hT.length:Int))))then
 some false
 else
 AM (Ag (ρ:=Bool) (fun(i0:Int)(_:Unit)=>
 (idx a.hT i0).bind fun d=>
 (idx b.hT i0).bind fun e=>
 (JN d e).bind fun f=>
 if (!decide (f=0))then
 some (.ret false)
 else
 some (.next ())) 0 (a.hT.length:Int) ()) (fun _=>
 some true) (fun v0=>some v0)
def GR(a:Fp)(b:Fp):K1:=
 if (!decide ((a.length:Int)=(b.length:Int)))then
 some false
 else
 AM (Ag (ρ:=Bool) (fun(i0:Int)(_:Unit)=>
 (idx a i0).bind fun c=>
 (idx b i0).bind fun d=>
 if (!decide (c=d))then
 some (.ret false)
 else
 some (.next ())) 0 (a.length:Int) ()) (fun _=>
 some true) (fun v0=>some v0)
def He(a:d7)(b:d7):K1:=
 (GR a.d4 b.d4).bind fun e=>
 (if e then((GR a.d5 b.d5).bind fun c=>
 some (c))else some false).bind fun d=>
 some d
def I2(a:ec)(b:ec):K1:=
 (KZ a.d6 b.d6).bind fun c=>
 if ((((!c)||(!decide (a.gn=b.gn)))||(!decide ((a.ff.length:Int)=(b.ff.length:Int))))||(!decide ((a.l4.length:Int)=(b.l4.length:Int))))then
 some false
 else
 AM (Ag (ρ:=Bool) (fun(i0:Int)(_:Unit)=>
 (idx a.ff i0).bind fun d=>
 (idx b.ff i0).bind fun e=>
 if (!decide (d=e))then
 some (.ret false)
 else
 some (.next ())) 0 (a.ff.length:Int) ()) (fun _=>
 AM (Ag (ρ:=Bool) (fun(i2:Int)(_:Unit)=>
 (idx a.l4 i2).bind fun f=>
 (idx b.l4 i2).bind fun g=>
 if (!decide (f=g))then
 some (.ret false)
 else
 some (.next ())) 0 (a.l4.length:Int) ()) (fun _=>
 some true) (fun v2=>some v2)) (fun v0=>some v0)
def Oy(p:Ak)(q:Ak):K1:=
 (Dd p.d4 q.d4).bind fun c=>
 (if c then((Dd p.d5 q.d5).bind fun a=>
 some (a))else some false).bind fun b=>
 some b
def GN[Ev]:Nat->ea->ea->K1
 |0,_,_=>none|n+1,a,b=>
  (if((!decide (a.l3=b.l3))||(!decide ((a.gp.length:Int)=(b.gp.length:Int))))then some true else((He a.Map b.Map).bind fun c=>
  some (!c))).bind fun d=>
  (if d then some true else((I2 a.ec b.ec).bind fun e=>
  some (!e))).bind fun f=>
  if f then
  some false
  else
  AM (Ag (ρ:=Bool) (fun(i0:Int)(_:Unit)=>
  (idx a.gp i0).bind fun g=>
  (idx b.gp i0).bind fun h=>
  (GN n g h).bind fun i=>
  if (!i)then
  some (.ret false)
  else
  some (.next ())) 0 (a.gp.length:Int) ()) (fun _=>
  some true) (fun v0=>some v0)
def Rh[Ev](a:ea)(b:ea):K1:=Jr fun n=>GN n a b
def Mm[Ev](a:em)(b:em):K1:=
 (if((a.og==b.og)&&(a.le==b.le))then((I2 a.f0 b.f0).bind fun c=>
 some (c))else some false).bind fun d=>
 (if d then((I2 a.ek b.ek).bind fun e=>
 some (e))else some false).bind fun f=>
 (if f then((Oy a.sr b.sr).bind fun g=>
 some (g))else some false).bind fun h=>
 (if h then((He a.kl b.kl).bind fun i=>
 some (i))else some false).bind fun j=>
 (if j then((Rh a.ea b.ea).bind fun k=>
 some (k))else some false).bind fun l=>
 some l
def Hg(a:AJ)(b:AJ):K1:=
 (Dd a.d7.d4 b.d7.d4).bind fun c=>
 (if c then((Dd a.d7.d5 b.d7.d5).bind fun d=>
 some (d))else some false).bind fun e=>
 (if e then((Dd a.gn b.gn).bind fun f=>
 some (f))else some false).bind fun g=>
 some g
def I3[Ev](a:Ai)(b:Ai):K1:=
 (Kd a.o3 b.o3).bind fun c=>
 (if c then((Kd a.q0 b.q0).bind fun d=>
 some (d))else some false).bind fun e=>
 (if e then((Mm a.em b.em).bind fun f=>
 some (f))else some false).bind fun g=>
 (if g then((Hg a.kp b.kp).bind fun h=>
 some (h))else some false).bind fun i=>
 (if i then((He a.tc b.tc).bind fun j=>
 some (j))else some false).bind fun k=>
 (if k then((He a.pq b.pq).bind fun l=>
 some (l))else some false).bind fun m=>
 some m
def Et[Ev]:Nat->AC->Int->Int->K1
 |0,_,_,_=>none|n+1,t,a,b=>
  (if(decide (a=b))then some true else((if(decide (0<=a))then((idx t.d4 a).bind fun c=>
  (Et n t c.r0 b).bind fun d=>
  some (d))else some false).bind fun e=>
  some (e))).bind fun f=>
  some f
def Ga[Ev](t:AC)(a:Int)(b:Int):K1:=Jr fun n=>Et n t a b
def I0[Ev](t:AC)(a:Int)(b:Int)(c:Int):K1:=
 (Ja t b c).bind fun d=>
 (if(!decide (d=0))then some true else((DI a 0 (Al ((t.d5.length:Int)-1))).bind fun e=>
 some (!e))).bind fun f=>
 if f then
 some false
 else
 (idx t.d5 a).bind fun g=>
 (Ga t b g.kq).bind fun h=>
 (if h then((idx t.d5 a).bind fun i=>
 (Ga t c i.To).bind fun j=>
 some (j))else some false).bind fun k=>
 some k
def Mi[Ev](t:AC)(a:Int)(i:Fp):QQ:=
 if (decide ((t.d4.length:Int)<=a))then
 some 6
 else
 (idx t.d4 a).bind fun c=>
 if c.Aae then
 some 13
 else
 (FJ t a).bind fun b=>
 if (!decide ((i.length:Int)=(b.1.length:Int)))then
 some 20
 else
 AM (Ag (ρ:=Int) (fun(i0:Int)(_:Unit)=>
 (idx i i0).bind fun d=>
 (idx b.1 i0).bind fun e=>
 (if(decide (d<e.Low))then some true else((idx i i0).bind fun f=>
 (idx b.1 i0).bind fun g=>
 some (decide (g.Aao<f)))).bind fun h=>
 if h then
 some (.ret 6)
 else
 some (.next ())) 0 (b.1.length:Int) ()) (fun _=>
 some 0) (fun v0=>some v0)
def Hy[Ev](t:AC)(a:AG):Option (Int×Int):=
 (EW t).bind fun c=>
 if (!decide (c.2=0))then
 some ((-1),c.2)
 else
 (DZ a.d6).bind fun d=>
 if (!decide (d=0))then
 some ((-1),d)
 else
 if (!decide ((a.hT.length:Int)=(a.d6.d4.length:Int)))then
 some ((-1),20)
 else
 AM (Ag (ρ:=(Int×Int)) (fun(i0:Int)(_:Unit)=>
 (idx a.d6.d4 i0).bind fun f=>
 (idx a.hT i0).bind fun g=>
 (Mi t f g).bind fun e=>
 if (!decide (e=0))then
 some (.ret (i0,e))
 else
 some (.next ())) 0 (a.d6.d4.length:Int) ()) (fun _=>
 AM (Ag (ρ:=(Int×Int)) (fun(i2:Int)(_:Unit)=>
 (idx a.d6.d5 i2).bind fun b=>
 if (decide ((t.d5.length:Int)<=b.kg))then
 some (.ret (i2,6))
 else
 (idx a.d6.d4 b.kq).bind fun h=>
 (idx a.d6.d4 b.To).bind fun i=>
 (I0 t b.kg h i).bind fun j=>
 if (!j)then
 some (.ret (i2,13))
 else
 some (.next ())) 0 (a.d6.d5.length:Int) ()) (fun _=>
 some ((-1),0)) (fun v2=>some v2)) (fun v0=>some v0)
def Mn[Ev](t:AC)(p:ec)(c:Int):QQ:=
 (idx p.ff c).bind fun a=>
 if ((decide (a.sx<0))||(decide ((p.d6.d4.length:Int)<=a.sx)))then
 some 6
 else
 (idx p.d6.d4 a.sx).bind fun d=>
 (FJ t d).bind fun e=>
 if ((((((decide (a.mo<0))||(decide ((e.1.length:Int)<=a.mo)))||(decide (a.j4.Var<(-1))))||(decide (p.gn<=a.j4.Var)))||(decide (a.j4.Add<(-1000000))))||(decide (1000000<a.j4.Add)))then
 some 6
 else
 AM (Ag (ρ:=Int) (fun(i0:Int)(_:Unit)=>
 (idx p.ff i0).bind fun f=>
 (if(decide (f.sx=a.sx))then((idx p.ff i0).bind fun g=>
 some (decide (g.mo=a.mo)))else some false).bind fun b=>
 if b then
 some (.ret 5)
 else
 some (.next ())) 0 c ()) (fun _=>
 some 0) (fun v0=>some v0)
def LI[Ev](t:AC)(a:em):QQ:=
 (DZ a.ek.d6).bind fun b=>
 if (!decide (b=0))then
 some b
 else
 (GL t a.ek.d6).bind fun d=>
 if (!d)then
 some 13
 else
 if ((!decide (a.ek.gn=a.f0.gn))||(decide (0<(a.ek.l4.length:Int))))then
 some 1
 else
 if (decide (10<(a.ek.ff.length:Int)))then
 some 3
 else
 AM (Ag (ρ:=Int) (fun(i0:Int)(_:Unit)=>
 (Mn t a.ek i0).bind fun c=>
 if (!decide (c=0))then
 some (.ret c)
 else
 some (.next ())) 0 (a.ek.ff.length:Int) ()) (fun _=>
 some 0) (fun v0=>some v0)
def Ff(l:Fp)(n:Int):QQ:=
 AM (Ag (ρ:=Int) (fun(i0:Int)(_:Unit)=>
 (idx l i0).bind fun a=>
 (if(decide (a<0))then some true else((idx l i0).bind fun b=>
 some (decide (n<=b)))).bind fun c=>
 if c then
 some (.ret 6)
 else
 (if(decide (0<i0))then((idx l i0).bind fun d=>
 (idx l (Al (i0-1))).bind fun e=>
 some (decide (d<=e)))else some false).bind fun f=>
 if f then
 some (.ret 12)
 else
 some (.next ())) 0 (l.length:Int) ()) (fun _=>
 some 0) (fun v0=>some v0)
def OL(l:Fp)(n:Int):K1:=
 AM (Ag (ρ:=Bool) (fun(i0:Int)(_:Unit)=>
 (idx l i0).bind fun a=>
 if (decide (a=n))then
 some (.ret true)
 else
 some (.next ())) 0 (l.length:Int) ()) (fun _=>
 some false) (fun v0=>some v0)
def Nr(g:d6)(p:Ak):QQ:=
 (Ff p.d4 (g.d4.length:Int)).bind fun a=>
 if (!decide (a=0))then
 some a
 else
 (Ff p.d5 (g.d5.length:Int)).bind fun b=>
 if (!decide (b=0))then
 some b
 else
 AM (Ag (ρ:=Int) (fun(i0:Int)(_:Unit)=>
 (idx p.d5 i0).bind fun d=>
 (idx g.d5 d).bind fun c=>
 (OL p.d4 c.kq).bind fun e=>
 (if(!e)then some true else((OL p.d4 c.To).bind fun f=>
 some (!f))).bind fun h=>
 if h then
 some (.ret 14)
 else
 some (.next ())) 0 (p.d5.length:Int) ()) (fun _=>
 some 0) (fun v0=>some v0)
def Hw(g:d6)(p:Ak):QQ:=
 (DZ g).bind fun b=>
 if (!decide (b=0))then
 some b
 else
 (Nr g p).bind fun a=>
 some a
def Hx(l:Fp)(n:Int):QQ:=
 AM (Ag (ρ:=Int) (fun(i0:Int)(_:Unit)=>
 (idx l i0).bind fun a=>
 if (decide (a=n))then
 some (.ret i0)
 else
 some (.next ())) 0 (l.length:Int) ()) (fun _=>
 some (-1)) (fun v0=>some v0)
def G3(g:d6)(p:Ak):Option (d6×d7×Int):=
 (Hw g p).bind fun b=>
 if (!decide (b=0))then
 some (d6.mk [] [],d7.mk [] [],b)
 else
 (A9 (fun(i0:Int)(s0:d6)=>
 (idx p.d4 i0).bind fun c=>
 (idx g.d4 c).bind fun d=>
 (Aj s0.d4 [d]).bind fun e=>
 some (d6.mk e s0.d5)) 0 (p.d4.length:Int) (d6.mk [] [])).bind fun s0=>
 (A9 (fun(i2:Int)(s2:d6)=>
 (idx p.d5 i2).bind fun f=>
 (idx g.d5 f).bind fun a=>
 (Hx p.d4 a.kq).bind fun h=>
 (Hx p.d4 a.To).bind fun i=>
 (Aj s2.d5 [BY.mk a.kg h i]).bind fun j=>
 some (d6.mk s2.d4 j)) 0 (p.d5.length:Int) s0).bind fun s2=>
 (Aj [] p.d4).bind fun k=>
 (Aj [] p.d5).bind fun l=>
 some (s2,d7.mk k l,0)
def Mo(a:em):QQ:=
 (Hw a.f0.d6 a.sr).bind fun b=>
 if (!decide (b=0))then
 some b
 else
 (G3 a.f0.d6 a.sr).bind fun c=>
 (GK c.1 a.ek.d6 a.kl).bind fun d=>
 some d
def QN(l:Fp)(n:Int):K1:=
 AM (Ag (ρ:=Bool) (fun(i0:Int)(_:Unit)=>
 (idx l i0).bind fun a=>
 if (decide (a=n))then
 some (.ret true)
 else
 some (.next ())) 0 (l.length:Int) ()) (fun _=>
 some false) (fun v0=>some v0)
def Ke(n:Int)(l:Fp):Option Fp:=
 (A9 (fun(i0:Int)(s0:Fp)=>
 (QN l i0).bind fun a=>
 if (!a)then
 (Aj s0 [i0]).bind fun b=>
 some b
 else
 some s0) 0 n []).bind fun s0=>
 some s0
def JO(a:em):Option (Fp×Fp):=
 (Ke (a.ek.d6.d4.length:Int) a.kl.d4).bind fun b=>
 (Ke (a.ek.d6.d5.length:Int) a.kl.d5).bind fun c=>
 some (b,c)
def KH[Ev](t:AC)(g:d6)(a:Fp)(b:Fp):K1:=
 AM (Ag (ρ:=Bool) (fun(i0:Int)(_:Unit)=>
 (idx a i0).bind fun d=>
 (idx g.d4 d).bind fun e=>
 (idx t.d4 e).bind fun f=>
 if f.Aae then
 some (.ret false)
 else
 some (.next ())) 0 (a.length:Int) ()) (fun _=>
 AM (Ag (ρ:=Bool) (fun(i2:Int)(_:Unit)=>
 (idx b i2).bind fun h=>
 (idx g.d5 h).bind fun c=>
 (idx g.d4 c.kq).bind fun i=>
 (idx g.d4 c.To).bind fun j=>
 (I0 t c.kg i j).bind fun k=>
 if (!k)then
 some (.ret false)
 else
 some (.next ())) 0 (b.length:Int) ()) (fun _=>
 some true) (fun v2=>some v2)) (fun v0=>some v0)
def Jc[Ev](t:AC)(a:em):QQ:=
 (EW t).bind fun b=>
 if (!decide (b.2=0))then
 some b.2
 else
 (Eg a.og).bind fun g=>
 if (!g)then
 some 2
 else
 (GM t a.f0).bind fun c=>
 if (!decide (c=0))then
 some c
 else
 (LI t a).bind fun d=>
 if (!decide (d=0))then
 some d
 else
 (Mo a).bind fun e=>
 if (!decide (e=0))then
 some e
 else
 (EL a.kl.d4).bind fun h=>
 (if(!h)then some true else((EL a.kl.d5).bind fun i=>
 some (!i))).bind fun j=>
 if j then
 some 11
 else
 (JO a).bind fun f=>
 (KH t a.ek.d6 f.1 f.2).bind fun k=>
 if (!k)then
 some 13
 else
 (Jb t a.f0 a.ea).bind fun l=>
 some l
def Nu[Ev](t:AC)(d:em)(c:AG):QQ:=
 (Jc t d).bind fun a=>
 if (!decide (a=0))then
 some a
 else
 (Hy t c).bind fun b=>
 some b.2
def IP(l:Fp):K1:=
 AM (Ag (ρ:=Bool) (fun(i0:Int)(_:Unit)=>
 AM (Ag (ρ:=Bool) (fun(i2:Int)(_:Unit)=>
 (idx l i0).bind fun a=>
 (idx l i2).bind fun b=>
 if (decide (a=b))then
 some (.ret false)
 else
 some (.next ())) 0 i0 ()) (fun _=>
 some (.next ())) (fun v2=>some (.ret v2))) 0 (l.length:Int) ()) (fun _=>
 some true) (fun v0=>some v0)
def LA[Ev](t:AC)(p:d6)(g:d6)(m:d7)(a:Bool):QQ:=
 if ((!decide ((m.d4.length:Int)=(p.d4.length:Int)))||(!decide ((m.d5.length:Int)=(p.d5.length:Int))))then
 some 20
 else
 AM (Ag (ρ:=Int) (fun(i0:Int)(_:Unit)=>
 (idx m.d4 i0).bind fun n=>
 (if(decide (n<0))then some true else((idx m.d4 i0).bind fun o=>
 some (decide ((g.d4.length:Int)<=o)))).bind fun q=>
 if q then
 some (.ret 6)
 else
 (idx m.d4 i0).bind fun r=>
 (idx g.d4 r).bind fun s=>
 (idx p.d4 i0).bind fun u=>
 (Ga t s u).bind fun v=>
 if (!v)then
 some (.ret 13)
 else
 some (.next ())) 0 (m.d4.length:Int) ()) (fun _=>
 AM (Ag (ρ:=Int) (fun(i2:Int)(_:Unit)=>
 (idx m.d5 i2).bind fun w=>
 (if(decide (w<0))then some true else((idx m.d5 i2).bind fun x=>
 some (decide ((g.d5.length:Int)<=x)))).bind fun y=>
 if y then
 some (.ret 6)
 else
 (idx p.d5 i2).bind fun c=>
 (idx m.d5 i2).bind fun d=>
 (idx g.d5 d).bind fun b=>
 if (!decide (c.kg=b.kg))then
 some (.ret 13)
 else
 (idx m.d4 c.kq).bind fun e=>
 (if(!decide (e=b.kq))then some true else((idx m.d4 c.To).bind fun f=>
 some (!decide (f=b.To)))).bind fun h=>
 if h then
 some (.ret 11)
 else
 some (.next ())) 0 (m.d5.length:Int) ()) (fun _=>
 (if a then((IP m.d4).bind fun i=>
 (if(!i)then some true else((IP m.d5).bind fun j=>
 some (!j))).bind fun k=>
 some (k))else some false).bind fun l=>
 if l then
 some 5
 else
 some 0) (fun v2=>some v2)) (fun v0=>some v0)
def Hz[Ev](t:AC)(p:d6)(g:d6)(m:d7)(a:Bool):QQ:=
 (H0 t p g).bind fun b=>
 if (!decide (b=0))then
 some b
 else
 (LA t p g m a).bind fun c=>
 some c
def LC[Ev](t:AC)(p:ec)(c:AG):QQ:=
 (GM t p).bind fun a=>
 if (!decide (a=0))then
 some a
 else
 (Hy t c).bind fun b=>
 some b.2
def H1(a:j4)(c:Fp):QQ:=
 if (decide (a.Var<0))then
 some a.Add
 else
 (idx c a.Var).bind fun b=>
 some (Al (b+a.Add))
def JY(t:j4)(b:Fp):Option (Int×Bool):=
 if (decide (t.Var=(-1)))then
 some (t.Add,true)
 else
 if ((decide (t.Var<0))||(decide ((b.length:Int)<=t.Var)))then
 some (0,false)
 else
 (idx b t.Var).bind fun a=>
 some (Al (a+t.Add),true)
def K6(a:Test)(d:Fp):K1:=
 (JY a.f0 d).bind fun b=>
 (JY a.ek d).bind fun c=>
 if ((!b.2)||(!c.2))then
 some false
 else
 some (((decide (a.l3=1))&&(decide (b.1<=c.1)))||((decide (a.l3=2))&&(decide (b.1=c.1))))
def KE(p:ec)(l:AG)(m:d7):Option (Fp×Int):=
 (JL p.gn 0).bind fun d=>
 (JL p.gn false).bind fun e=>
 AM (Ag (ρ:=(Fp×Int)) (fun(i0:Int)(s0:Fp×a5)=>
 (idx p.ff i0).bind fun a=>
 (idx m.d4 a.sx).bind fun f=>
 (idx l.hT f).bind fun g=>
 (idx g a.mo).bind fun b=>
 (if(decide (0<=a.j4.Var))then((idx s0.2 a.j4.Var).bind fun h=>
 some (!h))else some false).bind fun i=>
 if i then
 (idx s0.2 a.j4.Var).bind fun n=>
 (idx s0.1 a.j4.Var).bind fun o=>
 (H1 a.j4 (BP s0.1 a.j4.Var (Al (b-a.j4.Add)))).bind fun c=>
 if (!decide (c=b))then
 some (.ret ([],11))
 else
 some (.next (BP s0.1 a.j4.Var (Al (b-a.j4.Add)),BP s0.2 a.j4.Var true))
 else
 (H1 a.j4 s0.1).bind fun c=>
 if (!decide (c=b))then
 some (.ret ([],11))
 else
 some (.next (s0.1,s0.2))) 0 (p.ff.length:Int) (d,e)) (fun s0=>
 AM (Ag (ρ:=(Fp×Int)) (fun(i2:Int)(_:Unit)=>
 (idx p.l4 i2).bind fun j=>
 (K6 j s0.1).bind fun k=>
 if (!k)then
 some (.ret ([],16))
 else
 some (.next ())) 0 (p.l4.length:Int) ()) (fun _=>
 some (s0.1,0)) (fun v2=>some v2)) (fun v0=>some v0)
def LB[Ev](t:AC)(p:ec)(a:AG)(m:d7):Option (Fp×Int):=
 (LC t p a).bind fun b=>
 if (!decide (b=0))then
 some ([],b)
 else
 (Hz t p.d6 a.d6 m false).bind fun c=>
 if (!decide (c=0))then
 some ([],c)
 else
 (KE p a m).bind fun d=>
 some (d.1,d.2)
def Dx(g:d6):Option d6:=
 (Aj [] g.d4).bind fun b=>
 (Aj [] g.d5).bind fun a=>
 some (d6.mk b a)
def IN[Ev](t:AC)(p:d6)(g:d6)(m:d7):Option (d6×Int):=
 (Hz t p g m false).bind fun a=>
 if (!decide (a=0))then
 some (d6.mk [] [],a)
 else
 (Dx p).bind fun b=>
 AM (ER (ρ:=(d6×Int)) (fun(s0:d6×Int)=>
 if (decide (s0.2<(s0.1.d4.length:Int)))then
 (idx m.d4 s0.2).bind fun c=>
 (idx g.d4 c).bind fun d=>
 (idx s0.1.d4 s0.2).bind fun e=>
 some (.next (d6.mk (BP s0.1.d4 s0.2 d) s0.1.d5,Al (s0.2+1)))
 else
 some (.brk (s0.1,s0.2))) (b,0)) (fun s0=>
 some (s0.1,0)) (fun v0=>some v0)
def Ns(l:d6)(g:d6)(b:Ak)(m:d7):QQ:=
 (GK l g m).bind fun a=>
 if (!decide (a=0))then
 some a
 else
 (Hw l b).bind fun c=>
 some c
def DT(l:Fp)(n:Int):K1:=
 AM (Ag (ρ:=Bool) (fun(i0:Int)(_:Unit)=>
 (idx l i0).bind fun a=>
 if (decide (a=n))then
 some (.ret true)
 else
 some (.next ())) 0 (l.length:Int) ()) (fun _=>
 some false) (fun v0=>some v0)
def E9(a:Fp)(b:Fp):Option (List Fk):=
 (A9 (fun(i0:Int)(s0:List Fk)=>
 (A9 (fun(i2:Int)(s2:List Fk)=>
 (idx a i0).bind fun c=>
 (idx a i2).bind fun d=>
 (if(decide (c=d))then((DT b i0).bind fun e=>
 (if(!e)then some true else((DT b i2).bind fun f=>
 some (!f))).bind fun g=>
 some (g))else some false).bind fun h=>
 if h then
 (Aj s2 [Fk.mk i0 i2]).bind fun i=>
 some i
 else
 some s2) (Al (i0+1)) (a.length:Int) s0).bind fun s2=>
 some s2) 0 (a.length:Int) []).bind fun s0=>
 some s0
def I1(a:Fp)(b:Fp):Option Fp:=
 (A9 (fun(i0:Int)(s0:Fp)=>
 (DT b i0).bind fun c=>
 if (!c)then
 (idx a i0).bind fun d=>
 (Aj s0 [d]).bind fun e=>
 some e
 else
 some s0) 0 (a.length:Int) []).bind fun s0=>
 some s0
def IM(l:d6)(g:d6)(b:Ak)(m:d7):Option Fp:=
 (I1 m.d4 b.d4).bind fun a=>
 (A9 (fun(i0:Int)(s0:Fp)=>
 (DT m.d5 i0).bind fun c=>
 (if(!c)then((idx g.d5 i0).bind fun d=>
 (DT a d.kq).bind fun e=>
 (if e then some true else((idx g.d5 i0).bind fun f=>
 (DT a f.To).bind fun h=>
 some (h))).bind fun i=>
 some (i))else some false).bind fun j=>
 if j then
 (Aj s0 [i0]).bind fun k=>
 some k
 else
 some s0) 0 (g.d5.length:Int) []).bind fun s0=>
 some s0
def Kc(n:Int)(l:Fp):Option Fp:=
 (A9 (fun(i0:Int)(s0:Fp)=>
 (DT l i0).bind fun a=>
 if (!a)then
 (Aj s0 [i0]).bind fun b=>
 some b
 else
 some s0) 0 n []).bind fun s0=>
 some s0
def Pm(l:d6)(g:d6)(a:Ak)(m:d7):Option (Ak×Int):=
 (Ns l g a m).bind fun b=>
 if (!decide (b=0))then
 some (Ak.mk [] [],b)
 else
 (E9 m.d4 a.d4).bind fun c=>
 (E9 m.d5 a.d5).bind fun d=>
 if (decide (0<(Al ((c.length:Int)+(d.length:Int)))))then
 some (Ak.mk [] [],15)
 else
 (IM l g a m).bind fun e=>
 if (decide (0<(e.length:Int)))then
 some (Ak.mk [] [],14)
 else
 (I1 m.d4 a.d4).bind fun f=>
 (Kc (g.d4.length:Int) f).bind fun h=>
 (I1 m.d5 a.d5).bind fun i=>
 (Kc (g.d5.length:Int) i).bind fun j=>
 some (Ak.mk h j,0)
def IR(n:Int)(b:Fp)(m:Fp):Option Fp:=
 (A9 (fun(i0:Int)(s0:Fp)=>
 (Aj s0 [(-1)]).bind fun c=>
 some c) 0 n []).bind fun s0=>
 (A9 (fun(i2:Int)(s2:Fp)=>
 (idx b i2).bind fun a=>
 (idx m i2).bind fun d=>
 (idx s2 a).bind fun e=>
 some (BP s2 a d)) 0 (b.length:Int) s0).bind fun s2=>
 some s2
def Ec(c:Ah)(a:Fp):K1:=
 AM (Ag (ρ:=Bool) (fun(i0:Int)(_:Unit)=>
 (idx c.p.d5 i0).bind fun b=>
 if ((decide ((a.length:Int)<=b.kq))||(decide ((a.length:Int)<=b.To)))then
 some (.next ())
 else
 (A9 (fun(i2:Int)(s2:Bool)=>
 (idx c.g.d5 i2).bind fun d=>
 (if s2 then some true else((if(decide (b.kg=d.kg))then((idx a b.kq).bind fun e=>
 some (decide (d.kq=e)))else some false).bind fun f=>
 (if f then((idx a b.To).bind fun h=>
 some (decide (d.To=h)))else some false).bind fun i=>
 some (i))).bind fun j=>
 some j) 0 (c.g.d5.length:Int) false).bind fun s2=>
 if (!s2)then
 some (.ret false)
 else
 some (.next ())) 0 (c.p.d5.length:Int) ()) (fun _=>
 some true) (fun v0=>some v0)
def Ce[Ev](b:Ah)(l:Fp)(n:Int):K1:=
 AM (ER (ρ:=Bool) (fun(s0:Int)=>
 if ((decide (s0<(l.length:Int)))&&b.gt)then
 (idx l s0).bind fun a=>
 if (decide (a=n))then
 some (.ret true)
 else
 some (.next (Al (s0+1)))
 else
 some (.brk s0)) 0) (fun s0=>
 some false) (fun v0=>some v0)
def B9[Ev]:Nat->Ah->Fp->Fp->Option Ah
 |0,_,_,_=>none|n+1,a,b,l=>
  if (decide (a.t1<(a.Aap.length:Int)))then
  some a
  else
  if (decide ((l.length:Int)=(a.p.d5.length:Int)))then
  (Aj [] b).bind fun o=>
  (Aj [] l).bind fun q=>
  (Aj a.Aap [d7.mk o q]).bind fun r=>
  some (Ah.mk a.t a.p a.g a.jj a.gt a.t1 r)
  else
  (idx a.p.d5 (l.length:Int)).bind fun c=>
  AM (ER (ρ:=Ah) (fun(s0:Ah×Int)=>
  if (decide (s0.2<(s0.1.g.d5.length:Int)))then
  (idx s0.1.g.d5 s0.2).bind fun d=>
  (idx s0.1.jj.d5 (l.length:Int)).bind fun s=>
  (if(decide (0<=s))then((idx s0.1.jj.d5 (l.length:Int)).bind fun u=>
  some (!decide (u=s0.2)))else some false).bind fun v=>
  (if v then some true else((Ce s0.1 l s0.2).bind fun w=>
  some (w))).bind fun x=>
  (if(x||(!decide (c.kg=d.kg)))then some true else((idx b c.kq).bind fun e=>
  some (!decide (d.kq=e)))).bind fun f=>
  (if f then some true else((idx b c.To).bind fun h=>
  some (!decide (d.To=h)))).bind fun i=>
  if i then
  some (.next (s0.1,Al (s0.2+1)))
  else
  (Aj [] l).bind fun j=>
  (Aj j [s0.2]).bind fun k=>
  (B9 n s0.1 b k).bind fun m=>
  some (.next (m,Al (s0.2+1)))
  else
  some (.brk (s0.1,s0.2))) (a,0)) (fun s0=>
  some s0.1) (fun v0=>some v0)
def Lu[Ev](b:Ah)(a:Fp)(l:Fp):Option Ah:=Jr fun n=>B9 n b a l
def CA[Ev]:Nat->Ah->Fp->Option Ah
 |0,_,_=>none|n+1,a,l=>
  (if(decide (a.t1<(a.Aap.length:Int)))then some true else((Ec a l).bind fun d=>
  some (!d))).bind fun e=>
  if e then
  some a
  else
  if (decide ((l.length:Int)=(a.p.d4.length:Int)))then
  (Lu a l []).bind fun f=>
  some f
  else
  AM (ER (ρ:=Ah) (fun(s0:Ah×Int)=>
  if (decide (s0.2<(s0.1.g.d4.length:Int)))then
  (idx s0.1.jj.d4 (l.length:Int)).bind fun h=>
  (if(decide (0<=h))then((idx s0.1.jj.d4 (l.length:Int)).bind fun i=>
  some (!decide (i=s0.2)))else some false).bind fun j=>
  (if j then some true else((Ce s0.1 l s0.2).bind fun k=>
  some (k))).bind fun m=>
  (if m then some true else((idx s0.1.g.d4 s0.2).bind fun o=>
  (idx s0.1.p.d4 (l.length:Int)).bind fun q=>
  (Ga s0.1.t o q).bind fun r=>
  some (!r))).bind fun s=>
  if s then
  some (.next (s0.1,Al (s0.2+1)))
  else
  (Aj [] l).bind fun u=>
  (Aj u [s0.2]).bind fun b=>
  (CA n s0.1 b).bind fun c=>
  some (.next (c,Al (s0.2+1)))
  else
  some (.brk (s0.1,s0.2))) (a,0)) (fun s0=>
  some s0.1) (fun v0=>some v0)
def ID[Ev](a:Ah)(l:Fp):Option Ah:=Jr fun n=>CA n a l
def OM[Ev](t:AC)(p:d6)(g:d6)(b:d7)(a:Bool)(c:Int):Option (List d7):=
 (ID (Ah.mk t p g b a c []) []).bind fun d=>
 some d.Aap
def IQ(l:Fp)(a:Int)(n:Int):QQ:=
 if (!decide ((l.length:Int)=a))then
 some 20
 else
 AM (Ag (ρ:=Int) (fun(i0:Int)(_:Unit)=>
 (idx l i0).bind fun b=>
 (if(decide (b<(-1)))then some true else((idx l i0).bind fun c=>
 some (decide (n<=c)))).bind fun d=>
 if d then
 some (.ret 6)
 else
 some (.next ())) 0 (l.length:Int) ()) (fun _=>
 some 0) (fun v0=>some v0)
def KD[Ev](t:AC)(p:d6)(g:d6)(a:d7)(b:Bool):Option (List d7×Int):=
 (H0 t p g).bind fun c=>
 if (!decide (c=0))then
 some ([],c)
 else
 if ((!decide ((a.d4.length:Int)=(p.d4.length:Int)))||(!decide ((a.d5.length:Int)=(p.d5.length:Int))))then
 some ([],20)
 else
 (IQ a.d4 (p.d4.length:Int) (g.d4.length:Int)).bind fun d=>
 if (!decide (d=0))then
 some ([],d)
 else
 (IQ a.d5 (p.d5.length:Int) (g.d5.length:Int)).bind fun e=>
 if (!decide (e=0))then
 some ([],e)
 else
 (OM t p g a b 5000).bind fun f=>
 if (decide (5000<(f.length:Int)))then
 some ([],3)
 else
 some (f,0)
def D8(a:j4)(c:Fp):Option (Int×Int):=
 if ((decide (a.Var<(-1)))||(decide ((c.length:Int)<=a.Var)))then
 some (0,6)
 else
 (H1 a c).bind fun b=>
 some (b,0)
def KG(q:ec)(p:AG)(m:d7)(c:Fp):Option (Fp×Bool):=
 (Aj [] c).bind fun h=>
 (JL q.gn false).bind fun i=>
 (A9 (fun(i0:Int)(s0:Fp×a5)=>
 (idx s0.2 i0).bind fun t=>
 if (decide ((c.length:Int)<=i0))then
 (Aj s0.1 [0]).bind fun j=>
 some (j,BP s0.2 i0 (decide (i0<(c.length:Int))))
 else
 some (s0.1,BP s0.2 i0 (decide (i0<(c.length:Int))))) 0 q.gn (h,i)).bind fun s0=>
 AM (Ag (ρ:=(Fp×Bool)) (fun(i2:Int)(s2:Fp×a5)=>
 (idx q.ff i2).bind fun a=>
 (idx m.d4 a.sx).bind fun k=>
 (idx p.hT k).bind fun l=>
 (idx l a.mo).bind fun e=>
 (if(decide (0<=a.j4.Var))then((idx s2.2 a.j4.Var).bind fun n=>
 some (!n))else some false).bind fun o=>
 if o then
 (idx s2.1 a.j4.Var).bind fun r=>
 (idx s2.2 a.j4.Var).bind fun s=>
 (D8 a.j4 (BP s2.1 a.j4.Var (Al (e-a.j4.Add)))).bind fun d=>
 if (!decide (d.1=e))then
 some (.ret ([],false))
 else
 some (.next (BP s2.1 a.j4.Var (Al (e-a.j4.Add)),BP s2.2 a.j4.Var true))
 else
 (D8 a.j4 s2.1).bind fun d=>
 if (!decide (d.1=e))then
 some (.ret ([],false))
 else
 some (.next (s2.1,s2.2))) 0 (q.ff.length:Int) (s0.1,s0.2)) (fun s2=>
 AM (Ag (ρ:=(Fp×Bool)) (fun(i4:Int)(_:Unit)=>
 (idx q.l4 i4).bind fun b=>
 (D8 b.f0 s2.1).bind fun f=>
 (D8 b.ek s2.1).bind fun g=>
 if (((decide (b.l3=1))&&(decide (g.1<f.1)))||((decide (b.l3=2))&&(!decide (f.1=g.1))))then
 some (.ret ([],false))
 else
 some (.next ())) 0 (q.l4.length:Int) ()) (fun _=>
 some (s2.1,true)) (fun v4=>some v4)) (fun v2=>some v2)
def Gb[Ev](t:AC)(c:ea)(e:AG)(m:AJ)(a:Bool):Option (List AJ×Int):=
 (IR (c.ec.d6.d4.length:Int) c.Map.d4 m.d7.d4).bind fun f=>
 (IR (c.ec.d6.d5.length:Int) c.Map.d5 m.d7.d5).bind fun g=>
 (KD t c.ec.d6 e.d6 (d7.mk f g) a).bind fun b=>
 if (!decide (b.2=0))then
 some ([],b.2)
 else
 (A9 (fun(i0:Int)(s0:List AJ)=>
 (idx b.1 i0).bind fun h=>
 (KG c.ec e h m.gn).bind fun d=>
 if d.2 then
 (idx b.1 i0).bind fun i=>
 (Aj s0 [AJ.mk i d.1]).bind fun j=>
 some j
 else
 some s0) 0 (b.1.length:Int) []).bind fun s0=>
 some (s0,0)
def DU[Ev]:Nat->AC->ea->AG->AJ->Bool->Option (A0×Int)
 |0,_,_,_,_,_=>none|n+1,t,c,f,m,a=>
  if (decide (c.l3=2))then
  (idx c.gp 0).bind fun l=>
  (DU n t l f m a).bind fun g=>
  if (decide (g.2=0))then
  some (Cx,10)
  else
  if (decide (g.2=10))then
  some (Cx,0)
  else
  some (Cx,g.2)
  else
  if (decide (c.l3=3))then
  AM (Ag (ρ:=(A0×Int)) (fun(i1:Int)(s1:A0×A0)=>
  (idx c.gp i1).bind fun o=>
  (DU n t o f m a).bind fun h=>
  if (!decide (h.2=0))then
  some (.ret (Cx,h.2))
  else
  (Aj s1.2.gp [h.1]).bind fun p=>
  some (.next (s1.1,A0.mk s1.2.Aar s1.2.kp p))) 0 (c.gp.length:Int) (Cx,Cx)) (fun s1=>
  some (s1.2,0)) (fun v1=>some v1)
  else
  if (decide (c.l3=4))then
  AM (Ag (ρ:=(A0×Int)) (fun(i3:Int)(s3:A0)=>
  (idx c.gp i3).bind fun q=>
  (DU n t q f m a).bind fun d=>
  if (!decide (d.2=10))then
  some (.ret (A0.mk i3 (AJ.mk (d7.mk [] []) []) [d.1],d.2))
  else
  some (.next s3)) 0 (c.gp.length:Int) Cx) (fun s3=>
  some (Cx,10)) (fun v3=>some v3)
  else
  if (decide (c.l3=5))then
  (Gb t c f m a).bind fun b=>
  if (!decide (b.2=0))then
  some (Cx,b.2)
  else
  AM (Ag (ρ:=(A0×Int)) (fun(i5:Int)(s5:A0)=>
  (idx c.gp 0).bind fun i=>
  (idx b.1 i5).bind fun j=>
  (DU n t i f j a).bind fun e=>
  if (!decide (e.2=10))then
  (idx b.1 i5).bind fun k=>
  some (.ret (A0.mk 0 k [e.1],e.2))
  else
  some (.next s5)) 0 (b.1.length:Int) Cx) (fun s5=>
  some (Cx,10)) (fun v5=>some v5)
  else
  some (Cx,0)
def Qb[Ev](t:AC)(c:ea)(b:AG)(m:AJ)(a:Bool):Option (A0×Int):=Jr fun n=>DU n t c b m a
def LD[Ev](t:AC)(c:ea)(d:AG)(m:AJ)(a:Bool):Option (Bool×Int):=
 (Qb t c d m a).bind fun b=>
 if (decide (b.2=10))then
 some (false,0)
 else
 some (decide (b.2=0),b.2)
def Kh[Ev](t:AC)(a:em)(b:AG)(m:AJ):Option (Ak×Int):=
 (Hz t a.f0.d6 b.d6 m.d7 a.le).bind fun g=>
 if (!decide (g=0))then
 some (Ak.mk [] [],1)
 else
 (LB t a.f0 b m.d7).bind fun c=>
 if (!decide (c.2=0))then
 some (Ak.mk [] [],c.2)
 else
 (GR c.1 m.gn).bind fun h=>
 if (!h)then
 some (Ak.mk [] [],11)
 else
 (IN t a.f0.d6 b.d6 m.d7).bind fun d=>
 if (!decide (d.2=0))then
 some (Ak.mk [] [],d.2)
 else
 (Pm d.1 b.d6 a.sr m.d7).bind fun e=>
 if (!decide (e.2=0))then
 some (Ak.mk [] [],e.2)
 else
 (LD t a.ea b m a.le).bind fun f=>
 (if((decide (f.2=0))&&(!f.1))then
 some 16
 else
 some f.2).bind fun w1=>
 some (e.1,w1)
def JM[Ev](t:AC)(b:AG)(p:Ak):Option (AG×Int):=
 (Hy t b).bind fun c=>
 if (!decide (c.2=0))then
 some (AG.mk (d6.mk [] []) [],c.2)
 else
 (G3 b.d6 p).bind fun a=>
 if (!decide (a.2.2=0))then
 some (AG.mk (d6.mk [] []) [],a.2.2)
 else
 AM (ER (ρ:=(AG×Int)) (fun(s0:AG×Int)=>
 if (decide (s0.2<(a.2.1.d4.length:Int)))then
 (idx a.2.1.d4 s0.2).bind fun d=>
 (idx b.hT d).bind fun e=>
 (Aj [] e).bind fun f=>
 (Aj s0.1.hT [f]).bind fun g=>
 some (.next (AG.mk s0.1.d6 g,Al (s0.2+1)))
 else
 some (.brk (s0.1,s0.2))) (AG.mk a.1 [],0)) (fun s0=>
 some (s0.1,0)) (fun v0=>some v0)
def Kb(l:Fp)(n:Int):Option Fp:=
 (A9 (fun(i0:Int)(s0:Fp)=>
 (Aj s0 [(-1)]).bind fun a=>
 (A9 (fun(i2:Int)(s2:Fp)=>
 (idx l i2).bind fun b=>
 if (decide (b=i0))then
 (idx s2 i0).bind fun c=>
 some (BP s2 i0 i2)
 else
 some s2) 0 (l.length:Int) a).bind fun s2=>
 some s2) 0 n []).bind fun s0=>
 some s0
def KI(n:Int)(a:Fp):Option Fp:=
 (Kb a n).bind fun b=>
 some b
def Lb[Ev](t:AC)(a:AG)(d:Ak):Option (AG×d7):=
 (JM t a d).bind fun b=>
 (KI (a.d6.d4.length:Int) d.d4).bind fun c=>
 (KI (a.d6.d5.length:Int) d.d5).bind fun e=>
 some (b.1,d7.mk c e)
def GT(a:Fp)(b:Fp):Option Fp:=
 (A9 (fun(i0:Int)(s0:Fp)=>
 (idx a i0).bind fun c=>
 (idx b c).bind fun d=>
 (Aj s0 [d]).bind fun e=>
 some e) 0 (a.length:Int) []).bind fun s0=>
 some s0
def Ey(e:Fp)(d:Fp)(a:Int)(l:Fp)(b:Int):Option Fp:=
 (Kb d a).bind fun c=>
 (A9 (fun(i0:Int)(s0:Int×Fp)=>
 (idx c i0).bind fun f=>
 if (decide (0<=f))then
 (idx c i0).bind fun g=>
 (idx e g).bind fun h=>
 (idx l h).bind fun i=>
 (Aj s0.2 [i]).bind fun j=>
 some (s0.1,j)
 else
 (Aj s0.2 [s0.1]).bind fun k=>
 some (Al (s0.1+1),k)) 0 a (b,[])).bind fun s0=>
 some s0.2
def G4(a:Fp)(c:Int):K1:=
 AM (Ag (ρ:=Bool) (fun(i0:Int)(_:Unit)=>
 (idx a i0).bind fun b=>
 if (decide (b=c))then
 some (.ret false)
 else
 some (.next ())) 0 (a.length:Int) ()) (fun _=>
 some true) (fun v0=>some v0)
def Kg[Ev](t:AC)(a:em)(p:AG)(c:d7):Option AG:=
 AM (ER (ρ:=AG) (fun(s0:AG×Int)=>
 if (decide (s0.2<(a.ek.d6.d4.length:Int)))then
 (G4 a.kl.d4 s0.2).bind fun h=>
 if (!h)then
 some (.next (s0.1,Al (s0.2+1)))
 else
 (idx a.ek.d6.d4 s0.2).bind fun i=>
 (Aj s0.1.d6.d4 [i]).bind fun j=>
 (idx a.ek.d6.d4 s0.2).bind fun k=>
 (FJ t k).bind fun d=>
 (A9 (fun(i2:Int)(s2:Fp)=>
 (idx d.1 i2).bind fun l=>
 (Aj s2 [l.Low]).bind fun m=>
 some m) 0 (d.1.length:Int) []).bind fun s2=>
 (Aj s0.1.hT [s2]).bind fun n=>
 some (.next (AG.mk (d6.mk j s0.1.d6.d5) n,Al (s0.2+1)))
 else
 some (.brk (s0.1,s0.2))) (p,0)) (fun s0=>
 AM (ER (ρ:=AG) (fun(s4:AG×Int)=>
 if (decide (s4.2<(a.ek.d6.d5.length:Int)))then
 (G4 a.kl.d5 s4.2).bind fun o=>
 if o then
 (idx a.ek.d6.d5 s4.2).bind fun b=>
 (idx c.d4 b.kq).bind fun e=>
 (idx c.d4 b.To).bind fun f=>
 (Aj s4.1.d6.d5 [BY.mk b.kg e f]).bind fun g=>
 some (.next (AG.mk (d6.mk s4.1.d6.d4 g) s4.1.hT,Al (s4.2+1)))
 else
 some (.next (s4.1,Al (s4.2+1)))
 else
 some (.brk (s4.1,s4.2))) (s0.1,0)) (fun s4=>
 some s4.1) (fun v4=>some v4)) (fun v0=>some v0)
def KC(a:AG):Option AG:=
 (Dx a.d6).bind fun e=>
 (A9 (fun(i0:Int)(s0:AG)=>
 (idx a.hT i0).bind fun b=>
 (Aj [] b).bind fun c=>
 (Aj s0.hT [c]).bind fun d=>
 some (AG.mk s0.d6 d)) 0 (a.hT.length:Int) (AG.mk e [])).bind fun s0=>
 some s0
def MA[Ev](t:AC)(a:em)(C:AG)(c:d7)(e:Fp):Option (AG×Int):=
 AM (Ag (ρ:=(AG×Int)) (fun(i0:Int)(s0:AG)=>
 (idx a.ek.ff i0).bind fun q=>
 (D8 q.j4 e).bind fun r=>
 AM (Ag (ρ:=(AG×Int)) (fun(i2:Int)(s2:AG)=>
 (idx a.ek.ff i2).bind fun s=>
 (D8 s.j4 e).bind fun u=>
 (idx a.ek.ff i2).bind fun v=>
 (idx c.d4 v.sx).bind fun w=>
 (idx a.ek.ff i0).bind fun x=>
 (idx c.d4 x.sx).bind fun y=>
 (if(decide (w=y))then((idx a.ek.ff i2).bind fun z=>
 (idx a.ek.ff i0).bind fun A=>
 some (decide (z.mo=A.mo)))else some false).bind fun B=>
 if (B&&(!decide (r.1=u.1)))then
 some (.ret (AG.mk (d6.mk [] []) [],11))
 else
 some (.next s2)) 0 i0 s0) (fun s2=>
 some (.next s2)) (fun v2=>some (.ret v2))) 0 (a.ek.ff.length:Int) (AG.mk (d6.mk [] []) [])) (fun s0=>
 AM (Ag (ρ:=(AG×Int)) (fun(i4:Int)(s4:AG×AG)=>
 (idx a.ek.ff i4).bind fun i=>
 (D8 i.j4 e).bind fun b=>
 (idx a.ek.ff i4).bind fun j=>
 (idx c.d4 j.sx).bind fun d=>
 (idx s4.1.d6.d4 d).bind fun k=>
 (FJ t k).bind fun f=>
 (idx a.ek.ff i4).bind fun l=>
 (idx f.1 l.mo).bind fun m=>
 (if(decide (b.1<m.Low))then some true else((idx a.ek.ff i4).bind fun n=>
 (idx f.1 n.mo).bind fun o=>
 some (decide (o.Aao<b.1)))).bind fun p=>
 if p then
 some (.ret (AG.mk (d6.mk [] []) [],6))
 else
 (idx s4.1.hT d).bind fun g=>
 (idx a.ek.ff i4).bind fun h=>
 (idx g h.mo).bind fun D=>
 some (.next (AG.mk s4.1.d6 (BP s4.1.hT d (BP g h.mo b.1)),s4.2))) 0 (a.ek.ff.length:Int) (C,s0)) (fun s4=>
 some (s4.1,0)) (fun v4=>some v4)) (fun v0=>some v0)
def H2[Ev](t:AC)(a:em)(e:AG)(m:AJ):Option (Ai×Int):=
 (Nu t a e).bind fun h=>
 if (!decide (h=0))then
 some (CX,h)
 else
 (Kh t a e m).bind fun c=>
 if (!decide (c.2=0))then
 some (CX,c.2)
 else
 (Lb t e c.1).bind fun d=>
 (GT m.d7.d4 d.2.d4).bind fun i=>
 (GT m.d7.d5 d.2.d5).bind fun j=>
 (Ey a.sr.d4 a.kl.d4 (a.ek.d6.d4.length:Int) i (c.1.d4.length:Int)).bind fun f=>
 (Ey a.sr.d5 a.kl.d5 (a.ek.d6.d5.length:Int) j (c.1.d5.length:Int)).bind fun g=>
 (KC d.1).bind fun k=>
 (Kg t a k (d7.mk f g)).bind fun l=>
 (MA t a l (d7.mk f g) m.gn).bind fun b=>
 if (!decide (b.2=0))then
 some (CX,b.2)
 else
 if ((decide (40<(b.1.d6.d4.length:Int)))||(decide (80<(b.1.d6.d5.length:Int))))then
 some (CX,3)
 else
 some (Ai.mk a m e b.1 d.2 (d7.mk f g),0)
def LJ[Ev](t:AC)(a:Ai):K1:=
 (H2 t a.em a.o3 a.kp).bind fun b=>
 (if(decide (b.2=0))then((I3 b.1 a).bind fun c=>
 some (c))else some false).bind fun d=>
 some d
def Ki(n:Int):K1:=
 some ((decide (1<=n))&&(decide (n<=3)))
def LK[Ev](t:AC)(a:Ao):QQ:=
 (EW t).bind fun c=>
 if (!decide (c.2=0))then
 some c.2
 else
 if ((!decide ((a.d4.length:Int)=(t.d4.length:Int)))||(!decide ((a.d5.length:Int)=(t.d5.length:Int))))then
 some 20
 else
 AM (Ag (ρ:=Int) (fun(i0:Int)(_:Unit)=>
 (idx a.d4 i0).bind fun m=>
 (Ki m).bind fun n=>
 if (!n)then
 some (.ret 6)
 else
 (idx t.d4 i0).bind fun d=>
 (if(decide (0<=d.r0))then((idx a.d4 d.r0).bind fun o=>
 (idx a.d4 i0).bind fun p=>
 some (!decide (o=p)))else some false).bind fun q=>
 if q then
 some (.ret 13)
 else
 some (.next ())) 0 (t.d4.length:Int) ()) (fun _=>
 AM (Ag (ρ:=Int) (fun(i2:Int)(_:Unit)=>
 (idx a.d5 i2).bind fun r=>
 (Ki r).bind fun s=>
 if (!s)then
 some (.ret 6)
 else
 (idx t.d5 i2).bind fun u=>
 (idx a.d4 u.kq).bind fun v=>
 (idx t.d5 i2).bind fun e=>
 (idx a.d4 e.To).bind fun b=>
 (idx a.d5 i2).bind fun f=>
 (if(!decide (v=f))then some true else((idx a.d5 i2).bind fun g=>
 (if(!decide (g=2))then((idx a.d5 i2).bind fun h=>
 some (!decide (b=h)))else some false).bind fun i=>
 some (i))).bind fun j=>
 (if j then some true else((idx a.d5 i2).bind fun k=>
 some ((decide (k=2))&&(decide (b=2))))).bind fun l=>
 if l then
 some (.ret 13)
 else
 some (.next ())) 0 (t.d5.length:Int) ()) (fun _=>
 some 0) (fun v2=>some v2)) (fun v0=>some v0)
def IS(a:em):K1:=
 some ((((((decide ((Al ((Al ((a.f0.ff.length:Int)+(a.ek.ff.length:Int)))+(a.f0.l4.length:Int)))=0))&&(decide (a.f0.gn=0)))&&a.le)&&(decide (a.ea.l3=1)))&&(decide ((a.sr.d4.length:Int)=(a.f0.d6.d4.length:Int))))&&(decide ((a.sr.d5.length:Int)=(a.f0.d6.d5.length:Int))))
def IT(t:AC)(g:d6):K1:=
 AM (Ag (ρ:=Bool) (fun(i0:Int)(_:Unit)=>
 AM (Ag (ρ:=Bool) (fun(i2:Int)(_:Unit)=>
 (idx t.d4 i2).bind fun a=>
 (idx g.d4 i0).bind fun b=>
 if (decide (a.r0=b))then
 some (.ret false)
 else
 some (.next ())) 0 (t.d4.length:Int) ()) (fun _=>
 some (.next ())) (fun v2=>some (.ret v2))) 0 (g.d4.length:Int) ()) (fun _=>
 some true) (fun v0=>some v0)
def Mp[Ev](t:AC)(g:d6):K1:=
 AM (Ag (ρ:=Bool) (fun(i0:Int)(_:Unit)=>
 (idx g.d5 i0).bind fun a=>
 (idx g.d4 a.kq).bind fun b=>
 (idx g.d4 a.To).bind fun c=>
 (I0 t a.kg b c).bind fun d=>
 if (!d)then
 some (.ret false)
 else
 some (.next ())) 0 (g.d5.length:Int) ()) (fun _=>
 some true) (fun v0=>some v0)
def LM[Ev](t:AC)(j:Ao)(a:em):QQ:=
 (LK t j).bind fun b=>
 if (!decide (b=0))then
 some b
 else
 (Jc t a).bind fun c=>
 if (!decide (c=0))then
 some c
 else
 (IS a).bind fun d=>
 if (!d)then
 some 8
 else
 (IT t a.f0.d6).bind fun e=>
 (if(!e)then some true else((IT t a.ek.d6).bind fun f=>
 some (!f))).bind fun g=>
 (if g then some true else((Mp t a.f0.d6).bind fun h=>
 some (!h))).bind fun i=>
 if i then
 some 13
 else
 some 0
def Hi(b:Ao)(g:d6)(a:Int):Option Ak:=
 (A9 (fun(i0:Int)(s0:Ak)=>
 (idx g.d4 i0).bind fun c=>
 (idx b.d4 c).bind fun d=>
 if (decide (d=a))then
 (Aj s0.d4 [i0]).bind fun e=>
 some (Ak.mk e s0.d5)
 else
 some s0) 0 (g.d4.length:Int) (Ak.mk [] [])).bind fun s0=>
 (A9 (fun(i2:Int)(s2:Ak)=>
 (idx g.d5 i2).bind fun f=>
 (idx b.d5 f.kg).bind fun h=>
 if (decide (h=a))then
 (Aj s2.d5 [i2]).bind fun i=>
 some (Ak.mk s2.d4 i)
 else
 some s2) 0 (g.d5.length:Int) s0).bind fun s2=>
 some s2
def Eu(l:Fp)(d:Fp):Option Fp:=
 (A9 (fun(i0:Int)(s0:Fp)=>
 (idx l i0).bind fun a=>
 (idx d a).bind fun b=>
 (Aj s0 [b]).bind fun c=>
 some c) 0 (l.length:Int) []).bind fun s0=>
 some s0
def Cl(l:Fp)(n:Int):QQ:=
 AM (Ag (ρ:=Int) (fun(i0:Int)(_:Unit)=>
 (idx l i0).bind fun a=>
 if (decide (a=n))then
 some (.ret i0)
 else
 some (.next ())) 0 (l.length:Int) ()) (fun _=>
 some (-1)) (fun v0=>some v0)
def G2(b:Int)(a:Int):Option Fp:=
 (A9 (fun(i0:Int)(s0:Fp)=>
 (Aj s0 [Al (b+i0)]).bind fun c=>
 some c) 0 a []).bind fun s0=>
 some s0
def LN(g:d6):Option Ak:=
 (G2 0 (g.d4.length:Int)).bind fun b=>
 (G2 0 (g.d5.length:Int)).bind fun a=>
 some (Ak.mk b a)
def Kk(e:em)(a:d6)(b:d6)(c:d7):Option em:=
 (LN a).bind fun d=>
 some (em.mk e.og (ec.mk a [] 0 []) (ec.mk b [] 0 []) d c true (ea.mk 1 [] (d7.mk [] []) (ec.mk (d6.mk [] []) [] 0 [])))
def Kj(g:d6)(p:Ak):Option d6:=
 (A9 (fun(i0:Int)(s0:d6)=>
 (idx p.d4 i0).bind fun b=>
 (idx g.d4 b).bind fun c=>
 (Aj s0.d4 [c]).bind fun d=>
 some (d6.mk d s0.d5)) 0 (p.d4.length:Int) (d6.mk [] [])).bind fun s0=>
 (A9 (fun(i2:Int)(s2:d6)=>
 (idx p.d5 i2).bind fun e=>
 (idx g.d5 e).bind fun a=>
 (Cl p.d4 a.kq).bind fun f=>
 (Cl p.d4 a.To).bind fun h=>
 (Aj s2.d5 [BY.mk a.kg f h]).bind fun i=>
 some (d6.mk s2.d4 i)) 0 (p.d5.length:Int) s0).bind fun s2=>
 some s2
def Mq[Ev](e:Ao)(a:em)(c:Int):Option em:=
 (Hi e a.f0.d6 c).bind fun b=>
 (Hi e a.ek.d6 c).bind fun d=>
 AM (ER (ρ:=em) (fun(s0:d7×Int)=>
 if (decide (s0.2<(b.d4.length:Int)))then
 (idx b.d4 s0.2).bind fun f=>
 (idx a.kl.d4 f).bind fun g=>
 (Cl d.d4 g).bind fun h=>
 (Aj s0.1.d4 [h]).bind fun i=>
 some (.next (d7.mk i s0.1.d5,Al (s0.2+1)))
 else
 some (.brk (s0.1,s0.2))) (d7.mk [] [],0)) (fun s0=>
 AM (ER (ρ:=em) (fun(s2:d7×Int)=>
 if (decide (s2.2<(b.d5.length:Int)))then
 (idx b.d5 s2.2).bind fun j=>
 (idx a.kl.d5 j).bind fun k=>
 (Cl d.d5 k).bind fun l=>
 (Aj s2.1.d5 [l]).bind fun m=>
 some (.next (d7.mk s2.1.d4 m,Al (s2.2+1)))
 else
 some (.brk (s2.1,s2.2))) (s0.1,0)) (fun s2=>
 (Kj a.f0.d6 b).bind fun n=>
 (Kj a.ek.d6 d).bind fun o=>
 (Kk a n o s2.1).bind fun p=>
 some p) (fun v2=>some v2)) (fun v0=>some v0)
def F4[Ev](o:Ao)(a:em)(c:Bool)(d:Bool):Option (em×Ak):=
 (Dx a.f0.d6).bind fun p=>
 (Aj [] a.kl.d4).bind fun q=>
 (Aj [] a.kl.d5).bind fun r=>
 AM (ER (ρ:=(em×Ak)) (fun(s0:d6×d7×Ak×Int)=>
 if (decide (s0.2.2.2<(a.ek.d6.d4.length:Int)))then
 (idx a.ek.d6.d4 s0.2.2.2).bind fun s=>
 (idx o.d4 s).bind fun f=>
 (Cl a.kl.d4 s0.2.2.2).bind fun t=>
 if ((decide (t<0))&&(((decide (f=1))&&c)||((decide (f=3))&&d)))then
 (Aj s0.2.2.1.d4 [(s0.1.d4.length:Int)]).bind fun u=>
 (idx a.ek.d6.d4 s0.2.2.2).bind fun v=>
 (Aj s0.1.d4 [v]).bind fun w=>
 (Aj s0.2.1.d4 [s0.2.2.2]).bind fun x=>
 some (.next (d6.mk w s0.1.d5,d7.mk x s0.2.1.d5,Ak.mk u s0.2.2.1.d5,Al (s0.2.2.2+1)))
 else
 some (.next (s0.1,s0.2.1,s0.2.2.1,Al (s0.2.2.2+1)))
 else
 some (.brk (s0.1,s0.2.1,s0.2.2.1,s0.2.2.2))) (p,d7.mk q r,Ak.mk [] [],0)) (fun s0=>
 AM (ER (ρ:=(em×Ak)) (fun(s2:d6×d7×Ak×Int)=>
 if (decide (s2.2.2.2<(a.ek.d6.d5.length:Int)))then
 (idx a.ek.d6.d5 s2.2.2.2).bind fun b=>
 (idx o.d5 b.kg).bind fun e=>
 (Cl a.kl.d5 s2.2.2.2).bind fun g=>
 if ((decide (g<0))&&(((decide (e=1))&&c)||((decide (e=3))&&d)))then
 (Aj s2.2.2.1.d5 [(s2.1.d5.length:Int)]).bind fun h=>
 (Cl s2.2.1.d4 b.kq).bind fun i=>
 (Cl s2.2.1.d4 b.To).bind fun j=>
 (Aj s2.1.d5 [BY.mk b.kg i j]).bind fun k=>
 (Aj s2.2.1.d5 [s2.2.2.2]).bind fun l=>
 some (.next (d6.mk s2.1.d4 k,d7.mk s2.2.1.d4 l,Ak.mk s2.2.2.1.d4 h,Al (s2.2.2.2+1)))
 else
 some (.next (s2.1,s2.2.1,s2.2.2.1,Al (s2.2.2.2+1)))
 else
 some (.brk (s2.1,s2.2.1,s2.2.2.1,s2.2.2.2))) (s0.1,s0.2.1,s0.2.2.1,0)) (fun s2=>
 (Dx a.ek.d6).bind fun m=>
 (Kk a s2.1 m s2.2.1).bind fun n=>
 some (n,s2.2.2.1)) (fun v2=>some v2)) (fun v0=>some v0)
def LL[Ev](t:AC)(e:Ao)(b:Ai):Option (Ai×Ai×Int):=
 (LM t e b.em).bind fun f=>
 if (!decide (f=0))then
 some (CX,CX,f)
 else
 (LJ t b).bind fun r=>
 if (!r)then
 some (CX,CX,1)
 else
 (Hi e b.em.f0.d6 1).bind fun g=>
 (Eu g.d4 b.kp.d7.d4).bind fun s=>
 (Eu g.d5 b.kp.d7.d5).bind fun u=>
 (Mq e b.em 1).bind fun v=>
 (H2 t v b.o3 (AJ.mk (d7.mk s u) [])).bind fun a=>
 if (!decide (a.2=0))then
 some (CX,CX,a.2)
 else
 (Hi e b.em.ek.d6 1).bind fun h=>
 (F4 e b.em true false).bind fun c=>
 (Eu b.kp.d7.d4 a.1.tc.d4).bind fun w=>
 (Eu b.kp.d7.d5 a.1.tc.d5).bind fun i=>
 AM (ER (ρ:=(Ai×Ai×Int)) (fun(s0:AJ×Int)=>
 if (decide (s0.2<(c.1.f0.d6.d4.length:Int)))then
 (idx c.1.kl.d4 s0.2).bind fun j=>
 (Cl h.d4 j).bind fun k=>
 (idx a.1.pq.d4 k).bind fun l=>
 (Aj s0.1.d7.d4 [l]).bind fun m=>
 some (.next (AJ.mk (d7.mk m s0.1.d7.d5) s0.1.gn,Al (s0.2+1)))
 else
 some (.brk (s0.1,s0.2))) (AJ.mk (d7.mk w i) [],(b.em.f0.d6.d4.length:Int))) (fun s0=>
 AM (ER (ρ:=(Ai×Ai×Int)) (fun(s2:AJ×Int)=>
 if (decide (s2.2<(c.1.f0.d6.d5.length:Int)))then
 (idx c.1.kl.d5 s2.2).bind fun n=>
 (Cl h.d5 n).bind fun o=>
 (idx a.1.pq.d5 o).bind fun p=>
 (Aj s2.1.d7.d5 [p]).bind fun q=>
 some (.next (AJ.mk (d7.mk s2.1.d7.d4 q) s2.1.gn,Al (s2.2+1)))
 else
 some (.brk (s2.1,s2.2))) (s0.1,(b.em.f0.d6.d5.length:Int))) (fun s2=>
 (H2 t c.1 a.1.q0 s2.1).bind fun d=>
 if (!decide (d.2=0))then
 some (CX,CX,d.2)
 else
 some (a.1,d.1,0)) (fun v2=>some v2)) (fun v0=>some v0)
def Fc[Ev](c:Ou)(n:Ai):K1:=
 (JW).bind fun d=>
 (if(!d)then some true else((QO c.S).bind fun e=>
 some (!e))).bind fun f=>
 (if f then some true else((Hh c.T n).bind fun g=>
 some (!g))).bind fun h=>
 if h then
 (JW).bind fun i=>
 some i
 else
 (Gm c.T c.S n).bind fun a=>
 (LL c.T c.S n).bind fun b=>
 (if(decide (a.2.2=b.2.2))then((I3 a.1 b.1).bind fun j=>
 some (j))else some false).bind fun k=>
 (if k then((I3 a.2.1 b.2.1).bind fun l=>
 some (l))else some false).bind fun m=>
 some m
end
end Go.Sf.Sc
